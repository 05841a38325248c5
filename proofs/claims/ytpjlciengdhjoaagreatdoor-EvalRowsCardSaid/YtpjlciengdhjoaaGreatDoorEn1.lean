/-
 A layer over the walk's 'Code.wp', second form: data by types of one's own (Sig), symbolic values and blocks by name, what a state is (G), what is still to be done (It), and that it goes through (VC). This text: definitions and the laws of memory.
-/
import Derived.WalkKit
import Derived.WalkSpells
import Derived.WalkLawsBesides
import Derived.ScopeJumps
import Derived.Deep.QuietTactic
import Derived.LoopN
namespace Go.En
abbrev ac := @Nat.eq_of_beq_eq_true
abbrev am := @Option.some.injEq
abbrev bi := @Prod.mk.injEq
abbrev bv := @decide_eq_true
abbrev ce := @decide_eq_false
abbrev co := @List.getElem?_eq_getElem
abbrev dg := @Nat.lt_of_lt_of_le
abbrev dk := @Nat.le_of_ble_eq_true
abbrev dl := @Bool.and_eq_true
abbrev jp := @List.eq_nil_of_length_eq_zero
abbrev kw := @List.getElem?_append_right
abbrev el := @List.getElem?_append_left
abbrev lc := @List.getD_eq_getElem?_getD
abbrev lm := @Array.getD_eq_getD_getElem?
abbrev lw := @Nat.lt_succ_self
abbrev mt := @List.mem_cons_of_mem
abbrev gc := @List.mem_of_getElem?
abbrev ge := @Array.getElem?_setIfInBounds
abbrev ol := @List.getElem?_take
abbrev ii := @decide_eq_true_eq
abbrev io := @Bool.or_eq_true
abbrev ip := @of_decide_eq_true
open Go.RowKit
inductive Fd where
 | int (k:IntKind)
 | bool
 | str
 | sl (σ:Nat)
 | ow (σ E:Nat)
inductive FC (T:Nat->Type) where
 | int (k:IntKind) (n:Int)
 | bool (b:Bool)
 | str (s:List UInt8)
 | sl (σ:Nat) (l:List (T σ))
 | ow (σ E:Nat) (l:List (T σ))
abbrev Fd.T (T:Nat->Type):Fd->Type
 | .int _=>Int
 | .bool=>Bool
 | .str=>List UInt8
 | .sl σ=>List (T σ)
 | .ow σ _=>List (T σ)
abbrev Ps (T:Nat->Type):List Fd->Type
 | []=>Unit
 | f::r=>f.T T×Ps T r
def Fd.fc {T:Nat->Type}:(f:Fd)->f.T T->FC T
 | .int k,n=>.int k n
 | .bool,b=>.bool b
 | .str,s=>.str s
 | .sl σ,l=>.sl σ l
 | .ow σ E,l=>.ow σ E l
def EG {T:Nat->Type}:(fs:List Fd)->Ps T fs->List (FC T)
 | [],_=>[]
 | f::r,p=>f.fc p.1::EG r p.2
theorem JK {T:Nat->Type}: ∀ (fs:List Fd) (p:Ps T fs),(EG fs p).length=fs.length
 | [],_=>rfl
 | _::r,p=>by simp [EG,JK r p.2]
def Mm (L:World->Prop) (D:Nat->Prop) (w:World):Prop:= ∃ W0:World,L W0/\ ∀ k,k<W0.heap.size->D k/\w.heap[k]?=W0.heap[k]?
theorem Mm.B4 {L:World->Prop} {D D':Nat->Prop} {w w':World} (h:Mm L D w) (hw: ∀ k,D k->w'.heap[k]?=w.heap[k]?) (hD: ∀ k,D k->D' k):Mm L D' w':=by
 obtain ⟨W0,h1,h2⟩:=h
 exact ⟨W0,h1,fun k hk=>⟨hD k (h2 k hk).1,(hw k (h2 k hk).1).trans (h2 k hk).2⟩⟩
theorem Mm.first {L:World->Prop} {w:World} (h:L w):Mm L (· <w.heap.size) w:=⟨w,h,fun _ hk=>⟨hk,rfl⟩⟩
theorem Mm.below {L:World->Prop} {D:Nat->Prop} {w:World} (h:Mm L D w): ∃ W0:World,L W0/\Below W0.heap.size { w with heap:=W0.heap } w:=by
 obtain ⟨W0,h1,h2⟩:=h
 refine ⟨W0,h1,rfl,rfl,rfl,?_,fun k hk=>(h2 k hk).2⟩
 show W0.heap.size<=w.heap.size
 apply Classical.byContradiction
 intro hn
 have h3:=(h2 w.heap.size (by omega)).2
 rw [Array.getElem?_eq_none (Nat.le_refl _),Array.getElem?_eq_getElem (by omega)] at h3
 cases h3
structure As where
 T:Nat->Type
 fds:Nat->List Fd
 to: ∀ τ,T τ->Ps T (fds τ)
 of: ∀ τ,Ps T (fds τ)->T τ
 FF: ∀ τ p,to τ (of τ p)=p
 A4: ∀ τ,T τ
 inv:(Nat->Prop)->World->Prop:=fun _ _=>True
 FZ: ∀ {D D':Nat->Prop} {w w':World},inv D w->(∀ k,D k->w'.heap[k]?=w.heap[k]?)->(∀ k,D k->D' k)->inv D' w':=by exact fun _ _ _=>trivial
def As.enc (S:As) (τ:Nat) (x:S.T τ):List (FC S.T):=EG (S.fds τ) (S.to τ x)
def As.sz (S:As) (τ:Nat):Nat:=(S.fds τ).length
def As.flat (S:As) (τ:Nat) (l:List (S.T τ)):List (FC S.T):=l.flatMap (S.enc τ)
theorem As.Ah (S:As) (τ:Nat) (x:S.T τ):(S.enc τ x).length=S.sz τ:=JK _ _
theorem As.Au (S:As) (τ:Nat) (l:List (S.T τ)):(S.flat τ l).length=l.length*S.sz τ:=by
 induction l with
 | nil=>simp [As.flat]
 | cons x r ih=>simp only [As.flat,List.flatMap_cons,List.length_append,S.Ah,List.length_cons,Nat.succ_mul] at ih ⊢; omega
theorem As.Jz (S:As) (τ:Nat): ∀ (l:List (S.T τ)) (j:Nat) (x:S.T τ) (k:Nat) (f:FC S.T),l[j]?=some x->(S.enc τ x)[k]?=some f->(S.flat τ l)[j*S.sz τ+k]?=some f
 | [],j,x,k,f,h,_=>by simp at h
 | y::r,0,x,k,f,h,hk=>by
  simp only [List.getElem?_cons_zero,am] at h;subst h
  have hlt:k<(S.enc τ y).length:=(List.getElem?_eq_some_iff.1 hk).1
  simp only [As.flat,List.flatMap_cons,Nat.zero_mul,Nat.zero_add,el hlt,hk]
 | y::r,j+1,x,k,f,h,hk=>by
  simp only [List.getElem?_cons_succ] at h
  have ih:=S.Jz τ r j x k f h hk
  have e:(j+1)*S.sz τ+k=(S.enc τ y).length+(j*S.sz τ+k):=by rw [S.Ah,Nat.succ_mul];omega
  simp only [As.flat,List.flatMap_cons,e,kw (Nat.le_add_right _ _),Nat.add_sub_cancel_left]
  exact ih
inductive Av (S:As) (w:World) (D:Nat->Prop):FC S.T->Value->Prop where
 | int (k:IntKind) (n:Int):Av S w D (.int k n) (.int k n)
 | bool (b:Bool):Av S w D (.bool b) (.bool b)
 | str (s:List UInt8):Av S w D (.str s) (.string ⟨⟨s⟩⟩)
 | nil (σ:Nat) (a:Option Addr) (c:Nat):Av S w D (.sl σ []) (.slice a 0 c)
 | sl (σ:Nat) (l:List (S.T σ)) (b off c:Nat) (vs:Nat->Value):D b->l.length<=c->(∀ i f,(S.flat σ l)[i]?=some f->w.cell? ⟨b,off+i,none⟩=some (vs i))->(∀ i f,(S.flat σ l)[i]?=some f->Av S w D f (vs i))->
   Av S w D (.sl σ l) (.slice (some ⟨b,off,none⟩) l.length c)
 | ow (σ E:Nat) (l:List (S.T σ)) (a:Option Addr) (c:Nat):Av S w D (.ow σ E l) (.slice a l.length c)
theorem Av.B4 {S:As} {w w':World} {D D':Nat->Prop} (hw: ∀ k,D k->w'.heap[k]?=w.heap[k]?) (hD: ∀ k,D k->D' k) {f:FC S.T} {v:Value} (h:Av S w D f v):Av S w' D' f v:=by
 induction h with
 | int k n=>exact .int k n
 | bool b=>exact .bool b
 | str s=>exact .str s
 | nil σ a c=>exact .nil σ a c
 | ow σ E l a c=>exact .ow σ E l a c
 | sl σ l b off c vs hb hlc hc _ ih=>exact .sl σ l b off c vs (hD b hb) hlc (fun i f hi=>by rw [<-hc i f hi];exact World.cell?_of_block (w:=w) (hw b hb)) ih
def AG (S:As) (w:World) (D:Nat->Prop) (fs:List (FC S.T)) (vs:List Value):Prop:=fs.length=vs.length/\ ∀ (i:Nat) f v,fs[i]?=some f->vs[i]?=some v->Av S w D f v
theorem AG.B4 {S:As} {w w':World} {D D':Nat->Prop} (hw: ∀ k,D k->w'.heap[k]?=w.heap[k]?) (hD: ∀ k,D k->D' k) {fs:List (FC S.T)} {vs:List Value} (h:AG S w D fs vs):AG S w' D' fs vs:=
 ⟨h.1,fun i f v hf hv=>(h.2 i f v hf hv).B4 hw hD⟩
theorem Av.one {S:As} {w:World} {D:Nat->Prop} {f:FC S.T} {v:Value} (h:Av S w D f v):v.oneCell'=true:=by cases h<;>rfl
def Fx (ag:Bool) (xs:List Value):Value:=if ag then .agg xs.toArray else xs.headD (.tuple #[])
structure Nm where
 b:Option Nat
 len:Nat
 cap:Nat
 val:Value
def Nm.AX (n:Nm):Nat:=n.b.getD 0
def Nm.at (n:Nm) (off:Nat):Value:=match n.val with
 | .pointer (some ⟨b,o,none⟩)=>.pointer (some ⟨b,o+off,none⟩)
 | _=>.pointer none
def Nm.sl (n:Nm):Value:=match n.val with
 | .slice a l c=>.slice a l c
 | _=>.slice none 0 0
theorem Nm.Zq (n:Nm):n.sl.oneCell'=true:=by unfold Nm.sl;split<;>rfl
def Nm.mp (n:Nm):Value:=match n.val with
 | .map b=>.map b
 | _=>.map none
theorem Nm.Yp (n:Nm):n.mp.oneCell'=true:=by unfold Nm.mp;split<;>rfl
def Nm.sub (n:Nm) (c:Nat):Option (Nat×Nat):=match n.val with
 | .tuple a=>match a[c]? with
  | some (.slice (some ⟨b,_,_⟩) _ cap)=>some (b,cap)
  | _=>none
 | _=>none
def Nm.hd (n:Nm) (c:Nat):Value:=match n.val with
 | .tuple a=>match a[c]? with
  | some (.slice a l c)=>.slice a l c
  | _=>.slice none 0 0
 | _=>.slice none 0 0
theorem Nm.X2 (n:Nm) (c:Nat):(n.hd c).oneCell'=true:=by
 unfold Nm.hd;split
 ·split<;>rfl
 ·rfl
def A5:Value->Nat
 | .slice (some a) _ _=>a.block
 | _=>0
theorem Nm.fF {n:Nm} {c b o m cap:Nat} {s:Option Nat} (h:n.hd c=.slice (some ⟨b,o,s⟩) m cap):n.sub c=some (b,cap):=by
 unfold Nm.hd at h;unfold Nm.sub
 split at h
 ·rename_i a ha
  split at h
  ·rename_i a' l' c' hc
   cases h
   simp only [hc]
  ·cases h
 ·cases h
def Nm.has (n:Nm) (k:Nat):Prop:=n.b=some k\/ ∃ c cap,n.sub c=some (k,cap)
theorem Nm.E7 {n:Nm} {k:Nat} (h:n.b=some k):n.has k:=.inl h
theorem Nm.FG {n:Nm} {k:Nat} (h: ∀ c,n.sub c=none):n.has k↔n.b=some k:=by
 constructor
 ·rintro (h1|⟨c,cap,h1⟩)
  ·exact h1
  ·rw [h c] at h1;cases h1
 ·exact .inl
theorem Nm.Fe {n:Nm} (hb:n.b=none) (hs: ∀ c,n.sub c=none) (k:Nat):¬ n.has k:=fun h=>by
 rw [Nm.FG hs,hb] at h;cases h
def Nm.dH (n:Nm):Prop:=n.b=none/\ ∀ c,n.sub c=none
theorem Nm.dH.no {n:Nm} (h:n.dH) (k:Nat):¬ n.has k:=Nm.Fe h.1 h.2 k
theorem Nm.PC {l c:Nat} {a:Option Addr} {m d:Nat}:Nm.dH ⟨none,l,c,.slice a m d⟩:=⟨rfl,fun _=>rfl⟩
theorem Nm.BI {b:Option Nat} {l c i:Nat}:(Nm.mk b l c undef).sub i=none:=by simp [Nm.sub,undef]
theorem Nm.at_one (n:Nm) (off:Nat):(n.at off).oneCell'=true:=by unfold Nm.at;split<;>rfl
inductive SV where
 | v (x:Value)
 | b (c:Bool)
 | ptr (i off:Nat)
 | row (i n:Nat)
 | tr (i:Nat)
 | ep (i esz e off:Nat)
 | view (i off len cap:Nat)
 | CC (i:Nat)
 | h (i:Nat)
 | vp (i off:Nat)
 | ap (i n e off:Nat)
 | pr (i z e off:Nat)
 | pp (i z e off y j q:Nat)
 | agg (cs:List SV)
 | Gv (cs:List SV)
 | fn (f:FuncId) (caps:List SV)
 | mk (i e:Nat)
 | hm (i:Nat)
def ez (f:Nat) (l:Array Value):Value:=match Nat.ble 1000000 f with
 | true=>.func (.func (f -1000000)) l #[]
 | false=>.func (.func f) #[] l
theorem Uk (f:Nat) (l:Array Value):(ez f l).oneCell'=true:=by unfold ez;split<;>rfl
theorem Eb {f:Nat} (h:Nat.ble 1000000 f=false) (l:Array Value):ez f l=.func (.func f) #[] l:=by unfold ez;rw [h]
theorem Kl {f:Nat} (h:Nat.ble 1000000 f=true) (l:Array Value):ez f l=.func (.func (f -1000000)) l #[]:=by unfold ez;rw [h]
mutual
def SV.den (β:Nat->Nm):SV->Value
 | .v x=>x
 | .b c=>.bool c
 | .ptr i off=>.pointer (some ⟨(β i).AX,off,none⟩)
 | .row i n=>.slice ((β i).b.map fun b=>⟨b,0,none⟩) n (β i).cap
 | .tr i=>.slice ((β i).b.map fun b=>⟨b,0,none⟩) (β i).len (β i).cap
 | .ep i esz e off=>.pointer (some ⟨(β i).AX,e*esz+off,none⟩)
 | .view i off len cap=>.slice (some ⟨(β i).AX,off,none⟩) len cap
 | .CC i=>.map (some (β i).AX)
 | .h i=>(β i).sl
 | .vp i off=>(β i).at off
 | .ap i _ e off=>.pointer (some ⟨(β i).AX,off+e,none⟩)
 | .pr i z e off=>(β i).hd (e*z+off)
 | .pp i z e off y j q=>.pointer (some ⟨A5 ((β i).hd (e*z+off)),j*y+q,none⟩)
 | .agg cs=>.agg (AD β cs).toArray
 | .Gv cs=>.tuple (AD β cs).toArray
 | .fn f caps=>ez f (AD β caps).toArray
 | .mk i e=>.map (((β i).sub e).map Prod.fst)
 | .hm i=>(β i).mp
def AD (β:Nat->Nm):List SV->List Value
 | []=>[]
 | x::r=>x.den β::AD β r
end
mutual
def SV.on (N:Nat->Prop):SV->Prop
 | .v _=>True
 | .b _=>True
 | .ptr i _=>N i
 | .row i _=>N i
 | .tr i=>N i
 | .ep i _ _ _=>N i
 | .view i _ _ _=>N i
 | .CC i=>N i
 | .h i=>N i
 | .vp i _=>N i
 | .ap i _ _ _=>N i
 | .pr i _ _ _=>N i
 | .pp i _ _ _ _ _ _=>N i
 | .agg cs=>BZ N cs
 | .Gv cs=>BZ N cs
 | .fn _ caps=>BZ N caps
 | .mk i _=>N i
 | .hm i=>N i
def BZ (N:Nat->Prop):List SV->Prop
 | []=>True
 | x::r=>x.on N/\BZ N r
end
theorem Dd (β:Nat->Nm): ∀ l,AD β l=l.map (SV.den β)
 | []=>by simp [AD]
 | x::r=>by simp [AD,Dd β r]
theorem AI (β:Nat->Nm) (l:List SV):(AD β l).length=l.length:=by rw [Dd];simp
theorem CZ (β:Nat->Nm) (l m:List SV):AD β (l++m)=AD β l++AD β m:=by simp [Dd]
theorem CM (β:Nat->Nm) (l:List SV) (j:Nat):(AD β l)[j]?=(l[j]?).map (SV.den β):=by simp [Dd]
mutual
theorem CX {β β':Nat->Nm} {N:Nat->Prop} (h: ∀ i,N i->β i=β' i): ∀ x:SV,x.on N->x.den β=x.den β'
 | .v _,_=>by simp [SV.den]
 | .b _,_=>by simp [SV.den]
 | .ptr i _,hx=>by simp only [SV.on] at hx;simp [SV.den,h i hx]
 | .row i _,hx=>by simp only [SV.on] at hx;simp [SV.den,h i hx]
 | .tr i,hx=>by simp only [SV.on] at hx;simp [SV.den,h i hx]
 | .ep i _ _ _,hx=>by simp only [SV.on] at hx;simp [SV.den,h i hx]
 | .view i _ _ _,hx=>by simp only [SV.on] at hx;simp [SV.den,h i hx]
 | .CC i,hx=>by simp only [SV.on] at hx;simp [SV.den,h i hx]
 | .h i,hx=>by simp only [SV.on] at hx;simp [SV.den,h i hx]
 | .vp i _,hx=>by simp only [SV.on] at hx;simp [SV.den,h i hx]
 | .ap i _ _ _,hx=>by simp only [SV.on] at hx;simp [SV.den,h i hx]
 | .pr i _ _ _,hx=>by simp only [SV.on] at hx;simp [SV.den,h i hx]
 | .pp i _ _ _ _ _ _,hx=>by simp only [SV.on] at hx;simp [SV.den,h i hx]
 | .agg cs,hx=>by simp only [SV.on] at hx;simp only [SV.den];rw [Bf h cs hx]
 | .Gv cs,hx=>by simp only [SV.on] at hx;simp only [SV.den];rw [Bf h cs hx]
 | .fn _ cs,hx=>by simp only [SV.on] at hx;simp only [SV.den];rw [Bf h cs hx]
 | .mk i _,hx=>by simp only [SV.on] at hx;simp [SV.den,h i hx]
 | .hm i,hx=>by simp only [SV.on] at hx;simp [SV.den,h i hx]
theorem Bf {β β':Nat->Nm} {N:Nat->Prop} (h: ∀ i,N i->β i=β' i): ∀ l:List SV,BZ N l->AD β l=AD β' l
 | [],_=>by simp [AD]
 | x::r,hx=>by
  simp only [BZ] at hx
  simp only [AD]
  rw [CX h x hx.1,Bf h r hx.2]
end
mutual
theorem Ao {N N':Nat->Prop} (h: ∀ i,N i->N' i): ∀ {x:SV},x.on N->x.on N'
 | .v _,_=>trivial
 | .b _,_=>trivial
 | .ptr i _,hx=>h i hx
 | .row i _,hx=>h i hx
 | .tr i,hx=>h i hx
 | .ep i _ _ _,hx=>h i hx
 | .view i _ _ _,hx=>h i hx
 | .CC i,hx=>h i hx
 | .h i,hx=>h i hx
 | .vp i _,hx=>h i hx
 | .ap i _ _ _,hx=>h i hx
 | .pr i _ _ _,hx=>h i hx
 | .pp i _ _ _ _ _ _,hx=>h i hx
 | .agg _,hx=>Ce h hx
 | .Gv _,hx=>Ce h hx
 | .fn _ _,hx=>Ce h hx
 | .mk i _,hx=>h i hx
 | .hm i,hx=>h i hx
theorem Ce {N N':Nat->Prop} (h: ∀ i,N i->N' i): ∀ {l:List SV},BZ N l->BZ N' l
 | [],_=>trivial
 | _::_,hx=>⟨Ao h hx.1,Ce h hx.2⟩
end
theorem A0 {N:Nat->Prop}: ∀ {l:List SV},BZ N l↔ ∀ x∈l,x.on N
 | []=>by simp [BZ]
 | x::r=>by simp only [BZ,List.mem_cons,forall_eq_or_imp,<- A0 (l:=r)]
theorem Eh {N:Nat->Prop} {l m:List SV} (h:BZ N l) (h':BZ N m):BZ N (l++m):=A0.2 fun x hx=>(List.mem_append.1 hx).elim (A0.1 h x) (A0.1 h' x)
def lk {α:Type}:List (Nat×α)->Nat->Option α
 | [],_=>none
 | (d,x)::r,t=>match Nat.beq d t with
  | true=>some x
  | false=>lk r t
def pt {α:Type}:List (Nat×α)->Nat->α->List (Nat×α)
 | [],t,x=>[(t,x)]
 | (d,y)::r,t,x=>match Nat.beq d t with
  | true=>(d,x)::r
  | false=>(d,y)::pt r t x
def rm {α:Type}:List (Nat×α)->Nat->List (Nat×α)
 | [],_=>[]
 | (d,y)::r,t=>match Nat.beq d t with
  | true=>rm r t
  | false=>(d,y)::rm r t
theorem IW {α:Type} (d t:Nat) (x y:α):(match Nat.beq d t with|true=>x|false=>y)=if d=t then x else y:=by
 by_cases h:d=t
 ·subst h;simp
 ·cases hb:Nat.beq d t
  ·rw [if_neg h]
  ·exact absurd (ac hb) h
theorem AW {α:Type} (t:Nat):lk ([]:List (Nat×α)) t=none:=rfl
theorem AK {α:Type} (d:Nat) (x:α) (r:List (Nat×α)) (t:Nat):lk ((d,x)::r) t=if d=t then some x else lk r t:=by simp only [lk];exact IW ..
theorem fx {α:Type} (t:Nat) (x:α):pt [] t x=[(t,x)]:=rfl
theorem bh {α:Type} (d:Nat) (y:α) (r:List (Nat×α)) (t:Nat) (x:α):pt ((d,y)::r) t x=if d=t then (d,x)::r else (d,y)::pt r t x:=by simp only [pt];exact IW ..
theorem gN {α:Type} (t:Nat):rm ([]:List (Nat×α)) t=[]:=rfl
theorem bt {α:Type} (d:Nat) (y:α) (r:List (Nat×α)) (t:Nat):rm ((d,y)::r) t=if d=t then rm r t else (d,y)::rm r t:=by simp only [rm];exact IW ..
theorem FB {α:Type} (l:List (Nat×α)) (t u:Nat) (x:α):lk (pt l t x) u=if t=u then some x else lk l u:=by
 induction l with
 | nil=>simp [fx,AW,AK]
 | cons h r ih=>
  obtain ⟨d,y⟩:=h
  simp only [bh]
  by_cases hd:d=t
  ·subst hd;simp only [if_true,AK];by_cases hu:d=u<;>simp [hu]
  ·simp only [if_neg hd,AK,ih]
   by_cases hu:d=u
   ·subst hu;simp [Ne.symm hd]
   ·simp [hu]
theorem Cy {α:Type} (l:List (Nat×α)) (t u:Nat):lk (rm l t) u=if t=u then none else lk l u:=by
 induction l with
 | nil=>simp [gN,AW]
 | cons h r ih=>
  obtain ⟨d,y⟩:=h
  simp only [bt]
  by_cases hd:d=t
  ·subst hd;simp only [if_true,ih,AK];by_cases hu:d=u<;>simp [hu]
  ·simp only [if_neg hd,AK,ih]
   by_cases hu:d=u
   ·subst hu;simp [Ne.symm hd]
   ·simp [hu]
theorem NU {α:Type} (l m:List (Nat×α)) (i:Nat):lk (l++m) i=(lk l i).orElse fun _=>lk m i:=by
 induction l with
 | nil=>simp [AW]
 | cons x r ih=>obtain ⟨d,y⟩:=x;simp only [List.cons_append,AK];split<;>simp [ih]
inductive Own (S:As) where
 | AX (T:TypeId) (cs:List SV)
 | row (T:TypeId) (sz n:Nat) (cs:List SV)
 | tr (τ:Nat) (E:TypeId) (l:List (S.T τ))
 | sl (τ:Nat) (l:List (S.T τ))
 | vu (cs:List SV)
 | obj (p:Obj->Prop)
 | any
 | dp (τ:Nat) (E:TypeId) (l:List (S.T τ))
 | mp (κ:Fd) (τ:Nat) (ag:Bool) (l:List (κ.T S.T×S.T τ))
 | mr (κ:Fd) (τ:Nat) (ag:Bool) (E:TypeId) (ls:List (List (κ.T S.T×S.T τ)))
variable {S:As}
def Own.on (N:Nat->Prop):Own S->Prop
 | .AX _ cs=>BZ N cs
 | .row _ _ _ cs=>BZ N cs
 | .vu cs=>BZ N cs
 | _=>True
theorem Own.Ao {N N':Nat->Prop} (h: ∀ i,N i->N' i) {b:Own S} (hb:b.on N):b.on N':=by
 cases b with
 | AX T cs=>exact Ce h hb
 | row T sz n cs=>exact Ce h hb
 | vu cs=>exact Ce h hb
 | tr=>trivial
 | sl=>trivial
 | obj p=>trivial
 | any=>trivial
 | dp=>trivial
 | mp=>trivial
 | mr=>trivial
structure OZ (S:As) (w:World) (D:Nat->Prop) (n:Nm) (τ:Nat) (l:List (S.T τ)) (vs:List Value):Prop where
 row: ∀ e x off σ E (m:List (S.T σ)),l[e]?=some x->(S.enc τ x)[off]?=some (.ow σ E m)->vs[e*S.sz τ+off]?=some (n.hd (e*S.sz τ+off))/\
  ∃ us,w.ownsRow 0 E (S.sz σ) (n.hd (e*S.sz τ+off)) m.length us/\AG S w D (S.flat σ m) us
 inj: ∀ c d b k k',n.sub c=some (b,k)->n.sub d=some (b,k')->c=d
 ne: ∀ c b k,n.sub c=some (b,k)->n.b≠some b
def DY {T:Nat->Type}:(κ:Fd)->κ.T T->Value
 | .int k,n=>.int k n
 | .str,s=>.string ⟨⟨s⟩⟩
 | _,_=>.tuple #[]
structure LQ (S:As) (w:World) (D:Nat->Prop) (κ:Fd) (τ:Nat) (ag:Bool) (x:κ.T S.T×S.T τ) (e:MapEntry):Prop where
 key:e.key=DY κ x.1
 val: ∃ vs,e.val=Fx ag vs/\AG S w D (S.enc τ x.2) vs
def MapAt (S:As) (w:World) (D:Nat->Prop) (κ:Fd) (τ:Nat) (ag:Bool) (b:Nat) (l:List (κ.T S.T×S.T τ)):Prop:= ∃ es:Array MapEntry,w.heap[b]?=some (.map es es.size)/\es.size=l.length/\ ∀ (j:Nat) (x:κ.T S.T×S.T τ) (e:MapEntry),l[j]?=some x->es[j]?=some e->e.born=j/\LQ S w D κ τ ag x e
structure Sg (S:As) (w:World) (D:Nat->Prop) (n:Nm) (κ:Fd) (τ:Nat) (ag:Bool) (ls:List (List (κ.T S.T×S.T τ))) (vs:List Value):Prop where
 cell: ∀ (e:Nat) (m:List (κ.T S.T×S.T τ)),ls[e]?=some m-> ∃ b c,n.sub e=some (b,c)/\vs[e]?=some (.map (some b))/\MapAt S w D κ τ ag b m
 inj: ∀ c d b k k',n.sub c=some (b,k)->n.sub d=some (b,k')->c=d
 ne: ∀ c b k,n.sub c=some (b,k)->n.b≠some b
def Own.holds (D:Nat->Prop) (β:Nat->Nm) (w:World) (n:Nm):Own S->Prop
 | .AX T cs=> ∃ b,n.b=some b/\w.heap[b]?=some (.cells (AD β cs).toArray T (0,0))
 | .row T sz k cs=>w.ownsRow 0 T sz (.slice (n.b.map fun b=>⟨b,0,none⟩) k n.cap) k (AD β cs)
 | .tr τ E l=>n.len=l.length/\ ∃ vs,w.ownsRow 0 E (S.sz τ) (.slice (n.b.map fun b=>⟨b,0,none⟩) l.length n.cap) l.length vs/\AG S w D (S.flat τ l) vs
 | .sl τ l=>n.dH/\Av S w D (.sl τ l) n.sl
 | .vu cs=>n.b=none/\ ∃ b off,n.val=.pointer (some ⟨b,off,none⟩)/\D b/\ ∀ k v,(AD β cs)[k]?=some v->w.cell? ⟨b,off+k,none⟩=some v
 | .obj p=> ∃ b o,n.b=some b/\w.heap[b]?=some o/\p o
 | .any=>n.dH
 | .dp τ E l=>n.len=l.length/\ ∃ vs,w.ownsRow 0 E (S.sz τ) (.slice (n.b.map fun b=>⟨b,0,none⟩) l.length n.cap) l.length vs/\AG S w D (S.flat τ l) vs/\OZ S w D n τ l vs
 | .mp κ τ ag l=> ∃ b,n.b=some b/\MapAt S w D κ τ ag b l
 | .mr κ τ ag E ls=>n.len=ls.length/\ ∃ vs,w.ownsRow 0 E 1 (.slice (n.b.map fun b=>⟨b,0,none⟩) ls.length n.cap) ls.length vs/\Sg S w D n κ τ ag ls vs
structure St (S:As) where
 t:List (Nat×SV)
 o:List (Nat×Own S)
 n:Nat
 sz:Nat
structure OX (F:Nat->Prop) (w0 w:World):Prop where
 os:w.os=w0.os
 tape:w.tape=w0.tape
 output:w.output=w0.output
 size:w0.heap.size<=w.heap.size
 block: ∀ k,k<w0.heap.size->¬ F k->w.heap[k]?=w0.heap[k]?
theorem OX.refl (F:Nat->Prop) (w:World):OX F w w:=⟨rfl,rfl,rfl,Nat.le_refl _,fun _ _ _=>rfl⟩
theorem OX.trans {F:Nat->Prop} {a b c:World} (h:OX F a b) (k:OX F b c):OX F a c:=
 ⟨k.os.trans h.os,k.tape.trans h.tape,k.output.trans h.output,Nat.le_trans h.size k.size,fun i hi hf=>(k.block i (by have:=h.size;omega) hf).trans (h.block i hi hf)⟩
theorem OX.below {a b:World} (h:OX (fun _=>False) a b):Below a.heap.size a b:=⟨h.os,h.tape,h.output,h.size,fun k hk=>h.block k hk id⟩
theorem OX.Yx {F:Nat->Prop} {a b:World} (h:Below a.heap.size a b):OX F a b:=⟨h.os,h.tape,h.output,h.size,fun k hk _=>h.block k hk⟩
structure GH (w0:World) (F D0 D:Nat->Prop) (o:List (Nat×Own S)) (N:Nat->Prop) (β:Nat->Nm) (w:World):Prop where
 By: ∀ i b,lk o i=some b->N i/\b.on N
 own: ∀ i b,lk o i=some b->b.holds D β w (β i)
 inj: ∀ i j b c k,lk o i=some b->lk o j=some c->(β i).has k->(β j).has k->i=j
 fresh: ∀ i b k,lk o i=some b->(β i).has k->w0.heap.size<=k\/F k
 off: ∀ i b k,lk o i=some b->(β i).has k->¬ D k
 lt: ∀ i b k,lk o i=some b->(β i).has k->k<w.heap.size
 DL: ∀ k,D k->k<w.heap.size
 KZ: ∀ k,D k->D0 k\/F k\/w0.heap.size<=k
 fr:OX F w0 w
 sub: ∀ k,D0 k->D k
def CF (S:As) (w0:World) (F D0:Nat->Prop):Prop:=S.inv D0 w0/\ ∀ k,D0 k->k<w0.heap.size/\¬ F k
theorem GH.inv {w0:World} {F D0 D:Nat->Prop} {o:List (Nat×Own S)} {N:Nat->Prop} {β:Nat->Nm} {w:World} (h:GH w0 F D0 D o N β w) (hk:CF S w0 F D0):S.inv D w:=
 S.FZ hk.1 (fun k hd=>h.fr.block k (hk.2 k hd).1 (hk.2 k hd).2) h.sub
structure G (w0:World) (F D0 D:Nat->Prop) (s:St S) (N:Nat->Prop) (β:Nat->Nm) (a:Act) (w:World):Prop where
 defers:a.defers=[]
 size:a.tmps.size=s.sz
 Gw: ∀ t x,lk s.t t=some x->t<s.sz/\x.on N
 tmps: ∀ t x,lk s.t t=some x->a.tmps.getD t undef=x.den β
 gh:GH w0 F D0 D s.o N β w
theorem DQ {w w':World} {base:Nat} {e:TypeId} {sz n:Nat} {v:Value} {xs:List Value} (h:w.ownsRow base e sz v n xs) (hk: ∀ g,v.ownBlock=some g->w'.heap[g]?=w.heap[g]?):w'.ownsRow base e sz v n xs:=by
 obtain ⟨h1,h2⟩:=h
 refine ⟨h1,?_⟩
 rcases h2 with h2|⟨g,cap,cur,h3,h0,h4,h5⟩
 ·exact .inl h2
 ·exact .inr ⟨g,cap,cur,h3,h0,by rw [hk g (by rw [h3];rfl)];exact h4,h5⟩
theorem Nm.NM {n:Nm} {c g:Nat} (h:(n.hd c).ownBlock=some g): ∃ cap,n.sub c=some (g,cap):=by
 cases hv:n.hd c with
 | slice a m cap=>
  cases a with
  | none=>rw [hv] at h;cases h
  | some a=>
   obtain ⟨b,o,s⟩:=a
   rw [hv] at h
   simp only [Value.ownBlock,am] at h
   subst h
   exact ⟨cap,Nm.fF hv⟩
 | _=>rw [hv] at h;cases h
theorem OZ.B4 {w w':World} {D D':Nat->Prop} {n:Nm} {τ:Nat} {l:List (S.T τ)} {vs:List Value} (h:OZ S w D n τ l vs) (hk: ∀ c k cap,n.sub c=some (k,cap)->w'.heap[k]?=w.heap[k]?) (hD: ∀ k,D k->w'.heap[k]?=w.heap[k]?) (hDD: ∀ k,D k->D' k):OZ S w' D' n τ l vs:=by
 refine ⟨fun e x off σ E m hx ho=>?_,h.inj,h.ne⟩
 obtain ⟨h1,us,h2,h3⟩:=h.row e x off σ E m hx ho
 refine ⟨h1,us,DQ h2 fun g hg=>?_,h3.B4 hD hDD⟩
 obtain ⟨cap,hs⟩:=Nm.NM hg
 exact hk _ g cap hs
theorem LQ.B4 {w w':World} {D D':Nat->Prop} {κ:Fd} {τ:Nat} {ag:Bool} {x:κ.T S.T×S.T τ} {e:MapEntry} (h:LQ S w D κ τ ag x e) (hD: ∀ k,D k->w'.heap[k]?=w.heap[k]?) (hDD: ∀ k,D k->D' k):LQ S w' D' κ τ ag x e:=by
 obtain ⟨h1,vs,h2,h3⟩:=h
 exact ⟨h1,vs,h2,h3.B4 hD hDD⟩
theorem MapAt.B4 {w w':World} {D D':Nat->Prop} {κ:Fd} {τ:Nat} {ag:Bool} {b:Nat} {l:List (κ.T S.T×S.T τ)} (h:MapAt S w D κ τ ag b l) (hb:w'.heap[b]?=w.heap[b]?) (hD: ∀ k,D k->w'.heap[k]?=w.heap[k]?) (hDD: ∀ k,D k->D' k):MapAt S w' D' κ τ ag b l:=by
 obtain ⟨es,h1,h2,h3⟩:=h
 exact ⟨es,hb.trans h1,h2,fun j x e hx he=>⟨(h3 j x e hx he).1,(h3 j x e hx he).2.B4 hD hDD⟩⟩
theorem Sg.B4 {w w':World} {D D':Nat->Prop} {n:Nm} {κ:Fd} {τ:Nat} {ag:Bool} {ls:List (List (κ.T S.T×S.T τ))} {vs:List Value} (h:Sg S w D n κ τ ag ls vs) (hk: ∀ c k cap,n.sub c=some (k,cap)->w'.heap[k]?=w.heap[k]?) (hD: ∀ k,D k->w'.heap[k]?=w.heap[k]?) (hDD: ∀ k,D k->D' k):Sg S w' D' n κ τ ag ls vs:=
 ⟨fun e m he=>let ⟨b,c,h1,h2,h3⟩:=h.cell e m he;⟨b,c,h1,h2,h3.B4 (hk _ _ _ h1) hD hDD⟩,h.inj,h.ne⟩
theorem Own.Dm {D:Nat->Prop} {β:Nat->Nm} {w w':World} {nm:Nm} {b:Own S} (h:b.holds D β w nm) (hk: ∀ k,nm.has k->w'.heap[k]?=w.heap[k]?) (hD: ∀ k,D k->w'.heap[k]?=w.heap[k]?):b.holds D β w' nm:=by
 have hrow: ∀ {e sz n:Nat} {xs:List Value},w.ownsRow 0 e sz (.slice (nm.b.map fun b=>⟨b,0,none⟩) n nm.cap) n xs->w'.ownsRow 0 e sz (.slice (nm.b.map fun b=>⟨b,0,none⟩) n nm.cap) n xs:=by
  rintro e sz n xs ⟨h1,h2⟩
  refine ⟨h1,?_⟩
  rcases h2 with h2|⟨g,cap,cur,h3,h4,h5,h6⟩
  ·exact .inl h2
  ·refine .inr ⟨g,cap,cur,h3,h4,?_,h6⟩
   have:nm.b=some g:=by
    cases hb:nm.b with
    | none=>simp [hb] at h3
    | some k=>simp [hb] at h3;rw [h3.1]
   exact (hk g (.inl this)).trans h5
 cases b with
 | AX T cs=>obtain ⟨k,h1,h2⟩:=h;exact ⟨k,h1,(hk k (.inl h1)).trans h2⟩
 | row T sz n cs=>exact hrow h
 | tr τ E l=>obtain ⟨h0,vs,h1,h2⟩:=h;exact ⟨h0,vs,hrow h1,h2.B4 hD fun _ h=>h⟩
 | sl τ l=>exact ⟨h.1,h.2.B4 hD fun _ h=>h⟩
 | vu cs=>obtain ⟨h1,b,off,h2,h3,h4⟩:=h;exact ⟨h1,b,off,h2,h3,fun k v hv=>by rw [<-h4 k v hv];exact World.cell?_of_block (w:=w) (hD b h3)⟩
 | obj p=>obtain ⟨k,o,h1,h2,h3⟩:=h;exact ⟨k,o,h1,(hk k (.inl h1)).trans h2,h3⟩
 | any=>exact h
 | dp τ E l=>obtain ⟨h0,vs,h1,h2,h3⟩:=h;exact ⟨h0,vs,hrow h1,h2.B4 hD fun _ h=>h,h3.B4 (fun c k cap hs=>hk k (.inr ⟨c,cap,hs⟩)) hD fun _ h=>h⟩
 | mp κ τ ag l=>obtain ⟨k,h1,h2⟩:=h;exact ⟨k,h1,h2.B4 (hk k (.inl h1)) hD fun _ h=>h⟩
 | mr κ τ ag E ls=>obtain ⟨h0,vs,h1,h2⟩:=h;exact ⟨h0,vs,hrow h1,h2.B4 (fun c k cap hs=>hk k (.inr ⟨c,cap,hs⟩)) hD fun _ h=>h⟩
theorem Own.CB {D D':Nat->Prop} {β:Nat->Nm} {w:World} {nm:Nm} {b:Own S} (h:b.holds D β w nm) (hD: ∀ k,D k->D' k):b.holds D' β w nm:=by
 cases b with
 | AX T cs=>exact h
 | row T sz n cs=>exact h
 | tr τ E l=>obtain ⟨h0,vs,h1,h2⟩:=h;exact ⟨h0,vs,h1,h2.B4 (fun _ _=>rfl) hD⟩
 | sl τ l=>exact ⟨h.1,h.2.B4 (fun _ _=>rfl) hD⟩
 | vu cs=>obtain ⟨h1,b,off,h2,h3,h4⟩:=h;exact ⟨h1,b,off,h2,hD b h3,h4⟩
 | obj p=>exact h
 | any=>exact h
 | dp τ E l=>obtain ⟨h0,vs,h1,h2,h3⟩:=h;exact ⟨h0,vs,h1,h2.B4 (fun _ _=>rfl) hD,h3.B4 (fun _ _ _ _=>rfl) (fun _ _=>rfl) hD⟩
 | mp κ τ ag l=>obtain ⟨k,h1,h2⟩:=h;exact ⟨k,h1,h2.B4 rfl (fun _ _=>rfl) hD⟩
 | mr κ τ ag E ls=>obtain ⟨h0,vs,h1,h2⟩:=h;exact ⟨h0,vs,h1,h2.B4 (fun _ _ _ _=>rfl) (fun _ _=>rfl) hD⟩
theorem Own.Du {D:Nat->Prop} {β β':Nat->Nm} {w:World} {N:Nat->Prop} {nm:Nm} {b:Own S} (hβ: ∀ i,N i->β i=β' i) (hn:b.on N) (h:b.holds D β w nm):b.holds D β' w nm:=by
 cases b with
 | AX T cs=>simp only [Own.on] at hn;simpa only [Own.holds,Bf hβ cs hn] using h
 | row T sz k cs=>simp only [Own.on] at hn;simpa only [Own.holds,Bf hβ cs hn] using h
 | vu cs=>simp only [Own.on] at hn;simpa only [Own.holds,Bf hβ cs hn] using h
 | tr=>exact h
 | sl=>exact h
 | obj p=>exact h
 | any=>exact h
 | dp=>exact h
 | mp=>exact h
 | mr=>exact h
section
variable {w0:World} {F D0 D:Nat->Prop} {o:List (Nat×Own S)} {N:Nat->Prop} {β:Nat->Nm} {w:World}
theorem GH.congr (h:GH w0 F D0 D o N β w) {β':Nat->Nm} (hβ: ∀ i,N i->β i=β' i):GH w0 F D0 D o N β' w:=by
 have hk: ∀ i b,lk o i=some b->β i=β' i:=fun i b hi=>hβ i (h.By i b hi).1
 refine ⟨h.By,fun i b hi=>?_,fun i j b c k hi hj h1 h2=>?_,fun i b k hi h1=>?_,fun i b k hi h1=>?_,fun i b k hi h1=>?_,h.DL,h.KZ,h.fr,h.sub⟩
 ·rw [<-hk i b hi];exact Own.Du hβ (h.By i b hi).2 (h.own i b hi)
 ·rw [<-hk i b hi] at h1;rw [<-hk j c hj] at h2;exact h.inj i j b c k hi hj h1 h2
 ·rw [<-hk i b hi] at h1;exact h.fresh i b k hi h1
 ·rw [<-hk i b hi] at h1;exact h.off i b k hi h1
 ·rw [<-hk i b hi] at h1;exact h.lt i b k hi h1
theorem GH.mono (h:GH w0 F D0 D o N β w) {N':Nat->Prop} (hN: ∀ i,N i->N' i):GH w0 F D0 D o N' β w:=
 ⟨fun i b hi=>⟨hN i (h.By i b hi).1,Own.Ao hN (h.By i b hi).2⟩,h.own,h.inj,h.fresh,h.off,h.lt,h.DL,h.KZ,h.fr,h.sub⟩
theorem GH.Hh (h:GH w0 F D0 D o N β w) {o':List (Nat×Own S)} (hs: ∀ i b,lk o' i=some b->lk o i=some b):GH w0 F D0 D o' N β w:=
 ⟨fun i b hi=>h.By i b (hs i b hi),fun i b hi=>h.own i b (hs i b hi),fun i j b c k hi hj=>h.inj i j b c k (hs i b hi) (hs j c hj),fun i b k hi=>h.fresh i b k (hs i b hi),fun i b k hi=>h.off i b k (hs i b hi),fun i b k hi=>h.lt i b k (hs i b hi),h.DL,h.KZ,h.fr,h.sub⟩
theorem GH.step (h:GH w0 F D0 D o N β w) {w':World} (hb:Below w.heap.size w w'):GH w0 F D0 D o N β w':=by
 refine ⟨h.By,fun i b hi=>?_,h.inj,h.fresh,h.off,fun i b k hi hk=>dg (h.lt i b k hi hk) hb.size,fun k hk=>dg (h.DL k hk) hb.size,h.KZ,h.fr.trans (OX.Yx ⟨hb.os,hb.tape,hb.output,hb.size,fun k hk=>hb.block k hk⟩),h.sub⟩
 exact Own.Dm (h.own i b hi) (fun k hk=>hb.block k (h.lt i b k hi hk)) fun k hk=>hb.block k (h.DL k hk)
theorem GH.name (h:GH w0 F D0 D o N β w) {b:Own S} {nm:Nm} {n:Nat} (hN:¬ N n) (hn:b.on N) (hh: ∀ β':Nat->Nm,(∀ i,N i->β i=β' i)->β' n=nm->b.holds D β' w nm)
  (hfr: ∀ k,nm.has k->w0.heap.size<=k\/F k) (hoff: ∀ k,nm.has k->¬ D k) (hne: ∀ i c k,lk o i=some c->(β i).has k->¬ nm.has k) (hlt: ∀ k,nm.has k->k<w.heap.size):
  ∃ β',(∀ i,N i->β i=β' i)/\β' n=nm/\GH w0 F D0 D ((n,b)::o) (fun i=>N i\/i=n) β' w:=by
 let β':Nat->Nm:=fun i=>if i=n then nm else β i
 have hβ: ∀ i,N i->β i=β' i:=fun i hi=>by simp only [β'];rw [if_neg (fun e:i=n=>hN (by subst e;exact hi))]
 have hβn:β' n=nm:=by simp [β']
 have h':=h.congr hβ
 refine ⟨β',hβ,hβn,?_⟩
 refine ⟨fun i c hi=>?_,fun i c hi=>?_,fun i j c d k hi hj h1 h2=>?_,fun i c k hi h1=>?_,fun i c k hi h1=>?_,fun i c k hi h1=>?_,h.DL,h.KZ,h.fr,h.sub⟩
 all_goals simp only [AK] at hi
 ·split at hi
  ·rename_i he;simp only [am] at hi;subst hi;subst he;exact ⟨.inr rfl,Own.Ao (fun _ h=>.inl h) hn⟩
  ·have:=h.By i c hi;exact ⟨.inl this.1,Own.Ao (fun _ h=>.inl h) this.2⟩
 ·split at hi
  ·rename_i he;simp only [am] at hi;subst hi;subst he;rw [hβn];exact hh β' hβ hβn
  ·exact h'.own i c hi
 ·simp only [AK] at hj
  split at hi<;>split at hj
  ·omega
  ·rename_i he _;subst he;rw [hβn] at h1;rw [<-hβ j (h.By j d hj).1] at h2;exact absurd h1 (hne j d k hj h2)
  ·rename_i _ he;subst he;rw [hβn] at h2;rw [<-hβ i (h.By i c hi).1] at h1;exact absurd h2 (hne i c k hi h1)
  ·exact h'.inj i j c d k hi hj h1 h2
 ·split at hi
  ·rename_i he;subst he;rw [hβn] at h1;exact hfr k h1
  ·exact h'.fresh i c k hi h1
 ·split at hi
  ·rename_i he;subst he;rw [hβn] at h1;exact hoff k h1
  ·exact h'.off i c k hi h1
 ·split at hi
  ·rename_i he;subst he;rw [hβn] at h1;exact hlt k h1
  ·exact h'.lt i c k hi h1
theorem GH.alloc (h:GH w0 F D0 D o N β w) {b:Own S} {ob:Obj} {len cap n:Nat} (hN:¬ N n) (hn:b.on N)
  (hh: ∀ β':Nat->Nm,(∀ i,N i->β i=β' i)->β' n=⟨some w.heap.size,len,cap,undef⟩->b.holds D β' (w.alloc ob) ⟨some w.heap.size,len,cap,undef⟩):
  ∃ β',(∀ i,N i->β i=β' i)/\β' n=⟨some w.heap.size,len,cap,undef⟩/\GH w0 F D0 D ((n,b)::o) (fun i=>N i\/i=n) β' (w.alloc ob):=by
 have hs:GH w0 F D0 D o N β (w.alloc ob):=h.step ((Below.refl _ _).alloc (Nat.le_refl _) _)
 have hme: ∀ k,Nm.has ⟨some w.heap.size,len,cap,undef⟩ k->k=w.heap.size:=fun k hk=>by
  rw [Nm.FG fun _=>Nm.BI] at hk
  simp only [am] at hk;exact hk.symm
 refine hs.name hN hn hh (fun k hk=>?_) (fun k hk hD=>?_) (fun i c k hi hk he=>?_) (fun k hk=>?_)
 ·rw [hme k hk];exact .inl h.fr.size
 ·rw [hme k hk] at hD;have:=h.DL _ hD;omega
 ·rw [hme k he] at hk;have:=h.lt i c _ hi hk;omega
 ·rw [hme k hk];show w.heap.size<(w.heap.push ob).size;rw [Array.size_push];exact lw _
theorem DG (n:Nat):(fun i=>i<n\/i=n)=(fun i=>i<n+1):=by funext i;simp only [eq_iff_iff];omega
theorem GH.LL (h:GH w0 F D0 D o N β w) {i:Nat} {b c:Own S} {k:Nat} {w':World} (hi:lk o i=some b) (hk:(β i).has k) (hc:c.on N)
  (hos:w'.os=w.os) (htp:w'.tape=w.tape) (hou:w'.output=w.output) (hsz:w.heap.size<=w'.heap.size) (hbl: ∀ j,j<w.heap.size->j≠k->w'.heap[j]?=w.heap[j]?) (hh:c.holds D β w' (β i)):GH w0 F D0 D (pt o i c) N β w':=by
 have hlt:=h.lt i b k hi hk
 have hD: ∀ m,D m->w'.heap[m]?=w.heap[m]?:=fun m hm=>hbl m (h.DL m hm) fun e=>by subst e;exact h.off i b _ hi hk hm
 refine ⟨fun j d hj=>?_,fun j d hj=>?_,fun j l d e m hj hl h1 h2=>?_,fun j d m hj h1=>?_,fun j d m hj h1=>?_,fun j d m hj h1=>?_,fun m hm=>dg (h.DL m hm) hsz,h.KZ,?_,h.sub⟩
 ·simp only [FB] at hj
  split at hj
  ·rename_i he;simp only [am] at hj;subst hj;subst he;exact ⟨(h.By _ _ hi).1,hc⟩
  ·exact h.By j d hj
 ·simp only [FB] at hj
  split at hj
  ·rename_i he;simp only [am] at hj;subst hj;subst he;exact hh
  ·rename_i he
   refine Own.Dm (h.own j d hj) (fun m hm=>hbl m (h.lt j d m hj hm) fun e=>?_) hD
   subst e
   exact he (h.inj i j b d m hi hj hk hm)
 ·have aux: ∀ j d,lk (pt o i c) j=some d-> ∃ d',lk o j=some d':=fun j d hj=>by
   simp only [FB] at hj
   split at hj
   ·rename_i he;subst he;exact ⟨b,hi⟩
   ·exact ⟨d,hj⟩
  obtain ⟨d',hd'⟩:=aux j d hj
  obtain ⟨e',he'⟩:=aux l e hl
  exact h.inj j l d' e' m hd' he' h1 h2
 ·simp only [FB] at hj
  split at hj
  ·rename_i he;subst he;exact h.fresh i b m hi h1
  ·exact h.fresh j d m hj h1
 ·simp only [FB] at hj
  split at hj
  ·rename_i he;subst he;exact h.off i b m hi h1
  ·exact h.off j d m hj h1
 ·simp only [FB] at hj
  split at hj
  ·rename_i he;subst he;exact dg (h.lt i b m hi h1) hsz
  ·exact dg (h.lt j d m hj h1) hsz
 ·refine ⟨hos.trans h.fr.os,htp.trans h.fr.tape,hou.trans h.fr.output,Nat.le_trans h.fr.size hsz,fun j hj hf=>(hbl j (dg hj h.fr.size) fun e=>?_).trans (h.fr.block j hj hf)⟩
  subst e
  rcases h.fresh i b j hi hk with h1|h1
  ·omega
  ·exact hf h1
end
end Go.En
