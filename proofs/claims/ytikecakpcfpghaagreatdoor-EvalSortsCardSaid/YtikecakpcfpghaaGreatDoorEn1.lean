/-
 A layer over the walk's 'Code.wp', second form: data by types of one's own (Sig), symbolic values and blocks by name, what a state is (G), what is still to be done (It), and that it goes through (VC). This text: definitions and the laws of memory.
-/
import Derived.WalkKit
import Derived.WalkSpells
import Derived.WalkLawsBesides
import Derived.ScopeJumps
import Derived.Deep.QuietTactic
import Derived.LoopN
namespace Go.En
open Go.RowKit
inductive Fd where
 | int (k:IntKind)
 | bool
 | str
 | sl (σ:Nat)
 | ow (σ E:Nat)
inductive FC (T:Nat->Type) where
 | int (k:IntKind) (n:Int)
 | bool (b:Bool)
 | str (s:List UInt8)
 | sl (σ:Nat) (l:List (T σ))
 | ow (σ E:Nat) (l:List (T σ))
abbrev Fd.T (T:Nat->Type):Fd->Type
 | .int _=>Int
 | .bool=>Bool
 | .str=>List UInt8
 | .sl σ=>List (T σ)
 | .ow σ _=>List (T σ)
abbrev Ps (T:Nat->Type):List Fd->Type
 | []=>Unit
 | f::r=>f.T T×Ps T r
def Fd.fc {T:Nat->Type}:(f:Fd)->f.T T->FC T
 | .int k,n=>.int k n
 | .bool,b=>.bool b
 | .str,s=>.str s
 | .sl σ,l=>.sl σ l
 | .ow σ E,l=>.ow σ E l
def Dz {T:Nat->Type}:(fs:List Fd)->Ps T fs->List (FC T)
 | [],_=>[]
 | f::r,p=>f.fc p.1::Dz r p.2
theorem Iz {T:Nat->Type}: ∀ (fs:List Fd) (p:Ps T fs),(Dz fs p).length=fs.length
 | [],_=>rfl
 | _::r,p=>by simp [Dz,Iz r p.2]
def MP (L:World->Prop) (D:Nat->Prop) (w:World):Prop:= ∃ W0:World,L W0/\ ∀ k,k<W0.heap.size->D k/\w.heap[k]?=W0.heap[k]?
theorem MP.Bo {L:World->Prop} {D D':Nat->Prop} {w w':World} (h:MP L D w) (hw: ∀ k,D k->w'.heap[k]?=w.heap[k]?) (hD: ∀ k,D k->D' k):MP L D' w':=by
 obtain ⟨W0,h1,h2⟩:=h
 exact ⟨W0,h1,fun k hk=>⟨hD k (h2 k hk).1,(hw k (h2 k hk).1).trans (h2 k hk).2⟩⟩
theorem MP.first {L:World->Prop} {w:World} (h:L w):MP L (· <w.heap.size) w:=⟨w,h,fun _ hk=>⟨hk,rfl⟩⟩
theorem MP.below {L:World->Prop} {D:Nat->Prop} {w:World} (h:MP L D w): ∃ W0:World,L W0/\Below W0.heap.size { w with heap:=W0.heap } w:=by
 obtain ⟨W0,h1,h2⟩:=h
 refine ⟨W0,h1,rfl,rfl,rfl,?_,fun k hk=>(h2 k hk).2⟩
 show W0.heap.size<=w.heap.size
 apply Classical.byContradiction
 intro hn
 have h3:=(h2 w.heap.size (by omega)).2
 rw [Array.getElem?_eq_none (Nat.le_refl _),Array.getElem?_eq_getElem (by omega)] at h3
 cases h3
structure Aq where
 T:Nat->Type
 fds:Nat->List Fd
 to: ∀ τ,T τ->Ps T (fds τ)
 of: ∀ τ,Ps T (fds τ)->T τ
 E4: ∀ τ p,to τ (of τ p)=p
 A5: ∀ τ,T τ
 inv:(Nat->Prop)->World->Prop:=fun _ _=>True
 FQ: ∀ {D D':Nat->Prop} {w w':World},inv D w->(∀ k,D k->w'.heap[k]?=w.heap[k]?)->(∀ k,D k->D' k)->inv D' w':=by exact fun _ _ _=>trivial
def Aq.enc (S:Aq) (τ:Nat) (x:S.T τ):List (FC S.T):=Dz (S.fds τ) (S.to τ x)
def Aq.sz (S:Aq) (τ:Nat):Nat:=(S.fds τ).length
def Aq.flat (S:Aq) (τ:Nat) (l:List (S.T τ)):List (FC S.T):=l.flatMap (S.enc τ)
theorem Aq.Aa (S:Aq) (τ:Nat) (x:S.T τ):(S.enc τ x).length=S.sz τ:=Iz _ _
theorem Aq.At (S:Aq) (τ:Nat) (l:List (S.T τ)):(S.flat τ l).length=l.length*S.sz τ:=by
 induction l with
 | nil=>simp [Aq.flat]
 | cons x r ih=>simp only [Aq.flat,List.flatMap_cons,List.length_append,S.Aa,List.length_cons,Nat.succ_mul] at ih ⊢; omega
theorem Aq.Jd (S:Aq) (τ:Nat): ∀ (l:List (S.T τ)) (j:Nat) (x:S.T τ) (k:Nat) (f:FC S.T),l[j]?=some x->(S.enc τ x)[k]?=some f->(S.flat τ l)[j*S.sz τ+k]?=some f
 | [],j,x,k,f,h,_=>by simp at h
 | y::r,0,x,k,f,h,hk=>by
  simp only [List.getElem?_cons_zero,Option.some.injEq] at h;subst h
  have hlt:k<(S.enc τ y).length:=(List.getElem?_eq_some_iff.1 hk).1
  simp only [Aq.flat,List.flatMap_cons,Nat.zero_mul,Nat.zero_add,List.getElem?_append_left hlt,hk]
 | y::r,j+1,x,k,f,h,hk=>by
  simp only [List.getElem?_cons_succ] at h
  have ih:=S.Jd τ r j x k f h hk
  have e:(j+1)*S.sz τ+k=(S.enc τ y).length+(j*S.sz τ+k):=by rw [S.Aa,Nat.succ_mul];omega
  simp only [Aq.flat,List.flatMap_cons,e,List.getElem?_append_right (Nat.le_add_right _ _),Nat.add_sub_cancel_left]
  exact ih
inductive Au (S:Aq) (w:World) (D:Nat->Prop):FC S.T->Value->Prop where
 | int (k:IntKind) (n:Int):Au S w D (.int k n) (.int k n)
 | bool (b:Bool):Au S w D (.bool b) (.bool b)
 | str (s:List UInt8):Au S w D (.str s) (.string ⟨⟨s⟩⟩)
 | nil (σ:Nat) (a:Option Addr) (c:Nat):Au S w D (.sl σ []) (.slice a 0 c)
 | sl (σ:Nat) (l:List (S.T σ)) (b off c:Nat) (vs:Nat->Value):D b->l.length<=c->(∀ i f,(S.flat σ l)[i]?=some f->w.cell? ⟨b,off+i,none⟩=some (vs i))->(∀ i f,(S.flat σ l)[i]?=some f->Au S w D f (vs i))->
   Au S w D (.sl σ l) (.slice (some ⟨b,off,none⟩) l.length c)
 | ow (σ E:Nat) (l:List (S.T σ)) (a:Option Addr) (c:Nat):Au S w D (.ow σ E l) (.slice a l.length c)
theorem Au.Bo {S:Aq} {w w':World} {D D':Nat->Prop} (hw: ∀ k,D k->w'.heap[k]?=w.heap[k]?) (hD: ∀ k,D k->D' k) {f:FC S.T} {v:Value} (h:Au S w D f v):Au S w' D' f v:=by
 induction h with
 | int k n=>exact .int k n
 | bool b=>exact .bool b
 | str s=>exact .str s
 | nil σ a c=>exact .nil σ a c
 | ow σ E l a c=>exact .ow σ E l a c
 | sl σ l b off c vs hb hlc hc _ ih=>exact .sl σ l b off c vs (hD b hb) hlc (fun i f hi=>by rw [<-hc i f hi];exact World.cell?_of_block (w:=w) (hw b hb)) ih
def AE (S:Aq) (w:World) (D:Nat->Prop) (fs:List (FC S.T)) (vs:List Value):Prop:=fs.length=vs.length/\ ∀ (i:Nat) f v,fs[i]?=some f->vs[i]?=some v->Au S w D f v
theorem AE.Bo {S:Aq} {w w':World} {D D':Nat->Prop} (hw: ∀ k,D k->w'.heap[k]?=w.heap[k]?) (hD: ∀ k,D k->D' k) {fs:List (FC S.T)} {vs:List Value} (h:AE S w D fs vs):AE S w' D' fs vs:=
 ⟨h.1,fun i f v hf hv=>(h.2 i f v hf hv).Bo hw hD⟩
theorem Au.one {S:Aq} {w:World} {D:Nat->Prop} {f:FC S.T} {v:Value} (h:Au S w D f v):v.oneCell'=true:=by cases h<;>rfl
def Fp (ag:Bool) (xs:List Value):Value:=if ag then .agg xs.toArray else xs.headD (.tuple #[])
structure Nm where
 b:Option Nat
 len:Nat
 cap:Nat
 val:Value
def Nm.AN (n:Nm):Nat:=n.b.getD 0
def Nm.at (n:Nm) (off:Nat):Value:=match n.val with
 | .pointer (some ⟨b,o,none⟩)=>.pointer (some ⟨b,o+off,none⟩)
 | _=>.pointer none
def Nm.sl (n:Nm):Value:=match n.val with
 | .slice a l c=>.slice a l c
 | _=>.slice none 0 0
theorem Nm.ZE (n:Nm):n.sl.oneCell'=true:=by unfold Nm.sl;split<;>rfl
def Nm.mp (n:Nm):Value:=match n.val with
 | .map b=>.map b
 | _=>.map none
theorem Nm.YR (n:Nm):n.mp.oneCell'=true:=by unfold Nm.mp;split<;>rfl
def Nm.sub (n:Nm) (c:Nat):Option (Nat×Nat):=match n.val with
 | .tuple a=>match a[c]? with
  | some (.slice (some ⟨b,_,_⟩) _ cap)=>some (b,cap)
  | _=>none
 | _=>none
def Nm.hd (n:Nm) (c:Nat):Value:=match n.val with
 | .tuple a=>match a[c]? with
  | some (.slice a l c)=>.slice a l c
  | _=>.slice none 0 0
 | _=>.slice none 0 0
theorem Nm.Xb (n:Nm) (c:Nat):(n.hd c).oneCell'=true:=by
 unfold Nm.hd;split
 ·split<;>rfl
 ·rfl
def A6:Value->Nat
 | .slice (some a) _ _=>a.block
 | _=>0
theorem Nm.dq {n:Nm} {c b o m cap:Nat} {s:Option Nat} (h:n.hd c=.slice (some ⟨b,o,s⟩) m cap):n.sub c=some (b,cap):=by
 unfold Nm.hd at h;unfold Nm.sub
 split at h
 ·rename_i a ha
  split at h
  ·rename_i a' l' c' hc
   cases h
   simp only [hc]
  ·cases h
 ·cases h
def Nm.has (n:Nm) (k:Nat):Prop:=n.b=some k\/ ∃ c cap,n.sub c=some (k,cap)
theorem Nm.Es {n:Nm} {k:Nat} (h:n.b=some k):n.has k:=.inl h
theorem Nm.E8 {n:Nm} {k:Nat} (h: ∀ c,n.sub c=none):n.has k↔n.b=some k:=by
 constructor
 ·rintro (h1|⟨c,cap,h1⟩)
  ·exact h1
  ·rw [h c] at h1;cases h1
 ·exact .inl
theorem Nm.FV {n:Nm} (hb:n.b=none) (hs: ∀ c,n.sub c=none) (k:Nat):¬ n.has k:=fun h=>by
 rw [Nm.E8 hs,hb] at h;cases h
def Nm.cG (n:Nm):Prop:=n.b=none/\ ∀ c,n.sub c=none
theorem Nm.cG.no {n:Nm} (h:n.cG) (k:Nat):¬ n.has k:=Nm.FV h.1 h.2 k
theorem Nm.Oo {l c:Nat} {a:Option Addr} {m d:Nat}:Nm.cG ⟨none,l,c,.slice a m d⟩:=⟨rfl,fun _=>rfl⟩
theorem Nm.BI {b:Option Nat} {l c i:Nat}:(Nm.mk b l c undef).sub i=none:=by simp [Nm.sub,undef]
theorem Nm.at_one (n:Nm) (off:Nat):(n.at off).oneCell'=true:=by unfold Nm.at;split<;>rfl
inductive SV where
 | v (x:Value)
 | b (c:Bool)
 | ptr (i off:Nat)
 | row (i n:Nat)
 | tr (i:Nat)
 | ep (i esz e off:Nat)
 | view (i off len cap:Nat)
 | Bv (i:Nat)
 | h (i:Nat)
 | vp (i off:Nat)
 | ap (i n e off:Nat)
 | pr (i z e off:Nat)
 | pp (i z e off y j q:Nat)
 | agg (cs:List SV)
 | Gg (cs:List SV)
 | fn (f:FuncId) (caps:List SV)
 | mk (i e:Nat)
 | hm (i:Nat)
def de (f:Nat) (l:Array Value):Value:=match Nat.ble 1000000 f with
 | true=>.func (.func (f -1000000)) l #[]
 | false=>.func (.func f) #[] l
theorem UD (f:Nat) (l:Array Value):(de f l).oneCell'=true:=by unfold de;split<;>rfl
theorem ET {f:Nat} (h:Nat.ble 1000000 f=false) (l:Array Value):de f l=.func (.func f) #[] l:=by unfold de;rw [h]
theorem KW {f:Nat} (h:Nat.ble 1000000 f=true) (l:Array Value):de f l=.func (.func (f -1000000)) l #[]:=by unfold de;rw [h]
mutual
def SV.den (β:Nat->Nm):SV->Value
 | .v x=>x
 | .b c=>.bool c
 | .ptr i off=>.pointer (some ⟨(β i).AN,off,none⟩)
 | .row i n=>.slice ((β i).b.map fun b=>⟨b,0,none⟩) n (β i).cap
 | .tr i=>.slice ((β i).b.map fun b=>⟨b,0,none⟩) (β i).len (β i).cap
 | .ep i esz e off=>.pointer (some ⟨(β i).AN,e*esz+off,none⟩)
 | .view i off len cap=>.slice (some ⟨(β i).AN,off,none⟩) len cap
 | .Bv i=>.map (some (β i).AN)
 | .h i=>(β i).sl
 | .vp i off=>(β i).at off
 | .ap i _ e off=>.pointer (some ⟨(β i).AN,off+e,none⟩)
 | .pr i z e off=>(β i).hd (e*z+off)
 | .pp i z e off y j q=>.pointer (some ⟨A6 ((β i).hd (e*z+off)),j*y+q,none⟩)
 | .agg cs=>.agg (AA β cs).toArray
 | .Gg cs=>.tuple (AA β cs).toArray
 | .fn f caps=>de f (AA β caps).toArray
 | .mk i e=>.map (((β i).sub e).map Prod.fst)
 | .hm i=>(β i).mp
def AA (β:Nat->Nm):List SV->List Value
 | []=>[]
 | x::r=>x.den β::AA β r
end
mutual
def SV.on (N:Nat->Prop):SV->Prop
 | .v _=>True
 | .b _=>True
 | .ptr i _=>N i
 | .row i _=>N i
 | .tr i=>N i
 | .ep i _ _ _=>N i
 | .view i _ _ _=>N i
 | .Bv i=>N i
 | .h i=>N i
 | .vp i _=>N i
 | .ap i _ _ _=>N i
 | .pr i _ _ _=>N i
 | .pp i _ _ _ _ _ _=>N i
 | .agg cs=>BR N cs
 | .Gg cs=>BR N cs
 | .fn _ caps=>BR N caps
 | .mk i _=>N i
 | .hm i=>N i
def BR (N:Nat->Prop):List SV->Prop
 | []=>True
 | x::r=>x.on N/\BR N r
end
theorem DV (β:Nat->Nm): ∀ l,AA β l=l.map (SV.den β)
 | []=>by simp [AA]
 | x::r=>by simp [AA,DV β r]
theorem AF (β:Nat->Nm) (l:List SV):(AA β l).length=l.length:=by rw [DV];simp
theorem CJ (β:Nat->Nm) (l m:List SV):AA β (l++m)=AA β l++AA β m:=by simp [DV]
theorem B1 (β:Nat->Nm) (l:List SV) (j:Nat):(AA β l)[j]?=(l[j]?).map (SV.den β):=by simp [DV]
mutual
theorem CF {β β':Nat->Nm} {N:Nat->Prop} (h: ∀ i,N i->β i=β' i): ∀ x:SV,x.on N->x.den β=x.den β'
 | .v _,_=>by simp [SV.den]
 | .b _,_=>by simp [SV.den]
 | .ptr i _,hx=>by simp only [SV.on] at hx;simp [SV.den,h i hx]
 | .row i _,hx=>by simp only [SV.on] at hx;simp [SV.den,h i hx]
 | .tr i,hx=>by simp only [SV.on] at hx;simp [SV.den,h i hx]
 | .ep i _ _ _,hx=>by simp only [SV.on] at hx;simp [SV.den,h i hx]
 | .view i _ _ _,hx=>by simp only [SV.on] at hx;simp [SV.den,h i hx]
 | .Bv i,hx=>by simp only [SV.on] at hx;simp [SV.den,h i hx]
 | .h i,hx=>by simp only [SV.on] at hx;simp [SV.den,h i hx]
 | .vp i _,hx=>by simp only [SV.on] at hx;simp [SV.den,h i hx]
 | .ap i _ _ _,hx=>by simp only [SV.on] at hx;simp [SV.den,h i hx]
 | .pr i _ _ _,hx=>by simp only [SV.on] at hx;simp [SV.den,h i hx]
 | .pp i _ _ _ _ _ _,hx=>by simp only [SV.on] at hx;simp [SV.den,h i hx]
 | .agg cs,hx=>by simp only [SV.on] at hx;simp only [SV.den];rw [BX h cs hx]
 | .Gg cs,hx=>by simp only [SV.on] at hx;simp only [SV.den];rw [BX h cs hx]
 | .fn _ cs,hx=>by simp only [SV.on] at hx;simp only [SV.den];rw [BX h cs hx]
 | .mk i _,hx=>by simp only [SV.on] at hx;simp [SV.den,h i hx]
 | .hm i,hx=>by simp only [SV.on] at hx;simp [SV.den,h i hx]
theorem BX {β β':Nat->Nm} {N:Nat->Prop} (h: ∀ i,N i->β i=β' i): ∀ l:List SV,BR N l->AA β l=AA β' l
 | [],_=>by simp [AA]
 | x::r,hx=>by
  simp only [BR] at hx
  simp only [AA]
  rw [CF h x hx.1,BX h r hx.2]
end
mutual
theorem Am {N N':Nat->Prop} (h: ∀ i,N i->N' i): ∀ {x:SV},x.on N->x.on N'
 | .v _,_=>trivial
 | .b _,_=>trivial
 | .ptr i _,hx=>h i hx
 | .row i _,hx=>h i hx
 | .tr i,hx=>h i hx
 | .ep i _ _ _,hx=>h i hx
 | .view i _ _ _,hx=>h i hx
 | .Bv i,hx=>h i hx
 | .h i,hx=>h i hx
 | .vp i _,hx=>h i hx
 | .ap i _ _ _,hx=>h i hx
 | .pr i _ _ _,hx=>h i hx
 | .pp i _ _ _ _ _ _,hx=>h i hx
 | .agg _,hx=>CP h hx
 | .Gg _,hx=>CP h hx
 | .fn _ _,hx=>CP h hx
 | .mk i _,hx=>h i hx
 | .hm i,hx=>h i hx
theorem CP {N N':Nat->Prop} (h: ∀ i,N i->N' i): ∀ {l:List SV},BR N l->BR N' l
 | [],_=>trivial
 | _::_,hx=>⟨Am h hx.1,CP h hx.2⟩
end
theorem Ay {N:Nat->Prop}: ∀ {l:List SV},BR N l↔ ∀ x∈l,x.on N
 | []=>by simp [BR]
 | x::r=>by simp only [BR,List.mem_cons,forall_eq_or_imp,<- Ay (l:=r)]
theorem EZ {N:Nat->Prop} {l m:List SV} (h:BR N l) (h':BR N m):BR N (l++m):=Ay.2 fun x hx=>(List.mem_append.1 hx).elim (Ay.1 h x) (Ay.1 h' x)
def lk {α:Type}:List (Nat×α)->Nat->Option α
 | [],_=>none
 | (d,x)::r,t=>match Nat.beq d t with
  | true=>some x
  | false=>lk r t
def pt {α:Type}:List (Nat×α)->Nat->α->List (Nat×α)
 | [],t,x=>[(t,x)]
 | (d,y)::r,t,x=>match Nat.beq d t with
  | true=>(d,x)::r
  | false=>(d,y)::pt r t x
def rm {α:Type}:List (Nat×α)->Nat->List (Nat×α)
 | [],_=>[]
 | (d,y)::r,t=>match Nat.beq d t with
  | true=>rm r t
  | false=>(d,y)::rm r t
theorem ID {α:Type} (d t:Nat) (x y:α):(match Nat.beq d t with|true=>x|false=>y)=if d=t then x else y:=by
 by_cases h:d=t
 ·subst h;simp
 ·cases hb:Nat.beq d t
  ·rw [if_neg h]
  ·exact absurd (Nat.eq_of_beq_eq_true hb) h
theorem AS {α:Type} (t:Nat):lk ([]:List (Nat×α)) t=none:=rfl
theorem AI {α:Type} (d:Nat) (x:α) (r:List (Nat×α)) (t:Nat):lk ((d,x)::r) t=if d=t then some x else lk r t:=by simp only [lk];exact ID ..
theorem en {α:Type} (t:Nat) (x:α):pt [] t x=[(t,x)]:=rfl
theorem aq {α:Type} (d:Nat) (y:α) (r:List (Nat×α)) (t:Nat) (x:α):pt ((d,y)::r) t x=if d=t then (d,x)::r else (d,y)::pt r t x:=by simp only [pt];exact ID ..
theorem fH {α:Type} (t:Nat):rm ([]:List (Nat×α)) t=[]:=rfl
theorem ay {α:Type} (d:Nat) (y:α) (r:List (Nat×α)) (t:Nat):rm ((d,y)::r) t=if d=t then rm r t else (d,y)::rm r t:=by simp only [rm];exact ID ..
theorem Ew {α:Type} (l:List (Nat×α)) (t u:Nat) (x:α):lk (pt l t x) u=if t=u then some x else lk l u:=by
 induction l with
 | nil=>simp [en,AS,AI]
 | cons h r ih=>
  obtain ⟨d,y⟩:=h
  simp only [aq]
  by_cases hd:d=t
  ·subst hd;simp only [if_true,AI];by_cases hu:d=u<;>simp [hu]
  ·simp only [if_neg hd,AI,ih]
   by_cases hu:d=u
   ·subst hu;simp [Ne.symm hd]
   ·simp [hu]
theorem Co {α:Type} (l:List (Nat×α)) (t u:Nat):lk (rm l t) u=if t=u then none else lk l u:=by
 induction l with
 | nil=>simp [fH,AS]
 | cons h r ih=>
  obtain ⟨d,y⟩:=h
  simp only [ay]
  by_cases hd:d=t
  ·subst hd;simp only [if_true,ih,AI];by_cases hu:d=u<;>simp [hu]
  ·simp only [if_neg hd,AI,ih]
   by_cases hu:d=u
   ·subst hu;simp [Ne.symm hd]
   ·simp [hu]
theorem M7 {α:Type} (l m:List (Nat×α)) (i:Nat):lk (l++m) i=(lk l i).orElse fun _=>lk m i:=by
 induction l with
 | nil=>simp [AS]
 | cons x r ih=>obtain ⟨d,y⟩:=x;simp only [List.cons_append,AI];split<;>simp [ih]
inductive Own (S:Aq) where
 | AN (T:TypeId) (cs:List SV)
 | row (T:TypeId) (sz n:Nat) (cs:List SV)
 | tr (τ:Nat) (E:TypeId) (l:List (S.T τ))
 | sl (τ:Nat) (l:List (S.T τ))
 | vu (cs:List SV)
 | obj (p:Obj->Prop)
 | any
 | dp (τ:Nat) (E:TypeId) (l:List (S.T τ))
 | mp (κ:Fd) (τ:Nat) (ag:Bool) (l:List (κ.T S.T×S.T τ))
 | mr (κ:Fd) (τ:Nat) (ag:Bool) (E:TypeId) (ls:List (List (κ.T S.T×S.T τ)))
variable {S:Aq}
def Own.on (N:Nat->Prop):Own S->Prop
 | .AN _ cs=>BR N cs
 | .row _ _ _ cs=>BR N cs
 | .vu cs=>BR N cs
 | _=>True
theorem Own.Am {N N':Nat->Prop} (h: ∀ i,N i->N' i) {b:Own S} (hb:b.on N):b.on N':=by
 cases b with
 | AN T cs=>exact CP h hb
 | row T sz n cs=>exact CP h hb
 | vu cs=>exact CP h hb
 | tr=>trivial
 | sl=>trivial
 | obj p=>trivial
 | any=>trivial
 | dp=>trivial
 | mp=>trivial
 | mr=>trivial
structure OE (S:Aq) (w:World) (D:Nat->Prop) (n:Nm) (τ:Nat) (l:List (S.T τ)) (vs:List Value):Prop where
 row: ∀ e x off σ E (m:List (S.T σ)),l[e]?=some x->(S.enc τ x)[off]?=some (.ow σ E m)->vs[e*S.sz τ+off]?=some (n.hd (e*S.sz τ+off))/\
  ∃ us,w.ownsRow 0 E (S.sz σ) (n.hd (e*S.sz τ+off)) m.length us/\AE S w D (S.flat σ m) us
 inj: ∀ c d b k k',n.sub c=some (b,k)->n.sub d=some (b,k')->c=d
 ne: ∀ c b k,n.sub c=some (b,k)->n.b≠some b
def DM {T:Nat->Type}:(κ:Fd)->κ.T T->Value
 | .int k,n=>.int k n
 | .str,s=>.string ⟨⟨s⟩⟩
 | _,_=>.tuple #[]
structure K2 (S:Aq) (w:World) (D:Nat->Prop) (κ:Fd) (τ:Nat) (ag:Bool) (x:κ.T S.T×S.T τ) (e:MapEntry):Prop where
 key:e.key=DM κ x.1
 val: ∃ vs,e.val=Fp ag vs/\AE S w D (S.enc τ x.2) vs
def MapAt (S:Aq) (w:World) (D:Nat->Prop) (κ:Fd) (τ:Nat) (ag:Bool) (b:Nat) (l:List (κ.T S.T×S.T τ)):Prop:= ∃ es:Array MapEntry,w.heap[b]?=some (.map es es.size)/\es.size=l.length/\ ∀ (j:Nat) (x:κ.T S.T×S.T τ) (e:MapEntry),l[j]?=some x->es[j]?=some e->e.born=j/\K2 S w D κ τ ag x e
structure SL (S:Aq) (w:World) (D:Nat->Prop) (n:Nm) (κ:Fd) (τ:Nat) (ag:Bool) (ls:List (List (κ.T S.T×S.T τ))) (vs:List Value):Prop where
 cell: ∀ (e:Nat) (m:List (κ.T S.T×S.T τ)),ls[e]?=some m-> ∃ b c,n.sub e=some (b,c)/\vs[e]?=some (.map (some b))/\MapAt S w D κ τ ag b m
 inj: ∀ c d b k k',n.sub c=some (b,k)->n.sub d=some (b,k')->c=d
 ne: ∀ c b k,n.sub c=some (b,k)->n.b≠some b
def Own.holds (D:Nat->Prop) (β:Nat->Nm) (w:World) (n:Nm):Own S->Prop
 | .AN T cs=> ∃ b,n.b=some b/\w.heap[b]?=some (.cells (AA β cs).toArray T (0,0))
 | .row T sz k cs=>w.ownsRow 0 T sz (.slice (n.b.map fun b=>⟨b,0,none⟩) k n.cap) k (AA β cs)
 | .tr τ E l=>n.len=l.length/\ ∃ vs,w.ownsRow 0 E (S.sz τ) (.slice (n.b.map fun b=>⟨b,0,none⟩) l.length n.cap) l.length vs/\AE S w D (S.flat τ l) vs
 | .sl τ l=>n.cG/\Au S w D (.sl τ l) n.sl
 | .vu cs=>n.b=none/\ ∃ b off,n.val=.pointer (some ⟨b,off,none⟩)/\D b/\ ∀ k v,(AA β cs)[k]?=some v->w.cell? ⟨b,off+k,none⟩=some v
 | .obj p=> ∃ b o,n.b=some b/\w.heap[b]?=some o/\p o
 | .any=>n.cG
 | .dp τ E l=>n.len=l.length/\ ∃ vs,w.ownsRow 0 E (S.sz τ) (.slice (n.b.map fun b=>⟨b,0,none⟩) l.length n.cap) l.length vs/\AE S w D (S.flat τ l) vs/\OE S w D n τ l vs
 | .mp κ τ ag l=> ∃ b,n.b=some b/\MapAt S w D κ τ ag b l
 | .mr κ τ ag E ls=>n.len=ls.length/\ ∃ vs,w.ownsRow 0 E 1 (.slice (n.b.map fun b=>⟨b,0,none⟩) ls.length n.cap) ls.length vs/\SL S w D n κ τ ag ls vs
structure St (S:Aq) where
 t:List (Nat×SV)
 o:List (Nat×Own S)
 n:Nat
 sz:Nat
structure OC (F:Nat->Prop) (w0 w:World):Prop where
 os:w.os=w0.os
 tape:w.tape=w0.tape
 output:w.output=w0.output
 size:w0.heap.size<=w.heap.size
 block: ∀ k,k<w0.heap.size->¬ F k->w.heap[k]?=w0.heap[k]?
theorem OC.refl (F:Nat->Prop) (w:World):OC F w w:=⟨rfl,rfl,rfl,Nat.le_refl _,fun _ _ _=>rfl⟩
theorem OC.trans {F:Nat->Prop} {a b c:World} (h:OC F a b) (k:OC F b c):OC F a c:=
 ⟨k.os.trans h.os,k.tape.trans h.tape,k.output.trans h.output,Nat.le_trans h.size k.size,fun i hi hf=>(k.block i (by have:=h.size;omega) hf).trans (h.block i hi hf)⟩
theorem OC.below {a b:World} (h:OC (fun _=>False) a b):Below a.heap.size a b:=⟨h.os,h.tape,h.output,h.size,fun k hk=>h.block k hk id⟩
theorem OC.YY {F:Nat->Prop} {a b:World} (h:Below a.heap.size a b):OC F a b:=⟨h.os,h.tape,h.output,h.size,fun k hk _=>h.block k hk⟩
structure GH (w0:World) (F D0 D:Nat->Prop) (o:List (Nat×Own S)) (N:Nat->Prop) (β:Nat->Nm) (w:World):Prop where
 Bk: ∀ i b,lk o i=some b->N i/\b.on N
 own: ∀ i b,lk o i=some b->b.holds D β w (β i)
 inj: ∀ i j b c k,lk o i=some b->lk o j=some c->(β i).has k->(β j).has k->i=j
 fresh: ∀ i b k,lk o i=some b->(β i).has k->w0.heap.size<=k\/F k
 off: ∀ i b k,lk o i=some b->(β i).has k->¬ D k
 lt: ∀ i b k,lk o i=some b->(β i).has k->k<w.heap.size
 C0: ∀ k,D k->k<w.heap.size
 JV: ∀ k,D k->D0 k\/F k\/w0.heap.size<=k
 fr:OC F w0 w
 sub: ∀ k,D0 k->D k
def BS (S:Aq) (w0:World) (F D0:Nat->Prop):Prop:=S.inv D0 w0/\ ∀ k,D0 k->k<w0.heap.size/\¬ F k
theorem GH.inv {w0:World} {F D0 D:Nat->Prop} {o:List (Nat×Own S)} {N:Nat->Prop} {β:Nat->Nm} {w:World} (h:GH w0 F D0 D o N β w) (hk:BS S w0 F D0):S.inv D w:=
 S.FQ hk.1 (fun k hd=>h.fr.block k (hk.2 k hd).1 (hk.2 k hd).2) h.sub
structure G (w0:World) (F D0 D:Nat->Prop) (s:St S) (N:Nat->Prop) (β:Nat->Nm) (a:Act) (w:World):Prop where
 defers:a.defers=[]
 size:a.tmps.size=s.sz
 Gc: ∀ t x,lk s.t t=some x->t<s.sz/\x.on N
 tmps: ∀ t x,lk s.t t=some x->a.tmps.getD t undef=x.den β
 gh:GH w0 F D0 D s.o N β w
theorem DA {w w':World} {base:Nat} {e:TypeId} {sz n:Nat} {v:Value} {xs:List Value} (h:w.ownsRow base e sz v n xs) (hk: ∀ g,v.ownBlock=some g->w'.heap[g]?=w.heap[g]?):w'.ownsRow base e sz v n xs:=by
 obtain ⟨h1,h2⟩:=h
 refine ⟨h1,?_⟩
 rcases h2 with h2|⟨g,cap,cur,h3,h0,h4,h5⟩
 ·exact .inl h2
 ·exact .inr ⟨g,cap,cur,h3,h0,by rw [hk g (by rw [h3];rfl)];exact h4,h5⟩
theorem Nm.Mx {n:Nm} {c g:Nat} (h:(n.hd c).ownBlock=some g): ∃ cap,n.sub c=some (g,cap):=by
 cases hv:n.hd c with
 | slice a m cap=>
  cases a with
  | none=>rw [hv] at h;cases h
  | some a=>
   obtain ⟨b,o,s⟩:=a
   rw [hv] at h
   simp only [Value.ownBlock,Option.some.injEq] at h
   subst h
   exact ⟨cap,Nm.dq hv⟩
 | _=>rw [hv] at h;cases h
theorem OE.Bo {w w':World} {D D':Nat->Prop} {n:Nm} {τ:Nat} {l:List (S.T τ)} {vs:List Value} (h:OE S w D n τ l vs) (hk: ∀ c k cap,n.sub c=some (k,cap)->w'.heap[k]?=w.heap[k]?) (hD: ∀ k,D k->w'.heap[k]?=w.heap[k]?) (hDD: ∀ k,D k->D' k):OE S w' D' n τ l vs:=by
 refine ⟨fun e x off σ E m hx ho=>?_,h.inj,h.ne⟩
 obtain ⟨h1,us,h2,h3⟩:=h.row e x off σ E m hx ho
 refine ⟨h1,us,DA h2 fun g hg=>?_,h3.Bo hD hDD⟩
 obtain ⟨cap,hs⟩:=Nm.Mx hg
 exact hk _ g cap hs
theorem K2.Bo {w w':World} {D D':Nat->Prop} {κ:Fd} {τ:Nat} {ag:Bool} {x:κ.T S.T×S.T τ} {e:MapEntry} (h:K2 S w D κ τ ag x e) (hD: ∀ k,D k->w'.heap[k]?=w.heap[k]?) (hDD: ∀ k,D k->D' k):K2 S w' D' κ τ ag x e:=by
 obtain ⟨h1,vs,h2,h3⟩:=h
 exact ⟨h1,vs,h2,h3.Bo hD hDD⟩
theorem MapAt.Bo {w w':World} {D D':Nat->Prop} {κ:Fd} {τ:Nat} {ag:Bool} {b:Nat} {l:List (κ.T S.T×S.T τ)} (h:MapAt S w D κ τ ag b l) (hb:w'.heap[b]?=w.heap[b]?) (hD: ∀ k,D k->w'.heap[k]?=w.heap[k]?) (hDD: ∀ k,D k->D' k):MapAt S w' D' κ τ ag b l:=by
 obtain ⟨es,h1,h2,h3⟩:=h
 exact ⟨es,hb.trans h1,h2,fun j x e hx he=>⟨(h3 j x e hx he).1,(h3 j x e hx he).2.Bo hD hDD⟩⟩
theorem SL.Bo {w w':World} {D D':Nat->Prop} {n:Nm} {κ:Fd} {τ:Nat} {ag:Bool} {ls:List (List (κ.T S.T×S.T τ))} {vs:List Value} (h:SL S w D n κ τ ag ls vs) (hk: ∀ c k cap,n.sub c=some (k,cap)->w'.heap[k]?=w.heap[k]?) (hD: ∀ k,D k->w'.heap[k]?=w.heap[k]?) (hDD: ∀ k,D k->D' k):SL S w' D' n κ τ ag ls vs:=
 ⟨fun e m he=>let ⟨b,c,h1,h2,h3⟩:=h.cell e m he;⟨b,c,h1,h2,h3.Bo (hk _ _ _ h1) hD hDD⟩,h.inj,h.ne⟩
theorem Own.De {D:Nat->Prop} {β:Nat->Nm} {w w':World} {nm:Nm} {b:Own S} (h:b.holds D β w nm) (hk: ∀ k,nm.has k->w'.heap[k]?=w.heap[k]?) (hD: ∀ k,D k->w'.heap[k]?=w.heap[k]?):b.holds D β w' nm:=by
 have hrow: ∀ {e sz n:Nat} {xs:List Value},w.ownsRow 0 e sz (.slice (nm.b.map fun b=>⟨b,0,none⟩) n nm.cap) n xs->w'.ownsRow 0 e sz (.slice (nm.b.map fun b=>⟨b,0,none⟩) n nm.cap) n xs:=by
  rintro e sz n xs ⟨h1,h2⟩
  refine ⟨h1,?_⟩
  rcases h2 with h2|⟨g,cap,cur,h3,h4,h5,h6⟩
  ·exact .inl h2
  ·refine .inr ⟨g,cap,cur,h3,h4,?_,h6⟩
   have:nm.b=some g:=by
    cases hb:nm.b with
    | none=>simp [hb] at h3
    | some k=>simp [hb] at h3;rw [h3.1]
   exact (hk g (.inl this)).trans h5
 cases b with
 | AN T cs=>obtain ⟨k,h1,h2⟩:=h;exact ⟨k,h1,(hk k (.inl h1)).trans h2⟩
 | row T sz n cs=>exact hrow h
 | tr τ E l=>obtain ⟨h0,vs,h1,h2⟩:=h;exact ⟨h0,vs,hrow h1,h2.Bo hD fun _ h=>h⟩
 | sl τ l=>exact ⟨h.1,h.2.Bo hD fun _ h=>h⟩
 | vu cs=>obtain ⟨h1,b,off,h2,h3,h4⟩:=h;exact ⟨h1,b,off,h2,h3,fun k v hv=>by rw [<-h4 k v hv];exact World.cell?_of_block (w:=w) (hD b h3)⟩
 | obj p=>obtain ⟨k,o,h1,h2,h3⟩:=h;exact ⟨k,o,h1,(hk k (.inl h1)).trans h2,h3⟩
 | any=>exact h
 | dp τ E l=>obtain ⟨h0,vs,h1,h2,h3⟩:=h;exact ⟨h0,vs,hrow h1,h2.Bo hD fun _ h=>h,h3.Bo (fun c k cap hs=>hk k (.inr ⟨c,cap,hs⟩)) hD fun _ h=>h⟩
 | mp κ τ ag l=>obtain ⟨k,h1,h2⟩:=h;exact ⟨k,h1,h2.Bo (hk k (.inl h1)) hD fun _ h=>h⟩
 | mr κ τ ag E ls=>obtain ⟨h0,vs,h1,h2⟩:=h;exact ⟨h0,vs,hrow h1,h2.Bo (fun c k cap hs=>hk k (.inr ⟨c,cap,hs⟩)) hD fun _ h=>h⟩
theorem Own.Bu {D D':Nat->Prop} {β:Nat->Nm} {w:World} {nm:Nm} {b:Own S} (h:b.holds D β w nm) (hD: ∀ k,D k->D' k):b.holds D' β w nm:=by
 cases b with
 | AN T cs=>exact h
 | row T sz n cs=>exact h
 | tr τ E l=>obtain ⟨h0,vs,h1,h2⟩:=h;exact ⟨h0,vs,h1,h2.Bo (fun _ _=>rfl) hD⟩
 | sl τ l=>exact ⟨h.1,h.2.Bo (fun _ _=>rfl) hD⟩
 | vu cs=>obtain ⟨h1,b,off,h2,h3,h4⟩:=h;exact ⟨h1,b,off,h2,hD b h3,h4⟩
 | obj p=>exact h
 | any=>exact h
 | dp τ E l=>obtain ⟨h0,vs,h1,h2,h3⟩:=h;exact ⟨h0,vs,h1,h2.Bo (fun _ _=>rfl) hD,h3.Bo (fun _ _ _ _=>rfl) (fun _ _=>rfl) hD⟩
 | mp κ τ ag l=>obtain ⟨k,h1,h2⟩:=h;exact ⟨k,h1,h2.Bo rfl (fun _ _=>rfl) hD⟩
 | mr κ τ ag E ls=>obtain ⟨h0,vs,h1,h2⟩:=h;exact ⟨h0,vs,h1,h2.Bo (fun _ _ _ _=>rfl) (fun _ _=>rfl) hD⟩
theorem Own.Dq {D:Nat->Prop} {β β':Nat->Nm} {w:World} {N:Nat->Prop} {nm:Nm} {b:Own S} (hβ: ∀ i,N i->β i=β' i) (hn:b.on N) (h:b.holds D β w nm):b.holds D β' w nm:=by
 cases b with
 | AN T cs=>simp only [Own.on] at hn;simpa only [Own.holds,BX hβ cs hn] using h
 | row T sz k cs=>simp only [Own.on] at hn;simpa only [Own.holds,BX hβ cs hn] using h
 | vu cs=>simp only [Own.on] at hn;simpa only [Own.holds,BX hβ cs hn] using h
 | tr=>exact h
 | sl=>exact h
 | obj p=>exact h
 | any=>exact h
 | dp=>exact h
 | mp=>exact h
 | mr=>exact h
section
variable {w0:World} {F D0 D:Nat->Prop} {o:List (Nat×Own S)} {N:Nat->Prop} {β:Nat->Nm} {w:World}
theorem GH.congr (h:GH w0 F D0 D o N β w) {β':Nat->Nm} (hβ: ∀ i,N i->β i=β' i):GH w0 F D0 D o N β' w:=by
 have hk: ∀ i b,lk o i=some b->β i=β' i:=fun i b hi=>hβ i (h.Bk i b hi).1
 refine ⟨h.Bk,fun i b hi=>?_,fun i j b c k hi hj h1 h2=>?_,fun i b k hi h1=>?_,fun i b k hi h1=>?_,fun i b k hi h1=>?_,h.C0,h.JV,h.fr,h.sub⟩
 ·rw [<-hk i b hi];exact Own.Dq hβ (h.Bk i b hi).2 (h.own i b hi)
 ·rw [<-hk i b hi] at h1;rw [<-hk j c hj] at h2;exact h.inj i j b c k hi hj h1 h2
 ·rw [<-hk i b hi] at h1;exact h.fresh i b k hi h1
 ·rw [<-hk i b hi] at h1;exact h.off i b k hi h1
 ·rw [<-hk i b hi] at h1;exact h.lt i b k hi h1
theorem GH.mono (h:GH w0 F D0 D o N β w) {N':Nat->Prop} (hN: ∀ i,N i->N' i):GH w0 F D0 D o N' β w:=
 ⟨fun i b hi=>⟨hN i (h.Bk i b hi).1,Own.Am hN (h.Bk i b hi).2⟩,h.own,h.inj,h.fresh,h.off,h.lt,h.C0,h.JV,h.fr,h.sub⟩
theorem GH.G8 (h:GH w0 F D0 D o N β w) {o':List (Nat×Own S)} (hs: ∀ i b,lk o' i=some b->lk o i=some b):GH w0 F D0 D o' N β w:=
 ⟨fun i b hi=>h.Bk i b (hs i b hi),fun i b hi=>h.own i b (hs i b hi),fun i j b c k hi hj=>h.inj i j b c k (hs i b hi) (hs j c hj),fun i b k hi=>h.fresh i b k (hs i b hi),fun i b k hi=>h.off i b k (hs i b hi),fun i b k hi=>h.lt i b k (hs i b hi),h.C0,h.JV,h.fr,h.sub⟩
theorem GH.step (h:GH w0 F D0 D o N β w) {w':World} (hb:Below w.heap.size w w'):GH w0 F D0 D o N β w':=by
 refine ⟨h.Bk,fun i b hi=>?_,h.inj,h.fresh,h.off,fun i b k hi hk=>Nat.lt_of_lt_of_le (h.lt i b k hi hk) hb.size,fun k hk=>Nat.lt_of_lt_of_le (h.C0 k hk) hb.size,h.JV,h.fr.trans (OC.YY ⟨hb.os,hb.tape,hb.output,hb.size,fun k hk=>hb.block k hk⟩),h.sub⟩
 exact Own.De (h.own i b hi) (fun k hk=>hb.block k (h.lt i b k hi hk)) fun k hk=>hb.block k (h.C0 k hk)
theorem GH.name (h:GH w0 F D0 D o N β w) {b:Own S} {nm:Nm} {n:Nat} (hN:¬ N n) (hn:b.on N) (hh: ∀ β':Nat->Nm,(∀ i,N i->β i=β' i)->β' n=nm->b.holds D β' w nm)
  (hfr: ∀ k,nm.has k->w0.heap.size<=k\/F k) (hoff: ∀ k,nm.has k->¬ D k) (hne: ∀ i c k,lk o i=some c->(β i).has k->¬ nm.has k) (hlt: ∀ k,nm.has k->k<w.heap.size):
  ∃ β',(∀ i,N i->β i=β' i)/\β' n=nm/\GH w0 F D0 D ((n,b)::o) (fun i=>N i\/i=n) β' w:=by
 let β':Nat->Nm:=fun i=>if i=n then nm else β i
 have hβ: ∀ i,N i->β i=β' i:=fun i hi=>by simp only [β'];rw [if_neg (fun e:i=n=>hN (by subst e;exact hi))]
 have hβn:β' n=nm:=by simp [β']
 have h':=h.congr hβ
 refine ⟨β',hβ,hβn,?_⟩
 refine ⟨fun i c hi=>?_,fun i c hi=>?_,fun i j c d k hi hj h1 h2=>?_,fun i c k hi h1=>?_,fun i c k hi h1=>?_,fun i c k hi h1=>?_,h.C0,h.JV,h.fr,h.sub⟩
 all_goals simp only [AI] at hi
 ·split at hi
  ·rename_i he;simp only [Option.some.injEq] at hi;subst hi;subst he;exact ⟨.inr rfl,Own.Am (fun _ h=>.inl h) hn⟩
  ·have:=h.Bk i c hi;exact ⟨.inl this.1,Own.Am (fun _ h=>.inl h) this.2⟩
 ·split at hi
  ·rename_i he;simp only [Option.some.injEq] at hi;subst hi;subst he;rw [hβn];exact hh β' hβ hβn
  ·exact h'.own i c hi
 ·simp only [AI] at hj
  split at hi<;>split at hj
  ·omega
  ·rename_i he _;subst he;rw [hβn] at h1;rw [<-hβ j (h.Bk j d hj).1] at h2;exact absurd h1 (hne j d k hj h2)
  ·rename_i _ he;subst he;rw [hβn] at h2;rw [<-hβ i (h.Bk i c hi).1] at h1;exact absurd h2 (hne i c k hi h1)
  ·exact h'.inj i j c d k hi hj h1 h2
 ·split at hi
  ·rename_i he;subst he;rw [hβn] at h1;exact hfr k h1
  ·exact h'.fresh i c k hi h1
 ·split at hi
  ·rename_i he;subst he;rw [hβn] at h1;exact hoff k h1
  ·exact h'.off i c k hi h1
 ·split at hi
  ·rename_i he;subst he;rw [hβn] at h1;exact hlt k h1
  ·exact h'.lt i c k hi h1
theorem GH.alloc (h:GH w0 F D0 D o N β w) {b:Own S} {ob:Obj} {len cap n:Nat} (hN:¬ N n) (hn:b.on N)
  (hh: ∀ β':Nat->Nm,(∀ i,N i->β i=β' i)->β' n=⟨some w.heap.size,len,cap,undef⟩->b.holds D β' (w.alloc ob) ⟨some w.heap.size,len,cap,undef⟩):
  ∃ β',(∀ i,N i->β i=β' i)/\β' n=⟨some w.heap.size,len,cap,undef⟩/\GH w0 F D0 D ((n,b)::o) (fun i=>N i\/i=n) β' (w.alloc ob):=by
 have hs:GH w0 F D0 D o N β (w.alloc ob):=h.step ((Below.refl _ _).alloc (Nat.le_refl _) _)
 have hme: ∀ k,Nm.has ⟨some w.heap.size,len,cap,undef⟩ k->k=w.heap.size:=fun k hk=>by
  rw [Nm.E8 fun _=>Nm.BI] at hk
  simp only [Option.some.injEq] at hk;exact hk.symm
 refine hs.name hN hn hh (fun k hk=>?_) (fun k hk hD=>?_) (fun i c k hi hk he=>?_) (fun k hk=>?_)
 ·rw [hme k hk];exact .inl h.fr.size
 ·rw [hme k hk] at hD;have:=h.C0 _ hD;omega
 ·rw [hme k he] at hk;have:=h.lt i c _ hi hk;omega
 ·rw [hme k hk];show w.heap.size<(w.heap.push ob).size;rw [Array.size_push];exact Nat.lt_succ_self _
theorem C1 (n:Nat):(fun i=>i<n\/i=n)=(fun i=>i<n+1):=by funext i;simp only [eq_iff_iff];omega
theorem GH.Kz (h:GH w0 F D0 D o N β w) {i:Nat} {b c:Own S} {k:Nat} {w':World} (hi:lk o i=some b) (hk:(β i).has k) (hc:c.on N)
  (hos:w'.os=w.os) (htp:w'.tape=w.tape) (hou:w'.output=w.output) (hsz:w.heap.size<=w'.heap.size) (hbl: ∀ j,j<w.heap.size->j≠k->w'.heap[j]?=w.heap[j]?) (hh:c.holds D β w' (β i)):GH w0 F D0 D (pt o i c) N β w':=by
 have hlt:=h.lt i b k hi hk
 have hD: ∀ m,D m->w'.heap[m]?=w.heap[m]?:=fun m hm=>hbl m (h.C0 m hm) fun e=>by subst e;exact h.off i b _ hi hk hm
 refine ⟨fun j d hj=>?_,fun j d hj=>?_,fun j l d e m hj hl h1 h2=>?_,fun j d m hj h1=>?_,fun j d m hj h1=>?_,fun j d m hj h1=>?_,fun m hm=>Nat.lt_of_lt_of_le (h.C0 m hm) hsz,h.JV,?_,h.sub⟩
 ·simp only [Ew] at hj
  split at hj
  ·rename_i he;simp only [Option.some.injEq] at hj;subst hj;subst he;exact ⟨(h.Bk _ _ hi).1,hc⟩
  ·exact h.Bk j d hj
 ·simp only [Ew] at hj
  split at hj
  ·rename_i he;simp only [Option.some.injEq] at hj;subst hj;subst he;exact hh
  ·rename_i he
   refine Own.De (h.own j d hj) (fun m hm=>hbl m (h.lt j d m hj hm) fun e=>?_) hD
   subst e
   exact he (h.inj i j b d m hi hj hk hm)
 ·have aux: ∀ j d,lk (pt o i c) j=some d-> ∃ d',lk o j=some d':=fun j d hj=>by
   simp only [Ew] at hj
   split at hj
   ·rename_i he;subst he;exact ⟨b,hi⟩
   ·exact ⟨d,hj⟩
  obtain ⟨d',hd'⟩:=aux j d hj
  obtain ⟨e',he'⟩:=aux l e hl
  exact h.inj j l d' e' m hd' he' h1 h2
 ·simp only [Ew] at hj
  split at hj
  ·rename_i he;subst he;exact h.fresh i b m hi h1
  ·exact h.fresh j d m hj h1
 ·simp only [Ew] at hj
  split at hj
  ·rename_i he;subst he;exact h.off i b m hi h1
  ·exact h.off j d m hj h1
 ·simp only [Ew] at hj
  split at hj
  ·rename_i he;subst he;exact Nat.lt_of_lt_of_le (h.lt i b m hi h1) hsz
  ·exact Nat.lt_of_lt_of_le (h.lt j d m hj h1) hsz
 ·refine ⟨hos.trans h.fr.os,htp.trans h.fr.tape,hou.trans h.fr.output,Nat.le_trans h.fr.size hsz,fun j hj hf=>(hbl j (Nat.lt_of_lt_of_le hj h.fr.size) fun e=>?_).trans (h.fr.block j hj hf)⟩
  subst e
  rcases h.fresh i b j hi hk with h1|h1
  ·omega
  ·exact hf h1
end
end Go.En
