/-
 The evaluation is sound: loads, stores, tests, numbers, fields.
-/
import Derived.Test.YtpjlciengdhjoaaGreatDoorEn4
namespace Go.En
open Go.RowKit
def HS {S:As}:Own S->Nat->SV
 | .AX _ _,n=>.ptr n 0
 | .row _ _ k _,n=>.row n k
 | .tr _ _ _,n=>.tr n
 | .obj _,n=>.CC n
 | .dp _ _ _,n=>.tr n
 | .mp _ _ _ _,n=>.CC n
 | _,n=>.h n
section
variable {S:As} {P:Program} {w0:World} {F D0 D:Nat->Prop} {s:St S} {N:Nat->Prop} {β:Nat->Nm} {a:Act} {w:World}
def oh (P:Program) (w0:World) (F D0 D:Nat->Prop) (n:Nat) (β:Nat->Nm) (a:Act) (w:World) (op:Oper) (o':List (Nat×Own S)) (n':Nat) (x:SV):Prop:=
 ∃ β' w',(execOp a.eval op).run P w=.ok (.value (x.den β')) w'/\(∀ i,i<n->β i=β' i)/\GH w0 F D0 D o' (· <n') β' w'/\x.on (· <n')/\n<=n'
def XG (P:Program) (w0:World) (F D0 D:Nat->Prop) (n:Nat) (N:Nat->Prop) (β:Nat->Nm) (a:Act) (w:World) (op:Oper) (o':List (Nat×Own S)):Prop:=
 ∃ β' w',(execOp a.eval op).run P w=.ok (.value ((SV.tr n).den β')) w'/\(∀ i,N i->β i=β' i)/\GH w0 F D0 D o' (fun i=>N i\/i=n) β' w'
theorem XG.ok {n:Nat} {op:Oper} {o':List (Nat×Own S)} (h:XG P w0 F D0 D n (· <n) β a w op o'):oh P w0 F D0 D n β a w op o' (n+1) (.tr n):=by
 obtain ⟨β',w',h1,h2,h3⟩:=h
 rw [DG] at h3
 exact ⟨β',w',h1,h2,h3,lw _,by omega⟩
def R.Sound (P:Program) (w0:World) (F D0 D:Nat->Prop) (s:St S) (N:Nat->Prop) (β:Nat->Nm) (a:Act) (w:World) (o:Oper):R S->Prop
 | R.val c y=>Cd c->(execOp a.eval o).run P w=.ok (.value (y.den β)) w/\y.on N
 | R.new b=>b.on N/\ ∃ ob len cap,∀ (n:Nat) (β':Nat->Nm),(∀ i,N i->β i=β' i)->β' n=⟨some w.heap.size,len,cap,undef⟩->
   (execOp a.eval o).run P w=.ok (.value ((HS b n).den β')) (w.alloc ob)/\b.holds D β' (w.alloc ob) ⟨some w.heap.size,len,cap,undef⟩
 | R.Sf c i b=>Cd c-> ∃ w',(execOp a.eval o).run P w=.ok .skip w'/\GH w0 F D0 D (pt s.o i b) N β w'
 | R.nm c o1 n' v=>Cd c->(∀ j,s.n<=j->j<n'->¬ N j)-> ∃ β' w',(execOp a.eval o).run P w=.ok (.value (v.den β')) w'/\CG D D N s.n n' o1 β β' w w'/\v.on (more N s.n n')
 | R.x c o' n' v=>Cd c->N=(· <s.n)->oh P w0 F D0 D s.n β a w o o' n' v
 | R.stop=>True
theorem Gq {n:Int} (h:Al n=true):IntKind.i64.wrap n=n:=IntWalk.i64_in _ (AN.1 h)
theorem run_equal_bool (T:Nat) (a b:Bool) (P:Program) (w:World) (h:P.underlying T=some .bool):(Op.equal T (.bool a) (.bool b)).run P w=.ok (a == b) w:=
 run_equalIn_bool' w 9999 T a b h
theorem IV {α:Type} [BEq α] [LawfulBEq α] [DecidableEq α] (a b:α):(a == b)=decide (a=b):=by rw [Bool.eq_iff_iff];simp
theorem AF {o:Oper} {c:Option Bool} {x:SV} (hx:x.on N) (h:Cd c->(execOp a.eval o).run P w=.ok (.value (x.den β)) w):R.Sound P w0 F D0 D s N β a w o (.val c x):=
 fun hp=>⟨h hp,hx⟩
theorem Kg {x:SV} {cs:List SV} (h:x.cells=some cs) (β:Nat->Nm):(x.den β).cells.toList=AD β cs/\ ∀ N,x.on N->BZ N cs:=by
 have one: ∀ v:Value,v.oneCell'=true->v.cells.toList=[v]:=fun v hv=>by cases v<;>first|rfl|simp [Value.oneCell'] at hv
 have map_v: ∀ l:List Value,AD β (l.map SV.v)=l:=fun l=>by
  induction l with
  | nil=>simp [AD]
  | cons x r ih=>simp [AD,SV.den,ih]
 have on_map: ∀ (N:Nat->Prop) (l:List Value),BZ N (l.map SV.v):=fun N l=>A0.2 fun x hx=>by obtain ⟨v,_,rfl⟩:=List.mem_map.1 hx;trivial
 cases x with
 | v x=>cases x<;>simp only [SV.cells,am,reduceCtorEq] at h<;>subst h<;>simp [SV.den,Value.cells,AD,BZ,SV.on,map_v,on_map]
 | agg cs=>simp only [SV.cells,am] at h;subst h;simp [SV.den,Value.cells,SV.on]
 | h i=>simp only [SV.cells,am] at h;subst h;simp [AD,BZ,SV.on];exact one _ (Nm.Zq _)
 | hm i=>simp only [SV.cells,am] at h;subst h;simp [AD,BZ,SV.on];exact one _ (Nm.Yp _)
 | vp i o=>simp only [SV.cells,am] at h;subst h;simp [AD,BZ,SV.on];exact one _ (Nm.at_one _ _)
 | pr i z e o=>simp only [SV.cells,am] at h;subst h;simp [AD,BZ,SV.on];exact one _ (Nm.X2 _ _)
 | Gv cs=>simp [SV.cells] at h
 | fn f c=>simp only [SV.cells,am] at h;subst h;simp [AD,BZ,SV.on,SV.den];exact one _ (Uk _ _)
 | _=>simp only [SV.cells,am] at h;subst h;simp [SV.den,Value.cells,AD,BZ,SV.on]
theorem one_den {x:SV} (h:x.one=true) (β:Nat->Nm):(x.den β).oneCell'=true:=by
 cases x<;>first|exact Nm.Zq _|exact Nm.Yp _|exact Nm.at_one _ _|exact Nm.X2 _ _|(simp only [SV.den];exact Uk _ _)|simp_all [SV.one,SV.den,Value.oneCell']
theorem Gy (β:Nat->Nm): ∀ {l:List SV},Mp l=true-> ∀ v∈AD β l,v.oneCell'=true
 | [],_,v,hv=>by simp [AD] at hv
 | x::r,h,v,hv=>by
  simp only [Mp] at h
  split at h
  ·rename_i hx
   simp only [AD,List.mem_cons] at hv
   rcases hv with rfl|hv
   ·exact one_den hx β
   ·exact Gy β h v hv
  ·cases h
theorem UC {cs:List SV} {off:Nat} {new:List SV} (h:off+new.length<=cs.length):aC cs off new=Af cs off new:=by
 unfold aC
 split
 ·rename_i x
  simp only [List.length_singleton] at h
  unfold Af
  rw [List.set_eq_take_append_cons_drop,if_pos (by omega)]
  simp
 ·rfl
theorem Hr (β:Nat->Nm) (cs:List SV) (off:Nat) (new:List SV):AD β (Af cs off new)=Af (AD β cs) off (AD β new):=by
 simp [Af,Dd,List.map_take,List.map_drop]
theorem Tt {N:Nat->Prop} {cs new:List SV} {off:Nat} (h1:BZ N cs) (h2:BZ N new):BZ N (Af cs off new):=by
 rw [A0] at*
 intro x hx
 simp only [Af,List.mem_append] at hx
 rcases hx with (hx|hx)|hx
 ·exact h1 x (List.mem_of_mem_take hx)
 ·exact h2 x hx
 ·exact h1 x (List.mem_of_mem_drop hx)
theorem UD {N:Nat->Prop} {cs new:List SV} {off:Nat} (h1:BZ N cs) (h2:BZ N new):BZ N (aC cs off new):=by
 unfold aC
 split
 ·rename_i x
  rw [A0] at*
  intro y hy
  rcases List.mem_or_eq_of_mem_set hy with h|h
  ·exact h1 y h
  ·exact h2 y (by simp [h])
 ·exact Tt h1 h2
theorem NT {o:Oper} {T:Nat} {x:Operand} {t:TI} {bk o0 off:Nat} {cs:List SV} (ht:t.ok S P T) (ho:o.op=.load T x) (hx:a.eval x=.pointer (some ⟨bk,o0+off,none⟩)) (hcell: ∀ j v,(AD β cs)[j]?=some v->w.cell? ⟨bk,o0+j,none⟩=some v) (hn:BZ N cs):
  R.Sound P w0 F D0 D s N β a w o (ld t cs off):=by
 have hrun:(execOp a.eval o).run P w=((loadVar T ⟨bk,o0+off,none⟩).run P w).andThen fun v w=>.ok (.value v) w:=by
  simp [execOp,ho,hx,Instr.loadAt,Instr.sureAddr]
 unfold ld
 split
 ·rename_i hagg
  split
  ·rename_i hle
   have hle:=dk hle
   have h1:=EM ht w bk (o0+off) (AD β ((cs.drop off).take t.sz)) (by rw [AI];simp;omega) (fun j v hv=>by
    rw [Nat.add_assoc]
    refine hcell (off+j) v ?_
    simp only [CM,ol,List.getElem?_drop] at hv ⊢
    split at hv
    ·exact hv
    ·simp at hv) hagg
   refine AF ?_ fun _=>by rw [hrun,h1];simp [SV.den]
   simp only [SV.on]
   rw [A0] at hn ⊢
   exact fun y hy=>hn y (List.mem_of_mem_drop (List.mem_of_mem_take hy))
  ·trivial
 ·rename_i hagg
  split
  ·rename_i y hy
   have h2:=B2 ht w bk (o0+off) (y.den β) (hcell off _ (by rw [CM,hy];rfl)) hagg
   exact AF (A0.1 hn y (gc hy)) fun _=>by rw [hrun,h2];rfl
  ·trivial
theorem YL {o:Oper} {T:Nat} {x:Operand} {t:TI} {nm:Nm} {e off τ E:Nat} {l:List (S.T τ)} {vs:List Value} (ht:t.ok S P T) (ho:o.op=.load T x) (hx:a.eval x=.pointer (some ⟨nm.AX,e*S.sz τ+off,none⟩)) (hrow:w.ownsRow 0 E (S.sz τ) (.slice (nm.b.map fun b=>⟨b,0,none⟩) l.length nm.cap) l.length vs) (hvs:AG S w D (S.flat τ l) vs):
  R.Sound P w0 F D0 D s N β a w o (kG t s τ l e off):=by
 have hrun:(execOp a.eval o).run P w=((loadVar T ⟨nm.AX,e*S.sz τ+off,none⟩).run P w).andThen fun v w=>.ok (.value v) w:=by
  simp [execOp,ho,hx,Instr.loadAt,Instr.sureAddr]
 unfold kG
 split
 rename_i cs o1 n' hu
 split
 case h_2=>trivial
 rename_i hlen
 have hlen:=ac hlen
 have main:e<l.length->(∀ j,s.n<=j->j<n'->¬ N j)-> ∃ β',CG D D N s.n n' o1 β β' w w/\BZ (more N s.n n') cs/\(AD β' cs).length=t.sz/\ ∀ j v,(AD β' cs)[j]?=some v->w.cell? ⟨nm.AX,e*S.sz τ+off+j,none⟩=some v:=by
  intro he hN
  have h1:=((S.Ph τ hvs he (S.A4 τ)).drop off).take t.sz
  obtain ⟨β',h2,h4,h5⟩:=EP (β:=β) h1 hu hN
  refine ⟨β',h2,h5,by rw [AI,hlen],fun j v hv=>?_⟩
  rw [h4] at hv
  simp only [ol,List.getElem?_drop] at hv
  split at hv
  ·split at hv
   ·rw [Nat.add_assoc];exact (BE hrow hv).2
   ·cases hv
  ·cases hv
 split
 ·rename_i hagg
  intro hc hN
  obtain ⟨β',h2,h4,h6,h7⟩:=main (by simpa [Cd] using hc) hN
  refine ⟨β',w,?_,h2,by simpa [SV.on] using h4⟩
  rw [hrun,EM ht w _ _ _ h6 h7 hagg];simp [SV.den]
 ·rename_i hagg
  split
  ·rename_i y
   split
   ·rename_i hn
    have hn:=ac hn
    intro hc
    obtain ⟨β',h2,h4,h6,h7⟩:=main (by simpa [Cd] using hc) (fun j h1 h2=>by omega)
    refine ⟨?_,trivial⟩
    rw [hrun,B2 ht w _ _ _ (by simpa using h7 0 _ rfl) hagg];simp [SV.den,Result.andThen]
   ·intro hc hN
    obtain ⟨β',h2,h4,h6,h7⟩:=main (by simpa [Cd] using hc) hN
    refine ⟨β',w,?_,h2,h4.1⟩
    rw [hrun,B2 ht w _ _ _ (by simpa using h7 0 _ rfl) hagg];rfl
  ·rename_i y _
   intro hc hN
   obtain ⟨β',h2,h4,h6,h7⟩:=main (by simpa [Cd] using hc) hN
   refine ⟨β',w,?_,h2,h4.1⟩
   rw [hrun,B2 ht w _ _ _ (by simpa using h7 0 _ rfl) hagg];rfl
  ·trivial
theorem V1 {o:Oper} {T:Nat} {x:Operand} {t:TI} {i e off τ E:Nat} {l:List (S.T τ)} (hg:G w0 F D0 D s N β a w) (ht:t.ok S P T) (ho:o.op=.load T x) (hx:ev s x=some (.ep i (S.sz τ) e off)) (hi:lk s.o i=some (.tr τ E l)):
  R.Sound P w0 F D0 D s N β a w o (kG t s τ l e off):=by
 obtain ⟨_,vs,hrow,hvs⟩:=hg.gh.own i _ hi
 exact YL ht ho (by rw [AE hg hx];simp only [SV.den]) hrow hvs
theorem VB {i z e:Nat} {β':Nat->Nm}: ∀ {fs:List (FC S.T)} {cs:List SV} {us:List Value} {p:Nat},AD β' cs=us->(∀ j σ E m,fs[j]?=some (.ow σ E m)->us[j]?=some ((β' i).hd (e*z+(p+j))))->AD β' (Sd i z e fs cs p)=us
 | [],cs,us,p,h,_=>by simpa [Sd] using h
 | f::r,[],us,p,h,_=>by cases f<;>simpa [Sd] using h
 | f::r,c::cs,us,p,h,hh=>by
  subst h
  have ih:=VB (fs:=r) (cs:=cs) (p:=p+1) (β':=β') (i:=i) (z:=z) (e:=e) rfl (fun j σ E m hj=>by
   have:=hh (j+1) σ E m (by simpa using hj)
   simpa [AD,Nat.add_assoc,Nat.add_comm 1 j] using this)
  cases f with
  | ow σ E m=>
   have:=hh 0 σ E m rfl
   simp only [AD,List.getElem?_cons_zero,am,Nat.add_zero] at this
   simp only [Sd,AD,ih,SV.den,this]
  | _=>simp only [Sd,AD,ih]
theorem ZF {i z e:Nat} {N:Nat->Prop} (hi:N i): ∀ {fs:List (FC S.T)} {cs:List SV} {p:Nat},BZ N cs->BZ N (Sd i z e fs cs p)
 | [],cs,p,h=>by simpa [Sd] using h
 | f::r,[],p,h=>by cases f<;>simpa [Sd] using h
 | f::r,c::cs,p,h=>by
  have ih:=ZF (z:=z) (e:=e) hi (fs:=r) (p:=p+1) h.2
  cases f with
  | ow σ E m=>exact ⟨hi,ih⟩
  | _=>exact ⟨h.1,ih⟩
theorem V0 {o:Oper} {T:Nat} {x:Operand} {t:TI} {i e off τ E:Nat} {l:List (S.T τ)} (hg:G w0 F D0 D s N β a w) (ht:t.ok S P T) (ho:o.op=.load T x) (hx:ev s x=some (.ep i (S.sz τ) e off)) (hi:lk s.o i=some (.dp τ E l)):
  R.Sound P w0 F D0 D s N β a w o (ng t s τ l i e off):=by
 have hrun:(execOp a.eval o).run P w=((loadVar T ⟨(β i).AX,e*S.sz τ+off,none⟩).run P w).andThen fun v w=>.ok (.value v) w:=by
  simp [execOp,ho,AE hg hx,SV.den,Instr.loadAt,Instr.sureAddr]
 obtain ⟨_,vs,hrow,hvs,hnest⟩:=hg.gh.own i _ hi
 have hNi:=(hg.gh.By i _ hi).1
 unfold ng
 split
 rename_i cs o1 n' hu
 split
 case h_2=>trivial
 rename_i hlen
 have hlen:=ac hlen
 have main:e<l.length->(∀ j,s.n<=j->j<n'->¬ N j)-> ∃ β',CG D D N s.n n' o1 β β' w w/\BZ (more N s.n n') (Sd i (S.sz τ) e (((S.enc τ (l.getD e (S.A4 τ))).drop off).take t.sz) cs off)/\(AD β' (Sd i (S.sz τ) e (((S.enc τ (l.getD e (S.A4 τ))).drop off).take t.sz) cs off)).length=t.sz/\
   ∀ j v,(AD β' (Sd i (S.sz τ) e (((S.enc τ (l.getD e (S.A4 τ))).drop off).take t.sz) cs off))[j]?=some v->w.cell? ⟨(β i).AX,e*S.sz τ+off+j,none⟩=some v:=by
  intro he hN
  have h1:=((S.Ph τ hvs he (S.A4 τ)).drop off).take t.sz
  obtain ⟨β',h2,h4,h5⟩:=EP (β:=β) h1 hu hN
  have h6:AD β' (Sd i (S.sz τ) e (((S.enc τ (l.getD e (S.A4 τ))).drop off).take t.sz) cs off)=AD β' cs:=VB rfl fun j σ E m hj=>by
   rw [h4]
   rw [ol] at hj ⊢
   split at hj
   case isFalse=>cases hj
   rename_i hjt
   rw [if_pos hjt]
   rw [List.getElem?_drop] at hj ⊢
   have hz:=JH hj
   rw [ol,if_pos hz,List.getElem?_drop,<- h2.agree i hNi]
   exact (hnest.row e _ (off+j) σ E m (getD_some he) hj).1
  refine ⟨β',h2,ZF (.inl hNi) h5,by rw [h6,AI,hlen],fun j v hv=>?_⟩
  rw [h6,h4] at hv
  simp only [ol,List.getElem?_drop] at hv
  split at hv
  ·split at hv
   ·rw [Nat.add_assoc];exact (BE hrow hv).2
   ·cases hv
  ·cases hv
 split
 ·rename_i hagg
  intro hc hN
  obtain ⟨β',h2,h4,h6,h7⟩:=main (by simpa [Cd] using hc) hN
  refine ⟨β',w,?_,h2,by simpa [SV.on] using h4⟩
  rw [hrun,EM ht w _ _ _ h6 h7 hagg];simp [SV.den]
 ·rename_i hagg
  split
  ·rename_i y hy
   intro hc hN
   obtain ⟨β',h2,h4,h6,h7⟩:=main (by simpa [Cd] using hc) hN
   rw [hy] at h4 h7
   refine ⟨β',w,?_,h2,h4.1⟩
   rw [hrun,B2 ht w _ _ _ (by simpa using h7 0 _ rfl) hagg];rfl
  ·trivial
theorem Sk {o:Oper} {b:Bool} {r:R S} (h:b=true->R.Sound P w0 F D0 D s N β a w o r):R.Sound P w0 F D0 D s N β a w o (dw b r):=by
 unfold dw
 split
 ·intro hc hN
  simp only [Cd,dl] at hc
  exact h hc.1 hc.2 hN
 ·intro hc
  simp only [Cd,dl] at hc
  exact h hc.1 hc.2
 ·trivial
theorem Ks {k:IntKind}: ∀ {n:Nat} {cs:List SV} {l:List Int},JN k n cs=some l->l.length=n/\n<=cs.length/\ ∀ (j:Nat) x,l[j]?=some x->cs[j]?=some (.v (.int k x))
 | 0,cs,l,h=>by simp only [JN,am] at h;subst h;simp
 | n+1,[],l,h=>by simp [JN] at h
 | n+1,c::r,l,h=>by
  unfold JN at h
  split at h
  ·rename_i heq;omega
  ·rename_i n' k' x r' e1 e2
   cases e1;cases e2
   split at h
   ·rename_i l' hk hl
    cases h
    obtain ⟨h1,h2,h3⟩:=Ks hl
    refine ⟨by simp [h1],by simpa using h2,fun j y hj=>?_⟩
    cases j with
    | zero=>simp only [List.getElem?_cons_zero,am] at hj ⊢; rw [(DR _ _).1 hk,hj]
    | succ j=>simp only [List.getElem?_cons_succ] at hj ⊢; exact h3 j y hj
   ·cases h
  ·cases h
theorem SH {k:IntKind} {e:Nat} {v:Int}: ∀ (l:List Int) (m j:Nat),(Ql k e v m l)[j]?=(l[j]?).map fun x=>SV.v (.int k (if e=m+j then v else x))
 | [],m,j=>by simp [Ql]
 | x::r,m,0=>by simp [Ql]
 | x::r,m,j+1=>by simp only [Ql,List.getElem?_cons_succ,SH r (m+1) j,Nat.add_assoc,Nat.add_comm 1 j]
theorem F0 {k:IntKind} {e:Nat} {v:Int}: ∀ (l:List Int) (m:Nat),(Ql k e v m l).length=l.length
 | [],m=>rfl
 | x::r,m=>by simp [Ql,F0 r]
theorem VW {k:IntKind} {e:Nat} {v:Int} {N:Nat->Prop}: ∀ (l:List Int) (m:Nat),BZ N (Ql k e v m l)
 | [],m=>trivial
 | x::r,m=>⟨trivial,VW r (m+1)⟩
theorem Vz {T:Nat} {t:TI} (ht:t.ok S P T) {o:Oper} {x:Operand} (ho:o.op=.load T x) {cs:List SV} {n e off g:Nat} (hx:a.eval x=.pointer (some ⟨g,off+e,none⟩)) (hc: ∀ j v,(AD β cs)[j]?=some v->w.cell? ⟨g,j,none⟩=some v):R.Sound P w0 F D0 D s N β a w o (nf t cs n e off):=by
 unfold nf
 split
 case h_2=>trivial
 rename_i k hk
 split
 case h_2=>trivial
 rename_i l hl
 obtain ⟨h1,h2,h3⟩:=Ks hl
 refine AF trivial fun hp=>?_
 have hlt:e<l.length:=by simpa [Cd] using hp
 have h4:=h3 e l[e] (co hlt)
 rw [List.getElem?_drop] at h4
 have h5:=hc (off+e) (.int k l[e]) (by rw [CM,h4];simp [SV.den])
 have hagg:t.agg=false:=by simp [TI.agg,hk]
 have h6:(loadVar T ⟨g,off+e,none⟩).run P w=.ok (.int k l[e]) w:=by
  unfold loadVar
  rw [Sem.run_bind,ht.isAgg w,Result.andThen_ok]
  simp [hagg,h5]
 simp [execOp,ho,hx,Instr.loadAt,Instr.sureAddr,h6,SV.den,hlt]
theorem G3 {tb:List (Nat×TI)} (htb:Ae S P tb) (hg:G w0 F D0 D s N β a w) {o:Oper} {T:Nat} {x:Operand} (ho:o.op=.load T x):R.Sound P w0 F D0 D s N β a w o (JJ tb s T x):=by
 unfold JJ
 split
 case h_2=>trivial
 rename_i t ht
 have hok:=htb.get ht
 split
 ·rename_i i off hx
  have hv:=AE hg hx
  simp only [SV.den] at hv
  split
  ·rename_i U cs hi
   obtain ⟨g,h1,h2⟩:=hg.gh.own i _ hi
   refine NT (o0:=0) (bk:=g) hok ho (by simpa [Nm.AX,h1] using hv) (fun j v hv=>?_) (hg.gh.By i _ hi).2
   rw [Nat.zero_add,cell_of_row w g j _ U _ h2];simpa using hv
  ·rename_i U sz n cs hi
   refine NT (o0:=0) hok ho (by simpa using hv) (fun j v hv=>?_) (hg.gh.By i _ hi).2
   rw [Nat.zero_add];exact (BE (hg.gh.own i _ hi) hv).2
  ·trivial
 ·rename_i i off hx
  have hv:=AE hg hx
  simp only [SV.den] at hv
  split
  ·rename_i cs hi
   obtain ⟨_,b,o0,h1,_,h3⟩:=hg.gh.own i _ hi
   exact NT (o0:=o0) (bk:=b) hok ho (by simpa [Nm.at,h1] using hv) h3 (hg.gh.By i _ hi).2
  ·trivial
 ·rename_i i n e off hx
  have hv:=AE hg hx
  simp only [SV.den] at hv
  split
  ·rename_i U cs hi
   obtain ⟨g,hb,hh⟩:=hg.gh.own i _ hi
   have A5:(β i).AX=g:=by simp [Nm.AX,hb]
   refine Vz hok ho (by rw [hv,A5]) fun j v hj=>?_
   simpa [World.cell?,hh] using hj
  ·trivial
 ·rename_i i esz e off hx
  split
  ·rename_i τ E l hi
   split
   ·rename_i hz
    have hz:=ac hz;subst hz
    exact V1 hg hok ho hx hi
   ·trivial
  ·rename_i τ E l hi
   split
   ·rename_i hz
    have hz:=ac hz;subst hz
    exact V0 hg hok ho hx hi
   ·trivial
  ·rename_i κ τ ag E ls hi
   split
   ·rename_i hz h0 hagg
    have hz:=ac hz;subst hz
    have h0:=ac h0;subst h0
    refine AF (by simpa [SV.on] using CW hg hx) fun hc=>?_
    have he:e<ls.length:=by simpa [Cd] using hc
    obtain ⟨_,vs,hrow,hm⟩:=hg.gh.own i _ hi
    obtain ⟨b,c,hsub,hvs,_⟩:=hm.cell e _ (co he)
    obtain ⟨g,hgb⟩: ∃ g,(β i).b=some g:=⟨_,A6 hrow (by omega)⟩
    have hcell:=(BE hrow hvs).2
    have hv:a.eval x=.pointer (some ⟨g,e,none⟩):=by rw [AE hg hx];simp [SV.den,Nm.AX,hgb]
    have hcell':w.cell? ⟨g,e,none⟩=some (.map (some b)):=by
     simpa [Nm.AX,hgb] using hcell
    have h2:=B2 hok w g e (.map (some b)) hcell' hagg
    simp [execOp,ho,hv,Instr.loadAt,Instr.sureAddr,h2,SV.den,hsub]
   ·trivial
  ·trivial
 ·rename_i i z e off y j q hx
  split
  case h_2=>trivial
  rename_i τ E l hi
  split
  case h_2=>trivial
  rename_i σ hz hσ
  have hz:=ac hz;subst hz
  split
  case h_2=>trivial
  rename_i m hy hm
  have hy:=ac hy;subst hy
  refine Sk fun hb=>?_
  have he:e<l.length:=by simpa using hb
  obtain ⟨_,vs,hrow,hvs,hnest⟩:=hg.gh.own i _ hi
  obtain ⟨E1,hE1⟩:=J3 hm
  obtain ⟨_,us,hr1,hu1⟩:=hnest.row e _ off σ E1 m (getD_some he) hE1
  obtain ⟨hv,hvb,hvn⟩:=EK (len:=m.length) hr1
  rw [hv] at hr1
  exact YL hok ho (by rw [AE hg hx];simp only [SV.den,Nt]) hr1 hu1
 ·trivial
theorem Qo {T:Nat} {t:TI} (ht:t.ok S P T) {v:Value} {vs:List Value} (hv:v.cells.toList=vs) (hl:vs.length=t.sz) (b off:Nat) {w':World} (h:(storeCells ⟨b,off,none⟩ vs 0).run P w=.ok () w'):
  (storeVar T ⟨b,off,none⟩ v).run P w=.ok () w':=by
 unfold storeVar
 rw [Sem.run_bind,ht.size w,Result.andThen_ok]
 have hsz:v.cells.size=t.sz:=by rw [<-hl,<- hv];simp
 simp [hsz,hv,h]
theorem GH.same {o o':List (Nat×Own S)} (hg:GH w0 F D0 D o N β w) (hs: ∀ j,lk o' j=lk o j):GH w0 F D0 D o' N β w:=hg.Hh fun i _ h=>(hs i)▸h
theorem VD {o:List (Nat×Own S)} {i:Nat} {b:Own S} (h:lk o i=some b): ∀ j,lk (pt o i b) j=lk o j:=fun j=>by
 rw [FB];split
 ·rename_i he;subst he;exact h.symm
 ·rfl
theorem Og {tb:List (Nat×TI)} (htb:Ae S P tb) (hg:G w0 F D0 D s N β a w) {o:Oper} {T:Nat} {x y:Operand} (ho:o.op=.store T x y):R.Sound P w0 F D0 D s N β a w o (IY tb s T x y):=by
 unfold IY
 split
 case h_2=>trivial
 rename_i t ht
 have ht:=htb.get ht
 split
 case h_2=>trivial
 rename_i new h3
 obtain ⟨yv,hy1,hy2⟩:=Option.bind_eq_some_iff.1 h3
 obtain ⟨hcells,hnew⟩:=Kg hy2 β
 have hynb:=CW hg hy1
 split
 case h_2=>trivial
 rename_i hl
 have hl:=ac hl
 have hrun: ∀ bk off w',a.eval x=.pointer (some ⟨bk,off,none⟩)->(storeCells ⟨bk,off,none⟩ (AD β new) 0).run P w=.ok () w'->(execOp a.eval o).run P w=.ok .skip w':=fun bk off w' hx h=>by
  have:=Qo ht hcells (by rw [AI];exact hl) bk off h
  simp [execOp,ho,hx,AE hg hy1,Instr.storeAt,Instr.sureAddr,this]
 split
 ·rename_i i off hx
  have hv:=AE hg hx
  simp only [SV.den] at hv
  split
  ·rename_i U cs hi
   split
   case h_2=>trivial
   rename_i hle hone
   have hle:=dk hle
   intro _
   obtain ⟨g,hb,hh⟩:=hg.gh.own i _ hi
   have A5:(β i).AX=g:=by simp [Nm.AX,hb]
   obtain ⟨w',hr,htn⟩:=EN (P:=P) U g (AD β new) w (AD β cs) off 0 hh (Gy β hone) (by rw [AI,AI];omega)
   refine ⟨w',hrun _ off w' (by rw [hv,A5]) hr,?_⟩
   refine hg.gh.LL hi (.inl hb) (UD (hg.gh.By i _ hi).2 (hnew _ hynb)) htn.os htn.tape htn.output (Nat.le_of_eq htn.size.symm) (fun j _ hj=>htn.block j hj) ⟨g,hb,?_⟩
   rw [htn.here,UC hle,Hr];simp
  ·rename_i U sz n cs hi
   split
   case h_2=>trivial
   rename_i hle hone
   have hle:=dk hle
   intro _
   have hrow:=hg.gh.own i _ hi
   by_cases h0:new=[]
   ·subst h0
    refine ⟨w,hrun _ off w hv (by simp [AD,storeCells]),?_⟩
    have:aC cs off []=cs:=by simp [aC]
    rw [this]
    exact hg.gh.same (VD hi)
   ·obtain ⟨w',hr,hrow',hb,h1,h2,h3,h4,h5⟩:=IG (P:=P) hrow (Gy β hone) (by rw [AI,AI];exact hle) (fun h=>h0 (by have:=congrArg List.length h;rw [AI] at this;exact jp this))
    refine ⟨w',hrun _ off w' hv hr,?_⟩
    refine hg.gh.LL hi (.inl hb) (UD (hg.gh.By i _ hi).2 (hnew _ hynb)) h1 h2 h3 (Nat.le_of_eq h4.symm) (fun j _ hj=>h5 j hj) ?_
    simp only [Own.holds]
    rw [UC hle,Hr];exact hrow'
  ·trivial
 ·rename_i i esz e off hx
  have hv:=AE hg hx
  simp only [SV.den] at hv
  split
  ·rename_i τ E l hi
   split
   case h_2=>trivial
   rename_i hz
   have hz:=ac hz;subst hz
   split
   case h_2=>trivial
   rename_i q hq
   intro hc
   have he:e<l.length:=by simpa [Cd] using hc
   obtain ⟨hlen,vs,hrow,hvs⟩:=hg.gh.own i _ hi
   obtain ⟨hb,_,w',hr,hrow',hvs',h3,h4,h5,h6,h7⟩:=fy (P:=P) hg.gh hrow hvs he hq
   refine ⟨w',hrun _ _ w' hv hr,?_⟩
   have hD: ∀ k,D k->w'.heap[k]?=w.heap[k]?:=fun k hk=>h7 k fun hkb=>by subst hkb;exact hg.gh.off i _ _ hi (.inl hb) hk
   exact hg.gh.LL hi (.inl hb) trivial h3 h4 h5 (Nat.le_of_eq h6.symm) (fun j _ hj=>h7 j hj) ⟨by simpa using hlen,_,by rw [List.length_set];exact hrow',hvs'.B4 hD fun _ h=>h⟩
  ·rename_i τ E l hi
   split
   case h_2=>trivial
   rename_i hz
   have hz:=ac hz;subst hz
   split
   case h_2=>trivial
   rename_i q hq
   intro hc
   have he:e<l.length:=by simpa [Cd] using hc
   obtain ⟨hlen,vs,hrow,hvs,hnest⟩:=hg.gh.own i _ hi
   obtain ⟨hb,hbd,w',hr,hrow',hvs',h3,h4,h5,h6,h7⟩:=fy (P:=P) hg.gh hrow hvs he hq
   refine ⟨w',hrun _ _ w' hv hr,?_⟩
   have hD: ∀ k,D k->w'.heap[k]?=w.heap[k]?:=fun k hk=>h7 k fun hkb=>by subst hkb;exact hg.gh.off i _ _ hi (.inl hb) hk
   have hvl:vs.length=l.length*S.sz τ:=by rw [<-hvs.1,S.Au]
   refine hg.gh.LL hi (.inl hb) trivial h3 h4 h5 (Nat.le_of_eq h6.symm) (fun j _ hj=>h7 j hj) ⟨by simpa using hlen,_,by rw [List.length_set];exact hrow',hvs'.B4 hD fun _ h=>h,?_⟩
   refine (hnest.put he hvl hq (by rw [AI]) hbd).B4 (fun c k cap hs=>h7 k fun e=>hnest.ne _ _ _ hs ?_) hD fun _ h=>h
   rw [e];exact hb
  ·trivial
 ·rename_i i z e off y j q0 hx
  have hv:=AE hg hx
  simp only [SV.den] at hv
  split
  case h_2=>trivial
  rename_i τ E l hi
  split
  case h_2=>trivial
  rename_i σ hz hσ
  have hz:=ac hz;subst hz
  split
  case h_2=>trivial
  rename_i m hy hm
  have hy:=ac hy;subst hy
  split
  case h_2=>trivial
  rename_i q hq
  split
  case h_2=>trivial
  rename_i p hp
  intro hc
  simp only [Cd,ii] at hc
  obtain ⟨hlen,vs,hrow,hvs,hnest⟩:=hg.gh.own i _ hi
  obtain ⟨w',hr,hhas,hh,h3,h4,h5,h6,h7⟩:=V8 (P:=P) hg.gh hlen hrow hvs hnest hc.1 hc.2 hm hq hp (fun k hk=>hg.gh.off i _ k hi hk)
  exact ⟨w',hrun _ _ w' hv hr,hg.gh.LL hi hhas trivial h3 h4 h5 (Nat.le_of_eq h6.symm) (fun j _ hj=>h7 j hj) hh⟩
 ·rename_i i n e off hx
  have hv:=AE hg hx
  simp only [SV.den] at hv
  split
  case h_2=>trivial
  rename_i U cs hi
  unfold pL
  split
  case h_2=>trivial
  rename_i k k0 v hk _
  split
  case h_2=>trivial
  rename_i l hkk hl'
  have hkk:=(DR _ _).1 hkk
  subst hkk
  obtain ⟨h1,h2,h3⟩:=Ks hl'
  intro hc
  have hlt:e<l.length:=by simpa [Cd] using hc
  simp only [List.length_drop] at h2
  obtain ⟨g,hb,hh⟩:=hg.gh.own i _ hi
  have A5:(β i).AX=g:=by simp [Nm.AX,hb]
  obtain ⟨w',hr,htn⟩:=EN (P:=P) U g (AD β [.v (.int k0 v)]) w (AD β cs) (off+e) 0 hh (Gy β rfl) (by rw [AI,AI];simp only [List.length_singleton];omega)
  refine ⟨w',hrun _ (off+e) w' (by rw [hv,A5]) hr,?_⟩
  refine hg.gh.LL hi (.inl hb) (Eh (A0.2 fun y hy=>A0.1 (hg.gh.By i _ hi).2 y (List.mem_of_mem_take hy)) (Eh (VW l 0) (A0.2 fun y hy=>A0.1 (hg.gh.By i _ hi).2 y (List.mem_of_mem_drop hy)))) htn.os htn.tape htn.output (Nat.le_of_eq htn.size.symm) (fun j _ hj=>htn.block j hj) ⟨g,hb,?_⟩
  rw [htn.here]
  congr 2
  rw [Nat.add_zero]
  congr 1
  apply List.ext_getElem?
  intro j
  rw [CP _ _ _ (by rw [AI,AI];simp only [List.length_singleton];omega),AI,List.length_singleton]
  simp only [CM]
  have hto:(cs.take off).length=off:=by rw [List.length_take];omega
  by_cases c1:j<off
  ·rw [if_pos (by omega),el (by omega),ol,if_pos c1]
  ·rw [kw (by omega),hto]
   by_cases c2:j<off+n
   ·rw [el (by rw [F0];omega),SH]
    have hjl:j -off<l.length:=by omega
    have h4:=h3 (j -off) l[j -off] (co hjl)
    rw [List.getElem?_drop,show off+(j -off)=j by omega] at h4
    rw [co hjl,h4]
    simp only [Option.map_some,SV.den,Nat.zero_add]
    by_cases c3:e=j -off
    ·rw [if_neg (by omega),if_pos (by omega),if_pos c3,show j -(off+e)=0 by omega];simp [SV.den]
    ·rw [if_neg c3]
     by_cases c4:j<off+e
     ·rw [if_pos c4]
     ·rw [if_neg c4,if_neg (by omega)]
   ·rw [kw (by rw [F0];omega),F0,List.getElem?_drop,if_neg (by omega),if_neg (by omega)]
    congr 2;omega
 ·trivial
end
end Go.En
