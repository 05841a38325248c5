/-
 The evaluation is sound: loads, stores, tests, numbers, fields.
-/
import Derived.Test.YtikecakpcfpghaaGreatDoorEn4
set_option linter.all false
namespace Go.En
open Go.RowKit
def GX {S:Aq}:Own S->Nat->SV
 | .AN _ _,n=>.ptr n 0
 | .row _ _ k _,n=>.row n k
 | .tr _ _ _,n=>.tr n
 | .obj _,n=>.Bv n
 | .dp _ _ _,n=>.tr n
 | .mp _ _ _ _,n=>.Bv n
 | _,n=>.h n
section
variable {S:Aq} {P:Program} {w0:World} {F D0 D:Nat->Prop} {s:St S} {N:Nat->Prop} {β:Nat->Nm} {a:Act} {w:World}
def mu (P:Program) (w0:World) (F D0 D:Nat->Prop) (n:Nat) (β:Nat->Nm) (a:Act) (w:World) (op:Oper) (o':List (Nat×Own S)) (n':Nat) (x:SV):Prop:=
 ∃ β' w',(execOp a.eval op).run P w=.ok (.value (x.den β')) w'/\(∀ i,i<n->β i=β' i)/\GH w0 F D0 D o' (· <n') β' w'/\x.on (· <n')/\n<=n'
def XG (P:Program) (w0:World) (F D0 D:Nat->Prop) (n:Nat) (N:Nat->Prop) (β:Nat->Nm) (a:Act) (w:World) (op:Oper) (o':List (Nat×Own S)):Prop:=
 ∃ β' w',(execOp a.eval op).run P w=.ok (.value ((SV.tr n).den β')) w'/\(∀ i,N i->β i=β' i)/\GH w0 F D0 D o' (fun i=>N i\/i=n) β' w'
theorem XG.ok {n:Nat} {op:Oper} {o':List (Nat×Own S)} (h:XG P w0 F D0 D n (· <n) β a w op o'):mu P w0 F D0 D n β a w op o' (n+1) (.tr n):=by
 obtain ⟨β',w',h1,h2,h3⟩:=h
 rw [C1] at h3
 exact ⟨β',w',h1,h2,h3,Nat.lt_succ_self _,by omega⟩
def R.Sound (P:Program) (w0:World) (F D0 D:Nat->Prop) (s:St S) (N:Nat->Prop) (β:Nat->Nm) (a:Act) (w:World) (o:Oper):R S->Prop
 | R.val c y=>CB c->(execOp a.eval o).run P w=.ok (.value (y.den β)) w/\y.on N
 | R.new b=>b.on N/\ ∃ ob len cap,∀ (n:Nat) (β':Nat->Nm),(∀ i,N i->β i=β' i)->β' n=⟨some w.heap.size,len,cap,undef⟩->
   (execOp a.eval o).run P w=.ok (.value ((GX b n).den β')) (w.alloc ob)/\b.holds D β' (w.alloc ob) ⟨some w.heap.size,len,cap,undef⟩
 | R.SC c i b=>CB c-> ∃ w',(execOp a.eval o).run P w=.ok .skip w'/\GH w0 F D0 D (pt s.o i b) N β w'
 | R.nm c o1 n' v=>CB c->(∀ j,s.n<=j->j<n'->¬ N j)-> ∃ β' w',(execOp a.eval o).run P w=.ok (.value (v.den β')) w'/\Bz D D N s.n n' o1 β β' w w'/\v.on (more N s.n n')
 | R.x c o' n' v=>CB c->N=(· <s.n)->mu P w0 F D0 D s.n β a w o o' n' v
 | R.stop=>True
theorem Ge {n:Int} (h:BD n=true):IntKind.i64.wrap n=n:=IntWalk.i64_in _ (Ch.1 h)
theorem run_equal_bool (T:Nat) (a b:Bool) (P:Program) (w:World) (h:P.underlying T=some .bool):(Op.equal T (.bool a) (.bool b)).run P w=.ok (a == b) w:=
 run_equalIn_bool' w 9999 T a b h
theorem IC {α:Type} [BEq α] [LawfulBEq α] [DecidableEq α] (a b:α):(a == b)=decide (a=b):=by rw [Bool.eq_iff_iff];simp
theorem AD {o:Oper} {c:Option Bool} {x:SV} (hx:x.on N) (h:CB c->(execOp a.eval o).run P w=.ok (.value (x.den β)) w):R.Sound P w0 F D0 D s N β a w o (.val c x):=
 fun hp=>⟨h hp,hx⟩
theorem KQ {x:SV} {cs:List SV} (h:x.cells=some cs) (β:Nat->Nm):(x.den β).cells.toList=AA β cs/\ ∀ N,x.on N->BR N cs:=by
 have one: ∀ v:Value,v.oneCell'=true->v.cells.toList=[v]:=fun v hv=>by cases v<;>first|rfl|simp [Value.oneCell'] at hv
 have map_v: ∀ l:List Value,AA β (l.map SV.v)=l:=fun l=>by
  induction l with
  | nil=>simp [AA]
  | cons x r ih=>simp [AA,SV.den,ih]
 have on_map: ∀ (N:Nat->Prop) (l:List Value),BR N (l.map SV.v):=fun N l=>Ay.2 fun x hx=>by obtain ⟨v,_,rfl⟩:=List.mem_map.1 hx;trivial
 cases x with
 | v x=>cases x<;>simp only [SV.cells,Option.some.injEq,reduceCtorEq] at h<;>subst h<;>simp [SV.den,Value.cells,AA,BR,SV.on,map_v,on_map]
 | agg cs=>simp only [SV.cells,Option.some.injEq] at h;subst h;simp [SV.den,Value.cells,SV.on]
 | h i=>simp only [SV.cells,Option.some.injEq] at h;subst h;simp [AA,BR,SV.on];exact one _ (Nm.ZE _)
 | hm i=>simp only [SV.cells,Option.some.injEq] at h;subst h;simp [AA,BR,SV.on];exact one _ (Nm.YR _)
 | vp i o=>simp only [SV.cells,Option.some.injEq] at h;subst h;simp [AA,BR,SV.on];exact one _ (Nm.at_one _ _)
 | pr i z e o=>simp only [SV.cells,Option.some.injEq] at h;subst h;simp [AA,BR,SV.on];exact one _ (Nm.Xb _ _)
 | Gg cs=>simp [SV.cells] at h
 | fn f c=>simp only [SV.cells,Option.some.injEq] at h;subst h;simp [AA,BR,SV.on,SV.den];exact one _ (UD _ _)
 | _=>simp only [SV.cells,Option.some.injEq] at h;subst h;simp [SV.den,Value.cells,AA,BR,SV.on]
theorem one_den {x:SV} (h:x.one=true) (β:Nat->Nm):(x.den β).oneCell'=true:=by
 cases x<;>first|exact Nm.ZE _|exact Nm.YR _|exact Nm.at_one _ _|exact Nm.Xb _ _|(simp only [SV.den];exact UD _ _)|simp_all [SV.one,SV.den,Value.oneCell']
theorem Gi (β:Nat->Nm): ∀ {l:List SV},MR l=true-> ∀ v∈AA β l,v.oneCell'=true
 | [],_,v,hv=>by simp [AA] at hv
 | x::r,h,v,hv=>by
  simp only [MR] at h
  split at h
  ·rename_i hx
   simp only [AA,List.mem_cons] at hv
   rcases hv with rfl|hv
   ·exact one_den hx β
   ·exact Gi β h v hv
  ·cases h
theorem Ti {cs:List SV} {off:Nat} {new:List SV} (h:off+new.length<=cs.length):Ze cs off new=AX cs off new:=by
 unfold Ze
 split
 ·rename_i x
  simp only [List.length_singleton] at h
  unfold AX
  rw [List.set_eq_take_append_cons_drop,if_pos (by omega)]
  simp
 ·rfl
theorem HW (β:Nat->Nm) (cs:List SV) (off:Nat) (new:List SV):AA β (AX cs off new)=AX (AA β cs) off (AA β new):=by
 simp [AX,DV,List.map_take,List.map_drop]
theorem TQ {N:Nat->Prop} {cs new:List SV} {off:Nat} (h1:BR N cs) (h2:BR N new):BR N (AX cs off new):=by
 rw [Ay] at*
 intro x hx
 simp only [AX,List.mem_append] at hx
 rcases hx with (hx|hx)|hx
 ·exact h1 x (List.mem_of_mem_take hx)
 ·exact h2 x hx
 ·exact h1 x (List.mem_of_mem_drop hx)
theorem Tj {N:Nat->Prop} {cs new:List SV} {off:Nat} (h1:BR N cs) (h2:BR N new):BR N (Ze cs off new):=by
 unfold Ze
 split
 ·rename_i x
  rw [Ay] at*
  intro y hy
  rcases List.mem_or_eq_of_mem_set hy with h|h
  ·exact h1 y h
  ·exact h2 y (by simp [h])
 ·exact TQ h1 h2
theorem M5 {o:Oper} {T:Nat} {x:Operand} {t:TI} {bk o0 off:Nat} {cs:List SV} (ht:t.ok S P T) (ho:o.op=.load T x) (hx:a.eval x=.pointer (some ⟨bk,o0+off,none⟩)) (hcell: ∀ j v,(AA β cs)[j]?=some v->w.cell? ⟨bk,o0+j,none⟩=some v) (hn:BR N cs):
  R.Sound P w0 F D0 D s N β a w o (ld t cs off):=by
 have hrun:(execOp a.eval o).run P w=((loadVar T ⟨bk,o0+off,none⟩).run P w).andThen fun v w=>.ok (.value v) w:=by
  simp [execOp,ho,hx,Instr.loadAt,Instr.sureAddr]
 unfold ld
 split
 ·rename_i hagg
  split
  ·rename_i hle
   have hle:=Nat.le_of_ble_eq_true hle
   have h1:=EE ht w bk (o0+off) (AA β ((cs.drop off).take t.sz)) (by rw [AF];simp;omega) (fun j v hv=>by
    rw [Nat.add_assoc]
    refine hcell (off+j) v ?_
    simp only [B1,List.getElem?_take,List.getElem?_drop] at hv ⊢
    split at hv
    ·exact hv
    ·simp at hv) hagg
   refine AD ?_ fun _=>by rw [hrun,h1];simp [SV.den]
   simp only [SV.on]
   rw [Ay] at hn ⊢
   exact fun y hy=>hn y (List.mem_of_mem_drop (List.mem_of_mem_take hy))
  ·trivial
 ·rename_i hagg
  split
  ·rename_i y hy
   have h2:=Bm ht w bk (o0+off) (y.den β) (hcell off _ (by rw [B1,hy];rfl)) hagg
   exact AD (Ay.1 hn y (List.mem_of_getElem? hy)) fun _=>by rw [hrun,h2];rfl
  ·trivial
theorem Xv {o:Oper} {T:Nat} {x:Operand} {t:TI} {nm:Nm} {e off τ E:Nat} {l:List (S.T τ)} {vs:List Value} (ht:t.ok S P T) (ho:o.op=.load T x) (hx:a.eval x=.pointer (some ⟨nm.AN,e*S.sz τ+off,none⟩)) (hrow:w.ownsRow 0 E (S.sz τ) (.slice (nm.b.map fun b=>⟨b,0,none⟩) l.length nm.cap) l.length vs) (hvs:AE S w D (S.flat τ l) vs):
  R.Sound P w0 F D0 D s N β a w o (jJ t s τ l e off):=by
 have hrun:(execOp a.eval o).run P w=((loadVar T ⟨nm.AN,e*S.sz τ+off,none⟩).run P w).andThen fun v w=>.ok (.value v) w:=by
  simp [execOp,ho,hx,Instr.loadAt,Instr.sureAddr]
 unfold jJ
 split
 rename_i cs o1 n' hu
 split
 case h_2=>trivial
 rename_i hlen
 have hlen:=Nat.eq_of_beq_eq_true hlen
 have main:e<l.length->(∀ j,s.n<=j->j<n'->¬ N j)-> ∃ β',Bz D D N s.n n' o1 β β' w w/\BR (more N s.n n') cs/\(AA β' cs).length=t.sz/\ ∀ j v,(AA β' cs)[j]?=some v->w.cell? ⟨nm.AN,e*S.sz τ+off+j,none⟩=some v:=by
  intro he hN
  have h1:=((S.PE τ hvs he (S.A5 τ)).drop off).take t.sz
  obtain ⟨β',h2,h4,h5⟩:=EI (β:=β) h1 hu hN
  refine ⟨β',h2,h5,by rw [AF,hlen],fun j v hv=>?_⟩
  rw [h4] at hv
  simp only [List.getElem?_take,List.getElem?_drop] at hv
  split at hv
  ·split at hv
   ·rw [Nat.add_assoc];exact (BG hrow hv).2
   ·cases hv
  ·cases hv
 split
 ·rename_i hagg
  intro hc hN
  obtain ⟨β',h2,h4,h6,h7⟩:=main (by simpa [CB] using hc) hN
  refine ⟨β',w,?_,h2,by simpa [SV.on] using h4⟩
  rw [hrun,EE ht w _ _ _ h6 h7 hagg];simp [SV.den]
 ·rename_i hagg
  split
  ·rename_i y
   split
   ·rename_i hn
    have hn:=Nat.eq_of_beq_eq_true hn
    intro hc
    obtain ⟨β',h2,h4,h6,h7⟩:=main (by simpa [CB] using hc) (fun j h1 h2=>by omega)
    refine ⟨?_,trivial⟩
    rw [hrun,Bm ht w _ _ _ (by simpa using h7 0 _ rfl) hagg];simp [SV.den,Result.andThen]
   ·intro hc hN
    obtain ⟨β',h2,h4,h6,h7⟩:=main (by simpa [CB] using hc) hN
    refine ⟨β',w,?_,h2,h4.1⟩
    rw [hrun,Bm ht w _ _ _ (by simpa using h7 0 _ rfl) hagg];rfl
  ·rename_i y _
   intro hc hN
   obtain ⟨β',h2,h4,h6,h7⟩:=main (by simpa [CB] using hc) hN
   refine ⟨β',w,?_,h2,h4.1⟩
   rw [hrun,Bm ht w _ _ _ (by simpa using h7 0 _ rfl) hagg];rfl
  ·trivial
theorem Vj {o:Oper} {T:Nat} {x:Operand} {t:TI} {i e off τ E:Nat} {l:List (S.T τ)} (hg:G w0 F D0 D s N β a w) (ht:t.ok S P T) (ho:o.op=.load T x) (hx:ev s x=some (.ep i (S.sz τ) e off)) (hi:lk s.o i=some (.tr τ E l)):
  R.Sound P w0 F D0 D s N β a w o (jJ t s τ l e off):=by
 obtain ⟨_,vs,hrow,hvs⟩:=hg.gh.own i _ hi
 exact Xv ht ho (by rw [AB hg hx];simp only [SV.den]) hrow hvs
theorem Uq {i z e:Nat} {β':Nat->Nm}: ∀ {fs:List (FC S.T)} {cs:List SV} {us:List Value} {p:Nat},AA β' cs=us->(∀ j σ E m,fs[j]?=some (.ow σ E m)->us[j]?=some ((β' i).hd (e*z+(p+j))))->AA β' (SI i z e fs cs p)=us
 | [],cs,us,p,h,_=>by simpa [SI] using h
 | f::r,[],us,p,h,_=>by cases f<;>simpa [SI] using h
 | f::r,c::cs,us,p,h,hh=>by
  subst h
  have ih:=Uq (fs:=r) (cs:=cs) (p:=p+1) (β':=β') (i:=i) (z:=z) (e:=e) rfl (fun j σ E m hj=>by
   have:=hh (j+1) σ E m (by simpa using hj)
   simpa [AA,Nat.add_assoc,Nat.add_comm 1 j] using this)
  cases f with
  | ow σ E m=>
   have:=hh 0 σ E m rfl
   simp only [AA,List.getElem?_cons_zero,Option.some.injEq,Nat.add_zero] at this
   simp only [SI,AA,ih,SV.den,this]
  | _=>simp only [SI,AA,ih]
theorem Yo {i z e:Nat} {N:Nat->Prop} (hi:N i): ∀ {fs:List (FC S.T)} {cs:List SV} {p:Nat},BR N cs->BR N (SI i z e fs cs p)
 | [],cs,p,h=>by simpa [SI] using h
 | f::r,[],p,h=>by cases f<;>simpa [SI] using h
 | f::r,c::cs,p,h=>by
  have ih:=Yo (z:=z) (e:=e) hi (fs:=r) (p:=p+1) h.2
  cases f with
  | ow σ E m=>exact ⟨hi,ih⟩
  | _=>exact ⟨h.1,ih⟩
theorem Vi {o:Oper} {T:Nat} {x:Operand} {t:TI} {i e off τ E:Nat} {l:List (S.T τ)} (hg:G w0 F D0 D s N β a w) (ht:t.ok S P T) (ho:o.op=.load T x) (hx:ev s x=some (.ep i (S.sz τ) e off)) (hi:lk s.o i=some (.dp τ E l)):
  R.Sound P w0 F D0 D s N β a w o (mC t s τ l i e off):=by
 have hrun:(execOp a.eval o).run P w=((loadVar T ⟨(β i).AN,e*S.sz τ+off,none⟩).run P w).andThen fun v w=>.ok (.value v) w:=by
  simp [execOp,ho,AB hg hx,SV.den,Instr.loadAt,Instr.sureAddr]
 obtain ⟨_,vs,hrow,hvs,hnest⟩:=hg.gh.own i _ hi
 have hNi:=(hg.gh.Bk i _ hi).1
 unfold mC
 split
 rename_i cs o1 n' hu
 split
 case h_2=>trivial
 rename_i hlen
 have hlen:=Nat.eq_of_beq_eq_true hlen
 have main:e<l.length->(∀ j,s.n<=j->j<n'->¬ N j)-> ∃ β',Bz D D N s.n n' o1 β β' w w/\BR (more N s.n n') (SI i (S.sz τ) e (((S.enc τ (l.getD e (S.A5 τ))).drop off).take t.sz) cs off)/\(AA β' (SI i (S.sz τ) e (((S.enc τ (l.getD e (S.A5 τ))).drop off).take t.sz) cs off)).length=t.sz/\
   ∀ j v,(AA β' (SI i (S.sz τ) e (((S.enc τ (l.getD e (S.A5 τ))).drop off).take t.sz) cs off))[j]?=some v->w.cell? ⟨(β i).AN,e*S.sz τ+off+j,none⟩=some v:=by
  intro he hN
  have h1:=((S.PE τ hvs he (S.A5 τ)).drop off).take t.sz
  obtain ⟨β',h2,h4,h5⟩:=EI (β:=β) h1 hu hN
  have h6:AA β' (SI i (S.sz τ) e (((S.enc τ (l.getD e (S.A5 τ))).drop off).take t.sz) cs off)=AA β' cs:=Uq rfl fun j σ E m hj=>by
   rw [h4]
   rw [List.getElem?_take] at hj ⊢
   split at hj
   case isFalse=>cases hj
   rename_i hjt
   rw [if_pos hjt]
   rw [List.getElem?_drop] at hj ⊢
   have hz:=Iv hj
   rw [List.getElem?_take,if_pos hz,List.getElem?_drop,<- h2.agree i hNi]
   exact (hnest.row e _ (off+j) σ E m (getD_some he) hj).1
  refine ⟨β',h2,Yo (.inl hNi) h5,by rw [h6,AF,hlen],fun j v hv=>?_⟩
  rw [h6,h4] at hv
  simp only [List.getElem?_take,List.getElem?_drop] at hv
  split at hv
  ·split at hv
   ·rw [Nat.add_assoc];exact (BG hrow hv).2
   ·cases hv
  ·cases hv
 split
 ·rename_i hagg
  intro hc hN
  obtain ⟨β',h2,h4,h6,h7⟩:=main (by simpa [CB] using hc) hN
  refine ⟨β',w,?_,h2,by simpa [SV.on] using h4⟩
  rw [hrun,EE ht w _ _ _ h6 h7 hagg];simp [SV.den]
 ·rename_i hagg
  split
  ·rename_i y hy
   intro hc hN
   obtain ⟨β',h2,h4,h6,h7⟩:=main (by simpa [CB] using hc) hN
   rw [hy] at h4 h7
   refine ⟨β',w,?_,h2,h4.1⟩
   rw [hrun,Bm ht w _ _ _ (by simpa using h7 0 _ rfl) hagg];rfl
  ·trivial
theorem SQ {o:Oper} {b:Bool} {r:R S} (h:b=true->R.Sound P w0 F D0 D s N β a w o r):R.Sound P w0 F D0 D s N β a w o (cz b r):=by
 unfold cz
 split
 ·intro hc hN
  simp only [CB,Bool.and_eq_true] at hc
  exact h hc.1 hc.2 hN
 ·intro hc
  simp only [CB,Bool.and_eq_true] at hc
  exact h hc.1 hc.2
 ·trivial
theorem Kd {k:IntKind}: ∀ {n:Nat} {cs:List SV} {l:List Int},I2 k n cs=some l->l.length=n/\n<=cs.length/\ ∀ (j:Nat) x,l[j]?=some x->cs[j]?=some (.v (.int k x))
 | 0,cs,l,h=>by simp only [I2,Option.some.injEq] at h;subst h;simp
 | n+1,[],l,h=>by simp [I2] at h
 | n+1,c::r,l,h=>by
  unfold I2 at h
  split at h
  ·rename_i heq;omega
  ·rename_i n' k' x r' e1 e2
   cases e1;cases e2
   split at h
   ·rename_i l' hk hl
    cases h
    obtain ⟨h1,h2,h3⟩:=Kd hl
    refine ⟨by simp [h1],by simpa using h2,fun j y hj=>?_⟩
    cases j with
    | zero=>simp only [List.getElem?_cons_zero,Option.some.injEq] at hj ⊢; rw [(DB _ _).1 hk,hj]
    | succ j=>simp only [List.getElem?_cons_succ] at hj ⊢; exact h3 j y hj
   ·cases h
  ·cases h
theorem Rq {k:IntKind} {e:Nat} {v:Int}: ∀ (l:List Int) (m j:Nat),(J8 k e v m l)[j]?=(l[j]?).map fun x=>SV.v (.int k (if e=m+j then v else x))
 | [],m,j=>by simp [J8]
 | x::r,m,0=>by simp [J8]
 | x::r,m,j+1=>by simp only [J8,List.getElem?_cons_succ,Rq r (m+1) j,Nat.add_assoc,Nat.add_comm 1 j]
theorem Fs {k:IntKind} {e:Nat} {v:Int}: ∀ (l:List Int) (m:Nat),(J8 k e v m l).length=l.length
 | [],m=>rfl
 | x::r,m=>by simp [J8,Fs r]
theorem U2 {k:IntKind} {e:Nat} {v:Int} {N:Nat->Prop}: ∀ (l:List Int) (m:Nat),BR N (J8 k e v m l)
 | [],m=>trivial
 | x::r,m=>⟨trivial,U2 r (m+1)⟩
theorem Vh {T:Nat} {t:TI} (ht:t.ok S P T) {o:Oper} {x:Operand} (ho:o.op=.load T x) {cs:List SV} {n e off g:Nat} (hx:a.eval x=.pointer (some ⟨g,off+e,none⟩)) (hc: ∀ j v,(AA β cs)[j]?=some v->w.cell? ⟨g,j,none⟩=some v):R.Sound P w0 F D0 D s N β a w o (mB t cs n e off):=by
 unfold mB
 split
 case h_2=>trivial
 rename_i k hk
 split
 case h_2=>trivial
 rename_i l hl
 obtain ⟨h1,h2,h3⟩:=Kd hl
 refine AD trivial fun hp=>?_
 have hlt:e<l.length:=by simpa [CB] using hp
 have h4:=h3 e l[e] (List.getElem?_eq_getElem hlt)
 rw [List.getElem?_drop] at h4
 have h5:=hc (off+e) (.int k l[e]) (by rw [B1,h4];simp [SV.den])
 have hagg:t.agg=false:=by simp [TI.agg,hk]
 have h6:(loadVar T ⟨g,off+e,none⟩).run P w=.ok (.int k l[e]) w:=by
  unfold loadVar
  rw [Sem.run_bind,ht.isAgg w,Result.andThen_ok]
  simp [hagg,h5]
 simp [execOp,ho,hx,Instr.loadAt,Instr.sureAddr,h6,SV.den,hlt]
theorem Gm {tb:List (Nat×TI)} (htb:AU S P tb) (hg:G w0 F D0 D s N β a w) {o:Oper} {T:Nat} {x:Operand} (ho:o.op=.load T x):R.Sound P w0 F D0 D s N β a w o (Iy tb s T x):=by
 unfold Iy
 split
 case h_2=>trivial
 rename_i t ht
 have hok:=htb.get ht
 split
 ·rename_i i off hx
  have hv:=AB hg hx
  simp only [SV.den] at hv
  split
  ·rename_i U cs hi
   obtain ⟨g,h1,h2⟩:=hg.gh.own i _ hi
   refine M5 (o0:=0) (bk:=g) hok ho (by simpa [Nm.AN,h1] using hv) (fun j v hv=>?_) (hg.gh.Bk i _ hi).2
   rw [Nat.zero_add,cell_of_row w g j _ U _ h2];simpa using hv
  ·rename_i U sz n cs hi
   refine M5 (o0:=0) hok ho (by simpa using hv) (fun j v hv=>?_) (hg.gh.Bk i _ hi).2
   rw [Nat.zero_add];exact (BG (hg.gh.own i _ hi) hv).2
  ·trivial
 ·rename_i i off hx
  have hv:=AB hg hx
  simp only [SV.den] at hv
  split
  ·rename_i cs hi
   obtain ⟨_,b,o0,h1,_,h3⟩:=hg.gh.own i _ hi
   exact M5 (o0:=o0) (bk:=b) hok ho (by simpa [Nm.at,h1] using hv) h3 (hg.gh.Bk i _ hi).2
  ·trivial
 ·rename_i i n e off hx
  have hv:=AB hg hx
  simp only [SV.den] at hv
  split
  ·rename_i U cs hi
   obtain ⟨g,hb,hh⟩:=hg.gh.own i _ hi
   have A6:(β i).AN=g:=by simp [Nm.AN,hb]
   refine Vh hok ho (by rw [hv,A6]) fun j v hj=>?_
   simpa [World.cell?,hh] using hj
  ·trivial
 ·rename_i i esz e off hx
  split
  ·rename_i τ E l hi
   split
   ·rename_i hz
    have hz:=Nat.eq_of_beq_eq_true hz;subst hz
    exact Vj hg hok ho hx hi
   ·trivial
  ·rename_i τ E l hi
   split
   ·rename_i hz
    have hz:=Nat.eq_of_beq_eq_true hz;subst hz
    exact Vi hg hok ho hx hi
   ·trivial
  ·rename_i κ τ ag E ls hi
   split
   ·rename_i hz h0 hagg
    have hz:=Nat.eq_of_beq_eq_true hz;subst hz
    have h0:=Nat.eq_of_beq_eq_true h0;subst h0
    refine AD (by simpa [SV.on] using CA hg hx) fun hc=>?_
    have he:e<ls.length:=by simpa [CB] using hc
    obtain ⟨_,vs,hrow,hm⟩:=hg.gh.own i _ hi
    obtain ⟨b,c,hsub,hvs,_⟩:=hm.cell e _ (List.getElem?_eq_getElem he)
    obtain ⟨g,hgb⟩: ∃ g,(β i).b=some g:=⟨_,A8 hrow (by omega)⟩
    have hcell:=(BG hrow hvs).2
    have hv:a.eval x=.pointer (some ⟨g,e,none⟩):=by rw [AB hg hx];simp [SV.den,Nm.AN,hgb]
    have hcell':w.cell? ⟨g,e,none⟩=some (.map (some b)):=by
     simpa [Nm.AN,hgb] using hcell
    have h2:=Bm hok w g e (.map (some b)) hcell' hagg
    simp [execOp,ho,hv,Instr.loadAt,Instr.sureAddr,h2,SV.den,hsub]
   ·trivial
  ·trivial
 ·rename_i i z e off y j q hx
  split
  case h_2=>trivial
  rename_i τ E l hi
  split
  case h_2=>trivial
  rename_i σ hz hσ
  have hz:=Nat.eq_of_beq_eq_true hz;subst hz
  split
  case h_2=>trivial
  rename_i m hy hm
  have hy:=Nat.eq_of_beq_eq_true hy;subst hy
  refine SQ fun hb=>?_
  have he:e<l.length:=by simpa using hb
  obtain ⟨_,vs,hrow,hvs,hnest⟩:=hg.gh.own i _ hi
  obtain ⟨E1,hE1⟩:=Jh hm
  obtain ⟨_,us,hr1,hu1⟩:=hnest.row e _ off σ E1 m (getD_some he) hE1
  obtain ⟨hv,hvb,hvn⟩:=EC (len:=m.length) hr1
  rw [hv] at hr1
  exact Xv hok ho (by rw [AB hg hx];simp only [SV.den,NZ]) hr1 hu1
 ·trivial
theorem QR {T:Nat} {t:TI} (ht:t.ok S P T) {v:Value} {vs:List Value} (hv:v.cells.toList=vs) (hl:vs.length=t.sz) (b off:Nat) {w':World} (h:(storeCells ⟨b,off,none⟩ vs 0).run P w=.ok () w'):
  (storeVar T ⟨b,off,none⟩ v).run P w=.ok () w':=by
 unfold storeVar
 rw [Sem.run_bind,ht.size w,Result.andThen_ok]
 have hsz:v.cells.size=t.sz:=by rw [<-hl,<- hv];simp
 simp [hsz,hv,h]
theorem GH.same {o o':List (Nat×Own S)} (hg:GH w0 F D0 D o N β w) (hs: ∀ j,lk o' j=lk o j):GH w0 F D0 D o' N β w:=hg.G8 fun i _ h=>(hs i)▸h
theorem Ur {o:List (Nat×Own S)} {i:Nat} {b:Own S} (h:lk o i=some b): ∀ j,lk (pt o i b) j=lk o j:=fun j=>by
 rw [Ew];split
 ·rename_i he;subst he;exact h.symm
 ·rfl
theorem OM {tb:List (Nat×TI)} (htb:AU S P tb) (hg:G w0 F D0 D s N β a w) {o:Oper} {T:Nat} {x y:Operand} (ho:o.op=.store T x y):R.Sound P w0 F D0 D s N β a w o (IF tb s T x y):=by
 unfold IF
 split
 case h_2=>trivial
 rename_i t ht
 have ht:=htb.get ht
 split
 case h_2=>trivial
 rename_i new h3
 obtain ⟨yv,hy1,hy2⟩:=Option.bind_eq_some_iff.1 h3
 obtain ⟨hcells,hnew⟩:=KQ hy2 β
 have hynb:=CA hg hy1
 split
 case h_2=>trivial
 rename_i hl
 have hl:=Nat.eq_of_beq_eq_true hl
 have hrun: ∀ bk off w',a.eval x=.pointer (some ⟨bk,off,none⟩)->(storeCells ⟨bk,off,none⟩ (AA β new) 0).run P w=.ok () w'->(execOp a.eval o).run P w=.ok .skip w':=fun bk off w' hx h=>by
  have:=QR ht hcells (by rw [AF];exact hl) bk off h
  simp [execOp,ho,hx,AB hg hy1,Instr.storeAt,Instr.sureAddr,this]
 split
 ·rename_i i off hx
  have hv:=AB hg hx
  simp only [SV.den] at hv
  split
  ·rename_i U cs hi
   split
   case h_2=>trivial
   rename_i hle hone
   have hle:=Nat.le_of_ble_eq_true hle
   intro _
   obtain ⟨g,hb,hh⟩:=hg.gh.own i _ hi
   have A6:(β i).AN=g:=by simp [Nm.AN,hb]
   obtain ⟨w',hr,htn⟩:=EG (P:=P) U g (AA β new) w (AA β cs) off 0 hh (Gi β hone) (by rw [AF,AF];omega)
   refine ⟨w',hrun _ off w' (by rw [hv,A6]) hr,?_⟩
   refine hg.gh.Kz hi (.inl hb) (Tj (hg.gh.Bk i _ hi).2 (hnew _ hynb)) htn.os htn.tape htn.output (Nat.le_of_eq htn.size.symm) (fun j _ hj=>htn.block j hj) ⟨g,hb,?_⟩
   rw [htn.here,Ti hle,HW];simp
  ·rename_i U sz n cs hi
   split
   case h_2=>trivial
   rename_i hle hone
   have hle:=Nat.le_of_ble_eq_true hle
   intro _
   have hrow:=hg.gh.own i _ hi
   by_cases h0:new=[]
   ·subst h0
    refine ⟨w,hrun _ off w hv (by simp [AA,storeCells]),?_⟩
    have:Ze cs off []=cs:=by simp [Ze]
    rw [this]
    exact hg.gh.same (Ur hi)
   ·obtain ⟨w',hr,hrow',hb,h1,h2,h3,h4,h5⟩:=Hw (P:=P) hrow (Gi β hone) (by rw [AF,AF];exact hle) (fun h=>h0 (by have:=congrArg List.length h;rw [AF] at this;exact List.eq_nil_of_length_eq_zero this))
    refine ⟨w',hrun _ off w' hv hr,?_⟩
    refine hg.gh.Kz hi (.inl hb) (Tj (hg.gh.Bk i _ hi).2 (hnew _ hynb)) h1 h2 h3 (Nat.le_of_eq h4.symm) (fun j _ hj=>h5 j hj) ?_
    simp only [Own.holds]
    rw [Ti hle,HW];exact hrow'
  ·trivial
 ·rename_i i esz e off hx
  have hv:=AB hg hx
  simp only [SV.den] at hv
  split
  ·rename_i τ E l hi
   split
   case h_2=>trivial
   rename_i hz
   have hz:=Nat.eq_of_beq_eq_true hz;subst hz
   split
   case h_2=>trivial
   rename_i q hq
   intro hc
   have he:e<l.length:=by simpa [CB] using hc
   obtain ⟨hlen,vs,hrow,hvs⟩:=hg.gh.own i _ hi
   obtain ⟨hb,_,w',hr,hrow',hvs',h3,h4,h5,h6,h7⟩:=eo (P:=P) hg.gh hrow hvs he hq
   refine ⟨w',hrun _ _ w' hv hr,?_⟩
   have hD: ∀ k,D k->w'.heap[k]?=w.heap[k]?:=fun k hk=>h7 k fun hkb=>by subst hkb;exact hg.gh.off i _ _ hi (.inl hb) hk
   exact hg.gh.Kz hi (.inl hb) trivial h3 h4 h5 (Nat.le_of_eq h6.symm) (fun j _ hj=>h7 j hj) ⟨by simpa using hlen,_,by rw [List.length_set];exact hrow',hvs'.Bo hD fun _ h=>h⟩
  ·rename_i τ E l hi
   split
   case h_2=>trivial
   rename_i hz
   have hz:=Nat.eq_of_beq_eq_true hz;subst hz
   split
   case h_2=>trivial
   rename_i q hq
   intro hc
   have he:e<l.length:=by simpa [CB] using hc
   obtain ⟨hlen,vs,hrow,hvs,hnest⟩:=hg.gh.own i _ hi
   obtain ⟨hb,hbd,w',hr,hrow',hvs',h3,h4,h5,h6,h7⟩:=eo (P:=P) hg.gh hrow hvs he hq
   refine ⟨w',hrun _ _ w' hv hr,?_⟩
   have hD: ∀ k,D k->w'.heap[k]?=w.heap[k]?:=fun k hk=>h7 k fun hkb=>by subst hkb;exact hg.gh.off i _ _ hi (.inl hb) hk
   have hvl:vs.length=l.length*S.sz τ:=by rw [<-hvs.1,S.At]
   refine hg.gh.Kz hi (.inl hb) trivial h3 h4 h5 (Nat.le_of_eq h6.symm) (fun j _ hj=>h7 j hj) ⟨by simpa using hlen,_,by rw [List.length_set];exact hrow',hvs'.Bo hD fun _ h=>h,?_⟩
   refine (hnest.put he hvl hq (by rw [AF]) hbd).Bo (fun c k cap hs=>h7 k fun e=>hnest.ne _ _ _ hs ?_) hD fun _ h=>h
   rw [e];exact hb
  ·trivial
 ·rename_i i z e off y j q0 hx
  have hv:=AB hg hx
  simp only [SV.den] at hv
  split
  case h_2=>trivial
  rename_i τ E l hi
  split
  case h_2=>trivial
  rename_i σ hz hσ
  have hz:=Nat.eq_of_beq_eq_true hz;subst hz
  split
  case h_2=>trivial
  rename_i m hy hm
  have hy:=Nat.eq_of_beq_eq_true hy;subst hy
  split
  case h_2=>trivial
  rename_i q hq
  split
  case h_2=>trivial
  rename_i p hp
  intro hc
  simp only [CB,decide_eq_true_eq] at hc
  obtain ⟨hlen,vs,hrow,hvs,hnest⟩:=hg.gh.own i _ hi
  obtain ⟨w',hr,hhas,hh,h3,h4,h5,h6,h7⟩:=Vr (P:=P) hg.gh hlen hrow hvs hnest hc.1 hc.2 hm hq hp (fun k hk=>hg.gh.off i _ k hi hk)
  exact ⟨w',hrun _ _ w' hv hr,hg.gh.Kz hi hhas trivial h3 h4 h5 (Nat.le_of_eq h6.symm) (fun j _ hj=>h7 j hj) hh⟩
 ·rename_i i n e off hx
  have hv:=AB hg hx
  simp only [SV.den] at hv
  split
  case h_2=>trivial
  rename_i U cs hi
  unfold nQ
  split
  case h_2=>trivial
  rename_i k k0 v hk _
  split
  case h_2=>trivial
  rename_i l hkk hl'
  have hkk:=(DB _ _).1 hkk
  subst hkk
  obtain ⟨h1,h2,h3⟩:=Kd hl'
  intro hc
  have hlt:e<l.length:=by simpa [CB] using hc
  simp only [List.length_drop] at h2
  obtain ⟨g,hb,hh⟩:=hg.gh.own i _ hi
  have A6:(β i).AN=g:=by simp [Nm.AN,hb]
  obtain ⟨w',hr,htn⟩:=EG (P:=P) U g (AA β [.v (.int k0 v)]) w (AA β cs) (off+e) 0 hh (Gi β rfl) (by rw [AF,AF];simp only [List.length_singleton];omega)
  refine ⟨w',hrun _ (off+e) w' (by rw [hv,A6]) hr,?_⟩
  refine hg.gh.Kz hi (.inl hb) (EZ (Ay.2 fun y hy=>Ay.1 (hg.gh.Bk i _ hi).2 y (List.mem_of_mem_take hy)) (EZ (U2 l 0) (Ay.2 fun y hy=>Ay.1 (hg.gh.Bk i _ hi).2 y (List.mem_of_mem_drop hy)))) htn.os htn.tape htn.output (Nat.le_of_eq htn.size.symm) (fun j _ hj=>htn.block j hj) ⟨g,hb,?_⟩
  rw [htn.here]
  congr 2
  rw [Nat.add_zero]
  congr 1
  apply List.ext_getElem?
  intro j
  rw [B6 _ _ _ (by rw [AF,AF];simp only [List.length_singleton];omega),AF,List.length_singleton]
  simp only [B1]
  have hto:(cs.take off).length=off:=by rw [List.length_take];omega
  by_cases c1:j<off
  ·rw [if_pos (by omega),List.getElem?_append_left (by omega),List.getElem?_take,if_pos c1]
  ·rw [List.getElem?_append_right (by omega),hto]
   by_cases c2:j<off+n
   ·rw [List.getElem?_append_left (by rw [Fs];omega),Rq]
    have hjl:j -off<l.length:=by omega
    have h4:=h3 (j -off) l[j -off] (List.getElem?_eq_getElem hjl)
    rw [List.getElem?_drop,show off+(j -off)=j by omega] at h4
    rw [List.getElem?_eq_getElem hjl,h4]
    simp only [Option.map_some,SV.den,Nat.zero_add]
    by_cases c3:e=j -off
    ·rw [if_neg (by omega),if_pos (by omega),if_pos c3,show j -(off+e)=0 by omega];simp [SV.den]
    ·rw [if_neg c3]
     by_cases c4:j<off+e
     ·rw [if_pos c4]
     ·rw [if_neg c4,if_neg (by omega)]
   ·rw [List.getElem?_append_right (by rw [Fs];omega),Fs,List.getElem?_drop,if_neg (by omega),if_neg (by omega)]
    congr 2;omega
 ·trivial
end
end Go.En
