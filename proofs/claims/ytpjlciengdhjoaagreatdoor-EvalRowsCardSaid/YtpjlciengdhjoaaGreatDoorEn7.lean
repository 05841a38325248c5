/-
 The evaluation is sound: slices, composites, append, make, copy; all operations in one theorem.
-/
import Derived.Test.YtpjlciengdhjoaaGreatDoorEn6
import Derived.Laws.OwnMore
import Derived.Laws.CopyRow
import Derived.Carry
namespace Go.En
open Go.RowKit
section
variable {S:As} {P:Program} {w0:World} {F D0 D:Nat->Prop} {s:St S} {N:Nat->Prop} {β:Nat->Nm} {a:Act} {w:World}
theorem UT (hg:G w0 F D0 D s N β a w) {d:Int} {x:Option Operand} {b:Int} (h:Is s d x=some b):(x=none/\b=d)\/ ∃ y k,x=some y/\a.eval y=.int k b:=by
 unfold Is at h
 split at h
 ·left;cases h;exact ⟨rfl,rfl⟩
 ·rename_i y
  split at h
  ·rename_i k n hy
   cases h
   right
   exact ⟨y,k,rfl,by rw [AE hg hy];simp [SV.den]⟩
  ·cases h
theorem run_sliceBound {x:Value} {k:IntKind} {b:Int} {y:Nat} {c:BoundsCode} (hx:x=.int k b) (h0:0<=b) (hl:b<=y):(Instr.sliceBound x y c).run P w=.ok b.toNat w:=by
 subst hx
 simp [Instr.sliceBound,asIntOf,h0,hl]
theorem Db (hg:G w0 F D0 D s N β a w) (w2:World) {lo hi:Option Operand} {is:Bool} {len cap:Nat} {x y:Int} (hx:Is s 0 lo=some x) (hy:Is s len hi=some y) (h0:0<=x) (h1:x<=y) (h2:y<=cap):
  (Instr.sliceBounds is len cap (lo.map a.eval) (hi.map a.eval) none).run P w2=.ok (x.toNat,y.toNat,cap) w2:=by
 rcases UT hg hx with ⟨rfl,rfl⟩|⟨u,k,rfl,hu⟩<;>rcases UT hg hy with ⟨rfl,rfl⟩|⟨v,l,rfl,hv⟩
 ·simp [Instr.sliceBounds]
 ·have:(Instr.sliceBound (a.eval v) cap (if is=true then .sliceAcap else .sliceAlen)).run P w2=.ok y.toNat w2:=run_sliceBound hv (by omega) h2
  simp [Instr.sliceBounds,this]
 ·have:(Instr.sliceBound (a.eval u) len .sliceB).run P w2=.ok x.toNat w2:=run_sliceBound hu h0 (by omega)
  simp [Instr.sliceBounds,this]
 ·have h3:(Instr.sliceBound (a.eval v) cap (if is=true then .sliceAcap else .sliceAlen)).run P w2=.ok y.toNat w2:=run_sliceBound hv (by omega) h2
  have h4:(Instr.sliceBound (a.eval u) y.toNat .sliceB).run P w2=.ok x.toNat w2:=run_sliceBound hu h0 (by omega)
  simp [Instr.sliceBounds,h3,h4]
theorem CY (hg:G w0 F D0 D s N β a w) {lo hi:Option Operand} {is:Bool} {len cap:Nat} {x y:Int} (hx:Is s 0 lo=some x) (hy:Is s len hi=some y) (h0:0<=x) (h1:x<=y) (h2:y<=cap):
  (Instr.sliceBounds is len cap (lo.map a.eval) (hi.map a.eval) none).run P w=.ok (x.toNat,y.toNat,cap) w:=Db hg w hx hy h0 h1 h2
theorem Pt (l:List UInt8) (x y:Nat):(ByteArray.mk ⟨l⟩).extract x y=⟨⟨(l.take y).drop x⟩⟩:=by
 apply ByteArray.ext
 apply Array.ext'
 simp [List.drop_take]
theorem ON {α:Type} {T i e z E:Nat} {x:Operand} {hi:Option Operand} {o:Oper} {h:Int} {l:List α} {vs:List Value} {b0 b:Own S} {val:Value} (hg:G w0 F D0 D s N β a w) (hN:¬ N s.n) (ho:o.op=.slice T x none hi none) (h4:P.underlying T=some (.slice e)) {esz:Nat} (h4':(P.info? e).map (·.size)=some esz)
  (h2:ev s x=some (.tr i)) (hi':lk s.o i=some b0) (hlen:(β i).len=l.length) (hrow:w.ownsRow 0 E (z) (.slice ((β i).b.map fun b=>⟨b,0,none⟩) l.length (β i).cap) l.length vs) (h5:Is s l.length hi=some h) (h6:0<=h) (h7:h<=l.length)
  (hval:val=undef\/val=(β i).val) (hon:b.on N) (hh: ∀ β':Nat->Nm,w.ownsRow 0 E (z) (.slice ((β i).b.map fun b=>⟨b,0,none⟩) h.toNat (β i).cap) h.toNat (vs.take (h.toNat*z))->b.holds D β' w ⟨(β i).b,h.toNat,(β i).cap,val⟩):
  XG P w0 F D0 D s.n N β a w o ((s.n,b)::rm s.o i):=by
   have h3:Is s 0 (none:Option Operand)=some 0:=rfl
   have hv:a.eval x=.slice ((β i).b.map fun b=>⟨b,0,none⟩) (β i).len (β i).cap:=AE hg h2
   have hcap:l.length<=(β i).cap:=by
    rcases hrow.2 with ⟨_,h8⟩|⟨g,cap,cur,h8,_,_,h9,_⟩
    ·omega
    ·simp at h8;omega
   have hb:=CY (P:=P) (w:=w) (is:=true) (len:=l.length) (cap:=(β i).cap) hg h3 h5 (Int.le_refl 0) h6 (by omega)
   simp only [Int.toNat_zero,Option.map_none] at hb
   have hr:(execOp a.eval o).run P w=.ok (.value (.slice ((β i).b.map fun b=>⟨b,0,none⟩) h.toNat (β i).cap)) w:=by
    cases hbb:(β i).b with
    | none=>
     have:l.length=0/\(β i).cap=0:=by
      rcases hrow.2 with ⟨h8,h9⟩|⟨g,cap,cur,h8,_⟩
      ·simp [hbb] at h8;exact ⟨h9,h8.2⟩
      ·simp [hbb] at h8
     have h00:h.toNat=0:=by omega
     simp [execOp,ho,Instr.sliceAt,Instr.slice,run_underlying h4,hv,hbb,hlen,hb,Ap h4']
    | some g=>
     simp [execOp,ho,Instr.sliceAt,Instr.slice,run_underlying h4,hv,hbb,hlen,hb,Ap h4',Addr.add]
   have hsub:=hg.gh.Hh (o':=rm s.o i) (fun j b hj=>by
    rw [Cy] at hj
    split at hj
    ·cases hj
    ·exact hj)
   have hmul:h.toNat*z<=l.length*z:=Nat.mul_le_mul_right _ (by omega)
   have hrow':w.ownsRow 0 E (z) (.slice ((β i).b.map fun b=>⟨b,0,none⟩) h.toNat (β i).cap) h.toNat (vs.take (h.toNat*z)):=by
    obtain ⟨h8,h9⟩:=hrow
    refine ⟨by rw [List.length_take];omega,?_⟩
    rcases h9 with ⟨h9,h10⟩|⟨g,cap,cur,h9,h10,h11,h12,h13,h14,h15⟩
    ·left
     cases hbb:(β i).b with
     | some g=>simp [hbb] at h9
     | none=>simp [hbb] at h9 ⊢; exact ⟨⟨by omega,h9.2⟩,by omega⟩
    ·right
     refine ⟨g,cap,cur,?_,h10,h11,by omega,h13,h14,?_⟩
     ·cases hbb:(β i).b with
      | none=>simp [hbb] at h9
      | some g'=>simp [hbb] at h9 ⊢; exact ⟨h9.1,h9.2⟩
     ·rw [<-h15,List.take_take,Nat.min_eq_left hmul]
   have hnb: ∀ k,Nm.has ⟨(β i).b,h.toNat,(β i).cap,val⟩ k->(β i).has k:=fun k hk=>by
    rcases hval with rfl|rfl
    ·exact .inl ((Nm.FG fun _=>Nm.BI).1 hk)
    ·rcases hk with hk|⟨c,cap,hk⟩
     ·exact .inl hk
     ·exact .inr ⟨c,cap,hk⟩
   obtain ⟨β2,e1,e2,hg2⟩:=hsub.name (b:=b) (nm:=⟨(β i).b,h.toNat,(β i).cap,val⟩) (n:=s.n) hN hon (fun β' _ _=>hh β' hrow')
    (fun k hk=>hg.gh.fresh i _ k hi' (hnb k hk)) (fun k hk=>hg.gh.off i _ k hi' (hnb k hk)) (fun j c k hj hk hk'=>by
     rw [Cy] at hj
     split at hj
     ·cases hj
     ·rename_i hne;exact hne (hg.gh.inj i j _ c k hi' hj (hnb k hk') hk)) (fun k hk=>hg.gh.lt i _ k hi' (hnb k hk))
   exact ⟨β2,w,by rw [hr];simp only [SV.den,e2],e1,hg2⟩
theorem VZ {T i e E:Nat} {x:Operand} {hi:Option Operand} {o:Oper} {h:Int} {κ:Fd} {τ:Nat} {ag:Bool} {ls:List (List (κ.T S.T×S.T τ))} (hg:G w0 F D0 D s N β a w) (hN:¬ N s.n) (ho:o.op=.slice T x none hi none) (h4:P.underlying T=some (.slice e)) {esz:Nat} (h4':(P.info? e).map (·.size)=some esz)
  (h2:ev s x=some (.tr i)) (hi':lk s.o i=some (.mr κ τ ag E ls)) (h5:Is s ls.length hi=some h) (h6:0<=h) (h7:h<=ls.length):
  XG P w0 F D0 D s.n N β a w o ((s.n,.mr κ τ ag E (ls.take h.toNat))::rm s.o i):=by
 obtain ⟨hlen,vs,hrow,hm⟩:=hg.gh.own i _ hi'
 refine ON hg hN ho h4 h4' h2 hi' hlen hrow h5 h6 h7 (.inr rfl) trivial fun β' hr=>⟨by simp;omega,vs.take (h.toNat*1),by rw [List.length_take,Nat.min_eq_left (by omega)];exact hr,fun e m he=>?_,hm.inj,hm.ne⟩
 rw [ol] at he
 split at he
 case isFalse=>cases he
 rename_i heh
 obtain ⟨b,c,k1,k2,k3⟩:=hm.cell e m he
 exact ⟨b,c,k1,by rw [ol,if_pos (by omega)];exact k2,k3⟩
theorem Of {tb:List (Nat×TI)} (htb:Ae S P tb) (hg:G w0 F D0 D s N β a w) {o:Oper} {T:Nat} {x:Operand} {lo hi:Option Operand} (ho:o.op=.slice T x lo hi none):R.Sound P w0 F D0 D s N β a w o (G4 tb s T x lo hi):=by
 unfold G4
 split
 case h_2=>trivial
 rename_i x0 h3
 split
 ·rename_i h1
  have h4:=Ag htb h1
  simp only [TD.ok] at h4
  split
  case h_2=>trivial
  rename_i l h2
  split
  case h_2=>trivial
  rename_i y h5
  refine AF trivial fun hc=>?_
  simp only [Cd,ii] at hc
  obtain ⟨h6,h7,h8⟩:=hc
  have hb:=CY (P:=P) (w:=w) (is:=false) (cap:=l.length) hg h3 h5 h6 h7 h8
  have e:ByteArray.size ⟨⟨l⟩⟩=l.length:=rfl
  simp [execOp,ho,Instr.sliceAt,Instr.slice,run_underlying h4,AE hg h2,SV.den,e,hb,Pt]
 ·rename_i n e esz h1
  obtain ⟨h4,h4'⟩:=Ag htb h1
  split
  case h_2=>trivial
  rename_i i off h2
  split
  ·rename_i b h5
   have hx0:x0=0:=by simp [Is] at h3;exact h3.symm
   subst hx0
   refine AF (by simpa [SV.on] using CW hg h2) fun hc=>?_
   simp only [Cd,ii] at hc
   obtain ⟨h6,h7⟩:=hc
   have hb:=CY (P:=P) (w:=w) (is:=false) (cap:=n) hg h3 h5 (Int.le_refl 0) h6 h7
   simp only [Int.toNat_zero] at hb
   simp [execOp,ho,Instr.sliceAt,run_underlying h4,AE hg h2,SV.den,Instr.sureAddr,Ap h4',Addr.add]
   simp at hb
   simp [hb]
  ·rename_i lo' b h5
   split
   ·rename_i hz
    have hz:=ac hz
    subst hz
    refine AF (by simpa [SV.on] using CW hg h2) fun hc=>?_
    simp only [Cd,ii] at hc
    obtain ⟨h6,h7,h8,h9⟩:=hc
    have hb:=CY (P:=P) (w:=w) (is:=false) (cap:=n) hg h3 h5 h6 h7 h8
    simp [execOp,ho,Instr.sliceAt,run_underlying h4,AE hg h2,SV.den,Instr.sureAddr,Ap h4',Addr.add]
    simp at hb
    simp [hb]
    rw [if_neg (by omega)]
    split
    ·have:x0=0:=by omega
     subst this
     rfl
    ·rfl
   ·trivial
  ·trivial
 ·rename_i e esz h1
  obtain ⟨h4,h4'⟩:=Ag htb h1
  split
  ·rename_i i h2
   split
   case h_2=>trivial
   rename_i σ l hi'
   split
   case h_2=>trivial
   rename_i h hz h5
   have hz:=ac hz;subst hz
   intro hc hN
   simp only [Cd,ii] at hc
   obtain ⟨h6,h7,h8⟩:=hc
   obtain ⟨_,hok⟩:=hg.gh.own i _ hi'
   have hv:a.eval x=(β i).sl:=AE hg h2
   have fin: ∀ v:Value,(∃ a' n' c',v=.slice a' n' c')->(execOp a.eval o).run P w=.ok (.value v) w->Av S w D (.sl σ ((l.take h.toNat).drop x0.toNat)) v-> ∃ β' w',(execOp a.eval o).run P w=.ok (.value ((SV.h s.n).den β')) w'/\CG D D N s.n (s.n+1) [(s.n,Own.sl σ ((l.take h.toNat).drop x0.toNat))] β β' w w'/\(SV.h s.n).on (more N s.n (s.n+1)):=fun v ⟨a',n',c',hvs⟩ hr hcv=>by
    have e0:Nm.sl ⟨none,0,0,v⟩=v:=by subst hvs;rfl
    obtain ⟨β2,e1,e2,hg2⟩:=(CG.refl (S:=S) (D:=D) (N:=N) (β:=β) (w:=w) (n:=s.n)).val (hN s.n (Nat.le_refl _) (lw _)) (b:=.sl σ ((l.take h.toNat).drop x0.toNat)) (nm:=⟨none,0,0,v⟩) (fun k=>Nm.Fe rfl (fun _=>by subst hvs;rfl) k) trivial (fun _ _=>⟨⟨rfl,fun _=>by subst hvs;rfl⟩,by rw [e0];exact hcv⟩)
    exact ⟨β2,w,by rw [hr];simp only [SV.den,e2,e0],hg2,.inr ⟨Nat.le_refl _,lw _⟩⟩
   generalize (β i).sl=sv at hok hv
   cases hok with
   | nil _ a0 c0=>
    simp only [List.length_nil] at h5 h8
    have hx00:x0=0:=by omega
    have hh0:h=0:=by omega
    subst hx00;subst hh0
    have hb:=CY (P:=P) (w:=w) (is:=true) (cap:=c0) hg h3 h5 (Int.le_refl 0) (Int.le_refl 0) (by omega)
    simp at hb
    have hr: ∃ v,(execOp a.eval o).run P w=.ok (.value v) w/\ ∃ a' c',v=.slice a' 0 c':=by
     cases a0 with
     | none=>exact ⟨.slice none 0 c0,by simp [execOp,ho,Instr.sliceAt,Instr.slice,run_underlying h4,hv,hb,Ap h4'],_,_,rfl⟩
     | some a0=>exact ⟨.slice (if c0=0 then some a0 else some (a0.add 0)) 0 c0,by simp [execOp,ho,Instr.sliceAt,Instr.slice,run_underlying h4,hv,hb,Ap h4'],_,_,rfl⟩
    obtain ⟨v,hr,a',c',rfl⟩:=hr
    exact fin _ ⟨_,_,_,rfl⟩ hr (by simpa using Av.nil σ _ _)
   | sl _ _ bk off c vs hD hlc hcell hrec=>
    have hb:=CY (P:=P) (w:=w) (is:=true) (cap:=c) hg h3 h5 h6 h7 (by omega)
    have hr:(execOp a.eval o).run P w=.ok (.value (.slice (some (if c=x0.toNat then ⟨bk,off,none⟩ else ⟨bk,off+x0.toNat*S.sz σ,none⟩)) (h.toNat -x0.toNat) (c -x0.toNat))) w:=by
     simp [execOp,ho,Instr.sliceAt,Instr.slice,run_underlying h4,hv,hb,Ap h4',add_lit]
     split<;>rfl
    refine fin _ ⟨_,_,_,rfl⟩ hr ?_
    have hlen:((l.take h.toNat).drop x0.toNat).length=h.toNat -x0.toNat:=by simp;omega
    rw [<-hlen]
    have hget: ∀ q f,(S.flat σ ((l.take h.toNat).drop x0.toNat))[q]?=some f->(S.flat σ l)[x0.toNat*S.sz σ+q]?=some f:=fun q f hf=>by
     rw [S.IZ,S.FO,List.getElem?_drop,ol] at hf
     split at hf
     ·exact hf
     ·cases hf
    by_cases hcx:c=x0.toNat
    ·have:(l.take h.toNat).drop x0.toNat=[]:=by apply jp;omega
     rw [this];exact Av.nil σ _ _
    ·rw [if_neg hcx]
     refine Av.sl σ _ bk (off+x0.toNat*S.sz σ) _ (fun q=>vs (x0.toNat*S.sz σ+q)) hD (by omega) (fun q f hf=>?_) fun q f hf=>hrec _ f (hget q f hf)
     rw [Nat.add_assoc];exact hcell _ f (hget q f hf)
  ·rename_i i h2
   split
   ·rename_i σ E l hi'
    split
    case h_2=>trivial
    rename_i h h5
    intro hc hN
    simp only [Cd,ii] at hc
    subst hN
    obtain ⟨hlen,vs,hrow,hvs⟩:=hg.gh.own i _ hi'
    exact XG.ok<|ON hg (Nat.lt_irrefl _) ho h4 h4' h2 hi' hlen hrow h5 hc.1 hc.2 (.inl rfl) trivial fun β' hr=>⟨by simp;omega,vs.take (h.toNat*S.sz σ),by rw [List.length_take,Nat.min_eq_left (by omega)];exact hr,by rw [S.FO];exact hvs.take _⟩
   ·rename_i σ E l hi'
    split
    case h_2=>trivial
    rename_i h h5
    intro hc hN
    simp only [Cd,ii] at hc
    subst hN
    obtain ⟨hlen,vs,hrow,hvs,hnest⟩:=hg.gh.own i _ hi'
    refine XG.ok<|ON hg (Nat.lt_irrefl _) ho h4 h4' h2 hi' hlen hrow h5 hc.1 hc.2 (.inr rfl) trivial fun β' hr=>⟨by simp;omega,vs.take (h.toNat*S.sz σ),by rw [List.length_take,Nat.min_eq_left (by omega)];exact hr,by rw [S.FO];exact hvs.take _,fun e x off τ E m hx hm=>?_,hnest.inj,hnest.ne⟩
    rw [ol] at hx
    split at hx
    case isFalse=>cases hx
    rename_i heh
    obtain ⟨k1,k2⟩:=hnest.row e x off τ E m hx hm
    have hz:=JH hm
    have:=mul_lt (z:=S.sz σ) heh hz
    exact ⟨by rw [ol,if_pos this];exact k1,k2⟩
   ·rename_i κ τ ag E ls hi'
    split
    case h_2=>trivial
    rename_i h h5
    intro hc hN
    simp only [Cd,ii] at hc
    subst hN
    exact XG.ok (VZ hg (Nat.lt_irrefl _) ho h4 h4' h2 hi' h5 hc.1 hc.2)
   ·trivial
  ·trivial
 ·trivial
theorem Pq {tb:List (Nat×TI)} (htb:Ae S P tb) (hg:G w0 F D0 D s N β a w) {o:Oper} {T i:Nat} {x:Operand} {lo hi:Option Operand} (ho:o.op=.slice T x lo hi none) (h2:ev s x=some (.h i)) {c:Option Bool} {o1:List (Nat×Own S)} {n':Nat} {v:SV} (he:G4 tb s T x lo hi=.nm c o1 n' v) (hc:Cd c) (hN: ∀ j,s.n<=j->j<n'->¬ N j):
  ∃ β',CG D D N s.n n' o1 β β' w w/\(∀ w2,(execOp a.eval o).run P w2=.ok (.value (v.den β')) w2)/\v.on (more N s.n n'):=by
 unfold G4 at he
 split at he
 case h_2=>cases he
 rename_i x0 h3
 split at he
 ·rw [h2] at he;cases he
 ·rw [h2] at he;cases he
 case h_4=>cases he
 rename_i e esz h1
 obtain ⟨h4,h4'⟩:=Ag htb h1
 rw [h2] at he
 simp only at he
 split at he
 case h_2=>cases he
 rename_i σ l hi'
 split at he
 case h_2=>cases he
 rename_i h hz h5
 have hz:=ac hz;subst hz
 cases he
 simp only [Cd,ii] at hc
 obtain ⟨h6,h7,h8⟩:=hc
 obtain ⟨_,hok⟩:=hg.gh.own i _ hi'
 have hv:a.eval x=(β i).sl:=AE hg h2
 have fin: ∀ v:Value,(∃ a' n' c',v=.slice a' n' c')->(∀ w2,(execOp a.eval o).run P w2=.ok (.value v) w2)->Av S w D (.sl σ ((l.take h.toNat).drop x0.toNat)) v-> ∃ β',CG D D N s.n (s.n+1) [(s.n,Own.sl σ ((l.take h.toNat).drop x0.toNat))] β β' w w/\(∀ w2,(execOp a.eval o).run P w2=.ok (.value ((SV.h s.n).den β')) w2)/\(SV.h s.n).on (more N s.n (s.n+1)):=fun v ⟨a',n',c',hvs⟩ hr hcv=>by
  have e0:Nm.sl ⟨none,0,0,v⟩=v:=by subst hvs;rfl
  obtain ⟨β2,e1,e2,hg2⟩:=(CG.refl (S:=S) (D:=D) (N:=N) (β:=β) (w:=w) (n:=s.n)).val (hN s.n (Nat.le_refl _) (lw _)) (b:=.sl σ ((l.take h.toNat).drop x0.toNat)) (nm:=⟨none,0,0,v⟩) (fun k=>Nm.Fe rfl (fun _=>by subst hvs;rfl) k) trivial (fun _ _=>⟨⟨rfl,fun _=>by subst hvs;rfl⟩,by rw [e0];exact hcv⟩)
  exact ⟨β2,hg2,fun w2=>by rw [hr];simp only [SV.den,e2,e0],.inr ⟨Nat.le_refl _,lw _⟩⟩
 generalize (β i).sl=sv at hok hv
 cases hok with
 | nil _ a0 c0=>
  simp only [List.length_nil] at h5 h8
  have hx00:x0=0:=by omega
  have hh0:h=0:=by omega
  subst hx00;subst hh0
  have hb:=fun w2=>Db (P:=P) (is:=true) (cap:=c0) hg w2 h3 h5 (Int.le_refl 0) (Int.le_refl 0) (by omega)
  simp at hb
  have hr: ∃ v,(∀ w2,(execOp a.eval o).run P w2=.ok (.value v) w2)/\ ∃ a' c',v=.slice a' 0 c':=by
   cases a0 with
   | none=>exact ⟨.slice none 0 c0,fun w2=>by simp [execOp,ho,Instr.sliceAt,Instr.slice,run_underlying h4,hv,hb,Ap h4'],_,_,rfl⟩
   | some a0=>exact ⟨.slice (if c0=0 then some a0 else some (a0.add 0)) 0 c0,fun w2=>by simp [execOp,ho,Instr.sliceAt,Instr.slice,run_underlying h4,hv,hb,Ap h4'],_,_,rfl⟩
  obtain ⟨v,hr,a',c',rfl⟩:=hr
  exact fin _ ⟨_,_,_,rfl⟩ hr (by simpa using Av.nil σ _ _)
 | sl _ _ bk off c vs hD hlc hcell hrec=>
  have hb:=fun w2=>Db (P:=P) (is:=true) (cap:=c) hg w2 h3 h5 h6 h7 (by omega)
  have hr: ∀ w2,(execOp a.eval o).run P w2=.ok (.value (.slice (some (if c=x0.toNat then ⟨bk,off,none⟩ else ⟨bk,off+x0.toNat*S.sz σ,none⟩)) (h.toNat -x0.toNat) (c -x0.toNat))) w2:=fun w2=>by
   simp [execOp,ho,Instr.sliceAt,Instr.slice,run_underlying h4,hv,hb,Ap h4',add_lit]
   split<;>rfl
  refine fin _ ⟨_,_,_,rfl⟩ hr ?_
  have hlen:((l.take h.toNat).drop x0.toNat).length=h.toNat -x0.toNat:=by simp;omega
  rw [<-hlen]
  have hget: ∀ q f,(S.flat σ ((l.take h.toNat).drop x0.toNat))[q]?=some f->(S.flat σ l)[x0.toNat*S.sz σ+q]?=some f:=fun q f hf=>by
   rw [S.IZ,S.FO,List.getElem?_drop,ol] at hf
   split at hf
   ·exact hf
   ·cases hf
  by_cases hcx:c=x0.toNat
  ·have:(l.take h.toNat).drop x0.toNat=[]:=by apply jp;omega
   rw [this];exact Av.nil σ _ _
  ·rw [if_neg hcx]
   refine Av.sl σ _ bk (off+x0.toNat*S.sz σ) _ (fun q=>vs (x0.toNat*S.sz σ+q)) hD (by omega) (fun q f hf=>?_) fun q f hf=>hrec _ f (hget q f hf)
   rw [Nat.add_assoc];exact hcell _ f (hget q f hf)
theorem TN {cells:Array Value} {β:Nat->Nm} {cs new:List SV} {off:Nat} (h1:cells.toList=AD β cs) {v:Value} (h2:v.cells.toList=AD β new) (h3:off+new.length<=cs.length):
  (v.cells.zipIdx.foldl (fun cs (c,j)=>cs.setIfInBounds (off+j) c) cells).toList=AD β (aC cs off new):=by
 rw [UC h3,Hr,<- h1,<- h2]
 have hlen:off+v.cells.toList.length<=cells.toList.length:=by rw [h1,h2,AI,AI];exact h3
 generalize v.cells=vs at hlen ⊢
 obtain ⟨vs⟩:=vs
 simp only at hlen ⊢
 have key: ∀ (vs:List Value) (k:Nat) (cells:Array Value),off+k+vs.length<=cells.toList.length->((vs.zipIdx k).foldl (fun (cs:Array Value) (x:Value×Nat)=>cs.setIfInBounds (off+x.2) x.1) cells).toList=Af cells.toList (off+k) vs:=by
  intro vs
  induction vs with
  | nil=>intro k cells _;simp [Af]
  | cons u vs ih=>
   intro k cells hl
   simp only [List.length_cons] at hl
   simp only [List.zipIdx_cons,List.foldl_cons]
   rw [ih (k+1) _ (by simp only [Array.toList_setIfInBounds,List.length_set];omega)]
   simp only [Array.toList_setIfInBounds]
   have hk:off+k<cells.toList.length:=by omega
   unfold Af
   simp only [List.length_cons]
   rw [List.drop_set_of_lt (by omega)]
   have:(cells.toList.set (off+k) u).take (off+(k+1))=cells.toList.take (off+k)++[u]:=by
    rw [show off+(k+1)=(off+k)+1 by omega,List.take_succ_eq_append_getElem (by simpa using hk)]
    rw [List.take_set_of_le (Nat.le_refl _)]
    simp
   rw [this]
   simp only [List.append_assoc,List.cons_append,List.nil_append]
   rw [show off+(k+1)+vs.length=off+k+(vs.length+1) by omega]
 have:=key vs 0 cells (by simpa using hlen)
 simpa [Array.foldl_toList] using this
theorem Jw (hg:G w0 F D0 D s N β a w) {place:Nat->Option (Nat×Nat)}: ∀ {parts:List (Nat×Operand)} {cs out:List SV} {cells:Array Value},NB place s cs parts=some out->cells.toList=AD β cs->BZ N cs->
  ∃ arr,Instr.fill place cells (parts.map fun x=>(x.1,a.eval x.2))=some arr/\arr.toList=AD β out/\BZ N out
 | [],cs,out,cells,h,hc,hn=>by
  simp only [NB,am] at h;subst h
  exact ⟨cells,by simp [Instr.fill],hc,hn⟩
 | (i,x)::r,cs,out,cells,h,hc,hn=>by
  simp only [NB] at h
  split at h
  case h_2=>cases h
  rename_i off size hp
  split at h
  case h_2=>cases h
  rename_i new hx
  split at h
  case h_2=>cases h
  rename_i hle1 hle2
  have hle1:=ac hle1
  have hle2:=dk hle2
  obtain ⟨y,hy1,hy2⟩:=Option.bind_eq_some_iff.1 hx
  obtain ⟨hcells,hnew⟩:=Kg hy2 β
  have hle':off+new.length<=cs.length:=by omega
  have h1:=TN (β:=β) hc hcells hle'
  obtain ⟨arr,h2,h3,h4⟩:=Jw hg h h1 (UD hn (hnew _ (CW hg hy1)))
  refine ⟨arr,?_,h3,h4⟩
  have hsz:(y.den β).cells.size=new.length:=by rw [<-Array.length_toList,hcells,AI]
  have hsz2:cells.size=cs.length:=by rw [<-Array.length_toList,hc,AI]
  simp only [List.map_cons,Instr.fill,hp,AE hg hy1,hsz,hsz2]
  rw [if_neg (by simp;omega)]
  exact h2
theorem I2 {w:World}: ∀ {l:List Field} {fs:List (Nat×Nat×Nat)},Pw P l fs->(l.mapM fun f=>Prod.mk f.offset<$>sizeOf f.type).run P w=.ok (fs.map fun f=>(f.1,f.2.2)) w
 | [],[],_=>by simp
 | f::l,(o,t,z)::fs,h=>by
  obtain ⟨h1,h2,h3,_,h5⟩:=h
  subst h1;subst h2
  simp [List.mapM_cons,Ap h3,I2 h5]
 | [],_::_,h=>h.elim
 | _::_,[],h=>h.elim
theorem Ob {tb:List (Nat×TI)} (htb:Ae S P tb) (hg:G w0 F D0 D s N β a w) {o:Oper} {T:Nat} {parts:List (Nat×Operand)} (ho:o.op=.build T ⟨parts⟩):R.Sound P w0 F D0 D s N β a w o (Pk tb s T parts):=by
 unfold Pk
 split
 case h_2=>trivial
 rename_i t h1
 have ht:=htb.get h1
 have hdesc:=ht.desc
 split
 ·rename_i fs htd
  rw [htd] at hdesc
  obtain ⟨l,h2,h3⟩:=hdesc
  split
  case h_2=>trivial
  rename_i cs hcs
  obtain ⟨arr,h4,h5,h6⟩:=Jw hg hcs (ht.zc β) (ht.zn N)
  refine AF (by simpa [SV.on] using h6) fun _=>?_
  have hp:=I2 (w:=w) h3
  have hpl:T2 fs=fun (i:Nat)=>((fs.map fun (f:Nat×Nat×Nat)=>(f.1,f.2.2)).toArray[i]?):=by
   funext i
   unfold T2
   cases hi:fs[i]?<;>simp [hi]
  rw [hpl] at h4
  have harr:arr=(AD β cs).toArray:=by rw [<-h5]
  simp [execOp,ho,Instr.build,ht.zero,run_underlying h2,Array.mapM_eq_mapM_toList,hp,SV.den]
  simp at h4
  simp [h4,harr]
 ·rename_i n e esz htd
  rw [htd] at hdesc
  obtain ⟨h2,h3⟩:=hdesc
  split
  case h_2=>trivial
  rename_i cs hcs
  obtain ⟨arr,h4,h5,h6⟩:=Jw hg hcs (ht.zc β) (ht.zn N)
  refine AF (by simpa [SV.on] using h6) fun _=>?_
  have harr:arr=(AD β cs).toArray:=by rw [<-h5]
  simp [execOp,ho,Instr.build,ht.zero,run_underlying h2,Ap h3,h4,harr,SV.den]
 ·trivial
theorem ZO (β:Nat->Nm) (n:Nat) (l:List SV):AD β (DJ n l)=DJ n (AD β l):=by
 induction n with
 | zero=>simp [DJ,AD]
 | succ n ih=>simp [DJ,CZ,ih]
theorem bT {N:Nat->Prop} {n:Nat} {l:List SV} (h:BZ N l):BZ N (DJ n l):=by
 rw [A0] at*
 induction n with
 | zero=>simp [DJ]
 | succ n ih=>intro x hx;simp only [DJ,List.mem_append] at hx;rcases hx with hx|hx;exact h x hx;exact ih x hx
theorem IJ {α:Type} (n:Nat) (l:List α):(DJ n l).length=n*l.length:=by
 induction n with
 | zero=>simp [DJ]
 | succ n ih=>simp [DJ,ih,Nat.succ_mul,Nat.add_comm]
theorem N5 {α:Type}: ∀ (n:Nat) (l:List α) (j:Nat),j<n*l.length->(DJ n l)[j]?=l[j % l.length]?
 | 0,l,j,h=>by simp at h
 | n+1,l,j,h=>by
  simp only [DJ]
  by_cases hj:j<l.length
  ·rw [el hj,Nat.mod_eq_of_lt hj]
  ·rw [kw (by omega),N5 n l (j -l.length) (by rw [Nat.succ_mul] at h;omega)]
   congr 1
   rw [Nat.mod_eq_sub_mod (by omega:j≥l.length)]
theorem Nl (z:Array Value) (n:Nat) (hz:z.size≠0):((Array.range (n*z.size)).map (z[· % z.size]!)).toList=DJ n z.toList:=by
 apply List.ext_getElem?
 intro j
 by_cases hj:j<n*z.size
 ·rw [N5 n z.toList j (by simpa using hj)]
  have hm:j % z.size<z.size:=Nat.mod_lt _ (by omega)
  simp [hj,hm]
 ·rw [List.getElem?_eq_none (by simp;omega),List.getElem?_eq_none (by rw [IJ];simp;omega)]
theorem I6 {w:World} {T sz n g:Nat} {cs:List Value} (h:w.heap[g]?=some (.cells cs.toArray T (0,0))) (hl:cs.length=n*sz) (hn:n<=maxLen):w.ownsRow 0 T sz (.slice (some ⟨g,0,none⟩) n n) n cs:=
 ⟨hl,.inr ⟨g,n,cs.toArray,rfl,Nat.zero_le _,h,Nat.le_refl _,hn,by simpa using hl,by simp [<-hl]⟩⟩
theorem JI {tb:List (Nat×TI)} (htb:Ae S P tb) (hg:G w0 F D0 D s N β a w) {o:Oper} {T n:Nat} {parts:List (Nat×Operand)} (ho:o.op=.buildSlice T n ⟨parts⟩):R.Sound P w0 F D0 D s N β a w o (G2 tb s T n parts):=by
 unfold G2
 split
 case h_2=>trivial
 rename_i e esz h1
 obtain ⟨h2,h3⟩:=Ag htb h1
 split
 case h_2=>trivial
 rename_i te hte
 have hok:=htb.get hte
 split
 case h_2=>trivial
 rename_i hc1 hc2 hc3
 have hc1:=dk hc1
 have hc2:=ac hc2
 have hc3:=dk hc3
 have hc4:te.zc.length=esz:=by rw [hok.zl,hc2]
 split
 case h_2=>trivial
 rename_i cs hcs
 have hz:te.z.cells.toList=AD β te.zc:=hok.zc β
 have hzs:te.z.cells.size=esz:=by rw [<-Array.length_toList,hz,AI,hc4]
 have hmade:=Nl te.z.cells n (by rw [hzs];omega)
 rw [hzs] at hmade
 obtain ⟨arr,h4,h5,h6⟩:=Jw hg hcs (cells:=(Array.range (n*esz)).map (te.z.cells[· % esz]!)) (by rw [hmade,hz,ZO]) (bT (hok.zn N))
 have harr:arr=(AD β cs).toArray:=by rw [<-h5]
 have hlen:cs.length=n*esz:=by
  have:arr.size=n*esz:=by
   have hk: ∀ (parts:List (Nat×Value)) (cells out:Array Value),Instr.fill (fun i=>some (i*esz,esz)) cells parts=some out->out.size=cells.size:=by
    intro parts
    induction parts with
    | nil=>intro cells out h;simp [Instr.fill] at h;rw [h]
    | cons p parts ih=>
     intro cells out h
     obtain ⟨i,v⟩:=p
     simp only [Instr.fill] at h
     split at h
     ·cases h
     ·rw [ih _ _ h]
      have hfold: ∀ (l:List (Value×Nat)) (c:Array Value),(l.foldl (fun (cs:Array Value) (x:Value×Nat)=>cs.setIfInBounds (i*esz+x.2) x.1) c).size=c.size:=by
       intro l
       induction l with
       | nil=>intro c;rfl
       | cons x l ih=>intro c;simp only [List.foldl_cons];rw [ih];simp
      rw [<-Array.foldl_toList]
      exact hfold _ _
   rw [hk _ _ _ h4];simp
  rw [harr] at this
  simpa [AI] using this
 have hle:n<=maxLen:=by
  have:n*1<=n*esz:=Nat.mul_le_mul_left _ (by omega)
  unfold maxLen;omega
 have hrun:(execOp a.eval o).run P w=.ok (.value (.slice (some ⟨w.heap.size,0,none⟩) n n)) (w.alloc (.cells arr e)):=by
  have hn0:¬ (16777216<n*esz):=by omega
  have e24:(2:Nat) ^ 24=16777216:=rfl
  by_cases h0:n*esz=0
  ·simp only [h0,Array.range_zero',List.map_toArray,List.map_nil] at h4
   simp only [execOp,ho,Instr.buildSlice,Sem.run_bind,run_underlying h2,Result.andThen_ok,Ap h3,e24,GT.gt,if_false,h0,if_true,Array.range_zero',Sem.run_pure,List.map_toArray,List.map_nil,h4,newRow,run_newObj,Nat.not_lt_zero]
   rfl
  ·simp only [execOp,ho,Instr.buildSlice,Sem.run_bind,run_underlying h2,Result.andThen_ok,Ap h3,e24,GT.gt,hn0,if_false,h0,Sem.run_pure,hok.zero,hzs,List.map_toArray,h4,newRow,run_newObj]
   rfl
 have hown:(w.alloc (.cells arr e)).ownsRow 0 e esz (.slice (some ⟨w.heap.size,0,none⟩) n n) n (AD β cs):=by
  refine I6 ?_ (by rw [AI];exact hlen) hle
  rw [heap_alloc_new,harr]
 have hrowcase:R.Sound P w0 F D0 D s N β a w o (.new (.row e esz n cs)):=by
  refine ⟨by simpa [Own.on] using h6,.cells arr e,0,n,fun nn β' hβ hn=>⟨?_,?_⟩⟩
  ·simp only [HS,SV.den,hn];exact hrun
  ·have hden:AD β' cs=AD β cs:=(Bf hβ cs h6).symm
   simp only [Own.holds,Option.map_some,hden];exact hown
 split
 ·rename_i τ hτ
  split
  ·rename_i l hl
   obtain ⟨hll,hcells⟩:=Gi hg.gh hl
   obtain ⟨hsz,_⟩:=hok.Z6 τ hτ
   refine ⟨trivial,.cells arr e,n,n,fun nn β' hβ hn=>⟨?_,?_⟩⟩
   ·simp only [HS,SV.den,hn];exact hrun
   ·refine ⟨hll.symm,AD β cs,?_,?_⟩
    ·rw [hsz,hc2,hll];exact hown
    ·exact hcells.B4 (fun k hk=>(Below.alloc (Below.refl _ w) (Nat.le_refl _) _).block k (hg.gh.DL k hk)) fun _ h=>h
  ·exact hrowcase
 ·exact hrowcase
theorem Ea {o:List (Nat×Own S)} {d:Option Nat}: ∀ i b,lk (EU o d) i=some b->lk o i=some b:=by
 cases d with
 | none=>exact fun _ _ h=>h
 | some d=>
  intro i b h
  simp only [EU,Cy] at h
  split at h
  ·cases h
  ·exact h
theorem GH.Y0 {o:List (Nat×Own S)} (h:GH w0 F D0 D o N β w) {d:Option Nat} {row:Option Nat} {w':World} (hg:w.grownBy w' row) (hr: ∀ k,row=some k-> ∃ i b,d=some i/\lk o i=some b/\(β i).has k):
  GH w0 F D0 D (EU o d) N β w'/\ ∀ k,D k->w'.heap[k]?=w.heap[k]?:=by
 have hne: ∀ i b k,lk (EU o d) i=some b->(β i).has k->some k≠row:=fun i b k hi hk he=>by
  obtain ⟨j,c,hd,hj,hjk⟩:=hr k he.symm
  subst hd
  have h1:=Ea i b hi
  have h2:=h.inj i j b c k h1 hj hk hjk
  subst h2
  simp [EU,Cy] at hi
 have hD: ∀ k,D k->w'.heap[k]?=w.heap[k]?:=fun k hk=>hg.block k (h.DL k hk) fun he=>by
  obtain ⟨j,c,_,hj,hjk⟩:=hr k he.symm
  exact h.off j c k hj hjk hk
 have h':=h.Hh (o':=EU o d) Ea
 refine ⟨⟨h'.By,fun i b hi=>?_,h'.inj,h'.fresh,h'.off,fun i b k hi hk=>dg (h'.lt i b k hi hk) hg.size,fun k hk=>dg (h.DL k hk) hg.size,h.KZ,?_,h.sub⟩,hD⟩
 ·exact Own.Dm (h'.own i b hi) (fun k hk=>hg.block k (h'.lt i b k hi hk) (hne i b k hi hk)) hD
 ·refine ⟨hg.os.trans h.fr.os,hg.tape.trans h.fr.tape,hg.output.trans h.fr.output,Nat.le_trans h.fr.size hg.size,fun k hk hF=>(hg.block k (dg hk h.fr.size) fun he=>?_).trans (h.fr.block k hk hF)⟩
  obtain ⟨j,c,_,hj,hjk⟩:=hr k he.symm
  rcases h.fresh j c k hj hjk with h1|h1
  ·omega
  ·exact hF h1
theorem CE (w:World) (t ty e:TypeId) (i:TypeInfo) (z:Value) (size bytes:Nat) (ht:P.underlying t=some (.slice e)) (hi:P.info? e=some i) (hz:i.zero=some z)
  (hsize:i.size=size) (hby:i.bytes=bytes) (hzs:z.cells.size=size) (hsz:0<size)
  (v:Value) (n:Nat) (xs:List Value) (hown:w.ownsRow 0 e size v n xs)
  (ad:Addr) (m c:Nat) (news:List Value) (hl:news.length=m*size) (hnews: ∀ (j:Nat) u,news[j]?=some u->w.cell? (ad.add j)=some u) (h1: ∀ u∈news,u.oneCell'=true)
  (h63:n+m<=maxLen) (hbytes:(n+m)*bytes<=140737488355328):
  ∃ v' w',(Builtin.append_ #[t,t] ty #[v,.slice (some ad) m c]).run P w=.ok v' w'/\w'.ownsRow 0 e size v' (n+m) (xs++news)/\w.grownBy w' v.ownBlock/\
   (v'.ownBlock=none\/v'.ownBlock=v.ownBlock\/v'.ownBlock=some w.heap.size):=by
 obtain ⟨v',w',hr,h2,h3,h4⟩:=run_append_own (P:=P) w 0 t ty e i z size bytes ht hi hz hsize hby hzs hsz v n xs hown ad m c news hl hnews h1 h63 hbytes (Nat.zero_le _)
 refine ⟨v',w',hr,h2,h3,?_⟩
 subst hsize
 subst hby
 have hsmall:n+m<=9223372036854775807:=by simp only [maxLen] at h63;omega
 rcases hown.2 with ⟨rfl,rfl⟩|⟨g,cap,cur,rfl,hbg,hg,hnc,hcm,hcs,htake⟩
 ·by_cases hm:m=0
  ·have:=h4.2 ⟨rfl,hm⟩;subst this;exact .inl rfl
  ·have hr':=run_append_nil (P:=P) w t ty e i z ht hi hz ad m c news hl hnews (by omega) (by omega) (by have hb:=hbytes;simp only [Nat.zero_add] at hb;omega)
   rw [hr] at hr';cases hr';exact .inr (.inr rfl)
 ·by_cases hroom:n+m<=cap
  ·have hfit:n*i.size+news.length<=cur.size:=by rw [hl,hcs,<- Nat.add_mul];exact Nat.mul_le_mul_right _ hroom
   have hr':=run_append_room (P:=P) w t ty e i ht hi g n cap cur hg ad m c news hl hnews h1 hroom hfit
   rw [hr] at hr';cases hr';exact .inr (.inl rfl)
  ·have holds: ∀ j u,xs[j]?=some u->w.cell? ((⟨g,0,none⟩:Addr).add j)=some u:=hown.cells (g:=g) rfl
   have hr':=run_append_grow (P:=P) w t ty e i z ht hi hz ⟨g,0,none⟩ n cap xs hown.1 holds ad m c news hl hnews (by omega) (by omega) (growslice_fits (by omega) hbytes)
   rw [hr] at hr';cases hr';exact .inr (.inr rfl)
end
end Go.En
