/-
 The evaluation is sound: numbers, tests, fields, indexes, lengths.
-/
import Derived.Test.YtikecakpcfpghaaGreatDoorEn5
import Derived.IntWalk
import Derived.MapFrom
import Derived.Laws.BytesArg
set_option linter.all false
namespace Go.En
open Go.RowKit
section
variable {S:Aq} {P:Program} {w0:World} {F D0 D:Nat->Prop} {s:St S} {N:Nat->Prop} {β:Nat->Nm} {a:Act} {w:World}
theorem Sa {o:Oper} {op:BinOp} {T U:Nat} {x y:Operand} (ho:o.op=.binOp op T x y U) {k:IntKind} {n m:Int} (hx:a.eval x=.int k n) (hy:a.eval y=.int k m):
  R.Sound P w0 F D0 D s N β a w o (dB op k n m):=by
 have hrun: ∀ v,(binOp op T (.int k n) (.int k m)).run P w=.ok v w->(execOp a.eval o).run P w=.ok (.value v) w:=fun v h2=>by
  have h1:(eqGuard op T x y (.int k n) (.int k m)).run P w=.ok () w:=by rw [eqGuard_at_int];rfl
  simp [execOp,ho,hx,hy,h1,h2]
 have H: ∀ {c:Option Bool} {v:Value},(CB c->(binOp op T (.int k n) (.int k m)).run P w=.ok v w)->R.Sound P w0 F D0 D s N β a w o (.val c (.v v)):=fun h=>AD trivial fun hp=>hrun _ (h hp)
 have HB: ∀ {b:Bool},(binOp op T (.int k n) (.int k m)).run P w=.ok (.bool b) w->R.Sound P w0 F D0 D s N β a w o (.val none (.b b)):=fun h=>AD trivial fun _=>by simp only [SV.den];exact hrun _ h
 unfold dB
 split
 ·exact HB (by simp [binOp_eql,IC])
 ·exact HB (by simp [binOp_neq,bne,IC])
 ·exact HB (by simp [binOp_lss])
 ·exact HB (by simp [binOp_leq])
 ·exact HB (by simp [binOp_gtr])
 ·exact HB (by simp [binOp_geq])
 ·split
  ·exact H fun h=>by simp [binOp_add,Op.intArith,Ge h]
  ·exact H fun _=>by simp [binOp_add,Op.intArith]
 ·split
  ·exact H fun h=>by simp [binOp_sub,Op.intArith,Ge h]
  ·exact H fun _=>by simp [binOp_sub,Op.intArith]
 ·split
  ·exact H fun h=>by simp [binOp_mul,Op.intArith,Ge h]
  ·exact H fun _=>by simp [binOp_mul,Op.intArith]
 ·split
  ·exact H fun h=>by
    simp only [CB,decide_eq_true_eq] at h
    simp [binOp_quo,Op.intDiv,h.1,Ge h.2]
  ·exact H fun h=>by simp only [CB,decide_eq_true_eq] at h;simp [binOp_quo,Op.intDiv,h]
 ·exact H fun h=>by simp only [CB,decide_eq_true_eq] at h;simp [binOp_rem,Op.intDiv,h]
 ·exact H fun _=>by simp [binOp_and,intBits_and]
 ·exact H fun _=>by simp [binOp_or,intBits_or]
 ·exact H fun _=>by simp [binOp_xor,intBits_xor]
 ·exact H fun _=>by simp [binOp_andNot,intBits_andNot]
 ·trivial
theorem Sd {o:Oper} {T U:Nat} {x y:Operand} (ho:o.op=.binOp .add T x y U) {p q:SV} (hx:a.eval x=p.den β) (hy:a.eval y=q.den β):
  R.Sound P w0 F D0 D s N β a w o (dE p q):=by
 unfold dE
 split
 ·rename_i n m
  simp only [SV.den] at hx hy
  have h1:(eqGuard .add T x y (.int .i64 n) (.int .i64 m)).run P w=.ok () w:=by rw [eqGuard_at_int];rfl
  exact AD trivial fun _=>by simp [execOp,ho,hx,hy,h1,SV.den,binOp_add,Op.intArith]
 ·trivial
theorem VK {o:Oper} {op:BinOp} {T U:Nat} {x y:Operand} (ho:o.op=.binOp op T x y U) {p q:SV} (hx:a.eval x=p.den β) (hy:a.eval y=q.den β):
  R.Sound P w0 F D0 D s N β a w o (bin op p q):=by
 unfold bin
 split
 ·rename_i k n k' m
  simp only [SV.den] at hx hy
  have hg:(eqGuard op T x y (.int k n) (.int k' m)).run P w=.ok () w:=by rw [eqGuard_at_int];rfl
  split
  ·exact AD trivial fun h=>by
    simp only [CB,decide_eq_true_eq] at h
    simp [execOp,ho,hx,hy,hg,binOp_shl,shift_shl _ _ _ _ h.1 h.2,SV.den]
  ·exact AD trivial fun h=>by
    simp only [CB,decide_eq_true_eq] at h
    simp [execOp,ho,hx,hy,hg,binOp_shr,shift_shr _ _ _ _ h.1 h.2,SV.den]
  ·split
   ·rename_i hk
    have hk:=(DB _ _).1 hk;subst hk
    exact Sa ho hx hy
   ·trivial
 ·rename_i l m
  simp only [SV.den] at hx hy
  have hrun: ∀ v,(binOp op T (.string ⟨⟨l⟩⟩) (.string ⟨⟨m⟩⟩)).run P w=.ok v w->(execOp a.eval o).run P w=.ok (.value v) w:=fun v h2=>by
   have h1:(eqGuard op T x y (.string ⟨⟨l⟩⟩) (.string ⟨⟨m⟩⟩)).run P w=.ok () w:=by rw [eqGuard_at_string];rfl
   simp [execOp,ho,hx,hy,h1,h2]
  have e1: ∀ l:List UInt8,ByteArray.toList ⟨⟨l⟩⟩=l:=fun l=>by rw [ByteArray.toList_eq]
  have e2: ∀ l:List UInt8,ByteArray.size ⟨⟨l⟩⟩=l.length:=fun l=>rfl
  split
  ·exact AD trivial fun _=>hrun _ (by simp [binOp,Op.stringOp,e1,IC,SV.den])
  ·exact AD trivial fun _=>hrun _ (by simp [binOp,Op.stringOp,e1,IC,SV.den])
  ·refine AD trivial fun h=>hrun _ ?_
   simp only [CB,decide_eq_true_eq] at h
   have h2:¬ (9223372036854775807:Int)<((ByteArray.size ⟨⟨l⟩⟩+ByteArray.size ⟨⟨m⟩⟩:Nat):Int):=by rw [e2,e2];omega
   have h3:(⟨⟨l⟩⟩++⟨⟨m⟩⟩:ByteArray)=⟨⟨l++m⟩⟩:=by apply ByteArray.ext;simp
   simp only [binOp,Op.stringOp,IntKind.max_i64,GT.gt,if_neg h2,h3];rfl
  ·exact AD trivial fun _=>hrun _ (by simp [binOp,Op.stringOp,e1,SV.den])
  ·trivial
 ·trivial
theorem Tv {x:SV} {b:Bool} (h:x.PB=some b) (β:Nat->Nm):x.den β=.bool b:=by
 unfold SV.PB at h
 split at h<;>cases h<;>rfl
theorem SZ {o:Oper} {op:BinOp} {T U:Nat} {x y:Operand} (ho:o.op=.binOp op T x y U) {p q:Bool} (hx:a.eval x=.bool p) (hy:a.eval y=.bool q) (hT:P.underlying T=some .bool):
  R.Sound P w0 F D0 D s N β a w o (dA op p q):=by
 have hg:(eqGuard op T x y (.bool p) (.bool q)).run P w=.ok () w:=by rw [eqGuard_at_bool];rfl
 unfold dA
 split
 ·exact AD trivial fun _=>by simp [execOp,ho,hx,hy,hg,binOp,run_equal_bool T p q P w hT,SV.den]
 ·exact AD trivial fun _=>by simp [execOp,ho,hx,hy,hg,binOp,run_equal_bool T p q P w hT,SV.den]
 ·trivial
theorem ZW {o:Oper} {op:UnOp} {T:Nat} {x:Operand} (ho:o.op=.unOp op T x) {p:SV} (hx:a.eval x=p.den β):R.Sound P w0 F D0 D s N β a w o (un op p):=by
 unfold un
 split
 ·exact AD trivial fun _=>by simp [execOp,ho,hx,SV.den,Op.unary]
 ·exact AD trivial fun _=>by simp [execOp,ho,hx,SV.den,Op.unary]
 ·exact AD trivial fun h=>by simp [execOp,ho,hx,SV.den,Op.unary,Op.intArith,Ge h]
 ·exact AD trivial fun _=>by simp [execOp,ho,hx,SV.den,Op.unary,intBits_xor,IntKind.signed]
 ·trivial
theorem ZX {tb:List (Nat×TI)} (htb:AU S P tb) {T:Nat} {t:TI} (h:lk tb T=some t): ∃ d,P.underlying T=some d:=by
 obtain ⟨d,h1,_⟩:=(htb.get h).nT
 exact ⟨d,h1⟩
theorem Sm {tb:List (Nat×TI)} (htb:AU S P tb) {o:Oper} {U T:Nat} {x:Operand} (ho:o.op=.convert U T x) {p:SV} (hx:a.eval x=p.den β) {ts t:TI} (hs:lk tb U=some ts) (ht:lk tb T=some t):R.Sound P w0 F D0 D s N β a w o (conv t p):=by
 obtain ⟨d,hd⟩:=ZX htb hs
 have hdesc:=(htb.get ht).desc
 have hc: ∀ k k' n,t.d=.int k->(convert U T (.int k' n)).run P w=.ok (.int k (k.wrap n)) w:=fun k k' n htd=>by
  rw [htd] at hdesc
  simp only [TD.ok] at hdesc
  simp [convert,run_underlying hd,run_underlying hdesc,Conv.intToInt]
 unfold conv
 split
 ·rename_i k' n htd
  exact AD trivial fun h=>by simp [execOp,ho,hx,SV.den,hc _ _ _ htd,Ge h]
 ·rename_i k k' n _ htd
  exact AD trivial fun _=>by simp [execOp,ho,hx,SV.den,hc _ _ _ htd]
 ·rename_i l htd
  rw [htd] at hdesc
  simp only [TD.ok] at hdesc
  exact AD trivial fun _=>by simp [execOp,ho,hx,SV.den,convert,run_underlying hd,run_underlying hdesc]
 ·trivial
theorem Sf: ∀ {cs:List SV} {xs:List Int},gw cs=some xs->cs=xs.map fun n=>SV.v (.int .u8 n)
 | [],xs,h=>by simp only [gw,Option.some.injEq] at h;subst h;rfl
 | c::r,xs,h=>by
  unfold gw at h
  split at h
  ·rename_i he;cases he
  ·rename_i n r' he
   cases he
   split at h
   ·rename_i l hl
    simp only [Option.some.injEq] at h
    subst h
    rw [List.map_cons,<- Sf hl]
   ·cases h
  ·cases h
theorem KP {w:World} {U T e:TypeId} (hs:P.underlying U=some (.slice e)) (he:P.underlying e=some (.int .u8)) (hd:P.underlying T=some .string) {b off len cap:Nat} {xs:List Int} (hl:xs.length=len) (hc: ∀ i n,xs[i]?=some n->w.cell? ⟨b,off+i,none⟩=some (.int .u8 n)):
  (convert U T (.slice (some ⟨b,off,none⟩) len cap)).run P w=.ok (.string ⟨⟨xs.map fun k=>k.toNat.toUInt8⟩⟩) w:=
 run_convert_bytes_arg w U e hs he b off len cap xs hl (fun i hi=>by
  have hx:xs[i]?=some xs[i]:=List.getElem?_eq_getElem (by omega)
  rw [hc i _ hx]
  simp [List.getD,hx]) T hd
theorem dI {T:Nat->Type}: ∀ {fs:List Fd},TE fs=true-> ∀ p:Ps T fs,∃ n,Dz fs p=[.int .u8 n]
 | [.int .u8],_,p=>⟨p.1,rfl⟩
theorem dH {τ:Nat} (h:TE (S.fds τ)=true) (x:S.T τ):S.enc τ x=[.int .u8 (iS S τ x)]:=by
 obtain ⟨n,hn⟩:=dI h (S.to τ x)
 have h1:S.enc τ x=[.int .u8 n]:=hn
 rw [h1]
 unfold iS
 rw [h1]
theorem OI {tb:List (Nat×TI)} (hg:G w0 F D0 D s N β a w) {o:Oper} {U T e:Nat} {x:Operand} (ho:o.op=.convert U T x) {p:SV} (hx:a.eval x=p.den β) (hs:P.underlying U=some (.slice e)) (he:P.underlying e=some (.int .u8)) (hd:P.underlying T=some .string):R.Sound P w0 F D0 D s N β a w o (PH s p):=by
 unfold PH
 split
 ·rename_i i n
  split
  ·rename_i E z m cs hi
   split
   ·rename_i xs h1 h2 h3 h4
    have h1:=Nat.eq_of_beq_eq_true h1
    have h2:=Nat.eq_of_beq_eq_true h2
    have h3:=Nat.le_of_ble_eq_true h3
    subst h1;subst h2
    have hrow:=hg.gh.own i _ hi
    have hcs:=Sf h4
    have hb:=A8 hrow h3
    have hlen:(AA β cs).length=m*1:=hrow.1
    rw [AF,hcs,List.length_map,Nat.mul_one] at hlen
    refine AD trivial fun _=>?_
    have hr:=KP (P:=P) (w:=w) (cap:=(β i).cap) (b:=(β i).AN) (off:=0) hs he hd hlen (fun j k hj=>by
     rw [Nat.zero_add]
     refine (BG hrow (j:=j) ?_).2
     rw [B1,hcs,List.getElem?_map,hj]
     rfl)
    simp only [execOp,ho,hx,SV.den,hb,Option.map_some]
    simp [hr]
   ·trivial
  ·trivial
 ·rename_i i off len cap
  split
  ·rename_i E cs hi
   split
   ·rename_i xs h2
    obtain ⟨g,hb,hh⟩:=hg.gh.own i _ hi
    have hcs:=Sf h2
    have A6:(β i).AN=g:=by simp [Nm.AN,hb]
    refine AD trivial fun hc=>?_
    have hle:off+len<=xs.length:=by simpa [CB] using hc
    have hlen:((xs.drop off).take len).length=len:=by rw [List.length_take,List.length_drop];omega
    have hr:=KP (P:=P) (w:=w) (cap:=cap) (b:=g) (off:=off) hs he hd hlen (fun j k hj=>by
     rw [cell_of_row w g _ _ _ _ hh]
     rw [List.getElem?_take] at hj
     split at hj
     ·rw [List.getElem?_drop] at hj
      have hj':cs[off+j]?=some (SV.v (.int .u8 k)):=by rw [hcs,List.getElem?_map,hj];rfl
      simp [B1,hj',SV.den]
     ·cases hj)
    simp only [execOp,ho,hx,SV.den,A6]
    simp [hr]
   ·trivial
  ·trivial
 ·rename_i i
  split
  ·rename_i τ E l hi
   split
   ·rename_i hf
    obtain ⟨hlen,vs,hrow,hcs⟩:=hg.gh.own i _ hi
    refine AD trivial fun _=>?_
    cases hb:(β i).b with
    | none=>
     have hl0:l=[]:=by
      rcases hrow.2 with ⟨_,h2⟩|⟨g,cap,cur,h3,_⟩
      ·exact List.eq_nil_of_length_eq_zero h2
      ·rw [hb] at h3;cases h3
     subst hl0
     have hr:=run_convert_bytes_nil (P:=P) w U e hs he (β i).len (β i).cap T hd
     simp only [execOp,ho,hx,SV.den,hb,Option.map_none]
     simp [hr]
     rfl
    | some g=>
     have A6:(β i).AN=g:=by simp [Nm.AN,hb]
     have hr:=KP (P:=P) (w:=w) (cap:=(β i).cap) (b:=g) (off:=0) (xs:=l.map fun x=>iS S τ x) hs he hd (len:=(β i).len) (by rw [List.length_map,hlen]) (fun j k hj=>by
      rw [Nat.zero_add]
      rw [List.getElem?_map] at hj
      obtain ⟨x,hx1,hx2⟩:=Option.map_eq_some_iff.1 hj
      have hen:=dH hf x
      have hfl:=S.Jd τ l j x 0 (.int .u8 (iS S τ x)) hx1 (by rw [hen];rfl)
      have hsz:S.sz τ=1:=by rw [<-S.Aa τ x,hen];rfl
      rw [hsz,Nat.mul_one,Nat.add_zero] at hfl
      obtain ⟨v,hv⟩: ∃ v,vs[j]?=some v:=by
       have:j<vs.length:=by rw [<-hcs.1];exact (List.getElem?_eq_some_iff.1 hfl).1
       exact ⟨_,List.getElem?_eq_getElem this⟩
      have hck:=hcs.2 j _ v hfl hv
      have hcell:=(BG hrow hv).2
      rw [A6] at hcell
      rw [hcell]
      cases hck
      rw [hx2])
     simp only [execOp,ho,hx,SV.den,hb,Option.map_some]
     simp [hr]
   ·trivial
  ·trivial
 ·trivial
theorem Xt {x:SV} {k:LK} (h:Oj x k=true) (β:Nat->Nm):kV (x.den β)=some k:=by
 unfold Oj at h
 split at h
 ·rw [(DB _ _).1 h];rfl
 ·rfl
 ·rfl
 ·rfl
 ·cases h
theorem Kf (β:Nat->Nm): ∀ {l:List SV} {ks:List LK},EU l ks=true->Df (AA β l) ks
 | [],[],_=>by simp [AA,Df]
 | x::r,k::q,h=>by
  simp only [EU] at h
  split at h
  ·rename_i hx;exact ⟨Xt hx β,Kf β h⟩
  ·cases h
 | [],_::_,h=>by simp [EU] at h
 | _::_,[],h=>by simp [EU] at h
theorem Zt (β:Nat->Nm) {x y:SV} {k:LK} (hx:Oj x k=true) (hy:Oj y k=true):lO x y=gy (x.den β) (y.den β):=by
 unfold Oj at hx hy
 split at hx
 all_goals first
  | (split at hy<;>first|(rename_i heq _;cases heq;done)|(simp_all [lO,gy,SV.den,SV.PB];done)|cases hy)
  | cases hx
theorem Mh (β:Nat->Nm): ∀ {l m:List SV} {ks:List LK},EU l ks=true->EU m ks=true->OG l m=F0 (AA β l) (AA β m)
 | [],[],_,_,_=>by simp [OG,AA,F0]
 | x::r,y::q,k::ks,h1,h2=>by
  simp only [EU] at h1 h2
  split at h1
  case h_2=>cases h1
  rename_i hx
  split at h2
  case h_2=>cases h2
  rename_i hy
  simp only [OG,AA,F0,Zt β hx hy,Mh β h1 h2]
 | [],_::_,ks,h1,h2=>by cases ks<;>simp [EU] at h1 h2
 | _::_,[],ks,h1,h2=>by cases ks<;>simp [EU] at h1 h2
 | _::_,_::_,[],h1,_=>by simp [EU] at h1
theorem JS {x:SV} {cs:List SV} (h:x.Zh=some cs) (β:Nat->Nm):x.den β=.agg (AA β cs).toArray:=by
 have map_v: ∀ l:List Value,AA β (l.map SV.v)=l:=fun l=>by
  induction l with
  | nil=>simp [AA]
  | cons x r ih=>simp [AA,SV.den,ih]
 unfold SV.Zh at h
 split at h
 ·cases h;simp [SV.den]
 ·cases h;simp [SV.den,map_v]
 ·cases h
theorem MV {tb:List (Nat×TI)} (htb:AU S P tb) {o:Oper} {op:BinOp} {T U:Nat} {x y:Operand} {p q:SV} (ho:o.op=.binOp op T x y U) (hx:a.eval x=p.den β) (hy:a.eval y=q.den β):R.Sound P w0 F D0 D s N β a w o (VJ tb op T p q):=by
 unfold VJ
 split
 case h_2=>trivial
 rename_i t ht
 split
 case h_2=>trivial
 rename_i ks l m hks hl hm
 split
 case h_2=>trivial
 rename_i kl km
 have hT:=(htb.get ht).nY ks hks
 have e:=hT.run (AA β l) (AA β m) w (Kf β kl) (Kf β km)
 simp only [Fp,if_true] at e
 split
 ·exact AD trivial fun _=>by simp [execOp,ho,hx,hy,JS hl,JS hm,run_eqGuard_agg w .eql T x y _ _ hT.guard,binOp,Op.equal,e,SV.den,Mh β kl km]
 ·exact AD trivial fun _=>by simp [execOp,ho,hx,hy,JS hl,JS hm,run_eqGuard_agg w .neq T x y _ _ hT.guard,binOp,Op.equal,e,SV.den,Mh β kl km]
 ·trivial
theorem Sc {o:Oper} {op:BinOp} {T U e:Nat} {x y:Operand} {p q:SV} (ho:o.op=.binOp op T x y U) (hT:P.underlying T=some (.pointer e)) (hx:a.eval x=p.den β) (hy:a.eval y=q.den β):R.Sound P w0 F D0 D s N β a w o (dD op p q):=by
 unfold dD
 split
 case h_2=>trivial
 rename_i b hb
 obtain ⟨ad,h1,h2⟩: ∃ ad,p.den β=.pointer ad/\ad.isNone=b:=by
  unfold jU at hb
  split at hb
  ·cases hb;exact ⟨_,by rw [SV.den],rfl⟩
  ·cases hb;exact ⟨_,by rw [SV.den],rfl⟩
  ·cases hb;exact ⟨_,by rw [SV.den],rfl⟩
  ·cases hb
 have e:=run_equal_pointer_nil w T ad (P:=P) (by simp [Program.pointee,hT])
 split
 ·exact AD trivial fun _=>by simp [execOp,ho,hx,hy,h1,eqGuard,binOp,e,SV.den,h2]
 ·exact AD trivial fun _=>by simp [execOp,ho,hx,hy,h1,eqGuard,binOp,e,SV.den,h2]
 ·trivial
theorem Sb (hg:G w0 F D0 D s N β a w) {o:Oper} {op:BinOp} {T U e:Nat} {x y:Operand} {p q:SV} (ho:o.op=.binOp op T x y U) (hT:P.underlying T=some (.slice e)) (hp:ev s x=some p) (hq:ev s y=some q):R.Sound P w0 F D0 D s N β a w o (dC s op p q):=by
 unfold dC
 split
 case h_2=>trivial
 rename_i i
 split
 case h_2=>trivial
 rename_i σ l hi
 obtain ⟨_,hc⟩:=hg.gh.own i _ hi
 have hx:a.eval x=(β i).sl:=AB hg hp
 have hy:a.eval y=.slice none 0 0:=AB hg hq
 have key:CB (some (YV l))-> ∃ ad n c,(β i).sl=.slice (some ad) n c:=fun hl=>by
  generalize hv:(β i).sl=v at hc
  cases hc with
  | nil=>simp [CB,YV] at hl
  | sl σ l b off c vs _ _ _ _=>exact ⟨_,_,_,rfl⟩
 split
 ·exact AD trivial fun hl=>by
   obtain ⟨ad,n,c,e1⟩:=key hl
   have:=run_equal_slice_nil (P:=P) w T e (some ad) n c hT
   simp [execOp,ho,hx,hy,e1,eqGuard,binOp,this,SV.den]
 ·exact AD trivial fun hl=>by
   obtain ⟨ad,n,c,e1⟩:=key hl
   have:=run_equal_slice_nil (P:=P) w T e (some ad) n c hT
   simp [execOp,ho,hx,hy,e1,eqGuard,binOp,this,SV.den]
 ·trivial
theorem Qr (hg:G w0 F D0 D s N β a w) {o:Oper} {x:Operand} (ho:o.op=.nilCheck x):R.Sound P w0 F D0 D s N β a w o (Ws s x):=by
 unfold Ws
 split
 ·rename_i i off h
  exact AD (CA hg h) fun _=>by simp [execOp,ho,AB hg h,SV.den]
 ·rename_i i z e off h
  exact AD (CA hg h) fun _=>by simp [execOp,ho,AB hg h,SV.den]
 ·rename_i i z e off y j q h
  exact AD (CA hg h) fun _=>by simp [execOp,ho,AB hg h,SV.den]
 ·rename_i i off h
  split
  case h_2=>trivial
  rename_i cs hi
  obtain ⟨_,b,o0,hv,_⟩:=hg.gh.own i _ hi
  exact AD (CA hg h) fun _=>by simp [execOp,ho,AB hg h,SV.den,Nm.at,hv]
 ·rename_i b h
  exact AD trivial fun _=>by simp [execOp,ho,AB hg h,SV.den]
 ·rename_i f c h
  exact AD (CA hg h) fun _=>by
   rcases Bool.eq_false_or_eq_true (Nat.ble 1000000 f) with hf|hf
   ·simp [execOp,ho,AB hg h,SV.den,KW hf]
   ·simp [execOp,ho,AB hg h,SV.den,ET hf]
 ·trivial
theorem Mn: ∀ {l:List Field} {fs:List (Nat×Nat×Nat)},PQ P l fs-> ∀ {j:Nat} {o t z:Nat},fs[j]?=some (o,t,z)-> ∃ f,l[j]?=some f/\f.offset=o/\f.type=t/\(P.info? t).map (·.size)=some z/\z≠0
 | [],[],_,j,_,_,_,h=>by simp at h
 | f::l,(o',t',z')::r,hk,0,o,t,z,h=>by
  simp only [List.getElem?_cons_zero,Option.some.injEq,Prod.mk.injEq] at h
  obtain ⟨rfl,rfl,rfl⟩:=h
  exact ⟨f,rfl,hk.1,hk.2.1,hk.2.2.1,hk.2.2.2.1⟩
 | f::l,(o',t',z')::r,hk,j+1,o,t,z,h=>by
  simp only [List.getElem?_cons_succ] at h
  obtain ⟨g,h1,h2⟩:=Mn hk.2.2.2.2 h
  exact ⟨g,by simpa using h1,h2⟩
 | [],_::_,hk,_,_,_,_,_=>hk.elim
 | _::_,[],hk,_,_,_,_,_=>hk.elim
theorem K9 {tb:List (Nat×TI)} (htb:AU S P tb) {T j o ft z:Nat} (h:Lg tb T j=some (o,ft,z)):
  ∃ l f,P.underlying T=some (.struct l)/\l[j]?=some f/\f.offset=o/\f.type=ft/\(P.info? ft).map (·.size)=some z/\z≠0:=by
 unfold Lg at h
 split at h
 case h_2=>cases h
 rename_i t h1
 have hd:=(htb.get h1).desc
 unfold Qs at h
 split at h
 ·rename_i fs htd
  rw [htd] at hd
  obtain ⟨l,h3,h4⟩:=hd
  obtain ⟨f,h5,h6⟩:=Mn h4 h
  exact ⟨l,f,h3,by simpa using h5,h6⟩
 ·cases h
theorem Ej {T j o ft z b off:Nat} {l:Array Field} {f:Field} (h1:P.underlying T=some (.struct l)) (h2:l[j]?=some f) (h3:f.offset=o) (h4:f.type=ft) (h5:(P.info? ft).map (·.size)=some z) (h6:z≠0):
  (Instr.fieldAt T (.pointer (some ⟨b,off,none⟩)) j).run P w=.ok (.pointer (some ⟨b,off+o,none⟩)) w:=by
 subst h3;subst h4
 simp [Instr.fieldAt,run_underlying h1,h2,Instr.sureAddr,fieldPlace,Ap h5,h6,add_lit]
theorem JY {tb:List (Nat×TI)} (htb:AU S P tb) (hg:G w0 F D0 D s N β a w) {o:Oper} {T j:Nat} {x:Operand} (ho:o.op=.fieldAddr T x j):R.Sound P w0 F D0 D s N β a w o (Ha tb s T x j):=by
 unfold Ha
 split
 case h_2=>trivial
 rename_i of ft z h1
 obtain ⟨l,f,h3,h4,h5,h6,h7,h8⟩:=K9 htb h1
 split
 ·rename_i i off h2
  exact AD (by simpa [SV.on] using CA hg h2) fun _=>by simp [execOp,ho,AB hg h2,SV.den,Ej h3 h4 h5 h6 h7 h8]
 ·rename_i i zz e off h2
  exact AD (by simpa [SV.on] using CA hg h2) fun _=>by simp [execOp,ho,AB hg h2,SV.den,Ej h3 h4 h5 h6 h7 h8,Nat.add_assoc]
 ·rename_i i zz e off y j q h2
  exact AD (by simpa [SV.on] using CA hg h2) fun _=>by simp [execOp,ho,AB hg h2,SV.den,Ej h3 h4 h5 h6 h7 h8,Nat.add_assoc]
 ·rename_i i off h2
  split
  case h_2=>trivial
  rename_i cs hi
  obtain ⟨_,b,o0,hv,_⟩:=hg.gh.own i _ hi
  exact AD (by simpa [SV.on] using CA hg h2) fun _=>by simp [execOp,ho,AB hg h2,SV.den,Nm.at,hv,Ej h3 h4 h5 h6 h7 h8,Nat.add_assoc]
 ·rename_i b off h2
  exact AD trivial fun _=>by simp [execOp,ho,AB hg h2,SV.den,Ej h3 h4 h5 h6 h7 h8]
 ·trivial
theorem Y7 {T:Nat} {t:TI} (ht:t.ok S P T) {cs:List SV} {off:Nat} {c:Option Bool} {x:SV} (h:(ld t cs off:R S)=.val c x):(part T (AA β cs).toArray off).run P w=.ok (x.den β) w/\ ∀ N,BR N cs->x.on N:=by
 unfold ld at h
 unfold part
 rw [Sem.run_bind,ht.isAgg w,Result.andThen_ok]
 split at h
 ·rename_i hagg
  split at h
  ·rename_i hle
   cases h
   refine ⟨?_,?_⟩
   ·have e:(AA β cs).toArray.extract off (off+t.sz)=(AA β ((cs.drop off).take t.sz)).toArray:=by
     apply Array.ext'
     simp [DV,List.map_take,List.map_drop,List.take_drop]
    simp only [hagg,if_true,Sem.run_bind,ht.size w,Result.andThen_ok,Sem.run_pure,SV.den,e]
   ·intro N hN
    exact Ay.2 fun y hy=>Ay.1 hN y (List.mem_of_mem_drop (List.mem_of_mem_take hy))
  ·cases h
 ·rename_i hagg
  split at h
  ·rename_i y hy
   cases h
   refine ⟨?_,fun N hN=>Ay.1 hN _ (List.mem_of_getElem? hy)⟩
   simp [hagg,DV,hy]
  ·cases h
theorem aO {t:TI} {cs:List SV} {off:Nat}:(∃ x,(ld t cs off:R S)=.val none x)\/(ld t cs off:R S)=.stop:=by
 unfold ld
 split
 ·split
  ·exact .inl ⟨_,rfl⟩
  ·exact .inr rfl
 ·split
  ·exact .inl ⟨_,rfl⟩
  ·exact .inr rfl
theorem Dx {y:SV} {cs:List SV} (h:y.GG=some cs) (β:Nat->Nm):y.den β=.agg (AA β cs).toArray/\ ∀ N,y.on N->BR N cs:=by
 unfold SV.GG at h
 split at h
 ·cases h;exact ⟨by simp [SV.den],fun N h=>h⟩
 ·rename_i arr
  cases h
  have map_v: ∀ l:List Value,AA β (l.map SV.v)=l:=fun l=>by
   induction l with
   | nil=>simp [AA]
   | cons x r ih=>simp [AA,SV.den,ih]
  exact ⟨by simp [SV.den,map_v],fun N _=>Ay.2 fun x hx=>by obtain ⟨v,_,rfl⟩:=List.mem_map.1 hx;trivial⟩
 ·cases h
theorem OJ {tb:List (Nat×TI)} (htb:AU S P tb) (hg:G w0 F D0 D s N β a w) {o:Oper} {T j:Nat} {x:Operand} (ho:o.op=.field T x j):R.Sound P w0 F D0 D s N β a w o (PJ tb s T x j):=by
 unfold PJ
 split
 case h_2=>trivial
 rename_i of ft z h1
 split
 case h_2=>trivial
 rename_i cs h2
 split
 case h_2=>trivial
 rename_i t h3
 obtain ⟨l,f,h4,h5,h6,h7,h8,h9⟩:=K9 htb h1
 obtain ⟨y,hy,hc⟩:=Option.bind_eq_some_iff.1 h2
 obtain ⟨ha1,ha3⟩:=Dx hc β
 rcases aO (S:=S) (t:=t) (cs:=cs) (off:=of) with ⟨v,hv⟩|hv
 ·rw [hv]
  obtain ⟨hp,hn⟩:=Y7 (w:=w) (β:=β) (htb.get h3) hv
  refine AD (hn _ (ha3 _ (CA hg hy))) fun _=>?_
  subst h6;subst h7
  simp [execOp,ho,AB hg hy,ha1,Instr.field,run_underlying h4,h5,asAgg,hp]
 ·rw [hv];trivial
theorem AY {tb:List (Nat×TI)} (htb:AU S P tb) {T:Nat} {d:TD} (h:DC tb T=some d):d.ok P T:=by
 unfold DC at h
 split at h
 ·rename_i t h1;cases h;exact (htb.get h1).desc
 ·cases h
theorem PI {tb:List (Nat×TI)} (htb:AU S P tb) (hg:G w0 F D0 D s N β a w) {o:Oper} {U T:Nat} {x:Operand} (ho:o.op=.convert U T x) {p:SV} (hx:a.eval x=p.den β) {ts t:TI} (hs:lk tb U=some ts) (ht:lk tb T=some t):R.Sound P w0 F D0 D s N β a w o (Sx tb s ts t p):=by
 unfold Sx
 split
 ·rename_i e z hd
  have h1:=(htb.get hs).desc
  rw [hd] at h1
  split
  ·rename_i htd hte
   have h2:=(htb.get ht).desc
   rw [htd] at h2
   have h3:=AY htb hte
   exact OI (tb:=tb) hg ho hx h1.1 h3 h2
  ·trivial
 ·exact Sm htb ho hx hs ht
theorem Db {T n e esz b off:Nat} {k:IntKind} {j:Int} (h1:P.underlying T=some (.array n e)) (h2:(P.info? e).map (·.size)=some esz) (h0:0<=j) (hl:j<n):
  (Instr.indexAt T (.pointer (some ⟨b,off,none⟩)) (.int k j)).run P w=.ok (.pointer (some ⟨b,off+j.toNat*esz,none⟩)) w:=by
 simp [Instr.indexAt,run_underlying h1,asIntOf,Instr.sureAddr,h0,hl,Ap h2,add_lit]
theorem Cc {T n c e esz b off:Nat} {k:IntKind} {j:Int} (h1:P.underlying T=some (.slice e)) (h2:(P.info? e).map (·.size)=some esz) (h0:0<=j) (hl:j<n):
  (Instr.indexAt T (.slice (some ⟨b,off,none⟩) n c) (.int k j)).run P w=.ok (.pointer (some ⟨b,off+j.toNat*esz,none⟩)) w:=by
 simp [Instr.indexAt,run_underlying h1,asIntOf,h0,hl,Ap h2,add_lit]
theorem JZ {tb:List (Nat×TI)} (htb:AU S P tb) (hg:G w0 F D0 D s N β a w) {o:Oper} {T:Nat} {x i:Operand} (ho:o.op=.indexAddr T x i):R.Sound P w0 F D0 D s N β a w o (Hb tb s T x i):=by
 unfold Hb
 split
 case h_2=>trivial
 rename_i k j h3
 split
 ·rename_i n e esz h1
  obtain ⟨h4,h5⟩:=AY htb h1
  split
  ·rename_i b off h2
   split
   ·rename_i hz
    have hz:=Nat.eq_of_beq_eq_true hz;subst hz
    refine AD (by simpa [SV.on] using CA hg h2) fun hc=>?_
    simp only [CB,decide_eq_true_eq] at hc
    simp [execOp,ho,AB hg h2,AB hg h3,SV.den,Db h4 h5 hc.1 hc.2]
   ·refine AD (by simpa [SV.on] using CA hg h2) fun hc=>?_
    simp only [CB,decide_eq_true_eq] at hc
    simp [execOp,ho,AB hg h2,AB hg h3,SV.den,Db h4 h5 hc.1 hc.2]
  ·rename_i b off h2
   split
   case h_2=>trivial
   rename_i cs _ hi
   obtain ⟨_,b0,o0,hv,_⟩:=hg.gh.own b _ hi
   refine AD (by simpa [SV.on] using CA hg h2) fun hc=>?_
   simp only [CB,decide_eq_true_eq] at hc
   simp [execOp,ho,AB hg h2,AB hg h3,SV.den,Nm.at,hv,Db h4 h5 hc.1 hc.2,Nat.add_assoc]
  ·rename_i b zz e0 off h2
   split
   case h_2=>trivial
   refine AD (by simpa [SV.on] using CA hg h2) fun hc=>?_
   simp only [CB,decide_eq_true_eq] at hc
   simp [execOp,ho,AB hg h2,AB hg h3,SV.den,Db h4 h5 hc.1 hc.2,Nat.add_assoc]
  ·trivial
 ·rename_i e esz h1
  obtain ⟨h4,h5⟩:=AY htb h1
  split
  ·rename_i b h2
   split
   case h_2=>trivial
   rename_i σ l hb
   split
   case h_2=>trivial
   rename_i hz
   have hz:=Nat.eq_of_beq_eq_true hz;subst hz
   split
   rename_i cs o1 n' hu
   intro hc hN
   simp only [CB,decide_eq_true_eq] at hc
   have hlt:j.toNat<l.length:=by omega
   obtain ⟨_,hok⟩:=hg.gh.own b _ hb
   have hv:a.eval x=(β b).sl:=AB hg h2
   generalize (β b).sl=sv at hok hv
   cases hok with
   | nil=>simp at hlt
   | sl _ _ bk off c vs hD hlc hcell hrec=>
    have hall:AE S w D (S.flat σ l) ((List.range (S.flat σ l).length).map vs):=⟨by simp,fun q f v hf hv=>by
     have hq:q<(S.flat σ l).length:=(List.getElem?_eq_some_iff.1 hf).1
     rw [List.getElem?_map,List.getElem?_range hq] at hv
     cases hv
     exact hrec q f hf⟩
    have hat:=S.PE σ hall hlt (S.A5 σ)
    obtain ⟨β',g2,g3,g4⟩:=EI (β:=β) hat hu (fun j h1 h2=>hN j h1 (by omega))
    obtain ⟨β2,e1,e2,hg2⟩:=g2.val (hN n' g2.le (Nat.lt_succ_self _)) (b:=.vu cs) (nm:=⟨none,0,0,.pointer (some ⟨bk,off+j.toNat*S.sz σ,none⟩)⟩) (fun k=>Nm.FV rfl (fun _=>rfl) k) g4 (fun β2 e1=>⟨rfl,bk,off+j.toNat*S.sz σ,rfl,hD,fun q v hv=>by
      rw [<-BX e1 cs g4,g3] at hv
      simp only [List.getElem?_take,List.getElem?_drop] at hv
      split at hv
      ·rw [List.getElem?_map] at hv
       obtain ⟨r,hr,hr2⟩:=Option.map_eq_some_iff.1 hv
       have hr3:=List.getElem?_eq_some_iff.1 hr
       obtain ⟨hr4,hr5⟩:=hr3
       simp only [List.getElem_range] at hr5
       subst hr5
       have hf:=List.getElem?_eq_getElem (l:=S.flat σ l) (by simpa using hr4)
       have:=hcell _ _ hf
       rw [Nat.add_assoc,this,hr2]
      ·cases hv⟩)
    refine ⟨β2,w,?_,hg2,.inr ⟨g2.le,Nat.lt_succ_self _⟩⟩
    have:=Cc (P:=P) (w:=w) (b:=bk) (off:=off) (c:=c) (k:=k) h4 h5 hc.1 hc.2
    simp [execOp,ho,hv,AB hg h3,SV.den,this,e2,Nm.at]
  ·rename_i b h2
   have main: ∀ {σ E:Nat} {l:List (S.T σ)} {vs:List Value},(β b).len=l.length->w.ownsRow 0 E (S.sz σ) (.slice ((β b).b.map fun b=>⟨b,0,none⟩) l.length (β b).cap) l.length vs->R.Sound P w0 F D0 D s N β a w o (.val (some (decide (0<=j/\j<l.length))) (.ep b esz j.toNat 0)):=by
    intro σ E l vs hlen hrow
    refine AD (by simpa [SV.on] using CA hg h2) fun hc=>?_
    simp only [CB,decide_eq_true_eq] at hc
    obtain ⟨g,hgb⟩: ∃ g,(β b).b=some g:=⟨_,A8 hrow (by omega)⟩
    have:=Cc (P:=P) (w:=w) (b:=g) (off:=0) (c:=(β b).cap) (k:=k) h4 h5 hc.1 hc.2
    simp [execOp,ho,AB hg h2,AB hg h3,SV.den,hgb,Nm.AN,hlen] at this ⊢
    simp [this]
   split
   ·rename_i σ E l hb
    split
    case h_2=>trivial
    obtain ⟨hlen,vs,hrow,_⟩:=hg.gh.own b _ hb
    exact main hlen hrow
   ·rename_i σ E l hb
    split
    case h_2=>trivial
    obtain ⟨hlen,vs,hrow,_⟩:=hg.gh.own b _ hb
    exact main hlen hrow
   ·rename_i κ τ ag E ls hb
    split
    case h_2=>trivial
    obtain ⟨hlen,vs,hrow,_⟩:=hg.gh.own b _ hb
    refine AD (by simpa [SV.on] using CA hg h2) fun hc=>?_
    simp only [CB,decide_eq_true_eq] at hc
    obtain ⟨g,hgb⟩: ∃ g,(β b).b=some g:=⟨_,A8 hrow (by omega)⟩
    have:=Cc (P:=P) (w:=w) (b:=g) (off:=0) (c:=(β b).cap) (k:=k) h4 h5 hc.1 hc.2
    simp [execOp,ho,AB hg h2,AB hg h3,SV.den,hgb,Nm.AN,hlen] at this ⊢
    simp [this]
   ·trivial
  ·rename_i b z e' off h2
   split
   case h_2=>trivial
   rename_i τ E l hb
   split
   case h_2=>trivial
   rename_i σ hz hσ
   have hz:=Nat.eq_of_beq_eq_true hz;subst hz
   split
   case h_2=>trivial
   rename_i m hy hm
   have hy:=Nat.eq_of_beq_eq_true hy;subst hy
   refine AD (by simpa [SV.on] using CA hg h2) fun hc=>?_
   simp only [CB,decide_eq_true_eq] at hc
   obtain ⟨_,vs,hrow,hvs,hnest⟩:=hg.gh.own b _ hb
   obtain ⟨E1,hE1⟩:=Jh hm
   obtain ⟨_,us,hr1,hu1⟩:=hnest.row e' _ off σ E1 m (getD_some hc.1) hE1
   obtain ⟨hv,hvb,hvn⟩:=EC (len:=m.length) hr1
   rw [hv] at hr1
   have hgb:=A8 hr1 (by omega)
   rw [NZ] at hgb
   have hv2:a.eval x=.slice (some ⟨A6 ((β b).hd (e'*S.sz τ+off)),0,none⟩) m.length (Bw m.length ((β b).hd (e'*S.sz τ+off))).cap:=by
    rw [AB hg h2];simp only [SV.den];rw [hgb] at hv;exact hv
   have:=Cc (P:=P) (w:=w) (b:=A6 ((β b).hd (e'*S.sz τ+off))) (off:=0) (c:=(Bw m.length ((β b).hd (e'*S.sz τ+off))).cap) (k:=k) h4 h5 hc.2.1 hc.2.2
   simp [execOp,ho,hv2,AB hg h3,SV.den] at this ⊢
   simp [this]
  ·rename_i b n h2
   split
   case h_2=>trivial
   rename_i U sz m cs hb
   split
   case h_2=>trivial
   rename_i hm
   have hm:=Nat.eq_of_beq_eq_true hm;subst hm
   refine AD (by simpa [SV.on] using CA hg h2) fun hc=>?_
   simp only [CB,decide_eq_true_eq] at hc
   obtain ⟨g,hgb⟩: ∃ g,(β b).b=some g:=⟨_,A8 (hg.gh.own b _ hb) (by omega)⟩
   have:=Cc (P:=P) (w:=w) (b:=g) (off:=0) (c:=(β b).cap) (k:=k) h4 h5 hc.1 hc.2
   simp [execOp,ho,AB hg h2,AB hg h3,SV.den,hgb,Nm.AN] at this ⊢
   simp [this]
  ·rename_i b off n c h2
   refine AD (by simpa [SV.on] using CA hg h2) fun hc=>?_
   simp only [CB,decide_eq_true_eq] at hc
   simp [execOp,ho,AB hg h2,AB hg h3,SV.den,Cc h4 h5 hc.1 hc.2]
  ·trivial
 ·trivial
theorem OK {tb:List (Nat×TI)} (htb:AU S P tb) (hg:G w0 F D0 D s N β a w) {o:Oper} {T:Nat} {x i:Operand} (ho:o.op=.index T x i) (hT:DC tb T=some .str):R.Sound P w0 F D0 D s N β a w o (PK s x i):=by
 have h4:=AY htb hT
 simp only [TD.ok] at h4
 unfold PK
 split
 ·rename_i l k j h1 h2
  refine AD trivial fun hc=>?_
  simp only [CB,decide_eq_true_eq] at hc
  obtain ⟨hj0,hj⟩:=hc
  have hlt:j.toNat<l.length:=by omega
  have hb:(⟨⟨l⟩⟩:ByteArray)[j.toNat]?=some l[j.toNat]:=by
   have hsz:j.toNat<(⟨⟨l⟩⟩:ByteArray).size:=hlt
   rw [getElem?_pos (⟨⟨l⟩⟩:ByteArray) j.toNat hsz]
   rfl
  have e:E0 l j=(l[j.toNat].toNat:Int):=by simp [E0,List.getD,hlt]
  simp [execOp,ho,AB hg h1,AB hg h2,SV.den,Instr.index,asIntOf,run_underlying h4,hj0,hb,e]
 ·trivial
theorem LB (β:Nat->Nm) (k:IntKind): ∀ (cs:List SV) (l:List Int),Jl k cs=some l->AA β cs=l.map (Value.int k)
 | [],l,h=>by simp only [Jl,Option.some.injEq] at h;subst h;rfl
 | c::r,l,h=>by
  unfold Jl at h
  split at h
  ·rename_i heq;cases heq
  ·rename_i k' x r' heq
   simp only [List.cons.injEq] at heq
   obtain ⟨rfl,rfl⟩:=heq
   split at h
   ·rename_i l' h1 h2
    cases h
    have h3:=(DB _ _).1 h1
    subst h3
    have h4:=LB β k' r l' h2
    rw [DV] at h4 ⊢
    simp only [List.map_cons,h4,SV.den]
   ·cases h
  ·cases h
theorem N1 (β:Nat->Nm): ∀ (cs:List SV) (l:List (List UInt8)),N0 cs=some l->AA β cs=l.map fun x=>Value.string ⟨⟨x⟩⟩
 | [],l,h=>by simp only [N0,Option.some.injEq] at h;subst h;rfl
 | c::r,l,h=>by
  unfold N0 at h
  split at h
  ·rename_i heq;cases heq
  ·rename_i x r' heq
   simp only [List.cons.injEq] at heq
   obtain ⟨rfl,rfl⟩:=heq
   split at h
   ·rename_i l' h1
    cases h
    have h4:=N1 β r l' h1
    rw [DV] at h4 ⊢
    simp only [List.map_cons,h4,SV.den]
   ·cases h
  ·cases h
theorem Mj {tb:List (Nat×TI)} (htb:AU S P tb) (hg:G w0 F D0 D s N β a w) {o:Oper} {T n e esz:Nat} {x i:Operand} (ho:o.op=.index T x i) (hT:DC tb T=some (.array n e esz)):R.Sound P w0 F D0 D s N β a w o (Mi tb s n e esz x i):=by
 obtain ⟨h4,h5⟩:=AY htb hT
 unfold Mi
 split
 ·rename_i k0 j k y cs h1 h2
  split
  ·rename_i t l ht hz hl
   split
   ·rename_i hag hn
    obtain ⟨v,hv,hc⟩:=Option.bind_eq_some_iff.1 h2
    obtain ⟨ha1,_⟩:=Dx hc β
    refine AD trivial fun hcc=>?_
    simp only [CB,decide_eq_true_eq] at hcc
    obtain ⟨hj0,hj⟩:=hcc
    have hz':esz=1:=Nat.eq_of_beq_eq_true hz
    have hn':l.length=n:=Nat.eq_of_beq_eq_true hn
    subst hz' hn'
    have hlt:j.toNat<l.length:=by omega
    have hd:=LB β k _ l hl
    have hpt:(part e (l.map (Value.int k)).toArray (j.toNat*1)).run P w=.ok (.int k (l.getD j.toNat 0)) w:=by
     unfold part
     rw [Sem.run_bind,(htb.get ht).isAgg w,Result.andThen_ok,hag]
     simp [hlt,List.getD]
    rw [hd] at ha1
    have hix:(Instr.index T (.agg (l.map (Value.int k)).toArray) (.int k0 j)).run P w=.ok (.int k (l.getD j.toNat 0)) w:=by
     simp only [Instr.index,asIntOf,Sem.run_bind,Sem.run_pure,Result.andThen_ok,run_underlying h4]
     rw [if_pos ⟨hj0,hj⟩,Sem.run_bind,Ap h5,Result.andThen_ok]
     exact hpt
    simp [execOp,ho,AB hg h1,AB hg hv,ha1,SV.den,-List.getD_eq_getElem?_getD] at hix ⊢
    simp [hix]
   ·trivial
  ·trivial
 ·rename_i k0 j s0 cs h1 h2
  split
  ·rename_i t l ht hz hl
   split
   ·rename_i hag hn
    obtain ⟨v,hv,hc⟩:=Option.bind_eq_some_iff.1 h2
    obtain ⟨ha1,_⟩:=Dx hc β
    refine AD trivial fun hcc=>?_
    simp only [CB,decide_eq_true_eq] at hcc
    obtain ⟨hj0,hj⟩:=hcc
    have hz':esz=1:=Nat.eq_of_beq_eq_true hz
    have hn':l.length=n:=Nat.eq_of_beq_eq_true hn
    subst hz' hn'
    have hlt:j.toNat<l.length:=by omega
    have hd:=N1 β _ l hl
    have hpt:(part e (l.map fun x=>Value.string ⟨⟨x⟩⟩).toArray (j.toNat*1)).run P w=.ok (.string ⟨⟨l.getD j.toNat []⟩⟩) w:=by
     unfold part
     rw [Sem.run_bind,(htb.get ht).isAgg w,Result.andThen_ok,hag]
     simp [hlt,List.getD]
    rw [hd] at ha1
    have hix:(Instr.index T (.agg (l.map fun x=>Value.string ⟨⟨x⟩⟩).toArray) (.int k0 j)).run P w=.ok (.string ⟨⟨l.getD j.toNat []⟩⟩) w:=by
     simp only [Instr.index,asIntOf,Sem.run_bind,Sem.run_pure,Result.andThen_ok,run_underlying h4]
     rw [if_pos ⟨hj0,hj⟩,Sem.run_bind,Ap h5,Result.andThen_ok]
     exact hpt
    simp [execOp,ho,AB hg h1,AB hg hv,ha1,SV.den,-List.getD_eq_getElem?_getD] at hix ⊢
    simp [hix]
   ·trivial
  ·trivial
 ·trivial
theorem RW {o:List (Nat×Own S)} {M:Nat->Prop} (hg:GH w0 F D0 D o M β w) {i e:Nat} {κ:Fd} {τ:Nat} {ag:Bool} {E:TypeId} {ls:List (List (κ.T S.T×S.T τ))} (hi:lk o i=some (.mr κ τ ag E ls)) (he:e<ls.length):
  ∃ g c,(β i).sub e=some (g,c)/\(SV.mk i e).den β=.map (some g)/\MapAt S w D κ τ ag g (ls.getD e []):=by
 obtain ⟨_,vs,hrow,hm⟩:=hg.own i _ hi
 obtain ⟨b,c,hsub,hvs,hat⟩:=hm.cell e _ (List.getElem?_eq_getElem he)
 refine ⟨b,c,hsub,by simp [SV.den,hsub],?_⟩
 rw [List.getD_eq_getElem?_getD,List.getElem?_eq_getElem he]
 exact hat
theorem Qq {tb:List (Nat×TI)} (htb:AU S P tb) (hg:G w0 F D0 D s N β a w) {o:Oper} {T:Nat} {x:Operand} (ho:o.op=.call ⟨.builtin .len,#[x],#[T]⟩):R.Sound P w0 F D0 D s N β a w o (Wr tb s T x):=by
 unfold Wr
 split
 ·rename_i h1
  have h4:=AY htb h1
  simp only [TD.ok] at h4
  split
  ·rename_i l h2
   exact AD trivial fun _=>by simp [execOp,ho,resolve,invoke,builtin,Builtin.len_,AB hg h2,SV.den,run_underlying h4,goInt];rfl
  ·trivial
 ·rename_i e esz h1
  obtain ⟨h4,_⟩:=AY htb h1
  split
  ·rename_i A n c h2
   exact AD trivial fun _=>by simp [execOp,ho,resolve,invoke,builtin,Builtin.len_,AB hg h2,SV.den,run_underlying h4,goInt]
  ·rename_i i n h2
   exact AD trivial fun _=>by simp [execOp,ho,resolve,invoke,builtin,Builtin.len_,AB hg h2,SV.den,run_underlying h4,goInt]
  ·rename_i i off n c h2
   exact AD trivial fun _=>by simp [execOp,ho,resolve,invoke,builtin,Builtin.len_,AB hg h2,SV.den,run_underlying h4,goInt]
  ·rename_i b h2
   split
   ·rename_i τ E l hb
    obtain ⟨hlen,_⟩:=hg.gh.own b _ hb
    exact AD trivial fun _=>by simp [execOp,ho,resolve,invoke,builtin,Builtin.len_,AB hg h2,SV.den,run_underlying h4,goInt,hlen]
   ·rename_i τ E l hb
    obtain ⟨hlen,_⟩:=hg.gh.own b _ hb
    exact AD trivial fun _=>by simp [execOp,ho,resolve,invoke,builtin,Builtin.len_,AB hg h2,SV.den,run_underlying h4,goInt,hlen]
   ·rename_i κ τ ag E ls hb
    obtain ⟨hlen,_⟩:=hg.gh.own b _ hb
    exact AD trivial fun _=>by simp [execOp,ho,resolve,invoke,builtin,Builtin.len_,AB hg h2,SV.den,run_underlying h4,goInt,hlen]
   ·trivial
  ·rename_i b z e' off h2
   split
   case h_2=>trivial
   rename_i τ E l hb
   split
   case h_2=>trivial
   rename_i σ hz hσ
   have hz:=Nat.eq_of_beq_eq_true hz;subst hz
   split
   case h_2=>trivial
   rename_i m hm
   refine AD trivial fun hc=>?_
   simp only [CB,decide_eq_true_eq] at hc
   obtain ⟨_,vs,hrow,hvs,hnest⟩:=hg.gh.own b _ hb
   obtain ⟨E1,hE1⟩:=Jh hm
   obtain ⟨_,us,hr1,hu1⟩:=hnest.row e' _ off σ E1 m (getD_some hc) hE1
   obtain ⟨hv,hvb,hvn⟩:=EC (len:=m.length) hr1
   have hv2:a.eval x=.slice ((Bw m.length ((β b).hd (e'*S.sz τ+off))).b.map fun b=>⟨b,0,none⟩) m.length (Bw m.length ((β b).hd (e'*S.sz τ+off))).cap:=by
    rw [AB hg h2];simp only [SV.den];exact hv
   simp [execOp,ho,resolve,invoke,builtin,Builtin.len_,hv2,SV.den,run_underlying h4,goInt]
  ·rename_i b h2
   split
   ·rename_i τ l hb
    obtain ⟨_,hok⟩:=hg.gh.own b _ hb
    have hv:a.eval x=(β b).sl:=AB hg h2
    generalize (β b).sl=sv at hok hv
    refine AD trivial fun _=>?_
    cases hok<;>simp [execOp,ho,resolve,invoke,builtin,Builtin.len_,hv,SV.den,run_underlying h4,goInt]
   ·trivial
  ·trivial
 ·rename_i n e esz h1
  obtain ⟨h4,_⟩:=AY htb h1
  exact AD trivial fun _=>by simp [execOp,ho,resolve,invoke,builtin,Builtin.len_,run_underlying h4,goInt,SV.den]
 ·rename_i kt et h1
  have h4:=AY htb h1
  simp only [TD.ok] at h4
  split
  ·rename_i b h2
   split
   case h_2=>trivial
   rename_i κ τ ag l hb
   obtain ⟨g,hgb,es,hh,hsz,_⟩:=hg.gh.own b _ hb
   have A6:(β b).AN=g:=by simp [Nm.AN,hgb]
   exact AD trivial fun _=>by simp [execOp,ho,resolve,invoke,builtin,Builtin.len_,AB hg h2,SV.den,run_underlying h4,goInt,A6,MapKept.run_getObj_map hh,hsz]
  ·rename_i b e h2
   split
   case h_2=>trivial
   rename_i κ τ ag E ls hb
   refine AD trivial fun hc=>?_
   obtain ⟨g,c,_,hden,es,hh,hsz,_⟩:=RW hg.gh hb (show e<ls.length by simpa [CB] using hc)
   have hv:a.eval x=.map (some g):=(AB hg h2).trans hden
   simp [execOp,ho,resolve,invoke,builtin,Builtin.len_,hv,SV.den,run_underlying h4,goInt,MapKept.run_getObj_map hh,hsz]
  ·rename_i h2
   exact AD trivial fun _=>by simp [execOp,ho,resolve,invoke,builtin,Builtin.len_,AB hg h2,SV.den,run_underlying h4,goInt]
  ·trivial
 ·trivial
theorem Hc (hg:G w0 F D0 D s N β a w) {o:Oper} {x y:Operand} {ts:Array TypeId} (mx:Bool) (ho:o.op=.call ⟨.builtin (if mx then .max else .min),#[x,y],ts⟩):R.Sound P w0 F D0 D s N β a w o (Ja mx s x y):=by
 unfold Ja
 split
 ·rename_i k n k' m h1 h2
  split
  ·exact AD trivial fun _=>by simp [execOp,ho,resolve,invoke,builtin,Builtin.max_,Builtin.max2,AB hg h1,AB hg h2,SV.den]
  ·exact AD trivial fun _=>by simp [execOp,ho,resolve,invoke,builtin,Builtin.min_,Builtin.min2,AB hg h1,AB hg h2,SV.den]
 ·trivial
theorem LS (hg:G w0 F D0 D s N β a w) {o:Oper} {x:Operand} {j:Nat} (ho:o.op=.extract x j):R.Sound P w0 F D0 D s N β a w o (KS s x j):=by
 unfold KS
 split
 ·rename_i l h1
  split
  ·rename_i v hv
   exact AD trivial fun _=>by simp [execOp,ho,AB hg h1,SV.den,Instr.extract,hv]
  ·trivial
 ·rename_i l h1
  split
  ·rename_i v hv
   have hon:=CA hg h1
   simp only [SV.on] at hon
   exact AD (Ay.1 hon v (List.mem_of_getElem? hv)) fun _=>by simp [execOp,ho,AB hg h1,SV.den,Instr.extract,DV,hv]
  ·trivial
 ·trivial
end
end Go.En
