/-
 The evaluation is sound: numbers, tests, fields, indexes, lengths.
-/
import Derived.Test.YtpjlciengdhjoaaGreatDoorEn5
import Derived.IntWalk
import Derived.MapFrom
import Derived.Laws.BytesArg
namespace Go.En
open Go.RowKit
section
variable {S:As} {P:Program} {w0:World} {F D0 D:Nat->Prop} {s:St S} {N:Nat->Prop} {β:Nat->Nm} {a:Act} {w:World}
theorem Sv {o:Oper} {op:BinOp} {T U:Nat} {x y:Operand} (ho:o.op=.binOp op T x y U) {k:IntKind} {n m:Int} (hx:a.eval x=.int k n) (hy:a.eval y=.int k m):
  R.Sound P w0 F D0 D s N β a w o (eD op k n m):=by
 have hrun: ∀ v,(binOp op T (.int k n) (.int k m)).run P w=.ok v w->(execOp a.eval o).run P w=.ok (.value v) w:=fun v h2=>by
  have h1:(eqGuard op T x y (.int k n) (.int k m)).run P w=.ok () w:=by rw [eqGuard_at_int];rfl
  simp [execOp,ho,hx,hy,h1,h2]
 have H: ∀ {c:Option Bool} {v:Value},(Cd c->(binOp op T (.int k n) (.int k m)).run P w=.ok v w)->R.Sound P w0 F D0 D s N β a w o (.val c (.v v)):=fun h=>AF trivial fun hp=>hrun _ (h hp)
 have HB: ∀ {b:Bool},(binOp op T (.int k n) (.int k m)).run P w=.ok (.bool b) w->R.Sound P w0 F D0 D s N β a w o (.val none (.b b)):=fun h=>AF trivial fun _=>by simp only [SV.den];exact hrun _ h
 unfold eD
 split
 ·exact HB (by simp [binOp_eql,IV])
 ·exact HB (by simp [binOp_neq,bne,IV])
 ·exact HB (by simp [binOp_lss])
 ·exact HB (by simp [binOp_leq])
 ·exact HB (by simp [binOp_gtr])
 ·exact HB (by simp [binOp_geq])
 ·split
  ·exact H fun h=>by simp [binOp_add,Op.intArith,Gq h]
  ·exact H fun _=>by simp [binOp_add,Op.intArith]
 ·split
  ·exact H fun h=>by simp [binOp_sub,Op.intArith,Gq h]
  ·exact H fun _=>by simp [binOp_sub,Op.intArith]
 ·split
  ·exact H fun h=>by simp [binOp_mul,Op.intArith,Gq h]
  ·exact H fun _=>by simp [binOp_mul,Op.intArith]
 ·split
  ·exact H fun h=>by
    simp only [Cd,ii] at h
    simp [binOp_quo,Op.intDiv,h.1,Gq h.2]
  ·exact H fun h=>by simp only [Cd,ii] at h;simp [binOp_quo,Op.intDiv,h]
 ·exact H fun h=>by simp only [Cd,ii] at h;simp [binOp_rem,Op.intDiv,h]
 ·exact H fun _=>by simp [binOp_and,intBits_and]
 ·exact H fun _=>by simp [binOp_or,intBits_or]
 ·exact H fun _=>by simp [binOp_xor,intBits_xor]
 ·exact H fun _=>by simp [binOp_andNot,intBits_andNot]
 ·trivial
theorem Sy {o:Oper} {T U:Nat} {x y:Operand} (ho:o.op=.binOp .add T x y U) {p q:SV} (hx:a.eval x=p.den β) (hy:a.eval y=q.den β):
  R.Sound P w0 F D0 D s N β a w o (eG p q):=by
 unfold eG
 split
 ·rename_i n m
  simp only [SV.den] at hx hy
  have h1:(eqGuard .add T x y (.int .i64 n) (.int .i64 m)).run P w=.ok () w:=by rw [eqGuard_at_int];rfl
  exact AF trivial fun _=>by simp [execOp,ho,hx,hy,h1,SV.den,binOp_add,Op.intArith]
 ·trivial
theorem Vf {o:Oper} {op:BinOp} {T U:Nat} {x y:Operand} (ho:o.op=.binOp op T x y U) {p q:SV} (hx:a.eval x=p.den β) (hy:a.eval y=q.den β):
  R.Sound P w0 F D0 D s N β a w o (bin op p q):=by
 unfold bin
 split
 ·rename_i k n k' m
  simp only [SV.den] at hx hy
  have hg:(eqGuard op T x y (.int k n) (.int k' m)).run P w=.ok () w:=by rw [eqGuard_at_int];rfl
  split
  ·exact AF trivial fun h=>by
    simp only [Cd,ii] at h
    simp [execOp,ho,hx,hy,hg,binOp_shl,shift_shl _ _ _ _ h.1 h.2,SV.den]
  ·exact AF trivial fun h=>by
    simp only [Cd,ii] at h
    simp [execOp,ho,hx,hy,hg,binOp_shr,shift_shr _ _ _ _ h.1 h.2,SV.den]
  ·split
   ·rename_i hk
    have hk:=(DR _ _).1 hk;subst hk
    exact Sv ho hx hy
   ·trivial
 ·rename_i l m
  simp only [SV.den] at hx hy
  have hrun: ∀ v,(binOp op T (.string ⟨⟨l⟩⟩) (.string ⟨⟨m⟩⟩)).run P w=.ok v w->(execOp a.eval o).run P w=.ok (.value v) w:=fun v h2=>by
   have h1:(eqGuard op T x y (.string ⟨⟨l⟩⟩) (.string ⟨⟨m⟩⟩)).run P w=.ok () w:=by rw [eqGuard_at_string];rfl
   simp [execOp,ho,hx,hy,h1,h2]
  have e1: ∀ l:List UInt8,ByteArray.toList ⟨⟨l⟩⟩=l:=fun l=>by rw [ByteArray.toList_eq]
  have e2: ∀ l:List UInt8,ByteArray.size ⟨⟨l⟩⟩=l.length:=fun l=>rfl
  split
  ·exact AF trivial fun _=>hrun _ (by simp [binOp,Op.stringOp,e1,IV,SV.den])
  ·exact AF trivial fun _=>hrun _ (by simp [binOp,Op.stringOp,e1,IV,SV.den])
  ·refine AF trivial fun h=>hrun _ ?_
   simp only [Cd,ii] at h
   have h2:¬ (9223372036854775807:Int)<((ByteArray.size ⟨⟨l⟩⟩+ByteArray.size ⟨⟨m⟩⟩:Nat):Int):=by rw [e2,e2];omega
   have h3:(⟨⟨l⟩⟩++⟨⟨m⟩⟩:ByteArray)=⟨⟨l++m⟩⟩:=by apply ByteArray.ext;simp
   simp only [binOp,Op.stringOp,IntKind.max_i64,GT.gt,if_neg h2,h3];rfl
  ·exact AF trivial fun _=>hrun _ (by simp [binOp,Op.stringOp,e1,SV.den])
  ·trivial
 ·trivial
theorem UQ {x:SV} {b:Bool} (h:x.Pf=some b) (β:Nat->Nm):x.den β=.bool b:=by
 unfold SV.Pf at h
 split at h<;>cases h<;>rfl
theorem Su {o:Oper} {op:BinOp} {T U:Nat} {x y:Operand} (ho:o.op=.binOp op T x y U) {p q:Bool} (hx:a.eval x=.bool p) (hy:a.eval y=.bool q) (hT:P.underlying T=some .bool):
  R.Sound P w0 F D0 D s N β a w o (eC op p q):=by
 have hg:(eqGuard op T x y (.bool p) (.bool q)).run P w=.ok () w:=by rw [eqGuard_at_bool];rfl
 unfold eC
 split
 ·exact AF trivial fun _=>by simp [execOp,ho,hx,hy,hg,binOp,run_equal_bool T p q P w hT,SV.den]
 ·exact AF trivial fun _=>by simp [execOp,ho,hx,hy,hg,binOp,run_equal_bool T p q P w hT,SV.den]
 ·trivial
theorem Zy {o:Oper} {op:UnOp} {T:Nat} {x:Operand} (ho:o.op=.unOp op T x) {p:SV} (hx:a.eval x=p.den β):R.Sound P w0 F D0 D s N β a w o (un op p):=by
 unfold un
 split
 ·exact AF trivial fun _=>by simp [execOp,ho,hx,SV.den,Op.unary]
 ·exact AF trivial fun _=>by simp [execOp,ho,hx,SV.den,Op.unary]
 ·exact AF trivial fun h=>by simp [execOp,ho,hx,SV.den,Op.unary,Op.intArith,Gq h]
 ·exact AF trivial fun _=>by simp [execOp,ho,hx,SV.den,Op.unary,intBits_xor,IntKind.signed]
 ·trivial
theorem Zz {tb:List (Nat×TI)} (htb:Ae S P tb) {T:Nat} {t:TI} (h:lk tb T=some t): ∃ d,P.underlying T=some d:=by
 obtain ⟨d,h1,_⟩:=(htb.get h).pT
 exact ⟨d,h1⟩
theorem S7 {tb:List (Nat×TI)} (htb:Ae S P tb) {o:Oper} {U T:Nat} {x:Operand} (ho:o.op=.convert U T x) {p:SV} (hx:a.eval x=p.den β) {ts t:TI} (hs:lk tb U=some ts) (ht:lk tb T=some t):R.Sound P w0 F D0 D s N β a w o (conv t p):=by
 obtain ⟨d,hd⟩:=Zz htb hs
 have hdesc:=(htb.get ht).desc
 have hc: ∀ k k' n,t.d=.int k->(convert U T (.int k' n)).run P w=.ok (.int k (k.wrap n)) w:=fun k k' n htd=>by
  rw [htd] at hdesc
  simp only [TD.ok] at hdesc
  simp [convert,run_underlying hd,run_underlying hdesc,Conv.intToInt]
 unfold conv
 split
 ·rename_i k' n htd
  exact AF trivial fun h=>by simp [execOp,ho,hx,SV.den,hc _ _ _ htd,Gq h]
 ·rename_i k k' n _ htd
  exact AF trivial fun _=>by simp [execOp,ho,hx,SV.den,hc _ _ _ htd]
 ·rename_i l htd
  rw [htd] at hdesc
  simp only [TD.ok] at hdesc
  exact AF trivial fun _=>by simp [execOp,ho,hx,SV.den,convert,run_underlying hd,run_underlying hdesc]
 ·trivial
theorem S0: ∀ {cs:List SV} {xs:List Int},ig cs=some xs->cs=xs.map fun n=>SV.v (.int .u8 n)
 | [],xs,h=>by simp only [ig,am] at h;subst h;rfl
 | c::r,xs,h=>by
  unfold ig at h
  split at h
  ·rename_i he;cases he
  ·rename_i n r' he
   cases he
   split at h
   ·rename_i l hl
    simp only [am] at h
    subst h
    rw [List.map_cons,<- S0 hl]
   ·cases h
  ·cases h
theorem Kf {w:World} {U T e:TypeId} (hs:P.underlying U=some (.slice e)) (he:P.underlying e=some (.int .u8)) (hd:P.underlying T=some .string) {b off len cap:Nat} {xs:List Int} (hl:xs.length=len) (hc: ∀ i n,xs[i]?=some n->w.cell? ⟨b,off+i,none⟩=some (.int .u8 n)):
  (convert U T (.slice (some ⟨b,off,none⟩) len cap)).run P w=.ok (.string ⟨⟨xs.map fun k=>k.toNat.toUInt8⟩⟩) w:=
 run_convert_bytes_arg w U e hs he b off len cap xs hl (fun i hi=>by
  have hx:xs[i]?=some xs[i]:=co (by omega)
  rw [hc i _ hx]
  simp [List.getD,hx]) T hd
theorem eN {T:Nat->Type}: ∀ {fs:List Fd},Td fs=true-> ∀ p:Ps T fs,∃ n,EG fs p=[.int .u8 n]
 | [.int .u8],_,p=>⟨p.1,rfl⟩
theorem eM {τ:Nat} (h:Td (S.fds τ)=true) (x:S.T τ):S.enc τ x=[.int .u8 (eK S τ x)]:=by
 obtain ⟨n,hn⟩:=eN h (S.to τ x)
 have h1:S.enc τ x=[.int .u8 n]:=hn
 rw [h1]
 unfold eK
 rw [h1]
theorem Oc {tb:List (Nat×TI)} (hg:G w0 F D0 D s N β a w) {o:Oper} {U T e:Nat} {x:Operand} (ho:o.op=.convert U T x) {p:SV} (hx:a.eval x=p.den β) (hs:P.underlying U=some (.slice e)) (he:P.underlying e=some (.int .u8)) (hd:P.underlying T=some .string):R.Sound P w0 F D0 D s N β a w o (Pm s p):=by
 unfold Pm
 split
 ·rename_i i n
  split
  ·rename_i E z m cs hi
   split
   ·rename_i xs h1 h2 h3 h4
    have h1:=ac h1
    have h2:=ac h2
    have h3:=dk h3
    subst h1;subst h2
    have hrow:=hg.gh.own i _ hi
    have hcs:=S0 h4
    have hb:=A6 hrow h3
    have hlen:(AD β cs).length=m*1:=hrow.1
    rw [AI,hcs,List.length_map,Nat.mul_one] at hlen
    refine AF trivial fun _=>?_
    have hr:=Kf (P:=P) (w:=w) (cap:=(β i).cap) (b:=(β i).AX) (off:=0) hs he hd hlen (fun j k hj=>by
     rw [Nat.zero_add]
     refine (BE hrow (j:=j) ?_).2
     rw [CM,hcs,List.getElem?_map,hj]
     rfl)
    simp only [execOp,ho,hx,SV.den,hb,Option.map_some]
    simp [hr]
   ·trivial
  ·trivial
 ·rename_i i off len cap
  split
  ·rename_i E cs hi
   split
   ·rename_i xs h2
    obtain ⟨g,hb,hh⟩:=hg.gh.own i _ hi
    have hcs:=S0 h2
    have A5:(β i).AX=g:=by simp [Nm.AX,hb]
    refine AF trivial fun hc=>?_
    have hle:off+len<=xs.length:=by simpa [Cd] using hc
    have hlen:((xs.drop off).take len).length=len:=by rw [List.length_take,List.length_drop];omega
    have hr:=Kf (P:=P) (w:=w) (cap:=cap) (b:=g) (off:=off) hs he hd hlen (fun j k hj=>by
     rw [cell_of_row w g _ _ _ _ hh]
     rw [ol] at hj
     split at hj
     ·rw [List.getElem?_drop] at hj
      have hj':cs[off+j]?=some (SV.v (.int .u8 k)):=by rw [hcs,List.getElem?_map,hj];rfl
      simp [CM,hj',SV.den]
     ·cases hj)
    simp only [execOp,ho,hx,SV.den,A5]
    simp [hr]
   ·trivial
  ·trivial
 ·rename_i i
  split
  ·rename_i τ E l hi
   split
   ·rename_i hf
    obtain ⟨hlen,vs,hrow,hcs⟩:=hg.gh.own i _ hi
    refine AF trivial fun _=>?_
    cases hb:(β i).b with
    | none=>
     have hl0:l=[]:=by
      rcases hrow.2 with ⟨_,h2⟩|⟨g,cap,cur,h3,_⟩
      ·exact jp h2
      ·rw [hb] at h3;cases h3
     subst hl0
     have hr:=run_convert_bytes_nil (P:=P) w U e hs he (β i).len (β i).cap T hd
     simp only [execOp,ho,hx,SV.den,hb,Option.map_none]
     simp [hr]
     rfl
    | some g=>
     have A5:(β i).AX=g:=by simp [Nm.AX,hb]
     have hr:=Kf (P:=P) (w:=w) (cap:=(β i).cap) (b:=g) (off:=0) (xs:=l.map fun x=>eK S τ x) hs he hd (len:=(β i).len) (by rw [List.length_map,hlen]) (fun j k hj=>by
      rw [Nat.zero_add]
      rw [List.getElem?_map] at hj
      obtain ⟨x,hx1,hx2⟩:=Option.map_eq_some_iff.1 hj
      have hen:=eM hf x
      have hfl:=S.Jz τ l j x 0 (.int .u8 (eK S τ x)) hx1 (by rw [hen];rfl)
      have hsz:S.sz τ=1:=by rw [<-S.Ah τ x,hen];rfl
      rw [hsz,Nat.mul_one,Nat.add_zero] at hfl
      obtain ⟨v,hv⟩: ∃ v,vs[j]?=some v:=by
       have:j<vs.length:=by rw [<-hcs.1];exact (List.getElem?_eq_some_iff.1 hfl).1
       exact ⟨_,co this⟩
      have hck:=hcs.2 j _ v hfl hv
      have hcell:=(BE hrow hv).2
      rw [A5] at hcell
      rw [hcell]
      cases hck
      rw [hx2])
     simp only [execOp,ho,hx,SV.den,hb,Option.map_some]
     simp [hr]
   ·trivial
  ·trivial
 ·trivial
theorem YI {x:SV} {k:LK} (h:O9 x k=true) (β:Nat->Nm):kV (x.den β)=some k:=by
 unfold O9 at h
 split at h
 ·rw [(DR _ _).1 h];rfl
 ·rfl
 ·rfl
 ·rfl
 ·cases h
theorem Ku (β:Nat->Nm): ∀ {l:List SV} {ks:List LK},Ed l ks=true->Dn (AD β l) ks
 | [],[],_=>by simp [AD,Dn]
 | x::r,k::q,h=>by
  simp only [Ed] at h
  split at h
  ·rename_i hx;exact ⟨YI hx β,Ku β h⟩
  ·cases h
 | [],_::_,h=>by simp [Ed] at h
 | _::_,[],h=>by simp [Ed] at h
theorem aR (β:Nat->Nm) {x y:SV} {k:LK} (hx:O9 x k=true) (hy:O9 y k=true):nR x y=ik (x.den β) (y.den β):=by
 unfold O9 at hx hy
 split at hx
 all_goals first
  | (split at hy<;>first|(rename_i heq _;cases heq;done)|(simp_all [nR,ik,SV.den,SV.Pf];done)|cases hy)
  | cases hx
theorem M6 (β:Nat->Nm): ∀ {l m:List SV} {ks:List LK},Ed l ks=true->Ed m ks=true->TG l m=F8 (AD β l) (AD β m)
 | [],[],_,_,_=>by simp [TG,AD,F8]
 | x::r,y::q,k::ks,h1,h2=>by
  simp only [Ed] at h1 h2
  split at h1
  case h_2=>cases h1
  rename_i hx
  split at h2
  case h_2=>cases h2
  rename_i hy
  simp only [TG,AD,F8,aR β hx hy,M6 β h1 h2]
 | [],_::_,ks,h1,h2=>by cases ks<;>simp [Ed] at h1 h2
 | _::_,[],ks,h1,h2=>by cases ks<;>simp [Ed] at h1 h2
 | _::_,_::_,[],h1,_=>by simp [Ed] at h1
theorem Jq {x:SV} {cs:List SV} (h:x.aG=some cs) (β:Nat->Nm):x.den β=.agg (AD β cs).toArray:=by
 have map_v: ∀ l:List Value,AD β (l.map SV.v)=l:=fun l=>by
  induction l with
  | nil=>simp [AD]
  | cons x r ih=>simp [AD,SV.den,ih]
 unfold SV.aG at h
 split at h
 ·cases h;simp [SV.den]
 ·cases h;simp [SV.den,map_v]
 ·cases h
theorem Ss {tb:List (Nat×TI)} (htb:Ae S P tb) {o:Oper} {op:BinOp} {T U:Nat} {x y:Operand} {p q:SV} (ho:o.op=.binOp op T x y U) (hx:a.eval x=p.den β) (hy:a.eval y=q.den β):R.Sound P w0 F D0 D s N β a w o (eB tb op T p q):=by
 unfold eB
 split
 case h_2=>trivial
 rename_i t ht
 split
 case h_2=>trivial
 rename_i ks l m hks hl hm
 split
 case h_2=>trivial
 rename_i kl km
 have hT:=(htb.get ht).pk ks hks
 have e:=hT.run (AD β l) (AD β m) w (Ku β kl) (Ku β km)
 simp only [Fx,if_true] at e
 split
 ·exact AF trivial fun _=>by simp [execOp,ho,hx,hy,Jq hl,Jq hm,run_eqGuard_agg w .eql T x y _ _ hT.guard,binOp,Op.equal,e,SV.den,M6 β kl km]
 ·exact AF trivial fun _=>by simp [execOp,ho,hx,hy,Jq hl,Jq hm,run_eqGuard_agg w .neq T x y _ _ hT.guard,binOp,Op.equal,e,SV.den,M6 β kl km]
 ·trivial
theorem Sx {o:Oper} {op:BinOp} {T U e:Nat} {x y:Operand} {p q:SV} (ho:o.op=.binOp op T x y U) (hT:P.underlying T=some (.pointer e)) (hx:a.eval x=p.den β) (hy:a.eval y=q.den β):R.Sound P w0 F D0 D s N β a w o (eF op p q):=by
 unfold eF
 split
 case h_2=>trivial
 rename_i b hb
 obtain ⟨ad,h1,h2⟩: ∃ ad,p.den β=.pointer ad/\ad.isNone=b:=by
  unfold kW at hb
  split at hb
  ·cases hb;exact ⟨_,by rw [SV.den],rfl⟩
  ·cases hb;exact ⟨_,by rw [SV.den],rfl⟩
  ·cases hb;exact ⟨_,by rw [SV.den],rfl⟩
  ·cases hb
 have e:=run_equal_pointer_nil w T ad (P:=P) (by simp [Program.pointee,hT])
 split
 ·exact AF trivial fun _=>by simp [execOp,ho,hx,hy,h1,eqGuard,binOp,e,SV.den,h2]
 ·exact AF trivial fun _=>by simp [execOp,ho,hx,hy,h1,eqGuard,binOp,e,SV.den,h2]
 ·trivial
theorem Sw (hg:G w0 F D0 D s N β a w) {o:Oper} {op:BinOp} {T U e:Nat} {x y:Operand} {p q:SV} (ho:o.op=.binOp op T x y U) (hT:P.underlying T=some (.slice e)) (hp:ev s x=some p) (hq:ev s y=some q):R.Sound P w0 F D0 D s N β a w o (eE s op p q):=by
 unfold eE
 split
 case h_2=>trivial
 rename_i i
 split
 case h_2=>trivial
 rename_i σ l hi
 obtain ⟨_,hc⟩:=hg.gh.own i _ hi
 have hx:a.eval x=(β i).sl:=AE hg hp
 have hy:a.eval y=.slice none 0 0:=AE hg hq
 have key:Cd (some (Yu l))-> ∃ ad n c,(β i).sl=.slice (some ad) n c:=fun hl=>by
  generalize hv:(β i).sl=v at hc
  cases hc with
  | nil=>simp [Cd,Yu] at hl
  | sl σ l b off c vs _ _ _ _=>exact ⟨_,_,_,rfl⟩
 split
 ·exact AF trivial fun hl=>by
   obtain ⟨ad,n,c,e1⟩:=key hl
   have:=run_equal_slice_nil (P:=P) w T e (some ad) n c hT
   simp [execOp,ho,hx,hy,e1,eqGuard,binOp,this,SV.den]
 ·exact AF trivial fun hl=>by
   obtain ⟨ad,n,c,e1⟩:=key hl
   have:=run_equal_slice_nil (P:=P) w T e (some ad) n c hT
   simp [execOp,ho,hx,hy,e1,eqGuard,binOp,this,SV.den]
 ·trivial
theorem RD (hg:G w0 F D0 D s N β a w) {o:Oper} {x:Operand} (ho:o.op=.nilCheck x):R.Sound P w0 F D0 D s N β a w o (XU s x):=by
 unfold XU
 split
 ·rename_i i off h
  exact AF (CW hg h) fun _=>by simp [execOp,ho,AE hg h,SV.den]
 ·rename_i i z e off h
  exact AF (CW hg h) fun _=>by simp [execOp,ho,AE hg h,SV.den]
 ·rename_i i z e off y j q h
  exact AF (CW hg h) fun _=>by simp [execOp,ho,AE hg h,SV.den]
 ·rename_i i off h
  split
  case h_2=>trivial
  rename_i cs hi
  obtain ⟨_,b,o0,hv,_⟩:=hg.gh.own i _ hi
  exact AF (CW hg h) fun _=>by simp [execOp,ho,AE hg h,SV.den,Nm.at,hv]
 ·rename_i b h
  exact AF trivial fun _=>by simp [execOp,ho,AE hg h,SV.den]
 ·rename_i f c h
  exact AF (CW hg h) fun _=>by
   rcases Bool.eq_false_or_eq_true (Nat.ble 1000000 f) with hf|hf
   ·simp [execOp,ho,AE hg h,SV.den,Kl hf]
   ·simp [execOp,ho,AE hg h,SV.den,Eb hf]
 ·trivial
theorem ND: ∀ {l:List Field} {fs:List (Nat×Nat×Nat)},Pw P l fs-> ∀ {j:Nat} {o t z:Nat},fs[j]?=some (o,t,z)-> ∃ f,l[j]?=some f/\f.offset=o/\f.type=t/\(P.info? t).map (·.size)=some z/\z≠0
 | [],[],_,j,_,_,_,h=>by simp at h
 | f::l,(o',t',z')::r,hk,0,o,t,z,h=>by
  simp only [List.getElem?_cons_zero,am,bi] at h
  obtain ⟨rfl,rfl,rfl⟩:=h
  exact ⟨f,rfl,hk.1,hk.2.1,hk.2.2.1,hk.2.2.2.1⟩
 | f::l,(o',t',z')::r,hk,j+1,o,t,z,h=>by
  simp only [List.getElem?_cons_succ] at h
  obtain ⟨g,h1,h2⟩:=ND hk.2.2.2.2 h
  exact ⟨g,by simpa using h1,h2⟩
 | [],_::_,hk,_,_,_,_,_=>hk.elim
 | _::_,[],hk,_,_,_,_,_=>hk.elim
theorem LY {tb:List (Nat×TI)} (htb:Ae S P tb) {T j o ft z:Nat} (h:L1 tb T j=some (o,ft,z)):
  ∃ l f,P.underlying T=some (.struct l)/\l[j]?=some f/\f.offset=o/\f.type=ft/\(P.info? ft).map (·.size)=some z/\z≠0:=by
 unfold L1 at h
 split at h
 case h_2=>cases h
 rename_i t h1
 have hd:=(htb.get h1).desc
 unfold RE at h
 split at h
 ·rename_i fs htd
  rw [htd] at hd
  obtain ⟨l,h3,h4⟩:=hd
  obtain ⟨f,h5,h6⟩:=ND h4 h
  exact ⟨l,f,h3,by simpa using h5,h6⟩
 ·cases h
theorem Ev {T j o ft z b off:Nat} {l:Array Field} {f:Field} (h1:P.underlying T=some (.struct l)) (h2:l[j]?=some f) (h3:f.offset=o) (h4:f.type=ft) (h5:(P.info? ft).map (·.size)=some z) (h6:z≠0):
  (Instr.fieldAt T (.pointer (some ⟨b,off,none⟩)) j).run P w=.ok (.pointer (some ⟨b,off+o,none⟩)) w:=by
 subst h3;subst h4
 simp [Instr.fieldAt,run_underlying h1,h2,Instr.sureAddr,fieldPlace,Ap h5,h6,add_lit]
theorem Jt {tb:List (Nat×TI)} (htb:Ae S P tb) (hg:G w0 F D0 D s N β a w) {o:Oper} {T j:Nat} {x:Operand} (ho:o.op=.fieldAddr T x j):R.Sound P w0 F D0 D s N β a w o (Hu tb s T x j):=by
 unfold Hu
 split
 case h_2=>trivial
 rename_i of ft z h1
 obtain ⟨l,f,h3,h4,h5,h6,h7,h8⟩:=LY htb h1
 split
 ·rename_i i off h2
  exact AF (by simpa [SV.on] using CW hg h2) fun _=>by simp [execOp,ho,AE hg h2,SV.den,Ev h3 h4 h5 h6 h7 h8]
 ·rename_i i zz e off h2
  exact AF (by simpa [SV.on] using CW hg h2) fun _=>by simp [execOp,ho,AE hg h2,SV.den,Ev h3 h4 h5 h6 h7 h8,Nat.add_assoc]
 ·rename_i i zz e off y j q h2
  exact AF (by simpa [SV.on] using CW hg h2) fun _=>by simp [execOp,ho,AE hg h2,SV.den,Ev h3 h4 h5 h6 h7 h8,Nat.add_assoc]
 ·rename_i i off h2
  split
  case h_2=>trivial
  rename_i cs hi
  obtain ⟨_,b,o0,hv,_⟩:=hg.gh.own i _ hi
  exact AF (by simpa [SV.on] using CW hg h2) fun _=>by simp [execOp,ho,AE hg h2,SV.den,Nm.at,hv,Ev h3 h4 h5 h6 h7 h8,Nat.add_assoc]
 ·rename_i b off h2
  exact AF trivial fun _=>by simp [execOp,ho,AE hg h2,SV.den,Ev h3 h4 h5 h6 h7 h8]
 ·trivial
theorem Zj {T:Nat} {t:TI} (ht:t.ok S P T) {cs:List SV} {off:Nat} {c:Option Bool} {x:SV} (h:(ld t cs off:R S)=.val c x):(part T (AD β cs).toArray off).run P w=.ok (x.den β) w/\ ∀ N,BZ N cs->x.on N:=by
 unfold ld at h
 unfold part
 rw [Sem.run_bind,ht.isAgg w,Result.andThen_ok]
 split at h
 ·rename_i hagg
  split at h
  ·rename_i hle
   cases h
   refine ⟨?_,?_⟩
   ·have e:(AD β cs).toArray.extract off (off+t.sz)=(AD β ((cs.drop off).take t.sz)).toArray:=by
     apply Array.ext'
     simp [Dd,List.map_take,List.map_drop,List.take_drop]
    simp only [hagg,if_true,Sem.run_bind,ht.size w,Result.andThen_ok,Sem.run_pure,SV.den,e]
   ·intro N hN
    exact A0.2 fun y hy=>A0.1 hN y (List.mem_of_mem_drop (List.mem_of_mem_take hy))
  ·cases h
 ·rename_i hagg
  split at h
  ·rename_i y hy
   cases h
   refine ⟨?_,fun N hN=>A0.1 hN _ (gc hy)⟩
   simp [hagg,Dd,hy]
  ·cases h
theorem bG {t:TI} {cs:List SV} {off:Nat}:(∃ x,(ld t cs off:R S)=.val none x)\/(ld t cs off:R S)=.stop:=by
 unfold ld
 split
 ·split
  ·exact .inl ⟨_,rfl⟩
  ·exact .inr rfl
 ·split
  ·exact .inl ⟨_,rfl⟩
  ·exact .inr rfl
theorem ED {y:SV} {cs:List SV} (h:y.GN=some cs) (β:Nat->Nm):y.den β=.agg (AD β cs).toArray/\ ∀ N,y.on N->BZ N cs:=by
 unfold SV.GN at h
 split at h
 ·cases h;exact ⟨by simp [SV.den],fun N h=>h⟩
 ·rename_i arr
  cases h
  have map_v: ∀ l:List Value,AD β (l.map SV.v)=l:=fun l=>by
   induction l with
   | nil=>simp [AD]
   | cons x r ih=>simp [AD,SV.den,ih]
  exact ⟨by simp [SV.den,map_v],fun N _=>A0.2 fun x hx=>by obtain ⟨v,_,rfl⟩:=List.mem_map.1 hx;trivial⟩
 ·cases h
theorem Od {tb:List (Nat×TI)} (htb:Ae S P tb) (hg:G w0 F D0 D s N β a w) {o:Oper} {T j:Nat} {x:Operand} (ho:o.op=.field T x j):R.Sound P w0 F D0 D s N β a w o (Po tb s T x j):=by
 unfold Po
 split
 case h_2=>trivial
 rename_i of ft z h1
 split
 case h_2=>trivial
 rename_i cs h2
 split
 case h_2=>trivial
 rename_i t h3
 obtain ⟨l,f,h4,h5,h6,h7,h8,h9⟩:=LY htb h1
 obtain ⟨y,hy,hc⟩:=Option.bind_eq_some_iff.1 h2
 obtain ⟨ha1,ha3⟩:=ED hc β
 rcases bG (S:=S) (t:=t) (cs:=cs) (off:=of) with ⟨v,hv⟩|hv
 ·rw [hv]
  obtain ⟨hp,hn⟩:=Zj (w:=w) (β:=β) (htb.get h3) hv
  refine AF (hn _ (ha3 _ (CW hg hy))) fun _=>?_
  subst h6;subst h7
  simp [execOp,ho,AE hg hy,ha1,Instr.field,run_underlying h4,h5,asAgg,hp]
 ·rw [hv];trivial
theorem Ag {tb:List (Nat×TI)} (htb:Ae S P tb) {T:Nat} {d:TD} (h:DS tb T=some d):d.ok P T:=by
 unfold DS at h
 split at h
 ·rename_i t h1;cases h;exact (htb.get h1).desc
 ·cases h
theorem Pn {tb:List (Nat×TI)} (htb:Ae S P tb) (hg:G w0 F D0 D s N β a w) {o:Oper} {U T:Nat} {x:Operand} (ho:o.op=.convert U T x) {p:SV} (hx:a.eval x=p.den β) {ts t:TI} (hs:lk tb U=some ts) (ht:lk tb T=some t):R.Sound P w0 F D0 D s N β a w o (TJ tb s ts t p):=by
 unfold TJ
 split
 ·rename_i e z hd
  have h1:=(htb.get hs).desc
  rw [hd] at h1
  split
  ·rename_i htd hte
   have h2:=(htb.get ht).desc
   rw [htd] at h2
   have h3:=Ag htb hte
   exact Oc (tb:=tb) hg ho hx h1.1 h3 h2
  ·trivial
 ·exact S7 htb ho hx hs ht
theorem Dk {T n e esz b off:Nat} {k:IntKind} {j:Int} (h1:P.underlying T=some (.array n e)) (h2:(P.info? e).map (·.size)=some esz) (h0:0<=j) (hl:j<n):
  (Instr.indexAt T (.pointer (some ⟨b,off,none⟩)) (.int k j)).run P w=.ok (.pointer (some ⟨b,off+j.toNat*esz,none⟩)) w:=by
 simp [Instr.indexAt,run_underlying h1,asIntOf,Instr.sureAddr,h0,hl,Ap h2,add_lit]
theorem Co {T n c e esz b off:Nat} {k:IntKind} {j:Int} (h1:P.underlying T=some (.slice e)) (h2:(P.info? e).map (·.size)=some esz) (h0:0<=j) (hl:j<n):
  (Instr.indexAt T (.slice (some ⟨b,off,none⟩) n c) (.int k j)).run P w=.ok (.pointer (some ⟨b,off+j.toNat*esz,none⟩)) w:=by
 simp [Instr.indexAt,run_underlying h1,asIntOf,h0,hl,Ap h2,add_lit]
theorem Ju {tb:List (Nat×TI)} (htb:Ae S P tb) (hg:G w0 F D0 D s N β a w) {o:Oper} {T:Nat} {x i:Operand} (ho:o.op=.indexAddr T x i):R.Sound P w0 F D0 D s N β a w o (Hv tb s T x i):=by
 unfold Hv
 split
 case h_2=>trivial
 rename_i k j h3
 split
 ·rename_i n e esz h1
  obtain ⟨h4,h5⟩:=Ag htb h1
  split
  ·rename_i b off h2
   split
   ·rename_i hz
    have hz:=ac hz;subst hz
    refine AF (by simpa [SV.on] using CW hg h2) fun hc=>?_
    simp only [Cd,ii] at hc
    simp [execOp,ho,AE hg h2,AE hg h3,SV.den,Dk h4 h5 hc.1 hc.2]
   ·refine AF (by simpa [SV.on] using CW hg h2) fun hc=>?_
    simp only [Cd,ii] at hc
    simp [execOp,ho,AE hg h2,AE hg h3,SV.den,Dk h4 h5 hc.1 hc.2]
  ·rename_i b off h2
   split
   case h_2=>trivial
   rename_i cs _ hi
   obtain ⟨_,b0,o0,hv,_⟩:=hg.gh.own b _ hi
   refine AF (by simpa [SV.on] using CW hg h2) fun hc=>?_
   simp only [Cd,ii] at hc
   simp [execOp,ho,AE hg h2,AE hg h3,SV.den,Nm.at,hv,Dk h4 h5 hc.1 hc.2,Nat.add_assoc]
  ·rename_i b zz e0 off h2
   split
   case h_2=>trivial
   refine AF (by simpa [SV.on] using CW hg h2) fun hc=>?_
   simp only [Cd,ii] at hc
   simp [execOp,ho,AE hg h2,AE hg h3,SV.den,Dk h4 h5 hc.1 hc.2,Nat.add_assoc]
  ·trivial
 ·rename_i e esz h1
  obtain ⟨h4,h5⟩:=Ag htb h1
  split
  ·rename_i b h2
   split
   case h_2=>trivial
   rename_i σ l hb
   split
   case h_2=>trivial
   rename_i hz
   have hz:=ac hz;subst hz
   split
   rename_i cs o1 n' hu
   intro hc hN
   simp only [Cd,ii] at hc
   have hlt:j.toNat<l.length:=by omega
   obtain ⟨_,hok⟩:=hg.gh.own b _ hb
   have hv:a.eval x=(β b).sl:=AE hg h2
   generalize (β b).sl=sv at hok hv
   cases hok with
   | nil=>simp at hlt
   | sl _ _ bk off c vs hD hlc hcell hrec=>
    have hall:AG S w D (S.flat σ l) ((List.range (S.flat σ l).length).map vs):=⟨by simp,fun q f v hf hv=>by
     have hq:q<(S.flat σ l).length:=(List.getElem?_eq_some_iff.1 hf).1
     rw [List.getElem?_map,List.getElem?_range hq] at hv
     cases hv
     exact hrec q f hf⟩
    have hat:=S.Ph σ hall hlt (S.A4 σ)
    obtain ⟨β',g2,g3,g4⟩:=EP (β:=β) hat hu (fun j h1 h2=>hN j h1 (by omega))
    obtain ⟨β2,e1,e2,hg2⟩:=g2.val (hN n' g2.le (lw _)) (b:=.vu cs) (nm:=⟨none,0,0,.pointer (some ⟨bk,off+j.toNat*S.sz σ,none⟩)⟩) (fun k=>Nm.Fe rfl (fun _=>rfl) k) g4 (fun β2 e1=>⟨rfl,bk,off+j.toNat*S.sz σ,rfl,hD,fun q v hv=>by
      rw [<-Bf e1 cs g4,g3] at hv
      simp only [ol,List.getElem?_drop] at hv
      split at hv
      ·rw [List.getElem?_map] at hv
       obtain ⟨r,hr,hr2⟩:=Option.map_eq_some_iff.1 hv
       have hr3:=List.getElem?_eq_some_iff.1 hr
       obtain ⟨hr4,hr5⟩:=hr3
       simp only [List.getElem_range] at hr5
       subst hr5
       have hf:=co (l:=S.flat σ l) (by simpa using hr4)
       have:=hcell _ _ hf
       rw [Nat.add_assoc,this,hr2]
      ·cases hv⟩)
    refine ⟨β2,w,?_,hg2,.inr ⟨g2.le,lw _⟩⟩
    have:=Co (P:=P) (w:=w) (b:=bk) (off:=off) (c:=c) (k:=k) h4 h5 hc.1 hc.2
    simp [execOp,ho,hv,AE hg h3,SV.den,this,e2,Nm.at]
  ·rename_i b h2
   have main: ∀ {σ E:Nat} {l:List (S.T σ)} {vs:List Value},(β b).len=l.length->w.ownsRow 0 E (S.sz σ) (.slice ((β b).b.map fun b=>⟨b,0,none⟩) l.length (β b).cap) l.length vs->R.Sound P w0 F D0 D s N β a w o (.val (some (decide (0<=j/\j<l.length))) (.ep b esz j.toNat 0)):=by
    intro σ E l vs hlen hrow
    refine AF (by simpa [SV.on] using CW hg h2) fun hc=>?_
    simp only [Cd,ii] at hc
    obtain ⟨g,hgb⟩: ∃ g,(β b).b=some g:=⟨_,A6 hrow (by omega)⟩
    have:=Co (P:=P) (w:=w) (b:=g) (off:=0) (c:=(β b).cap) (k:=k) h4 h5 hc.1 hc.2
    simp [execOp,ho,AE hg h2,AE hg h3,SV.den,hgb,Nm.AX,hlen] at this ⊢
    simp [this]
   split
   ·rename_i σ E l hb
    split
    case h_2=>trivial
    obtain ⟨hlen,vs,hrow,_⟩:=hg.gh.own b _ hb
    exact main hlen hrow
   ·rename_i σ E l hb
    split
    case h_2=>trivial
    obtain ⟨hlen,vs,hrow,_⟩:=hg.gh.own b _ hb
    exact main hlen hrow
   ·rename_i κ τ ag E ls hb
    split
    case h_2=>trivial
    obtain ⟨hlen,vs,hrow,_⟩:=hg.gh.own b _ hb
    refine AF (by simpa [SV.on] using CW hg h2) fun hc=>?_
    simp only [Cd,ii] at hc
    obtain ⟨g,hgb⟩: ∃ g,(β b).b=some g:=⟨_,A6 hrow (by omega)⟩
    have:=Co (P:=P) (w:=w) (b:=g) (off:=0) (c:=(β b).cap) (k:=k) h4 h5 hc.1 hc.2
    simp [execOp,ho,AE hg h2,AE hg h3,SV.den,hgb,Nm.AX,hlen] at this ⊢
    simp [this]
   ·trivial
  ·rename_i b z e' off h2
   split
   case h_2=>trivial
   rename_i τ E l hb
   split
   case h_2=>trivial
   rename_i σ hz hσ
   have hz:=ac hz;subst hz
   split
   case h_2=>trivial
   rename_i m hy hm
   have hy:=ac hy;subst hy
   refine AF (by simpa [SV.on] using CW hg h2) fun hc=>?_
   simp only [Cd,ii] at hc
   obtain ⟨_,vs,hrow,hvs,hnest⟩:=hg.gh.own b _ hb
   obtain ⟨E1,hE1⟩:=J3 hm
   obtain ⟨_,us,hr1,hu1⟩:=hnest.row e' _ off σ E1 m (getD_some hc.1) hE1
   obtain ⟨hv,hvb,hvn⟩:=EK (len:=m.length) hr1
   rw [hv] at hr1
   have hgb:=A6 hr1 (by omega)
   rw [Nt] at hgb
   have hv2:a.eval x=.slice (some ⟨A5 ((β b).hd (e'*S.sz τ+off)),0,none⟩) m.length (CD m.length ((β b).hd (e'*S.sz τ+off))).cap:=by
    rw [AE hg h2];simp only [SV.den];rw [hgb] at hv;exact hv
   have:=Co (P:=P) (w:=w) (b:=A5 ((β b).hd (e'*S.sz τ+off))) (off:=0) (c:=(CD m.length ((β b).hd (e'*S.sz τ+off))).cap) (k:=k) h4 h5 hc.2.1 hc.2.2
   simp [execOp,ho,hv2,AE hg h3,SV.den] at this ⊢
   simp [this]
  ·rename_i b n h2
   split
   case h_2=>trivial
   rename_i U sz m cs hb
   split
   case h_2=>trivial
   rename_i hm
   have hm:=ac hm;subst hm
   refine AF (by simpa [SV.on] using CW hg h2) fun hc=>?_
   simp only [Cd,ii] at hc
   obtain ⟨g,hgb⟩: ∃ g,(β b).b=some g:=⟨_,A6 (hg.gh.own b _ hb) (by omega)⟩
   have:=Co (P:=P) (w:=w) (b:=g) (off:=0) (c:=(β b).cap) (k:=k) h4 h5 hc.1 hc.2
   simp [execOp,ho,AE hg h2,AE hg h3,SV.den,hgb,Nm.AX] at this ⊢
   simp [this]
  ·rename_i b off n c h2
   refine AF (by simpa [SV.on] using CW hg h2) fun hc=>?_
   simp only [Cd,ii] at hc
   simp [execOp,ho,AE hg h2,AE hg h3,SV.den,Co h4 h5 hc.1 hc.2]
  ·trivial
 ·trivial
theorem Oe {tb:List (Nat×TI)} (htb:Ae S P tb) (hg:G w0 F D0 D s N β a w) {o:Oper} {T:Nat} {x i:Operand} (ho:o.op=.index T x i) (hT:DS tb T=some .str):R.Sound P w0 F D0 D s N β a w o (Pp s x i):=by
 have h4:=Ag htb hT
 simp only [TD.ok] at h4
 unfold Pp
 split
 ·rename_i l k j h1 h2
  refine AF trivial fun hc=>?_
  simp only [Cd,ii] at hc
  obtain ⟨hj0,hj⟩:=hc
  have hlt:j.toNat<l.length:=by omega
  have hb:(⟨⟨l⟩⟩:ByteArray)[j.toNat]?=some l[j.toNat]:=by
   have hsz:j.toNat<(⟨⟨l⟩⟩:ByteArray).size:=hlt
   rw [getElem?_pos (⟨⟨l⟩⟩:ByteArray) j.toNat hsz]
   rfl
  have e:Cz l j=(l[j.toNat].toNat:Int):=by simp [Cz,List.getD,hlt]
  simp [execOp,ho,AE hg h1,AE hg h2,SV.den,Instr.index,asIntOf,run_underlying h4,hj0,hb,e]
 ·trivial
theorem La (β:Nat->Nm) (k:IntKind): ∀ (cs:List SV) (l:List Int),J6 k cs=some l->AD β cs=l.map (Value.int k)
 | [],l,h=>by simp only [J6,am] at h;subst h;rfl
 | c::r,l,h=>by
  unfold J6 at h
  split at h
  ·rename_i heq;cases heq
  ·rename_i k' x r' heq
   simp only [List.cons.injEq] at heq
   obtain ⟨rfl,rfl⟩:=heq
   split at h
   ·rename_i l' h1 h2
    cases h
    have h3:=(DR _ _).1 h1
    subst h3
    have h4:=La β k' r l' h2
    rw [Dd] at h4 ⊢
    simp only [List.map_cons,h4,SV.den]
   ·cases h
  ·cases h
theorem OM (β:Nat->Nm): ∀ (cs:List SV) (l:List (List UInt8)),OL cs=some l->AD β cs=l.map fun x=>Value.string ⟨⟨x⟩⟩
 | [],l,h=>by simp only [OL,am] at h;subst h;rfl
 | c::r,l,h=>by
  unfold OL at h
  split at h
  ·rename_i heq;cases heq
  ·rename_i x r' heq
   simp only [List.cons.injEq] at heq
   obtain ⟨rfl,rfl⟩:=heq
   split at h
   ·rename_i l' h1
    cases h
    have h4:=OM β r l' h1
    rw [Dd] at h4 ⊢
    simp only [List.map_cons,h4,SV.den]
   ·cases h
  ·cases h
theorem M8 {tb:List (Nat×TI)} (htb:Ae S P tb) (hg:G w0 F D0 D s N β a w) {o:Oper} {T n e esz:Nat} {x i:Operand} (ho:o.op=.index T x i) (hT:DS tb T=some (.array n e esz)):R.Sound P w0 F D0 D s N β a w o (M7 tb s n e esz x i):=by
 obtain ⟨h4,h5⟩:=Ag htb hT
 unfold M7
 split
 ·rename_i k0 j k y cs h1 h2
  split
  ·rename_i t l ht hz hl
   split
   ·rename_i hag hn
    obtain ⟨v,hv,hc⟩:=Option.bind_eq_some_iff.1 h2
    obtain ⟨ha1,_⟩:=ED hc β
    refine AF trivial fun hcc=>?_
    simp only [Cd,ii] at hcc
    obtain ⟨hj0,hj⟩:=hcc
    have hz':esz=1:=ac hz
    have hn':l.length=n:=ac hn
    subst hz' hn'
    have hlt:j.toNat<l.length:=by omega
    have hd:=La β k _ l hl
    have hpt:(part e (l.map (Value.int k)).toArray (j.toNat*1)).run P w=.ok (.int k (l.getD j.toNat 0)) w:=by
     unfold part
     rw [Sem.run_bind,(htb.get ht).isAgg w,Result.andThen_ok,hag]
     simp [hlt,List.getD]
    rw [hd] at ha1
    have hix:(Instr.index T (.agg (l.map (Value.int k)).toArray) (.int k0 j)).run P w=.ok (.int k (l.getD j.toNat 0)) w:=by
     simp only [Instr.index,asIntOf,Sem.run_bind,Sem.run_pure,Result.andThen_ok,run_underlying h4]
     rw [if_pos ⟨hj0,hj⟩,Sem.run_bind,Ap h5,Result.andThen_ok]
     exact hpt
    simp [execOp,ho,AE hg h1,AE hg hv,ha1,SV.den,-List.getD_eq_getElem?_getD] at hix ⊢
    simp [hix]
   ·trivial
  ·trivial
 ·rename_i k0 j s0 cs h1 h2
  split
  ·rename_i t l ht hz hl
   split
   ·rename_i hag hn
    obtain ⟨v,hv,hc⟩:=Option.bind_eq_some_iff.1 h2
    obtain ⟨ha1,_⟩:=ED hc β
    refine AF trivial fun hcc=>?_
    simp only [Cd,ii] at hcc
    obtain ⟨hj0,hj⟩:=hcc
    have hz':esz=1:=ac hz
    have hn':l.length=n:=ac hn
    subst hz' hn'
    have hlt:j.toNat<l.length:=by omega
    have hd:=OM β _ l hl
    have hpt:(part e (l.map fun x=>Value.string ⟨⟨x⟩⟩).toArray (j.toNat*1)).run P w=.ok (.string ⟨⟨l.getD j.toNat []⟩⟩) w:=by
     unfold part
     rw [Sem.run_bind,(htb.get ht).isAgg w,Result.andThen_ok,hag]
     simp [hlt,List.getD]
    rw [hd] at ha1
    have hix:(Instr.index T (.agg (l.map fun x=>Value.string ⟨⟨x⟩⟩).toArray) (.int k0 j)).run P w=.ok (.string ⟨⟨l.getD j.toNat []⟩⟩) w:=by
     simp only [Instr.index,asIntOf,Sem.run_bind,Sem.run_pure,Result.andThen_ok,run_underlying h4]
     rw [if_pos ⟨hj0,hj⟩,Sem.run_bind,Ap h5,Result.andThen_ok]
     exact hpt
    simp [execOp,ho,AE hg h1,AE hg hv,ha1,SV.den,-List.getD_eq_getElem?_getD] at hix ⊢
    simp [hix]
   ·trivial
  ·trivial
 ·trivial
theorem Rs {o:List (Nat×Own S)} {M:Nat->Prop} (hg:GH w0 F D0 D o M β w) {i e:Nat} {κ:Fd} {τ:Nat} {ag:Bool} {E:TypeId} {ls:List (List (κ.T S.T×S.T τ))} (hi:lk o i=some (.mr κ τ ag E ls)) (he:e<ls.length):
  ∃ g c,(β i).sub e=some (g,c)/\(SV.mk i e).den β=.map (some g)/\MapAt S w D κ τ ag g (ls.getD e []):=by
 obtain ⟨_,vs,hrow,hm⟩:=hg.own i _ hi
 obtain ⟨b,c,hsub,hvs,hat⟩:=hm.cell e _ (co he)
 refine ⟨b,c,hsub,by simp [SV.den,hsub],?_⟩
 rw [lc,co he]
 exact hat
theorem RC {tb:List (Nat×TI)} (htb:Ae S P tb) (hg:G w0 F D0 D s N β a w) {o:Oper} {T:Nat} {x:Operand} (ho:o.op=.call ⟨.builtin .len,#[x],#[T]⟩):R.Sound P w0 F D0 D s N β a w o (XT tb s T x):=by
 unfold XT
 split
 ·rename_i h1
  have h4:=Ag htb h1
  simp only [TD.ok] at h4
  split
  ·rename_i l h2
   exact AF trivial fun _=>by simp [execOp,ho,resolve,invoke,builtin,Builtin.len_,AE hg h2,SV.den,run_underlying h4,goInt];rfl
  ·trivial
 ·rename_i e esz h1
  obtain ⟨h4,_⟩:=Ag htb h1
  split
  ·rename_i A n c h2
   exact AF trivial fun _=>by simp [execOp,ho,resolve,invoke,builtin,Builtin.len_,AE hg h2,SV.den,run_underlying h4,goInt]
  ·rename_i i n h2
   exact AF trivial fun _=>by simp [execOp,ho,resolve,invoke,builtin,Builtin.len_,AE hg h2,SV.den,run_underlying h4,goInt]
  ·rename_i i off n c h2
   exact AF trivial fun _=>by simp [execOp,ho,resolve,invoke,builtin,Builtin.len_,AE hg h2,SV.den,run_underlying h4,goInt]
  ·rename_i b h2
   split
   ·rename_i τ E l hb
    obtain ⟨hlen,_⟩:=hg.gh.own b _ hb
    exact AF trivial fun _=>by simp [execOp,ho,resolve,invoke,builtin,Builtin.len_,AE hg h2,SV.den,run_underlying h4,goInt,hlen]
   ·rename_i τ E l hb
    obtain ⟨hlen,_⟩:=hg.gh.own b _ hb
    exact AF trivial fun _=>by simp [execOp,ho,resolve,invoke,builtin,Builtin.len_,AE hg h2,SV.den,run_underlying h4,goInt,hlen]
   ·rename_i κ τ ag E ls hb
    obtain ⟨hlen,_⟩:=hg.gh.own b _ hb
    exact AF trivial fun _=>by simp [execOp,ho,resolve,invoke,builtin,Builtin.len_,AE hg h2,SV.den,run_underlying h4,goInt,hlen]
   ·trivial
  ·rename_i b z e' off h2
   split
   case h_2=>trivial
   rename_i τ E l hb
   split
   case h_2=>trivial
   rename_i σ hz hσ
   have hz:=ac hz;subst hz
   split
   case h_2=>trivial
   rename_i m hm
   refine AF trivial fun hc=>?_
   simp only [Cd,ii] at hc
   obtain ⟨_,vs,hrow,hvs,hnest⟩:=hg.gh.own b _ hb
   obtain ⟨E1,hE1⟩:=J3 hm
   obtain ⟨_,us,hr1,hu1⟩:=hnest.row e' _ off σ E1 m (getD_some hc) hE1
   obtain ⟨hv,hvb,hvn⟩:=EK (len:=m.length) hr1
   have hv2:a.eval x=.slice ((CD m.length ((β b).hd (e'*S.sz τ+off))).b.map fun b=>⟨b,0,none⟩) m.length (CD m.length ((β b).hd (e'*S.sz τ+off))).cap:=by
    rw [AE hg h2];simp only [SV.den];exact hv
   simp [execOp,ho,resolve,invoke,builtin,Builtin.len_,hv2,SV.den,run_underlying h4,goInt]
  ·rename_i b h2
   split
   ·rename_i τ l hb
    obtain ⟨_,hok⟩:=hg.gh.own b _ hb
    have hv:a.eval x=(β b).sl:=AE hg h2
    generalize (β b).sl=sv at hok hv
    refine AF trivial fun _=>?_
    cases hok<;>simp [execOp,ho,resolve,invoke,builtin,Builtin.len_,hv,SV.den,run_underlying h4,goInt]
   ·trivial
  ·trivial
 ·rename_i n e esz h1
  obtain ⟨h4,_⟩:=Ag htb h1
  exact AF trivial fun _=>by simp [execOp,ho,resolve,invoke,builtin,Builtin.len_,run_underlying h4,goInt,SV.den]
 ·rename_i kt et h1
  have h4:=Ag htb h1
  simp only [TD.ok] at h4
  split
  ·rename_i b h2
   split
   case h_2=>trivial
   rename_i κ τ ag l hb
   obtain ⟨g,hgb,es,hh,hsz,_⟩:=hg.gh.own b _ hb
   have A5:(β b).AX=g:=by simp [Nm.AX,hgb]
   exact AF trivial fun _=>by simp [execOp,ho,resolve,invoke,builtin,Builtin.len_,AE hg h2,SV.den,run_underlying h4,goInt,A5,MapKept.run_getObj_map hh,hsz]
  ·rename_i b e h2
   split
   case h_2=>trivial
   rename_i κ τ ag E ls hb
   refine AF trivial fun hc=>?_
   obtain ⟨g,c,_,hden,es,hh,hsz,_⟩:=Rs hg.gh hb (show e<ls.length by simpa [Cd] using hc)
   have hv:a.eval x=.map (some g):=(AE hg h2).trans hden
   simp [execOp,ho,resolve,invoke,builtin,Builtin.len_,hv,SV.den,run_underlying h4,goInt,MapKept.run_getObj_map hh,hsz]
  ·rename_i h2
   exact AF trivial fun _=>by simp [execOp,ho,resolve,invoke,builtin,Builtin.len_,AE hg h2,SV.den,run_underlying h4,goInt]
  ·trivial
 ·trivial
theorem Hw (hg:G w0 F D0 D s N β a w) {o:Oper} {x y:Operand} {ts:Array TypeId} (mx:Bool) (ho:o.op=.call ⟨.builtin (if mx then .max else .min),#[x,y],ts⟩):R.Sound P w0 F D0 D s N β a w o (Jv mx s x y):=by
 unfold Jv
 split
 ·rename_i k n k' m h1 h2
  split
  ·exact AF trivial fun _=>by simp [execOp,ho,resolve,invoke,builtin,Builtin.max_,Builtin.max2,AE hg h1,AE hg h2,SV.den]
  ·exact AF trivial fun _=>by simp [execOp,ho,resolve,invoke,builtin,Builtin.min_,Builtin.min2,AE hg h1,AE hg h2,SV.den]
 ·trivial
theorem Ls (hg:G w0 F D0 D s N β a w) {o:Oper} {x:Operand} {j:Nat} (ho:o.op=.extract x j):R.Sound P w0 F D0 D s N β a w o (Kj s x j):=by
 unfold Kj
 split
 ·rename_i l h1
  split
  ·rename_i v hv
   exact AF trivial fun _=>by simp [execOp,ho,AE hg h1,SV.den,Instr.extract,hv]
  ·trivial
 ·rename_i l h1
  split
  ·rename_i v hv
   have hon:=CW hg h1
   simp only [SV.on] at hon
   exact AF (A0.1 hon v (gc hv)) fun _=>by simp [execOp,ho,AE hg h1,SV.den,Instr.extract,Dd,hv]
  ·trivial
 ·trivial
end
end Go.En
