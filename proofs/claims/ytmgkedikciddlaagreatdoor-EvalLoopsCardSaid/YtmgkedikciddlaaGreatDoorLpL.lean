/-
 EvalLoops: the law.
-/
import Derived.Test.YtmgkedikciddlaaGreatDoorLpO0
import Derived.Test.YtmgkedikciddlaaGreatDoorLpO1
import Derived.Test.YtmgkedikciddlaaGreatDoorLpO2
import Derived.Test.YtmgkedikciddlaaGreatDoorLpO3
import Derived.Test.YtmgkedikciddlaaGreatDoorLpO4
import Derived.Test.YtmgkedikciddlaaGreatDoorLpO5
import Derived.Test.YtmgkedikciddlaaGreatDoorMv
set_option linter.all false
set_option maxRecDepth 1000000
set_option maxHeartbeats 1000000
namespace Go.Proofs.Tryz
open Go Go.En
abbrev YW (m:Nat):Int:=((m:Int)*((m:Int) -1)).tdiv 2
theorem YX: ∀ m:Nat,m<200->BI ((m:Int) -1)=true/\BI ((m:Int)*((m:Int) -1))=true/\decide ((2:Int)≠0/\BI (YW m)=true)=true/\E7 m 0 0=YW m/\Lk m=YW m/\Qm m m 0=YW m:=by decide+kernel
theorem Ow {s:List UInt8} {p:Dop.Gu} {r:Dop.PJ} (h:m18.k s=HJ p 0 0) (k:F0.k p [] 20000=Cn r):OI.k s [] 20000=Ev r 0:=by
 unfold OI.k
 rw [h,Mg]
 dsimp only
 rw [AA (show (!decide ((0:Int)=0))=false from rfl),k]
 rfl
theorem Kp (a g w z:List UInt8):a++g++w++z=a++(g++(w++z)):=by simp only [List.append_assoc]
theorem jj:(Pz.length+P5.length+Ro.length<=1000/\P0.length+P6.length+Rp.length<=1000/\P1.length+P7.length+Rq.length<=1000)/\P2.length+P8.length+Rr.length<=1000/\P3.length+P9.length+Rs.length<=1000/\P4.length+QA.length+Rt.length<=1000:=by decide
theorem IW {m:Nat} (hm:m<200) {l:List (List UInt8)} (hl:l.length=6) {j N:Nat} (hj:j<6) (hb:OI.k (List.getD l j []) [] 20000=Ev (.mk 1 (YW m) []) 0):(Bp m15.kS (N+1)).1 (m:Int) l 6 (I j)=(Bp m15.kS N).1 (m:Int) l 6 (I (j+1)):=by
 obtain ⟨h1,h2,h3,_⟩:=YX m hm
 show LJ.kB (Bp m15.kS N) (m:Int) l 6 (I j)=_
 unfold LJ.kB
 rw [AN (decide_eq_true (by simp only [I];omega)),AL (decide_eq_true (by simp only [I];omega)),AL (decide_eq_true (by simp only [I];omega)),show (I j).toNat=j from rfl,hb,Fb]
 dsimp only
 rw [AA (show (!decide ((0:Int)=0))=false from rfl),AL h1,AL h2,AL h3,same 1 _ [] (by decide),Ao]
 dsimp only
 rw [AA (show (!true)=false from rfl),AL (BD.2 (by simp only [I];omega))]
 rfl
theorem Vz (n:Int) (hn:0<=n/\n<=255):m15.k n=some ((true,()),()):=by
 obtain ⟨m,hm,e⟩: ∃ m:Nat,m<200/\n.tmod 200=(m:Int):=⟨(n % 200).toNat,by omega,by rw [Int.tmod_eq_emod_of_nonneg hn.1];omega⟩
 have hl:(Lib.decDigits m).length<=3:=dec_lt 2 m (by omega)
 obtain ⟨_,_,_,v1,v2,v3⟩:=YX m hm
 have b0:OI.k (Pz++P5++Lib.decDigits m++Ro) [] 20000=Ev (.mk 1 (YW m) []) 0:=by
  rw [Kp];exact Ow (jt hm) (by rw [bY m hm m 20000 rfl rfl,v1])
 have b1:OI.k (P0++P6++Lib.decDigits m++Rp) [] 20000=Ev (.mk 1 (YW m) []) 0:=by
  rw [Kp];exact Ow (ju hm) (by rw [bZ m hm m 20000 rfl rfl,v1])
 have b2:OI.k (P1++P7++Lib.decDigits m++Rq) [] 20000=Ev (.mk 1 (YW m) []) 0:=by
  rw [Kp];exact Ow (jv hm) (by rw [ba m hm m 20000 rfl rfl,v1])
 have b3:OI.k (P2++P8++Lib.decDigits m++Rr) [] 20000=Ev (.mk 1 (YW m) []) 0:=by
  rw [Kp];exact Ow (jw hm) (by rw [bb m hm m 20000 rfl rfl,v1])
 have b4:OI.k (P3++P9++Lib.decDigits m++Rs) [] 20000=Ev (.mk 1 (YW m) []) 0:=by
  rw [Kp];exact Ow (jx hm) (by rw [bc m hm m 20000 rfl rfl,v2])
 have b5:OI.k (P4++QA++Lib.decDigits m++Rt) [] 20000=Ev (.mk 1 (YW m) []) 0:=by
  rw [Kp];exact Ow (jy hm) (by rw [bd m hm m 20000 rfl rfl,v3])
 unfold m15.k m15.k0
 rw [e,show Lib.itoa (m:Int)=Lib.decDigits m from Lib.itoa_nonneg m]
 generalize Lib.decDigits m=w at*
 have key: ∀ L:List (List UInt8),L=[Pz++P5++w++Ro,P0++P6++w++Rp,P1++P7++w++Rq,P2++P8++w++Rr,P3++P9++w++Rs,P4++QA++w++Rt]->(Bp m15.kS 1000000).1 (m:Int) L 6 (I 0)=Cn true:=fun L hL=>by
  have h6:L.length=6:=by rw [hL];rfl
  refine (IW (l:=L) (N:=999999) (j:=0) hm h6 (by decide) (by rw [hL];exact b0)).trans ?_
  refine (IW (l:=L) (N:=999998) (j:=1) hm h6 (by decide) (by rw [hL];exact b1)).trans ?_
  refine (IW (l:=L) (N:=999997) (j:=2) hm h6 (by decide) (by rw [hL];exact b2)).trans ?_
  refine (IW (l:=L) (N:=999996) (j:=3) hm h6 (by decide) (by rw [hL];exact b3)).trans ?_
  refine (IW (l:=L) (N:=999995) (j:=4) hm h6 (by decide) (by rw [hL];exact b4)).trans ?_
  refine (IW (l:=L) (N:=999994) (j:=5) hm h6 (by decide) (by rw [hL];exact b5)).trans ?_
  show LJ.kB (Bp m15.kS 999993) (m:Int) L 6 (I 6)=_
  unfold LJ.kB
  rw [AA (by rfl)]
 rw [AL (BD.2 (by omega)),AL (by decide),AL (by unfold mU;exact decide_eq_true (by omega))]
 obtain ⟨⟨_,_,_⟩,_,_,_⟩:=jj
 iterate 12 rw [AL (decide_eq_true (by simp only [List.length_append];omega))]
 exact key _ rfl
end Go.Proofs.Tryz
