/-
 The law's awake is true. (Printed by gen_aw.py.)
-/
import Derived.Test.YtkpokomghbhadaaGreatDoorTrT
set_option maxRecDepth 100000
namespace Go.Proofs.TR
open Go Go.En Go.En.Dop
def aw1_l : List Tok := [⟨2,[105,110,116],0,0⟩,⟨1,[109,97,105,110],0,4⟩,⟨4,[40],0,8⟩,⟨4,[41],0,9⟩,⟨4,[123],0,10⟩,⟨2,[114,101,116,117,114,110],0,11⟩,⟨3,[49],1,18⟩,⟨4,[43],0,19⟩,⟨3,[50],2,20⟩,⟨4,[42],0,21⟩,⟨3,[51],3,22⟩,⟨4,[59],0,23⟩,⟨4,[125],0,24⟩,⟨0,[],0,25⟩]
theorem aw1_scan : Sc.scanL 0 0 [105,110,116,32,109,97,105,110,40,41,123,114,101,116,117,114,110,32,49,43,50,42,51,59,125] = .ok aw1_l := by
 have t0 : Sc.tokL [105,110,116,32,109,97,105,110,40,41,123,114,101,116,117,114,110,32,49,43,50,42,51,59,125] = .tok 2 [105,110,116] 0 := by rfl
 rw [Sc.scan_tok 0 (Sc.skip_not (by decide) (by decide) (by decide)) t0 (by decide)]
 show (Sc.scanL 3 1 [32,109,97,105,110,40,41,123,114,101,116,117,114,110,32,49,43,50,42,51,59,125]).cons _ = _
 have t1 : Sc.tokL [109,97,105,110,40,41,123,114,101,116,117,114,110,32,49,43,50,42,51,59,125] = .tok 1 [109,97,105,110] 0 := by rfl
 rw [Sc.scan_tok 3 ((Sc.skip_ws _ (by decide)).trans (Sc.skip_not (by decide) (by decide) (by decide))) t1 (by decide)]
 show ((Sc.scanL 8 2 [40,41,123,114,101,116,117,114,110,32,49,43,50,42,51,59,125]).cons _).cons _ = _
 have t2 : Sc.tokL [40,41,123,114,101,116,117,114,110,32,49,43,50,42,51,59,125] = .tok 4 [40] 0 := by rfl
 rw [Sc.scan_tok 8 (Sc.skip_not (by decide) (by decide) (by decide)) t2 (by decide)]
 show (((Sc.scanL 9 3 [41,123,114,101,116,117,114,110,32,49,43,50,42,51,59,125]).cons _).cons _).cons _ = _
 have t3 : Sc.tokL [41,123,114,101,116,117,114,110,32,49,43,50,42,51,59,125] = .tok 4 [41] 0 := by rfl
 rw [Sc.scan_tok 9 (Sc.skip_not (by decide) (by decide) (by decide)) t3 (by decide)]
 show ((((Sc.scanL 10 4 [123,114,101,116,117,114,110,32,49,43,50,42,51,59,125]).cons _).cons _).cons _).cons _ = _
 have t4 : Sc.tokL [123,114,101,116,117,114,110,32,49,43,50,42,51,59,125] = .tok 4 [123] 0 := by rfl
 rw [Sc.scan_tok 10 (Sc.skip_not (by decide) (by decide) (by decide)) t4 (by decide)]
 show (((((Sc.scanL 11 5 [114,101,116,117,114,110,32,49,43,50,42,51,59,125]).cons _).cons _).cons _).cons _).cons _ = _
 have t5 : Sc.tokL [114,101,116,117,114,110,32,49,43,50,42,51,59,125] = .tok 2 [114,101,116,117,114,110] 0 := by rfl
 rw [Sc.scan_tok 11 (Sc.skip_not (by decide) (by decide) (by decide)) t5 (by decide)]
 show ((((((Sc.scanL 17 6 [32,49,43,50,42,51,59,125]).cons _).cons _).cons _).cons _).cons _).cons _ = _
 have t6 : Sc.tokL [49,43,50,42,51,59,125] = .tok 3 [49] 1 := by rfl
 rw [Sc.scan_tok 17 ((Sc.skip_ws _ (by decide)).trans (Sc.skip_not (by decide) (by decide) (by decide))) t6 (by decide)]
 show (((((((Sc.scanL 19 7 [43,50,42,51,59,125]).cons _).cons _).cons _).cons _).cons _).cons _).cons _ = _
 have t7 : Sc.tokL [43,50,42,51,59,125] = .tok 4 [43] 0 := by rfl
 rw [Sc.scan_tok 19 (Sc.skip_not (by decide) (by decide) (by decide)) t7 (by decide)]
 show ((((((((Sc.scanL 20 8 [50,42,51,59,125]).cons _).cons _).cons _).cons _).cons _).cons _).cons _).cons _ = _
 have t8 : Sc.tokL [50,42,51,59,125] = .tok 3 [50] 2 := by rfl
 rw [Sc.scan_tok 20 (Sc.skip_not (by decide) (by decide) (by decide)) t8 (by decide)]
 show (((((((((Sc.scanL 21 9 [42,51,59,125]).cons _).cons _).cons _).cons _).cons _).cons _).cons _).cons _).cons _ = _
 have t9 : Sc.tokL [42,51,59,125] = .tok 4 [42] 0 := by rfl
 rw [Sc.scan_tok 21 (Sc.skip_not (by decide) (by decide) (by decide)) t9 (by decide)]
 show ((((((((((Sc.scanL 22 10 [51,59,125]).cons _).cons _).cons _).cons _).cons _).cons _).cons _).cons _).cons _).cons _ = _
 have t10 : Sc.tokL [51,59,125] = .tok 3 [51] 3 := by rfl
 rw [Sc.scan_tok 22 (Sc.skip_not (by decide) (by decide) (by decide)) t10 (by decide)]
 show (((((((((((Sc.scanL 23 11 [59,125]).cons _).cons _).cons _).cons _).cons _).cons _).cons _).cons _).cons _).cons _).cons _ = _
 have t11 : Sc.tokL [59,125] = .tok 4 [59] 0 := by rfl
 rw [Sc.scan_tok 23 (Sc.skip_not (by decide) (by decide) (by decide)) t11 (by decide)]
 show ((((((((((((Sc.scanL 24 12 [125]).cons _).cons _).cons _).cons _).cons _).cons _).cons _).cons _).cons _).cons _).cons _).cons _ = _
 have t12 : Sc.tokL [125] = .tok 4 [125] 0 := by rfl
 rw [Sc.scan_tok 24 (Sc.skip_not (by decide) (by decide) (by decide)) t12 (by decide)]
 show (((((((((((((Sc.scanL 25 13 []).cons _).cons _).cons _).cons _).cons _).cons _).cons _).cons _).cons _).cons _).cons _).cons _).cons _ = _
 rw [Sc.scan_end 25 13 Sc.skip_nil]
 rfl
theorem aw1_read : read [105,110,116,32,109,97,105,110,40,41,123,114,101,116,117,114,110,32,49,43,50,42,51,59,125] = parse aw1_l := by
 unfold read Law.scanA
 rw [if_neg (by decide),aw1_scan]
def aw2_l : List Tok := [⟨2,[105,110,116],0,0⟩,⟨1,[109,97,105,110],0,4⟩,⟨4,[40],0,8⟩,⟨4,[41],0,9⟩,⟨4,[123],0,10⟩,⟨2,[114,101,116,117,114,110],0,11⟩,⟨4,[40],0,18⟩,⟨3,[49],1,19⟩,⟨4,[43],0,20⟩,⟨4,[40],0,21⟩,⟨3,[50],2,22⟩,⟨4,[42],0,23⟩,⟨3,[51],3,24⟩,⟨4,[41],0,25⟩,⟨4,[41],0,26⟩,⟨4,[59],0,27⟩,⟨4,[125],0,28⟩,⟨0,[],0,29⟩]
theorem aw2_scan : Sc.scanL 0 0 [105,110,116,32,109,97,105,110,40,41,123,114,101,116,117,114,110,32,40,49,43,40,50,42,51,41,41,59,125] = .ok aw2_l := by
 have t0 : Sc.tokL [105,110,116,32,109,97,105,110,40,41,123,114,101,116,117,114,110,32,40,49,43,40,50,42,51,41,41,59,125] = .tok 2 [105,110,116] 0 := by rfl
 rw [Sc.scan_tok 0 (Sc.skip_not (by decide) (by decide) (by decide)) t0 (by decide)]
 show (Sc.scanL 3 1 [32,109,97,105,110,40,41,123,114,101,116,117,114,110,32,40,49,43,40,50,42,51,41,41,59,125]).cons _ = _
 have t1 : Sc.tokL [109,97,105,110,40,41,123,114,101,116,117,114,110,32,40,49,43,40,50,42,51,41,41,59,125] = .tok 1 [109,97,105,110] 0 := by rfl
 rw [Sc.scan_tok 3 ((Sc.skip_ws _ (by decide)).trans (Sc.skip_not (by decide) (by decide) (by decide))) t1 (by decide)]
 show ((Sc.scanL 8 2 [40,41,123,114,101,116,117,114,110,32,40,49,43,40,50,42,51,41,41,59,125]).cons _).cons _ = _
 have t2 : Sc.tokL [40,41,123,114,101,116,117,114,110,32,40,49,43,40,50,42,51,41,41,59,125] = .tok 4 [40] 0 := by rfl
 rw [Sc.scan_tok 8 (Sc.skip_not (by decide) (by decide) (by decide)) t2 (by decide)]
 show (((Sc.scanL 9 3 [41,123,114,101,116,117,114,110,32,40,49,43,40,50,42,51,41,41,59,125]).cons _).cons _).cons _ = _
 have t3 : Sc.tokL [41,123,114,101,116,117,114,110,32,40,49,43,40,50,42,51,41,41,59,125] = .tok 4 [41] 0 := by rfl
 rw [Sc.scan_tok 9 (Sc.skip_not (by decide) (by decide) (by decide)) t3 (by decide)]
 show ((((Sc.scanL 10 4 [123,114,101,116,117,114,110,32,40,49,43,40,50,42,51,41,41,59,125]).cons _).cons _).cons _).cons _ = _
 have t4 : Sc.tokL [123,114,101,116,117,114,110,32,40,49,43,40,50,42,51,41,41,59,125] = .tok 4 [123] 0 := by rfl
 rw [Sc.scan_tok 10 (Sc.skip_not (by decide) (by decide) (by decide)) t4 (by decide)]
 show (((((Sc.scanL 11 5 [114,101,116,117,114,110,32,40,49,43,40,50,42,51,41,41,59,125]).cons _).cons _).cons _).cons _).cons _ = _
 have t5 : Sc.tokL [114,101,116,117,114,110,32,40,49,43,40,50,42,51,41,41,59,125] = .tok 2 [114,101,116,117,114,110] 0 := by rfl
 rw [Sc.scan_tok 11 (Sc.skip_not (by decide) (by decide) (by decide)) t5 (by decide)]
 show ((((((Sc.scanL 17 6 [32,40,49,43,40,50,42,51,41,41,59,125]).cons _).cons _).cons _).cons _).cons _).cons _ = _
 have t6 : Sc.tokL [40,49,43,40,50,42,51,41,41,59,125] = .tok 4 [40] 0 := by rfl
 rw [Sc.scan_tok 17 ((Sc.skip_ws _ (by decide)).trans (Sc.skip_not (by decide) (by decide) (by decide))) t6 (by decide)]
 show (((((((Sc.scanL 19 7 [49,43,40,50,42,51,41,41,59,125]).cons _).cons _).cons _).cons _).cons _).cons _).cons _ = _
 have t7 : Sc.tokL [49,43,40,50,42,51,41,41,59,125] = .tok 3 [49] 1 := by rfl
 rw [Sc.scan_tok 19 (Sc.skip_not (by decide) (by decide) (by decide)) t7 (by decide)]
 show ((((((((Sc.scanL 20 8 [43,40,50,42,51,41,41,59,125]).cons _).cons _).cons _).cons _).cons _).cons _).cons _).cons _ = _
 have t8 : Sc.tokL [43,40,50,42,51,41,41,59,125] = .tok 4 [43] 0 := by rfl
 rw [Sc.scan_tok 20 (Sc.skip_not (by decide) (by decide) (by decide)) t8 (by decide)]
 show (((((((((Sc.scanL 21 9 [40,50,42,51,41,41,59,125]).cons _).cons _).cons _).cons _).cons _).cons _).cons _).cons _).cons _ = _
 have t9 : Sc.tokL [40,50,42,51,41,41,59,125] = .tok 4 [40] 0 := by rfl
 rw [Sc.scan_tok 21 (Sc.skip_not (by decide) (by decide) (by decide)) t9 (by decide)]
 show ((((((((((Sc.scanL 22 10 [50,42,51,41,41,59,125]).cons _).cons _).cons _).cons _).cons _).cons _).cons _).cons _).cons _).cons _ = _
 have t10 : Sc.tokL [50,42,51,41,41,59,125] = .tok 3 [50] 2 := by rfl
 rw [Sc.scan_tok 22 (Sc.skip_not (by decide) (by decide) (by decide)) t10 (by decide)]
 show (((((((((((Sc.scanL 23 11 [42,51,41,41,59,125]).cons _).cons _).cons _).cons _).cons _).cons _).cons _).cons _).cons _).cons _).cons _ = _
 have t11 : Sc.tokL [42,51,41,41,59,125] = .tok 4 [42] 0 := by rfl
 rw [Sc.scan_tok 23 (Sc.skip_not (by decide) (by decide) (by decide)) t11 (by decide)]
 show ((((((((((((Sc.scanL 24 12 [51,41,41,59,125]).cons _).cons _).cons _).cons _).cons _).cons _).cons _).cons _).cons _).cons _).cons _).cons _ = _
 have t12 : Sc.tokL [51,41,41,59,125] = .tok 3 [51] 3 := by rfl
 rw [Sc.scan_tok 24 (Sc.skip_not (by decide) (by decide) (by decide)) t12 (by decide)]
 show (((((((((((((Sc.scanL 25 13 [41,41,59,125]).cons _).cons _).cons _).cons _).cons _).cons _).cons _).cons _).cons _).cons _).cons _).cons _).cons _ = _
 have t13 : Sc.tokL [41,41,59,125] = .tok 4 [41] 0 := by rfl
 rw [Sc.scan_tok 25 (Sc.skip_not (by decide) (by decide) (by decide)) t13 (by decide)]
 show ((((((((((((((Sc.scanL 26 14 [41,59,125]).cons _).cons _).cons _).cons _).cons _).cons _).cons _).cons _).cons _).cons _).cons _).cons _).cons _).cons _ = _
 have t14 : Sc.tokL [41,59,125] = .tok 4 [41] 0 := by rfl
 rw [Sc.scan_tok 26 (Sc.skip_not (by decide) (by decide) (by decide)) t14 (by decide)]
 show (((((((((((((((Sc.scanL 27 15 [59,125]).cons _).cons _).cons _).cons _).cons _).cons _).cons _).cons _).cons _).cons _).cons _).cons _).cons _).cons _).cons _ = _
 have t15 : Sc.tokL [59,125] = .tok 4 [59] 0 := by rfl
 rw [Sc.scan_tok 27 (Sc.skip_not (by decide) (by decide) (by decide)) t15 (by decide)]
 show ((((((((((((((((Sc.scanL 28 16 [125]).cons _).cons _).cons _).cons _).cons _).cons _).cons _).cons _).cons _).cons _).cons _).cons _).cons _).cons _).cons _).cons _ = _
 have t16 : Sc.tokL [125] = .tok 4 [125] 0 := by rfl
 rw [Sc.scan_tok 28 (Sc.skip_not (by decide) (by decide) (by decide)) t16 (by decide)]
 show (((((((((((((((((Sc.scanL 29 17 []).cons _).cons _).cons _).cons _).cons _).cons _).cons _).cons _).cons _).cons _).cons _).cons _).cons _).cons _).cons _).cons _).cons _ = _
 rw [Sc.scan_end 29 17 Sc.skip_nil]
 rfl
theorem aw2_read : read [105,110,116,32,109,97,105,110,40,41,123,114,101,116,117,114,110,32,40,49,43,40,50,42,51,41,41,59,125] = parse aw2_l := by
 unfold read Law.scanA
 rw [if_neg (by decide),aw2_scan]
def aw1_t : Tre := (parse aw1_l).1
def aw2_t : Tre := (parse aw2_l).1
theorem aw1_e : (parse aw1_l).2.2 = 0 := by kernel_rfl
theorem aw2_e : (parse aw2_l).2.2 = 0 := by kernel_rfl
def aw1_v : Tre := ⟨[⟨1,-1,-1,-1,-1,[],1,0,18⟩,⟨1,-1,-1,-1,-1,[],2,0,20⟩,⟨1,-1,-1,-1,-1,[],3,0,22⟩,⟨4,1,2,-1,-1,[42],0,0,21⟩,⟨4,0,3,-1,-1,[43],0,0,19⟩,⟨37,4,-1,-1,-1,[],0,0,11⟩,⟨20,5,-1,-1,-1,[],0,0,11⟩,⟨43,6,-1,-1,-1,[],0,0,10⟩,⟨50,-1,7,-1,-1,[109,97,105,110],0,1,0⟩,⟨20,8,-1,-1,-1,[],0,0,0⟩],types0,9⟩
def aw2_v : Tre := ⟨[⟨1,-1,-1,-1,-1,[],1,0,19⟩,⟨1,-1,-1,-1,-1,[],2,0,22⟩,⟨1,-1,-1,-1,-1,[],3,0,24⟩,⟨4,1,2,-1,-1,[42],0,0,23⟩,⟨4,0,3,-1,-1,[43],0,0,20⟩,⟨37,4,-1,-1,-1,[],0,0,11⟩,⟨20,5,-1,-1,-1,[],0,0,11⟩,⟨43,6,-1,-1,-1,[],0,0,10⟩,⟨50,-1,7,-1,-1,[109,97,105,110],0,1,0⟩,⟨20,8,-1,-1,-1,[],0,0,0⟩],types0,9⟩
theorem aw1_tv : aw1_t = aw1_v := by kernel_rfl
theorem aw2_tv : aw2_t = aw2_v := by kernel_rfl
def atN (t : Tre) (n : Int) : Nde := if n < 0 then ⟨0,0,0,0,0,[],0,0,0⟩ else if (t.nodes.length : Nat) ≤ n then ⟨0,0,0,0,0,[],0,0,0⟩ else t.nodes.getD n.toNat d5
theorem at_v (n : Int) (t : Tre) : Tryz.m40 n t = some ((atN t n,()),((t,()),())) := by
 rw [Tryz.m40_eq]
 unfold atN
 by_cases h : n < 0
 ·rw [if_pos (decide_eq_true h),if_pos h]
 ·rw [if_neg (by simpa using h),if_neg h]
  by_cases h2 : ((t.nodes.length : Nat) : Int) ≤ n
  ·rw [if_pos (decide_eq_true h2),if_pos h2]
  ·rw [if_neg (fun hh => h2 (of_decide_eq_true hh)),if_neg h2,if_pos (decide_eq_true (show (0 : Int) ≤ n ∧ n < ((t.nodes.length : Nat) : Int) by omega))]
theorem sm0 : Tryz.m22_4 aw1_v.nodes 10 0 aw1_v aw2_v = Tryz.m22_4 aw1_v.nodes 10 1 aw1_v aw2_v := (Tryz.m22_4_eq _ _ _ _ _).trans (by kernel_rfl)
theorem sm1 : Tryz.m22_4 aw1_v.nodes 10 1 aw1_v aw2_v = Tryz.m22_4 aw1_v.nodes 10 2 aw1_v aw2_v := (Tryz.m22_4_eq _ _ _ _ _).trans (by kernel_rfl)
theorem sm2 : Tryz.m22_4 aw1_v.nodes 10 2 aw1_v aw2_v = Tryz.m22_4 aw1_v.nodes 10 3 aw1_v aw2_v := (Tryz.m22_4_eq _ _ _ _ _).trans (by kernel_rfl)
theorem sm3 : Tryz.m22_4 aw1_v.nodes 10 3 aw1_v aw2_v = Tryz.m22_4 aw1_v.nodes 10 4 aw1_v aw2_v := (Tryz.m22_4_eq _ _ _ _ _).trans (by kernel_rfl)
theorem sm4 : Tryz.m22_4 aw1_v.nodes 10 4 aw1_v aw2_v = Tryz.m22_4 aw1_v.nodes 10 5 aw1_v aw2_v := (Tryz.m22_4_eq _ _ _ _ _).trans (by kernel_rfl)
theorem sm5 : Tryz.m22_4 aw1_v.nodes 10 5 aw1_v aw2_v = Tryz.m22_4 aw1_v.nodes 10 6 aw1_v aw2_v := (Tryz.m22_4_eq _ _ _ _ _).trans (by kernel_rfl)
theorem sm6 : Tryz.m22_4 aw1_v.nodes 10 6 aw1_v aw2_v = Tryz.m22_4 aw1_v.nodes 10 7 aw1_v aw2_v := (Tryz.m22_4_eq _ _ _ _ _).trans (by kernel_rfl)
theorem sm7 : Tryz.m22_4 aw1_v.nodes 10 7 aw1_v aw2_v = Tryz.m22_4 aw1_v.nodes 10 8 aw1_v aw2_v := (Tryz.m22_4_eq _ _ _ _ _).trans (by kernel_rfl)
theorem sm8 : Tryz.m22_4 aw1_v.nodes 10 8 aw1_v aw2_v = Tryz.m22_4 aw1_v.nodes 10 9 aw1_v aw2_v := (Tryz.m22_4_eq _ _ _ _ _).trans (by kernel_rfl)
theorem sm9 : Tryz.m22_4 aw1_v.nodes 10 9 aw1_v aw2_v = Tryz.m22_4 aw1_v.nodes 10 10 aw1_v aw2_v := (Tryz.m22_4_eq _ _ _ _ _).trans (by kernel_rfl)
theorem sm10 : Tryz.m22_4 aw1_v.nodes 10 10 aw1_v aw2_v = Tryz.m22_12 4 0 aw1_v aw2_v := (Tryz.m22_4_eq _ _ _ _ _).trans (by kernel_rfl)
theorem st0 : Tryz.m22_12 4 0 aw1_v aw2_v = Tryz.m22_12 4 1 aw1_v aw2_v := (Tryz.m22_12_eq _ _ _ _).trans (by kernel_rfl)
theorem st1 : Tryz.m22_12 4 1 aw1_v aw2_v = Tryz.m22_12 4 2 aw1_v aw2_v := (Tryz.m22_12_eq _ _ _ _).trans (by kernel_rfl)
theorem st2 : Tryz.m22_12 4 2 aw1_v aw2_v = Tryz.m22_12 4 3 aw1_v aw2_v := (Tryz.m22_12_eq _ _ _ _).trans (by kernel_rfl)
theorem st3 : Tryz.m22_12 4 3 aw1_v aw2_v = Tryz.m22_12 4 4 aw1_v aw2_v := (Tryz.m22_12_eq _ _ _ _).trans (by kernel_rfl)
theorem st4 : Tryz.m22_12 4 4 aw1_v aw2_v = some ((true,()),()) := (Tryz.m22_12_eq _ _ _ _).trans (by kernel_rfl)
theorem aw_same : Tryz.m22 aw1_t aw2_t = some ((true,()),()) := by
 rw [aw1_tv,aw2_tv]
 have h : Tryz.m22 aw1_v aw2_v = Tryz.m22_4 aw1_v.nodes 10 0 aw1_v aw2_v := (Tryz.m22_eq _ _).trans (by kernel_rfl)
 rw [h,sm0,sm1,sm2,sm3,sm4,sm5,sm6,sm7,sm8,sm9,sm10,st0,st1,st2,st3,st4]
theorem sb0 : Tryz.m23_3 aw1_v.nodes 10 0 aw1_v = Tryz.m23_3 aw1_v.nodes 10 1 aw1_v := by
 rw [Tryz.m23_3_eq]
 simp only [at_v,Option.bind_some]
 kernel_rfl
theorem sb1 : Tryz.m23_3 aw1_v.nodes 10 1 aw1_v = Tryz.m23_3 aw1_v.nodes 10 2 aw1_v := by
 rw [Tryz.m23_3_eq]
 simp only [at_v,Option.bind_some]
 kernel_rfl
theorem sb2 : Tryz.m23_3 aw1_v.nodes 10 2 aw1_v = Tryz.m23_3 aw1_v.nodes 10 3 aw1_v := by
 rw [Tryz.m23_3_eq]
 simp only [at_v,Option.bind_some]
 kernel_rfl
theorem sb3 : Tryz.m23_3 aw1_v.nodes 10 3 aw1_v = Tryz.m23_3 aw1_v.nodes 10 4 aw1_v := by
 rw [Tryz.m23_3_eq]
 simp only [at_v,Option.bind_some]
 kernel_rfl
theorem sb4 : Tryz.m23_3 aw1_v.nodes 10 4 aw1_v = Tryz.m23_3 aw1_v.nodes 10 5 aw1_v := by
 rw [Tryz.m23_3_eq]
 simp only [at_v,Option.bind_some]
 kernel_rfl
theorem sb5 : Tryz.m23_3 aw1_v.nodes 10 5 aw1_v = some ((true,()),()) := by
 rw [Tryz.m23_3_eq]
 simp only [at_v,Option.bind_some]
 kernel_rfl
theorem aw_bound : Tryz.m23 aw1_t = some ((true,()),()) := by
 rw [aw1_tv]
 have h : Tryz.m23 aw1_v = Tryz.m23_3 aw1_v.nodes 10 0 aw1_v := (Tryz.m23_eq _).trans (by kernel_rfl)
 rw [h,sb0,sb1,sb2,sb3,sb4,sb5]
theorem awake_v : Tryz.m9 = some ((true,()),()) := by
 have h1 := r_read [105,110,116,32,109,97,105,110,40,41,123,114,101,116,117,114,110,32,49,43,50,42,51,59,125]
 have h2 := r_read [105,110,116,32,109,97,105,110,40,41,123,114,101,116,117,114,110,32,40,49,43,40,50,42,51,41,41,59,125]
 rw [aw1_read] at h1
 rw [aw2_read] at h2
 rw [Tryz.m9_eq]
 refine (ob h1).trans ?_
 refine (ob h2).trans ?_
 refine (if_pos (decide_eq_true aw1_e)).trans ?_
 refine (if_pos (decide_eq_true aw2_e)).trans ?_
 refine (ob aw_same).trans ?_
 refine (if_pos rfl).trans ?_
 exact (ob aw_bound).trans rfl
end Go.Proofs.TR
