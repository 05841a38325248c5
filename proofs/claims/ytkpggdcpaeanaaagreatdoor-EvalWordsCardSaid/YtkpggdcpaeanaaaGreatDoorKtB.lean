/-
 Contracts whose models the kernel can run. Written by a program.
-/
import Derived.Test.YtkpggdcpaeanaaaGreatDoorMr
import Derived.Test.YtkpggdcpaeanaaaGreatDoorMq
import Derived.Test.YtkpggdcpaeanaaaGreatDoorMu
set_option maxRecDepth 100000
set_option maxHeartbeats 4000000
namespace Go.Proofs.Tryz
open Go Go.En
noncomputable def m163.KE : Env En.Dop.D4 := envOf prog 163 tb [] m163.p
noncomputable def m163.Kc : Ctr En.Dop.D4 := ⟨163,m163.p.bn,m163.p.sp,m163.p.rs,m163.p.flat,.opt (m163.KE.runF 3000 1000 m163.p.sp)⟩
theorem m163.Kh : m163.Kc.Holds prog := fun_ctrF 3000 1000 tbOk hct_nil m163.ok
noncomputable def m193.KE : Env En.Dop.D4 := envOf prog 193 tb [m179.Kc] m193.p
noncomputable def m193.Kc : Ctr En.Dop.D4 := ⟨193,m193.p.bn,m193.p.sp,m193.p.rs,m193.p.flat,.opt (m193.KE.runF 3000 1000 m193.p.sp)⟩
theorem m193.Kh : m193.Kc.Holds prog := fun_ctrF 3000 1000 tbOk (hct_cons m179.Kh hct_nil) m193.ok
noncomputable def m159.KE : Env En.Dop.D4 := envOf prog 159 tb [m163.Kc,m193.Kc] m159.p
noncomputable def m159.Kc : Ctr En.Dop.D4 := ⟨159,m159.p.bn,m159.p.sp,m159.p.rs,m159.p.flat,.opt (m159.KE.runF 3000 1000 m159.p.sp)⟩
theorem m159.Kh : m159.Kc.Holds prog := fun_ctrF 3000 1000 tbOk (hct_cons m163.Kh (hct_cons m193.Kh hct_nil)) m159.ok
noncomputable def g124.Kstep (r : g124.T) : g124.T := ((envOf prog 124 tb (g124.ct r ++ [m163.Kc]) m124.p).runF 3000 1000 m124.p.sp,())
noncomputable def g124.KR (n : Nat) : g124.T := Nat.rec (motive := fun _ => g124.T) (fun _ => none,()) (fun _ r => g124.Kstep r) n
noncomputable def m124.KR (n : Nat) : ((Unit × Int × Unit) × (CT × Unit)) → Option ((Int × Bool × Unit) × (CT × Unit)) := (g124.KR n).1
noncomputable def m124.Kc (n : Nat) : Ctr En.Dop.D4 := ⟨124,m124.p.bn,m124.p.sp,m124.p.rs,m124.p.flat,.opt (m124.KR n)⟩
noncomputable def m124.Kcf : Ctr En.Dop.D4 := m124.Kc FU
noncomputable def g124.Kcs (n : Nat) : List (Ctr En.Dop.D4) := [m124.Kc n]
theorem g124.Kall : ∀ n,(m124.Kc n).Holds prog ∧ True
 | 0 => ⟨ctr_none tbOk m124.ok,trivial⟩
 | n + 1 => by
  obtain ⟨h0,_⟩ := g124.Kall n
  have hh : ∀ c ∈ g124.Kcs n,c.Holds prog := (hct_cons h0 hct_nil)
  exact ⟨ctr_eq (fun_ctrF 3000 1000 tbOk (hct_app hh (hct_cons m163.Kh hct_nil)) m124.ok) (by kernel_rfl),trivial⟩
theorem m124.Khf : m124.Kcf.Holds prog := (g124.Kall FU).1
noncomputable def m160.KE : Env En.Dop.D4 := envOf prog 160 tb [m163.Kc,m124.Kcf,m193.Kc] m160.p
noncomputable def m160.Kc : Ctr En.Dop.D4 := ⟨160,m160.p.bn,m160.p.sp,m160.p.rs,m160.p.flat,.opt (m160.KE.runF 3000 1000 m160.p.sp)⟩
theorem m160.Kh : m160.Kc.Holds prog := fun_ctrF 3000 1000 tbOk (hct_cons m163.Kh (hct_cons m124.Khf (hct_cons m193.Kh hct_nil))) m160.ok
noncomputable def m161.KE : Env En.Dop.D4 := envOf prog 161 tb [m193.Kc] m161.p
noncomputable def m161.Kc : Ctr En.Dop.D4 := ⟨161,m161.p.bn,m161.p.sp,m161.p.rs,m161.p.flat,.opt (m161.KE.runF 3000 1000 m161.p.sp)⟩
theorem m161.Kh : m161.Kc.Holds prog := fun_ctrF 3000 1000 tbOk (hct_cons m193.Kh hct_nil) m161.ok
noncomputable def m128.KE : Env En.Dop.D4 := envOf prog 128 tb [m163.Kc] m128.p
noncomputable def m128.Kc : Ctr En.Dop.D4 := ⟨128,m128.p.bn,m128.p.sp,m128.p.rs,m128.p.flat,.opt (m128.KE.runF 3000 1000 m128.p.sp)⟩
theorem m128.Kh : m128.Kc.Holds prog := fun_ctrF 3000 1000 tbOk (hct_cons m163.Kh hct_nil) m128.ok
noncomputable def m248.KE : Env En.Dop.D4 := envOf prog 248 tb [m163.Kc,m124.Kcf] m248.p
noncomputable def m248.Kc : Ctr En.Dop.D4 := ⟨248,m248.p.bn,m248.p.sp,m248.p.rs,m248.p.flat,.opt (m248.KE.runF 3000 1000 m248.p.sp)⟩
theorem m248.Kh : m248.Kc.Holds prog := fun_ctrF 3000 1000 tbOk (hct_cons m163.Kh (hct_cons m124.Khf hct_nil)) m248.ok
noncomputable def m74.KE : Env En.Dop.D4 := envOf prog 74 tb [] m74.p
noncomputable def m74.Kc : Ctr En.Dop.D4 := ⟨74,m74.p.bn,m74.p.sp,m74.p.rs,m74.p.flat,.opt (m74.KE.runF 3000 1000 m74.p.sp)⟩
theorem m74.Kh : m74.Kc.Holds prog := fun_ctrF 3000 1000 tbOk hct_nil m74.ok
noncomputable def m123.KE : Env En.Dop.D4 := envOf prog 123 tb [m74.Kc] m123.p
noncomputable def m123.Kc : Ctr En.Dop.D4 := ⟨123,m123.p.bn,m123.p.sp,m123.p.rs,m123.p.flat,.opt (m123.KE.runF 3000 1000 m123.p.sp)⟩
theorem m123.Kh : m123.Kc.Holds prog := fun_ctrF 3000 1000 tbOk (hct_cons m74.Kh hct_nil) m123.ok
noncomputable def m127.KE : Env En.Dop.D4 := envOf prog 127 tb [m163.Kc] m127.p
noncomputable def m127.Kc : Ctr En.Dop.D4 := ⟨127,m127.p.bn,m127.p.sp,m127.p.rs,m127.p.flat,.opt (m127.KE.runF 3000 1000 m127.p.sp)⟩
theorem m127.Kh : m127.Kc.Holds prog := fun_ctrF 3000 1000 tbOk (hct_cons m163.Kh hct_nil) m127.ok
noncomputable def m125.KE : Env En.Dop.D4 := envOf prog 125 tb [m127.Kc] m125.p
noncomputable def m125.Kc : Ctr En.Dop.D4 := ⟨125,m125.p.bn,m125.p.sp,m125.p.rs,m125.p.flat,.opt (m125.KE.runF 3000 1000 m125.p.sp)⟩
theorem m125.Kh : m125.Kc.Holds prog := fun_ctrF 3000 1000 tbOk (hct_cons m127.Kh hct_nil) m125.ok
noncomputable def m228.KE : Env En.Dop.D4 := envOf prog 228 tb [m163.Kc,m124.Kcf] m228.p
noncomputable def m228.Kc : Ctr En.Dop.D4 := ⟨228,m228.p.bn,m228.p.sp,m228.p.rs,m228.p.flat,.opt (m228.KE.runF 3000 1000 m228.p.sp)⟩
theorem m228.Kh : m228.Kc.Holds prog := fun_ctrF 3000 1000 tbOk (hct_cons m163.Kh (hct_cons m124.Khf hct_nil)) m228.ok
noncomputable def m242.KE : Env En.Dop.D4 := envOf prog 242 tb [m127.Kc] m242.p
noncomputable def m242.Kc : Ctr En.Dop.D4 := ⟨242,m242.p.bn,m242.p.sp,m242.p.rs,m242.p.flat,.opt (m242.KE.runF 3000 1000 m242.p.sp)⟩
theorem m242.Kh : m242.Kc.Holds prog := fun_ctrF 3000 1000 tbOk (hct_cons m127.Kh hct_nil) m242.ok
noncomputable def m240.KE : Env En.Dop.D4 := envOf prog 240 tb [m127.Kc] m240.p
noncomputable def m240.Kc : Ctr En.Dop.D4 := ⟨240,m240.p.bn,m240.p.sp,m240.p.rs,m240.p.flat,.opt (m240.KE.runF 3000 1000 m240.p.sp)⟩
theorem m240.Kh : m240.Kc.Holds prog := fun_ctrF 3000 1000 tbOk (hct_cons m127.Kh hct_nil) m240.ok
noncomputable def m132.KE : Env En.Dop.D4 := envOf prog 132 tb [] m132.p
noncomputable def m132.Kc : Ctr En.Dop.D4 := ⟨132,m132.p.bn,m132.p.sp,m132.p.rs,m132.p.flat,.opt (m132.KE.runF 3000 1000 m132.p.sp)⟩
theorem m132.Kh : m132.Kc.Holds prog := fun_ctrF 3000 1000 tbOk hct_nil m132.ok
noncomputable def m126.KE : Env En.Dop.D4 := envOf prog 126 tb [] m126.p
noncomputable def m126.Kc : Ctr En.Dop.D4 := ⟨126,m126.p.bn,m126.p.sp,m126.p.rs,m126.p.flat,.opt (m126.KE.runF 3000 1000 m126.p.sp)⟩
theorem m126.Kh : m126.Kc.Holds prog := fun_ctrF 3000 1000 tbOk hct_nil m126.ok
noncomputable def m165.KE : Env En.Dop.D4 := envOf prog 165 tb [m126.Kc,m132.Kc] m165.p
noncomputable def m165.Kc : Ctr En.Dop.D4 := ⟨165,m165.p.bn,m165.p.sp,m165.p.rs,m165.p.flat,.opt (m165.KE.runF 3000 1000 m165.p.sp)⟩
theorem m165.Kh : m165.Kc.Holds prog := fun_ctrF 3000 1000 tbOk (hct_cons m126.Kh (hct_cons m132.Kh hct_nil)) m165.ok
noncomputable def m134.KE : Env En.Dop.D4 := envOf prog 134 tb [m132.Kc] m134.p
noncomputable def m134.Kc : Ctr En.Dop.D4 := ⟨134,m134.p.bn,m134.p.sp,m134.p.rs,m134.p.flat,.opt (m134.KE.runF 3000 1000 m134.p.sp)⟩
theorem m134.Kh : m134.Kc.Holds prog := fun_ctrF 3000 1000 tbOk (hct_cons m132.Kh hct_nil) m134.ok
noncomputable def m164.KE : Env En.Dop.D4 := envOf prog 164 tb [m123.Kc] m164.p
noncomputable def m164.Kc : Ctr En.Dop.D4 := ⟨164,m164.p.bn,m164.p.sp,m164.p.rs,m164.p.flat,.opt (m164.KE.runF 3000 1000 m164.p.sp)⟩
theorem m164.Kh : m164.Kc.Holds prog := fun_ctrF 3000 1000 tbOk (hct_cons m123.Kh hct_nil) m164.ok
noncomputable def m238.KE : Env En.Dop.D4 := envOf prog 238 tb [m159.Kc] m238.p
noncomputable def m238.Kc : Ctr En.Dop.D4 := ⟨238,m238.p.bn,m238.p.sp,m238.p.rs,m238.p.flat,.opt (m238.KE.runF 3000 1000 m238.p.sp)⟩
theorem m238.Kh : m238.Kc.Holds prog := fun_ctrF 3000 1000 tbOk (hct_cons m159.Kh hct_nil) m238.ok
noncomputable def m239.KE : Env En.Dop.D4 := envOf prog 239 tb [m132.Kc] m239.p
noncomputable def m239.Kc : Ctr En.Dop.D4 := ⟨239,m239.p.bn,m239.p.sp,m239.p.rs,m239.p.flat,.opt (m239.KE.runF 3000 1000 m239.p.sp)⟩
theorem m239.Kh : m239.Kc.Holds prog := fun_ctrF 3000 1000 tbOk (hct_cons m132.Kh hct_nil) m239.ok
noncomputable def m217.KE : Env En.Dop.D4 := envOf prog 217 tb [m127.Kc,m228.Kc,m238.Kc,m239.Kc] m217.p
noncomputable def m217.Kc : Ctr En.Dop.D4 := ⟨217,m217.p.bn,m217.p.sp,m217.p.rs,m217.p.flat,.opt (m217.KE.runF 3000 1000 m217.p.sp)⟩
theorem m217.Kh : m217.Kc.Holds prog := fun_ctrF 3000 1000 tbOk (hct_cons m127.Kh (hct_cons m228.Kh (hct_cons m238.Kh (hct_cons m239.Kh hct_nil)))) m217.ok
noncomputable def m133.KE : Env En.Dop.D4 := envOf prog 133 tb [m132.Kc,m165.Kc] m133.p
noncomputable def m133.Kc : Ctr En.Dop.D4 := ⟨133,m133.p.bn,m133.p.sp,m133.p.rs,m133.p.flat,.opt (m133.KE.runF 3000 1000 m133.p.sp)⟩
theorem m133.Kh : m133.Kc.Holds prog := fun_ctrF 3000 1000 tbOk (hct_cons m132.Kh (hct_cons m165.Kh hct_nil)) m133.ok
noncomputable def m229.KE : Env En.Dop.D4 := envOf prog 229 tb [m132.Kc] m229.p
noncomputable def m229.Kc : Ctr En.Dop.D4 := ⟨229,m229.p.bn,m229.p.sp,m229.p.rs,m229.p.flat,.opt (m229.KE.runF 3000 1000 m229.p.sp)⟩
theorem m229.Kh : m229.Kc.Holds prog := fun_ctrF 3000 1000 tbOk (hct_cons m132.Kh hct_nil) m229.ok
noncomputable def m230.KE : Env En.Dop.D4 := envOf prog 230 tb [m132.Kc] m230.p
noncomputable def m230.Kc : Ctr En.Dop.D4 := ⟨230,m230.p.bn,m230.p.sp,m230.p.rs,m230.p.flat,.opt (m230.KE.runF 3000 1000 m230.p.sp)⟩
theorem m230.Kh : m230.Kc.Holds prog := fun_ctrF 3000 1000 tbOk (hct_cons m132.Kh hct_nil) m230.ok
noncomputable def m131.KE : Env En.Dop.D4 := envOf prog 131 tb [] m131.p
noncomputable def m131.Kc : Ctr En.Dop.D4 := ⟨131,m131.p.bn,m131.p.sp,m131.p.rs,m131.p.flat,.opt (m131.KE.runF 3000 1000 m131.p.sp)⟩
theorem m131.Kh : m131.Kc.Holds prog := fun_ctrF 3000 1000 tbOk hct_nil m131.ok
noncomputable def m195.KE : Env En.Dop.D4 := envOf prog 195 tb [m127.Kc,m125.Kc,m228.Kc,m128.Kc,m123.Kc,m229.Kc] m195.p
noncomputable def m195.Kc : Ctr En.Dop.D4 := ⟨195,m195.p.bn,m195.p.sp,m195.p.rs,m195.p.flat,.opt (m195.KE.runF 3000 1000 m195.p.sp)⟩
theorem m195.Kh : m195.Kc.Holds prog := fun_ctrF 3000 1000 tbOk (hct_cons m127.Kh (hct_cons m125.Kh (hct_cons m228.Kh (hct_cons m128.Kh (hct_cons m123.Kh (hct_cons m229.Kh hct_nil)))))) m195.ok
noncomputable def m243.KE : Env En.Dop.D4 := envOf prog 243 tb [m132.Kc] m243.p
noncomputable def m243.Kc : Ctr En.Dop.D4 := ⟨243,m243.p.bn,m243.p.sp,m243.p.rs,m243.p.flat,.opt (m243.KE.runF 3000 1000 m243.p.sp)⟩
theorem m243.Kh : m243.Kc.Holds prog := fun_ctrF 3000 1000 tbOk (hct_cons m132.Kh hct_nil) m243.ok
noncomputable def m244.KE : Env En.Dop.D4 := envOf prog 244 tb [m165.Kc,m243.Kc] m244.p
noncomputable def m244.Kc : Ctr En.Dop.D4 := ⟨244,m244.p.bn,m244.p.sp,m244.p.rs,m244.p.flat,.opt (m244.KE.runF 3000 1000 m244.p.sp)⟩
theorem m244.Kh : m244.Kc.Holds prog := fun_ctrF 3000 1000 tbOk (hct_cons m165.Kh (hct_cons m243.Kh hct_nil)) m244.ok
noncomputable def m121.KE : Env En.Dop.D4 := envOf prog 121 tb [m159.Kc,m160.Kc,m161.Kc,m123.Kc] m121.p
noncomputable def m121.Kc : Ctr En.Dop.D4 := ⟨121,m121.p.bn,m121.p.sp,m121.p.rs,m121.p.flat,.opt (m121.KE.runF 3000 1000 m121.p.sp)⟩
theorem m121.Kh : m121.Kc.Holds prog := fun_ctrF 3000 1000 tbOk (hct_cons m159.Kh (hct_cons m160.Kh (hct_cons m161.Kh (hct_cons m123.Kh hct_nil)))) m121.ok
noncomputable def m225.KE : Env En.Dop.D4 := envOf prog 225 tb [m127.Kc,m123.Kc,m228.Kc,m124.Kcf,m217.Kc] m225.p
noncomputable def m225.Kc : Ctr En.Dop.D4 := ⟨225,m225.p.bn,m225.p.sp,m225.p.rs,m225.p.flat,.opt (m225.KE.runF 3000 1000 m225.p.sp)⟩
theorem m225.Kh : m225.Kc.Holds prog := fun_ctrF 3000 1000 tbOk (hct_cons m127.Kh (hct_cons m123.Kh (hct_cons m228.Kh (hct_cons m124.Khf (hct_cons m217.Kh hct_nil))))) m225.ok
noncomputable def m224.KE : Env En.Dop.D4 := envOf prog 224 tb [m125.Kc,m240.Kc,m127.Kc,m123.Kc,m132.Kc] m224.p
noncomputable def m224.Kc : Ctr En.Dop.D4 := ⟨224,m224.p.bn,m224.p.sp,m224.p.rs,m224.p.flat,.opt (m224.KE.runF 3000 1000 m224.p.sp)⟩
theorem m224.Kh : m224.Kc.Holds prog := fun_ctrF 3000 1000 tbOk (hct_cons m125.Kh (hct_cons m240.Kh (hct_cons m127.Kh (hct_cons m123.Kh (hct_cons m132.Kh hct_nil))))) m224.ok
noncomputable def m246.KE : Env En.Dop.D4 := envOf prog 246 tb [m132.Kc] m246.p
noncomputable def m246.Kc : Ctr En.Dop.D4 := ⟨246,m246.p.bn,m246.p.sp,m246.p.rs,m246.p.flat,.opt (m246.KE.runF 3000 1000 m246.p.sp)⟩
theorem m246.Kh : m246.Kc.Holds prog := fun_ctrF 3000 1000 tbOk (hct_cons m132.Kh hct_nil) m246.ok
noncomputable def m196.KE : Env En.Dop.D4 := envOf prog 196 tb [m230.Kc,m132.Kc] m196.p
noncomputable def m196.Kc : Ctr En.Dop.D4 := ⟨196,m196.p.bn,m196.p.sp,m196.p.rs,m196.p.flat,.opt (m196.KE.runF 3000 1000 m196.p.sp)⟩
theorem m196.Kh : m196.Kc.Holds prog := fun_ctrF 3000 1000 tbOk (hct_cons m230.Kh (hct_cons m132.Kh hct_nil)) m196.ok
noncomputable def m241.KE : Env En.Dop.D4 := envOf prog 241 tb [] m241.p
noncomputable def m241.Kc : Ctr En.Dop.D4 := ⟨241,m241.p.bn,m241.p.sp,m241.p.rs,m241.p.flat,.opt (m241.KE.runF 3000 1000 m241.p.sp)⟩
theorem m241.Kh : m241.Kc.Holds prog := fun_ctrF 3000 1000 tbOk hct_nil m241.ok
noncomputable def m245.KE : Env En.Dop.D4 := envOf prog 245 tb [m164.Kc,m230.Kc,m134.Kc,m239.Kc] m245.p
noncomputable def m245.Kc : Ctr En.Dop.D4 := ⟨245,m245.p.bn,m245.p.sp,m245.p.rs,m245.p.flat,.opt (m245.KE.runF 3000 1000 m245.p.sp)⟩
theorem m245.Kh : m245.Kc.Holds prog := fun_ctrF 3000 1000 tbOk (hct_cons m164.Kh (hct_cons m230.Kh (hct_cons m134.Kh (hct_cons m239.Kh hct_nil)))) m245.ok
noncomputable def m219.KE : Env En.Dop.D4 := envOf prog 219 tb [m127.Kc,m241.Kc,contains.c,m242.Kc,m123.Kc,m243.Kc,m228.Kc,m165.Kc,m244.Kc,m240.Kc] m219.p
noncomputable def m219.Kc : Ctr En.Dop.D4 := ⟨219,m219.p.bn,m219.p.sp,m219.p.rs,m219.p.flat,.opt (m219.KE.runF 3000 1000 m219.p.sp)⟩
theorem m219.Kh : m219.Kc.Holds prog := fun_ctrF 3000 1000 tbOk (hct_cons m127.Kh (hct_cons m241.Kh (hct_cons contains.holds (hct_cons m242.Kh (hct_cons m123.Kh (hct_cons m243.Kh (hct_cons m228.Kh (hct_cons m165.Kh (hct_cons m244.Kh (hct_cons m240.Kh hct_nil)))))))))) m219.ok
noncomputable def m74s.KE : Env En.Dop.D4 := envOf prog 74 tb [] m74s.p
noncomputable def m74s.Kc : Ctr En.Dop.D4 := ⟨74,m74s.p.bn,m74s.p.sp,m74s.p.rs,m74s.p.flat,.opt (m74s.KE.runF 3000 1000 m74s.p.sp)⟩
theorem m74s.Kh : m74s.Kc.Holds prog := fun_ctrF 3000 1000 tbOk hct_nil m74s.ok
noncomputable def m74n.KE : Env En.Dop.D4 := envOf prog 74 tb [] m74n.p
noncomputable def m74n.Kc : Ctr En.Dop.D4 := ⟨74,m74n.p.bn,m74n.p.sp,m74n.p.rs,m74n.p.flat,.opt (m74n.KE.runF 3000 1000 m74n.p.sp)⟩
theorem m74n.Kh : m74n.Kc.Holds prog := fun_ctrF 3000 1000 tbOk hct_nil m74n.ok
noncomputable def m223.KE : Env En.Dop.D4 := envOf prog 223 tb [m165.Kc] m223.p
noncomputable def m223.Kc : Ctr En.Dop.D4 := ⟨223,m223.p.bn,m223.p.sp,m223.p.rs,m223.p.flat,.opt (m223.KE.runF 3000 1000 m223.p.sp)⟩
theorem m223.Kh : m223.Kc.Holds prog := fun_ctrF 3000 1000 tbOk (hct_cons m165.Kh hct_nil) m223.ok
noncomputable def m220_223.KE : Env En.Dop.D4 := envOf prog 220 tb [m128.Kc,m123.Kc,m245.Kc,m134.Kc,m223.Kc,m219.Kc,m125.Kc,m195.Kc,m196.Kc,m246.Kc,m164.Kc,m230.Kc] m220_223.p
noncomputable def m220_223.Kc : Ctr En.Dop.D4 := ⟨220,m220_223.p.bn,m220_223.p.sp,m220_223.p.rs,m220_223.p.flat,.opt (m220_223.KE.runF 3000 1000 m220_223.p.sp)⟩
theorem m220_223.Kh : m220_223.Kc.Holds prog := fun_ctrF 3000 1000 tbOk (hct_cons m128.Kh (hct_cons m123.Kh (hct_cons m245.Kh (hct_cons m134.Kh (hct_cons m223.Kh (hct_cons m219.Kh (hct_cons m125.Kh (hct_cons m195.Kh (hct_cons m196.Kh (hct_cons m246.Kh (hct_cons m164.Kh (hct_cons m230.Kh hct_nil)))))))))))) m220_223.ok
noncomputable def g167.Kstep (r : g167.T) : g167.T := ((envOf (S := En.Dop.D4) prog 194 tb (g167.ct r ++ [m74.Kc,m165.Kc,m216.c,m123.Kc,m134.Kc,m133.Kc,m217.Kc,m132.Kc,m219.Kc,m128.Kc,m195.Kc,m196.Kc,trimSuffix.c,m220_223.Kc,m224.Kc,m127.Kc,m125.Kc,m225.Kc,m121.Kc,m124.Kcf]) m194.p).runF 3000 1000 m194.p.sp,(envOf (S := En.Dop.D4) prog 218 tb (g167.ct r ++ [m225.Kc,m74.Kc,m216.c,m123.Kc,m133.Kc,m238.Kc,m229.Kc,m125.Kc,m240.Kc]) m218.p).runF 3000 1000 m218.p.sp,(envOf (S := En.Dop.D4) prog 167 tb (g167.ct r ++ [m128.Kc,m123.Kc]) m167.p).runF 3000 1000 m167.p.sp,(envOf (S := En.Dop.D4) prog 220 tb (g167.ct r ++ [m128.Kc,m123.Kc,m245.Kc,m134.Kc,m219.Kc,m125.Kc,m195.Kc,m196.Kc,m246.Kc,m164.Kc,m230.Kc]) m220_222.p).runF 3000 1000 m220_222.p.sp,(envOf (S := En.Dop.D4) prog 222 tb (g167.ct r ++ []) m222.p).runF 3000 1000 m222.p.sp,(envOf (S := En.Dop.D4) prog 226 tb (g167.ct r ++ [m225.Kc,m127.Kc,m123.Kc,m248.Kc,m165.Kc,m243.Kc,m217.Kc]) m226.p).runF 3000 1000 m226.p.sp,(envOf (S := En.Dop.D4) prog 227 tb (g167.ct r ++ [m123.Kc,m73.Kc,m195.Kc,m136.c,m132.Kc]) m227.p).runF 3000 1000 m227.p.sp,())
noncomputable def g167.KR (n : Nat) : g167.T := Nat.rec (motive := fun _ => g167.T) (fun _ => none,fun _ => none,fun _ => none,fun _ => none,fun _ => none,fun _ => none,fun _ => none,()) (fun _ r => g167.Kstep r) n
noncomputable def m194.KR (n : Nat) : ((Unit × Int × Unit) × (CK × CT × Unit)) → Option ((En.Dop.Val × Unit) × (CK × CT × Unit)) := (g167.KR n).1
noncomputable def m194.Kc (n : Nat) : Ctr En.Dop.D4 := ⟨194,m194.p.bn,m194.p.sp,m194.p.rs,m194.p.flat,.opt (m194.KR n)⟩
noncomputable def m194.Kcf : Ctr En.Dop.D4 := m194.Kc FU
noncomputable def m218.KR (n : Nat) : ((Unit × En.Dop.Nde × Int × Unit) × (CK × CT × Unit)) → Option ((En.Dop.Val × Unit) × (CK × CT × Unit)) := (g167.KR n).2.1
noncomputable def m218.Kc (n : Nat) : Ctr En.Dop.D4 := ⟨218,m218.p.bn,m218.p.sp,m218.p.rs,m218.p.flat,.opt (m218.KR n)⟩
noncomputable def m167.KR (n : Nat) : ((Unit × Int × Unit) × (CK × CT × Unit)) → Option ((En.Dop.Val × Unit) × (CK × CT × Unit)) := (g167.KR n).2.2.1
noncomputable def m167.Kc (n : Nat) : Ctr En.Dop.D4 := ⟨167,m167.p.bn,m167.p.sp,m167.p.rs,m167.p.flat,.opt (m167.KR n)⟩
noncomputable def m167.Kcf : Ctr En.Dop.D4 := m167.Kc FU
noncomputable def m220_222.KR (n : Nat) : ((Unit × En.Dop.Val × List UInt8 × Unit × Int × Bool × Unit) × (CK × CT × (Unit × Unit) × (En.Dop.Nde × Unit) × Unit)) → Option ((En.Dop.Val × Unit) × (CK × CT × (Unit × Unit) × (En.Dop.Nde × Unit) × Unit)) := (g167.KR n).2.2.2.1
noncomputable def m220_222.Kc (n : Nat) : Ctr En.Dop.D4 := ⟨220,m220_222.p.bn,m220_222.p.sp,m220_222.p.rs,m220_222.p.flat,.opt (m220_222.KR n)⟩
noncomputable def m222.KR (n : Nat) : ((Unit × Unit × Unit) × ((Unit × Unit) × CK × CT × (En.Dop.Nde × Unit) × Unit)) → Option ((En.Dop.Val × Unit) × ((Unit × Unit) × CK × CT × (En.Dop.Nde × Unit) × Unit)) := (g167.KR n).2.2.2.2.1
noncomputable def m222.Kc (n : Nat) : Ctr En.Dop.D4 := ⟨222,m222.p.bn,m222.p.sp,m222.p.rs,m222.p.flat,.opt (m222.KR n)⟩
noncomputable def m226.KR (n : Nat) : ((Unit × En.Dop.Nde × Int × Unit) × (CK × CT × Unit)) → Option ((En.Dop.Val × Unit) × (CK × CT × Unit)) := (g167.KR n).2.2.2.2.2.1
noncomputable def m226.Kc (n : Nat) : Ctr En.Dop.D4 := ⟨226,m226.p.bn,m226.p.sp,m226.p.rs,m226.p.flat,.opt (m226.KR n)⟩
noncomputable def m227.KR (n : Nat) : ((Unit × En.Dop.Nde × Int × Unit) × (CK × CT × Unit)) → Option ((En.Dop.Val × Unit) × (CK × CT × Unit)) := (g167.KR n).2.2.2.2.2.2.1
noncomputable def m227.Kc (n : Nat) : Ctr En.Dop.D4 := ⟨227,m227.p.bn,m227.p.sp,m227.p.rs,m227.p.flat,.opt (m227.KR n)⟩
noncomputable def g167.Kcs (n : Nat) : List (Ctr En.Dop.D4) := [m194.Kc n,m218.Kc n,m167.Kc n,m220_222.Kc n,m222.Kc n,m226.Kc n,m227.Kc n]
theorem g167.Kall : ∀ n,(m194.Kc n).Holds prog ∧ (m218.Kc n).Holds prog ∧ (m167.Kc n).Holds prog ∧ (m220_222.Kc n).Holds prog ∧ (m222.Kc n).Holds prog ∧ (m226.Kc n).Holds prog ∧ (m227.Kc n).Holds prog ∧ True
 | 0 => ⟨ctr_none tbOk m194.ok,ctr_none tbOk m218.ok,ctr_none tbOk m167.ok,ctr_none tbOk m220_222.ok,ctr_none tbOk m222.ok,ctr_none tbOk m226.ok,ctr_none tbOk m227.ok,trivial⟩
 | n + 1 => by
  obtain ⟨h0,h1,h2,h3,h4,h5,h6,_⟩ := g167.Kall n
  have hh : ∀ c ∈ g167.Kcs n,c.Holds prog := (hct_cons h0 (hct_cons h1 (hct_cons h2 (hct_cons h3 (hct_cons h4 (hct_cons h5 (hct_cons h6 hct_nil)))))))
  exact ⟨ctr_eq (fun_ctrF 3000 1000 tbOk (hct_app hh (hct_cons m74.Kh (hct_cons m165.Kh (hct_cons m216.holds (hct_cons m123.Kh (hct_cons m134.Kh (hct_cons m133.Kh (hct_cons m217.Kh (hct_cons m132.Kh (hct_cons m219.Kh (hct_cons m128.Kh (hct_cons m195.Kh (hct_cons m196.Kh (hct_cons trimSuffix.holds (hct_cons m220_223.Kh (hct_cons m224.Kh (hct_cons m127.Kh (hct_cons m125.Kh (hct_cons m225.Kh (hct_cons m121.Kh (hct_cons m124.Khf hct_nil))))))))))))))))))))) m194.ok) (by kernel_rfl),ctr_eq (fun_ctrF 3000 1000 tbOk (hct_app hh (hct_cons m225.Kh (hct_cons m74.Kh (hct_cons m216.holds (hct_cons m123.Kh (hct_cons m133.Kh (hct_cons m238.Kh (hct_cons m229.Kh (hct_cons m125.Kh (hct_cons m240.Kh hct_nil)))))))))) m218.ok) (by kernel_rfl),ctr_eq (fun_ctrF 3000 1000 tbOk (hct_app hh (hct_cons m128.Kh (hct_cons m123.Kh hct_nil))) m167.ok) (by kernel_rfl),ctr_eq (fun_ctrF 3000 1000 tbOk (hct_app hh (hct_cons m128.Kh (hct_cons m123.Kh (hct_cons m245.Kh (hct_cons m134.Kh (hct_cons m219.Kh (hct_cons m125.Kh (hct_cons m195.Kh (hct_cons m196.Kh (hct_cons m246.Kh (hct_cons m164.Kh (hct_cons m230.Kh hct_nil)))))))))))) m220_222.ok) (by kernel_rfl),ctr_eq (fun_ctrF 3000 1000 tbOk (hct_app hh hct_nil) m222.ok) (by kernel_rfl),ctr_eq (fun_ctrF 3000 1000 tbOk (hct_app hh (hct_cons m225.Kh (hct_cons m127.Kh (hct_cons m123.Kh (hct_cons m248.Kh (hct_cons m165.Kh (hct_cons m243.Kh (hct_cons m217.Kh hct_nil)))))))) m226.ok) (by kernel_rfl),ctr_eq (fun_ctrF 3000 1000 tbOk (hct_app hh (hct_cons m123.Kh (hct_cons m73.Kh (hct_cons m195.Kh (hct_cons m136.holds (hct_cons m132.Kh hct_nil)))))) m227.ok) (by kernel_rfl),trivial⟩
theorem m194.Khf : m194.Kcf.Holds prog := (g167.Kall FU).1
theorem m167.Khf : m167.Kcf.Holds prog := (g167.Kall FU).2.2.1
noncomputable def m162.KE : Env En.Dop.D4 := envOf prog 162 tb [] m162.p
noncomputable def m162.Kc : Ctr En.Dop.D4 := ⟨162,m162.p.bn,m162.p.sp,m162.p.rs,m162.p.flat,.opt (m162.KE.runF 3000 1000 m162.p.sp)⟩
theorem m162.Kh : m162.Kc.Holds prog := fun_ctrF 3000 1000 tbOk hct_nil m162.ok
noncomputable def m122.KE : Env En.Dop.D4 := envOf prog 122 tb [m161.Kc,m124.Kcf,m162.Kc] m122.p
noncomputable def m122.Kc : Ctr En.Dop.D4 := ⟨122,m122.p.bn,m122.p.sp,m122.p.rs,m122.p.flat,.opt (m122.KE.runF 3000 1000 m122.p.sp)⟩
theorem m122.Kh : m122.Kc.Holds prog := fun_ctrF 3000 1000 tbOk (hct_cons m161.Kh (hct_cons m124.Khf (hct_cons m162.Kh hct_nil))) m122.ok
noncomputable def m130.KE : Env En.Dop.D4 := envOf prog 130 tb [m124.Kcf,m128.Kc,m123.Kc,m74n.Kc] m130.p
noncomputable def m130.Kc : Ctr En.Dop.D4 := ⟨130,m130.p.bn,m130.p.sp,m130.p.rs,m130.p.flat,.opt (m130.KE.runF 3000 1000 m130.p.sp)⟩
theorem m130.Kh : m130.Kc.Holds prog := fun_ctrF 3000 1000 tbOk (hct_cons m124.Khf (hct_cons m128.Kh (hct_cons m123.Kh (hct_cons m74n.Kh hct_nil)))) m130.ok
noncomputable def m74h.KE : Env En.Dop.D4 := envOf prog 74 tb [] m74h.p
noncomputable def m74h.Kc : Ctr En.Dop.D4 := ⟨74,m74h.p.bn,m74h.p.sp,m74h.p.rs,m74h.p.flat,.opt (m74h.KE.runF 3000 1000 m74h.p.sp)⟩
theorem m74h.Kh : m74h.Kc.Holds prog := fun_ctrF 3000 1000 tbOk hct_nil m74h.ok
noncomputable def m123h.KE : Env En.Dop.D4 := envOf prog 123 tb [m74h.Kc] m123h.p
noncomputable def m123h.Kc : Ctr En.Dop.D4 := ⟨123,m123h.p.bn,m123h.p.sp,m123h.p.rs,m123h.p.flat,.opt (m123h.KE.runF 3000 1000 m123h.p.sp)⟩
theorem m123h.Kh : m123h.Kc.Holds prog := fun_ctrF 3000 1000 tbOk (hct_cons m74h.Kh hct_nil) m123h.ok
noncomputable def m121h.KE : Env En.Dop.D4 := envOf prog 121 tb [m159.Kc,m160.Kc,m161.Kc,m123h.Kc] m121h.p
noncomputable def m121h.Kc : Ctr En.Dop.D4 := ⟨121,m121h.p.bn,m121h.p.sp,m121h.p.rs,m121h.p.flat,.opt (m121h.KE.runF 3000 1000 m121h.p.sp)⟩
theorem m121h.Kh : m121h.Kc.Holds prog := fun_ctrF 3000 1000 tbOk (hct_cons m159.Kh (hct_cons m160.Kh (hct_cons m161.Kh (hct_cons m123h.Kh hct_nil)))) m121h.ok
noncomputable def m75h.KE : Env En.Dop.D4 := envOf prog 75 tb [m73.Kc,m74h.Kc,m121h.Kc,m122.Kc,m123h.Kc] m75h.p
noncomputable def m75h.Kc : Ctr En.Dop.D4 := ⟨75,m75h.p.bn,m75h.p.sp,m75h.p.rs,m75h.p.flat,.opt (m75h.KE.runF 3000 1000 m75h.p.sp)⟩
theorem m75h.Kh : m75h.Kc.Holds prog := fun_ctrF 3000 1000 tbOk (hct_cons m73.Kh (hct_cons m74h.Kh (hct_cons m121h.Kh (hct_cons m122.Kh (hct_cons m123h.Kh hct_nil))))) m75h.ok
noncomputable def m127h.KE : Env En.Dop.D4 := envOf prog 127 tb [m163.Kc] m127h.p
noncomputable def m127h.Kc : Ctr En.Dop.D4 := ⟨127,m127h.p.bn,m127h.p.sp,m127h.p.rs,m127h.p.flat,.opt (m127h.KE.runF 3000 1000 m127h.p.sp)⟩
theorem m127h.Kh : m127h.Kc.Holds prog := fun_ctrF 3000 1000 tbOk (hct_cons m163.Kh hct_nil) m127h.ok
noncomputable def m125h.KE : Env En.Dop.D4 := envOf prog 125 tb [m127h.Kc] m125h.p
noncomputable def m125h.Kc : Ctr En.Dop.D4 := ⟨125,m125h.p.bn,m125h.p.sp,m125h.p.rs,m125h.p.flat,.opt (m125h.KE.runF 3000 1000 m125h.p.sp)⟩
theorem m125h.Kh : m125h.Kc.Holds prog := fun_ctrF 3000 1000 tbOk (hct_cons m127h.Kh hct_nil) m125h.ok
noncomputable def m76h.KE : Env En.Dop.D4 := envOf prog 76 tb [m121h.Kc,m124.Kcf,m123h.Kc,m125h.Kc,m126.Kc,m127h.Kc] m76h.p
noncomputable def m76h.Kc : Ctr En.Dop.D4 := ⟨76,m76h.p.bn,m76h.p.sp,m76h.p.rs,m76h.p.flat,.opt (m76h.KE.runF 3000 1000 m76h.p.sp)⟩
theorem m76h.Kh : m76h.Kc.Holds prog := fun_ctrF 3000 1000 tbOk (hct_cons m121h.Kh (hct_cons m124.Khf (hct_cons m123h.Kh (hct_cons m125h.Kh (hct_cons m126.Kh (hct_cons m127h.Kh hct_nil)))))) m76h.ok
noncomputable def m77h.KE : Env En.Dop.D4 := envOf prog 77 tb [m121h.Kc,m73.Kc,m123h.Kc,m74h.Kc,m128.Kc] m77h.p
noncomputable def m77h.Kc : Ctr En.Dop.D4 := ⟨77,m77h.p.bn,m77h.p.sp,m77h.p.rs,m77h.p.flat,.opt (m77h.KE.runF 3000 1000 m77h.p.sp)⟩
theorem m77h.Kh : m77h.Kc.Holds prog := fun_ctrF 3000 1000 tbOk (hct_cons m121h.Kh (hct_cons m73.Kh (hct_cons m123h.Kh (hct_cons m74h.Kh (hct_cons m128.Kh hct_nil))))) m77h.ok
noncomputable def g129.Kstep (r : g129.T) : g129.T := ((envOf (S := En.Dop.D4) prog 129 tb (g129.ct r ++ [m74s.Kc]) m129.p).runF 3000 1000 m129.p.sp,())
noncomputable def g129.KR (n : Nat) : g129.T := Nat.rec (motive := fun _ => g129.T) (fun _ => none,()) (fun _ r => g129.Kstep r) n
noncomputable def m129.KR (n : Nat) : ((Unit × Int × Unit) × (CK × CT × Unit)) → Option (Unit × (CK × CT × Unit)) := (g129.KR n).1
noncomputable def m129.Kc (n : Nat) : Ctr En.Dop.D4 := ⟨129,m129.p.bn,m129.p.sp,m129.p.rs,m129.p.flat,.opt (m129.KR n)⟩
noncomputable def m129.Kcf : Ctr En.Dop.D4 := m129.Kc FU
noncomputable def g129.Kcs (n : Nat) : List (Ctr En.Dop.D4) := [m129.Kc n]
theorem g129.Kall : ∀ n,(m129.Kc n).Holds prog ∧ True
 | 0 => ⟨ctr_none tbOk m129.ok,trivial⟩
 | n + 1 => by
  obtain ⟨h0,_⟩ := g129.Kall n
  have hh : ∀ c ∈ g129.Kcs n,c.Holds prog := (hct_cons h0 hct_nil)
  exact ⟨ctr_eq (fun_ctrF 3000 1000 tbOk (hct_app hh (hct_cons m74s.Kh hct_nil)) m129.ok) (by kernel_rfl),trivial⟩
theorem m129.Khf : m129.Kcf.Holds prog := (g129.Kall FU).1
noncomputable def m166.KE : Env En.Dop.D4 := envOf prog 166 tb [m194.Kcf] m166.p
noncomputable def m166.Kc : Ctr En.Dop.D4 := ⟨166,m166.p.bn,m166.p.sp,m166.p.rs,m166.p.flat,.opt (m166.KE.runF 3000 1000 m166.p.sp)⟩
theorem m166.Kh : m166.Kc.Holds prog := fun_ctrF 3000 1000 tbOk (hct_cons m194.Khf hct_nil) m166.ok
noncomputable def m169.KE : Env En.Dop.D4 := envOf prog 169 tb [m131.Kc,m167.Kcf,m123.Kc,m195.Kc] m169.p
noncomputable def m169.Kc : Ctr En.Dop.D4 := ⟨169,m169.p.bn,m169.p.sp,m169.p.rs,m169.p.flat,.opt (m169.KE.runF 3000 1000 m169.p.sp)⟩
theorem m169.Kh : m169.Kc.Holds prog := fun_ctrF 3000 1000 tbOk (hct_cons m131.Kh (hct_cons m167.Khf (hct_cons m123.Kh (hct_cons m195.Kh hct_nil)))) m169.ok
noncomputable def m173.KE : Env En.Dop.D4 := envOf prog 173 tb [m121.Kc,m167.Kcf,m130.Kc,m128.Kc,m123.Kc,m131.Kc,m165.Kc,m133.Kc,m195.Kc,m196.Kc] m173.p
noncomputable def m173.Kc : Ctr En.Dop.D4 := ⟨173,m173.p.bn,m173.p.sp,m173.p.rs,m173.p.flat,.opt (m173.KE.runF 3000 1000 m173.p.sp)⟩
theorem m173.Kh : m173.Kc.Holds prog := fun_ctrF 3000 1000 tbOk (hct_cons m121.Kh (hct_cons m167.Khf (hct_cons m130.Kh (hct_cons m128.Kh (hct_cons m123.Kh (hct_cons m131.Kh (hct_cons m165.Kh (hct_cons m133.Kh (hct_cons m195.Kh (hct_cons m196.Kh hct_nil)))))))))) m173.ok
noncomputable def g135.Kstep (r : g135.T) : g135.T := ((envOf (S := En.Dop.D4) prog 135 tb (g135.ct r ++ [m74.Kc,m166.Kc,m131.Kc,m167.Kcf,m123.Kc,m169.Kc,m173.Kc]) m135.p).runF 3000 1000 m135.p.sp,(envOf (S := En.Dop.D4) prog 168 tb (g135.ct r ++ []) m168.p).runF 3000 1000 m168.p.sp,(envOf (S := En.Dop.D4) prog 170 tb (g135.ct r ++ [m126.Kc,m123.Kc,m131.Kc]) m170.p).runF 3000 1000 m170.p.sp,(envOf (S := En.Dop.D4) prog 172 tb (g135.ct r ++ [m73.Kc,m136.c,m131.Kc]) m172.p).runF 3000 1000 m172.p.sp,())
noncomputable def g135.KR (n : Nat) : g135.T := Nat.rec (motive := fun _ => g135.T) (fun _ => none,fun _ => none,fun _ => none,fun _ => none,()) (fun _ r => g135.Kstep r) n
noncomputable def m135.KR (n : Nat) : ((Unit × Int × Unit) × (CK × CT × Unit)) → Option ((Int × Unit) × (CK × CT × Unit)) := (g135.KR n).1
noncomputable def m135.Kc (n : Nat) : Ctr En.Dop.D4 := ⟨135,m135.p.bn,m135.p.sp,m135.p.rs,m135.p.flat,.opt (m135.KR n)⟩
noncomputable def m135.Kcf : Ctr En.Dop.D4 := m135.Kc FU
noncomputable def m168.KR (n : Nat) : ((Unit × Int × Unit) × (CK × CT × Unit)) → Option ((Int × Unit) × (CK × CT × Unit)) := (g135.KR n).2.1
noncomputable def m168.Kc (n : Nat) : Ctr En.Dop.D4 := ⟨168,m168.p.bn,m168.p.sp,m168.p.rs,m168.p.flat,.opt (m168.KR n)⟩
noncomputable def m170.KR (n : Nat) : ((Unit × En.Dop.Nde × Int × Unit) × (CK × CT × Unit)) → Option ((Int × Unit) × (CK × CT × Unit)) := (g135.KR n).2.2.1
noncomputable def m170.Kc (n : Nat) : Ctr En.Dop.D4 := ⟨170,m170.p.bn,m170.p.sp,m170.p.rs,m170.p.flat,.opt (m170.KR n)⟩
noncomputable def m172.KR (n : Nat) : ((Unit × Unit × Unit) × ((Unit × Unit) × CK × CT × (En.Dop.Nde × Unit) × Unit)) → Option ((Int × Unit) × ((Unit × Unit) × CK × CT × (En.Dop.Nde × Unit) × Unit)) := (g135.KR n).2.2.2.1
noncomputable def m172.Kc (n : Nat) : Ctr En.Dop.D4 := ⟨172,m172.p.bn,m172.p.sp,m172.p.rs,m172.p.flat,.opt (m172.KR n)⟩
noncomputable def g135.Kcs (n : Nat) : List (Ctr En.Dop.D4) := [m135.Kc n,m168.Kc n,m170.Kc n,m172.Kc n]
theorem g135.Kall : ∀ n,(m135.Kc n).Holds prog ∧ (m168.Kc n).Holds prog ∧ (m170.Kc n).Holds prog ∧ (m172.Kc n).Holds prog ∧ True
 | 0 => ⟨ctr_none tbOk m135.ok,ctr_none tbOk m168.ok,ctr_none tbOk m170.ok,ctr_none tbOk m172.ok,trivial⟩
 | n + 1 => by
  obtain ⟨h0,h1,h2,h3,_⟩ := g135.Kall n
  have hh : ∀ c ∈ g135.Kcs n,c.Holds prog := (hct_cons h0 (hct_cons h1 (hct_cons h2 (hct_cons h3 hct_nil))))
  exact ⟨ctr_eq (fun_ctrF 3000 1000 tbOk (hct_app hh (hct_cons m74.Kh (hct_cons m166.Kh (hct_cons m131.Kh (hct_cons m167.Khf (hct_cons m123.Kh (hct_cons m169.Kh (hct_cons m173.Kh hct_nil)))))))) m135.ok) (by kernel_rfl),ctr_eq (fun_ctrF 3000 1000 tbOk (hct_app hh hct_nil) m168.ok) (by kernel_rfl),ctr_eq (fun_ctrF 3000 1000 tbOk (hct_app hh (hct_cons m126.Kh (hct_cons m123.Kh (hct_cons m131.Kh hct_nil)))) m170.ok) (by kernel_rfl),ctr_eq (fun_ctrF 3000 1000 tbOk (hct_app hh (hct_cons m73.Kh (hct_cons m136.holds (hct_cons m131.Kh hct_nil)))) m172.ok) (by kernel_rfl),trivial⟩
theorem m135.Khf : m135.Kcf.Holds prog := (g135.Kall FU).1
noncomputable def m78.KE : Env En.Dop.D4 := envOf prog 78 tb [m129.Kcf,m73.Kc,m74.Kc,m123.Kc,m130.Kc,m133.Kc,m134.Kc,m132.Kc,m131.Kc,m135.Kcf,m136.c] m78.p
end Go.Proofs.Tryz
