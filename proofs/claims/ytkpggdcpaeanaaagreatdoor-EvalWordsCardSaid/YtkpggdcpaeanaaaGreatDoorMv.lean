/- core.function's jump, with contracts that the kernel can run. -/
import Derived.Test.YtkpggdcpaeanaaaGreatDoorKtB
import Derived.Test.YtkpggdcpaeanaaaGreatDoorMs
import Derived.Test.YtkpggdcpaeanaaaGreatDoorMt
set_option maxRecDepth 100000
namespace Go.Proofs
open Go Go.En Go.RowKit
noncomputable def fnKat (n : Int) (k : CK) (k1 : CT) : Option ((En.Dop.Nde × Unit) × (CK × CT × Unit)) := Tryz.m74.KE.runF 3000 1000 Tryz.m74.p.sp (((),n,()),(k,k1,()))
noncomputable def fnKf (n : Int) (k : CK) (k1 : CT) : Option ((En.Dop.Val × Unit) × (CK × CT × Unit)) := Tryz.m123.KE.runF 3000 1000 Tryz.m123.p.sp (((),9,n,()),(k,k1,()))
theorem fnKat_eq (n : Int) (k0 : CK) (k1 : CT) : fnKat n k0 k1 =
 if (decide (n < (0 : Int))) = true then some ((⟨0,-1,-1,-1,-1,[],0,0,0⟩,()),(k0,(k1,())))
 else if (decide (I k0.t.nodes.length ≤ n)) = true then some ((⟨0,-1,-1,-1,-1,[],0,0,0⟩,()),(k0,(k1,())))
  else if (decide ((0 : Int) ≤ n ∧ n < I k0.t.nodes.length)) = true then some ((@List.getD En.Dop.Nde k0.t.nodes n.toNat En.Dop.d5,()),(k0,(k1,()))) else none := by kernel_rfl
theorem fnKf_eq (n : Int) (k0 : CK) (k1 : CT) : fnKf n k0 k1 =
 if (decide (k0.e = (0 : Int))) = true then
  (fnKat n k0 k1).bind fun y3 => some ((⟨-1,1,0,0,false⟩,()),((CK.s_when (CK.s_e y3.snd.fst 9) (y3.fst.fst.at_)),(y3.snd.snd.fst,())))
 else some ((⟨-1,1,0,0,false⟩,()),(k0,(k1,()))) := by kernel_rfl
theorem fnKat_at (n : Int) (k0 : CK) (k1 : CT) : ∃ x,fnKat n k0 k1 = some ((x,()),(k0,(k1,()))) ∧ x.at_ = fnA k0 n := by
 rw [fnKat_eq]
 unfold fnA
 by_cases h : n < 0
 ·rw [if_pos (by simpa using h),if_pos h]; exact ⟨_,rfl,rfl⟩
 ·rw [if_neg (by simpa using h),if_neg h]
  by_cases h2 : I k0.t.nodes.length ≤ n
  ·rw [if_pos (by simpa using h2),if_pos h2]; exact ⟨_,rfl,rfl⟩
  ·rw [if_neg (by simpa using h2),if_neg h2,if_pos (by simp; omega)]; exact ⟨_,rfl,rfl⟩
theorem fnKf_same (f f' : Int) (k0 : CK) (k1 : CT) (h : fnA k0 f = fnA k0 f') : fnKf f k0 k1 = fnKf f' k0 k1 := by
 obtain ⟨x,h1,h2⟩ := fnKat_at f k0 k1
 obtain ⟨x',h1',h2'⟩ := fnKat_at f' k0 k1
 rw [fnKf_eq,fnKf_eq,h1,h1']
 simp only [Option.bind_some,h2,h2',h]
theorem fnK_seg31 (t6 : List Int) (t15 f : Int) (k : CK) (k1 : CT) : (segT Tryz.m78.KE 3000 fnO31 fnQc Tryz.m78.q32.sp [0,6,15,16] [0,6,15] 2 (((),t6,t15,f,()),(k,k1,()))).eval (fun _ _ => none) =
  (fnKf f k k1).bind fun y => some (((),t6,t15,()),(y.2.1,(y.2.2.1,()))) := by kernel_rfl
theorem fnKMain_ok : (Tryz.m78.KE).Ok Tryz.prog := (env_ok Tryz.tbOk (hct_cons Tryz.m129.Khf (hct_cons Tryz.m73.Kh (hct_cons Tryz.m74.Kh (hct_cons Tryz.m123.Kh (hct_cons Tryz.m130.Kh (hct_cons Tryz.m133.Kh (hct_cons Tryz.m134.Kh (hct_cons Tryz.m132.Kh (hct_cons Tryz.m131.Kh (hct_cons Tryz.m135.Khf (hct_cons Tryz.m136.holds hct_nil))))))))))) Tryz.m78.ok).1
noncomputable def fnJK : Jump Tryz.m78.KE := ⟨24,32,Tryz.m78.q24,Tryz.m78.q32,by kernel_rfl,by kernel_rfl,fnG fnKf⟩
theorem fnJK_ok : fnJK.Ok Tryz.prog := by
 intro Q w0 F D0 β0 M x y hkp _ hg hv
 obtain ⟨⟨⟨⟩,t6,t15,⟨⟩⟩,k,k1,⟨⟩⟩ := x
 exact fn_jump fnKMain_ok fnKf_same fnK_seg31 t6 t15 k k1 y hkp hg hv
end Go.Proofs
/- Contracts whose models the kernel can run. Written by a program. -/
set_option maxRecDepth 100000
set_option maxHeartbeats 4000000
namespace Go.Proofs.Tryz
open Go Go.En
noncomputable def m78.Kc : Ctr En.Dop.D4 := ⟨78,m78.p.bn,m78.p.sp,m78.p.rs,m78.p.flat,.opt (m78.KE.runJF 3000 1000 fnJK m78.p.sp)⟩
theorem m78.Kh : m78.Kc.Holds prog := fun_ctrJF 3000 1000 tbOk (hct_cons m129.Khf (hct_cons m73.Kh (hct_cons m74.Kh (hct_cons m123.Kh (hct_cons m130.Kh (hct_cons m133.Kh (hct_cons m134.Kh (hct_cons m132.Kh (hct_cons m131.Kh (hct_cons m135.Khf (hct_cons m136.holds hct_nil))))))))))) m78.ok fnJK fnJK_ok
noncomputable def m72.KE : Env En.Dop.D4 := envOf prog 72 tb [] m72.p
noncomputable def m72.Kc : Ctr En.Dop.D4 := ⟨72,m72.p.bn,m72.p.sp,m72.p.rs,m72.p.flat,.opt (m72.KE.runF 3000 1000 m72.p.sp)⟩
theorem m72.Kh : m72.Kc.Holds prog := fun_ctrF 3000 1000 tbOk hct_nil m72.ok
noncomputable def m42.KE : Env En.Dop.D4 := envOf prog 42 tb [m72.Kc,m73.Kc,m74h.Kc,m75h.Kc,m76h.Kc,m77h.Kc,m78.Kc] m42.p
noncomputable def m42.Kc : Ctr En.Dop.D4 := ⟨42,m42.p.bn,m42.p.sp,m42.p.rs,m42.p.flat,.opt (m42.KE.runF 3000 1000 m42.p.sp)⟩
theorem m42.Kh : m42.Kc.Holds prog := fun_ctrF 3000 1000 tbOk (hct_cons m72.Kh (hct_cons m73.Kh (hct_cons m74h.Kh (hct_cons m75h.Kh (hct_cons m76h.Kh (hct_cons m77h.Kh (hct_cons m78.Kh hct_nil))))))) m42.ok
noncomputable def m55.KE : Env En.Dop.D4 := envOf prog 55 tb [] m55.p
noncomputable def m55.Kc : Ctr En.Dop.D4 := ⟨55,m55.p.bn,m55.p.sp,m55.p.rs,m55.p.flat,.opt (m55.KE.runF 3000 1000 m55.p.sp)⟩
theorem m55.Kh : m55.Kc.Holds prog := fun_ctrF 3000 1000 tbOk hct_nil m55.ok
noncomputable def m54_55.KE : Env En.Dop.D4 := envOf prog 54 tb [m55.Kc] m54_55.p
noncomputable def m54_55.Kc : Ctr En.Dop.D4 := ⟨54,m54_55.p.bn,m54_55.p.sp,m54_55.p.rs,m54_55.p.flat,.opt (m54_55.KE.runF 3000 1000 m54_55.p.sp)⟩
theorem m54_55.Kh : m54_55.Kc.Holds prog := fun_ctrF 3000 1000 tbOk (hct_cons m55.Kh hct_nil) m54_55.ok
noncomputable def m25.KE : Env En.Dop.D4 := envOf prog 25 tb [m54_55.Kc] m25.p
noncomputable def m25.Kc : Ctr En.Dop.D4 := ⟨25,m25.p.bn,m25.p.sp,m25.p.rs,m25.p.flat,.opt (m25.KE.runF 3000 1000 m25.p.sp)⟩
theorem m25.Kh : m25.Kc.Holds prog := fun_ctrF 3000 1000 tbOk (hct_cons m54_55.Kh hct_nil) m25.ok
noncomputable def m65.KE : Env En.Dop.D4 := envOf prog 65 tb [] m65.p
noncomputable def m65.Kc : Ctr En.Dop.D4 := ⟨65,m65.p.bn,m65.p.sp,m65.p.rs,m65.p.flat,.opt (m65.KE.runF 3000 1000 m65.p.sp)⟩
theorem m65.Kh : m65.Kc.Holds prog := fun_ctrF 3000 1000 tbOk hct_nil m65.ok
noncomputable def m152.KE : Env En.Dop.D4 := envOf prog 152 tb [] m152.p
noncomputable def m152.Kc : Ctr En.Dop.D4 := ⟨152,m152.p.bn,m152.p.sp,m152.p.rs,m152.p.flat,.opt (m152.KE.runF 3000 1000 m152.p.sp)⟩
theorem m152.Kh : m152.Kc.Holds prog := fun_ctrF 3000 1000 tbOk hct_nil m152.ok
noncomputable def m114.KE : Env En.Dop.D4 := envOf prog 114 tb [m152.Kc] m114.p
noncomputable def m114.Kc : Ctr En.Dop.D4 := ⟨114,m114.p.bn,m114.p.sp,m114.p.rs,m114.p.flat,.opt (m114.KE.runF 3000 1000 m114.p.sp)⟩
theorem m114.Kh : m114.Kc.Holds prog := fun_ctrF 3000 1000 tbOk (hct_cons m152.Kh hct_nil) m114.ok
noncomputable def g153.Kstep (r : g153.T) : g153.T := ((envOf (S := En.Dop.D4) prog 153 tb (g153.ct r ++ [m114.Kc]) m153.p).runF 3000 1000 m153.p.sp,(envOf (S := En.Dop.D4) prog 183 tb (g153.ct r ++ []) m183_184.p).runF 3000 1000 m183_184.p.sp,(envOf (S := En.Dop.D4) prog 209 tb (g153.ct r ++ []) m209_184.p).runF 3000 1000 m209_184.p.sp,(envOf (S := En.Dop.D4) prog 184 tb (g153.ct r ++ []) m184.p).runF 3000 1000 m184.p.sp,())
noncomputable def g153.KR (n : Nat) : g153.T := Nat.rec (motive := fun _ => g153.T) (fun _ => none,fun _ => none,fun _ => none,fun _ => none,()) (fun _ r => g153.Kstep r) n
noncomputable def m153.KR (n : Nat) : ((Unit × Int × Unit × Unit) × (ER × EF × Unit)) → Option ((Bool × Unit) × (ER × EF × Unit)) := (g153.KR n).1
noncomputable def m153.Kc (n : Nat) : Ctr En.Dop.D4 := ⟨153,m153.p.bn,m153.p.sp,m153.p.rs,m153.p.flat,.opt (m153.KR n)⟩
noncomputable def m153.Kcf : Ctr En.Dop.D4 := m153.Kc FU
noncomputable def m183_184.KR (n : Nat) : ((List (Int) × Unit × Unit) × ((Unit × Unit) × ER × (Unit × Unit) × EF × Unit)) → Option ((Bool × Unit) × ((Unit × Unit) × ER × (Unit × Unit) × EF × Unit)) := (g153.KR n).2.1
noncomputable def m183_184.Kc (n : Nat) : Ctr En.Dop.D4 := ⟨183,m183_184.p.bn,m183_184.p.sp,m183_184.p.rs,m183_184.p.flat,.opt (m183_184.KR n)⟩
noncomputable def m209_184.KR (n : Nat) : ((List (Int) × Unit × Unit) × ((Unit × Unit) × ER × (Unit × Unit) × EF × Unit)) → Option ((Int × Unit) × ((Unit × Unit) × ER × (Unit × Unit) × EF × Unit)) := (g153.KR n).2.2.1
noncomputable def m209_184.Kc (n : Nat) : Ctr En.Dop.D4 := ⟨209,m209_184.p.bn,m209_184.p.sp,m209_184.p.rs,m209_184.p.flat,.opt (m209_184.KR n)⟩
noncomputable def m184.KR (n : Nat) : ((Int × Unit × Unit × Unit) × ((Unit × Unit) × ER × (Unit × Unit) × EF × Unit)) → Option ((Bool × Unit) × ((Unit × Unit) × ER × (Unit × Unit) × EF × Unit)) := (g153.KR n).2.2.2.1
noncomputable def m184.Kc (n : Nat) : Ctr En.Dop.D4 := ⟨184,m184.p.bn,m184.p.sp,m184.p.rs,m184.p.flat,.opt (m184.KR n)⟩
noncomputable def g153.Kcs (n : Nat) : List (Ctr En.Dop.D4) := [m153.Kc n,m183_184.Kc n,m209_184.Kc n,m184.Kc n]
theorem g153.Kall : ∀ n,(m153.Kc n).Holds prog ∧ (m183_184.Kc n).Holds prog ∧ (m209_184.Kc n).Holds prog ∧ (m184.Kc n).Holds prog ∧ True
 | 0 => ⟨ctr_none tbOk m153.ok,ctr_none tbOk m183_184.ok,ctr_none tbOk m209_184.ok,ctr_none tbOk m184.ok,trivial⟩
 | n + 1 => by
  obtain ⟨h0,h1,h2,h3,_⟩ := g153.Kall n
  have hh : ∀ c ∈ g153.Kcs n,c.Holds prog := (hct_cons h0 (hct_cons h1 (hct_cons h2 (hct_cons h3 hct_nil))))
  exact ⟨ctr_eq (fun_ctrF 3000 1000 tbOk (hct_app hh (hct_cons m114.Kh hct_nil)) m153.ok) (by kernel_rfl),ctr_eq (fun_ctrF 3000 1000 tbOk (hct_app hh hct_nil) m183_184.ok) (by kernel_rfl),ctr_eq (fun_ctrF 3000 1000 tbOk (hct_app hh hct_nil) m209_184.ok) (by kernel_rfl),ctr_eq (fun_ctrF 3000 1000 tbOk (hct_app hh hct_nil) m184.ok) (by kernel_rfl),trivial⟩
theorem m153.Khf : m153.Kcf.Holds prog := (g153.Kall FU).1
noncomputable def m117.KE : Env En.Dop.D4 := envOf prog 117 tb [m65.Kc] m117.p
noncomputable def m117.Kc : Ctr En.Dop.D4 := ⟨117,m117.p.bn,m117.p.sp,m117.p.rs,m117.p.flat,.opt (m117.KE.runF 3000 1000 m117.p.sp)⟩
theorem m117.Kh : m117.Kc.Holds prog := fun_ctrF 3000 1000 tbOk (hct_cons m65.Kh hct_nil) m117.ok
noncomputable def m255.KE : Env En.Dop.D4 := envOf prog 255 tb [] m255.p
noncomputable def m255.Kc : Ctr En.Dop.D4 := ⟨255,m255.p.bn,m255.p.sp,m255.p.rs,m255.p.flat,.opt (m255.KE.runF 3000 1000 m255.p.sp)⟩
theorem m255.Kh : m255.Kc.Holds prog := fun_ctrF 3000 1000 tbOk hct_nil m255.ok
noncomputable def m256.KE : Env En.Dop.D4 := envOf prog 256 tb [m126.Kc] m256.p
noncomputable def m256.Kc : Ctr En.Dop.D4 := ⟨256,m256.p.bn,m256.p.sp,m256.p.rs,m256.p.flat,.opt (m256.KE.runF 3000 1000 m256.p.sp)⟩
theorem m256.Kh : m256.Kc.Holds prog := fun_ctrF 3000 1000 tbOk (hct_cons m126.Kh hct_nil) m256.ok
noncomputable def m257.KE : Env En.Dop.D4 := envOf prog 257 tb [] m257.p
noncomputable def m257.Kc : Ctr En.Dop.D4 := ⟨257,m257.p.bn,m257.p.sp,m257.p.rs,m257.p.flat,.opt (m257.KE.runF 3000 1000 m257.p.sp)⟩
theorem m257.Kh : m257.Kc.Holds prog := fun_ctrF 3000 1000 tbOk hct_nil m257.ok
noncomputable def m258.KE : Env En.Dop.D4 := envOf prog 258 tb [] m258.p
noncomputable def m258.Kc : Ctr En.Dop.D4 := ⟨258,m258.p.bn,m258.p.sp,m258.p.rs,m258.p.flat,.opt (m258.KE.runF 3000 1000 m258.p.sp)⟩
theorem m258.Kh : m258.Kc.Holds prog := fun_ctrF 3000 1000 tbOk hct_nil m258.ok
noncomputable def m236.KE : Env En.Dop.D4 := envOf prog 236 tb [m126.Kc,m256.Kc,m257.Kc,m255.Kc,m258.Kc] m236.p
noncomputable def m236.Kc : Ctr En.Dop.D4 := ⟨236,m236.p.bn,m236.p.sp,m236.p.rs,m236.p.flat,.opt (m236.KE.runF 3000 1000 m236.p.sp)⟩
theorem m236.Kh : m236.Kc.Holds prog := fun_ctrF 3000 1000 tbOk (hct_cons m126.Kh (hct_cons m256.Kh (hct_cons m257.Kh (hct_cons m255.Kh (hct_cons m258.Kh hct_nil))))) m236.ok
noncomputable def m213.KE : Env En.Dop.D4 := envOf prog 213 tb [] m213.p
noncomputable def m213.Kc : Ctr En.Dop.D4 := ⟨213,m213.p.bn,m213.p.sp,m213.p.rs,m213.p.flat,.opt (m213.KE.runF 3000 1000 m213.p.sp)⟩
theorem m213.Kh : m213.Kc.Holds prog := fun_ctrF 3000 1000 tbOk hct_nil m213.ok
noncomputable def g64.Kstep (r : g64.T) : g64.T := ((envOf (S := En.Dop.D4) prog 64 tb (g64.ct r ++ [m65.Kc,m117.Kc]) m64.p).runF 3000 1000 m64.p.sp,(envOf (S := En.Dop.D4) prog 116 tb (g64.ct r ++ [m153.Kcf,m117.Kc]) m116.p).runF 3000 1000 m116.p.sp,(envOf (S := En.Dop.D4) prog 154 tb (g64.ct r ++ [m153.Kcf,m114.Kc]) m154.p).runF 3000 1000 m154.p.sp,(envOf (S := En.Dop.D4) prog 185 tb (g64.ct r ++ [m117.Kc,m126.Kc,m213.Kc,m114.Kc,m25.Kc]) m185.p).runF 3000 1000 m185.p.sp,(envOf (S := En.Dop.D4) prog 211 tb (g64.ct r ++ [m255.Kc,m65.Kc]) m211.p).runF 3000 1000 m211.p.sp,(envOf (S := En.Dop.D4) prog 210 tb (g64.ct r ++ []) m210.p).runF 3000 1000 m210.p.sp,(envOf (S := En.Dop.D4) prog 212 tb (g64.ct r ++ [m236.Kc,m65.Kc]) m212.p).runF 3000 1000 m212.p.sp,(envOf (S := En.Dop.D4) prog 186 tb (g64.ct r ++ [m117.Kc]) m186.p).runF 3000 1000 m186.p.sp,(envOf (S := En.Dop.D4) prog 187 tb (g64.ct r ++ [m153.Kcf]) m187.p).runF 3000 1000 m187.p.sp,())
noncomputable def g64.KR (n : Nat) : g64.T := Nat.rec (motive := fun _ => g64.T) (fun _ => none,fun _ => none,fun _ => none,fun _ => none,fun _ => none,fun _ => none,fun _ => none,fun _ => none,fun _ => none,()) (fun _ r => g64.Kstep r) n
noncomputable def m64.KR (n : Nat) : ((Unit × Int × List (Int) × Unit) × (ER × Unit)) → Option ((Int × Unit) × (ER × Unit)) := (g64.KR n).1
noncomputable def m64.Kc (n : Nat) : Ctr En.Dop.D4 := ⟨64,m64.p.bn,m64.p.sp,m64.p.rs,m64.p.flat,.opt (m64.KR n)⟩
noncomputable def m64.Kcf : Ctr En.Dop.D4 := m64.Kc FU
noncomputable def m116.KR (n : Nat) : ((Unit × Int × Unit × Unit) × (ER × EF × Unit)) → Option ((Int × Unit) × (ER × EF × Unit)) := (g64.KR n).2.1
noncomputable def m116.Kc (n : Nat) : Ctr En.Dop.D4 := ⟨116,m116.p.bn,m116.p.sp,m116.p.rs,m116.p.flat,.opt (m116.KR n)⟩
noncomputable def m154.KR (n : Nat) : ((Unit × En.Dop.Nde × Unit × Unit) × (ER × EF × Unit)) → Option ((Int × Unit) × (ER × EF × Unit)) := (g64.KR n).2.2.1
noncomputable def m154.Kc (n : Nat) : Ctr En.Dop.D4 := ⟨154,m154.p.bn,m154.p.sp,m154.p.rs,m154.p.flat,.opt (m154.KR n)⟩
noncomputable def m185.KR (n : Nat) : ((Unit × Int × Unit × Unit) × (ER × EF × Unit)) → Option ((Int × Unit) × (ER × EF × Unit)) := (g64.KR n).2.2.2.1
noncomputable def m185.Kc (n : Nat) : Ctr En.Dop.D4 := ⟨185,m185.p.bn,m185.p.sp,m185.p.rs,m185.p.flat,.opt (m185.KR n)⟩
noncomputable def m211.KR (n : Nat) : ((Unit × En.Dop.Nde × Unit × Unit) × (ER × EF × Unit)) → Option ((Int × Unit) × (ER × EF × Unit)) := (g64.KR n).2.2.2.2.1
noncomputable def m211.Kc (n : Nat) : Ctr En.Dop.D4 := ⟨211,m211.p.bn,m211.p.sp,m211.p.rs,m211.p.flat,.opt (m211.KR n)⟩
noncomputable def m210.KR (n : Nat) : ((Int × Unit × Unit × Unit) × ((Unit × Unit) × ER × (Unit × Unit) × EF × Unit)) → Option ((Int × Unit) × ((Unit × Unit) × ER × (Unit × Unit) × EF × Unit)) := (g64.KR n).2.2.2.2.2.1
noncomputable def m210.Kc (n : Nat) : Ctr En.Dop.D4 := ⟨210,m210.p.bn,m210.p.sp,m210.p.rs,m210.p.flat,.opt (m210.KR n)⟩
noncomputable def m212.KR (n : Nat) : ((Unit × En.Dop.Nde × Unit × Unit) × (ER × EF × Unit)) → Option ((Int × Unit) × (ER × EF × Unit)) := (g64.KR n).2.2.2.2.2.2.1
noncomputable def m212.Kc (n : Nat) : Ctr En.Dop.D4 := ⟨212,m212.p.bn,m212.p.sp,m212.p.rs,m212.p.flat,.opt (m212.KR n)⟩
noncomputable def m186.KR (n : Nat) : ((Unit × En.Dop.Nde × Unit × Unit) × (ER × EF × Unit)) → Option ((Int × Unit) × (ER × EF × Unit)) := (g64.KR n).2.2.2.2.2.2.2.1
noncomputable def m186.Kc (n : Nat) : Ctr En.Dop.D4 := ⟨186,m186.p.bn,m186.p.sp,m186.p.rs,m186.p.flat,.opt (m186.KR n)⟩
noncomputable def m187.KR (n : Nat) : ((Unit × En.Dop.Nde × Unit × Unit) × (ER × EF × Unit)) → Option ((Int × Unit) × (ER × EF × Unit)) := (g64.KR n).2.2.2.2.2.2.2.2.1
noncomputable def m187.Kc (n : Nat) : Ctr En.Dop.D4 := ⟨187,m187.p.bn,m187.p.sp,m187.p.rs,m187.p.flat,.opt (m187.KR n)⟩
noncomputable def g64.Kcs (n : Nat) : List (Ctr En.Dop.D4) := [m64.Kc n,m116.Kc n,m154.Kc n,m185.Kc n,m211.Kc n,m210.Kc n,m212.Kc n,m186.Kc n,m187.Kc n]
theorem g64.Kall : ∀ n,(m64.Kc n).Holds prog ∧ (m116.Kc n).Holds prog ∧ (m154.Kc n).Holds prog ∧ (m185.Kc n).Holds prog ∧ (m211.Kc n).Holds prog ∧ (m210.Kc n).Holds prog ∧ (m212.Kc n).Holds prog ∧ (m186.Kc n).Holds prog ∧ (m187.Kc n).Holds prog ∧ True
 | 0 => ⟨ctr_none tbOk m64.ok,ctr_none tbOk m116.ok,ctr_none tbOk m154.ok,ctr_none tbOk m185.ok,ctr_none tbOk m211.ok,ctr_none tbOk m210.ok,ctr_none tbOk m212.ok,ctr_none tbOk m186.ok,ctr_none tbOk m187.ok,trivial⟩
 | n + 1 => by
  obtain ⟨h0,h1,h2,h3,h4,h5,h6,h7,h8,_⟩ := g64.Kall n
  have hh : ∀ c ∈ g64.Kcs n,c.Holds prog := (hct_cons h0 (hct_cons h1 (hct_cons h2 (hct_cons h3 (hct_cons h4 (hct_cons h5 (hct_cons h6 (hct_cons h7 (hct_cons h8 hct_nil)))))))))
  exact ⟨ctr_eq (fun_ctrF 3000 1000 tbOk (hct_app hh (hct_cons m65.Kh (hct_cons m117.Kh hct_nil))) m64.ok) (by kernel_rfl),ctr_eq (fun_ctrF 3000 1000 tbOk (hct_app hh (hct_cons m153.Khf (hct_cons m117.Kh hct_nil))) m116.ok) (by kernel_rfl),ctr_eq (fun_ctrF 3000 1000 tbOk (hct_app hh (hct_cons m153.Khf (hct_cons m114.Kh hct_nil))) m154.ok) (by kernel_rfl),ctr_eq (fun_ctrF 3000 1000 tbOk (hct_app hh (hct_cons m117.Kh (hct_cons m126.Kh (hct_cons m213.Kh (hct_cons m114.Kh (hct_cons m25.Kh hct_nil)))))) m185.ok) (by kernel_rfl),ctr_eq (fun_ctrF 3000 1000 tbOk (hct_app hh (hct_cons m255.Kh (hct_cons m65.Kh hct_nil))) m211.ok) (by kernel_rfl),ctr_eq (fun_ctrF 3000 1000 tbOk (hct_app hh hct_nil) m210.ok) (by kernel_rfl),ctr_eq (fun_ctrF 3000 1000 tbOk (hct_app hh (hct_cons m236.Kh (hct_cons m65.Kh hct_nil))) m212.ok) (by kernel_rfl),ctr_eq (fun_ctrF 3000 1000 tbOk (hct_app hh (hct_cons m117.Kh hct_nil)) m186.ok) (by kernel_rfl),ctr_eq (fun_ctrF 3000 1000 tbOk (hct_app hh (hct_cons m153.Khf hct_nil)) m187.ok) (by kernel_rfl),trivial⟩
theorem m64.Khf : m64.Kcf.Holds prog := (g64.Kall FU).1
noncomputable def m36.KE : Env En.Dop.D4 := envOf prog 36 tb [m25.Kc,m64.Kcf,m65.Kc] m36.p
noncomputable def m36.Kc : Ctr En.Dop.D4 := ⟨36,m36.p.bn,m36.p.sp,m36.p.rs,m36.p.flat,.opt (m36.KE.runF 3000 1000 m36.p.sp)⟩
theorem m36.Kh : m36.Kc.Holds prog := fun_ctrF 3000 1000 tbOk (hct_cons m25.Kh (hct_cons m64.Khf (hct_cons m65.Kh hct_nil))) m36.ok
end Go.Proofs.Tryz
