/-
 Functions of the seat, lifted: plan, model, contract, equations. Written by a program (Lift) that ran the layer's evaluation; Lean checks each line.
-/
import Derived.Test.YtkpokomghbhadaaDoorWt
set_option maxRecDepth 100000
set_option maxHeartbeats 4000000
namespace Go.Proofs
open Go Go.En
open Tryd
def Tryd.m79.p : Pln := ⟨[], 1, ⟨[.al 0 0], [bxA]⟩, ⟨[.fd (.int .i64)], [bxA]⟩, false, [], []⟩
theorem Tryd.m79.ok : plnOk En.Dop.D4 Tryd.prog 79 Tryd.m79.p = true := by kernel_rfl
def Tryd.m65_1000089.p : Pln := ⟨[], 1, ⟨[.al 0 0, .fn 1000089 [(0, 0)]], [bxA]⟩, ⟨[.fd (.int .i64)], [bxA]⟩, false, [], []⟩
def Tryd.m89.p : Pln := ⟨[(3, ⟨[[0, 0, 0, 0, 1, 0, 1, 1], [0, 1, 0, 0, 1, 0, 1, 1], [2, 0, 0, 1, 0, 1, 1], [1, 0], [0, 1, 1, 1]], [0, 3, 10, 11, 12], 1, ⟨[.al 0 0, .fd (.int .i64), .own 1 9, .fd (.int .i64), .fd (.int .i64)], [bxB]⟩⟩)], 1, ⟨[.al 0 0], [bxA]⟩, ⟨[.fd (.int .i64)], [bxA]⟩, false, [], []⟩
theorem Tryd.m89.ok : plnOk En.Dop.D4 Tryd.prog 89 Tryd.m89.p = true := by kernel_rfl
def Tryd.m95.p : Pln := ⟨[], 1, ⟨[.al 0 0], [bxA]⟩, ⟨[.fd (.int .i64)], [bxA]⟩, false, [], []⟩
theorem Tryd.m95.ok : plnOk En.Dop.D4 Tryd.prog 95 Tryd.m95.p = true := by kernel_rfl
def Tryd.m96.p : Pln := ⟨[(4, ⟨[[0, 0, 0, 0, 0, 0, 1, 1, 1, 0, 1], [0, 1, 0, 0, 0, 0, 1, 1, 1, 0, 1], [0, 1, 0, 0, 0, 1, 1, 1, 0, 1], [1, 1], [2, 0, 0, 1, 1, 1, 0, 1], [1, 0], [3, 0, 1]], [0, 1, 5], 1, ⟨[.al 0 0, .fd (.int .i64), .fd (.int .i64)], [bxB]⟩⟩), (5, ⟨[[0, 0, 0, 0, 1, 0, 0, 0, 0, 1, 1, 1, 0, 1], [0, 1, 0, 0, 1, 0, 0, 0, 0, 1, 1, 1, 0, 1], [2, 0, 0, 1, 0, 0, 0, 0, 1, 1, 1, 0, 1], [1, 2], [0, 1, 0, 0, 0, 1, 1, 1, 0, 1], [1, 1], [2, 0, 0, 1, 1, 1, 0, 1], [1, 0], [3, 0, 1]], [0, 1, 5, 24, 25, 26], 1, ⟨[.al 0 0, .fd (.int .i64), .fd (.int .i64), .own 1 9, .fd (.int .i64), .fd (.int .i64)], [bxB]⟩⟩)], 1, ⟨[.al 0 0, .fd (.int .i64)], [bxA]⟩, ⟨[.fd (.int .i64)], [bxA]⟩, false, [], []⟩
theorem Tryd.m96.ok : plnOk En.Dop.D4 Tryd.prog 96 Tryd.m96.p = true := by kernel_rfl
def Tryd.m98.p : Pln := ⟨[(3, ⟨[[0, 0, 0, 0, 1, 0, 1, 1], [0, 1, 0, 0, 1, 0, 1, 1], [2, 0, 0, 1, 0, 1, 1], [1, 0], [0, 1, 1, 1]], [0, 3, 13, 14, 15], 1, ⟨[.al 0 0, .fd (.int .i64), .own 1 9, .fd (.int .i64), .fd (.int .i64)], [bxB]⟩⟩)], 1, ⟨[.al 0 0], [bxA]⟩, ⟨[.fd (.int .i64)], [bxA]⟩, false, [(19, ⟨[(0, true), (1, false), (2, true), (3, true), (4, true), (5, true), (6, false), (7, true), (8, true), (9, true), (10, true), (11, false), (12, false), (13, true), (14, true)], [1000000], [0, 1, 3, 7, 15, 31, 63, 127, 7, 263, 775, 1799, 3847, 8191, 16383], false⟩)], []⟩
theorem Tryd.m98.ok : plnOk En.Dop.D4 Tryd.prog 98 Tryd.m98.p = true := by kernel_rfl
def Tryd.m65_1000098.p : Pln := ⟨[], 1, ⟨[.al 0 0, .fn 1000098 [(0, 0)]], [bxA]⟩, ⟨[.fd (.int .i64)], [bxA]⟩, false, [], []⟩
def Tryd.m100.p : Pln := ⟨[], 1, ⟨[.al 0 0], [bxA]⟩, ⟨[.fd (.int .i64)], [bxA]⟩, false, [(13, ⟨[(0, true), (1, false), (2, true), (3, false), (4, true)], [5, 1000004], [0, 1, 0, 4, 15, 31], false⟩)], []⟩
theorem Tryd.m100.ok : plnOk En.Dop.D4 Tryd.prog 100 Tryd.m100.p = true := by kernel_rfl
def Tryd.m101.p : Pln := ⟨[(2, ⟨[[0, 0, 0, 0, 0, 0, 1, 1], [0, 1, 0, 0, 0, 0, 1, 1], [0, 1, 0, 0, 0, 1, 1], [2, 0, 0, 0, 1, 1], [1, 0], [0, 1, 1, 1]], [0, 3], 1, ⟨[.al 0 0, .own 0 3], [bxB]⟩⟩)], 1, ⟨[.al 0 0], [bxA]⟩, ⟨[.fd (.int .i64)], [bxA]⟩, false, [], []⟩
theorem Tryd.m101.ok : plnOk En.Dop.D4 Tryd.prog 101 Tryd.m101.p = true := by kernel_rfl
def Tryd.m99.p : Pln := ⟨[(1, ⟨[[0, 0, 0, 0, 0, 0, 1], [0, 1, 0, 0, 0, 0, 1], [0, 1, 0, 0, 0, 1], [2, 0, 0, 0, 1], [1, 0], [0, 1, 1]], [0, 1], 1, ⟨[.al 0 0, .fd (.int .i64)], [bxB]⟩⟩)], 1, ⟨[.al 0 0, .fd (.int .i64)], [bxA]⟩, ⟨[.fd (.int .i64)], [bxA]⟩, false, [(12, ⟨[(0, true), (1, true), (2, true), (3, false), (4, true), (5, true), (6, true), (7, false), (8, true), (9, false), (10, false), (11, false), (12, true)], [], [0, 1, 3, 7, 0, 16, 48, 112, 240, 511, 1023, 2047, 4095], false⟩), (17, ⟨[(0, true), (1, true), (2, true), (3, false), (4, true), (5, true), (6, true), (7, false), (8, true), (9, false), (10, false), (11, false), (12, true), (13, false), (14, true)], [15, 1000006], [0, 1, 3, 7, 0, 16, 48, 112, 240, 511, 1023, 2047, 0, 4096, 16383, 32767], false⟩)], []⟩
theorem Tryd.m99.ok : plnOk En.Dop.D4 Tryd.prog 99 Tryd.m99.p = true := by kernel_rfl
def Tryd.m65_1000095.p : Pln := ⟨[], 1, ⟨[.al 0 0, .fn 1000095 [(0, 0)]], [bxA]⟩, ⟨[.fd (.int .i64)], [bxA]⟩, false, [], []⟩
@[reducible] def Tryd.g65.T : Type := (Spec.D En.Dop.D4 ⟨[.al 0 0], [bxA]⟩ → Option (Spec.D En.Dop.D4 ⟨[.fd (.int .i64)], [bxA]⟩)) × (Spec.D En.Dop.D4 ⟨[.al 0 0, .fn 1000089 [(0, 0)]], [bxA]⟩ → Option (Spec.D En.Dop.D4 ⟨[.fd (.int .i64)], [bxA]⟩)) × (Spec.D En.Dop.D4 ⟨[.al 0 0], [bxA]⟩ → Option (Spec.D En.Dop.D4 ⟨[.fd (.int .i64)], [bxA]⟩)) × (Spec.D En.Dop.D4 ⟨[.al 0 0], [bxA]⟩ → Option (Spec.D En.Dop.D4 ⟨[.fd (.int .i64)], [bxA]⟩)) × (Spec.D En.Dop.D4 ⟨[.al 0 0, .fd (.int .i64)], [bxA]⟩ → Option (Spec.D En.Dop.D4 ⟨[.fd (.int .i64)], [bxA]⟩)) × (Spec.D En.Dop.D4 ⟨[.al 0 0], [bxA]⟩ → Option (Spec.D En.Dop.D4 ⟨[.fd (.int .i64)], [bxA]⟩)) × (Spec.D En.Dop.D4 ⟨[.al 0 0, .fn 1000098 [(0, 0)]], [bxA]⟩ → Option (Spec.D En.Dop.D4 ⟨[.fd (.int .i64)], [bxA]⟩)) × (Spec.D En.Dop.D4 ⟨[.al 0 0], [bxA]⟩ → Option (Spec.D En.Dop.D4 ⟨[.fd (.int .i64)], [bxA]⟩)) × (Spec.D En.Dop.D4 ⟨[.al 0 0], [bxA]⟩ → Option (Spec.D En.Dop.D4 ⟨[.fd (.int .i64)], [bxA]⟩)) × (Spec.D En.Dop.D4 ⟨[.al 0 0, .fd (.int .i64)], [bxA]⟩ → Option (Spec.D En.Dop.D4 ⟨[.fd (.int .i64)], [bxA]⟩)) × (Spec.D En.Dop.D4 ⟨[.al 0 0, .fn 1000095 [(0, 0)]], [bxA]⟩ → Option (Spec.D En.Dop.D4 ⟨[.fd (.int .i64)], [bxA]⟩)) × Unit
noncomputable def Tryd.g65.step (r : Tryd.g65.T) : Tryd.g65.T := ((envOf Tryd.prog 79 Tryd.tb ([⟨79, Tryd.m79.p.bn, Tryd.m79.p.sp, Tryd.m79.p.rs, Tryd.m79.p.flat, .opt (r.1)⟩, ⟨65, Tryd.m65_1000089.p.bn, Tryd.m65_1000089.p.sp, Tryd.m65_1000089.p.rs, Tryd.m65_1000089.p.flat, .opt (r.2.1)⟩, ⟨89, Tryd.m89.p.bn, Tryd.m89.p.sp, Tryd.m89.p.rs, Tryd.m89.p.flat, .opt (r.2.2.1)⟩, ⟨95, Tryd.m95.p.bn, Tryd.m95.p.sp, Tryd.m95.p.rs, Tryd.m95.p.flat, .opt (r.2.2.2.1)⟩, ⟨96, Tryd.m96.p.bn, Tryd.m96.p.sp, Tryd.m96.p.rs, Tryd.m96.p.flat, .opt (r.2.2.2.2.1)⟩, ⟨98, Tryd.m98.p.bn, Tryd.m98.p.sp, Tryd.m98.p.rs, Tryd.m98.p.flat, .opt (r.2.2.2.2.2.1)⟩, ⟨65, Tryd.m65_1000098.p.bn, Tryd.m65_1000098.p.sp, Tryd.m65_1000098.p.rs, Tryd.m65_1000098.p.flat, .opt (r.2.2.2.2.2.2.1)⟩, ⟨100, Tryd.m100.p.bn, Tryd.m100.p.sp, Tryd.m100.p.rs, Tryd.m100.p.flat, .opt (r.2.2.2.2.2.2.2.1)⟩, ⟨101, Tryd.m101.p.bn, Tryd.m101.p.sp, Tryd.m101.p.rs, Tryd.m101.p.flat, .opt (r.2.2.2.2.2.2.2.2.1)⟩, ⟨99, Tryd.m99.p.bn, Tryd.m99.p.sp, Tryd.m99.p.rs, Tryd.m99.p.flat, .opt (r.2.2.2.2.2.2.2.2.2.1)⟩, ⟨65, Tryd.m65_1000095.p.bn, Tryd.m65_1000095.p.sp, Tryd.m65_1000095.p.rs, Tryd.m65_1000095.p.flat, .opt (r.2.2.2.2.2.2.2.2.2.2.1)⟩] ++ []) Tryd.m79.p).run 3000 Tryd.m79.p.sp, fun x => Tryd.within r.2.2.1 x.2.1, (envOf Tryd.prog 89 Tryd.tb ([⟨79, Tryd.m79.p.bn, Tryd.m79.p.sp, Tryd.m79.p.rs, Tryd.m79.p.flat, .opt (r.1)⟩, ⟨65, Tryd.m65_1000089.p.bn, Tryd.m65_1000089.p.sp, Tryd.m65_1000089.p.rs, Tryd.m65_1000089.p.flat, .opt (r.2.1)⟩, ⟨89, Tryd.m89.p.bn, Tryd.m89.p.sp, Tryd.m89.p.rs, Tryd.m89.p.flat, .opt (r.2.2.1)⟩, ⟨95, Tryd.m95.p.bn, Tryd.m95.p.sp, Tryd.m95.p.rs, Tryd.m95.p.flat, .opt (r.2.2.2.1)⟩, ⟨96, Tryd.m96.p.bn, Tryd.m96.p.sp, Tryd.m96.p.rs, Tryd.m96.p.flat, .opt (r.2.2.2.2.1)⟩, ⟨98, Tryd.m98.p.bn, Tryd.m98.p.sp, Tryd.m98.p.rs, Tryd.m98.p.flat, .opt (r.2.2.2.2.2.1)⟩, ⟨65, Tryd.m65_1000098.p.bn, Tryd.m65_1000098.p.sp, Tryd.m65_1000098.p.rs, Tryd.m65_1000098.p.flat, .opt (r.2.2.2.2.2.2.1)⟩, ⟨100, Tryd.m100.p.bn, Tryd.m100.p.sp, Tryd.m100.p.rs, Tryd.m100.p.flat, .opt (r.2.2.2.2.2.2.2.1)⟩, ⟨101, Tryd.m101.p.bn, Tryd.m101.p.sp, Tryd.m101.p.rs, Tryd.m101.p.flat, .opt (r.2.2.2.2.2.2.2.2.1)⟩, ⟨99, Tryd.m99.p.bn, Tryd.m99.p.sp, Tryd.m99.p.rs, Tryd.m99.p.flat, .opt (r.2.2.2.2.2.2.2.2.2.1)⟩, ⟨65, Tryd.m65_1000095.p.bn, Tryd.m65_1000095.p.sp, Tryd.m65_1000095.p.rs, Tryd.m65_1000095.p.flat, .opt (r.2.2.2.2.2.2.2.2.2.2.1)⟩] ++ [Tryd.fields.c, Tryd.m14.c, Tryd.m35.c, Tryd.m31.c, Tryd.m38.c]) Tryd.m89.p).run 3000 Tryd.m89.p.sp, (envOf Tryd.prog 95 Tryd.tb ([⟨79, Tryd.m79.p.bn, Tryd.m79.p.sp, Tryd.m79.p.rs, Tryd.m79.p.flat, .opt (r.1)⟩, ⟨65, Tryd.m65_1000089.p.bn, Tryd.m65_1000089.p.sp, Tryd.m65_1000089.p.rs, Tryd.m65_1000089.p.flat, .opt (r.2.1)⟩, ⟨89, Tryd.m89.p.bn, Tryd.m89.p.sp, Tryd.m89.p.rs, Tryd.m89.p.flat, .opt (r.2.2.1)⟩, ⟨95, Tryd.m95.p.bn, Tryd.m95.p.sp, Tryd.m95.p.rs, Tryd.m95.p.flat, .opt (r.2.2.2.1)⟩, ⟨96, Tryd.m96.p.bn, Tryd.m96.p.sp, Tryd.m96.p.rs, Tryd.m96.p.flat, .opt (r.2.2.2.2.1)⟩, ⟨98, Tryd.m98.p.bn, Tryd.m98.p.sp, Tryd.m98.p.rs, Tryd.m98.p.flat, .opt (r.2.2.2.2.2.1)⟩, ⟨65, Tryd.m65_1000098.p.bn, Tryd.m65_1000098.p.sp, Tryd.m65_1000098.p.rs, Tryd.m65_1000098.p.flat, .opt (r.2.2.2.2.2.2.1)⟩, ⟨100, Tryd.m100.p.bn, Tryd.m100.p.sp, Tryd.m100.p.rs, Tryd.m100.p.flat, .opt (r.2.2.2.2.2.2.2.1)⟩, ⟨101, Tryd.m101.p.bn, Tryd.m101.p.sp, Tryd.m101.p.rs, Tryd.m101.p.flat, .opt (r.2.2.2.2.2.2.2.2.1)⟩, ⟨99, Tryd.m99.p.bn, Tryd.m99.p.sp, Tryd.m99.p.rs, Tryd.m99.p.flat, .opt (r.2.2.2.2.2.2.2.2.2.1)⟩, ⟨65, Tryd.m65_1000095.p.bn, Tryd.m65_1000095.p.sp, Tryd.m65_1000095.p.rs, Tryd.m65_1000095.p.flat, .opt (r.2.2.2.2.2.2.2.2.2.2.1)⟩] ++ [Tryd.m14.c, Tryd.m35.c, Tryd.m31.c, Tryd.m33.c, Tryd.m38.c]) Tryd.m95.p).run 3000 Tryd.m95.p.sp, (envOf Tryd.prog 96 Tryd.tb ([⟨79, Tryd.m79.p.bn, Tryd.m79.p.sp, Tryd.m79.p.rs, Tryd.m79.p.flat, .opt (r.1)⟩, ⟨65, Tryd.m65_1000089.p.bn, Tryd.m65_1000089.p.sp, Tryd.m65_1000089.p.rs, Tryd.m65_1000089.p.flat, .opt (r.2.1)⟩, ⟨89, Tryd.m89.p.bn, Tryd.m89.p.sp, Tryd.m89.p.rs, Tryd.m89.p.flat, .opt (r.2.2.1)⟩, ⟨95, Tryd.m95.p.bn, Tryd.m95.p.sp, Tryd.m95.p.rs, Tryd.m95.p.flat, .opt (r.2.2.2.1)⟩, ⟨96, Tryd.m96.p.bn, Tryd.m96.p.sp, Tryd.m96.p.rs, Tryd.m96.p.flat, .opt (r.2.2.2.2.1)⟩, ⟨98, Tryd.m98.p.bn, Tryd.m98.p.sp, Tryd.m98.p.rs, Tryd.m98.p.flat, .opt (r.2.2.2.2.2.1)⟩, ⟨65, Tryd.m65_1000098.p.bn, Tryd.m65_1000098.p.sp, Tryd.m65_1000098.p.rs, Tryd.m65_1000098.p.flat, .opt (r.2.2.2.2.2.2.1)⟩, ⟨100, Tryd.m100.p.bn, Tryd.m100.p.sp, Tryd.m100.p.rs, Tryd.m100.p.flat, .opt (r.2.2.2.2.2.2.2.1)⟩, ⟨101, Tryd.m101.p.bn, Tryd.m101.p.sp, Tryd.m101.p.rs, Tryd.m101.p.flat, .opt (r.2.2.2.2.2.2.2.2.1)⟩, ⟨99, Tryd.m99.p.bn, Tryd.m99.p.sp, Tryd.m99.p.rs, Tryd.m99.p.flat, .opt (r.2.2.2.2.2.2.2.2.2.1)⟩, ⟨65, Tryd.m65_1000095.p.bn, Tryd.m65_1000095.p.sp, Tryd.m65_1000095.p.rs, Tryd.m65_1000095.p.flat, .opt (r.2.2.2.2.2.2.2.2.2.2.1)⟩] ++ [Tryd.m97.c, Tryd.fields.c, Tryd.m14.c, Tryd.m35.c, Tryd.m31.c, Tryd.m38.c]) Tryd.m96.p).run 3000 Tryd.m96.p.sp, (envOf Tryd.prog 98 Tryd.tb ([⟨79, Tryd.m79.p.bn, Tryd.m79.p.sp, Tryd.m79.p.rs, Tryd.m79.p.flat, .opt (r.1)⟩, ⟨65, Tryd.m65_1000089.p.bn, Tryd.m65_1000089.p.sp, Tryd.m65_1000089.p.rs, Tryd.m65_1000089.p.flat, .opt (r.2.1)⟩, ⟨89, Tryd.m89.p.bn, Tryd.m89.p.sp, Tryd.m89.p.rs, Tryd.m89.p.flat, .opt (r.2.2.1)⟩, ⟨95, Tryd.m95.p.bn, Tryd.m95.p.sp, Tryd.m95.p.rs, Tryd.m95.p.flat, .opt (r.2.2.2.1)⟩, ⟨96, Tryd.m96.p.bn, Tryd.m96.p.sp, Tryd.m96.p.rs, Tryd.m96.p.flat, .opt (r.2.2.2.2.1)⟩, ⟨98, Tryd.m98.p.bn, Tryd.m98.p.sp, Tryd.m98.p.rs, Tryd.m98.p.flat, .opt (r.2.2.2.2.2.1)⟩, ⟨65, Tryd.m65_1000098.p.bn, Tryd.m65_1000098.p.sp, Tryd.m65_1000098.p.rs, Tryd.m65_1000098.p.flat, .opt (r.2.2.2.2.2.2.1)⟩, ⟨100, Tryd.m100.p.bn, Tryd.m100.p.sp, Tryd.m100.p.rs, Tryd.m100.p.flat, .opt (r.2.2.2.2.2.2.2.1)⟩, ⟨101, Tryd.m101.p.bn, Tryd.m101.p.sp, Tryd.m101.p.rs, Tryd.m101.p.flat, .opt (r.2.2.2.2.2.2.2.2.1)⟩, ⟨99, Tryd.m99.p.bn, Tryd.m99.p.sp, Tryd.m99.p.rs, Tryd.m99.p.flat, .opt (r.2.2.2.2.2.2.2.2.2.1)⟩, ⟨65, Tryd.m65_1000095.p.bn, Tryd.m65_1000095.p.sp, Tryd.m65_1000095.p.rs, Tryd.m65_1000095.p.flat, .opt (r.2.2.2.2.2.2.2.2.2.2.1)⟩] ++ [Tryd.m14.c, Tryd.fields.c, Tryd.m35.c, Tryd.m31.c, Tryd.m38.c, Tryd.m33.c, Tryd.m49.c, Tryd.m37.c, Tryd.m32.c, Tryd.m78q.c]) Tryd.m98.p).run 3000 Tryd.m98.p.sp, fun x => Tryd.within r.2.2.2.2.2.1 x.2.1, (envOf Tryd.prog 100 Tryd.tb ([⟨79, Tryd.m79.p.bn, Tryd.m79.p.sp, Tryd.m79.p.rs, Tryd.m79.p.flat, .opt (r.1)⟩, ⟨65, Tryd.m65_1000089.p.bn, Tryd.m65_1000089.p.sp, Tryd.m65_1000089.p.rs, Tryd.m65_1000089.p.flat, .opt (r.2.1)⟩, ⟨89, Tryd.m89.p.bn, Tryd.m89.p.sp, Tryd.m89.p.rs, Tryd.m89.p.flat, .opt (r.2.2.1)⟩, ⟨95, Tryd.m95.p.bn, Tryd.m95.p.sp, Tryd.m95.p.rs, Tryd.m95.p.flat, .opt (r.2.2.2.1)⟩, ⟨96, Tryd.m96.p.bn, Tryd.m96.p.sp, Tryd.m96.p.rs, Tryd.m96.p.flat, .opt (r.2.2.2.2.1)⟩, ⟨98, Tryd.m98.p.bn, Tryd.m98.p.sp, Tryd.m98.p.rs, Tryd.m98.p.flat, .opt (r.2.2.2.2.2.1)⟩, ⟨65, Tryd.m65_1000098.p.bn, Tryd.m65_1000098.p.sp, Tryd.m65_1000098.p.rs, Tryd.m65_1000098.p.flat, .opt (r.2.2.2.2.2.2.1)⟩, ⟨100, Tryd.m100.p.bn, Tryd.m100.p.sp, Tryd.m100.p.rs, Tryd.m100.p.flat, .opt (r.2.2.2.2.2.2.2.1)⟩, ⟨101, Tryd.m101.p.bn, Tryd.m101.p.sp, Tryd.m101.p.rs, Tryd.m101.p.flat, .opt (r.2.2.2.2.2.2.2.2.1)⟩, ⟨99, Tryd.m99.p.bn, Tryd.m99.p.sp, Tryd.m99.p.rs, Tryd.m99.p.flat, .opt (r.2.2.2.2.2.2.2.2.2.1)⟩, ⟨65, Tryd.m65_1000095.p.bn, Tryd.m65_1000095.p.sp, Tryd.m65_1000095.p.rs, Tryd.m65_1000095.p.flat, .opt (r.2.2.2.2.2.2.2.2.2.2.1)⟩] ++ [Tryd.m14.c, Tryd.m31.c, Tryd.m35.c, Tryd.m33.c, Tryd.m38.c]) Tryd.m100.p).run 3000 Tryd.m100.p.sp, (envOf Tryd.prog 101 Tryd.tb ([⟨79, Tryd.m79.p.bn, Tryd.m79.p.sp, Tryd.m79.p.rs, Tryd.m79.p.flat, .opt (r.1)⟩, ⟨65, Tryd.m65_1000089.p.bn, Tryd.m65_1000089.p.sp, Tryd.m65_1000089.p.rs, Tryd.m65_1000089.p.flat, .opt (r.2.1)⟩, ⟨89, Tryd.m89.p.bn, Tryd.m89.p.sp, Tryd.m89.p.rs, Tryd.m89.p.flat, .opt (r.2.2.1)⟩, ⟨95, Tryd.m95.p.bn, Tryd.m95.p.sp, Tryd.m95.p.rs, Tryd.m95.p.flat, .opt (r.2.2.2.1)⟩, ⟨96, Tryd.m96.p.bn, Tryd.m96.p.sp, Tryd.m96.p.rs, Tryd.m96.p.flat, .opt (r.2.2.2.2.1)⟩, ⟨98, Tryd.m98.p.bn, Tryd.m98.p.sp, Tryd.m98.p.rs, Tryd.m98.p.flat, .opt (r.2.2.2.2.2.1)⟩, ⟨65, Tryd.m65_1000098.p.bn, Tryd.m65_1000098.p.sp, Tryd.m65_1000098.p.rs, Tryd.m65_1000098.p.flat, .opt (r.2.2.2.2.2.2.1)⟩, ⟨100, Tryd.m100.p.bn, Tryd.m100.p.sp, Tryd.m100.p.rs, Tryd.m100.p.flat, .opt (r.2.2.2.2.2.2.2.1)⟩, ⟨101, Tryd.m101.p.bn, Tryd.m101.p.sp, Tryd.m101.p.rs, Tryd.m101.p.flat, .opt (r.2.2.2.2.2.2.2.2.1)⟩, ⟨99, Tryd.m99.p.bn, Tryd.m99.p.sp, Tryd.m99.p.rs, Tryd.m99.p.flat, .opt (r.2.2.2.2.2.2.2.2.2.1)⟩, ⟨65, Tryd.m65_1000095.p.bn, Tryd.m65_1000095.p.sp, Tryd.m65_1000095.p.rs, Tryd.m65_1000095.p.flat, .opt (r.2.2.2.2.2.2.2.2.2.2.1)⟩] ++ [Tryd.m35.c, Tryd.m33.c, Tryd.m16.c]) Tryd.m101.p).run 3000 Tryd.m101.p.sp, (envOf Tryd.prog 99 Tryd.tb ([⟨79, Tryd.m79.p.bn, Tryd.m79.p.sp, Tryd.m79.p.rs, Tryd.m79.p.flat, .opt (r.1)⟩, ⟨65, Tryd.m65_1000089.p.bn, Tryd.m65_1000089.p.sp, Tryd.m65_1000089.p.rs, Tryd.m65_1000089.p.flat, .opt (r.2.1)⟩, ⟨89, Tryd.m89.p.bn, Tryd.m89.p.sp, Tryd.m89.p.rs, Tryd.m89.p.flat, .opt (r.2.2.1)⟩, ⟨95, Tryd.m95.p.bn, Tryd.m95.p.sp, Tryd.m95.p.rs, Tryd.m95.p.flat, .opt (r.2.2.2.1)⟩, ⟨96, Tryd.m96.p.bn, Tryd.m96.p.sp, Tryd.m96.p.rs, Tryd.m96.p.flat, .opt (r.2.2.2.2.1)⟩, ⟨98, Tryd.m98.p.bn, Tryd.m98.p.sp, Tryd.m98.p.rs, Tryd.m98.p.flat, .opt (r.2.2.2.2.2.1)⟩, ⟨65, Tryd.m65_1000098.p.bn, Tryd.m65_1000098.p.sp, Tryd.m65_1000098.p.rs, Tryd.m65_1000098.p.flat, .opt (r.2.2.2.2.2.2.1)⟩, ⟨100, Tryd.m100.p.bn, Tryd.m100.p.sp, Tryd.m100.p.rs, Tryd.m100.p.flat, .opt (r.2.2.2.2.2.2.2.1)⟩, ⟨101, Tryd.m101.p.bn, Tryd.m101.p.sp, Tryd.m101.p.rs, Tryd.m101.p.flat, .opt (r.2.2.2.2.2.2.2.2.1)⟩, ⟨99, Tryd.m99.p.bn, Tryd.m99.p.sp, Tryd.m99.p.rs, Tryd.m99.p.flat, .opt (r.2.2.2.2.2.2.2.2.2.1)⟩, ⟨65, Tryd.m65_1000095.p.bn, Tryd.m65_1000095.p.sp, Tryd.m65_1000095.p.rs, Tryd.m65_1000095.p.flat, .opt (r.2.2.2.2.2.2.2.2.2.2.1)⟩] ++ [Tryd.m14.c, Tryd.m31.c, Tryd.m35.c, Tryd.m33.c, Tryd.m34.c, Tryd.m38.c]) Tryd.m99.p).run 3000 Tryd.m99.p.sp, fun x => Tryd.within r.2.2.2.1 x.2.1, ())
noncomputable def Tryd.g65.R (n : Nat) : Tryd.g65.T := Nat.rec (motive := fun _ => Tryd.g65.T) (fun _ => none, fun _ => none, fun _ => none, fun _ => none, fun _ => none, fun _ => none, fun _ => none, fun _ => none, fun _ => none, fun _ => none, fun _ => none, ()) (fun _ r => Tryd.g65.step r) n
noncomputable def Tryd.m79.R (n : Nat) : Spec.D En.Dop.D4 ⟨[.al 0 0], [bxA]⟩ → Option (Spec.D En.Dop.D4 ⟨[.fd (.int .i64)], [bxA]⟩) := (Tryd.g65.R n).1
noncomputable def Tryd.m79.c (n : Nat) : Ctr En.Dop.D4 := ⟨79, Tryd.m79.p.bn, Tryd.m79.p.sp, Tryd.m79.p.rs, Tryd.m79.p.flat, .opt (Tryd.m79.R n)⟩
noncomputable def Tryd.m79.cf : Ctr En.Dop.D4 := Tryd.m79.c FU
noncomputable def Tryd.m65_1000089.R (n : Nat) : Spec.D En.Dop.D4 ⟨[.al 0 0, .fn 1000089 [(0, 0)]], [bxA]⟩ → Option (Spec.D En.Dop.D4 ⟨[.fd (.int .i64)], [bxA]⟩) := (Tryd.g65.R n).2.1
noncomputable def Tryd.m65_1000089.c (n : Nat) : Ctr En.Dop.D4 := ⟨65, Tryd.m65_1000089.p.bn, Tryd.m65_1000089.p.sp, Tryd.m65_1000089.p.rs, Tryd.m65_1000089.p.flat, .opt (Tryd.m65_1000089.R n)⟩
noncomputable def Tryd.m89.R (n : Nat) : Spec.D En.Dop.D4 ⟨[.al 0 0], [bxA]⟩ → Option (Spec.D En.Dop.D4 ⟨[.fd (.int .i64)], [bxA]⟩) := (Tryd.g65.R n).2.2.1
noncomputable def Tryd.m89.c (n : Nat) : Ctr En.Dop.D4 := ⟨89, Tryd.m89.p.bn, Tryd.m89.p.sp, Tryd.m89.p.rs, Tryd.m89.p.flat, .opt (Tryd.m89.R n)⟩
noncomputable def Tryd.m95.R (n : Nat) : Spec.D En.Dop.D4 ⟨[.al 0 0], [bxA]⟩ → Option (Spec.D En.Dop.D4 ⟨[.fd (.int .i64)], [bxA]⟩) := (Tryd.g65.R n).2.2.2.1
noncomputable def Tryd.m95.c (n : Nat) : Ctr En.Dop.D4 := ⟨95, Tryd.m95.p.bn, Tryd.m95.p.sp, Tryd.m95.p.rs, Tryd.m95.p.flat, .opt (Tryd.m95.R n)⟩
noncomputable def Tryd.m96.R (n : Nat) : Spec.D En.Dop.D4 ⟨[.al 0 0, .fd (.int .i64)], [bxA]⟩ → Option (Spec.D En.Dop.D4 ⟨[.fd (.int .i64)], [bxA]⟩) := (Tryd.g65.R n).2.2.2.2.1
noncomputable def Tryd.m96.c (n : Nat) : Ctr En.Dop.D4 := ⟨96, Tryd.m96.p.bn, Tryd.m96.p.sp, Tryd.m96.p.rs, Tryd.m96.p.flat, .opt (Tryd.m96.R n)⟩
noncomputable def Tryd.m98.R (n : Nat) : Spec.D En.Dop.D4 ⟨[.al 0 0], [bxA]⟩ → Option (Spec.D En.Dop.D4 ⟨[.fd (.int .i64)], [bxA]⟩) := (Tryd.g65.R n).2.2.2.2.2.1
noncomputable def Tryd.m98.c (n : Nat) : Ctr En.Dop.D4 := ⟨98, Tryd.m98.p.bn, Tryd.m98.p.sp, Tryd.m98.p.rs, Tryd.m98.p.flat, .opt (Tryd.m98.R n)⟩
noncomputable def Tryd.m65_1000098.R (n : Nat) : Spec.D En.Dop.D4 ⟨[.al 0 0, .fn 1000098 [(0, 0)]], [bxA]⟩ → Option (Spec.D En.Dop.D4 ⟨[.fd (.int .i64)], [bxA]⟩) := (Tryd.g65.R n).2.2.2.2.2.2.1
noncomputable def Tryd.m65_1000098.c (n : Nat) : Ctr En.Dop.D4 := ⟨65, Tryd.m65_1000098.p.bn, Tryd.m65_1000098.p.sp, Tryd.m65_1000098.p.rs, Tryd.m65_1000098.p.flat, .opt (Tryd.m65_1000098.R n)⟩
noncomputable def Tryd.m100.R (n : Nat) : Spec.D En.Dop.D4 ⟨[.al 0 0], [bxA]⟩ → Option (Spec.D En.Dop.D4 ⟨[.fd (.int .i64)], [bxA]⟩) := (Tryd.g65.R n).2.2.2.2.2.2.2.1
noncomputable def Tryd.m100.c (n : Nat) : Ctr En.Dop.D4 := ⟨100, Tryd.m100.p.bn, Tryd.m100.p.sp, Tryd.m100.p.rs, Tryd.m100.p.flat, .opt (Tryd.m100.R n)⟩
noncomputable def Tryd.m101.R (n : Nat) : Spec.D En.Dop.D4 ⟨[.al 0 0], [bxA]⟩ → Option (Spec.D En.Dop.D4 ⟨[.fd (.int .i64)], [bxA]⟩) := (Tryd.g65.R n).2.2.2.2.2.2.2.2.1
noncomputable def Tryd.m101.c (n : Nat) : Ctr En.Dop.D4 := ⟨101, Tryd.m101.p.bn, Tryd.m101.p.sp, Tryd.m101.p.rs, Tryd.m101.p.flat, .opt (Tryd.m101.R n)⟩
noncomputable def Tryd.m99.R (n : Nat) : Spec.D En.Dop.D4 ⟨[.al 0 0, .fd (.int .i64)], [bxA]⟩ → Option (Spec.D En.Dop.D4 ⟨[.fd (.int .i64)], [bxA]⟩) := (Tryd.g65.R n).2.2.2.2.2.2.2.2.2.1
noncomputable def Tryd.m99.c (n : Nat) : Ctr En.Dop.D4 := ⟨99, Tryd.m99.p.bn, Tryd.m99.p.sp, Tryd.m99.p.rs, Tryd.m99.p.flat, .opt (Tryd.m99.R n)⟩
noncomputable def Tryd.m65_1000095.R (n : Nat) : Spec.D En.Dop.D4 ⟨[.al 0 0, .fn 1000095 [(0, 0)]], [bxA]⟩ → Option (Spec.D En.Dop.D4 ⟨[.fd (.int .i64)], [bxA]⟩) := (Tryd.g65.R n).2.2.2.2.2.2.2.2.2.2.1
noncomputable def Tryd.m65_1000095.c (n : Nat) : Ctr En.Dop.D4 := ⟨65, Tryd.m65_1000095.p.bn, Tryd.m65_1000095.p.sp, Tryd.m65_1000095.p.rs, Tryd.m65_1000095.p.flat, .opt (Tryd.m65_1000095.R n)⟩
noncomputable def Tryd.m89.E (n : Nat) : Env En.Dop.D4 := envOf Tryd.prog 89 Tryd.tb ([Tryd.m79.c n, Tryd.m65_1000089.c n, Tryd.m89.c n, Tryd.m95.c n, Tryd.m96.c n, Tryd.m98.c n, Tryd.m65_1000098.c n, Tryd.m100.c n, Tryd.m101.c n, Tryd.m99.c n, Tryd.m65_1000095.c n] ++ [Tryd.fields.c, Tryd.m14.c, Tryd.m35.c, Tryd.m31.c, Tryd.m38.c]) Tryd.m89.p
noncomputable def Tryd.m96.E (n : Nat) : Env En.Dop.D4 := envOf Tryd.prog 96 Tryd.tb ([Tryd.m79.c n, Tryd.m65_1000089.c n, Tryd.m89.c n, Tryd.m95.c n, Tryd.m96.c n, Tryd.m98.c n, Tryd.m65_1000098.c n, Tryd.m100.c n, Tryd.m101.c n, Tryd.m99.c n, Tryd.m65_1000095.c n] ++ [Tryd.m97.c, Tryd.fields.c, Tryd.m14.c, Tryd.m35.c, Tryd.m31.c, Tryd.m38.c]) Tryd.m96.p
noncomputable def Tryd.m98.E (n : Nat) : Env En.Dop.D4 := envOf Tryd.prog 98 Tryd.tb ([Tryd.m79.c n, Tryd.m65_1000089.c n, Tryd.m89.c n, Tryd.m95.c n, Tryd.m96.c n, Tryd.m98.c n, Tryd.m65_1000098.c n, Tryd.m100.c n, Tryd.m101.c n, Tryd.m99.c n, Tryd.m65_1000095.c n] ++ [Tryd.m14.c, Tryd.fields.c, Tryd.m35.c, Tryd.m31.c, Tryd.m38.c, Tryd.m33.c, Tryd.m49.c, Tryd.m37.c, Tryd.m32.c, Tryd.m78q.c]) Tryd.m98.p
noncomputable def Tryd.m101.E (n : Nat) : Env En.Dop.D4 := envOf Tryd.prog 101 Tryd.tb ([Tryd.m79.c n, Tryd.m65_1000089.c n, Tryd.m89.c n, Tryd.m95.c n, Tryd.m96.c n, Tryd.m98.c n, Tryd.m65_1000098.c n, Tryd.m100.c n, Tryd.m101.c n, Tryd.m99.c n, Tryd.m65_1000095.c n] ++ [Tryd.m35.c, Tryd.m33.c, Tryd.m16.c]) Tryd.m101.p
noncomputable def Tryd.m99.E (n : Nat) : Env En.Dop.D4 := envOf Tryd.prog 99 Tryd.tb ([Tryd.m79.c n, Tryd.m65_1000089.c n, Tryd.m89.c n, Tryd.m95.c n, Tryd.m96.c n, Tryd.m98.c n, Tryd.m65_1000098.c n, Tryd.m100.c n, Tryd.m101.c n, Tryd.m99.c n, Tryd.m65_1000095.c n] ++ [Tryd.m14.c, Tryd.m31.c, Tryd.m35.c, Tryd.m33.c, Tryd.m34.c, Tryd.m38.c]) Tryd.m99.p
theorem Tryd.g65.all : ∀ n, (Tryd.m79.c n).Holds Tryd.prog ∧ (Tryd.m65_1000089.c n).Holds Tryd.prog ∧ (Tryd.m89.c n).Holds Tryd.prog ∧ (Tryd.m95.c n).Holds Tryd.prog ∧ (Tryd.m96.c n).Holds Tryd.prog ∧ (Tryd.m98.c n).Holds Tryd.prog ∧ (Tryd.m65_1000098.c n).Holds Tryd.prog ∧ (Tryd.m100.c n).Holds Tryd.prog ∧ (Tryd.m101.c n).Holds Tryd.prog ∧ (Tryd.m99.c n).Holds Tryd.prog ∧ (Tryd.m65_1000095.c n).Holds Tryd.prog ∧ True
 | 0 => ⟨ctr_none Tryd.tbOk Tryd.m79.ok, ctr_none Tryd.tbOk (by kernel_rfl), ctr_none Tryd.tbOk Tryd.m89.ok, ctr_none Tryd.tbOk Tryd.m95.ok, ctr_none Tryd.tbOk Tryd.m96.ok, ctr_none Tryd.tbOk Tryd.m98.ok, ctr_none Tryd.tbOk (by kernel_rfl), ctr_none Tryd.tbOk Tryd.m100.ok, ctr_none Tryd.tbOk Tryd.m101.ok, ctr_none Tryd.tbOk Tryd.m99.ok, ctr_none Tryd.tbOk (by kernel_rfl), trivial⟩
 | n + 1 => by
  obtain ⟨h0, h1, h2, h3, h4, h5, h6, h7, h8, h9, h10, _⟩ := Tryd.g65.all n
  exact ⟨fun_ctr 3000 Tryd.tbOk (hct_app (hct_cons h0 (hct_cons h1 (hct_cons h2 (hct_cons h3 (hct_cons h4 (hct_cons h5 (hct_cons h6 (hct_cons h7 (hct_cons h8 (hct_cons h9 (hct_cons h10 hct_nil))))))))))) hct_nil) Tryd.m79.ok, (w89.holds (m := Tryd.m89.R n) h2), fun_ctr 3000 Tryd.tbOk (hct_app (hct_cons h0 (hct_cons h1 (hct_cons h2 (hct_cons h3 (hct_cons h4 (hct_cons h5 (hct_cons h6 (hct_cons h7 (hct_cons h8 (hct_cons h9 (hct_cons h10 hct_nil))))))))))) (hct_cons Tryd.fields.holds (hct_cons Tryd.m14.holds (hct_cons Tryd.m35.holds (hct_cons Tryd.m31.holds (hct_cons Tryd.m38.holds hct_nil)))))) Tryd.m89.ok, fun_ctr 3000 Tryd.tbOk (hct_app (hct_cons h0 (hct_cons h1 (hct_cons h2 (hct_cons h3 (hct_cons h4 (hct_cons h5 (hct_cons h6 (hct_cons h7 (hct_cons h8 (hct_cons h9 (hct_cons h10 hct_nil))))))))))) (hct_cons Tryd.m14.holds (hct_cons Tryd.m35.holds (hct_cons Tryd.m31.holds (hct_cons Tryd.m33.holds (hct_cons Tryd.m38.holds hct_nil)))))) Tryd.m95.ok, fun_ctr 3000 Tryd.tbOk (hct_app (hct_cons h0 (hct_cons h1 (hct_cons h2 (hct_cons h3 (hct_cons h4 (hct_cons h5 (hct_cons h6 (hct_cons h7 (hct_cons h8 (hct_cons h9 (hct_cons h10 hct_nil))))))))))) (hct_cons Tryd.m97.holds (hct_cons Tryd.fields.holds (hct_cons Tryd.m14.holds (hct_cons Tryd.m35.holds (hct_cons Tryd.m31.holds (hct_cons Tryd.m38.holds hct_nil))))))) Tryd.m96.ok, fun_ctr 3000 Tryd.tbOk (hct_app (hct_cons h0 (hct_cons h1 (hct_cons h2 (hct_cons h3 (hct_cons h4 (hct_cons h5 (hct_cons h6 (hct_cons h7 (hct_cons h8 (hct_cons h9 (hct_cons h10 hct_nil))))))))))) (hct_cons Tryd.m14.holds (hct_cons Tryd.fields.holds (hct_cons Tryd.m35.holds (hct_cons Tryd.m31.holds (hct_cons Tryd.m38.holds (hct_cons Tryd.m33.holds (hct_cons Tryd.m49.holds (hct_cons Tryd.m37.holds (hct_cons Tryd.m32.holds (hct_cons Tryd.m78q.holds hct_nil))))))))))) Tryd.m98.ok, (w98.holds (m := Tryd.m98.R n) h5), fun_ctr 3000 Tryd.tbOk (hct_app (hct_cons h0 (hct_cons h1 (hct_cons h2 (hct_cons h3 (hct_cons h4 (hct_cons h5 (hct_cons h6 (hct_cons h7 (hct_cons h8 (hct_cons h9 (hct_cons h10 hct_nil))))))))))) (hct_cons Tryd.m14.holds (hct_cons Tryd.m31.holds (hct_cons Tryd.m35.holds (hct_cons Tryd.m33.holds (hct_cons Tryd.m38.holds hct_nil)))))) Tryd.m100.ok, fun_ctr 3000 Tryd.tbOk (hct_app (hct_cons h0 (hct_cons h1 (hct_cons h2 (hct_cons h3 (hct_cons h4 (hct_cons h5 (hct_cons h6 (hct_cons h7 (hct_cons h8 (hct_cons h9 (hct_cons h10 hct_nil))))))))))) (hct_cons Tryd.m35.holds (hct_cons Tryd.m33.holds (hct_cons Tryd.m16.holds hct_nil)))) Tryd.m101.ok, fun_ctr 3000 Tryd.tbOk (hct_app (hct_cons h0 (hct_cons h1 (hct_cons h2 (hct_cons h3 (hct_cons h4 (hct_cons h5 (hct_cons h6 (hct_cons h7 (hct_cons h8 (hct_cons h9 (hct_cons h10 hct_nil))))))))))) (hct_cons Tryd.m14.holds (hct_cons Tryd.m31.holds (hct_cons Tryd.m35.holds (hct_cons Tryd.m33.holds (hct_cons Tryd.m34.holds (hct_cons Tryd.m38.holds hct_nil))))))) Tryd.m99.ok, (w95.holds (m := Tryd.m95.R n) h3), trivial⟩
theorem Tryd.m79.holdsf : Tryd.m79.cf.Holds Tryd.prog := (Tryd.g65.all FU).1
noncomputable def Tryd.m79 (n : Nat) (c0 : List Dop.Tok) (c1 : Int) (c2 : List Dop.Nde) (c3 : List Dop.Typ) (c4 c5 c6 c7 : Int) : Option (Spec.D En.Dop.D4 ⟨[.fd (.int .i64)], [bxA]⟩) := Tryd.m79.R n (((), ()), ((c0, c1, c2, c3, c4, c5, c6, c7, ()), ()))
noncomputable def Tryd.m65_1000089 (n : Nat) (c0 : List Dop.Tok) (c1 : Int) (c2 : List Dop.Nde) (c3 : List Dop.Typ) (c4 c5 c6 c7 : Int) : Option (Spec.D En.Dop.D4 ⟨[.fd (.int .i64)], [bxA]⟩) := Tryd.m65_1000089.R n (((), (), ()), ((c0, c1, c2, c3, c4, c5, c6, c7, ()), ()))
noncomputable def Tryd.m89 (n : Nat) (c0 : List Dop.Tok) (c1 : Int) (c2 : List Dop.Nde) (c3 : List Dop.Typ) (c4 c5 c6 c7 : Int) : Option (Spec.D En.Dop.D4 ⟨[.fd (.int .i64)], [bxA]⟩) := Tryd.m89.R n (((), ()), ((c0, c1, c2, c3, c4, c5, c6, c7, ()), ()))
noncomputable def Tryd.m89_3 (n : Nat) (a : Int) (t10 : List (List UInt8)) (t11 : Int) (t12 : Int) (c0 : List Dop.Tok) (c1 : Int) (c2 : List Dop.Nde) (c3 : List Dop.Typ) (c4 c5 c6 c7 : Int) : Option (Spec.D En.Dop.D4 ⟨[.fd (.int .i64)], [bxA]⟩) := (Tryd.m89.E n).cut 3000 3 (((), a, t10, t11, t12, ()), ((c0, c1, c2, c3, c4, c5, c6, c7, ()), ()))
noncomputable def Tryd.m95 (n : Nat) (c0 : List Dop.Tok) (c1 : Int) (c2 : List Dop.Nde) (c3 : List Dop.Typ) (c4 c5 c6 c7 : Int) : Option (Spec.D En.Dop.D4 ⟨[.fd (.int .i64)], [bxA]⟩) := Tryd.m95.R n (((), ()), ((c0, c1, c2, c3, c4, c5, c6, c7, ()), ()))
noncomputable def Tryd.m96 (n : Nat) (k : Int) (c0 : List Dop.Tok) (c1 : Int) (c2 : List Dop.Nde) (c3 : List Dop.Typ) (c4 c5 c6 c7 : Int) : Option (Spec.D En.Dop.D4 ⟨[.fd (.int .i64)], [bxA]⟩) := Tryd.m96.R n (((), k, ()), ((c0, c1, c2, c3, c4, c5, c6, c7, ()), ()))
noncomputable def Tryd.m96_4 (n : Nat) (k : Int) (a : Int) (c0 : List Dop.Tok) (c1 : Int) (c2 : List Dop.Nde) (c3 : List Dop.Typ) (c4 c5 c6 c7 : Int) : Option (Spec.D En.Dop.D4 ⟨[.fd (.int .i64)], [bxA]⟩) := (Tryd.m96.E n).cut 3000 4 (((), k, a, ()), ((c0, c1, c2, c3, c4, c5, c6, c7, ()), ()))
noncomputable def Tryd.m96_5 (n : Nat) (k : Int) (a : Int) (t24 : List (List UInt8)) (t25 : Int) (t26 : Int) (c0 : List Dop.Tok) (c1 : Int) (c2 : List Dop.Nde) (c3 : List Dop.Typ) (c4 c5 c6 c7 : Int) : Option (Spec.D En.Dop.D4 ⟨[.fd (.int .i64)], [bxA]⟩) := (Tryd.m96.E n).cut 3000 5 (((), k, a, t24, t25, t26, ()), ((c0, c1, c2, c3, c4, c5, c6, c7, ()), ()))
noncomputable def Tryd.m98 (n : Nat) (c0 : List Dop.Tok) (c1 : Int) (c2 : List Dop.Nde) (c3 : List Dop.Typ) (c4 c5 c6 c7 : Int) : Option (Spec.D En.Dop.D4 ⟨[.fd (.int .i64)], [bxA]⟩) := Tryd.m98.R n (((), ()), ((c0, c1, c2, c3, c4, c5, c6, c7, ()), ()))
noncomputable def Tryd.m98_3 (n : Nat) (t3 : Int) (t13 : List (List UInt8)) (t14 : Int) (t15 : Int) (c0 : List Dop.Tok) (c1 : Int) (c2 : List Dop.Nde) (c3 : List Dop.Typ) (c4 c5 c6 c7 : Int) : Option (Spec.D En.Dop.D4 ⟨[.fd (.int .i64)], [bxA]⟩) := (Tryd.m98.E n).cut 3000 3 (((), t3, t13, t14, t15, ()), ((c0, c1, c2, c3, c4, c5, c6, c7, ()), ()))
noncomputable def Tryd.m65_1000098 (n : Nat) (c0 : List Dop.Tok) (c1 : Int) (c2 : List Dop.Nde) (c3 : List Dop.Typ) (c4 c5 c6 c7 : Int) : Option (Spec.D En.Dop.D4 ⟨[.fd (.int .i64)], [bxA]⟩) := Tryd.m65_1000098.R n (((), (), ()), ((c0, c1, c2, c3, c4, c5, c6, c7, ()), ()))
noncomputable def Tryd.m100 (n : Nat) (c0 : List Dop.Tok) (c1 : Int) (c2 : List Dop.Nde) (c3 : List Dop.Typ) (c4 c5 c6 c7 : Int) : Option (Spec.D En.Dop.D4 ⟨[.fd (.int .i64)], [bxA]⟩) := Tryd.m100.R n (((), ()), ((c0, c1, c2, c3, c4, c5, c6, c7, ()), ()))
noncomputable def Tryd.m101 (n : Nat) (c0 : List Dop.Tok) (c1 : Int) (c2 : List Dop.Nde) (c3 : List Dop.Typ) (c4 c5 c6 c7 : Int) : Option (Spec.D En.Dop.D4 ⟨[.fd (.int .i64)], [bxA]⟩) := Tryd.m101.R n (((), ()), ((c0, c1, c2, c3, c4, c5, c6, c7, ()), ()))
noncomputable def Tryd.m101_2 (n : Nat) (l : List (Int)) (c0 : List Dop.Tok) (c1 : Int) (c2 : List Dop.Nde) (c3 : List Dop.Typ) (c4 c5 c6 c7 : Int) : Option (Spec.D En.Dop.D4 ⟨[.fd (.int .i64)], [bxA]⟩) := (Tryd.m101.E n).cut 3000 2 (((), l, ()), ((c0, c1, c2, c3, c4, c5, c6, c7, ()), ()))
noncomputable def Tryd.m99 (n : Nat) (t1 : Int) (c0 : List Dop.Tok) (c1 : Int) (c2 : List Dop.Nde) (c3 : List Dop.Typ) (c4 c5 c6 c7 : Int) : Option (Spec.D En.Dop.D4 ⟨[.fd (.int .i64)], [bxA]⟩) := Tryd.m99.R n (((), t1, ()), ((c0, c1, c2, c3, c4, c5, c6, c7, ()), ()))
noncomputable def Tryd.m99_1 (n : Nat) (t1 : Int) (c0 : List Dop.Tok) (c1 : Int) (c2 : List Dop.Nde) (c3 : List Dop.Typ) (c4 c5 c6 c7 : Int) : Option (Spec.D En.Dop.D4 ⟨[.fd (.int .i64)], [bxA]⟩) := (Tryd.m99.E n).cut 3000 1 (((), t1, ()), ((c0, c1, c2, c3, c4, c5, c6, c7, ()), ()))
noncomputable def Tryd.m65_1000095 (n : Nat) (c0 : List Dop.Tok) (c1 : Int) (c2 : List Dop.Nde) (c3 : List Dop.Typ) (c4 c5 c6 c7 : Int) : Option (Spec.D En.Dop.D4 ⟨[.fd (.int .i64)], [bxA]⟩) := Tryd.m65_1000095.R n (((), (), ()), ((c0, c1, c2, c3, c4, c5, c6, c7, ()), ()))
theorem Tryd.m79_eq (n : Nat) (c0 : List Dop.Tok) (c1 : Int) (c2 : List Dop.Nde) (c3 : List Dop.Typ) (c4 c5 c6 c7 : Int) : m79 (n + 1) c0 c1 c2 c3 c4 c5 c6 c7 =
 (m65_1000089 (n) c0 c1 c2 c3 c4 c5 c6 c7).bind fun y2 =>
 some ((y2.1.1, ()), ((y2.2.1.1, (y2.2.1.2.1, (y2.2.1.2.2.1, (y2.2.1.2.2.2.1, (y2.2.1.2.2.2.2.1, (y2.2.1.2.2.2.2.2.1, (y2.2.1.2.2.2.2.2.2.1, (y2.2.1.2.2.2.2.2.2.2.1, ())))))))), ())) := by kernel_rfl
theorem Tryd.m89_eq (n : Nat) (c0 : List Dop.Tok) (c1 : Int) (c2 : List Dop.Nde) (c3 : List Dop.Typ) (c4 c5 c6 c7 : Int) : m89 (n + 1) c0 c1 c2 c3 c4 c5 c6 c7 =
 (m95 (n) c0 c1 c2 c3 c4 c5 c6 c7).bind fun y2 =>
 if (okL ([61, 32, 43, 61, 32, 45, 61, 32, 42, 61, 32, 47, 61, 32, 37, 61, 32, 38, 61, 32, 124, 61, 32, 94, 61, 32, 60, 60, 61, 32, 62, 62, 61] : List UInt8) && decide ((Lib.fields ([61, 32, 43, 61, 32, 45, 61, 32, 42, 61, 32, 47, 61, 32, 37, 61, 32, 38, 61, 32, 124, 61, 32, 94, 61, 32, 60, 60, 61, 32, 62, 62, 61] : List UInt8)).length ≤ maxLen)) = true then
  m89_3 n y2.1.1 (List.map (fun (a : List UInt8) => a) (Lib.fields ([61, 32, 43, 61, 32, 45, 61, 32, 42, 61, 32, 47, 61, 32, 37, 61, 32, 38, 61, 32, 124, 61, 32, 94, 61, 32, 60, 60, 61, 32, 62, 62, 61] : List UInt8))) (I (List.map (fun (a : List UInt8) => a) (Lib.fields ([61, 32, 43, 61, 32, 45, 61, 32, 42, 61, 32, 47, 61, 32, 37, 61, 32, 38, 61, 32, 124, 61, 32, 94, 61, 32, 60, 60, 61, 32, 62, 62, 61] : List UInt8))).length) ((0 : Int)) y2.2.1.1 y2.2.1.2.1 y2.2.1.2.2.1 y2.2.1.2.2.2.1 y2.2.1.2.2.2.2.1 y2.2.1.2.2.2.2.2.1 y2.2.1.2.2.2.2.2.2.1 y2.2.1.2.2.2.2.2.2.2.1
 else none := by kernel_rfl
theorem Tryd.m89_3_eq (n : Nat) (a : Int) (t10 : List (List UInt8)) (t11 : Int) (t12 : Int) (c0 : List Dop.Tok) (c1 : Int) (c2 : List Dop.Nde) (c3 : List Dop.Typ) (c4 c5 c6 c7 : Int) : m89_3 n a t10 t11 t12 c0 c1 c2 c3 c4 c5 c6 c7 =
 if (decide (t12 < t11)) = true then
 if (decide ((0 : Int) ≤ t12 ∧ t12 < I t10.length)) = true then
 if (decide (t12.toNat < t10.length)) = true then
  (m14 c0 c1 c2 c3 c4 c5 c6 c7).bind fun y3 =>
  (m35 (@List.getD (List UInt8) t10 t12.toNat (@List.nil UInt8)) y3.2.1.1 y3.2.1.2.1 y3.2.1.2.2.1 y3.2.1.2.2.2.1 y3.2.1.2.2.2.2.1 y3.2.1.2.2.2.2.2.1 y3.2.1.2.2.2.2.2.2.1 y3.2.1.2.2.2.2.2.2.2.1).bind fun y4 =>
 if y4.1.1 = true then
   (m31 ((5 : Int)) (y3.1.1.at_)).bind fun y6 =>
    (m79 (n) y4.2.1.1 y4.2.1.2.1 y4.2.1.2.2.1 y4.2.1.2.2.2.1 y4.2.1.2.2.2.2.1 y4.2.1.2.2.2.2.2.1 y4.2.1.2.2.2.2.2.2.1 y4.2.1.2.2.2.2.2.2.2.1).bind fun y7 =>
    (m38 (Dop.Nde.mk y6.1.1.kind a y7.1.1 y6.1.1.c y6.1.1.d (@List.getD (List UInt8) t10 t12.toNat (@List.nil UInt8)) y6.1.1.n y6.1.1.type_ y6.1.1.at_) y7.2.1.1 y7.2.1.2.1 y7.2.1.2.2.1 y7.2.1.2.2.2.1 y7.2.1.2.2.2.2.1 y7.2.1.2.2.2.2.2.1 y7.2.1.2.2.2.2.2.2.1 y7.2.1.2.2.2.2.2.2.2.1).bind fun y8 =>
 some ((y8.1.1, ()), ((y8.2.1.1, (y8.2.1.2.1, (y8.2.1.2.2.1, (y8.2.1.2.2.2.1, (y8.2.1.2.2.2.2.1, (y8.2.1.2.2.2.2.2.1, (y8.2.1.2.2.2.2.2.2.1, (y8.2.1.2.2.2.2.2.2.2.1, ())))))))), ()))
 else
 if (inR (t12 + (1 : Int))) = true then
   m89_3 n (a) (t10) (t11) (t12 + (1 : Int)) y4.2.1.1 y4.2.1.2.1 y4.2.1.2.2.1 y4.2.1.2.2.2.1 y4.2.1.2.2.2.2.1 y4.2.1.2.2.2.2.2.1 y4.2.1.2.2.2.2.2.2.1 y4.2.1.2.2.2.2.2.2.2.1
 else none
 else none
 else none
 else
 some ((a, ()), ((c0, (c1, (c2, (c3, (c4, (c5, (c6, (c7, ())))))))), ())) := Env.cut_eq' (E := Tryd.m89.E n) (f0 := 3000) (c := 3) (q := ⟨[[0, 0, 0, 0, 1, 0, 1, 1], [0, 1, 0, 0, 1, 0, 1, 1], [2, 0, 0, 1, 0, 1, 1], [1, 0], [0, 1, 1, 1]], [0, 3, 10, 11, 12], 1, ⟨[.al 0 0, .fd (.int .i64), .own 1 9, .fd (.int .i64), .fd (.int .i64)], [bxB]⟩⟩) (by kernel_rfl) (((), a, t10, t11, t12, ()), ((c0, c1, c2, c3, c4, c5, c6, c7, ()), ())) (by kernel_rfl) (by kernel_rfl)
theorem Tryd.m95_eq (n : Nat) (c0 : List Dop.Tok) (c1 : Int) (c2 : List Dop.Nde) (c3 : List Dop.Typ) (c4 c5 c6 c7 : Int) : m95 (n + 1) c0 c1 c2 c3 c4 c5 c6 c7 =
 (m96 (n) ((0 : Int)) c0 c1 c2 c3 c4 c5 c6 c7).bind fun y2 =>
  (m14 y2.2.1.1 y2.2.1.2.1 y2.2.1.2.2.1 y2.2.1.2.2.2.1 y2.2.1.2.2.2.2.1 y2.2.1.2.2.2.2.2.1 y2.2.1.2.2.2.2.2.2.1 y2.2.1.2.2.2.2.2.2.2.1).bind fun y3 =>
  (m35 ([63] : List UInt8) y3.2.1.1 y3.2.1.2.1 y3.2.1.2.2.1 y3.2.1.2.2.2.1 y3.2.1.2.2.2.2.1 y3.2.1.2.2.2.2.2.1 y3.2.1.2.2.2.2.2.2.1 y3.2.1.2.2.2.2.2.2.2.1).bind fun y4 =>
 if (!y4.1.1) = true then
 some ((y2.1.1, ()), ((y4.2.1.1, (y4.2.1.2.1, (y4.2.1.2.2.1, (y4.2.1.2.2.2.1, (y4.2.1.2.2.2.2.1, (y4.2.1.2.2.2.2.2.1, (y4.2.1.2.2.2.2.2.2.1, (y4.2.1.2.2.2.2.2.2.2.1, ())))))))), ()))
 else
   (m31 ((6 : Int)) (y3.1.1.at_)).bind fun y6 =>
    (m79 (n) y4.2.1.1 y4.2.1.2.1 y4.2.1.2.2.1 y4.2.1.2.2.2.1 y4.2.1.2.2.2.2.1 y4.2.1.2.2.2.2.2.1 y4.2.1.2.2.2.2.2.2.1 y4.2.1.2.2.2.2.2.2.2.1).bind fun y7 =>
    (m33 ([58] : List UInt8) y7.2.1.1 y7.2.1.2.1 y7.2.1.2.2.1 y7.2.1.2.2.2.1 y7.2.1.2.2.2.2.1 y7.2.1.2.2.2.2.2.1 y7.2.1.2.2.2.2.2.2.1 y7.2.1.2.2.2.2.2.2.2.1).bind fun y8 =>
     (m65_1000095 (n) y8.2.1.1 y8.2.1.2.1 y8.2.1.2.2.1 y8.2.1.2.2.2.1 y8.2.1.2.2.2.2.1 y8.2.1.2.2.2.2.2.1 y8.2.1.2.2.2.2.2.2.1 y8.2.1.2.2.2.2.2.2.2.1).bind fun y9 =>
     (m38 (Dop.Nde.mk y6.1.1.kind y2.1.1 y7.1.1 y9.1.1 y6.1.1.d y6.1.1.text y6.1.1.n y6.1.1.type_ y6.1.1.at_) y9.2.1.1 y9.2.1.2.1 y9.2.1.2.2.1 y9.2.1.2.2.2.1 y9.2.1.2.2.2.2.1 y9.2.1.2.2.2.2.2.1 y9.2.1.2.2.2.2.2.2.1 y9.2.1.2.2.2.2.2.2.2.1).bind fun y10 =>
 some ((y10.1.1, ()), ((y10.2.1.1, (y10.2.1.2.1, (y10.2.1.2.2.1, (y10.2.1.2.2.2.1, (y10.2.1.2.2.2.2.1, (y10.2.1.2.2.2.2.2.1, (y10.2.1.2.2.2.2.2.2.1, (y10.2.1.2.2.2.2.2.2.2.1, ())))))))), ())) := by kernel_rfl
theorem Tryd.m96_eq (n : Nat) (k : Int) (c0 : List Dop.Tok) (c1 : Int) (c2 : List Dop.Nde) (c3 : List Dop.Typ) (c4 c5 c6 c7 : Int) : m96 (n + 1) k c0 c1 c2 c3 c4 c5 c6 c7 =
 (m97).bind fun y2 =>
 if (decide (k = I y2.1.1.length)) = true then
  (m98 (n) c0 c1 c2 c3 c4 c5 c6 c7).bind fun y4 =>
 some ((y4.1.1, ()), ((y4.2.1.1, (y4.2.1.2.1, (y4.2.1.2.2.1, (y4.2.1.2.2.2.1, (y4.2.1.2.2.2.2.1, (y4.2.1.2.2.2.2.2.1, (y4.2.1.2.2.2.2.2.2.1, (y4.2.1.2.2.2.2.2.2.2.1, ())))))))), ()))
 else
 if (inR (k + (1 : Int))) = true then
  (m96 (n) (k + (1 : Int)) c0 c1 c2 c3 c4 c5 c6 c7).bind fun y4 =>
   m96_4 n (k) y4.1.1 y4.2.1.1 y4.2.1.2.1 y4.2.1.2.2.1 y4.2.1.2.2.2.1 y4.2.1.2.2.2.2.1 y4.2.1.2.2.2.2.2.1 y4.2.1.2.2.2.2.2.2.1 y4.2.1.2.2.2.2.2.2.2.1
 else none := by kernel_rfl
theorem Tryd.m96_4_eq (n : Nat) (k : Int) (a : Int) (c0 : List Dop.Tok) (c1 : Int) (c2 : List Dop.Nde) (c3 : List Dop.Typ) (c4 c5 c6 c7 : Int) : m96_4 n k a c0 c1 c2 c3 c4 c5 c6 c7 =
 (m97).bind fun y2 =>
 if (decide ((0 : Int) ≤ k ∧ k < I y2.1.1.length)) = true then
 if (decide (k.toNat < y2.1.1.length)) = true then
 if (okL (@List.getD (List UInt8) y2.1.1 k.toNat (@List.nil UInt8)) && decide ((Lib.fields (@List.getD (List UInt8) y2.1.1 k.toNat (@List.nil UInt8))).length ≤ maxLen)) = true then
  m96_5 n (k) (a) (List.map (fun (a : List UInt8) => a) (Lib.fields (@List.getD (List UInt8) y2.1.1 k.toNat (@List.nil UInt8)))) (I (List.map (fun (a : List UInt8) => a) (Lib.fields (@List.getD (List UInt8) y2.1.1 k.toNat (@List.nil UInt8)))).length) ((0 : Int)) c0 c1 c2 c3 c4 c5 c6 c7
 else none
 else none
 else none := Env.cut_eq' (E := Tryd.m96.E n) (f0 := 3000) (c := 4) (q := ⟨[[0, 0, 0, 0, 0, 0, 1, 1, 1, 0, 1], [0, 1, 0, 0, 0, 0, 1, 1, 1, 0, 1], [0, 1, 0, 0, 0, 1, 1, 1, 0, 1], [1, 1], [2, 0, 0, 1, 1, 1, 0, 1], [1, 0], [3, 0, 1]], [0, 1, 5], 1, ⟨[.al 0 0, .fd (.int .i64), .fd (.int .i64)], [bxB]⟩⟩) (by kernel_rfl) (((), k, a, ()), ((c0, c1, c2, c3, c4, c5, c6, c7, ()), ())) (by kernel_rfl) (by kernel_rfl)
theorem Tryd.m96_5_eq (n : Nat) (k : Int) (a : Int) (t24 : List (List UInt8)) (t25 : Int) (t26 : Int) (c0 : List Dop.Tok) (c1 : Int) (c2 : List Dop.Nde) (c3 : List Dop.Typ) (c4 c5 c6 c7 : Int) : m96_5 n k a t24 t25 t26 c0 c1 c2 c3 c4 c5 c6 c7 =
 if (decide (t26 < t25)) = true then
 if (decide ((0 : Int) ≤ t26 ∧ t26 < I t24.length)) = true then
 if (decide (t26.toNat < t24.length)) = true then
  (m14 c0 c1 c2 c3 c4 c5 c6 c7).bind fun y3 =>
  (m35 (@List.getD (List UInt8) t24 t26.toNat (@List.nil UInt8)) y3.2.1.1 y3.2.1.2.1 y3.2.1.2.2.1 y3.2.1.2.2.2.1 y3.2.1.2.2.2.2.1 y3.2.1.2.2.2.2.2.1 y3.2.1.2.2.2.2.2.2.1 y3.2.1.2.2.2.2.2.2.2.1).bind fun y4 =>
 if y4.1.1 = true then
   (m31 ((4 : Int)) (y3.1.1.at_)).bind fun y6 =>
 if (inR (k + (1 : Int))) = true then
    (m96 (n) (k + (1 : Int)) y4.2.1.1 y4.2.1.2.1 y4.2.1.2.2.1 y4.2.1.2.2.2.1 y4.2.1.2.2.2.2.1 y4.2.1.2.2.2.2.2.1 y4.2.1.2.2.2.2.2.2.1 y4.2.1.2.2.2.2.2.2.2.1).bind fun y7 =>
    (m38 (Dop.Nde.mk y6.1.1.kind a y7.1.1 y6.1.1.c y6.1.1.d (@List.getD (List UInt8) t24 t26.toNat (@List.nil UInt8)) y6.1.1.n y6.1.1.type_ y6.1.1.at_) y7.2.1.1 y7.2.1.2.1 y7.2.1.2.2.1 y7.2.1.2.2.2.1 y7.2.1.2.2.2.2.1 y7.2.1.2.2.2.2.2.1 y7.2.1.2.2.2.2.2.2.1 y7.2.1.2.2.2.2.2.2.2.1).bind fun y8 =>
     m96_4 n (k) y8.1.1 y8.2.1.1 y8.2.1.2.1 y8.2.1.2.2.1 y8.2.1.2.2.2.1 y8.2.1.2.2.2.2.1 y8.2.1.2.2.2.2.2.1 y8.2.1.2.2.2.2.2.2.1 y8.2.1.2.2.2.2.2.2.2.1
 else none
 else
 if (inR (t26 + (1 : Int))) = true then
   m96_5 n (k) (a) (t24) (t25) (t26 + (1 : Int)) y4.2.1.1 y4.2.1.2.1 y4.2.1.2.2.1 y4.2.1.2.2.2.1 y4.2.1.2.2.2.2.1 y4.2.1.2.2.2.2.2.1 y4.2.1.2.2.2.2.2.2.1 y4.2.1.2.2.2.2.2.2.2.1
 else none
 else none
 else none
 else
 some ((a, ()), ((c0, (c1, (c2, (c3, (c4, (c5, (c6, (c7, ())))))))), ())) := Env.cut_eq' (E := Tryd.m96.E n) (f0 := 3000) (c := 5) (q := ⟨[[0, 0, 0, 0, 1, 0, 0, 0, 0, 1, 1, 1, 0, 1], [0, 1, 0, 0, 1, 0, 0, 0, 0, 1, 1, 1, 0, 1], [2, 0, 0, 1, 0, 0, 0, 0, 1, 1, 1, 0, 1], [1, 2], [0, 1, 0, 0, 0, 1, 1, 1, 0, 1], [1, 1], [2, 0, 0, 1, 1, 1, 0, 1], [1, 0], [3, 0, 1]], [0, 1, 5, 24, 25, 26], 1, ⟨[.al 0 0, .fd (.int .i64), .fd (.int .i64), .own 1 9, .fd (.int .i64), .fd (.int .i64)], [bxB]⟩⟩) (by kernel_rfl) (((), k, a, t24, t25, t26, ()), ((c0, c1, c2, c3, c4, c5, c6, c7, ()), ())) (by kernel_rfl) (by kernel_rfl)
theorem Tryd.m98_eq (n : Nat) (c0 : List Dop.Tok) (c1 : Int) (c2 : List Dop.Nde) (c3 : List Dop.Typ) (c4 c5 c6 c7 : Int) : m98 (n + 1) c0 c1 c2 c3 c4 c5 c6 c7 =
 (m14 c0 c1 c2 c3 c4 c5 c6 c7).bind fun y2 =>
 if (okL ([43, 43, 32, 45, 45, 32, 45, 32, 33, 32, 126, 32, 42, 32, 38] : List UInt8) && decide ((Lib.fields ([43, 43, 32, 45, 45, 32, 45, 32, 33, 32, 126, 32, 42, 32, 38] : List UInt8)).length ≤ maxLen)) = true then
  m98_3 n (y2.1.1.at_) (List.map (fun (a : List UInt8) => a) (Lib.fields ([43, 43, 32, 45, 45, 32, 45, 32, 33, 32, 126, 32, 42, 32, 38] : List UInt8))) (I (List.map (fun (a : List UInt8) => a) (Lib.fields ([43, 43, 32, 45, 45, 32, 45, 32, 33, 32, 126, 32, 42, 32, 38] : List UInt8))).length) ((0 : Int)) y2.2.1.1 y2.2.1.2.1 y2.2.1.2.2.1 y2.2.1.2.2.2.1 y2.2.1.2.2.2.2.1 y2.2.1.2.2.2.2.2.1 y2.2.1.2.2.2.2.2.2.1 y2.2.1.2.2.2.2.2.2.2.1
 else none := by kernel_rfl
theorem Tryd.m98_3_eq (n : Nat) (t3 : Int) (t13 : List (List UInt8)) (t14 : Int) (t15 : Int) (c0 : List Dop.Tok) (c1 : Int) (c2 : List Dop.Nde) (c3 : List Dop.Typ) (c4 c5 c6 c7 : Int) : m98_3 n t3 t13 t14 t15 c0 c1 c2 c3 c4 c5 c6 c7 =
 if (decide (t15 < t14)) = true then
 if (decide ((0 : Int) ≤ t15 ∧ t15 < I t13.length)) = true then
 if (decide (t15.toNat < t13.length)) = true then
  (m35 (@List.getD (List UInt8) t13 t15.toNat (@List.nil UInt8)) c0 c1 c2 c3 c4 c5 c6 c7).bind fun y3 =>
 if y3.1.1 = true then
   (m31 ((3 : Int)) (t3)).bind fun y5 =>
 if (decide (I (@List.getD (List UInt8) t13 t15.toNat (@List.nil UInt8)).length = (2 : Int))) = true then
    (m65_1000098 (n) y3.2.1.1 y3.2.1.2.1 y3.2.1.2.2.1 y3.2.1.2.2.2.1 y3.2.1.2.2.2.2.1 y3.2.1.2.2.2.2.2.1 y3.2.1.2.2.2.2.2.2.1 y3.2.1.2.2.2.2.2.2.2.1).bind fun y7 =>
    (m38 (Dop.Nde.mk (12 : Int) y7.1.1 y5.1.1.b y5.1.1.c y5.1.1.d (@List.getD (List UInt8) t13 t15.toNat (@List.nil UInt8)) y5.1.1.n y5.1.1.type_ y5.1.1.at_) y7.2.1.1 y7.2.1.2.1 y7.2.1.2.2.1 y7.2.1.2.2.2.1 y7.2.1.2.2.2.2.1 y7.2.1.2.2.2.2.2.1 y7.2.1.2.2.2.2.2.2.1 y7.2.1.2.2.2.2.2.2.2.1).bind fun y8 =>
 some ((y8.1.1, ()), ((y8.2.1.1, (y8.2.1.2.1, (y8.2.1.2.2.1, (y8.2.1.2.2.2.1, (y8.2.1.2.2.2.2.1, (y8.2.1.2.2.2.2.2.1, (y8.2.1.2.2.2.2.2.2.1, (y8.2.1.2.2.2.2.2.2.2.1, ())))))))), ()))
 else
    (m65_1000098 (n) y3.2.1.1 y3.2.1.2.1 y3.2.1.2.2.1 y3.2.1.2.2.2.1 y3.2.1.2.2.2.2.1 y3.2.1.2.2.2.2.2.1 y3.2.1.2.2.2.2.2.2.1 y3.2.1.2.2.2.2.2.2.2.1).bind fun y7 =>
    (m38 (Dop.Nde.mk y5.1.1.kind y7.1.1 y5.1.1.b y5.1.1.c y5.1.1.d (@List.getD (List UInt8) t13 t15.toNat (@List.nil UInt8)) y5.1.1.n y5.1.1.type_ y5.1.1.at_) y7.2.1.1 y7.2.1.2.1 y7.2.1.2.2.1 y7.2.1.2.2.2.1 y7.2.1.2.2.2.2.1 y7.2.1.2.2.2.2.2.1 y7.2.1.2.2.2.2.2.2.1 y7.2.1.2.2.2.2.2.2.2.1).bind fun y8 =>
 some ((y8.1.1, ()), ((y8.2.1.1, (y8.2.1.2.1, (y8.2.1.2.2.1, (y8.2.1.2.2.2.1, (y8.2.1.2.2.2.2.1, (y8.2.1.2.2.2.2.2.1, (y8.2.1.2.2.2.2.2.2.1, (y8.2.1.2.2.2.2.2.2.2.1, ())))))))), ()))
 else
 if (inR (t15 + (1 : Int))) = true then
   m98_3 n (t3) (t13) (t14) (t15 + (1 : Int)) y3.2.1.1 y3.2.1.2.1 y3.2.1.2.2.1 y3.2.1.2.2.2.1 y3.2.1.2.2.2.2.1 y3.2.1.2.2.2.2.2.1 y3.2.1.2.2.2.2.2.2.1 y3.2.1.2.2.2.2.2.2.2.1
 else none
 else none
 else none
 else
  (m35 ([115, 105, 122, 101, 111, 102] : List UInt8) c0 c1 c2 c3 c4 c5 c6 c7).bind fun y3 =>
 if y3.1.1 = true then
   (m31 ((11 : Int)) (t3)).bind fun y5 =>
   (m33 ([40] : List UInt8) y3.2.1.1 y3.2.1.2.1 y3.2.1.2.2.1 y3.2.1.2.2.2.1 y3.2.1.2.2.2.2.1 y3.2.1.2.2.2.2.2.1 y3.2.1.2.2.2.2.2.2.1 y3.2.1.2.2.2.2.2.2.2.1).bind fun y6 =>
    (m49 y6.2.1.1 y6.2.1.2.1 y6.2.1.2.2.1 y6.2.1.2.2.2.1 y6.2.1.2.2.2.2.1 y6.2.1.2.2.2.2.2.1 y6.2.1.2.2.2.2.2.2.1 y6.2.1.2.2.2.2.2.2.2.1).bind fun y7 =>
    (m37 y7.1.1 y7.2.1.1 y7.2.1.2.1 y7.2.1.2.2.1 y7.2.1.2.2.2.1 y7.2.1.2.2.2.2.1 y7.2.1.2.2.2.2.2.1 y7.2.1.2.2.2.2.2.2.1 y7.2.1.2.2.2.2.2.2.2.1).bind fun y8 =>
     (m33 ([41] : List UInt8) y8.2.1.1 y8.2.1.2.1 y8.2.1.2.2.1 y8.2.1.2.2.2.1 y8.2.1.2.2.2.2.1 y8.2.1.2.2.2.2.2.1 y8.2.1.2.2.2.2.2.2.1 y8.2.1.2.2.2.2.2.2.2.1).bind fun y9 =>
     (m38 (Dop.Nde.mk y5.1.1.kind y5.1.1.a y5.1.1.b y5.1.1.c y5.1.1.d y5.1.1.text y5.1.1.n y8.1.1 y5.1.1.at_) y9.2.1.1 y9.2.1.2.1 y9.2.1.2.2.1 y9.2.1.2.2.2.1 y9.2.1.2.2.2.2.1 y9.2.1.2.2.2.2.2.1 y9.2.1.2.2.2.2.2.2.1 y9.2.1.2.2.2.2.2.2.2.1).bind fun y10 =>
 some ((y10.1.1, ()), ((y10.2.1.1, (y10.2.1.2.1, (y10.2.1.2.2.1, (y10.2.1.2.2.2.1, (y10.2.1.2.2.2.2.1, (y10.2.1.2.2.2.2.2.1, (y10.2.1.2.2.2.2.2.2.1, (y10.2.1.2.2.2.2.2.2.2.1, ())))))))), ()))
 else
   (m32 ([40] : List UInt8) y3.2.1.1 y3.2.1.2.1 y3.2.1.2.2.1 y3.2.1.2.2.2.1 y3.2.1.2.2.2.2.1 y3.2.1.2.2.2.2.2.1 y3.2.1.2.2.2.2.2.2.1 y3.2.1.2.2.2.2.2.2.2.1).bind fun y5 =>
 if y5.1.1 = true then
 if (inR (y5.2.1.2.1 + (1 : Int))) = true then
 if (decide (y5.2.1.2.1 + (1 : Int) < I y5.2.1.1.length)) = true then
 if (inR (y5.2.1.2.1 + (1 : Int))) = true then
    (m78q y5.2.1.1 (y5.2.1.2.1 + (1 : Int)) y5.2.1.2.2.2.2.1 y5.2.1.2.2.2.2.2.1 y5.2.1.2.2.2.2.2.2.1 y5.2.1.2.2.2.2.2.2.2.1).bind fun y8 =>
 if y8.1.1 = true then
     (m31 ((10 : Int)) (t3)).bind fun y10 =>
      (m33 ([40] : List UInt8) y5.2.1.1 y5.2.1.2.1 y5.2.1.2.2.1 y5.2.1.2.2.2.1 y5.2.1.2.2.2.2.1 y5.2.1.2.2.2.2.2.1 y5.2.1.2.2.2.2.2.2.1 y5.2.1.2.2.2.2.2.2.2.1).bind fun y11 =>
      (m49 y11.2.1.1 y11.2.1.2.1 y11.2.1.2.2.1 y11.2.1.2.2.2.1 y11.2.1.2.2.2.2.1 y11.2.1.2.2.2.2.2.1 y11.2.1.2.2.2.2.2.2.1 y11.2.1.2.2.2.2.2.2.2.1).bind fun y12 =>
       (m33 ([41] : List UInt8) y12.2.1.1 y12.2.1.2.1 y12.2.1.2.2.1 y12.2.1.2.2.2.1 y12.2.1.2.2.2.2.1 y12.2.1.2.2.2.2.2.1 y12.2.1.2.2.2.2.2.2.1 y12.2.1.2.2.2.2.2.2.2.1).bind fun y13 =>
       (m65_1000098 (n) y13.2.1.1 y13.2.1.2.1 y13.2.1.2.2.1 y13.2.1.2.2.2.1 y13.2.1.2.2.2.2.1 y13.2.1.2.2.2.2.2.1 y13.2.1.2.2.2.2.2.2.1 y13.2.1.2.2.2.2.2.2.2.1).bind fun y14 =>
        (m38 (Dop.Nde.mk y10.1.1.kind y14.1.1 y10.1.1.b y10.1.1.c y10.1.1.d y10.1.1.text y10.1.1.n y12.1.1 y10.1.1.at_) y14.2.1.1 y14.2.1.2.1 y14.2.1.2.2.1 y14.2.1.2.2.2.1 y14.2.1.2.2.2.2.1 y14.2.1.2.2.2.2.2.1 y14.2.1.2.2.2.2.2.2.1 y14.2.1.2.2.2.2.2.2.2.1).bind fun y15 =>
 some ((y15.1.1, ()), ((y15.2.1.1, (y15.2.1.2.1, (y15.2.1.2.2.1, (y15.2.1.2.2.2.1, (y15.2.1.2.2.2.2.1, (y15.2.1.2.2.2.2.2.1, (y15.2.1.2.2.2.2.2.2.1, (y15.2.1.2.2.2.2.2.2.2.1, ())))))))), ()))
 else
     (m100 (n) y5.2.1.1 y5.2.1.2.1 y5.2.1.2.2.1 y5.2.1.2.2.2.1 y5.2.1.2.2.2.2.1 y5.2.1.2.2.2.2.2.1 y5.2.1.2.2.2.2.2.2.1 y5.2.1.2.2.2.2.2.2.2.1).bind fun y10 =>
      (m99 (n) y10.1.1 y10.2.1.1 y10.2.1.2.1 y10.2.1.2.2.1 y10.2.1.2.2.2.1 y10.2.1.2.2.2.2.1 y10.2.1.2.2.2.2.2.1 y10.2.1.2.2.2.2.2.2.1 y10.2.1.2.2.2.2.2.2.2.1).bind fun y11 =>
 some ((y11.1.1, ()), ((y11.2.1.1, (y11.2.1.2.1, (y11.2.1.2.2.1, (y11.2.1.2.2.2.1, (y11.2.1.2.2.2.2.1, (y11.2.1.2.2.2.2.2.1, (y11.2.1.2.2.2.2.2.2.1, (y11.2.1.2.2.2.2.2.2.2.1, ())))))))), ()))
 else none
 else
    (m100 (n) y5.2.1.1 y5.2.1.2.1 y5.2.1.2.2.1 y5.2.1.2.2.2.1 y5.2.1.2.2.2.2.1 y5.2.1.2.2.2.2.2.1 y5.2.1.2.2.2.2.2.2.1 y5.2.1.2.2.2.2.2.2.2.1).bind fun y8 =>
     (m99 (n) y8.1.1 y8.2.1.1 y8.2.1.2.1 y8.2.1.2.2.1 y8.2.1.2.2.2.1 y8.2.1.2.2.2.2.1 y8.2.1.2.2.2.2.2.1 y8.2.1.2.2.2.2.2.2.1 y8.2.1.2.2.2.2.2.2.2.1).bind fun y9 =>
 some ((y9.1.1, ()), ((y9.2.1.1, (y9.2.1.2.1, (y9.2.1.2.2.1, (y9.2.1.2.2.2.1, (y9.2.1.2.2.2.2.1, (y9.2.1.2.2.2.2.2.1, (y9.2.1.2.2.2.2.2.2.1, (y9.2.1.2.2.2.2.2.2.2.1, ())))))))), ()))
 else none
 else
    (m100 (n) y5.2.1.1 y5.2.1.2.1 y5.2.1.2.2.1 y5.2.1.2.2.2.1 y5.2.1.2.2.2.2.1 y5.2.1.2.2.2.2.2.1 y5.2.1.2.2.2.2.2.2.1 y5.2.1.2.2.2.2.2.2.2.1).bind fun y7 =>
    (m99 (n) y7.1.1 y7.2.1.1 y7.2.1.2.1 y7.2.1.2.2.1 y7.2.1.2.2.2.1 y7.2.1.2.2.2.2.1 y7.2.1.2.2.2.2.2.1 y7.2.1.2.2.2.2.2.2.1 y7.2.1.2.2.2.2.2.2.2.1).bind fun y8 =>
 some ((y8.1.1, ()), ((y8.2.1.1, (y8.2.1.2.1, (y8.2.1.2.2.1, (y8.2.1.2.2.2.1, (y8.2.1.2.2.2.2.1, (y8.2.1.2.2.2.2.2.1, (y8.2.1.2.2.2.2.2.2.1, (y8.2.1.2.2.2.2.2.2.2.1, ())))))))), ())) := Env.cut_eq' (E := Tryd.m98.E n) (f0 := 3000) (c := 3) (q := ⟨[[0, 0, 0, 0, 1, 0, 1, 1], [0, 1, 0, 0, 1, 0, 1, 1], [2, 0, 0, 1, 0, 1, 1], [1, 0], [0, 1, 1, 1]], [0, 3, 13, 14, 15], 1, ⟨[.al 0 0, .fd (.int .i64), .own 1 9, .fd (.int .i64), .fd (.int .i64)], [bxB]⟩⟩) (by kernel_rfl) (((), t3, t13, t14, t15, ()), ((c0, c1, c2, c3, c4, c5, c6, c7, ()), ())) (by kernel_rfl) (by kernel_rfl)
theorem Tryd.m100_eq (n : Nat) (c0 : List Dop.Tok) (c1 : Int) (c2 : List Dop.Nde) (c3 : List Dop.Typ) (c4 c5 c6 c7 : Int) : m100 (n + 1) c0 c1 c2 c3 c4 c5 c6 c7 =
 (m14 c0 c1 c2 c3 c4 c5 c6 c7).bind fun y2 =>
  (m31 ((1 : Int)) (y2.1.1.at_)).bind fun y3 =>
 if (decide (y2.1.1.kind = (3 : Int))) = true then
 if (inR (y2.2.1.2.1 + (1 : Int))) = true then
   (m38 (Dop.Nde.mk y3.1.1.kind y3.1.1.a y3.1.1.b y3.1.1.c y3.1.1.d y3.1.1.text y2.1.1.n y3.1.1.type_ y3.1.1.at_) y2.2.1.1 (y2.2.1.2.1 + (1 : Int)) y2.2.1.2.2.1 y2.2.1.2.2.2.1 y2.2.1.2.2.2.2.1 y2.2.1.2.2.2.2.2.1 y2.2.1.2.2.2.2.2.2.1 y2.2.1.2.2.2.2.2.2.2.1).bind fun y5 =>
 some ((y5.1.1, ()), ((y5.2.1.1, (y5.2.1.2.1, (y5.2.1.2.2.1, (y5.2.1.2.2.2.1, (y5.2.1.2.2.2.2.1, (y5.2.1.2.2.2.2.2.1, (y5.2.1.2.2.2.2.2.2.1, (y5.2.1.2.2.2.2.2.2.2.1, ())))))))), ()))
 else none
 else
 if (decide (y2.1.1.kind = (1 : Int))) = true then
 if (inR (y2.2.1.2.1 + (1 : Int))) = true then
   (m35 ([40] : List UInt8) y2.2.1.1 (y2.2.1.2.1 + (1 : Int)) y2.2.1.2.2.1 y2.2.1.2.2.2.1 y2.2.1.2.2.2.2.1 y2.2.1.2.2.2.2.2.1 y2.2.1.2.2.2.2.2.2.1 y2.2.1.2.2.2.2.2.2.2.1).bind fun y6 =>
 if y6.1.1 = true then
    (m101 (n) y6.2.1.1 y6.2.1.2.1 y6.2.1.2.2.1 y6.2.1.2.2.2.1 y6.2.1.2.2.2.2.1 y6.2.1.2.2.2.2.2.1 y6.2.1.2.2.2.2.2.2.1 y6.2.1.2.2.2.2.2.2.2.1).bind fun y8 =>
     (m38 (Dop.Nde.mk (9 : Int) y8.1.1 y3.1.1.b y3.1.1.c y3.1.1.d y2.1.1.text y3.1.1.n y3.1.1.type_ y3.1.1.at_) y8.2.1.1 y8.2.1.2.1 y8.2.1.2.2.1 y8.2.1.2.2.2.1 y8.2.1.2.2.2.2.1 y8.2.1.2.2.2.2.2.1 y8.2.1.2.2.2.2.2.2.1 y8.2.1.2.2.2.2.2.2.2.1).bind fun y9 =>
 some ((y9.1.1, ()), ((y9.2.1.1, (y9.2.1.2.1, (y9.2.1.2.2.1, (y9.2.1.2.2.2.1, (y9.2.1.2.2.2.2.1, (y9.2.1.2.2.2.2.2.1, (y9.2.1.2.2.2.2.2.2.1, (y9.2.1.2.2.2.2.2.2.2.1, ())))))))), ()))
 else
    (m38 (Dop.Nde.mk (2 : Int) y3.1.1.a y3.1.1.b y3.1.1.c y3.1.1.d y2.1.1.text y3.1.1.n y3.1.1.type_ y3.1.1.at_) y6.2.1.1 y6.2.1.2.1 y6.2.1.2.2.1 y6.2.1.2.2.2.1 y6.2.1.2.2.2.2.1 y6.2.1.2.2.2.2.2.1 y6.2.1.2.2.2.2.2.2.1 y6.2.1.2.2.2.2.2.2.2.1).bind fun y8 =>
 some ((y8.1.1, ()), ((y8.2.1.1, (y8.2.1.2.1, (y8.2.1.2.2.1, (y8.2.1.2.2.2.1, (y8.2.1.2.2.2.2.1, (y8.2.1.2.2.2.2.2.1, (y8.2.1.2.2.2.2.2.2.1, (y8.2.1.2.2.2.2.2.2.2.1, ())))))))), ()))
 else none
 else
   (m35 ([40] : List UInt8) y2.2.1.1 y2.2.1.2.1 y2.2.1.2.2.1 y2.2.1.2.2.2.1 y2.2.1.2.2.2.2.1 y2.2.1.2.2.2.2.2.1 y2.2.1.2.2.2.2.2.2.1 y2.2.1.2.2.2.2.2.2.2.1).bind fun y6 =>
 if y6.1.1 = true then
    (m79 (n) y6.2.1.1 y6.2.1.2.1 y6.2.1.2.2.1 y6.2.1.2.2.2.1 y6.2.1.2.2.2.2.1 y6.2.1.2.2.2.2.2.1 y6.2.1.2.2.2.2.2.2.1 y6.2.1.2.2.2.2.2.2.2.1).bind fun y8 =>
     (m33 ([41] : List UInt8) y8.2.1.1 y8.2.1.2.1 y8.2.1.2.2.1 y8.2.1.2.2.2.1 y8.2.1.2.2.2.2.1 y8.2.1.2.2.2.2.2.1 y8.2.1.2.2.2.2.2.2.1 y8.2.1.2.2.2.2.2.2.2.1).bind fun y9 =>
 some ((y8.1.1, ()), ((y9.2.1.1, (y9.2.1.2.1, (y9.2.1.2.2.1, (y9.2.1.2.2.2.1, (y9.2.1.2.2.2.2.1, (y9.2.1.2.2.2.2.2.1, (y9.2.1.2.2.2.2.2.2.1, (y9.2.1.2.2.2.2.2.2.2.1, ())))))))), ()))
 else
    (m35 ([103, 101, 116, 99] : List UInt8) y6.2.1.1 y6.2.1.2.1 y6.2.1.2.2.1 y6.2.1.2.2.2.1 y6.2.1.2.2.2.2.1 y6.2.1.2.2.2.2.2.1 y6.2.1.2.2.2.2.2.2.1 y6.2.1.2.2.2.2.2.2.2.1).bind fun y8 =>
 if y8.1.1 = true then
     (m33 ([40] : List UInt8) y8.2.1.1 y8.2.1.2.1 y8.2.1.2.2.1 y8.2.1.2.2.2.1 y8.2.1.2.2.2.2.1 y8.2.1.2.2.2.2.2.1 y8.2.1.2.2.2.2.2.2.1 y8.2.1.2.2.2.2.2.2.2.1).bind fun y10 =>
      (m33 ([41] : List UInt8) y10.2.1.1 y10.2.1.2.1 y10.2.1.2.2.1 y10.2.1.2.2.2.1 y10.2.1.2.2.2.2.1 y10.2.1.2.2.2.2.2.1 y10.2.1.2.2.2.2.2.2.1 y10.2.1.2.2.2.2.2.2.2.1).bind fun y11 =>
      (m38 (Dop.Nde.mk (14 : Int) y3.1.1.a y3.1.1.b y3.1.1.c y3.1.1.d y3.1.1.text y3.1.1.n y3.1.1.type_ y3.1.1.at_) y11.2.1.1 y11.2.1.2.1 y11.2.1.2.2.1 y11.2.1.2.2.2.1 y11.2.1.2.2.2.2.1 y11.2.1.2.2.2.2.2.1 y11.2.1.2.2.2.2.2.2.1 y11.2.1.2.2.2.2.2.2.2.1).bind fun y12 =>
 some ((y12.1.1, ()), ((y12.2.1.1, (y12.2.1.2.1, (y12.2.1.2.2.1, (y12.2.1.2.2.2.1, (y12.2.1.2.2.2.2.1, (y12.2.1.2.2.2.2.2.1, (y12.2.1.2.2.2.2.2.2.1, (y12.2.1.2.2.2.2.2.2.2.1, ())))))))), ()))
 else
     (m33 ([112, 117, 116, 99] : List UInt8) y8.2.1.1 y8.2.1.2.1 y8.2.1.2.2.1 y8.2.1.2.2.2.1 y8.2.1.2.2.2.2.1 y8.2.1.2.2.2.2.2.1 y8.2.1.2.2.2.2.2.2.1 y8.2.1.2.2.2.2.2.2.2.1).bind fun y10 =>
      (m33 ([40] : List UInt8) y10.2.1.1 y10.2.1.2.1 y10.2.1.2.2.1 y10.2.1.2.2.2.1 y10.2.1.2.2.2.2.1 y10.2.1.2.2.2.2.2.1 y10.2.1.2.2.2.2.2.2.1 y10.2.1.2.2.2.2.2.2.2.1).bind fun y11 =>
      (m79 (n) y11.2.1.1 y11.2.1.2.1 y11.2.1.2.2.1 y11.2.1.2.2.2.1 y11.2.1.2.2.2.2.1 y11.2.1.2.2.2.2.2.1 y11.2.1.2.2.2.2.2.2.1 y11.2.1.2.2.2.2.2.2.2.1).bind fun y12 =>
       (m33 ([41] : List UInt8) y12.2.1.1 y12.2.1.2.1 y12.2.1.2.2.1 y12.2.1.2.2.2.1 y12.2.1.2.2.2.2.1 y12.2.1.2.2.2.2.2.1 y12.2.1.2.2.2.2.2.2.1 y12.2.1.2.2.2.2.2.2.2.1).bind fun y13 =>
       (m38 (Dop.Nde.mk (15 : Int) y12.1.1 y3.1.1.b y3.1.1.c y3.1.1.d y3.1.1.text y3.1.1.n y3.1.1.type_ y3.1.1.at_) y13.2.1.1 y13.2.1.2.1 y13.2.1.2.2.1 y13.2.1.2.2.2.1 y13.2.1.2.2.2.2.1 y13.2.1.2.2.2.2.2.1 y13.2.1.2.2.2.2.2.2.1 y13.2.1.2.2.2.2.2.2.2.1).bind fun y14 =>
 some ((y14.1.1, ()), ((y14.2.1.1, (y14.2.1.2.1, (y14.2.1.2.2.1, (y14.2.1.2.2.2.1, (y14.2.1.2.2.2.2.1, (y14.2.1.2.2.2.2.2.1, (y14.2.1.2.2.2.2.2.2.1, (y14.2.1.2.2.2.2.2.2.2.1, ())))))))), ())) := by kernel_rfl
theorem Tryd.m101_eq (n : Nat) (c0 : List Dop.Tok) (c1 : Int) (c2 : List Dop.Nde) (c3 : List Dop.Typ) (c4 c5 c6 c7 : Int) : m101 (n + 1) c0 c1 c2 c3 c4 c5 c6 c7 =
 m101_2 n (@List.nil Int) c0 c1 c2 c3 c4 c5 c6 c7 := by kernel_rfl
theorem Tryd.m101_2_eq (n : Nat) (l : List (Int)) (c0 : List Dop.Tok) (c1 : Int) (c2 : List Dop.Nde) (c3 : List Dop.Typ) (c4 c5 c6 c7 : Int) : m101_2 n l c0 c1 c2 c3 c4 c5 c6 c7 =
 (m35 ([41] : List UInt8) c0 c1 c2 c3 c4 c5 c6 c7).bind fun y2 =>
 if (!y2.1.1) = true then
 if (decide (y2.2.1.2.2.2.2.2.2.1 = (0 : Int))) = true then
 if (decide ((0 : Int) < I l.length)) = true then
   (m33 ([44] : List UInt8) y2.2.1.1 y2.2.1.2.1 y2.2.1.2.2.1 y2.2.1.2.2.2.1 y2.2.1.2.2.2.2.1 y2.2.1.2.2.2.2.2.1 y2.2.1.2.2.2.2.2.2.1 y2.2.1.2.2.2.2.2.2.2.1).bind fun y6 =>
    (m79 (n) y6.2.1.1 y6.2.1.2.1 y6.2.1.2.2.1 y6.2.1.2.2.2.1 y6.2.1.2.2.2.2.1 y6.2.1.2.2.2.2.2.1 y6.2.1.2.2.2.2.2.2.1 y6.2.1.2.2.2.2.2.2.2.1).bind fun y7 =>
 if (andC none (room (8 : Nat) (l.length + (y7.1.1 :: @List.nil Int).length))) = true then
    m101_2 n (l ++ y7.1.1 :: @List.nil Int) y7.2.1.1 y7.2.1.2.1 y7.2.1.2.2.1 y7.2.1.2.2.2.1 y7.2.1.2.2.2.2.1 y7.2.1.2.2.2.2.2.1 y7.2.1.2.2.2.2.2.2.1 y7.2.1.2.2.2.2.2.2.2.1
 else none
 else
   (m79 (n) y2.2.1.1 y2.2.1.2.1 y2.2.1.2.2.1 y2.2.1.2.2.2.1 y2.2.1.2.2.2.2.1 y2.2.1.2.2.2.2.2.1 y2.2.1.2.2.2.2.2.2.1 y2.2.1.2.2.2.2.2.2.2.1).bind fun y6 =>
 if (andC none (room (8 : Nat) (l.length + (y6.1.1 :: @List.nil Int).length))) = true then
    m101_2 n (l ++ y6.1.1 :: @List.nil Int) y6.2.1.1 y6.2.1.2.1 y6.2.1.2.2.1 y6.2.1.2.2.2.1 y6.2.1.2.2.2.2.1 y6.2.1.2.2.2.2.2.1 y6.2.1.2.2.2.2.2.2.1 y6.2.1.2.2.2.2.2.2.2.1
 else none
 else
   (Tryd.m16.R (((), l, ()), (y2.2.1.1, y2.2.1.2.1, y2.2.1.2.2.1, y2.2.1.2.2.2.1, y2.2.1.2.2.2.2.1, y2.2.1.2.2.2.2.2.1, y2.2.1.2.2.2.2.2.2.1, y2.2.1.2.2.2.2.2.2.2.1, ()), ())).bind fun y5 =>
 some ((y5.1.1, ()), ((y5.2.1.1, (y5.2.1.2.1, (y5.2.1.2.2.1, (y5.2.1.2.2.2.1, (y5.2.1.2.2.2.2.1, (y5.2.1.2.2.2.2.2.1, (y5.2.1.2.2.2.2.2.2.1, (y5.2.1.2.2.2.2.2.2.2.1, ())))))))), ()))
 else
  (Tryd.m16.R (((), l, ()), (y2.2.1.1, y2.2.1.2.1, y2.2.1.2.2.1, y2.2.1.2.2.2.1, y2.2.1.2.2.2.2.1, y2.2.1.2.2.2.2.2.1, y2.2.1.2.2.2.2.2.2.1, y2.2.1.2.2.2.2.2.2.2.1, ()), ())).bind fun y4 =>
 some ((y4.1.1, ()), ((y4.2.1.1, (y4.2.1.2.1, (y4.2.1.2.2.1, (y4.2.1.2.2.2.1, (y4.2.1.2.2.2.2.1, (y4.2.1.2.2.2.2.2.1, (y4.2.1.2.2.2.2.2.2.1, (y4.2.1.2.2.2.2.2.2.2.1, ())))))))), ())) := Env.cut_eq' (E := Tryd.m101.E n) (f0 := 3000) (c := 2) (q := ⟨[[0, 0, 0, 0, 0, 0, 1, 1], [0, 1, 0, 0, 0, 0, 1, 1], [0, 1, 0, 0, 0, 1, 1], [2, 0, 0, 0, 1, 1], [1, 0], [0, 1, 1, 1]], [0, 3], 1, ⟨[.al 0 0, .own 0 3], [bxB]⟩⟩) (by kernel_rfl) (((), l, ()), ((c0, c1, c2, c3, c4, c5, c6, c7, ()), ())) (by kernel_rfl) (by kernel_rfl)
theorem Tryd.m99_eq (n : Nat) (t1 : Int) (c0 : List Dop.Tok) (c1 : Int) (c2 : List Dop.Nde) (c3 : List Dop.Typ) (c4 c5 c6 c7 : Int) : m99 (n + 1) t1 c0 c1 c2 c3 c4 c5 c6 c7 =
 m99_1 n (t1) c0 c1 c2 c3 c4 c5 c6 c7 := by kernel_rfl
theorem Tryd.m99_1_eq (n : Nat) (t1 : Int) (c0 : List Dop.Tok) (c1 : Int) (c2 : List Dop.Nde) (c3 : List Dop.Typ) (c4 c5 c6 c7 : Int) : m99_1 n t1 c0 c1 c2 c3 c4 c5 c6 c7 =
 if (decide (c6 = (0 : Int))) = true then
  (m14 c0 c1 c2 c3 c4 c5 c6 c7).bind fun y3 =>
  (m31 ((7 : Int)) (y3.1.1.at_)).bind fun y4 =>
   (m35 ([91] : List UInt8) y3.2.1.1 y3.2.1.2.1 y3.2.1.2.2.1 y3.2.1.2.2.2.1 y3.2.1.2.2.2.2.1 y3.2.1.2.2.2.2.2.1 y3.2.1.2.2.2.2.2.2.1 y3.2.1.2.2.2.2.2.2.2.1).bind fun y5 =>
 if y5.1.1 = true then
    (m79 (n) y5.2.1.1 y5.2.1.2.1 y5.2.1.2.2.1 y5.2.1.2.2.2.1 y5.2.1.2.2.2.2.1 y5.2.1.2.2.2.2.2.1 y5.2.1.2.2.2.2.2.2.1 y5.2.1.2.2.2.2.2.2.2.1).bind fun y7 =>
    (m33 ([93] : List UInt8) y7.2.1.1 y7.2.1.2.1 y7.2.1.2.2.1 y7.2.1.2.2.2.1 y7.2.1.2.2.2.2.1 y7.2.1.2.2.2.2.2.1 y7.2.1.2.2.2.2.2.2.1 y7.2.1.2.2.2.2.2.2.2.1).bind fun y8 =>
     (m38 (Dop.Nde.mk y4.1.1.kind t1 y7.1.1 y4.1.1.c y4.1.1.d y4.1.1.text y4.1.1.n y4.1.1.type_ y4.1.1.at_) y8.2.1.1 y8.2.1.2.1 y8.2.1.2.2.1 y8.2.1.2.2.2.1 y8.2.1.2.2.2.2.1 y8.2.1.2.2.2.2.2.1 y8.2.1.2.2.2.2.2.2.1 y8.2.1.2.2.2.2.2.2.2.1).bind fun y9 =>
     m99_1 n y9.1.1 y9.2.1.1 y9.2.1.2.1 y9.2.1.2.2.1 y9.2.1.2.2.2.1 y9.2.1.2.2.2.2.1 y9.2.1.2.2.2.2.2.1 y9.2.1.2.2.2.2.2.2.1 y9.2.1.2.2.2.2.2.2.2.1
 else
    (m35 ([46] : List UInt8) y5.2.1.1 y5.2.1.2.1 y5.2.1.2.2.1 y5.2.1.2.2.2.1 y5.2.1.2.2.2.2.1 y5.2.1.2.2.2.2.2.1 y5.2.1.2.2.2.2.2.2.1 y5.2.1.2.2.2.2.2.2.2.1).bind fun y7 =>
 if y7.1.1 = true then
 if y7.1.1 = true then
 if (inR (y7.2.1.2.1 - (1 : Int))) = true then
 if (decide ((0 : Int) ≤ y7.2.1.2.1 - (1 : Int) ∧ y7.2.1.2.1 - (1 : Int) < I y7.2.1.1.length)) = true then
 if (decide ((@List.getD Dop.Tok y7.2.1.1 (y7.2.1.2.1 - (1 : Int)).toNat Dop.d4).text = (45 : UInt8) :: (62 : UInt8) :: @List.nil UInt8)) = true then
      (m34 ((1 : Int)) y7.2.1.1 y7.2.1.2.1 y7.2.1.2.2.1 y7.2.1.2.2.2.1 y7.2.1.2.2.2.2.1 y7.2.1.2.2.2.2.2.1 y7.2.1.2.2.2.2.2.2.1 y7.2.1.2.2.2.2.2.2.2.1).bind fun y11 =>
      (m38 (Dop.Nde.mk (8 : Int) t1 y4.1.1.b y4.1.1.c y4.1.1.d y11.1.1.text (1 : Int) y4.1.1.type_ y4.1.1.at_) y11.2.1.1 y11.2.1.2.1 y11.2.1.2.2.1 y11.2.1.2.2.2.1 y11.2.1.2.2.2.2.1 y11.2.1.2.2.2.2.2.1 y11.2.1.2.2.2.2.2.2.1 y11.2.1.2.2.2.2.2.2.2.1).bind fun y12 =>
       m99_1 n y12.1.1 y12.2.1.1 y12.2.1.2.1 y12.2.1.2.2.1 y12.2.1.2.2.2.1 y12.2.1.2.2.2.2.1 y12.2.1.2.2.2.2.2.1 y12.2.1.2.2.2.2.2.2.1 y12.2.1.2.2.2.2.2.2.2.1
 else
      (m34 ((1 : Int)) y7.2.1.1 y7.2.1.2.1 y7.2.1.2.2.1 y7.2.1.2.2.2.1 y7.2.1.2.2.2.2.1 y7.2.1.2.2.2.2.2.1 y7.2.1.2.2.2.2.2.2.1 y7.2.1.2.2.2.2.2.2.2.1).bind fun y11 =>
      (m38 (Dop.Nde.mk (8 : Int) t1 y4.1.1.b y4.1.1.c y4.1.1.d y11.1.1.text y4.1.1.n y4.1.1.type_ y4.1.1.at_) y11.2.1.1 y11.2.1.2.1 y11.2.1.2.2.1 y11.2.1.2.2.2.1 y11.2.1.2.2.2.2.1 y11.2.1.2.2.2.2.2.1 y11.2.1.2.2.2.2.2.2.1 y11.2.1.2.2.2.2.2.2.2.1).bind fun y12 =>
       m99_1 n y12.1.1 y12.2.1.1 y12.2.1.2.1 y12.2.1.2.2.1 y12.2.1.2.2.2.1 y12.2.1.2.2.2.2.1 y12.2.1.2.2.2.2.2.1 y12.2.1.2.2.2.2.2.2.1 y12.2.1.2.2.2.2.2.2.2.1
 else none
 else none
 else
     (m35 ([43, 43] : List UInt8) y7.2.1.1 y7.2.1.2.1 y7.2.1.2.2.1 y7.2.1.2.2.2.1 y7.2.1.2.2.2.2.1 y7.2.1.2.2.2.2.2.1 y7.2.1.2.2.2.2.2.2.1 y7.2.1.2.2.2.2.2.2.2.1).bind fun y10 =>
 if y10.1.1 = true then
 if y10.1.1 = true then
 if (inR (y10.2.1.2.1 - (1 : Int))) = true then
 if (decide ((0 : Int) ≤ y10.2.1.2.1 - (1 : Int) ∧ y10.2.1.2.1 - (1 : Int) < I y10.2.1.1.length)) = true then
       (m38 (Dop.Nde.mk (13 : Int) t1 y4.1.1.b y4.1.1.c y4.1.1.d (@List.getD Dop.Tok y10.2.1.1 (y10.2.1.2.1 - (1 : Int)).toNat Dop.d4).text y4.1.1.n y4.1.1.type_ y4.1.1.at_) y10.2.1.1 y10.2.1.2.1 y10.2.1.2.2.1 y10.2.1.2.2.2.1 y10.2.1.2.2.2.2.1 y10.2.1.2.2.2.2.2.1 y10.2.1.2.2.2.2.2.2.1 y10.2.1.2.2.2.2.2.2.2.1).bind fun y13 =>
       m99_1 n y13.1.1 y13.2.1.1 y13.2.1.2.1 y13.2.1.2.2.1 y13.2.1.2.2.2.1 y13.2.1.2.2.2.2.1 y13.2.1.2.2.2.2.2.1 y13.2.1.2.2.2.2.2.2.1 y13.2.1.2.2.2.2.2.2.2.1
 else none
 else none
 else
 some ((t1, ()), ((y10.2.1.1, (y10.2.1.2.1, (y10.2.1.2.2.1, (y10.2.1.2.2.2.1, (y10.2.1.2.2.2.2.1, (y10.2.1.2.2.2.2.2.1, (y10.2.1.2.2.2.2.2.2.1, (y10.2.1.2.2.2.2.2.2.2.1, ())))))))), ()))
 else
      (m35 ([45, 45] : List UInt8) y10.2.1.1 y10.2.1.2.1 y10.2.1.2.2.1 y10.2.1.2.2.2.1 y10.2.1.2.2.2.2.1 y10.2.1.2.2.2.2.2.1 y10.2.1.2.2.2.2.2.2.1 y10.2.1.2.2.2.2.2.2.2.1).bind fun y12 =>
 if y12.1.1 = true then
 if (inR (y12.2.1.2.1 - (1 : Int))) = true then
 if (decide ((0 : Int) ≤ y12.2.1.2.1 - (1 : Int) ∧ y12.2.1.2.1 - (1 : Int) < I y12.2.1.1.length)) = true then
       (m38 (Dop.Nde.mk (13 : Int) t1 y4.1.1.b y4.1.1.c y4.1.1.d (@List.getD Dop.Tok y12.2.1.1 (y12.2.1.2.1 - (1 : Int)).toNat Dop.d4).text y4.1.1.n y4.1.1.type_ y4.1.1.at_) y12.2.1.1 y12.2.1.2.1 y12.2.1.2.2.1 y12.2.1.2.2.2.1 y12.2.1.2.2.2.2.1 y12.2.1.2.2.2.2.2.1 y12.2.1.2.2.2.2.2.2.1 y12.2.1.2.2.2.2.2.2.2.1).bind fun y14 =>
        m99_1 n y14.1.1 y14.2.1.1 y14.2.1.2.1 y14.2.1.2.2.1 y14.2.1.2.2.2.1 y14.2.1.2.2.2.2.1 y14.2.1.2.2.2.2.2.1 y14.2.1.2.2.2.2.2.2.1 y14.2.1.2.2.2.2.2.2.2.1
 else none
 else none
 else
 some ((t1, ()), ((y12.2.1.1, (y12.2.1.2.1, (y12.2.1.2.2.1, (y12.2.1.2.2.2.1, (y12.2.1.2.2.2.2.1, (y12.2.1.2.2.2.2.2.1, (y12.2.1.2.2.2.2.2.2.1, (y12.2.1.2.2.2.2.2.2.2.1, ())))))))), ()))
 else
     (m35 ([45, 62] : List UInt8) y7.2.1.1 y7.2.1.2.1 y7.2.1.2.2.1 y7.2.1.2.2.2.1 y7.2.1.2.2.2.2.1 y7.2.1.2.2.2.2.2.1 y7.2.1.2.2.2.2.2.2.1 y7.2.1.2.2.2.2.2.2.2.1).bind fun y9 =>
 if y9.1.1 = true then
 if (inR (y9.2.1.2.1 - (1 : Int))) = true then
 if (decide ((0 : Int) ≤ y9.2.1.2.1 - (1 : Int) ∧ y9.2.1.2.1 - (1 : Int) < I y9.2.1.1.length)) = true then
 if (decide ((@List.getD Dop.Tok y9.2.1.1 (y9.2.1.2.1 - (1 : Int)).toNat Dop.d4).text = (45 : UInt8) :: (62 : UInt8) :: @List.nil UInt8)) = true then
      (m34 ((1 : Int)) y9.2.1.1 y9.2.1.2.1 y9.2.1.2.2.1 y9.2.1.2.2.2.1 y9.2.1.2.2.2.2.1 y9.2.1.2.2.2.2.2.1 y9.2.1.2.2.2.2.2.2.1 y9.2.1.2.2.2.2.2.2.2.1).bind fun y12 =>
       (m38 (Dop.Nde.mk (8 : Int) t1 y4.1.1.b y4.1.1.c y4.1.1.d y12.1.1.text (1 : Int) y4.1.1.type_ y4.1.1.at_) y12.2.1.1 y12.2.1.2.1 y12.2.1.2.2.1 y12.2.1.2.2.2.1 y12.2.1.2.2.2.2.1 y12.2.1.2.2.2.2.2.1 y12.2.1.2.2.2.2.2.2.1 y12.2.1.2.2.2.2.2.2.2.1).bind fun y13 =>
       m99_1 n y13.1.1 y13.2.1.1 y13.2.1.2.1 y13.2.1.2.2.1 y13.2.1.2.2.2.1 y13.2.1.2.2.2.2.1 y13.2.1.2.2.2.2.2.1 y13.2.1.2.2.2.2.2.2.1 y13.2.1.2.2.2.2.2.2.2.1
 else
      (m34 ((1 : Int)) y9.2.1.1 y9.2.1.2.1 y9.2.1.2.2.1 y9.2.1.2.2.2.1 y9.2.1.2.2.2.2.1 y9.2.1.2.2.2.2.2.1 y9.2.1.2.2.2.2.2.2.1 y9.2.1.2.2.2.2.2.2.2.1).bind fun y12 =>
       (m38 (Dop.Nde.mk (8 : Int) t1 y4.1.1.b y4.1.1.c y4.1.1.d y12.1.1.text y4.1.1.n y4.1.1.type_ y4.1.1.at_) y12.2.1.1 y12.2.1.2.1 y12.2.1.2.2.1 y12.2.1.2.2.2.1 y12.2.1.2.2.2.2.1 y12.2.1.2.2.2.2.2.1 y12.2.1.2.2.2.2.2.2.1 y12.2.1.2.2.2.2.2.2.2.1).bind fun y13 =>
       m99_1 n y13.1.1 y13.2.1.1 y13.2.1.2.1 y13.2.1.2.2.1 y13.2.1.2.2.2.1 y13.2.1.2.2.2.2.1 y13.2.1.2.2.2.2.2.1 y13.2.1.2.2.2.2.2.2.1 y13.2.1.2.2.2.2.2.2.2.1
 else none
 else none
 else
      (m35 ([43, 43] : List UInt8) y9.2.1.1 y9.2.1.2.1 y9.2.1.2.2.1 y9.2.1.2.2.2.1 y9.2.1.2.2.2.2.1 y9.2.1.2.2.2.2.2.1 y9.2.1.2.2.2.2.2.2.1 y9.2.1.2.2.2.2.2.2.2.1).bind fun y11 =>
 if y11.1.1 = true then
 if y11.1.1 = true then
 if (inR (y11.2.1.2.1 - (1 : Int))) = true then
 if (decide ((0 : Int) ≤ y11.2.1.2.1 - (1 : Int) ∧ y11.2.1.2.1 - (1 : Int) < I y11.2.1.1.length)) = true then
       (m38 (Dop.Nde.mk (13 : Int) t1 y4.1.1.b y4.1.1.c y4.1.1.d (@List.getD Dop.Tok y11.2.1.1 (y11.2.1.2.1 - (1 : Int)).toNat Dop.d4).text y4.1.1.n y4.1.1.type_ y4.1.1.at_) y11.2.1.1 y11.2.1.2.1 y11.2.1.2.2.1 y11.2.1.2.2.2.1 y11.2.1.2.2.2.2.1 y11.2.1.2.2.2.2.2.1 y11.2.1.2.2.2.2.2.2.1 y11.2.1.2.2.2.2.2.2.2.1).bind fun y14 =>
        m99_1 n y14.1.1 y14.2.1.1 y14.2.1.2.1 y14.2.1.2.2.1 y14.2.1.2.2.2.1 y14.2.1.2.2.2.2.1 y14.2.1.2.2.2.2.2.1 y14.2.1.2.2.2.2.2.2.1 y14.2.1.2.2.2.2.2.2.2.1
 else none
 else none
 else
 some ((t1, ()), ((y11.2.1.1, (y11.2.1.2.1, (y11.2.1.2.2.1, (y11.2.1.2.2.2.1, (y11.2.1.2.2.2.2.1, (y11.2.1.2.2.2.2.2.1, (y11.2.1.2.2.2.2.2.2.1, (y11.2.1.2.2.2.2.2.2.2.1, ())))))))), ()))
 else
       (m35 ([45, 45] : List UInt8) y11.2.1.1 y11.2.1.2.1 y11.2.1.2.2.1 y11.2.1.2.2.2.1 y11.2.1.2.2.2.2.1 y11.2.1.2.2.2.2.2.1 y11.2.1.2.2.2.2.2.2.1 y11.2.1.2.2.2.2.2.2.2.1).bind fun y13 =>
 if y13.1.1 = true then
 if (inR (y13.2.1.2.1 - (1 : Int))) = true then
 if (decide ((0 : Int) ≤ y13.2.1.2.1 - (1 : Int) ∧ y13.2.1.2.1 - (1 : Int) < I y13.2.1.1.length)) = true then
        (m38 (Dop.Nde.mk (13 : Int) t1 y4.1.1.b y4.1.1.c y4.1.1.d (@List.getD Dop.Tok y13.2.1.1 (y13.2.1.2.1 - (1 : Int)).toNat Dop.d4).text y4.1.1.n y4.1.1.type_ y4.1.1.at_) y13.2.1.1 y13.2.1.2.1 y13.2.1.2.2.1 y13.2.1.2.2.2.1 y13.2.1.2.2.2.2.1 y13.2.1.2.2.2.2.2.1 y13.2.1.2.2.2.2.2.2.1 y13.2.1.2.2.2.2.2.2.2.1).bind fun y15 =>
        m99_1 n y15.1.1 y15.2.1.1 y15.2.1.2.1 y15.2.1.2.2.1 y15.2.1.2.2.2.1 y15.2.1.2.2.2.2.1 y15.2.1.2.2.2.2.2.1 y15.2.1.2.2.2.2.2.2.1 y15.2.1.2.2.2.2.2.2.2.1
 else none
 else none
 else
 some ((t1, ()), ((y13.2.1.1, (y13.2.1.2.1, (y13.2.1.2.2.1, (y13.2.1.2.2.2.1, (y13.2.1.2.2.2.2.1, (y13.2.1.2.2.2.2.2.1, (y13.2.1.2.2.2.2.2.2.1, (y13.2.1.2.2.2.2.2.2.2.1, ())))))))), ()))
 else
 some (((-1 : Int), ()), ((c0, (c1, (c2, (c3, (c4, (c5, (c6, (c7, ())))))))), ())) := Env.cut_eq' (E := Tryd.m99.E n) (f0 := 3000) (c := 1) (q := ⟨[[0, 0, 0, 0, 0, 0, 1], [0, 1, 0, 0, 0, 0, 1], [0, 1, 0, 0, 0, 1], [2, 0, 0, 0, 1], [1, 0], [0, 1, 1]], [0, 1], 1, ⟨[.al 0 0, .fd (.int .i64)], [bxB]⟩⟩) (by kernel_rfl) (((), t1, ()), ((c0, c1, c2, c3, c4, c5, c6, c7, ()), ())) (by kernel_rfl) (by kernel_rfl)
end Go.Proofs
