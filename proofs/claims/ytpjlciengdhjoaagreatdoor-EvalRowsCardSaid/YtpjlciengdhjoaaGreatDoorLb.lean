/-
 The library's functions that are called, as contracts.
-/
import Derived.Test.YtpjlciengdhjoaaGreatDoorMc
import Derived.Test.YtpjlciengdhjoaaGreatDoorMf
namespace Go.Proofs
open Go Go.En Go.RowKit
theorem WU {P:Program} {n:String} {g:Nat} {k:IntKind} {zs:List Int} {w w':World} (hg:P.globalNamed n=some g) (h:Lib.TabIs P w n k zs) (hb:Below w.heap.size w w'):Lib.TabIs P w' n k zs:=by
 unfold Lib.TabIs at h ⊢
 unfold World.var? at h ⊢
 rw [hg] at h ⊢
 have hlt:g<w.heap.size:=by
  apply Classical.byContradiction
  intro hn
  simp [Array.getElem?_eq_none (Nat.le_of_not_lt hn)] at h
 simpa [hb.block g hlt] using h
theorem S3 {w w':World} {a:Addr} {v:Value} (h:w.cell? a=some v) (hb:Below w.heap.size w w'):w'.cell? a=some v:=by
 rw [hb.cell (block_lt_of_cell h)];exact h
theorem WI {w w':World} (h:En.Dop.Pow w) (hb:Below w.heap.size w w'):En.Dop.Pow w':=trivial
theorem PW {D:Nat->Prop} {w:World} (h:En.Dop.D4.inv D w):En.Dop.jB w:=by
 obtain ⟨W0,⟨h1,h3,m,h2⟩,h4⟩:=Mm.below (L:=En.Dop.jB) h
 have k1:Lib.TabIs Tryz.prog { w with heap:=W0.heap } "strings.asciiSpace" .u8 Lib.asciiSpaceTab:=h1
 have k3:En.Dop.Pow { w with heap:=W0.heap }:=h3
 have k2:World.cell? { w with heap:=W0.heap } ⟨0,0,none⟩=some (.int .i64 m):=h2
 exact ⟨WU (g:=1) (by kernel_rfl) k1 h4,WI k3 h4,m,S3 k2 h4⟩
def cY (l:List UInt8):Bool:=l.all fun b=>decide (b.toNat<128)
theorem Q1 {l:List UInt8} (h:cY l=true) (j:Nat) (b:UInt8) (hb:l[j]?=some b):b.toNat<128:=
 ip (List.all_eq_true.1 h b (gc hb))
def V9 (l:List UInt8):Bool:=decide (l.length<4294967281)
def Yy (l:List UInt8):Bool:=V9 l && cY l
def Tryz.contains.c:BU En.Dop.D4:=⟨113,0,⟨[.fd .str,.fd .str],[]⟩,⟨[.fd .bool],[]⟩,true,.pre (fun x=>V9 x.1.1) fun x=>((Lib.contains x.1.1 x.1.2.1,()),())⟩
theorem Tryz.contains.holds:Tryz.contains.c.Holds Tryz.prog:=
 Rb (p:=fun a _=>V9 a) (by kernel_rfl) fun a b w D hp hiv=>by
  obtain ⟨_,_,m,h2⟩:=PW hiv
  refine (Tryz.strings_Contains ⟨⟨a⟩⟩ ⟨⟨b⟩⟩ m w (ip hp) h2).mono fun e w' ⟨h4,h5⟩=>⟨h4,by rw [h5];exact Below.refl _ _⟩
def Tryz.index.c:BU En.Dop.D4:=⟨68,0,⟨[.fd .str,.fd .str],[]⟩,⟨[.fd (.int .i64)],[]⟩,true,.pre (fun x=>V9 x.1.1) fun x=>((Lib.index x.1.1 x.1.2.1,()),())⟩
theorem Tryz.index.holds:Tryz.index.c.Holds Tryz.prog:=
 YR (p:=fun a _=>V9 a) (by kernel_rfl) fun a b w D hp hiv=>by
  obtain ⟨_,_,m,h2⟩:=PW hiv
  refine (Tryz.strings_Index ⟨⟨a⟩⟩ ⟨⟨b⟩⟩ m w (ip hp) h2).mono fun e w' ⟨h4,h5⟩=>⟨h4,by rw [h5];exact Below.refl _ _⟩
def Tryz.indexByte.c:BU En.Dop.D4:=⟨66,0,⟨[.fd .str,.fd (.int .u8)],[]⟩,⟨[.fd (.int .i64)],[]⟩,true,.pre (fun _=>true) fun x=>((Lib.indexByte x.1.1 x.1.2.1.toNat.toUInt8,()),())⟩
theorem Tryz.indexByte.holds:Tryz.indexByte.c.Holds Tryz.prog:=
 YQ (p:=fun _ _=>true) (g:=fun a b=>Lib.indexByte a b.toNat.toUInt8) (by kernel_rfl) fun a b w D hp hiv=>
  (Tryz.strings_IndexByte ⟨⟨a⟩⟩ b w).mono fun e w' ⟨h4,h5⟩=>⟨h4,by rw [h5];exact Below.refl _ _⟩
def Tryz.hasPrefix.c:BU En.Dop.D4:=⟨67,0,⟨[.fd .str,.fd .str],[]⟩,⟨[.fd .bool],[]⟩,true,.pre (fun _=>true) fun x=>((Lib.hasPrefix x.1.1 x.1.2.1,()),())⟩
theorem Tryz.hasPrefix.holds:Tryz.hasPrefix.c.Holds Tryz.prog:=
 Rb (p:=fun _ _=>true) (by kernel_rfl) fun a b w D hp hiv=>
  (Tryz.strings_HasPrefix ⟨⟨a⟩⟩ ⟨⟨b⟩⟩ w).mono fun e w' ⟨h4,h5⟩=>⟨h4,by rw [h5];exact Below.refl _ _⟩
def Tryz.lower.c:BU En.Dop.D4:=⟨114,0,⟨[.fd .str],[]⟩,⟨[.fd .str],[]⟩,true,.pre (fun x=>Yy x.1.1) fun x=>((Lib.toLowerA x.1.1,()),())⟩
theorem Tryz.lower.holds:Tryz.lower.c.Holds Tryz.prog:=
 bH (by kernel_rfl) fun a w D hp hiv=>by
  have hp':=Bool.and_eq_true_iff.1 hp
  have h1:a.length<4294967281:=ip hp'.1
  exact Tryz.strings_ToLower_ascii ⟨⟨a⟩⟩ w (show a.length<=140737488355328 by omega) (fun j b hb=>Q1 hp'.2 j b hb)
def Tryz.fields.c:BU En.Dop.D4:=⟨141,0,⟨[.fd .str],[]⟩,⟨[.own 1 9],[]⟩,false,.pre (fun x=>Yy x.1.1 && decide ((Lib.fields x.1.1).length<=maxLen)) fun x=>(((Lib.fields x.1.1).map fun a=>a,()),())⟩
theorem Tryz.fields.holds:Tryz.fields.c.Holds Tryz.prog:=
 YP (S:=En.Dop.D4) (τ:=1) (E:=9) (by kernel_rfl) (fun a=>a) (fun _=>rfl) (g:=Lib.fields) (p:=fun a=>Yy a && decide ((Lib.fields a).length<=maxLen)) (fun a hp=>ip (Bool.and_eq_true_iff.1 hp).2) fun a w D hp hiv=>by
  obtain ⟨h1,_⟩:=PW hiv
  have hp':=Bool.and_eq_true_iff.1 (Bool.and_eq_true_iff.1 hp).1
  exact Tryz.strings_Fields ⟨⟨a⟩⟩ w (ip hp'.1) (fun j b hb=>Q1 hp'.2 j b hb) h1
section
variable {S:As} {P:Program} {f:Nat} (hb:B9 P f=true)
include hb
end
section
variable {S:As} {P:Program} {f:Nat} (hb:B9 P f=true)
include hb
theorem YS {g:List UInt8->List UInt8->List UInt8} {p:List UInt8->List UInt8->Bool} (hc: ∀ a b w D,p a b=true->S.inv D w->Calls P f #[.string ⟨⟨a⟩⟩,.string ⟨⟨b⟩⟩] w fun e w'=>e=.returned (.string ⟨⟨g a b⟩⟩)/\Below w.heap.size w w'):
  BU.Holds (S:=S) P ⟨f,0,⟨[.fd .str,.fd .str],[]⟩,⟨[.fd .str],[]⟩,true,.pre (fun x=>p x.1.1 x.1.2.1) fun x=>((g x.1.1 x.1.2.1,()),())⟩:=
 J9 hb rfl rfl (A:=fun x=>#[.string ⟨⟨x.1.1⟩⟩,.string ⟨⟨x.1.2.1⟩⟩]) (fun _=>⟨_,rfl,fun _=>rfl⟩) (B:=fun y=>.string ⟨⟨y.1.1⟩⟩) (fun _=>⟨_,rfl,fun _=>rfl,trivial,trivial⟩)
  (fun x y h w D hiv=>by obtain ⟨h1,rfl⟩:=h;exact hc _ _ w D h1 hiv)
end
def Tryz.trimSuffix.c:BU En.Dop.D4:=⟨150,0,⟨[.fd .str,.fd .str],[]⟩,⟨[.fd .str],[]⟩,true,.pre (fun x=>V9 x.1.1) fun x=>((Lib.trimSuffix x.1.1 x.1.2.1,()),())⟩
theorem Tryz.trimSuffix.holds:Tryz.trimSuffix.c.Holds Tryz.prog:=
 YS (p:=fun a _=>V9 a) (by kernel_rfl) fun a b w D hp hiv=>
  have h1:a.length<4294967281:=ip hp
  (Tryz.strings_TrimSuffix ⟨⟨a⟩⟩ ⟨⟨b⟩⟩ w (show a.length<=9223372036854775807 by omega)).mono fun e w' ⟨h4,h5⟩=>⟨h4,by rw [h5];exact Below.refl _ _⟩
end Go.Proofs
