/- Functions that call one another: models by fuel, contracts at whatever fuel. -/
import Derived.Test.YtkpggdcpaeanaaaGreatDoorMf
import Derived.Test.YtkpggdcpaeanaaaGreatDoorProg
import Derived.Test.YtkpggdcpaeanaaaGreatDoorMc
namespace Go.En
open Go.RowKit
def FU:Nat:=1000000000
section
variable {S:Aj} {P:Program}
theorem R0 {c c':Bp S} (h:c'.Holds P) (e:c=c'):c.Holds P:=e▸h
theorem Ab {l m:List (Bp S)} (h: ∀ c∈l,c.Holds P) (k: ∀ c∈m,c.Holds P): ∀ c∈l++m,c.Holds P:=fun c hc=>(List.mem_append.1 hc).elim (h c) (k c)
theorem AN {f:Nat} {tb:List (Nat×TI)} {p:Af} (htb:AW S P tb) (h:AG S P f p=true):Bp.Holds (S:=S) P ⟨f,p.bn,p.sp,p.rs,p.flat,.opt fun _=>none⟩:=by
 obtain ⟨h1,h2,h3,_⟩:=Ek (P:=P) (S:=S) (f:=f) (p:=p) 0 htb B7 h
 exact ⟨h1,h2,h3,fun x y hxy=>by cases hxy⟩
end
def Le {α:Type} (a b:Option α):Prop:= ∀ y,a=some y->b=some y
section
variable {α β:Type}
theorem le_refl {a:Option α}:Le a a:=fun _ h=>h
end
end Go.En
/- The table of this seat's types, written by a program (gentab2.py) out of the translation, and the proof that it is right. -/
namespace Go.Proofs
open Go Go.En
section
variable {S:Aj} {P:Program} {T:Nat} {t:TI}
theorem R3 (β:Nat->Nm): ∀ l:List Value,AA β (l.map SV.v)=l
 | []=>by simp [AA]
 | x::r=>by simp [AA,SV.den,R3 β r]
theorem ab (N:Nat->Prop) (l:List Value):BH N (l.map SV.v):=Ar.2 fun x hx=>by obtain ⟨v,_,rfl⟩:=List.mem_map.1 hx;trivial
theorem Dy (h:((P.info? T).map (fun i=>(i.zero,i.size,i.bytes)),t.zc,t.zc.length)=(some (some t.z,t.sz,t.bs),t.z.cells.toList.map SV.v,t.sz)) (hd:t.d.ok P T) (h2:(t.eq,t.τ,t.δ)=(none,none,none)):TI.ok S P T t:=by
 simp only [Prod.mk.injEq] at h h2
 exact ⟨h.1,fun β=>by rw [h.2.1,R3],fun N=>by rw [h.2.1];exact ab N _,h.2.2,hd,fun ks g=>(by rw [h2.1] at g;cases g),fun τ g=>(by rw [h2.2.1] at g;cases g),fun τ g=>(by rw [h2.2.2] at g;cases g)⟩
theorem VJ {τ0:Nat} (h:((P.info? T).map (fun i=>(i.zero,i.size,i.bytes)),t.zc,t.zc.length)=(some (some t.z,t.sz,t.bs),t.z.cells.toList.map SV.v,t.sz)) (hd:t.d.ok P T) (h2:(t.eq,t.τ,t.δ)=(none,some τ0,none)) (h3:S.sz τ0=t.sz/\0<t.sz/\S.enc τ0 (S.As τ0)=(S.fds τ0).map Fd.OT/\t.z.cells.toList=(S.fds τ0).map Fd.zeroV):TI.ok S P T t:=by
 simp only [Prod.mk.injEq] at h h2
 exact ⟨h.1,fun β=>by rw [h.2.1,R3],fun N=>by rw [h.2.1];exact ab N _,h.2.2,hd,fun ks g=>(by rw [h2.1] at g;cases g),fun τ g=>(by rw [h2.2.1] at g;cases g;exact h3),fun τ g=>(by rw [h2.2.2] at g;cases g)⟩
end
def Tryz.tb:List (Nat×TI):=[
 (1,⟨1,8,.nilFunc,[.v (.nilFunc)],.other,none,none,none⟩),
 (2,⟨1,8,.int .i64 0,[.v (.int .i64 0)],.int .i64,none,none,none⟩),
 (3,⟨1,8,.int .i64 0,[.v (.int .i64 0)],.int .i64,some 0,none,none⟩),
 (4,⟨1,1,.bool false,[.v (.bool false)],.bool,some 2,none,none⟩),
 (5,⟨1,1,.int .u8 0,[.v (.int .u8 0)],.int .u8,some 3,none,none⟩),
 (6,⟨1,1,.int .u8 0,[.v (.int .u8 0)],.int .u8,none,none,none⟩),
 (7,⟨4,24,.agg #[.int .i64 0,.int .i64 0,.bool false,.int .u8 0],[.v (.int .i64 0),.v (.int .i64 0),.v (.bool false),.v (.int .u8 0)],.struct [(0,2,1),(1,3,1),(2,4,1),(3,6,1)],none,none,none⟩),
 (8,⟨4,24,.agg #[.int .i64 0,.int .i64 0,.bool false,.int .u8 0],[.v (.int .i64 0),.v (.int .i64 0),.v (.bool false),.v (.int .u8 0)],.struct [(0,2,1),(1,3,1),(2,4,1),(3,6,1)],none,none,none⟩),
 (9,⟨1,16,.string ⟨#[]⟩,[.v (.string ⟨#[]⟩)],.str,some 1,none,none⟩),
 (10,⟨1,16,.string ⟨#[]⟩,[.v (.string ⟨#[]⟩)],.str,none,none,none⟩),
 (11,⟨1,16,.string ⟨#[]⟩,[.v (.string ⟨#[]⟩)],.str,none,none,none⟩),
 (12,⟨1,8,.int .u64 0,[.v (.int .u64 0)],.int .u64,none,none,none⟩),
 (13,⟨2,24,.agg #[.string ⟨#[]⟩,.int .u64 0],[.v (.string ⟨#[]⟩),.v (.int .u64 0)],.struct [(0,9,1),(1,12,1)],none,none,none⟩),
 (14,⟨2,24,.agg #[.string ⟨#[]⟩,.int .u64 0],[.v (.string ⟨#[]⟩),.v (.int .u64 0)],.struct [(0,9,1),(1,12,1)],none,none,none⟩),
 (15,⟨1,8,.pointer none,[.v (.pointer none)],.ptr 298,none,none,none⟩),
 (16,⟨1,8,.pointer none,[.v (.pointer none)],.ptr 301,none,none,none⟩),
 (17,⟨1,8,.pointer none,[.v (.pointer none)],.ptr 308,none,none,none⟩),
 (21,⟨1,4,.int .i32 0,[.v (.int .i32 0)],.int .i32,none,none,none⟩),
 (23,⟨1,24,.slice none 0 0,[.v (.slice none 0 0)],.slice 52 5,none,none,none⟩),
 (24,⟨1,24,.slice none 0 0,[.v (.slice none 0 0)],.slice 32 4,none,none,none⟩),
 (25,⟨1,24,.slice none 0 0,[.v (.slice none 0 0)],.slice 56 9,none,none,none⟩),
 (27,⟨4,80,.agg #[.slice none 0 0,.slice none 0 0,.int .i64 0,.slice none 0 0],[.v (.slice none 0 0),.v (.slice none 0 0),.v (.int .i64 0),.v (.slice none 0 0)],.struct [(0,23,1),(1,24,1),(2,3,1),(3,25,1)],some 13,none,none⟩),
 (28,⟨1,8,.int .i64 0,[.v (.int .i64 0)],.int .i64,none,none,none⟩),
 (32,⟨4,40,.agg #[.string ⟨#[]⟩,.int .i64 0,.int .i64 0,.int .i64 0],[.v (.string ⟨#[]⟩),.v (.int .i64 0),.v (.int .i64 0),.v (.int .i64 0)],.struct [(0,9,1),(1,3,1),(2,3,1),(3,3,1)],some 12,some [.str,.int .i64,.int .i64,.int .i64],none⟩),
 (34,⟨1,24,.slice none 0 0,[.v (.slice none 0 0)],.slice 38 4,none,none,none⟩),
 (38,⟨4,40,.agg #[.int .i64 0,.string ⟨#[]⟩,.int .i64 0,.int .i64 0],[.v (.int .i64 0),.v (.string ⟨#[]⟩),.v (.int .i64 0),.v (.int .i64 0)],.struct [(0,3,1),(1,9,1),(2,3,1),(3,3,1)],some 4,some [.int .i64,.str,.int .i64,.int .i64],none⟩),
 (39,⟨1,24,.slice none 0 0,[.v (.slice none 0 0)],.slice 93 4,none,none,none⟩),
 (41,⟨3,56,.agg #[.slice none 0 0,.slice none 0 0,.int .i64 0],[.v (.slice none 0 0),.v (.slice none 0 0),.v (.int .i64 0)],.struct [(0,25,1),(1,39,1),(2,3,1)],some 7,none,none⟩),
 (44,⟨1,24,.slice none 0 0,[.v (.slice none 0 0)],.slice 9 1,none,none,none⟩),
 (46,⟨1,8,.nilFunc,[.v (.nilFunc)],.other,none,none,none⟩),
 (47,⟨1,8,.nilFunc,[.v (.nilFunc)],.other,none,none,none⟩),
 (52,⟨5,48,.agg #[.string ⟨#[]⟩,.int .i64 0,.int .i64 0,.int .i64 0,.int .i64 0],[.v (.string ⟨#[]⟩),.v (.int .i64 0),.v (.int .i64 0),.v (.int .i64 0),.v (.int .i64 0)],.struct [(0,9,1),(1,3,1),(2,3,1),(3,3,1),(4,3,1)],some 11,some [.str,.int .i64,.int .i64,.int .i64,.int .i64],none⟩),
 (56,⟨9,80,.agg #[.int .i64 0,.int .i64 0,.int .i64 0,.int .i64 0,.int .i64 0,.string ⟨#[]⟩,.int .i64 0,.int .i64 0,.int .i64 0],[.v (.int .i64 0),.v (.int .i64 0),.v (.int .i64 0),.v (.int .i64 0),.v (.int .i64 0),.v (.string ⟨#[]⟩),.v (.int .i64 0),.v (.int .i64 0),.v (.int .i64 0)],.struct [(0,3,1),(1,3,1),(2,3,1),(3,3,1),(4,3,1),(5,9,1),(6,3,1),(7,3,1),(8,3,1)],some 5,some [.int .i64,.int .i64,.int .i64,.int .i64,.int .i64,.str,.int .i64,.int .i64,.int .i64],none⟩),
 (59,⟨1,24,.slice none 0 0,[.v (.slice none 0 0)],.slice 5 1,none,none,none⟩),
 (61,⟨3,40,.agg #[.int .i64 0,.int .i64 0,.slice none 0 0],[.v (.int .i64 0),.v (.int .i64 0),.v (.slice none 0 0)],.struct [(0,3,1),(1,3,1),(2,59,1)],some 19,none,none⟩),
 (66,⟨1,24,.slice none 0 0,[.v (.slice none 0 0)],.slice 3 1,none,none,none⟩),
 (67,⟨1,8,.int .i64 0,[.v (.int .i64 0)],.int .i64,some 18,none,none⟩),
 (83,⟨1,8,.nilFunc,[.v (.nilFunc)],.other,none,none,none⟩),
 (89,⟨1,8,.pointer none,[.v (.pointer none)],.ptr 91,none,none,none⟩),
 (91,⟨8,112,.agg #[.slice none 0 0,.int .i64 0,.slice none 0 0,.slice none 0 0,.int .i64 0,.int .i64 0,.int .i64 0,.int .i64 0],[.v (.slice none 0 0),.v (.int .i64 0),.v (.slice none 0 0),.v (.slice none 0 0),.v (.int .i64 0),.v (.int .i64 0),.v (.int .i64 0),.v (.int .i64 0)],.struct [(0,34,1),(1,3,1),(2,41,3),(5,3,1),(6,28,1),(7,3,1)],none,none,none⟩),
 (93,⟨4,40,.agg #[.int .i64 0,.int .i64 0,.int .i64 0,.string ⟨#[]⟩],[.v (.int .i64 0),.v (.int .i64 0),.v (.int .i64 0),.v (.string ⟨#[]⟩)],.struct [(0,3,1),(1,3,1),(2,3,1),(3,9,1)],some 6,some [.int .i64,.int .i64,.int .i64,.str],none⟩),
 (95,⟨1,8,.nilFunc,[.v (.nilFunc)],.other,none,none,none⟩),
 (110,⟨1,8,.nilFunc,[.v (.nilFunc)],.other,none,none,none⟩),
 (118,⟨1,8,.pointer none,[.v (.pointer none)],.ptr 121,none,none,none⟩),
 (119,⟨1,8,.map none,[.v (.map none)],.map 3 132,none,none,none⟩),
 (121,⟨13,200,.agg #[.slice none 0 0,.slice none 0 0,.int .i64 0,.slice none 0 0,.slice none 0 0,.int .i64 0,.slice none 0 0,.slice none 0 0,.int .i64 0,.int .i64 0,.int .i64 0,.int .i64 0,.map none],[.v (.slice none 0 0),.v (.slice none 0 0),.v (.int .i64 0),.v (.slice none 0 0),.v (.slice none 0 0),.v (.int .i64 0),.v (.slice none 0 0),.v (.slice none 0 0),.v (.int .i64 0),.v (.int .i64 0),.v (.int .i64 0),.v (.int .i64 0),.v (.map none)],.struct [(0,27,4),(4,66,1),(5,3,1),(6,59,1),(7,59,1),(8,3,1),(9,3,1),(10,3,1),(11,3,1),(12,119,1)],none,none,none⟩),
 (126,⟨1,8,.pointer none,[.v (.pointer none)],.ptr 135,none,none,none⟩),
 (127,⟨1,8,.pointer none,[.v (.pointer none)],.ptr 168,none,none,none⟩),
 (129,⟨1,8,.map none,[.v (.map none)],.map 9 178,none,none,none⟩),
 (130,⟨1,24,.slice none 0 0,[.v (.slice none 0 0)],.slice 129 1,none,none,none⟩),
 (131,⟨1,8,.map none,[.v (.map none)],.map 9 140,none,none,none⟩),
 (132,⟨1,8,.map none,[.v (.map none)],.map 9 3,none,none,none⟩),
 (133,⟨1,24,.slice none 0 0,[.v (.slice none 0 0)],.slice 217 1,none,none,none⟩),
 (135,⟨25,336,.agg #[.slice none 0 0,.slice none 0 0,.int .i64 0,.pointer none,.slice none 0 0,.slice none 0 0,.slice none 0 0,.int .i64 0,.slice none 0 0,.slice none 0 0,.map none,.map none,.string ⟨#[]⟩,.int .i64 0,.int .i64 0,.int .i64 0,.int .i64 0,.int .i64 0,.map none,.map none,.int .i64 0,.slice none 0 0,.int .i64 0,.int .i64 0,.int .i64 0],[.v (.slice none 0 0),.v (.slice none 0 0),.v (.int .i64 0),.v (.pointer none),.v (.slice none 0 0),.v (.slice none 0 0),.v (.slice none 0 0),.v (.int .i64 0),.v (.slice none 0 0),.v (.slice none 0 0),.v (.map none),.v (.map none),.v (.string ⟨#[]⟩),.v (.int .i64 0),.v (.int .i64 0),.v (.int .i64 0),.v (.int .i64 0),.v (.int .i64 0),.v (.map none),.v (.map none),.v (.int .i64 0),.v (.slice none 0 0),.v (.int .i64 0),.v (.int .i64 0),.v (.int .i64 0)],.struct [(0,41,3),(3,127,1),(4,66,1),(5,27,4),(9,130,1),(10,131,1),(11,132,1),(12,52,5),(17,3,1),(18,132,1),(19,132,1),(20,3,1),(21,133,1),(22,3,1),(23,28,1),(24,3,1)],none,none,none⟩),
 (140,⟨2,32,.agg #[.slice none 0 0,.int .i64 0],[.v (.slice none 0 0),.v (.int .i64 0)],.struct [(0,66,1),(1,3,1)],some 15,none,none⟩),
 (144,⟨1,8,.nilFunc,[.v (.nilFunc)],.other,none,none,none⟩),
 (154,⟨1,8,.nilFunc,[.v (.nilFunc)],.other,none,none,none⟩),
 (155,⟨1,8,.nilFunc,[.v (.nilFunc)],.other,none,none,none⟩),
 (161,⟨1,8,.pointer none,[.v (.pointer none)],.ptr 163,none,none,none⟩),
 (163,⟨11,120,.agg #[.string ⟨#[]⟩,.int .i64 0,.int .i64 0,.int .i64 0,.int .i64 0,.slice none 0 0,.int .i64 0,.int .i64 0,.string ⟨#[]⟩,.int .i64 0,.int .i64 0],[.v (.string ⟨#[]⟩),.v (.int .i64 0),.v (.int .i64 0),.v (.int .i64 0),.v (.int .i64 0),.v (.slice none 0 0),.v (.int .i64 0),.v (.int .i64 0),.v (.string ⟨#[]⟩),.v (.int .i64 0),.v (.int .i64 0)],.struct [(0,52,5),(5,66,1),(6,3,1),(7,3,1),(8,9,1),(9,3,1),(10,3,1)],none,none,none⟩),
 (166,⟨1,8,.map none,[.v (.map none)],.map 9 169,none,none,none⟩),
 (168,⟨2,32,.agg #[.slice none 0 0,.map none],[.v (.slice none 0 0),.v (.map none)],.struct [(0,39,1),(1,166,1)],none,none,none⟩),
 (169,⟨1,24,.slice none 0 0,[.v (.slice none 0 0)],.slice 171 2,some 17,none,none⟩),
 (171,⟨2,24,.agg #[.string ⟨#[]⟩,.int .i64 0],[.v (.string ⟨#[]⟩),.v (.int .i64 0)],.struct [(0,9,1),(1,3,1)],some 16,some [.str,.int .i64],none⟩),
 (174,⟨5,40,.agg #[.int .i64 0,.int .i64 0,.int .i64 0,.int .i64 0,.bool false],[.v (.int .i64 0),.v (.int .i64 0),.v (.int .i64 0),.v (.int .i64 0),.v (.bool false)],.struct [(0,3,1),(1,3,1),(2,3,1),(3,3,1),(4,4,1)],some 10,some [.int .i64,.int .i64,.int .i64,.int .i64,.bool],none⟩),
 (176,⟨1,8,.nilFunc,[.v (.nilFunc)],.other,none,none,none⟩),
 (178,⟨3,24,.agg #[.int .i64 0,.int .i64 0,.int .i64 0],[.v (.int .i64 0),.v (.int .i64 0),.v (.int .i64 0)],.struct [(0,3,1),(1,3,1),(2,3,1)],some 9,some [.int .i64,.int .i64,.int .i64],none⟩),
 (184,⟨1,8,.map none,[.v (.map none)],.map 5 3,none,none,none⟩),
 (213,⟨1,4,.int .u32 0,[.v (.int .u32 0)],.int .u32,none,none,none⟩),
 (214,⟨4,32,.agg #[.int .i64 0,.int .i64 0,.int .i64 0,.int .i64 0],[.v (.int .i64 0),.v (.int .i64 0),.v (.int .i64 0),.v (.int .i64 0)],.array 4 3 1,some 8,none,none⟩),
 (217,⟨1,8,.map none,[.v (.map none)],.map 3 3,none,none,none⟩),
 (246,⟨1,8,.nilFunc,[.v (.nilFunc)],.other,none,none,none⟩),
 (260,⟨1,8,.pointer none,[.v (.pointer none)],.ptr 3,none,none,none⟩),
 (264,⟨1,8,.nilFunc,[.v (.nilFunc)],.other,none,none,none⟩),
 (265,⟨1,8,.nilFunc,[.v (.nilFunc)],.other,none,none,none⟩),
 (267,⟨2,16,.agg #[.int .i64 0,.int .i64 0],[.v (.int .i64 0),.v (.int .i64 0)],.array 2 67 1,some 14,none,none⟩),
 (268,⟨1,8,.map none,[.v (.map none)],.map 9 267,none,none,none⟩),
 (290,⟨1,8,.nilFunc,[.v (.nilFunc)],.other,none,none,none⟩),
 (298,⟨4,40,.agg #[.pointer none,.pointer none,.pointer none,.string ⟨#[]⟩],[.v (.pointer none),.v (.pointer none),.v (.pointer none),.v (.string ⟨#[]⟩)],.struct [(0,17,1),(1,17,1),(2,17,1),(3,9,1)],none,none,none⟩)]
def Tryz.tr (k:Nat):TI:=match lk Tryz.tb k with
 | some x=>x
 | none=>⟨0,0,.nilFunc,[],.other,none,none,none⟩
theorem Tryz.jg:TI.ok En.Dop.D4 Tryz.prog 1 (Tryz.tr 1):=Dy (by kernel_rfl) ⟨_,Tryz.underlying1,rfl⟩ (by kernel_rfl)
theorem Tryz.jh:TI.ok En.Dop.D4 Tryz.prog 2 (Tryz.tr 2):=Dy (by kernel_rfl) Tryz.underlying2 (by kernel_rfl)
theorem Tryz.ji:TI.ok En.Dop.D4 Tryz.prog 3 (Tryz.tr 3):=VJ (τ0:=0) (by kernel_rfl) Tryz.underlying3 (by kernel_rfl) ⟨rfl,by decide,rfl,rfl⟩
theorem Tryz.jj:TI.ok En.Dop.D4 Tryz.prog 4 (Tryz.tr 4):=VJ (τ0:=2) (by kernel_rfl) Tryz.underlying4 (by kernel_rfl) ⟨rfl,by decide,rfl,rfl⟩
theorem Tryz.jk:TI.ok En.Dop.D4 Tryz.prog 5 (Tryz.tr 5):=VJ (τ0:=3) (by kernel_rfl) Tryz.underlying5 (by kernel_rfl) ⟨rfl,by decide,rfl,rfl⟩
theorem Tryz.jl:TI.ok En.Dop.D4 Tryz.prog 6 (Tryz.tr 6):=Dy (by kernel_rfl) Tryz.underlying6 (by kernel_rfl)
theorem Tryz.jm:TI.ok En.Dop.D4 Tryz.prog 7 (Tryz.tr 7):=Dy (by kernel_rfl) ⟨_,Tryz.underlying7,rfl,rfl,by kernel_rfl,by decide,rfl,rfl,by kernel_rfl,by decide,rfl,rfl,by kernel_rfl,by decide,rfl,rfl,by kernel_rfl,by decide,trivial⟩ (by kernel_rfl)
theorem Tryz.jn:TI.ok En.Dop.D4 Tryz.prog 8 (Tryz.tr 8):=Dy (by kernel_rfl) ⟨_,Tryz.underlying8,rfl,rfl,by kernel_rfl,by decide,rfl,rfl,by kernel_rfl,by decide,rfl,rfl,by kernel_rfl,by decide,rfl,rfl,by kernel_rfl,by decide,trivial⟩ (by kernel_rfl)
theorem Tryz.jo:TI.ok En.Dop.D4 Tryz.prog 9 (Tryz.tr 9):=VJ (τ0:=1) (by kernel_rfl) Tryz.underlying9 (by kernel_rfl) ⟨rfl,by decide,rfl,rfl⟩
theorem Tryz.gm:TI.ok En.Dop.D4 Tryz.prog 10 (Tryz.tr 10):=Dy (by kernel_rfl) Tryz.underlying10 (by kernel_rfl)
theorem Tryz.gn:TI.ok En.Dop.D4 Tryz.prog 11 (Tryz.tr 11):=Dy (by kernel_rfl) Tryz.underlying11 (by kernel_rfl)
theorem Tryz.gp:TI.ok En.Dop.D4 Tryz.prog 12 (Tryz.tr 12):=Dy (by kernel_rfl) Tryz.underlying12 (by kernel_rfl)
theorem Tryz.gq:TI.ok En.Dop.D4 Tryz.prog 13 (Tryz.tr 13):=Dy (by kernel_rfl) ⟨_,Tryz.underlying13,rfl,rfl,by kernel_rfl,by decide,rfl,rfl,by kernel_rfl,by decide,trivial⟩ (by kernel_rfl)
theorem Tryz.gr:TI.ok En.Dop.D4 Tryz.prog 14 (Tryz.tr 14):=Dy (by kernel_rfl) ⟨_,Tryz.underlying14,rfl,rfl,by kernel_rfl,by decide,rfl,rfl,by kernel_rfl,by decide,trivial⟩ (by kernel_rfl)
theorem Tryz.gu:TI.ok En.Dop.D4 Tryz.prog 15 (Tryz.tr 15):=Dy (by kernel_rfl) Tryz.underlying15 (by kernel_rfl)
theorem Tryz.gv:TI.ok En.Dop.D4 Tryz.prog 16 (Tryz.tr 16):=Dy (by kernel_rfl) Tryz.underlying16 (by kernel_rfl)
theorem Tryz.gw:TI.ok En.Dop.D4 Tryz.prog 17 (Tryz.tr 17):=Dy (by kernel_rfl) Tryz.underlying17 (by kernel_rfl)
theorem Tryz.gx:TI.ok En.Dop.D4 Tryz.prog 21 (Tryz.tr 21):=Dy (by kernel_rfl) Tryz.underlying21 (by kernel_rfl)
theorem Tryz.gy:TI.ok En.Dop.D4 Tryz.prog 23 (Tryz.tr 23):=Dy (by kernel_rfl) ⟨Tryz.underlying23,by kernel_rfl⟩ (by kernel_rfl)
theorem Tryz.gz:TI.ok En.Dop.D4 Tryz.prog 24 (Tryz.tr 24):=Dy (by kernel_rfl) ⟨Tryz.underlying24,by kernel_rfl⟩ (by kernel_rfl)
theorem Tryz.hC:TI.ok En.Dop.D4 Tryz.prog 25 (Tryz.tr 25):=Dy (by kernel_rfl) ⟨Tryz.underlying25,by kernel_rfl⟩ (by kernel_rfl)
theorem Tryz.hH:TI.ok En.Dop.D4 Tryz.prog 27 (Tryz.tr 27):=VJ (τ0:=13) (by kernel_rfl) ⟨_,Tryz.underlying27,rfl,rfl,by kernel_rfl,by decide,rfl,rfl,by kernel_rfl,by decide,rfl,rfl,by kernel_rfl,by decide,rfl,rfl,by kernel_rfl,by decide,trivial⟩ (by kernel_rfl) ⟨rfl,by decide,rfl,rfl⟩
theorem Tryz.hO:TI.ok En.Dop.D4 Tryz.prog 28 (Tryz.tr 28):=Dy (by kernel_rfl) Tryz.underlying28 (by kernel_rfl)
theorem Tryz.hP:TI.ok En.Dop.D4 Tryz.prog 32 ⟨4,40,.agg #[.string ⟨#[]⟩,.int .i64 0,.int .i64 0,.int .i64 0],[.v (.string ⟨#[]⟩),.v (.int .i64 0),.v (.int .i64 0),.v (.int .i64 0)],.struct [(0,9,1),(1,3,1),(2,3,1),(3,3,1)],some 12,some [.str,.int .i64,.int .i64,.int .i64],none⟩:=⟨by kernel_rfl,fun β=>by simp [AA,SV.den,Value.cells],fun N=>by simp [BH,SV.on],rfl,⟨_,Tryz.underlying32,rfl,rfl,by kernel_rfl,by decide,rfl,rfl,by kernel_rfl,by decide,rfl,rfl,by kernel_rfl,by decide,rfl,rfl,by kernel_rfl,by decide,trivial⟩,(fun ks h=>by cases h;exact ⟨B6 (d:=9999) (ks:=[.str,.int .i64,.int .i64,.int .i64]) Tryz.underlying32 (by kernel_rfl) (.cons (ks:=[.str]) (ls:=[.int .i64,.int .i64,.int .i64]) (by decide) rfl (by kernel_rfl) (AT Tryz.underlying9) (fun h=>by first|rfl|cases h) (Er Tryz.underlying9) (.cons (ks:=[.int .i64]) (ls:=[.int .i64,.int .i64]) (by decide) rfl (by kernel_rfl) (AT Tryz.underlying3) (fun h=>by first|rfl|cases h) (AV Tryz.underlying3) (.cons (ks:=[.int .i64]) (ls:=[.int .i64]) (by decide) rfl (by kernel_rfl) (AT Tryz.underlying3) (fun h=>by first|rfl|cases h) (AV Tryz.underlying3) (.cons (ks:=[.int .i64]) (ls:=[]) (by decide) rfl (by kernel_rfl) (AT Tryz.underlying3) (fun h=>by first|rfl|cases h) (AV Tryz.underlying3) .nil)))),by kernel_rfl⟩),(fun τ h=>by cases h;exact ⟨rfl,by decide,rfl,rfl⟩),(fun τ h=>by cases h)⟩
theorem Tryz.hS:TI.ok En.Dop.D4 Tryz.prog 34 (Tryz.tr 34):=Dy (by kernel_rfl) ⟨Tryz.underlying34,by kernel_rfl⟩ (by kernel_rfl)
theorem Tryz.hU:TI.ok En.Dop.D4 Tryz.prog 38 ⟨4,40,.agg #[.int .i64 0,.string ⟨#[]⟩,.int .i64 0,.int .i64 0],[.v (.int .i64 0),.v (.string ⟨#[]⟩),.v (.int .i64 0),.v (.int .i64 0)],.struct [(0,3,1),(1,9,1),(2,3,1),(3,3,1)],some 4,some [.int .i64,.str,.int .i64,.int .i64],none⟩:=⟨by kernel_rfl,fun β=>by simp [AA,SV.den,Value.cells],fun N=>by simp [BH,SV.on],rfl,⟨_,Tryz.underlying38,rfl,rfl,by kernel_rfl,by decide,rfl,rfl,by kernel_rfl,by decide,rfl,rfl,by kernel_rfl,by decide,rfl,rfl,by kernel_rfl,by decide,trivial⟩,(fun ks h=>by cases h;exact ⟨B6 (d:=9999) (ks:=[.int .i64,.str,.int .i64,.int .i64]) Tryz.underlying38 (by kernel_rfl) (.cons (ks:=[.int .i64]) (ls:=[.str,.int .i64,.int .i64]) (by decide) rfl (by kernel_rfl) (AT Tryz.underlying3) (fun h=>by first|rfl|cases h) (AV Tryz.underlying3) (.cons (ks:=[.str]) (ls:=[.int .i64,.int .i64]) (by decide) rfl (by kernel_rfl) (AT Tryz.underlying9) (fun h=>by first|rfl|cases h) (Er Tryz.underlying9) (.cons (ks:=[.int .i64]) (ls:=[.int .i64]) (by decide) rfl (by kernel_rfl) (AT Tryz.underlying3) (fun h=>by first|rfl|cases h) (AV Tryz.underlying3) (.cons (ks:=[.int .i64]) (ls:=[]) (by decide) rfl (by kernel_rfl) (AT Tryz.underlying3) (fun h=>by first|rfl|cases h) (AV Tryz.underlying3) .nil)))),by kernel_rfl⟩),(fun τ h=>by cases h;exact ⟨rfl,by decide,rfl,rfl⟩),(fun τ h=>by cases h)⟩
theorem Tryz.hZ:TI.ok En.Dop.D4 Tryz.prog 39 (Tryz.tr 39):=Dy (by kernel_rfl) ⟨Tryz.underlying39,by kernel_rfl⟩ (by kernel_rfl)
theorem Tryz.iA:TI.ok En.Dop.D4 Tryz.prog 41 (Tryz.tr 41):=VJ (τ0:=7) (by kernel_rfl) ⟨_,Tryz.underlying41,rfl,rfl,by kernel_rfl,by decide,rfl,rfl,by kernel_rfl,by decide,rfl,rfl,by kernel_rfl,by decide,trivial⟩ (by kernel_rfl) ⟨rfl,by decide,rfl,rfl⟩
theorem Tryz.iB:TI.ok En.Dop.D4 Tryz.prog 44 (Tryz.tr 44):=Dy (by kernel_rfl) ⟨Tryz.underlying44,by kernel_rfl⟩ (by kernel_rfl)
theorem Tryz.iC:TI.ok En.Dop.D4 Tryz.prog 46 (Tryz.tr 46):=Dy (by kernel_rfl) ⟨_,Tryz.underlying46,rfl⟩ (by kernel_rfl)
theorem Tryz.iD:TI.ok En.Dop.D4 Tryz.prog 47 (Tryz.tr 47):=Dy (by kernel_rfl) ⟨_,Tryz.underlying47,rfl⟩ (by kernel_rfl)
theorem Tryz.iE:TI.ok En.Dop.D4 Tryz.prog 52 ⟨5,48,.agg #[.string ⟨#[]⟩,.int .i64 0,.int .i64 0,.int .i64 0,.int .i64 0],[.v (.string ⟨#[]⟩),.v (.int .i64 0),.v (.int .i64 0),.v (.int .i64 0),.v (.int .i64 0)],.struct [(0,9,1),(1,3,1),(2,3,1),(3,3,1),(4,3,1)],some 11,some [.str,.int .i64,.int .i64,.int .i64,.int .i64],none⟩:=⟨by kernel_rfl,fun β=>by simp [AA,SV.den,Value.cells],fun N=>by simp [BH,SV.on],rfl,⟨_,Tryz.underlying52,rfl,rfl,by kernel_rfl,by decide,rfl,rfl,by kernel_rfl,by decide,rfl,rfl,by kernel_rfl,by decide,rfl,rfl,by kernel_rfl,by decide,rfl,rfl,by kernel_rfl,by decide,trivial⟩,(fun ks h=>by cases h;exact ⟨B6 (d:=9999) (ks:=[.str,.int .i64,.int .i64,.int .i64,.int .i64]) Tryz.underlying52 (by kernel_rfl) (.cons (ks:=[.str]) (ls:=[.int .i64,.int .i64,.int .i64,.int .i64]) (by decide) rfl (by kernel_rfl) (AT Tryz.underlying9) (fun h=>by first|rfl|cases h) (Er Tryz.underlying9) (.cons (ks:=[.int .i64]) (ls:=[.int .i64,.int .i64,.int .i64]) (by decide) rfl (by kernel_rfl) (AT Tryz.underlying3) (fun h=>by first|rfl|cases h) (AV Tryz.underlying3) (.cons (ks:=[.int .i64]) (ls:=[.int .i64,.int .i64]) (by decide) rfl (by kernel_rfl) (AT Tryz.underlying3) (fun h=>by first|rfl|cases h) (AV Tryz.underlying3) (.cons (ks:=[.int .i64]) (ls:=[.int .i64]) (by decide) rfl (by kernel_rfl) (AT Tryz.underlying3) (fun h=>by first|rfl|cases h) (AV Tryz.underlying3) (.cons (ks:=[.int .i64]) (ls:=[]) (by decide) rfl (by kernel_rfl) (AT Tryz.underlying3) (fun h=>by first|rfl|cases h) (AV Tryz.underlying3) .nil))))),by kernel_rfl⟩),(fun τ h=>by cases h;exact ⟨rfl,by decide,rfl,rfl⟩),(fun τ h=>by cases h)⟩
theorem Tryz.iF:TI.ok En.Dop.D4 Tryz.prog 56 ⟨9,80,.agg #[.int .i64 0,.int .i64 0,.int .i64 0,.int .i64 0,.int .i64 0,.string ⟨#[]⟩,.int .i64 0,.int .i64 0,.int .i64 0],[.v (.int .i64 0),.v (.int .i64 0),.v (.int .i64 0),.v (.int .i64 0),.v (.int .i64 0),.v (.string ⟨#[]⟩),.v (.int .i64 0),.v (.int .i64 0),.v (.int .i64 0)],.struct [(0,3,1),(1,3,1),(2,3,1),(3,3,1),(4,3,1),(5,9,1),(6,3,1),(7,3,1),(8,3,1)],some 5,some [.int .i64,.int .i64,.int .i64,.int .i64,.int .i64,.str,.int .i64,.int .i64,.int .i64],none⟩:=⟨by kernel_rfl,fun β=>by simp [AA,SV.den,Value.cells],fun N=>by simp [BH,SV.on],rfl,⟨_,Tryz.underlying56,rfl,rfl,by kernel_rfl,by decide,rfl,rfl,by kernel_rfl,by decide,rfl,rfl,by kernel_rfl,by decide,rfl,rfl,by kernel_rfl,by decide,rfl,rfl,by kernel_rfl,by decide,rfl,rfl,by kernel_rfl,by decide,rfl,rfl,by kernel_rfl,by decide,rfl,rfl,by kernel_rfl,by decide,rfl,rfl,by kernel_rfl,by decide,trivial⟩,(fun ks h=>by cases h;exact ⟨B6 (d:=9999) (ks:=[.int .i64,.int .i64,.int .i64,.int .i64,.int .i64,.str,.int .i64,.int .i64,.int .i64]) Tryz.underlying56 (by kernel_rfl) (.cons (ks:=[.int .i64]) (ls:=[.int .i64,.int .i64,.int .i64,.int .i64,.str,.int .i64,.int .i64,.int .i64]) (by decide) rfl (by kernel_rfl) (AT Tryz.underlying3) (fun h=>by first|rfl|cases h) (AV Tryz.underlying3) (.cons (ks:=[.int .i64]) (ls:=[.int .i64,.int .i64,.int .i64,.str,.int .i64,.int .i64,.int .i64]) (by decide) rfl (by kernel_rfl) (AT Tryz.underlying3) (fun h=>by first|rfl|cases h) (AV Tryz.underlying3) (.cons (ks:=[.int .i64]) (ls:=[.int .i64,.int .i64,.str,.int .i64,.int .i64,.int .i64]) (by decide) rfl (by kernel_rfl) (AT Tryz.underlying3) (fun h=>by first|rfl|cases h) (AV Tryz.underlying3) (.cons (ks:=[.int .i64]) (ls:=[.int .i64,.str,.int .i64,.int .i64,.int .i64]) (by decide) rfl (by kernel_rfl) (AT Tryz.underlying3) (fun h=>by first|rfl|cases h) (AV Tryz.underlying3) (.cons (ks:=[.int .i64]) (ls:=[.str,.int .i64,.int .i64,.int .i64]) (by decide) rfl (by kernel_rfl) (AT Tryz.underlying3) (fun h=>by first|rfl|cases h) (AV Tryz.underlying3) (.cons (ks:=[.str]) (ls:=[.int .i64,.int .i64,.int .i64]) (by decide) rfl (by kernel_rfl) (AT Tryz.underlying9) (fun h=>by first|rfl|cases h) (Er Tryz.underlying9) (.cons (ks:=[.int .i64]) (ls:=[.int .i64,.int .i64]) (by decide) rfl (by kernel_rfl) (AT Tryz.underlying3) (fun h=>by first|rfl|cases h) (AV Tryz.underlying3) (.cons (ks:=[.int .i64]) (ls:=[.int .i64]) (by decide) rfl (by kernel_rfl) (AT Tryz.underlying3) (fun h=>by first|rfl|cases h) (AV Tryz.underlying3) (.cons (ks:=[.int .i64]) (ls:=[]) (by decide) rfl (by kernel_rfl) (AT Tryz.underlying3) (fun h=>by first|rfl|cases h) (AV Tryz.underlying3) .nil))))))))),by kernel_rfl⟩),(fun τ h=>by cases h;exact ⟨rfl,by decide,rfl,rfl⟩),(fun τ h=>by cases h)⟩
theorem Tryz.iG:TI.ok En.Dop.D4 Tryz.prog 59 (Tryz.tr 59):=Dy (by kernel_rfl) ⟨Tryz.underlying59,by kernel_rfl⟩ (by kernel_rfl)
theorem Tryz.iH:TI.ok En.Dop.D4 Tryz.prog 61 (Tryz.tr 61):=VJ (τ0:=19) (by kernel_rfl) ⟨_,Tryz.underlying61,rfl,rfl,by kernel_rfl,by decide,rfl,rfl,by kernel_rfl,by decide,rfl,rfl,by kernel_rfl,by decide,trivial⟩ (by kernel_rfl) ⟨rfl,by decide,rfl,rfl⟩
theorem Tryz.iI:TI.ok En.Dop.D4 Tryz.prog 66 (Tryz.tr 66):=Dy (by kernel_rfl) ⟨Tryz.underlying66,by kernel_rfl⟩ (by kernel_rfl)
theorem Tryz.iJ:TI.ok En.Dop.D4 Tryz.prog 67 (Tryz.tr 67):=VJ (τ0:=18) (by kernel_rfl) Tryz.underlying67 (by kernel_rfl) ⟨rfl,by decide,rfl,rfl⟩
theorem Tryz.iK:TI.ok En.Dop.D4 Tryz.prog 83 (Tryz.tr 83):=Dy (by kernel_rfl) ⟨_,Tryz.underlying83,rfl⟩ (by kernel_rfl)
theorem Tryz.iL:TI.ok En.Dop.D4 Tryz.prog 89 (Tryz.tr 89):=Dy (by kernel_rfl) Tryz.underlying89 (by kernel_rfl)
theorem Tryz.iM:TI.ok En.Dop.D4 Tryz.prog 91 (Tryz.tr 91):=Dy (by kernel_rfl) ⟨_,Tryz.underlying91,rfl,rfl,by kernel_rfl,by decide,rfl,rfl,by kernel_rfl,by decide,rfl,rfl,by kernel_rfl,by decide,rfl,rfl,by kernel_rfl,by decide,rfl,rfl,by kernel_rfl,by decide,rfl,rfl,by kernel_rfl,by decide,trivial⟩ (by kernel_rfl)
theorem Tryz.iN:TI.ok En.Dop.D4 Tryz.prog 93 ⟨4,40,.agg #[.int .i64 0,.int .i64 0,.int .i64 0,.string ⟨#[]⟩],[.v (.int .i64 0),.v (.int .i64 0),.v (.int .i64 0),.v (.string ⟨#[]⟩)],.struct [(0,3,1),(1,3,1),(2,3,1),(3,9,1)],some 6,some [.int .i64,.int .i64,.int .i64,.str],none⟩:=⟨by kernel_rfl,fun β=>by simp [AA,SV.den,Value.cells],fun N=>by simp [BH,SV.on],rfl,⟨_,Tryz.underlying93,rfl,rfl,by kernel_rfl,by decide,rfl,rfl,by kernel_rfl,by decide,rfl,rfl,by kernel_rfl,by decide,rfl,rfl,by kernel_rfl,by decide,trivial⟩,(fun ks h=>by cases h;exact ⟨B6 (d:=9999) (ks:=[.int .i64,.int .i64,.int .i64,.str]) Tryz.underlying93 (by kernel_rfl) (.cons (ks:=[.int .i64]) (ls:=[.int .i64,.int .i64,.str]) (by decide) rfl (by kernel_rfl) (AT Tryz.underlying3) (fun h=>by first|rfl|cases h) (AV Tryz.underlying3) (.cons (ks:=[.int .i64]) (ls:=[.int .i64,.str]) (by decide) rfl (by kernel_rfl) (AT Tryz.underlying3) (fun h=>by first|rfl|cases h) (AV Tryz.underlying3) (.cons (ks:=[.int .i64]) (ls:=[.str]) (by decide) rfl (by kernel_rfl) (AT Tryz.underlying3) (fun h=>by first|rfl|cases h) (AV Tryz.underlying3) (.cons (ks:=[.str]) (ls:=[]) (by decide) rfl (by kernel_rfl) (AT Tryz.underlying9) (fun h=>by first|rfl|cases h) (Er Tryz.underlying9) .nil)))),by kernel_rfl⟩),(fun τ h=>by cases h;exact ⟨rfl,by decide,rfl,rfl⟩),(fun τ h=>by cases h)⟩
theorem Tryz.iO:TI.ok En.Dop.D4 Tryz.prog 95 (Tryz.tr 95):=Dy (by kernel_rfl) ⟨_,Tryz.underlying95,rfl⟩ (by kernel_rfl)
theorem Tryz.dS:TI.ok En.Dop.D4 Tryz.prog 110 (Tryz.tr 110):=Dy (by kernel_rfl) ⟨_,Tryz.underlying110,rfl⟩ (by kernel_rfl)
theorem Tryz.dT:TI.ok En.Dop.D4 Tryz.prog 118 (Tryz.tr 118):=Dy (by kernel_rfl) Tryz.underlying118 (by kernel_rfl)
theorem Tryz.dU:TI.ok En.Dop.D4 Tryz.prog 119 (Tryz.tr 119):=Dy (by kernel_rfl) Tryz.underlying119 (by kernel_rfl)
theorem Tryz.dV:TI.ok En.Dop.D4 Tryz.prog 121 (Tryz.tr 121):=Dy (by kernel_rfl) ⟨_,Tryz.underlying121,rfl,rfl,by kernel_rfl,by decide,rfl,rfl,by kernel_rfl,by decide,rfl,rfl,by kernel_rfl,by decide,rfl,rfl,by kernel_rfl,by decide,rfl,rfl,by kernel_rfl,by decide,rfl,rfl,by kernel_rfl,by decide,rfl,rfl,by kernel_rfl,by decide,rfl,rfl,by kernel_rfl,by decide,rfl,rfl,by kernel_rfl,by decide,rfl,rfl,by kernel_rfl,by decide,trivial⟩ (by kernel_rfl)
theorem Tryz.dW:TI.ok En.Dop.D4 Tryz.prog 126 (Tryz.tr 126):=Dy (by kernel_rfl) Tryz.underlying126 (by kernel_rfl)
theorem Tryz.dX:TI.ok En.Dop.D4 Tryz.prog 127 (Tryz.tr 127):=Dy (by kernel_rfl) Tryz.underlying127 (by kernel_rfl)
theorem Tryz.dY:TI.ok En.Dop.D4 Tryz.prog 129 (Tryz.tr 129):=Dy (by kernel_rfl) Tryz.underlying129 (by kernel_rfl)
theorem Tryz.dZ:TI.ok En.Dop.D4 Tryz.prog 130 (Tryz.tr 130):=Dy (by kernel_rfl) ⟨Tryz.underlying130,by kernel_rfl⟩ (by kernel_rfl)
theorem Tryz.da:TI.ok En.Dop.D4 Tryz.prog 131 (Tryz.tr 131):=Dy (by kernel_rfl) Tryz.underlying131 (by kernel_rfl)
theorem Tryz.db:TI.ok En.Dop.D4 Tryz.prog 132 (Tryz.tr 132):=Dy (by kernel_rfl) Tryz.underlying132 (by kernel_rfl)
theorem Tryz.dc:TI.ok En.Dop.D4 Tryz.prog 133 (Tryz.tr 133):=Dy (by kernel_rfl) ⟨Tryz.underlying133,by kernel_rfl⟩ (by kernel_rfl)
theorem Tryz.dd:TI.ok En.Dop.D4 Tryz.prog 135 (Tryz.tr 135):=Dy (by kernel_rfl) ⟨_,Tryz.underlying135,rfl,rfl,by kernel_rfl,by decide,rfl,rfl,by kernel_rfl,by decide,rfl,rfl,by kernel_rfl,by decide,rfl,rfl,by kernel_rfl,by decide,rfl,rfl,by kernel_rfl,by decide,rfl,rfl,by kernel_rfl,by decide,rfl,rfl,by kernel_rfl,by decide,rfl,rfl,by kernel_rfl,by decide,rfl,rfl,by kernel_rfl,by decide,rfl,rfl,by kernel_rfl,by decide,rfl,rfl,by kernel_rfl,by decide,rfl,rfl,by kernel_rfl,by decide,rfl,rfl,by kernel_rfl,by decide,rfl,rfl,by kernel_rfl,by decide,rfl,rfl,by kernel_rfl,by decide,rfl,rfl,by kernel_rfl,by decide,trivial⟩ (by kernel_rfl)
theorem Tryz.de:TI.ok En.Dop.D4 Tryz.prog 140 (Tryz.tr 140):=VJ (τ0:=15) (by kernel_rfl) ⟨_,Tryz.underlying140,rfl,rfl,by kernel_rfl,by decide,rfl,rfl,by kernel_rfl,by decide,trivial⟩ (by kernel_rfl) ⟨rfl,by decide,rfl,rfl⟩
theorem Tryz.dh:TI.ok En.Dop.D4 Tryz.prog 144 (Tryz.tr 144):=Dy (by kernel_rfl) ⟨_,Tryz.underlying144,rfl⟩ (by kernel_rfl)
theorem Tryz.di:TI.ok En.Dop.D4 Tryz.prog 154 (Tryz.tr 154):=Dy (by kernel_rfl) ⟨_,Tryz.underlying154,rfl⟩ (by kernel_rfl)
theorem Tryz.dj:TI.ok En.Dop.D4 Tryz.prog 155 (Tryz.tr 155):=Dy (by kernel_rfl) ⟨_,Tryz.underlying155,rfl⟩ (by kernel_rfl)
theorem Tryz.dm:TI.ok En.Dop.D4 Tryz.prog 161 (Tryz.tr 161):=Dy (by kernel_rfl) Tryz.underlying161 (by kernel_rfl)
theorem Tryz.dn:TI.ok En.Dop.D4 Tryz.prog 163 (Tryz.tr 163):=Dy (by kernel_rfl) ⟨_,Tryz.underlying163,rfl,rfl,by kernel_rfl,by decide,rfl,rfl,by kernel_rfl,by decide,rfl,rfl,by kernel_rfl,by decide,rfl,rfl,by kernel_rfl,by decide,rfl,rfl,by kernel_rfl,by decide,rfl,rfl,by kernel_rfl,by decide,rfl,rfl,by kernel_rfl,by decide,trivial⟩ (by kernel_rfl)
theorem Tryz.dq:TI.ok En.Dop.D4 Tryz.prog 166 (Tryz.tr 166):=Dy (by kernel_rfl) Tryz.underlying166 (by kernel_rfl)
theorem Tryz.dt:TI.ok En.Dop.D4 Tryz.prog 168 (Tryz.tr 168):=Dy (by kernel_rfl) ⟨_,Tryz.underlying168,rfl,rfl,by kernel_rfl,by decide,rfl,rfl,by kernel_rfl,by decide,trivial⟩ (by kernel_rfl)
theorem Tryz.du:TI.ok En.Dop.D4 Tryz.prog 169 (Tryz.tr 169):=VJ (τ0:=17) (by kernel_rfl) ⟨Tryz.underlying169,by kernel_rfl⟩ (by kernel_rfl) ⟨rfl,by decide,rfl,rfl⟩
theorem Tryz.dw:TI.ok En.Dop.D4 Tryz.prog 171 ⟨2,24,.agg #[.string ⟨#[]⟩,.int .i64 0],[.v (.string ⟨#[]⟩),.v (.int .i64 0)],.struct [(0,9,1),(1,3,1)],some 16,some [.str,.int .i64],none⟩:=⟨by kernel_rfl,fun β=>by simp [AA,SV.den,Value.cells],fun N=>by simp [BH,SV.on],rfl,⟨_,Tryz.underlying171,rfl,rfl,by kernel_rfl,by decide,rfl,rfl,by kernel_rfl,by decide,trivial⟩,(fun ks h=>by cases h;exact ⟨B6 (d:=9999) (ks:=[.str,.int .i64]) Tryz.underlying171 (by kernel_rfl) (.cons (ks:=[.str]) (ls:=[.int .i64]) (by decide) rfl (by kernel_rfl) (AT Tryz.underlying9) (fun h=>by first|rfl|cases h) (Er Tryz.underlying9) (.cons (ks:=[.int .i64]) (ls:=[]) (by decide) rfl (by kernel_rfl) (AT Tryz.underlying3) (fun h=>by first|rfl|cases h) (AV Tryz.underlying3) .nil)),by kernel_rfl⟩),(fun τ h=>by cases h;exact ⟨rfl,by decide,rfl,rfl⟩),(fun τ h=>by cases h)⟩
theorem Tryz.dx:TI.ok En.Dop.D4 Tryz.prog 174 ⟨5,40,.agg #[.int .i64 0,.int .i64 0,.int .i64 0,.int .i64 0,.bool false],[.v (.int .i64 0),.v (.int .i64 0),.v (.int .i64 0),.v (.int .i64 0),.v (.bool false)],.struct [(0,3,1),(1,3,1),(2,3,1),(3,3,1),(4,4,1)],some 10,some [.int .i64,.int .i64,.int .i64,.int .i64,.bool],none⟩:=⟨by kernel_rfl,fun β=>by simp [AA,SV.den,Value.cells],fun N=>by simp [BH,SV.on],rfl,⟨_,Tryz.underlying174,rfl,rfl,by kernel_rfl,by decide,rfl,rfl,by kernel_rfl,by decide,rfl,rfl,by kernel_rfl,by decide,rfl,rfl,by kernel_rfl,by decide,rfl,rfl,by kernel_rfl,by decide,trivial⟩,(fun ks h=>by cases h;exact ⟨B6 (d:=9999) (ks:=[.int .i64,.int .i64,.int .i64,.int .i64,.bool]) Tryz.underlying174 (by kernel_rfl) (.cons (ks:=[.int .i64]) (ls:=[.int .i64,.int .i64,.int .i64,.bool]) (by decide) rfl (by kernel_rfl) (AT Tryz.underlying3) (fun h=>by first|rfl|cases h) (AV Tryz.underlying3) (.cons (ks:=[.int .i64]) (ls:=[.int .i64,.int .i64,.bool]) (by decide) rfl (by kernel_rfl) (AT Tryz.underlying3) (fun h=>by first|rfl|cases h) (AV Tryz.underlying3) (.cons (ks:=[.int .i64]) (ls:=[.int .i64,.bool]) (by decide) rfl (by kernel_rfl) (AT Tryz.underlying3) (fun h=>by first|rfl|cases h) (AV Tryz.underlying3) (.cons (ks:=[.int .i64]) (ls:=[.bool]) (by decide) rfl (by kernel_rfl) (AT Tryz.underlying3) (fun h=>by first|rfl|cases h) (AV Tryz.underlying3) (.cons (ks:=[.bool]) (ls:=[]) (by decide) rfl (by kernel_rfl) (AT Tryz.underlying4) (fun h=>by first|rfl|cases h) (SB Tryz.underlying4) .nil))))),by kernel_rfl⟩),(fun τ h=>by cases h;exact ⟨rfl,by decide,rfl,rfl⟩),(fun τ h=>by cases h)⟩
theorem Tryz.dy:TI.ok En.Dop.D4 Tryz.prog 176 (Tryz.tr 176):=Dy (by kernel_rfl) ⟨_,Tryz.underlying176,rfl⟩ (by kernel_rfl)
theorem Tryz.dz:TI.ok En.Dop.D4 Tryz.prog 178 ⟨3,24,.agg #[.int .i64 0,.int .i64 0,.int .i64 0],[.v (.int .i64 0),.v (.int .i64 0),.v (.int .i64 0)],.struct [(0,3,1),(1,3,1),(2,3,1)],some 9,some [.int .i64,.int .i64,.int .i64],none⟩:=⟨by kernel_rfl,fun β=>by simp [AA,SV.den,Value.cells],fun N=>by simp [BH,SV.on],rfl,⟨_,Tryz.underlying178,rfl,rfl,by kernel_rfl,by decide,rfl,rfl,by kernel_rfl,by decide,rfl,rfl,by kernel_rfl,by decide,trivial⟩,(fun ks h=>by cases h;exact ⟨B6 (d:=9999) (ks:=[.int .i64,.int .i64,.int .i64]) Tryz.underlying178 (by kernel_rfl) (.cons (ks:=[.int .i64]) (ls:=[.int .i64,.int .i64]) (by decide) rfl (by kernel_rfl) (AT Tryz.underlying3) (fun h=>by first|rfl|cases h) (AV Tryz.underlying3) (.cons (ks:=[.int .i64]) (ls:=[.int .i64]) (by decide) rfl (by kernel_rfl) (AT Tryz.underlying3) (fun h=>by first|rfl|cases h) (AV Tryz.underlying3) (.cons (ks:=[.int .i64]) (ls:=[]) (by decide) rfl (by kernel_rfl) (AT Tryz.underlying3) (fun h=>by first|rfl|cases h) (AV Tryz.underlying3) .nil))),by kernel_rfl⟩),(fun τ h=>by cases h;exact ⟨rfl,by decide,rfl,rfl⟩),(fun τ h=>by cases h)⟩
theorem Tryz.eA:TI.ok En.Dop.D4 Tryz.prog 184 (Tryz.tr 184):=Dy (by kernel_rfl) Tryz.underlying184 (by kernel_rfl)
theorem Tryz.eB:TI.ok En.Dop.D4 Tryz.prog 213 (Tryz.tr 213):=Dy (by kernel_rfl) Tryz.underlying213 (by kernel_rfl)
theorem Tryz.eC:TI.ok En.Dop.D4 Tryz.prog 214 (Tryz.tr 214):=VJ (τ0:=8) (by kernel_rfl) ⟨Tryz.underlying214,by kernel_rfl⟩ (by kernel_rfl) ⟨rfl,by decide,rfl,rfl⟩
theorem Tryz.eD:TI.ok En.Dop.D4 Tryz.prog 217 (Tryz.tr 217):=Dy (by kernel_rfl) Tryz.underlying217 (by kernel_rfl)
theorem Tryz.eE:TI.ok En.Dop.D4 Tryz.prog 246 (Tryz.tr 246):=Dy (by kernel_rfl) ⟨_,Tryz.underlying246,rfl⟩ (by kernel_rfl)
theorem Tryz.eF:TI.ok En.Dop.D4 Tryz.prog 260 (Tryz.tr 260):=Dy (by kernel_rfl) Tryz.underlying260 (by kernel_rfl)
theorem Tryz.eG:TI.ok En.Dop.D4 Tryz.prog 264 (Tryz.tr 264):=Dy (by kernel_rfl) ⟨_,Tryz.underlying264,rfl⟩ (by kernel_rfl)
theorem Tryz.eH:TI.ok En.Dop.D4 Tryz.prog 265 (Tryz.tr 265):=Dy (by kernel_rfl) ⟨_,Tryz.underlying265,rfl⟩ (by kernel_rfl)
theorem Tryz.eI:TI.ok En.Dop.D4 Tryz.prog 267 (Tryz.tr 267):=VJ (τ0:=14) (by kernel_rfl) ⟨Tryz.underlying267,by kernel_rfl⟩ (by kernel_rfl) ⟨rfl,by decide,rfl,rfl⟩
theorem Tryz.eJ:TI.ok En.Dop.D4 Tryz.prog 268 (Tryz.tr 268):=Dy (by kernel_rfl) Tryz.underlying268 (by kernel_rfl)
theorem Tryz.eK:TI.ok En.Dop.D4 Tryz.prog 290 (Tryz.tr 290):=Dy (by kernel_rfl) ⟨_,Tryz.underlying290,rfl⟩ (by kernel_rfl)
theorem Tryz.eM:TI.ok En.Dop.D4 Tryz.prog 298 (Tryz.tr 298):=Dy (by kernel_rfl) ⟨_,Tryz.underlying298,rfl,rfl,by kernel_rfl,by decide,rfl,rfl,by kernel_rfl,by decide,rfl,rfl,by kernel_rfl,by decide,rfl,rfl,by kernel_rfl,by decide,trivial⟩ (by kernel_rfl)
set_option maxRecDepth 100000 in
theorem Tryz.AH:AW En.Dop.D4 Tryz.prog Tryz.tb:=
 ⟨Tryz.jg,Tryz.jh,Tryz.ji,Tryz.jj,Tryz.jk,Tryz.jl,Tryz.jm,Tryz.jn,Tryz.jo,Tryz.gm,Tryz.gn,Tryz.gp,Tryz.gq,Tryz.gr,Tryz.gu,Tryz.gv,Tryz.gw,Tryz.gx,Tryz.gy,Tryz.gz,Tryz.hC,Tryz.hH,Tryz.hO,Tryz.hP,Tryz.hS,Tryz.hU,Tryz.hZ,Tryz.iA,Tryz.iB,Tryz.iC,Tryz.iD,Tryz.iE,Tryz.iF,Tryz.iG,Tryz.iH,Tryz.iI,Tryz.iJ,Tryz.iK,Tryz.iL,Tryz.iM,Tryz.iN,Tryz.iO,Tryz.dS,Tryz.dT,Tryz.dU,Tryz.dV,Tryz.dW,Tryz.dX,Tryz.dY,Tryz.dZ,Tryz.da,Tryz.db,Tryz.dc,Tryz.dd,Tryz.de,Tryz.dh,Tryz.di,Tryz.dj,Tryz.dm,Tryz.dn,Tryz.dq,Tryz.dt,Tryz.du,Tryz.dw,Tryz.dx,Tryz.dy,Tryz.dz,Tryz.eA,Tryz.eB,Tryz.eC,Tryz.eD,Tryz.eE,Tryz.eF,Tryz.eG,Tryz.eH,Tryz.eI,Tryz.eJ,Tryz.eK,Tryz.eM,trivial⟩
end Go.Proofs
