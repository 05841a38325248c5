/- Functions that call one another: models by fuel, contracts at whatever fuel. -/
import Derived.Test.YtpjlciengdhjoaaGreatDoorMf
import Derived.Test.YtpjlciengdhjoaaGreatDoorProg
import Derived.Test.YtpjlciengdhjoaaGreatDoorMc
namespace Go.En
open Go.RowKit
def FU:Nat:=1000000000
section
variable {S:As} {P:Program}
theorem Mx {c c':BU S} (h:c'.Holds P) (e:c=c'):c.Holds P:=e▸h
theorem Ad {l m:List (BU S)} (h: ∀ c∈l,c.Holds P) (k: ∀ c∈m,c.Holds P): ∀ c∈l++m,c.Holds P:=fun c hc=>(List.mem_append.1 hc).elim (h c) (k c)
theorem AR {f:Nat} {tb:List (Nat×TI)} {p:Aj} (htb:Ae S P tb) (h:AH S P f p=true):BU.Holds (S:=S) P ⟨f,p.bn,p.sp,p.rs,p.flat,.opt fun _=>none⟩:=by
 obtain ⟨h1,h2,h3,_⟩:=BP (P:=P) (S:=S) (f:=f) (p:=p) 0 htb Am h
 exact ⟨h1,h2,h3,fun x y hxy=>by cases hxy⟩
end
def Le {α:Type} (a b:Option α):Prop:= ∀ y,a=some y->b=some y
section
variable {α β:Type}
theorem le_refl {a:Option α}:Le a a:=fun _ h=>h
end
end Go.En
namespace Go.Proofs
open Go Go.En
section
variable {S:As} {P:Program} {T:Nat} {t:TI}
theorem S8 (β:Nat->Nm): ∀ l:List Value,AD β (l.map SV.v)=l
 | []=>by simp [AD]
 | x::r=>by simp [AD,SV.den,S8 β r]
theorem dJ (N:Nat->Prop) (l:List Value):BZ N (l.map SV.v):=A0.2 fun x hx=>by obtain ⟨v,_,rfl⟩:=List.mem_map.1 hx;trivial
theorem D9 (h:((P.info? T).map (fun i=>(i.zero,i.size,i.bytes)),t.zc,t.zc.length)=(some (some t.z,t.sz,t.bs),t.z.cells.toList.map SV.v,t.sz)) (hd:t.d.ok P T) (h2:(t.eq,t.τ,t.δ)=(none,none,none)):TI.ok S P T t:=by
 simp only [bi] at h h2
 exact ⟨h.1,fun β=>by rw [h.2.1,S8],fun N=>by rw [h.2.1];exact dJ N _,h.2.2,hd,fun ks g=>(by rw [h2.1] at g;cases g),fun τ g=>(by rw [h2.2.1] at g;cases g),fun τ g=>(by rw [h2.2.2] at g;cases g)⟩
theorem Wj {τ0:Nat} (h:((P.info? T).map (fun i=>(i.zero,i.size,i.bytes)),t.zc,t.zc.length)=(some (some t.z,t.sz,t.bs),t.z.cells.toList.map SV.v,t.sz)) (hd:t.d.ok P T) (h2:(t.eq,t.τ,t.δ)=(none,some τ0,none)) (h3:S.sz τ0=t.sz/\0<t.sz/\S.enc τ0 (S.A4 τ0)=(S.fds τ0).map Fd.PV/\t.z.cells.toList=(S.fds τ0).map Fd.zeroV):TI.ok S P T t:=by
 simp only [bi] at h h2
 exact ⟨h.1,fun β=>by rw [h.2.1,S8],fun N=>by rw [h.2.1];exact dJ N _,h.2.2,hd,fun ks g=>(by rw [h2.1] at g;cases g),fun τ g=>(by rw [h2.2.1] at g;cases g;exact h3),fun τ g=>(by rw [h2.2.2] at g;cases g)⟩
end
def Tryz.tb:List (Nat×TI):=[
 (1,⟨1,8,.nilFunc,[.v (.nilFunc)],.other,none,none,none⟩),
 (2,⟨1,8,.int .i64 0,[.v (.int .i64 0)],.int .i64,none,none,none⟩),
 (3,⟨1,8,.int .i64 0,[.v (.int .i64 0)],.int .i64,some 0,none,none⟩),
 (4,⟨1,1,.bool false,[.v (.bool false)],.bool,some 2,none,none⟩),
 (5,⟨1,1,.int .u8 0,[.v (.int .u8 0)],.int .u8,some 3,none,none⟩),
 (6,⟨1,1,.int .u8 0,[.v (.int .u8 0)],.int .u8,none,none,none⟩),
 (7,⟨4,24,.agg #[.int .i64 0,.int .i64 0,.bool false,.int .u8 0],[.v (.int .i64 0),.v (.int .i64 0),.v (.bool false),.v (.int .u8 0)],.struct [(0,2,1),(1,3,1),(2,4,1),(3,6,1)],none,none,none⟩),
 (8,⟨4,24,.agg #[.int .i64 0,.int .i64 0,.bool false,.int .u8 0],[.v (.int .i64 0),.v (.int .i64 0),.v (.bool false),.v (.int .u8 0)],.struct [(0,2,1),(1,3,1),(2,4,1),(3,6,1)],none,none,none⟩),
 (9,⟨1,16,.string ⟨#[]⟩,[.v (.string ⟨#[]⟩)],.str,some 1,none,none⟩),
 (10,⟨1,16,.string ⟨#[]⟩,[.v (.string ⟨#[]⟩)],.str,none,none,none⟩),
 (11,⟨1,16,.string ⟨#[]⟩,[.v (.string ⟨#[]⟩)],.str,none,none,none⟩),
 (12,⟨1,8,.int .u64 0,[.v (.int .u64 0)],.int .u64,none,none,none⟩),
 (13,⟨2,24,.agg #[.string ⟨#[]⟩,.int .u64 0],[.v (.string ⟨#[]⟩),.v (.int .u64 0)],.struct [(0,9,1),(1,12,1)],none,none,none⟩),
 (14,⟨2,24,.agg #[.string ⟨#[]⟩,.int .u64 0],[.v (.string ⟨#[]⟩),.v (.int .u64 0)],.struct [(0,9,1),(1,12,1)],none,none,none⟩),
 (15,⟨1,8,.pointer none,[.v (.pointer none)],.ptr 266,none,none,none⟩),
 (16,⟨1,8,.pointer none,[.v (.pointer none)],.ptr 269,none,none,none⟩),
 (17,⟨1,8,.pointer none,[.v (.pointer none)],.ptr 276,none,none,none⟩),
 (21,⟨1,4,.int .i32 0,[.v (.int .i32 0)],.int .i32,none,none,none⟩),
 (22,⟨1,24,.slice none 0 0,[.v (.slice none 0 0)],.slice 3 1,none,none,none⟩),
 (23,⟨1,24,.slice none 0 0,[.v (.slice none 0 0)],.slice 9 1,none,none,none⟩),
 (25,⟨1,8,.int .i64 0,[.v (.int .i64 0)],.int .i64,some 18,none,none⟩),
 (27,⟨1,8,.map none,[.v (.map none)],.map 9 25,none,none,none⟩),
 (29,⟨1,24,.slice none 0 0,[.v (.slice none 0 0)],.slice 5 1,none,none,none⟩),
 (31,⟨3,40,.agg #[.int .i64 0,.int .i64 0,.slice none 0 0],[.v (.int .i64 0),.v (.int .i64 0),.v (.slice none 0 0)],.struct [(0,3,1),(1,3,1),(2,29,1)],some 19,none,none⟩),
 (32,⟨1,8,.int .i64 0,[.v (.int .i64 0)],.int .i64,none,none,none⟩),
 (40,⟨1,24,.slice none 0 0,[.v (.slice none 0 0)],.slice 83 5,none,none,none⟩),
 (41,⟨1,24,.slice none 0 0,[.v (.slice none 0 0)],.slice 63 4,none,none,none⟩),
 (42,⟨1,24,.slice none 0 0,[.v (.slice none 0 0)],.slice 89 9,none,none,none⟩),
 (44,⟨4,80,.agg #[.slice none 0 0,.slice none 0 0,.int .i64 0,.slice none 0 0],[.v (.slice none 0 0),.v (.slice none 0 0),.v (.int .i64 0),.v (.slice none 0 0)],.struct [(0,40,1),(1,41,1),(2,3,1),(3,42,1)],some 13,none,none⟩),
 (52,⟨1,24,.slice none 0 0,[.v (.slice none 0 0)],.slice 111 4,none,none,none⟩),
 (54,⟨3,56,.agg #[.slice none 0 0,.slice none 0 0,.int .i64 0],[.v (.slice none 0 0),.v (.slice none 0 0),.v (.int .i64 0)],.struct [(0,42,1),(1,52,1),(2,3,1)],some 7,none,none⟩),
 (58,⟨1,8,.pointer none,[.v (.pointer none)],.ptr 61,none,none,none⟩),
 (59,⟨1,8,.map none,[.v (.map none)],.map 3 81,none,none,none⟩),
 (61,⟨13,200,.agg #[.slice none 0 0,.slice none 0 0,.int .i64 0,.slice none 0 0,.slice none 0 0,.int .i64 0,.slice none 0 0,.slice none 0 0,.int .i64 0,.int .i64 0,.int .i64 0,.int .i64 0,.map none],[.v (.slice none 0 0),.v (.slice none 0 0),.v (.int .i64 0),.v (.slice none 0 0),.v (.slice none 0 0),.v (.int .i64 0),.v (.slice none 0 0),.v (.slice none 0 0),.v (.int .i64 0),.v (.int .i64 0),.v (.int .i64 0),.v (.int .i64 0),.v (.map none)],.struct [(0,44,4),(4,22,1),(5,3,1),(6,29,1),(7,29,1),(8,3,1),(9,3,1),(10,3,1),(11,3,1),(12,59,1)],none,none,none⟩),
 (63,⟨4,40,.agg #[.string ⟨#[]⟩,.int .i64 0,.int .i64 0,.int .i64 0],[.v (.string ⟨#[]⟩),.v (.int .i64 0),.v (.int .i64 0),.v (.int .i64 0)],.struct [(0,9,1),(1,3,1),(2,3,1),(3,3,1)],some 12,some [.str,.int .i64,.int .i64,.int .i64],none⟩),
 (68,⟨1,8,.nilFunc,[.v (.nilFunc)],.other,none,none,none⟩),
 (71,⟨1,24,.slice none 0 0,[.v (.slice none 0 0)],.slice 104 4,none,none,none⟩),
 (75,⟨1,8,.pointer none,[.v (.pointer none)],.ptr 86,none,none,none⟩),
 (76,⟨1,8,.pointer none,[.v (.pointer none)],.ptr 117,none,none,none⟩),
 (78,⟨1,8,.map none,[.v (.map none)],.map 9 127,none,none,none⟩),
 (79,⟨1,24,.slice none 0 0,[.v (.slice none 0 0)],.slice 78 1,none,none,none⟩),
 (80,⟨1,8,.map none,[.v (.map none)],.map 9 93,none,none,none⟩),
 (81,⟨1,8,.map none,[.v (.map none)],.map 9 3,none,none,none⟩),
 (83,⟨5,48,.agg #[.string ⟨#[]⟩,.int .i64 0,.int .i64 0,.int .i64 0,.int .i64 0],[.v (.string ⟨#[]⟩),.v (.int .i64 0),.v (.int .i64 0),.v (.int .i64 0),.v (.int .i64 0)],.struct [(0,9,1),(1,3,1),(2,3,1),(3,3,1),(4,3,1)],some 11,some [.str,.int .i64,.int .i64,.int .i64,.int .i64],none⟩),
 (84,⟨1,24,.slice none 0 0,[.v (.slice none 0 0)],.slice 166 1,none,none,none⟩),
 (86,⟨25,336,.agg #[.slice none 0 0,.slice none 0 0,.int .i64 0,.pointer none,.slice none 0 0,.slice none 0 0,.slice none 0 0,.int .i64 0,.slice none 0 0,.slice none 0 0,.map none,.map none,.string ⟨#[]⟩,.int .i64 0,.int .i64 0,.int .i64 0,.int .i64 0,.int .i64 0,.map none,.map none,.int .i64 0,.slice none 0 0,.int .i64 0,.int .i64 0,.int .i64 0],[.v (.slice none 0 0),.v (.slice none 0 0),.v (.int .i64 0),.v (.pointer none),.v (.slice none 0 0),.v (.slice none 0 0),.v (.slice none 0 0),.v (.int .i64 0),.v (.slice none 0 0),.v (.slice none 0 0),.v (.map none),.v (.map none),.v (.string ⟨#[]⟩),.v (.int .i64 0),.v (.int .i64 0),.v (.int .i64 0),.v (.int .i64 0),.v (.int .i64 0),.v (.map none),.v (.map none),.v (.int .i64 0),.v (.slice none 0 0),.v (.int .i64 0),.v (.int .i64 0),.v (.int .i64 0)],.struct [(0,54,3),(3,76,1),(4,22,1),(5,44,4),(9,79,1),(10,80,1),(11,81,1),(12,83,5),(17,3,1),(18,81,1),(19,81,1),(20,3,1),(21,84,1),(22,3,1),(23,32,1),(24,3,1)],none,none,none⟩),
 (89,⟨9,80,.agg #[.int .i64 0,.int .i64 0,.int .i64 0,.int .i64 0,.int .i64 0,.string ⟨#[]⟩,.int .i64 0,.int .i64 0,.int .i64 0],[.v (.int .i64 0),.v (.int .i64 0),.v (.int .i64 0),.v (.int .i64 0),.v (.int .i64 0),.v (.string ⟨#[]⟩),.v (.int .i64 0),.v (.int .i64 0),.v (.int .i64 0)],.struct [(0,3,1),(1,3,1),(2,3,1),(3,3,1),(4,3,1),(5,9,1),(6,3,1),(7,3,1),(8,3,1)],some 5,some [.int .i64,.int .i64,.int .i64,.int .i64,.int .i64,.str,.int .i64,.int .i64,.int .i64],none⟩),
 (93,⟨2,32,.agg #[.slice none 0 0,.int .i64 0],[.v (.slice none 0 0),.v (.int .i64 0)],.struct [(0,22,1),(1,3,1)],some 15,none,none⟩),
 (95,⟨1,8,.pointer none,[.v (.pointer none)],.ptr 97,none,none,none⟩),
 (97,⟨11,120,.agg #[.string ⟨#[]⟩,.int .i64 0,.int .i64 0,.int .i64 0,.int .i64 0,.slice none 0 0,.int .i64 0,.int .i64 0,.string ⟨#[]⟩,.int .i64 0,.int .i64 0],[.v (.string ⟨#[]⟩),.v (.int .i64 0),.v (.int .i64 0),.v (.int .i64 0),.v (.int .i64 0),.v (.slice none 0 0),.v (.int .i64 0),.v (.int .i64 0),.v (.string ⟨#[]⟩),.v (.int .i64 0),.v (.int .i64 0)],.struct [(0,83,5),(5,22,1),(6,3,1),(7,3,1),(8,9,1),(9,3,1),(10,3,1)],none,none,none⟩),
 (100,⟨1,8,.nilFunc,[.v (.nilFunc)],.other,none,none,none⟩),
 (101,⟨1,24,.slice none 0 0,[.v (.slice none 0 0)],.slice 23 1,none,none,none⟩),
 (104,⟨4,40,.agg #[.int .i64 0,.string ⟨#[]⟩,.int .i64 0,.int .i64 0],[.v (.int .i64 0),.v (.string ⟨#[]⟩),.v (.int .i64 0),.v (.int .i64 0)],.struct [(0,3,1),(1,9,1),(2,3,1),(3,3,1)],some 4,some [.int .i64,.str,.int .i64,.int .i64],none⟩),
 (107,⟨1,8,.pointer none,[.v (.pointer none)],.ptr 109,none,none,none⟩),
 (109,⟨8,112,.agg #[.slice none 0 0,.int .i64 0,.slice none 0 0,.slice none 0 0,.int .i64 0,.int .i64 0,.int .i64 0,.int .i64 0],[.v (.slice none 0 0),.v (.int .i64 0),.v (.slice none 0 0),.v (.slice none 0 0),.v (.int .i64 0),.v (.int .i64 0),.v (.int .i64 0),.v (.int .i64 0)],.struct [(0,71,1),(1,3,1),(2,54,3),(5,3,1),(6,32,1),(7,3,1)],none,none,none⟩),
 (111,⟨4,40,.agg #[.int .i64 0,.int .i64 0,.int .i64 0,.string ⟨#[]⟩],[.v (.int .i64 0),.v (.int .i64 0),.v (.int .i64 0),.v (.string ⟨#[]⟩)],.struct [(0,3,1),(1,3,1),(2,3,1),(3,9,1)],some 6,some [.int .i64,.int .i64,.int .i64,.str],none⟩),
 (113,⟨1,8,.nilFunc,[.v (.nilFunc)],.other,none,none,none⟩),
 (115,⟨1,8,.map none,[.v (.map none)],.map 9 118,none,none,none⟩),
 (117,⟨2,32,.agg #[.slice none 0 0,.map none],[.v (.slice none 0 0),.v (.map none)],.struct [(0,52,1),(1,115,1)],none,none,none⟩),
 (118,⟨1,24,.slice none 0 0,[.v (.slice none 0 0)],.slice 120 2,some 17,none,none⟩),
 (120,⟨2,24,.agg #[.string ⟨#[]⟩,.int .i64 0],[.v (.string ⟨#[]⟩),.v (.int .i64 0)],.struct [(0,9,1),(1,3,1)],some 16,some [.str,.int .i64],none⟩),
 (123,⟨5,40,.agg #[.int .i64 0,.int .i64 0,.int .i64 0,.int .i64 0,.bool false],[.v (.int .i64 0),.v (.int .i64 0),.v (.int .i64 0),.v (.int .i64 0),.v (.bool false)],.struct [(0,3,1),(1,3,1),(2,3,1),(3,3,1),(4,4,1)],some 10,some [.int .i64,.int .i64,.int .i64,.int .i64,.bool],none⟩),
 (125,⟨1,8,.nilFunc,[.v (.nilFunc)],.other,none,none,none⟩),
 (127,⟨3,24,.agg #[.int .i64 0,.int .i64 0,.int .i64 0],[.v (.int .i64 0),.v (.int .i64 0),.v (.int .i64 0)],.struct [(0,3,1),(1,3,1),(2,3,1)],some 9,some [.int .i64,.int .i64,.int .i64],none⟩),
 (129,⟨1,8,.nilFunc,[.v (.nilFunc)],.other,none,none,none⟩),
 (140,⟨1,8,.nilFunc,[.v (.nilFunc)],.other,none,none,none⟩),
 (151,⟨1,8,.nilFunc,[.v (.nilFunc)],.other,none,none,none⟩),
 (152,⟨1,8,.nilFunc,[.v (.nilFunc)],.other,none,none,none⟩),
 (162,⟨1,4,.int .u32 0,[.v (.int .u32 0)],.int .u32,none,none,none⟩),
 (163,⟨4,32,.agg #[.int .i64 0,.int .i64 0,.int .i64 0,.int .i64 0],[.v (.int .i64 0),.v (.int .i64 0),.v (.int .i64 0),.v (.int .i64 0)],.array 4 3 1,some 8,none,none⟩),
 (166,⟨1,8,.map none,[.v (.map none)],.map 3 3,none,none,none⟩),
 (170,⟨1,8,.map none,[.v (.map none)],.map 5 3,none,none,none⟩),
 (174,⟨1,8,.nilFunc,[.v (.nilFunc)],.other,none,none,none⟩),
 (199,⟨1,8,.nilFunc,[.v (.nilFunc)],.other,none,none,none⟩),
 (204,⟨1,8,.pointer none,[.v (.pointer none)],.ptr 3,none,none,none⟩),
 (217,⟨1,8,.nilFunc,[.v (.nilFunc)],.other,none,none,none⟩),
 (218,⟨1,8,.nilFunc,[.v (.nilFunc)],.other,none,none,none⟩),
 (220,⟨2,16,.agg #[.int .i64 0,.int .i64 0],[.v (.int .i64 0),.v (.int .i64 0)],.array 2 25 1,some 14,none,none⟩),
 (221,⟨1,8,.map none,[.v (.map none)],.map 9 220,none,none,none⟩),
 (241,⟨1,8,.nilFunc,[.v (.nilFunc)],.other,none,none,none⟩),
 (266,⟨4,40,.agg #[.pointer none,.pointer none,.pointer none,.string ⟨#[]⟩],[.v (.pointer none),.v (.pointer none),.v (.pointer none),.v (.string ⟨#[]⟩)],.struct [(0,17,1),(1,17,1),(2,17,1),(3,9,1)],none,none,none⟩)]
def Tryz.tr (k:Nat):TI:=match lk Tryz.tb k with
 | some x=>x
 | none=>⟨0,0,.nilFunc,[],.other,none,none,none⟩
theorem Tryz.oB:TI.ok En.Dop.D4 Tryz.prog 1 (Tryz.tr 1):=D9 (by kernel_rfl) ⟨_,Tryz.underlying1,rfl⟩ (by kernel_rfl)
theorem Tryz.oD:TI.ok En.Dop.D4 Tryz.prog 2 (Tryz.tr 2):=D9 (by kernel_rfl) Tryz.underlying2 (by kernel_rfl)
theorem Tryz.oE:TI.ok En.Dop.D4 Tryz.prog 3 (Tryz.tr 3):=Wj (τ0:=0) (by kernel_rfl) Tryz.underlying3 (by kernel_rfl) ⟨rfl,by decide,rfl,rfl⟩
theorem Tryz.oF:TI.ok En.Dop.D4 Tryz.prog 4 (Tryz.tr 4):=Wj (τ0:=2) (by kernel_rfl) Tryz.underlying4 (by kernel_rfl) ⟨rfl,by decide,rfl,rfl⟩
theorem Tryz.oG:TI.ok En.Dop.D4 Tryz.prog 5 (Tryz.tr 5):=Wj (τ0:=3) (by kernel_rfl) Tryz.underlying5 (by kernel_rfl) ⟨rfl,by decide,rfl,rfl⟩
theorem Tryz.oH:TI.ok En.Dop.D4 Tryz.prog 6 (Tryz.tr 6):=D9 (by kernel_rfl) Tryz.underlying6 (by kernel_rfl)
theorem Tryz.oI:TI.ok En.Dop.D4 Tryz.prog 7 (Tryz.tr 7):=D9 (by kernel_rfl) ⟨_,Tryz.underlying7,rfl,rfl,by kernel_rfl,by decide,rfl,rfl,by kernel_rfl,by decide,rfl,rfl,by kernel_rfl,by decide,rfl,rfl,by kernel_rfl,by decide,trivial⟩ (by kernel_rfl)
theorem Tryz.oJ:TI.ok En.Dop.D4 Tryz.prog 8 (Tryz.tr 8):=D9 (by kernel_rfl) ⟨_,Tryz.underlying8,rfl,rfl,by kernel_rfl,by decide,rfl,rfl,by kernel_rfl,by decide,rfl,rfl,by kernel_rfl,by decide,rfl,rfl,by kernel_rfl,by decide,trivial⟩ (by kernel_rfl)
theorem Tryz.oK:TI.ok En.Dop.D4 Tryz.prog 9 (Tryz.tr 9):=Wj (τ0:=1) (by kernel_rfl) Tryz.underlying9 (by kernel_rfl) ⟨rfl,by decide,rfl,rfl⟩
theorem Tryz.lI:TI.ok En.Dop.D4 Tryz.prog 10 (Tryz.tr 10):=D9 (by kernel_rfl) Tryz.underlying10 (by kernel_rfl)
theorem Tryz.lJ:TI.ok En.Dop.D4 Tryz.prog 11 (Tryz.tr 11):=D9 (by kernel_rfl) Tryz.underlying11 (by kernel_rfl)
theorem Tryz.lK:TI.ok En.Dop.D4 Tryz.prog 12 (Tryz.tr 12):=D9 (by kernel_rfl) Tryz.underlying12 (by kernel_rfl)
theorem Tryz.lL:TI.ok En.Dop.D4 Tryz.prog 13 (Tryz.tr 13):=D9 (by kernel_rfl) ⟨_,Tryz.underlying13,rfl,rfl,by kernel_rfl,by decide,rfl,rfl,by kernel_rfl,by decide,trivial⟩ (by kernel_rfl)
theorem Tryz.lM:TI.ok En.Dop.D4 Tryz.prog 14 (Tryz.tr 14):=D9 (by kernel_rfl) ⟨_,Tryz.underlying14,rfl,rfl,by kernel_rfl,by decide,rfl,rfl,by kernel_rfl,by decide,trivial⟩ (by kernel_rfl)
theorem Tryz.lN:TI.ok En.Dop.D4 Tryz.prog 15 (Tryz.tr 15):=D9 (by kernel_rfl) Tryz.underlying15 (by kernel_rfl)
theorem Tryz.lO:TI.ok En.Dop.D4 Tryz.prog 16 (Tryz.tr 16):=D9 (by kernel_rfl) Tryz.underlying16 (by kernel_rfl)
theorem Tryz.lP:TI.ok En.Dop.D4 Tryz.prog 17 (Tryz.tr 17):=D9 (by kernel_rfl) Tryz.underlying17 (by kernel_rfl)
theorem Tryz.lQ:TI.ok En.Dop.D4 Tryz.prog 21 (Tryz.tr 21):=D9 (by kernel_rfl) Tryz.underlying21 (by kernel_rfl)
theorem Tryz.lR:TI.ok En.Dop.D4 Tryz.prog 22 (Tryz.tr 22):=D9 (by kernel_rfl) ⟨Tryz.underlying22,by kernel_rfl⟩ (by kernel_rfl)
theorem Tryz.lS:TI.ok En.Dop.D4 Tryz.prog 23 (Tryz.tr 23):=D9 (by kernel_rfl) ⟨Tryz.underlying23,by kernel_rfl⟩ (by kernel_rfl)
theorem Tryz.lT:TI.ok En.Dop.D4 Tryz.prog 25 (Tryz.tr 25):=Wj (τ0:=18) (by kernel_rfl) Tryz.underlying25 (by kernel_rfl) ⟨rfl,by decide,rfl,rfl⟩
theorem Tryz.lU:TI.ok En.Dop.D4 Tryz.prog 27 (Tryz.tr 27):=D9 (by kernel_rfl) Tryz.underlying27 (by kernel_rfl)
theorem Tryz.lV:TI.ok En.Dop.D4 Tryz.prog 29 (Tryz.tr 29):=D9 (by kernel_rfl) ⟨Tryz.underlying29,by kernel_rfl⟩ (by kernel_rfl)
theorem Tryz.lW:TI.ok En.Dop.D4 Tryz.prog 31 (Tryz.tr 31):=Wj (τ0:=19) (by kernel_rfl) ⟨_,Tryz.underlying31,rfl,rfl,by kernel_rfl,by decide,rfl,rfl,by kernel_rfl,by decide,rfl,rfl,by kernel_rfl,by decide,trivial⟩ (by kernel_rfl) ⟨rfl,by decide,rfl,rfl⟩
theorem Tryz.lX:TI.ok En.Dop.D4 Tryz.prog 32 (Tryz.tr 32):=D9 (by kernel_rfl) Tryz.underlying32 (by kernel_rfl)
theorem Tryz.lY:TI.ok En.Dop.D4 Tryz.prog 40 (Tryz.tr 40):=D9 (by kernel_rfl) ⟨Tryz.underlying40,by kernel_rfl⟩ (by kernel_rfl)
theorem Tryz.lZ:TI.ok En.Dop.D4 Tryz.prog 41 (Tryz.tr 41):=D9 (by kernel_rfl) ⟨Tryz.underlying41,by kernel_rfl⟩ (by kernel_rfl)
theorem Tryz.la:TI.ok En.Dop.D4 Tryz.prog 42 (Tryz.tr 42):=D9 (by kernel_rfl) ⟨Tryz.underlying42,by kernel_rfl⟩ (by kernel_rfl)
theorem Tryz.lf:TI.ok En.Dop.D4 Tryz.prog 44 (Tryz.tr 44):=Wj (τ0:=13) (by kernel_rfl) ⟨_,Tryz.underlying44,rfl,rfl,by kernel_rfl,by decide,rfl,rfl,by kernel_rfl,by decide,rfl,rfl,by kernel_rfl,by decide,rfl,rfl,by kernel_rfl,by decide,trivial⟩ (by kernel_rfl) ⟨rfl,by decide,rfl,rfl⟩
theorem Tryz.lg:TI.ok En.Dop.D4 Tryz.prog 52 (Tryz.tr 52):=D9 (by kernel_rfl) ⟨Tryz.underlying52,by kernel_rfl⟩ (by kernel_rfl)
theorem Tryz.lh:TI.ok En.Dop.D4 Tryz.prog 54 (Tryz.tr 54):=Wj (τ0:=7) (by kernel_rfl) ⟨_,Tryz.underlying54,rfl,rfl,by kernel_rfl,by decide,rfl,rfl,by kernel_rfl,by decide,rfl,rfl,by kernel_rfl,by decide,trivial⟩ (by kernel_rfl) ⟨rfl,by decide,rfl,rfl⟩
theorem Tryz.ln:TI.ok En.Dop.D4 Tryz.prog 58 (Tryz.tr 58):=D9 (by kernel_rfl) Tryz.underlying58 (by kernel_rfl)
theorem Tryz.lp:TI.ok En.Dop.D4 Tryz.prog 59 (Tryz.tr 59):=D9 (by kernel_rfl) Tryz.underlying59 (by kernel_rfl)
theorem Tryz.lq:TI.ok En.Dop.D4 Tryz.prog 61 (Tryz.tr 61):=D9 (by kernel_rfl) ⟨_,Tryz.underlying61,rfl,rfl,by kernel_rfl,by decide,rfl,rfl,by kernel_rfl,by decide,rfl,rfl,by kernel_rfl,by decide,rfl,rfl,by kernel_rfl,by decide,rfl,rfl,by kernel_rfl,by decide,rfl,rfl,by kernel_rfl,by decide,rfl,rfl,by kernel_rfl,by decide,rfl,rfl,by kernel_rfl,by decide,rfl,rfl,by kernel_rfl,by decide,rfl,rfl,by kernel_rfl,by decide,trivial⟩ (by kernel_rfl)
theorem Tryz.lr:TI.ok En.Dop.D4 Tryz.prog 63 ⟨4,40,.agg #[.string ⟨#[]⟩,.int .i64 0,.int .i64 0,.int .i64 0],[.v (.string ⟨#[]⟩),.v (.int .i64 0),.v (.int .i64 0),.v (.int .i64 0)],.struct [(0,9,1),(1,3,1),(2,3,1),(3,3,1)],some 12,some [.str,.int .i64,.int .i64,.int .i64],none⟩:=⟨by kernel_rfl,fun β=>by simp [AD,SV.den,Value.cells],fun N=>by simp [BZ,SV.on],rfl,⟨_,Tryz.underlying63,rfl,rfl,by kernel_rfl,by decide,rfl,rfl,by kernel_rfl,by decide,rfl,rfl,by kernel_rfl,by decide,rfl,rfl,by kernel_rfl,by decide,trivial⟩,(fun ks h=>by cases h;exact ⟨Ca (d:=9999) (ks:=[.str,.int .i64,.int .i64,.int .i64]) Tryz.underlying63 (by kernel_rfl) (.cons (ks:=[.str]) (ls:=[.int .i64,.int .i64,.int .i64]) (by decide) rfl (by kernel_rfl) (Aa Tryz.underlying9) (fun h=>by first|rfl|cases h) (FM Tryz.underlying9) (.cons (ks:=[.int .i64]) (ls:=[.int .i64,.int .i64]) (by decide) rfl (by kernel_rfl) (Aa Tryz.underlying3) (fun h=>by first|rfl|cases h) (Ac Tryz.underlying3) (.cons (ks:=[.int .i64]) (ls:=[.int .i64]) (by decide) rfl (by kernel_rfl) (Aa Tryz.underlying3) (fun h=>by first|rfl|cases h) (Ac Tryz.underlying3) (.cons (ks:=[.int .i64]) (ls:=[]) (by decide) rfl (by kernel_rfl) (Aa Tryz.underlying3) (fun h=>by first|rfl|cases h) (Ac Tryz.underlying3) .nil)))),by kernel_rfl⟩),(fun τ h=>by cases h;exact ⟨rfl,by decide,rfl,rfl⟩),(fun τ h=>by cases h)⟩
theorem Tryz.lu:TI.ok En.Dop.D4 Tryz.prog 68 (Tryz.tr 68):=D9 (by kernel_rfl) ⟨_,Tryz.underlying68,rfl⟩ (by kernel_rfl)
theorem Tryz.lv:TI.ok En.Dop.D4 Tryz.prog 71 (Tryz.tr 71):=D9 (by kernel_rfl) ⟨Tryz.underlying71,by kernel_rfl⟩ (by kernel_rfl)
theorem Tryz.lx:TI.ok En.Dop.D4 Tryz.prog 75 (Tryz.tr 75):=D9 (by kernel_rfl) Tryz.underlying75 (by kernel_rfl)
theorem Tryz.ly:TI.ok En.Dop.D4 Tryz.prog 76 (Tryz.tr 76):=D9 (by kernel_rfl) Tryz.underlying76 (by kernel_rfl)
theorem Tryz.lz:TI.ok En.Dop.D4 Tryz.prog 78 (Tryz.tr 78):=D9 (by kernel_rfl) Tryz.underlying78 (by kernel_rfl)
theorem Tryz.l0:TI.ok En.Dop.D4 Tryz.prog 79 (Tryz.tr 79):=D9 (by kernel_rfl) ⟨Tryz.underlying79,by kernel_rfl⟩ (by kernel_rfl)
theorem Tryz.l6:TI.ok En.Dop.D4 Tryz.prog 80 (Tryz.tr 80):=D9 (by kernel_rfl) Tryz.underlying80 (by kernel_rfl)
theorem Tryz.l7:TI.ok En.Dop.D4 Tryz.prog 81 (Tryz.tr 81):=D9 (by kernel_rfl) Tryz.underlying81 (by kernel_rfl)
theorem Tryz.l8:TI.ok En.Dop.D4 Tryz.prog 83 ⟨5,48,.agg #[.string ⟨#[]⟩,.int .i64 0,.int .i64 0,.int .i64 0,.int .i64 0],[.v (.string ⟨#[]⟩),.v (.int .i64 0),.v (.int .i64 0),.v (.int .i64 0),.v (.int .i64 0)],.struct [(0,9,1),(1,3,1),(2,3,1),(3,3,1),(4,3,1)],some 11,some [.str,.int .i64,.int .i64,.int .i64,.int .i64],none⟩:=⟨by kernel_rfl,fun β=>by simp [AD,SV.den,Value.cells],fun N=>by simp [BZ,SV.on],rfl,⟨_,Tryz.underlying83,rfl,rfl,by kernel_rfl,by decide,rfl,rfl,by kernel_rfl,by decide,rfl,rfl,by kernel_rfl,by decide,rfl,rfl,by kernel_rfl,by decide,rfl,rfl,by kernel_rfl,by decide,trivial⟩,(fun ks h=>by cases h;exact ⟨Ca (d:=9999) (ks:=[.str,.int .i64,.int .i64,.int .i64,.int .i64]) Tryz.underlying83 (by kernel_rfl) (.cons (ks:=[.str]) (ls:=[.int .i64,.int .i64,.int .i64,.int .i64]) (by decide) rfl (by kernel_rfl) (Aa Tryz.underlying9) (fun h=>by first|rfl|cases h) (FM Tryz.underlying9) (.cons (ks:=[.int .i64]) (ls:=[.int .i64,.int .i64,.int .i64]) (by decide) rfl (by kernel_rfl) (Aa Tryz.underlying3) (fun h=>by first|rfl|cases h) (Ac Tryz.underlying3) (.cons (ks:=[.int .i64]) (ls:=[.int .i64,.int .i64]) (by decide) rfl (by kernel_rfl) (Aa Tryz.underlying3) (fun h=>by first|rfl|cases h) (Ac Tryz.underlying3) (.cons (ks:=[.int .i64]) (ls:=[.int .i64]) (by decide) rfl (by kernel_rfl) (Aa Tryz.underlying3) (fun h=>by first|rfl|cases h) (Ac Tryz.underlying3) (.cons (ks:=[.int .i64]) (ls:=[]) (by decide) rfl (by kernel_rfl) (Aa Tryz.underlying3) (fun h=>by first|rfl|cases h) (Ac Tryz.underlying3) .nil))))),by kernel_rfl⟩),(fun τ h=>by cases h;exact ⟨rfl,by decide,rfl,rfl⟩),(fun τ h=>by cases h)⟩
theorem Tryz.l9:TI.ok En.Dop.D4 Tryz.prog 84 (Tryz.tr 84):=D9 (by kernel_rfl) ⟨Tryz.underlying84,by kernel_rfl⟩ (by kernel_rfl)
theorem Tryz.mA:TI.ok En.Dop.D4 Tryz.prog 86 (Tryz.tr 86):=D9 (by kernel_rfl) ⟨_,Tryz.underlying86,rfl,rfl,by kernel_rfl,by decide,rfl,rfl,by kernel_rfl,by decide,rfl,rfl,by kernel_rfl,by decide,rfl,rfl,by kernel_rfl,by decide,rfl,rfl,by kernel_rfl,by decide,rfl,rfl,by kernel_rfl,by decide,rfl,rfl,by kernel_rfl,by decide,rfl,rfl,by kernel_rfl,by decide,rfl,rfl,by kernel_rfl,by decide,rfl,rfl,by kernel_rfl,by decide,rfl,rfl,by kernel_rfl,by decide,rfl,rfl,by kernel_rfl,by decide,rfl,rfl,by kernel_rfl,by decide,rfl,rfl,by kernel_rfl,by decide,rfl,rfl,by kernel_rfl,by decide,rfl,rfl,by kernel_rfl,by decide,trivial⟩ (by kernel_rfl)
theorem Tryz.mB:TI.ok En.Dop.D4 Tryz.prog 89 ⟨9,80,.agg #[.int .i64 0,.int .i64 0,.int .i64 0,.int .i64 0,.int .i64 0,.string ⟨#[]⟩,.int .i64 0,.int .i64 0,.int .i64 0],[.v (.int .i64 0),.v (.int .i64 0),.v (.int .i64 0),.v (.int .i64 0),.v (.int .i64 0),.v (.string ⟨#[]⟩),.v (.int .i64 0),.v (.int .i64 0),.v (.int .i64 0)],.struct [(0,3,1),(1,3,1),(2,3,1),(3,3,1),(4,3,1),(5,9,1),(6,3,1),(7,3,1),(8,3,1)],some 5,some [.int .i64,.int .i64,.int .i64,.int .i64,.int .i64,.str,.int .i64,.int .i64,.int .i64],none⟩:=⟨by kernel_rfl,fun β=>by simp [AD,SV.den,Value.cells],fun N=>by simp [BZ,SV.on],rfl,⟨_,Tryz.underlying89,rfl,rfl,by kernel_rfl,by decide,rfl,rfl,by kernel_rfl,by decide,rfl,rfl,by kernel_rfl,by decide,rfl,rfl,by kernel_rfl,by decide,rfl,rfl,by kernel_rfl,by decide,rfl,rfl,by kernel_rfl,by decide,rfl,rfl,by kernel_rfl,by decide,rfl,rfl,by kernel_rfl,by decide,rfl,rfl,by kernel_rfl,by decide,trivial⟩,(fun ks h=>by cases h;exact ⟨Ca (d:=9999) (ks:=[.int .i64,.int .i64,.int .i64,.int .i64,.int .i64,.str,.int .i64,.int .i64,.int .i64]) Tryz.underlying89 (by kernel_rfl) (.cons (ks:=[.int .i64]) (ls:=[.int .i64,.int .i64,.int .i64,.int .i64,.str,.int .i64,.int .i64,.int .i64]) (by decide) rfl (by kernel_rfl) (Aa Tryz.underlying3) (fun h=>by first|rfl|cases h) (Ac Tryz.underlying3) (.cons (ks:=[.int .i64]) (ls:=[.int .i64,.int .i64,.int .i64,.str,.int .i64,.int .i64,.int .i64]) (by decide) rfl (by kernel_rfl) (Aa Tryz.underlying3) (fun h=>by first|rfl|cases h) (Ac Tryz.underlying3) (.cons (ks:=[.int .i64]) (ls:=[.int .i64,.int .i64,.str,.int .i64,.int .i64,.int .i64]) (by decide) rfl (by kernel_rfl) (Aa Tryz.underlying3) (fun h=>by first|rfl|cases h) (Ac Tryz.underlying3) (.cons (ks:=[.int .i64]) (ls:=[.int .i64,.str,.int .i64,.int .i64,.int .i64]) (by decide) rfl (by kernel_rfl) (Aa Tryz.underlying3) (fun h=>by first|rfl|cases h) (Ac Tryz.underlying3) (.cons (ks:=[.int .i64]) (ls:=[.str,.int .i64,.int .i64,.int .i64]) (by decide) rfl (by kernel_rfl) (Aa Tryz.underlying3) (fun h=>by first|rfl|cases h) (Ac Tryz.underlying3) (.cons (ks:=[.str]) (ls:=[.int .i64,.int .i64,.int .i64]) (by decide) rfl (by kernel_rfl) (Aa Tryz.underlying9) (fun h=>by first|rfl|cases h) (FM Tryz.underlying9) (.cons (ks:=[.int .i64]) (ls:=[.int .i64,.int .i64]) (by decide) rfl (by kernel_rfl) (Aa Tryz.underlying3) (fun h=>by first|rfl|cases h) (Ac Tryz.underlying3) (.cons (ks:=[.int .i64]) (ls:=[.int .i64]) (by decide) rfl (by kernel_rfl) (Aa Tryz.underlying3) (fun h=>by first|rfl|cases h) (Ac Tryz.underlying3) (.cons (ks:=[.int .i64]) (ls:=[]) (by decide) rfl (by kernel_rfl) (Aa Tryz.underlying3) (fun h=>by first|rfl|cases h) (Ac Tryz.underlying3) .nil))))))))),by kernel_rfl⟩),(fun τ h=>by cases h;exact ⟨rfl,by decide,rfl,rfl⟩),(fun τ h=>by cases h)⟩
theorem Tryz.mC:TI.ok En.Dop.D4 Tryz.prog 93 (Tryz.tr 93):=Wj (τ0:=15) (by kernel_rfl) ⟨_,Tryz.underlying93,rfl,rfl,by kernel_rfl,by decide,rfl,rfl,by kernel_rfl,by decide,trivial⟩ (by kernel_rfl) ⟨rfl,by decide,rfl,rfl⟩
theorem Tryz.mD:TI.ok En.Dop.D4 Tryz.prog 95 (Tryz.tr 95):=D9 (by kernel_rfl) Tryz.underlying95 (by kernel_rfl)
theorem Tryz.mE:TI.ok En.Dop.D4 Tryz.prog 97 (Tryz.tr 97):=D9 (by kernel_rfl) ⟨_,Tryz.underlying97,rfl,rfl,by kernel_rfl,by decide,rfl,rfl,by kernel_rfl,by decide,rfl,rfl,by kernel_rfl,by decide,rfl,rfl,by kernel_rfl,by decide,rfl,rfl,by kernel_rfl,by decide,rfl,rfl,by kernel_rfl,by decide,rfl,rfl,by kernel_rfl,by decide,trivial⟩ (by kernel_rfl)
theorem Tryz.gp:TI.ok En.Dop.D4 Tryz.prog 100 (Tryz.tr 100):=D9 (by kernel_rfl) ⟨_,Tryz.underlying100,rfl⟩ (by kernel_rfl)
theorem Tryz.gq:TI.ok En.Dop.D4 Tryz.prog 101 (Tryz.tr 101):=D9 (by kernel_rfl) ⟨Tryz.underlying101,by kernel_rfl⟩ (by kernel_rfl)
theorem Tryz.gr:TI.ok En.Dop.D4 Tryz.prog 104 ⟨4,40,.agg #[.int .i64 0,.string ⟨#[]⟩,.int .i64 0,.int .i64 0],[.v (.int .i64 0),.v (.string ⟨#[]⟩),.v (.int .i64 0),.v (.int .i64 0)],.struct [(0,3,1),(1,9,1),(2,3,1),(3,3,1)],some 4,some [.int .i64,.str,.int .i64,.int .i64],none⟩:=⟨by kernel_rfl,fun β=>by simp [AD,SV.den,Value.cells],fun N=>by simp [BZ,SV.on],rfl,⟨_,Tryz.underlying104,rfl,rfl,by kernel_rfl,by decide,rfl,rfl,by kernel_rfl,by decide,rfl,rfl,by kernel_rfl,by decide,rfl,rfl,by kernel_rfl,by decide,trivial⟩,(fun ks h=>by cases h;exact ⟨Ca (d:=9999) (ks:=[.int .i64,.str,.int .i64,.int .i64]) Tryz.underlying104 (by kernel_rfl) (.cons (ks:=[.int .i64]) (ls:=[.str,.int .i64,.int .i64]) (by decide) rfl (by kernel_rfl) (Aa Tryz.underlying3) (fun h=>by first|rfl|cases h) (Ac Tryz.underlying3) (.cons (ks:=[.str]) (ls:=[.int .i64,.int .i64]) (by decide) rfl (by kernel_rfl) (Aa Tryz.underlying9) (fun h=>by first|rfl|cases h) (FM Tryz.underlying9) (.cons (ks:=[.int .i64]) (ls:=[.int .i64]) (by decide) rfl (by kernel_rfl) (Aa Tryz.underlying3) (fun h=>by first|rfl|cases h) (Ac Tryz.underlying3) (.cons (ks:=[.int .i64]) (ls:=[]) (by decide) rfl (by kernel_rfl) (Aa Tryz.underlying3) (fun h=>by first|rfl|cases h) (Ac Tryz.underlying3) .nil)))),by kernel_rfl⟩),(fun τ h=>by cases h;exact ⟨rfl,by decide,rfl,rfl⟩),(fun τ h=>by cases h)⟩
theorem Tryz.gu:TI.ok En.Dop.D4 Tryz.prog 107 (Tryz.tr 107):=D9 (by kernel_rfl) Tryz.underlying107 (by kernel_rfl)
theorem Tryz.gv:TI.ok En.Dop.D4 Tryz.prog 109 (Tryz.tr 109):=D9 (by kernel_rfl) ⟨_,Tryz.underlying109,rfl,rfl,by kernel_rfl,by decide,rfl,rfl,by kernel_rfl,by decide,rfl,rfl,by kernel_rfl,by decide,rfl,rfl,by kernel_rfl,by decide,rfl,rfl,by kernel_rfl,by decide,rfl,rfl,by kernel_rfl,by decide,trivial⟩ (by kernel_rfl)
theorem Tryz.gw:TI.ok En.Dop.D4 Tryz.prog 111 ⟨4,40,.agg #[.int .i64 0,.int .i64 0,.int .i64 0,.string ⟨#[]⟩],[.v (.int .i64 0),.v (.int .i64 0),.v (.int .i64 0),.v (.string ⟨#[]⟩)],.struct [(0,3,1),(1,3,1),(2,3,1),(3,9,1)],some 6,some [.int .i64,.int .i64,.int .i64,.str],none⟩:=⟨by kernel_rfl,fun β=>by simp [AD,SV.den,Value.cells],fun N=>by simp [BZ,SV.on],rfl,⟨_,Tryz.underlying111,rfl,rfl,by kernel_rfl,by decide,rfl,rfl,by kernel_rfl,by decide,rfl,rfl,by kernel_rfl,by decide,rfl,rfl,by kernel_rfl,by decide,trivial⟩,(fun ks h=>by cases h;exact ⟨Ca (d:=9999) (ks:=[.int .i64,.int .i64,.int .i64,.str]) Tryz.underlying111 (by kernel_rfl) (.cons (ks:=[.int .i64]) (ls:=[.int .i64,.int .i64,.str]) (by decide) rfl (by kernel_rfl) (Aa Tryz.underlying3) (fun h=>by first|rfl|cases h) (Ac Tryz.underlying3) (.cons (ks:=[.int .i64]) (ls:=[.int .i64,.str]) (by decide) rfl (by kernel_rfl) (Aa Tryz.underlying3) (fun h=>by first|rfl|cases h) (Ac Tryz.underlying3) (.cons (ks:=[.int .i64]) (ls:=[.str]) (by decide) rfl (by kernel_rfl) (Aa Tryz.underlying3) (fun h=>by first|rfl|cases h) (Ac Tryz.underlying3) (.cons (ks:=[.str]) (ls:=[]) (by decide) rfl (by kernel_rfl) (Aa Tryz.underlying9) (fun h=>by first|rfl|cases h) (FM Tryz.underlying9) .nil)))),by kernel_rfl⟩),(fun τ h=>by cases h;exact ⟨rfl,by decide,rfl,rfl⟩),(fun τ h=>by cases h)⟩
theorem Tryz.gx:TI.ok En.Dop.D4 Tryz.prog 113 (Tryz.tr 113):=D9 (by kernel_rfl) ⟨_,Tryz.underlying113,rfl⟩ (by kernel_rfl)
theorem Tryz.gy:TI.ok En.Dop.D4 Tryz.prog 115 (Tryz.tr 115):=D9 (by kernel_rfl) Tryz.underlying115 (by kernel_rfl)
theorem Tryz.gz:TI.ok En.Dop.D4 Tryz.prog 117 (Tryz.tr 117):=D9 (by kernel_rfl) ⟨_,Tryz.underlying117,rfl,rfl,by kernel_rfl,by decide,rfl,rfl,by kernel_rfl,by decide,trivial⟩ (by kernel_rfl)
theorem Tryz.hC:TI.ok En.Dop.D4 Tryz.prog 118 (Tryz.tr 118):=Wj (τ0:=17) (by kernel_rfl) ⟨Tryz.underlying118,by kernel_rfl⟩ (by kernel_rfl) ⟨rfl,by decide,rfl,rfl⟩
theorem Tryz.hH:TI.ok En.Dop.D4 Tryz.prog 120 ⟨2,24,.agg #[.string ⟨#[]⟩,.int .i64 0],[.v (.string ⟨#[]⟩),.v (.int .i64 0)],.struct [(0,9,1),(1,3,1)],some 16,some [.str,.int .i64],none⟩:=⟨by kernel_rfl,fun β=>by simp [AD,SV.den,Value.cells],fun N=>by simp [BZ,SV.on],rfl,⟨_,Tryz.underlying120,rfl,rfl,by kernel_rfl,by decide,rfl,rfl,by kernel_rfl,by decide,trivial⟩,(fun ks h=>by cases h;exact ⟨Ca (d:=9999) (ks:=[.str,.int .i64]) Tryz.underlying120 (by kernel_rfl) (.cons (ks:=[.str]) (ls:=[.int .i64]) (by decide) rfl (by kernel_rfl) (Aa Tryz.underlying9) (fun h=>by first|rfl|cases h) (FM Tryz.underlying9) (.cons (ks:=[.int .i64]) (ls:=[]) (by decide) rfl (by kernel_rfl) (Aa Tryz.underlying3) (fun h=>by first|rfl|cases h) (Ac Tryz.underlying3) .nil)),by kernel_rfl⟩),(fun τ h=>by cases h;exact ⟨rfl,by decide,rfl,rfl⟩),(fun τ h=>by cases h)⟩
theorem Tryz.hS:TI.ok En.Dop.D4 Tryz.prog 123 ⟨5,40,.agg #[.int .i64 0,.int .i64 0,.int .i64 0,.int .i64 0,.bool false],[.v (.int .i64 0),.v (.int .i64 0),.v (.int .i64 0),.v (.int .i64 0),.v (.bool false)],.struct [(0,3,1),(1,3,1),(2,3,1),(3,3,1),(4,4,1)],some 10,some [.int .i64,.int .i64,.int .i64,.int .i64,.bool],none⟩:=⟨by kernel_rfl,fun β=>by simp [AD,SV.den,Value.cells],fun N=>by simp [BZ,SV.on],rfl,⟨_,Tryz.underlying123,rfl,rfl,by kernel_rfl,by decide,rfl,rfl,by kernel_rfl,by decide,rfl,rfl,by kernel_rfl,by decide,rfl,rfl,by kernel_rfl,by decide,rfl,rfl,by kernel_rfl,by decide,trivial⟩,(fun ks h=>by cases h;exact ⟨Ca (d:=9999) (ks:=[.int .i64,.int .i64,.int .i64,.int .i64,.bool]) Tryz.underlying123 (by kernel_rfl) (.cons (ks:=[.int .i64]) (ls:=[.int .i64,.int .i64,.int .i64,.bool]) (by decide) rfl (by kernel_rfl) (Aa Tryz.underlying3) (fun h=>by first|rfl|cases h) (Ac Tryz.underlying3) (.cons (ks:=[.int .i64]) (ls:=[.int .i64,.int .i64,.bool]) (by decide) rfl (by kernel_rfl) (Aa Tryz.underlying3) (fun h=>by first|rfl|cases h) (Ac Tryz.underlying3) (.cons (ks:=[.int .i64]) (ls:=[.int .i64,.bool]) (by decide) rfl (by kernel_rfl) (Aa Tryz.underlying3) (fun h=>by first|rfl|cases h) (Ac Tryz.underlying3) (.cons (ks:=[.int .i64]) (ls:=[.bool]) (by decide) rfl (by kernel_rfl) (Aa Tryz.underlying3) (fun h=>by first|rfl|cases h) (Ac Tryz.underlying3) (.cons (ks:=[.bool]) (ls:=[]) (by decide) rfl (by kernel_rfl) (Aa Tryz.underlying4) (fun h=>by first|rfl|cases h) (TH Tryz.underlying4) .nil))))),by kernel_rfl⟩),(fun τ h=>by cases h;exact ⟨rfl,by decide,rfl,rfl⟩),(fun τ h=>by cases h)⟩
theorem Tryz.hU:TI.ok En.Dop.D4 Tryz.prog 125 (Tryz.tr 125):=D9 (by kernel_rfl) ⟨_,Tryz.underlying125,rfl⟩ (by kernel_rfl)
theorem Tryz.hZ:TI.ok En.Dop.D4 Tryz.prog 127 ⟨3,24,.agg #[.int .i64 0,.int .i64 0,.int .i64 0],[.v (.int .i64 0),.v (.int .i64 0),.v (.int .i64 0)],.struct [(0,3,1),(1,3,1),(2,3,1)],some 9,some [.int .i64,.int .i64,.int .i64],none⟩:=⟨by kernel_rfl,fun β=>by simp [AD,SV.den,Value.cells],fun N=>by simp [BZ,SV.on],rfl,⟨_,Tryz.underlying127,rfl,rfl,by kernel_rfl,by decide,rfl,rfl,by kernel_rfl,by decide,rfl,rfl,by kernel_rfl,by decide,trivial⟩,(fun ks h=>by cases h;exact ⟨Ca (d:=9999) (ks:=[.int .i64,.int .i64,.int .i64]) Tryz.underlying127 (by kernel_rfl) (.cons (ks:=[.int .i64]) (ls:=[.int .i64,.int .i64]) (by decide) rfl (by kernel_rfl) (Aa Tryz.underlying3) (fun h=>by first|rfl|cases h) (Ac Tryz.underlying3) (.cons (ks:=[.int .i64]) (ls:=[.int .i64]) (by decide) rfl (by kernel_rfl) (Aa Tryz.underlying3) (fun h=>by first|rfl|cases h) (Ac Tryz.underlying3) (.cons (ks:=[.int .i64]) (ls:=[]) (by decide) rfl (by kernel_rfl) (Aa Tryz.underlying3) (fun h=>by first|rfl|cases h) (Ac Tryz.underlying3) .nil))),by kernel_rfl⟩),(fun τ h=>by cases h;exact ⟨rfl,by decide,rfl,rfl⟩),(fun τ h=>by cases h)⟩
theorem Tryz.iA:TI.ok En.Dop.D4 Tryz.prog 129 (Tryz.tr 129):=D9 (by kernel_rfl) ⟨_,Tryz.underlying129,rfl⟩ (by kernel_rfl)
theorem Tryz.iB:TI.ok En.Dop.D4 Tryz.prog 140 (Tryz.tr 140):=D9 (by kernel_rfl) ⟨_,Tryz.underlying140,rfl⟩ (by kernel_rfl)
theorem Tryz.iC:TI.ok En.Dop.D4 Tryz.prog 151 (Tryz.tr 151):=D9 (by kernel_rfl) ⟨_,Tryz.underlying151,rfl⟩ (by kernel_rfl)
theorem Tryz.iD:TI.ok En.Dop.D4 Tryz.prog 152 (Tryz.tr 152):=D9 (by kernel_rfl) ⟨_,Tryz.underlying152,rfl⟩ (by kernel_rfl)
theorem Tryz.iE:TI.ok En.Dop.D4 Tryz.prog 162 (Tryz.tr 162):=D9 (by kernel_rfl) Tryz.underlying162 (by kernel_rfl)
theorem Tryz.iF:TI.ok En.Dop.D4 Tryz.prog 163 (Tryz.tr 163):=Wj (τ0:=8) (by kernel_rfl) ⟨Tryz.underlying163,by kernel_rfl⟩ (by kernel_rfl) ⟨rfl,by decide,rfl,rfl⟩
theorem Tryz.iG:TI.ok En.Dop.D4 Tryz.prog 166 (Tryz.tr 166):=D9 (by kernel_rfl) Tryz.underlying166 (by kernel_rfl)
theorem Tryz.iH:TI.ok En.Dop.D4 Tryz.prog 170 (Tryz.tr 170):=D9 (by kernel_rfl) Tryz.underlying170 (by kernel_rfl)
theorem Tryz.iI:TI.ok En.Dop.D4 Tryz.prog 174 (Tryz.tr 174):=D9 (by kernel_rfl) ⟨_,Tryz.underlying174,rfl⟩ (by kernel_rfl)
theorem Tryz.iJ:TI.ok En.Dop.D4 Tryz.prog 199 (Tryz.tr 199):=D9 (by kernel_rfl) ⟨_,Tryz.underlying199,rfl⟩ (by kernel_rfl)
theorem Tryz.iK:TI.ok En.Dop.D4 Tryz.prog 204 (Tryz.tr 204):=D9 (by kernel_rfl) Tryz.underlying204 (by kernel_rfl)
theorem Tryz.iL:TI.ok En.Dop.D4 Tryz.prog 217 (Tryz.tr 217):=D9 (by kernel_rfl) ⟨_,Tryz.underlying217,rfl⟩ (by kernel_rfl)
theorem Tryz.iM:TI.ok En.Dop.D4 Tryz.prog 218 (Tryz.tr 218):=D9 (by kernel_rfl) ⟨_,Tryz.underlying218,rfl⟩ (by kernel_rfl)
theorem Tryz.iN:TI.ok En.Dop.D4 Tryz.prog 220 (Tryz.tr 220):=Wj (τ0:=14) (by kernel_rfl) ⟨Tryz.underlying220,by kernel_rfl⟩ (by kernel_rfl) ⟨rfl,by decide,rfl,rfl⟩
theorem Tryz.iO:TI.ok En.Dop.D4 Tryz.prog 221 (Tryz.tr 221):=D9 (by kernel_rfl) Tryz.underlying221 (by kernel_rfl)
theorem Tryz.iP:TI.ok En.Dop.D4 Tryz.prog 241 (Tryz.tr 241):=D9 (by kernel_rfl) ⟨_,Tryz.underlying241,rfl⟩ (by kernel_rfl)
theorem Tryz.iQ:TI.ok En.Dop.D4 Tryz.prog 266 (Tryz.tr 266):=D9 (by kernel_rfl) ⟨_,Tryz.underlying266,rfl,rfl,by kernel_rfl,by decide,rfl,rfl,by kernel_rfl,by decide,rfl,rfl,by kernel_rfl,by decide,rfl,rfl,by kernel_rfl,by decide,trivial⟩ (by kernel_rfl)
set_option maxRecDepth 100000 in
theorem Tryz.AJ:Ae En.Dop.D4 Tryz.prog Tryz.tb:=
 ⟨Tryz.oB,Tryz.oD,Tryz.oE,Tryz.oF,Tryz.oG,Tryz.oH,Tryz.oI,Tryz.oJ,Tryz.oK,Tryz.lI,Tryz.lJ,Tryz.lK,Tryz.lL,Tryz.lM,Tryz.lN,Tryz.lO,Tryz.lP,Tryz.lQ,Tryz.lR,Tryz.lS,Tryz.lT,Tryz.lU,Tryz.lV,Tryz.lW,Tryz.lX,Tryz.lY,Tryz.lZ,Tryz.la,Tryz.lf,Tryz.lg,Tryz.lh,Tryz.ln,Tryz.lp,Tryz.lq,Tryz.lr,Tryz.lu,Tryz.lv,Tryz.lx,Tryz.ly,Tryz.lz,Tryz.l0,Tryz.l6,Tryz.l7,Tryz.l8,Tryz.l9,Tryz.mA,Tryz.mB,Tryz.mC,Tryz.mD,Tryz.mE,Tryz.gp,Tryz.gq,Tryz.gr,Tryz.gu,Tryz.gv,Tryz.gw,Tryz.gx,Tryz.gy,Tryz.gz,Tryz.hC,Tryz.hH,Tryz.hS,Tryz.hU,Tryz.hZ,Tryz.iA,Tryz.iB,Tryz.iC,Tryz.iD,Tryz.iE,Tryz.iF,Tryz.iG,Tryz.iH,Tryz.iI,Tryz.iJ,Tryz.iK,Tryz.iL,Tryz.iM,Tryz.iN,Tryz.iO,Tryz.iP,Tryz.iQ,trivial⟩
end Go.Proofs
