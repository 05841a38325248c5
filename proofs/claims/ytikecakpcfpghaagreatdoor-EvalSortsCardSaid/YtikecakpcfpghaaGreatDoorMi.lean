/- Functions that call one another: models by fuel, contracts at whatever fuel. -/
import Derived.Test.YtikecakpcfpghaaGreatDoorMf
import Derived.Test.YtikecakpcfpghaaGreatDoorProg
import Derived.Test.YtikecakpcfpghaaGreatDoorMc
namespace Go.En
open Go.RowKit
def FU:Nat:=1000000000
section
variable {S:Aq} {P:Program}
theorem Sn {c c':By S} (h:c'.Holds P) (e:c=c'):c.Holds P:=e▸h
theorem Ad {l m:List (By S)} (h: ∀ c∈l,c.Holds P) (k: ∀ c∈m,c.Holds P): ∀ c∈l++m,c.Holds P:=fun c hc=>(List.mem_append.1 hc).elim (h c) (k c)
theorem AO {f:Nat} {tb:List (Nat×TI)} {p:Ai} (htb:AU S P tb) (h:AG S P f p=true):By.Holds (S:=S) P ⟨f,p.bn,p.sp,p.rs,p.flat,.opt fun _=>none⟩:=by
 obtain ⟨h1,h2,h3,_⟩:=E6 (P:=P) (S:=S) (f:=f) (p:=p) 0 htb Br h
 exact ⟨h1,h2,h3,fun x y hxy=>by cases hxy⟩
end
def Le {α:Type} (a b:Option α):Prop:= ∀ y,a=some y->b=some y
section
variable {α β:Type}
theorem le_refl {a:Option α}:Le a a:=fun _ h=>h
end
end Go.En
namespace Go.Proofs
open Go Go.En
section
variable {S:Aq} {P:Program} {T:Nat} {t:TI}
theorem PD (β:Nat->Nm): ∀ l:List Value,AA β (l.map SV.v)=l
 | []=>by simp [AA]
 | x::r=>by simp [AA,SV.den,PD β r]
theorem Ya (N:Nat->Prop) (l:List Value):BR N (l.map SV.v):=Ay.2 fun x hx=>by obtain ⟨v,_,rfl⟩:=List.mem_map.1 hx;trivial
theorem DU (h:((P.info? T).map (fun i=>(i.zero,i.size,i.bytes)),t.zc,t.zc.length)=(some (some t.z,t.sz,t.bs),t.z.cells.toList.map SV.v,t.sz)) (hd:t.d.ok P T) (h2:(t.eq,t.τ,t.δ)=(none,none,none)):TI.ok S P T t:=by
 simp only [Prod.mk.injEq] at h h2
 exact ⟨h.1,fun β=>by rw [h.2.1,PD],fun N=>by rw [h.2.1];exact Ya N _,h.2.2,hd,fun ks g=>(by rw [h2.1] at g;cases g),fun τ g=>(by rw [h2.2.1] at g;cases g),fun τ g=>(by rw [h2.2.2] at g;cases g)⟩
theorem WM {τ0:Nat} (h:((P.info? T).map (fun i=>(i.zero,i.size,i.bytes)),t.zc,t.zc.length)=(some (some t.z,t.sz,t.bs),t.z.cells.toList.map SV.v,t.sz)) (hd:t.d.ok P T) (h2:(t.eq,t.τ,t.δ)=(none,some τ0,none)) (h3:S.sz τ0=t.sz/\0<t.sz/\S.enc τ0 (S.A5 τ0)=(S.fds τ0).map Fd.O4/\t.z.cells.toList=(S.fds τ0).map Fd.zeroV):TI.ok S P T t:=by
 simp only [Prod.mk.injEq] at h h2
 exact ⟨h.1,fun β=>by rw [h.2.1,PD],fun N=>by rw [h.2.1];exact Ya N _,h.2.2,hd,fun ks g=>(by rw [h2.1] at g;cases g),fun τ g=>(by rw [h2.2.1] at g;cases g;exact h3),fun τ g=>(by rw [h2.2.2] at g;cases g)⟩
end
def Tryz.tb:List (Nat×TI):=[
 (1,⟨1,8,.nilFunc,[.v (.nilFunc)],.other,none,none,none⟩),
 (2,⟨1,8,.int .i64 0,[.v (.int .i64 0)],.int .i64,none,none,none⟩),
 (3,⟨1,8,.int .i64 0,[.v (.int .i64 0)],.int .i64,some 0,none,none⟩),
 (4,⟨1,1,.bool false,[.v (.bool false)],.bool,some 2,none,none⟩),
 (5,⟨1,1,.int .u8 0,[.v (.int .u8 0)],.int .u8,some 3,none,none⟩),
 (6,⟨1,1,.int .u8 0,[.v (.int .u8 0)],.int .u8,none,none,none⟩),
 (7,⟨4,24,.agg #[.int .i64 0,.int .i64 0,.bool false,.int .u8 0],[.v (.int .i64 0),.v (.int .i64 0),.v (.bool false),.v (.int .u8 0)],.struct [(0,2,1),(1,3,1),(2,4,1),(3,6,1)],none,none,none⟩),
 (8,⟨4,24,.agg #[.int .i64 0,.int .i64 0,.bool false,.int .u8 0],[.v (.int .i64 0),.v (.int .i64 0),.v (.bool false),.v (.int .u8 0)],.struct [(0,2,1),(1,3,1),(2,4,1),(3,6,1)],none,none,none⟩),
 (9,⟨1,16,.string ⟨#[]⟩,[.v (.string ⟨#[]⟩)],.str,some 1,none,none⟩),
 (10,⟨1,16,.string ⟨#[]⟩,[.v (.string ⟨#[]⟩)],.str,none,none,none⟩),
 (11,⟨1,16,.string ⟨#[]⟩,[.v (.string ⟨#[]⟩)],.str,none,none,none⟩),
 (12,⟨1,8,.int .u64 0,[.v (.int .u64 0)],.int .u64,none,none,none⟩),
 (13,⟨2,24,.agg #[.string ⟨#[]⟩,.int .u64 0],[.v (.string ⟨#[]⟩),.v (.int .u64 0)],.struct [(0,9,1),(1,12,1)],none,none,none⟩),
 (14,⟨2,24,.agg #[.string ⟨#[]⟩,.int .u64 0],[.v (.string ⟨#[]⟩),.v (.int .u64 0)],.struct [(0,9,1),(1,12,1)],none,none,none⟩),
 (15,⟨1,8,.pointer none,[.v (.pointer none)],.ptr 256,none,none,none⟩),
 (16,⟨1,8,.pointer none,[.v (.pointer none)],.ptr 259,none,none,none⟩),
 (17,⟨1,8,.pointer none,[.v (.pointer none)],.ptr 266,none,none,none⟩),
 (21,⟨1,4,.int .i32 0,[.v (.int .i32 0)],.int .i32,none,none,none⟩),
 (22,⟨1,24,.slice none 0 0,[.v (.slice none 0 0)],.slice 5 1,none,none,none⟩),
 (25,⟨3,40,.agg #[.int .i64 0,.int .i64 0,.slice none 0 0],[.v (.int .i64 0),.v (.int .i64 0),.v (.slice none 0 0)],.struct [(0,3,1),(1,3,1),(2,22,1)],some 19,none,none⟩),
 (26,⟨1,8,.int .i64 0,[.v (.int .i64 0)],.int .i64,none,none,none⟩),
 (31,⟨1,24,.slice none 0 0,[.v (.slice none 0 0)],.slice 67 5,none,none,none⟩),
 (32,⟨1,24,.slice none 0 0,[.v (.slice none 0 0)],.slice 51 4,none,none,none⟩),
 (33,⟨1,24,.slice none 0 0,[.v (.slice none 0 0)],.slice 73 9,none,none,none⟩),
 (35,⟨4,80,.agg #[.slice none 0 0,.slice none 0 0,.int .i64 0,.slice none 0 0],[.v (.slice none 0 0),.v (.slice none 0 0),.v (.int .i64 0),.v (.slice none 0 0)],.struct [(0,31,1),(1,32,1),(2,3,1),(3,33,1)],some 13,none,none⟩),
 (39,⟨1,24,.slice none 0 0,[.v (.slice none 0 0)],.slice 95 4,none,none,none⟩),
 (41,⟨3,56,.agg #[.slice none 0 0,.slice none 0 0,.int .i64 0],[.v (.slice none 0 0),.v (.slice none 0 0),.v (.int .i64 0)],.struct [(0,33,1),(1,39,1),(2,3,1)],some 7,none,none⟩),
 (45,⟨1,8,.pointer none,[.v (.pointer none)],.ptr 49,none,none,none⟩),
 (46,⟨1,24,.slice none 0 0,[.v (.slice none 0 0)],.slice 3 1,none,none,none⟩),
 (47,⟨1,8,.map none,[.v (.map none)],.map 3 65,none,none,none⟩),
 (49,⟨13,200,.agg #[.slice none 0 0,.slice none 0 0,.int .i64 0,.slice none 0 0,.slice none 0 0,.int .i64 0,.slice none 0 0,.slice none 0 0,.int .i64 0,.int .i64 0,.int .i64 0,.int .i64 0,.map none],[.v (.slice none 0 0),.v (.slice none 0 0),.v (.int .i64 0),.v (.slice none 0 0),.v (.slice none 0 0),.v (.int .i64 0),.v (.slice none 0 0),.v (.slice none 0 0),.v (.int .i64 0),.v (.int .i64 0),.v (.int .i64 0),.v (.int .i64 0),.v (.map none)],.struct [(0,35,4),(4,46,1),(5,3,1),(6,22,1),(7,22,1),(8,3,1),(9,3,1),(10,3,1),(11,3,1),(12,47,1)],none,none,none⟩),
 (51,⟨4,40,.agg #[.string ⟨#[]⟩,.int .i64 0,.int .i64 0,.int .i64 0],[.v (.string ⟨#[]⟩),.v (.int .i64 0),.v (.int .i64 0),.v (.int .i64 0)],.struct [(0,9,1),(1,3,1),(2,3,1),(3,3,1)],some 12,some [.str,.int .i64,.int .i64,.int .i64],none⟩),
 (55,⟨1,24,.slice none 0 0,[.v (.slice none 0 0)],.slice 88 4,none,none,none⟩),
 (59,⟨1,8,.pointer none,[.v (.pointer none)],.ptr 70,none,none,none⟩),
 (60,⟨1,8,.pointer none,[.v (.pointer none)],.ptr 101,none,none,none⟩),
 (62,⟨1,8,.map none,[.v (.map none)],.map 9 111,none,none,none⟩),
 (63,⟨1,24,.slice none 0 0,[.v (.slice none 0 0)],.slice 62 1,none,none,none⟩),
 (64,⟨1,8,.map none,[.v (.map none)],.map 9 77,none,none,none⟩),
 (65,⟨1,8,.map none,[.v (.map none)],.map 9 3,none,none,none⟩),
 (67,⟨5,48,.agg #[.string ⟨#[]⟩,.int .i64 0,.int .i64 0,.int .i64 0,.int .i64 0],[.v (.string ⟨#[]⟩),.v (.int .i64 0),.v (.int .i64 0),.v (.int .i64 0),.v (.int .i64 0)],.struct [(0,9,1),(1,3,1),(2,3,1),(3,3,1),(4,3,1)],some 11,some [.str,.int .i64,.int .i64,.int .i64,.int .i64],none⟩),
 (68,⟨1,24,.slice none 0 0,[.v (.slice none 0 0)],.slice 152 1,none,none,none⟩),
 (70,⟨25,336,.agg #[.slice none 0 0,.slice none 0 0,.int .i64 0,.pointer none,.slice none 0 0,.slice none 0 0,.slice none 0 0,.int .i64 0,.slice none 0 0,.slice none 0 0,.map none,.map none,.string ⟨#[]⟩,.int .i64 0,.int .i64 0,.int .i64 0,.int .i64 0,.int .i64 0,.map none,.map none,.int .i64 0,.slice none 0 0,.int .i64 0,.int .i64 0,.int .i64 0],[.v (.slice none 0 0),.v (.slice none 0 0),.v (.int .i64 0),.v (.pointer none),.v (.slice none 0 0),.v (.slice none 0 0),.v (.slice none 0 0),.v (.int .i64 0),.v (.slice none 0 0),.v (.slice none 0 0),.v (.map none),.v (.map none),.v (.string ⟨#[]⟩),.v (.int .i64 0),.v (.int .i64 0),.v (.int .i64 0),.v (.int .i64 0),.v (.int .i64 0),.v (.map none),.v (.map none),.v (.int .i64 0),.v (.slice none 0 0),.v (.int .i64 0),.v (.int .i64 0),.v (.int .i64 0)],.struct [(0,41,3),(3,60,1),(4,46,1),(5,35,4),(9,63,1),(10,64,1),(11,65,1),(12,67,5),(17,3,1),(18,65,1),(19,65,1),(20,3,1),(21,68,1),(22,3,1),(23,26,1),(24,3,1)],none,none,none⟩),
 (73,⟨9,80,.agg #[.int .i64 0,.int .i64 0,.int .i64 0,.int .i64 0,.int .i64 0,.string ⟨#[]⟩,.int .i64 0,.int .i64 0,.int .i64 0],[.v (.int .i64 0),.v (.int .i64 0),.v (.int .i64 0),.v (.int .i64 0),.v (.int .i64 0),.v (.string ⟨#[]⟩),.v (.int .i64 0),.v (.int .i64 0),.v (.int .i64 0)],.struct [(0,3,1),(1,3,1),(2,3,1),(3,3,1),(4,3,1),(5,9,1),(6,3,1),(7,3,1),(8,3,1)],some 5,some [.int .i64,.int .i64,.int .i64,.int .i64,.int .i64,.str,.int .i64,.int .i64,.int .i64],none⟩),
 (77,⟨2,32,.agg #[.slice none 0 0,.int .i64 0],[.v (.slice none 0 0),.v (.int .i64 0)],.struct [(0,46,1),(1,3,1)],some 15,none,none⟩),
 (79,⟨1,8,.pointer none,[.v (.pointer none)],.ptr 81,none,none,none⟩),
 (81,⟨11,120,.agg #[.string ⟨#[]⟩,.int .i64 0,.int .i64 0,.int .i64 0,.int .i64 0,.slice none 0 0,.int .i64 0,.int .i64 0,.string ⟨#[]⟩,.int .i64 0,.int .i64 0],[.v (.string ⟨#[]⟩),.v (.int .i64 0),.v (.int .i64 0),.v (.int .i64 0),.v (.int .i64 0),.v (.slice none 0 0),.v (.int .i64 0),.v (.int .i64 0),.v (.string ⟨#[]⟩),.v (.int .i64 0),.v (.int .i64 0)],.struct [(0,67,5),(5,46,1),(6,3,1),(7,3,1),(8,9,1),(9,3,1),(10,3,1)],none,none,none⟩),
 (84,⟨1,8,.nilFunc,[.v (.nilFunc)],.other,none,none,none⟩),
 (88,⟨4,40,.agg #[.int .i64 0,.string ⟨#[]⟩,.int .i64 0,.int .i64 0],[.v (.int .i64 0),.v (.string ⟨#[]⟩),.v (.int .i64 0),.v (.int .i64 0)],.struct [(0,3,1),(1,9,1),(2,3,1),(3,3,1)],some 4,some [.int .i64,.str,.int .i64,.int .i64],none⟩),
 (91,⟨1,8,.pointer none,[.v (.pointer none)],.ptr 93,none,none,none⟩),
 (93,⟨8,112,.agg #[.slice none 0 0,.int .i64 0,.slice none 0 0,.slice none 0 0,.int .i64 0,.int .i64 0,.int .i64 0,.int .i64 0],[.v (.slice none 0 0),.v (.int .i64 0),.v (.slice none 0 0),.v (.slice none 0 0),.v (.int .i64 0),.v (.int .i64 0),.v (.int .i64 0),.v (.int .i64 0)],.struct [(0,55,1),(1,3,1),(2,41,3),(5,3,1),(6,26,1),(7,3,1)],none,none,none⟩),
 (95,⟨4,40,.agg #[.int .i64 0,.int .i64 0,.int .i64 0,.string ⟨#[]⟩],[.v (.int .i64 0),.v (.int .i64 0),.v (.int .i64 0),.v (.string ⟨#[]⟩)],.struct [(0,3,1),(1,3,1),(2,3,1),(3,9,1)],some 6,some [.int .i64,.int .i64,.int .i64,.str],none⟩),
 (97,⟨1,8,.nilFunc,[.v (.nilFunc)],.other,none,none,none⟩),
 (99,⟨1,8,.map none,[.v (.map none)],.map 9 102,none,none,none⟩),
 (101,⟨2,32,.agg #[.slice none 0 0,.map none],[.v (.slice none 0 0),.v (.map none)],.struct [(0,39,1),(1,99,1)],none,none,none⟩),
 (102,⟨1,24,.slice none 0 0,[.v (.slice none 0 0)],.slice 104 2,some 17,none,none⟩),
 (104,⟨2,24,.agg #[.string ⟨#[]⟩,.int .i64 0],[.v (.string ⟨#[]⟩),.v (.int .i64 0)],.struct [(0,9,1),(1,3,1)],some 16,some [.str,.int .i64],none⟩),
 (107,⟨5,40,.agg #[.int .i64 0,.int .i64 0,.int .i64 0,.int .i64 0,.bool false],[.v (.int .i64 0),.v (.int .i64 0),.v (.int .i64 0),.v (.int .i64 0),.v (.bool false)],.struct [(0,3,1),(1,3,1),(2,3,1),(3,3,1),(4,4,1)],some 10,some [.int .i64,.int .i64,.int .i64,.int .i64,.bool],none⟩),
 (109,⟨1,8,.nilFunc,[.v (.nilFunc)],.other,none,none,none⟩),
 (111,⟨3,24,.agg #[.int .i64 0,.int .i64 0,.int .i64 0],[.v (.int .i64 0),.v (.int .i64 0),.v (.int .i64 0)],.struct [(0,3,1),(1,3,1),(2,3,1)],some 9,some [.int .i64,.int .i64,.int .i64],none⟩),
 (113,⟨1,8,.nilFunc,[.v (.nilFunc)],.other,none,none,none⟩),
 (114,⟨1,8,.nilFunc,[.v (.nilFunc)],.other,none,none,none⟩),
 (125,⟨1,8,.nilFunc,[.v (.nilFunc)],.other,none,none,none⟩),
 (137,⟨1,8,.nilFunc,[.v (.nilFunc)],.other,none,none,none⟩),
 (138,⟨1,8,.nilFunc,[.v (.nilFunc)],.other,none,none,none⟩),
 (148,⟨1,4,.int .u32 0,[.v (.int .u32 0)],.int .u32,none,none,none⟩),
 (149,⟨4,32,.agg #[.int .i64 0,.int .i64 0,.int .i64 0,.int .i64 0],[.v (.int .i64 0),.v (.int .i64 0),.v (.int .i64 0),.v (.int .i64 0)],.array 4 3 1,some 8,none,none⟩),
 (152,⟨1,8,.map none,[.v (.map none)],.map 3 3,none,none,none⟩),
 (156,⟨1,8,.map none,[.v (.map none)],.map 5 3,none,none,none⟩),
 (157,⟨1,24,.slice none 0 0,[.v (.slice none 0 0)],.slice 9 1,none,none,none⟩),
 (161,⟨1,8,.nilFunc,[.v (.nilFunc)],.other,none,none,none⟩),
 (187,⟨1,8,.nilFunc,[.v (.nilFunc)],.other,none,none,none⟩),
 (192,⟨1,8,.int .i64 0,[.v (.int .i64 0)],.int .i64,some 18,none,none⟩),
 (193,⟨1,8,.pointer none,[.v (.pointer none)],.ptr 3,none,none,none⟩),
 (198,⟨1,8,.pointer none,[.v (.pointer none)],.ptr 5,none,none,none⟩),
 (207,⟨1,8,.nilFunc,[.v (.nilFunc)],.other,none,none,none⟩),
 (208,⟨1,8,.nilFunc,[.v (.nilFunc)],.other,none,none,none⟩),
 (210,⟨2,16,.agg #[.int .i64 0,.int .i64 0],[.v (.int .i64 0),.v (.int .i64 0)],.array 2 192 1,some 14,none,none⟩),
 (211,⟨1,8,.map none,[.v (.map none)],.map 9 210,none,none,none⟩),
 (231,⟨1,8,.nilFunc,[.v (.nilFunc)],.other,none,none,none⟩),
 (256,⟨4,40,.agg #[.pointer none,.pointer none,.pointer none,.string ⟨#[]⟩],[.v (.pointer none),.v (.pointer none),.v (.pointer none),.v (.string ⟨#[]⟩)],.struct [(0,17,1),(1,17,1),(2,17,1),(3,9,1)],none,none,none⟩),
 (260,⟨1,1,.int .u8 0,[.v (.int .u8 0)],.int .u8,none,none,none⟩),
 (261,⟨1,1,.int .u8 0,[.v (.int .u8 0)],.int .u8,none,none,none⟩),
 (262,⟨1,8,.nilFunc,[.v (.nilFunc)],.other,none,none,none⟩),
 (263,⟨1,4,.int .i32 0,[.v (.int .i32 0)],.int .i32,none,none,none⟩),
 (264,⟨1,4,.int .i32 0,[.v (.int .i32 0)],.int .i32,none,none,none⟩),
 (266,⟨11,48,.agg #[.int .u64 0,.int .u64 0,.int .u32 0,.int .u8 0,.int .u8 0,.int .u8 0,.int .u8 0,.nilFunc,.pointer none,.int .i32 0,.int .i32 0],[.v (.int .u64 0),.v (.int .u64 0),.v (.int .u32 0),.v (.int .u8 0),.v (.int .u8 0),.v (.int .u8 0),.v (.int .u8 0),.v (.nilFunc),.v (.pointer none),.v (.int .i32 0),.v (.int .i32 0)],.struct [(0,12,1),(1,12,1),(2,148,1),(3,260,1),(4,5,1),(5,5,1),(6,261,1),(7,262,1),(8,198,1),(9,263,1),(10,264,1)],none,none,none⟩)]
def Tryz.tr (k:Nat):TI:=match lk Tryz.tb k with
 | some x=>x
 | none=>⟨0,0,.nilFunc,[],.other,none,none,none⟩
theorem Tryz.mT:TI.ok En.Dop.D4 Tryz.prog 1 (Tryz.tr 1):=DU (by kernel_rfl) ⟨_,Tryz.underlying1,rfl⟩ (by kernel_rfl)
theorem Tryz.mU:TI.ok En.Dop.D4 Tryz.prog 2 (Tryz.tr 2):=DU (by kernel_rfl) Tryz.underlying2 (by kernel_rfl)
theorem Tryz.mW:TI.ok En.Dop.D4 Tryz.prog 3 (Tryz.tr 3):=WM (τ0:=0) (by kernel_rfl) Tryz.underlying3 (by kernel_rfl) ⟨rfl,by decide,rfl,rfl⟩
theorem Tryz.mX:TI.ok En.Dop.D4 Tryz.prog 4 (Tryz.tr 4):=WM (τ0:=2) (by kernel_rfl) Tryz.underlying4 (by kernel_rfl) ⟨rfl,by decide,rfl,rfl⟩
theorem Tryz.mY:TI.ok En.Dop.D4 Tryz.prog 5 (Tryz.tr 5):=WM (τ0:=3) (by kernel_rfl) Tryz.underlying5 (by kernel_rfl) ⟨rfl,by decide,rfl,rfl⟩
theorem Tryz.mZ:TI.ok En.Dop.D4 Tryz.prog 6 (Tryz.tr 6):=DU (by kernel_rfl) Tryz.underlying6 (by kernel_rfl)
theorem Tryz.ma:TI.ok En.Dop.D4 Tryz.prog 7 (Tryz.tr 7):=DU (by kernel_rfl) ⟨_,Tryz.underlying7,rfl,rfl,by kernel_rfl,by decide,rfl,rfl,by kernel_rfl,by decide,rfl,rfl,by kernel_rfl,by decide,rfl,rfl,by kernel_rfl,by decide,trivial⟩ (by kernel_rfl)
theorem Tryz.mb:TI.ok En.Dop.D4 Tryz.prog 8 (Tryz.tr 8):=DU (by kernel_rfl) ⟨_,Tryz.underlying8,rfl,rfl,by kernel_rfl,by decide,rfl,rfl,by kernel_rfl,by decide,rfl,rfl,by kernel_rfl,by decide,rfl,rfl,by kernel_rfl,by decide,trivial⟩ (by kernel_rfl)
theorem Tryz.mc:TI.ok En.Dop.D4 Tryz.prog 9 (Tryz.tr 9):=WM (τ0:=1) (by kernel_rfl) Tryz.underlying9 (by kernel_rfl) ⟨rfl,by decide,rfl,rfl⟩
theorem Tryz.j6:TI.ok En.Dop.D4 Tryz.prog 10 (Tryz.tr 10):=DU (by kernel_rfl) Tryz.underlying10 (by kernel_rfl)
theorem Tryz.j7:TI.ok En.Dop.D4 Tryz.prog 11 (Tryz.tr 11):=DU (by kernel_rfl) Tryz.underlying11 (by kernel_rfl)
theorem Tryz.j8:TI.ok En.Dop.D4 Tryz.prog 12 (Tryz.tr 12):=DU (by kernel_rfl) Tryz.underlying12 (by kernel_rfl)
theorem Tryz.j9:TI.ok En.Dop.D4 Tryz.prog 13 (Tryz.tr 13):=DU (by kernel_rfl) ⟨_,Tryz.underlying13,rfl,rfl,by kernel_rfl,by decide,rfl,rfl,by kernel_rfl,by decide,trivial⟩ (by kernel_rfl)
theorem Tryz.kA:TI.ok En.Dop.D4 Tryz.prog 14 (Tryz.tr 14):=DU (by kernel_rfl) ⟨_,Tryz.underlying14,rfl,rfl,by kernel_rfl,by decide,rfl,rfl,by kernel_rfl,by decide,trivial⟩ (by kernel_rfl)
theorem Tryz.kC:TI.ok En.Dop.D4 Tryz.prog 15 (Tryz.tr 15):=DU (by kernel_rfl) Tryz.underlying15 (by kernel_rfl)
theorem Tryz.kD:TI.ok En.Dop.D4 Tryz.prog 16 (Tryz.tr 16):=DU (by kernel_rfl) Tryz.underlying16 (by kernel_rfl)
theorem Tryz.kE:TI.ok En.Dop.D4 Tryz.prog 17 (Tryz.tr 17):=DU (by kernel_rfl) Tryz.underlying17 (by kernel_rfl)
theorem Tryz.kF:TI.ok En.Dop.D4 Tryz.prog 21 (Tryz.tr 21):=DU (by kernel_rfl) Tryz.underlying21 (by kernel_rfl)
theorem Tryz.kG:TI.ok En.Dop.D4 Tryz.prog 22 (Tryz.tr 22):=DU (by kernel_rfl) ⟨Tryz.underlying22,by kernel_rfl⟩ (by kernel_rfl)
theorem Tryz.kH:TI.ok En.Dop.D4 Tryz.prog 25 (Tryz.tr 25):=WM (τ0:=19) (by kernel_rfl) ⟨_,Tryz.underlying25,rfl,rfl,by kernel_rfl,by decide,rfl,rfl,by kernel_rfl,by decide,rfl,rfl,by kernel_rfl,by decide,trivial⟩ (by kernel_rfl) ⟨rfl,by decide,rfl,rfl⟩
theorem Tryz.kI:TI.ok En.Dop.D4 Tryz.prog 26 (Tryz.tr 26):=DU (by kernel_rfl) Tryz.underlying26 (by kernel_rfl)
theorem Tryz.kJ:TI.ok En.Dop.D4 Tryz.prog 31 (Tryz.tr 31):=DU (by kernel_rfl) ⟨Tryz.underlying31,by kernel_rfl⟩ (by kernel_rfl)
theorem Tryz.kK:TI.ok En.Dop.D4 Tryz.prog 32 (Tryz.tr 32):=DU (by kernel_rfl) ⟨Tryz.underlying32,by kernel_rfl⟩ (by kernel_rfl)
theorem Tryz.kM:TI.ok En.Dop.D4 Tryz.prog 33 (Tryz.tr 33):=DU (by kernel_rfl) ⟨Tryz.underlying33,by kernel_rfl⟩ (by kernel_rfl)
theorem Tryz.kN:TI.ok En.Dop.D4 Tryz.prog 35 (Tryz.tr 35):=WM (τ0:=13) (by kernel_rfl) ⟨_,Tryz.underlying35,rfl,rfl,by kernel_rfl,by decide,rfl,rfl,by kernel_rfl,by decide,rfl,rfl,by kernel_rfl,by decide,rfl,rfl,by kernel_rfl,by decide,trivial⟩ (by kernel_rfl) ⟨rfl,by decide,rfl,rfl⟩
theorem Tryz.kO:TI.ok En.Dop.D4 Tryz.prog 39 (Tryz.tr 39):=DU (by kernel_rfl) ⟨Tryz.underlying39,by kernel_rfl⟩ (by kernel_rfl)
theorem Tryz.kP:TI.ok En.Dop.D4 Tryz.prog 41 (Tryz.tr 41):=WM (τ0:=7) (by kernel_rfl) ⟨_,Tryz.underlying41,rfl,rfl,by kernel_rfl,by decide,rfl,rfl,by kernel_rfl,by decide,rfl,rfl,by kernel_rfl,by decide,trivial⟩ (by kernel_rfl) ⟨rfl,by decide,rfl,rfl⟩
theorem Tryz.kQ:TI.ok En.Dop.D4 Tryz.prog 45 (Tryz.tr 45):=DU (by kernel_rfl) Tryz.underlying45 (by kernel_rfl)
theorem Tryz.kT:TI.ok En.Dop.D4 Tryz.prog 46 (Tryz.tr 46):=DU (by kernel_rfl) ⟨Tryz.underlying46,by kernel_rfl⟩ (by kernel_rfl)
theorem Tryz.kU:TI.ok En.Dop.D4 Tryz.prog 47 (Tryz.tr 47):=DU (by kernel_rfl) Tryz.underlying47 (by kernel_rfl)
theorem Tryz.kW:TI.ok En.Dop.D4 Tryz.prog 49 (Tryz.tr 49):=DU (by kernel_rfl) ⟨_,Tryz.underlying49,rfl,rfl,by kernel_rfl,by decide,rfl,rfl,by kernel_rfl,by decide,rfl,rfl,by kernel_rfl,by decide,rfl,rfl,by kernel_rfl,by decide,rfl,rfl,by kernel_rfl,by decide,rfl,rfl,by kernel_rfl,by decide,rfl,rfl,by kernel_rfl,by decide,rfl,rfl,by kernel_rfl,by decide,rfl,rfl,by kernel_rfl,by decide,rfl,rfl,by kernel_rfl,by decide,trivial⟩ (by kernel_rfl)
theorem Tryz.kX:TI.ok En.Dop.D4 Tryz.prog 51 ⟨4,40,.agg #[.string ⟨#[]⟩,.int .i64 0,.int .i64 0,.int .i64 0],[.v (.string ⟨#[]⟩),.v (.int .i64 0),.v (.int .i64 0),.v (.int .i64 0)],.struct [(0,9,1),(1,3,1),(2,3,1),(3,3,1)],some 12,some [.str,.int .i64,.int .i64,.int .i64],none⟩:=⟨by kernel_rfl,fun β=>by simp [AA,SV.den,Value.cells],fun N=>by simp [BR,SV.on],rfl,⟨_,Tryz.underlying51,rfl,rfl,by kernel_rfl,by decide,rfl,rfl,by kernel_rfl,by decide,rfl,rfl,by kernel_rfl,by decide,rfl,rfl,by kernel_rfl,by decide,trivial⟩,(fun ks h=>by cases h;exact ⟨CM (d:=9999) (ks:=[.str,.int .i64,.int .i64,.int .i64]) Tryz.underlying51 (by kernel_rfl) (.cons (ks:=[.str]) (ls:=[.int .i64,.int .i64,.int .i64]) (by decide) rfl (by kernel_rfl) (AT Tryz.underlying9) (fun h=>by first|rfl|cases h) (FF Tryz.underlying9) (.cons (ks:=[.int .i64]) (ls:=[.int .i64,.int .i64]) (by decide) rfl (by kernel_rfl) (AT Tryz.underlying3) (fun h=>by first|rfl|cases h) (AV Tryz.underlying3) (.cons (ks:=[.int .i64]) (ls:=[.int .i64]) (by decide) rfl (by kernel_rfl) (AT Tryz.underlying3) (fun h=>by first|rfl|cases h) (AV Tryz.underlying3) (.cons (ks:=[.int .i64]) (ls:=[]) (by decide) rfl (by kernel_rfl) (AT Tryz.underlying3) (fun h=>by first|rfl|cases h) (AV Tryz.underlying3) .nil)))),by kernel_rfl⟩),(fun τ h=>by cases h;exact ⟨rfl,by decide,rfl,rfl⟩),(fun τ h=>by cases h)⟩
theorem Tryz.kY:TI.ok En.Dop.D4 Tryz.prog 55 (Tryz.tr 55):=DU (by kernel_rfl) ⟨Tryz.underlying55,by kernel_rfl⟩ (by kernel_rfl)
theorem Tryz.kZ:TI.ok En.Dop.D4 Tryz.prog 59 (Tryz.tr 59):=DU (by kernel_rfl) Tryz.underlying59 (by kernel_rfl)
theorem Tryz.ka:TI.ok En.Dop.D4 Tryz.prog 60 (Tryz.tr 60):=DU (by kernel_rfl) Tryz.underlying60 (by kernel_rfl)
theorem Tryz.kb:TI.ok En.Dop.D4 Tryz.prog 62 (Tryz.tr 62):=DU (by kernel_rfl) Tryz.underlying62 (by kernel_rfl)
theorem Tryz.ke:TI.ok En.Dop.D4 Tryz.prog 63 (Tryz.tr 63):=DU (by kernel_rfl) ⟨Tryz.underlying63,by kernel_rfl⟩ (by kernel_rfl)
theorem Tryz.kg:TI.ok En.Dop.D4 Tryz.prog 64 (Tryz.tr 64):=DU (by kernel_rfl) Tryz.underlying64 (by kernel_rfl)
theorem Tryz.ki:TI.ok En.Dop.D4 Tryz.prog 65 (Tryz.tr 65):=DU (by kernel_rfl) Tryz.underlying65 (by kernel_rfl)
theorem Tryz.kj:TI.ok En.Dop.D4 Tryz.prog 67 ⟨5,48,.agg #[.string ⟨#[]⟩,.int .i64 0,.int .i64 0,.int .i64 0,.int .i64 0],[.v (.string ⟨#[]⟩),.v (.int .i64 0),.v (.int .i64 0),.v (.int .i64 0),.v (.int .i64 0)],.struct [(0,9,1),(1,3,1),(2,3,1),(3,3,1),(4,3,1)],some 11,some [.str,.int .i64,.int .i64,.int .i64,.int .i64],none⟩:=⟨by kernel_rfl,fun β=>by simp [AA,SV.den,Value.cells],fun N=>by simp [BR,SV.on],rfl,⟨_,Tryz.underlying67,rfl,rfl,by kernel_rfl,by decide,rfl,rfl,by kernel_rfl,by decide,rfl,rfl,by kernel_rfl,by decide,rfl,rfl,by kernel_rfl,by decide,rfl,rfl,by kernel_rfl,by decide,trivial⟩,(fun ks h=>by cases h;exact ⟨CM (d:=9999) (ks:=[.str,.int .i64,.int .i64,.int .i64,.int .i64]) Tryz.underlying67 (by kernel_rfl) (.cons (ks:=[.str]) (ls:=[.int .i64,.int .i64,.int .i64,.int .i64]) (by decide) rfl (by kernel_rfl) (AT Tryz.underlying9) (fun h=>by first|rfl|cases h) (FF Tryz.underlying9) (.cons (ks:=[.int .i64]) (ls:=[.int .i64,.int .i64,.int .i64]) (by decide) rfl (by kernel_rfl) (AT Tryz.underlying3) (fun h=>by first|rfl|cases h) (AV Tryz.underlying3) (.cons (ks:=[.int .i64]) (ls:=[.int .i64,.int .i64]) (by decide) rfl (by kernel_rfl) (AT Tryz.underlying3) (fun h=>by first|rfl|cases h) (AV Tryz.underlying3) (.cons (ks:=[.int .i64]) (ls:=[.int .i64]) (by decide) rfl (by kernel_rfl) (AT Tryz.underlying3) (fun h=>by first|rfl|cases h) (AV Tryz.underlying3) (.cons (ks:=[.int .i64]) (ls:=[]) (by decide) rfl (by kernel_rfl) (AT Tryz.underlying3) (fun h=>by first|rfl|cases h) (AV Tryz.underlying3) .nil))))),by kernel_rfl⟩),(fun τ h=>by cases h;exact ⟨rfl,by decide,rfl,rfl⟩),(fun τ h=>by cases h)⟩
theorem Tryz.kk:TI.ok En.Dop.D4 Tryz.prog 68 (Tryz.tr 68):=DU (by kernel_rfl) ⟨Tryz.underlying68,by kernel_rfl⟩ (by kernel_rfl)
theorem Tryz.kn:TI.ok En.Dop.D4 Tryz.prog 70 (Tryz.tr 70):=DU (by kernel_rfl) ⟨_,Tryz.underlying70,rfl,rfl,by kernel_rfl,by decide,rfl,rfl,by kernel_rfl,by decide,rfl,rfl,by kernel_rfl,by decide,rfl,rfl,by kernel_rfl,by decide,rfl,rfl,by kernel_rfl,by decide,rfl,rfl,by kernel_rfl,by decide,rfl,rfl,by kernel_rfl,by decide,rfl,rfl,by kernel_rfl,by decide,rfl,rfl,by kernel_rfl,by decide,rfl,rfl,by kernel_rfl,by decide,rfl,rfl,by kernel_rfl,by decide,rfl,rfl,by kernel_rfl,by decide,rfl,rfl,by kernel_rfl,by decide,rfl,rfl,by kernel_rfl,by decide,rfl,rfl,by kernel_rfl,by decide,rfl,rfl,by kernel_rfl,by decide,trivial⟩ (by kernel_rfl)
theorem Tryz.ko:TI.ok En.Dop.D4 Tryz.prog 73 ⟨9,80,.agg #[.int .i64 0,.int .i64 0,.int .i64 0,.int .i64 0,.int .i64 0,.string ⟨#[]⟩,.int .i64 0,.int .i64 0,.int .i64 0],[.v (.int .i64 0),.v (.int .i64 0),.v (.int .i64 0),.v (.int .i64 0),.v (.int .i64 0),.v (.string ⟨#[]⟩),.v (.int .i64 0),.v (.int .i64 0),.v (.int .i64 0)],.struct [(0,3,1),(1,3,1),(2,3,1),(3,3,1),(4,3,1),(5,9,1),(6,3,1),(7,3,1),(8,3,1)],some 5,some [.int .i64,.int .i64,.int .i64,.int .i64,.int .i64,.str,.int .i64,.int .i64,.int .i64],none⟩:=⟨by kernel_rfl,fun β=>by simp [AA,SV.den,Value.cells],fun N=>by simp [BR,SV.on],rfl,⟨_,Tryz.underlying73,rfl,rfl,by kernel_rfl,by decide,rfl,rfl,by kernel_rfl,by decide,rfl,rfl,by kernel_rfl,by decide,rfl,rfl,by kernel_rfl,by decide,rfl,rfl,by kernel_rfl,by decide,rfl,rfl,by kernel_rfl,by decide,rfl,rfl,by kernel_rfl,by decide,rfl,rfl,by kernel_rfl,by decide,rfl,rfl,by kernel_rfl,by decide,trivial⟩,(fun ks h=>by cases h;exact ⟨CM (d:=9999) (ks:=[.int .i64,.int .i64,.int .i64,.int .i64,.int .i64,.str,.int .i64,.int .i64,.int .i64]) Tryz.underlying73 (by kernel_rfl) (.cons (ks:=[.int .i64]) (ls:=[.int .i64,.int .i64,.int .i64,.int .i64,.str,.int .i64,.int .i64,.int .i64]) (by decide) rfl (by kernel_rfl) (AT Tryz.underlying3) (fun h=>by first|rfl|cases h) (AV Tryz.underlying3) (.cons (ks:=[.int .i64]) (ls:=[.int .i64,.int .i64,.int .i64,.str,.int .i64,.int .i64,.int .i64]) (by decide) rfl (by kernel_rfl) (AT Tryz.underlying3) (fun h=>by first|rfl|cases h) (AV Tryz.underlying3) (.cons (ks:=[.int .i64]) (ls:=[.int .i64,.int .i64,.str,.int .i64,.int .i64,.int .i64]) (by decide) rfl (by kernel_rfl) (AT Tryz.underlying3) (fun h=>by first|rfl|cases h) (AV Tryz.underlying3) (.cons (ks:=[.int .i64]) (ls:=[.int .i64,.str,.int .i64,.int .i64,.int .i64]) (by decide) rfl (by kernel_rfl) (AT Tryz.underlying3) (fun h=>by first|rfl|cases h) (AV Tryz.underlying3) (.cons (ks:=[.int .i64]) (ls:=[.str,.int .i64,.int .i64,.int .i64]) (by decide) rfl (by kernel_rfl) (AT Tryz.underlying3) (fun h=>by first|rfl|cases h) (AV Tryz.underlying3) (.cons (ks:=[.str]) (ls:=[.int .i64,.int .i64,.int .i64]) (by decide) rfl (by kernel_rfl) (AT Tryz.underlying9) (fun h=>by first|rfl|cases h) (FF Tryz.underlying9) (.cons (ks:=[.int .i64]) (ls:=[.int .i64,.int .i64]) (by decide) rfl (by kernel_rfl) (AT Tryz.underlying3) (fun h=>by first|rfl|cases h) (AV Tryz.underlying3) (.cons (ks:=[.int .i64]) (ls:=[.int .i64]) (by decide) rfl (by kernel_rfl) (AT Tryz.underlying3) (fun h=>by first|rfl|cases h) (AV Tryz.underlying3) (.cons (ks:=[.int .i64]) (ls:=[]) (by decide) rfl (by kernel_rfl) (AT Tryz.underlying3) (fun h=>by first|rfl|cases h) (AV Tryz.underlying3) .nil))))))))),by kernel_rfl⟩),(fun τ h=>by cases h;exact ⟨rfl,by decide,rfl,rfl⟩),(fun τ h=>by cases h)⟩
theorem Tryz.ku:TI.ok En.Dop.D4 Tryz.prog 77 (Tryz.tr 77):=WM (τ0:=15) (by kernel_rfl) ⟨_,Tryz.underlying77,rfl,rfl,by kernel_rfl,by decide,rfl,rfl,by kernel_rfl,by decide,trivial⟩ (by kernel_rfl) ⟨rfl,by decide,rfl,rfl⟩
theorem Tryz.kx:TI.ok En.Dop.D4 Tryz.prog 79 (Tryz.tr 79):=DU (by kernel_rfl) Tryz.underlying79 (by kernel_rfl)
theorem Tryz.ky:TI.ok En.Dop.D4 Tryz.prog 81 (Tryz.tr 81):=DU (by kernel_rfl) ⟨_,Tryz.underlying81,rfl,rfl,by kernel_rfl,by decide,rfl,rfl,by kernel_rfl,by decide,rfl,rfl,by kernel_rfl,by decide,rfl,rfl,by kernel_rfl,by decide,rfl,rfl,by kernel_rfl,by decide,rfl,rfl,by kernel_rfl,by decide,rfl,rfl,by kernel_rfl,by decide,trivial⟩ (by kernel_rfl)
theorem Tryz.kz:TI.ok En.Dop.D4 Tryz.prog 84 (Tryz.tr 84):=DU (by kernel_rfl) ⟨_,Tryz.underlying84,rfl⟩ (by kernel_rfl)
theorem Tryz.k6:TI.ok En.Dop.D4 Tryz.prog 88 ⟨4,40,.agg #[.int .i64 0,.string ⟨#[]⟩,.int .i64 0,.int .i64 0],[.v (.int .i64 0),.v (.string ⟨#[]⟩),.v (.int .i64 0),.v (.int .i64 0)],.struct [(0,3,1),(1,9,1),(2,3,1),(3,3,1)],some 4,some [.int .i64,.str,.int .i64,.int .i64],none⟩:=⟨by kernel_rfl,fun β=>by simp [AA,SV.den,Value.cells],fun N=>by simp [BR,SV.on],rfl,⟨_,Tryz.underlying88,rfl,rfl,by kernel_rfl,by decide,rfl,rfl,by kernel_rfl,by decide,rfl,rfl,by kernel_rfl,by decide,rfl,rfl,by kernel_rfl,by decide,trivial⟩,(fun ks h=>by cases h;exact ⟨CM (d:=9999) (ks:=[.int .i64,.str,.int .i64,.int .i64]) Tryz.underlying88 (by kernel_rfl) (.cons (ks:=[.int .i64]) (ls:=[.str,.int .i64,.int .i64]) (by decide) rfl (by kernel_rfl) (AT Tryz.underlying3) (fun h=>by first|rfl|cases h) (AV Tryz.underlying3) (.cons (ks:=[.str]) (ls:=[.int .i64,.int .i64]) (by decide) rfl (by kernel_rfl) (AT Tryz.underlying9) (fun h=>by first|rfl|cases h) (FF Tryz.underlying9) (.cons (ks:=[.int .i64]) (ls:=[.int .i64]) (by decide) rfl (by kernel_rfl) (AT Tryz.underlying3) (fun h=>by first|rfl|cases h) (AV Tryz.underlying3) (.cons (ks:=[.int .i64]) (ls:=[]) (by decide) rfl (by kernel_rfl) (AT Tryz.underlying3) (fun h=>by first|rfl|cases h) (AV Tryz.underlying3) .nil)))),by kernel_rfl⟩),(fun τ h=>by cases h;exact ⟨rfl,by decide,rfl,rfl⟩),(fun τ h=>by cases h)⟩
theorem Tryz.k7:TI.ok En.Dop.D4 Tryz.prog 91 (Tryz.tr 91):=DU (by kernel_rfl) Tryz.underlying91 (by kernel_rfl)
theorem Tryz.k8:TI.ok En.Dop.D4 Tryz.prog 93 (Tryz.tr 93):=DU (by kernel_rfl) ⟨_,Tryz.underlying93,rfl,rfl,by kernel_rfl,by decide,rfl,rfl,by kernel_rfl,by decide,rfl,rfl,by kernel_rfl,by decide,rfl,rfl,by kernel_rfl,by decide,rfl,rfl,by kernel_rfl,by decide,rfl,rfl,by kernel_rfl,by decide,trivial⟩ (by kernel_rfl)
theorem Tryz.k9:TI.ok En.Dop.D4 Tryz.prog 95 ⟨4,40,.agg #[.int .i64 0,.int .i64 0,.int .i64 0,.string ⟨#[]⟩],[.v (.int .i64 0),.v (.int .i64 0),.v (.int .i64 0),.v (.string ⟨#[]⟩)],.struct [(0,3,1),(1,3,1),(2,3,1),(3,9,1)],some 6,some [.int .i64,.int .i64,.int .i64,.str],none⟩:=⟨by kernel_rfl,fun β=>by simp [AA,SV.den,Value.cells],fun N=>by simp [BR,SV.on],rfl,⟨_,Tryz.underlying95,rfl,rfl,by kernel_rfl,by decide,rfl,rfl,by kernel_rfl,by decide,rfl,rfl,by kernel_rfl,by decide,rfl,rfl,by kernel_rfl,by decide,trivial⟩,(fun ks h=>by cases h;exact ⟨CM (d:=9999) (ks:=[.int .i64,.int .i64,.int .i64,.str]) Tryz.underlying95 (by kernel_rfl) (.cons (ks:=[.int .i64]) (ls:=[.int .i64,.int .i64,.str]) (by decide) rfl (by kernel_rfl) (AT Tryz.underlying3) (fun h=>by first|rfl|cases h) (AV Tryz.underlying3) (.cons (ks:=[.int .i64]) (ls:=[.int .i64,.str]) (by decide) rfl (by kernel_rfl) (AT Tryz.underlying3) (fun h=>by first|rfl|cases h) (AV Tryz.underlying3) (.cons (ks:=[.int .i64]) (ls:=[.str]) (by decide) rfl (by kernel_rfl) (AT Tryz.underlying3) (fun h=>by first|rfl|cases h) (AV Tryz.underlying3) (.cons (ks:=[.str]) (ls:=[]) (by decide) rfl (by kernel_rfl) (AT Tryz.underlying9) (fun h=>by first|rfl|cases h) (FF Tryz.underlying9) .nil)))),by kernel_rfl⟩),(fun τ h=>by cases h;exact ⟨rfl,by decide,rfl,rfl⟩),(fun τ h=>by cases h)⟩
theorem Tryz.lA:TI.ok En.Dop.D4 Tryz.prog 97 (Tryz.tr 97):=DU (by kernel_rfl) ⟨_,Tryz.underlying97,rfl⟩ (by kernel_rfl)
theorem Tryz.lB:TI.ok En.Dop.D4 Tryz.prog 99 (Tryz.tr 99):=DU (by kernel_rfl) Tryz.underlying99 (by kernel_rfl)
theorem Tryz.fq:TI.ok En.Dop.D4 Tryz.prog 101 (Tryz.tr 101):=DU (by kernel_rfl) ⟨_,Tryz.underlying101,rfl,rfl,by kernel_rfl,by decide,rfl,rfl,by kernel_rfl,by decide,trivial⟩ (by kernel_rfl)
theorem Tryz.fw:TI.ok En.Dop.D4 Tryz.prog 102 (Tryz.tr 102):=WM (τ0:=17) (by kernel_rfl) ⟨Tryz.underlying102,by kernel_rfl⟩ (by kernel_rfl) ⟨rfl,by decide,rfl,rfl⟩
theorem Tryz.fx:TI.ok En.Dop.D4 Tryz.prog 104 ⟨2,24,.agg #[.string ⟨#[]⟩,.int .i64 0],[.v (.string ⟨#[]⟩),.v (.int .i64 0)],.struct [(0,9,1),(1,3,1)],some 16,some [.str,.int .i64],none⟩:=⟨by kernel_rfl,fun β=>by simp [AA,SV.den,Value.cells],fun N=>by simp [BR,SV.on],rfl,⟨_,Tryz.underlying104,rfl,rfl,by kernel_rfl,by decide,rfl,rfl,by kernel_rfl,by decide,trivial⟩,(fun ks h=>by cases h;exact ⟨CM (d:=9999) (ks:=[.str,.int .i64]) Tryz.underlying104 (by kernel_rfl) (.cons (ks:=[.str]) (ls:=[.int .i64]) (by decide) rfl (by kernel_rfl) (AT Tryz.underlying9) (fun h=>by first|rfl|cases h) (FF Tryz.underlying9) (.cons (ks:=[.int .i64]) (ls:=[]) (by decide) rfl (by kernel_rfl) (AT Tryz.underlying3) (fun h=>by first|rfl|cases h) (AV Tryz.underlying3) .nil)),by kernel_rfl⟩),(fun τ h=>by cases h;exact ⟨rfl,by decide,rfl,rfl⟩),(fun τ h=>by cases h)⟩
theorem Tryz.fy:TI.ok En.Dop.D4 Tryz.prog 107 ⟨5,40,.agg #[.int .i64 0,.int .i64 0,.int .i64 0,.int .i64 0,.bool false],[.v (.int .i64 0),.v (.int .i64 0),.v (.int .i64 0),.v (.int .i64 0),.v (.bool false)],.struct [(0,3,1),(1,3,1),(2,3,1),(3,3,1),(4,4,1)],some 10,some [.int .i64,.int .i64,.int .i64,.int .i64,.bool],none⟩:=⟨by kernel_rfl,fun β=>by simp [AA,SV.den,Value.cells],fun N=>by simp [BR,SV.on],rfl,⟨_,Tryz.underlying107,rfl,rfl,by kernel_rfl,by decide,rfl,rfl,by kernel_rfl,by decide,rfl,rfl,by kernel_rfl,by decide,rfl,rfl,by kernel_rfl,by decide,rfl,rfl,by kernel_rfl,by decide,trivial⟩,(fun ks h=>by cases h;exact ⟨CM (d:=9999) (ks:=[.int .i64,.int .i64,.int .i64,.int .i64,.bool]) Tryz.underlying107 (by kernel_rfl) (.cons (ks:=[.int .i64]) (ls:=[.int .i64,.int .i64,.int .i64,.bool]) (by decide) rfl (by kernel_rfl) (AT Tryz.underlying3) (fun h=>by first|rfl|cases h) (AV Tryz.underlying3) (.cons (ks:=[.int .i64]) (ls:=[.int .i64,.int .i64,.bool]) (by decide) rfl (by kernel_rfl) (AT Tryz.underlying3) (fun h=>by first|rfl|cases h) (AV Tryz.underlying3) (.cons (ks:=[.int .i64]) (ls:=[.int .i64,.bool]) (by decide) rfl (by kernel_rfl) (AT Tryz.underlying3) (fun h=>by first|rfl|cases h) (AV Tryz.underlying3) (.cons (ks:=[.int .i64]) (ls:=[.bool]) (by decide) rfl (by kernel_rfl) (AT Tryz.underlying3) (fun h=>by first|rfl|cases h) (AV Tryz.underlying3) (.cons (ks:=[.bool]) (ls:=[]) (by decide) rfl (by kernel_rfl) (AT Tryz.underlying4) (fun h=>by first|rfl|cases h) (Sw Tryz.underlying4) .nil))))),by kernel_rfl⟩),(fun τ h=>by cases h;exact ⟨rfl,by decide,rfl,rfl⟩),(fun τ h=>by cases h)⟩
theorem Tryz.gA:TI.ok En.Dop.D4 Tryz.prog 109 (Tryz.tr 109):=DU (by kernel_rfl) ⟨_,Tryz.underlying109,rfl⟩ (by kernel_rfl)
theorem Tryz.gB:TI.ok En.Dop.D4 Tryz.prog 111 ⟨3,24,.agg #[.int .i64 0,.int .i64 0,.int .i64 0],[.v (.int .i64 0),.v (.int .i64 0),.v (.int .i64 0)],.struct [(0,3,1),(1,3,1),(2,3,1)],some 9,some [.int .i64,.int .i64,.int .i64],none⟩:=⟨by kernel_rfl,fun β=>by simp [AA,SV.den,Value.cells],fun N=>by simp [BR,SV.on],rfl,⟨_,Tryz.underlying111,rfl,rfl,by kernel_rfl,by decide,rfl,rfl,by kernel_rfl,by decide,rfl,rfl,by kernel_rfl,by decide,trivial⟩,(fun ks h=>by cases h;exact ⟨CM (d:=9999) (ks:=[.int .i64,.int .i64,.int .i64]) Tryz.underlying111 (by kernel_rfl) (.cons (ks:=[.int .i64]) (ls:=[.int .i64,.int .i64]) (by decide) rfl (by kernel_rfl) (AT Tryz.underlying3) (fun h=>by first|rfl|cases h) (AV Tryz.underlying3) (.cons (ks:=[.int .i64]) (ls:=[.int .i64]) (by decide) rfl (by kernel_rfl) (AT Tryz.underlying3) (fun h=>by first|rfl|cases h) (AV Tryz.underlying3) (.cons (ks:=[.int .i64]) (ls:=[]) (by decide) rfl (by kernel_rfl) (AT Tryz.underlying3) (fun h=>by first|rfl|cases h) (AV Tryz.underlying3) .nil))),by kernel_rfl⟩),(fun τ h=>by cases h;exact ⟨rfl,by decide,rfl,rfl⟩),(fun τ h=>by cases h)⟩
theorem Tryz.gC:TI.ok En.Dop.D4 Tryz.prog 113 (Tryz.tr 113):=DU (by kernel_rfl) ⟨_,Tryz.underlying113,rfl⟩ (by kernel_rfl)
theorem Tryz.gD:TI.ok En.Dop.D4 Tryz.prog 114 (Tryz.tr 114):=DU (by kernel_rfl) ⟨_,Tryz.underlying114,rfl⟩ (by kernel_rfl)
theorem Tryz.gE:TI.ok En.Dop.D4 Tryz.prog 125 (Tryz.tr 125):=DU (by kernel_rfl) ⟨_,Tryz.underlying125,rfl⟩ (by kernel_rfl)
theorem Tryz.gF:TI.ok En.Dop.D4 Tryz.prog 137 (Tryz.tr 137):=DU (by kernel_rfl) ⟨_,Tryz.underlying137,rfl⟩ (by kernel_rfl)
theorem Tryz.gG:TI.ok En.Dop.D4 Tryz.prog 138 (Tryz.tr 138):=DU (by kernel_rfl) ⟨_,Tryz.underlying138,rfl⟩ (by kernel_rfl)
theorem Tryz.gH:TI.ok En.Dop.D4 Tryz.prog 148 (Tryz.tr 148):=DU (by kernel_rfl) Tryz.underlying148 (by kernel_rfl)
theorem Tryz.gI:TI.ok En.Dop.D4 Tryz.prog 149 (Tryz.tr 149):=WM (τ0:=8) (by kernel_rfl) ⟨Tryz.underlying149,by kernel_rfl⟩ (by kernel_rfl) ⟨rfl,by decide,rfl,rfl⟩
theorem Tryz.gJ:TI.ok En.Dop.D4 Tryz.prog 152 (Tryz.tr 152):=DU (by kernel_rfl) Tryz.underlying152 (by kernel_rfl)
theorem Tryz.gK:TI.ok En.Dop.D4 Tryz.prog 156 (Tryz.tr 156):=DU (by kernel_rfl) Tryz.underlying156 (by kernel_rfl)
theorem Tryz.gL:TI.ok En.Dop.D4 Tryz.prog 157 (Tryz.tr 157):=DU (by kernel_rfl) ⟨Tryz.underlying157,by kernel_rfl⟩ (by kernel_rfl)
theorem Tryz.gM:TI.ok En.Dop.D4 Tryz.prog 161 (Tryz.tr 161):=DU (by kernel_rfl) ⟨_,Tryz.underlying161,rfl⟩ (by kernel_rfl)
theorem Tryz.gN:TI.ok En.Dop.D4 Tryz.prog 187 (Tryz.tr 187):=DU (by kernel_rfl) ⟨_,Tryz.underlying187,rfl⟩ (by kernel_rfl)
theorem Tryz.gO:TI.ok En.Dop.D4 Tryz.prog 192 (Tryz.tr 192):=WM (τ0:=18) (by kernel_rfl) Tryz.underlying192 (by kernel_rfl) ⟨rfl,by decide,rfl,rfl⟩
theorem Tryz.gP:TI.ok En.Dop.D4 Tryz.prog 193 (Tryz.tr 193):=DU (by kernel_rfl) Tryz.underlying193 (by kernel_rfl)
theorem Tryz.gQ:TI.ok En.Dop.D4 Tryz.prog 198 (Tryz.tr 198):=DU (by kernel_rfl) Tryz.underlying198 (by kernel_rfl)
theorem Tryz.gR:TI.ok En.Dop.D4 Tryz.prog 207 (Tryz.tr 207):=DU (by kernel_rfl) ⟨_,Tryz.underlying207,rfl⟩ (by kernel_rfl)
theorem Tryz.gS:TI.ok En.Dop.D4 Tryz.prog 208 (Tryz.tr 208):=DU (by kernel_rfl) ⟨_,Tryz.underlying208,rfl⟩ (by kernel_rfl)
theorem Tryz.gT:TI.ok En.Dop.D4 Tryz.prog 210 (Tryz.tr 210):=WM (τ0:=14) (by kernel_rfl) ⟨Tryz.underlying210,by kernel_rfl⟩ (by kernel_rfl) ⟨rfl,by decide,rfl,rfl⟩
theorem Tryz.gU:TI.ok En.Dop.D4 Tryz.prog 211 (Tryz.tr 211):=DU (by kernel_rfl) Tryz.underlying211 (by kernel_rfl)
theorem Tryz.gV:TI.ok En.Dop.D4 Tryz.prog 231 (Tryz.tr 231):=DU (by kernel_rfl) ⟨_,Tryz.underlying231,rfl⟩ (by kernel_rfl)
theorem Tryz.gW:TI.ok En.Dop.D4 Tryz.prog 256 (Tryz.tr 256):=DU (by kernel_rfl) ⟨_,Tryz.underlying256,rfl,rfl,by kernel_rfl,by decide,rfl,rfl,by kernel_rfl,by decide,rfl,rfl,by kernel_rfl,by decide,rfl,rfl,by kernel_rfl,by decide,trivial⟩ (by kernel_rfl)
theorem Tryz.gX:TI.ok En.Dop.D4 Tryz.prog 260 (Tryz.tr 260):=DU (by kernel_rfl) Tryz.underlying260 (by kernel_rfl)
theorem Tryz.gY:TI.ok En.Dop.D4 Tryz.prog 261 (Tryz.tr 261):=DU (by kernel_rfl) Tryz.underlying261 (by kernel_rfl)
theorem Tryz.gZ:TI.ok En.Dop.D4 Tryz.prog 262 (Tryz.tr 262):=DU (by kernel_rfl) ⟨_,Tryz.underlying262,rfl⟩ (by kernel_rfl)
theorem Tryz.ga:TI.ok En.Dop.D4 Tryz.prog 263 (Tryz.tr 263):=DU (by kernel_rfl) Tryz.underlying263 (by kernel_rfl)
theorem Tryz.gd:TI.ok En.Dop.D4 Tryz.prog 264 (Tryz.tr 264):=DU (by kernel_rfl) Tryz.underlying264 (by kernel_rfl)
theorem Tryz.gg:TI.ok En.Dop.D4 Tryz.prog 266 (Tryz.tr 266):=DU (by kernel_rfl) ⟨_,Tryz.underlying266,rfl,rfl,by kernel_rfl,by decide,rfl,rfl,by kernel_rfl,by decide,rfl,rfl,by kernel_rfl,by decide,rfl,rfl,by kernel_rfl,by decide,rfl,rfl,by kernel_rfl,by decide,rfl,rfl,by kernel_rfl,by decide,rfl,rfl,by kernel_rfl,by decide,rfl,rfl,by kernel_rfl,by decide,rfl,rfl,by kernel_rfl,by decide,rfl,rfl,by kernel_rfl,by decide,rfl,rfl,by kernel_rfl,by decide,trivial⟩ (by kernel_rfl)
set_option maxRecDepth 100000 in
theorem Tryz.AH:AU En.Dop.D4 Tryz.prog Tryz.tb:=
 ⟨Tryz.mT,Tryz.mU,Tryz.mW,Tryz.mX,Tryz.mY,Tryz.mZ,Tryz.ma,Tryz.mb,Tryz.mc,Tryz.j6,Tryz.j7,Tryz.j8,Tryz.j9,Tryz.kA,Tryz.kC,Tryz.kD,Tryz.kE,Tryz.kF,Tryz.kG,Tryz.kH,Tryz.kI,Tryz.kJ,Tryz.kK,Tryz.kM,Tryz.kN,Tryz.kO,Tryz.kP,Tryz.kQ,Tryz.kT,Tryz.kU,Tryz.kW,Tryz.kX,Tryz.kY,Tryz.kZ,Tryz.ka,Tryz.kb,Tryz.ke,Tryz.kg,Tryz.ki,Tryz.kj,Tryz.kk,Tryz.kn,Tryz.ko,Tryz.ku,Tryz.kx,Tryz.ky,Tryz.kz,Tryz.k6,Tryz.k7,Tryz.k8,Tryz.k9,Tryz.lA,Tryz.lB,Tryz.fq,Tryz.fw,Tryz.fx,Tryz.fy,Tryz.gA,Tryz.gB,Tryz.gC,Tryz.gD,Tryz.gE,Tryz.gF,Tryz.gG,Tryz.gH,Tryz.gI,Tryz.gJ,Tryz.gK,Tryz.gL,Tryz.gM,Tryz.gN,Tryz.gO,Tryz.gP,Tryz.gQ,Tryz.gR,Tryz.gS,Tryz.gT,Tryz.gU,Tryz.gV,Tryz.gW,Tryz.gX,Tryz.gY,Tryz.gZ,Tryz.ga,Tryz.gd,Tryz.gg,trivial⟩
end Go.Proofs
