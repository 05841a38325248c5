/- Functions that call one another: models by fuel, contracts at whatever fuel. -/
import Derived.Test.YtmgkedikciddlaaGreatDoorMf
import Derived.Test.YtmgkedikciddlaaGreatDoorProg
import Derived.Test.YtmgkedikciddlaaGreatDoorMc
namespace Go.En
open Go.RowKit
def FU:Nat:=1000000000
section
variable {S:At} {P:Program}
theorem TB {c c':B2 S} (h:c'.Holds P) (e:c=c'):c.Holds P:=e▸h
theorem Af {l m:List (B2 S)} (h: ∀ c∈l,c.Holds P) (k: ∀ c∈m,c.Holds P): ∀ c∈l++m,c.Holds P:=fun c hc=>(List.mem_append.1 hc).elim (h c) (k c)
theorem AP {f:Nat} {tb:List (Nat×TI)} {p:Ak} (htb:AY S P tb) (h:AH S P f p=true):B2.Holds (S:=S) P ⟨f,p.bn,p.sp,p.rs,p.flat,.opt fun _=>none⟩:=by
 obtain ⟨h1,h2,h3,_⟩:=FE (P:=P) (S:=S) (f:=f) (p:=p) 0 htb CS h
 exact ⟨h1,h2,h3,fun x y hxy=>by cases hxy⟩
end
def Le {α:Type} (a b:Option α):Prop:= ∀ y,a=some y->b=some y
section
variable {α β:Type}
theorem le_refl {a:Option α}:Le a a:=fun _ h=>h
end
end Go.En
namespace Go.Proofs
open Go Go.En
section
variable {S:At} {P:Program} {T:Nat} {t:TI}
theorem TC (β:Nat->Nm): ∀ l:List Value,AB β (l.map SV.v)=l
 | []=>by simp [AB]
 | x::r=>by simp [AB,SV.den,TC β r]
theorem dR (N:Nat->Prop) (l:List Value):BW N (l.map SV.v):=A8.2 fun x hx=>by obtain ⟨v,_,rfl⟩:=List.mem_map.1 hx;trivial
theorem EN (h:((P.info? T).map (fun i=>(i.zero,i.size,i.bytes)),t.zc,t.zc.length)=(some (some t.z,t.sz,t.bs),t.z.cells.toList.map SV.v,t.sz)) (hd:t.d.ok P T) (h2:(t.eq,t.τ,t.δ)=(none,none,none)):TI.ok S P T t:=by
 simp only [Prod.mk.injEq] at h h2
 exact ⟨h.1,fun β=>by rw [h.2.1,TC],fun N=>by rw [h.2.1];exact dR N _,h.2.2,hd,fun ks g=>(by rw [h2.1] at g;cases g),fun τ g=>(by rw [h2.2.1] at g;cases g),fun τ g=>(by rw [h2.2.2] at g;cases g)⟩
theorem WW {τ0:Nat} (h:((P.info? T).map (fun i=>(i.zero,i.size,i.bytes)),t.zc,t.zc.length)=(some (some t.z,t.sz,t.bs),t.z.cells.toList.map SV.v,t.sz)) (hd:t.d.ok P T) (h2:(t.eq,t.τ,t.δ)=(none,some τ0,none)) (h3:S.sz τ0=t.sz/\0<t.sz/\S.enc τ0 (S.A9 τ0)=(S.fds τ0).map Fd.PH/\t.z.cells.toList=(S.fds τ0).map Fd.zeroV):TI.ok S P T t:=by
 simp only [Prod.mk.injEq] at h h2
 exact ⟨h.1,fun β=>by rw [h.2.1,TC],fun N=>by rw [h.2.1];exact dR N _,h.2.2,hd,fun ks g=>(by rw [h2.1] at g;cases g),fun τ g=>(by rw [h2.2.1] at g;cases g;exact h3),fun τ g=>(by rw [h2.2.2] at g;cases g)⟩
end
def Tryz.tb:List (Nat×TI):=[
 (1,⟨1,8,.nilFunc,[.v (.nilFunc)],.other,none,none,none⟩),
 (2,⟨1,8,.int .i64 0,[.v (.int .i64 0)],.int .i64,none,none,none⟩),
 (3,⟨1,8,.int .i64 0,[.v (.int .i64 0)],.int .i64,some 0,none,none⟩),
 (4,⟨1,1,.bool false,[.v (.bool false)],.bool,some 2,none,none⟩),
 (5,⟨1,1,.int .u8 0,[.v (.int .u8 0)],.int .u8,some 3,none,none⟩),
 (6,⟨1,1,.int .u8 0,[.v (.int .u8 0)],.int .u8,none,none,none⟩),
 (7,⟨4,24,.agg #[.int .i64 0,.int .i64 0,.bool false,.int .u8 0],[.v (.int .i64 0),.v (.int .i64 0),.v (.bool false),.v (.int .u8 0)],.struct [(0,2,1),(1,3,1),(2,4,1),(3,6,1)],none,none,none⟩),
 (8,⟨4,24,.agg #[.int .i64 0,.int .i64 0,.bool false,.int .u8 0],[.v (.int .i64 0),.v (.int .i64 0),.v (.bool false),.v (.int .u8 0)],.struct [(0,2,1),(1,3,1),(2,4,1),(3,6,1)],none,none,none⟩),
 (9,⟨1,16,.string ⟨#[]⟩,[.v (.string ⟨#[]⟩)],.str,some 1,none,none⟩),
 (10,⟨1,16,.string ⟨#[]⟩,[.v (.string ⟨#[]⟩)],.str,none,none,none⟩),
 (11,⟨1,16,.string ⟨#[]⟩,[.v (.string ⟨#[]⟩)],.str,none,none,none⟩),
 (12,⟨1,8,.int .u64 0,[.v (.int .u64 0)],.int .u64,none,none,none⟩),
 (13,⟨2,24,.agg #[.string ⟨#[]⟩,.int .u64 0],[.v (.string ⟨#[]⟩),.v (.int .u64 0)],.struct [(0,9,1),(1,12,1)],none,none,none⟩),
 (14,⟨2,24,.agg #[.string ⟨#[]⟩,.int .u64 0],[.v (.string ⟨#[]⟩),.v (.int .u64 0)],.struct [(0,9,1),(1,12,1)],none,none,none⟩),
 (15,⟨1,8,.pointer none,[.v (.pointer none)],.ptr 270,none,none,none⟩),
 (16,⟨1,8,.pointer none,[.v (.pointer none)],.ptr 273,none,none,none⟩),
 (17,⟨1,8,.pointer none,[.v (.pointer none)],.ptr 280,none,none,none⟩),
 (21,⟨1,4,.int .i32 0,[.v (.int .i32 0)],.int .i32,none,none,none⟩),
 (23,⟨1,24,.slice none 0 0,[.v (.slice none 0 0)],.slice 9 1,none,none,none⟩),
 (24,⟨1,24,.slice none 0 0,[.v (.slice none 0 0)],.slice 5 1,none,none,none⟩),
 (26,⟨3,40,.agg #[.int .i64 0,.int .i64 0,.slice none 0 0],[.v (.int .i64 0),.v (.int .i64 0),.v (.slice none 0 0)],.struct [(0,3,1),(1,3,1),(2,24,1)],some 19,none,none⟩),
 (27,⟨1,8,.int .i64 0,[.v (.int .i64 0)],.int .i64,none,none,none⟩),
 (33,⟨1,24,.slice none 0 0,[.v (.slice none 0 0)],.slice 77 5,none,none,none⟩),
 (34,⟨1,24,.slice none 0 0,[.v (.slice none 0 0)],.slice 55 4,none,none,none⟩),
 (35,⟨1,24,.slice none 0 0,[.v (.slice none 0 0)],.slice 83 9,none,none,none⟩),
 (37,⟨4,80,.agg #[.slice none 0 0,.slice none 0 0,.int .i64 0,.slice none 0 0],[.v (.slice none 0 0),.v (.slice none 0 0),.v (.int .i64 0),.v (.slice none 0 0)],.struct [(0,33,1),(1,34,1),(2,3,1),(3,35,1)],some 13,none,none⟩),
 (43,⟨1,24,.slice none 0 0,[.v (.slice none 0 0)],.slice 113 4,none,none,none⟩),
 (45,⟨3,56,.agg #[.slice none 0 0,.slice none 0 0,.int .i64 0],[.v (.slice none 0 0),.v (.slice none 0 0),.v (.int .i64 0)],.struct [(0,35,1),(1,43,1),(2,3,1)],some 7,none,none⟩),
 (49,⟨1,8,.pointer none,[.v (.pointer none)],.ptr 53,none,none,none⟩),
 (50,⟨1,24,.slice none 0 0,[.v (.slice none 0 0)],.slice 3 1,none,none,none⟩),
 (51,⟨1,8,.map none,[.v (.map none)],.map 3 75,none,none,none⟩),
 (53,⟨13,200,.agg #[.slice none 0 0,.slice none 0 0,.int .i64 0,.slice none 0 0,.slice none 0 0,.int .i64 0,.slice none 0 0,.slice none 0 0,.int .i64 0,.int .i64 0,.int .i64 0,.int .i64 0,.map none],[.v (.slice none 0 0),.v (.slice none 0 0),.v (.int .i64 0),.v (.slice none 0 0),.v (.slice none 0 0),.v (.int .i64 0),.v (.slice none 0 0),.v (.slice none 0 0),.v (.int .i64 0),.v (.int .i64 0),.v (.int .i64 0),.v (.int .i64 0),.v (.map none)],.struct [(0,37,4),(4,50,1),(5,3,1),(6,24,1),(7,24,1),(8,3,1),(9,3,1),(10,3,1),(11,3,1),(12,51,1)],none,none,none⟩),
 (55,⟨4,40,.agg #[.string ⟨#[]⟩,.int .i64 0,.int .i64 0,.int .i64 0],[.v (.string ⟨#[]⟩),.v (.int .i64 0),.v (.int .i64 0),.v (.int .i64 0)],.struct [(0,9,1),(1,3,1),(2,3,1),(3,3,1)],some 12,some [.str,.int .i64,.int .i64,.int .i64],none⟩),
 (65,⟨1,24,.slice none 0 0,[.v (.slice none 0 0)],.slice 106 4,none,none,none⟩),
 (69,⟨1,8,.pointer none,[.v (.pointer none)],.ptr 80,none,none,none⟩),
 (70,⟨1,8,.pointer none,[.v (.pointer none)],.ptr 119,none,none,none⟩),
 (72,⟨1,8,.map none,[.v (.map none)],.map 9 129,none,none,none⟩),
 (73,⟨1,24,.slice none 0 0,[.v (.slice none 0 0)],.slice 72 1,none,none,none⟩),
 (74,⟨1,8,.map none,[.v (.map none)],.map 9 87,none,none,none⟩),
 (75,⟨1,8,.map none,[.v (.map none)],.map 9 3,none,none,none⟩),
 (77,⟨5,48,.agg #[.string ⟨#[]⟩,.int .i64 0,.int .i64 0,.int .i64 0,.int .i64 0],[.v (.string ⟨#[]⟩),.v (.int .i64 0),.v (.int .i64 0),.v (.int .i64 0),.v (.int .i64 0)],.struct [(0,9,1),(1,3,1),(2,3,1),(3,3,1),(4,3,1)],some 11,some [.str,.int .i64,.int .i64,.int .i64,.int .i64],none⟩),
 (78,⟨1,24,.slice none 0 0,[.v (.slice none 0 0)],.slice 167 1,none,none,none⟩),
 (80,⟨25,336,.agg #[.slice none 0 0,.slice none 0 0,.int .i64 0,.pointer none,.slice none 0 0,.slice none 0 0,.slice none 0 0,.int .i64 0,.slice none 0 0,.slice none 0 0,.map none,.map none,.string ⟨#[]⟩,.int .i64 0,.int .i64 0,.int .i64 0,.int .i64 0,.int .i64 0,.map none,.map none,.int .i64 0,.slice none 0 0,.int .i64 0,.int .i64 0,.int .i64 0],[.v (.slice none 0 0),.v (.slice none 0 0),.v (.int .i64 0),.v (.pointer none),.v (.slice none 0 0),.v (.slice none 0 0),.v (.slice none 0 0),.v (.int .i64 0),.v (.slice none 0 0),.v (.slice none 0 0),.v (.map none),.v (.map none),.v (.string ⟨#[]⟩),.v (.int .i64 0),.v (.int .i64 0),.v (.int .i64 0),.v (.int .i64 0),.v (.int .i64 0),.v (.map none),.v (.map none),.v (.int .i64 0),.v (.slice none 0 0),.v (.int .i64 0),.v (.int .i64 0),.v (.int .i64 0)],.struct [(0,45,3),(3,70,1),(4,50,1),(5,37,4),(9,73,1),(10,74,1),(11,75,1),(12,77,5),(17,3,1),(18,75,1),(19,75,1),(20,3,1),(21,78,1),(22,3,1),(23,27,1),(24,3,1)],none,none,none⟩),
 (83,⟨9,80,.agg #[.int .i64 0,.int .i64 0,.int .i64 0,.int .i64 0,.int .i64 0,.string ⟨#[]⟩,.int .i64 0,.int .i64 0,.int .i64 0],[.v (.int .i64 0),.v (.int .i64 0),.v (.int .i64 0),.v (.int .i64 0),.v (.int .i64 0),.v (.string ⟨#[]⟩),.v (.int .i64 0),.v (.int .i64 0),.v (.int .i64 0)],.struct [(0,3,1),(1,3,1),(2,3,1),(3,3,1),(4,3,1),(5,9,1),(6,3,1),(7,3,1),(8,3,1)],some 5,some [.int .i64,.int .i64,.int .i64,.int .i64,.int .i64,.str,.int .i64,.int .i64,.int .i64],none⟩),
 (87,⟨2,32,.agg #[.slice none 0 0,.int .i64 0],[.v (.slice none 0 0),.v (.int .i64 0)],.struct [(0,50,1),(1,3,1)],some 15,none,none⟩),
 (89,⟨1,8,.pointer none,[.v (.pointer none)],.ptr 91,none,none,none⟩),
 (91,⟨11,120,.agg #[.string ⟨#[]⟩,.int .i64 0,.int .i64 0,.int .i64 0,.int .i64 0,.slice none 0 0,.int .i64 0,.int .i64 0,.string ⟨#[]⟩,.int .i64 0,.int .i64 0],[.v (.string ⟨#[]⟩),.v (.int .i64 0),.v (.int .i64 0),.v (.int .i64 0),.v (.int .i64 0),.v (.slice none 0 0),.v (.int .i64 0),.v (.int .i64 0),.v (.string ⟨#[]⟩),.v (.int .i64 0),.v (.int .i64 0)],.struct [(0,77,5),(5,50,1),(6,3,1),(7,3,1),(8,9,1),(9,3,1),(10,3,1)],none,none,none⟩),
 (94,⟨1,8,.nilFunc,[.v (.nilFunc)],.other,none,none,none⟩),
 (95,⟨1,8,.nilFunc,[.v (.nilFunc)],.other,none,none,none⟩),
 (98,⟨1,4,.int .u32 0,[.v (.int .u32 0)],.int .u32,none,none,none⟩),
 (100,⟨1,8,.nilFunc,[.v (.nilFunc)],.other,none,none,none⟩),
 (106,⟨4,40,.agg #[.int .i64 0,.string ⟨#[]⟩,.int .i64 0,.int .i64 0],[.v (.int .i64 0),.v (.string ⟨#[]⟩),.v (.int .i64 0),.v (.int .i64 0)],.struct [(0,3,1),(1,9,1),(2,3,1),(3,3,1)],some 4,some [.int .i64,.str,.int .i64,.int .i64],none⟩),
 (109,⟨1,8,.pointer none,[.v (.pointer none)],.ptr 111,none,none,none⟩),
 (111,⟨8,112,.agg #[.slice none 0 0,.int .i64 0,.slice none 0 0,.slice none 0 0,.int .i64 0,.int .i64 0,.int .i64 0,.int .i64 0],[.v (.slice none 0 0),.v (.int .i64 0),.v (.slice none 0 0),.v (.slice none 0 0),.v (.int .i64 0),.v (.int .i64 0),.v (.int .i64 0),.v (.int .i64 0)],.struct [(0,65,1),(1,3,1),(2,45,3),(5,3,1),(6,27,1),(7,3,1)],none,none,none⟩),
 (113,⟨4,40,.agg #[.int .i64 0,.int .i64 0,.int .i64 0,.string ⟨#[]⟩],[.v (.int .i64 0),.v (.int .i64 0),.v (.int .i64 0),.v (.string ⟨#[]⟩)],.struct [(0,3,1),(1,3,1),(2,3,1),(3,9,1)],some 6,some [.int .i64,.int .i64,.int .i64,.str],none⟩),
 (115,⟨1,8,.nilFunc,[.v (.nilFunc)],.other,none,none,none⟩),
 (117,⟨1,8,.map none,[.v (.map none)],.map 9 120,none,none,none⟩),
 (119,⟨2,32,.agg #[.slice none 0 0,.map none],[.v (.slice none 0 0),.v (.map none)],.struct [(0,43,1),(1,117,1)],none,none,none⟩),
 (120,⟨1,24,.slice none 0 0,[.v (.slice none 0 0)],.slice 122 2,some 17,none,none⟩),
 (122,⟨2,24,.agg #[.string ⟨#[]⟩,.int .i64 0],[.v (.string ⟨#[]⟩),.v (.int .i64 0)],.struct [(0,9,1),(1,3,1)],some 16,some [.str,.int .i64],none⟩),
 (125,⟨5,40,.agg #[.int .i64 0,.int .i64 0,.int .i64 0,.int .i64 0,.bool false],[.v (.int .i64 0),.v (.int .i64 0),.v (.int .i64 0),.v (.int .i64 0),.v (.bool false)],.struct [(0,3,1),(1,3,1),(2,3,1),(3,3,1),(4,4,1)],some 10,some [.int .i64,.int .i64,.int .i64,.int .i64,.bool],none⟩),
 (127,⟨1,8,.nilFunc,[.v (.nilFunc)],.other,none,none,none⟩),
 (129,⟨3,24,.agg #[.int .i64 0,.int .i64 0,.int .i64 0],[.v (.int .i64 0),.v (.int .i64 0),.v (.int .i64 0)],.struct [(0,3,1),(1,3,1),(2,3,1)],some 9,some [.int .i64,.int .i64,.int .i64],none⟩),
 (142,⟨1,8,.nilFunc,[.v (.nilFunc)],.other,none,none,none⟩),
 (153,⟨1,8,.nilFunc,[.v (.nilFunc)],.other,none,none,none⟩),
 (154,⟨1,8,.nilFunc,[.v (.nilFunc)],.other,none,none,none⟩),
 (164,⟨4,32,.agg #[.int .i64 0,.int .i64 0,.int .i64 0,.int .i64 0],[.v (.int .i64 0),.v (.int .i64 0),.v (.int .i64 0),.v (.int .i64 0)],.array 4 3 1,some 8,none,none⟩),
 (167,⟨1,8,.map none,[.v (.map none)],.map 3 3,none,none,none⟩),
 (173,⟨1,8,.map none,[.v (.map none)],.map 5 3,none,none,none⟩),
 (177,⟨1,8,.nilFunc,[.v (.nilFunc)],.other,none,none,none⟩),
 (201,⟨1,8,.nilFunc,[.v (.nilFunc)],.other,none,none,none⟩),
 (206,⟨1,8,.int .i64 0,[.v (.int .i64 0)],.int .i64,some 18,none,none⟩),
 (207,⟨1,8,.pointer none,[.v (.pointer none)],.ptr 3,none,none,none⟩),
 (221,⟨1,8,.nilFunc,[.v (.nilFunc)],.other,none,none,none⟩),
 (222,⟨1,8,.nilFunc,[.v (.nilFunc)],.other,none,none,none⟩),
 (224,⟨2,16,.agg #[.int .i64 0,.int .i64 0],[.v (.int .i64 0),.v (.int .i64 0)],.array 2 206 1,some 14,none,none⟩),
 (225,⟨1,8,.map none,[.v (.map none)],.map 9 224,none,none,none⟩),
 (245,⟨1,8,.nilFunc,[.v (.nilFunc)],.other,none,none,none⟩),
 (270,⟨4,40,.agg #[.pointer none,.pointer none,.pointer none,.string ⟨#[]⟩],[.v (.pointer none),.v (.pointer none),.v (.pointer none),.v (.string ⟨#[]⟩)],.struct [(0,17,1),(1,17,1),(2,17,1),(3,9,1)],none,none,none⟩)]
def Tryz.tr (k:Nat):TI:=match lk Tryz.tb k with
 | some x=>x
 | none=>⟨0,0,.nilFunc,[],.other,none,none,none⟩
theorem Tryz.nM:TI.ok En.Dop.D4 Tryz.prog 1 (Tryz.tr 1):=EN (by kernel_rfl) ⟨_,Tryz.underlying1,rfl⟩ (by kernel_rfl)
theorem Tryz.nN:TI.ok En.Dop.D4 Tryz.prog 2 (Tryz.tr 2):=EN (by kernel_rfl) Tryz.underlying2 (by kernel_rfl)
theorem Tryz.nO:TI.ok En.Dop.D4 Tryz.prog 3 (Tryz.tr 3):=WW (τ0:=0) (by kernel_rfl) Tryz.underlying3 (by kernel_rfl) ⟨rfl,by decide,rfl,rfl⟩
theorem Tryz.nP:TI.ok En.Dop.D4 Tryz.prog 4 (Tryz.tr 4):=WW (τ0:=2) (by kernel_rfl) Tryz.underlying4 (by kernel_rfl) ⟨rfl,by decide,rfl,rfl⟩
theorem Tryz.nQ:TI.ok En.Dop.D4 Tryz.prog 5 (Tryz.tr 5):=WW (τ0:=3) (by kernel_rfl) Tryz.underlying5 (by kernel_rfl) ⟨rfl,by decide,rfl,rfl⟩
theorem Tryz.nR:TI.ok En.Dop.D4 Tryz.prog 6 (Tryz.tr 6):=EN (by kernel_rfl) Tryz.underlying6 (by kernel_rfl)
theorem Tryz.nS:TI.ok En.Dop.D4 Tryz.prog 7 (Tryz.tr 7):=EN (by kernel_rfl) ⟨_,Tryz.underlying7,rfl,rfl,by kernel_rfl,by decide,rfl,rfl,by kernel_rfl,by decide,rfl,rfl,by kernel_rfl,by decide,rfl,rfl,by kernel_rfl,by decide,trivial⟩ (by kernel_rfl)
theorem Tryz.nT:TI.ok En.Dop.D4 Tryz.prog 8 (Tryz.tr 8):=EN (by kernel_rfl) ⟨_,Tryz.underlying8,rfl,rfl,by kernel_rfl,by decide,rfl,rfl,by kernel_rfl,by decide,rfl,rfl,by kernel_rfl,by decide,rfl,rfl,by kernel_rfl,by decide,trivial⟩ (by kernel_rfl)
theorem Tryz.nU:TI.ok En.Dop.D4 Tryz.prog 9 (Tryz.tr 9):=WW (τ0:=1) (by kernel_rfl) Tryz.underlying9 (by kernel_rfl) ⟨rfl,by decide,rfl,rfl⟩
theorem Tryz.kY:TI.ok En.Dop.D4 Tryz.prog 10 (Tryz.tr 10):=EN (by kernel_rfl) Tryz.underlying10 (by kernel_rfl)
theorem Tryz.kZ:TI.ok En.Dop.D4 Tryz.prog 11 (Tryz.tr 11):=EN (by kernel_rfl) Tryz.underlying11 (by kernel_rfl)
theorem Tryz.ka:TI.ok En.Dop.D4 Tryz.prog 12 (Tryz.tr 12):=EN (by kernel_rfl) Tryz.underlying12 (by kernel_rfl)
theorem Tryz.kb:TI.ok En.Dop.D4 Tryz.prog 13 (Tryz.tr 13):=EN (by kernel_rfl) ⟨_,Tryz.underlying13,rfl,rfl,by kernel_rfl,by decide,rfl,rfl,by kernel_rfl,by decide,trivial⟩ (by kernel_rfl)
theorem Tryz.ke:TI.ok En.Dop.D4 Tryz.prog 14 (Tryz.tr 14):=EN (by kernel_rfl) ⟨_,Tryz.underlying14,rfl,rfl,by kernel_rfl,by decide,rfl,rfl,by kernel_rfl,by decide,trivial⟩ (by kernel_rfl)
theorem Tryz.kg:TI.ok En.Dop.D4 Tryz.prog 15 (Tryz.tr 15):=EN (by kernel_rfl) Tryz.underlying15 (by kernel_rfl)
theorem Tryz.ki:TI.ok En.Dop.D4 Tryz.prog 16 (Tryz.tr 16):=EN (by kernel_rfl) Tryz.underlying16 (by kernel_rfl)
theorem Tryz.kj:TI.ok En.Dop.D4 Tryz.prog 17 (Tryz.tr 17):=EN (by kernel_rfl) Tryz.underlying17 (by kernel_rfl)
theorem Tryz.kk:TI.ok En.Dop.D4 Tryz.prog 21 (Tryz.tr 21):=EN (by kernel_rfl) Tryz.underlying21 (by kernel_rfl)
theorem Tryz.kn:TI.ok En.Dop.D4 Tryz.prog 23 (Tryz.tr 23):=EN (by kernel_rfl) ⟨Tryz.underlying23,by kernel_rfl⟩ (by kernel_rfl)
theorem Tryz.ko:TI.ok En.Dop.D4 Tryz.prog 24 (Tryz.tr 24):=EN (by kernel_rfl) ⟨Tryz.underlying24,by kernel_rfl⟩ (by kernel_rfl)
theorem Tryz.ku:TI.ok En.Dop.D4 Tryz.prog 26 (Tryz.tr 26):=WW (τ0:=19) (by kernel_rfl) ⟨_,Tryz.underlying26,rfl,rfl,by kernel_rfl,by decide,rfl,rfl,by kernel_rfl,by decide,rfl,rfl,by kernel_rfl,by decide,trivial⟩ (by kernel_rfl) ⟨rfl,by decide,rfl,rfl⟩
theorem Tryz.kx:TI.ok En.Dop.D4 Tryz.prog 27 (Tryz.tr 27):=EN (by kernel_rfl) Tryz.underlying27 (by kernel_rfl)
theorem Tryz.ky:TI.ok En.Dop.D4 Tryz.prog 33 (Tryz.tr 33):=EN (by kernel_rfl) ⟨Tryz.underlying33,by kernel_rfl⟩ (by kernel_rfl)
theorem Tryz.kz:TI.ok En.Dop.D4 Tryz.prog 34 (Tryz.tr 34):=EN (by kernel_rfl) ⟨Tryz.underlying34,by kernel_rfl⟩ (by kernel_rfl)
theorem Tryz.k6:TI.ok En.Dop.D4 Tryz.prog 35 (Tryz.tr 35):=EN (by kernel_rfl) ⟨Tryz.underlying35,by kernel_rfl⟩ (by kernel_rfl)
theorem Tryz.k7:TI.ok En.Dop.D4 Tryz.prog 37 (Tryz.tr 37):=WW (τ0:=13) (by kernel_rfl) ⟨_,Tryz.underlying37,rfl,rfl,by kernel_rfl,by decide,rfl,rfl,by kernel_rfl,by decide,rfl,rfl,by kernel_rfl,by decide,rfl,rfl,by kernel_rfl,by decide,trivial⟩ (by kernel_rfl) ⟨rfl,by decide,rfl,rfl⟩
theorem Tryz.k8:TI.ok En.Dop.D4 Tryz.prog 43 (Tryz.tr 43):=EN (by kernel_rfl) ⟨Tryz.underlying43,by kernel_rfl⟩ (by kernel_rfl)
theorem Tryz.k9:TI.ok En.Dop.D4 Tryz.prog 45 (Tryz.tr 45):=WW (τ0:=7) (by kernel_rfl) ⟨_,Tryz.underlying45,rfl,rfl,by kernel_rfl,by decide,rfl,rfl,by kernel_rfl,by decide,rfl,rfl,by kernel_rfl,by decide,trivial⟩ (by kernel_rfl) ⟨rfl,by decide,rfl,rfl⟩
theorem Tryz.lA:TI.ok En.Dop.D4 Tryz.prog 49 (Tryz.tr 49):=EN (by kernel_rfl) Tryz.underlying49 (by kernel_rfl)
theorem Tryz.lB:TI.ok En.Dop.D4 Tryz.prog 50 (Tryz.tr 50):=EN (by kernel_rfl) ⟨Tryz.underlying50,by kernel_rfl⟩ (by kernel_rfl)
theorem Tryz.lC:TI.ok En.Dop.D4 Tryz.prog 51 (Tryz.tr 51):=EN (by kernel_rfl) Tryz.underlying51 (by kernel_rfl)
theorem Tryz.lD:TI.ok En.Dop.D4 Tryz.prog 53 (Tryz.tr 53):=EN (by kernel_rfl) ⟨_,Tryz.underlying53,rfl,rfl,by kernel_rfl,by decide,rfl,rfl,by kernel_rfl,by decide,rfl,rfl,by kernel_rfl,by decide,rfl,rfl,by kernel_rfl,by decide,rfl,rfl,by kernel_rfl,by decide,rfl,rfl,by kernel_rfl,by decide,rfl,rfl,by kernel_rfl,by decide,rfl,rfl,by kernel_rfl,by decide,rfl,rfl,by kernel_rfl,by decide,rfl,rfl,by kernel_rfl,by decide,trivial⟩ (by kernel_rfl)
theorem Tryz.lE:TI.ok En.Dop.D4 Tryz.prog 55 ⟨4,40,.agg #[.string ⟨#[]⟩,.int .i64 0,.int .i64 0,.int .i64 0],[.v (.string ⟨#[]⟩),.v (.int .i64 0),.v (.int .i64 0),.v (.int .i64 0)],.struct [(0,9,1),(1,3,1),(2,3,1),(3,3,1)],some 12,some [.str,.int .i64,.int .i64,.int .i64],none⟩:=⟨by kernel_rfl,fun β=>by simp [AB,SV.den,Value.cells],fun N=>by simp [BW,SV.on],rfl,⟨_,Tryz.underlying55,rfl,rfl,by kernel_rfl,by decide,rfl,rfl,by kernel_rfl,by decide,rfl,rfl,by kernel_rfl,by decide,rfl,rfl,by kernel_rfl,by decide,trivial⟩,(fun ks h=>by cases h;exact ⟨CR (d:=9999) (ks:=[.str,.int .i64,.int .i64,.int .i64]) Tryz.underlying55 (by kernel_rfl) (.cons (ks:=[.str]) (ls:=[.int .i64,.int .i64,.int .i64]) (by decide) rfl (by kernel_rfl) (AV Tryz.underlying9) (fun h=>by first|rfl|cases h) (FP Tryz.underlying9) (.cons (ks:=[.int .i64]) (ls:=[.int .i64,.int .i64]) (by decide) rfl (by kernel_rfl) (AV Tryz.underlying3) (fun h=>by first|rfl|cases h) (AW Tryz.underlying3) (.cons (ks:=[.int .i64]) (ls:=[.int .i64]) (by decide) rfl (by kernel_rfl) (AV Tryz.underlying3) (fun h=>by first|rfl|cases h) (AW Tryz.underlying3) (.cons (ks:=[.int .i64]) (ls:=[]) (by decide) rfl (by kernel_rfl) (AV Tryz.underlying3) (fun h=>by first|rfl|cases h) (AW Tryz.underlying3) .nil)))),by kernel_rfl⟩),(fun τ h=>by cases h;exact ⟨rfl,by decide,rfl,rfl⟩),(fun τ h=>by cases h)⟩
theorem Tryz.lF:TI.ok En.Dop.D4 Tryz.prog 65 (Tryz.tr 65):=EN (by kernel_rfl) ⟨Tryz.underlying65,by kernel_rfl⟩ (by kernel_rfl)
theorem Tryz.lG:TI.ok En.Dop.D4 Tryz.prog 69 (Tryz.tr 69):=EN (by kernel_rfl) Tryz.underlying69 (by kernel_rfl)
theorem Tryz.lH:TI.ok En.Dop.D4 Tryz.prog 70 (Tryz.tr 70):=EN (by kernel_rfl) Tryz.underlying70 (by kernel_rfl)
theorem Tryz.lI:TI.ok En.Dop.D4 Tryz.prog 72 (Tryz.tr 72):=EN (by kernel_rfl) Tryz.underlying72 (by kernel_rfl)
theorem Tryz.lJ:TI.ok En.Dop.D4 Tryz.prog 73 (Tryz.tr 73):=EN (by kernel_rfl) ⟨Tryz.underlying73,by kernel_rfl⟩ (by kernel_rfl)
theorem Tryz.lK:TI.ok En.Dop.D4 Tryz.prog 74 (Tryz.tr 74):=EN (by kernel_rfl) Tryz.underlying74 (by kernel_rfl)
theorem Tryz.lL:TI.ok En.Dop.D4 Tryz.prog 75 (Tryz.tr 75):=EN (by kernel_rfl) Tryz.underlying75 (by kernel_rfl)
theorem Tryz.lM:TI.ok En.Dop.D4 Tryz.prog 77 ⟨5,48,.agg #[.string ⟨#[]⟩,.int .i64 0,.int .i64 0,.int .i64 0,.int .i64 0],[.v (.string ⟨#[]⟩),.v (.int .i64 0),.v (.int .i64 0),.v (.int .i64 0),.v (.int .i64 0)],.struct [(0,9,1),(1,3,1),(2,3,1),(3,3,1),(4,3,1)],some 11,some [.str,.int .i64,.int .i64,.int .i64,.int .i64],none⟩:=⟨by kernel_rfl,fun β=>by simp [AB,SV.den,Value.cells],fun N=>by simp [BW,SV.on],rfl,⟨_,Tryz.underlying77,rfl,rfl,by kernel_rfl,by decide,rfl,rfl,by kernel_rfl,by decide,rfl,rfl,by kernel_rfl,by decide,rfl,rfl,by kernel_rfl,by decide,rfl,rfl,by kernel_rfl,by decide,trivial⟩,(fun ks h=>by cases h;exact ⟨CR (d:=9999) (ks:=[.str,.int .i64,.int .i64,.int .i64,.int .i64]) Tryz.underlying77 (by kernel_rfl) (.cons (ks:=[.str]) (ls:=[.int .i64,.int .i64,.int .i64,.int .i64]) (by decide) rfl (by kernel_rfl) (AV Tryz.underlying9) (fun h=>by first|rfl|cases h) (FP Tryz.underlying9) (.cons (ks:=[.int .i64]) (ls:=[.int .i64,.int .i64,.int .i64]) (by decide) rfl (by kernel_rfl) (AV Tryz.underlying3) (fun h=>by first|rfl|cases h) (AW Tryz.underlying3) (.cons (ks:=[.int .i64]) (ls:=[.int .i64,.int .i64]) (by decide) rfl (by kernel_rfl) (AV Tryz.underlying3) (fun h=>by first|rfl|cases h) (AW Tryz.underlying3) (.cons (ks:=[.int .i64]) (ls:=[.int .i64]) (by decide) rfl (by kernel_rfl) (AV Tryz.underlying3) (fun h=>by first|rfl|cases h) (AW Tryz.underlying3) (.cons (ks:=[.int .i64]) (ls:=[]) (by decide) rfl (by kernel_rfl) (AV Tryz.underlying3) (fun h=>by first|rfl|cases h) (AW Tryz.underlying3) .nil))))),by kernel_rfl⟩),(fun τ h=>by cases h;exact ⟨rfl,by decide,rfl,rfl⟩),(fun τ h=>by cases h)⟩
theorem Tryz.lN:TI.ok En.Dop.D4 Tryz.prog 78 (Tryz.tr 78):=EN (by kernel_rfl) ⟨Tryz.underlying78,by kernel_rfl⟩ (by kernel_rfl)
theorem Tryz.lO:TI.ok En.Dop.D4 Tryz.prog 80 (Tryz.tr 80):=EN (by kernel_rfl) ⟨_,Tryz.underlying80,rfl,rfl,by kernel_rfl,by decide,rfl,rfl,by kernel_rfl,by decide,rfl,rfl,by kernel_rfl,by decide,rfl,rfl,by kernel_rfl,by decide,rfl,rfl,by kernel_rfl,by decide,rfl,rfl,by kernel_rfl,by decide,rfl,rfl,by kernel_rfl,by decide,rfl,rfl,by kernel_rfl,by decide,rfl,rfl,by kernel_rfl,by decide,rfl,rfl,by kernel_rfl,by decide,rfl,rfl,by kernel_rfl,by decide,rfl,rfl,by kernel_rfl,by decide,rfl,rfl,by kernel_rfl,by decide,rfl,rfl,by kernel_rfl,by decide,rfl,rfl,by kernel_rfl,by decide,rfl,rfl,by kernel_rfl,by decide,trivial⟩ (by kernel_rfl)
theorem Tryz.lP:TI.ok En.Dop.D4 Tryz.prog 83 ⟨9,80,.agg #[.int .i64 0,.int .i64 0,.int .i64 0,.int .i64 0,.int .i64 0,.string ⟨#[]⟩,.int .i64 0,.int .i64 0,.int .i64 0],[.v (.int .i64 0),.v (.int .i64 0),.v (.int .i64 0),.v (.int .i64 0),.v (.int .i64 0),.v (.string ⟨#[]⟩),.v (.int .i64 0),.v (.int .i64 0),.v (.int .i64 0)],.struct [(0,3,1),(1,3,1),(2,3,1),(3,3,1),(4,3,1),(5,9,1),(6,3,1),(7,3,1),(8,3,1)],some 5,some [.int .i64,.int .i64,.int .i64,.int .i64,.int .i64,.str,.int .i64,.int .i64,.int .i64],none⟩:=⟨by kernel_rfl,fun β=>by simp [AB,SV.den,Value.cells],fun N=>by simp [BW,SV.on],rfl,⟨_,Tryz.underlying83,rfl,rfl,by kernel_rfl,by decide,rfl,rfl,by kernel_rfl,by decide,rfl,rfl,by kernel_rfl,by decide,rfl,rfl,by kernel_rfl,by decide,rfl,rfl,by kernel_rfl,by decide,rfl,rfl,by kernel_rfl,by decide,rfl,rfl,by kernel_rfl,by decide,rfl,rfl,by kernel_rfl,by decide,rfl,rfl,by kernel_rfl,by decide,trivial⟩,(fun ks h=>by cases h;exact ⟨CR (d:=9999) (ks:=[.int .i64,.int .i64,.int .i64,.int .i64,.int .i64,.str,.int .i64,.int .i64,.int .i64]) Tryz.underlying83 (by kernel_rfl) (.cons (ks:=[.int .i64]) (ls:=[.int .i64,.int .i64,.int .i64,.int .i64,.str,.int .i64,.int .i64,.int .i64]) (by decide) rfl (by kernel_rfl) (AV Tryz.underlying3) (fun h=>by first|rfl|cases h) (AW Tryz.underlying3) (.cons (ks:=[.int .i64]) (ls:=[.int .i64,.int .i64,.int .i64,.str,.int .i64,.int .i64,.int .i64]) (by decide) rfl (by kernel_rfl) (AV Tryz.underlying3) (fun h=>by first|rfl|cases h) (AW Tryz.underlying3) (.cons (ks:=[.int .i64]) (ls:=[.int .i64,.int .i64,.str,.int .i64,.int .i64,.int .i64]) (by decide) rfl (by kernel_rfl) (AV Tryz.underlying3) (fun h=>by first|rfl|cases h) (AW Tryz.underlying3) (.cons (ks:=[.int .i64]) (ls:=[.int .i64,.str,.int .i64,.int .i64,.int .i64]) (by decide) rfl (by kernel_rfl) (AV Tryz.underlying3) (fun h=>by first|rfl|cases h) (AW Tryz.underlying3) (.cons (ks:=[.int .i64]) (ls:=[.str,.int .i64,.int .i64,.int .i64]) (by decide) rfl (by kernel_rfl) (AV Tryz.underlying3) (fun h=>by first|rfl|cases h) (AW Tryz.underlying3) (.cons (ks:=[.str]) (ls:=[.int .i64,.int .i64,.int .i64]) (by decide) rfl (by kernel_rfl) (AV Tryz.underlying9) (fun h=>by first|rfl|cases h) (FP Tryz.underlying9) (.cons (ks:=[.int .i64]) (ls:=[.int .i64,.int .i64]) (by decide) rfl (by kernel_rfl) (AV Tryz.underlying3) (fun h=>by first|rfl|cases h) (AW Tryz.underlying3) (.cons (ks:=[.int .i64]) (ls:=[.int .i64]) (by decide) rfl (by kernel_rfl) (AV Tryz.underlying3) (fun h=>by first|rfl|cases h) (AW Tryz.underlying3) (.cons (ks:=[.int .i64]) (ls:=[]) (by decide) rfl (by kernel_rfl) (AV Tryz.underlying3) (fun h=>by first|rfl|cases h) (AW Tryz.underlying3) .nil))))))))),by kernel_rfl⟩),(fun τ h=>by cases h;exact ⟨rfl,by decide,rfl,rfl⟩),(fun τ h=>by cases h)⟩
theorem Tryz.lQ:TI.ok En.Dop.D4 Tryz.prog 87 (Tryz.tr 87):=WW (τ0:=15) (by kernel_rfl) ⟨_,Tryz.underlying87,rfl,rfl,by kernel_rfl,by decide,rfl,rfl,by kernel_rfl,by decide,trivial⟩ (by kernel_rfl) ⟨rfl,by decide,rfl,rfl⟩
theorem Tryz.lR:TI.ok En.Dop.D4 Tryz.prog 89 (Tryz.tr 89):=EN (by kernel_rfl) Tryz.underlying89 (by kernel_rfl)
theorem Tryz.lS:TI.ok En.Dop.D4 Tryz.prog 91 (Tryz.tr 91):=EN (by kernel_rfl) ⟨_,Tryz.underlying91,rfl,rfl,by kernel_rfl,by decide,rfl,rfl,by kernel_rfl,by decide,rfl,rfl,by kernel_rfl,by decide,rfl,rfl,by kernel_rfl,by decide,rfl,rfl,by kernel_rfl,by decide,rfl,rfl,by kernel_rfl,by decide,rfl,rfl,by kernel_rfl,by decide,trivial⟩ (by kernel_rfl)
theorem Tryz.lT:TI.ok En.Dop.D4 Tryz.prog 94 (Tryz.tr 94):=EN (by kernel_rfl) ⟨_,Tryz.underlying94,rfl⟩ (by kernel_rfl)
theorem Tryz.lU:TI.ok En.Dop.D4 Tryz.prog 95 (Tryz.tr 95):=EN (by kernel_rfl) ⟨_,Tryz.underlying95,rfl⟩ (by kernel_rfl)
theorem Tryz.lV:TI.ok En.Dop.D4 Tryz.prog 98 (Tryz.tr 98):=EN (by kernel_rfl) Tryz.underlying98 (by kernel_rfl)
theorem Tryz.gP:TI.ok En.Dop.D4 Tryz.prog 100 (Tryz.tr 100):=EN (by kernel_rfl) ⟨_,Tryz.underlying100,rfl⟩ (by kernel_rfl)
theorem Tryz.gQ:TI.ok En.Dop.D4 Tryz.prog 106 ⟨4,40,.agg #[.int .i64 0,.string ⟨#[]⟩,.int .i64 0,.int .i64 0],[.v (.int .i64 0),.v (.string ⟨#[]⟩),.v (.int .i64 0),.v (.int .i64 0)],.struct [(0,3,1),(1,9,1),(2,3,1),(3,3,1)],some 4,some [.int .i64,.str,.int .i64,.int .i64],none⟩:=⟨by kernel_rfl,fun β=>by simp [AB,SV.den,Value.cells],fun N=>by simp [BW,SV.on],rfl,⟨_,Tryz.underlying106,rfl,rfl,by kernel_rfl,by decide,rfl,rfl,by kernel_rfl,by decide,rfl,rfl,by kernel_rfl,by decide,rfl,rfl,by kernel_rfl,by decide,trivial⟩,(fun ks h=>by cases h;exact ⟨CR (d:=9999) (ks:=[.int .i64,.str,.int .i64,.int .i64]) Tryz.underlying106 (by kernel_rfl) (.cons (ks:=[.int .i64]) (ls:=[.str,.int .i64,.int .i64]) (by decide) rfl (by kernel_rfl) (AV Tryz.underlying3) (fun h=>by first|rfl|cases h) (AW Tryz.underlying3) (.cons (ks:=[.str]) (ls:=[.int .i64,.int .i64]) (by decide) rfl (by kernel_rfl) (AV Tryz.underlying9) (fun h=>by first|rfl|cases h) (FP Tryz.underlying9) (.cons (ks:=[.int .i64]) (ls:=[.int .i64]) (by decide) rfl (by kernel_rfl) (AV Tryz.underlying3) (fun h=>by first|rfl|cases h) (AW Tryz.underlying3) (.cons (ks:=[.int .i64]) (ls:=[]) (by decide) rfl (by kernel_rfl) (AV Tryz.underlying3) (fun h=>by first|rfl|cases h) (AW Tryz.underlying3) .nil)))),by kernel_rfl⟩),(fun τ h=>by cases h;exact ⟨rfl,by decide,rfl,rfl⟩),(fun τ h=>by cases h)⟩
theorem Tryz.gR:TI.ok En.Dop.D4 Tryz.prog 109 (Tryz.tr 109):=EN (by kernel_rfl) Tryz.underlying109 (by kernel_rfl)
theorem Tryz.gS:TI.ok En.Dop.D4 Tryz.prog 111 (Tryz.tr 111):=EN (by kernel_rfl) ⟨_,Tryz.underlying111,rfl,rfl,by kernel_rfl,by decide,rfl,rfl,by kernel_rfl,by decide,rfl,rfl,by kernel_rfl,by decide,rfl,rfl,by kernel_rfl,by decide,rfl,rfl,by kernel_rfl,by decide,rfl,rfl,by kernel_rfl,by decide,trivial⟩ (by kernel_rfl)
theorem Tryz.gT:TI.ok En.Dop.D4 Tryz.prog 113 ⟨4,40,.agg #[.int .i64 0,.int .i64 0,.int .i64 0,.string ⟨#[]⟩],[.v (.int .i64 0),.v (.int .i64 0),.v (.int .i64 0),.v (.string ⟨#[]⟩)],.struct [(0,3,1),(1,3,1),(2,3,1),(3,9,1)],some 6,some [.int .i64,.int .i64,.int .i64,.str],none⟩:=⟨by kernel_rfl,fun β=>by simp [AB,SV.den,Value.cells],fun N=>by simp [BW,SV.on],rfl,⟨_,Tryz.underlying113,rfl,rfl,by kernel_rfl,by decide,rfl,rfl,by kernel_rfl,by decide,rfl,rfl,by kernel_rfl,by decide,rfl,rfl,by kernel_rfl,by decide,trivial⟩,(fun ks h=>by cases h;exact ⟨CR (d:=9999) (ks:=[.int .i64,.int .i64,.int .i64,.str]) Tryz.underlying113 (by kernel_rfl) (.cons (ks:=[.int .i64]) (ls:=[.int .i64,.int .i64,.str]) (by decide) rfl (by kernel_rfl) (AV Tryz.underlying3) (fun h=>by first|rfl|cases h) (AW Tryz.underlying3) (.cons (ks:=[.int .i64]) (ls:=[.int .i64,.str]) (by decide) rfl (by kernel_rfl) (AV Tryz.underlying3) (fun h=>by first|rfl|cases h) (AW Tryz.underlying3) (.cons (ks:=[.int .i64]) (ls:=[.str]) (by decide) rfl (by kernel_rfl) (AV Tryz.underlying3) (fun h=>by first|rfl|cases h) (AW Tryz.underlying3) (.cons (ks:=[.str]) (ls:=[]) (by decide) rfl (by kernel_rfl) (AV Tryz.underlying9) (fun h=>by first|rfl|cases h) (FP Tryz.underlying9) .nil)))),by kernel_rfl⟩),(fun τ h=>by cases h;exact ⟨rfl,by decide,rfl,rfl⟩),(fun τ h=>by cases h)⟩
theorem Tryz.gU:TI.ok En.Dop.D4 Tryz.prog 115 (Tryz.tr 115):=EN (by kernel_rfl) ⟨_,Tryz.underlying115,rfl⟩ (by kernel_rfl)
theorem Tryz.gV:TI.ok En.Dop.D4 Tryz.prog 117 (Tryz.tr 117):=EN (by kernel_rfl) Tryz.underlying117 (by kernel_rfl)
theorem Tryz.gW:TI.ok En.Dop.D4 Tryz.prog 119 (Tryz.tr 119):=EN (by kernel_rfl) ⟨_,Tryz.underlying119,rfl,rfl,by kernel_rfl,by decide,rfl,rfl,by kernel_rfl,by decide,trivial⟩ (by kernel_rfl)
theorem Tryz.gX:TI.ok En.Dop.D4 Tryz.prog 120 (Tryz.tr 120):=WW (τ0:=17) (by kernel_rfl) ⟨Tryz.underlying120,by kernel_rfl⟩ (by kernel_rfl) ⟨rfl,by decide,rfl,rfl⟩
theorem Tryz.gY:TI.ok En.Dop.D4 Tryz.prog 122 ⟨2,24,.agg #[.string ⟨#[]⟩,.int .i64 0],[.v (.string ⟨#[]⟩),.v (.int .i64 0)],.struct [(0,9,1),(1,3,1)],some 16,some [.str,.int .i64],none⟩:=⟨by kernel_rfl,fun β=>by simp [AB,SV.den,Value.cells],fun N=>by simp [BW,SV.on],rfl,⟨_,Tryz.underlying122,rfl,rfl,by kernel_rfl,by decide,rfl,rfl,by kernel_rfl,by decide,trivial⟩,(fun ks h=>by cases h;exact ⟨CR (d:=9999) (ks:=[.str,.int .i64]) Tryz.underlying122 (by kernel_rfl) (.cons (ks:=[.str]) (ls:=[.int .i64]) (by decide) rfl (by kernel_rfl) (AV Tryz.underlying9) (fun h=>by first|rfl|cases h) (FP Tryz.underlying9) (.cons (ks:=[.int .i64]) (ls:=[]) (by decide) rfl (by kernel_rfl) (AV Tryz.underlying3) (fun h=>by first|rfl|cases h) (AW Tryz.underlying3) .nil)),by kernel_rfl⟩),(fun τ h=>by cases h;exact ⟨rfl,by decide,rfl,rfl⟩),(fun τ h=>by cases h)⟩
theorem Tryz.gZ:TI.ok En.Dop.D4 Tryz.prog 125 ⟨5,40,.agg #[.int .i64 0,.int .i64 0,.int .i64 0,.int .i64 0,.bool false],[.v (.int .i64 0),.v (.int .i64 0),.v (.int .i64 0),.v (.int .i64 0),.v (.bool false)],.struct [(0,3,1),(1,3,1),(2,3,1),(3,3,1),(4,4,1)],some 10,some [.int .i64,.int .i64,.int .i64,.int .i64,.bool],none⟩:=⟨by kernel_rfl,fun β=>by simp [AB,SV.den,Value.cells],fun N=>by simp [BW,SV.on],rfl,⟨_,Tryz.underlying125,rfl,rfl,by kernel_rfl,by decide,rfl,rfl,by kernel_rfl,by decide,rfl,rfl,by kernel_rfl,by decide,rfl,rfl,by kernel_rfl,by decide,rfl,rfl,by kernel_rfl,by decide,trivial⟩,(fun ks h=>by cases h;exact ⟨CR (d:=9999) (ks:=[.int .i64,.int .i64,.int .i64,.int .i64,.bool]) Tryz.underlying125 (by kernel_rfl) (.cons (ks:=[.int .i64]) (ls:=[.int .i64,.int .i64,.int .i64,.bool]) (by decide) rfl (by kernel_rfl) (AV Tryz.underlying3) (fun h=>by first|rfl|cases h) (AW Tryz.underlying3) (.cons (ks:=[.int .i64]) (ls:=[.int .i64,.int .i64,.bool]) (by decide) rfl (by kernel_rfl) (AV Tryz.underlying3) (fun h=>by first|rfl|cases h) (AW Tryz.underlying3) (.cons (ks:=[.int .i64]) (ls:=[.int .i64,.bool]) (by decide) rfl (by kernel_rfl) (AV Tryz.underlying3) (fun h=>by first|rfl|cases h) (AW Tryz.underlying3) (.cons (ks:=[.int .i64]) (ls:=[.bool]) (by decide) rfl (by kernel_rfl) (AV Tryz.underlying3) (fun h=>by first|rfl|cases h) (AW Tryz.underlying3) (.cons (ks:=[.bool]) (ls:=[]) (by decide) rfl (by kernel_rfl) (AV Tryz.underlying4) (fun h=>by first|rfl|cases h) (TM Tryz.underlying4) .nil))))),by kernel_rfl⟩),(fun τ h=>by cases h;exact ⟨rfl,by decide,rfl,rfl⟩),(fun τ h=>by cases h)⟩
theorem Tryz.ga:TI.ok En.Dop.D4 Tryz.prog 127 (Tryz.tr 127):=EN (by kernel_rfl) ⟨_,Tryz.underlying127,rfl⟩ (by kernel_rfl)
theorem Tryz.gd:TI.ok En.Dop.D4 Tryz.prog 129 ⟨3,24,.agg #[.int .i64 0,.int .i64 0,.int .i64 0],[.v (.int .i64 0),.v (.int .i64 0),.v (.int .i64 0)],.struct [(0,3,1),(1,3,1),(2,3,1)],some 9,some [.int .i64,.int .i64,.int .i64],none⟩:=⟨by kernel_rfl,fun β=>by simp [AB,SV.den,Value.cells],fun N=>by simp [BW,SV.on],rfl,⟨_,Tryz.underlying129,rfl,rfl,by kernel_rfl,by decide,rfl,rfl,by kernel_rfl,by decide,rfl,rfl,by kernel_rfl,by decide,trivial⟩,(fun ks h=>by cases h;exact ⟨CR (d:=9999) (ks:=[.int .i64,.int .i64,.int .i64]) Tryz.underlying129 (by kernel_rfl) (.cons (ks:=[.int .i64]) (ls:=[.int .i64,.int .i64]) (by decide) rfl (by kernel_rfl) (AV Tryz.underlying3) (fun h=>by first|rfl|cases h) (AW Tryz.underlying3) (.cons (ks:=[.int .i64]) (ls:=[.int .i64]) (by decide) rfl (by kernel_rfl) (AV Tryz.underlying3) (fun h=>by first|rfl|cases h) (AW Tryz.underlying3) (.cons (ks:=[.int .i64]) (ls:=[]) (by decide) rfl (by kernel_rfl) (AV Tryz.underlying3) (fun h=>by first|rfl|cases h) (AW Tryz.underlying3) .nil))),by kernel_rfl⟩),(fun τ h=>by cases h;exact ⟨rfl,by decide,rfl,rfl⟩),(fun τ h=>by cases h)⟩
theorem Tryz.gg:TI.ok En.Dop.D4 Tryz.prog 142 (Tryz.tr 142):=EN (by kernel_rfl) ⟨_,Tryz.underlying142,rfl⟩ (by kernel_rfl)
theorem Tryz.gj:TI.ok En.Dop.D4 Tryz.prog 153 (Tryz.tr 153):=EN (by kernel_rfl) ⟨_,Tryz.underlying153,rfl⟩ (by kernel_rfl)
theorem Tryz.gk:TI.ok En.Dop.D4 Tryz.prog 154 (Tryz.tr 154):=EN (by kernel_rfl) ⟨_,Tryz.underlying154,rfl⟩ (by kernel_rfl)
theorem Tryz.gl:TI.ok En.Dop.D4 Tryz.prog 164 (Tryz.tr 164):=WW (τ0:=8) (by kernel_rfl) ⟨Tryz.underlying164,by kernel_rfl⟩ (by kernel_rfl) ⟨rfl,by decide,rfl,rfl⟩
theorem Tryz.gm:TI.ok En.Dop.D4 Tryz.prog 167 (Tryz.tr 167):=EN (by kernel_rfl) Tryz.underlying167 (by kernel_rfl)
theorem Tryz.gn:TI.ok En.Dop.D4 Tryz.prog 173 (Tryz.tr 173):=EN (by kernel_rfl) Tryz.underlying173 (by kernel_rfl)
theorem Tryz.gp:TI.ok En.Dop.D4 Tryz.prog 177 (Tryz.tr 177):=EN (by kernel_rfl) ⟨_,Tryz.underlying177,rfl⟩ (by kernel_rfl)
theorem Tryz.gq:TI.ok En.Dop.D4 Tryz.prog 201 (Tryz.tr 201):=EN (by kernel_rfl) ⟨_,Tryz.underlying201,rfl⟩ (by kernel_rfl)
theorem Tryz.gr:TI.ok En.Dop.D4 Tryz.prog 206 (Tryz.tr 206):=WW (τ0:=18) (by kernel_rfl) Tryz.underlying206 (by kernel_rfl) ⟨rfl,by decide,rfl,rfl⟩
theorem Tryz.gu:TI.ok En.Dop.D4 Tryz.prog 207 (Tryz.tr 207):=EN (by kernel_rfl) Tryz.underlying207 (by kernel_rfl)
theorem Tryz.gv:TI.ok En.Dop.D4 Tryz.prog 221 (Tryz.tr 221):=EN (by kernel_rfl) ⟨_,Tryz.underlying221,rfl⟩ (by kernel_rfl)
theorem Tryz.gw:TI.ok En.Dop.D4 Tryz.prog 222 (Tryz.tr 222):=EN (by kernel_rfl) ⟨_,Tryz.underlying222,rfl⟩ (by kernel_rfl)
theorem Tryz.gx:TI.ok En.Dop.D4 Tryz.prog 224 (Tryz.tr 224):=WW (τ0:=14) (by kernel_rfl) ⟨Tryz.underlying224,by kernel_rfl⟩ (by kernel_rfl) ⟨rfl,by decide,rfl,rfl⟩
theorem Tryz.gy:TI.ok En.Dop.D4 Tryz.prog 225 (Tryz.tr 225):=EN (by kernel_rfl) Tryz.underlying225 (by kernel_rfl)
theorem Tryz.gz:TI.ok En.Dop.D4 Tryz.prog 245 (Tryz.tr 245):=EN (by kernel_rfl) ⟨_,Tryz.underlying245,rfl⟩ (by kernel_rfl)
theorem Tryz.hC:TI.ok En.Dop.D4 Tryz.prog 270 (Tryz.tr 270):=EN (by kernel_rfl) ⟨_,Tryz.underlying270,rfl,rfl,by kernel_rfl,by decide,rfl,rfl,by kernel_rfl,by decide,rfl,rfl,by kernel_rfl,by decide,rfl,rfl,by kernel_rfl,by decide,trivial⟩ (by kernel_rfl)
set_option maxRecDepth 100000 in
theorem Tryz.AI:AY En.Dop.D4 Tryz.prog Tryz.tb:=
 ⟨Tryz.nM,Tryz.nN,Tryz.nO,Tryz.nP,Tryz.nQ,Tryz.nR,Tryz.nS,Tryz.nT,Tryz.nU,Tryz.kY,Tryz.kZ,Tryz.ka,Tryz.kb,Tryz.ke,Tryz.kg,Tryz.ki,Tryz.kj,Tryz.kk,Tryz.kn,Tryz.ko,Tryz.ku,Tryz.kx,Tryz.ky,Tryz.kz,Tryz.k6,Tryz.k7,Tryz.k8,Tryz.k9,Tryz.lA,Tryz.lB,Tryz.lC,Tryz.lD,Tryz.lE,Tryz.lF,Tryz.lG,Tryz.lH,Tryz.lI,Tryz.lJ,Tryz.lK,Tryz.lL,Tryz.lM,Tryz.lN,Tryz.lO,Tryz.lP,Tryz.lQ,Tryz.lR,Tryz.lS,Tryz.lT,Tryz.lU,Tryz.lV,Tryz.gP,Tryz.gQ,Tryz.gR,Tryz.gS,Tryz.gT,Tryz.gU,Tryz.gV,Tryz.gW,Tryz.gX,Tryz.gY,Tryz.gZ,Tryz.ga,Tryz.gd,Tryz.gg,Tryz.gj,Tryz.gk,Tryz.gl,Tryz.gm,Tryz.gn,Tryz.gp,Tryz.gq,Tryz.gr,Tryz.gu,Tryz.gv,Tryz.gw,Tryz.gx,Tryz.gy,Tryz.gz,Tryz.hC,trivial⟩
end Go.Proofs
