/- Functions that call one another: models by fuel, contracts at whatever fuel. -/
import Derived.Test.YtkpggdcpaeanaaaGreatDoorMf
import Derived.Test.YtkpggdcpaeanaaaGreatDoorProg
import Derived.Test.YtkpggdcpaeanaaaGreatDoorMc
namespace Go.En
open Go.RowKit
def FU:Nat:=1000000000
section
variable {S:Aj} {P:Program}
theorem Qz {c c':Bw S} (h:c'.Holds P) (e:c=c'):c.Holds P:=e▸h
theorem BA {l m:List (Bw S)} (h: ∀ c∈l,c.Holds P) (k: ∀ c∈m,c.Holds P): ∀ c∈l++m,c.Holds P:=fun c hc=>(List.mem_append.1 hc).elim (h c) (k c)
theorem Ae {f:Nat} {tb:List (Nat×TI)} {p:Ak} (htb:AT S P tb) (h:AH S P f p=true):Bw.Holds (S:=S) P ⟨f,p.bn,p.sp,p.rs,p.flat,.opt fun _=>none⟩:=by
 obtain ⟨h1,h2,h3,_⟩:=Ef (P:=P) (S:=S) (f:=f) (p:=p) 0 htb Bb h
 exact ⟨h1,h2,h3,fun x y hxy=>by cases hxy⟩
end
def Le {α:Type} (a b:Option α):Prop:= ∀ y,a=some y→b=some y
section
variable {α β:Type}
theorem le_refl {a:Option α}:Le a a:=fun _ h=>h
end
end Go.En
/- The table of this seat's types, written by a program (gentab2.py) out of the translation, and the proof that it is right. -/
namespace Go.Proofs
open Go Go.En
section
variable {S:Aj} {P:Program} {T:Nat} {t:TI}
theorem Q0 (β:Nat→Nm): ∀ l:List Value,AA β (l.map SV.v)=l
 | []=>by simp [AA]
 | x::r=>by simp [AA,SV.den,Q0 β r]
theorem Y6 (N:Nat→Prop) (l:List Value):BI N (l.map SV.v):=Ar.2 fun x hx=>by obtain ⟨v,_,rfl⟩:=List.mem_map.1 hx;trivial
theorem Ec (h:((P.info? T).map (fun i=>(i.zero,i.size,i.bytes)),t.zc,t.zc.length)=(some (some t.z,t.sz,t.bs),t.z.cells.toList.map SV.v,t.sz)) (hd:t.d.ok P T) (h2:(t.eq,t.τ,t.δ)=(none,none,none)):TI.ok S P T t:=by
 simp only [Prod.mk.injEq] at h h2
 exact ⟨h.1,fun β=>by rw [h.2.1,Q0],fun N=>by rw [h.2.1];exact Y6 N _,h.2.2,hd,fun ks g=>(by rw [h2.1] at g;cases g),fun τ g=>(by rw [h2.2.1] at g;cases g),fun τ g=>(by rw [h2.2.2] at g;cases g)⟩
theorem W9 {τ0:Nat} (h:((P.info? T).map (fun i=>(i.zero,i.size,i.bytes)),t.zc,t.zc.length)=(some (some t.z,t.sz,t.bs),t.z.cells.toList.map SV.v,t.sz)) (hd:t.d.ok P T) (h2:(t.eq,t.τ,t.δ)=(none,some τ0,none)) (h3:S.sz τ0=t.sz∧0<t.sz∧S.enc τ0 (S.As τ0)=(S.fds τ0).map Fd.Na∧t.z.cells.toList=(S.fds τ0).map Fd.zeroV):TI.ok S P T t:=by
 simp only [Prod.mk.injEq] at h h2
 exact ⟨h.1,fun β=>by rw [h.2.1,Q0],fun N=>by rw [h.2.1];exact Y6 N _,h.2.2,hd,fun ks g=>(by rw [h2.1] at g;cases g),fun τ g=>(by rw [h2.2.1] at g;cases g;exact h3),fun τ g=>(by rw [h2.2.2] at g;cases g)⟩
end
def Tryz.tb:List (Nat×TI):=[
 (1,⟨1,8,.nilFunc,[.v (.nilFunc)],.other,none,none,none⟩),
 (2,⟨1,8,.int .i64 0,[.v (.int .i64 0)],.int .i64,none,none,none⟩),
 (3,⟨1,8,.int .i64 0,[.v (.int .i64 0)],.int .i64,some 0,none,none⟩),
 (4,⟨1,1,.bool false,[.v (.bool false)],.bool,some 2,none,none⟩),
 (5,⟨1,1,.int .u8 0,[.v (.int .u8 0)],.int .u8,some 3,none,none⟩),
 (6,⟨1,1,.int .u8 0,[.v (.int .u8 0)],.int .u8,none,none,none⟩),
 (7,⟨4,24,.agg #[.int .i64 0,.int .i64 0,.bool false,.int .u8 0],[.v (.int .i64 0),.v (.int .i64 0),.v (.bool false),.v (.int .u8 0)],.struct [(0,2,1),(1,3,1),(2,4,1),(3,6,1)],none,none,none⟩),
 (8,⟨4,24,.agg #[.int .i64 0,.int .i64 0,.bool false,.int .u8 0],[.v (.int .i64 0),.v (.int .i64 0),.v (.bool false),.v (.int .u8 0)],.struct [(0,2,1),(1,3,1),(2,4,1),(3,6,1)],none,none,none⟩),
 (9,⟨1,16,.string ⟨#[]⟩,[.v (.string ⟨#[]⟩)],.str,some 1,none,none⟩),
 (10,⟨1,16,.string ⟨#[]⟩,[.v (.string ⟨#[]⟩)],.str,none,none,none⟩),
 (11,⟨1,16,.string ⟨#[]⟩,[.v (.string ⟨#[]⟩)],.str,none,none,none⟩),
 (12,⟨1,8,.int .u64 0,[.v (.int .u64 0)],.int .u64,none,none,none⟩),
 (13,⟨2,24,.agg #[.string ⟨#[]⟩,.int .u64 0],[.v (.string ⟨#[]⟩),.v (.int .u64 0)],.struct [(0,9,1),(1,12,1)],none,none,none⟩),
 (14,⟨2,24,.agg #[.string ⟨#[]⟩,.int .u64 0],[.v (.string ⟨#[]⟩),.v (.int .u64 0)],.struct [(0,9,1),(1,12,1)],none,none,none⟩),
 (15,⟨1,8,.pointer none,[.v (.pointer none)],.ptr 298,none,none,none⟩),
 (16,⟨1,8,.pointer none,[.v (.pointer none)],.ptr 301,none,none,none⟩),
 (17,⟨1,8,.pointer none,[.v (.pointer none)],.ptr 308,none,none,none⟩),
 (21,⟨1,4,.int .i32 0,[.v (.int .i32 0)],.int .i32,none,none,none⟩),
 (23,⟨1,24,.slice none 0 0,[.v (.slice none 0 0)],.slice 52 5,none,none,none⟩),
 (24,⟨1,24,.slice none 0 0,[.v (.slice none 0 0)],.slice 32 4,none,none,none⟩),
 (25,⟨1,24,.slice none 0 0,[.v (.slice none 0 0)],.slice 56 9,none,none,none⟩),
 (27,⟨4,80,.agg #[.slice none 0 0,.slice none 0 0,.int .i64 0,.slice none 0 0],[.v (.slice none 0 0),.v (.slice none 0 0),.v (.int .i64 0),.v (.slice none 0 0)],.struct [(0,23,1),(1,24,1),(2,3,1),(3,25,1)],some 13,none,none⟩),
 (28,⟨1,8,.int .i64 0,[.v (.int .i64 0)],.int .i64,none,none,none⟩),
 (32,⟨4,40,.agg #[.string ⟨#[]⟩,.int .i64 0,.int .i64 0,.int .i64 0],[.v (.string ⟨#[]⟩),.v (.int .i64 0),.v (.int .i64 0),.v (.int .i64 0)],.struct [(0,9,1),(1,3,1),(2,3,1),(3,3,1)],some 12,some [.str,.int .i64,.int .i64,.int .i64],none⟩),
 (34,⟨1,24,.slice none 0 0,[.v (.slice none 0 0)],.slice 38 4,none,none,none⟩),
 (38,⟨4,40,.agg #[.int .i64 0,.string ⟨#[]⟩,.int .i64 0,.int .i64 0],[.v (.int .i64 0),.v (.string ⟨#[]⟩),.v (.int .i64 0),.v (.int .i64 0)],.struct [(0,3,1),(1,9,1),(2,3,1),(3,3,1)],some 4,some [.int .i64,.str,.int .i64,.int .i64],none⟩),
 (39,⟨1,24,.slice none 0 0,[.v (.slice none 0 0)],.slice 93 4,none,none,none⟩),
 (41,⟨3,56,.agg #[.slice none 0 0,.slice none 0 0,.int .i64 0],[.v (.slice none 0 0),.v (.slice none 0 0),.v (.int .i64 0)],.struct [(0,25,1),(1,39,1),(2,3,1)],some 7,none,none⟩),
 (44,⟨1,24,.slice none 0 0,[.v (.slice none 0 0)],.slice 9 1,none,none,none⟩),
 (46,⟨1,8,.nilFunc,[.v (.nilFunc)],.other,none,none,none⟩),
 (47,⟨1,8,.nilFunc,[.v (.nilFunc)],.other,none,none,none⟩),
 (52,⟨5,48,.agg #[.string ⟨#[]⟩,.int .i64 0,.int .i64 0,.int .i64 0,.int .i64 0],[.v (.string ⟨#[]⟩),.v (.int .i64 0),.v (.int .i64 0),.v (.int .i64 0),.v (.int .i64 0)],.struct [(0,9,1),(1,3,1),(2,3,1),(3,3,1),(4,3,1)],some 11,some [.str,.int .i64,.int .i64,.int .i64,.int .i64],none⟩),
 (56,⟨9,80,.agg #[.int .i64 0,.int .i64 0,.int .i64 0,.int .i64 0,.int .i64 0,.string ⟨#[]⟩,.int .i64 0,.int .i64 0,.int .i64 0],[.v (.int .i64 0),.v (.int .i64 0),.v (.int .i64 0),.v (.int .i64 0),.v (.int .i64 0),.v (.string ⟨#[]⟩),.v (.int .i64 0),.v (.int .i64 0),.v (.int .i64 0)],.struct [(0,3,1),(1,3,1),(2,3,1),(3,3,1),(4,3,1),(5,9,1),(6,3,1),(7,3,1),(8,3,1)],some 5,some [.int .i64,.int .i64,.int .i64,.int .i64,.int .i64,.str,.int .i64,.int .i64,.int .i64],none⟩),
 (66,⟨1,24,.slice none 0 0,[.v (.slice none 0 0)],.slice 3 1,none,none,none⟩),
 (67,⟨1,8,.int .i64 0,[.v (.int .i64 0)],.int .i64,some 18,none,none⟩),
 (83,⟨1,8,.nilFunc,[.v (.nilFunc)],.other,none,none,none⟩),
 (89,⟨1,8,.pointer none,[.v (.pointer none)],.ptr 91,none,none,none⟩),
 (91,⟨8,112,.agg #[.slice none 0 0,.int .i64 0,.slice none 0 0,.slice none 0 0,.int .i64 0,.int .i64 0,.int .i64 0,.int .i64 0],[.v (.slice none 0 0),.v (.int .i64 0),.v (.slice none 0 0),.v (.slice none 0 0),.v (.int .i64 0),.v (.int .i64 0),.v (.int .i64 0),.v (.int .i64 0)],.struct [(0,34,1),(1,3,1),(2,41,3),(5,3,1),(6,28,1),(7,3,1)],none,none,none⟩),
 (93,⟨4,40,.agg #[.int .i64 0,.int .i64 0,.int .i64 0,.string ⟨#[]⟩],[.v (.int .i64 0),.v (.int .i64 0),.v (.int .i64 0),.v (.string ⟨#[]⟩)],.struct [(0,3,1),(1,3,1),(2,3,1),(3,9,1)],some 6,some [.int .i64,.int .i64,.int .i64,.str],none⟩),
 (95,⟨1,8,.nilFunc,[.v (.nilFunc)],.other,none,none,none⟩),
 (110,⟨1,8,.nilFunc,[.v (.nilFunc)],.other,none,none,none⟩),
 (126,⟨1,8,.pointer none,[.v (.pointer none)],.ptr 135,none,none,none⟩),
 (127,⟨1,8,.pointer none,[.v (.pointer none)],.ptr 168,none,none,none⟩),
 (129,⟨1,8,.map none,[.v (.map none)],.map 9 178,none,none,none⟩),
 (130,⟨1,24,.slice none 0 0,[.v (.slice none 0 0)],.slice 129 1,none,none,none⟩),
 (131,⟨1,8,.map none,[.v (.map none)],.map 9 140,none,none,none⟩),
 (132,⟨1,8,.map none,[.v (.map none)],.map 9 3,none,none,none⟩),
 (133,⟨1,24,.slice none 0 0,[.v (.slice none 0 0)],.slice 217 1,none,none,none⟩),
 (135,⟨25,336,.agg #[.slice none 0 0,.slice none 0 0,.int .i64 0,.pointer none,.slice none 0 0,.slice none 0 0,.slice none 0 0,.int .i64 0,.slice none 0 0,.slice none 0 0,.map none,.map none,.string ⟨#[]⟩,.int .i64 0,.int .i64 0,.int .i64 0,.int .i64 0,.int .i64 0,.map none,.map none,.int .i64 0,.slice none 0 0,.int .i64 0,.int .i64 0,.int .i64 0],[.v (.slice none 0 0),.v (.slice none 0 0),.v (.int .i64 0),.v (.pointer none),.v (.slice none 0 0),.v (.slice none 0 0),.v (.slice none 0 0),.v (.int .i64 0),.v (.slice none 0 0),.v (.slice none 0 0),.v (.map none),.v (.map none),.v (.string ⟨#[]⟩),.v (.int .i64 0),.v (.int .i64 0),.v (.int .i64 0),.v (.int .i64 0),.v (.int .i64 0),.v (.map none),.v (.map none),.v (.int .i64 0),.v (.slice none 0 0),.v (.int .i64 0),.v (.int .i64 0),.v (.int .i64 0)],.struct [(0,41,3),(3,127,1),(4,66,1),(5,27,4),(9,130,1),(10,131,1),(11,132,1),(12,52,5),(17,3,1),(18,132,1),(19,132,1),(20,3,1),(21,133,1),(22,3,1),(23,28,1),(24,3,1)],none,none,none⟩),
 (140,⟨2,32,.agg #[.slice none 0 0,.int .i64 0],[.v (.slice none 0 0),.v (.int .i64 0)],.struct [(0,66,1),(1,3,1)],some 15,none,none⟩),
 (144,⟨1,8,.nilFunc,[.v (.nilFunc)],.other,none,none,none⟩),
 (154,⟨1,8,.nilFunc,[.v (.nilFunc)],.other,none,none,none⟩),
 (155,⟨1,8,.nilFunc,[.v (.nilFunc)],.other,none,none,none⟩),
 (166,⟨1,8,.map none,[.v (.map none)],.map 9 169,none,none,none⟩),
 (168,⟨2,32,.agg #[.slice none 0 0,.map none],[.v (.slice none 0 0),.v (.map none)],.struct [(0,39,1),(1,166,1)],none,none,none⟩),
 (169,⟨1,24,.slice none 0 0,[.v (.slice none 0 0)],.slice 171 2,some 17,none,none⟩),
 (171,⟨2,24,.agg #[.string ⟨#[]⟩,.int .i64 0],[.v (.string ⟨#[]⟩),.v (.int .i64 0)],.struct [(0,9,1),(1,3,1)],some 16,some [.str,.int .i64],none⟩),
 (174,⟨5,40,.agg #[.int .i64 0,.int .i64 0,.int .i64 0,.int .i64 0,.bool false],[.v (.int .i64 0),.v (.int .i64 0),.v (.int .i64 0),.v (.int .i64 0),.v (.bool false)],.struct [(0,3,1),(1,3,1),(2,3,1),(3,3,1),(4,4,1)],some 10,some [.int .i64,.int .i64,.int .i64,.int .i64,.bool],none⟩),
 (178,⟨3,24,.agg #[.int .i64 0,.int .i64 0,.int .i64 0],[.v (.int .i64 0),.v (.int .i64 0),.v (.int .i64 0)],.struct [(0,3,1),(1,3,1),(2,3,1)],some 9,some [.int .i64,.int .i64,.int .i64],none⟩),
 (184,⟨1,8,.map none,[.v (.map none)],.map 5 3,none,none,none⟩),
 (213,⟨1,4,.int .u32 0,[.v (.int .u32 0)],.int .u32,none,none,none⟩),
 (214,⟨4,32,.agg #[.int .i64 0,.int .i64 0,.int .i64 0,.int .i64 0],[.v (.int .i64 0),.v (.int .i64 0),.v (.int .i64 0),.v (.int .i64 0)],.array 4 3 1,some 8,none,none⟩),
 (217,⟨1,8,.map none,[.v (.map none)],.map 3 3,none,none,none⟩),
 (246,⟨1,8,.nilFunc,[.v (.nilFunc)],.other,none,none,none⟩),
 (264,⟨1,8,.nilFunc,[.v (.nilFunc)],.other,none,none,none⟩),
 (265,⟨1,8,.nilFunc,[.v (.nilFunc)],.other,none,none,none⟩),
 (267,⟨2,16,.agg #[.int .i64 0,.int .i64 0],[.v (.int .i64 0),.v (.int .i64 0)],.array 2 67 1,some 14,none,none⟩),
 (268,⟨1,8,.map none,[.v (.map none)],.map 9 267,none,none,none⟩),
 (290,⟨1,8,.nilFunc,[.v (.nilFunc)],.other,none,none,none⟩),
 (298,⟨4,40,.agg #[.pointer none,.pointer none,.pointer none,.string ⟨#[]⟩],[.v (.pointer none),.v (.pointer none),.v (.pointer none),.v (.string ⟨#[]⟩)],.struct [(0,17,1),(1,17,1),(2,17,1),(3,9,1)],none,none,none⟩)]
def Tryz.tr (k:Nat):TI:=match lk Tryz.tb k with
 | some x=>x
 | none=>⟨0,0,.nilFunc,[],.other,none,none,none⟩
theorem Tryz.gg:TI.ok En.Dop.D4 Tryz.prog 1 (Tryz.tr 1):=Ec (by kernel_rfl) ⟨_,Tryz.underlying1,rfl⟩ (by kernel_rfl)
theorem Tryz.gi:TI.ok En.Dop.D4 Tryz.prog 2 (Tryz.tr 2):=Ec (by kernel_rfl) Tryz.underlying2 (by kernel_rfl)
theorem Tryz.gj:TI.ok En.Dop.D4 Tryz.prog 3 (Tryz.tr 3):=W9 (τ0:=0) (by kernel_rfl) Tryz.underlying3 (by kernel_rfl) ⟨rfl,by decide,rfl,rfl⟩
theorem Tryz.gk:TI.ok En.Dop.D4 Tryz.prog 4 (Tryz.tr 4):=W9 (τ0:=2) (by kernel_rfl) Tryz.underlying4 (by kernel_rfl) ⟨rfl,by decide,rfl,rfl⟩
theorem Tryz.gl:TI.ok En.Dop.D4 Tryz.prog 5 (Tryz.tr 5):=W9 (τ0:=3) (by kernel_rfl) Tryz.underlying5 (by kernel_rfl) ⟨rfl,by decide,rfl,rfl⟩
theorem Tryz.gm:TI.ok En.Dop.D4 Tryz.prog 6 (Tryz.tr 6):=Ec (by kernel_rfl) Tryz.underlying6 (by kernel_rfl)
theorem Tryz.gn:TI.ok En.Dop.D4 Tryz.prog 7 (Tryz.tr 7):=Ec (by kernel_rfl) ⟨_,Tryz.underlying7,rfl,rfl,by kernel_rfl,by decide,rfl,rfl,by kernel_rfl,by decide,rfl,rfl,by kernel_rfl,by decide,rfl,rfl,by kernel_rfl,by decide,trivial⟩ (by kernel_rfl)
theorem Tryz.gp:TI.ok En.Dop.D4 Tryz.prog 8 (Tryz.tr 8):=Ec (by kernel_rfl) ⟨_,Tryz.underlying8,rfl,rfl,by kernel_rfl,by decide,rfl,rfl,by kernel_rfl,by decide,rfl,rfl,by kernel_rfl,by decide,rfl,rfl,by kernel_rfl,by decide,trivial⟩ (by kernel_rfl)
theorem Tryz.gq:TI.ok En.Dop.D4 Tryz.prog 9 (Tryz.tr 9):=W9 (τ0:=1) (by kernel_rfl) Tryz.underlying9 (by kernel_rfl) ⟨rfl,by decide,rfl,rfl⟩
theorem Tryz.eZ:TI.ok En.Dop.D4 Tryz.prog 10 (Tryz.tr 10):=Ec (by kernel_rfl) Tryz.underlying10 (by kernel_rfl)
theorem Tryz.eb:TI.ok En.Dop.D4 Tryz.prog 11 (Tryz.tr 11):=Ec (by kernel_rfl) Tryz.underlying11 (by kernel_rfl)
theorem Tryz.ec:TI.ok En.Dop.D4 Tryz.prog 12 (Tryz.tr 12):=Ec (by kernel_rfl) Tryz.underlying12 (by kernel_rfl)
theorem Tryz.ed:TI.ok En.Dop.D4 Tryz.prog 13 (Tryz.tr 13):=Ec (by kernel_rfl) ⟨_,Tryz.underlying13,rfl,rfl,by kernel_rfl,by decide,rfl,rfl,by kernel_rfl,by decide,trivial⟩ (by kernel_rfl)
theorem Tryz.ee:TI.ok En.Dop.D4 Tryz.prog 14 (Tryz.tr 14):=Ec (by kernel_rfl) ⟨_,Tryz.underlying14,rfl,rfl,by kernel_rfl,by decide,rfl,rfl,by kernel_rfl,by decide,trivial⟩ (by kernel_rfl)
theorem Tryz.ef:TI.ok En.Dop.D4 Tryz.prog 15 (Tryz.tr 15):=Ec (by kernel_rfl) Tryz.underlying15 (by kernel_rfl)
theorem Tryz.eh:TI.ok En.Dop.D4 Tryz.prog 16 (Tryz.tr 16):=Ec (by kernel_rfl) Tryz.underlying16 (by kernel_rfl)
theorem Tryz.en:TI.ok En.Dop.D4 Tryz.prog 17 (Tryz.tr 17):=Ec (by kernel_rfl) Tryz.underlying17 (by kernel_rfl)
theorem Tryz.eo:TI.ok En.Dop.D4 Tryz.prog 21 (Tryz.tr 21):=Ec (by kernel_rfl) Tryz.underlying21 (by kernel_rfl)
theorem Tryz.er:TI.ok En.Dop.D4 Tryz.prog 23 (Tryz.tr 23):=Ec (by kernel_rfl) ⟨Tryz.underlying23,by kernel_rfl⟩ (by kernel_rfl)
theorem Tryz.eu:TI.ok En.Dop.D4 Tryz.prog 24 (Tryz.tr 24):=Ec (by kernel_rfl) ⟨Tryz.underlying24,by kernel_rfl⟩ (by kernel_rfl)
theorem Tryz.ew:TI.ok En.Dop.D4 Tryz.prog 25 (Tryz.tr 25):=Ec (by kernel_rfl) ⟨Tryz.underlying25,by kernel_rfl⟩ (by kernel_rfl)
theorem Tryz.ey:TI.ok En.Dop.D4 Tryz.prog 27 (Tryz.tr 27):=W9 (τ0:=13) (by kernel_rfl) ⟨_,Tryz.underlying27,rfl,rfl,by kernel_rfl,by decide,rfl,rfl,by kernel_rfl,by decide,rfl,rfl,by kernel_rfl,by decide,rfl,rfl,by kernel_rfl,by decide,trivial⟩ (by kernel_rfl) ⟨rfl,by decide,rfl,rfl⟩
theorem Tryz.ez:TI.ok En.Dop.D4 Tryz.prog 28 (Tryz.tr 28):=Ec (by kernel_rfl) Tryz.underlying28 (by kernel_rfl)
theorem Tryz.fA:TI.ok En.Dop.D4 Tryz.prog 32 ⟨4,40,.agg #[.string ⟨#[]⟩,.int .i64 0,.int .i64 0,.int .i64 0],[.v (.string ⟨#[]⟩),.v (.int .i64 0),.v (.int .i64 0),.v (.int .i64 0)],.struct [(0,9,1),(1,3,1),(2,3,1),(3,3,1)],some 12,some [.str,.int .i64,.int .i64,.int .i64],none⟩:=⟨by kernel_rfl,fun β=>by simp [AA,SV.den,Value.cells],fun N=>by simp [BI,SV.on],rfl,⟨_,Tryz.underlying32,rfl,rfl,by kernel_rfl,by decide,rfl,rfl,by kernel_rfl,by decide,rfl,rfl,by kernel_rfl,by decide,rfl,rfl,by kernel_rfl,by decide,trivial⟩,(fun ks h=>by cases h;exact ⟨CD (d:=9999) (ks:=[.str,.int .i64,.int .i64,.int .i64]) Tryz.underlying32 (by kernel_rfl) (.cons (ks:=[.str]) (ls:=[.int .i64,.int .i64,.int .i64]) (by decide) rfl (by kernel_rfl) (AQ Tryz.underlying9) (fun h=>by first|rfl|cases h) (Em Tryz.underlying9) (.cons (ks:=[.int .i64]) (ls:=[.int .i64,.int .i64]) (by decide) rfl (by kernel_rfl) (AQ Tryz.underlying3) (fun h=>by first|rfl|cases h) (AS Tryz.underlying3) (.cons (ks:=[.int .i64]) (ls:=[.int .i64]) (by decide) rfl (by kernel_rfl) (AQ Tryz.underlying3) (fun h=>by first|rfl|cases h) (AS Tryz.underlying3) (.cons (ks:=[.int .i64]) (ls:=[]) (by decide) rfl (by kernel_rfl) (AQ Tryz.underlying3) (fun h=>by first|rfl|cases h) (AS Tryz.underlying3) .nil)))),by kernel_rfl⟩),(fun τ h=>by cases h;exact ⟨rfl,by decide,rfl,rfl⟩),(fun τ h=>by cases h)⟩
theorem Tryz.fB:TI.ok En.Dop.D4 Tryz.prog 34 (Tryz.tr 34):=Ec (by kernel_rfl) ⟨Tryz.underlying34,by kernel_rfl⟩ (by kernel_rfl)
theorem Tryz.fC:TI.ok En.Dop.D4 Tryz.prog 38 ⟨4,40,.agg #[.int .i64 0,.string ⟨#[]⟩,.int .i64 0,.int .i64 0],[.v (.int .i64 0),.v (.string ⟨#[]⟩),.v (.int .i64 0),.v (.int .i64 0)],.struct [(0,3,1),(1,9,1),(2,3,1),(3,3,1)],some 4,some [.int .i64,.str,.int .i64,.int .i64],none⟩:=⟨by kernel_rfl,fun β=>by simp [AA,SV.den,Value.cells],fun N=>by simp [BI,SV.on],rfl,⟨_,Tryz.underlying38,rfl,rfl,by kernel_rfl,by decide,rfl,rfl,by kernel_rfl,by decide,rfl,rfl,by kernel_rfl,by decide,rfl,rfl,by kernel_rfl,by decide,trivial⟩,(fun ks h=>by cases h;exact ⟨CD (d:=9999) (ks:=[.int .i64,.str,.int .i64,.int .i64]) Tryz.underlying38 (by kernel_rfl) (.cons (ks:=[.int .i64]) (ls:=[.str,.int .i64,.int .i64]) (by decide) rfl (by kernel_rfl) (AQ Tryz.underlying3) (fun h=>by first|rfl|cases h) (AS Tryz.underlying3) (.cons (ks:=[.str]) (ls:=[.int .i64,.int .i64]) (by decide) rfl (by kernel_rfl) (AQ Tryz.underlying9) (fun h=>by first|rfl|cases h) (Em Tryz.underlying9) (.cons (ks:=[.int .i64]) (ls:=[.int .i64]) (by decide) rfl (by kernel_rfl) (AQ Tryz.underlying3) (fun h=>by first|rfl|cases h) (AS Tryz.underlying3) (.cons (ks:=[.int .i64]) (ls:=[]) (by decide) rfl (by kernel_rfl) (AQ Tryz.underlying3) (fun h=>by first|rfl|cases h) (AS Tryz.underlying3) .nil)))),by kernel_rfl⟩),(fun τ h=>by cases h;exact ⟨rfl,by decide,rfl,rfl⟩),(fun τ h=>by cases h)⟩
theorem Tryz.fD:TI.ok En.Dop.D4 Tryz.prog 39 (Tryz.tr 39):=Ec (by kernel_rfl) ⟨Tryz.underlying39,by kernel_rfl⟩ (by kernel_rfl)
theorem Tryz.fE:TI.ok En.Dop.D4 Tryz.prog 41 (Tryz.tr 41):=W9 (τ0:=7) (by kernel_rfl) ⟨_,Tryz.underlying41,rfl,rfl,by kernel_rfl,by decide,rfl,rfl,by kernel_rfl,by decide,rfl,rfl,by kernel_rfl,by decide,trivial⟩ (by kernel_rfl) ⟨rfl,by decide,rfl,rfl⟩
theorem Tryz.fF:TI.ok En.Dop.D4 Tryz.prog 44 (Tryz.tr 44):=Ec (by kernel_rfl) ⟨Tryz.underlying44,by kernel_rfl⟩ (by kernel_rfl)
theorem Tryz.fG:TI.ok En.Dop.D4 Tryz.prog 46 (Tryz.tr 46):=Ec (by kernel_rfl) ⟨_,Tryz.underlying46,rfl⟩ (by kernel_rfl)
theorem Tryz.fH:TI.ok En.Dop.D4 Tryz.prog 47 (Tryz.tr 47):=Ec (by kernel_rfl) ⟨_,Tryz.underlying47,rfl⟩ (by kernel_rfl)
theorem Tryz.fI:TI.ok En.Dop.D4 Tryz.prog 52 ⟨5,48,.agg #[.string ⟨#[]⟩,.int .i64 0,.int .i64 0,.int .i64 0,.int .i64 0],[.v (.string ⟨#[]⟩),.v (.int .i64 0),.v (.int .i64 0),.v (.int .i64 0),.v (.int .i64 0)],.struct [(0,9,1),(1,3,1),(2,3,1),(3,3,1),(4,3,1)],some 11,some [.str,.int .i64,.int .i64,.int .i64,.int .i64],none⟩:=⟨by kernel_rfl,fun β=>by simp [AA,SV.den,Value.cells],fun N=>by simp [BI,SV.on],rfl,⟨_,Tryz.underlying52,rfl,rfl,by kernel_rfl,by decide,rfl,rfl,by kernel_rfl,by decide,rfl,rfl,by kernel_rfl,by decide,rfl,rfl,by kernel_rfl,by decide,rfl,rfl,by kernel_rfl,by decide,trivial⟩,(fun ks h=>by cases h;exact ⟨CD (d:=9999) (ks:=[.str,.int .i64,.int .i64,.int .i64,.int .i64]) Tryz.underlying52 (by kernel_rfl) (.cons (ks:=[.str]) (ls:=[.int .i64,.int .i64,.int .i64,.int .i64]) (by decide) rfl (by kernel_rfl) (AQ Tryz.underlying9) (fun h=>by first|rfl|cases h) (Em Tryz.underlying9) (.cons (ks:=[.int .i64]) (ls:=[.int .i64,.int .i64,.int .i64]) (by decide) rfl (by kernel_rfl) (AQ Tryz.underlying3) (fun h=>by first|rfl|cases h) (AS Tryz.underlying3) (.cons (ks:=[.int .i64]) (ls:=[.int .i64,.int .i64]) (by decide) rfl (by kernel_rfl) (AQ Tryz.underlying3) (fun h=>by first|rfl|cases h) (AS Tryz.underlying3) (.cons (ks:=[.int .i64]) (ls:=[.int .i64]) (by decide) rfl (by kernel_rfl) (AQ Tryz.underlying3) (fun h=>by first|rfl|cases h) (AS Tryz.underlying3) (.cons (ks:=[.int .i64]) (ls:=[]) (by decide) rfl (by kernel_rfl) (AQ Tryz.underlying3) (fun h=>by first|rfl|cases h) (AS Tryz.underlying3) .nil))))),by kernel_rfl⟩),(fun τ h=>by cases h;exact ⟨rfl,by decide,rfl,rfl⟩),(fun τ h=>by cases h)⟩
theorem Tryz.fJ:TI.ok En.Dop.D4 Tryz.prog 56 ⟨9,80,.agg #[.int .i64 0,.int .i64 0,.int .i64 0,.int .i64 0,.int .i64 0,.string ⟨#[]⟩,.int .i64 0,.int .i64 0,.int .i64 0],[.v (.int .i64 0),.v (.int .i64 0),.v (.int .i64 0),.v (.int .i64 0),.v (.int .i64 0),.v (.string ⟨#[]⟩),.v (.int .i64 0),.v (.int .i64 0),.v (.int .i64 0)],.struct [(0,3,1),(1,3,1),(2,3,1),(3,3,1),(4,3,1),(5,9,1),(6,3,1),(7,3,1),(8,3,1)],some 5,some [.int .i64,.int .i64,.int .i64,.int .i64,.int .i64,.str,.int .i64,.int .i64,.int .i64],none⟩:=⟨by kernel_rfl,fun β=>by simp [AA,SV.den,Value.cells],fun N=>by simp [BI,SV.on],rfl,⟨_,Tryz.underlying56,rfl,rfl,by kernel_rfl,by decide,rfl,rfl,by kernel_rfl,by decide,rfl,rfl,by kernel_rfl,by decide,rfl,rfl,by kernel_rfl,by decide,rfl,rfl,by kernel_rfl,by decide,rfl,rfl,by kernel_rfl,by decide,rfl,rfl,by kernel_rfl,by decide,rfl,rfl,by kernel_rfl,by decide,rfl,rfl,by kernel_rfl,by decide,trivial⟩,(fun ks h=>by cases h;exact ⟨CD (d:=9999) (ks:=[.int .i64,.int .i64,.int .i64,.int .i64,.int .i64,.str,.int .i64,.int .i64,.int .i64]) Tryz.underlying56 (by kernel_rfl) (.cons (ks:=[.int .i64]) (ls:=[.int .i64,.int .i64,.int .i64,.int .i64,.str,.int .i64,.int .i64,.int .i64]) (by decide) rfl (by kernel_rfl) (AQ Tryz.underlying3) (fun h=>by first|rfl|cases h) (AS Tryz.underlying3) (.cons (ks:=[.int .i64]) (ls:=[.int .i64,.int .i64,.int .i64,.str,.int .i64,.int .i64,.int .i64]) (by decide) rfl (by kernel_rfl) (AQ Tryz.underlying3) (fun h=>by first|rfl|cases h) (AS Tryz.underlying3) (.cons (ks:=[.int .i64]) (ls:=[.int .i64,.int .i64,.str,.int .i64,.int .i64,.int .i64]) (by decide) rfl (by kernel_rfl) (AQ Tryz.underlying3) (fun h=>by first|rfl|cases h) (AS Tryz.underlying3) (.cons (ks:=[.int .i64]) (ls:=[.int .i64,.str,.int .i64,.int .i64,.int .i64]) (by decide) rfl (by kernel_rfl) (AQ Tryz.underlying3) (fun h=>by first|rfl|cases h) (AS Tryz.underlying3) (.cons (ks:=[.int .i64]) (ls:=[.str,.int .i64,.int .i64,.int .i64]) (by decide) rfl (by kernel_rfl) (AQ Tryz.underlying3) (fun h=>by first|rfl|cases h) (AS Tryz.underlying3) (.cons (ks:=[.str]) (ls:=[.int .i64,.int .i64,.int .i64]) (by decide) rfl (by kernel_rfl) (AQ Tryz.underlying9) (fun h=>by first|rfl|cases h) (Em Tryz.underlying9) (.cons (ks:=[.int .i64]) (ls:=[.int .i64,.int .i64]) (by decide) rfl (by kernel_rfl) (AQ Tryz.underlying3) (fun h=>by first|rfl|cases h) (AS Tryz.underlying3) (.cons (ks:=[.int .i64]) (ls:=[.int .i64]) (by decide) rfl (by kernel_rfl) (AQ Tryz.underlying3) (fun h=>by first|rfl|cases h) (AS Tryz.underlying3) (.cons (ks:=[.int .i64]) (ls:=[]) (by decide) rfl (by kernel_rfl) (AQ Tryz.underlying3) (fun h=>by first|rfl|cases h) (AS Tryz.underlying3) .nil))))))))),by kernel_rfl⟩),(fun τ h=>by cases h;exact ⟨rfl,by decide,rfl,rfl⟩),(fun τ h=>by cases h)⟩
theorem Tryz.fK:TI.ok En.Dop.D4 Tryz.prog 66 (Tryz.tr 66):=Ec (by kernel_rfl) ⟨Tryz.underlying66,by kernel_rfl⟩ (by kernel_rfl)
theorem Tryz.fL:TI.ok En.Dop.D4 Tryz.prog 67 (Tryz.tr 67):=W9 (τ0:=18) (by kernel_rfl) Tryz.underlying67 (by kernel_rfl) ⟨rfl,by decide,rfl,rfl⟩
theorem Tryz.fM:TI.ok En.Dop.D4 Tryz.prog 83 (Tryz.tr 83):=Ec (by kernel_rfl) ⟨_,Tryz.underlying83,rfl⟩ (by kernel_rfl)
theorem Tryz.fO:TI.ok En.Dop.D4 Tryz.prog 89 (Tryz.tr 89):=Ec (by kernel_rfl) Tryz.underlying89 (by kernel_rfl)
theorem Tryz.fP:TI.ok En.Dop.D4 Tryz.prog 91 (Tryz.tr 91):=Ec (by kernel_rfl) ⟨_,Tryz.underlying91,rfl,rfl,by kernel_rfl,by decide,rfl,rfl,by kernel_rfl,by decide,rfl,rfl,by kernel_rfl,by decide,rfl,rfl,by kernel_rfl,by decide,rfl,rfl,by kernel_rfl,by decide,rfl,rfl,by kernel_rfl,by decide,trivial⟩ (by kernel_rfl)
theorem Tryz.fQ:TI.ok En.Dop.D4 Tryz.prog 93 ⟨4,40,.agg #[.int .i64 0,.int .i64 0,.int .i64 0,.string ⟨#[]⟩],[.v (.int .i64 0),.v (.int .i64 0),.v (.int .i64 0),.v (.string ⟨#[]⟩)],.struct [(0,3,1),(1,3,1),(2,3,1),(3,9,1)],some 6,some [.int .i64,.int .i64,.int .i64,.str],none⟩:=⟨by kernel_rfl,fun β=>by simp [AA,SV.den,Value.cells],fun N=>by simp [BI,SV.on],rfl,⟨_,Tryz.underlying93,rfl,rfl,by kernel_rfl,by decide,rfl,rfl,by kernel_rfl,by decide,rfl,rfl,by kernel_rfl,by decide,rfl,rfl,by kernel_rfl,by decide,trivial⟩,(fun ks h=>by cases h;exact ⟨CD (d:=9999) (ks:=[.int .i64,.int .i64,.int .i64,.str]) Tryz.underlying93 (by kernel_rfl) (.cons (ks:=[.int .i64]) (ls:=[.int .i64,.int .i64,.str]) (by decide) rfl (by kernel_rfl) (AQ Tryz.underlying3) (fun h=>by first|rfl|cases h) (AS Tryz.underlying3) (.cons (ks:=[.int .i64]) (ls:=[.int .i64,.str]) (by decide) rfl (by kernel_rfl) (AQ Tryz.underlying3) (fun h=>by first|rfl|cases h) (AS Tryz.underlying3) (.cons (ks:=[.int .i64]) (ls:=[.str]) (by decide) rfl (by kernel_rfl) (AQ Tryz.underlying3) (fun h=>by first|rfl|cases h) (AS Tryz.underlying3) (.cons (ks:=[.str]) (ls:=[]) (by decide) rfl (by kernel_rfl) (AQ Tryz.underlying9) (fun h=>by first|rfl|cases h) (Em Tryz.underlying9) .nil)))),by kernel_rfl⟩),(fun τ h=>by cases h;exact ⟨rfl,by decide,rfl,rfl⟩),(fun τ h=>by cases h)⟩
theorem Tryz.fR:TI.ok En.Dop.D4 Tryz.prog 95 (Tryz.tr 95):=Ec (by kernel_rfl) ⟨_,Tryz.underlying95,rfl⟩ (by kernel_rfl)
theorem Tryz.cD:TI.ok En.Dop.D4 Tryz.prog 110 (Tryz.tr 110):=Ec (by kernel_rfl) ⟨_,Tryz.underlying110,rfl⟩ (by kernel_rfl)
theorem Tryz.cE:TI.ok En.Dop.D4 Tryz.prog 126 (Tryz.tr 126):=Ec (by kernel_rfl) Tryz.underlying126 (by kernel_rfl)
theorem Tryz.cF:TI.ok En.Dop.D4 Tryz.prog 127 (Tryz.tr 127):=Ec (by kernel_rfl) Tryz.underlying127 (by kernel_rfl)
theorem Tryz.cG:TI.ok En.Dop.D4 Tryz.prog 129 (Tryz.tr 129):=Ec (by kernel_rfl) Tryz.underlying129 (by kernel_rfl)
theorem Tryz.cH:TI.ok En.Dop.D4 Tryz.prog 130 (Tryz.tr 130):=Ec (by kernel_rfl) ⟨Tryz.underlying130,by kernel_rfl⟩ (by kernel_rfl)
theorem Tryz.cI:TI.ok En.Dop.D4 Tryz.prog 131 (Tryz.tr 131):=Ec (by kernel_rfl) Tryz.underlying131 (by kernel_rfl)
theorem Tryz.cJ:TI.ok En.Dop.D4 Tryz.prog 132 (Tryz.tr 132):=Ec (by kernel_rfl) Tryz.underlying132 (by kernel_rfl)
theorem Tryz.cK:TI.ok En.Dop.D4 Tryz.prog 133 (Tryz.tr 133):=Ec (by kernel_rfl) ⟨Tryz.underlying133,by kernel_rfl⟩ (by kernel_rfl)
theorem Tryz.cL:TI.ok En.Dop.D4 Tryz.prog 135 (Tryz.tr 135):=Ec (by kernel_rfl) ⟨_,Tryz.underlying135,rfl,rfl,by kernel_rfl,by decide,rfl,rfl,by kernel_rfl,by decide,rfl,rfl,by kernel_rfl,by decide,rfl,rfl,by kernel_rfl,by decide,rfl,rfl,by kernel_rfl,by decide,rfl,rfl,by kernel_rfl,by decide,rfl,rfl,by kernel_rfl,by decide,rfl,rfl,by kernel_rfl,by decide,rfl,rfl,by kernel_rfl,by decide,rfl,rfl,by kernel_rfl,by decide,rfl,rfl,by kernel_rfl,by decide,rfl,rfl,by kernel_rfl,by decide,rfl,rfl,by kernel_rfl,by decide,rfl,rfl,by kernel_rfl,by decide,rfl,rfl,by kernel_rfl,by decide,rfl,rfl,by kernel_rfl,by decide,trivial⟩ (by kernel_rfl)
theorem Tryz.cM:TI.ok En.Dop.D4 Tryz.prog 140 (Tryz.tr 140):=W9 (τ0:=15) (by kernel_rfl) ⟨_,Tryz.underlying140,rfl,rfl,by kernel_rfl,by decide,rfl,rfl,by kernel_rfl,by decide,trivial⟩ (by kernel_rfl) ⟨rfl,by decide,rfl,rfl⟩
theorem Tryz.cN:TI.ok En.Dop.D4 Tryz.prog 144 (Tryz.tr 144):=Ec (by kernel_rfl) ⟨_,Tryz.underlying144,rfl⟩ (by kernel_rfl)
theorem Tryz.cO:TI.ok En.Dop.D4 Tryz.prog 154 (Tryz.tr 154):=Ec (by kernel_rfl) ⟨_,Tryz.underlying154,rfl⟩ (by kernel_rfl)
theorem Tryz.cP:TI.ok En.Dop.D4 Tryz.prog 155 (Tryz.tr 155):=Ec (by kernel_rfl) ⟨_,Tryz.underlying155,rfl⟩ (by kernel_rfl)
theorem Tryz.cQ:TI.ok En.Dop.D4 Tryz.prog 166 (Tryz.tr 166):=Ec (by kernel_rfl) Tryz.underlying166 (by kernel_rfl)
theorem Tryz.cR:TI.ok En.Dop.D4 Tryz.prog 168 (Tryz.tr 168):=Ec (by kernel_rfl) ⟨_,Tryz.underlying168,rfl,rfl,by kernel_rfl,by decide,rfl,rfl,by kernel_rfl,by decide,trivial⟩ (by kernel_rfl)
theorem Tryz.cS:TI.ok En.Dop.D4 Tryz.prog 169 (Tryz.tr 169):=W9 (τ0:=17) (by kernel_rfl) ⟨Tryz.underlying169,by kernel_rfl⟩ (by kernel_rfl) ⟨rfl,by decide,rfl,rfl⟩
theorem Tryz.cT:TI.ok En.Dop.D4 Tryz.prog 171 ⟨2,24,.agg #[.string ⟨#[]⟩,.int .i64 0],[.v (.string ⟨#[]⟩),.v (.int .i64 0)],.struct [(0,9,1),(1,3,1)],some 16,some [.str,.int .i64],none⟩:=⟨by kernel_rfl,fun β=>by simp [AA,SV.den,Value.cells],fun N=>by simp [BI,SV.on],rfl,⟨_,Tryz.underlying171,rfl,rfl,by kernel_rfl,by decide,rfl,rfl,by kernel_rfl,by decide,trivial⟩,(fun ks h=>by cases h;exact ⟨CD (d:=9999) (ks:=[.str,.int .i64]) Tryz.underlying171 (by kernel_rfl) (.cons (ks:=[.str]) (ls:=[.int .i64]) (by decide) rfl (by kernel_rfl) (AQ Tryz.underlying9) (fun h=>by first|rfl|cases h) (Em Tryz.underlying9) (.cons (ks:=[.int .i64]) (ls:=[]) (by decide) rfl (by kernel_rfl) (AQ Tryz.underlying3) (fun h=>by first|rfl|cases h) (AS Tryz.underlying3) .nil)),by kernel_rfl⟩),(fun τ h=>by cases h;exact ⟨rfl,by decide,rfl,rfl⟩),(fun τ h=>by cases h)⟩
theorem Tryz.cU:TI.ok En.Dop.D4 Tryz.prog 174 ⟨5,40,.agg #[.int .i64 0,.int .i64 0,.int .i64 0,.int .i64 0,.bool false],[.v (.int .i64 0),.v (.int .i64 0),.v (.int .i64 0),.v (.int .i64 0),.v (.bool false)],.struct [(0,3,1),(1,3,1),(2,3,1),(3,3,1),(4,4,1)],some 10,some [.int .i64,.int .i64,.int .i64,.int .i64,.bool],none⟩:=⟨by kernel_rfl,fun β=>by simp [AA,SV.den,Value.cells],fun N=>by simp [BI,SV.on],rfl,⟨_,Tryz.underlying174,rfl,rfl,by kernel_rfl,by decide,rfl,rfl,by kernel_rfl,by decide,rfl,rfl,by kernel_rfl,by decide,rfl,rfl,by kernel_rfl,by decide,rfl,rfl,by kernel_rfl,by decide,trivial⟩,(fun ks h=>by cases h;exact ⟨CD (d:=9999) (ks:=[.int .i64,.int .i64,.int .i64,.int .i64,.bool]) Tryz.underlying174 (by kernel_rfl) (.cons (ks:=[.int .i64]) (ls:=[.int .i64,.int .i64,.int .i64,.bool]) (by decide) rfl (by kernel_rfl) (AQ Tryz.underlying3) (fun h=>by first|rfl|cases h) (AS Tryz.underlying3) (.cons (ks:=[.int .i64]) (ls:=[.int .i64,.int .i64,.bool]) (by decide) rfl (by kernel_rfl) (AQ Tryz.underlying3) (fun h=>by first|rfl|cases h) (AS Tryz.underlying3) (.cons (ks:=[.int .i64]) (ls:=[.int .i64,.bool]) (by decide) rfl (by kernel_rfl) (AQ Tryz.underlying3) (fun h=>by first|rfl|cases h) (AS Tryz.underlying3) (.cons (ks:=[.int .i64]) (ls:=[.bool]) (by decide) rfl (by kernel_rfl) (AQ Tryz.underlying3) (fun h=>by first|rfl|cases h) (AS Tryz.underlying3) (.cons (ks:=[.bool]) (ls:=[]) (by decide) rfl (by kernel_rfl) (AQ Tryz.underlying4) (fun h=>by first|rfl|cases h) (Q8 Tryz.underlying4) .nil))))),by kernel_rfl⟩),(fun τ h=>by cases h;exact ⟨rfl,by decide,rfl,rfl⟩),(fun τ h=>by cases h)⟩
theorem Tryz.cV:TI.ok En.Dop.D4 Tryz.prog 178 ⟨3,24,.agg #[.int .i64 0,.int .i64 0,.int .i64 0],[.v (.int .i64 0),.v (.int .i64 0),.v (.int .i64 0)],.struct [(0,3,1),(1,3,1),(2,3,1)],some 9,some [.int .i64,.int .i64,.int .i64],none⟩:=⟨by kernel_rfl,fun β=>by simp [AA,SV.den,Value.cells],fun N=>by simp [BI,SV.on],rfl,⟨_,Tryz.underlying178,rfl,rfl,by kernel_rfl,by decide,rfl,rfl,by kernel_rfl,by decide,rfl,rfl,by kernel_rfl,by decide,trivial⟩,(fun ks h=>by cases h;exact ⟨CD (d:=9999) (ks:=[.int .i64,.int .i64,.int .i64]) Tryz.underlying178 (by kernel_rfl) (.cons (ks:=[.int .i64]) (ls:=[.int .i64,.int .i64]) (by decide) rfl (by kernel_rfl) (AQ Tryz.underlying3) (fun h=>by first|rfl|cases h) (AS Tryz.underlying3) (.cons (ks:=[.int .i64]) (ls:=[.int .i64]) (by decide) rfl (by kernel_rfl) (AQ Tryz.underlying3) (fun h=>by first|rfl|cases h) (AS Tryz.underlying3) (.cons (ks:=[.int .i64]) (ls:=[]) (by decide) rfl (by kernel_rfl) (AQ Tryz.underlying3) (fun h=>by first|rfl|cases h) (AS Tryz.underlying3) .nil))),by kernel_rfl⟩),(fun τ h=>by cases h;exact ⟨rfl,by decide,rfl,rfl⟩),(fun τ h=>by cases h)⟩
theorem Tryz.cW:TI.ok En.Dop.D4 Tryz.prog 184 (Tryz.tr 184):=Ec (by kernel_rfl) Tryz.underlying184 (by kernel_rfl)
theorem Tryz.cX:TI.ok En.Dop.D4 Tryz.prog 213 (Tryz.tr 213):=Ec (by kernel_rfl) Tryz.underlying213 (by kernel_rfl)
theorem Tryz.cY:TI.ok En.Dop.D4 Tryz.prog 214 (Tryz.tr 214):=W9 (τ0:=8) (by kernel_rfl) ⟨Tryz.underlying214,by kernel_rfl⟩ (by kernel_rfl) ⟨rfl,by decide,rfl,rfl⟩
theorem Tryz.cZ:TI.ok En.Dop.D4 Tryz.prog 217 (Tryz.tr 217):=Ec (by kernel_rfl) Tryz.underlying217 (by kernel_rfl)
theorem Tryz.cb:TI.ok En.Dop.D4 Tryz.prog 246 (Tryz.tr 246):=Ec (by kernel_rfl) ⟨_,Tryz.underlying246,rfl⟩ (by kernel_rfl)
theorem Tryz.cd:TI.ok En.Dop.D4 Tryz.prog 264 (Tryz.tr 264):=Ec (by kernel_rfl) ⟨_,Tryz.underlying264,rfl⟩ (by kernel_rfl)
theorem Tryz.cg:TI.ok En.Dop.D4 Tryz.prog 265 (Tryz.tr 265):=Ec (by kernel_rfl) ⟨_,Tryz.underlying265,rfl⟩ (by kernel_rfl)
theorem Tryz.cj:TI.ok En.Dop.D4 Tryz.prog 267 (Tryz.tr 267):=W9 (τ0:=14) (by kernel_rfl) ⟨Tryz.underlying267,by kernel_rfl⟩ (by kernel_rfl) ⟨rfl,by decide,rfl,rfl⟩
theorem Tryz.cm:TI.ok En.Dop.D4 Tryz.prog 268 (Tryz.tr 268):=Ec (by kernel_rfl) Tryz.underlying268 (by kernel_rfl)
theorem Tryz.cp:TI.ok En.Dop.D4 Tryz.prog 290 (Tryz.tr 290):=Ec (by kernel_rfl) ⟨_,Tryz.underlying290,rfl⟩ (by kernel_rfl)
theorem Tryz.cq:TI.ok En.Dop.D4 Tryz.prog 298 (Tryz.tr 298):=Ec (by kernel_rfl) ⟨_,Tryz.underlying298,rfl,rfl,by kernel_rfl,by decide,rfl,rfl,by kernel_rfl,by decide,rfl,rfl,by kernel_rfl,by decide,rfl,rfl,by kernel_rfl,by decide,trivial⟩ (by kernel_rfl)
set_option maxRecDepth 100000 in
theorem Tryz.AJ:AT En.Dop.D4 Tryz.prog Tryz.tb:=
 ⟨Tryz.gg,Tryz.gi,Tryz.gj,Tryz.gk,Tryz.gl,Tryz.gm,Tryz.gn,Tryz.gp,Tryz.gq,Tryz.eZ,Tryz.eb,Tryz.ec,Tryz.ed,Tryz.ee,Tryz.ef,Tryz.eh,Tryz.en,Tryz.eo,Tryz.er,Tryz.eu,Tryz.ew,Tryz.ey,Tryz.ez,Tryz.fA,Tryz.fB,Tryz.fC,Tryz.fD,Tryz.fE,Tryz.fF,Tryz.fG,Tryz.fH,Tryz.fI,Tryz.fJ,Tryz.fK,Tryz.fL,Tryz.fM,Tryz.fO,Tryz.fP,Tryz.fQ,Tryz.fR,Tryz.cD,Tryz.cE,Tryz.cF,Tryz.cG,Tryz.cH,Tryz.cI,Tryz.cJ,Tryz.cK,Tryz.cL,Tryz.cM,Tryz.cN,Tryz.cO,Tryz.cP,Tryz.cQ,Tryz.cR,Tryz.cS,Tryz.cT,Tryz.cU,Tryz.cV,Tryz.cW,Tryz.cX,Tryz.cY,Tryz.cZ,Tryz.cb,Tryz.cd,Tryz.cg,Tryz.cj,Tryz.cm,Tryz.cp,Tryz.cq,trivial⟩
end Go.Proofs
