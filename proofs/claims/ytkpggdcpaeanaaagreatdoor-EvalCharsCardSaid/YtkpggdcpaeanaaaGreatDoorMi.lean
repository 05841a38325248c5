/- Functions that call one another: models by fuel, contracts at whatever fuel. -/
import Derived.Test.YtkpggdcpaeanaaaGreatDoorMf
import Derived.Test.YtkpggdcpaeanaaaGreatDoorProg
import Derived.Test.YtkpggdcpaeanaaaGreatDoorMc
namespace Go.En
open Go.RowKit
def FU:Nat:=1000000000
section
variable {S:Am} {P:Program}
theorem SW {c c':Bw S} (h:c'.Holds P) (e:c=c'):c.Holds P:=e▸h
theorem Ab {l m:List (Bw S)} (h: ∀ c∈l,c.Holds P) (k: ∀ c∈m,c.Holds P): ∀ c∈l++m,c.Holds P:=fun c hc=>(List.mem_append.1 hc).elim (h c) (k c)
theorem AO {f:Nat} {tb:List (Nat×TI)} {p:Ag} (htb:AW S P tb) (h:AF S P f p=true):Bw.Holds (S:=S) P ⟨f,p.bn,p.sp,p.rs,p.flat,.opt fun _=>none⟩:=by
 obtain ⟨h1,h2,h3,_⟩:=Ev (P:=P) (S:=S) (f:=f) (p:=p) 0 htb CC h
 exact ⟨h1,h2,h3,fun x y hxy=>by cases hxy⟩
end
def Le {α:Type} (a b:Option α):Prop:= ∀ y,a=some y->b=some y
section
variable {α β:Type}
theorem le_refl {a:Option α}:Le a a:=fun _ h=>h
end
end Go.En
namespace Go.Proofs
open Go Go.En
section
variable {S:Am} {P:Program} {T:Nat} {t:TI}
theorem SX (β:Nat->Nm): ∀ l:List Value,AA β (l.map SV.v)=l
 | []=>by simp [AA]
 | x::r=>by simp [AA,SV.den,SX β r]
theorem bY (N:Nat->Prop) (l:List Value):BM N (l.map SV.v):=Aw.2 fun x hx=>by obtain ⟨v,_,rfl⟩:=List.mem_map.1 hx;trivial
theorem D9 (h:((P.info? T).map (fun i=>(i.zero,i.size,i.bytes)),t.zc,t.zc.length)=(some (some t.z,t.sz,t.bs),t.z.cells.toList.map SV.v,t.sz)) (hd:t.d.ok P T) (h2:(t.eq,t.τ,t.δ)=(none,none,none)):TI.ok S P T t:=by
 simp only [Prod.mk.injEq] at h h2
 exact ⟨h.1,fun β=>by rw [h.2.1,SX],fun N=>by rw [h.2.1];exact bY N _,h.2.2,hd,fun ks g=>(by rw [h2.1] at g;cases g),fun τ g=>(by rw [h2.2.1] at g;cases g),fun τ g=>(by rw [h2.2.2] at g;cases g)⟩
theorem Vp {τ0:Nat} (h:((P.info? T).map (fun i=>(i.zero,i.size,i.bytes)),t.zc,t.zc.length)=(some (some t.z,t.sz,t.bs),t.z.cells.toList.map SV.v,t.sz)) (hd:t.d.ok P T) (h2:(t.eq,t.τ,t.δ)=(none,some τ0,none)) (h3:S.sz τ0=t.sz/\0<t.sz/\S.enc τ0 (S.Ay τ0)=(S.fds τ0).map Fd.Om/\t.z.cells.toList=(S.fds τ0).map Fd.zeroV):TI.ok S P T t:=by
 simp only [Prod.mk.injEq] at h h2
 exact ⟨h.1,fun β=>by rw [h.2.1,SX],fun N=>by rw [h.2.1];exact bY N _,h.2.2,hd,fun ks g=>(by rw [h2.1] at g;cases g),fun τ g=>(by rw [h2.2.1] at g;cases g;exact h3),fun τ g=>(by rw [h2.2.2] at g;cases g)⟩
end
def Tryz.tb:List (Nat×TI):=[
 (1,⟨1,8,.nilFunc,[.v (.nilFunc)],.other,none,none,none⟩),
 (2,⟨1,8,.int .i64 0,[.v (.int .i64 0)],.int .i64,none,none,none⟩),
 (3,⟨1,8,.int .i64 0,[.v (.int .i64 0)],.int .i64,some 0,none,none⟩),
 (4,⟨1,1,.bool false,[.v (.bool false)],.bool,some 2,none,none⟩),
 (5,⟨1,1,.int .u8 0,[.v (.int .u8 0)],.int .u8,some 3,none,none⟩),
 (6,⟨1,1,.int .u8 0,[.v (.int .u8 0)],.int .u8,none,none,none⟩),
 (7,⟨4,24,.agg #[.int .i64 0,.int .i64 0,.bool false,.int .u8 0],[.v (.int .i64 0),.v (.int .i64 0),.v (.bool false),.v (.int .u8 0)],.struct [(0,2,1),(1,3,1),(2,4,1),(3,6,1)],none,none,none⟩),
 (8,⟨4,24,.agg #[.int .i64 0,.int .i64 0,.bool false,.int .u8 0],[.v (.int .i64 0),.v (.int .i64 0),.v (.bool false),.v (.int .u8 0)],.struct [(0,2,1),(1,3,1),(2,4,1),(3,6,1)],none,none,none⟩),
 (9,⟨1,16,.string ⟨#[]⟩,[.v (.string ⟨#[]⟩)],.str,some 1,none,none⟩),
 (10,⟨1,16,.string ⟨#[]⟩,[.v (.string ⟨#[]⟩)],.str,none,none,none⟩),
 (11,⟨1,16,.string ⟨#[]⟩,[.v (.string ⟨#[]⟩)],.str,none,none,none⟩),
 (12,⟨1,8,.int .u64 0,[.v (.int .u64 0)],.int .u64,none,none,none⟩),
 (13,⟨2,24,.agg #[.string ⟨#[]⟩,.int .u64 0],[.v (.string ⟨#[]⟩),.v (.int .u64 0)],.struct [(0,9,1),(1,12,1)],none,none,none⟩),
 (14,⟨2,24,.agg #[.string ⟨#[]⟩,.int .u64 0],[.v (.string ⟨#[]⟩),.v (.int .u64 0)],.struct [(0,9,1),(1,12,1)],none,none,none⟩),
 (15,⟨1,8,.pointer none,[.v (.pointer none)],.ptr 298,none,none,none⟩),
 (16,⟨1,8,.pointer none,[.v (.pointer none)],.ptr 301,none,none,none⟩),
 (17,⟨1,8,.pointer none,[.v (.pointer none)],.ptr 308,none,none,none⟩),
 (21,⟨1,4,.int .i32 0,[.v (.int .i32 0)],.int .i32,none,none,none⟩),
 (23,⟨1,24,.slice none 0 0,[.v (.slice none 0 0)],.slice 52 5,none,none,none⟩),
 (24,⟨1,24,.slice none 0 0,[.v (.slice none 0 0)],.slice 32 4,none,none,none⟩),
 (25,⟨1,24,.slice none 0 0,[.v (.slice none 0 0)],.slice 56 9,none,none,none⟩),
 (27,⟨4,80,.agg #[.slice none 0 0,.slice none 0 0,.int .i64 0,.slice none 0 0],[.v (.slice none 0 0),.v (.slice none 0 0),.v (.int .i64 0),.v (.slice none 0 0)],.struct [(0,23,1),(1,24,1),(2,3,1),(3,25,1)],some 13,none,none⟩),
 (28,⟨1,8,.int .i64 0,[.v (.int .i64 0)],.int .i64,none,none,none⟩),
 (32,⟨4,40,.agg #[.string ⟨#[]⟩,.int .i64 0,.int .i64 0,.int .i64 0],[.v (.string ⟨#[]⟩),.v (.int .i64 0),.v (.int .i64 0),.v (.int .i64 0)],.struct [(0,9,1),(1,3,1),(2,3,1),(3,3,1)],some 12,some [.str,.int .i64,.int .i64,.int .i64],none⟩),
 (34,⟨1,24,.slice none 0 0,[.v (.slice none 0 0)],.slice 38 4,none,none,none⟩),
 (38,⟨4,40,.agg #[.int .i64 0,.string ⟨#[]⟩,.int .i64 0,.int .i64 0],[.v (.int .i64 0),.v (.string ⟨#[]⟩),.v (.int .i64 0),.v (.int .i64 0)],.struct [(0,3,1),(1,9,1),(2,3,1),(3,3,1)],some 4,some [.int .i64,.str,.int .i64,.int .i64],none⟩),
 (39,⟨1,24,.slice none 0 0,[.v (.slice none 0 0)],.slice 93 4,none,none,none⟩),
 (41,⟨3,56,.agg #[.slice none 0 0,.slice none 0 0,.int .i64 0],[.v (.slice none 0 0),.v (.slice none 0 0),.v (.int .i64 0)],.struct [(0,25,1),(1,39,1),(2,3,1)],some 7,none,none⟩),
 (44,⟨1,24,.slice none 0 0,[.v (.slice none 0 0)],.slice 9 1,none,none,none⟩),
 (46,⟨1,8,.nilFunc,[.v (.nilFunc)],.other,none,none,none⟩),
 (47,⟨1,8,.nilFunc,[.v (.nilFunc)],.other,none,none,none⟩),
 (52,⟨5,48,.agg #[.string ⟨#[]⟩,.int .i64 0,.int .i64 0,.int .i64 0,.int .i64 0],[.v (.string ⟨#[]⟩),.v (.int .i64 0),.v (.int .i64 0),.v (.int .i64 0),.v (.int .i64 0)],.struct [(0,9,1),(1,3,1),(2,3,1),(3,3,1),(4,3,1)],some 11,some [.str,.int .i64,.int .i64,.int .i64,.int .i64],none⟩),
 (56,⟨9,80,.agg #[.int .i64 0,.int .i64 0,.int .i64 0,.int .i64 0,.int .i64 0,.string ⟨#[]⟩,.int .i64 0,.int .i64 0,.int .i64 0],[.v (.int .i64 0),.v (.int .i64 0),.v (.int .i64 0),.v (.int .i64 0),.v (.int .i64 0),.v (.string ⟨#[]⟩),.v (.int .i64 0),.v (.int .i64 0),.v (.int .i64 0)],.struct [(0,3,1),(1,3,1),(2,3,1),(3,3,1),(4,3,1),(5,9,1),(6,3,1),(7,3,1),(8,3,1)],some 5,some [.int .i64,.int .i64,.int .i64,.int .i64,.int .i64,.str,.int .i64,.int .i64,.int .i64],none⟩),
 (59,⟨1,24,.slice none 0 0,[.v (.slice none 0 0)],.slice 5 1,none,none,none⟩),
 (61,⟨3,40,.agg #[.int .i64 0,.int .i64 0,.slice none 0 0],[.v (.int .i64 0),.v (.int .i64 0),.v (.slice none 0 0)],.struct [(0,3,1),(1,3,1),(2,59,1)],some 19,none,none⟩),
 (66,⟨1,24,.slice none 0 0,[.v (.slice none 0 0)],.slice 3 1,none,none,none⟩),
 (67,⟨1,8,.int .i64 0,[.v (.int .i64 0)],.int .i64,some 18,none,none⟩),
 (83,⟨1,8,.nilFunc,[.v (.nilFunc)],.other,none,none,none⟩),
 (89,⟨1,8,.pointer none,[.v (.pointer none)],.ptr 91,none,none,none⟩),
 (91,⟨8,112,.agg #[.slice none 0 0,.int .i64 0,.slice none 0 0,.slice none 0 0,.int .i64 0,.int .i64 0,.int .i64 0,.int .i64 0],[.v (.slice none 0 0),.v (.int .i64 0),.v (.slice none 0 0),.v (.slice none 0 0),.v (.int .i64 0),.v (.int .i64 0),.v (.int .i64 0),.v (.int .i64 0)],.struct [(0,34,1),(1,3,1),(2,41,3),(5,3,1),(6,28,1),(7,3,1)],none,none,none⟩),
 (93,⟨4,40,.agg #[.int .i64 0,.int .i64 0,.int .i64 0,.string ⟨#[]⟩],[.v (.int .i64 0),.v (.int .i64 0),.v (.int .i64 0),.v (.string ⟨#[]⟩)],.struct [(0,3,1),(1,3,1),(2,3,1),(3,9,1)],some 6,some [.int .i64,.int .i64,.int .i64,.str],none⟩),
 (95,⟨1,8,.nilFunc,[.v (.nilFunc)],.other,none,none,none⟩),
 (110,⟨1,8,.nilFunc,[.v (.nilFunc)],.other,none,none,none⟩),
 (118,⟨1,8,.pointer none,[.v (.pointer none)],.ptr 121,none,none,none⟩),
 (119,⟨1,8,.map none,[.v (.map none)],.map 3 132,none,none,none⟩),
 (121,⟨13,200,.agg #[.slice none 0 0,.slice none 0 0,.int .i64 0,.slice none 0 0,.slice none 0 0,.int .i64 0,.slice none 0 0,.slice none 0 0,.int .i64 0,.int .i64 0,.int .i64 0,.int .i64 0,.map none],[.v (.slice none 0 0),.v (.slice none 0 0),.v (.int .i64 0),.v (.slice none 0 0),.v (.slice none 0 0),.v (.int .i64 0),.v (.slice none 0 0),.v (.slice none 0 0),.v (.int .i64 0),.v (.int .i64 0),.v (.int .i64 0),.v (.int .i64 0),.v (.map none)],.struct [(0,27,4),(4,66,1),(5,3,1),(6,59,1),(7,59,1),(8,3,1),(9,3,1),(10,3,1),(11,3,1),(12,119,1)],none,none,none⟩),
 (126,⟨1,8,.pointer none,[.v (.pointer none)],.ptr 135,none,none,none⟩),
 (127,⟨1,8,.pointer none,[.v (.pointer none)],.ptr 168,none,none,none⟩),
 (129,⟨1,8,.map none,[.v (.map none)],.map 9 178,none,none,none⟩),
 (130,⟨1,24,.slice none 0 0,[.v (.slice none 0 0)],.slice 129 1,none,none,none⟩),
 (131,⟨1,8,.map none,[.v (.map none)],.map 9 140,none,none,none⟩),
 (132,⟨1,8,.map none,[.v (.map none)],.map 9 3,none,none,none⟩),
 (133,⟨1,24,.slice none 0 0,[.v (.slice none 0 0)],.slice 217 1,none,none,none⟩),
 (135,⟨25,336,.agg #[.slice none 0 0,.slice none 0 0,.int .i64 0,.pointer none,.slice none 0 0,.slice none 0 0,.slice none 0 0,.int .i64 0,.slice none 0 0,.slice none 0 0,.map none,.map none,.string ⟨#[]⟩,.int .i64 0,.int .i64 0,.int .i64 0,.int .i64 0,.int .i64 0,.map none,.map none,.int .i64 0,.slice none 0 0,.int .i64 0,.int .i64 0,.int .i64 0],[.v (.slice none 0 0),.v (.slice none 0 0),.v (.int .i64 0),.v (.pointer none),.v (.slice none 0 0),.v (.slice none 0 0),.v (.slice none 0 0),.v (.int .i64 0),.v (.slice none 0 0),.v (.slice none 0 0),.v (.map none),.v (.map none),.v (.string ⟨#[]⟩),.v (.int .i64 0),.v (.int .i64 0),.v (.int .i64 0),.v (.int .i64 0),.v (.int .i64 0),.v (.map none),.v (.map none),.v (.int .i64 0),.v (.slice none 0 0),.v (.int .i64 0),.v (.int .i64 0),.v (.int .i64 0)],.struct [(0,41,3),(3,127,1),(4,66,1),(5,27,4),(9,130,1),(10,131,1),(11,132,1),(12,52,5),(17,3,1),(18,132,1),(19,132,1),(20,3,1),(21,133,1),(22,3,1),(23,28,1),(24,3,1)],none,none,none⟩),
 (140,⟨2,32,.agg #[.slice none 0 0,.int .i64 0],[.v (.slice none 0 0),.v (.int .i64 0)],.struct [(0,66,1),(1,3,1)],some 15,none,none⟩),
 (144,⟨1,8,.nilFunc,[.v (.nilFunc)],.other,none,none,none⟩),
 (154,⟨1,8,.nilFunc,[.v (.nilFunc)],.other,none,none,none⟩),
 (155,⟨1,8,.nilFunc,[.v (.nilFunc)],.other,none,none,none⟩),
 (161,⟨1,8,.pointer none,[.v (.pointer none)],.ptr 163,none,none,none⟩),
 (163,⟨11,120,.agg #[.string ⟨#[]⟩,.int .i64 0,.int .i64 0,.int .i64 0,.int .i64 0,.slice none 0 0,.int .i64 0,.int .i64 0,.string ⟨#[]⟩,.int .i64 0,.int .i64 0],[.v (.string ⟨#[]⟩),.v (.int .i64 0),.v (.int .i64 0),.v (.int .i64 0),.v (.int .i64 0),.v (.slice none 0 0),.v (.int .i64 0),.v (.int .i64 0),.v (.string ⟨#[]⟩),.v (.int .i64 0),.v (.int .i64 0)],.struct [(0,52,5),(5,66,1),(6,3,1),(7,3,1),(8,9,1),(9,3,1),(10,3,1)],none,none,none⟩),
 (166,⟨1,8,.map none,[.v (.map none)],.map 9 169,none,none,none⟩),
 (168,⟨2,32,.agg #[.slice none 0 0,.map none],[.v (.slice none 0 0),.v (.map none)],.struct [(0,39,1),(1,166,1)],none,none,none⟩),
 (169,⟨1,24,.slice none 0 0,[.v (.slice none 0 0)],.slice 171 2,some 17,none,none⟩),
 (171,⟨2,24,.agg #[.string ⟨#[]⟩,.int .i64 0],[.v (.string ⟨#[]⟩),.v (.int .i64 0)],.struct [(0,9,1),(1,3,1)],some 16,some [.str,.int .i64],none⟩),
 (174,⟨5,40,.agg #[.int .i64 0,.int .i64 0,.int .i64 0,.int .i64 0,.bool false],[.v (.int .i64 0),.v (.int .i64 0),.v (.int .i64 0),.v (.int .i64 0),.v (.bool false)],.struct [(0,3,1),(1,3,1),(2,3,1),(3,3,1),(4,4,1)],some 10,some [.int .i64,.int .i64,.int .i64,.int .i64,.bool],none⟩),
 (176,⟨1,8,.nilFunc,[.v (.nilFunc)],.other,none,none,none⟩),
 (178,⟨3,24,.agg #[.int .i64 0,.int .i64 0,.int .i64 0],[.v (.int .i64 0),.v (.int .i64 0),.v (.int .i64 0)],.struct [(0,3,1),(1,3,1),(2,3,1)],some 9,some [.int .i64,.int .i64,.int .i64],none⟩),
 (184,⟨1,8,.map none,[.v (.map none)],.map 5 3,none,none,none⟩),
 (213,⟨1,4,.int .u32 0,[.v (.int .u32 0)],.int .u32,none,none,none⟩),
 (214,⟨4,32,.agg #[.int .i64 0,.int .i64 0,.int .i64 0,.int .i64 0],[.v (.int .i64 0),.v (.int .i64 0),.v (.int .i64 0),.v (.int .i64 0)],.array 4 3 1,some 8,none,none⟩),
 (217,⟨1,8,.map none,[.v (.map none)],.map 3 3,none,none,none⟩),
 (246,⟨1,8,.nilFunc,[.v (.nilFunc)],.other,none,none,none⟩),
 (260,⟨1,8,.pointer none,[.v (.pointer none)],.ptr 3,none,none,none⟩),
 (264,⟨1,8,.nilFunc,[.v (.nilFunc)],.other,none,none,none⟩),
 (265,⟨1,8,.nilFunc,[.v (.nilFunc)],.other,none,none,none⟩),
 (267,⟨2,16,.agg #[.int .i64 0,.int .i64 0],[.v (.int .i64 0),.v (.int .i64 0)],.array 2 67 1,some 14,none,none⟩),
 (268,⟨1,8,.map none,[.v (.map none)],.map 9 267,none,none,none⟩),
 (290,⟨1,8,.nilFunc,[.v (.nilFunc)],.other,none,none,none⟩),
 (298,⟨4,40,.agg #[.pointer none,.pointer none,.pointer none,.string ⟨#[]⟩],[.v (.pointer none),.v (.pointer none),.v (.pointer none),.v (.string ⟨#[]⟩)],.struct [(0,17,1),(1,17,1),(2,17,1),(3,9,1)],none,none,none⟩)]
def Tryz.tr (k:Nat):TI:=match lk Tryz.tb k with
 | some x=>x
 | none=>⟨0,0,.nilFunc,[],.other,none,none,none⟩
theorem Tryz.lW:TI.ok En.Dop.D4 Tryz.prog 1 (Tryz.tr 1):=D9 (by kernel_rfl) ⟨_,Tryz.underlying1,rfl⟩ (by kernel_rfl)
theorem Tryz.lX:TI.ok En.Dop.D4 Tryz.prog 2 (Tryz.tr 2):=D9 (by kernel_rfl) Tryz.underlying2 (by kernel_rfl)
theorem Tryz.lY:TI.ok En.Dop.D4 Tryz.prog 3 (Tryz.tr 3):=Vp (τ0:=0) (by kernel_rfl) Tryz.underlying3 (by kernel_rfl) ⟨rfl,by decide,rfl,rfl⟩
theorem Tryz.lZ:TI.ok En.Dop.D4 Tryz.prog 4 (Tryz.tr 4):=Vp (τ0:=2) (by kernel_rfl) Tryz.underlying4 (by kernel_rfl) ⟨rfl,by decide,rfl,rfl⟩
theorem Tryz.la:TI.ok En.Dop.D4 Tryz.prog 5 (Tryz.tr 5):=Vp (τ0:=3) (by kernel_rfl) Tryz.underlying5 (by kernel_rfl) ⟨rfl,by decide,rfl,rfl⟩
theorem Tryz.lf:TI.ok En.Dop.D4 Tryz.prog 6 (Tryz.tr 6):=D9 (by kernel_rfl) Tryz.underlying6 (by kernel_rfl)
theorem Tryz.lg:TI.ok En.Dop.D4 Tryz.prog 7 (Tryz.tr 7):=D9 (by kernel_rfl) ⟨_,Tryz.underlying7,rfl,rfl,by kernel_rfl,by decide,rfl,rfl,by kernel_rfl,by decide,rfl,rfl,by kernel_rfl,by decide,rfl,rfl,by kernel_rfl,by decide,trivial⟩ (by kernel_rfl)
theorem Tryz.lh:TI.ok En.Dop.D4 Tryz.prog 8 (Tryz.tr 8):=D9 (by kernel_rfl) ⟨_,Tryz.underlying8,rfl,rfl,by kernel_rfl,by decide,rfl,rfl,by kernel_rfl,by decide,rfl,rfl,by kernel_rfl,by decide,rfl,rfl,by kernel_rfl,by decide,trivial⟩ (by kernel_rfl)
theorem Tryz.ln:TI.ok En.Dop.D4 Tryz.prog 9 (Tryz.tr 9):=Vp (τ0:=1) (by kernel_rfl) Tryz.underlying9 (by kernel_rfl) ⟨rfl,by decide,rfl,rfl⟩
theorem Tryz.jU:TI.ok En.Dop.D4 Tryz.prog 10 (Tryz.tr 10):=D9 (by kernel_rfl) Tryz.underlying10 (by kernel_rfl)
theorem Tryz.jV:TI.ok En.Dop.D4 Tryz.prog 11 (Tryz.tr 11):=D9 (by kernel_rfl) Tryz.underlying11 (by kernel_rfl)
theorem Tryz.jW:TI.ok En.Dop.D4 Tryz.prog 12 (Tryz.tr 12):=D9 (by kernel_rfl) Tryz.underlying12 (by kernel_rfl)
theorem Tryz.jX:TI.ok En.Dop.D4 Tryz.prog 13 (Tryz.tr 13):=D9 (by kernel_rfl) ⟨_,Tryz.underlying13,rfl,rfl,by kernel_rfl,by decide,rfl,rfl,by kernel_rfl,by decide,trivial⟩ (by kernel_rfl)
theorem Tryz.jY:TI.ok En.Dop.D4 Tryz.prog 14 (Tryz.tr 14):=D9 (by kernel_rfl) ⟨_,Tryz.underlying14,rfl,rfl,by kernel_rfl,by decide,rfl,rfl,by kernel_rfl,by decide,trivial⟩ (by kernel_rfl)
theorem Tryz.jZ:TI.ok En.Dop.D4 Tryz.prog 15 (Tryz.tr 15):=D9 (by kernel_rfl) Tryz.underlying15 (by kernel_rfl)
theorem Tryz.ja:TI.ok En.Dop.D4 Tryz.prog 16 (Tryz.tr 16):=D9 (by kernel_rfl) Tryz.underlying16 (by kernel_rfl)
theorem Tryz.jb:TI.ok En.Dop.D4 Tryz.prog 17 (Tryz.tr 17):=D9 (by kernel_rfl) Tryz.underlying17 (by kernel_rfl)
theorem Tryz.jc:TI.ok En.Dop.D4 Tryz.prog 21 (Tryz.tr 21):=D9 (by kernel_rfl) Tryz.underlying21 (by kernel_rfl)
theorem Tryz.jd:TI.ok En.Dop.D4 Tryz.prog 23 (Tryz.tr 23):=D9 (by kernel_rfl) ⟨Tryz.underlying23,by kernel_rfl⟩ (by kernel_rfl)
theorem Tryz.je:TI.ok En.Dop.D4 Tryz.prog 24 (Tryz.tr 24):=D9 (by kernel_rfl) ⟨Tryz.underlying24,by kernel_rfl⟩ (by kernel_rfl)
theorem Tryz.jf:TI.ok En.Dop.D4 Tryz.prog 25 (Tryz.tr 25):=D9 (by kernel_rfl) ⟨Tryz.underlying25,by kernel_rfl⟩ (by kernel_rfl)
theorem Tryz.jg:TI.ok En.Dop.D4 Tryz.prog 27 (Tryz.tr 27):=Vp (τ0:=13) (by kernel_rfl) ⟨_,Tryz.underlying27,rfl,rfl,by kernel_rfl,by decide,rfl,rfl,by kernel_rfl,by decide,rfl,rfl,by kernel_rfl,by decide,rfl,rfl,by kernel_rfl,by decide,trivial⟩ (by kernel_rfl) ⟨rfl,by decide,rfl,rfl⟩
theorem Tryz.jh:TI.ok En.Dop.D4 Tryz.prog 28 (Tryz.tr 28):=D9 (by kernel_rfl) Tryz.underlying28 (by kernel_rfl)
theorem Tryz.ji:TI.ok En.Dop.D4 Tryz.prog 32 ⟨4,40,.agg #[.string ⟨#[]⟩,.int .i64 0,.int .i64 0,.int .i64 0],[.v (.string ⟨#[]⟩),.v (.int .i64 0),.v (.int .i64 0),.v (.int .i64 0)],.struct [(0,9,1),(1,3,1),(2,3,1),(3,3,1)],some 12,some [.str,.int .i64,.int .i64,.int .i64],none⟩:=⟨by kernel_rfl,fun β=>by simp [AA,SV.den,Value.cells],fun N=>by simp [BM,SV.on],rfl,⟨_,Tryz.underlying32,rfl,rfl,by kernel_rfl,by decide,rfl,rfl,by kernel_rfl,by decide,rfl,rfl,by kernel_rfl,by decide,rfl,rfl,by kernel_rfl,by decide,trivial⟩,(fun ks h=>by cases h;exact ⟨CB (d:=9999) (ks:=[.str,.int .i64,.int .i64,.int .i64]) Tryz.underlying32 (by kernel_rfl) (.cons (ks:=[.str]) (ls:=[.int .i64,.int .i64,.int .i64]) (by decide) rfl (by kernel_rfl) (AT Tryz.underlying9) (fun h=>by first|rfl|cases h) (E7 Tryz.underlying9) (.cons (ks:=[.int .i64]) (ls:=[.int .i64,.int .i64]) (by decide) rfl (by kernel_rfl) (AT Tryz.underlying3) (fun h=>by first|rfl|cases h) (AV Tryz.underlying3) (.cons (ks:=[.int .i64]) (ls:=[.int .i64]) (by decide) rfl (by kernel_rfl) (AT Tryz.underlying3) (fun h=>by first|rfl|cases h) (AV Tryz.underlying3) (.cons (ks:=[.int .i64]) (ls:=[]) (by decide) rfl (by kernel_rfl) (AT Tryz.underlying3) (fun h=>by first|rfl|cases h) (AV Tryz.underlying3) .nil)))),by kernel_rfl⟩),(fun τ h=>by cases h;exact ⟨rfl,by decide,rfl,rfl⟩),(fun τ h=>by cases h)⟩
theorem Tryz.jj:TI.ok En.Dop.D4 Tryz.prog 34 (Tryz.tr 34):=D9 (by kernel_rfl) ⟨Tryz.underlying34,by kernel_rfl⟩ (by kernel_rfl)
theorem Tryz.jk:TI.ok En.Dop.D4 Tryz.prog 38 ⟨4,40,.agg #[.int .i64 0,.string ⟨#[]⟩,.int .i64 0,.int .i64 0],[.v (.int .i64 0),.v (.string ⟨#[]⟩),.v (.int .i64 0),.v (.int .i64 0)],.struct [(0,3,1),(1,9,1),(2,3,1),(3,3,1)],some 4,some [.int .i64,.str,.int .i64,.int .i64],none⟩:=⟨by kernel_rfl,fun β=>by simp [AA,SV.den,Value.cells],fun N=>by simp [BM,SV.on],rfl,⟨_,Tryz.underlying38,rfl,rfl,by kernel_rfl,by decide,rfl,rfl,by kernel_rfl,by decide,rfl,rfl,by kernel_rfl,by decide,rfl,rfl,by kernel_rfl,by decide,trivial⟩,(fun ks h=>by cases h;exact ⟨CB (d:=9999) (ks:=[.int .i64,.str,.int .i64,.int .i64]) Tryz.underlying38 (by kernel_rfl) (.cons (ks:=[.int .i64]) (ls:=[.str,.int .i64,.int .i64]) (by decide) rfl (by kernel_rfl) (AT Tryz.underlying3) (fun h=>by first|rfl|cases h) (AV Tryz.underlying3) (.cons (ks:=[.str]) (ls:=[.int .i64,.int .i64]) (by decide) rfl (by kernel_rfl) (AT Tryz.underlying9) (fun h=>by first|rfl|cases h) (E7 Tryz.underlying9) (.cons (ks:=[.int .i64]) (ls:=[.int .i64]) (by decide) rfl (by kernel_rfl) (AT Tryz.underlying3) (fun h=>by first|rfl|cases h) (AV Tryz.underlying3) (.cons (ks:=[.int .i64]) (ls:=[]) (by decide) rfl (by kernel_rfl) (AT Tryz.underlying3) (fun h=>by first|rfl|cases h) (AV Tryz.underlying3) .nil)))),by kernel_rfl⟩),(fun τ h=>by cases h;exact ⟨rfl,by decide,rfl,rfl⟩),(fun τ h=>by cases h)⟩
theorem Tryz.jl:TI.ok En.Dop.D4 Tryz.prog 39 (Tryz.tr 39):=D9 (by kernel_rfl) ⟨Tryz.underlying39,by kernel_rfl⟩ (by kernel_rfl)
theorem Tryz.jm:TI.ok En.Dop.D4 Tryz.prog 41 (Tryz.tr 41):=Vp (τ0:=7) (by kernel_rfl) ⟨_,Tryz.underlying41,rfl,rfl,by kernel_rfl,by decide,rfl,rfl,by kernel_rfl,by decide,rfl,rfl,by kernel_rfl,by decide,trivial⟩ (by kernel_rfl) ⟨rfl,by decide,rfl,rfl⟩
theorem Tryz.jn:TI.ok En.Dop.D4 Tryz.prog 44 (Tryz.tr 44):=D9 (by kernel_rfl) ⟨Tryz.underlying44,by kernel_rfl⟩ (by kernel_rfl)
theorem Tryz.jo:TI.ok En.Dop.D4 Tryz.prog 46 (Tryz.tr 46):=D9 (by kernel_rfl) ⟨_,Tryz.underlying46,rfl⟩ (by kernel_rfl)
theorem Tryz.jq:TI.ok En.Dop.D4 Tryz.prog 47 (Tryz.tr 47):=D9 (by kernel_rfl) ⟨_,Tryz.underlying47,rfl⟩ (by kernel_rfl)
theorem Tryz.jr:TI.ok En.Dop.D4 Tryz.prog 52 ⟨5,48,.agg #[.string ⟨#[]⟩,.int .i64 0,.int .i64 0,.int .i64 0,.int .i64 0],[.v (.string ⟨#[]⟩),.v (.int .i64 0),.v (.int .i64 0),.v (.int .i64 0),.v (.int .i64 0)],.struct [(0,9,1),(1,3,1),(2,3,1),(3,3,1),(4,3,1)],some 11,some [.str,.int .i64,.int .i64,.int .i64,.int .i64],none⟩:=⟨by kernel_rfl,fun β=>by simp [AA,SV.den,Value.cells],fun N=>by simp [BM,SV.on],rfl,⟨_,Tryz.underlying52,rfl,rfl,by kernel_rfl,by decide,rfl,rfl,by kernel_rfl,by decide,rfl,rfl,by kernel_rfl,by decide,rfl,rfl,by kernel_rfl,by decide,rfl,rfl,by kernel_rfl,by decide,trivial⟩,(fun ks h=>by cases h;exact ⟨CB (d:=9999) (ks:=[.str,.int .i64,.int .i64,.int .i64,.int .i64]) Tryz.underlying52 (by kernel_rfl) (.cons (ks:=[.str]) (ls:=[.int .i64,.int .i64,.int .i64,.int .i64]) (by decide) rfl (by kernel_rfl) (AT Tryz.underlying9) (fun h=>by first|rfl|cases h) (E7 Tryz.underlying9) (.cons (ks:=[.int .i64]) (ls:=[.int .i64,.int .i64,.int .i64]) (by decide) rfl (by kernel_rfl) (AT Tryz.underlying3) (fun h=>by first|rfl|cases h) (AV Tryz.underlying3) (.cons (ks:=[.int .i64]) (ls:=[.int .i64,.int .i64]) (by decide) rfl (by kernel_rfl) (AT Tryz.underlying3) (fun h=>by first|rfl|cases h) (AV Tryz.underlying3) (.cons (ks:=[.int .i64]) (ls:=[.int .i64]) (by decide) rfl (by kernel_rfl) (AT Tryz.underlying3) (fun h=>by first|rfl|cases h) (AV Tryz.underlying3) (.cons (ks:=[.int .i64]) (ls:=[]) (by decide) rfl (by kernel_rfl) (AT Tryz.underlying3) (fun h=>by first|rfl|cases h) (AV Tryz.underlying3) .nil))))),by kernel_rfl⟩),(fun τ h=>by cases h;exact ⟨rfl,by decide,rfl,rfl⟩),(fun τ h=>by cases h)⟩
theorem Tryz.jt:TI.ok En.Dop.D4 Tryz.prog 56 ⟨9,80,.agg #[.int .i64 0,.int .i64 0,.int .i64 0,.int .i64 0,.int .i64 0,.string ⟨#[]⟩,.int .i64 0,.int .i64 0,.int .i64 0],[.v (.int .i64 0),.v (.int .i64 0),.v (.int .i64 0),.v (.int .i64 0),.v (.int .i64 0),.v (.string ⟨#[]⟩),.v (.int .i64 0),.v (.int .i64 0),.v (.int .i64 0)],.struct [(0,3,1),(1,3,1),(2,3,1),(3,3,1),(4,3,1),(5,9,1),(6,3,1),(7,3,1),(8,3,1)],some 5,some [.int .i64,.int .i64,.int .i64,.int .i64,.int .i64,.str,.int .i64,.int .i64,.int .i64],none⟩:=⟨by kernel_rfl,fun β=>by simp [AA,SV.den,Value.cells],fun N=>by simp [BM,SV.on],rfl,⟨_,Tryz.underlying56,rfl,rfl,by kernel_rfl,by decide,rfl,rfl,by kernel_rfl,by decide,rfl,rfl,by kernel_rfl,by decide,rfl,rfl,by kernel_rfl,by decide,rfl,rfl,by kernel_rfl,by decide,rfl,rfl,by kernel_rfl,by decide,rfl,rfl,by kernel_rfl,by decide,rfl,rfl,by kernel_rfl,by decide,rfl,rfl,by kernel_rfl,by decide,trivial⟩,(fun ks h=>by cases h;exact ⟨CB (d:=9999) (ks:=[.int .i64,.int .i64,.int .i64,.int .i64,.int .i64,.str,.int .i64,.int .i64,.int .i64]) Tryz.underlying56 (by kernel_rfl) (.cons (ks:=[.int .i64]) (ls:=[.int .i64,.int .i64,.int .i64,.int .i64,.str,.int .i64,.int .i64,.int .i64]) (by decide) rfl (by kernel_rfl) (AT Tryz.underlying3) (fun h=>by first|rfl|cases h) (AV Tryz.underlying3) (.cons (ks:=[.int .i64]) (ls:=[.int .i64,.int .i64,.int .i64,.str,.int .i64,.int .i64,.int .i64]) (by decide) rfl (by kernel_rfl) (AT Tryz.underlying3) (fun h=>by first|rfl|cases h) (AV Tryz.underlying3) (.cons (ks:=[.int .i64]) (ls:=[.int .i64,.int .i64,.str,.int .i64,.int .i64,.int .i64]) (by decide) rfl (by kernel_rfl) (AT Tryz.underlying3) (fun h=>by first|rfl|cases h) (AV Tryz.underlying3) (.cons (ks:=[.int .i64]) (ls:=[.int .i64,.str,.int .i64,.int .i64,.int .i64]) (by decide) rfl (by kernel_rfl) (AT Tryz.underlying3) (fun h=>by first|rfl|cases h) (AV Tryz.underlying3) (.cons (ks:=[.int .i64]) (ls:=[.str,.int .i64,.int .i64,.int .i64]) (by decide) rfl (by kernel_rfl) (AT Tryz.underlying3) (fun h=>by first|rfl|cases h) (AV Tryz.underlying3) (.cons (ks:=[.str]) (ls:=[.int .i64,.int .i64,.int .i64]) (by decide) rfl (by kernel_rfl) (AT Tryz.underlying9) (fun h=>by first|rfl|cases h) (E7 Tryz.underlying9) (.cons (ks:=[.int .i64]) (ls:=[.int .i64,.int .i64]) (by decide) rfl (by kernel_rfl) (AT Tryz.underlying3) (fun h=>by first|rfl|cases h) (AV Tryz.underlying3) (.cons (ks:=[.int .i64]) (ls:=[.int .i64]) (by decide) rfl (by kernel_rfl) (AT Tryz.underlying3) (fun h=>by first|rfl|cases h) (AV Tryz.underlying3) (.cons (ks:=[.int .i64]) (ls:=[]) (by decide) rfl (by kernel_rfl) (AT Tryz.underlying3) (fun h=>by first|rfl|cases h) (AV Tryz.underlying3) .nil))))))))),by kernel_rfl⟩),(fun τ h=>by cases h;exact ⟨rfl,by decide,rfl,rfl⟩),(fun τ h=>by cases h)⟩
theorem Tryz.ju:TI.ok En.Dop.D4 Tryz.prog 59 (Tryz.tr 59):=D9 (by kernel_rfl) ⟨Tryz.underlying59,by kernel_rfl⟩ (by kernel_rfl)
theorem Tryz.jv:TI.ok En.Dop.D4 Tryz.prog 61 (Tryz.tr 61):=Vp (τ0:=19) (by kernel_rfl) ⟨_,Tryz.underlying61,rfl,rfl,by kernel_rfl,by decide,rfl,rfl,by kernel_rfl,by decide,rfl,rfl,by kernel_rfl,by decide,trivial⟩ (by kernel_rfl) ⟨rfl,by decide,rfl,rfl⟩
theorem Tryz.jw:TI.ok En.Dop.D4 Tryz.prog 66 (Tryz.tr 66):=D9 (by kernel_rfl) ⟨Tryz.underlying66,by kernel_rfl⟩ (by kernel_rfl)
theorem Tryz.jx:TI.ok En.Dop.D4 Tryz.prog 67 (Tryz.tr 67):=Vp (τ0:=18) (by kernel_rfl) Tryz.underlying67 (by kernel_rfl) ⟨rfl,by decide,rfl,rfl⟩
theorem Tryz.jy:TI.ok En.Dop.D4 Tryz.prog 83 (Tryz.tr 83):=D9 (by kernel_rfl) ⟨_,Tryz.underlying83,rfl⟩ (by kernel_rfl)
theorem Tryz.jz:TI.ok En.Dop.D4 Tryz.prog 89 (Tryz.tr 89):=D9 (by kernel_rfl) Tryz.underlying89 (by kernel_rfl)
theorem Tryz.j3:TI.ok En.Dop.D4 Tryz.prog 91 (Tryz.tr 91):=D9 (by kernel_rfl) ⟨_,Tryz.underlying91,rfl,rfl,by kernel_rfl,by decide,rfl,rfl,by kernel_rfl,by decide,rfl,rfl,by kernel_rfl,by decide,rfl,rfl,by kernel_rfl,by decide,rfl,rfl,by kernel_rfl,by decide,rfl,rfl,by kernel_rfl,by decide,trivial⟩ (by kernel_rfl)
theorem Tryz.j4:TI.ok En.Dop.D4 Tryz.prog 93 ⟨4,40,.agg #[.int .i64 0,.int .i64 0,.int .i64 0,.string ⟨#[]⟩],[.v (.int .i64 0),.v (.int .i64 0),.v (.int .i64 0),.v (.string ⟨#[]⟩)],.struct [(0,3,1),(1,3,1),(2,3,1),(3,9,1)],some 6,some [.int .i64,.int .i64,.int .i64,.str],none⟩:=⟨by kernel_rfl,fun β=>by simp [AA,SV.den,Value.cells],fun N=>by simp [BM,SV.on],rfl,⟨_,Tryz.underlying93,rfl,rfl,by kernel_rfl,by decide,rfl,rfl,by kernel_rfl,by decide,rfl,rfl,by kernel_rfl,by decide,rfl,rfl,by kernel_rfl,by decide,trivial⟩,(fun ks h=>by cases h;exact ⟨CB (d:=9999) (ks:=[.int .i64,.int .i64,.int .i64,.str]) Tryz.underlying93 (by kernel_rfl) (.cons (ks:=[.int .i64]) (ls:=[.int .i64,.int .i64,.str]) (by decide) rfl (by kernel_rfl) (AT Tryz.underlying3) (fun h=>by first|rfl|cases h) (AV Tryz.underlying3) (.cons (ks:=[.int .i64]) (ls:=[.int .i64,.str]) (by decide) rfl (by kernel_rfl) (AT Tryz.underlying3) (fun h=>by first|rfl|cases h) (AV Tryz.underlying3) (.cons (ks:=[.int .i64]) (ls:=[.str]) (by decide) rfl (by kernel_rfl) (AT Tryz.underlying3) (fun h=>by first|rfl|cases h) (AV Tryz.underlying3) (.cons (ks:=[.str]) (ls:=[]) (by decide) rfl (by kernel_rfl) (AT Tryz.underlying9) (fun h=>by first|rfl|cases h) (E7 Tryz.underlying9) .nil)))),by kernel_rfl⟩),(fun τ h=>by cases h;exact ⟨rfl,by decide,rfl,rfl⟩),(fun τ h=>by cases h)⟩
theorem Tryz.j5:TI.ok En.Dop.D4 Tryz.prog 95 (Tryz.tr 95):=D9 (by kernel_rfl) ⟨_,Tryz.underlying95,rfl⟩ (by kernel_rfl)
theorem Tryz.eX:TI.ok En.Dop.D4 Tryz.prog 110 (Tryz.tr 110):=D9 (by kernel_rfl) ⟨_,Tryz.underlying110,rfl⟩ (by kernel_rfl)
theorem Tryz.eY:TI.ok En.Dop.D4 Tryz.prog 118 (Tryz.tr 118):=D9 (by kernel_rfl) Tryz.underlying118 (by kernel_rfl)
theorem Tryz.eZ:TI.ok En.Dop.D4 Tryz.prog 119 (Tryz.tr 119):=D9 (by kernel_rfl) Tryz.underlying119 (by kernel_rfl)
theorem Tryz.eb:TI.ok En.Dop.D4 Tryz.prog 121 (Tryz.tr 121):=D9 (by kernel_rfl) ⟨_,Tryz.underlying121,rfl,rfl,by kernel_rfl,by decide,rfl,rfl,by kernel_rfl,by decide,rfl,rfl,by kernel_rfl,by decide,rfl,rfl,by kernel_rfl,by decide,rfl,rfl,by kernel_rfl,by decide,rfl,rfl,by kernel_rfl,by decide,rfl,rfl,by kernel_rfl,by decide,rfl,rfl,by kernel_rfl,by decide,rfl,rfl,by kernel_rfl,by decide,rfl,rfl,by kernel_rfl,by decide,trivial⟩ (by kernel_rfl)
theorem Tryz.ec:TI.ok En.Dop.D4 Tryz.prog 126 (Tryz.tr 126):=D9 (by kernel_rfl) Tryz.underlying126 (by kernel_rfl)
theorem Tryz.ed:TI.ok En.Dop.D4 Tryz.prog 127 (Tryz.tr 127):=D9 (by kernel_rfl) Tryz.underlying127 (by kernel_rfl)
theorem Tryz.ee:TI.ok En.Dop.D4 Tryz.prog 129 (Tryz.tr 129):=D9 (by kernel_rfl) Tryz.underlying129 (by kernel_rfl)
theorem Tryz.ef:TI.ok En.Dop.D4 Tryz.prog 130 (Tryz.tr 130):=D9 (by kernel_rfl) ⟨Tryz.underlying130,by kernel_rfl⟩ (by kernel_rfl)
theorem Tryz.eh:TI.ok En.Dop.D4 Tryz.prog 131 (Tryz.tr 131):=D9 (by kernel_rfl) Tryz.underlying131 (by kernel_rfl)
theorem Tryz.en:TI.ok En.Dop.D4 Tryz.prog 132 (Tryz.tr 132):=D9 (by kernel_rfl) Tryz.underlying132 (by kernel_rfl)
theorem Tryz.eo:TI.ok En.Dop.D4 Tryz.prog 133 (Tryz.tr 133):=D9 (by kernel_rfl) ⟨Tryz.underlying133,by kernel_rfl⟩ (by kernel_rfl)
theorem Tryz.er:TI.ok En.Dop.D4 Tryz.prog 135 (Tryz.tr 135):=D9 (by kernel_rfl) ⟨_,Tryz.underlying135,rfl,rfl,by kernel_rfl,by decide,rfl,rfl,by kernel_rfl,by decide,rfl,rfl,by kernel_rfl,by decide,rfl,rfl,by kernel_rfl,by decide,rfl,rfl,by kernel_rfl,by decide,rfl,rfl,by kernel_rfl,by decide,rfl,rfl,by kernel_rfl,by decide,rfl,rfl,by kernel_rfl,by decide,rfl,rfl,by kernel_rfl,by decide,rfl,rfl,by kernel_rfl,by decide,rfl,rfl,by kernel_rfl,by decide,rfl,rfl,by kernel_rfl,by decide,rfl,rfl,by kernel_rfl,by decide,rfl,rfl,by kernel_rfl,by decide,rfl,rfl,by kernel_rfl,by decide,rfl,rfl,by kernel_rfl,by decide,trivial⟩ (by kernel_rfl)
theorem Tryz.ew:TI.ok En.Dop.D4 Tryz.prog 140 (Tryz.tr 140):=Vp (τ0:=15) (by kernel_rfl) ⟨_,Tryz.underlying140,rfl,rfl,by kernel_rfl,by decide,rfl,rfl,by kernel_rfl,by decide,trivial⟩ (by kernel_rfl) ⟨rfl,by decide,rfl,rfl⟩
theorem Tryz.ey:TI.ok En.Dop.D4 Tryz.prog 144 (Tryz.tr 144):=D9 (by kernel_rfl) ⟨_,Tryz.underlying144,rfl⟩ (by kernel_rfl)
theorem Tryz.ez:TI.ok En.Dop.D4 Tryz.prog 154 (Tryz.tr 154):=D9 (by kernel_rfl) ⟨_,Tryz.underlying154,rfl⟩ (by kernel_rfl)
theorem Tryz.fA:TI.ok En.Dop.D4 Tryz.prog 155 (Tryz.tr 155):=D9 (by kernel_rfl) ⟨_,Tryz.underlying155,rfl⟩ (by kernel_rfl)
theorem Tryz.fB:TI.ok En.Dop.D4 Tryz.prog 161 (Tryz.tr 161):=D9 (by kernel_rfl) Tryz.underlying161 (by kernel_rfl)
theorem Tryz.fC:TI.ok En.Dop.D4 Tryz.prog 163 (Tryz.tr 163):=D9 (by kernel_rfl) ⟨_,Tryz.underlying163,rfl,rfl,by kernel_rfl,by decide,rfl,rfl,by kernel_rfl,by decide,rfl,rfl,by kernel_rfl,by decide,rfl,rfl,by kernel_rfl,by decide,rfl,rfl,by kernel_rfl,by decide,rfl,rfl,by kernel_rfl,by decide,rfl,rfl,by kernel_rfl,by decide,trivial⟩ (by kernel_rfl)
theorem Tryz.fD:TI.ok En.Dop.D4 Tryz.prog 166 (Tryz.tr 166):=D9 (by kernel_rfl) Tryz.underlying166 (by kernel_rfl)
theorem Tryz.fE:TI.ok En.Dop.D4 Tryz.prog 168 (Tryz.tr 168):=D9 (by kernel_rfl) ⟨_,Tryz.underlying168,rfl,rfl,by kernel_rfl,by decide,rfl,rfl,by kernel_rfl,by decide,trivial⟩ (by kernel_rfl)
theorem Tryz.fF:TI.ok En.Dop.D4 Tryz.prog 169 (Tryz.tr 169):=Vp (τ0:=17) (by kernel_rfl) ⟨Tryz.underlying169,by kernel_rfl⟩ (by kernel_rfl) ⟨rfl,by decide,rfl,rfl⟩
theorem Tryz.fG:TI.ok En.Dop.D4 Tryz.prog 171 ⟨2,24,.agg #[.string ⟨#[]⟩,.int .i64 0],[.v (.string ⟨#[]⟩),.v (.int .i64 0)],.struct [(0,9,1),(1,3,1)],some 16,some [.str,.int .i64],none⟩:=⟨by kernel_rfl,fun β=>by simp [AA,SV.den,Value.cells],fun N=>by simp [BM,SV.on],rfl,⟨_,Tryz.underlying171,rfl,rfl,by kernel_rfl,by decide,rfl,rfl,by kernel_rfl,by decide,trivial⟩,(fun ks h=>by cases h;exact ⟨CB (d:=9999) (ks:=[.str,.int .i64]) Tryz.underlying171 (by kernel_rfl) (.cons (ks:=[.str]) (ls:=[.int .i64]) (by decide) rfl (by kernel_rfl) (AT Tryz.underlying9) (fun h=>by first|rfl|cases h) (E7 Tryz.underlying9) (.cons (ks:=[.int .i64]) (ls:=[]) (by decide) rfl (by kernel_rfl) (AT Tryz.underlying3) (fun h=>by first|rfl|cases h) (AV Tryz.underlying3) .nil)),by kernel_rfl⟩),(fun τ h=>by cases h;exact ⟨rfl,by decide,rfl,rfl⟩),(fun τ h=>by cases h)⟩
theorem Tryz.fH:TI.ok En.Dop.D4 Tryz.prog 174 ⟨5,40,.agg #[.int .i64 0,.int .i64 0,.int .i64 0,.int .i64 0,.bool false],[.v (.int .i64 0),.v (.int .i64 0),.v (.int .i64 0),.v (.int .i64 0),.v (.bool false)],.struct [(0,3,1),(1,3,1),(2,3,1),(3,3,1),(4,4,1)],some 10,some [.int .i64,.int .i64,.int .i64,.int .i64,.bool],none⟩:=⟨by kernel_rfl,fun β=>by simp [AA,SV.den,Value.cells],fun N=>by simp [BM,SV.on],rfl,⟨_,Tryz.underlying174,rfl,rfl,by kernel_rfl,by decide,rfl,rfl,by kernel_rfl,by decide,rfl,rfl,by kernel_rfl,by decide,rfl,rfl,by kernel_rfl,by decide,rfl,rfl,by kernel_rfl,by decide,trivial⟩,(fun ks h=>by cases h;exact ⟨CB (d:=9999) (ks:=[.int .i64,.int .i64,.int .i64,.int .i64,.bool]) Tryz.underlying174 (by kernel_rfl) (.cons (ks:=[.int .i64]) (ls:=[.int .i64,.int .i64,.int .i64,.bool]) (by decide) rfl (by kernel_rfl) (AT Tryz.underlying3) (fun h=>by first|rfl|cases h) (AV Tryz.underlying3) (.cons (ks:=[.int .i64]) (ls:=[.int .i64,.int .i64,.bool]) (by decide) rfl (by kernel_rfl) (AT Tryz.underlying3) (fun h=>by first|rfl|cases h) (AV Tryz.underlying3) (.cons (ks:=[.int .i64]) (ls:=[.int .i64,.bool]) (by decide) rfl (by kernel_rfl) (AT Tryz.underlying3) (fun h=>by first|rfl|cases h) (AV Tryz.underlying3) (.cons (ks:=[.int .i64]) (ls:=[.bool]) (by decide) rfl (by kernel_rfl) (AT Tryz.underlying3) (fun h=>by first|rfl|cases h) (AV Tryz.underlying3) (.cons (ks:=[.bool]) (ls:=[]) (by decide) rfl (by kernel_rfl) (AT Tryz.underlying4) (fun h=>by first|rfl|cases h) (Sf Tryz.underlying4) .nil))))),by kernel_rfl⟩),(fun τ h=>by cases h;exact ⟨rfl,by decide,rfl,rfl⟩),(fun τ h=>by cases h)⟩
theorem Tryz.fI:TI.ok En.Dop.D4 Tryz.prog 176 (Tryz.tr 176):=D9 (by kernel_rfl) ⟨_,Tryz.underlying176,rfl⟩ (by kernel_rfl)
theorem Tryz.fJ:TI.ok En.Dop.D4 Tryz.prog 178 ⟨3,24,.agg #[.int .i64 0,.int .i64 0,.int .i64 0],[.v (.int .i64 0),.v (.int .i64 0),.v (.int .i64 0)],.struct [(0,3,1),(1,3,1),(2,3,1)],some 9,some [.int .i64,.int .i64,.int .i64],none⟩:=⟨by kernel_rfl,fun β=>by simp [AA,SV.den,Value.cells],fun N=>by simp [BM,SV.on],rfl,⟨_,Tryz.underlying178,rfl,rfl,by kernel_rfl,by decide,rfl,rfl,by kernel_rfl,by decide,rfl,rfl,by kernel_rfl,by decide,trivial⟩,(fun ks h=>by cases h;exact ⟨CB (d:=9999) (ks:=[.int .i64,.int .i64,.int .i64]) Tryz.underlying178 (by kernel_rfl) (.cons (ks:=[.int .i64]) (ls:=[.int .i64,.int .i64]) (by decide) rfl (by kernel_rfl) (AT Tryz.underlying3) (fun h=>by first|rfl|cases h) (AV Tryz.underlying3) (.cons (ks:=[.int .i64]) (ls:=[.int .i64]) (by decide) rfl (by kernel_rfl) (AT Tryz.underlying3) (fun h=>by first|rfl|cases h) (AV Tryz.underlying3) (.cons (ks:=[.int .i64]) (ls:=[]) (by decide) rfl (by kernel_rfl) (AT Tryz.underlying3) (fun h=>by first|rfl|cases h) (AV Tryz.underlying3) .nil))),by kernel_rfl⟩),(fun τ h=>by cases h;exact ⟨rfl,by decide,rfl,rfl⟩),(fun τ h=>by cases h)⟩
theorem Tryz.fK:TI.ok En.Dop.D4 Tryz.prog 184 (Tryz.tr 184):=D9 (by kernel_rfl) Tryz.underlying184 (by kernel_rfl)
theorem Tryz.fL:TI.ok En.Dop.D4 Tryz.prog 213 (Tryz.tr 213):=D9 (by kernel_rfl) Tryz.underlying213 (by kernel_rfl)
theorem Tryz.fM:TI.ok En.Dop.D4 Tryz.prog 214 (Tryz.tr 214):=Vp (τ0:=8) (by kernel_rfl) ⟨Tryz.underlying214,by kernel_rfl⟩ (by kernel_rfl) ⟨rfl,by decide,rfl,rfl⟩
theorem Tryz.fO:TI.ok En.Dop.D4 Tryz.prog 217 (Tryz.tr 217):=D9 (by kernel_rfl) Tryz.underlying217 (by kernel_rfl)
theorem Tryz.fP:TI.ok En.Dop.D4 Tryz.prog 246 (Tryz.tr 246):=D9 (by kernel_rfl) ⟨_,Tryz.underlying246,rfl⟩ (by kernel_rfl)
theorem Tryz.fQ:TI.ok En.Dop.D4 Tryz.prog 260 (Tryz.tr 260):=D9 (by kernel_rfl) Tryz.underlying260 (by kernel_rfl)
theorem Tryz.fR:TI.ok En.Dop.D4 Tryz.prog 264 (Tryz.tr 264):=D9 (by kernel_rfl) ⟨_,Tryz.underlying264,rfl⟩ (by kernel_rfl)
theorem Tryz.fS:TI.ok En.Dop.D4 Tryz.prog 265 (Tryz.tr 265):=D9 (by kernel_rfl) ⟨_,Tryz.underlying265,rfl⟩ (by kernel_rfl)
theorem Tryz.fT:TI.ok En.Dop.D4 Tryz.prog 267 (Tryz.tr 267):=Vp (τ0:=14) (by kernel_rfl) ⟨Tryz.underlying267,by kernel_rfl⟩ (by kernel_rfl) ⟨rfl,by decide,rfl,rfl⟩
theorem Tryz.fU:TI.ok En.Dop.D4 Tryz.prog 268 (Tryz.tr 268):=D9 (by kernel_rfl) Tryz.underlying268 (by kernel_rfl)
theorem Tryz.fV:TI.ok En.Dop.D4 Tryz.prog 290 (Tryz.tr 290):=D9 (by kernel_rfl) ⟨_,Tryz.underlying290,rfl⟩ (by kernel_rfl)
theorem Tryz.fW:TI.ok En.Dop.D4 Tryz.prog 298 (Tryz.tr 298):=D9 (by kernel_rfl) ⟨_,Tryz.underlying298,rfl,rfl,by kernel_rfl,by decide,rfl,rfl,by kernel_rfl,by decide,rfl,rfl,by kernel_rfl,by decide,rfl,rfl,by kernel_rfl,by decide,trivial⟩ (by kernel_rfl)
set_option maxRecDepth 100000 in
theorem Tryz.AH:AW En.Dop.D4 Tryz.prog Tryz.tb:=
 ⟨Tryz.lW,Tryz.lX,Tryz.lY,Tryz.lZ,Tryz.la,Tryz.lf,Tryz.lg,Tryz.lh,Tryz.ln,Tryz.jU,Tryz.jV,Tryz.jW,Tryz.jX,Tryz.jY,Tryz.jZ,Tryz.ja,Tryz.jb,Tryz.jc,Tryz.jd,Tryz.je,Tryz.jf,Tryz.jg,Tryz.jh,Tryz.ji,Tryz.jj,Tryz.jk,Tryz.jl,Tryz.jm,Tryz.jn,Tryz.jo,Tryz.jq,Tryz.jr,Tryz.jt,Tryz.ju,Tryz.jv,Tryz.jw,Tryz.jx,Tryz.jy,Tryz.jz,Tryz.j3,Tryz.j4,Tryz.j5,Tryz.eX,Tryz.eY,Tryz.eZ,Tryz.eb,Tryz.ec,Tryz.ed,Tryz.ee,Tryz.ef,Tryz.eh,Tryz.en,Tryz.eo,Tryz.er,Tryz.ew,Tryz.ey,Tryz.ez,Tryz.fA,Tryz.fB,Tryz.fC,Tryz.fD,Tryz.fE,Tryz.fF,Tryz.fG,Tryz.fH,Tryz.fI,Tryz.fJ,Tryz.fK,Tryz.fL,Tryz.fM,Tryz.fO,Tryz.fP,Tryz.fQ,Tryz.fR,Tryz.fS,Tryz.fT,Tryz.fU,Tryz.fV,Tryz.fW,trivial⟩
end Go.Proofs
