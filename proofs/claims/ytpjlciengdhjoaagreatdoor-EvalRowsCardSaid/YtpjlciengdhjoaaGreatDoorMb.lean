/- Maps' entries that are turned in place (m[k]++), and rows of maps: what the evaluation does with them is sound. -/
import Derived.Test.YtpjlciengdhjoaaGreatDoorEn8d
namespace Go.En
open Go.RowKit
section
variable {S:As} {P:Program} {w0:World} {F D0 D:Nat->Prop} {s:St S} {N:Nat->Prop} {β:Nat->Nm} {a:Act} {w:World}
theorem WA {fs:List (FC S.T)} {q:IntKind} {n:Int} (h:N2 fs=some (q,n)):fs=[.int q n]:=by
 unfold N2 at h
 split at h
 ·cases h;rfl
 ·cases h
theorem Ox {q:IntKind} {n:Int} {vs:List Value} (h:AG S w D [.int q n] vs):vs=[.int q n]:=by
 obtain ⟨h1,h2⟩:=h
 match vs,h1 with
 | [v],_=>
  have:=h2 0 _ v rfl rfl
  cases this;rfl
theorem PA {κ:Fd} {τ:Nat} {g:Nat} {l:List (κ.T S.T×S.T τ)} {T kt et:Nat} {te:TI} (hT:P.underlying T=some (.map kt et)) (hkd:P.underlying kt=some (Fq κ)) (hkk:(∃ k,κ=.int k)\/κ=.str) (hoe:te.ok S P et) (hzo:ib te=true) (hag:false=te.agg) (hz:AG S w D (S.enc τ (S.A4 τ)) te.z.cells.toList) (hM:MapAt S w D κ τ false g l) (hgD:¬ D g) (x:κ.T S.T)
  {q:IntKind} {n:Int} (ho:N2 (S.enc τ ((Di κ l x).getD (S.A4 τ)))=some (q,n)):
  ∃ es':Array MapEntry,(Instr.mapEntry T (.map (some g)) (DY κ x)).run P w=.ok (.tuple #[.int q n,.int .i64 ((QT κ l x:Nat):Int)]) { w with heap:=w.heap.setIfInBounds g (.map es' es'.size) }/\MapAt S { w with heap:=w.heap.setIfInBounds g (.map es' es'.size) } D κ τ false g (K7 κ l x ((Di κ l x).getD (S.A4 τ))):=by
 obtain ⟨es,hh,hsz,hent⟩:=hM
 have ho:=WA ho
 have hik:=FP (S:=S) hkk x
 rcases Jy hkk x l es.toList 0 (by simpa using hsz) (M5 hent) with ⟨h1,h2,h3,h6⟩|⟨j,z,e,h1,h2,h3,h4,h5,h6⟩
 ·rw [h1] at ho ⊢
  simp only [Option.getD_none] at ho ⊢
  have hzv:te.z=.int q n:=by
   rw [ho] at hz
   have:=Mi hzo
   rw [<-hag,Ox hz] at this
   simpa [Fx] using this
  refine ⟨es.push ⟨DY κ x,te.z,es.size⟩,?_,Fc hh hgD (by rw [h3];simp [hsz]) fun j y' e hy he=>?_⟩
  ·rw [Array.size_push,h6,<- hsz,<- hzv]
   simp [Instr.mapEntry,run_underlying hT,MapKept.run_getObj_map hh,MapKept.run_checkKey hkd hik,MapKept.run_findKey hkd h2,OE hoe,MapKept.run_setObj_map _ hh,Result.andThen,goInt]
  ·rw [h3,List.getElem?_append] at hy
   rw [Array.getElem?_push] at he
   split at hy
   ·rename_i hlt
    rw [if_neg (by omega)] at he
    exact hent j y' e hy he
   ·rename_i hge
    have hjl:j=l.length:=by
     have:=(List.getElem?_eq_some_iff.1 hy).1;simp at this;omega
    subst hjl
    rw [if_pos hsz.symm] at he
    simp only [Nat.sub_self,List.getElem?_cons_zero,am] at hy he
    subst hy;subst he
    exact ⟨hsz,rfl,te.z.cells.toList,by rw [Mi hzo,<- hag];simp [hzv,Value.cells,Fx],hz⟩
 ·rw [h1] at ho ⊢
  simp only [Option.getD_some] at ho ⊢
  have hje:es[j]?=some e:=by simpa using h3
  obtain ⟨hb,hek,vs,hv1,hv2⟩:=hent j z e h2 hje
  have hval:e.val=.int q n:=by
   rw [ho] at hv2
   rw [hv1,Ox hv2];rfl
  simp only [Nat.zero_add] at h4
  have hekx:e.key=DY κ x:=O8 hkk hsz hent h3 h4
  refine ⟨es.modify j fun e=>{ e with key:=DY κ x },?_,Fc hh hgD (by rw [h5];simp [hsz]) fun q' y' e' hy he=>?_⟩
  ·rw [Array.size_modify,h6]
   simp [Instr.mapEntry,run_underlying hT,MapKept.run_getObj_map hh,MapKept.run_checkKey hkd hik,MapKept.run_findKey hkd h4,hje,hekx,MapKept.run_keyThatStays hik,MapKept.run_setObj_map _ hh,Result.andThen,goInt,hval,hb]
  ·rw [h5,List.getElem?_set] at hy
   rw [Array.getElem?_modify] at he
   split at hy
   ·rename_i hjq
    subst hjq
    rw [if_pos rfl,hje] at he
    simp only [Option.map_some,am] at he
    split at hy
    ·cases hy;subst he;exact ⟨hb,rfl,vs,hv1,hv2⟩
    ·cases hy
   ·rename_i hjq
    rw [if_neg hjq] at he
    exact hent q' y' e' hy he
theorem TA {tb:List (Nat×TI)} (htb:Ae S P tb) (hg:G w0 F D0 D s N β a w) {op:Oper} {T:Nat} {m k:Operand} (hop:op.op=.mapEntry T m k):R.Sound P w0 F D0 D s N β a w op (eb tb s T m k):=by
 unfold eb
 split
 case h_2=>trivial
 rename_i kt et ht
 have hT:=Ag htb ht
 simp only [TD.ok] at hT
 split
 case h_2=>trivial
 rename_i κ' te hκ hte
 obtain ⟨hkd,hkk⟩:=J7 htb hκ
 have hoe:=htb.get hte
 split
 case h_2=>trivial
 rename_i τ' hτ hzo
 have hz:=IU (D:=D) (w:=w) (hoe.Z6 τ' hτ).2.2
 split
 ·rename_i i hm
  split
  case h_2=>trivial
  rename_i κ τ ag l hi
  split
  case h_2=>trivial
  rename_i hττ x hsame _ hag hkx
  have:=FV hsame hkk;subst this
  subst hττ
  have hag:=C1.1 hag
  obtain ⟨kv,hk1,hk2⟩:=Option.bind_eq_some_iff.1 hkx
  split
  case h_2=>trivial
  rename_i q n ho hag
  intro _ hN
  subst hN
  obtain ⟨g,hgb,hM⟩:=hg.gh.own i _ hi
  have A5:(β i).AX=g:=by simp [Nm.AX,hgb]
  have ekey:a.eval k=DY κ x:=by rw [AE hg hk1];exact rd_key hg.gh hkk hk2
  have em:a.eval m=.map (some g):=by rw [AE hg hm];simp only [SV.den,A5]
  obtain ⟨es,hh,_⟩:=id hM
  obtain ⟨es',hr,hM'⟩:=PA hT hkd hkk hoe hzo hag hz hM (fun h=>hg.gh.off i _ _ hi (.inl hgb) h) x ho
  have hset:=MapKept.heap_set (o':=.map es' es'.size) hh
  refine ⟨β,{ w with heap:=w.heap.setIfInBounds g (.map es' es'.size) },?_,fun _ _=>rfl,hg.gh.LL hi (.inl hgb) trivial rfl rfl rfl (by simp) (fun j _ hj=>hset.2 j hj) ⟨g,hgb,hM'⟩,⟨trivial,trivial,trivial⟩,Nat.le_refl _⟩
  simp [execOp,hop,em,ekey,hr,SV.den,AD]
 ·rename_i i d hm
  split
  case h_2=>trivial
  rename_i κ τ ag E ls hi
  split
  case h_2=>trivial
  rename_i hττ x hsame _ hag hkx
  have:=FV hsame hkk;subst this
  subst hττ
  have hag:=C1.1 hag
  obtain ⟨kv,hk1,hk2⟩:=Option.bind_eq_some_iff.1 hkx
  split
  case h_2=>trivial
  rename_i q n ho hag
  intro hc hN
  subst hN
  obtain ⟨g,c,hsub,hden,hM⟩:=Rs hg.gh hi (show d<ls.length by simpa [Cd] using hc)
  have ekey:a.eval k=DY κ x:=by rw [AE hg hk1];exact rd_key hg.gh hkk hk2
  have em:a.eval m=.map (some g):=by rw [AE hg hm];exact hden
  obtain ⟨es,hh,_⟩:=id hM
  obtain ⟨es',hr,hM'⟩:=PA hT hkd hkk hoe hzo hag hz hM (fun h=>hg.gh.off i _ _ hi (.inr ⟨d,c,hsub⟩) h) x ho
  refine ⟨β,{ w with heap:=w.heap.setIfInBounds g (.map es' es'.size) },?_,fun _ _=>rfl,Tq hg.gh hi hsub hh hM',⟨trivial,trivial,trivial⟩,Nat.le_refl _⟩
  simp [execOp,hop,em,ekey,hr,SV.den,AD]
 ·trivial
theorem Lk {T:Nat->Type} {α:Type} {κ:Fd} (v:α): ∀ (l:List (κ.T T×α)) (j:Nat),(Nq κ l j v).length=l.length
 | [],_=>rfl
 | x::r,0=>rfl
 | x::r,j+1=>by simp [Nq,Lk v r j]
theorem Ru {T:Nat->Type} {α:Type} {κ:Fd} (v:α): ∀ (l:List (κ.T T×α)) (j i:Nat),(Nq κ l j v)[i]?=if i=j then (l[i]?).map (fun x=>(x.1,v)) else l[i]?
 | [],_,i=>by simp [Nq]
 | x::r,0,0=>rfl
 | x::r,0,i+1=>by simp [Nq]
 | x::r,j+1,0=>by simp [Nq]
 | x::r,j+1,i+1=>by simp [Nq,Ru v r j i]
theorem LW {κ:Fd} {τ:Nat} {ag:Bool} {g:Nat} {l:List (κ.T S.T×S.T τ)} {T:Nat} (hM:MapAt S w D κ τ ag g l) (hgD:¬ D g) {n:Int} (h0:0<=n) (hn:n<l.length) {y:S.T τ} {us:List Value} (hus:AG S w D (S.enc τ y) us):
  ∃ es':Array MapEntry,(Instr.entryStore T (.map (some g)) (.int .i64 n) (Fx ag us)).run P w=.ok () { w with heap:=w.heap.setIfInBounds g (.map es' es'.size) }/\MapAt S { w with heap:=w.heap.setIfInBounds g (.map es' es'.size) } D κ τ ag g (Nq κ l n.toNat y):=by
 obtain ⟨es,hh,hsz,hent⟩:=hM
 obtain ⟨j,rfl⟩:=Int.eq_ofNat_of_zero_le h0
 have hj:j<l.length:=by omega
 have hje:j<es.size:=by omega
 have hborn: ∀ (i:Nat) (hi:i<es.size),es[i].born=i:=fun i hi=>(hent i _ _ (co (by omega)) (Array.getElem?_eq_getElem hi)).1
 have hfind:es.findIdx? (fun e=>(e.born:Int) == (j:Int))=some j:=by
  rw [Array.findIdx?_eq_some_iff_getElem]
  refine ⟨hje,by rw [hborn j hje];simp,fun i hi=>?_⟩
  rw [hborn i (by omega)]
  simp;omega
 refine ⟨es.modify j fun e=>{ e with val:=Fx ag us },?_,Fc hh hgD (by rw [Lk];simp [hsz]) fun i z e hz he=>?_⟩
 ·rw [Array.size_modify]
  simp [Instr.entryStore,MapKept.run_getObj_map hh,asInt,asIntOf,hfind,MapKept.run_setObj_map _ hh,Result.andThen]
 ·rw [Ru] at hz
  rw [Array.getElem?_modify] at he
  have e1:((j:Nat):Int).toNat=j:=rfl
  rw [e1] at hz
  split at hz
  ·rename_i hij
   subst hij
   rw [if_pos rfl] at he
   obtain ⟨z0,hz0,rfl⟩:=Option.map_eq_some_iff.1 hz
   obtain ⟨e0,he0,rfl⟩:=Option.map_eq_some_iff.1 he
   obtain ⟨k1,k2⟩:=hent i z0 e0 hz0 he0
   exact ⟨k1,k2.key,us,rfl,hus⟩
  ·rename_i hij
   rw [if_neg (fun h=>hij h.symm)] at he
   exact hent i z e hz he
theorem TB (hg:G w0 F D0 D s N β a w) {op:Oper} {T:Nat} {m st v:Operand} (hop:op.op=.entryStore T m st v):R.Sound P w0 F D0 D s N β a w op (ec s m st v):=by
 unfold ec
 split
 case h_2=>trivial
 rename_i n hst
 have est:a.eval st=.int .i64 n:=by rw [AE hg hst];rfl
 split
 ·rename_i i hm
  split
  case h_2=>trivial
  rename_i κ τ ag l hi
  split
  case h_2=>trivial
  rename_i p hp
  obtain ⟨cs,hc1,hc2⟩:=Option.bind_eq_some_iff.1 hp
  obtain ⟨vv,hv1,hv2⟩:=Option.bind_eq_some_iff.1 hc1
  intro hc
  simp only [Cd,ii] at hc
  obtain ⟨g,hgb,hM⟩:=hg.gh.own i _ hi
  have A5:(β i).AX=g:=by simp [Nm.AX,hgb]
  have em:a.eval m=.map (some g):=by rw [AE hg hm];simp only [SV.den,A5]
  have ev':a.eval v=Fx ag (AD β cs):=by rw [AE hg hv1];exact FJ hv2 β
  obtain ⟨us,hus,hcells⟩:=Jc hg.gh hc2
  rw [List.append_nil] at hus
  subst hus
  have henc:S.enc τ (S.of τ p)=EG (S.fds τ) p:=by unfold As.enc;rw [S.FF]
  obtain ⟨es,hh,_⟩:=id hM
  obtain ⟨es',hr,hM'⟩:=LW (P:=P) (T:=T) hM (fun h=>hg.gh.off i _ _ hi (.inl hgb) h) hc.1 hc.2 (y:=S.of τ p) (us:=AD β cs) (by rw [henc];exact hcells)
  have hset:=MapKept.heap_set (o':=.map es' es'.size) hh
  refine ⟨{ w with heap:=w.heap.setIfInBounds g (.map es' es'.size) },?_,hg.gh.LL hi (.inl hgb) trivial rfl rfl rfl (by simp) (fun j _ hj=>hset.2 j hj) ⟨g,hgb,hM'⟩⟩
  simp [execOp,hop,em,est,ev',hr]
 ·rename_i i d hm
  split
  case h_2=>trivial
  rename_i κ τ ag E ls hi
  split
  case h_2=>trivial
  rename_i p hp
  obtain ⟨cs,hc1,hc2⟩:=Option.bind_eq_some_iff.1 hp
  obtain ⟨vv,hv1,hv2⟩:=Option.bind_eq_some_iff.1 hc1
  intro hc
  simp only [Cd,ii] at hc
  obtain ⟨g,c,hsub,hden,hM⟩:=Rs hg.gh hi hc.1
  have em:a.eval m=.map (some g):=by rw [AE hg hm];exact hden
  have ev':a.eval v=Fx ag (AD β cs):=by rw [AE hg hv1];exact FJ hv2 β
  obtain ⟨us,hus,hcells⟩:=Jc hg.gh hc2
  rw [List.append_nil] at hus
  subst hus
  have henc:S.enc τ (S.of τ p)=EG (S.fds τ) p:=by unfold As.enc;rw [S.FF]
  obtain ⟨es,hh,_⟩:=id hM
  obtain ⟨es',hr,hM'⟩:=LW (P:=P) (T:=T) hM (fun h=>hg.gh.off i _ _ hi (.inr ⟨d,c,hsub⟩) h) hc.2.1 hc.2.2 (y:=S.of τ p) (us:=AD β cs) (by rw [henc];exact hcells)
  refine ⟨{ w with heap:=w.heap.setIfInBounds g (.map es' es'.size) },?_,Tq hg.gh hi hsub hh hM'⟩
  simp [execOp,hop,em,est,ev',hr]
 ·trivial
def pn (b:Nat):Value:=.slice (some ⟨b,0,none⟩) 0 0
def bQ (b:Option Nat) (len cap:Nat) (bs:List Nat):Nm:=We b len cap (bs.map pn)
theorem QU {b:Option Nat} {len cap c:Nat} {bs:List Nat}:(bQ b len cap bs).sub c=(bs[c]?).map fun x=>(x,0):=by
 unfold bQ We Nm.sub
 simp only [List.getElem?_toArray,List.getElem?_map]
 cases bs[c]?<;>rfl
def mV (b:Nat):Value:=.map (some b)
theorem PB {n:Nm} {κ:Fd} {τ:Nat} {ag:Bool} {ls:List (List (κ.T S.T×S.T τ))} {vs:List Value} (h:Sg S w D n κ τ ag ls vs) (hl:vs.length=ls.length):
  ∃ bs:List Nat,vs=bs.map mV/\bs.length=ls.length/\bs.Nodup/\(∀ b∈bs,∃ c k,n.sub c=some (b,k))/\ ∀ (c:Nat) (m:List (κ.T S.T×S.T τ)) (b:Nat),ls[c]?=some m->bs[c]?=some b->MapAt S w D κ τ ag b m:=by
 have hs: ∀ c,c<ls.length-> ∃ b k,n.sub c=some (b,k)/\vs[c]?=some (mV b)/\ ∃ m,ls[c]?=some m/\MapAt S w D κ τ ag b m:=fun c hc=>by
  obtain ⟨b,k,h1,h2,h3⟩:=h.cell c _ (co hc)
  exact ⟨b,k,h1,h2,_,co hc,h3⟩
 have hat: ∀ c b,((List.range ls.length).map fun c=>((n.sub c).map Prod.fst).getD 0)[c]?=some b->c<ls.length/\ ∃ k,n.sub c=some (b,k)/\vs[c]?=some (mV b)/\ ∃ m,ls[c]?=some m/\MapAt S w D κ τ ag b m:=fun c b hb=>by
  rw [List.getElem?_map] at hb
  obtain ⟨c',h1,h2⟩:=Option.map_eq_some_iff.1 hb
  obtain ⟨h3,h4⟩:=List.getElem?_eq_some_iff.1 h1
  simp only [List.length_range] at h3
  simp only [List.getElem_range] at h4
  subst h4
  obtain ⟨b',k,k1,k2,k3⟩:=hs c h3
  simp only [k1,Option.map_some,Option.getD_some] at h2
  subst h2
  exact ⟨h3,k,k1,k2,k3⟩
 refine ⟨(List.range ls.length).map fun c=>((n.sub c).map Prod.fst).getD 0,?_,by simp,?_,fun b hb=>?_,fun c m b hm hb=>?_⟩
 ·apply List.ext_getElem?
  intro c
  by_cases hc:c<ls.length
  ·obtain ⟨b,k,k1,k2,_⟩:=hs c hc
   rw [k2];simp [hc,k1,mV]
  ·rw [List.getElem?_eq_none (by omega),List.getElem?_eq_none (by simp;omega)]
 ·refine List.pairwise_iff_getElem.2 fun i j hi hj hij he=>?_
  obtain ⟨b,k,k1,_⟩:=hs i (by simpa using hi)
  obtain ⟨b',k',k1',_⟩:=hs j (by simpa using hj)
  simp only [List.getElem_map,List.getElem_range,k1,k1',Option.map_some,Option.getD_some] at he
  subst he
  have:=h.inj _ _ _ _ _ k1 k1'
  omega
 ·obtain ⟨c,hc⟩:=List.mem_iff_getElem?.1 hb
  obtain ⟨_,k,k1,_⟩:=hat c b hc
  exact ⟨c,k,k1⟩
 ·obtain ⟨_,k,_,_,m',h1,h2⟩:=hat c b hb
  rw [hm] at h1;cases h1;exact h2
theorem Yt {l:List Nat} (h:l.Nodup) {i j b:Nat} (hi:l[i]?=some b) (hj:l[j]?=some b):i=j:=by
 obtain ⟨li,ei⟩:=List.getElem?_eq_some_iff.1 hi
 obtain ⟨lj,ej⟩:=List.getElem?_eq_some_iff.1 hj
 have h:=List.pairwise_iff_getElem.1 h
 by_cases h1:i<j
 ·exact absurd (ei.trans ej.symm) (h i j li lj h1)
 ·by_cases h2:j<i
  ·exact absurd (ej.trans ei.symm) (h j i lj li h2)
  ·omega
theorem dF {b:Option Nat} {len cap:Nat} {bs:List Nat} {κ:Fd} {τ:Nat} {ag:Bool} {ls:List (List (κ.T S.T×S.T τ))} (hl:bs.length=ls.length) (hn:bs.Nodup) (hb: ∀ x∈bs,b≠some x) (hm: ∀ (c:Nat) (m:List (κ.T S.T×S.T τ)) (b:Nat),ls[c]?=some m->bs[c]?=some b->MapAt S w D κ τ ag b m):
  Sg S w D (bQ b len cap bs) κ τ ag ls (bs.map mV):=by
 have hsub: ∀ c x k,(bQ b len cap bs).sub c=some (x,k)->bs[c]?=some x:=fun c x k h=>by
  rw [QU] at h
  obtain ⟨y,h1,h2⟩:=Option.map_eq_some_iff.1 h
  cases h2;exact h1
 refine ⟨fun e m he=>?_,fun c d x k k' h1 h2=>?_,fun c x k h1=>?_⟩
 ·have hlt:=(List.getElem?_eq_some_iff.1 he).1
  have hbe:bs[e]?=some (bs[e]'(by omega)):=co _
  exact ⟨_,0,by rw [QU,hbe];rfl,by rw [List.getElem?_map,hbe];rfl,hm e m _ he hbe⟩
 ·exact Yt hn (hsub _ _ _ h1) (hsub _ _ _ h2)
 ·exact hb x (gc (hsub _ _ _ h1))
theorem KO {b:Option Nat} {len cap g:Nat} {bs:List Nat} (h:(bQ b len cap bs).has g):b=some g\/g∈bs:=by
 rcases h with h|⟨c,k,h⟩
 ·exact .inl h
 ·rw [QU] at h
  obtain ⟨y,h1,h2⟩:=Option.map_eq_some_iff.1 h
  cases h2;exact .inr (gc h1)
theorem Rr (hg:G w0 F D0 D s N β a w) (hN:¬ N s.n) {o:Oper} {T e:Nat} {x:Operand} {te:TI} (ho:o.op=.buildSlice T 1 ⟨[(0,x)]⟩) (h2:P.underlying T=some (.slice e)) (h3:(P.info? e).map (·.size)=some 1) (hok:te.ok S P e) (hsz:te.sz=1)
  {j:Nat} {κ:Fd} {τ:Nat} {ag:Bool} {l:List (κ.T S.T×S.T τ)} (hx:ev s x=some (.CC j)) (hj:lk s.o j=some (.mp κ τ ag l)):XG P w0 F D0 D s.n N β a w o ((s.n,.mr κ τ ag e [l])::rm s.o j):=by
 have hz1:te.z.cells.size=1:=by rw [<-Array.length_toList,hok.zc β,AI,hok.zl,hsz]
 obtain ⟨g,hgb,hM⟩:=hg.gh.own j _ hj
 have A5:(β j).AX=g:=by simp [Nm.AX,hgb]
 have ex:a.eval x=mV g:=by rw [AE hg hx];simp only [SV.den,A5,mV]
 have hgl:=hg.gh.lt j _ g hj (.inl hgb)
 obtain ⟨arr,h4,harr⟩: ∃ arr:Array Value,Instr.fill (fun i=>some (i*1,1)) ((Array.range (1*1)).map (te.z.cells[· % 1]!)) ([(0,x)].map fun x=>(x.1,a.eval x.2))=some arr/\arr=#[mV g]:=by
  have h: ∀ f:Nat->Value,((Array.range 1).map f).setIfInBounds 0 (mV g)=#[mV g]:=fun f=>Array.ext (by simp) fun i h1 h2=>by
   have:i=0:=by simp at h2;exact h2
   subst this;simp
  refine ⟨_,?_,rfl⟩
  simp only [mV] at ex h
  simp [Instr.fill,ex,mV,Value.cells,h]
 have hrun:(execOp a.eval o).run P w=.ok (.value (.slice (some ⟨w.heap.size,0,none⟩) 1 1)) (w.alloc (.cells arr e)):=by
  have hn0:¬ (16777216<1*1):=by omega
  have e24:(2:Nat) ^ 24=16777216:=rfl
  have h0:¬ (1*1=0):=by omega
  simp only [execOp,ho,Instr.buildSlice,Sem.run_bind,run_underlying h2,Result.andThen_ok,Ap h3,e24,GT.gt,hn0,if_false,h0,Sem.run_pure,hok.zero,hz1,List.map_toArray,h4,newRow,run_newObj]
  rfl
 subst harr
 have hgh1:=(hg.gh.step (w':=w.alloc (.cells #[mV g] e)) ((Below.refl _ _).alloc (Nat.le_refl _) _)).Hh (o':=rm s.o j) (fun i b h=>by
  rw [Cy] at h;split at h
  ·cases h
  ·exact h)
 have hkeep: ∀ k,k<w.heap.size->(w.alloc (.cells #[mV g] e)).heap[k]?=w.heap[k]?:=fun k hk=>(Below.alloc (Below.refl _ w) (Nat.le_refl _) _).block k hk
 obtain ⟨β',hβ,hβn,hgh'⟩:=hgh1.name (b:=.mr κ τ ag e [l]) (nm:=bQ (some w.heap.size) 1 1 [g]) (n:=s.n) hN trivial
  (fun β' _ _=>⟨rfl,[mV g],I6 (heap_alloc_new _ _) (by rfl) (by simp [maxLen]),dF (bs:=[g]) rfl (by simp) (by simp;omega) fun c m b hm hb=>by
   match c,hm,hb with
   | 0,hm,hb=>cases hm;cases hb;exact hM.B4 (hkeep g hgl) (fun k hk=>hkeep k (hg.gh.DL k hk)) fun _ h=>h⟩)
  (fun k hk=>by
   rcases KO hk with h|h
   ·cases h;exact .inl hg.gh.fr.size
   ·simp at h;subst h;exact hg.gh.fresh j _ _ hj (.inl hgb))
  (fun k hk hD=>by
   rcases KO hk with h|h
   ·cases h;have:=hg.gh.DL _ hD;omega
   ·simp at h;subst h;exact hg.gh.off j _ _ hj (.inl hgb) hD)
  (fun i b k hi hik hk=>by
   rw [Cy] at hi
   split at hi
   ·cases hi
   rename_i hne
   rcases KO hk with h|h
   ·cases h;have:=hg.gh.lt i b _ hi hik;omega
   ·simp at h;subst h;exact hne (hg.gh.inj i j b _ _ hi hj hik (.inl hgb)).symm)
  (fun k hk=>by
   rcases KO hk with h|h
   ·cases h;show w.heap.size<(w.heap.push _).size;rw [Array.size_push];exact lw _
   ·simp at h;subst h;exact dg hgl (by show w.heap.size<=(w.heap.push _).size;rw [Array.size_push];exact Nat.le_succ _))
 refine ⟨β',_,?_,hβ,hgh'⟩
 rw [hrun]
 simp only [SV.den,hβn]
 rfl
theorem Tp {tb:List (Nat×TI)} (htb:Ae S P tb) (hg:G w0 F D0 D s N β a w) {o:Oper} {T n:Nat} {parts:List (Nat×Operand)} (ho:o.op=.buildSlice T n ⟨parts⟩):R.Sound P w0 F D0 D s N β a w o (Yo tb s T n parts):=by
 unfold Yo
 split
 case h_2=>trivial
 rename_i e esz h1
 obtain ⟨h2,h3⟩:=Ag htb h1
 split
 case h_2=>trivial
 rename_i te x hte hesz hn
 have hesz:=ac hesz;subst hesz
 have hn:=ac hn;subst hn
 have hok:=htb.get hte
 split
 case h_2=>trivial
 rename_i j hag hsz hx
 have hsz:=ac hsz
 split
 case h_2=>trivial
 rename_i κ τ ag l hj
 intro _ hN
 subst hN
 exact XG.ok (Rr hg (Nat.lt_irrefl _) ho h2 h3 hok hsz hx hj)
theorem Yq (hg:G w0 F D0 D s N β a w) {k e:Nat} {κ:Fd} {τ:Nat} {ag:Bool} {l:List (κ.T S.T×S.T τ)} (hk:lk s.o k=some (.mr κ τ ag e [l])):
  ∃ g2,(β k).has g2/\MapAt S w D κ τ ag g2 l/\(SV.tr k).den β=.slice ((β k).b.map fun b=>⟨b,0,none⟩) 1 (β k).cap/\w.ownsRow 0 e 1 (.slice ((β k).b.map fun b=>⟨b,0,none⟩) 1 (β k).cap) 1 [mV g2]:=by
 obtain ⟨hlk,vk,hkrow,hkm⟩:=hg.gh.own k _ hk
 obtain ⟨bk,rfl,hbkl,_,hkhas,hkmaps⟩:=PB hkm (by simpa using hkrow.1)
 match bk,hbkl with
 | [g2],_=>
 exact ⟨g2,by obtain ⟨c,q,h⟩:=hkhas g2 (by simp);exact .inr ⟨c,q,h⟩,hkmaps 0 l g2 rfl rfl,by simp only [SV.den,hlk];rfl,hkrow⟩
theorem U2 (hg:G w0 F D0 D s N β a w) {i e:Nat} {κ:Fd} {τ:Nat} {ag:Bool} {ls:List (List (κ.T S.T×S.T τ))} (hi:lk s.o i=some (.mr κ τ ag e ls)):
  ∃ bs:List Nat,w.ownsRow 0 e 1 ((SV.tr i).den β) ls.length (bs.map mV)/\bs.length=ls.length/\bs.Nodup/\(∀ g,((SV.tr i).den β).ownBlock=some g->g ∉ bs/\ ∃ j b,some i=some j/\lk s.o j=some b/\(β j).has g)/\(∀ g∈bs,∃ j b,some i=some j/\lk s.o j=some b/\(β j).has g)/\
   ∀ (c:Nat) (m:List (κ.T S.T×S.T τ)) (b:Nat),ls[c]?=some m->bs[c]?=some b->MapAt S w D κ τ ag b m:=by
 obtain ⟨hlen,vs,hrow,hm⟩:=hg.gh.own i _ hi
 obtain ⟨bs,rfl,hbl,hbn,hhas,hmaps⟩:=PB hm (by simpa using hrow.1)
 refine ⟨bs,by simp only [SV.den,hlen];exact hrow,hbl,hbn,fun g h=>?_,fun g h=>?_,hmaps⟩
 ·have hb:(β i).b=some g:=by
   simp only [SV.den] at h
   cases hb:(β i).b with
   | none=>simp [hb,Value.ownBlock] at h
   | some q=>simpa [hb,Value.ownBlock] using h
  exact ⟨fun hgm=>by obtain ⟨c,q,h5⟩:=hhas g hgm;exact hm.ne c g q h5 hb,i,_,rfl,hi,.inl hb⟩
 ·obtain ⟨c,q,h5⟩:=hhas g h
  exact ⟨i,_,rfl,hi,.inr ⟨c,q,h5⟩⟩
theorem Pe {o:Oper} {T k e:Nat} {x y:Operand} {te:TI} (hg:G w0 F D0 D s N β a w) (hN:¬ N s.n) (hop:o.op=.call ⟨.builtin .append,#[x,y],#[T,T]⟩) (hd:P.underlying T=some (.slice e)) (hoe:te.ok S P e) (hsz:te.sz=1)
  {κ:Fd} {τ:Nat} {ag:Bool} {l:List (κ.T S.T×S.T τ)} {bk:Own S} {g2 kr:Nat} (hk:lk s.o k=some bk) (hg2:(β k).has g2) (hM2:MapAt S w D κ τ ag g2 l) (hyv: ∃ yv,ev s y=some yv/\yv.den β=.slice ((β kr).b.map fun b=>⟨b,0,none⟩) 1 (β kr).cap) (hkrow:w.ownsRow 0 e 1 (.slice ((β kr).b.map fun b=>⟨b,0,none⟩) 1 (β kr).cap) 1 [mV g2]) {xv:SV} (hx:ev s x=some xv) {d:Option Nat} (hdk:d≠some k) {ls:List (List (κ.T S.T×S.T τ))} {bs:List Nat}
  (hown:w.ownsRow 0 e 1 (xv.den β) ls.length (bs.map mV)) (hbl:bs.length=ls.length) (hbn:bs.Nodup) (A5: ∀ g,(xv.den β).ownBlock=some g->g ∉ bs/\ ∃ i b,d=some i/\lk s.o i=some b/\(β i).has g) (hhas: ∀ g∈bs,∃ i b,d=some i/\lk s.o i=some b/\(β i).has g)
  (hbm: ∀ (c:Nat) (m:List (κ.T S.T×S.T τ)) (b:Nat),ls[c]?=some m->bs[c]?=some b->MapAt S w D κ τ ag b m) (hroom:room te.bs (ls.length+1)=true):
  XG P w0 F D0 D s.n N β a w o ((s.n,.mr κ τ ag e (ls++[l]))::rm (EU s.o d) k):=by
 simp only [room,ii] at hroom
 have hkb:=A6 hkrow (by simp)
 obtain ⟨yv,hy,hyd⟩:=hyv
 have hinf:=hoe.info
 cases hi:P.info? e with
 | none=>simp [hi] at hinf
 | some i=>
 simp only [hi,Option.map_some,am,bi] at hinf
 obtain ⟨hiz,his,hib⟩:=hinf
 have hzc:te.z.cells.size=1:=by rw [<-Array.length_toList,hoe.zc β,AI,hoe.zl,hsz]
 have e1:a.eval x=xv.den β:=AE hg hx
 have e2:a.eval y=.slice (some ⟨(β kr).AX,0,none⟩) 1 (β kr).cap:=by rw [AE hg hy,hyd,hkb];rfl
 have hle:ls.length+1<=(ls.length+1)*(te.bs+1):=Nat.le_mul_of_pos_right _ (by omega)
 obtain ⟨v',w',hr,h2,h3,h4⟩:=CE w T o.type e i te.z 1 te.bs hd hi hiz (his.trans hsz) hib hzc (by omega) (xv.den β) ls.length (bs.map mV) hown ⟨(β kr).AX,0,none⟩ 1 (β kr).cap [mV g2] (by simp)
  (fun j u hu=>by rw [add_lit,Nat.zero_add];exact (BE hkrow hu).2) (by intro u hu;simp at hu;subst hu;rfl) (by simp only [maxLen];omega) (Nat.le_trans (Nat.mul_le_mul_left _ (by omega)) hroom)
 obtain ⟨hgh,hD⟩:=hg.gh.Y0 (d:=d) h3 (fun g hg'=>by
  obtain ⟨_,i,b,h5⟩:=A5 g hg'
  exact ⟨i,b,h5⟩)
 have hgh2:=hgh.Hh (o':=rm (EU s.o d) k) (fun i b h=>by
  rw [Cy] at h;split at h
  ·cases h
  ·exact h)
 obtain ⟨hv',hv2,hv3⟩:=EK (len:=(ls++[l]).length) (n:=(ls++[l]).length) (w:=w') (e:=e) (size:=1) (base:=0) (v:=v') (xs:=bs.map mV++[mV g2]) (by rw [List.length_append];exact h2)
 have hltb: ∀ g∈bs,g<w.heap.size:=fun g h=>by obtain ⟨i,b,_,h5,h6⟩:=hhas g h;exact hg.gh.lt i b g h5 h6
 have hlt2:g2<w.heap.size:=hg.gh.lt k _ g2 hk hg2
 have h2n: ∀ g,(∃ i b,d=some i/\lk s.o i=some b/\(β i).has g)->g≠g2:=fun g ⟨i,b,h5,h6,h7⟩ he=>by
  subst he
  exact hdk (by rw [h5,hg.gh.inj i k b _ g h6 hk h7 hg2])
 have hcase: ∀ g,v'.ownBlock=some g->((∃ i b,d=some i/\lk s.o i=some b/\(β i).has g)/\g ∉ bs)\/g=w.heap.size:=fun g hg'=>by
  rcases h4 with h4|h4|h4<;>rw [hg'] at h4
  ·cases h4
  ·obtain ⟨h5,h6⟩:=A5 g h4.symm;exact .inl ⟨h6,h5⟩
  ·simp only [am] at h4;exact .inr h4
 have hall: ∀ g,(bQ (CD (ls++[l]).length v').b (ls++[l]).length (CD (ls++[l]).length v').cap (bs++[g2])).has g->(∃ i b,(d=some i\/i=k)/\lk s.o i=some b/\(β i).has g)\/(g=w.heap.size/\v'.ownBlock=some g):=fun g hg'=>by
  rcases KO hg' with h|h
  ·rw [hv2] at h
   rcases hcase g h with ⟨⟨i,b,h5,h6,h7⟩,_⟩|h5
   ·exact .inl ⟨i,b,.inl h5,h6,h7⟩
   ·exact .inr ⟨h5,h⟩
  ·rcases List.mem_append.1 h with h|h
   ·obtain ⟨i,b,h5,h6,h7⟩:=hhas g h;exact .inl ⟨i,b,.inl h5,h6,h7⟩
   ·simp at h;subst h;exact .inl ⟨k,_,.inr rfl,hk,hg2⟩
 have hkeepM: ∀ g m,g<w.heap.size->some g≠(xv.den β).ownBlock->MapAt S w D κ τ ag g m->MapAt S w' D κ τ ag g m:=fun g m h5 h6 h7=>h7.B4 (h3.block g h5 h6) hD fun _ h=>h
 have hmr:Sg S w' D (bQ (CD (ls++[l]).length v').b (ls++[l]).length (CD (ls++[l]).length v').cap (bs++[g2])) κ τ ag (ls++[l]) ((bs++[g2]).map mV):=by
  refine dF (by simp [hbl]) ?_ (fun g hg' he=>?_) fun c m b hm hb=>?_
  ·rw [List.nodup_append]
   exact ⟨hbn,by simp,fun x hx y hy he=>by simp at hy;subst hy;exact h2n _ (hhas _ hx) he⟩
  ·rw [hv2] at he
   rcases List.mem_append.1 hg' with h|h
   ·rcases hcase g he with ⟨_,h5⟩|h5
    ·exact h5 h
    ·have:=hltb g h;omega
   ·simp at h;subst h
    rcases hcase g he with ⟨h5,_⟩|h5
    ·exact h2n _ h5 rfl
    ·omega
  ·rw [List.getElem?_append] at hm hb
   rw [hbl] at hb
   split at hm
   ·rename_i hc
    rw [if_pos hc] at hb
    exact hkeepM b m (hltb b (gc hb)) (fun he=>(A5 b he.symm).1 (gc hb)) (hbm c m b hm hb)
   ·rename_i hc
    rw [if_neg hc] at hb
    have h0:c -ls.length=0:=by have:=(List.getElem?_eq_some_iff.1 hm).1;simp at this;omega
    rw [h0] at hm hb
    cases hm;cases hb
    exact hkeepM _ _ hlt2 (fun he=>h2n _ (A5 _ he.symm).2 rfl) hM2
 obtain ⟨β',hβ,hβn,hgh'⟩:=hgh2.name (b:=.mr κ τ ag e (ls++[l])) (nm:=bQ (CD (ls++[l]).length v').b (ls++[l]).length (CD (ls++[l]).length v').cap (bs++[g2])) (n:=s.n) hN trivial
  (fun β' hβ hn'=>⟨rfl,(bs++[g2]).map mV,by
   show w'.ownsRow 0 e 1 (.slice ((CD (ls++[l]).length v').b.map fun b=>⟨b,0,none⟩) (ls++[l]).length (CD (ls++[l]).length v').cap) _ _
   rw [<-hv',List.length_append,List.map_append];exact h2,hmr⟩)
  (fun g hg'=>by
   rcases hall g hg' with ⟨i,b,_,h6,h7⟩|⟨h5,_⟩
   ·exact hg.gh.fresh i b g h6 h7
   ·subst h5;exact .inl hg.gh.fr.size)
  (fun g hg' hDg=>by
   rcases hall g hg' with ⟨i,b,_,h6,h7⟩|⟨h5,_⟩
   ·exact hg.gh.off i b g h6 h7 hDg
   ·subst h5;have:=hg.gh.DL _ hDg;omega)
  (fun i b g hi' hib he=>by
   rw [Cy] at hi'
   split at hi'
   ·cases hi'
   rename_i hki
   have h10:=Ea i b hi'
   rcases hall g he with ⟨j,b',h5,h6,h7⟩|⟨h5,_⟩
   ·have:=hg.gh.inj i j b b' g h10 h6 hib h7
    subst this
    rcases h5 with h5|h5
    ·subst h5;simp [EU,Cy] at hi'
    ·exact hki h5.symm
   ·subst h5;have:=hg.gh.lt i b _ h10 hib;omega)
  (fun g hg'=>by
   rcases hall g hg' with ⟨i,b,_,h6,h7⟩|⟨h5,h6⟩
   ·exact dg (hg.gh.lt i b g h6 h7) h3.size
   ·exact ownsRow_blk_lt h2 h6)
 refine ⟨β',w',?_,hβ,hgh'⟩
 unfold execOp
 simp only [hop,resolve,invoke,builtin,Sem.run_bind,Sem.run_pure,Result.andThen_ok,List.map_toArray,List.map_cons,List.map_nil,e1,e2,hr,SV.den,hβn]
 show Result.ok (Next.value v') w'=Result.ok (Next.value (.slice ((CD (ls++[l]).length v').b.map fun b=>⟨b,0,none⟩) (ls++[l]).length (CD (ls++[l]).length v').cap)) w'
 rw [<-hv']
theorem Wx {o:Oper} {T k e:Nat} {x y:Operand} {te:TI} (hg:G w0 F D0 D s N β a w) (hN:¬ N s.n) (hop:o.op=.call ⟨.builtin .append,#[x,y],#[T,T]⟩) (hd:P.underlying T=some (.slice e)) (hoe:te.ok S P e) (hsz:te.sz=1)
  {κ:Fd} {τ:Nat} {ag:Bool} {l:List (κ.T S.T×S.T τ)} {m:Nat} (hk:lk s.o k=some (.row e 1 1 [.CC m])) (hm2:lk s.o m=some (.mp κ τ ag l)) (hy:ev s y=some (.row k 1)) {i:Nat} (hx:ev s x=some (.tr i)) (hne:i≠m) {ls':List (List (κ.T S.T×S.T τ))} (hi:lk s.o i=some (.mr κ τ ag e ls')) (hroom:room te.bs (ls'.length+1)=true):
  XG P w0 F D0 D s.n N β a w o ((s.n,.mr κ τ ag e (ls'++[l]))::rm (rm s.o i) m):=by
 obtain ⟨g2,hgb,hM2⟩:=hg.gh.own m _ hm2
 have hkrow:w.ownsRow 0 e 1 (.slice ((β k).b.map fun b=>⟨b,0,none⟩) 1 (β k).cap) 1 (AD β [.CC m]):=hg.gh.own k _ hk
 have A5:(β m).AX=g2:=by simp [Nm.AX,hgb]
 simp only [AD,SV.den,A5] at hkrow
 obtain ⟨q1,q2,q3,q4,q5,q6,q7⟩:=U2 hg hi
 exact Pe (s:=s) (d:=some i) (ls:=ls') (bs:=q1) hg hN hop hd hoe hsz hm2 (.inl hgb) hM2 ⟨_,hy,by simp only [SV.den]⟩ hkrow hx (by simpa using hne) q2 q3 q4 q5 q6 q7 hroom
theorem Sn {tb:List (Nat×TI)} (htb:Ae S P tb) (hg:G w0 F D0 D s N β a w) {o:Oper} {T:Nat} {x y:Operand} (hop:o.op=.call ⟨.builtin .append,#[x,y],#[T,T]⟩):R.Sound P w0 F D0 D s N β a w o (dy tb s T x y):=by
 unfold dy
 split
 case h_2=>trivial
 rename_i e esz ht
 have hd:=Ag htb ht
 simp only [TD.ok] at hd
 split
 case h_2=>trivial
 rename_i te k hte hesz hy
 have hoe:=htb.get hte
 split
 case h_2=>trivial
 rename_i κ τ ag E l hsz hk
 have hsz:=ac hsz
 split
 ·rename_i n c hE hx
  have hE:=ac hE;subst hE
  split
  case h_2=>trivial
  rename_i hn hc
  have hn:=ac hn;subst hn
  have hc:=ac hc;subst hc
  intro hroom hN
  subst hN
  obtain ⟨g2,k1,k2,k3,k4⟩:=Yq hg hk
  exact XG.ok<|Pe (d:=none) (ls:=[]) (bs:=[]) hg (Nat.lt_irrefl _) hop hd.1 hoe hsz hk k1 k2 ⟨_,hy,k3⟩ k4 hx (by simp) (by simpa [SV.den] using World.ownsRow_nil w 0 E 1) rfl (by simp) (fun g h=>by simp [SV.den,Value.ownBlock] at h) (by simp) (fun c m b h=>by simp at h) hroom
 ·rename_i i hE hx
  have hE:=ac hE;subst hE
  split
  case h_2=>trivial
  rename_i κ' τ' ag' E' ls' hik hi
  split
  case h_2=>trivial
  rename_i hτ hκ hE' hag _ _
  have hE':=ac hE';subst hE'
  have hag:=C1.1 hag;subst hag
  subst hτ
  subst hκ
  intro hroom hN
  subst hN
  have hne:i≠k:=fun h=>by subst h;simp at hik
  obtain ⟨g2,k1,k2,k3,k4⟩:=Yq hg hk
  obtain ⟨q1,q2,q3,q4,q5,q6,q7⟩:=U2 hg hi
  exact XG.ok<|Pe (d:=some i) (ls:=ls') (bs:=q1) hg (Nat.lt_irrefl _) hop hd.1 hoe hsz hk k1 k2 ⟨_,hy,k3⟩ k4 hx (by simpa using hne) q2 q3 q4 q5 q6 q7 hroom
 ·trivial
end
end Go.En
namespace Go.En
open Go.RowKit
section
variable {S:As} {P:Program} {w0:World} {F D0 D:Nat->Prop} {s:St S} {N:Nat->Prop} {β:Nat->Nm} {a:Act} {w:World}
theorem Im {o:Oper} {r q:R S} (h:R.Sound P w0 F D0 D s N β a w o r) (k:R.Sound P w0 F D0 D s N β a w o q):R.Sound P w0 F D0 D s N β a w o (iw r q):=by
 unfold iw;split
 ·exact k
 ·exact h
theorem KV (hg:G w0 F D0 D s N β a w) {o:Oper} {x:Operand} (h:(execOp a.eval o).run P w=.ok (.value (a.eval x)) w):R.Sound P w0 F D0 D s N β a w o (match ev s x with|some v=>.val none v|none=>.stop):=by
 split
 ·rename_i v hv
  exact AF (CW hg hv) fun _=>by rw [h,AE hg hv]
 ·trivial
theorem Dt (hg:G w0 F D0 D s N β a w): ∀ {l:List Operand} {vs:List SV},Ht s l=some vs->l.map a.eval=AD β vs/\BZ N vs
 | [],vs,h=>by simp only [Ht,am] at h;subst h;simp [AD,BZ]
 | x::r,vs,h=>by
  simp only [Ht] at h
  split at h
  case h_2=>cases h
  rename_i v h1
  split at h
  case h_2=>cases h
  rename_i l h2
  simp only [am] at h;subst h
  obtain ⟨h3,h4⟩:=Dt hg h2
  exact ⟨by simp [AD,AE hg h1,h3],⟨CW hg h1,h4⟩⟩
theorem WE {c:Bool} {x y z:SV} (h:ZE c x y=some z) (β:Nat->Nm):z.den β=(if c=true then x.den β else y.den β)/\ ∀ N:Nat->Prop,z.on N:=by
 unfold ZE at h
 split at h
 ·rename_i k n k' m
  split at h
  ·rename_i hk
   have:=(DR _ _).1 hk;subst this
   cases h
   exact ⟨by cases c<;>simp [SV.den],fun _=>trivial⟩
  ·cases h
 ·cases h;exact ⟨by cases c<;>simp [SV.den],fun _=>trivial⟩
 ·cases h;exact ⟨by cases c<;>simp [SV.den],fun _=>trivial⟩
 ·cases h;exact ⟨by cases c<;>simp [SV.den],fun _=>trivial⟩
 ·cases h;exact ⟨by cases c<;>simp [SV.den],fun _=>trivial⟩
 ·cases h
theorem Bh {tb:List (Nat×TI)} (htb:Ae S P tb) (hg:G w0 F D0 D s N β a w) (o:Oper):R.Sound P w0 F D0 D s N β a w o (evalOp tb s o.op):=by
 generalize ho:o.op=op
 unfold evalOp
 split
 case h_1=>exact KV hg (by simp [execOp,ho])
 case h_2=>exact KV hg (by simp [execOp,ho])
 case h_3 c x y=>
  split
  ·rename_i hc
   exact KV hg (by simp [execOp,ho,AE hg hc,SV.den,asBool])
  ·rename_i hc
   exact KV hg (by simp [execOp,ho,AE hg hc,SV.den,asBool])
  ·rename_i b hc
   split
   ·rename_i u v hu hv
    split
    ·rename_i z hz
     obtain ⟨h1,h2⟩:=WE hz β
     refine AF (h2 _) fun _=>?_
     rw [h1,<- AE hg hu,<- AE hg hv]
     cases b<;>simp [execOp,ho,AE hg hc,SV.den,asBool]
    ·trivial
   ·trivial
  ·trivial
 case h_4 T=>
  split
  ·rename_i t ht
   have hok:=htb.get ht
   refine ⟨by simpa [Own.on] using hok.zn N,.cells (AD β t.zc).toArray T,0,0,fun n β' hβ hn=>⟨?_,?_⟩⟩
   ·have hz:t.z.cells=(AD β t.zc).toArray:=by rw [<-hok.zc β]
    simp [execOp,ho,Instr.alloc,hok.zero,newVar,newRow,hz,HS,SV.den,hn,Nm.AX]
   ·refine ⟨w.heap.size,rfl,?_⟩
    rw [heap_alloc_new,<- hok.zc β,<- hok.zc β']
  ·trivial
 case h_5 T x=>
  split
  ·rename_i cs hcs
   obtain ⟨v,hv1,hv2⟩:=Option.bind_eq_some_iff.1 hcs
   obtain ⟨h1,h2⟩:=Kg hv2 β
   have hnb:BZ N cs:=h2 _ (CW hg hv1)
   refine ⟨by simpa [Own.on] using hnb,.cells (AD β cs).toArray T,0,0,fun n β' hβ hn=>⟨?_,?_⟩⟩
   ·have hz:(v.den β).cells=(AD β cs).toArray:=by rw [<-h1]
    simp [execOp,ho,Instr.box,newVar,newRow,AE hg hv1,hz,HS,SV.den,hn,Nm.AX]
   ·refine ⟨w.heap.size,rfl,?_⟩
    rw [heap_alloc_new,Bf hβ cs hnb]
  ·trivial
 case h_6 T x=>exact G3 htb hg ho
 case h_7 T x y=>exact Og htb hg ho
 case h_8 x=>exact RD hg ho
 case h_9 bop T x y U=>
  split
  ·rename_i p q hp hq
   split
   ·rename_i hT
    split
    ·rename_i p' q' hp' hq'
     exact Su ho (by rw [AE hg hp,UQ hp']) (by rw [AE hg hq,UQ hq']) (Ag htb hT)
    ·trivial
   ·exact Ss htb ho (AE hg hp) (AE hg hq)
   ·rename_i hT;exact Sx ho (Ag htb hT) (AE hg hp) (AE hg hq)
   ·rename_i hT;exact Sw hg ho (Ag htb hT).1 hp hq
   ·split
    ·exact Sy ho (AE hg hp) (AE hg hq)
    ·exact Vf ho (AE hg hp) (AE hg hq)
  ·trivial
 case h_10 uop T x=>
  split
  ·rename_i p hp;exact Zy ho (AE hg hp)
  ·trivial
 case h_11 U T x=>
  split
  ·rename_i ts t p h1 h2 hp;exact Pn htb hg ho (AE hg hp) h1 h2
  ·trivial
 case h_12 f cap=>
  split
  ·rename_i l hf hl
   obtain ⟨h1,h2⟩:=Dt hg hl
   exact AF (by simpa [SV.on] using h2) fun _=>by simp [execOp,ho,Instr.makeFunc,h1,SV.den,Eb hf]
  ·trivial
 case h_13 f fs hne=>
  split
  ·rename_i l hl
   obtain ⟨h1,h2⟩:=Dt hg hl
   exact AF (by simpa [SV.on] using h2) fun _=>by simp [execOp,ho,Instr.makeFunc,h1,SV.den,Kl (show Nat.ble 1000000 (f+1000000)=true from Nat.ble_eq_true_of_le (Nat.le_add_left _ _))]
  ·trivial
 case h_14 T x j=>exact Jt htb hg ho
 case h_15 T x j=>exact Od htb hg ho
 case h_16 T x i=>exact Ju htb hg ho
 case h_17 T x i=>
  split
  ·rename_i hT;exact Oe htb hg ho hT
  ·rename_i hT;exact M8 htb hg ho hT
  ·trivial
 case h_18 T x lo hi=>exact Of htb hg ho
 case h_19 x j=>exact Ls hg ho
 case h_20 T parts=>exact Ob htb hg ho
 case h_21 T n parts=>exact Im (Tp htb hg ho) (JI htb hg ho)
 case h_22 T l c=>exact Im (Rq htb hg ho) (Ro htb hg ho)
 case h_23 T=>exact Rp ho
 case h_24 T m k v=>exact OQ htb hg (.inl ho)
 case h_25 T m k v=>exact OQ htb hg (.inr ho)
 case h_26 T m k=>exact TA htb hg ho
 case h_27 T m st v=>exact TB hg ho
 case h_28 T m k ok=>exact Rl htb hg ho
 case h_29 x T=>exact RC htb hg ho
 case h_30 x y ts=>exact Hw hg false (by simpa using ho)
 case h_31 x y ts=>exact Hw hg true (by simpa using ho)
 case h_32 x y T T'=>
  split
  ·rename_i hT
   have hT:=ac hT;subst hT
   exact Im (Sq htb hg ho) (Im (Sm htb hg ho) (Sn htb hg ho))
  ·split
   ·rename_i hT;exact Sp htb hg (Ag htb hT) ho
   ·trivial
 case h_33 x y T T'=>exact Q8 htb hg ho
 case h_34=>trivial
end
end Go.En
