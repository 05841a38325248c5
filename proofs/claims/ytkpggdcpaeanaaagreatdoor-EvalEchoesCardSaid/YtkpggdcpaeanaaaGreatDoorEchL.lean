/-
 EvalEchoes: the law.
-/
import Derived.Test.YtkpggdcpaeanaaaGreatDoorEchR0
import Derived.Test.YtkpggdcpaeanaaaGreatDoorEchR1
import Derived.Test.YtkpggdcpaeanaaaGreatDoorEchR2
import Derived.Test.YtkpggdcpaeanaaaGreatDoorEchR3
import Derived.Test.YtkpggdcpaeanaaaGreatDoorEchR4
import Derived.Test.YtkpggdcpaeanaaaGreatDoorEchR5
import Derived.Test.YtkpggdcpaeanaaaGreatDoorEchR6
import Derived.Test.YtkpggdcpaeanaaaGreatDoorEchR7
set_option linter.all false
set_option maxRecDepth 100000
namespace Go.Proofs.Tryz
open Go Go.En
theorem Eh (n:Int) (k:Nat) (h:k<21):VM (CD n) (I k):=⟨by simp only [I];omega,by show ((k:Nat):Int)<((21:Nat):Int);omega⟩
section
variable (n:Int) (mem:List Int) (sp:Int)
abbrev GC (r t:Int):EF:=(.mk [109,97,105,110] 0 1 0 20,[r],1,t,[],0,0,())
theorem TQ {inp inp' out:List Int} {fu r v:Int} (h0:5<=fu) (h1:fu<=1000000) (hv:gJ v)
  (he: ∀ fu,0<fu->fu<=1000000->EX 1 4 (st (CD n) mem sp inp out fu) (GC r 0) v (st (CD n) mem sp inp' out (fu -1)) (GC r 0)):
  EX 5 8 (st (CD n) mem sp inp out fu) (GC r 0) (if v= -1 then 0 else 1) (st (CD n) mem sp inp' out (fu -5)) (GC v 0):=by
 have e5:EX 3 5 (st (CD n) mem sp inp out (fu -1)) (GC r 0) v (st (CD n) mem sp inp' out (fu -1 -1 -1)) (GC v 0):=
  EX.gz (by omega) (by omega) (Eh n 5 (by decide)) rfl (he _ (by omega) (by omega)) ⟨dk rfl,dk rfl⟩
 have e6:EX 1 6 (st (CD n) mem sp inp' out (fu -1 -1 -1 -1)) (GC v 0) 1 (st (CD n) mem sp inp' out (fu -1 -1 -1 -1 -1)) (GC v 0):=EX.num (by omega) (by omega) (Eh n 6 (by decide)) rfl
 have e7:EX 3 7 (st (CD n) mem sp inp' out (fu -1 -1 -1)) (GC v 0) (-1) (st (CD n) mem sp inp' out (fu -1 -1 -1 -1 -1)) (GC v 0):=EX.one (by omega) (by omega) (Eh n 7 (by decide)) rfl e6 (by kernel_rfl)
 have e8:=EX.two (p:=CD n) (i:=8) (fr:=GC r 0) (mem:=mem) (sp:=sp) (inp:=inp) (out:=out) (fu:=fu) (by omega) (by omega) (Eh n 8 (by decide)) rfl e5 e7 (gi hv (by decide))
 rwa [show fu -1 -1 -1 -1 -1=fu -5 by omega] at e8
theorem TR: ∀ (cs out:List Int) (fu r:Int),(∀ x∈cs,0<=x/\x<=255)->out.length+cs.length<1000000->8*I cs.length+5<=fu->fu<=1000000->
  WH 5 (4*cs.length+1) 11 8 (nd (CD n) 12) (st (CD n) mem sp cs out fu) (GC r 0) 0 (st (CD n) mem sp [] (out++cs) (fu -8*I cs.length -5)) (GC (-1) 0)
 | [],out,fu,r,_,_,h0,h1=>by
  have e:=TQ n mem sp (inp:=[]) (inp':=[]) (out:=out) (r:=r) (v:= -1) (fu:=fu) (by simp only [I,List.length_nil] at h0;omega) h1 (by decide) fun fu a b=>EX.k9 a b (Eh n 4 (by decide)) rfl
  have:=WH.stop (d:=5) (c:=0) (b:=11) (x:=nd (CD n) 12) (t:=8) (by decide) e
  rw [List.append_nil,show fu -8*I ([]:List Int).length -5=fu -5 by simp only [I,List.length_nil];omega]
  exact this
 | c::cs,out,fu,r,hb,hl,h0,h1=>by
  have hc:=hb c List.mem_cons_self
  simp only [I,List.length_cons] at h0 hl
  have e:=TQ n mem sp (inp:=c::cs) (inp':=cs) (out:=out) (r:=r) (v:=c) (fu:=fu) (by omega) h1 ⟨by omega,by omega⟩ fun fu a b=>EX.lA a b (Eh n 4 (by decide)) rfl hc
  rw [if_neg (show ¬ c= -1 by omega)] at e
  have e9:EX 1 9 (st (CD n) mem sp cs out (fu -5 -1 -1)) (GC c 0) c (st (CD n) mem sp cs out (fu -5 -1 -1 -1)) (GC c 0):=EX.lH (by omega) (by omega) (Eh n 9 (by decide)) rfl ⟨dk rfl,dk rfl⟩
  have e10:EX 3 10 (st (CD n) mem sp cs out (fu -5 -1)) (GC c 0) c (st (CD n) mem sp cs (out++[c]) (fu -5 -1 -1 -1)) (GC c 0):=EX.jm (by omega) (by omega) (Eh n 10 (by decide)) rfl e9 hc (by omega)
  have s11:ST 5 11 (st (CD n) mem sp cs out (fu -5)) (GC c 0) 0 (st (CD n) mem sp cs (out++[c]) (fu -5 -1 -1 -1)) (GC c 0):=ST.of (by omega) (by omega) (Eh n 11 (by decide)) rfl (DO.expr rfl (dk rfl) e10)
  have ih:=TR cs (out++[c]) (fu -5 -1 -1 -1) c (fun x hx=>hb x (List.mem_cons_of_mem _ hx)) (by simp only [List.length_append,List.length_singleton];omega) (by simp only [I];omega) (by omega)
  have:=WH.round (x:=nd (CD n) 12) (b:=11) (t:=8) (by decide) rfl rfl e (by decide) s11 (.inl rfl) ih
  rw [List.append_assoc] at this
  rw [show 4*(c::cs).length+1=4*cs.length+1+4 by simp only [List.length_cons];omega,show fu -8*I (c::cs).length -5=fu -5 -1 -1 -1 -8*I cs.length -5 by simp only [I,List.length_cons];omega]
  exact this
theorem bz (cs:List Int) (hb: ∀ x∈cs,0<=x/\x<=255) (hl:cs.length<=200) (fu:Int) (hf:fu=20000):IB.k (CD n) cs fu=ED (Dop.UQ.mk 1 n cs):=by
 have hI:I cs.length<=200:=by simp only [I];omega
 have h0:(0:Int)<=I cs.length:=by simp only [I];omega
 have e0:EX 1 0 (st (CD n) (List.replicate 4096 0) 1 cs [] (fu -1 -1 -1 -1)) (GC 0 0) 0 (st (CD n) (List.replicate 4096 0) 1 cs [] (fu -1 -1 -1 -1 -1)) (GC 0 0):=EX.num (by omega) (by omega) (Eh n 0 (by decide)) rfl
 have e1:EX 3 1 (st (CD n) (List.replicate 4096 0) 1 cs [] (fu -1 -1 -1)) (GC 0 0) 0 (st (CD n) (List.replicate 4096 0) 1 cs [] (fu -1 -1 -1 -1 -1)) (GC 0 0):=EX.gz (by omega) (by omega) (Eh n 1 (by decide)) rfl e0 ⟨dk rfl,dk rfl⟩
 have s2:ST 5 2 (st (CD n) (List.replicate 4096 0) 1 cs [] (fu -1 -1)) (GC 0 0) 0 (st (CD n) (List.replicate 4096 0) 1 cs [] (fu -1 -1 -1 -1 -1)) (GC 0 0):=ST.of (by omega) (by omega) (Eh n 2 (by decide)) rfl (DO.expr rfl (dk rfl) e1)
 have w:=TR n (List.replicate 4096 0) 1 cs [] (fu -1 -1 -1 -1 -1 -1) 0 hb (by simp only [List.length_nil];omega) (by omega) (by omega)
 rw [List.nil_append] at w
 have s12:ST 8 12 (st (CD n) (List.replicate 4096 0) 1 cs [] (fu -1 -1 -1 -1 -1)) (GC 0 0) 0 (st (CD n) (List.replicate 4096 0) 1 [] cs (fu -1 -1 -1 -1 -1 -1 -8*I cs.length -5)) (GC (-1) 0):=ST.of (by omega) (by omega) (Eh n 12 (by decide)) rfl (DO.iq rfl rfl w (by omega))
 have e13:EX 1 13 (st (CD n) (List.replicate 4096 0) 1 [] cs (fu -1 -1 -1 -1 -1 -1 -8*I cs.length -5 -1)) (GC (-1) 0) n (st (CD n) (List.replicate 4096 0) 1 [] cs (fu -1 -1 -1 -1 -1 -1 -8*I cs.length -5 -1 -1)) (GC (-1) 0):=EX.num (by omega) (by omega) (Eh n 13 (by decide)) rfl
 have s14:ST 3 14 (st (CD n) (List.replicate 4096 0) 1 [] cs (fu -1 -1 -1 -1 -1 -1 -8*I cs.length -5)) (GC (-1) 0) 3 (st (CD n) (List.replicate 4096 0) 1 [] cs (fu -1 -1 -1 -1 -1 -1 -8*I cs.length -5 -1 -1)) (GC (-1) n):=ST.of (by omega) (by omega) (Eh n 14 (by decide)) rfl (DO.E5 (v:=n) (f1:=GC (-1) 0) rfl (dk rfl) e13)
 have b18:BL 8 3 [2,12,14] 0 (st (CD n) (List.replicate 4096 0) 1 cs [] (fu -1 -1)) (GC 0 0) 3 (st (CD n) (List.replicate 4096 0) 1 [] cs (fu -1 -1 -1 -1 -1 -1 -8*I cs.length -5 -1 -1)) (GC (-1) n):=
  BL.cons (by decide) (by decide) (s2.mono (by decide)) (BL.cons (by decide) (by decide) s12 (BL.exit (by decide) (s14.mono (by decide)) (by decide)))
 have s18:ST 10 18 (st (CD n) (List.replicate 4096 0) 1 cs [] (fu -1)) (GC 0 0) 3 (st (CD n) (List.replicate 4096 0) 1 [] cs (fu -1 -1 -1 -1 -1 -1 -8*I cs.length -5 -1 -1)) (GC (-1) n):=
  ST.of (by omega) (by omega) (Eh n 18 (by decide)) rfl (DO.block rfl (by kernel_rfl) b18 (by decide))
 have b20:BL 10 1 [18] 0 (st (CD n) (List.replicate 4096 0) 1 cs [] (fu -1)) (GC 0 0) 3 (st (CD n) (List.replicate 4096 0) 1 [] cs (fu -1 -1 -1 -1 -1 -1 -8*I cs.length -5 -1 -1)) (GC (-1) n):=BL.exit (by decide) s18 (by decide)
 have s20:ST 12 20 (st (CD n) (List.replicate 4096 0) 1 cs [] fu) (GC 0 0) 3 (st (CD n) (List.replicate 4096 0) 1 [] cs (fu -1 -1 -1 -1 -1 -1 -8*I cs.length -5 -1 -1)) (GC (-1) n):=
  ST.of (by omega) (by omega) (Eh n 20 (by decide)) rfl (DO.block rfl (by kernel_rfl) b20 (by decide))
 have c0:CL 13 0 [] (st (CD n) (List.replicate 4096 0) 1 cs [] fu) n (st (CD n) (List.replicate 4096 0) 1 [] cs (fu -1 -1 -1 -1 -1 -1 -8*I cs.length -5 -1 -1)):=
  CL.of (sp:=1) (h:=3) (f1:=GC (-1) n) (d:=12) (g:=.mk [109,97,105,110] 0 1 0 20) ⟨dk rfl,dk rfl⟩ rfl (by unfold I;rw [List.length_replicate];decide) ⟨dk rfl,dk rfl⟩ ⟨dk rfl,dk rfl⟩ ⟨dk rfl,dk rfl⟩ s20 (by decide)
 exact jq rfl (by kernel_rfl) ⟨by omega,by omega⟩ c0 (by decide)
end
theorem SA (cs:List Int) (n:Int) (hb: ∀ x∈cs,0<=x/\x<=255) (hn:0<=n/\n<=255):m13.k cs n=some ((true,()),()):=by
 unfold m13.k
 by_cases h:(200:Int)<I cs.length
 ·rw [A8 (decide_eq_true h)];rfl
 rw [AM (decide_eq_false h)]
 have hl:(Lib.itoa n).length<=1000:=by
  have: ∀ k:Fin 256,(Lib.itoa (I k)).length<=1000:=by decide+kernel
  have:=this ⟨n.toNat,by omega⟩
  rwa [show I n.toNat=n by simp only [I];omega] at this
 have hr:m18.k (Fb n)=Ds (CD n) 0 0:=by
  have hk: ∀ k:Nat,k<256->m18.k (Fb (I k))=Ds (CD (I k)) 0 0:=fun k hk=>by
   by_cases h1:k<32
   ·exact fg k (by omega) (by omega)
   by_cases h2:k<64
   ·exact b9 k (by omega) (by omega)
   by_cases h3:k<96
   ·exact cA k (by omega) (by omega)
   by_cases h4:k<128
   ·exact cB k (by omega) (by omega)
   by_cases h5:k<160
   ·exact Yk k (by omega) (by omega)
   by_cases h6:k<192
   ·exact Yl k (by omega) (by omega)
   by_cases h7:k<224
   ·exact Ym k (by omega) (by omega)
   ·exact Yn k (by omega) (by omega)
  have:=hk n.toNat (by omega)
  rwa [show I n.toNat=n by simp only [I];omega] at this
 rw [A9 (Ef.2 (by omega)),A9 (by unfold ja;exact decide_eq_true (by omega)),A9 (decide_eq_true (by simp only [List.length_cons,List.length_nil];omega)),A9 (decide_eq_true (by simp only [List.length_append,List.length_cons,List.length_nil];omega))]
 have hb':RZ.k (Fb n) cs 20000=I0 (Dop.UQ.mk 1 n cs) 0:=by
  unfold RZ.k
  rw [hr]
  show Option.bind (IB.k (CD n) cs 20000) _=_
  rw [bz n cs hb (by simp only [I] at h;omega) 20000 rfl]
  rfl
 show Option.bind (RZ.k (Fb n) cs 20000) _=_
 rw [hb']
 show Option.bind (Tm.k (.mk 1 n cs) (.mk 1 n cs)) _=_
 rw [same 1 n cs (by simp only [I] at h;omega)]
 rfl
end Go.Proofs.Tryz
