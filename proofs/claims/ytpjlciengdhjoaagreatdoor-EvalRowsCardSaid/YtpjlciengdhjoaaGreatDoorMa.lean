/- What is still to be done (It), that it goes through from a state (VC), and the rules for control: sequences, blocks, loops and labels (by a bound on their rounds), tests, returns. All of it inside a fence that asks nothing (none, or a round of a loop over an iterator). -/
import Derived.Test.YtpjlciengdhjoaaGreatDoorEn1
import Derived.LoopNIn
import Derived.OrdersIn
import Derived.TacticsIn
namespace Go.En
open Go.RowKit
section
variable {P:Program}
theorem PR {o:Oper} {a:Act} {K K':Act->World->Prop} {Q Q':Exit->Act->World->Prop} (hK: ∀ a w,K a w->K' a w) (hQ: ∀ e a w,Q e a w->Q' e a w) {r:Result Next} (h:o.upon P a K Q r):o.upon P a K' Q' r:=by
 have hL:LetsOut Q->LetsOut Q':=fun ⟨a,w,h⟩=>⟨a,w,hQ _ _ _ h⟩
 cases r with
 | ok n w'=>cases n<;>simp only [Oper.upon] at h ⊢ <;>first
  | exact hK _ _ h
  | (refine h.mono fun e w'' hh=>?_;cases e<;>first|exact hK _ _ hh|exact hQ _ _ _ hh|exact hL hh)
  | (refine h.mono fun v w'' hh=>?_;exact hK _ _ hh)
 | halt x w'=>cases x<;>simp only [Oper.upon] at h ⊢ <;>first|exact h|exact hQ _ _ _ h
theorem IT {ops:Array Oper} {Q Q':Exit->Act->World->Prop} (hQ: ∀ e a w,Q e a w->Q' e a w): ∀ {l:List Oper} {a:Act} {w:World},wpList P ops Q l a w->wpList P ops Q' l a w
 | [],_,_,h=>hQ _ _ _ h
 | o::r,a,w,h=>by
  unfold wpList at h ⊢
  split
  ·rename_i hw
   rw [if_pos hw] at h
   rcases h with h|⟨h1,a',w',h2⟩
   ·exact .inl (PR (fun _ _ h=>IT hQ h) hQ h)
   ·exact .inr ⟨h1,a',w',hQ _ _ _ h2⟩
  ·rename_i hw
   rw [if_neg hw] at h
   exact IT hQ h
def E5 (o:Oper):Bool:=match o.op with
 | .defer _=>true
 | _=>false
def Calm (Φ:Fence) (Q:Exit->Act->World->Prop) (ops:Array Oper):Prop:=Φ=Fence.wide\/(∃ l,Φ=Fence.wide.inRound l)/\¬ LetsOut Q/\ ∀ (j:Nat) o,ops[j]?=some o->E5 o=false
theorem SL {b:Frame} {a:Act} {k:List Item} {cs:List Frame} {w:World} {c:Code}:step P (lone (b.atR a (.code (.scope c)::k)) cs w)=.next (lone (b.atR a (.code c::.inScope c::k)) cs w):=
 step_lone_go (by simp [stepG,stepG.exec,Frame.atR])
theorem I9 {b:Frame} {a:Act} {k:List Item} {cs:List Frame} {w:World} {c:Code}:step P (lone (b.atR a (.inScope c::k)) cs w)=.next (lone (b.atR a k) cs w):=
 step_lone_go (by simp [stepG,stepG.exec,Frame.atR])
theorem cD {l:Nat} {row:String} {args:Array Value} {w:World} {R:Value->World->Prop} (h:Rows P row args w R):RowsIn (Fence.wide.inRound l) 0 P row args w R:=fun c cs _=>
 let ⟨v,w',r,s⟩:=h c cs;⟨v,w',r,stepsIn_wide.2 s⟩
theorem dK {l:Nat} {o:Oper} {a:Act} {w:World} {K:Act->World->Prop} {Q:Exit->Act->World->Prop} (ho:E5 o=false) (h:o.wp P a w K Q):o.wpIn (Fence.wide.inRound l) 0 P a w K Q:=by
 refine ⟨fun _ _=>trivial,?_⟩
 rw [Oper.semAt_eq _ _ _ (fun c hc=>by unfold E5 at ho;rw [hc] at ho;cases ho)]
 unfold Oper.wp at h
 generalize (execOp a.eval o).run P w=r at h ⊢
 cases r with
 | ok n w'=>cases n<;>simp only [Oper.upon,Oper.uponIn] at h ⊢ <;>first
  | exact h
  | exact ⟨fun h=>by simp [Fence.wide] at h,(callsIn_wide.2 h:CallsIn Fence.wide _ P _ _ _ _)⟩
  | exact ⟨fun h=>by simp [Fence.wide] at h,cD h⟩
  | exact h.elim
 | halt x w'=>cases x<;>simp only [Oper.upon,Oper.uponIn] at h ⊢ <;>exact h
theorem P6 {l:Nat} {ops:Array Oper} {Q:Exit->Act->World->Prop} (hQ:¬ LetsOut Q): ∀ {r:List Oper} {a:Act} {w:World},(∀ o∈r,E5 o=false)->wpList P ops Q r a w->wpListIn (Fence.wide.inRound l) 0 P ops Q r a w
 | [],_,_,_,h=>h
 | o::r,a,w,hd,h=>by
  unfold wpList at h
  unfold wpListIn
  split
  ·rename_i hw
   rw [if_pos hw] at h
   rcases h with h|⟨_,h2⟩
   ·exact Oper.wpIn_mono (fun a w h=>P6 hQ (fun o ho=>hd o (mt _ ho)) h) (dK (hd o List.mem_cons_self) h)
   ·exact absurd h2 hQ
  ·rename_i hw
   rw [if_neg hw] at h
   exact ⟨fun _ _=>trivial,P6 hQ (fun o ho=>hd o (mt _ ho)) h⟩
theorem Pd {l:Nat} {ops:Array Oper} {Q:Exit->Act->World->Prop} {md:Region.Mode} (hQ:¬ LetsOut Q) (hd: ∀ (j:Nat) o,ops[j]?=some o->E5 o=false): ∀ {n:Nat} {listed:Array Bool} {a:Act} {w:World},wpAny P md ops Q n listed a w->wpAnyIn (Fence.wide.inRound l) 0 P md ops Q n listed a w
 | 0,_,_,_,h=>h
 | n+1,listed,a,w,h=>by
  refine ⟨h.1,fun i hi=>?_⟩
  have h2:=h.2 i hi
  unfold wpOp at h2
  unfold wpOpIn
  split
  ·rename_i ho
   rw [ho] at h2
   exact Pd hQ hd h2
  ·rename_i o ho
   rw [ho] at h2
   simp only at h2
   split
   ·rename_i hw
    rw [if_pos hw] at h2
    rcases h2 with h2|⟨_,h2⟩
    ·exact Oper.wpIn_mono (fun a w h=>Pd hQ hd h) (dK (hd i o ho) h2)
    ·exact absurd h2 hQ
   ·rename_i hw
    rw [if_neg hw] at h2
    exact ⟨fun _ _=>trivial,Pd hQ hd h2⟩
variable {Φ:Fence}
theorem FT {id:Nat} {ops:Array Oper} {Q:Exit->Act->World->Prop} {a:Act} {w:World} (hc:Calm Φ Q ops) (h:wpList P ops Q ops.toList a w):(Code.region id ops false).wpIn Φ 0 P Q a w:=by
 rcases hc with rfl|⟨⟨l,rfl⟩,hQ,hd⟩
 ·exact wpIn_wide.2 (wp_region_list h)
 ·exact wpIn_region_list (P6 hQ (fun o ho=>by obtain ⟨j,hj⟩:=List.mem_iff_getElem?.1 ho;exact hd j o (by rw [<-hj,Array.getElem?_toList])) h)
theorem On {id:Nat} {ops:Array Oper} {Q:Exit->Act->World->Prop} {a:Act} {w:World} (hc:Calm Φ Q ops) (hm:P.follows .mixedOrders=true) (h:wpAny P .any ops Q ops.size (Array.replicate ops.size false) a { w with drawn:=w.drawn+1 }):(Code.region id ops true).wpIn Φ 0 P Q a w:=by
 rcases hc with rfl|⟨⟨l,rfl⟩,hQ,hd⟩
 ·exact wpIn_wide.2 (wp_region_any hm h)
 ·exact wpIn_region_any hm (Pd hQ hd h)
theorem IN {c:Code} {Q Q':Exit->Act->World->Prop} (hQ: ∀ e a w,Q e a w->Q' e a w): ∀ {n m:Nat} {a:Act} {w:World},n<=m->Code.roundsIn Φ 0 P c Q n a w->Code.roundsIn Φ 0 P c Q' m a w
 | 0,_,_,_,_,h=>h.elim
 | n+1,0,_,_,hn,_=>by omega
 | n+1,m+1,a,w,hn,h=>by
  rw [roundsIn_succ] at h ⊢
  refine wpIn_mono h fun e a w hq=>?_
  cases e<;>simp only [Exit.then] at hq ⊢ <;>first|exact IN hQ (by omega) hq|exact hQ _ _ _ hq
def H0 (Φ:Fence) (P:Program) (c:Code) (Q:Exit->Act->World->Prop):Nat->Exit->Act->World->Prop
 | 0,.goto l,a,w=>match findLabel c l with
  | some _=>False
  | none=>Q (.goto l) a w
 | n+1,.goto l,a,w=>match findLabel c l with
  | some rest=>rest.wpIn Φ 0 P (H0 Φ P c Q n) a w
  | none=>Q (.goto l) a w
 | _,e,a,w=>Q e a w
theorem Kq {c:Code} {Q Q':Exit->Act->World->Prop} (hQ: ∀ e a w,Q e a w->Q' e a w): ∀ {n m:Nat} {e:Exit} {a:Act} {w:World},n<=m->H0 Φ P c Q n e a w->H0 Φ P c Q' m e a w
 | 0,0,e,a,w,_,h=>by
  cases e<;>simp only [H0] at h ⊢ <;>first|exact hQ _ _ _ h|skip
  split at h
  ·exact h.elim
  ·exact hQ _ _ _ h
 | 0,m+1,e,a,w,_,h=>by
  cases e<;>simp only [H0] at h ⊢ <;>first|exact hQ _ _ _ h|skip
  split at h
  ·exact h.elim
  ·exact hQ _ _ _ h
 | n+1,0,e,a,w,hn,h=>by omega
 | n+1,m+1,e,a,w,hn,h=>by
  cases e<;>simp only [H0] at h ⊢ <;>first|exact hQ _ _ _ h|skip
  split at h
  ·exact wpIn_mono h fun e a w hq=>Kq hQ (by omega) hq
  ·exact hQ _ _ _ h
theorem Vw {c:Code} {Q:Exit->Act->World->Prop} {n id:Nat} {a:Act} {w:World} (h:Q (.exit id) a w):H0 Φ P c Q n (.exit id) a w:=by cases n<;>exact h
theorem X5 {c:Code} {Q:Exit->Act->World->Prop} {n:Nat} {a:Act} {w:World} (h:Q .ret a w):H0 Φ P c Q n .ret a w:=by cases n<;>exact h
theorem LO {c:Code} {Q:Exit->Act->World->Prop} {a:Act} {w:World} (N:Nat) (h:c.wpIn Φ 0 P (H0 Φ P c Q N) a w):(Code.scope c).wpIn Φ 0 P Q a w:=by
 intro b k cs hro hb hr
 have h0: ∀ {a:Act} {k:List Item} {w:World},(lone (b.atR a (.inScope c::k)) cs w).fenced P Φ:=fenced_calm hb hr rfl
 have key: ∀ (n:Nat) (e:Exit) (a:Act) (w:World) (m:Machine),H0 Φ P c Q n e a w->ArrivesIn (Machine.fenced P Φ) P m b (.inScope c::k) cs e a w-> ∃ e' a' w',Q e' a' w'/\ArrivesIn (Machine.fenced P Φ) P m b k cs e' a' w':=by
  intro n
  induction n with
  | zero=>
   intro e a w m hq harr
   cases e with
   | normal=>exact ⟨.normal,a,w,hq,StepsIn.trans harr (.one h0 I9)⟩
   | exit id=>exact ⟨.exit id,a,w,hq,fun k' hk=>harr.1 k' (by simp [exitTo,hk]),fun hr hk=>harr.2 hr (by simp [exitTo,hk])⟩
   | goto l=>
    simp only [H0] at hq
    split at hq
    ·exact hq.elim
    ·rename_i hf;exact ⟨_,a,w,hq,fun k' hk=>harr.1 k' (by simp [gotoIn,hf,hk]),fun hr hk=>harr.2 hr (by simp [gotoIn,hf,hk])⟩
   | ret=>exact ⟨_,a,w,hq,harr⟩
   | panic ch=>exact ⟨_,a,w,hq,harr⟩
   | outgrown=>exact ⟨_,a,w,hq,harr⟩
  | succ n ih=>
   intro e a w m hq harr
   cases e with
   | normal=>exact ⟨.normal,a,w,hq,StepsIn.trans harr (.one h0 I9)⟩
   | exit id=>exact ⟨.exit id,a,w,hq,fun k' hk=>harr.1 k' (by simp [exitTo,hk]),fun hr hk=>harr.2 hr (by simp [exitTo,hk])⟩
   | goto l=>
    simp only [H0] at hq
    split at hq
    ·rename_i rest hf
     obtain ⟨e₁,a₁,w₁,hq₁,harr₁⟩:=hq b (.inScope c::k) cs hro hb hr
     exact ih e₁ a₁ w₁ m hq₁ (.of_steps (harr.1 _ (by simp [gotoIn,hf])) harr₁)
    ·rename_i hf;exact ⟨_,a,w,hq,fun k' hk=>harr.1 k' (by simp [gotoIn,hf,hk]),fun hr hk=>harr.2 hr (by simp [gotoIn,hf,hk])⟩
   | ret=>exact ⟨_,a,w,hq,harr⟩
   | panic ch=>exact ⟨_,a,w,hq,harr⟩
   | outgrown=>exact ⟨_,a,w,hq,harr⟩
 obtain ⟨e₁,a₁,w₁,hq₁,harr₁⟩:=h b (.inScope c::k) cs hro hb hr
 exact key N e₁ a₁ w₁ _ hq₁ (.of_steps (.one (fenced_calm hb hr rfl) SL) harr₁)
end
inductive It where
 | code (c:Code)
 | AX (id:Nat)
 | ops (all:Array Oper) (rest:List Oper)
 | again (c:Code)
 | sc (c:Code)
def after (Φ:Fence) (P:Program) (N:Nat):List It->(Exit->Act->World->Prop)->Exit->Act->World->Prop
 | [],Q,e,a,w=>Q e a w
 | .code c::k,Q,.normal,a,w=>c.wpIn Φ 0 P (after Φ P N k Q) a w
 | .code _::k,Q,e,a,w=>after Φ P N k Q e a w
 | .ops all r::k,Q,.normal,a,w=>wpList P all (after Φ P N k Q) r a w
 | .ops _ _::k,Q,e,a,w=>after Φ P N k Q e a w
 | .AX id::k,Q,e,a,w=>Exit.inBlock id (after Φ P N k Q) e a w
 | .again c::k,Q,.normal,a,w=>Code.roundsIn Φ 0 P c (after Φ P N k Q) N a w
 | .again _::k,Q,e,a,w=>after Φ P N k Q e a w
 | .sc c::k,Q,e,a,w=>H0 Φ P c (after Φ P N k Q) N e a w
theorem Be {Φ:Fence} {P:Program} {Q:Exit->Act->World->Prop} {N N':Nat} (hN:N<=N'): ∀ {k:List It} {e:Exit} {a:Act} {w:World},after Φ P N k Q e a w->after Φ P N' k Q e a w
 | [],e,a,w,h=>h
 | .code c::k,e,a,w,h=>by
  cases e<;>simp only [after] at h ⊢ <;>first|exact wpIn_mono h fun _ _ _ h=>Be hN h|exact Be hN h
 | .ops all r::k,e,a,w,h=>by
  cases e<;>simp only [after] at h ⊢ <;>first|exact IT (fun _ _ _ h=>Be hN h) h|exact Be hN h
 | .AX id::k,e,a,w,h=>by
  cases e<;>simp only [after,Exit.inBlock] at h ⊢ <;>first
   | exact Be hN h
   | (split at h<;>rename_i he<;>simp only [he,if_true,if_false]<;>exact Be hN h)
 | .again c::k,e,a,w,h=>by
  cases e<;>simp only [after] at h ⊢ <;>first|exact IN (fun _ _ _ h=>Be hN h) hN h|exact Be hN h
 | .sc c::k,e,a,w,h=>by
  simp only [after] at h ⊢
  exact Kq (fun _ _ _ h=>Be hN h) hN h
def VC {S:As} (Φ:Fence) (P:Program) (Q:Exit->Act->World->Prop) (w0:World) (F D0:Nat->Prop) (bn:Nat) (β0:Nat->Nm) (N:Nat) (k:List It) (s:St S):Prop:=
 ∀ D β a w,(∀ i,i<bn->β i=β0 i)->G w0 F D0 D s (· <s.n) β a w->after Φ P N k Q .normal a w
section
variable {S:As} {Φ:Fence} {P:Program} {Q:Exit->Act->World->Prop} {w0:World} {F D0:Nat->Prop} {bn:Nat} {β0:Nat->Nm} {M:Nat} {k:List It} {s:St S}
theorem X4 {c:Code} {Q:Exit->Act->World->Prop} {n:Nat} {a:Act} {w:World} (h:H0 Φ P c Q n .outgrown a w):Q .outgrown a w:=by cases n<;>exact h
theorem FK {a:Act} {w:World}: ∀ {k:List It},after Φ P M k Q .outgrown a w->Q .outgrown a w
 | [],h=>h
 | .AX _::k,h=>by simp only [after,Exit.inBlock] at h;exact FK h
 | .code _::k,h=>by simp only [after] at h;exact FK h
 | .ops _ _::k,h=>by simp only [after] at h;exact FK h
 | .again _::k,h=>by simp only [after] at h;exact FK h
 | .sc _::k,h=>by
  simp only [after] at h
  exact FK (X4 h)
theorem Calm.after {ops:Array Oper} (h:Calm Φ Q ops) (k:List It):Calm Φ (after Φ P M k Q) ops:=by
 rcases h with h|⟨h1,h2,h3⟩
 ·exact .inl h
 ·exact .inr ⟨h1,fun ⟨a,w,h⟩=>h2 ⟨a,w,FK h⟩,h3⟩
theorem VC.more {M':Nat} (hM:M<=M') (h:VC Φ P Q w0 F D0 bn β0 M k s):VC Φ P Q w0 F D0 bn β0 M' k s:=fun D β a w hβ0 hg=>Be hM (h D β a w hβ0 hg)
theorem VC.seq {x y:Code} (h:VC Φ P Q w0 F D0 bn β0 M (.code x::.code y::k) s):VC Φ P Q w0 F D0 bn β0 M (.code (.seq x y)::k) s:=fun D β a w hβ0 hg=>by
 have h1:=h D β a w hβ0 hg
 simp only [after] at h1 ⊢
 refine wpIn_seq (wpIn_mono h1 fun e a w hq=>?_)
 cases e<;>simpa [after,Exit.then] using hq
theorem VC.skip (h:VC Φ P Q w0 F D0 bn β0 M k s):VC Φ P Q w0 F D0 bn β0 M (.code .skip::k) s:=fun D β a w hβ0 hg=>wpIn_skip (h D β a w hβ0 hg)
theorem VC.label {l:Nat} (h:VC Φ P Q w0 F D0 bn β0 M k s):VC Φ P Q w0 F D0 bn β0 M (.code (.label l)::k) s:=fun D β a w hβ0 hg=>wpIn_label (h D β a w hβ0 hg)
theorem VC.block {id:Nat} {c:Code} (h:VC Φ P Q w0 F D0 bn β0 M (.code c::.AX id::k) s):VC Φ P Q w0 F D0 bn β0 M (.code (.block id c)::k) s:=fun D β a w hβ0 hg=>by
 have h1:=h D β a w hβ0 hg
 simp only [after] at h1 ⊢
 exact wpIn_block (wpIn_mono h1 fun e a w hq=>by simpa only [after] using hq)
theorem VC.scope {c:Code} (h:VC Φ P Q w0 F D0 bn β0 M (.code c::.sc c::k) s):VC Φ P Q w0 F D0 bn β0 M (.code (.scope c)::k) s:=fun D β a w hβ0 hg=>by
 have h1:=h D β a w hβ0 hg
 simp only [after] at h1 ⊢
 exact LO M (wpIn_mono h1 fun e a w hq=>by simpa only [after] using hq)
theorem VC.loop {c:Code} (h:VC Φ P Q w0 F D0 bn β0 M (.again c::k) s):VC Φ P Q w0 F D0 bn β0 M (.code (.loop c)::k) s:=fun D β a w hβ0 hg=>by
 have h1:=h D β a w hβ0 hg
 simp only [after] at h1 ⊢
 exact wpIn_loop_rounds M h1
theorem VC.again {c:Code} (h:VC Φ P Q w0 F D0 bn β0 M (.code c::.again c::k) s):VC Φ P Q w0 F D0 bn β0 (M+1) (.again c::k) s:=fun D β a w hβ0 hg=>by
 have h1:=h D β a w hβ0 hg
 simp only [after] at h1 ⊢
 rw [roundsIn_succ]
 refine wpIn_mono h1 fun e a w hq=>?_
 cases e<;>simp only [after,Exit.then] at hq ⊢ <;>first|exact IN (fun _ _ _ h=>Be (Nat.le_succ M) h) (Nat.le_refl _) hq|exact Be (Nat.le_succ M) hq
theorem VC.AX {id:Nat} (h:VC Φ P Q w0 F D0 bn β0 M k s):VC Φ P Q w0 F D0 bn β0 M (.AX id::k) s:=fun D β a w hβ0 hg=>by
 simpa only [after,Exit.inBlock] using h D β a w hβ0 hg
theorem VC.sc {c:Code} (h:VC Φ P Q w0 F D0 bn β0 M k s):VC Φ P Q w0 F D0 bn β0 M (.sc c::k) s:=fun D β a w hβ0 hg=>by
 have h1:=h D β a w hβ0 hg
 simp only [after]
 cases M<;>simpa only [H0] using h1
theorem VC.region {id:Nat} {ops:Array Oper} (hc:Calm Φ Q ops) (h:VC Φ P Q w0 F D0 bn β0 M (.ops ops ops.toList::k) s):VC Φ P Q w0 F D0 bn β0 M (.code (.region id ops false)::k) s:=fun D β a w hβ0 hg=>by
 have h1:=h D β a w hβ0 hg
 simp only [after] at h1 ⊢
 exact FT (hc.after k) h1
theorem VC.bZ {all:Array Oper} (h:VC Φ P Q w0 F D0 bn β0 M k s):VC Φ P Q w0 F D0 bn β0 M (.ops all []::k) s:=fun D β a w hβ0 hg=>wpList_nil (h D β a w hβ0 hg)
def Cg (id:Nat):List It->Option (List It)
 | []=>none
 | .AX id'::k=>match Nat.beq id id' with
  | true=>some k
  | false=>Cg id k
 | .code _::k=>Cg id k
 | .ops _ _::k=>Cg id k
 | .again _::k=>Cg id k
 | .sc _::k=>Cg id k
theorem TM (id id':Nat) (k:List It):Cg id (.AX id'::k)=if id=id' then some k else Cg id k:=by simp only [Cg];exact IW ..
theorem EY {id:Nat} {a:Act} {w:World}: ∀ {k k':List It},Cg id k=some k'->after Φ P M k' Q .normal a w->after Φ P M k Q (.exit id) a w
 | [],_,h,_=>by simp [Cg] at h
 | .AX id'::k,k',h,hq=>by
  rw [TM] at h
  simp only [after,Exit.inBlock]
  split at h
  ·rename_i he;simp only [am] at h;subst h;simpa [he] using hq
  ·rename_i he;rw [if_neg he];exact EY h hq
 | .code _::k,k',h,hq=>by simp only [Cg] at h;simp only [after];exact EY h hq
 | .ops _ _::k,k',h,hq=>by simp only [Cg] at h;simp only [after];exact EY h hq
 | .again _::k,k',h,hq=>by simp only [Cg] at h;simp only [after];exact EY h hq
 | .sc _::k,k',h,hq=>by simp only [Cg] at h;simp only [after];exact Vw (EY h hq)
theorem VC.exit {id:Nat} {k':List It} (he:Cg id k=some k') (h:VC Φ P Q w0 F D0 bn β0 M k' s):VC Φ P Q w0 F D0 bn β0 M (.code (.exit id)::k) s:=fun D β a w hβ0 hg=>
 wpIn_exit (EY he (h D β a w hβ0 hg))
theorem FL {a:Act} {w:World}: ∀ {k:List It},Q .ret a w->after Φ P M k Q .ret a w
 | [],h=>h
 | .AX _::k,h=>by simp only [after,Exit.inBlock];exact FL h
 | .code _::k,h=>by simp only [after];exact FL h
 | .ops _ _::k,h=>by simp only [after];exact FL h
 | .again _::k,h=>by simp only [after];exact FL h
 | .sc _::k,h=>by simp only [after];exact X5 (FL h)
def Cp (l:Nat):List It->Option (List It)
 | []=>none
 | .sc c::k=>match findLabel c l with
  | some rest=>some (.code rest::.sc c::k)
  | none=>Cp l k
 | .code _::k=>Cp l k
 | .ops _ _::k=>Cp l k
 | .again _::k=>Cp l k
 | .AX _::k=>Cp l k
theorem EZ {l:Nat} {a:Act} {w:World}: ∀ {k k':List It},Cp l k=some k'->after Φ P M k' Q .normal a w->after Φ P (M+1) k Q (.goto l) a w
 | [],_,h,_=>by simp [Cp] at h
 | .sc c::k,k',h,hq=>by
  simp only [Cp] at h
  simp only [after,H0]
  split at h
  ·rename_i rest hf
   simp only [am] at h;subst h
   simp only [after] at hq
   exact wpIn_mono hq fun e a w hq=>Kq (fun _ _ _ h=>Be (Nat.le_succ M) h) (Nat.le_refl _) hq
  ·exact EZ h hq
 | .code _::k,k',h,hq=>by simp only [Cp] at h;simp only [after];exact EZ h hq
 | .ops _ _::k,k',h,hq=>by simp only [Cp] at h;simp only [after];exact EZ h hq
 | .again _::k,k',h,hq=>by simp only [Cp] at h;simp only [after];exact EZ h hq
 | .AX _::k,k',h,hq=>by simp only [Cp] at h;simp only [after,Exit.inBlock];exact EZ h hq
theorem VC.goto {l:Nat} {k':List It} (he:Cp l k=some k') (h:VC Φ P Q w0 F D0 bn β0 M k' s):VC Φ P Q w0 F D0 bn β0 (M+1) (.code (.goto l)::k) s:=fun D β a w hβ0 hg=>
 wpIn_goto (EZ he (h D β a w hβ0 hg))
theorem VC.VH (h: ∀ D β a w,(∀ i,i<bn->β i=β0 i)->G w0 F D0 D s (· <s.n) β a w->Q .ret a w):VC Φ P Q w0 F D0 bn β0 M (.code .ret::k) s:=fun D β a w hβ0 hg=>
 wpIn_ret (FL (h D β a w hβ0 hg))
def ev (s:St S):Operand->Option SV
 | .tmp t=>lk s.t t
 | .const v=>some (.v v)
 | .global g=>some (.v (.pointer (some ⟨g,0,none⟩)))
 | .func f=>match Nat.ble 1000000 f with
  | true=>none
  | false=>some (.fn f [])
variable {N:Nat->Prop} {D:Nat->Prop} {β:Nat->Nm} {a:Act} {w:World}
theorem AE (hg:G w0 F D0 D s N β a w) {x:Operand} {v:SV} (h:ev s x=some v):a.eval x=v.den β:=by
 cases x with
 | tmp t=>exact hg.tmps t v h
 | const c=>simp only [ev,am] at h;subst h;simp [Act.eval,SV.den]
 | global g=>simp only [ev,am] at h;subst h;simp [Act.eval,SV.den]
 | func f=>
  simp only [ev] at h
  split at h
  ·cases h
  ·rename_i hf
   simp only [am] at h;subst h;simp [Act.eval,SV.den,AD,Eb hf]
theorem CW (hg:G w0 F D0 D s N β a w) {x:Operand} {v:SV} (h:ev s x=some v):v.on N:=by
 cases x with
 | tmp t=>exact (hg.Gw t v h).2
 | const c=>simp only [ev,am] at h;subst h;simp [SV.on]
 | global g=>simp only [ev,am] at h;subst h;simp [SV.on]
 | func f=>
  simp only [ev] at h
  split at h
  ·cases h
  ·simp only [am] at h;subst h;simp [SV.on,BZ]
theorem VC.cond {c:Operand} {x y:Code} {b:Bool} {v:SV} (hc:ev s c=some v) (hv: ∀ β,v.den β=.bool b) (ht:b=true->VC Φ P Q w0 F D0 bn β0 M (.code x::k) s) (hf:b=false->VC Φ P Q w0 F D0 bn β0 M (.code y::k) s):
  VC Φ P Q w0 F D0 bn β0 M (.code (.cond c x y)::k) s:=fun D β a w hβ0 hg=>by
 have he:a.eval c=.bool b:=by rw [AE hg hc,hv]
 cases b
 ·exact wpIn_cond_false he (hf rfl D β a w hβ0 hg)
 ·exact wpIn_cond_true he (ht rfl D β a w hβ0 hg)
def St.put (s:St S) (d:Option Tmp) (x:SV):Option (St S):=
 match d with
 | none=>some s
 | some d=>match Nat.ble (d+1) s.sz with
  | true=>some { s with t:=pt s.t d x }
  | false=>none
theorem Vg {α:Type} (a b:Nat) (x y:α):(match Nat.ble a b with|true=>x|false=>y)=if a<=b then x else y:=by
 by_cases h:a<=b
 ·rw [if_pos h,Nat.ble_eq_true_of_le h]
 ·rw [if_neg h]
  have:Nat.ble a b=false:=by
   cases hb:Nat.ble a b
   ·rfl
   ·exact absurd (dk hb) h
  rw [this]
theorem St.Fg (s:St S) (d:Nat) (x:SV):s.put (some d) x=if d<s.sz then some { s with t:=pt s.t d x } else none:=by
 simp only [St.put];exact Vg ..
theorem G.put (hg:G w0 F D0 D s N β a w) {d:Option Tmp} {x:SV} {s':St S} (hx:x.on N) (hp:s.put d x=some s'):G w0 F D0 D s' N β (a.put d (x.den β)) w:=by
 cases d with
 | none=>simp only [St.put,am] at hp;subst hp;exact hg
 | some d=>
  simp only [St.Fg] at hp
  split at hp
  case isFalse=>cases hp
  case isTrue hd=>
  simp only [am] at hp;subst hp
  refine ⟨hg.defers,by simpa [Act.put] using hg.size,fun t y hy=>?_,fun t y hy=>?_,hg.gh⟩
  ·simp only [FB] at hy
   split at hy
   ·rename_i he;simp only [am] at hy;subst hy;subst he;exact ⟨hd,hx⟩
   ·exact hg.Gw t y hy
  ·simp only [FB] at hy
   have hsz:=hg.size
   split at hy
   ·rename_i he;simp only [am] at hy;subst hy;subst he
    simp [Act.put,Array.getD,hsz,hd]
   ·rename_i he
    have h1:=hg.tmps t y hy
    simp only [Act.put,lm] at h1 ⊢
    rw [ge,if_neg he];exact h1
theorem Ff {s s':St S} {d:Option Tmp} {x:SV} (h:s.put d x=some s'):s'.n=s.n:=by
 cases d with
 | none=>cases h;rfl
 | some d=>rw [St.Fg] at h;split at h<;>cases h;rfl
end
end Go.En
namespace Go.En
open Go.RowKit
theorem Q2 {α:Type} [BEq α] [LawfulBEq α] [DecidableEq α] (a b:α):(a == b)=decide (a=b):=by rw [Bool.eq_iff_iff];simp
theorem Ap {P:Program} {e s:Nat} (h:(P.info? e).map (·.size)=some s) (w:World):(sizeOf e).run P w=.ok s w:=by
 cases hi:P.info? e with
 | none=>simp [hi] at h
 | some i=>simp only [hi,Option.map_some,am] at h;simp [sizeOf,typeInfo,hi,h]
inductive LK where
 | int (k:IntKind)
 | bool
 | str
def kV:Value->Option LK
 | .int k _=>some (.int k)
 | .bool _=>some .bool
 | .string _=>some .str
 | _=>none
def ik:Value->Value->Bool
 | .int _ a,.int _ b=>decide (a=b)
 | .bool a,.bool b=>a == b
 | .string ⟨⟨a⟩⟩,.string ⟨⟨b⟩⟩=>decide (a=b)
 | _,_=>false
def F8:List Value->List Value->Bool
 | x::r,y::q=>ik x y && F8 r q
 | _,_=>true
def Dn:List Value->List LK->Prop
 | [],[]=>True
 | x::r,k::q=>kV x=some k/\Dn r q
 | _,_=>False
theorem Cq: ∀ {l:List Value} {ks:List LK},Dn l ks->l.length=ks.length
 | [],[],_=>rfl
 | _::_,_::_,h=>by simp [Cq h.2]
 | [],_::_,h=>h.elim
 | _::_,[],h=>h.elim
theorem Df: ∀ {l:List Value} {k1 k2:List LK},Dn l (k1++k2)->Dn (l.take k1.length) k1/\Dn (l.drop k1.length) k2
 | l,[],k2,h=>by simpa [Dn] using h
 | x::r,k::k1,k2,h=>by
  obtain ⟨h1,h2⟩:=Df h.2
  exact ⟨⟨h.1,by simpa using h1⟩,by simpa using h2⟩
 | [],_::_,_,h=>h.elim
theorem Hs: ∀ (n:Nat) (l m:List Value),n<=l.length->n<=m.length->F8 l m=(F8 (l.take n) (m.take n) && F8 (l.drop n) (m.drop n))
 | 0,l,m,_,_=>by simp [F8]
 | n+1,x::r,y::q,h1,h2=>by
  simp only [List.length_cons] at h1 h2
  simp only [List.take_succ_cons,List.drop_succ_cons,F8]
  rw [Hs n r q (by omega) (by omega),Bool.and_assoc]
 | n+1,[],_,h1,_=>by simp at h1
 | n+1,_::_,[],_,h2=>by simp at h2
def LR (P:Program) (d:Nat) (T:Nat) (ks:List LK) (ag:Bool):Prop:=
 ∀ (xs ys:List Value) (w:World),Dn xs ks->Dn ys ks->(Op.equalIn d T (Fx ag xs) (Fx ag ys)).run P w=.ok (F8 xs ys) w
section
variable {P:Program} {d T:Nat}
theorem Kt {xs:List Value} {k:LK} (h:Dn xs [k]): ∃ x,xs=[x]/\kV x=some k:=by
 match xs,h with
 | [x],h=>exact ⟨x,rfl,h.1⟩
theorem YF {x:Value} {k:IntKind} (h:kV x=some (.int k)): ∃ n,x=.int k n:=by
 cases x<;>simp [kV] at h
 subst h;exact ⟨_,rfl⟩
theorem Ur {x:Value} (h:kV x=some .bool): ∃ n,x=.bool n:=by
 cases x<;>simp [kV] at h
 exact ⟨_,rfl⟩
theorem YG {x:Value} (h:kV x=some .str): ∃ n,x=.string ⟨⟨n⟩⟩:=by
 cases x<;>simp [kV] at h
 rename_i s;obtain ⟨⟨l⟩⟩:=s;exact ⟨l,rfl⟩
theorem Ac {k:IntKind} (h:P.underlying T=some (.int k)):LR P (d+1) T [.int k] false:=fun xs ys w h1 h2=>by
 obtain ⟨x,rfl,hx⟩:=Kt h1
 obtain ⟨y,rfl,hy⟩:=Kt h2
 obtain ⟨n,rfl⟩:=YF hx
 obtain ⟨m,rfl⟩:=YF hy
 simp [Fx,Op.equalIn,run_underlying h,Q2,F8,ik]
theorem TH (h:P.underlying T=some .bool):LR P (d+1) T [.bool] false:=fun xs ys w h1 h2=>by
 obtain ⟨x,rfl,hx⟩:=Kt h1
 obtain ⟨y,rfl,hy⟩:=Kt h2
 obtain ⟨n,rfl⟩:=Ur hx
 obtain ⟨m,rfl⟩:=Ur hy
 simp [Fx,Op.equalIn,run_underlying h,F8,ik]
theorem FM (h:P.underlying T=some .string):LR P (d+1) T [.str] false:=fun xs ys w h1 h2=>by
 obtain ⟨x,rfl,hx⟩:=Kt h1
 obtain ⟨y,rfl,hy⟩:=Kt h2
 obtain ⟨n,rfl⟩:=YG hx
 obtain ⟨m,rfl⟩:=YG hy
 have e:((⟨⟨n⟩⟩:ByteArray) == ⟨⟨m⟩⟩)=decide (n=m):=by
  rw [beq_toListBytes,ByteArray.toList_eq,ByteArray.toList_eq];exact Q2 n m
 simp [Fx,Op.equalIn,run_underlying h,F8,ik,e]
inductive Qw (P:Program) (d:Nat):List Field->Nat->List LK->Prop where
 | nil {off:Nat}:Qw P d [] off []
 | cons {f:Field} {r:List Field} {off:Nat} {ks ls:List LK} {ag:Bool} (hn:f.name≠ "_") (ho:f.offset=off) (hs:(P.info? f.type).map (·.size)=some ks.length)
   (ha: ∀ w,(isAgg f.type).run P w=.ok ag w) (hag:ag=false->ks.length=1) (h:LR P d f.type ks ag) (hr:Qw P d r (off+ks.length) ls):Qw P d (f::r) off (ks++ls)
theorem Jg {t:Nat} {xs:List Value} {off n:Nat} {ag:Bool} {w:World} (ha: ∀ w,(isAgg t).run P w=.ok ag w) (hs:(P.info? t).map (·.size)=some n) (hag:ag=false->n=1) (hl:off+n<=xs.length):
  (part t xs.toArray off).run P w=.ok (Fx ag ((xs.drop off).take n)) w:=by
 unfold part
 rw [Sem.run_bind,ha w,Result.andThen_ok]
 cases ag with
 | true=>
  have e:xs.toArray.extract off (off+n)=((xs.drop off).take n).toArray:=by apply Array.ext';simp
  simp only [if_true,Sem.run_bind,Ap hs,Result.andThen_ok,Sem.run_pure,Fx,e]
 | false=>
  have h1:=hag rfl
  subst h1
  have h2:off<xs.length:=by omega
  have h3:(xs.drop off).take 1=[xs[off]]:=by
   rw [List.drop_eq_getElem_cons h2];rfl
  simp [h2,Fx,h3]
theorem O2: ∀ {fs:List Field} {off:Nat} {ks:List LK},Qw P d fs off ks-> ∀ (xs ys:List Value) (w:World),Dn (xs.drop off) ks->Dn (ys.drop off) ks->
  (Op.eqFields d xs.toArray ys.toArray fs).run P w=.ok (F8 (xs.drop off) (ys.drop off)) w
 | [],off,_,.nil,xs,ys,w,h1,h2=>by
  have h3:=Cq h1
  have h4:=Cq h2
  simp only [List.length_nil] at h3 h4
  rw [jp h3,jp h4]
  simp [Op.eqFields,F8]
 | f::r,off,_,.cons (ks:=ks) (ls:=ls) (ag:=ag) hn ho hs ha hag h hr,xs,ys,w,h1,h2=>by
  have h3:=Cq h1
  have h4:=Cq h2
  simp only [List.length_append,List.length_drop] at h3 h4
  obtain ⟨h5,h6⟩:=Df h1
  obtain ⟨h7,h8⟩:=Df h2
  rw [List.drop_drop] at h6 h8
  have ih:=O2 hr xs ys w h6 h8
  by_cases hk:ks.length=0
  ·have hks:=jp hk
   subst hks
   have hag':ag=true:=by cases ag<;>simp_all
   subst hag'
   have p1:(part f.type xs.toArray off).run P w=.ok (Fx true []) w:=by
    unfold part
    rw [Sem.run_bind,ha w,Result.andThen_ok]
    simp [Ap hs,Fx]
   have p2:(part f.type ys.toArray off).run P w=.ok (Fx true []) w:=by
    unfold part
    rw [Sem.run_bind,ha w,Result.andThen_ok]
    simp [Ap hs,Fx]
   have e:=h [] [] w trivial trivial
   simp only [List.length_nil,Nat.add_zero] at ih
   simp only [Op.eqFields,if_pos hn,Sem.run_bind,ho,p1,p2,Result.andThen_ok,e,F8,Bool.not_true,Bool.false_eq_true,if_false]
   exact ih
  ·have p1:=Jg (P:=P) (w:=w) (xs:=xs) (off:=off) ha hs hag (by omega)
   have p2:=Jg (P:=P) (w:=w) (xs:=ys) (off:=off) ha hs hag (by omega)
   have e:=h _ _ w h5 h7
   rw [Hs ks.length (xs.drop off) (ys.drop off) (by simp only [List.length_drop];omega) (by simp only [List.length_drop];omega)]
   simp only [Op.eqFields,if_pos hn,Sem.run_bind,ho,p1,p2,Result.andThen_ok,e]
   cases hb:F8 ((xs.drop off).take ks.length) ((ys.drop off).take ks.length)
   ·simp
   ·simp only [Bool.not_true,Bool.false_eq_true,if_false,Bool.true_and]
    rw [List.drop_drop,List.drop_drop]
    exact ih
theorem Ca {fs:Array Field} {ks:List LK} (h:P.underlying T=some (.struct fs)) (hp:P.stoodInHeld T=false) (hf:Qw P d fs.toList 0 ks):LR P (d+1) T ks true:=fun xs ys w h1 h2=>by
 have hfs:P.fieldsOf T=fs:=by simp [Program.fieldsOf,h]
 simp only [Fx,if_true]
 rw [run_equalIn_struct w d T _ _ (by rw [hfs];exact h) hp,hfs]
 have:=O2 hf xs ys w (by simpa using h1) (by simpa using h2)
 simpa using this
def WO:Nat->List LK->List LK
 | 0,_=>[]
 | n+1,l=>l++WO n l
theorem cd {len e:Nat} {ks:List LK} {ag:Bool} (h:P.underlying T=some (.array len e)) (hs:(P.info? e).map (·.size)=some ks.length) (ha: ∀ w,(isAgg e).run P w=.ok ag w) (hag:ag=false->ks.length=1) (hr:LR P d e ks ag):
  LR P (d+1) T (WO len ks) true:=fun xs ys w h1 h2=>by
 simp only [Fx,if_true,Op.equalIn,Sem.run_bind,run_underlying h,Result.andThen_ok,Ap hs]
 have key: ∀ (m k:Nat) (w:World),k+m=len->Dn (xs.drop (k*ks.length)) (WO m ks)->Dn (ys.drop (k*ks.length)) (WO m ks)->
   ((forIn (List.range' k m) (none,PUnit.unit) fun i (r:Option Bool×PUnit)=>do
    let a <-part e xs.toArray (i*ks.length)
    let b <-part e ys.toArray (i*ks.length)
    let c <-Op.equalIn d e a b
    if (!c)=true then pure (ForInStep.done (some false,PUnit.unit)) else pure (ForInStep.yield (none,PUnit.unit)):Sem (Option Bool×PUnit))).run P w=
   .ok (if F8 (xs.drop (k*ks.length)) (ys.drop (k*ks.length)) then none else some false,PUnit.unit) w:=by
  intro m
  induction m with
  | zero=>
   intro k w hk h3 h4
   have h5:=Cq h3
   have h6:=Cq h4
   simp only [WO,List.length_nil] at h5 h6
   rw [jp h5,jp h6]
   simp [F8]
  | succ m ih=>
   intro k w hk h3 h4
   have h5:=Cq h3
   have h6:=Cq h4
   simp only [WO,List.length_append,List.length_drop] at h5 h6
   obtain ⟨h7,h8⟩:=Df h3
   obtain ⟨h9,h10⟩:=Df h4
   rw [List.drop_drop] at h8 h10
   have e1:k*ks.length+ks.length=(k+1)*ks.length:=(Nat.succ_mul k ks.length).symm
   rw [e1] at h8 h10
   have ih':=ih (k+1) w (by omega) h8 h10
   have hlx:ks.length<=(xs.drop (k*ks.length)).length:=by simp only [List.length_drop];omega
   have hly:ks.length<=(ys.drop (k*ks.length)).length:=by simp only [List.length_drop];omega
   rw [Hs ks.length _ _ hlx hly,List.drop_drop,List.drop_drop,e1]
   have p: ∀ zs:List Value,ks.length<=(zs.drop (k*ks.length)).length-> ∀ w,(part e zs.toArray (k*ks.length)).run P w=.ok (Fx ag ((zs.drop (k*ks.length)).take ks.length)) w:=fun zs hz w=>by
    by_cases hk0:ks.length=0
    ·have hag':ag=true:=by cases ag<;>simp_all
     subst hag'
     unfold part
     rw [Sem.run_bind,ha w,Result.andThen_ok]
     simp [Ap hs,Fx,hk0]
    ·simp only [List.length_drop] at hz
     exact Jg ha hs hag (by omega)
   have e2:=hr _ _ w h7 h9
   simp only [List.range'_succ,List.forIn_cons,Sem.run_bind,p xs hlx,p ys hly,Result.andThen_ok,e2]
   cases hb:F8 ((xs.drop (k*ks.length)).take ks.length) ((ys.drop (k*ks.length)).take ks.length)
   ·simp
   ·simp only [Bool.not_true,Bool.false_eq_true,if_false,Sem.run_pure,Result.andThen_ok,Bool.true_and]
    exact ih'
 have:=key len 0 w (by omega) (by simpa using h1) (by simpa using h2)
 simp only [Nat.zero_mul,List.drop_zero] at this
 simp only [Std.Legacy.Range.forIn_eq_forIn_range',Std.Legacy.Range.size]
 have hr0:(len -0+1 -1) / 1=len:=by rw [Nat.div_one];omega
 rw [hr0]
 erw [this]
 cases F8 xs ys<;>simp
end
structure nD (P:Program) (T:Nat) (ks:List LK):Prop where
 run:LR P Op.maxDepth T ks true
 guard:P.eqGuardType P.depth T=false
end Go.En
