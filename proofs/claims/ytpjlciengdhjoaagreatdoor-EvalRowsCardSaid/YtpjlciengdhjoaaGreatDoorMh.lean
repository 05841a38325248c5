/- Ranges over a function (an iterator over a row): a law for the caller (range_law), over the layer's states; the body of a round by evaluation (body_ok). -/
import Derived.Test.YtpjlciengdhjoaaGreatDoorMf
import Derived.RangeFuncNested
import Derived.RangeFuncLeaves
import Derived.Shelf.Abstract
import Derived.Shelf.RegionOpen
import Derived.OwnWalkIn
import Derived.TacticsInMore
import Derived.LoopIn
import Derived.Test.YtpjlciengdhjoaaGreatDoorProg
namespace Go.En
open Go.RowKit
section
variable {P:Program} {w:World}
def Mc {α:Type} (B:Nat) (I:List α->World->Prop) (Ix:Code->List α->World->Prop) (xs:List α) (W:World):Exit->Act->World->Prop
 | .normal,_,W'=>(∀ k,k=B\/k=B+1->W'.heap[k]?=W.heap[k]?)/\I xs W'
 | .ret,_,W'=>(∀ k,k=B\/k=B+1->W'.heap[k]?=W.heap[k]?)/\Ix .ret xs W'
 | .exit id,_,W'=>(∀ k,k=B\/k=B+1->W'.heap[k]?=W.heap[k]?)/\Ix (.exit id) xs W'
 | .goto t,_,W'=>(∀ k,k=B\/k=B+1->W'.heap[k]?=W.heap[k]?)/\Ix (.goto t) xs W'
 | .panic _,_,_=>False
 | .outgrown,_,_=>False
def Iter {α:Type} (P:Program) (gf:Nat) (lb:Array Value) (encs:α->Array Value) (xs:List α) (Rd:World->Prop):Prop:=
 ∀ (l:Nat) (J Jx:List α->World->Prop) (W:World),(∀ pre W1,J pre W1->Rd W1)->
  (∀ pre x rest W1,xs=pre++x::rest->J pre W1->YieldAt Fence.wide 0 P l (encs x) W1 fun e W'=>(e=.returned (.bool true)/\J (pre++[x]) W')\/(e=.returned (.bool false)/\Jx (pre++[x]) W'))->
  J [] W->
  CallsIn Fence.wide 1 P gf (#[.func (.yield l) #[] #[]]++lb) W fun e W'=>(∃ v,e=.returned v)/\(J xs W'\/ ∃ pre,pre <+: xs/\Jx pre W')
def Mn {α:Type} (B:Nat) (I:α->World->Prop):Prop:= ∀ s W (o:Obj),I s W->B+1<W.heap.size->I s (W.putObj (B+1) o)
theorem LA {α:Type} {g:Operand} {ps:Array Tmp} {assign body:Code} {Q:Exit->Act->World->Prop} {a:Act}
  {gf:Nat} {lb:Array Value} (hg:a.eval g=.func (.func gf) #[] lb) (eg: ∀ args w,(callFunc gf args).run P w=.ok (.enter gf args) w)
  {encs:α->Array Value} {xs:List α} {Rd:World->Prop} (hiter:Iter P gf lb encs xs Rd) (hps: ∀ x,(encs x).size=ps.size)
  (I:List α->World->Prop) (Ix:Code->List α->World->Prop) (hI:Mn w.heap.size I) (hIx: ∀ c,Mn w.heap.size (Ix c))
  (hR: ∀ pre W,I pre W->Rd W) (h0: ∀ o o':Obj,I [] ((w.alloc o).alloc o')) (Ax:α->Act->Prop)
  (hassign: ∀ (l:Nat) (x:α) (W:World) (K:Act->World->Prop),(∀ a',Ax x a'->K a' W)->
   assign.wpIn (Fence.wide.inRound l) 0 P (Exit.then K (fun _ _ _=>False)) { tmps:=(ps.zip (encs x)).foldl (fun t (p,v)=>t.setIfInBounds p v) a.tmps,defers:=[] } W)
  (hbody: ∀ (pre:List α) (x:α) (rest:List α) (a':Act) (W:World),xs=pre++x::rest->w.heap.size+2<=W.heap.size->I pre W->Ax x a'->body.wpIn (Fence.wide.inRound (w.heap.size+1)) 0 P (Mc w.heap.size I Ix (pre++[x]) W) a' W)
  (hdone: ∀ W,I xs W->W.heap[w.heap.size]?=some (.deferred (some []))->Q .normal { a with defers:={ target:=.collected w.heap.size,args:=#[] }::a.defers } W)
  (hstop: ∀ (c:Code) (pre:List α) (W:World),pre <+: xs->Ix c pre W->W.heap[w.heap.size]?=some (.deferred (some []))->c.wpIn Fence.wide 2 P Q { a with defers:={ target:=.collected w.heap.size,args:=#[] }::a.defers } W):
  (Code.rangeFunc g ps assign body).wpIn Fence.wide 2 P Q a w:=by
 refine wpIn_rangeFunc ?_
 intro fn hfn
 obtain ⟨rec,hrec⟩: ∃ rec:LoopState->Option Code->Loop,rec=fun st pe=>{ state:=st,pending:=pe,fn,tmps:=a.tmps,params:=ps,assign,body,defers:=w.heap.size }:=⟨_,rfl⟩
 obtain ⟨W1,hW1⟩: ∃ W1,(w.alloc (.deferred (some []))).alloc (.loop (rec .ready none))=W1:=⟨_,rfl⟩
 have hL1:W1.heap[w.heap.size+1]?=some (.loop (rec .ready none)):=by
  rw [<-hW1];have:=World.alloc_heap_new (w.alloc (.deferred (some []))) (.loop (rec .ready none));rwa [World.size_alloc] at this
 have hK1:W1.heap[w.heap.size]?=some (.deferred (some [])):=by
  rw [<-hW1];exact (Below.heap_alloc _ _ _ (by simp)).trans (World.alloc_heap_new w _)
 have hI1:I [] W1:=by rw [<-hW1];exact h0 _ _
 refine ⟨w.heap.size+1,[{ target:=.collected w.heap.size,args:=#[] }],W1,{ target:=.fn (.func gf) lb,args:=#[.func (.yield (w.heap.size+1)) #[] #[]] },W1,gf,
  #[.func (.yield (w.heap.size+1)) #[] #[]]++lb,W1,?_,?_,?_,?_,fun _=>by omega,?_⟩
 ·rw [<-hW1,hrec];exact run_enterLoop_outer _ _ _ _ _
 ·simp only [resolve,hg]
  simp [go_sem]
 ·intro f' hf';trivial
 ·simp [invoke,go_sem,eg]
 ·refine (hiter (w.heap.size+1)
   (fun pre W=>I pre W/\W.heap[w.heap.size+1]?=some (.loop (rec .ready none))/\W.heap[w.heap.size]?=some (.deferred (some [])))
   (fun pre W=> ∃ c,Ix c pre W/\W.heap[w.heap.size+1]?=some (.loop (rec .done (some c)))/\W.heap[w.heap.size]?=some (.deferred (some [])))
   W1 (fun pre W h=>hR pre W h.1) ?_ ⟨hI1,hL1,hK1⟩).mono ?_
  ·-- one round
   rintro pre x rest W hxs ⟨hi,hl,hk⟩
   have hlt:w.heap.size+1<W.heap.size:=(Array.getElem?_eq_some_iff.1 hl).1
   have hy:=run_yield (P:=P) (args:=encs x) hl (by rw [hrec];exact hps x)
   rw [hrec] at hy
   refine ⟨fn,_,assign,body,hy,roundIn_of_wpIn hfn (hassign _ x W _ ?_)⟩
   clear hy
   intro a' hax
   refine ⟨_,run_beginRound hl (by rw [hrec]),?_⟩
   have hl2:(W.putObj (w.heap.size+1) (.loop { rec .ready none with state:=.busy })).heap[w.heap.size+1]?=some (.loop { rec .ready none with state:=.busy }):=World.putObj_heap_same hlt
   have hk2:(W.putObj (w.heap.size+1) (.loop { rec .ready none with state:=.busy })).heap[w.heap.size]?=some (.deferred (some [])):=(World.putObj_heap_other (by omega)).trans hk
   have hsz2:w.heap.size+2<=(W.putObj (w.heap.size+1) (.loop { rec .ready none with state:=.busy })).heap.size:=(Array.getElem?_eq_some_iff.1 hl2).1
   refine wpIn_mono (hbody pre x rest a' _ hxs hsz2 (hI _ _ _ hi hlt) hax) ?_
   have fin: ∀ (jump:Option Code) (W3:World),(∀ k,k=w.heap.size\/k=w.heap.size+1->W3.heap[k]?=(W.putObj (w.heap.size+1) (.loop { rec .ready none with state:=.busy })).heap[k]?)->
     (Instr.endRound (w.heap.size+1) jump).run P W3=.ok (.bool jump.isNone) (W3.putObj (w.heap.size+1) (.loop (rec (if jump.isNone then .ready else .done) jump)))/\
     w.heap.size+1<W3.heap.size/\
     (W3.putObj (w.heap.size+1) (.loop (rec (if jump.isNone then .ready else .done) jump))).heap[w.heap.size+1]?=some (.loop (rec (if jump.isNone then .ready else .done) jump))/\
     (W3.putObj (w.heap.size+1) (.loop (rec (if jump.isNone then .ready else .done) jump))).heap[w.heap.size]?=some (.deferred (some [])):=fun jump W3 hk3=>by
    have hl3:=(hk3 _ (.inr rfl)).trans hl2
    have:=run_endRound (P:=P) jump hl3
    rw [hrec] at this ⊢
    have hlt3:=(Array.getElem?_eq_some_iff.1 hl3).1
    exact ⟨this,hlt3,World.putObj_heap_same hlt3,(World.putObj_heap_other (by omega)).trans ((hk3 _ (.inl rfl)).trans hk2)⟩
   rintro e a3 W3 hp
   cases e with
   | normal=>
    obtain ⟨hk3,hi3⟩:=hp
    obtain ⟨hr,hl3,hl4,hk4⟩:=fin none W3 hk3
    exact ⟨_,_,hr,.inl ⟨rfl,hI _ _ _ hi3 hl3,hl4,hk4⟩⟩
   | ret=>
    obtain ⟨hk3,hi3⟩:=hp
    obtain ⟨hr,hl3,hl4,hk4⟩:=fin (some .ret) W3 hk3
    exact ⟨_,_,hr,.inr ⟨rfl,.ret,hIx _ _ _ _ hi3 hl3,hl4,hk4⟩⟩
   | exit id=>
    obtain ⟨hk3,hi3⟩:=hp
    obtain ⟨hr,hl3,hl4,hk4⟩:=fin (some (.exit id)) W3 hk3
    exact ⟨_,_,hr,.inr ⟨rfl,.exit id,hIx _ _ _ _ hi3 hl3,hl4,hk4⟩⟩
   | goto t=>
    obtain ⟨hk3,hi3⟩:=hp
    obtain ⟨hr,hl3,hl4,hk4⟩:=fin (some (.goto t)) W3 hk3
    exact ⟨_,_,hr,.inr ⟨rfl,.goto t,hIx _ _ _ _ hi3 hl3,hl4,hk4⟩⟩
   | panic ch=>exact hp.elim
   | outgrown=>exact hp.elim
  ·-- behind the iterator
   rintro e W2 ⟨⟨v,rfl⟩,(⟨hi,hl,hk⟩|⟨pre,hSp,c,hi,hl,hk⟩)⟩
   ·have hlt:=(Array.getElem?_eq_some_iff.1 hl).1
    exact ⟨none,_,by have:=run_endLoop (P:=P) hl (by rw [hrec];simp);rw [hrec] at this;exact this,hdone _ (hI _ _ _ hi hlt) ((World.putObj_heap_other (by omega)).trans hk)⟩
   ·have hlt:=(Array.getElem?_eq_some_iff.1 hl).1
    exact ⟨some c,_,by have:=run_endLoop (P:=P) hl (by rw [hrec];simp);rw [hrec] at this;exact this,hstop c pre _ hSp (hIx c _ _ _ hi hlt) ((World.putObj_heap_other (by omega)).trans hk)⟩
end
section
variable {S:As} {P:Program}
theorem GH.comp {w0 W w:World} {F D0 D D':Nat->Prop} {o o':List (Nat×Own S)} {N N':Nat->Prop} {β β':Nat->Nm} (h:GH w0 F D0 D o N β W) (k:GH W (AL o β) D D' o' N' β' w):GH w0 F D0 D' o' N' β' w:=by
 have hb: ∀ x,AL o β x->w0.heap.size<=x\/F x:=fun x ⟨i,b,hi,hx⟩=>h.fresh i b x hi hx
 refine ⟨k.By,k.own,k.inj,fun i b x hi hx=>?_,k.off,k.lt,k.DL,fun x hx=>?_,⟨k.fr.os.trans h.fr.os,k.fr.tape.trans h.fr.tape,k.fr.output.trans h.fr.output,Nat.le_trans h.fr.size k.fr.size,fun x hx hF=>?_⟩,fun x hx=>k.sub x (h.sub x hx)⟩
 ·rcases k.fresh i b x hi hx with h1|h1
  ·exact .inl (Nat.le_trans h.fr.size h1)
  ·exact hb x h1
 ·rcases k.KZ x hx with h1|h1|h1
  ·exact h.KZ x h1
  ·rcases hb x h1 with h2|h2
   ·exact .inr (.inr h2)
   ·exact .inr (.inl h2)
  ·exact .inr (.inr (Nat.le_trans h.fr.size h1))
 ·refine (k.fr.block x (dg hx h.fr.size) fun h1=>?_).trans (h.fr.block x hx hF)
  rcases hb x h1 with h2|h2
  ·omega
  ·exact hF h2
theorem GH.base {w0 W:World} {F D0 D:Nat->Prop} {o:List (Nat×Own S)} {N:Nat->Prop} {β:Nat->Nm} (h:GH w0 F D0 D o N β W):GH W (AL o β) D D o N β W:=
 ⟨h.By,h.own,h.inj,fun i b k hi hk=>.inr ⟨i,b,hi,hk⟩,h.off,h.lt,h.DL,fun k hk=>.inl hk,OX.refl _ _,fun _ h=>h⟩
def Clear (B:Nat) (D:Nat->Prop) (o:List (Nat×Own S)) (β:Nat->Nm):Prop:=(∀ i b k,lk o i=some b->(β i).has k->k≠B/\k≠B+1)/\ ∀ k,D k->k≠B/\k≠B+1
def OY (w0 wK:World) (F D0 K:Nat->Prop) (q:Spec) (bn:Nat) (β1:Nat->Nm) (B:Nat) (y:q.D S) (W:World):Prop:=
 ∃ D β vs o n,q.enc y bn=(vs,o,n)/\(∀ i,i<bn->β i=β1 i)/\GH w0 F D0 D o (· <n) β W/\bn<=n/\B+2<=W.heap.size/\Clear B D o β/\(∀ k,K k->D k)/\w0.heap.size<=B/\ ∀ k,K k->W.heap[k]?=wK.heap[k]?
theorem GH.putObj {w0 W:World} {F D0 D:Nat->Prop} {o:List (Nat×Own S)} {N:Nat->Prop} {β:Nat->Nm} (h:GH w0 F D0 D o N β W) {r:Nat} (ob:Obj) (hr: ∀ i b,lk o i=some b->¬ (β i).has r) (hD:¬ D r) (h0:w0.heap.size<=r):GH w0 F D0 D o N β (W.putObj r ob):=by
 have hsame: ∀ k,k≠r->(W.putObj r ob).heap[k]?=W.heap[k]?:=fun k hk=>World.putObj_heap_other hk
 have hsz:(W.putObj r ob).heap.size=W.heap.size:=by simp [World.putObj]
 refine ⟨h.By,fun i b hi=>Own.Dm (h.own i b hi) (fun k hk=>hsame k fun e=>hr i b hi (e▸hk)) fun k hk=>hsame k fun e=>hD (e▸hk),h.inj,h.fresh,h.off,fun i b k hi hk=>by rw [hsz];exact h.lt i b k hi hk,fun k hk=>by rw [hsz];exact h.DL k hk,h.KZ,⟨h.fr.os,h.fr.tape,h.fr.output,by rw [hsz];exact h.fr.size,fun k hk hF=>(hsame k (by omega)).trans (h.fr.block k hk hF)⟩,h.sub⟩
theorem OY.Zs {w0 wK:World} {F D0 K:Nat->Prop} {q:Spec} {bn:Nat} {β1:Nat->Nm} {B:Nat}:Mn B (OY (S:=S) w0 wK F D0 K q bn β1 B):=by
 rintro y W ob ⟨D,β,vs,o,n,h1,h2,h3,h4,h5,h6,h7,h8,h9⟩ _
 exact ⟨D,β,vs,o,n,h1,h2,h3.putObj ob (fun i b hi hk=>(h6.1 i b _ hi hk).2 rfl) (fun hD=>(h6.2 _ hD).2 rfl) (by omega),h4,by simpa [World.putObj] using h5,h6,h7,h8,fun k hk=>(World.putObj_heap_other (h6.2 k (h7 k hk)).2).trans (h9 k hk)⟩
theorem OY.VX {w0 wK:World} {F D0 K:Nat->Prop} {q:Spec} {bn:Nat} {β1:Nat->Nm} {B:Nat} {y:q.D S} {W:World} (ob:Obj) (h:OY w0 wK F D0 K q bn β1 B y W):OY w0 wK F D0 K q bn β1 B y (W.putObj B ob):=by
 obtain ⟨D,β,vs,o,n,h1,h2,h3,h4,h5,h6,h7,h8,h9⟩:=h
 exact ⟨D,β,vs,o,n,h1,h2,h3.putObj ob (fun i b hi hk=>(h6.1 i b _ hi hk).1 rfl) (fun hD=>(h6.2 _ hD).1 rfl) h8,h4,by simpa [World.putObj] using h5,h6,h7,h8,fun k hk=>(World.putObj_heap_other (h6.2 k (h7 k hk)).1).trans (h9 k hk)⟩
theorem OY.first {w0 w:World} {F D0 K D:Nat->Prop} {q:Spec} {bn n:Nat} {β:Nat->Nm} {y:q.D S} {vs:List SV} {o:List (Nat×Own S)} (he:q.enc y bn=(vs,o,n)) (hg:GH w0 F D0 D o (· <n) β w) (hbn:bn<=n) (hK: ∀ k,K k->D k) (a b:Obj):OY w0 w F D0 K q bn β w.heap.size y ((w.alloc a).alloc b):=by
 have hb:Below w.heap.size w ((w.alloc a).alloc b):=((Below.refl _ w).alloc (Nat.le_refl _) _).alloc (by simp) _
 refine ⟨D,β,vs,o,n,he,fun _ _=>rfl,hg.step hb,hbn,by simp,⟨fun i b k hi hk=>?_,fun k hk=>?_⟩,hK,hg.fr.size,fun k hk=>hb.block k (hg.DL k (hK k hk))⟩
 ·have:=hg.lt i b k hi hk;omega
 ·have:=hg.DL k hk;omega
theorem OY.next {w0 W w wK:World} {F D0 K D D':Nat->Prop} {q:Spec} {bn n n' B:Nat} {β β' β1:Nat->Nm} {y':q.D S} {vs':List SV} {o o':List (Nat×Own S)} (hg:GH w0 F D0 D o (· <n) β W) (hβ: ∀ i,i<bn->β i=β1 i) (hB:B+2<=W.heap.size) (hc:Clear B D o β) (hK: ∀ k,K k->D k) (h0:w0.heap.size<=B) (hsame: ∀ k,K k->W.heap[k]?=wK.heap[k]?)
  (he:q.enc y' bn=(vs',o',n')) (hβ': ∀ i,i<bn->β' i=β i) (hg':GH W (AL o β) D D' o' (· <n') β' w) (hbn:bn<=n'):(∀ k,k=B\/k=B+1->w.heap[k]?=W.heap[k]?)/\OY w0 wK F D0 K q bn β1 B y' w:=by
 have hcl: ∀ k,AL o β k->k≠B/\k≠B+1:=fun k ⟨i,b,hi,hk⟩=>hc.1 i b k hi hk
 refine ⟨fun k hk=>hg'.fr.block k (by rcases hk with rfl|rfl<;>omega) fun h=>?_,D',β',vs',o',n',he,fun i hi=>(hβ' i hi).trans (hβ i hi),hg.comp hg',hbn,Nat.le_trans hB hg'.fr.size,⟨fun i b k hi hk=>?_,fun k hk=>?_⟩,fun k hk=>hg'.sub k (hK k hk),h0,fun k hk=>(hg'.fr.block k (hg.DL k (hK k hk)) fun ⟨i,b,hi,hx⟩=>hg.off i b k hi hx (hK k hk)).trans (hsame k hk)⟩
 ·have:=hcl k h
  rcases hk with rfl|rfl
  ·exact this.1 rfl
  ·exact this.2 rfl
 ·rcases hg'.fresh i b k hi hk with h1|h1
  ·omega
  ·exact hcl k h1
 ·rcases hg'.KZ k hk with h1|h1|h1
  ·exact hc.2 k h1
  ·exact hcl k h1
  ·omega
def Nv (body:Code):Bool:=HY (fun x=>HY (fun o=>match E5 o with|true=>false|false=>true) x.2.1.toList) (A7 body)
theorem PD {body:Code} (h:Nv body=true) {a:List Nat} {id:Nat} {ops:Array Oper} {d:Bool} (ha:Hk body a=some (.region id ops d)) (j:Nat) (o:Oper) (ho:ops[j]?=some o):E5 o=false:=by
 have h1:=Bm.1 h (id,ops,d) (Qb ha _ (by simp [A7]))
 have h2:=Bm.1 h1 o (gc (by rw [Array.getElem?_toList];exact ho))
 cases hd:E5 o with
 | false=>rfl
 | true=>rw [hd] at h2;cases h2
def YN (qe:Spec) (bn:Nat):Bool->St S->Tr (fun _=>Empty) (qe.D S)
 | true,_=>.stuck 51
 | false,s=>match qe.parse true [] s.o (RQ bn) bn with
  | some (y,_)=>.ret y
  | none=>.stuck 52
def UU (E:Env S) (f0:Nat) (adr:List Nat) (body:Code) (sp qe:Spec) (ts:List Nat) (bn:Nat) (x:sp.D S):Tr (fun _=>Empty) (qe.D S):=match sp.enc x bn with
 | (vs,o,n)=>exec E f0 ⟨false,E.dr⟩ (fun _ _ _=>.stuck 50) (YN qe bn) false [.code adr body] ⟨ts.zip vs,o,n,E.sz⟩
theorem UW {E:Env S} (hE:E.Ok P) {f0:Nat} {adr:List Nat} {body:Code} (hat:Hk E.body adr=some body) (hnd:Nv E.body=true) {sp qe:Spec} {ts:List Nat} {bn:Nat} (hqe:qe.okB bn=true) {x:sp.D S} {y:qe.D S}
  (hev:(UU E f0 adr body sp qe ts bn x).eval (fun _ _=>none)=some y) {W:World} {D:Nat->Prop} {β:Nat->Nm} {vs:List SV} {o:List (Nat×Own S)} {n:Nat} (he:sp.enc x bn=(vs,o,n)) (hg:GH W (AL o β) D D o (· <n) β W) (hon:BZ (· <n) vs) (hbn:bn<=n) (hiv:S.inv D W)
  {a:Act} (hd:a.defers=[]) (hsz:a.tmps.size=E.sz) (hts: ∀ (j:Nat) t v,ts[j]?=some t->vs[j]?=some v->t<E.sz/\a.tmps.getD t undef=v.den β) {Q:Exit->Act->World->Prop} (hQp: ∀ c a w,¬ Q (.panic c) a w) (hQo:¬ LetsOut Q)
  (hQ: ∀ a' w D' β' vs' o' n',qe.enc y bn=(vs',o',n')->(∀ i,i<bn->β' i=β i)->GH W (AL o β) D D' o' (· <n') β' w->bn<=n'->Q .normal a' w) (l:Nat):body.wpIn (Fence.wide.inRound l) 0 P Q a W:=by
 have h2:=Tr.BA hev
 unfold UU at h2
 rw [he] at h2
 simp only at h2
 have hkp:CF S W (AL o β) D:=⟨hiv,fun k hk=>⟨hg.DL k hk,fun ⟨i,b,hi,hik⟩=>hg.off i b k hi hik hk⟩⟩
 have:=AZ hE (Φ:=Fence.wide.inRound l) (Q:=Q) (w0:=W) (F:=AL o β) (D0:=D) (bn:=bn) (β0:=β) (M:=0) (body:=E.body) (sz:=E.sz) (Kr:=(· =y)) f0 (fr:=⟨false,E.dr⟩) (oc:=fun _ _ _=>.stuck 50) (or':=YN qe bn)
  ⟨hkp,fun c a d v w h=>absurd h (hQp _ _ _),hE.Oz,fun a id ops d ha=>.inr ⟨⟨l,rfl⟩,hQo,PD hnd ha⟩,fun _ _ _ _ _ _ h=>False.elim h,fun M s' hn hz h=>?_,fun _ _ _ _ _ h=>False.elim h⟩
  false [.code adr body] ⟨ts.zip vs,o,n,E.sz⟩ hbn rfl (fun z hz=>by
   simp only [List.mem_cons,List.not_mem_nil,or_false] at hz
   subst hz
   exact hat) h2
 ·have:=this D β a W (fun _ _=>rfl) ⟨hd,hsz,fun t v ht=>?_,fun t v ht=>?_,hg⟩
  ·simpa only [List.map_cons,List.map_nil,Bp.it,after] using this
  ·obtain ⟨j,j1,j2⟩:=G8 ht
   exact ⟨(hts j t v j1 j2).1,A0.1 hon v (gc j2)⟩
  ·obtain ⟨j,j1,j2⟩:=G8 ht
   exact (hts j t v j1 j2).2
 ·unfold YN at h
  simp only at h
  split at h
  case h_2=>exact h.elim
  rename_i y' ps hp
  have hy:y'=y:=h
  subst hy
  intro D' β' a' w hβ hg'
  rcases he2:qe.enc y' bn with ⟨vs',o',n'⟩
  obtain ⟨β'',b1,b2,_,_,b5,_,_,b8,_⟩:=Spec.CO hg'.gh hp hqe he2
  exact hQ a' w _ β'' vs' o' n' he2 (fun i hi=>by rw [b1 i hi i (b8 i i (G7 hi)),hβ i hi]) b2 b5
end
section
variable {S:As} {P:Program}
theorem DU {ops:Array Oper} {Q Q':Exit->Act->World->Prop} {ds:List Deferred} (hn: ∀ a w,Q .normal a w->Q' .normal { a with defers:=a.defers++ds } w) (hp: ∀ c a w,Q (.panic c) a w->Q' (.panic c) { a with defers:=a.defers++ds } w) (hl:¬ LetsOut Q):
  ∀ {l:List Oper} {a:Act} {w:World},wpList P ops Q l a w->wpList P ops Q' l { a with defers:=a.defers++ds } w
 | [],_,_,h=>hn _ _ h
 | o::r,a,w,h=>by
  have hput: ∀ (a:Act) (d:Option Tmp) (v:Value),({ a with defers:=a.defers++ds }:Act).put d v={ a.put d v with defers:=(a.put d v).defers++ds }:=fun a d v=>by cases d<;>rfl
  unfold wpList at h ⊢
  by_cases hw:Region.wanted o (yielded ops a.tmps)=true
  ·rw [if_pos hw] at h ⊢
   rcases h with h|⟨_,h2⟩
   case inr=>exact absurd h2 hl
   refine .inl ?_
   unfold Oper.wp at h ⊢
   have he:({ a with defers:=a.defers++ds }:Act).eval=a.eval:=rfl
   rw [he]
   generalize (execOp a.eval o).run P w=x at h ⊢
   cases x with
   | ok n w'=>
    cases n<;>simp only [Oper.upon] at h ⊢ <;>first
     | exact h.elim
     | (rw [hput];exact DU hn hp hl h)
     | (have:=DU hn hp hl h;rw [<-hput] at this;exact this)
     | (refine h.mono fun e w'' hh=>?_;cases e<;>first|(simp only at hh ⊢; rw [hput];exact DU hn hp hl hh)|exact hp _ _ _ hh|exact absurd hh hl)
     | (refine h.mono fun v w'' hh=>?_;rw [hput];exact DU hn hp hl hh)
   | halt x w'=>cases x<;>simp only [Oper.upon] at h ⊢ <;>first|exact h|exact hp _ _ _ h
  ·rw [if_neg hw] at h ⊢
   rw [hput]
   exact DU hn hp hl h
theorem G1 {f:Nat} {tb:List (Nat×TI)} {ct:List (BU S)} {p:Aj} (htb:Ae S P tb) (hct: ∀ c∈ct,c.Holds P) (h:AH S P f p=true):(AU P f tb ct p).Ok P/\B9 P f=true/\p.sp.okB p.bn=true/\ ∃ fn,P.funcs[f]?=some fn/\fn.body=some (AY P f)/\fn.ntmps=Cw P f/\fn.results.toList=EL P f:=by
 simp only [AH,dl] at h
 obtain ⟨⟨⟨⟨⟨⟨⟨⟨h1,h2⟩,h3⟩,h4⟩,h5⟩,h6⟩,h7⟩,h9⟩,h8⟩:=h
 have hb:=h1
 unfold B9 at h1
 split at h1
 case h_2=>cases h1
 rename_i fn hf
 simp only [dl] at h1
 cases hbody:fn.body with
 | none=>rw [hbody] at h1;simp at h1
 | some c=>
 have e1:AY P f=c:=by simp only [AY,hf,hbody]
 have e2:Cw P f=fn.ntmps:=by simp only [Cw,hf]
 have e3:EL P f=fn.results.toList:=by simp only [EL,hf]
 refine ⟨⟨htb,hct,h4,h6,h7,fun g q hq=>?_,fun c q hq=>?_⟩,hb,h3,fn,hf,by rw [hbody,e1],e2.symm,e3.symm⟩
 ·obtain ⟨dr,hm,e⟩:=NQ hq
  have:=Bm.1 h9 (g,dr) hm
  simp only [dl] at this
  obtain ⟨fn',a1,a2,a3,a4⟩:=Ov this.1
  subst e
  exact ⟨this.1,this.2,fn',a1,a2,a3,a4⟩
 ·have:=Bm.1 h8 (c,q) (Tf hq)
  simp only [dl] at this
  obtain ⟨⟨⟨a1,a2⟩,a3⟩,a4⟩:=this
  refine ⟨a1,dk a2,ac a3,?_⟩
  cases hk:DI (AY P f) q.key with
  | none=>rw [hk] at a4;cases a4
  | some k=>exact ⟨k,hk⟩
def dC:Bool->St S->Tr (fun _=>Empty) (List Bp×St S)
 | true,_=>.stuck 51
 | false,s=>.ret ([],s)
def PG (E:Env S) (f0:Nat) (k:List Bp) (s:St S):Tr (fun _=>Empty) (List Bp×St S):=exec E f0 ⟨false,E.dr⟩ (fun _ k s=>.ret (k,s)) dC false k s
theorem KQ {E:Env S} (hE:E.Ok P) {Q:Exit->Act->World->Prop} {w0:World} {F D0:Nat->Prop} {bn:Nat} {β0:Nat->Nm} (hkp:CF S w0 F D0) (hpan: ∀ c a d v w,Q (.panic c) (a.put d v) w->Q (.panic c) a w) {f0:Nat} {k0:List Bp} {s0:St S} (hbn:bn<=s0.n) (hsz:s0.sz=E.sz) (hok: ∀ x∈k0,x.ok E.body)
  (hev:(PG E f0 k0 s0).Holds (fun _ _=>False) fun r=>bn<=r.2.n->r.2.sz=E.sz->VC Fence.wide P Q w0 F D0 bn β0 0 (r.1.map Bp.it) r.2):VC Fence.wide P Q w0 F D0 bn β0 (0+f0) (k0.map Bp.it) s0:=
 AZ hE (ι:=fun _=>Empty) (ρ:=List Bp×St S) (Kc:=fun _ _=>False) (Kr:=fun r:List Bp×St S=>bn<=r.2.n->r.2.sz=E.sz->VC Fence.wide P Q w0 F D0 bn β0 0 (r.1.map Bp.it) r.2) (Φ:=Fence.wide) (Q:=Q) (w0:=w0) (F:=F) (D0:=D0) (bn:=bn) (β0:=β0) (M:=0) (body:=E.body) (sz:=E.sz) f0 (fr:=⟨false,E.dr⟩) (oc:=fun _ k s=>.ret (k,s)) (or':=dC)
  ⟨hkp,hpan,hE.Oz,fun _ _ _ _ _=>.inl rfl,fun _ k s hn hz _ h=>(show bn<=s.n->s.sz=E.sz->VC Fence.wide P Q w0 F D0 bn β0 0 (k.map Bp.it) s from h) hn hz,fun _ s hn hz h=>VC.more (Nat.zero_le _) ((show bn<=s.n->s.sz=E.sz->VC Fence.wide P Q w0 F D0 bn β0 0 [] s from h) hn hz),fun _ _ _ _ _ h=>False.elim h⟩ false k0 s0 hbn hsz hok hev
def Lv (Q:Exit->Act->World->Prop):Exit->Act->World->Prop
 | .panic _,_,_=>False
 | e,a,w=>Q e a w
theorem VC.TC {f:FuncId} {fn:Func} {c:Code} {args:List SV} {w:World} {R:Ending->World->Prop} {o:List (Nat×Own S)} {n m M bn:Nat} {F D0 D:Nat->Prop} {β:Nat->Nm} (hf:P.funcs[f]?=some fn) (hb:fn.body=some c) (hn:fn.ntmps=m) (hN:args.length<=m) (hargs:BZ (· <n) args)
  {w0:World} (hgh:GH w0 F D0 D o (· <n) β w) (h:VC Fence.wide P (Lv (bodyPostM Fence.wide 2 P fn R)) w0 F D0 bn β M [.code c] ⟨Bx 0 args,o,n,m⟩):Calls P f (AD β args).toArray w R:=by
 refine callsIn_wide.1 (callsIn_of_wp_marks hf hb trivial (n:=2) ?_)
 have:=h D β { tmps:=(AD β args).toArray++Array.replicate (fn.ntmps -(AD β args).toArray.size) undef,defers:=[] } w (fun _ _=>rfl) ⟨rfl,?_,fun t x hx=>?_,fun t x hx=>?_,hgh⟩
 ·refine wpIn_mono (wpIn_wide.2 (wpIn_wide.1 (by simpa only [after] using this))) fun e a w h=>?_
  cases e<;>first|exact h|exact h.elim
 ·simp [AI,hn];omega
 ·obtain ⟨_,h2⟩:=Dp hx
  have hlt:t -0<args.length:=(List.getElem?_eq_some_iff.1 h2).1
  exact ⟨by simp only;omega,A0.1 hargs x (gc h2)⟩
 ·obtain ⟨_,h2⟩:=Dp hx
  have hlt:t -0<args.length:=(List.getElem?_eq_some_iff.1 h2).1
  simp only [Nat.sub_zero] at h2 hlt
  have h3:(AD β args)[t]?=some (x.den β):=by rw [CM,h2];rfl
  rw [lm,Array.getElem?_append_left (by simpa [AI] using hlt)]
  simp [h3]
end
section
variable {S:As} {P:Program}
theorem GH.jI {w0 w:World} {F D0 D:Nat->Prop} {o:List (Nat×Own S)} {N:Nat->Prop} {β:Nat->Nm} (h:GH w0 F D0 D o N β w) {r:Nat} (hr: ∀ i b,lk o i=some b->¬ (β i).has r) (hlt:r<w.heap.size) (hdom:w0.heap.size<=r\/F r):GH w0 F D0 (fun k=>D k\/k=r) o N β w:=
 ⟨h.By,fun i b hi=>Own.CB (h.own i b hi) fun _ hk=>.inl hk,h.inj,h.fresh,fun i b k hi hk hD=>by
  rcases hD with hD|rfl
  ·exact h.off i b k hi hk hD
  ·exact hr i b hi hk,h.lt,fun k hk=>by
  rcases hk with hk|rfl
  ·exact h.DL k hk
  ·exact hlt,fun k hk=>by
  rcases hk with hk|rfl
  ·exact h.KZ k hk
  ·rcases hdom with h1|h1
   ·exact .inr (.inr h1)
   ·exact .inr (.inl h1),h.fr,fun k hk=>.inl (h.sub k hk)⟩
theorem GH.keeps {w0 w:World} {F D0 D:Nat->Prop} {o:List (Nat×Own S)} {N:Nat->Prop} {β:Nat->Nm} (h:GH w0 F D0 D o N β w) (hk:CF S w0 F D0):CF S w (AL o β) D:=⟨h.inv hk,fun k hk=>⟨h.DL k hk,fun ⟨i,b,hi,hik⟩=>h.off i b k hi hik hk⟩⟩
end
section
variable {S:As} {P:Program}
def YM (qe:Spec) (ts:List Nat) (bn:Nat):Bool->St S->Tr (fun _=>Empty) (qe.D S)
 | true,_=>.stuck 51
 | false,s=>match F9 s ts with
  | some vs=>match qe.parse true vs s.o (RQ bn) bn with
   | some (y,_)=>.ret y
   | none=>.stuck 52
  | none=>.stuck 53
def OH (E:Env S) (f0:Nat) (all:Array Oper) (sp qe:Spec) (ts ts':List Nat) (bn:Nat) (x:sp.D S):Tr (fun _=>Empty) (qe.D S):=match sp.enc x bn with
 | (vs,o,n)=>exec E f0 ⟨false,E.dr⟩ (fun _ _ _=>.stuck 50) (YM qe ts' bn) false [.ops all all.toList] ⟨ts.zip vs,o,n,E.sz⟩
structure Mk (S:As) (w0:World) (F D0:Nat->Prop) (q:Spec) (ts:List Nat) (bn:Nat) (β1:Nat->Nm) (sz:Nat) (y:q.D S) (a:Act) (W:World):Prop where
 st: ∃ D β vs o n,q.enc y bn=(vs,o,n)/\(∀ i,i<bn->β i=β1 i)/\GH w0 F D0 D o (· <n) β W/\BZ (· <n) vs/\bn<=n/\ ∀ (j:Nat) t v,ts[j]?=some t->vs[j]?=some v->t<sz/\a.tmps.getD t undef=v.den β
 sz:a.tmps.size=sz
theorem OI {E:Env S} (hE:E.Ok P) {f0:Nat} {all:Array Oper} {sp qe:Spec} {ts ts':List Nat} {bn:Nat} {β1:Nat->Nm} (hqe:qe.okB bn=true) (hlen:ts'.length=qe.as.length) {x:sp.D S} {y:qe.D S}
  (hev:(OH E f0 all sp qe ts ts' bn x).eval (fun _ _=>none)=some y) {w0:World} {F D0:Nat->Prop} (hkp:CF S w0 F D0) {W:World} {a:Act} (hh:Mk S w0 F D0 sp ts bn β1 E.sz x a W) {Q:Exit->Act->World->Prop}
  (hQ: ∀ a' W',a'.defers=a.defers->Mk S w0 F D0 qe ts' bn β1 E.sz y a' W'->Q .normal a' W'):wpList P all Q all.toList a W:=by
 obtain ⟨⟨D,β,vs,o,n,he,hβ,hg,hon,hbn,hts⟩,hsz⟩:=hh
 have h2:=Tr.BA hev
 unfold OH at h2
 rw [he] at h2
 simp only at h2
 have hl:=AZ hE (Φ:=Fence.wide) (Q:=fun e a' W'=>match e with
   | .normal=>a'.defers=[]/\Mk S w0 F D0 qe ts' bn β1 E.sz y a' W'
   | _=>False) (w0:=w0) (F:=F) (D0:=D0) (bn:=bn) (β0:=β) (M:=0) (body:=E.body) (sz:=E.sz) (Kr:=(· =y)) f0 (fr:=⟨false,E.dr⟩) (oc:=fun _ _ _=>.stuck 50) (or':=YM qe ts' bn)
  ⟨hkp,fun _ _ _ _ _ h=>h,hE.Oz,fun _ _ _ _ _=>.inl rfl,fun _ _ _ _ _ _ h=>False.elim h,fun M s' hn hz h=>?_,fun _ _ _ _ _ h=>False.elim h⟩
  false [.ops all all.toList] ⟨ts.zip vs,o,n,E.sz⟩ hbn rfl (fun z hz=>by
   simp only [List.mem_cons,List.not_mem_nil,or_false] at hz
   subst hz
   trivial) h2
 ·have:=hl D β { a with defers:=[] } W (fun _ _=>rfl) ⟨rfl,hsz,fun t v ht=>?_,fun t v ht=>?_,hg⟩
  ·simp only [List.map_cons,List.map_nil,Bp.it,after] at this
   exact DU (ds:=a.defers) (Q':=Q) (fun a' W' ⟨h1,h2⟩=>hQ _ W' (by simp [h1]) ⟨h2.st,h2.sz⟩) (fun _ _ _ h=>h.elim) (fun ⟨_,_,h⟩=>h) this
  ·obtain ⟨j,j1,j2⟩:=G8 ht
   exact ⟨(hts j t v j1 j2).1,A0.1 hon v (gc j2)⟩
  ·obtain ⟨j,j1,j2⟩:=G8 ht
   exact (hts j t v j1 j2).2
 ·unfold YM at h
  simp only at h
  split at h
  case h_2=>exact h.elim
  rename_i us hus
  split at h
  case h_2=>exact h.elim
  rename_i y' ps hp
  have hy:y'=y:=h
  subst hy
  intro D' β' a' w hβ2 hg'
  rcases he2:qe.enc y' bn with ⟨vs',o',n'⟩
  obtain ⟨β'',b1,b2,b3,b4,b5,_,_,b8,_⟩:=Spec.CO hg'.gh hp hqe he2
  obtain ⟨t1,t2,t3⟩:=FN hg' hus
  have hlv:vs'.length=us.length:=by have:=congrArg List.length b3;rw [AI,AI] at this;exact this.symm
  refine ⟨hg'.defers,⟨⟨_,β'',vs',o',n',he2,fun i hi=>by rw [b1 i hi i (b8 i i (G7 hi)),hβ2 i hi,hβ i hi],b2,b4,b5,fun j t v hj hv=>?_⟩,by rw [hg'.size,hz]⟩⟩
  have hju:j<us.length:=by rw [<-hlv];exact (List.getElem?_eq_some_iff.1 hv).1
  obtain ⟨t4,t5⟩:=t3 j t _ hj (co hju)
  refine ⟨by rw [<-hz];exact t4,?_⟩
  rw [t5]
  have h6:=congrArg (fun l:List Value=>l[j]?) b3
  simp only [CM,co hju,hv,Option.map_some,am] at h6
  exact h6
end
section
variable {S:As} {P:Program}
def eU (qe:Spec) (ts:List Nat) (bn0 bn id:Nat) (key:List (List Nat)):Nat->List Bp->St S->Tr (fun _=>Empty) (qe.D S):=fun c k s=>match Nat.beq c id,cb k key with
 | true,true=>match F9 s ts with
  | some vs=>match qe.parse true vs s.o (RQ bn0) bn with
   | some (y,_)=>.ret y
   | none=>.stuck 52
  | none=>.stuck 53
 | _,_=>.stuck 54
def oP (E:Env S) (f0:Nat) (qe:Spec) (ts:List Nat) (bn0 bn id:Nat) (key:List (List Nat)) (k:List Bp) (s:St S):Tr (fun _=>Empty) (qe.D S):=exec E f0 ⟨false,E.dr⟩ (eU qe ts bn0 bn id key) (fun _ _=>.stuck 51) false k s
theorem mG {E:Env S} (hE:E.Ok P) {f0:Nat} {qe:Spec} {ts:List Nat} {bn0 bn id:Nat} {key:List (List Nat)} {k1:List Bp} (hk1:DI E.body key=some k1) (hqe:qe.okB bn=true) (hle:bn0<=bn) {k0:List Bp} {s0:St S} {y:qe.D S} (hev:(oP E f0 qe ts bn0 bn id key k0 s0).eval (fun _ _=>none)=some y)
  {w0:World} {F D0:Nat->Prop} {β0:Nat->Nm} {Q:Exit->Act->World->Prop} (hkp:CF S w0 F D0) (hpan: ∀ c a d v w,Q (.panic c) (a.put d v) w->Q (.panic c) a w) (hbn:bn0<=s0.n) (hsz:s0.sz=E.sz) (hok: ∀ x∈k0,x.ok E.body)
  (h: ∀ β2 a W,(∀ i,i<bn0->β2 i=β0 i)->a.defers=[]->Mk S w0 F D0 qe ts bn β2 E.sz y a W->after Fence.wide P 0 (k1.map Bp.it) Q .normal a W):VC Fence.wide P Q w0 F D0 bn0 β0 (0+f0) (k0.map Bp.it) s0:=by
 refine AZ hE (ι:=fun _=>Empty) (ρ:=qe.D S) (Kc:=fun _ _=>none=some y) (Kr:=(· =y)) (Φ:=Fence.wide) (Q:=Q) (w0:=w0) (F:=F) (D0:=D0) (bn:=bn0) (β0:=β0) (M:=0) (body:=E.body) (sz:=E.sz) f0 (fr:=⟨false,E.dr⟩) (oc:=eU qe ts bn0 bn id key) (or':=fun _ _=>.stuck 51)
  ⟨hkp,hpan,hE.Oz,fun _ _ _ _ _=>.inl rfl,fun c k s hn hz hk hh=>?_,fun _ _ _ _ h=>False.elim h,fun _ _ _ _ _ h=>False.elim h⟩ false k0 s0 hbn hsz hok (Tr.BA hev)
 unfold eU at hh
 split at hh
 case h_2=>exact hh.elim
 rename_i hc hkey
 split at hh
 case h_2=>exact hh.elim
 rename_i us hus
 split at hh
 case h_2=>exact hh.elim
 rename_i y' ps hp
 have hy:y'=y:=hh
 subst hy
 have hkk:=TE hk hkey hk1
 subst hkk
 intro D' β' a' w hβ2 hg'
 rcases he2:qe.enc y' bn with ⟨vs',o',n'⟩
 obtain ⟨β'',b1,b2,b3,b4,b5,_,_,b8,_⟩:=Spec.CO hg'.gh hp hqe he2
 obtain ⟨t1,t2,t3⟩:=FN hg' hus
 have hlv:vs'.length=us.length:=by have:=congrArg List.length b3;rw [AI,AI] at this;exact this.symm
 refine h β'' a' w (fun i hi=>by rw [b1 i (dg hi hle) i (b8 i i (G7 hi)),hβ2 i hi]) hg'.defers ⟨⟨_,β'',vs',o',n',he2,fun _ _=>rfl,b2,b4,b5,fun j t v hj hv=>?_⟩,by rw [hg'.size,hz]⟩
 have hju:j<us.length:=by rw [<-hlv];exact (List.getElem?_eq_some_iff.1 hv).1
 obtain ⟨t4,t5⟩:=t3 j t _ hj (co hju)
 refine ⟨by rw [<-hz];exact t4,?_⟩
 rw [t5]
 have h6:=congrArg (fun l:List Value=>l[j]?) b3
 simp only [CM,co hju,hv,Option.map_some,am] at h6
 exact h6
theorem VC.ed {f:FuncId} {fn:Func} {c:Code} {args:List SV} {w:World} {R:Ending->World->Prop} {o:List (Nat×Own S)} {n m M bn:Nat} {F D0 D:Nat->Prop} {β:Nat->Nm} (hf:P.funcs[f]?=some fn) (hb:fn.body=some c) (hn:fn.ntmps=m) (hN:args.length<=m) (hargs:BZ (· <n) args)
  {w0:World} (hgh:GH w0 F D0 D o (· <n) β w) (h:VC Fence.wide P (Lv (bodyPostD P fn R)) w0 F D0 bn β M [.code c] ⟨Bx 0 args,o,n,m⟩):Calls P f (AD β args).toArray w R:=by
 refine calls_of_wp_defers hf hb ?_
 have:=h D β { tmps:=(AD β args).toArray++Array.replicate (fn.ntmps -(AD β args).toArray.size) undef,defers:=[] } w (fun _ _=>rfl) ⟨rfl,?_,fun t x hx=>?_,fun t x hx=>?_,hgh⟩
 ·refine wp_mono (wpIn_wide.1 (by simpa only [after] using this)) fun e a w h=>?_
  cases e<;>first|exact h|exact h.elim
 ·simp [AI,hn];omega
 ·obtain ⟨_,h2⟩:=Dp hx
  have hlt:t -0<args.length:=(List.getElem?_eq_some_iff.1 h2).1
  exact ⟨by simp only;omega,A0.1 hargs x (gc h2)⟩
 ·obtain ⟨_,h2⟩:=Dp hx
  have hlt:t -0<args.length:=(List.getElem?_eq_some_iff.1 h2).1
  simp only [Nat.sub_zero] at h2 hlt
  have h3:(AD β args)[t]?=some (x.den β):=by rw [CM,h2];rfl
  rw [lm,Array.getElem?_append_left (by simpa [AI] using hlt)]
  simp [h3]
theorem Mk.put {w0:World} {F D0:Nat->Prop} {q:Spec} {ts:List Nat} {bn sz:Nat} {β1:Nat->Nm} {y:q.D S} {a:Act} {W:World} (h:Mk S w0 F D0 q ts bn β1 sz y a W) {d:Nat} {v:Value} {ds:List Deferred} (hd:d ∉ ts):Mk S w0 F D0 q ts bn β1 sz y { a.put (some d) v with defers:=ds } W:=by
 obtain ⟨⟨D,β,vs,o,n,h1,h2,h3,h4,h5,h6⟩,hsz⟩:=h
 refine ⟨⟨D,β,vs,o,n,h1,h2,h3,h4,h5,fun j t v' hj hv=>?_⟩,by simpa [Act.put] using hsz⟩
 obtain ⟨k1,k2⟩:=h6 j t v' hj hv
 refine ⟨k1,?_⟩
 rw [<-k2]
 have hne:d≠t:=fun e=>hd (e▸gc hj)
 simp [Act.put,lm,ge,hne]
end
end Go.En
namespace Go.Proofs
open Go Go.En Go.RowKit Go.Shelf
attribute [local go_sem] Oper.semAt_some
def upto {α:Type} (f:Nat->α) (k:Nat):List α:=(List.range k).map f
theorem Gn {α:Type} (f:Nat->α) (k:Nat):upto f (k+1)=upto f k++[f k]:=by simp [upto,List.range_succ]
theorem Jm {α:Type} (f:Nat->α) {k n:Nat} (h:k<n): ∃ rest,upto f n=upto f k++f k::rest:=by
 induction n with
 | zero=>omega
 | succ n ih=>
  rw [Gn]
  by_cases hk:k=n
  ·subst hk;exact ⟨[],rfl⟩
  ·obtain ⟨r,hr⟩:=ih (by omega)
   exact ⟨r++[f n],by rw [hr];simp⟩
theorem SX {α:Type} (f:Nat->α) {k n:Nat} (h:k<=n):upto f k <+: upto f n:=by
 by_cases hk:k=n
 ·subst hk;exact List.prefix_refl _
 ·obtain ⟨r,hr⟩:=Jm f (show k<n by omega)
  exact ⟨f k::r,hr.symm⟩
def bwd (zs:List Int):List (Int×Int):=upto (fun k=>((zs.length:Int) -1 -k,zs[zs.length -1 -k]?.getD 0)) zs.length
def de (Bs:Nat) (zs:List Int) (W:World):Prop:=
 (zs=[]/\ ∃ a c,W.cell? ⟨Bs,0,none⟩=some (.slice a 0 c))\/ ∃ b off cap,W.cell? ⟨Bs,0,none⟩=some (.slice (some ⟨b,off,none⟩) zs.length cap)/\ ∀ j,j<zs.length->W.cell? ⟨b,off+j,none⟩=some (.int .i64 (zs[j]?.getD 0))
set_option maxRecDepth 100000 in
set_option maxHeartbeats 4000000 in
theorem Tryz.US (Bs:Nat) (zs:List Int) (hz:zs.length<9223372036854775807):Iter Tryz.prog 120 #[.pointer (some ⟨Bs,0,none⟩)] (fun x:Int×Int=>#[Value.int .i64 x.1,Value.int .i64 x.2]) (bwd zs) (de Bs zs):=by
 intro l J Jx W hRd hY h0
 refine callsIn_of_wp Tryz.func120 rfl trivial ?_ rfl
 simp only [Tryz.ntmps120,List.size_toArray,List.length_cons,List.length_nil,Nat.reduceAdd,Nat.reduceSub,Array.replicate_succ,Array.replicate_zero,List.push_toArray,List.append_toArray,List.nil_append,List.cons_append]
 obtain ⟨a,c,hBs⟩: ∃ a c,W.cell? ⟨Bs,0,none⟩=some (.slice a zs.length c):=by
  rcases hRd _ _ h0 with ⟨rfl,a,c,h⟩|⟨b,off,cap,h,_⟩
  ·exact ⟨a,c,h⟩
  ·exact ⟨_,cap,h⟩
 gi_wp2
 gi_loopw [3] (fun i wr=> ∃ k:Nat,k<=zs.length/\i=.int .i64 ((zs.length:Int) -1 -k)/\J (upto (fun k=>((zs.length:Int) -1 -k,zs[zs.length -1 -k]?.getD 0)) k) wr)
  (fun i _=>(intOf i+1).toNat)
 case atStart=>exact ⟨0,Nat.zero_le _,by simp,h0⟩
 case round=>
  obtain ⟨k,hk,rfl,hJs⟩:=hrel
  by_cases hlt:k<zs.length
  ·obtain ⟨rest,hrest⟩:=Jm (fun k=>((zs.length:Int) -1 -k,zs[zs.length -1 -k]?.getD 0)) hlt
   obtain ⟨fn,tmps,assign,body,hy,hR⟩:=hY _ _ _ wr hrest hJs
   dsimp only at hy
   obtain ⟨b,off,cap,hb,hc⟩: ∃ b off cap,wr.cell? ⟨Bs,0,none⟩=some (.slice (some ⟨b,off,none⟩) zs.length cap)/\ ∀ j,j<zs.length->wr.cell? ⟨b,off+j,none⟩=some (.int .i64 (zs[j]?.getD 0)):=by
    rcases hRd _ _ hJs with ⟨h,_⟩|h
    ·rw [h] at hlt;simp at hlt
    ·exact h
   have hge:(0:Int)<=(zs.length:Int) -1 -k:=by omega
   have hlt2:(zs.length:Int) -1 -k<zs.length:=by omega
   have hcx:wr.cell? ⟨b,off+(zs.length -1 -k),none⟩=some (.int .i64 (zs[zs.length -1 -k]?.getD 0)):=hc _ (by omega)
   gi_wp2
   refine hR.mono ?_
   rintro e W3 (⟨rfl,hJ3⟩|⟨rfl,hJx3⟩)
   ·gi_wp2
    go_roundw
    case rel=>exact ⟨k+1,by omega,by simp;omega,by rw [Gn];exact hJ3⟩
    case measure=>simp [intOf];omega
   ·gi_wp2
    refine bodyPost_ret (results_none rfl _ _ _) rfl ?_
    exact ⟨⟨_,rfl⟩,.inr ⟨_,by rw [<-Gn];exact SX _ (by omega),hJx3⟩⟩
  ·obtain rfl:k=zs.length:=by omega
   gi_wp2
   go_end0
   exact ⟨⟨_,rfl⟩,.inl hJs⟩
end Go.Proofs
