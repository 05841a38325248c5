/- A piece of a function gone through by hand, operation by operation, over states that are written out. -/
import Derived.Test.YtikecakpcfpghaaGreatDoorMo
import Derived.Test.YtikecakpcfpghaaGreatDoorMj
import Derived.Test.YtikecakpcfpghaaGreatDoorMu
import Derived.Test.YtikecakpcfpghaaGreatDoorMp
set_option linter.all false
namespace Go.En
open Go.RowKit
section
variable {S:Aq} {Φ:Fence} {P:Program} {Q:Exit->Act->World->Prop} {w0:World} {F D0:Nat->Prop} {bn:Nat} {β0:Nat->Nm} {M:Nat} {k:List It} {s s':St S}
def mR (tb:List (Nat×TI)) (all:Array Oper) (s:St S) (o:Oper):Option (Option Bool×St S):=match Bd s all o with
 | .yes=>match evalOp tb s o.op with
  | .val c x=>match s.put o.dst x with
   | some s'=>some (c,s')
   | none=>none
  | .new b=>match St.put { s with o:=(s.n,b)::s.o,n:=s.n+1 } o.dst (GX b s.n) with
   | some s'=>some (none,s')
   | none=>none
  | .SC c i b=>match St.put { s with o:=pt s.o i b } o.dst (.v (.tuple #[])) with
   | some s'=>some (c,s')
   | none=>none
  | .nm c o1 n' v=>match St.put { s with o:=o1++s.o,n:=n' } o.dst v with
   | some s'=>some (c,s')
   | none=>none
  | _=>none
 | _=>none
theorem VC.st {tb:List (Nat×TI)} (htb:AU S P tb) {all:Array Oper} {o:Oper} {r:List Oper} (hbn:bn<=s.n) {c:Option Bool} (h:mR tb all s o=some (c,s')) (hc:CB c)
  (hk:VC Φ P Q w0 F D0 bn β0 M (.ops all r::k) s'):VC Φ P Q w0 F D0 bn β0 M (.ops all (o::r)::k) s:=by
 unfold mR at h
 split at h
 case h_2=>cases h
 rename_i hw
 refine VC.Ui htb hw hbn ?_
 split at h
 ·rename_i he
  rw [he]
  split at h
  ·rename_i hp;cases h;exact ⟨hc,_,hp,hk⟩
  ·cases h
 ·rename_i he
  rw [he]
  split at h
  ·rename_i hp;cases h;exact ⟨_,hp,hk⟩
  ·cases h
 ·rename_i he
  rw [he]
  split at h
  ·rename_i hp;cases h;exact ⟨hc,_,hp,hk⟩
  ·cases h
 ·rename_i he
  rw [he]
  split at h
  ·rename_i hp;cases h;exact ⟨hc,_,hp,hk⟩
  ·cases h
 ·cases h
def R0 (tb:List (Nat×TI)) (all:Array Oper):List Oper->St S->Option (List (Option Bool)×St S)
 | [],s=>some ([],s)
 | o::r,s=>match mR tb all s o with
  | some (c,s')=>match Nat.ble s.n s'.n with
   | true=>match R0 tb all r s' with
    | some (cs,s'')=>some (c::cs,s'')
    | none=>none
   | false=>none
  | none=>none
theorem VC.mS {tb:List (Nat×TI)} (htb:AU S P tb) {all:Array Oper} {r:List Oper}: ∀ {l:List Oper} {s s':St S} {cs:List (Option Bool)},bn<=s.n->R0 tb all l s=some (cs,s')->(∀ c∈cs,CB c)->
  VC Φ P Q w0 F D0 bn β0 M (.ops all r::k) s'->VC Φ P Q w0 F D0 bn β0 M (.ops all (l++r)::k) s
 | [],s,s',cs,_,h,_,hk=>by cases h;exact hk
 | o::l,s,s',cs,hbn,h,hc,hk=>by
  unfold R0 at h
  split at h
  case h_2=>cases h
  rename_i c s1 h1
  split at h
  case h_2=>cases h
  rename_i hn
  split at h
  case h_2=>cases h
  rename_i cs2 s2 h2
  cases h
  exact VC.st htb hbn h1 (hc _ List.mem_cons_self) (VC.mS htb (Nat.le_trans hbn (Nat.le_of_ble_eq_true hn)) h2 (fun c h=>hc c (List.mem_cons_of_mem _ h)) hk)
theorem VC.ba {ts:List (Nat×SV)} {os:List (Nat×Own S)} {m:Nat} (ht: ∀ p∈ts,lk s.t p.1=some p.2/\p.2.on (· <m)) (ho: ∀ p∈os,lk s.o p.1=some p.2/\p.1<m/\p.2.on (· <m)) (h:VC Φ P Q w0 F D0 bn β0 M k ⟨ts,os,m,s.sz⟩):VC Φ P Q w0 F D0 bn β0 M k s:=fun D β a w hβ hg=>
 h D β a w hβ ⟨hg.defers,hg.size,fun t x hx=>⟨(hg.Gc t x (ht _ (Hg hx)).1).1,(ht _ (Hg hx)).2⟩,fun t x hx=>hg.tmps t x (ht _ (Hg hx)).1,
  let g:=hg.gh.G8 (o':=os) fun i b hi=>(ho _ (Hg hi)).1
  ⟨fun i b hi=>(ho _ (Hg hi)).2,g.own,g.inj,g.fresh,g.off,g.lt,g.C0,g.JV,g.fr,g.sub⟩⟩
def VR (Φ:Fence) (P:Program) (Q:Exit->Act->World->Prop) (w0:World) (F D0:Nat->Prop) (bn:Nat) (β0:Nat->Nm) (c:Code) (m:Nat) (s:St S):Prop:=
 ∀ D β a w,(∀ i,i<bn->β i=β0 i)->G w0 F D0 D s (· <s.n) β a w->Code.roundsIn Φ 0 P c Q m a w
theorem VC.rounds {c:Code} (m:Nat) (h:VR Φ P (after Φ P M k Q) w0 F D0 bn β0 c m s):VC Φ P Q w0 F D0 bn β0 M (.code (.loop c)::k) s:=fun D β a w hβ hg=>wpIn_loop_rounds m (h D β a w hβ hg)
theorem VR.step {c:Code} {m:Nat} (h:VC Φ P (Exit.then (Code.roundsIn Φ 0 P c Q m) Q) w0 F D0 bn β0 M [.code c] s):VR Φ P Q w0 F D0 bn β0 c (m+1) s:=fun D β a w hβ hg=>by
 rw [roundsIn_succ]
 exact wpIn_mono (h D β a w hβ hg) fun _ _ _ h=>h
theorem VR.vc {c:Code} {m:Nat} (h:VR Φ P Q w0 F D0 bn β0 c m s):VC Φ P (Exit.then (Code.roundsIn Φ 0 P c Q m) Q) w0 F D0 bn β0 M [] s:=fun D β a w hβ hg=>h D β a w hβ hg
theorem Xe {c:Code} {ch:List PanicEntry} {a:Act} {w:World} {n:Nat}:HK Φ P c Q n (.panic ch) a w↔Q (.panic ch) a w:=by cases n<;>exact Iff.rfl
theorem Dn (hp: ∀ c a d v w,Q (.panic c) (a.put d v) w->Q (.panic c) a w) {c:List PanicEntry} {a:Act} {d:Option Tmp} {v:Value} {w:World}: ∀ {k:List It},after Φ P M k Q (.panic c) (a.put d v) w->after Φ P M k Q (.panic c) a w
 | [],h=>hp _ _ _ _ _ h
 | .AN _::k,h=>by simp only [after,Exit.inBlock] at h ⊢; exact Dn hp h
 | .code _::k,h=>by simp only [after] at h ⊢; exact Dn hp h
 | .ops _ _::k,h=>by simp only [after] at h ⊢; exact Dn hp h
 | .again _::k,h=>by simp only [after] at h ⊢; exact Dn hp h
 | .sc _::k,h=>by
  simp only [after,Xe] at h ⊢; exact Dn hp h
theorem VC.piece {E:Env S} (hE:E.Ok P) (hkp:BS S w0 F D0) (hp: ∀ c a d v w,Q (.panic c) (a.put d v) w->Q (.panic c) a w) {a:List Nat} {c:Code} (ha:HJ E.body a=some c) (n:Nat) (hbn:E.bn<=s.n) (hsz:s.sz=E.sz)
  (h:(exec E n ⟨false,E.dr⟩ (fun _ _ _=>.stuck 0) (fun b s=>match b with|false=>.ret s|true=>.stuck 0) false [.code a c] s:Tr (fun _=>Unit) (St S)).Holds (fun _ _=>False) (fun s'=>VC Fence.wide P Q w0 F D0 E.bn β0 M k s')):
  VC Fence.wide P Q w0 F D0 E.bn β0 M (.code c::k) s:=fun D β a1 w hβ hg=>by
 have h2:=AQ hE (Kc:=fun _ _=>False) (Kr:=fun s'=>VC Fence.wide P Q w0 F D0 E.bn β0 M k s') n (Q:=after Fence.wide P M k Q) (w0:=w0) (F:=F) (D0:=D0) (bn:=E.bn) (β0:=β0) (M:=0) (body:=E.body) (sz:=E.sz) (Φ:=Fence.wide)
  (fr:=⟨false,E.dr⟩) (oc:=fun _ _ _=>.stuck 0) (or':=fun b s=>match b with|false=>.ret s|true=>.stuck 0)
  ⟨hkp,fun _ _ _ _ _ h=>Dn hp h,hE.K7,fun _ _ _ _ _=>.inl rfl,fun _ _ _ _ _ _ h=>h.elim,fun _ s' _ _ h D β a w hβ hg=>h D β a w hβ hg,fun _ _ _ _ _ h=>h.elim⟩ false [.code a c] s hbn hsz (fun x hx=>by
   simp only [List.mem_cons,List.not_mem_nil,or_false] at hx
   subst hx
   exact ha) h
 exact wpIn_mono (h2 D β a1 w hβ hg) fun _ _ _ h=>h
theorem VC.eh {E:Env S} (hE:E.Ok P) (hkp:BS S w0 F D0) (hp: ∀ c a d v w,Q (.panic c) (a.put d v) w->Q (.panic c) a w) {all:Array Oper} {r:List Oper} (n:Nat) (hbn:E.bn<=s.n) (hsz:s.sz=E.sz)
  (h:(exec E n ⟨false,E.dr⟩ (fun _ _ _=>.stuck 0) (fun b s=>match b with|false=>.ret s|true=>.stuck 0) false [.ops all r] s:Tr (fun _=>Unit) (St S)).Holds (fun _ _=>False) (fun s'=>VC Fence.wide P Q w0 F D0 E.bn β0 M k s')):
  VC Fence.wide P Q w0 F D0 E.bn β0 M (.ops all r::k) s:=fun D β a1 w hβ hg=>by
 have h2:=AQ hE (Kc:=fun _ _=>False) (Kr:=fun s'=>VC Fence.wide P Q w0 F D0 E.bn β0 M k s') n (Q:=after Fence.wide P M k Q) (w0:=w0) (F:=F) (D0:=D0) (bn:=E.bn) (β0:=β0) (M:=0) (body:=E.body) (sz:=E.sz) (Φ:=Fence.wide)
  (fr:=⟨false,E.dr⟩) (oc:=fun _ _ _=>.stuck 0) (or':=fun b s=>match b with|false=>.ret s|true=>.stuck 0)
  ⟨hkp,fun _ _ _ _ _ h=>Dn hp h,hE.K7,fun _ _ _ _ _=>.inl rfl,fun _ _ _ _ _ _ h=>h.elim,fun _ s' _ _ h D β a w hβ hg=>h D β a w hβ hg,fun _ _ _ _ _ h=>h.elim⟩ false [.ops all r] s hbn hsz (fun x hx=>by
   simp only [List.mem_cons,List.not_mem_nil,or_false] at hx
   subst hx
   trivial) h
 exact Fw (fun _ _ _ h=>h) (h2 D β a1 w hβ hg)
def UN (t:Tr (fun _=>Unit) (St S)):List Bool->St S
 | []=>match t with
  | .ret s=>s
  | _=>⟨[],[],0,0⟩
 | b::r=>match t with
  | .ite _ x y=>match b with
   | true=>UN x r
   | false=>UN y r
  | .Qi _ x=>UN x r
  | _=>⟨[],[],0,0⟩
theorem VC.bA {tb:List (Nat×TI)} (htb:AU S P tb) {all:Array Oper} {o:Oper} {r:List Oper} (hw:Bd s all o=.yes) {op:BinOp} {T U:Nat} {x y:Operand} {p q v:SV} (ho:o.op=.binOp op T x y U) (hx:ev s x=some p) (hy:ev s y=some q)
  (he:VJ (S:=S) tb op T p q=.val none v) (hp:s.put o.dst v=some s') (hk:VC Φ P Q w0 F D0 bn β0 M (.ops all r::k) s'):VC Φ P Q w0 F D0 bn β0 M (.ops all (o::r)::k) s:=by
 refine VC.QF hw fun D β a w hβ0 hg=>?_
 have h:=MV (s:=s) (N:=(· <s.n)) (D:=D) (w0:=w0) (F:=F) (D0:=D0) htb ho (AB hg hx) (AB hg hy) (w:=w)
 rw [he] at h
 obtain ⟨hr,hn⟩:=h trivial
 refine An hr (hk D β _ w hβ0 ?_)
 rw [Ey hp]
 exact hg.put hn hp
theorem VC.R3 {tb:List (Nat×TI)} (htb:AU S P tb) {all:Array Oper} {l:List Oper} (hbn:bn<=s.n) {ts:List (Nat×SV)} {os:List (Nat×Own S)} {m:Nat} {cs:List (Option Bool)}
  (h:(R0 tb all l s).map (fun x=>(x.1,ts.map (fun p=>lk x.2.t p.1),os.map (fun p=>lk x.2.o p.1),x.2.sz))=some (cs,ts.map (fun p=>some p.2),os.map (fun p=>some p.2),s.sz))
  (hc: ∀ c∈cs,CB c) (ht: ∀ p∈ts,p.2.on (· <m)) (ho: ∀ p∈os,p.1<m/\p.2.on (· <m)) (hk:VC Φ P Q w0 F D0 bn β0 M k ⟨ts,os,m,s.sz⟩):VC Φ P Q w0 F D0 bn β0 M (.ops all l::k) s:=by
 obtain ⟨⟨cs',s2⟩,h1,h2⟩:=Option.map_eq_some_iff.1 h
 simp only [Prod.mk.injEq] at h2
 obtain ⟨rfl,h3,h4,h5⟩:=h2
 have:=VC.mS (r:=[]) htb hbn h1 hc (VC.Ul (VC.ba (s:=s2) (ts:=ts) (os:=os) (m:=m) (fun p hp=>⟨List.map_inj_left.1 h3 p hp,ht p hp⟩) (fun p hp=>⟨List.map_inj_left.1 h4 p hp,ho p hp⟩) (by rw [h5];exact hk)))
 rwa [List.append_nil] at this
end
end Go.En
set_option maxRecDepth 100000
namespace Go.Proofs.Tryz
open Go Go.En Go.RowKit
noncomputable abbrev ZG:Code:=AP prog 3
noncomputable def cV (a:List Nat):Array Oper:=Ib (As ZG a)
noncomputable abbrev V6:Array Oper:=cV [0,1,1,1,1]
noncomputable abbrev ZI:Array Oper:=cV [0,0,1,1,1,1,1]
noncomputable abbrev Ds:Array Oper:=cV [0,1,1,1,1,1,1]
noncomputable def mQ:Code:=As ZG [0,0,1,0,1,1,1,1,1]
noncomputable abbrev ZJ:Array Oper:=cV [0,0,0,1,0,1,1,1,1,1]
noncomputable abbrev Rr:Array Oper:=cV [0,1,0,0,1,1,0,0,1,0,1,1,1,1,1]
noncomputable abbrev Rt:Array Oper:=cV [0,1,1,0,0,1,1,0,0,1,0,1,1,1,1,1]
noncomputable abbrev jk:Code:=As ZG [0,0,0,1,1,0,0,1,0,1,1,1,1,1]
noncomputable abbrev ZH:Code:=As ZG [1,1,1,0,0,1,1,0,0,1,0,1,1,1,1,1]
noncomputable abbrev cU:Code:=As ZG [1,1,1,0,0,1,0,1,1,1,1,1]
theorem bQ:As ZG [1,1,1,1,1]=.seq (.seq (.region 7 ZI false) (.block 0 (.loop mQ))) (.seq (.region 15 Ds false) .ret):=by kernel_rfl
theorem j3:mQ=.seq (.region 8 ZJ false) (.seq (.cond (.tmp 42) .skip (.exit 0)) (.seq (.block 1 (.seq jk (.seq (.region 10 Rr false) (.seq (.region 11 Rt false) ZH)))) cU)):=by kernel_rfl
def V5 (l:Array Oper) (i:Nat):Oper:=l.toList.getD i default
end Go.Proofs.Tryz
namespace Go.Proofs.Tryz
open Go Go.En Go.RowKit
def OS (l:List Int):List SV:=(List.range 256).map fun j=>.v (.int .i64 (l.getD j 0))
def ZF (l:List Int):List SV:=l.map fun x=>.v (.int .i64 x)
def Ku (l:List Int):List Int:=(List.range 256).map fun j=>l.getD j 0
theorem LN {l:List Int} (h:l.length=256):Ku l=l:=by
 unfold Ku
 apply List.ext_getElem
 ·rw [List.length_map,List.length_range,h]
 ·intro i h1 h2
  simp only [List.getElem_map,List.getElem_range]
  rw [List.getD_eq_getElem?_getD,List.getElem?_eq_getElem h2];rfl
theorem jo {l:List Int} (h:l.length=256):OS l=ZF l:=by
 have e:OS l=ZF (Ku l):=by unfold OS ZF Ku;rw [List.map_map];rfl
 rw [e,LN h]
theorem ZP: ∀ (l:List Int) (e m:Nat) (v:Int),m<=e->J8 .i64 e v m l=ZF (l.set (e -m) v)
 | [],e,m,v,_=>rfl
 | x::l,e,m,v,h=>by
  have hk: ∀ (l:List Int) (m:Nat),e<m->J8 .i64 e v m l=ZF l:=fun l=>by
   induction l with
   | nil=>intro m _;rfl
   | cons y l ih=>
    intro m hm
    show .v (.int .i64 (if e=m then v else y))::J8 .i64 e v (m+1) l=_
    rw [if_neg (by omega),ih (m+1) (by omega)];rfl
  show .v (.int .i64 (if e=m then v else x))::J8 .i64 e v (m+1) l=_
  by_cases he:e=m
  ·rw [if_pos he,hk l (m+1) (by omega),he,Nat.sub_self];rfl
  ·rw [if_neg he,ZP l e (m+1) v (by omega),show e -m=(e -(m+1))+1 by omega];rfl
def mP:TI:=⟨256,2048,.agg (List.replicate 256 (Value.int .i64 0)).toArray,OS (List.replicate 256 0),.array 256 3 1,none,some (Ta 256 [.int .i64]),none⟩
noncomputable def Th:List (Nat×TI):=(29,mP)::tb
theorem cY:mP.zc=(List.replicate 256 (Value.int .i64 0)).map SV.v:=by kernel_rfl
theorem jx:TI.ok Dop.D4 prog 29 mP:=⟨by kernel_rfl,fun β=>by rw [cY,PD];rfl,fun N=>by rw [cY];exact Ya N _,by kernel_rfl,⟨underlying29,by kernel_rfl⟩,
 fun ks h=>(by cases h;exact ⟨Qp (d:=9999) (len:=256) (ks:=[.int .i64]) underlying29 (by kernel_rfl) (AT underlying3) (fun h=>by first|rfl|cases h) (AV underlying3),by kernel_rfl⟩),fun τ h=>(by cases h),fun τ h=>(by cases h)⟩
theorem Il:AU Dop.D4 prog Th:=⟨jx,AH⟩
def JT (l:List Int):List Int:=(List.range 256).map fun v:Nat=>((l.count ((v:Nat):Int):Nat):Int)
theorem JU (l:List Int):(JT l).length=256:=by unfold JT;rw [List.length_map,List.length_range]
theorem PC (l:List Int) {c:Int} (h:0<=c/\c<=255):(JT l).getD c.toNat 0=l.count c:=by
 unfold JT
 rw [List.getD_eq_getElem?_getD,List.getElem?_map,List.getElem?_range (by omega)]
 show ((l.count ((c.toNat:Nat):Int):Nat):Int)=_
 rw [show ((c.toNat:Nat):Int)=c by omega]
theorem Qj (l:List Int) {c:Int} (h:0<=c/\c<=255):(JT l).set c.toNat ((JT l).getD c.toNat 0+1)=JT (l++[c]):=by
 rw [PC l h]
 apply List.ext_getElem
 ·rw [List.length_set,JU,JU]
 ·intro i h1 h2
  rw [List.length_set,JU] at h1
  rw [List.getElem_set]
  unfold JT
  simp only [List.getElem_map,List.getElem_range,List.count_append,List.count_singleton]
  by_cases e:c.toNat=i
  ·rw [if_pos e]
   have:((i:Nat):Int)=c:=by omega
   rw [this,if_pos (by simp)];omega
  ·rw [if_neg e,if_neg (by simp;omega)];omega
theorem Zq:JT []=List.replicate 256 0:=by decide+kernel
end Go.Proofs.Tryz
namespace Go.Proofs.Tryz
open Go Go.En Go.RowKit
abbrev m8.q6:Cut:=⟨[[0,0,1,1,1,1],[0,1,1,1,1,1]],[0,3],1,⟨[.fd (.sl 3),.al 0 0],[⟨0,25,[.st 19],false⟩]⟩⟩
abbrev m8.jc:Cut:=⟨[[0,1,1,1,1,1,1,1]],[2],0,⟨[.fd .bool],[]⟩⟩
def m8.p:Ai:=⟨[(6,m8.q6),(99,m8.jc)],0,⟨[.fd (.sl 3)],[]⟩,⟨[.fd .bool],[]⟩,true,[(12,⟨[(0,true),(1,true),(2,true),(3,true),(4,false),(5,true),(6,true),(7,false),(8,false),(9,true),(10,false),(11,true),(12,false),(13,false),(14,true),(15,true)],[],[0,1,3,7,15,7,39,127,255,7,519,7,3591,7687,16383,32767],false⟩)],[]⟩
theorem m8.ok:AG Dop.D4 prog 3 m8.p=true:=by kernel_rfl
noncomputable def m8.KE:Env Dop.D4:=Aj prog 3 tb [SY.c,RQ.Kc] m8.p
theorem jn:(m8.KE).Ok prog:=(FP AH (Ao SY.holds (Ao RQ.Kh Br)) m8.ok).1
theorem U7:m8.KE.sz=84:=by kernel_rfl
theorem jt:Cb ZG m8.q6.key=some [.code [0,1,1,1,1] (.region 6 V6 false),.code [1,1,1,1,1] (As ZG [1,1,1,1,1])]:=by kernel_rfl
theorem fT:Cb ZG m8.jc.key=some [.code [1,1,1,1,1,1,1] .ret]:=by kernel_rfl
abbrev jm (cs:List Int) (r:Dop.SO):m8.q6.sp.D Dop.D4:=((cs,(),()),((r,()),()))
noncomputable def iA (cs:List Int) (r:Dop.SO):St Dop.D4:=match m8.q6.sp.enc (jm cs r) 1 with
 | (vs,o,n)=>⟨m8.q6.ts.zip vs,o,n,84⟩
end Go.Proofs.Tryz
namespace Go.Proofs.Tryz
open Go Go.En Go.RowKit
abbrev Ev (cs:List Int) (e c:Int) (out X Y:List Int):List (Nat×En.Own Dop.D4):=[(4,.AN 29 (OS Y)),(3,.AN 29 (OS X)),(0,.AN 25 [.v (.int .i64 e),.v (.int .i64 c),.h 2]),(2,.sl 3 out),(1,.sl 3 cs)]
abbrev Fg (cs:List Int) (i:Int):List (Nat×SV):=[(0,.h 1),(3,.ptr 0 0),(5,.ptr 3 0),(6,.ptr 4 0),(40,.v (.int .i64 (I cs.length))),(41,.v (.int .i64 i))]
abbrev fp (cs:List Int) (e c:Int) (out:List Int) (i:Int) (X Y:List Int):St Dop.D4:=⟨Fg cs i,Ev cs e c out X Y,5,84⟩
abbrev IA (cs:List Int) (e c:Int) (out:List Int) (i:Int) (X Y:List Int):St Dop.D4:=⟨Fg cs i++[(7,.v (.int .i64 i))],Ev cs e c out X Y,5,84⟩
noncomputable abbrev ZK:Array Oper:=cV [0,0,0,1,1,0,0,1,0,1,1,1,1,1]
noncomputable abbrev Ru:Array Oper:=cV [1,1,1,0,0,1,0,1,1,1,1,1]
noncomputable def KA (l:Array Oper) (k:Nat):List Oper:=(List.range k).map (V5 l)
theorem ZM (N:Nat->Prop) (X:List Int):BR N (OS X):=Ay.2 fun x hx=>by
 obtain ⟨j,_,rfl⟩:=List.mem_map.1 hx
 trivial
theorem H5 (cs:List Int) (e c:Int) (out X Y:List Int) (m:Nat) (hm:5<=m): ∀ p∈Ev cs e c out X Y,p.1<m/\p.2.on (· <m):=fun p hp=>by
 simp only [Ev,List.mem_cons,List.not_mem_nil,or_false] at hp
 rcases hp with rfl|rfl|rfl|rfl|rfl
 ·exact ⟨by show 4<m;omega,ZM _ _⟩
 ·exact ⟨by show 3<m;omega,ZM _ _⟩
 ·exact ⟨by show 0<m;omega,trivial,trivial,(by show 2<m;omega),trivial⟩
 ·exact ⟨by show 2<m;omega,trivial⟩
 ·exact ⟨by show 1<m;omega,trivial⟩
theorem Kv (cs:List Int) (i:Int): ∀ p∈Fg cs i++[(7,.v (.int .i64 i))],p.2.on (· <5):=fun p hp=>by
 simp only [Fg,List.mem_append,List.mem_cons,List.not_mem_nil,or_false] at hp
 rcases hp with (rfl|rfl|rfl|rfl|rfl|rfl)|rfl<;>simp only [SV.on]<;>omega
theorem KB (cs:List Int) (i:Int): ∀ p∈Fg cs i,p.2.on (· <5):=fun p hp=>Kv cs i p (List.mem_append_left _ hp)
def bG (X:List Int) (e:Nat) (v:Int):List SV:=J8 .i64 e v 0 (Ku X)
theorem U6 {X:List Int} (h:X.length=256) (e:Nat) (v:Int):bG X e v=OS (X.set e v):=by
 unfold bG
 rw [LN h,ZP X e 0 v (Nat.zero_le _),Nat.sub_zero,jo (by rw [List.length_set];exact h)]
section
variable {Φ:Fence} {Q:Exit->Act->World->Prop} {w0:World} {F D0:Nat->Prop} {β0:Nat->Nm} {M:Nat} {k:List It} {cs out X Y:List Int} {e c i:Int}
theorem fi (hX:X.length=256) (hi:0<=i/\i<I cs.length) {x:Int} (hx:cs.getD i.toNat 0=x) (hb:0<=x/\x<=255) (hy:BD (X.getD x.toNat 0+1)=true)
  (h:VC Φ prog Q w0 F D0 0 β0 M k (IA cs e c out i (X.set x.toNat (X.getD x.toNat 0+1)) Y)):VC Φ prog Q w0 F D0 0 β0 M (.ops Rr (KA Rr 9)::k) (IA cs e c out i X Y):=by
 subst hx
 refine VC.R3 Il (Nat.zero_le _) (ts:=Fg cs i++[(7,.v (.int .i64 i))])
  (os:=[(4,.AN 29 (OS Y)),(3,.AN 29 (bG X (cs.getD i.toNat 0).toNat ((Ku X).getD (cs.getD i.toNat 0).toNat 0+1))),(0,.AN 25 [.v (.int .i64 e),.v (.int .i64 c),.h 2]),(2,.sl 3 out),(1,.sl 3 cs)]) (m:=5)
  (cs:=[none,none,some (decide (0<=i/\i<I cs.length)),none,some (decide (0<=cs.getD i.toNat 0/\cs.getD i.toNat 0<256)),some (decide ((cs.getD i.toNat 0).toNat<(Ku X).length)),some (BD ((Ku X).getD (cs.getD i.toNat 0).toNat 0+1)),some (decide (0<=cs.getD i.toNat 0/\cs.getD i.toNat 0<256)),some (decide ((cs.getD i.toNat 0).toNat<(Ku X).length))])
  (by kernel_rfl) (fun q hq=>?_) (Kv cs i) ?_ ?_
 ·rw [LN hX] at hq
  simp only [List.mem_cons,List.not_mem_nil,or_false] at hq
  rcases hq with rfl|rfl|rfl|rfl|rfl|rfl|rfl|rfl|rfl
  ·trivial
  ·trivial
  ·exact decide_eq_true hi
  ·trivial
  ·exact decide_eq_true (by omega)
  ·exact decide_eq_true (by omega)
  ·exact hy
  ·exact decide_eq_true (by omega)
  ·exact decide_eq_true (by omega)
 ·rw [LN hX,U6 hX];exact H5 _ _ _ _ _ _ _ (Nat.le_refl _)
 ·rw [LN hX,U6 hX];exact h
theorem fj (hY:Y.length=256) (hi:0<=i/\i<I out.length) {x:Int} (hx:out.getD i.toNat 0=x) (hb:0<=x/\x<=255) (hy:BD (Y.getD x.toNat 0+1)=true)
  (h:VC Φ prog Q w0 F D0 0 β0 M k (IA cs e c out i X (Y.set x.toNat (Y.getD x.toNat 0+1)))):VC Φ prog Q w0 F D0 0 β0 M (.ops Rt (KA Rt 10)::k) (IA cs e c out i X Y):=by
 subst hx
 refine VC.R3 Il (Nat.zero_le _) (ts:=Fg cs i++[(7,.v (.int .i64 i))])
  (os:=[(4,.AN 29 (bG Y (out.getD i.toNat 0).toNat ((Ku Y).getD (out.getD i.toNat 0).toNat 0+1))),(3,.AN 29 (OS X)),(0,.AN 25 [.v (.int .i64 e),.v (.int .i64 c),.h 2]),(2,.sl 3 out),(1,.sl 3 cs)]) (m:=5)
  (cs:=[none,none,none,some (decide (0<=i/\i<I out.length)),none,some (decide (0<=out.getD i.toNat 0/\out.getD i.toNat 0<256)),some (decide ((out.getD i.toNat 0).toNat<(Ku Y).length)),some (BD ((Ku Y).getD (out.getD i.toNat 0).toNat 0+1)),some (decide (0<=out.getD i.toNat 0/\out.getD i.toNat 0<256)),some (decide ((out.getD i.toNat 0).toNat<(Ku Y).length))])
  (by kernel_rfl) (fun q hq=>?_) (Kv cs i) ?_ ?_
 ·rw [LN hY] at hq
  simp only [List.mem_cons,List.not_mem_nil,or_false] at hq
  rcases hq with rfl|rfl|rfl|rfl|rfl|rfl|rfl|rfl|rfl|rfl
  ·trivial
  ·trivial
  ·trivial
  ·exact decide_eq_true hi
  ·trivial
  ·exact decide_eq_true (by omega)
  ·exact decide_eq_true (by omega)
  ·exact hy
  ·exact decide_eq_true (by omega)
  ·exact decide_eq_true (by omega)
 ·rw [LN hY,U6 hY];exact H5 _ _ _ _ _ _ _ (Nat.le_refl _)
 ·rw [LN hY,U6 hY];exact h
theorem fm (hi:BD (i+1)=true) (h:VC Φ prog Q w0 F D0 0 β0 M k (fp cs e c out (i+1) X Y)):VC Φ prog Q w0 F D0 0 β0 M (.ops Ru (KA Ru 2)::k) (IA cs e c out i X Y):=by
 refine VC.R3 Il (Nat.zero_le _) (ts:=Fg cs (i+1)) (os:=Ev cs e c out X Y) (m:=5) (cs:=[some (BD (i+1)),none]) (by kernel_rfl) (fun q hq=>?_) (KB cs _) (H5 _ _ _ _ _ _ _ (Nat.le_refl _)) h
 simp only [List.mem_cons,List.not_mem_nil,or_false] at hq
 rcases hq with rfl|rfl
 ·exact hi
 ·trivial
theorem jy (b:SV) (h:VC Φ prog Q w0 F D0 0 β0 M k (IA cs e c out i X Y)):VC Φ prog Q w0 F D0 0 β0 M (.ops ZK (KA ZK 2)::k) ⟨Fg cs i++[(42,b)],Ev cs e c out X Y,5,84⟩:=by
 refine VC.R3 Il (Nat.zero_le _) (ts:=Fg cs i++[(7,.v (.int .i64 i))]) (os:=Ev cs e c out X Y) (m:=5) (cs:=[none,none]) (by kernel_rfl) (fun q hq=>?_) (Kv cs _) (H5 _ _ _ _ _ _ _ (Nat.le_refl _)) h
 simp only [List.mem_cons,List.not_mem_nil,or_false] at hq
 rcases hq with rfl|rfl<;>trivial
end
end Go.Proofs.Tryz
namespace Go.Proofs.Tryz
open Go Go.En Go.RowKit
theorem jv:ZK.toList=KA ZK 2:=by kernel_rfl
theorem bO:Rr.toList=KA Rr 9:=by kernel_rfl
theorem fU:Rt.toList=KA Rt 10:=by kernel_rfl
theorem fV:Ru.toList=KA Ru 2:=by kernel_rfl
theorem cX:ZJ.toList=KA ZJ 1:=by kernel_rfl
theorem ju:ZI.toList=KA ZI 3:=by kernel_rfl
theorem fX:V6.toList=KA V6 2:=by kernel_rfl
theorem fW:Ds.toList=V5 Ds 0::V5 Ds 1::V5 Ds 2::(List.range 4).map fun j=>V5 Ds (j+3):=by kernel_rfl
theorem jq:jk=.region 9 ZK false:=by kernel_rfl
theorem fP:cU=.region 14 Ru false:=by kernel_rfl
noncomputable abbrev J9 (s:St Dop.D4):Tr (fun _=>Unit) (St Dop.D4):=exec m8.KE 3000 ⟨false,m8.KE.dr⟩ (fun _ _ _=>.stuck 0) (fun b s=>match b with|false=>.ret s|true=>.stuck 0) false [.code [1,1,1,0,0,1,1,0,0,1,0,1,1,1,1,1] ZH] s
noncomputable abbrev U3 (s:St Dop.D4):Tr (fun _=>Unit) (St Dop.D4):=exec m8.KE 3000 ⟨false,m8.KE.dr⟩ (fun _ _ _=>.stuck 0) (fun b s=>match b with|false=>.ret s|true=>.stuck 0) false [.ops Ds ((List.range 4).map fun j=>V5 Ds (j+3))] s
def bH (cs:List Int) (i:Int):List (Nat×SV):=Fg cs i++[(7,.v (.int .i64 i))]
section
variable {cs out X Y:List Int} {e c i:Int}
theorem fQ:J9 (IA cs e c out i X Y)=.ite (decide (0<i)) (.Qi (BD (i -1)) (.Qi (decide (0<=i -1/\i -1<I out.length)) (.Qi (decide (0<=i/\i<I out.length)) (.ite (decide (out.getD i.toNat 0<out.getD (i -1).toNat 0)) (.stuck 0)
  (.ret (UN (J9 (IA cs e c out i X Y)) [true,true,true,true,false])))))) (.ret (UN (J9 (IA cs e c out i X Y)) [false])):=by kernel_rfl
theorem bJ:((bH cs i).map (fun p=>lk (UN (J9 (IA cs e c out i X Y)) [true,true,true,true,false]).t p.1),(Ev cs e c out X Y).map (fun p=>lk (UN (J9 (IA cs e c out i X Y)) [true,true,true,true,false]).o p.1),(UN (J9 (IA cs e c out i X Y)) [true,true,true,true,false]).sz)=
  ((bH cs i).map (fun p=>some p.2),(Ev cs e c out X Y).map (fun p=>some p.2),84):=by kernel_rfl
theorem bK:((bH cs i).map (fun p=>lk (UN (J9 (IA cs e c out i X Y)) [false]).t p.1),(Ev cs e c out X Y).map (fun p=>lk (UN (J9 (IA cs e c out i X Y)) [false]).o p.1),(UN (J9 (IA cs e c out i X Y)) [false]).sz)=
  ((bH cs i).map (fun p=>some p.2),(Ev cs e c out X Y).map (fun p=>some p.2),84):=by kernel_rfl
variable {Φ:Fence} {Q:Exit->Act->World->Prop} {w0:World} {F D0:Nat->Prop} {β0:Nat->Nm} {M:Nat} {k:List It}
theorem U5 {s:St Dop.D4} {ts:List (Nat×SV)} {os:List (Nat×En.Own Dop.D4)} (h:(ts.map (fun p=>lk s.t p.1),os.map (fun p=>lk s.o p.1),s.sz)=(ts.map (fun p=>some p.2),os.map (fun p=>some p.2),84)) (ht: ∀ p∈ts,p.2.on (· <5)) (ho: ∀ p∈os,p.1<5/\p.2.on (· <5))
  (hk:VC Φ prog Q w0 F D0 0 β0 M k ⟨ts,os,5,84⟩):VC Φ prog Q w0 F D0 0 β0 M k s:=by
 simp only [Prod.mk.injEq] at h
 obtain ⟨h1,h2,h3⟩:=h
 exact VC.ba (fun p hp=>⟨List.map_inj_left.1 h1 p hp,ht p hp⟩) (fun p hp=>⟨List.map_inj_left.1 h2 p hp,ho p hp⟩) (by rw [h3];exact hk)
theorem fk (hkp:BS Dop.D4 w0 F D0) (hp: ∀ c a d v w,Q (.panic c) (a.put d v) w->Q (.panic c) a w) (hi:0<=i/\i<I out.length) (hl:out.length<1000) (hs:0<i->out.getD (i -1).toNat 0<=out.getD i.toNat 0)
  (h:VC Fence.wide prog Q w0 F D0 0 β0 M k (IA cs e c out i X Y)):VC Fence.wide prog Q w0 F D0 0 β0 M (.code ZH::k) (IA cs e c out i X Y):=by
 refine VC.piece (E:=m8.KE) jn hkp hp (a:=[1,1,1,0,0,1,1,0,0,1,0,1,1,1,1,1]) (by kernel_rfl) 3000 (Nat.zero_le _) U7.symm ?_
 have key: ∀ {t:Tr (fun _=>Unit) (St Dop.D4)} {A B:St Dop.D4} {K:St Dop.D4->Prop},t=.ite (decide (0<i)) (.Qi (BD (i -1)) (.Qi (decide (0<=i -1/\i -1<I out.length)) (.Qi (decide (0<=i/\i<I out.length)) (.ite (decide (out.getD i.toNat 0<out.getD (i -1).toNat 0)) (.stuck 0) (.ret A))))) (.ret B)->K A->K B->t.Holds (fun _ _=>False) K:=by
  intro t A B K e hA hB
  rw [e]
  refine ⟨fun h0=>⟨?_,?_,?_,fun h1=>?_,fun _=>hA⟩,fun _=>hB⟩
  ·exact Ch.2 (by simp only [I] at hi;omega)
  ·have:=of_decide_eq_true h0;exact decide_eq_true (by omega)
  ·exact decide_eq_true hi
  ·have:=of_decide_eq_true h1;have:=hs (of_decide_eq_true h0);omega
 exact key fQ (U5 bJ (Kv cs i) (H5 _ _ _ _ _ _ _ (Nat.le_refl _)) h) (U5 bK (Kv cs i) (H5 _ _ _ _ _ _ _ (Nat.le_refl _)) h)
end
end Go.Proofs.Tryz
namespace Go.Proofs.Tryz
open Go Go.En Go.RowKit
theorem ZL (l:List Int): ∀ js:List Nat,OG (js.map fun j=>.v (.int .i64 (l.getD j 0))) (js.map fun j=>.v (.int .i64 (l.getD j 0)))=true
 | []=>rfl
 | j::js=>by
  show (lO (.v (.int .i64 (l.getD j 0))) (.v (.int .i64 (l.getD j 0))) && OG _ _)=true
  rw [ZL l js,Bool.and_true]
  exact decide_eq_true rfl
abbrev KD (cs:List Int) (e c:Int) (out:List Int) (i:Int) (X:List Int) (l:List (Nat×SV)):St Dop.D4:=⟨Fg cs i++([(78,.agg (OS X)),(79,.agg (OS X))]++l),Ev cs e c out X X,5,84⟩
section
variable {cs out X:List Int} {e c i:Int}
theorem fa:R0 Th Ds [V5 Ds 0,V5 Ds 1] (fp cs e c out i X X)=some ([none,none],KD cs e c out i X []):=by kernel_rfl
theorem fO:VJ (S:=Dop.D4) Th .eql 29 (.agg (OS X)) (.agg (OS X))=.val none (.b true):=by
 have h:VJ (S:=Dop.D4) Th .eql 29 (.agg (OS X)) (.agg (OS X))=.val none (.b (OG (OS X) (OS X))):=by kernel_rfl
 rw [h]
 unfold OS
 rw [ZL]
theorem fR:U3 (KD cs e c out i X [(80,.v (.bool true))])=.ret (UN (U3 (KD cs e c out i X [(80,.v (.bool true))])) []):=by kernel_rfl
theorem bL:lk (UN (U3 (KD cs e c out i X [(80,.v (.bool true))])) []).t 2=some (.b true):=by kernel_rfl
theorem bM:(UN (U3 (KD cs e c out i X [(80,.v (.bool true))])) []).sz=84:=by kernel_rfl
theorem jz:Bd (KD cs e c out i X []) Ds (V5 Ds 2)=.yes/\ev (KD cs e c out i X []) (.tmp 78)=some (.agg (OS X))/\ev (KD cs e c out i X []) (.tmp 79)=some (.agg (OS X))/\(KD cs e c out i X []).put (V5 Ds 2).dst (.b true)=some (KD cs e c out i X [(80,.b true)]):=⟨by kernel_rfl,by kernel_rfl,by kernel_rfl,by kernel_rfl⟩
theorem fY:(V5 Ds 2).op=.binOp .eql 29 (.tmp 78) (.tmp 79) 29:=by kernel_rfl
theorem jw:lk (KD cs e c out i X [(80,.b true)]).t 80=some (.b true)/\({ (KD cs e c out i X [(80,.b true)]) with t:=pt (KD cs e c out i X [(80,.b true)]).t 80 (.v (.bool true)) }:St Dop.D4)=KD cs e c out i X [(80,.v (.bool true))]:=⟨by kernel_rfl,by kernel_rfl⟩
variable {Q:Exit->Act->World->Prop} {w0:World} {F D0:Nat->Prop} {β0:Nat->Nm} {M:Nat} {k:List It}
theorem fo (hkp:BS Dop.D4 w0 F D0) (hp: ∀ c a d v w,Q (.panic c) (a.put d v) w->Q (.panic c) a w) (h:VC (S:=Dop.D4) Fence.wide prog Q w0 F D0 0 β0 M k ⟨[(2,.b true)],[],0,84⟩):
  VC Fence.wide prog Q w0 F D0 0 β0 M (.ops Ds Ds.toList::k) (fp cs e c out i X X):=by
 obtain ⟨w1,w2,w3,w4⟩:=jz (cs:=cs) (out:=out) (X:=X) (e:=e) (c:=c) (i:=i)
 rw [fW]
 refine VC.mS (l:=[V5 Ds 0,V5 Ds 1]) Il (Nat.zero_le _) fa (fun q hq=>?_) ?_
 ·simp only [List.mem_cons,List.not_mem_nil,or_false] at hq
  rcases hq with rfl|rfl<;>trivial
 refine VC.bA Il w1 fY w2 w3 fO w4 ?_
 obtain ⟨t1,t2⟩:=jw (cs:=cs) (out:=out) (X:=X) (e:=e) (c:=c) (i:=i)
 refine VC.VB t1 (fun _=>?_) (fun h=>by cases h)
 rw [t2]
 refine VC.eh (E:=m8.KE) jn hkp hp 3000 (Nat.zero_le _) U7.symm ?_
 have key: ∀ {t:Tr (fun _=>Unit) (St Dop.D4)} {A:St Dop.D4} {K:St Dop.D4->Prop},t=.ret A->K A->t.Holds (fun _ _=>False) K:=by
  intro t A K e hA
  rw [e];exact hA
 refine key fR ?_
 refine VC.ba (ts:=[(2,.b true)]) (os:=[]) (m:=0) (fun p hp=>?_) (fun p hp=>absurd hp List.not_mem_nil) (by rw [bM];exact h)
 rw [List.mem_singleton] at hp
 subst hp
 exact ⟨bL,trivial⟩
noncomputable abbrev iB:List It:=[.code (.seq (.region 15 Ds false) .ret)]
theorem bI (hkp:BS Dop.D4 w0 F D0) (hp: ∀ c a d v w,Q (.panic c) (a.put d v) w->Q (.panic c) a w) (h:VC (S:=Dop.D4) Fence.wide prog Q w0 F D0 0 β0 M [.code .ret] ⟨[(2,.b true)],[],0,84⟩):
  VC Fence.wide prog Q w0 F D0 0 β0 M iB (fp cs e c out i X X):=VC.seq (VC.region (.inl rfl) (fo hkp hp h))
theorem ZQ {Y:List Int}:(R0 Th ZJ (KA ZJ 1) (fp cs e c out i X Y)).map (fun x=>(x.1,(Fg cs i++[(42,SV.b (decide (i<I cs.length)))]:List (Nat×SV)).map (fun p=>lk x.2.t p.1),(Ev cs e c out X Y).map (fun p=>lk x.2.o p.1),x.2.sz))=
  some ([none],(Fg cs i++[(42,SV.b (decide (i<I cs.length)))]:List (Nat×SV)).map (fun p=>some p.2),(Ev cs e c out X Y).map (fun p=>some p.2),84):=by kernel_rfl
theorem U4 {Y:List Int} {d:Bool}:ev (S:=Dop.D4) ⟨Fg cs i++[(42,.b d)],Ev cs e c out X Y,5,84⟩ (.tmp 42)=some (.b d):=by kernel_rfl
theorem V7 (hkp:BS Dop.D4 w0 F D0) (hp: ∀ c a d v w,Q (.panic c) (a.put d v) w->Q (.panic c) a w) (hl:out.length=cs.length) (h30:cs.length<=30) (hb: ∀ j,j<cs.length->0<=cs.getD j 0/\cs.getD j 0<=255) (hb2: ∀ j,j<cs.length->0<=out.getD j 0/\out.getD j 0<=255)
  (hs: ∀ j,j+1<cs.length->out.getD j 0<=out.getD (j+1) 0) (hd:VC Fence.wide prog Q w0 F D0 0 β0 M iB (fp cs e c out (I cs.length) (JT cs) (JT out))):
  ∀ m j,j+m=cs.length->VR Fence.wide prog (after Fence.wide prog M (.AN 0::iB) Q) w0 F D0 0 β0 mQ (m+1) (fp cs e c out (I j) (JT (cs.take j)) (JT (out.take j))):=by
 have tk: ∀ (l:List Int) j,j<l.length->l.take (j+1)=l.take j++[l.getD j 0]:=fun l j h=>by
  rw [List.take_add_one,List.getElem?_eq_getElem h,List.getD_eq_getElem?_getD,List.getElem?_eq_getElem h];rfl
 have ct: ∀ (l:List Int) (x:Int),(l.count x:Int)<=l.length:=fun l x=>by have:=List.count_le_length (a:=x) (l:=l);omega
 intro m
 induction m with
 | zero=>
  intro j hj
  refine VR.step (M:=0) ?_
  rw [j3]
  refine VC.seq (VC.region (.inl rfl) ?_)
  rw [cX]
  refine VC.R3 Il (Nat.zero_le _) (ts:=Fg cs (I j)++[(42,.b (decide (I j<I cs.length)))]) (os:=Ev cs e c out (JT (cs.take j)) (JT (out.take j))) (m:=5) (cs:=[none]) ZQ (fun q hq=>by rw [List.mem_singleton] at hq;subst hq;trivial) ?_ (H5 _ _ _ _ _ _ _ (Nat.le_refl _)) ?_
  ·intro p hp
   rcases List.mem_append.1 hp with hp|hp
   ·exact KB _ _ p hp
   ·rw [List.mem_singleton] at hp;subst hp;trivial
  refine VC.seq (VC.cond (c:=.tmp 42) U4 (fun _=>rfl) (fun h=>?_) fun h=>?_)
  ·have:=of_decide_eq_true h;simp only [I] at this;omega
  intro D β a w hβ hg
  refine wpIn_exit ?_
  show after Fence.wide prog M (.AN 0::iB) Q (.exit 0) a w
  have hj:j=cs.length:=by omega
  subst hj
  rw [List.take_length,show out.take cs.length=out by rw [<-hl];exact List.take_length] at hg
  refine Dd (k':=iB) rfl ?_
  have:=VC.ba (s:=⟨Fg cs (I cs.length)++[(42,.b (decide (I cs.length<I cs.length)))],Ev cs e c out (JT cs) (JT out),5,84⟩) (ts:=Fg cs (I cs.length)) (os:=Ev cs e c out (JT cs) (JT out)) (m:=5) (fun p hp=>⟨?_,KB _ _ p hp⟩) (fun p hp=>⟨?_,H5 _ _ _ _ _ _ _ (Nat.le_refl _) p hp⟩) hd
  ·exact this D β a w hβ hg
  ·simp only [Fg,List.mem_cons,List.not_mem_nil,or_false] at hp
   rcases hp with rfl|rfl|rfl|rfl|rfl|rfl<;>rfl
  ·simp only [Ev,List.mem_cons,List.not_mem_nil,or_false] at hp
   rcases hp with rfl|rfl|rfl|rfl|rfl<;>rfl
 | succ m ih=>
  intro j hj
  have hi:(0:Int)<=I j/\I j<I cs.length:=by simp only [I];omega
  have hi2:(0:Int)<=I j/\I j<I out.length:=by simp only [I];omega
  have b1:=hb j (by omega)
  have b2:=hb2 j (by omega)
  have s1:=Qj (cs.take j) b1
  have s2:=Qj (out.take j) b2
  have n1:=PC (cs.take j) b1
  have n2:=PC (out.take j) b2
  have c1:=ct (cs.take j) (cs.getD j 0)
  have c2:=ct (out.take j) (out.getD j 0)
  rw [List.length_take] at c1 c2
  refine VR.step (M:=0) ?_
  rw [j3]
  refine VC.seq (VC.region (.inl rfl) ?_)
  rw [cX]
  refine VC.R3 Il (Nat.zero_le _) (ts:=Fg cs (I j)++[(42,.b (decide (I j<I cs.length)))]) (os:=Ev cs e c out (JT (cs.take j)) (JT (out.take j))) (m:=5) (cs:=[none]) ZQ (fun q hq=>by rw [List.mem_singleton] at hq;subst hq;trivial) ?_ (H5 _ _ _ _ _ _ _ (Nat.le_refl _)) ?_
  ·intro p hp
   rcases List.mem_append.1 hp with hp|hp
   ·exact KB _ _ p hp
   ·rw [List.mem_singleton] at hp;subst hp;trivial
  refine VC.seq (VC.cond (c:=.tmp 42) U4 (fun _=>rfl) (fun _=>?_) fun h=>?_)
  ·refine VC.skip (VC.seq (VC.block (VC.seq ?_)))
   rw [jq]
   refine VC.region (.inl rfl) ?_
   rw [jv]
   refine jy _ (VC.seq (VC.region (.inl rfl) ?_))
   rw [bO]
   refine fi (JU _) hi (x:=cs.getD j 0) rfl b1 (Ch.2 (by rw [n1];omega)) ?_
   rw [s1,<- tk cs j (by omega)]
   refine VC.seq (VC.region (.inl rfl) ?_)
   rw [fU]
   refine fj (JU _) hi2 (x:=out.getD j 0) rfl b2 (Ch.2 (by rw [n2];omega)) ?_
   rw [s2,<- tk out j (by omega)]
   refine fk hkp (fun c a d v w h=>Dn (k:=.AN 0::iB) hp h) hi2 (by omega) (fun h0=>?_) (VC.AN ?_)
   ·have:=hs (j -1) (by simp only [I] at h0;omega)
    rw [show j -1+1=j by simp only [I] at h0;omega] at this
    rwa [show ((I j:Int) -1).toNat=j -1 by simp only [I];omega]
   rw [fP]
   refine VC.region (.inl rfl) ?_
   rw [fV]
   refine fm (Ch.2 (by simp only [I];omega)) ?_
   rw [show (I j:Int)+1=I (j+1) by simp only [I];omega]
   exact (ih (j+1) (by omega)).vc
  ·have:=of_decide_eq_false h;omega
end
end Go.Proofs.Tryz
set_option maxHeartbeats 1000000
namespace Go.Proofs.Tryz
open Go Go.En Go.RowKit
def cu (cs:List Int) (r:Dop.SO):Prop:=r.output.length=cs.length/\cs.length<=30/\(∀ j,j<cs.length->0<=cs.getD j 0/\cs.getD j 0<=255)/\(∀ j,j<cs.length->0<=r.output.getD j 0/\r.output.getD j 0<=255)/\(∀ j,j+1<cs.length->r.output.getD j 0<=r.output.getD (j+1) 0)/\JT r.output=JT cs
open Classical in
noncomputable def jl (x:m8.q6.sp.D Dop.D4):Option (m8.jc.sp.D Dop.D4):=if cu x.1.1 x.2.1.1 then some ((true,()),()) else none
noncomputable def bE:Jump m8.KE:=⟨6,99,m8.q6,m8.jc,by kernel_rfl,by kernel_rfl,jl⟩
theorem ff (cs out:List Int) (e c:Int):(R0 Th V6 (KA V6 2) (iA cs (.mk e c out))).map (fun x=>(x.1,([(0,.h 1),(3,.ptr 0 0),(5,.ptr 3 0),(6,.ptr 4 0)]:List (Nat×SV)).map (fun p=>lk x.2.t p.1),(Ev cs e c out (List.replicate 256 0) (List.replicate 256 0)).map (fun p=>lk x.2.o p.1),x.2.sz))=
  some ([none,none],([(0,.h 1),(3,.ptr 0 0),(5,.ptr 3 0),(6,.ptr 4 0)]:List (Nat×SV)).map (fun p=>some p.2),(Ev cs e c out (List.replicate 256 0) (List.replicate 256 0)).map (fun p=>some p.2),(iA cs (.mk e c out)).sz):=by kernel_rfl
theorem fg (cs out X Y:List Int) (e c:Int):(R0 Th ZI (KA ZI 3) ⟨[(0,.h 1),(3,.ptr 0 0),(5,.ptr 3 0),(6,.ptr 4 0)],Ev cs e c out X Y,5,84⟩).map (fun x=>(x.1,(Fg cs 0).map (fun p=>lk x.2.t p.1),(Ev cs e c out X Y).map (fun p=>lk x.2.o p.1),x.2.sz))=
  some ([none,none,none],(Fg cs 0).map (fun p=>some p.2),(Ev cs e c out X Y).map (fun p=>some p.2),84):=by kernel_rfl
theorem fh (cs out:List Int) (e c:Int):(iA cs (.mk e c out)).sz=84/\0<=(iA cs (.mk e c out)).n:=⟨by kernel_rfl,Nat.zero_le _⟩
theorem fM:bE.Ok prog:=by
 intro Q w0 F D0 β0 M x y hkp hp hg hv
 obtain ⟨⟨cs,⟨⟩,⟨⟩⟩,⟨⟨⟨e,c,out⟩,⟨⟩⟩,⟨⟩⟩⟩:=x
 have hg:jl ((cs,(),()),((.mk e c out,()),()))=some y:=hg
 unfold jl at hg
 split at hg
 case isFalse=>cases hg
 rename_i hok
 cases hg
 have hok:cu cs (.mk e c out):=hok
 obtain ⟨h1,h2,h3,h4,h5,h6⟩:=hok
 have h1:out.length=cs.length:=h1
 have h4: ∀ j,j<cs.length->0<=out.getD j 0/\out.getD j 0<=255:=h4
 have h5: ∀ j,j+1<cs.length->out.getD j 0<=out.getD (j+1) 0:=h5
 intro ks vs o n hk he
 have hk:Cb ZG m8.q6.key=some ks:=hk
 rw [jt] at hk
 cases hk
 have he:m8.q6.sp.enc (S:=Dop.D4) (jm cs (.mk e c out)) 1=(vs,o,n):=he
 have hs:(⟨m8.q6.ts.zip vs,o,n,m8.KE.sz⟩:St Dop.D4)=iA cs (.mk e c out):=by
  unfold iA
  rw [he,U7]
 show VC Fence.wide prog Q w0 F D0 0 β0 M [.code (.region 6 V6 false),.code (As ZG [1,1,1,1,1])] (⟨m8.q6.ts.zip vs,o,n,m8.KE.sz⟩:St Dop.D4)
 rw [hs]
 have hret:VC (S:=Dop.D4) Fence.wide prog Q w0 F D0 0 β0 M [.code .ret] ⟨[(2,.b true)],[],0,84⟩:=by
  have:=hv _ [.b true] [] 0 fT rfl
  rw [U7] at this
  exact this
 refine VC.region (.inl rfl) ?_
 rw [fX]
 refine VC.R3 Il (Nat.zero_le _) (m:=5) (ff cs out e c) (fun q hq=>?_) (fun p hp=>?_) (H5 _ _ _ _ _ _ _ (Nat.le_refl _)) ?_
 ·simp only [List.mem_cons,List.not_mem_nil,or_false] at hq
  rcases hq with rfl|rfl<;>trivial
 ·simp only [List.mem_cons,List.not_mem_nil,or_false] at hp
  rcases hp with rfl|rfl|rfl|rfl<;>simp only [SV.on]<;>omega
 rw [(fh cs out e c).1,bQ]
 refine VC.seq (VC.seq (VC.region (.inl rfl) ?_))
 rw [ju]
 refine VC.R3 Il (Nat.zero_le _) (m:=5) (fg cs out _ _ e c) (fun q hq=>?_) (KB cs 0) (H5 _ _ _ _ _ _ _ (Nat.le_refl _)) ?_
 ·simp only [List.mem_cons,List.not_mem_nil,or_false] at hq
  rcases hq with rfl|rfl|rfl<;>trivial
 refine VC.block (VC.rounds (cs.length+1) ?_)
 have hd:=bI (M:=M) (cs:=cs) (out:=out) (X:=JT cs) (e:=e) (c:=c) (i:=I cs.length) hkp hp hret
 have:=V7 (M:=M) (e:=e) (c:=c) hkp hp h1 h2 h3 h4 h5 (by rw [show JT out=JT cs from h6];exact hd) cs.length 0 (by omega)
 rw [List.take_zero,List.take_zero,Zq] at this
 exact this
noncomputable def m8.Kc:By Dop.D4:=⟨3,m8.p.bn,m8.p.sp,m8.p.rs,m8.p.flat,.opt (m8.KE.Td 3000 bE m8.p.sp)⟩
theorem m8.Kh:m8.Kc.Holds prog:=XX 3000 AH (Ao SY.holds (Ao RQ.Kh Br)) m8.ok bE fM
end Go.Proofs.Tryz
