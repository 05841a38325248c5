/- A region that draws its order: by checking (chkB), and by evaluation (drawT). -/
import Derived.Test.YtikecakpcfpghaaGreatDoorEn12a
import Derived.Test.YtikecakpcfpghaaGreatDoorMb
import Derived.Laws.CopyRow
set_option linter.all false
namespace Go.En
open Go.RowKit
section
variable {S:Aq} {P:Program} {w0:World} {F D0:Nat->Prop} {s:St S} {D:Nat->Prop} {N:Nat->Prop} {β:Nat->Nm} {a:Act} {w:World}
theorem Af (hg:G w0 F D0 D s N β a w) {all:Array Oper} {o:Oper} {q:Wn} (h:Bd s all o=q):match q with
  | .yes=>Region.wanted o (yielded all a.tmps)=true
  | .no=>Region.wanted o (yielded all a.tmps)=false
  | .split d c=>lk s.t d=some (.b c)
  | .gk=>True:=by
 unfold Bd at h
 split at h
 ·rename_i hn;subst h;simp [Region.wanted,hn]
 ·rename_i j want hgd
  split at h
  case h_2=>subst h;trivial
  rename_i op hq
  split at h
  case h_2=>subst h;trivial
  rename_i d hd
  rw [F9] at hq
  have hq':all[j]?=some op:=by simpa using hq
  have key: ∀ x,lk s.t d=some x->yielded all a.tmps j=match x.den β with|.bool b=>some b|_=>none:=fun x hx=>by
   have h1:=(hg.Gc d x hx).1
   have h2:=hg.tmps d x hx
   have hsz:=hg.size
   have h3:a.tmps[d]?=some (x.den β):=by
    rw [<-h2,Array.getD_eq_getD_getElem?]
    have:d<a.tmps.size:=Nat.lt_of_lt_of_eq h1 hsz.symm
    simp [this]
   simp only [yielded,hq',Option.bind_some,hd,h3]
   cases x.den β<;>rfl
  split at h
  ·rename_i hx
   have:=key _ hx
   simp only [SV.den] at this
   split at h<;>subst h<;>simp [Region.wanted,hgd,this]
  ·rename_i hx
   have:=key _ hx
   simp only [SV.den] at this
   split at h<;>subst h<;>simp [Region.wanted,hgd,this]
  ·rename_i hx
   have:=key _ hx
   simp only [SV.den] at this
   subst h
   simp [Region.wanted,hgd,this]
  ·rename_i hx;subst h;exact hx
  ·subst h;trivial
theorem An {o:Oper} {K:Act->World->Prop} {Q':Exit->Act->World->Prop} {v:Value} {w':World} (h:(execOp a.eval o).run P w=.ok (.value v) w') (hk:K (a.put o.dst v) w'):o.wp P a w K Q':=by
 unfold Oper.wp;rw [h];exact hk
theorem N7 {o:Oper} {K:Act->World->Prop} {Q':Exit->Act->World->Prop} {w':World} (h:(execOp a.eval o).run P w=.ok .skip w') (hk:K (a.put o.dst undef) w'):o.wp P a w K Q':=by
 unfold Oper.wp;rw [h];exact hk
theorem Gk (hg:G w0 F D0 D s N β a w) {o:Oper} {f:Nat} {args:List SV} (h:callee s o.op=some (f,args)) (hb:Bq P f=true):(execOp a.eval o).run P w=.ok (.enter f (AA β args).toArray) w:=by
 have map_v: ∀ l:List Value,AA β (l.map SV.v)=l:=fun l=>by
  induction l with
  | nil=>simp [AA]
  | cons x r ih=>simp [AA,SV.den,ih]
 unfold callee at h
 split at h
 case h_2=>cases h
 rename_i g args' ts ho
 split at h
 ·rename_i f' caps h1
  split at h
  case h_2=>cases h
  rename_i l h2
  obtain ⟨h3,_⟩:=Dp hg h2
  split at h
  ·rename_i hf
   simp only [Option.some.injEq,Prod.mk.injEq] at h
   obtain ⟨rfl,rfl⟩:=h
   simp [execOp,ho,resolve,Deferred.ofValue,AB hg h1,SV.den,KW hf,invoke,Ck hb,h3,CJ]
  ·rename_i hf
   simp only [Option.some.injEq,Prod.mk.injEq] at h
   obtain ⟨rfl,rfl⟩:=h
   simp [execOp,ho,resolve,Deferred.ofValue,AB hg h1,SV.den,ET hf,invoke,Ck hb,h3,CJ]
 ·rename_i f' caps h1
  split at h
  case h_2=>cases h
  rename_i l h2
  simp only [Option.some.injEq,Prod.mk.injEq] at h
  obtain ⟨rfl,rfl⟩:=h
  obtain ⟨h3,_⟩:=Dp hg h2
  simp [execOp,ho,resolve,Deferred.ofValue,AB hg h1,SV.den,invoke,Ck hb,h3,CJ,map_v]
 ·cases h
end
def HI {α:Type} (f:α->Bool):List α->Bool
 | []=>true
 | x::r=>match f x with
  | true=>HI f r
  | false=>false
theorem Bc {α:Type} {f:α->Bool}: ∀ {l:List α},HI f l=true↔ ∀ x∈l,f x=true
 | []=>by simp [HI]
 | x::r=>by
  simp only [HI,List.mem_cons,forall_eq_or_imp]
  split
  ·rename_i h;simp [h,Bc (l:=r)]
  ·rename_i h;simp [h]
def WD:Nat->List Nat
 | 0=>[]
 | n+1=>n::WD n
theorem NV {i:Nat}: ∀ {n:Nat},i∈WD n↔i<n
 | 0=>by simp [WD]
 | n+1=>by simp only [WD,List.mem_cons,NV (n:=n)];omega
def PY:List (Nat×Bool)->List Nat
 | []=>[]
 | x::r=>x.1::PY r
theorem UH: ∀ l:List (Nat×Bool),PY l=l.map (·.1)
 | []=>rfl
 | x::r=>by simp [PY,UH r]
def nodupB:List Nat->Bool
 | []=>true
 | i::r=>!EB i r && nodupB r
theorem Hu: ∀ {l:List Nat},nodupB l=true->l.Nodup
 | [],_=>List.nodup_nil
 | i::r,h=>by
  simp only [nodupB,Bool.and_eq_true,Bool.not_eq_true'] at h
  refine List.nodup_cons.2 ⟨fun hm=>?_,Hu h.2⟩
  rw [Ca.2 hm] at h;cases h.1
def cH (o:Oper):Bool:=match o.op with
 | .select _ _=>false
 | _=>true
def Wd:Callee->List Operand
 | .value f=>[f]
 | .invoke r _=>[r]
 | .builtin _=>[]
def LI:Op->List Operand
 | .alloc _=>[]
 | .ready _=>[]
 | .waits _=>[]
 | .move x=>[x]
 | .assign x=>[x]
 | .box _ x=>[x]
 | .load _ x=>[x]
 | .nilCheck x=>[x]
 | .unOp _ _ x=>[x]
 | .convert _ _ x=>[x]
 | .sliceToArrayPointer _ x=>[x]
 | .makeInterface _ x=>[x]
 | .makeChan _ x=>[x]
 | .fieldAddr _ x _=>[x]
 | .field _ x _=>[x]
 | .range _ x=>[x]
 | .next x _=>[x]
 | .entry x=>[x]
 | .typeAssert x _ _ _=>[x]
 | .extract x _=>[x]
 | .panic x=>[x]
 | .recv _ x _=>[x]
 | .pick c a b=>[c,a,b]
 | .build _ ⟨ps⟩=>Tg ps
 | .buildSlice _ _ ⟨ps⟩=>Tg ps
 | .store _ a v=>[a,v]
 | .binOp _ _ a v _=>[a,v]
 | .makeSlice _ a v=>[a,v]
 | .indexAddr _ a v=>[a,v]
 | .index _ a v=>[a,v]
 | .lookup _ a v _=>[a,v]
 | .mapEntry _ a v=>[a,v]
 | .send a v=>[a,v]
 | .makeFunc _ ⟨f⟩ ⟨c⟩=>f++c
 | .makeMap _ r=>ae r
 | .slice _ x l h m=>x::(ae l++(ae h++ae m))
 | .mapUpdate _ m k v=>[m,k,v]
 | .entryStore _ m k v=>[m,k,v]
 | .insert _ m k v=>[m,k,v]
 | .call ⟨c,⟨args⟩,_⟩=>Wd c++args
 | .go ⟨c,⟨args⟩,_⟩=>Wd c++args
 | .defer ⟨c,⟨args⟩,_⟩=>Wd c++args
 | .select cs b=>(Op.select cs b).operands.toList
theorem QQ: ∀ l:List (Nat×Operand),Tg l=l.map (·.2)
 | []=>rfl
 | x::r=>by simp [Tg,QQ r]
theorem Yc (o:Op):LI o=o.operands.toList:=by
 have hc: ∀ c:Call,Wd c.callee++c.args.toList=c.operands.toList:=fun c=>by
  unfold Call.operands Wd
  cases c.callee<;>simp
 cases o with
 | call c=>exact hc c
 | go c=>exact hc c
 | defer c=>exact hc c
 | slice T x l h m=>cases l<;>cases h<;>cases m<;>simp [LI,Op.operands,ae]
 | makeMap T r=>cases r<;>simp [LI,Op.operands,ae]
 | build T ps=>simp [LI,Op.operands,QQ]
 | buildSlice T n ps=>simp [LI,Op.operands,QQ]
 | makeFunc f a c=>simp [LI,Op.operands]
 | _=>simp [LI,Op.operands]
theorem O1: ∀ l:List Operand,tmpsOf l=l.filterMap fun|.tmp t=>some t|_=>none
 | []=>rfl
 | x::r=>by cases x<;>simp [tmpsOf,O1 r]
def Pj (all:Array Oper) (o:Oper):List Nat:=tmpsOf (LI o.op)++XZ all o
theorem Vn (all:Array Oper) (o:Oper):Pj all o=o.looksAt all:=by
 unfold Pj Oper.looksAt
 rw [Yc,O1]
 congr 1
 unfold XZ
 cases o.guard with
 | none=>rfl
 | some g=>
  obtain ⟨j,b⟩:=g
  simp only [F9]
  rw [show all.toList[j]?=all[j]? by simp]
  cases all[j]? with
  | none=>rfl
  | some q=>simp only [Option.bind_some];cases q.dst<;>rfl
def SR (all:Array Oper) (x y:Oper):Bool:=
 (match x.dst with
  | some d=>!EB d (Pj all y) && (match y.dst with|some d'=>!Nat.beq d' d|none=>true)
  | none=>true) &&
 (match y.dst with
  | some d=>!EB d (Pj all x)
  | none=>true)
theorem OO (i:Nat) (l:List Nat):EB i l=l.contains i:=by
 rw [Bool.eq_iff_iff,Ca];simp [List.contains_eq_mem]
theorem VH {all:Array Oper} {x y:Oper} (h:SR all x y=true):x.apart all y=true:=by
 unfold SR at h
 unfold Oper.apart
 simp only [Bool.and_eq_true,Vn,OO] at h ⊢
 obtain ⟨h1,h2⟩:=h
 refine ⟨?_,h2⟩
 cases hx:x.dst with
 | none=>rfl
 | some d=>
  rw [hx] at h1
  simp only [Bool.and_eq_true] at h1 ⊢
  refine ⟨h1.1,?_⟩
  cases hy:y.dst with
  | none=>rfl
  | some d'=>
   have h3:=h1.2
   rw [hy] at h3
   simp only [Bool.not_eq_true'] at h3
   simp only [bne_iff_ne,ne_eq,Option.some.injEq]
   rintro rfl
   simp at h3
def T6 (all:List Oper):List Nat->List Nat->Bool
 | _,[]=>true
 | acc,i::r=>(match nth all i with|some o=>HI (fun e=>!MX e || EB e.on acc) o.after.toList|none=>false) && T6 all (i::acc) r
def fL (all:Array Oper) (ms:List Nat) (i j:Nat):Bool:=match nth all.toList i,nth all.toList j with
 | some oi,some oj=>
  (match oi.dst with|none=>true|some u=>(!EB u (LM all oj) || B8 ms j i) && (match oj.dst with|some d=>!Nat.beq d u|none=>true)) &&
  (match oj.dst with|none=>true|some u=>!EB u (LM all oi) || B8 ms j i)
 | _,_=>false
def bD (all:Array Oper) (ms:List Nat):List Nat->Bool
 | []=>true
 | i::r=>HI (fL all ms i) r && bD all ms r
def bR (ms:List Nat) (pre:List (Nat×Bool)):List Nat->List Nat->Bool
 | _,[]=>true
 | acc,j::r=>HI (B8 ms j) acc && HI (fun x=>x.2 || B8 ms j x.1) pre && bR ms pre (j::acc) r
def Qa (i:Nat):List Edge->Bool
 | []=>false
 | e::r=>(MX e && Nat.beq e.on i) || Qa i r
def jY (all:Array Oper) (ms:List Nat) (pre:List (Nat×Bool)):Bool:=
 HI (fun x=>!x.2 || HI (fun j=>Nat.beq j x.1 || B8 ms x.1 j || match nth all.toList j,nth all.toList x.1 with
  | some oj,some oi=>Qa x.1 oj.after.toList || SR all oi oj
  | _,_=>true) (WD all.toList.length)) pre
theorem Sv: ∀ {a b:List Nat},dW a b=true->a=b
 | [],[],_=>rfl
 | [],_::_,h=>by simp [dW] at h
 | _::_,[],h=>by simp [dW] at h
 | x::r,y::t,h=>by
  simp only [dW] at h
  split at h
  ·rename_i hx;rw [Nat.eq_of_beq_eq_true hx,Sv h]
  ·cases h
def Zm (all:Array Oper) (q:Ir):Bool:=
 dW q.ms (Cw all.toList []) && HI cH all.toList && nodupB (PY q.pre) && nodupB (Ft q.H9) && HI (fun i=>EB i (PY q.pre) || EB i (Ft q.H9)) (WD all.toList.length) &&
 HI (fun i=>Nat.ble (i+1) all.toList.length && !EB i (PY q.pre)) (Ft q.H9) && T6 all.toList [] (PY q.pre++(Ft q.H9)) && bD all q.ms (PY q.pre) && bR q.ms q.pre [] (Ft q.H9) && jY all q.ms q.pre
theorem Is {all:Array Oper}: ∀ {l acc p q:List Nat} {j:Nat} {o:Oper},T6 all.toList acc l=true->l=p++j::q->all[j]?=some o-> ∀ e∈o.after,Region.binds .any e=true->e.on∈acc\/e.on∈p
 | [],acc,p,q,j,o,_,h,_=>by simp at h
 | i::r,acc,p,q,j,o,h,hs,ho=>by
  simp only [T6,Bool.and_eq_true] at h
  cases p with
  | nil=>
   simp only [List.nil_append,List.cons.injEq] at hs
   obtain ⟨rfl,rfl⟩:=hs
   intro e he hb
   have h1:=h.1
   rw [F9,show all.toList[i]?=some o by simpa using ho] at h1
   have h2:=Bc.1 h1 e (by simpa using he)
   rw [KO,hb] at h2
   exact .inl (Ca.1 (by simpa using h2))
  | cons x p=>
   simp only [List.cons_append,List.cons.injEq] at hs
   obtain ⟨rfl,hs⟩:=hs
   intro e he hb
   rcases Is h.2 hs ho e he hb with h3|h3
   ·rcases List.mem_cons.1 h3 with h3|h3
    ·exact .inr (by simp [h3])
    ·exact .inl h3
   ·exact .inr (by simp [h3])
theorem Oy {all:Array Oper} {ms:List Nat}: ∀ {l p q:List Nat} {i j:Nat},bD all ms l=true->l=p++i::q->j∈q->fL all ms i j=true
 | [],p,q,i,j,_,h,_=>by simp at h
 | x::r,p,q,i,j,h,hs,hj=>by
  simp only [bD,Bool.and_eq_true] at h
  cases p with
  | nil=>
   simp only [List.nil_append,List.cons.injEq] at hs
   obtain ⟨rfl,rfl⟩:=hs
   exact Bc.1 h.1 j hj
  | cons y p=>
   simp only [List.cons_append,List.cons.injEq] at hs
   exact Oy h.2 hs.2 hj
theorem O0 {ms:List Nat} {pre:List (Nat×Bool)}: ∀ {l acc p q:List Nat} {j:Nat},bR ms pre acc l=true->l=p++j::q->(∀ i,i∈acc\/i∈p->B8 ms j i=true)/\(∀ x∈pre,x.2=false->B8 ms j x.1=true)
 | [],acc,p,q,j,_,h=>by simp at h
 | x::r,acc,p,q,j,h,hs=>by
  simp only [bR,Bool.and_eq_true] at h
  cases p with
  | nil=>
   simp only [List.nil_append,List.cons.injEq] at hs
   obtain ⟨rfl,rfl⟩:=hs
   refine ⟨fun i hi=>?_,fun y hy hf=>?_⟩
   ·rcases hi with hi|hi
    ·exact Bc.1 h.1.1 i hi
    ·cases hi
   ·have:=Bc.1 h.1.2 y hy
    rw [hf] at this;simpa using this
  | cons y p=>
   simp only [List.cons_append,List.cons.injEq] at hs
   obtain ⟨rfl,hs⟩:=hs
   have:=O0 h.2 hs
   refine ⟨fun i hi=>this.1 i ?_,this.2⟩
   rcases hi with hi|hi
   ·exact .inl (by simp [hi])
   ·rcases List.mem_cons.1 hi with hi|hi
    ·exact .inl (by simp [hi])
    ·exact .inr hi
theorem MS {i:Nat}: ∀ {l:List Edge},Qa i l=true-> ∃ e∈l,Region.binds .any e=true/\e.on=i
 | [],h=>by simp [Qa] at h
 | e::r,h=>by
  simp only [Qa,Bool.or_eq_true,Bool.and_eq_true,KO] at h
  rcases h with h|h
  ·exact ⟨e,by simp,h.1,Nat.eq_of_beq_eq_true h.2⟩
  ·obtain ⟨e',h1,h2⟩:=MS h;exact ⟨e',by simp [h1],h2⟩
section
variable {S:Aq}
def Rec.key (r:Rec S):Nat×Bool:=(r.i,r.pu)
theorem VQ {all:Array Oper} {dr:Ir} {rs:List (Rec S)} (h:Zm all dr=true) (hk:rs.map Rec.key=dr.pre) (ho: ∀ r∈rs,all[r.i]?=some r.o):bd all dr.ms rs (Ft dr.H9):=by
 simp only [Zm,Bool.and_eq_true] at h
 obtain ⟨⟨⟨⟨⟨⟨⟨⟨⟨h0,h1⟩,h2⟩,h3⟩,h4⟩,h5⟩,h6⟩,h7⟩,h8⟩,h9⟩:=h
 have h0:dr.ms=Cw all.toList []:=Sv h0
 have hi:PY dr.pre=rs.map (·.i):=by rw [UH,<- hk,List.map_map];rfl
 rw [hi] at h2 h4 h5 h6 h7
 have hanc: ∀ j i,B8 dr.ms j i=O8 all j i:=fun j i=>by unfold O8;rw [h0]
 have hnth: ∀ {j:Nat} {o:Oper},all[j]?=some o->nth all.toList j=some o:=fun h=>by rw [F9];simpa using h
 have h5': ∀ i∈(Ft dr.H9),i<all.size/\i ∉ rs.map (·.i):=fun i hi=>by
  have:=Bc.1 h5 i hi
  simp only [Bool.and_eq_true,Bool.not_eq_true'] at this
  refine ⟨by have:=Nat.le_of_ble_eq_true this.1;simp at this;omega,fun hm=>?_⟩
  rw [Ca.2 hm] at this;cases this.2
 refine ⟨h0,fun j o cs b ho' heq=>?_,ho,Hu h2,fun i hlt=>?_,h5',Hu h3,fun p r q hr e he hb=>?_,fun p j q o hs ho' e he hb=>?_,fun p r q r' hr hr'=>?_,fun p j q hs=>?_,fun r hr hpu j oj hoj hji hnanc hno=>?_⟩
 ·have:=Bc.1 h1 o (by have:=Array.mem_of_getElem? ho';simpa using this)
  simp [cH,heq] at this
 ·have:=Bc.1 h4 i (NV.2 (by simpa using hlt))
  simp only [Bool.or_eq_true,Ca] at this
  exact this
 ·have:=Is h6 (p:=p.map (·.i)) (q:=q.map (·.i)++(Ft dr.H9)) (j:=r.i) (by rw [hr];simp) (ho r (by rw [hr];simp)) e he hb
  simpa using this
 ·have:=Is h6 (p:=rs.map (·.i)++p) (q:=q) (j:=j) (by rw [hs];simp) ho' e he hb
  simpa using this
 ·have:=Oy h7 (p:=p.map (·.i)) (q:=q.map (·.i)) (i:=r.i) (j:=r'.i) (by rw [hr];simp) (List.mem_map.2 ⟨r',hr',rfl⟩)
  unfold fL at this
  rw [hnth (ho r (by rw [hr];simp)),hnth (ho r' (by rw [hr];simp [hr']))] at this
  simp only [Bool.and_eq_true] at this
  obtain ⟨ha,hb⟩:=this
  refine ⟨fun u hu hm=>?_,fun u hu hm=>?_,fun u hu hu'=>?_⟩
  ·rw [hu] at ha
   simp only [Bool.and_eq_true,Bool.or_eq_true,Bool.not_eq_true'] at ha
   rcases ha.1 with h|h
   ·rw [Ca.2 hm] at h;cases h
   ·rw [<-hanc];exact h
  ·rw [hu] at hb
   simp only [Bool.or_eq_true,Bool.not_eq_true'] at hb
   rcases hb with h|h
   ·rw [Ca.2 hm] at h;cases h
   ·rw [<-hanc];exact h
  ·rw [hu] at ha
   simp only [Bool.and_eq_true,hu',Bool.not_eq_true'] at ha
   have:=ha.2;simp at this
 ·have:=O0 h8 hs
  refine ⟨fun i hi=>by rw [<-hanc];exact this.1 i (.inr hi),fun r hr hpu=>by rw [<-hanc];exact this.2 (r.i,r.pu) (by rw [<-hk];exact List.mem_map.2 ⟨r,hr,rfl⟩) hpu⟩
 ·have:=Bc.1 h9 (r.i,r.pu) (by rw [<-hk];exact List.mem_map.2 ⟨r,hr,rfl⟩)
  simp only [hpu,Bool.not_true,Bool.false_or] at this
  have h10:=Bc.1 this j (NV.2 (by have:=(Array.getElem?_eq_some_iff.1 hoj).1;simpa using this))
  rw [hnth hoj,hnth (ho r hr),hanc,hnanc] at h10
  simp only [Bool.or_eq_true,Bool.or_false] at h10
  rcases h10 with h10|h10|h10
  ·exact absurd (Nat.eq_of_beq_eq_true h10) hji
  ·obtain ⟨e,he,hb,hon⟩:=MS h10
   exact absurd hon (hno e (by simpa using he) hb)
  ·exact VH h10
theorem Ra (all:Array Oper): ∀ l,l.filterMap (all[·]?)=LJ all l
 | []=>rfl
 | i::r=>by
  simp only [LJ,List.filterMap_cons,F9,Array.getElem?_toList]
  cases all[i]?<;>simp [Ra all r]
def Al:Code->List (Nat×Array Oper×Bool)
 | .region id ops d=>[(id,ops,d)]
 | .seq x y=>Al x++Al y
 | .cond _ x y=>Al x++Al y
 | .block _ x=>Al x
 | .loop x=>Al x
 | .scope x=>Al x
 | .rangeFunc _ _ x y=>Al x++Al y
 | _=>[]
theorem Kt: ∀ {c c':Code} {l:Nat},findLabel c l=some c'-> ∀ x∈Al c',x∈Al c
 | .seq a b,c',l,h,x,hx=>by
  simp only [findLabel] at h
  split at h
  ·rename_i r hr
   cases h
   simp only [Al,List.mem_append] at hx ⊢
   exact hx.imp (Kt hr x) id
  ·simp only [Al,List.mem_append]
   exact .inr (Kt h x hx)
 | .label l',c',l,h,x,hx=>by
  simp only [findLabel] at h
  split at h<;>cases h
  simp [Al] at hx
 | .region ..,c',l,h,x,hx=>by simp [findLabel] at h
 | .cond ..,c',l,h,x,hx=>by simp [findLabel] at h
 | .block ..,c',l,h,x,hx=>by simp [findLabel] at h
 | .loop ..,c',l,h,x,hx=>by simp [findLabel] at h
 | .scope ..,c',l,h,x,hx=>by simp [findLabel] at h
 | .skip,c',l,h,x,hx=>by simp [findLabel] at h
 | .exit _,c',l,h,x,hx=>by simp [findLabel] at h
 | .goto _,c',l,h,x,hx=>by simp [findLabel] at h
 | .ret,c',l,h,x,hx=>by simp [findLabel] at h
 | .rangeFunc ..,c',l,h,x,hx=>by simp [findLabel] at h
 | .refuse _,c',l,h,x,hx=>by simp [findLabel] at h
theorem V2 {c c':Code} {i:Nat} (h:HG i c=some c'): ∀ x∈Al c',x∈Al c:=by
 intro x hx
 unfold HG at h
 split at h
 all_goals first
  | (cases h;simp only [Al,List.mem_append];first|exact .inl hx|exact .inr hx|exact hx)
  | exact Kt h x hx
  | cases h
theorem QM {body:Code}: ∀ {a:List Nat} {c:Code},HJ body a=some c-> ∀ x∈Al c,x∈Al body
 | [],c,h,x,hx=>by simp only [HJ,Option.some.injEq] at h;subst h;exact hx
 | i::a,c,h,x,hx=>by
  simp only [HJ] at h
  split at h
  ·rename_i c1 h1
   exact QM h1 x (V2 h x hx)
  ·cases h
def IE (body:Code) (dr:List (Nat×Ir)):Bool:=HI (fun x=>match x.2.2 with
 | true=>match lk dr x.1 with
  | some q=>Zm x.2.1 q
  | none=>true
 | false=>true) (Al body)
theorem Sp {body:Code} {dr:List (Nat×Ir)} (h:IE body dr=true) {a:List Nat} {id:Nat} {ops:Array Oper} (ha:HJ body a=some (.region id ops true)) {q:Ir} (hq:lk dr id=some q):Zm ops q=true:=by
 have:=Bc.1 h (id,ops,true) (QM ha _ (by simp [Al]))
 simpa [hq] using this
end
end Go.En
namespace Go.En
open Go.RowKit
section
variable {S:Aq} {P:Program} {w0:World} {F D0 D:Nat->Prop} {s:St S} {N:Nat->Prop} {β:Nat->Nm} {a:Act} {w:World}
theorem LQ {T e esz:Nat} {o:Oper} {d:Option Tmp} (ho:o.op=.buildSlice T 0 ⟨[]⟩) (h2:P.underlying T=some (.slice e)) (h3:(P.info? e).map (·.size)=some esz):(execOp a.eval o).run P w=.ok (.value (.slice (some ⟨w.heap.size,0,none⟩) 0 0)) (w.alloc (.cells #[] e)):=by
 simp [execOp,ho,Instr.buildSlice,Sem.run_bind,run_underlying h2,Result.andThen_ok,Ap h3,newRow,run_newObj,Instr.fill,Array.range_zero',List.map_toArray,List.map_nil]
 first|rfl|done
theorem TB {tb:List (Nat×TI)} (htb:AU S P tb) {all:List Oper} {o:Oper} {e:Nat} (h:Xh tb all o=some e):(execOp a.eval o).run P w=.ok (.value (.slice (some ⟨w.heap.size,0,none⟩) 0 0)) (w.alloc (.cells #[] e)):=by
 unfold Xh at h
 split at h
 case h_2=>cases h
 rename_i T d ho hd
 split at h
 case h_2=>cases h
 rename_i e' esz ht _
 have hd:=AY htb ht
 simp only [TD.ok] at hd
 split at h
 case h_2=>cases h
 split at h
 case h_2=>cases h
 cases h
 exact LQ (d:=none) ho hd.1 hd.2
theorem K4 {tb:List (Nat×TI)} (htb:AU S P tb) (hg:G w0 F D0 D s N β a w) {o:Oper} {j:Nat} {b:Bool} {c:Option Bool} {o1:List (Nat×Own S)} {n':Nat} {v:SV} (h:VI tb s o.op=some (j,b,.nm c o1 n' v)) (hc:CB c):
  (b=true->N j/\ ∃ w',(execOp a.eval o).run P w=.ok (.value ((SV.view j 0 0 0).den β)) w'/\Below w.heap.size w w')/\
  (b=false->(∀ j,s.n<=j->j<n'->¬ N j)-> ∃ β' w',(execOp a.eval o).run P w=.ok (.value (v.den β')) w'/\Bz D D N s.n n' o1 β β' w w'/\v.on (more N s.n n')):=by
 unfold VI at h
 split at h
 case h_2=>cases h
 rename_i x y T T' hop
 split at h
 case h_2=>cases h
 rename_i e esz hT ht
 have hT:=Nat.eq_of_beq_eq_true hT
 subst hT
 have hd:=AY htb ht
 simp only [TD.ok] at hd
 split at h
 case h_2=>cases h
 rename_i te hte
 have hoe:=htb.get hte
 split at h
 case h_2=>cases h
 rename_i τ hτ
 obtain ⟨hsz,hpos,_,_⟩:=hoe.Za τ hτ
 split at h
 case h_2=>cases h
 rename_i j' yv hz hx hy
 have hz:=Nat.eq_of_beq_eq_true hz
 split at h
 case h_2=>cases h
 rename_i E hj
 split at h
 case h_2=>cases h
 rename_i c' l' hE hs
 have hE:=Nat.eq_of_beq_eq_true hE
 subst hE
 simp only [Option.some.injEq,Prod.mk.injEq,R.nm.injEq] at h
 obtain ⟨rfl,rfl,rfl,rfl,rfl,rfl⟩:=h
 have hcc:CB c'/\room te.bs l'.length=true:=by
  cases c' with
  | none=>exact ⟨trivial,hc⟩
  | some c=>simp only [CB,DK,Bool.and_eq_true] at hc;exact hc
 obtain ⟨hc1,hroom⟩:=hcc
 simp only [room,decide_eq_true_eq] at hroom
 have hsrc:=MG hg.gh hs hc1
 obtain ⟨g,hb1,hb2⟩:=hg.gh.own j' _ hj
 have hinf:=hoe.info
 cases hi:P.info? E with
 | none=>simp [hi] at hinf
 | some i=>
 simp only [hi,Option.map_some,Option.some.injEq,Prod.mk.injEq] at hinf
 obtain ⟨hiz,his,hib⟩:=hinf
 have hzc:te.z.cells.size=te.sz:=by rw [<-Array.length_toList,hoe.zc β,AF,hoe.zl]
 have e1:a.eval x=.slice (some ⟨g,0,none⟩) 0 0:=by rw [AB hg hx];simp [SV.den,Nm.AN,hb1]
 have e2:a.eval y=yv.den β:=AB hg hy
 have hden:(SV.view j' 0 0 0).den β=.slice (some ⟨g,0,none⟩) 0 0:=by simp [SV.den,Nm.AN,hb1]
 have hex: ∀ v' w',(Builtin.append_ #[T',T'] o.type #[.slice (some ⟨g,0,none⟩) 0 0,yv.den β]).run P w=.ok v' w'->(execOp a.eval o).run P w=.ok (.value v') w':=fun v' w' hr=>by
  unfold execOp
  simp only [hop,resolve,invoke,builtin,Sem.run_bind,Sem.run_pure,Result.andThen_ok,List.map_toArray,List.map_cons,List.map_nil,e1,e2,hr]
 have hown:w.ownsRow 0 E te.sz (.slice (some ⟨g,0,none⟩) 0 0) 0 []:=⟨by simp,.inr ⟨g,0,#[],rfl,Nat.zero_le _,hb2,Nat.le_refl _,Nat.zero_le _,by simp,by simp⟩⟩
 have hnone: ∀ (a':Option Addr) (c':Nat),yv.den β=.slice a' 0 c'-> ∃ w',(Builtin.append_ #[T',T'] o.type #[.slice (some ⟨g,0,none⟩) 0 0,yv.den β]).run P w=.ok (.slice (some ⟨g,0,none⟩) 0 0) w'/\Below w.heap.size w w':=fun a' c' hv=>by
  rw [hv]
  cases a' with
  | none=>exact ⟨w,by simp [Builtin.append_,run_underlying hd.1,sizeOf,typeInfo,hi,Builtin.lenOf,Builtin.firstCells,storeCells],Below.refl _ _⟩
  | some ad=>
   have hr:=run_append_room (P:=P) w T' o.type E i hd.1 hi g 0 0 #[] hb2 ad 0 c' [] (by simp) (fun j u hu=>by simp at hu) (fun u hu=>by simp at hu) (Nat.le_refl _) (by simp)
   have he:((#[]:Array Value).toList.take (0*i.size)++[]++(#[]:Array Value).toList.drop (0*i.size+([]:List Value).length)).toArray=#[]:=by simp
   rw [he,setRow_self w g #[] E (0,0) hb2] at hr
   exact ⟨w,hr,Below.refl _ _⟩
 refine ⟨fun hb=>?_,fun hb hN=>?_⟩
 ·have hl0:l'=[]:=List.eq_nil_of_length_eq_zero (by simpa using hb)
  refine ⟨(hg.gh.Bk j' _ hj).1,?_⟩
  subst hl0
  have: ∃ a' c',yv.den β=.slice a' 0 c':=by
   rcases hsrc with ⟨_,h2⟩|⟨_,a',c',h2⟩|⟨ad,c',us,h1,_,_⟩
   ·exact ⟨none,0,h2⟩
   ·exact ⟨a',c',h2⟩
   ·exact ⟨some ad,c',h1⟩
  obtain ⟨a',c',hv⟩:=this
  obtain ⟨w',h1,h2⟩:=hnone a' c' hv
  exact ⟨w',by rw [hden];exact hex _ _ h1,h2⟩
 ·have hl0:l'≠[]:=fun h=>by subst h;simp at hb
  have hlp:0<l'.length:=List.length_pos_iff.2 hl0
  rcases hsrc with ⟨h1,_⟩|⟨h1,_⟩|⟨ad,c',us,h1,h2,h3⟩
  ·exact absurd h1 hl0
  ·exact absurd h1 hl0
  have hul:us.length=l'.length*te.sz:=by rw [<-h2.1,S.At,hsz]
  have hbytes:l'.length*i.bytes<=140737488355328:=by rw [hib];exact Nat.le_trans (Nat.mul_le_mul_left _ (Nat.le_succ _)) hroom
  have hle:l'.length<=140737488355328:=Nat.le_trans (Nat.le_mul_of_pos_right _ (Nat.succ_pos _)) hroom
  have hr:=run_append_grow (P:=P) w T' o.type E i te.z hd.1 hi hiz ⟨g,0,none⟩ 0 0 [] (by simp) (fun j u hu=>by simp at hu) ad l'.length c' us (by rw [his,hul]) h3 (by omega) (by omega) (growslice_fits (by omega) (by simpa using hbytes))
  obtain ⟨v',w',hr2,h4,h5⟩:=run_append_own (P:=P) w 0 T' o.type E i te.z te.sz te.bs hd.1 hi hiz his hib hzc hpos _ 0 [] hown ad l'.length c' us hul h3 h2.Vu (by simp only [maxLen];omega) (by rw [Nat.zero_add];exact Nat.le_trans (Nat.mul_le_mul_left _ (Nat.le_succ _)) hroom) (Nat.zero_le _)
  rw [hr] at hr2
  cases hr2
  simp only [List.nil_append,Nat.zero_add] at h4 hr
  generalize hcap:grownCap w l'.length 0 E=cap at h4 hr
  generalize hob:Obj.cells (([]:List Value).toArray++us.toArray++Builtin.zeroCells te.z.cells (cap -l'.length)) E=ob at h4 hr
  obtain ⟨β',hβn,hnew⟩:=Bz.alloc (D:=D) (N:=N) (β:=β) (w:=w.drew) (n:=s.n) (hN s.n (Nat.le_refl _) (Nat.lt_succ_self _)) (b:=.tr τ E l') (ob:=ob) (len:=l'.length) (cap:=cap) trivial
   (fun β' _ _=>⟨rfl,us,by rw [hsz];exact h4,h2.Bo (fun k hk=>((Below.refl _ w).drew.alloc (Nat.le_refl _) ob).block k (hg.gh.C0 k hk)) fun _ h=>h⟩)
  refine ⟨β',_,?_,{ hnew with below:=(Below.refl _ w).drew.trans hnew.below },?_⟩
  ·rw [h1] at hex
   rw [hex _ _ hr]
   simp only [SV.den,hβn]
   rfl
  ·exact .inr ⟨Nat.le_refl _,Nat.lt_succ_self _⟩
theorem Sl {tb:List (Nat×TI)} (htb:AU S P tb) {o2:List (Nat×Own S)} (hg:G w0 F D0 D ⟨s.t,o2,s.n,s.sz⟩ N β a w) (hsub: ∀ i b,lk s.o i=some b->lk o2 i=some b) (hN:¬ N s.n) {op:Oper} {T:Nat} {x y:Operand} (hop:op.op=.call ⟨.builtin .append,#[x,y],#[T,T]⟩)
  {j m n':Nat} (hxj:ev s x=some (.tr j)) {c0:Option Bool} {ow:Own S} {o':List (Nat×Own S)} {v:SV} (h:Qb tb s T x y=.x c0 ((m,ow)::o') n' v) (hc:CB c0):
  ∃ β' w',(execOp a.eval op).run P w=.ok (.value ((SV.tr s.n).den β')) w'/\(∀ i,N i->β i=β' i)/\GH w0 F D0 D ((s.n,ow)::rm o2 j) (fun i=>N i\/i=s.n) β' w':=by
 have hg1:G w0 F D0 D s N β a w:=⟨hg.defers,hg.size,hg.Gc,hg.tmps,hg.gh.G8 hsub⟩
 unfold Qb at h
 split at h
 case h_2=>cases h
 rename_i e esz ht
 have hd:=AY htb ht
 simp only [TD.ok] at hd
 split at h
 case h_2=>cases h
 rename_i te hte
 have hoe:=htb.get hte
 split at h
 case h_2=>cases h
 rename_i τ hτ
 obtain ⟨hsz,hpos,_,_⟩:=hoe.Za τ hτ
 split at h
 case h_2=>cases h
 rename_i xv yv hz hx hy
 have hz:=Nat.eq_of_beq_eq_true hz
 split at h
 case h_2=>cases h
 rename_i d l hb
 split at h
 case h_2=>cases h
 rename_i c l' hs
 cases h
 have hdj:d=some j:=by
  rw [hxj] at hx
  cases hx
  unfold OU at hb
  simp only at hb
  split at hb
  case h_2=>cases hb
  split at hb
  ·cases hb;rfl
  ·cases hb
 have hcc:CB c/\room te.bs (l.length+l'.length)=true:=by
  cases c with
  | none=>exact ⟨trivial,hc⟩
  | some c=>simp only [CB,DK,Bool.and_eq_true] at hc;exact hc
 obtain ⟨hc1,hroom⟩:=hcc
 simp only [room,decide_eq_true_eq] at hroom
 obtain ⟨vs,hown,hvs,A6⟩:=MU hg1.gh hb
 have hsrc:=MG hg1.gh hs hc1
 have hinf:=hoe.info
 cases hi:P.info? e with
 | none=>simp [hi] at hinf
 | some i=>
 simp only [hi,Option.map_some,Option.some.injEq,Prod.mk.injEq] at hinf
 obtain ⟨hiz,his,hib⟩:=hinf
 have hzc:te.z.cells.size=te.sz:=by rw [<-Array.length_toList,hoe.zc β,AF,hoe.zl]
 rw [hsz] at hown
 have e1:a.eval x=xv.den β:=AB hg1 hx
 have e2:a.eval y=yv.den β:=AB hg1 hy
 have hlen_le:l.length+l'.length<=(l.length+l'.length)*(te.bs+1):=Nat.le_mul_of_pos_right _ (by omega)
 -- what append gives
 have key: ∃ v' w',(Builtin.append_ #[T,T] op.type #[xv.den β,yv.den β]).run P w=.ok v' w'/\(∃ us,w'.ownsRow 0 e te.sz v' (l++l').length us/\AE S w D (S.flat τ (l++l')) us)/\w.grownBy w' (xv.den β).ownBlock/\
   (v'.ownBlock=none\/v'.ownBlock=(xv.den β).ownBlock\/v'.ownBlock=some w.heap.size):=by
  have hnil: ∀ (a':Option Addr) (c':Nat),yv.den β=.slice a' 0 c'->l'=[]->(a'=none->c'=0)-> ∃ v' w',(Builtin.append_ #[T,T] op.type #[xv.den β,yv.den β]).run P w=.ok v' w'/\(∃ us,w'.ownsRow 0 e te.sz v' (l++l').length us/\AE S w D (S.flat τ (l++l')) us)/\w.grownBy w' (xv.den β).ownBlock/\
   (v'.ownBlock=none\/v'.ownBlock=(xv.den β).ownBlock\/v'.ownBlock=some w.heap.size):=by
   intro a' c' hv hl' hac
   subst hl'
   cases a' with
   | none=>
    have:=hac rfl;subst this
    refine ⟨xv.den β,w,?_,⟨vs,by simpa using hown,by simpa using hvs⟩,⟨rfl,rfl,rfl,Nat.le_refl _,fun _ _ _=>rfl⟩,.inr (.inl rfl)⟩
    rw [hv]
    exact run_append_owned_none (P:=P) w 0 T op.type e i te.sz hd.1 hi (xv.den β) l.length vs hown
   | some ad=>
    obtain ⟨v',w',hr,h2,h3,h4⟩:=Bx w T op.type e i te.z te.sz te.bs hd.1 hi hiz his hib hzc hpos (xv.den β) l.length vs hown ad 0 c' [] (by simp) (fun j u hu=>by simp at hu) (fun u hu=>by simp at hu)
     (by simp only [maxLen];simp only [List.length_nil,Nat.add_zero] at hroom hlen_le;omega) (Nat.le_trans (Nat.mul_le_mul_left _ (Nat.le_succ te.bs)) (by simpa using hroom))
    exact ⟨v',w',by rw [hv];exact hr,⟨vs,by simpa using h2,by simpa using hvs⟩,h3,h4⟩
  rcases hsrc with ⟨h1,h2⟩|⟨h1,a',c',h2⟩|⟨ad,c',us,h1,h2,h3⟩
  ·exact hnil none 0 h2 h1 fun _=>rfl
  ·cases a' with
   | none=>
    -- a nil address with a capacity: the model appends nothing
    subst h1
    refine ⟨xv.den β,w,?_,⟨vs,by simpa using hown,by simpa using hvs⟩,⟨rfl,rfl,rfl,Nat.le_refl _,fun _ _ _=>rfl⟩,.inr (.inl rfl)⟩
    rw [h2]
    rcases hown.2 with ⟨h5,h6⟩|⟨g,cap,cur,h5,_,_,hnc,_⟩
    ·rw [h5];simp [Builtin.append_,run_underlying hd.1,sizeOf,typeInfo,hi,Builtin.lenOf,Builtin.firstCells]
    ·rw [h5];simp [Builtin.append_,run_underlying hd.1,sizeOf,typeInfo,hi,Builtin.lenOf,Builtin.firstCells,hnc,storeCells]
   | some ad=>exact hnil (some ad) c' h2 h1 (fun h=>by cases h)
  ·obtain ⟨v',w',hr,h4,h5,h6⟩:=Bx w T op.type e i te.z te.sz te.bs hd.1 hi hiz his hib hzc hpos (xv.den β) l.length vs hown ad l'.length c' us (by rw [<-h2.1,S.At,hsz]) h3 h2.Vu
    (by simp only [maxLen];omega) (Nat.le_trans (Nat.mul_le_mul_left _ (by omega)) hroom)
   exact ⟨v',w',by rw [h1];exact hr,⟨vs++us,by rw [List.length_append];exact h4,by rw [S.Ef];exact hvs.append h2⟩,h5,h6⟩
 obtain ⟨v',w',hr,⟨us,h2,hus⟩,h3,h4⟩:=key
 have A6: ∀ k,(SV.den β xv).ownBlock=some k-> ∃ i b,d=some i/\lk o2 i=some b/\(β i).b=some k:=fun k hk=>let ⟨i,b,a1,a2,a3⟩:=A6 k hk;⟨i,b,a1,hsub _ _ a2,a3⟩
 obtain ⟨hgh,hD⟩:=hg.gh.Yb (d:=d) h3 (fun k hk=>let ⟨i,b,a1,a2,a3⟩:=A6 k hk;⟨i,b,a1,a2,.inl a3⟩)
 have hnb: ∀ g,(Bw (l++l').length v').has g->(Bw (l++l').length v').b=some g:=fun g h=>(Nm.E8 (Na _ _)).1 h
 obtain ⟨hv',hv2,hv3⟩:=EC (len:=(l++l').length) h2
 obtain ⟨β',hβ,hβn,hgh'⟩:=hgh.name (b:=.tr τ e (l++l')) (nm:=Bw (l++l').length v') (n:=s.n) hN trivial
  (fun β' hβ hn'=>⟨hv3,us,by rw [<-hv',hsz];exact h2,hus.Bo hD fun _ h=>h⟩)
  (fun g hg'=>by
   have hg':=hnb g hg'
   rw [hv2] at hg'
   rcases h4 with h4|h4|h4<;>rw [hg'] at h4
   ·cases h4
   ·obtain ⟨i,b,_,hi,hib⟩:=A6 g h4.symm;exact hg.gh.fresh i b g hi (.inl hib)
   ·simp only [Option.some.injEq] at h4;subst h4;exact .inl hg.gh.fr.size)
  (fun g hg' hD=>by
   have hg':=hnb g hg'
   rw [hv2] at hg'
   rcases h4 with h4|h4|h4<;>rw [hg'] at h4
   ·cases h4
   ·obtain ⟨i,b,_,hi,hib⟩:=A6 g h4.symm;exact hg.gh.off i b g hi (.inl hib) hD
   ·simp only [Option.some.injEq] at h4;subst h4;have:=hg.gh.C0 _ hD;omega)
  (fun i b g hi hib he=>by
   have he:=hnb g he
   rw [hv2] at he
   have hi':=ES i b hi
   rcases h4 with h4|h4|h4<;>rw [he] at h4
   ·cases h4
   ·obtain ⟨j,c,hd',hj,hjb⟩:=A6 g h4.symm
    have:=hg.gh.inj i j b c g hi' hj hib (.inl hjb)
    subst this
    subst hd'
    simp [EM,Co] at hi
   ·simp only [Option.some.injEq] at h4;subst h4;have:=hg.gh.lt i b _ hi' hib;omega)
  (fun g hg'=>by
   have hg':=hnb g hg'
   rw [hv2] at hg'
   exact ownsRow_blk_lt h2 hg')
 subst hdj
 refine ⟨β',w',?_,hβ,hgh'⟩
 unfold execOp
 simp only [hop,resolve,invoke,builtin,Sem.run_bind,Sem.run_pure,Result.andThen_ok,List.map_toArray,List.map_cons,List.map_nil,e1,e2,hr,SV.den,hβn,hv3]
 rw [<-hv']
end
end Go.En
