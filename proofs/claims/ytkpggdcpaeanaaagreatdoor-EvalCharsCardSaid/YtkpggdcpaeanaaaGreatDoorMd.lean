/- A region that draws its order: by checking (chkB), and by evaluation (drawT). -/
import Derived.Test.YtkpggdcpaeanaaaGreatDoorEn12a
import Derived.Test.YtkpggdcpaeanaaaGreatDoorMb
import Derived.Laws.CopyRow
set_option linter.all false
namespace Go.En
open Go.RowKit
section
variable {S:Am} {P:Program} {w0:World} {F D0:Nat->Prop} {s:St S} {D:Nat->Prop} {N:Nat->Prop} {β:Nat->Nm} {a:Act} {w:World}
theorem Ad (hg:G w0 F D0 D s N β a w) {all:Array Oper} {o:Oper} {q:Wn} (h:Bq s all o=q):match q with
  | .yes=>Region.wanted o (yielded all a.tmps)=true
  | .no=>Region.wanted o (yielded all a.tmps)=false
  | .split d c=>lk s.t d=some (.b c)
  | .fY=>True:=by
 unfold Bq at h
 split at h
 ·rename_i hn;subst h;simp [Region.wanted,hn]
 ·rename_i j want hgd
  split at h
  case h_2=>subst h;trivial
  rename_i op hq
  split at h
  case h_2=>subst h;trivial
  rename_i d hd
  rw [F2] at hq
  have hq':all[j]?=some op:=by simpa using hq
  have key: ∀ x,lk s.t d=some x->yielded all a.tmps j=match x.den β with|.bool b=>some b|_=>none:=fun x hx=>by
   have h1:=(hg.GZ d x hx).1
   have h2:=hg.tmps d x hx
   have hsz:=hg.size
   have h3:a.tmps[d]?=some (x.den β):=by
    rw [<-h2,Array.getD_eq_getD_getElem?]
    have:d<a.tmps.size:=Nat.lt_of_lt_of_eq h1 hsz.symm
    simp [this]
   simp only [yielded,hq',Option.bind_some,hd,h3]
   cases x.den β<;>rfl
  split at h
  ·rename_i hx
   have:=key _ hx
   simp only [SV.den] at this
   split at h<;>subst h<;>simp [Region.wanted,hgd,this]
  ·rename_i hx
   have:=key _ hx
   simp only [SV.den] at this
   split at h<;>subst h<;>simp [Region.wanted,hgd,this]
  ·rename_i hx
   have:=key _ hx
   simp only [SV.den] at this
   subst h
   simp [Region.wanted,hgd,this]
  ·rename_i hx;subst h;exact hx
  ·subst h;trivial
theorem Al {o:Oper} {K:Act->World->Prop} {Q':Exit->Act->World->Prop} {v:Value} {w':World} (h:(execOp a.eval o).run P w=.ok (.value v) w') (hk:K (a.put o.dst v) w'):o.wp P a w K Q':=by
 unfold Oper.wp;rw [h];exact hk
theorem Nk {o:Oper} {K:Act->World->Prop} {Q':Exit->Act->World->Prop} {w':World} (h:(execOp a.eval o).run P w=.ok .skip w') (hk:K (a.put o.dst undef) w'):o.wp P a w K Q':=by
 unfold Oper.wp;rw [h];exact hk
theorem Ge (hg:G w0 F D0 D s N β a w) {o:Oper} {f:Nat} {args:List SV} (h:callee s o.op=some (f,args)) (hb:Bm P f=true):(execOp a.eval o).run P w=.ok (.enter f (AA β args).toArray) w:=by
 have map_v: ∀ l:List Value,AA β (l.map SV.v)=l:=fun l=>by
  induction l with
  | nil=>simp [AA]
  | cons x r ih=>simp [AA,SV.den,ih]
 unfold callee at h
 split at h
 case h_2=>cases h
 rename_i g args' ts ho
 split at h
 ·rename_i f' caps h1
  split at h
  case h_2=>cases h
  rename_i l h2
  obtain ⟨h3,_⟩:=Dl hg h2
  split at h
  ·rename_i hf
   simp only [Option.some.injEq,Prod.mk.injEq] at h
   obtain ⟨rfl,rfl⟩:=h
   simp [execOp,ho,resolve,Deferred.ofValue,AB hg h1,SV.den,J9 hf,invoke,Cf hb,h3,CA]
  ·rename_i hf
   simp only [Option.some.injEq,Prod.mk.injEq] at h
   obtain ⟨rfl,rfl⟩:=h
   simp [execOp,ho,resolve,Deferred.ofValue,AB hg h1,SV.den,EM hf,invoke,Cf hb,h3,CA]
 ·rename_i f' caps h1
  split at h
  case h_2=>cases h
  rename_i l h2
  simp only [Option.some.injEq,Prod.mk.injEq] at h
  obtain ⟨rfl,rfl⟩:=h
  obtain ⟨h3,_⟩:=Dl hg h2
  simp [execOp,ho,resolve,Deferred.ofValue,AB hg h1,SV.den,invoke,Cf hb,h3,CA,map_v]
 ·cases h
end
def G7 {α:Type} (f:α->Bool):List α->Bool
 | []=>true
 | x::r=>match f x with
  | true=>G7 f r
  | false=>false
theorem BV {α:Type} {f:α->Bool}: ∀ {l:List α},G7 f l=true↔ ∀ x∈l,f x=true
 | []=>by simp [G7]
 | x::r=>by
  simp only [G7,List.mem_cons,forall_eq_or_imp]
  split
  ·rename_i h;simp [h,BV (l:=r)]
  ·rename_i h;simp [h]
def Vg:Nat->List Nat
 | 0=>[]
 | n+1=>n::Vg n
theorem M7 {i:Nat}: ∀ {n:Nat},i∈Vg n↔i<n
 | 0=>by simp [Vg]
 | n+1=>by simp only [Vg,List.mem_cons,M7 (n:=n)];omega
def PD:List (Nat×Bool)->List Nat
 | []=>[]
 | x::r=>x.1::PD r
theorem T3: ∀ l:List (Nat×Bool),PD l=l.map (·.1)
 | []=>rfl
 | x::r=>by simp [PD,T3 r]
def nodupB:List Nat->Bool
 | []=>true
 | i::r=>!Dy i r && nodupB r
theorem Hl: ∀ {l:List Nat},nodupB l=true->l.Nodup
 | [],_=>List.nodup_nil
 | i::r,h=>by
  simp only [nodupB,Bool.and_eq_true,Bool.not_eq_true'] at h
  refine List.nodup_cons.2 ⟨fun hm=>?_,Hl h.2⟩
  rw [CX.2 hm] at h;cases h.1
def bX (o:Oper):Bool:=match o.op with
 | .select _ _=>false
 | _=>true
def V8:Callee->List Operand
 | .value f=>[f]
 | .invoke r _=>[r]
 | .builtin _=>[]
def K3:Op->List Operand
 | .alloc _=>[]
 | .ready _=>[]
 | .waits _=>[]
 | .move x=>[x]
 | .assign x=>[x]
 | .box _ x=>[x]
 | .load _ x=>[x]
 | .nilCheck x=>[x]
 | .unOp _ _ x=>[x]
 | .convert _ _ x=>[x]
 | .sliceToArrayPointer _ x=>[x]
 | .makeInterface _ x=>[x]
 | .makeChan _ x=>[x]
 | .fieldAddr _ x _=>[x]
 | .field _ x _=>[x]
 | .range _ x=>[x]
 | .next x _=>[x]
 | .entry x=>[x]
 | .typeAssert x _ _ _=>[x]
 | .extract x _=>[x]
 | .panic x=>[x]
 | .recv _ x _=>[x]
 | .pick c a b=>[c,a,b]
 | .build _ ⟨ps⟩=>TS ps
 | .buildSlice _ _ ⟨ps⟩=>TS ps
 | .store _ a v=>[a,v]
 | .binOp _ _ a v _=>[a,v]
 | .makeSlice _ a v=>[a,v]
 | .indexAddr _ a v=>[a,v]
 | .index _ a v=>[a,v]
 | .lookup _ a v _=>[a,v]
 | .mapEntry _ a v=>[a,v]
 | .send a v=>[a,v]
 | .makeFunc _ ⟨f⟩ ⟨c⟩=>f++c
 | .makeMap _ r=>aJ r
 | .slice _ x l h m=>x::(aJ l++(aJ h++aJ m))
 | .mapUpdate _ m k v=>[m,k,v]
 | .entryStore _ m k v=>[m,k,v]
 | .insert _ m k v=>[m,k,v]
 | .call ⟨c,⟨args⟩,_⟩=>V8 c++args
 | .go ⟨c,⟨args⟩,_⟩=>V8 c++args
 | .defer ⟨c,⟨args⟩,_⟩=>V8 c++args
 | .select cs b=>(Op.select cs b).operands.toList
theorem P8: ∀ l:List (Nat×Operand),TS l=l.map (·.2)
 | []=>rfl
 | x::r=>by simp [TS,P8 r]
theorem YF (o:Op):K3 o=o.operands.toList:=by
 have hc: ∀ c:Call,V8 c.callee++c.args.toList=c.operands.toList:=fun c=>by
  unfold Call.operands V8
  cases c.callee<;>simp
 cases o with
 | call c=>exact hc c
 | go c=>exact hc c
 | defer c=>exact hc c
 | slice T x l h m=>cases l<;>cases h<;>cases m<;>simp [K3,Op.operands,aJ]
 | makeMap T r=>cases r<;>simp [K3,Op.operands,aJ]
 | build T ps=>simp [K3,Op.operands,P8]
 | buildSlice T n ps=>simp [K3,Op.operands,P8]
 | makeFunc f a c=>simp [K3,Op.operands]
 | _=>simp [K3,Op.operands]
theorem Oi: ∀ l:List Operand,tmpsOf l=l.filterMap fun|.tmp t=>some t|_=>none
 | []=>rfl
 | x::r=>by cases x<;>simp [tmpsOf,Oi r]
def PQ (all:Array Oper) (o:Oper):List Nat:=tmpsOf (K3 o.op)++XD all o
theorem VI (all:Array Oper) (o:Oper):PQ all o=o.looksAt all:=by
 unfold PQ Oper.looksAt
 rw [YF,Oi]
 congr 1
 unfold XD
 cases o.guard with
 | none=>rfl
 | some g=>
  obtain ⟨j,b⟩:=g
  simp only [F2]
  rw [show all.toList[j]?=all[j]? by simp]
  cases all[j]? with
  | none=>rfl
  | some q=>simp only [Option.bind_some];cases q.dst<;>rfl
def R6 (all:Array Oper) (x y:Oper):Bool:=
 (match x.dst with
  | some d=>!Dy d (PQ all y) && (match y.dst with|some d'=>!Nat.beq d' d|none=>true)
  | none=>true) &&
 (match y.dst with
  | some d=>!Dy d (PQ all x)
  | none=>true)
theorem N5 (i:Nat) (l:List Nat):Dy i l=l.contains i:=by
 rw [Bool.eq_iff_iff,CX];simp [List.contains_eq_mem]
theorem Un {all:Array Oper} {x y:Oper} (h:R6 all x y=true):x.apart all y=true:=by
 unfold R6 at h
 unfold Oper.apart
 simp only [Bool.and_eq_true,VI,N5] at h ⊢
 obtain ⟨h1,h2⟩:=h
 refine ⟨?_,h2⟩
 cases hx:x.dst with
 | none=>rfl
 | some d=>
  rw [hx] at h1
  simp only [Bool.and_eq_true] at h1 ⊢
  refine ⟨h1.1,?_⟩
  cases hy:y.dst with
  | none=>rfl
  | some d'=>
   have h3:=h1.2
   rw [hy] at h3
   simp only [Bool.not_eq_true'] at h3
   simp only [bne_iff_ne,ne_eq,Option.some.injEq]
   rintro rfl
   simp at h3
def Ts (all:List Oper):List Nat->List Nat->Bool
 | _,[]=>true
 | acc,i::r=>(match nth all i with|some o=>G7 (fun e=>!MG e || Dy e.on acc) o.after.toList|none=>false) && Ts all (i::acc) r
def eV (all:Array Oper) (ms:List Nat) (i j:Nat):Bool:=match nth all.toList i,nth all.toList j with
 | some oi,some oj=>
  (match oi.dst with|none=>true|some u=>(!Dy u (K6 all oj) || B5 ms j i) && (match oj.dst with|some d=>!Nat.beq d u|none=>true)) &&
  (match oj.dst with|none=>true|some u=>!Dy u (K6 all oi) || B5 ms j i)
 | _,_=>false
def aj (all:Array Oper) (ms:List Nat):List Nat->Bool
 | []=>true
 | i::r=>G7 (eV all ms i) r && aj all ms r
def ak (ms:List Nat) (pre:List (Nat×Bool)):List Nat->List Nat->Bool
 | _,[]=>true
 | acc,j::r=>G7 (B5 ms j) acc && G7 (fun x=>x.2 || B5 ms j x.1) pre && ak ms pre (j::acc) r
def QN (i:Nat):List Edge->Bool
 | []=>false
 | e::r=>(MG e && Nat.beq e.on i) || QN i r
def jD (all:Array Oper) (ms:List Nat) (pre:List (Nat×Bool)):Bool:=
 G7 (fun x=>!x.2 || G7 (fun j=>Nat.beq j x.1 || B5 ms x.1 j || match nth all.toList j,nth all.toList x.1 with
  | some oj,some oi=>QN x.1 oj.after.toList || R6 all oi oj
  | _,_=>true) (Vg all.toList.length)) pre
theorem Sd: ∀ {a b:List Nat},c7 a b=true->a=b
 | [],[],_=>rfl
 | [],_::_,h=>by simp [c7] at h
 | _::_,[],h=>by simp [c7] at h
 | x::r,y::t,h=>by
  simp only [c7] at h
  split at h
  ·rename_i hx;rw [Nat.eq_of_beq_eq_true hx,Sd h]
  ·cases h
def ZT (all:Array Oper) (q:Ic):Bool:=
 c7 q.ms (Cs all.toList []) && G7 bX all.toList && nodupB (PD q.pre) && nodupB (Fl q.Hu) && G7 (fun i=>Dy i (PD q.pre) || Dy i (Fl q.Hu)) (Vg all.toList.length) &&
 G7 (fun i=>Nat.ble (i+1) all.toList.length && !Dy i (PD q.pre)) (Fl q.Hu) && Ts all.toList [] (PD q.pre++(Fl q.Hu)) && aj all q.ms (PD q.pre) && ak q.ms q.pre [] (Fl q.Hu) && jD all q.ms q.pre
theorem Ie {all:Array Oper}: ∀ {l acc p q:List Nat} {j:Nat} {o:Oper},Ts all.toList acc l=true->l=p++j::q->all[j]?=some o-> ∀ e∈o.after,Region.binds .any e=true->e.on∈acc\/e.on∈p
 | [],acc,p,q,j,o,_,h,_=>by simp at h
 | i::r,acc,p,q,j,o,h,hs,ho=>by
  simp only [Ts,Bool.and_eq_true] at h
  cases p with
  | nil=>
   simp only [List.nil_append,List.cons.injEq] at hs
   obtain ⟨rfl,rfl⟩:=hs
   intro e he hb
   have h1:=h.1
   rw [F2,show all.toList[i]?=some o by simpa using ho] at h1
   have h2:=BV.1 h1 e (by simpa using he)
   rw [J2,hb] at h2
   exact .inl (CX.1 (by simpa using h2))
  | cons x p=>
   simp only [List.cons_append,List.cons.injEq] at hs
   obtain ⟨rfl,hs⟩:=hs
   intro e he hb
   rcases Ie h.2 hs ho e he hb with h3|h3
   ·rcases List.mem_cons.1 h3 with h3|h3
    ·exact .inr (by simp [h3])
    ·exact .inl h3
   ·exact .inr (by simp [h3])
theorem Oe {all:Array Oper} {ms:List Nat}: ∀ {l p q:List Nat} {i j:Nat},aj all ms l=true->l=p++i::q->j∈q->eV all ms i j=true
 | [],p,q,i,j,_,h,_=>by simp at h
 | x::r,p,q,i,j,h,hs,hj=>by
  simp only [aj,Bool.and_eq_true] at h
  cases p with
  | nil=>
   simp only [List.nil_append,List.cons.injEq] at hs
   obtain ⟨rfl,rfl⟩:=hs
   exact BV.1 h.1 j hj
  | cons y p=>
   simp only [List.cons_append,List.cons.injEq] at hs
   exact Oe h.2 hs.2 hj
theorem Og {ms:List Nat} {pre:List (Nat×Bool)}: ∀ {l acc p q:List Nat} {j:Nat},ak ms pre acc l=true->l=p++j::q->(∀ i,i∈acc\/i∈p->B5 ms j i=true)/\(∀ x∈pre,x.2=false->B5 ms j x.1=true)
 | [],acc,p,q,j,_,h=>by simp at h
 | x::r,acc,p,q,j,h,hs=>by
  simp only [ak,Bool.and_eq_true] at h
  cases p with
  | nil=>
   simp only [List.nil_append,List.cons.injEq] at hs
   obtain ⟨rfl,rfl⟩:=hs
   refine ⟨fun i hi=>?_,fun y hy hf=>?_⟩
   ·rcases hi with hi|hi
    ·exact BV.1 h.1.1 i hi
    ·cases hi
   ·have:=BV.1 h.1.2 y hy
    rw [hf] at this;simpa using this
  | cons y p=>
   simp only [List.cons_append,List.cons.injEq] at hs
   obtain ⟨rfl,hs⟩:=hs
   have:=Og h.2 hs
   refine ⟨fun i hi=>this.1 i ?_,this.2⟩
   rcases hi with hi|hi
   ·exact .inl (by simp [hi])
   ·rcases List.mem_cons.1 hi with hi|hi
    ·exact .inl (by simp [hi])
    ·exact .inr hi
theorem MD {i:Nat}: ∀ {l:List Edge},QN i l=true-> ∃ e∈l,Region.binds .any e=true/\e.on=i
 | [],h=>by simp [QN] at h
 | e::r,h=>by
  simp only [QN,Bool.or_eq_true,Bool.and_eq_true,J2] at h
  rcases h with h|h
  ·exact ⟨e,by simp,h.1,Nat.eq_of_beq_eq_true h.2⟩
  ·obtain ⟨e',h1,h2⟩:=MD h;exact ⟨e',by simp [h1],h2⟩
section
variable {S:Am}
def Rec.key (r:Rec S):Nat×Bool:=(r.i,r.pu)
theorem Uw {all:Array Oper} {dr:Ic} {rs:List (Rec S)} (h:ZT all dr=true) (hk:rs.map Rec.key=dr.pre) (ho: ∀ r∈rs,all[r.i]?=some r.o):bB all dr.ms rs (Fl dr.Hu):=by
 simp only [ZT,Bool.and_eq_true] at h
 obtain ⟨⟨⟨⟨⟨⟨⟨⟨⟨h0,h1⟩,h2⟩,h3⟩,h4⟩,h5⟩,h6⟩,h7⟩,h8⟩,h9⟩:=h
 have h0:dr.ms=Cs all.toList []:=Sd h0
 have hi:PD dr.pre=rs.map (·.i):=by rw [T3,<- hk,List.map_map];rfl
 rw [hi] at h2 h4 h5 h6 h7
 have hanc: ∀ j i,B5 dr.ms j i=Oq all j i:=fun j i=>by unfold Oq;rw [h0]
 have hnth: ∀ {j:Nat} {o:Oper},all[j]?=some o->nth all.toList j=some o:=fun h=>by rw [F2];simpa using h
 have h5': ∀ i∈(Fl dr.Hu),i<all.size/\i ∉ rs.map (·.i):=fun i hi=>by
  have:=BV.1 h5 i hi
  simp only [Bool.and_eq_true,Bool.not_eq_true'] at this
  refine ⟨by have:=Nat.le_of_ble_eq_true this.1;simp at this;omega,fun hm=>?_⟩
  rw [CX.2 hm] at this;cases this.2
 refine ⟨h0,fun j o cs b ho' heq=>?_,ho,Hl h2,fun i hlt=>?_,h5',Hl h3,fun p r q hr e he hb=>?_,fun p j q o hs ho' e he hb=>?_,fun p r q r' hr hr'=>?_,fun p j q hs=>?_,fun r hr hpu j oj hoj hji hnanc hno=>?_⟩
 ·have:=BV.1 h1 o (by have:=Array.mem_of_getElem? ho';simpa using this)
  simp [bX,heq] at this
 ·have:=BV.1 h4 i (M7.2 (by simpa using hlt))
  simp only [Bool.or_eq_true,CX] at this
  exact this
 ·have:=Ie h6 (p:=p.map (·.i)) (q:=q.map (·.i)++(Fl dr.Hu)) (j:=r.i) (by rw [hr];simp) (ho r (by rw [hr];simp)) e he hb
  simpa using this
 ·have:=Ie h6 (p:=rs.map (·.i)++p) (q:=q) (j:=j) (by rw [hs];simp) ho' e he hb
  simpa using this
 ·have:=Oe h7 (p:=p.map (·.i)) (q:=q.map (·.i)) (i:=r.i) (j:=r'.i) (by rw [hr];simp) (List.mem_map.2 ⟨r',hr',rfl⟩)
  unfold eV at this
  rw [hnth (ho r (by rw [hr];simp)),hnth (ho r' (by rw [hr];simp [hr']))] at this
  simp only [Bool.and_eq_true] at this
  obtain ⟨ha,hb⟩:=this
  refine ⟨fun u hu hm=>?_,fun u hu hm=>?_,fun u hu hu'=>?_⟩
  ·rw [hu] at ha
   simp only [Bool.and_eq_true,Bool.or_eq_true,Bool.not_eq_true'] at ha
   rcases ha.1 with h|h
   ·rw [CX.2 hm] at h;cases h
   ·rw [<-hanc];exact h
  ·rw [hu] at hb
   simp only [Bool.or_eq_true,Bool.not_eq_true'] at hb
   rcases hb with h|h
   ·rw [CX.2 hm] at h;cases h
   ·rw [<-hanc];exact h
  ·rw [hu] at ha
   simp only [Bool.and_eq_true,hu',Bool.not_eq_true'] at ha
   have:=ha.2;simp at this
 ·have:=Og h8 hs
  refine ⟨fun i hi=>by rw [<-hanc];exact this.1 i (.inr hi),fun r hr hpu=>by rw [<-hanc];exact this.2 (r.i,r.pu) (by rw [<-hk];exact List.mem_map.2 ⟨r,hr,rfl⟩) hpu⟩
 ·have:=BV.1 h9 (r.i,r.pu) (by rw [<-hk];exact List.mem_map.2 ⟨r,hr,rfl⟩)
  simp only [hpu,Bool.not_true,Bool.false_or] at this
  have h10:=BV.1 this j (M7.2 (by have:=(Array.getElem?_eq_some_iff.1 hoj).1;simpa using this))
  rw [hnth hoj,hnth (ho r hr),hanc,hnanc] at h10
  simp only [Bool.or_eq_true,Bool.or_false] at h10
  rcases h10 with h10|h10|h10
  ·exact absurd (Nat.eq_of_beq_eq_true h10) hji
  ·obtain ⟨e,he,hb,hon⟩:=MD h10
   exact absurd hon (hno e (by simpa using he) hb)
  ·exact Un h10
theorem RI (all:Array Oper): ∀ l,l.filterMap (all[·]?)=K4 all l
 | []=>rfl
 | i::r=>by
  simp only [K4,List.filterMap_cons,F2,Array.getElem?_toList]
  cases all[i]?<;>simp [RI all r]
def An:Code->List (Nat×Array Oper×Bool)
 | .region id ops d=>[(id,ops,d)]
 | .seq x y=>An x++An y
 | .cond _ x y=>An x++An y
 | .block _ x=>An x
 | .loop x=>An x
 | .scope x=>An x
 | .rangeFunc _ _ x y=>An x++An y
 | _=>[]
theorem KW: ∀ {c c':Code} {l:Nat},findLabel c l=some c'-> ∀ x∈An c',x∈An c
 | .seq a b,c',l,h,x,hx=>by
  simp only [findLabel] at h
  split at h
  ·rename_i r hr
   cases h
   simp only [An,List.mem_append] at hx ⊢
   exact hx.imp (KW hr x) id
  ·simp only [An,List.mem_append]
   exact .inr (KW h x hx)
 | .label l',c',l,h,x,hx=>by
  simp only [findLabel] at h
  split at h<;>cases h
  simp [An] at hx
 | .region ..,c',l,h,x,hx=>by simp [findLabel] at h
 | .cond ..,c',l,h,x,hx=>by simp [findLabel] at h
 | .block ..,c',l,h,x,hx=>by simp [findLabel] at h
 | .loop ..,c',l,h,x,hx=>by simp [findLabel] at h
 | .scope ..,c',l,h,x,hx=>by simp [findLabel] at h
 | .skip,c',l,h,x,hx=>by simp [findLabel] at h
 | .exit _,c',l,h,x,hx=>by simp [findLabel] at h
 | .goto _,c',l,h,x,hx=>by simp [findLabel] at h
 | .ret,c',l,h,x,hx=>by simp [findLabel] at h
 | .rangeFunc ..,c',l,h,x,hx=>by simp [findLabel] at h
 | .refuse _,c',l,h,x,hx=>by simp [findLabel] at h
theorem VY {c c':Code} {i:Nat} (h:G6 i c=some c'): ∀ x∈An c',x∈An c:=by
 intro x hx
 unfold G6 at h
 split at h
 all_goals first
  | (cases h;simp only [An,List.mem_append];first|exact .inl hx|exact .inr hx|exact hx)
  | exact KW h x hx
  | cases h
theorem P3 {body:Code}: ∀ {a:List Nat} {c:Code},HI body a=some c-> ∀ x∈An c,x∈An body
 | [],c,h,x,hx=>by simp only [HI,Option.some.injEq] at h;subst h;exact hx
 | i::a,c,h,x,hx=>by
  simp only [HI] at h
  split at h
  ·rename_i c1 h1
   exact P3 h1 x (VY h x hx)
  ·cases h
def Hz (body:Code) (dr:List (Nat×Ic)):Bool:=G7 (fun x=>match x.2.2 with
 | true=>match lk dr x.1 with
  | some q=>ZT x.2.1 q
  | none=>true
 | false=>true) (An body)
theorem SY {body:Code} {dr:List (Nat×Ic)} (h:Hz body dr=true) {a:List Nat} {id:Nat} {ops:Array Oper} (ha:HI body a=some (.region id ops true)) {q:Ic} (hq:lk dr id=some q):ZT ops q=true:=by
 have:=BV.1 h (id,ops,true) (P3 ha _ (by simp [An]))
 simpa [hq] using this
end
end Go.En
namespace Go.En
open Go.RowKit
section
variable {S:Am} {P:Program} {w0:World} {F D0 D:Nat->Prop} {s:St S} {N:Nat->Prop} {β:Nat->Nm} {a:Act} {w:World}
theorem K7 {T e esz:Nat} {o:Oper} {d:Option Tmp} (ho:o.op=.buildSlice T 0 ⟨[]⟩) (h2:P.underlying T=some (.slice e)) (h3:(P.info? e).map (·.size)=some esz):(execOp a.eval o).run P w=.ok (.value (.slice (some ⟨w.heap.size,0,none⟩) 0 0)) (w.alloc (.cells #[] e)):=by
 simp [execOp,ho,Instr.buildSlice,Sem.run_bind,run_underlying h2,Result.andThen_ok,Ak h3,newRow,run_newObj,Instr.fill,Array.range_zero',List.map_toArray,List.map_nil]
 first|rfl|done
theorem Sw {tb:List (Nat×TI)} (htb:AW S P tb) {all:List Oper} {o:Oper} {e:Nat} (h:XL tb all o=some e):(execOp a.eval o).run P w=.ok (.value (.slice (some ⟨w.heap.size,0,none⟩) 0 0)) (w.alloc (.cells #[] e)):=by
 unfold XL at h
 split at h
 case h_2=>cases h
 rename_i T d ho hd
 split at h
 case h_2=>cases h
 rename_i e' esz ht _
 have hd:=AY htb ht
 simp only [TD.ok] at hd
 split at h
 case h_2=>cases h
 split at h
 case h_2=>cases h
 cases h
 exact K7 (d:=none) ho hd.1 hd.2
theorem Kk {tb:List (Nat×TI)} (htb:AW S P tb) (hg:G w0 F D0 D s N β a w) {o:Oper} {j:Nat} {b:Bool} {c:Option Bool} {o1:List (Nat×Own S)} {n':Nat} {v:SV} (h:Uo tb s o.op=some (j,b,.nm c o1 n' v)) (hc:CG c):
  (b=true->N j/\ ∃ w',(execOp a.eval o).run P w=.ok (.value ((SV.view j 0 0 0).den β)) w'/\Below w.heap.size w w')/\
  (b=false->(∀ j,s.n<=j->j<n'->¬ N j)-> ∃ β' w',(execOp a.eval o).run P w=.ok (.value (v.den β')) w'/\By D D N s.n n' o1 β β' w w'/\v.on (more N s.n n')):=by
 unfold Uo at h
 split at h
 case h_2=>cases h
 rename_i x y T T' hop
 split at h
 case h_2=>cases h
 rename_i e esz hT ht
 have hT:=Nat.eq_of_beq_eq_true hT
 subst hT
 have hd:=AY htb ht
 simp only [TD.ok] at hd
 split at h
 case h_2=>cases h
 rename_i te hte
 have hoe:=htb.get hte
 split at h
 case h_2=>cases h
 rename_i τ hτ
 obtain ⟨hsz,hpos,_,_⟩:=hoe.Y8 τ hτ
 split at h
 case h_2=>cases h
 rename_i j' yv hz hx hy
 have hz:=Nat.eq_of_beq_eq_true hz
 split at h
 case h_2=>cases h
 rename_i E hj
 split at h
 case h_2=>cases h
 rename_i c' l' hE hs
 have hE:=Nat.eq_of_beq_eq_true hE
 subst hE
 simp only [Option.some.injEq,Prod.mk.injEq,R.nm.injEq] at h
 obtain ⟨rfl,rfl,rfl,rfl,rfl,rfl⟩:=h
 have hcc:CG c'/\room te.bs l'.length=true:=by
  cases c' with
  | none=>exact ⟨trivial,hc⟩
  | some c=>simp only [CG,Cu,Bool.and_eq_true] at hc;exact hc
 obtain ⟨hc1,hroom⟩:=hcc
 simp only [room,decide_eq_true_eq] at hroom
 have hsrc:=L4 hg.gh hs hc1
 obtain ⟨g,hb1,hb2⟩:=hg.gh.own j' _ hj
 have hinf:=hoe.info
 cases hi:P.info? E with
 | none=>simp [hi] at hinf
 | some i=>
 simp only [hi,Option.map_some,Option.some.injEq,Prod.mk.injEq] at hinf
 obtain ⟨hiz,his,hib⟩:=hinf
 have hzc:te.z.cells.size=te.sz:=by rw [<-Array.length_toList,hoe.zc β,AG,hoe.zl]
 have e1:a.eval x=.slice (some ⟨g,0,none⟩) 0 0:=by rw [AB hg hx];simp [SV.den,Nm.AQ,hb1]
 have e2:a.eval y=yv.den β:=AB hg hy
 have hden:(SV.view j' 0 0 0).den β=.slice (some ⟨g,0,none⟩) 0 0:=by simp [SV.den,Nm.AQ,hb1]
 have hex: ∀ v' w',(Builtin.append_ #[T',T'] o.type #[.slice (some ⟨g,0,none⟩) 0 0,yv.den β]).run P w=.ok v' w'->(execOp a.eval o).run P w=.ok (.value v') w':=fun v' w' hr=>by
  unfold execOp
  simp only [hop,resolve,invoke,builtin,Sem.run_bind,Sem.run_pure,Result.andThen_ok,List.map_toArray,List.map_cons,List.map_nil,e1,e2,hr]
 have hown:w.ownsRow 0 E te.sz (.slice (some ⟨g,0,none⟩) 0 0) 0 []:=⟨by simp,.inr ⟨g,0,#[],rfl,Nat.zero_le _,hb2,Nat.le_refl _,Nat.zero_le _,by simp,by simp⟩⟩
 have hnone: ∀ (a':Option Addr) (c':Nat),yv.den β=.slice a' 0 c'-> ∃ w',(Builtin.append_ #[T',T'] o.type #[.slice (some ⟨g,0,none⟩) 0 0,yv.den β]).run P w=.ok (.slice (some ⟨g,0,none⟩) 0 0) w'/\Below w.heap.size w w':=fun a' c' hv=>by
  rw [hv]
  cases a' with
  | none=>exact ⟨w,by simp [Builtin.append_,run_underlying hd.1,sizeOf,typeInfo,hi,Builtin.lenOf,Builtin.firstCells,storeCells],Below.refl _ _⟩
  | some ad=>
   have hr:=run_append_room (P:=P) w T' o.type E i hd.1 hi g 0 0 #[] hb2 ad 0 c' [] (by simp) (fun j u hu=>by simp at hu) (fun u hu=>by simp at hu) (Nat.le_refl _) (by simp)
   have he:((#[]:Array Value).toList.take (0*i.size)++[]++(#[]:Array Value).toList.drop (0*i.size+([]:List Value).length)).toArray=#[]:=by simp
   rw [he,setRow_self w g #[] E (0,0) hb2] at hr
   exact ⟨w,hr,Below.refl _ _⟩
 refine ⟨fun hb=>?_,fun hb hN=>?_⟩
 ·have hl0:l'=[]:=List.eq_nil_of_length_eq_zero (by simpa using hb)
  refine ⟨(hg.gh.Bf j' _ hj).1,?_⟩
  subst hl0
  have: ∃ a' c',yv.den β=.slice a' 0 c':=by
   rcases hsrc with ⟨_,h2⟩|⟨_,a',c',h2⟩|⟨ad,c',us,h1,_,_⟩
   ·exact ⟨none,0,h2⟩
   ·exact ⟨a',c',h2⟩
   ·exact ⟨some ad,c',h1⟩
  obtain ⟨a',c',hv⟩:=this
  obtain ⟨w',h1,h2⟩:=hnone a' c' hv
  exact ⟨w',by rw [hden];exact hex _ _ h1,h2⟩
 ·have hl0:l'≠[]:=fun h=>by subst h;simp at hb
  have hlp:0<l'.length:=List.length_pos_iff.2 hl0
  rcases hsrc with ⟨h1,_⟩|⟨h1,_⟩|⟨ad,c',us,h1,h2,h3⟩
  ·exact absurd h1 hl0
  ·exact absurd h1 hl0
  have hul:us.length=l'.length*te.sz:=by rw [<-h2.1,S.Ap,hsz]
  have hbytes:l'.length*i.bytes<=140737488355328:=by rw [hib];exact Nat.le_trans (Nat.mul_le_mul_left _ (Nat.le_succ _)) hroom
  have hle:l'.length<=140737488355328:=Nat.le_trans (Nat.le_mul_of_pos_right _ (Nat.succ_pos _)) hroom
  have hr:=run_append_grow (P:=P) w T' o.type E i te.z hd.1 hi hiz ⟨g,0,none⟩ 0 0 [] (by simp) (fun j u hu=>by simp at hu) ad l'.length c' us (by rw [his,hul]) h3 (by omega) (by omega) (growslice_fits (by omega) (by simpa using hbytes))
  obtain ⟨v',w',hr2,h4,h5⟩:=run_append_own (P:=P) w 0 T' o.type E i te.z te.sz te.bs hd.1 hi hiz his hib hzc hpos _ 0 [] hown ad l'.length c' us hul h3 h2.VP (by simp only [maxLen];omega) (by rw [Nat.zero_add];exact Nat.le_trans (Nat.mul_le_mul_left _ (Nat.le_succ _)) hroom) (Nat.zero_le _)
  rw [hr] at hr2
  cases hr2
  simp only [List.nil_append,Nat.zero_add] at h4 hr
  generalize hcap:grownCap w l'.length 0 E=cap at h4 hr
  generalize hob:Obj.cells (([]:List Value).toArray++us.toArray++Builtin.zeroCells te.z.cells (cap -l'.length)) E=ob at h4 hr
  obtain ⟨β',hβn,hnew⟩:=By.alloc (D:=D) (N:=N) (β:=β) (w:=w.drew) (n:=s.n) (hN s.n (Nat.le_refl _) (Nat.lt_succ_self _)) (b:=.tr τ E l') (ob:=ob) (len:=l'.length) (cap:=cap) trivial
   (fun β' _ _=>⟨rfl,us,by rw [hsz];exact h4,h2.Bj (fun k hk=>((Below.refl _ w).drew.alloc (Nat.le_refl _) ob).block k (hg.gh.C5 k hk)) fun _ h=>h⟩)
  refine ⟨β',_,?_,{ hnew with below:=(Below.refl _ w).drew.trans hnew.below },?_⟩
  ·rw [h1] at hex
   rw [hex _ _ hr]
   simp only [SV.den,hβn]
   rfl
  ·exact .inr ⟨Nat.le_refl _,Nat.lt_succ_self _⟩
theorem SS {tb:List (Nat×TI)} (htb:AW S P tb) {o2:List (Nat×Own S)} (hg:G w0 F D0 D ⟨s.t,o2,s.n,s.sz⟩ N β a w) (hsub: ∀ i b,lk s.o i=some b->lk o2 i=some b) (hN:¬ N s.n) {op:Oper} {T:Nat} {x y:Operand} (hop:op.op=.call ⟨.builtin .append,#[x,y],#[T,T]⟩)
  {j m n':Nat} (hxj:ev s x=some (.tr j)) {c0:Option Bool} {ow:Own S} {o':List (Nat×Own S)} {v:SV} (h:QO tb s T x y=.x c0 ((m,ow)::o') n' v) (hc:CG c0):
  ∃ β' w',(execOp a.eval op).run P w=.ok (.value ((SV.tr s.n).den β')) w'/\(∀ i,N i->β i=β' i)/\GH w0 F D0 D ((s.n,ow)::rm o2 j) (fun i=>N i\/i=s.n) β' w':=by
 have hg1:G w0 F D0 D s N β a w:=⟨hg.defers,hg.size,hg.GZ,hg.tmps,hg.gh.HG hsub⟩
 unfold QO at h
 split at h
 case h_2=>cases h
 rename_i e esz ht
 have hd:=AY htb ht
 simp only [TD.ok] at hd
 split at h
 case h_2=>cases h
 rename_i te hte
 have hoe:=htb.get hte
 split at h
 case h_2=>cases h
 rename_i τ hτ
 obtain ⟨hsz,hpos,_,_⟩:=hoe.Y8 τ hτ
 split at h
 case h_2=>cases h
 rename_i xv yv hz hx hy
 have hz:=Nat.eq_of_beq_eq_true hz
 split at h
 case h_2=>cases h
 rename_i d l hb
 split at h
 case h_2=>cases h
 rename_i c l' hs
 cases h
 have hdj:d=some j:=by
  rw [hxj] at hx
  cases hx
  unfold OB at hb
  simp only at hb
  split at hb
  case h_2=>cases hb
  split at hb
  ·cases hb;rfl
  ·cases hb
 have hcc:CG c/\room te.bs (l.length+l'.length)=true:=by
  cases c with
  | none=>exact ⟨trivial,hc⟩
  | some c=>simp only [CG,Cu,Bool.and_eq_true] at hc;exact hc
 obtain ⟨hc1,hroom⟩:=hcc
 simp only [room,decide_eq_true_eq] at hroom
 obtain ⟨vs,hown,hvs,A0⟩:=ME hg1.gh hb
 have hsrc:=L4 hg1.gh hs hc1
 have hinf:=hoe.info
 cases hi:P.info? e with
 | none=>simp [hi] at hinf
 | some i=>
 simp only [hi,Option.map_some,Option.some.injEq,Prod.mk.injEq] at hinf
 obtain ⟨hiz,his,hib⟩:=hinf
 have hzc:te.z.cells.size=te.sz:=by rw [<-Array.length_toList,hoe.zc β,AG,hoe.zl]
 rw [hsz] at hown
 have e1:a.eval x=xv.den β:=AB hg1 hx
 have e2:a.eval y=yv.den β:=AB hg1 hy
 have hlen_le:l.length+l'.length<=(l.length+l'.length)*(te.bs+1):=Nat.le_mul_of_pos_right _ (by omega)
 -- what append gives
 have key: ∃ v' w',(Builtin.append_ #[T,T] op.type #[xv.den β,yv.den β]).run P w=.ok v' w'/\(∃ us,w'.ownsRow 0 e te.sz v' (l++l').length us/\AE S w D (S.flat τ (l++l')) us)/\w.grownBy w' (xv.den β).ownBlock/\
   (v'.ownBlock=none\/v'.ownBlock=(xv.den β).ownBlock\/v'.ownBlock=some w.heap.size):=by
  have hnil: ∀ (a':Option Addr) (c':Nat),yv.den β=.slice a' 0 c'->l'=[]->(a'=none->c'=0)-> ∃ v' w',(Builtin.append_ #[T,T] op.type #[xv.den β,yv.den β]).run P w=.ok v' w'/\(∃ us,w'.ownsRow 0 e te.sz v' (l++l').length us/\AE S w D (S.flat τ (l++l')) us)/\w.grownBy w' (xv.den β).ownBlock/\
   (v'.ownBlock=none\/v'.ownBlock=(xv.den β).ownBlock\/v'.ownBlock=some w.heap.size):=by
   intro a' c' hv hl' hac
   subst hl'
   cases a' with
   | none=>
    have:=hac rfl;subst this
    refine ⟨xv.den β,w,?_,⟨vs,by simpa using hown,by simpa using hvs⟩,⟨rfl,rfl,rfl,Nat.le_refl _,fun _ _ _=>rfl⟩,.inr (.inl rfl)⟩
    rw [hv]
    exact run_append_owned_none (P:=P) w 0 T op.type e i te.sz hd.1 hi (xv.den β) l.length vs hown
   | some ad=>
    obtain ⟨v',w',hr,h2,h3,h4⟩:=Bv w T op.type e i te.z te.sz te.bs hd.1 hi hiz his hib hzc hpos (xv.den β) l.length vs hown ad 0 c' [] (by simp) (fun j u hu=>by simp at hu) (fun u hu=>by simp at hu)
     (by simp only [maxLen];simp only [List.length_nil,Nat.add_zero] at hroom hlen_le;omega) (Nat.le_trans (Nat.mul_le_mul_left _ (Nat.le_succ te.bs)) (by simpa using hroom))
    exact ⟨v',w',by rw [hv];exact hr,⟨vs,by simpa using h2,by simpa using hvs⟩,h3,h4⟩
  rcases hsrc with ⟨h1,h2⟩|⟨h1,a',c',h2⟩|⟨ad,c',us,h1,h2,h3⟩
  ·exact hnil none 0 h2 h1 fun _=>rfl
  ·cases a' with
   | none=>
    -- a nil address with a capacity: the model appends nothing
    subst h1
    refine ⟨xv.den β,w,?_,⟨vs,by simpa using hown,by simpa using hvs⟩,⟨rfl,rfl,rfl,Nat.le_refl _,fun _ _ _=>rfl⟩,.inr (.inl rfl)⟩
    rw [h2]
    rcases hown.2 with ⟨h5,h6⟩|⟨g,cap,cur,h5,_,_,hnc,_⟩
    ·rw [h5];simp [Builtin.append_,run_underlying hd.1,sizeOf,typeInfo,hi,Builtin.lenOf,Builtin.firstCells]
    ·rw [h5];simp [Builtin.append_,run_underlying hd.1,sizeOf,typeInfo,hi,Builtin.lenOf,Builtin.firstCells,hnc,storeCells]
   | some ad=>exact hnil (some ad) c' h2 h1 (fun h=>by cases h)
  ·obtain ⟨v',w',hr,h4,h5,h6⟩:=Bv w T op.type e i te.z te.sz te.bs hd.1 hi hiz his hib hzc hpos (xv.den β) l.length vs hown ad l'.length c' us (by rw [<-h2.1,S.Ap,hsz]) h3 h2.VP
    (by simp only [maxLen];omega) (Nat.le_trans (Nat.mul_le_mul_left _ (by omega)) hroom)
   exact ⟨v',w',by rw [h1];exact hr,⟨vs++us,by rw [List.length_append];exact h4,by rw [S.Eb];exact hvs.append h2⟩,h5,h6⟩
 obtain ⟨v',w',hr,⟨us,h2,hus⟩,h3,h4⟩:=key
 have A0: ∀ k,(SV.den β xv).ownBlock=some k-> ∃ i b,d=some i/\lk o2 i=some b/\(β i).b=some k:=fun k hk=>let ⟨i,b,a1,a2,a3⟩:=A0 k hk;⟨i,b,a1,hsub _ _ a2,a3⟩
 obtain ⟨hgh,hD⟩:=hg.gh.YE (d:=d) h3 (fun k hk=>let ⟨i,b,a1,a2,a3⟩:=A0 k hk;⟨i,b,a1,a2,.inl a3⟩)
 have hnb: ∀ g,(Bu (l++l').length v').has g->(Bu (l++l').length v').b=some g:=fun g h=>(Nm.Ew (NC _ _)).1 h
 obtain ⟨hv',hv2,hv3⟩:=D5 (len:=(l++l').length) h2
 obtain ⟨β',hβ,hβn,hgh'⟩:=hgh.name (b:=.tr τ e (l++l')) (nm:=Bu (l++l').length v') (n:=s.n) hN trivial
  (fun β' hβ hn'=>⟨hv3,us,by rw [<-hv',hsz];exact h2,hus.Bj hD fun _ h=>h⟩)
  (fun g hg'=>by
   have hg':=hnb g hg'
   rw [hv2] at hg'
   rcases h4 with h4|h4|h4<;>rw [hg'] at h4
   ·cases h4
   ·obtain ⟨i,b,_,hi,hib⟩:=A0 g h4.symm;exact hg.gh.fresh i b g hi (.inl hib)
   ·simp only [Option.some.injEq] at h4;subst h4;exact .inl hg.gh.fr.size)
  (fun g hg' hD=>by
   have hg':=hnb g hg'
   rw [hv2] at hg'
   rcases h4 with h4|h4|h4<;>rw [hg'] at h4
   ·cases h4
   ·obtain ⟨i,b,_,hi,hib⟩:=A0 g h4.symm;exact hg.gh.off i b g hi (.inl hib) hD
   ·simp only [Option.some.injEq] at h4;subst h4;have:=hg.gh.C5 _ hD;omega)
  (fun i b g hi hib he=>by
   have he:=hnb g he
   rw [hv2] at he
   have hi':=EL i b hi
   rcases h4 with h4|h4|h4<;>rw [he] at h4
   ·cases h4
   ·obtain ⟨j,c,hd',hj,hjb⟩:=A0 g h4.symm
    have:=hg.gh.inj i j b c g hi' hj hib (.inl hjb)
    subst this
    subst hd'
    simp [EG,Ci] at hi
   ·simp only [Option.some.injEq] at h4;subst h4;have:=hg.gh.lt i b _ hi' hib;omega)
  (fun g hg'=>by
   have hg':=hnb g hg'
   rw [hv2] at hg'
   exact ownsRow_blk_lt h2 hg')
 subst hdj
 refine ⟨β',w',?_,hβ,hgh'⟩
 unfold execOp
 simp only [hop,resolve,invoke,builtin,Sem.run_bind,Sem.run_pure,Result.andThen_ok,List.map_toArray,List.map_cons,List.map_nil,e1,e2,hr,SV.den,hβn,hv3]
 rw [<-hv']
end
end Go.En
