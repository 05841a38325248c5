/- A region that draws its order: by checking (chkB), and by evaluation (drawT). -/
import Derived.Test.YtpjlciengdhjoaaGreatDoorEn12a
import Derived.Test.YtpjlciengdhjoaaGreatDoorMb
import Derived.Laws.CopyRow
namespace Go.En
open Go.RowKit
section
variable {S:As} {P:Program} {w0:World} {F D0:Nat->Prop} {s:St S} {D:Nat->Prop} {N:Nat->Prop} {β:Nat->Nm} {a:Act} {w:World}
theorem Ak (hg:G w0 F D0 D s N β a w) {all:Array Oper} {o:Oper} {q:Wn} (h:CA s all o=q):match q with
  | .yes=>Region.wanted o (yielded all a.tmps)=true
  | .no=>Region.wanted o (yielded all a.tmps)=false
  | .split d c=>lk s.t d=some (.b c)
  | .iS=>True:=by
 unfold CA at h
 split at h
 ·rename_i hn;subst h;simp [Region.wanted,hn]
 ·rename_i j want hgd
  split at h
  case h_2=>subst h;trivial
  rename_i op hq
  split at h
  case h_2=>subst h;trivial
  rename_i d hd
  rw [GI] at hq
  have hq':all[j]?=some op:=by simpa using hq
  have key: ∀ x,lk s.t d=some x->yielded all a.tmps j=match x.den β with|.bool b=>some b|_=>none:=fun x hx=>by
   have h1:=(hg.Gw d x hx).1
   have h2:=hg.tmps d x hx
   have hsz:=hg.size
   have h3:a.tmps[d]?=some (x.den β):=by
    rw [<-h2,lm]
    have:d<a.tmps.size:=Nat.lt_of_lt_of_eq h1 hsz.symm
    simp [this]
   simp only [yielded,hq',Option.bind_some,hd,h3]
   cases x.den β<;>rfl
  split at h
  ·rename_i hx
   have:=key _ hx
   simp only [SV.den] at this
   split at h<;>subst h<;>simp [Region.wanted,hgd,this]
  ·rename_i hx
   have:=key _ hx
   simp only [SV.den] at this
   split at h<;>subst h<;>simp [Region.wanted,hgd,this]
  ·rename_i hx
   have:=key _ hx
   simp only [SV.den] at this
   subst h
   simp [Region.wanted,hgd,this]
  ·rename_i hx;subst h;exact hx
  ·subst h;trivial
theorem Aq {o:Oper} {K:Act->World->Prop} {Q':Exit->Act->World->Prop} {v:Value} {w':World} (h:(execOp a.eval o).run P w=.ok (.value v) w') (hk:K (a.put o.dst v) w'):o.wp P a w K Q':=by
 unfold Oper.wp;rw [h];exact hk
theorem OS {o:Oper} {K:Act->World->Prop} {Q':Exit->Act->World->Prop} {w':World} (h:(execOp a.eval o).run P w=.ok .skip w') (hk:K (a.put o.dst undef) w'):o.wp P a w K Q':=by
 unfold Oper.wp;rw [h];exact hk
theorem G0 (hg:G w0 F D0 D s N β a w) {o:Oper} {f:Nat} {args:List SV} (h:callee s o.op=some (f,args)) (hb:B9 P f=true):(execOp a.eval o).run P w=.ok (.enter f (AD β args).toArray) w:=by
 have map_v: ∀ l:List Value,AD β (l.map SV.v)=l:=fun l=>by
  induction l with
  | nil=>simp [AD]
  | cons x r ih=>simp [AD,SV.den,ih]
 unfold callee at h
 split at h
 case h_2=>cases h
 rename_i g args' ts ho
 split at h
 ·rename_i f' caps h1
  split at h
  case h_2=>cases h
  rename_i l h2
  obtain ⟨h3,_⟩:=Dt hg h2
  split at h
  ·rename_i hf
   simp only [am,bi] at h
   obtain ⟨rfl,rfl⟩:=h
   simp [execOp,ho,resolve,Deferred.ofValue,AE hg h1,SV.den,Kl hf,invoke,Cv hb,h3,CZ]
  ·rename_i hf
   simp only [am,bi] at h
   obtain ⟨rfl,rfl⟩:=h
   simp [execOp,ho,resolve,Deferred.ofValue,AE hg h1,SV.den,Eb hf,invoke,Cv hb,h3,CZ]
 ·rename_i f' caps h1
  split at h
  case h_2=>cases h
  rename_i l h2
  simp only [am,bi] at h
  obtain ⟨rfl,rfl⟩:=h
  obtain ⟨h3,_⟩:=Dt hg h2
  simp [execOp,ho,resolve,Deferred.ofValue,AE hg h1,SV.den,invoke,Cv hb,h3,CZ,map_v]
 ·cases h
end
def HY {α:Type} (f:α->Bool):List α->Bool
 | []=>true
 | x::r=>match f x with
  | true=>HY f r
  | false=>false
theorem Bm {α:Type} {f:α->Bool}: ∀ {l:List α},HY f l=true↔ ∀ x∈l,f x=true
 | []=>by simp [HY]
 | x::r=>by
  simp only [HY,List.mem_cons,forall_eq_or_imp]
  split
  ·rename_i h;simp [h,Bm (l:=r)]
  ·rename_i h;simp [h]
def WX:Nat->List Nat
 | 0=>[]
 | n+1=>n::WX n
theorem Np {i:Nat}: ∀ {n:Nat},i∈WX n↔i<n
 | 0=>by simp [WX]
 | n+1=>by simp only [WX,List.mem_cons,Np (n:=n)];omega
def P2:List (Nat×Bool)->List Nat
 | []=>[]
 | x::r=>x.1::P2 r
theorem Un: ∀ l:List (Nat×Bool),P2 l=l.map (·.1)
 | []=>rfl
 | x::r=>by simp [P2,Un r]
def nodupB:List Nat->Bool
 | []=>true
 | i::r=>!EI i r && nodupB r
theorem IF: ∀ {l:List Nat},nodupB l=true->l.Nodup
 | [],_=>List.nodup_nil
 | i::r,h=>by
  simp only [nodupB,dl,Bool.not_eq_true'] at h
  refine List.nodup_cons.2 ⟨fun hm=>?_,IF h.2⟩
  rw [Cn.2 hm] at h;cases h.1
def dI (o:Oper):Bool:=match o.op with
 | .select _ _=>false
 | _=>true
def XE:Callee->List Operand
 | .value f=>[f]
 | .invoke r _=>[r]
 | .builtin _=>[]
def Lm:Op->List Operand
 | .alloc _=>[]
 | .ready _=>[]
 | .waits _=>[]
 | .move x=>[x]
 | .assign x=>[x]
 | .box _ x=>[x]
 | .load _ x=>[x]
 | .nilCheck x=>[x]
 | .unOp _ _ x=>[x]
 | .convert _ _ x=>[x]
 | .sliceToArrayPointer _ x=>[x]
 | .makeInterface _ x=>[x]
 | .makeChan _ x=>[x]
 | .fieldAddr _ x _=>[x]
 | .field _ x _=>[x]
 | .range _ x=>[x]
 | .next x _=>[x]
 | .entry x=>[x]
 | .typeAssert x _ _ _=>[x]
 | .extract x _=>[x]
 | .panic x=>[x]
 | .recv _ x _=>[x]
 | .pick c a b=>[c,a,b]
 | .build _ ⟨ps⟩=>UB ps
 | .buildSlice _ _ ⟨ps⟩=>UB ps
 | .store _ a v=>[a,v]
 | .binOp _ _ a v _=>[a,v]
 | .makeSlice _ a v=>[a,v]
 | .indexAddr _ a v=>[a,v]
 | .index _ a v=>[a,v]
 | .lookup _ a v _=>[a,v]
 | .mapEntry _ a v=>[a,v]
 | .send a v=>[a,v]
 | .makeFunc _ ⟨f⟩ ⟨c⟩=>f++c
 | .makeMap _ r=>bU r
 | .slice _ x l h m=>x::(bU l++(bU h++bU m))
 | .mapUpdate _ m k v=>[m,k,v]
 | .entryStore _ m k v=>[m,k,v]
 | .insert _ m k v=>[m,k,v]
 | .call ⟨c,⟨args⟩,_⟩=>XE c++args
 | .go ⟨c,⟨args⟩,_⟩=>XE c++args
 | .defer ⟨c,⟨args⟩,_⟩=>XE c++args
 | .select cs b=>(Op.select cs b).operands.toList
theorem Qn: ∀ l:List (Nat×Operand),UB l=l.map (·.2)
 | []=>rfl
 | x::r=>by simp [UB,Qn r]
theorem Y3 (o:Op):Lm o=o.operands.toList:=by
 have hc: ∀ c:Call,XE c.callee++c.args.toList=c.operands.toList:=fun c=>by
  unfold Call.operands XE
  cases c.callee<;>simp
 cases o with
 | call c=>exact hc c
 | go c=>exact hc c
 | defer c=>exact hc c
 | slice T x l h m=>cases l<;>cases h<;>cases m<;>simp [Lm,Op.operands,bU]
 | makeMap T r=>cases r<;>simp [Lm,Op.operands,bU]
 | build T ps=>simp [Lm,Op.operands,Qn]
 | buildSlice T n ps=>simp [Lm,Op.operands,Qn]
 | makeFunc f a c=>simp [Lm,Op.operands]
 | _=>simp [Lm,Op.operands]
theorem PO: ∀ l:List Operand,tmpsOf l=l.filterMap fun|.tmp t=>some t|_=>none
 | []=>rfl
 | x::r=>by cases x<;>simp [tmpsOf,PO r]
def QD (all:Array Oper) (o:Oper):List Nat:=tmpsOf (Lm o.op)++X0 all o
theorem V5 (all:Array Oper) (o:Oper):QD all o=o.looksAt all:=by
 unfold QD Oper.looksAt
 rw [Y3,PO]
 congr 1
 unfold X0
 cases o.guard with
 | none=>rfl
 | some g=>
  obtain ⟨j,b⟩:=g
  simp only [GI]
  rw [show all.toList[j]?=all[j]? by simp]
  cases all[j]? with
  | none=>rfl
  | some q=>simp only [Option.bind_some];cases q.dst<;>rfl
def Sl (all:Array Oper) (x y:Oper):Bool:=
 (match x.dst with
  | some d=>!EI d (QD all y) && (match y.dst with|some d'=>!Nat.beq d' d|none=>true)
  | none=>true) &&
 (match y.dst with
  | some d=>!EI d (QD all x)
  | none=>true)
theorem Oj (i:Nat) (l:List Nat):EI i l=l.contains i:=by
 rw [Bool.eq_iff_iff,Cn];simp [List.contains_eq_mem]
theorem Vd {all:Array Oper} {x y:Oper} (h:Sl all x y=true):x.apart all y=true:=by
 unfold Sl at h
 unfold Oper.apart
 simp only [dl,V5,Oj] at h ⊢
 obtain ⟨h1,h2⟩:=h
 refine ⟨?_,h2⟩
 cases hx:x.dst with
 | none=>rfl
 | some d=>
  rw [hx] at h1
  simp only [dl] at h1 ⊢
  refine ⟨h1.1,?_⟩
  cases hy:y.dst with
  | none=>rfl
  | some d'=>
   have h3:=h1.2
   rw [hy] at h3
   simp only [Bool.not_eq_true'] at h3
   simp only [bne_iff_ne,ne_eq,am]
   rintro rfl
   simp at h3
def Uc (all:List Oper):List Nat->List Nat->Bool
 | _,[]=>true
 | acc,i::r=>(match nth all i with|some o=>HY (fun e=>!Mu e || EI e.on acc) o.after.toList|none=>false) && Uc all (i::acc) r
def gk (all:Array Oper) (ms:List Nat) (i j:Nat):Bool:=match nth all.toList i,nth all.toList j with
 | some oi,some oj=>
  (match oi.dst with|none=>true|some u=>(!EI u (Lp all oj) || CR ms j i) && (match oj.dst with|some d=>!Nat.beq d u|none=>true)) &&
  (match oj.dst with|none=>true|some u=>!EI u (Lp all oi) || CR ms j i)
 | _,_=>false
def cI (all:Array Oper) (ms:List Nat):List Nat->Bool
 | []=>true
 | i::r=>HY (gk all ms i) r && cI all ms r
def cJ (ms:List Nat) (pre:List (Nat×Bool)):List Nat->List Nat->Bool
 | _,[]=>true
 | acc,j::r=>HY (CR ms j) acc && HY (fun x=>x.2 || CR ms j x.1) pre && cJ ms pre (j::acc) r
def Qz (i:Nat):List Edge->Bool
 | []=>false
 | e::r=>(Mu e && Nat.beq e.on i) || Qz i r
def kg (all:Array Oper) (ms:List Nat) (pre:List (Nat×Bool)):Bool:=
 HY (fun x=>!x.2 || HY (fun j=>Nat.beq j x.1 || CR ms x.1 j || match nth all.toList j,nth all.toList x.1 with
  | some oj,some oi=>Qz x.1 oj.after.toList || Sl all oi oj
  | _,_=>true) (WX all.toList.length)) pre
theorem TF: ∀ {a b:List Nat},ee a b=true->a=b
 | [],[],_=>rfl
 | [],_::_,h=>by simp [ee] at h
 | _::_,[],h=>by simp [ee] at h
 | x::r,y::t,h=>by
  simp only [ee] at h
  split at h
  ·rename_i hx;rw [ac hx,TF h]
  ·cases h
def aM (all:Array Oper) (q:JD):Bool:=
 ee q.ms (C7 all.toList []) && HY dI all.toList && nodupB (P2 q.pre) && nodupB (F2 q.IS) && HY (fun i=>EI i (P2 q.pre) || EI i (F2 q.IS)) (WX all.toList.length) &&
 HY (fun i=>Nat.ble (i+1) all.toList.length && !EI i (P2 q.pre)) (F2 q.IS) && Uc all.toList [] (P2 q.pre++(F2 q.IS)) && cI all q.ms (P2 q.pre) && cJ q.ms q.pre [] (F2 q.IS) && kg all q.ms q.pre
theorem JF {all:Array Oper}: ∀ {l acc p q:List Nat} {j:Nat} {o:Oper},Uc all.toList acc l=true->l=p++j::q->all[j]?=some o-> ∀ e∈o.after,Region.binds .any e=true->e.on∈acc\/e.on∈p
 | [],acc,p,q,j,o,_,h,_=>by simp at h
 | i::r,acc,p,q,j,o,h,hs,ho=>by
  simp only [Uc,dl] at h
  cases p with
  | nil=>
   simp only [List.nil_append,List.cons.injEq] at hs
   obtain ⟨rfl,rfl⟩:=hs
   intro e he hb
   have h1:=h.1
   rw [GI,show all.toList[i]?=some o by simpa using ho] at h1
   have h2:=Bm.1 h1 e (by simpa using he)
   rw [Ke,hb] at h2
   exact .inl (Cn.1 (by simpa using h2))
  | cons x p=>
   simp only [List.cons_append,List.cons.injEq] at hs
   obtain ⟨rfl,hs⟩:=hs
   intro e he hb
   rcases JF h.2 hs ho e he hb with h3|h3
   ·rcases List.mem_cons.1 h3 with h3|h3
    ·exact .inr (by simp [h3])
    ·exact .inl h3
   ·exact .inr (by simp [h3])
theorem PL {all:Array Oper} {ms:List Nat}: ∀ {l p q:List Nat} {i j:Nat},cI all ms l=true->l=p++i::q->j∈q->gk all ms i j=true
 | [],p,q,i,j,_,h,_=>by simp at h
 | x::r,p,q,i,j,h,hs,hj=>by
  simp only [cI,dl] at h
  cases p with
  | nil=>
   simp only [List.nil_append,List.cons.injEq] at hs
   obtain ⟨rfl,rfl⟩:=hs
   exact Bm.1 h.1 j hj
  | cons y p=>
   simp only [List.cons_append,List.cons.injEq] at hs
   exact PL h.2 hs.2 hj
theorem PN {ms:List Nat} {pre:List (Nat×Bool)}: ∀ {l acc p q:List Nat} {j:Nat},cJ ms pre acc l=true->l=p++j::q->(∀ i,i∈acc\/i∈p->CR ms j i=true)/\(∀ x∈pre,x.2=false->CR ms j x.1=true)
 | [],acc,p,q,j,_,h=>by simp at h
 | x::r,acc,p,q,j,h,hs=>by
  simp only [cJ,dl] at h
  cases p with
  | nil=>
   simp only [List.nil_append,List.cons.injEq] at hs
   obtain ⟨rfl,rfl⟩:=hs
   refine ⟨fun i hi=>?_,fun y hy hf=>?_⟩
   ·rcases hi with hi|hi
    ·exact Bm.1 h.1.1 i hi
    ·cases hi
   ·have:=Bm.1 h.1.2 y hy
    rw [hf] at this;simpa using this
  | cons y p=>
   simp only [List.cons_append,List.cons.injEq] at hs
   obtain ⟨rfl,hs⟩:=hs
   have:=PN h.2 hs
   refine ⟨fun i hi=>this.1 i ?_,this.2⟩
   rcases hi with hi|hi
   ·exact .inl (by simp [hi])
   ·rcases List.mem_cons.1 hi with hi|hi
    ·exact .inl (by simp [hi])
    ·exact .inr hi
theorem Mq {i:Nat}: ∀ {l:List Edge},Qz i l=true-> ∃ e∈l,Region.binds .any e=true/\e.on=i
 | [],h=>by simp [Qz] at h
 | e::r,h=>by
  simp only [Qz,io,dl,Ke] at h
  rcases h with h|h
  ·exact ⟨e,by simp,h.1,ac h.2⟩
  ·obtain ⟨e',h1,h2⟩:=Mq h;exact ⟨e',by simp [h1],h2⟩
section
variable {S:As}
def Rec.key (r:Rec S):Nat×Bool:=(r.i,r.pu)
theorem Vk {all:Array Oper} {dr:JD} {rs:List (Rec S)} (h:aM all dr=true) (hk:rs.map Rec.key=dr.pre) (ho: ∀ r∈rs,all[r.i]?=some r.o):cV all dr.ms rs (F2 dr.IS):=by
 simp only [aM,dl] at h
 obtain ⟨⟨⟨⟨⟨⟨⟨⟨⟨h0,h1⟩,h2⟩,h3⟩,h4⟩,h5⟩,h6⟩,h7⟩,h8⟩,h9⟩:=h
 have h0:dr.ms=C7 all.toList []:=TF h0
 have hi:P2 dr.pre=rs.map (·.i):=by rw [Un,<- hk,List.map_map];rfl
 rw [hi] at h2 h4 h5 h6 h7
 have hanc: ∀ j i,CR dr.ms j i=Pc all j i:=fun j i=>by unfold Pc;rw [h0]
 have hnth: ∀ {j:Nat} {o:Oper},all[j]?=some o->nth all.toList j=some o:=fun h=>by rw [GI];simpa using h
 have h5': ∀ i∈(F2 dr.IS),i<all.size/\i ∉ rs.map (·.i):=fun i hi=>by
  have:=Bm.1 h5 i hi
  simp only [dl,Bool.not_eq_true'] at this
  refine ⟨by have:=dk this.1;simp at this;omega,fun hm=>?_⟩
  rw [Cn.2 hm] at this;cases this.2
 refine ⟨h0,fun j o cs b ho' heq=>?_,ho,IF h2,fun i hlt=>?_,h5',IF h3,fun p r q hr e he hb=>?_,fun p j q o hs ho' e he hb=>?_,fun p r q r' hr hr'=>?_,fun p j q hs=>?_,fun r hr hpu j oj hoj hji hnanc hno=>?_⟩
 ·have:=Bm.1 h1 o (by have:=Array.mem_of_getElem? ho';simpa using this)
  simp [dI,heq] at this
 ·have:=Bm.1 h4 i (Np.2 (by simpa using hlt))
  simp only [io,Cn] at this
  exact this
 ·have:=JF h6 (p:=p.map (·.i)) (q:=q.map (·.i)++(F2 dr.IS)) (j:=r.i) (by rw [hr];simp) (ho r (by rw [hr];simp)) e he hb
  simpa using this
 ·have:=JF h6 (p:=rs.map (·.i)++p) (q:=q) (j:=j) (by rw [hs];simp) ho' e he hb
  simpa using this
 ·have:=PL h7 (p:=p.map (·.i)) (q:=q.map (·.i)) (i:=r.i) (j:=r'.i) (by rw [hr];simp) (List.mem_map.2 ⟨r',hr',rfl⟩)
  unfold gk at this
  rw [hnth (ho r (by rw [hr];simp)),hnth (ho r' (by rw [hr];simp [hr']))] at this
  simp only [dl] at this
  obtain ⟨ha,hb⟩:=this
  refine ⟨fun u hu hm=>?_,fun u hu hm=>?_,fun u hu hu'=>?_⟩
  ·rw [hu] at ha
   simp only [dl,io,Bool.not_eq_true'] at ha
   rcases ha.1 with h|h
   ·rw [Cn.2 hm] at h;cases h
   ·rw [<-hanc];exact h
  ·rw [hu] at hb
   simp only [io,Bool.not_eq_true'] at hb
   rcases hb with h|h
   ·rw [Cn.2 hm] at h;cases h
   ·rw [<-hanc];exact h
  ·rw [hu] at ha
   simp only [dl,hu',Bool.not_eq_true'] at ha
   have:=ha.2;simp at this
 ·have:=PN h8 hs
  refine ⟨fun i hi=>by rw [<-hanc];exact this.1 i (.inr hi),fun r hr hpu=>by rw [<-hanc];exact this.2 (r.i,r.pu) (by rw [<-hk];exact List.mem_map.2 ⟨r,hr,rfl⟩) hpu⟩
 ·have:=Bm.1 h9 (r.i,r.pu) (by rw [<-hk];exact List.mem_map.2 ⟨r,hr,rfl⟩)
  simp only [hpu,Bool.not_true,Bool.false_or] at this
  have h10:=Bm.1 this j (Np.2 (by have:=(Array.getElem?_eq_some_iff.1 hoj).1;simpa using this))
  rw [hnth hoj,hnth (ho r hr),hanc,hnanc] at h10
  simp only [io,Bool.or_false] at h10
  rcases h10 with h10|h10|h10
  ·exact absurd (ac h10) hji
  ·obtain ⟨e,he,hb,hon⟩:=Mq h10
   exact absurd hon (hno e (by simpa using he) hb)
  ·exact Vd h10
theorem Rx (all:Array Oper): ∀ l,l.filterMap (all[·]?)=Ln all l
 | []=>rfl
 | i::r=>by
  simp only [Ln,List.filterMap_cons,GI,Array.getElem?_toList]
  cases all[i]?<;>simp [Rx all r]
def A7:Code->List (Nat×Array Oper×Bool)
 | .region id ops d=>[(id,ops,d)]
 | .seq x y=>A7 x++A7 y
 | .cond _ x y=>A7 x++A7 y
 | .block _ x=>A7 x
 | .loop x=>A7 x
 | .scope x=>A7 x
 | .rangeFunc _ _ x y=>A7 x++A7 y
 | _=>[]
theorem LC: ∀ {c c':Code} {l:Nat},findLabel c l=some c'-> ∀ x∈A7 c',x∈A7 c
 | .seq a b,c',l,h,x,hx=>by
  simp only [findLabel] at h
  split at h
  ·rename_i r hr
   cases h
   simp only [A7,List.mem_append] at hx ⊢
   exact hx.imp (LC hr x) id
  ·simp only [A7,List.mem_append]
   exact .inr (LC h x hx)
 | .label l',c',l,h,x,hx=>by
  simp only [findLabel] at h
  split at h<;>cases h
  simp [A7] at hx
 | .region ..,c',l,h,x,hx=>by simp [findLabel] at h
 | .cond ..,c',l,h,x,hx=>by simp [findLabel] at h
 | .block ..,c',l,h,x,hx=>by simp [findLabel] at h
 | .loop ..,c',l,h,x,hx=>by simp [findLabel] at h
 | .scope ..,c',l,h,x,hx=>by simp [findLabel] at h
 | .skip,c',l,h,x,hx=>by simp [findLabel] at h
 | .exit _,c',l,h,x,hx=>by simp [findLabel] at h
 | .goto _,c',l,h,x,hx=>by simp [findLabel] at h
 | .ret,c',l,h,x,hx=>by simp [findLabel] at h
 | .rangeFunc ..,c',l,h,x,hx=>by simp [findLabel] at h
 | .refuse _,c',l,h,x,hx=>by simp [findLabel] at h
theorem WM {c c':Code} {i:Nat} (h:HV i c=some c'): ∀ x∈A7 c',x∈A7 c:=by
 intro x hx
 unfold HV at h
 split at h
 all_goals first
  | (cases h;simp only [A7,List.mem_append];first|exact .inl hx|exact .inr hx|exact hx)
  | exact LC h x hx
  | cases h
theorem Qb {body:Code}: ∀ {a:List Nat} {c:Code},Hk body a=some c-> ∀ x∈A7 c,x∈A7 body
 | [],c,h,x,hx=>by simp only [Hk,am] at h;subst h;exact hx
 | i::a,c,h,x,hx=>by
  simp only [Hk] at h
  split at h
  ·rename_i c1 h1
   exact Qb h1 x (WM h x hx)
  ·cases h
def IX (body:Code) (dr:List (Nat×JD)):Bool:=HY (fun x=>match x.2.2 with
 | true=>match lk dr x.1 with
  | some q=>aM x.2.1 q
  | none=>true
 | false=>true) (A7 body)
theorem S9 {body:Code} {dr:List (Nat×JD)} (h:IX body dr=true) {a:List Nat} {id:Nat} {ops:Array Oper} (ha:Hk body a=some (.region id ops true)) {q:JD} (hq:lk dr id=some q):aM ops q=true:=by
 have:=Bm.1 h (id,ops,true) (Qb ha _ (by simp [A7]))
 simpa [hq] using this
end
end Go.En
namespace Go.En
open Go.RowKit
section
variable {S:As} {P:Program} {w0:World} {F D0 D:Nat->Prop} {s:St S} {N:Nat->Prop} {β:Nat->Nm} {a:Act} {w:World}
theorem Lq {T e esz:Nat} {o:Oper} {d:Option Tmp} (ho:o.op=.buildSlice T 0 ⟨[]⟩) (h2:P.underlying T=some (.slice e)) (h3:(P.info? e).map (·.size)=some esz):(execOp a.eval o).run P w=.ok (.value (.slice (some ⟨w.heap.size,0,none⟩) 0 0)) (w.alloc (.cells #[] e)):=by
 simp [execOp,ho,Instr.buildSlice,Sem.run_bind,run_underlying h2,Result.andThen_ok,Ap h3,newRow,run_newObj,Instr.fill,Array.range_zero',List.map_toArray,List.map_nil]
 first|rfl|done
theorem Tb {tb:List (Nat×TI)} (htb:Ae S P tb) {all:List Oper} {o:Oper} {e:Nat} (h:X6 tb all o=some e):(execOp a.eval o).run P w=.ok (.value (.slice (some ⟨w.heap.size,0,none⟩) 0 0)) (w.alloc (.cells #[] e)):=by
 unfold X6 at h
 split at h
 case h_2=>cases h
 rename_i T d ho hd
 split at h
 case h_2=>cases h
 rename_i e' esz ht _
 have hd:=Ag htb ht
 simp only [TD.ok] at hd
 split at h
 case h_2=>cases h
 split at h
 case h_2=>cases h
 cases h
 exact Lq (d:=none) ho hd.1 hd.2
theorem LS {tb:List (Nat×TI)} (htb:Ae S P tb) (hg:G w0 F D0 D s N β a w) {o:Oper} {j:Nat} {b:Bool} {c:Option Bool} {o1:List (Nat×Own S)} {n':Nat} {v:SV} (h:Ve tb s o.op=some (j,b,.nm c o1 n' v)) (hc:Cd c):
  (b=true->N j/\ ∃ w',(execOp a.eval o).run P w=.ok (.value ((SV.view j 0 0 0).den β)) w'/\Below w.heap.size w w')/\
  (b=false->(∀ j,s.n<=j->j<n'->¬ N j)-> ∃ β' w',(execOp a.eval o).run P w=.ok (.value (v.den β')) w'/\CG D D N s.n n' o1 β β' w w'/\v.on (more N s.n n')):=by
 unfold Ve at h
 split at h
 case h_2=>cases h
 rename_i x y T T' hop
 split at h
 case h_2=>cases h
 rename_i e esz hT ht
 have hT:=ac hT
 subst hT
 have hd:=Ag htb ht
 simp only [TD.ok] at hd
 split at h
 case h_2=>cases h
 rename_i te hte
 have hoe:=htb.get hte
 split at h
 case h_2=>cases h
 rename_i τ hτ
 obtain ⟨hsz,hpos,_,_⟩:=hoe.Z6 τ hτ
 split at h
 case h_2=>cases h
 rename_i j' yv hz hx hy
 have hz:=ac hz
 split at h
 case h_2=>cases h
 rename_i E hj
 split at h
 case h_2=>cases h
 rename_i c' l' hE hs
 have hE:=ac hE
 subst hE
 simp only [am,bi,R.nm.injEq] at h
 obtain ⟨rfl,rfl,rfl,rfl,rfl,rfl⟩:=h
 have hcc:Cd c'/\room te.bs l'.length=true:=by
  cases c' with
  | none=>exact ⟨trivial,hc⟩
  | some c=>simp only [Cd,Dc,dl] at hc;exact hc
 obtain ⟨hc1,hroom⟩:=hcc
 simp only [room,ii] at hroom
 have hsrc:=Mf hg.gh hs hc1
 obtain ⟨g,hb1,hb2⟩:=hg.gh.own j' _ hj
 have hinf:=hoe.info
 cases hi:P.info? E with
 | none=>simp [hi] at hinf
 | some i=>
 simp only [hi,Option.map_some,am,bi] at hinf
 obtain ⟨hiz,his,hib⟩:=hinf
 have hzc:te.z.cells.size=te.sz:=by rw [<-Array.length_toList,hoe.zc β,AI,hoe.zl]
 have e1:a.eval x=.slice (some ⟨g,0,none⟩) 0 0:=by rw [AE hg hx];simp [SV.den,Nm.AX,hb1]
 have e2:a.eval y=yv.den β:=AE hg hy
 have hden:(SV.view j' 0 0 0).den β=.slice (some ⟨g,0,none⟩) 0 0:=by simp [SV.den,Nm.AX,hb1]
 have hex: ∀ v' w',(Builtin.append_ #[T',T'] o.type #[.slice (some ⟨g,0,none⟩) 0 0,yv.den β]).run P w=.ok v' w'->(execOp a.eval o).run P w=.ok (.value v') w':=fun v' w' hr=>by
  unfold execOp
  simp only [hop,resolve,invoke,builtin,Sem.run_bind,Sem.run_pure,Result.andThen_ok,List.map_toArray,List.map_cons,List.map_nil,e1,e2,hr]
 have hown:w.ownsRow 0 E te.sz (.slice (some ⟨g,0,none⟩) 0 0) 0 []:=⟨by simp,.inr ⟨g,0,#[],rfl,Nat.zero_le _,hb2,Nat.le_refl _,Nat.zero_le _,by simp,by simp⟩⟩
 have hnone: ∀ (a':Option Addr) (c':Nat),yv.den β=.slice a' 0 c'-> ∃ w',(Builtin.append_ #[T',T'] o.type #[.slice (some ⟨g,0,none⟩) 0 0,yv.den β]).run P w=.ok (.slice (some ⟨g,0,none⟩) 0 0) w'/\Below w.heap.size w w':=fun a' c' hv=>by
  rw [hv]
  cases a' with
  | none=>exact ⟨w,by simp [Builtin.append_,run_underlying hd.1,sizeOf,typeInfo,hi,Builtin.lenOf,Builtin.firstCells,storeCells],Below.refl _ _⟩
  | some ad=>
   have hr:=run_append_room (P:=P) w T' o.type E i hd.1 hi g 0 0 #[] hb2 ad 0 c' [] (by simp) (fun j u hu=>by simp at hu) (fun u hu=>by simp at hu) (Nat.le_refl _) (by simp)
   have he:((#[]:Array Value).toList.take (0*i.size)++[]++(#[]:Array Value).toList.drop (0*i.size+([]:List Value).length)).toArray=#[]:=by simp
   rw [he,setRow_self w g #[] E (0,0) hb2] at hr
   exact ⟨w,hr,Below.refl _ _⟩
 refine ⟨fun hb=>?_,fun hb hN=>?_⟩
 ·have hl0:l'=[]:=jp (by simpa using hb)
  refine ⟨(hg.gh.By j' _ hj).1,?_⟩
  subst hl0
  have: ∃ a' c',yv.den β=.slice a' 0 c':=by
   rcases hsrc with ⟨_,h2⟩|⟨_,a',c',h2⟩|⟨ad,c',us,h1,_,_⟩
   ·exact ⟨none,0,h2⟩
   ·exact ⟨a',c',h2⟩
   ·exact ⟨some ad,c',h1⟩
  obtain ⟨a',c',hv⟩:=this
  obtain ⟨w',h1,h2⟩:=hnone a' c' hv
  exact ⟨w',by rw [hden];exact hex _ _ h1,h2⟩
 ·have hl0:l'≠[]:=fun h=>by subst h;simp at hb
  have hlp:0<l'.length:=List.length_pos_iff.2 hl0
  rcases hsrc with ⟨h1,_⟩|⟨h1,_⟩|⟨ad,c',us,h1,h2,h3⟩
  ·exact absurd h1 hl0
  ·exact absurd h1 hl0
  have hul:us.length=l'.length*te.sz:=by rw [<-h2.1,S.Au,hsz]
  have hbytes:l'.length*i.bytes<=140737488355328:=by rw [hib];exact Nat.le_trans (Nat.mul_le_mul_left _ (Nat.le_succ _)) hroom
  have hle:l'.length<=140737488355328:=Nat.le_trans (Nat.le_mul_of_pos_right _ (Nat.succ_pos _)) hroom
  have hr:=run_append_grow (P:=P) w T' o.type E i te.z hd.1 hi hiz ⟨g,0,none⟩ 0 0 [] (by simp) (fun j u hu=>by simp at hu) ad l'.length c' us (by rw [his,hul]) h3 (by omega) (by omega) (growslice_fits (by omega) (by simpa using hbytes))
  obtain ⟨v',w',hr2,h4,h5⟩:=run_append_own (P:=P) w 0 T' o.type E i te.z te.sz te.bs hd.1 hi hiz his hib hzc hpos _ 0 [] hown ad l'.length c' us hul h3 h2.WB (by simp only [maxLen];omega) (by rw [Nat.zero_add];exact Nat.le_trans (Nat.mul_le_mul_left _ (Nat.le_succ _)) hroom) (Nat.zero_le _)
  rw [hr] at hr2
  cases hr2
  simp only [List.nil_append,Nat.zero_add] at h4 hr
  generalize hcap:grownCap w l'.length 0 E=cap at h4 hr
  generalize hob:Obj.cells (([]:List Value).toArray++us.toArray++Builtin.zeroCells te.z.cells (cap -l'.length)) E=ob at h4 hr
  obtain ⟨β',hβn,hnew⟩:=CG.alloc (D:=D) (N:=N) (β:=β) (w:=w.drew) (n:=s.n) (hN s.n (Nat.le_refl _) (lw _)) (b:=.tr τ E l') (ob:=ob) (len:=l'.length) (cap:=cap) trivial
   (fun β' _ _=>⟨rfl,us,by rw [hsz];exact h4,h2.B4 (fun k hk=>((Below.refl _ w).drew.alloc (Nat.le_refl _) ob).block k (hg.gh.DL k hk)) fun _ h=>h⟩)
  refine ⟨β',_,?_,{ hnew with below:=(Below.refl _ w).drew.trans hnew.below },?_⟩
  ·rw [h1] at hex
   rw [hex _ _ hr]
   simp only [SV.den,hβn]
   rfl
  ·exact .inr ⟨Nat.le_refl _,lw _⟩
theorem S6 {tb:List (Nat×TI)} (htb:Ae S P tb) {o2:List (Nat×Own S)} (hg:G w0 F D0 D ⟨s.t,o2,s.n,s.sz⟩ N β a w) (hsub: ∀ i b,lk s.o i=some b->lk o2 i=some b) (hN:¬ N s.n) {op:Oper} {T:Nat} {x y:Operand} (hop:op.op=.call ⟨.builtin .append,#[x,y],#[T,T]⟩)
  {j m n':Nat} (hxj:ev s x=some (.tr j)) {c0:Option Bool} {ow:Own S} {o':List (Nat×Own S)} {v:SV} (h:Q0 tb s T x y=.x c0 ((m,ow)::o') n' v) (hc:Cd c0):
  ∃ β' w',(execOp a.eval op).run P w=.ok (.value ((SV.tr s.n).den β')) w'/\(∀ i,N i->β i=β' i)/\GH w0 F D0 D ((s.n,ow)::rm o2 j) (fun i=>N i\/i=s.n) β' w':=by
 have hg1:G w0 F D0 D s N β a w:=⟨hg.defers,hg.size,hg.Gw,hg.tmps,hg.gh.Hh hsub⟩
 unfold Q0 at h
 split at h
 case h_2=>cases h
 rename_i e esz ht
 have hd:=Ag htb ht
 simp only [TD.ok] at hd
 split at h
 case h_2=>cases h
 rename_i te hte
 have hoe:=htb.get hte
 split at h
 case h_2=>cases h
 rename_i τ hτ
 obtain ⟨hsz,hpos,_,_⟩:=hoe.Z6 τ hτ
 split at h
 case h_2=>cases h
 rename_i xv yv hz hx hy
 have hz:=ac hz
 split at h
 case h_2=>cases h
 rename_i d l hb
 split at h
 case h_2=>cases h
 rename_i c l' hs
 cases h
 have hdj:d=some j:=by
  rw [hxj] at hx
  cases hx
  unfold Ou at hb
  simp only at hb
  split at hb
  case h_2=>cases hb
  split at hb
  ·cases hb;rfl
  ·cases hb
 have hcc:Cd c/\room te.bs (l.length+l'.length)=true:=by
  cases c with
  | none=>exact ⟨trivial,hc⟩
  | some c=>simp only [Cd,Dc,dl] at hc;exact hc
 obtain ⟨hc1,hroom⟩:=hcc
 simp only [room,ii] at hroom
 obtain ⟨vs,hown,hvs,A5⟩:=Mr hg1.gh hb
 have hsrc:=Mf hg1.gh hs hc1
 have hinf:=hoe.info
 cases hi:P.info? e with
 | none=>simp [hi] at hinf
 | some i=>
 simp only [hi,Option.map_some,am,bi] at hinf
 obtain ⟨hiz,his,hib⟩:=hinf
 have hzc:te.z.cells.size=te.sz:=by rw [<-Array.length_toList,hoe.zc β,AI,hoe.zl]
 rw [hsz] at hown
 have e1:a.eval x=xv.den β:=AE hg1 hx
 have e2:a.eval y=yv.den β:=AE hg1 hy
 have hlen_le:l.length+l'.length<=(l.length+l'.length)*(te.bs+1):=Nat.le_mul_of_pos_right _ (by omega)
 -- what append gives
 have key: ∃ v' w',(Builtin.append_ #[T,T] op.type #[xv.den β,yv.den β]).run P w=.ok v' w'/\(∃ us,w'.ownsRow 0 e te.sz v' (l++l').length us/\AG S w D (S.flat τ (l++l')) us)/\w.grownBy w' (xv.den β).ownBlock/\
   (v'.ownBlock=none\/v'.ownBlock=(xv.den β).ownBlock\/v'.ownBlock=some w.heap.size):=by
  have hnil: ∀ (a':Option Addr) (c':Nat),yv.den β=.slice a' 0 c'->l'=[]->(a'=none->c'=0)-> ∃ v' w',(Builtin.append_ #[T,T] op.type #[xv.den β,yv.den β]).run P w=.ok v' w'/\(∃ us,w'.ownsRow 0 e te.sz v' (l++l').length us/\AG S w D (S.flat τ (l++l')) us)/\w.grownBy w' (xv.den β).ownBlock/\
   (v'.ownBlock=none\/v'.ownBlock=(xv.den β).ownBlock\/v'.ownBlock=some w.heap.size):=by
   intro a' c' hv hl' hac
   subst hl'
   cases a' with
   | none=>
    have:=hac rfl;subst this
    refine ⟨xv.den β,w,?_,⟨vs,by simpa using hown,by simpa using hvs⟩,⟨rfl,rfl,rfl,Nat.le_refl _,fun _ _ _=>rfl⟩,.inr (.inl rfl)⟩
    rw [hv]
    exact run_append_owned_none (P:=P) w 0 T op.type e i te.sz hd.1 hi (xv.den β) l.length vs hown
   | some ad=>
    obtain ⟨v',w',hr,h2,h3,h4⟩:=CE w T op.type e i te.z te.sz te.bs hd.1 hi hiz his hib hzc hpos (xv.den β) l.length vs hown ad 0 c' [] (by simp) (fun j u hu=>by simp at hu) (fun u hu=>by simp at hu)
     (by simp only [maxLen];simp only [List.length_nil,Nat.add_zero] at hroom hlen_le;omega) (Nat.le_trans (Nat.mul_le_mul_left _ (Nat.le_succ te.bs)) (by simpa using hroom))
    exact ⟨v',w',by rw [hv];exact hr,⟨vs,by simpa using h2,by simpa using hvs⟩,h3,h4⟩
  rcases hsrc with ⟨h1,h2⟩|⟨h1,a',c',h2⟩|⟨ad,c',us,h1,h2,h3⟩
  ·exact hnil none 0 h2 h1 fun _=>rfl
  ·cases a' with
   | none=>
    -- a nil address with a capacity: the model appends nothing
    subst h1
    refine ⟨xv.den β,w,?_,⟨vs,by simpa using hown,by simpa using hvs⟩,⟨rfl,rfl,rfl,Nat.le_refl _,fun _ _ _=>rfl⟩,.inr (.inl rfl)⟩
    rw [h2]
    rcases hown.2 with ⟨h5,h6⟩|⟨g,cap,cur,h5,_,_,hnc,_⟩
    ·rw [h5];simp [Builtin.append_,run_underlying hd.1,sizeOf,typeInfo,hi,Builtin.lenOf,Builtin.firstCells]
    ·rw [h5];simp [Builtin.append_,run_underlying hd.1,sizeOf,typeInfo,hi,Builtin.lenOf,Builtin.firstCells,hnc,storeCells]
   | some ad=>exact hnil (some ad) c' h2 h1 (fun h=>by cases h)
  ·obtain ⟨v',w',hr,h4,h5,h6⟩:=CE w T op.type e i te.z te.sz te.bs hd.1 hi hiz his hib hzc hpos (xv.den β) l.length vs hown ad l'.length c' us (by rw [<-h2.1,S.Au,hsz]) h3 h2.WB
    (by simp only [maxLen];omega) (Nat.le_trans (Nat.mul_le_mul_left _ (by omega)) hroom)
   exact ⟨v',w',by rw [h1];exact hr,⟨vs++us,by rw [List.length_append];exact h4,by rw [S.Es];exact hvs.append h2⟩,h5,h6⟩
 obtain ⟨v',w',hr,⟨us,h2,hus⟩,h3,h4⟩:=key
 have A5: ∀ k,(SV.den β xv).ownBlock=some k-> ∃ i b,d=some i/\lk o2 i=some b/\(β i).b=some k:=fun k hk=>let ⟨i,b,a1,a2,a3⟩:=A5 k hk;⟨i,b,a1,hsub _ _ a2,a3⟩
 obtain ⟨hgh,hD⟩:=hg.gh.Y0 (d:=d) h3 (fun k hk=>let ⟨i,b,a1,a2,a3⟩:=A5 k hk;⟨i,b,a1,a2,.inl a3⟩)
 have hnb: ∀ g,(CD (l++l').length v').has g->(CD (l++l').length v').b=some g:=fun g h=>(Nm.FG (Nu _ _)).1 h
 obtain ⟨hv',hv2,hv3⟩:=EK (len:=(l++l').length) h2
 obtain ⟨β',hβ,hβn,hgh'⟩:=hgh.name (b:=.tr τ e (l++l')) (nm:=CD (l++l').length v') (n:=s.n) hN trivial
  (fun β' hβ hn'=>⟨hv3,us,by rw [<-hv',hsz];exact h2,hus.B4 hD fun _ h=>h⟩)
  (fun g hg'=>by
   have hg':=hnb g hg'
   rw [hv2] at hg'
   rcases h4 with h4|h4|h4<;>rw [hg'] at h4
   ·cases h4
   ·obtain ⟨i,b,_,hi,hib⟩:=A5 g h4.symm;exact hg.gh.fresh i b g hi (.inl hib)
   ·simp only [am] at h4;subst h4;exact .inl hg.gh.fr.size)
  (fun g hg' hD=>by
   have hg':=hnb g hg'
   rw [hv2] at hg'
   rcases h4 with h4|h4|h4<;>rw [hg'] at h4
   ·cases h4
   ·obtain ⟨i,b,_,hi,hib⟩:=A5 g h4.symm;exact hg.gh.off i b g hi (.inl hib) hD
   ·simp only [am] at h4;subst h4;have:=hg.gh.DL _ hD;omega)
  (fun i b g hi hib he=>by
   have he:=hnb g he
   rw [hv2] at he
   have hi':=Ea i b hi
   rcases h4 with h4|h4|h4<;>rw [he] at h4
   ·cases h4
   ·obtain ⟨j,c,hd',hj,hjb⟩:=A5 g h4.symm
    have:=hg.gh.inj i j b c g hi' hj hib (.inl hjb)
    subst this
    subst hd'
    simp [EU,Cy] at hi
   ·simp only [am] at h4;subst h4;have:=hg.gh.lt i b _ hi' hib;omega)
  (fun g hg'=>by
   have hg':=hnb g hg'
   rw [hv2] at hg'
   exact ownsRow_blk_lt h2 hg')
 subst hdj
 refine ⟨β',w',?_,hβ,hgh'⟩
 unfold execOp
 simp only [hop,resolve,invoke,builtin,Sem.run_bind,Sem.run_pure,Result.andThen_ok,List.map_toArray,List.map_cons,List.map_nil,e1,e2,hr,SV.den,hβn,hv3]
 rw [<-hv']
end
end Go.En
