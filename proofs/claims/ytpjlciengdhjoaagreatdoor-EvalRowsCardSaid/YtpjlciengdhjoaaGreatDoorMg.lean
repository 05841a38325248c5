/- Opening: what a reading of the arguments (DataW.trod) met, as data, with what is known of the data's size (Rng); and that a law with a contract returns, whatever the arguments are. -/
import Derived.Test.YtpjlciengdhjoaaGreatDoorMf
import Derived.ProofKit
import Derived.OpenShut
import Derived.Deep.Slices
namespace Go.En
open Go.RowKit Go.ChangeShapes Go.WideShapes
inductive Wb (S:As):FC S.T->Prop where
 | int (k:IntKind) (n:Int):(Lit.int k n).wf=true->Wb S (.int k n)
 | bool (b:Bool):Wb S (.bool b)
 | str (s:List UInt8):s.length<=reachBytes->Wb S (.str s)
 | sl (σ:Nat) (l:List (S.T σ)):l.length<=maxLen->(∀ x∈l,∀ f∈S.enc σ x,Wb S f)->Wb S (.sl σ l)
section
variable {S:As}
def cW (S:As) (fds:List Fd) (l:List (FC S.T)):Prop:= ∃ p:Ps S.T fds,l=EG fds p
theorem cW.append: ∀ {a b:List Fd} {l m:List (FC S.T)},cW S a l->cW S b m->cW S (a++b) (l++m)
 | [],b,l,m,⟨p,h⟩,h'=>by subst h;simpa [EG] using h'
 | f::a,b,l,m,⟨p,h⟩,h'=>by
  subst h
  obtain ⟨q,hq⟩:=cW.append (a:=a) (b:=b) ⟨p.2,rfl⟩ h'
  exact ⟨(p.1,q),by simp only [EG,List.cons_append,hq]⟩
theorem cW.length {a:List Fd} {l:List (FC S.T)} (h:cW S a l):l.length=a.length:=by obtain ⟨p,rfl⟩:=h;exact JK a p
def Fits (S:As) (w:World) (fds:List Fd) (cs:List Value):Prop:= ∃ l,cW S fds l/\AG S w (· <w.heap.size) l cs/\ ∀ f∈l,Wb S f
theorem Fits.append {w:World} {a b:List Fd} {cs ds:List Value} (h:Fits S w a cs) (h':Fits S w b ds):Fits S w (a++b) (cs++ds):=by
 obtain ⟨l,h1,h2,h3⟩:=h
 obtain ⟨m,k1,k2,k3⟩:=h'
 refine ⟨l++m,h1.append k1,h2.append k2,fun f hf=>?_⟩
 rcases List.mem_append.1 hf with hf|hf
 ·exact h3 f hf
 ·exact k3 f hf
theorem Fits.one {w:World} {f:Fd} {x:f.T S.T} {v:Value} (h:Av S w (· <w.heap.size) (f.fc x) v) (hr:Wb S (f.fc x)):Fits S w [f] [v]:=by
 refine ⟨[f.fc x],⟨(x,()),rfl⟩,⟨rfl,fun i g v' hf hv=>?_⟩,fun g hg=>by simp only [List.mem_singleton] at hg;subst hg;exact hr⟩
 cases i with
 | zero=>simp only [List.getElem?_cons_zero,am] at hf hv;subst hf;subst hv;exact h
 | succ i=>simp at hf
theorem Fits.nil {w:World}:Fits S w [] []:=⟨[],⟨(),rfl⟩,⟨rfl,fun i f v hf _=>by simp at hf⟩,fun f hf=>by simp at hf⟩
def jU (g:TypeId->List Fd->Bool) (P:Program):List Field->Nat->List Fd->Bool
 | [],_,[]=>true
 | [],_,_::_=>false
 | f::r,off,fds=>Nat.beq f.offset off && Nat.ble (P.cellsOf f.type) fds.length && g f.type (fds.take (P.cellsOf f.type)) && jU g P r (off+P.cellsOf f.type) (fds.drop (P.cellsOf f.type))
def jL (g:List Fd->Bool) (c:Nat):Nat->List Fd->Bool
 | 0,[]=>true
 | 0,_::_=>false
 | m+1,fds=>Nat.ble c fds.length && g (fds.take c) && jL g c m (fds.drop c)
def aD (S:As) (P:Program):Nat->TypeId->List Fd->Bool
 | 0,_,_=>false
 | n+1,t,fds=>match P.underlying t with
  | some (.int k)=>match fds with
   | [.int k']=>IQ k' k
   | _=>false
  | some .bool=>match fds with
   | [.bool]=>true
   | _=>false
  | some .string=>match fds with
   | [.str]=>true
   | _=>false
  | some (.slice e)=>match fds with
   | [.sl σ]=>Nat.beq (P.cellsOf e) (S.sz σ) && Nat.ble 1 (S.sz σ) && aD S P n e (S.fds σ)
   | _=>false
  | some (.struct fs)=>Nat.beq (P.cellsOf t) fds.length && jU (aD S P n) P fs.toList 0 fds
  | some (.array m e)=>Nat.beq (P.cellsOf t) fds.length && jL (aD S P n e) (P.cellsOf e) m fds
  | _=>false
variable {H:Type} {enc:TypeId×Value->H} {P:Program} {w:World} {spare:Nat->Bool} {held:Bool}
theorem take_len {α:Type} {l:List α} {c:Nat} (h:c<=l.length):(l.take c).length=c:=by rw [List.length_take];omega
theorem U6 {g:TypeId->List Fd->Bool} {T:TypeId->List Value->Prop} {cs:List Value} (hg: ∀ t fds cs,g t fds=true->cs.length=fds.length->T t cs->Fits S w fds cs):
  ∀ (r:List Field) (off:Nat) (fds:List Fd),jU g P r off fds=true->off+fds.length=cs.length->(∀ f∈r,T f.type ((cs.drop f.offset).take (P.cellsOf f.type)))->Fits S w fds (cs.drop off)
 | [],off,[],_,hl,_=>by
  have:cs.drop off=[]:=List.drop_eq_nil_of_le (by simp at hl;omega)
  rw [this];exact .nil
 | [],_,_::_,h,_,_=>by simp [jU] at h
 | f::r,off,fds,h,hl,hT=>by
  simp only [jU,dl] at h
  obtain ⟨⟨⟨h1,h2⟩,h3⟩,h4⟩:=h
  have h1:=ac h1
  have h2:=dk h2
  have hlt:(fds.take (P.cellsOf f.type)).length=P.cellsOf f.type:=take_len h2
  have a:Fits S w (fds.take (P.cellsOf f.type)) ((cs.drop off).take (P.cellsOf f.type)):=by
   refine hg _ _ _ h3 ?_ (by have:=hT f (by simp);rwa [h1] at this)
   rw [hlt,take_len (by rw [List.length_drop];omega)]
  have b:=U6 hg r (off+P.cellsOf f.type) (fds.drop (P.cellsOf f.type)) h4 (by rw [List.length_drop];omega) fun x hx=>hT x (by simp [hx])
  have:=a.append b
  rw [List.take_append_drop] at this
  have e:(cs.drop off).take (P.cellsOf f.type)++cs.drop (off+P.cellsOf f.type)=cs.drop off:=by
   rw [<-List.drop_drop,List.take_append_drop]
  rwa [e] at this
theorem U5 {g:List Fd->Bool} {T:List Value->Prop} {c:Nat} {cs:List Value} (hg: ∀ fds cs,g fds=true->cs.length=fds.length->T cs->Fits S w fds cs):
  ∀ (m i:Nat) (fds:List Fd),jL g c m fds=true->i*c+fds.length=cs.length->(∀ j,j<i+m->T ((cs.drop (j*c)).take c))->Fits S w fds (cs.drop (i*c))
 | 0,i,[],_,hl,_=>by
  have:cs.drop (i*c)=[]:=List.drop_eq_nil_of_le (by simp at hl;omega)
  rw [this];exact .nil
 | 0,_,_::_,h,_,_=>by simp [jL] at h
 | m+1,i,fds,h,hl,hT=>by
  simp only [jL,dl] at h
  obtain ⟨⟨h2,h3⟩,h4⟩:=h
  have h2:=dk h2
  have a:Fits S w (fds.take c) ((cs.drop (i*c)).take c):=by
   refine hg _ _ h3 ?_ (hT i (by omega))
   rw [take_len h2,take_len (by rw [List.length_drop];omega)]
  have b:=U5 hg m (i+1) (fds.drop c) h4 (by rw [List.length_drop,Nat.succ_mul];omega) fun j hj=>hT j (by omega)
  have:=a.append b
  rw [List.take_append_drop] at this
  have e:(cs.drop (i*c)).take c++cs.drop ((i+1)*c)=cs.drop (i*c):=by
   rw [Nat.succ_mul,<- List.drop_drop,List.take_append_drop]
  rwa [e] at this
theorem LU {α:Type} {p:Nat->α->Prop}: ∀ (n:Nat),(∀ i,i<n-> ∃ x,p i x)-> ∃ l:List α,l.length=n/\ ∀ i x,l[i]?=some x->p i x
 | 0,_=>⟨[],rfl,fun i x h=>by simp at h⟩
 | n+1,h=>by
  obtain ⟨l,h1,h2⟩:=LU (p:=p) n fun i hi=>h i (by omega)
  obtain ⟨x,hx⟩:=h n (lw n)
  refine ⟨l++[x],by simp [h1],fun i y hy=>?_⟩
  by_cases hi:i<n
  ·rw [el (by omega)] at hy;exact h2 i y hy
  ·have:=(List.getElem?_eq_some_iff.1 hy).1
   simp at this
   have e:i=n:=by omega
   subst e
   rw [kw (by omega),h1,Nat.sub_self] at hy
   simp at hy
   subst hy
   exact hx
theorem As.XZ {τ:Nat} {l:List (S.T τ)} {i:Nat} {f:FC S.T} (hz:0<S.sz τ) (h:(S.flat τ l)[i]?=some f): ∃ x,l[i / S.sz τ]?=some x/\(S.enc τ x)[i % S.sz τ]?=some f:=by
 have hlt:=(List.getElem?_eq_some_iff.1 h).1
 rw [S.Au] at hlt
 have hj:i / S.sz τ<l.length:=(Nat.div_lt_iff_lt_mul hz).2 hlt
 have hk:i % S.sz τ<(S.enc τ l[i / S.sz τ]).length:=by rw [S.Ah];exact Nat.mod_lt _ hz
 refine ⟨l[i / S.sz τ],co hj,?_⟩
 have:=S.Jz τ l (i / S.sz τ) l[i / S.sz τ] (i % S.sz τ) (S.enc τ l[i / S.sz τ])[i % S.sz τ] (co hj) (co hk)
 rw [Nat.div_add_mod' i (S.sz τ),h] at this
 rw [co hk]
 exact this.symm
theorem cell_spot {a:Addr} {v:Value} (h:w.cell? a=some v):a=⟨a.block,a.off,none⟩/\a.block<w.heap.size:=by
 obtain ⟨b,o,s⟩:=a
 unfold World.cell? at h
 split at h
 ·rename_i c e z hb
  split at h
  ·cases h
  ·rename_i hs
   cases s with
   | some _=>simp at hs
   | none=>exact ⟨rfl,(Array.getElem?_eq_some_iff.1 hb).1⟩
 ·cases h
theorem bY {σ e:Nat} {len cap c:Nat} {a:Addr} (hc:c=S.sz σ) (hz:1<=c) (hl:len<=cap) (hm:cap<=maxLen) (h: ∀ i,i<len-> ∃ cs',w.cells? 0 (a.add (i*c)) c=some cs'/\Fits S w (S.fds σ) cs'):Fits S w [.sl σ] [.slice (some a) len cap]:=by
 subst hc
 obtain ⟨l,hlen,hl2⟩:=LU (α:=S.T σ) (p:=fun i x=> ∃ cs',w.cells? 0 (a.add (i*S.sz σ)) (S.sz σ)=some cs'/\AG S w (· <w.heap.size) (S.enc σ x) cs'/\ ∀ f∈S.enc σ x,Wb S f) len fun i hi=>by
  obtain ⟨cs',h1,l,⟨p,rfl⟩,h3,h4⟩:=h i hi
  have e:S.enc σ (S.of σ p)=EG (S.fds σ) p:=by unfold As.enc;rw [S.FF]
  exact ⟨S.of σ p,cs',h1,by rw [e];exact h3,by rw [e];exact h4⟩
 have hr:Wb S (.sl σ l):=.sl σ l (by omega) fun x hx f hf=>by
  obtain ⟨i,hi⟩:=List.getElem?_of_mem hx
  obtain ⟨cs',_,_,h3⟩:=hl2 i x hi
  exact h3 f hf
 refine Fits.one (f:=.sl σ) (x:=l) ?_ hr
 subst hlen
 cases hlc:l with
 | nil=>exact .nil σ (some a) cap
 | cons x r=>
  rw [<-hlc]
  have hcell: ∀ j k,j<l.length->k<S.sz σ-> ∃ v,w.cell? ((a.add (j*S.sz σ)).add k)=some v/\ ∀ y f,l[j]?=some y->(S.enc σ y)[k]?=some f->Av S w (· <w.heap.size) f v:=fun j k hj hk=>by
   obtain ⟨cs',h1,h2,_⟩:=hl2 j l[j] (co hj)
   obtain ⟨_,k1,k2⟩:=World.cells?_some h1
   have hk':k<cs'.length:=by omega
   refine ⟨cs'[k],by rw [k2 k hk];exact co hk',fun y f hy hf=>?_⟩
   rw [co hj] at hy
   cases hy
   exact h2.2 k f _ hf (co hk')
  have h0:0<l.length:=by rw [hlc];simp
  obtain ⟨v0,hv0,_⟩:=hcell 0 0 h0 hz
  have ha0:(a.add (0*S.sz σ)).add 0=a:=by simp [Addr.add]
  rw [ha0] at hv0
  obtain ⟨ea,hb⟩:=cell_spot hv0
  obtain ⟨b,off,s⟩:=a
  simp only [Addr.mk.injEq,true_and] at ea
  subst ea
  have hadd: ∀ j k,((⟨b,off,none⟩:Addr).add j).add k=⟨b,off+(j+k),none⟩:=fun j k=>by
   unfold Addr.add
   by_cases hj:j=0<;>by_cases hk:k=0<;>simp [hj,hk,Nat.add_assoc]
  refine .sl σ l b off cap (fun i=>(w.cell? ⟨b,off+i,none⟩).getD undef) hb hl (fun i f hf=>?_) fun i f hf=>?_
  all_goals
   obtain ⟨y,hy,hf'⟩:=As.XZ hz hf
   have hj:=(List.getElem?_eq_some_iff.1 hy).1
   have hk:i % S.sz σ<S.sz σ:=Nat.mod_lt _ hz
   obtain ⟨v,hv,hok⟩:=hcell _ _ hj hk
   rw [hadd,Nat.div_add_mod' i (S.sz σ)] at hv
  ·rw [hv];rfl
  ·rw [hv];exact hok y f hy hf'
def Oq (P:Program) (t:TypeId) (d:DataW H):Prop:= ∀ n∈d.weights P t,n<=reachBytes
theorem Kv {e:TypeId}: ∀ {ds:List (DataW H)},(∀ n∈DataW.weightsAll P e ds,n<=reachBytes)-> ∀ d∈ds,Oq P e d
 | [],_,d,hd=>by cases hd
 | x::r,h,d,hd=>by
  simp only [DataW.weightsAll] at h
  rcases List.mem_cons.1 hd with e1|e1
  ·subst e1;exact fun n hn=>h n (List.mem_append_left _ hn)
  ·exact Kv (fun n hn=>h n (List.mem_append_right _ hn)) d e1
theorem JO: ∀ {ts:List TypeId} {ds:List (DataW H)},(∀ n∈DataW.weightsEach P ts ds,n<=reachBytes)-> ∀ (i:Nat) t d,ts[i]?=some t->ds[i]?=some d->Oq P t d
 | [],_,_,i,t,d,h1,_=>by simp at h1
 | _::_,[],_,i,t,d,_,h2=>by simp at h2
 | t'::ts,d'::ds,h,i,t,d,h1,h2=>by
  simp only [DataW.weightsEach] at h
  cases i with
  | zero=>
   simp only [List.getElem?_cons_zero,am] at h1 h2
   subst h1 h2;exact fun n hn=>h n (List.mem_append_left _ hn)
  | succ i=>exact JO (fun n hn=>h n (List.mem_append_right _ hn)) i t d (by simpa using h1) (by simpa using h2)
theorem KP: ∀ (n:Nat) (t:TypeId) (fds:List Fd) (cs:List Value) (fuel:Nat) (x:DataW H×List MemPlace),aD S P n t fds=true->DataW.trod enc P w 0 spare held fuel t cs=some x->Oq P t x.1->Fits S w fds cs
 | 0,_,_,_,_,_,h,_,_=>by simp [aD] at h
 | n+1,t,fds,cs,fuel,x,h,ht,hx=>by
  simp only [aD] at h
  split at h
  ·rename_i k hu
   split at h
   ·rename_i k'
    have:=(DR _ _).1 h
    subst this
    obtain ⟨z,rfl,_,hw⟩:=DataW.trod_int hu ht
    exact Fits.one (f:=.int k') (x:=z) (.int k' z) (.int k' z hw)
   ·cases h
  ·rename_i hu
   split at h
   ·obtain ⟨z,rfl,_⟩:=DataW.trod_bool hu ht
    exact Fits.one (f:=.bool) (x:=z) (.bool z) (.bool z)
   ·cases h
  ·rename_i hu
   split at h
   ·obtain ⟨z,rfl,rfl,hz⟩:=DataW.trod_string hu ht
    obtain ⟨⟨z⟩⟩:=z
    exact Fits.one (f:=.str) (x:=z) (.str z) (.str z (hx z.length (by simp [DataW.weights])))
   ·cases h
  ·rename_i e hu
   split at h
   ·rename_i σ
    simp only [dl] at h
    obtain ⟨⟨h1,h2⟩,h3⟩:=h
    have h1:=ac h1
    have h2:=dk h2
    rcases Go.Deep.open_slice hu ht with ⟨rfl,_⟩|⟨a,len,cap,m,n',D,Pl,rfl,_,hl,hm,hmm,rfl,hel⟩
    ·exact Fits.one (f:=.sl σ) (x:=[]) (.nil σ none 0) (.sl σ [] (Nat.zero_le _) fun x hx=>by simp at hx)
    ·refine bY (e:=e) (c:=P.cellsOf e) h1 (by omega) hl hm fun i hi=>?_
     obtain ⟨cs',k1,k2⟩:=hel i (by rw [hmm];split<;>omega)
     refine ⟨cs',k1,KP n e (S.fds σ) cs' n' _ h3 k2 (Kv (ds:=(List.range len).map D) (fun z hz=>hx z ?_) _ (List.mem_map.2 ⟨i,List.mem_range.2 hi,rfl⟩))⟩
     simp only [DataW.weights,hu]
     exact mt _ (List.mem_append_left _ hz)
   ·cases h
  ·rename_i fs hu
   simp only [dl] at h
   obtain ⟨h1,h2⟩:=h
   have h1:=ac h1
   obtain ⟨xs,n',_,ex,hcl,hxl,hf⟩:=DataW.trod_struct hu ht
   subst ex
   have GV: ∀ z∈DataW.weightsEach P (fs.toList.map (·.type)) (xs.map (·.1)),z<=reachBytes:=fun z hz=>hx z (by simp only [DataW.weights,hu];exact hz)
   have:=U6 (cs:=cs) (T:=fun t cs=> ∃ x,DataW.trod enc P w 0 spare held n' t cs=some x/\Oq P t x.1) (g:=aD S P n) (S:=S) (w:=w) (fun t fds cs hg _ ⟨x,hx,hy⟩=>KP n t fds cs n' x hg hx hy) fs.toList 0 fds h2 (by omega) fun f hfm=>by
    obtain ⟨i,hi⟩:=List.getElem?_of_mem hfm
    have hi':fs[i]?=some f:=by simpa using hi
    have hlt:=(Array.getElem?_eq_some_iff.1 hi').1
    have:=hf i f hi'
    have hxi:xs[i]?=some xs[i]:=co (by omega)
    rw [hxi] at this
    exact ⟨_,this,JO GV i f.type _ (by rw [List.getElem?_map,hi];rfl) (by rw [List.getElem?_map,hxi];rfl)⟩
   simpa using this
  ·rename_i m e hu
   simp only [dl] at h
   obtain ⟨h1,h2⟩:=h
   have h1:=ac h1
   obtain ⟨xs,n',_,ex,hcl,hxl,hf⟩:=DataW.trod_array hu ht
   subst ex
   have GV: ∀ z∈DataW.weightsAll P e (xs.map (·.1)),z<=reachBytes:=fun z hz=>hx z (by simp only [DataW.weights,hu];exact hz)
   have:=U5 (cs:=cs) (T:=fun cs=> ∃ x,DataW.trod enc P w 0 spare held n' e cs=some x/\Oq P e x.1) (g:=aD S P n e) (S:=S) (w:=w) (fun fds cs hg _ ⟨x,hx,hy⟩=>KP n e fds cs n' x hg hx hy) m 0 fds h2 (by omega) fun j hj=>by
    have:=hf j (by omega)
    have hxj:xs[j]?=some xs[j]:=co (by omega)
    rw [hxj] at this
    exact ⟨_,this,Kv GV _ (List.mem_map.2 ⟨_,gc hxj,rfl⟩)⟩
   simpa using this
  ·cases h
end
end Go.En
namespace Go.En
open Go.RowKit Go.ChangeShapes Go.WideShapes
section
variable {S:As}
def Vc (S:As):(as:List C0)->PT S as->Prop
 | [],_=>True
 | .fd f::r,x=>Wb S (f.fc x.1)/\Vc S r x.2
 | .st τ::r,x=>(∀ f∈S.enc τ x.1,Wb S f)/\Vc S r x.2
 | _::r,x=>Vc S r x.2
def fG:Option TypeDesc->Bool
 | some (.struct _)=>true
 | some (.array _ _)=>true
 | _=>false
def X9:Option TypeDesc->Bool
 | some (.int _)=>true
 | some .bool=>true
 | some .string=>true
 | some (.slice _)=>true
 | _=>false
def Pf (S:As) (P:Program) (n:Nat):List C0->List TypeId->Bool
 | [],[]=>true
 | .fd f::r,t::ts=>X9 (P.underlying t) && aD S P n t [f] && Pf S P n r ts
 | .st τ::r,t::ts=>fG (P.underlying t) && aD S P n t (S.fds τ) && Pf S P n r ts
 | _,_=>false
variable {H:Type} {enc:TypeId×Value->H} {P:Program} {w:World} {spare:Nat->Bool} {held:Bool}
theorem cells_one {t:TypeId} {v:Value} {r:Reach} {b:Nat} (ht:X9 (P.underlying t)=true) (h:Value.okWide P w r b t v):v.cells.toList=[v]:=by
 unfold X9 at ht
 split at ht
 ·rename_i k hu;obtain ⟨n,rfl⟩:=okWide_int hu h;simp [Value.cells]
 ·rename_i hu;obtain ⟨n,rfl⟩:=okWide_bool hu h;simp [Value.cells]
 ·rename_i hu;obtain ⟨n,rfl⟩:=okWide_string hu h;simp [Value.cells]
 ·rename_i e hu;obtain ⟨a,n,c,rfl⟩:=okWide_slice hu h;simp [Value.cells]
 ·cases ht
theorem XI {t:TypeId} {v:Value} {r:Reach} {b:Nat} (ht:fG (P.underlying t)=true) (h:Value.okWide P w r b t v): ∃ cs,v=.agg cs:=by
 unfold fG at ht
 split at ht
 ·rename_i k hu;simp only [Value.okWide,hu] at h;obtain ⟨cs,h1,_⟩:=h;exact ⟨cs,h1⟩
 ·rename_i k e hu;simp only [Value.okWide,hu] at h;obtain ⟨cs,h1,_⟩:=h;exact ⟨cs,h1⟩
 ·cases ht
theorem Ug {F D0 D:Nat->Prop} (hD:D=(· <w.heap.size)) {fds:List Fd} {vs:List Value} (h:Fits S w fds vs) {n:Nat} {o:List (Nat×Own S)} {β:Nat->Nm} (hg:GH w F D0 D o (· <n) β w):
  ∃ p:Ps S.T fds,(∀ f∈EG fds p,Wb S f)/\ ∀ cs o' n',Ch (EG fds p) n o=(cs,o',n')-> ∃ β',(∀ i,i<n->β i=β' i)/\GH w F D0 D o' (· <n') β' w/\AD β' cs=vs/\BZ (· <n') cs/\n<=n':=by
 subst hD
 obtain ⟨l,⟨p,rfl⟩,h2,h3⟩:=h
 exact ⟨p,h3,fun cs o' n' hu=>HQ h2 hg hu⟩
theorem K9 {N:Nat} {D0 F:Nat->Prop} {D:Nat->Prop} (hD:D=(· <w.heap.size)) {r:Reach} {b:Nat}: ∀ (as:List C0) (ts:List TypeId) (vs:List Value) (ds:List (DataW H)) (ps:List MemPlace),Pf S P N as ts=true->DataW.TrodAll enc P w 0 spare held ts vs ds ps->
  (∀ (j:Nat) t v,ts[j]?=some t->vs[j]?=some v->Value.okWide P w r b t v)->(∀ z∈DataW.weightsEach P ts ds,z<=reachBytes)-> ∀ (n:Nat) (o:List (Nat×Own S)) (β:Nat->Nm),GH w F D0 D o (· <n) β w->
  ∃ (x:PT S as) (cs:List SV) (o':List (Nat×Own S)) (n':Nat) (β':Nat->Nm),CV as x n o=(cs,o',n')/\GH w F D0 D o' (· <n') β' w/\AD β' cs=vs/\BZ (· <n') cs/\(∀ i,i<n->β i=β' i)/\n<=n'/\Vc S as x
 | [],[],[],_,_,_,_,_,_,n,o,β,hg=>⟨(),[],o,n,β,rfl,hg,by simp [AD],trivial,fun _ _=>rfl,Nat.le_refl _,trivial⟩
 | [],[],_::_,[],_,_,h,_,_,n,o,β,hg=>by simp [DataW.TrodAll] at h
 | [],[],_::_,_::_,_,_,h,_,_,n,o,β,hg=>by simp [DataW.TrodAll] at h
 | [],_::_,_,_,_,h,_,_,_,_,_,_,_=>by simp [Pf] at h
 | p::_,[],_,_,_,h,_,_,_,_,_,_,_=>by cases p<;>simp [Pf] at h
 | p::q,t::ts,[],ds,_,_,h,_,_,_,_,_,_=>by simp [DataW.TrodAll] at h
 | p::q,t::ts,v::vs,[],_,_,h,_,_,_,_,_,_=>by simp [DataW.TrodAll] at h
 | p::q,t::ts,v::vs,d::ds,ps,h,ha,hv,hz,n,o,β,hg=>by
  have hd:Oq P t d:=JO hz 0 t d rfl rfl
  have hzr: ∀ z∈DataW.weightsEach P ts ds,z<=reachBytes:=fun z h=>hz z (by simp only [DataW.weightsEach];exact List.mem_append_right _ h)
  obtain ⟨p1,p2,⟨fuel,h1⟩,h2,_⟩:=ha
  have hv0:=hv 0 t v rfl rfl
  have hvr: ∀ (j:Nat) t v,ts[j]?=some t->vs[j]?=some v->Value.okWide P w r b t v:=fun j t v h1 h2=>hv (j+1) t v (by simpa using h1) (by simpa using h2)
  cases p with
  | fd f=>
   simp only [Pf,dl] at h
   obtain ⟨⟨k1,k2⟩,k3⟩:=h
   rw [cells_one k1 hv0] at h1
   obtain ⟨y,hy,hu⟩:=Ug hD (KP N t [f] [v] fuel _ k2 h1 hd) hg
   rcases hE:Ch (EG [f] y) n o with ⟨cs1,o1,n1⟩
   obtain ⟨β1,b1,b2,b3,b4,b5⟩:=hu _ _ _ hE
   obtain ⟨x,cs,o',n',β',e1,e2,e3,e4,e5,e6,e7⟩:=K9 hD q ts vs ds p2 k3 h2 hvr hzr n1 o1 β1 b2
   have hlen:cs1.length=1:=by have:=congrArg List.length b3;rw [AI] at this;simpa using this
   match cs1,hlen with
   | [c],_=>
    have hon:c.on (· <n1):=by simpa [BZ] using b4
    refine ⟨(y.1,x),c::cs,o',n',β',?_,e2,?_,?_,fun i hi=>(b1 i hi).trans (e5 i (by omega)),by omega,?_⟩
    ·have hE':Ch [f.fc y.1] n o=([c],o1,n1):=hE
     simp only [CV,B3,hE',e1,C0.val]
    ·simp only [AD] at b3 ⊢
     rw [<-CX (fun i hi=>e5 i hi) c hon,e3]
     simp only [List.cons.injEq,and_true] at b3
     rw [b3]
    ·simp only [BZ]
     exact ⟨Ao (fun i hi=>dg hi e6) hon,e4⟩
    ·exact ⟨hy _ (by simp [EG]),e7⟩
  | st τ=>
   simp only [Pf,dl] at h
   obtain ⟨⟨k1,k2⟩,k3⟩:=h
   obtain ⟨ca,rfl⟩:=XI k1 hv0
   have hcl:(Value.agg ca).cells.toList=ca.toList:=by simp [Value.cells]
   rw [hcl] at h1
   obtain ⟨y,hy,hun⟩:=Ug hD (KP N t (S.fds τ) ca.toList fuel _ k2 h1 hd) hg
   rcases hE:Ch (EG (S.fds τ) y) n o with ⟨cs1,o1,n1⟩
   obtain ⟨β1,b1,b2,b3,b4,b5⟩:=hun _ _ _ hE
   obtain ⟨x,cs,o',n',β',e1,e2,e3,e4,e5,e6,e7⟩:=K9 hD q ts vs ds p2 k3 h2 hvr hzr n1 o1 β1 b2
   have hen:S.enc τ (S.of τ y)=EG (S.fds τ) y:=by unfold As.enc;rw [S.FF]
   refine ⟨(S.of τ y,x),.agg cs1::cs,o',n',β',?_,e2,?_,?_,fun i hi=>(b1 i hi).trans (e5 i (by omega)),by omega,?_⟩
   ·simp only [CV,B3,hen,hE,e1,C0.val]
   ·simp only [AD,SV.den]
    rw [<-Bf (fun i hi=>e5 i hi) cs1 b4,e3,b3]
   ·simp only [BZ,SV.on]
    exact ⟨Ce (fun i hi=>dg hi e6) b4,e4⟩
   ·exact ⟨fun f hf=>hy f (by rw [<-hen];exact hf),e7⟩
  | _=>simp [Pf] at h
theorem Vy {N:Nat} {f:Nat} {as:List C0} {flat:Bool} {m:Spec.D S ⟨as,[]⟩->Option (Spec.D S ⟨[.fd .bool],[]⟩)} (hc:BU.Holds P ⟨f,0,⟨as,[]⟩,⟨[.fd .bool],[]⟩,flat,.opt m⟩) (hm: ∀ x:PT S as,Vc S as x->m (x,())=some ((true,()),()))
  {ts:List TypeId} {args:Array Value} {ds:List (DataW H)} {ps:List MemPlace} {r:Reach} {b:Nat} (hty:Pf S P N as ts=true) (ha:DataW.TrodAll enc P w 0 spare held ts args.toList ds ps) (hv: ∀ (j:Nat) t v,ts[j]?=some t->args.toList[j]?=some v->Value.okWide P w r b t v) (hz: ∀ z∈DataW.weightsEach P ts ds,z<=reachBytes) (hiv:S.inv (· <w.heap.size) w):
  Calls P f args w fun e w'=>e=.returned (.bool true)/\Below w.heap.size w w':=by
 have hg0:GH w (fun _=>False) (· <w.heap.size) (· <w.heap.size) ([]:List (Nat×Own S)) (· <0) (fun _=>⟨none,0,0,undef⟩) w:=
  ⟨fun i b h=>by simp [AW] at h,fun i b h=>by simp [AW] at h,fun i j b c k h=>by simp [AW] at h,fun i b k h=>by simp [AW] at h,fun i b k h=>by simp [AW] at h,fun i b k h=>by simp [AW] at h,fun k h=>h,fun k h=>.inl h,OX.refl _ _,fun _ h=>h⟩
 obtain ⟨x,cs,o,n,β,e1,e2,e3,e4,_,_,e7⟩:=K9 rfl as ts args.toList ds ps hty ha hv hz 0 [] _ hg0
 have hno: ∀ k,¬ AL o β k:=fun k ⟨i,b,h1,h2⟩=>by
  rcases e2.fresh i b k h1 h2 with h|h
  ·have:=e2.lt i b k h1 h2;omega
  ·exact h
 have hg:GH w (AL o β) (· <w.heap.size) (· <w.heap.size) o (· <n) β w:=
  ⟨e2.By,e2.own,e2.inj,fun i b k h1 h2=>.inr ⟨i,b,h1,h2⟩,e2.off,e2.lt,e2.DL,fun k h=>.inl h,OX.refl _ _,fun _ h=>h⟩
 have hen:Spec.enc (S:=S) ⟨as,[]⟩ (x,()) 0=(cs,o,n):=by simp only [Spec.enc,e1,Ep]
 have:=hc.calls (x,()) ((true,()),()) (hm x e7) w (· <w.heap.size) β cs o n hen hg e4 (Nat.zero_le _) hiv
 rw [e3,Array.toArray_toList] at this
 refine this.mono fun e w' h=>?_
 obtain ⟨D',β',rs',o',n',h1,h2,_,h4,_,_⟩:=h
 have h1':Spec.enc (S:=S) ⟨[.fd .bool],[]⟩ ((true,()),()) 0=([.b true],[],0):=rfl
 have h1:=h1'.symm.trans h1
 simp only [bi] at h1
 obtain ⟨rfl,_,_⟩:=h1
 refine ⟨by rw [h2];rfl,?_⟩
 exact ⟨h4.fr.os,h4.fr.tape,h4.fr.output,h4.fr.size,fun k hk=>h4.fr.block k hk (hno k)⟩
theorem JA (hl:laidOutB P=true) {W W':World} (hb:Below W.heap.size W W'): ∀ {ts:List TypeId} {vs:List Value} {ds:List (DataW H)} {ps:List MemPlace},(ts.all fun t=>P.readableRec t && decide (t<P.types.size))=true->DataW.TrodAll enc P W 0 (fun _=>true) true ts vs ds ps->(∀ x∈ps,x.block<W.heap.size)->
  DataW.TrodAll enc P W' 0 (fun b=>decide (b<W.heap.size)) true ts vs ds ps
 | [],[],[],_,_,h,_=>h
 | [],[],_::_,_,_,h,_=>by simp [DataW.TrodAll] at h
 | [],_::_,[],_,_,h,_=>by simp [DataW.TrodAll] at h
 | [],_::_,_::_,_,_,h,_=>by simp [DataW.TrodAll] at h
 | _::_,[],_,_,_,h,_=>by simp [DataW.TrodAll] at h
 | _::_,_::_,[],_,_,h,_=>by simp [DataW.TrodAll] at h
 | t::ts,v::vs,d::ds,ps,hr,h,hlt=>by
  obtain ⟨p,q,h1,h2,rfl⟩:=h
  simp only [List.all_cons,dl,ii] at hr
  exact ⟨p,q,Below.trod hl hr.1.1 hr.1.2 h1 hb fun x hx=>hlt x (List.mem_append_left _ hx),JA hl hb hr.2 h2 fun x hx=>hlt x (List.mem_append_right _ hx),rfl⟩
theorem F4: ∀ {ts:List TypeId} {vs:List Value} {ds:List (DataW H)} {ps:List MemPlace},DataW.TrodAll enc P w 0 spare held ts vs ds ps->ds.length=ts.length
 | [],[],[],_,_=>rfl
 | [],[],_::_,_,h=>by simp [DataW.TrodAll] at h
 | [],_::_,[],_,h=>by simp [DataW.TrodAll] at h
 | [],_::_,_::_,_,h=>by simp [DataW.TrodAll] at h
 | _::_,[],_,_,h=>by simp [DataW.TrodAll] at h
 | _::_,_::_,[],_,h=>by simp [DataW.TrodAll] at h
 | _::ts,_::vs,_::ds,_,h=>by
  obtain ⟨_,_,_,h2,_⟩:=h
  simp [F4 h2]
theorem Q9 {z:Nat}: ∀ {ts:List TypeId} {ds:List (DataW H)} (us:List TypeId) (es:List (DataW H)),z∈DataW.weightsEach P ts ds->z∈DataW.weightsEach P (ts++us) (ds++es)
 | [],_,_,_,h=>by simp [DataW.weightsEach] at h
 | _::_,[],_,_,h=>by simp [DataW.weightsEach] at h
 | t::ts,d::ds,us,es,h=>by
  simp only [DataW.weightsEach,List.cons_append] at h ⊢
  rcases List.mem_append.1 h with h|h
  ·exact List.mem_append_left _ h
  ·exact List.mem_append_right _ (Q9 us es h)
theorem P4 {s:ChangeSpec} {fn:Func} {f t N:Nat} {as:List C0} {flat:Bool} {m:Spec.D S ⟨as,[]⟩->Option (Spec.D S ⟨[.fd .bool],[]⟩)} (hc:BU.Holds P ⟨f,0,⟨as,[]⟩,⟨[.fd .bool],[]⟩,flat,.opt m⟩) (hm: ∀ x:PT S as,Vc S as x->m (x,())=some ((true,()),()))
  (hl:laidOutB P=true) (hty:Pf S P N as fn.params.toList=true) (hrd:(fn.params.toList.all fun t=>P.readableRec t && decide (t<P.types.size))=true) (hres:fn.resultTypes=#[t]) (ht:P.underlying t=some .bool) (hvars:s.vars=[])
  (hs: ∀ ds:List (DataW H),ds.length=fn.params.toList.length->s.fn H ds={ results:=[.lit (.bool true)],args:=ds })
  {W:World} {base:Nat} {args:Array Value} {ds gs:List (DataW H)} {before:List MemPlace} (hval: ∀ (j:Nat) t v,fn.params[j]?=some t->args[j]?=some v->Value.okWide P W .any base t v)
  (hW:DataW.Whole enc P fn.params.toList s.vars false W args.toList ds gs before) (hz:(DataW.weightsEach P (fn.params.toList++s.plain.varTypes P) (ds++gs)).all (· <=reachBytes)=true) (hiv:S.inv (· <W.heap.size) W):
  Calls P f args W fun e W'=> ∃ v,e=.returned v/\s.post enc P fn false true false false W args v W':=by
 have hW':=hW
 obtain ⟨p,q,hA,hV,rfl,hfz,hnd⟩:=hW
 rw [hvars] at hV
 obtain ⟨rfl,rfl⟩:=trodVars_none hV
 refine (Vy (N:=N) hc hm hty hA (fun j t v h1 h2=>hval j t v (by simpa using h1) (by simpa using h2)) (fun z h=>ip (List.all_eq_true.1 hz z (Q9 _ _ h))) hiv).mono fun e W' ⟨he,hb⟩=>?_
 refine ⟨_,he,ds,[],p++[],[],p,[],hW',?_,?_,?_,hb.frame _,fun h=>by cases h⟩
 ·rw [List.append_nil,hs ds (F4 hA),hres]
  exact ⟨[],[],shut_bool ht true,rfl,rfl⟩
 ·rw [List.append_nil,hs ds (F4 hA)]
  exact JA hl hb hrd hA fun x hx=>hW'.lt x (by simp [hx])
 ·rw [hvars,List.append_nil,hs ds (F4 hA)]
  rfl
end
end Go.En
