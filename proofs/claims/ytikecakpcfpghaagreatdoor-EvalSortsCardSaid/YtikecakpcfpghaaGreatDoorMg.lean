/- Opening: what a reading of the arguments (DataW.trod) met, as data, with what is known of the data's size (Rng); and that a law with a contract returns, whatever the arguments are. -/
import Derived.Test.YtikecakpcfpghaaGreatDoorMf
import Derived.ProofKit
import Derived.OpenShut
import Derived.Deep.Slices
set_option linter.all false
namespace Go.En
open Go.RowKit Go.ChangeShapes Go.WideShapes
inductive VF (S:Aq):FC S.T->Prop where
 | int (k:IntKind) (n:Int):(Lit.int k n).wf=true->VF S (.int k n)
 | bool (b:Bool):VF S (.bool b)
 | str (s:List UInt8):s.length<=reachBytes->VF S (.str s)
 | sl (σ:Nat) (l:List (S.T σ)):l.length<=maxLen->(∀ x∈l,∀ f∈S.enc σ x,VF S f)->VF S (.sl σ l)
section
variable {S:Aq}
def bf (S:Aq) (fds:List Fd) (l:List (FC S.T)):Prop:= ∃ p:Ps S.T fds,l=Dz fds p
theorem bf.append: ∀ {a b:List Fd} {l m:List (FC S.T)},bf S a l->bf S b m->bf S (a++b) (l++m)
 | [],b,l,m,⟨p,h⟩,h'=>by subst h;simpa [Dz] using h'
 | f::a,b,l,m,⟨p,h⟩,h'=>by
  subst h
  obtain ⟨q,hq⟩:=bf.append (a:=a) (b:=b) ⟨p.2,rfl⟩ h'
  exact ⟨(p.1,q),by simp only [Dz,List.cons_append,hq]⟩
theorem bf.length {a:List Fd} {l:List (FC S.T)} (h:bf S a l):l.length=a.length:=by obtain ⟨p,rfl⟩:=h;exact Iz a p
def Fits (S:Aq) (w:World) (fds:List Fd) (cs:List Value):Prop:= ∃ l,bf S fds l/\AE S w (· <w.heap.size) l cs/\ ∀ f∈l,VF S f
theorem Fits.append {w:World} {a b:List Fd} {cs ds:List Value} (h:Fits S w a cs) (h':Fits S w b ds):Fits S w (a++b) (cs++ds):=by
 obtain ⟨l,h1,h2,h3⟩:=h
 obtain ⟨m,k1,k2,k3⟩:=h'
 refine ⟨l++m,h1.append k1,h2.append k2,fun f hf=>?_⟩
 rcases List.mem_append.1 hf with hf|hf
 ·exact h3 f hf
 ·exact k3 f hf
theorem Fits.one {w:World} {f:Fd} {x:f.T S.T} {v:Value} (h:Au S w (· <w.heap.size) (f.fc x) v) (hr:VF S (f.fc x)):Fits S w [f] [v]:=by
 refine ⟨[f.fc x],⟨(x,()),rfl⟩,⟨rfl,fun i g v' hf hv=>?_⟩,fun g hg=>by simp only [List.mem_singleton] at hg;subst hg;exact hr⟩
 cases i with
 | zero=>simp only [List.getElem?_cons_zero,Option.some.injEq] at hf hv;subst hf;subst hv;exact h
 | succ i=>simp at hf
theorem Fits.nil {w:World}:Fits S w [] []:=⟨[],⟨(),rfl⟩,⟨rfl,fun i f v hf _=>by simp at hf⟩,fun f hf=>by simp at hf⟩
def iW (g:TypeId->List Fd->Bool) (P:Program):List Field->Nat->List Fd->Bool
 | [],_,[]=>true
 | [],_,_::_=>false
 | f::r,off,fds=>Nat.beq f.offset off && Nat.ble (P.cellsOf f.type) fds.length && g f.type (fds.take (P.cellsOf f.type)) && iW g P r (off+P.cellsOf f.type) (fds.drop (P.cellsOf f.type))
def iP (g:List Fd->Bool) (c:Nat):Nat->List Fd->Bool
 | 0,[]=>true
 | 0,_::_=>false
 | m+1,fds=>Nat.ble c fds.length && g (fds.take c) && iP g c m (fds.drop c)
def Zf (S:Aq) (P:Program):Nat->TypeId->List Fd->Bool
 | 0,_,_=>false
 | n+1,t,fds=>match P.underlying t with
  | some (.int k)=>match fds with
   | [.int k']=>H4 k' k
   | _=>false
  | some .bool=>match fds with
   | [.bool]=>true
   | _=>false
  | some .string=>match fds with
   | [.str]=>true
   | _=>false
  | some (.slice e)=>match fds with
   | [.sl σ]=>Nat.beq (P.cellsOf e) (S.sz σ) && Nat.ble 1 (S.sz σ) && Zf S P n e (S.fds σ)
   | _=>false
  | some (.struct fs)=>Nat.beq (P.cellsOf t) fds.length && iW (Zf S P n) P fs.toList 0 fds
  | some (.array m e)=>Nat.beq (P.cellsOf t) fds.length && iP (Zf S P n e) (P.cellsOf e) m fds
  | _=>false
variable {H:Type} {enc:TypeId×Value->H} {P:Program} {w:World} {spare:Nat->Bool} {held:Bool}
theorem take_len {α:Type} {l:List α} {c:Nat} (h:c<=l.length):(l.take c).length=c:=by rw [List.length_take];omega
theorem Uk {g:TypeId->List Fd->Bool} {T:TypeId->List Value->Prop} {cs:List Value} (hg: ∀ t fds cs,g t fds=true->cs.length=fds.length->T t cs->Fits S w fds cs):
  ∀ (r:List Field) (off:Nat) (fds:List Fd),iW g P r off fds=true->off+fds.length=cs.length->(∀ f∈r,T f.type ((cs.drop f.offset).take (P.cellsOf f.type)))->Fits S w fds (cs.drop off)
 | [],off,[],_,hl,_=>by
  have:cs.drop off=[]:=List.drop_eq_nil_of_le (by simp at hl;omega)
  rw [this];exact .nil
 | [],_,_::_,h,_,_=>by simp [iW] at h
 | f::r,off,fds,h,hl,hT=>by
  simp only [iW,Bool.and_eq_true] at h
  obtain ⟨⟨⟨h1,h2⟩,h3⟩,h4⟩:=h
  have h1:=Nat.eq_of_beq_eq_true h1
  have h2:=Nat.le_of_ble_eq_true h2
  have hlt:(fds.take (P.cellsOf f.type)).length=P.cellsOf f.type:=take_len h2
  have a:Fits S w (fds.take (P.cellsOf f.type)) ((cs.drop off).take (P.cellsOf f.type)):=by
   refine hg _ _ _ h3 ?_ (by have:=hT f (by simp);rwa [h1] at this)
   rw [hlt,take_len (by rw [List.length_drop];omega)]
  have b:=Uk hg r (off+P.cellsOf f.type) (fds.drop (P.cellsOf f.type)) h4 (by rw [List.length_drop];omega) fun x hx=>hT x (by simp [hx])
  have:=a.append b
  rw [List.take_append_drop] at this
  have e:(cs.drop off).take (P.cellsOf f.type)++cs.drop (off+P.cellsOf f.type)=cs.drop off:=by
   rw [<-List.drop_drop,List.take_append_drop]
  rwa [e] at this
theorem Uj {g:List Fd->Bool} {T:List Value->Prop} {c:Nat} {cs:List Value} (hg: ∀ fds cs,g fds=true->cs.length=fds.length->T cs->Fits S w fds cs):
  ∀ (m i:Nat) (fds:List Fd),iP g c m fds=true->i*c+fds.length=cs.length->(∀ j,j<i+m->T ((cs.drop (j*c)).take c))->Fits S w fds (cs.drop (i*c))
 | 0,i,[],_,hl,_=>by
  have:cs.drop (i*c)=[]:=List.drop_eq_nil_of_le (by simp at hl;omega)
  rw [this];exact .nil
 | 0,_,_::_,h,_,_=>by simp [iP] at h
 | m+1,i,fds,h,hl,hT=>by
  simp only [iP,Bool.and_eq_true] at h
  obtain ⟨⟨h2,h3⟩,h4⟩:=h
  have h2:=Nat.le_of_ble_eq_true h2
  have a:Fits S w (fds.take c) ((cs.drop (i*c)).take c):=by
   refine hg _ _ h3 ?_ (hT i (by omega))
   rw [take_len h2,take_len (by rw [List.length_drop];omega)]
  have b:=Uj hg m (i+1) (fds.drop c) h4 (by rw [List.length_drop,Nat.succ_mul];omega) fun j hj=>hT j (by omega)
  have:=a.append b
  rw [List.take_append_drop] at this
  have e:(cs.drop (i*c)).take c++cs.drop ((i+1)*c)=cs.drop (i*c):=by
   rw [Nat.succ_mul,<- List.drop_drop,List.take_append_drop]
  rwa [e] at this
theorem K5 {α:Type} {p:Nat->α->Prop}: ∀ (n:Nat),(∀ i,i<n-> ∃ x,p i x)-> ∃ l:List α,l.length=n/\ ∀ i x,l[i]?=some x->p i x
 | 0,_=>⟨[],rfl,fun i x h=>by simp at h⟩
 | n+1,h=>by
  obtain ⟨l,h1,h2⟩:=K5 (p:=p) n fun i hi=>h i (by omega)
  obtain ⟨x,hx⟩:=h n (Nat.lt_succ_self n)
  refine ⟨l++[x],by simp [h1],fun i y hy=>?_⟩
  by_cases hi:i<n
  ·rw [List.getElem?_append_left (by omega)] at hy;exact h2 i y hy
  ·have:=(List.getElem?_eq_some_iff.1 hy).1
   simp at this
   have e:i=n:=by omega
   subst e
   rw [List.getElem?_append_right (by omega),h1,Nat.sub_self] at hy
   simp at hy
   subst hy
   exact hx
theorem Aq.Wx {τ:Nat} {l:List (S.T τ)} {i:Nat} {f:FC S.T} (hz:0<S.sz τ) (h:(S.flat τ l)[i]?=some f): ∃ x,l[i / S.sz τ]?=some x/\(S.enc τ x)[i % S.sz τ]?=some f:=by
 have hlt:=(List.getElem?_eq_some_iff.1 h).1
 rw [S.At] at hlt
 have hj:i / S.sz τ<l.length:=(Nat.div_lt_iff_lt_mul hz).2 hlt
 have hk:i % S.sz τ<(S.enc τ l[i / S.sz τ]).length:=by rw [S.Aa];exact Nat.mod_lt _ hz
 refine ⟨l[i / S.sz τ],List.getElem?_eq_getElem hj,?_⟩
 have:=S.Jd τ l (i / S.sz τ) l[i / S.sz τ] (i % S.sz τ) (S.enc τ l[i / S.sz τ])[i % S.sz τ] (List.getElem?_eq_getElem hj) (List.getElem?_eq_getElem hk)
 rw [Nat.div_add_mod' i (S.sz τ),h] at this
 rw [List.getElem?_eq_getElem hk]
 exact this.symm
theorem cell_spot {a:Addr} {v:Value} (h:w.cell? a=some v):a=⟨a.block,a.off,none⟩/\a.block<w.heap.size:=by
 obtain ⟨b,o,s⟩:=a
 unfold World.cell? at h
 split at h
 ·rename_i c e z hb
  split at h
  ·cases h
  ·rename_i hs
   cases s with
   | some _=>simp at hs
   | none=>exact ⟨rfl,(Array.getElem?_eq_some_iff.1 hb).1⟩
 ·cases h
theorem ah {σ e:Nat} {len cap c:Nat} {a:Addr} (hc:c=S.sz σ) (hz:1<=c) (hl:len<=cap) (hm:cap<=maxLen) (h: ∀ i,i<len-> ∃ cs',w.cells? 0 (a.add (i*c)) c=some cs'/\Fits S w (S.fds σ) cs'):Fits S w [.sl σ] [.slice (some a) len cap]:=by
 subst hc
 obtain ⟨l,hlen,hl2⟩:=K5 (α:=S.T σ) (p:=fun i x=> ∃ cs',w.cells? 0 (a.add (i*S.sz σ)) (S.sz σ)=some cs'/\AE S w (· <w.heap.size) (S.enc σ x) cs'/\ ∀ f∈S.enc σ x,VF S f) len fun i hi=>by
  obtain ⟨cs',h1,l,⟨p,rfl⟩,h3,h4⟩:=h i hi
  have e:S.enc σ (S.of σ p)=Dz (S.fds σ) p:=by unfold Aq.enc;rw [S.E4]
  exact ⟨S.of σ p,cs',h1,by rw [e];exact h3,by rw [e];exact h4⟩
 have hr:VF S (.sl σ l):=.sl σ l (by omega) fun x hx f hf=>by
  obtain ⟨i,hi⟩:=List.getElem?_of_mem hx
  obtain ⟨cs',_,_,h3⟩:=hl2 i x hi
  exact h3 f hf
 refine Fits.one (f:=.sl σ) (x:=l) ?_ hr
 subst hlen
 cases hlc:l with
 | nil=>exact .nil σ (some a) cap
 | cons x r=>
  rw [<-hlc]
  have hcell: ∀ j k,j<l.length->k<S.sz σ-> ∃ v,w.cell? ((a.add (j*S.sz σ)).add k)=some v/\ ∀ y f,l[j]?=some y->(S.enc σ y)[k]?=some f->Au S w (· <w.heap.size) f v:=fun j k hj hk=>by
   obtain ⟨cs',h1,h2,_⟩:=hl2 j l[j] (List.getElem?_eq_getElem hj)
   obtain ⟨_,k1,k2⟩:=World.cells?_some h1
   have hk':k<cs'.length:=by omega
   refine ⟨cs'[k],by rw [k2 k hk];exact List.getElem?_eq_getElem hk',fun y f hy hf=>?_⟩
   rw [List.getElem?_eq_getElem hj] at hy
   cases hy
   exact h2.2 k f _ hf (List.getElem?_eq_getElem hk')
  have h0:0<l.length:=by rw [hlc];simp
  obtain ⟨v0,hv0,_⟩:=hcell 0 0 h0 hz
  have ha0:(a.add (0*S.sz σ)).add 0=a:=by simp [Addr.add]
  rw [ha0] at hv0
  obtain ⟨ea,hb⟩:=cell_spot hv0
  obtain ⟨b,off,s⟩:=a
  simp only [Addr.mk.injEq,true_and] at ea
  subst ea
  have hadd: ∀ j k,((⟨b,off,none⟩:Addr).add j).add k=⟨b,off+(j+k),none⟩:=fun j k=>by
   unfold Addr.add
   by_cases hj:j=0<;>by_cases hk:k=0<;>simp [hj,hk,Nat.add_assoc]
  refine .sl σ l b off cap (fun i=>(w.cell? ⟨b,off+i,none⟩).getD undef) hb hl (fun i f hf=>?_) fun i f hf=>?_
  all_goals
   obtain ⟨y,hy,hf'⟩:=Aq.Wx hz hf
   have hj:=(List.getElem?_eq_some_iff.1 hy).1
   have hk:i % S.sz σ<S.sz σ:=Nat.mod_lt _ hz
   obtain ⟨v,hv,hok⟩:=hcell _ _ hj hk
   rw [hadd,Nat.div_add_mod' i (S.sz σ)] at hv
  ·rw [hv];rfl
  ·rw [hv];exact hok y f hy hf'
def OT (P:Program) (t:TypeId) (d:DataW H):Prop:= ∀ n∈d.weights P t,n<=reachBytes
theorem Kg {e:TypeId}: ∀ {ds:List (DataW H)},(∀ n∈DataW.weightsAll P e ds,n<=reachBytes)-> ∀ d∈ds,OT P e d
 | [],_,d,hd=>by cases hd
 | x::r,h,d,hd=>by
  simp only [DataW.weightsAll] at h
  rcases List.mem_cons.1 hd with e1|e1
  ·subst e1;exact fun n hn=>h n (List.mem_append_left _ hn)
  ·exact Kg (fun n hn=>h n (List.mem_append_right _ hn)) d e1
theorem I3: ∀ {ts:List TypeId} {ds:List (DataW H)},(∀ n∈DataW.weightsEach P ts ds,n<=reachBytes)-> ∀ (i:Nat) t d,ts[i]?=some t->ds[i]?=some d->OT P t d
 | [],_,_,i,t,d,h1,_=>by simp at h1
 | _::_,[],_,i,t,d,_,h2=>by simp at h2
 | t'::ts,d'::ds,h,i,t,d,h1,h2=>by
  simp only [DataW.weightsEach] at h
  cases i with
  | zero=>
   simp only [List.getElem?_cons_zero,Option.some.injEq] at h1 h2
   subst h1 h2;exact fun n hn=>h n (List.mem_append_left _ hn)
  | succ i=>exact I3 (fun n hn=>h n (List.mem_append_right _ hn)) i t d (by simpa using h1) (by simpa using h2)
theorem J2: ∀ (n:Nat) (t:TypeId) (fds:List Fd) (cs:List Value) (fuel:Nat) (x:DataW H×List MemPlace),Zf S P n t fds=true->DataW.trod enc P w 0 spare held fuel t cs=some x->OT P t x.1->Fits S w fds cs
 | 0,_,_,_,_,_,h,_,_=>by simp [Zf] at h
 | n+1,t,fds,cs,fuel,x,h,ht,hx=>by
  simp only [Zf] at h
  split at h
  ·rename_i k hu
   split at h
   ·rename_i k'
    have:=(DB _ _).1 h
    subst this
    obtain ⟨z,rfl,_,hw⟩:=DataW.trod_int hu ht
    exact Fits.one (f:=.int k') (x:=z) (.int k' z) (.int k' z hw)
   ·cases h
  ·rename_i hu
   split at h
   ·obtain ⟨z,rfl,_⟩:=DataW.trod_bool hu ht
    exact Fits.one (f:=.bool) (x:=z) (.bool z) (.bool z)
   ·cases h
  ·rename_i hu
   split at h
   ·obtain ⟨z,rfl,rfl,hz⟩:=DataW.trod_string hu ht
    obtain ⟨⟨z⟩⟩:=z
    exact Fits.one (f:=.str) (x:=z) (.str z) (.str z (hx z.length (by simp [DataW.weights])))
   ·cases h
  ·rename_i e hu
   split at h
   ·rename_i σ
    simp only [Bool.and_eq_true] at h
    obtain ⟨⟨h1,h2⟩,h3⟩:=h
    have h1:=Nat.eq_of_beq_eq_true h1
    have h2:=Nat.le_of_ble_eq_true h2
    rcases Go.Deep.open_slice hu ht with ⟨rfl,_⟩|⟨a,len,cap,m,n',D,Pl,rfl,_,hl,hm,hmm,rfl,hel⟩
    ·exact Fits.one (f:=.sl σ) (x:=[]) (.nil σ none 0) (.sl σ [] (Nat.zero_le _) fun x hx=>by simp at hx)
    ·refine ah (e:=e) (c:=P.cellsOf e) h1 (by omega) hl hm fun i hi=>?_
     obtain ⟨cs',k1,k2⟩:=hel i (by rw [hmm];split<;>omega)
     refine ⟨cs',k1,J2 n e (S.fds σ) cs' n' _ h3 k2 (Kg (ds:=(List.range len).map D) (fun z hz=>hx z ?_) _ (List.mem_map.2 ⟨i,List.mem_range.2 hi,rfl⟩))⟩
     simp only [DataW.weights,hu]
     exact List.mem_cons_of_mem _ (List.mem_append_left _ hz)
   ·cases h
  ·rename_i fs hu
   simp only [Bool.and_eq_true] at h
   obtain ⟨h1,h2⟩:=h
   have h1:=Nat.eq_of_beq_eq_true h1
   obtain ⟨xs,n',_,ex,hcl,hxl,hf⟩:=DataW.trod_struct hu ht
   subst ex
   have GO: ∀ z∈DataW.weightsEach P (fs.toList.map (·.type)) (xs.map (·.1)),z<=reachBytes:=fun z hz=>hx z (by simp only [DataW.weights,hu];exact hz)
   have:=Uk (cs:=cs) (T:=fun t cs=> ∃ x,DataW.trod enc P w 0 spare held n' t cs=some x/\OT P t x.1) (g:=Zf S P n) (S:=S) (w:=w) (fun t fds cs hg _ ⟨x,hx,hy⟩=>J2 n t fds cs n' x hg hx hy) fs.toList 0 fds h2 (by omega) fun f hfm=>by
    obtain ⟨i,hi⟩:=List.getElem?_of_mem hfm
    have hi':fs[i]?=some f:=by simpa using hi
    have hlt:=(Array.getElem?_eq_some_iff.1 hi').1
    have:=hf i f hi'
    have hxi:xs[i]?=some xs[i]:=List.getElem?_eq_getElem (by omega)
    rw [hxi] at this
    exact ⟨_,this,I3 GO i f.type _ (by rw [List.getElem?_map,hi];rfl) (by rw [List.getElem?_map,hxi];rfl)⟩
   simpa using this
  ·rename_i m e hu
   simp only [Bool.and_eq_true] at h
   obtain ⟨h1,h2⟩:=h
   have h1:=Nat.eq_of_beq_eq_true h1
   obtain ⟨xs,n',_,ex,hcl,hxl,hf⟩:=DataW.trod_array hu ht
   subst ex
   have GO: ∀ z∈DataW.weightsAll P e (xs.map (·.1)),z<=reachBytes:=fun z hz=>hx z (by simp only [DataW.weights,hu];exact hz)
   have:=Uj (cs:=cs) (T:=fun cs=> ∃ x,DataW.trod enc P w 0 spare held n' e cs=some x/\OT P e x.1) (g:=Zf S P n e) (S:=S) (w:=w) (fun fds cs hg _ ⟨x,hx,hy⟩=>J2 n e fds cs n' x hg hx hy) m 0 fds h2 (by omega) fun j hj=>by
    have:=hf j (by omega)
    have hxj:xs[j]?=some xs[j]:=List.getElem?_eq_getElem (by omega)
    rw [hxj] at this
    exact ⟨_,this,Kg GO _ (List.mem_map.2 ⟨_,List.mem_of_getElem? hxj,rfl⟩)⟩
   simpa using this
  ·cases h
end
end Go.En
namespace Go.En
open Go.RowKit Go.ChangeShapes Go.WideShapes
section
variable {S:Aq}
def VG (S:Aq):(as:List Cr)->PT S as->Prop
 | [],_=>True
 | .fd f::r,x=>VF S (f.fc x.1)/\VG S r x.2
 | .st τ::r,x=>(∀ f∈S.enc τ x.1,VF S f)/\VG S r x.2
 | _::r,x=>VG S r x.2
def dt:Option TypeDesc->Bool
 | some (.struct _)=>true
 | some (.array _ _)=>true
 | _=>false
def Xk:Option TypeDesc->Bool
 | some (.int _)=>true
 | some .bool=>true
 | some .string=>true
 | some (.slice _)=>true
 | _=>false
def PB (S:Aq) (P:Program) (n:Nat):List Cr->List TypeId->Bool
 | [],[]=>true
 | .fd f::r,t::ts=>Xk (P.underlying t) && Zf S P n t [f] && PB S P n r ts
 | .st τ::r,t::ts=>dt (P.underlying t) && Zf S P n t (S.fds τ) && PB S P n r ts
 | _,_=>false
variable {H:Type} {enc:TypeId×Value->H} {P:Program} {w:World} {spare:Nat->Bool} {held:Bool}
theorem cells_one {t:TypeId} {v:Value} {r:Reach} {b:Nat} (ht:Xk (P.underlying t)=true) (h:Value.okWide P w r b t v):v.cells.toList=[v]:=by
 unfold Xk at ht
 split at ht
 ·rename_i k hu;obtain ⟨n,rfl⟩:=okWide_int hu h;simp [Value.cells]
 ·rename_i hu;obtain ⟨n,rfl⟩:=okWide_bool hu h;simp [Value.cells]
 ·rename_i hu;obtain ⟨n,rfl⟩:=okWide_string hu h;simp [Value.cells]
 ·rename_i e hu;obtain ⟨a,n,c,rfl⟩:=okWide_slice hu h;simp [Value.cells]
 ·cases ht
theorem Wg {t:TypeId} {v:Value} {r:Reach} {b:Nat} (ht:dt (P.underlying t)=true) (h:Value.okWide P w r b t v): ∃ cs,v=.agg cs:=by
 unfold dt at ht
 split at ht
 ·rename_i k hu;simp only [Value.okWide,hu] at h;obtain ⟨cs,h1,_⟩:=h;exact ⟨cs,h1⟩
 ·rename_i k e hu;simp only [Value.okWide,hu] at h;obtain ⟨cs,h1,_⟩:=h;exact ⟨cs,h1⟩
 ·cases ht
theorem T9 {F D0 D:Nat->Prop} (hD:D=(· <w.heap.size)) {fds:List Fd} {vs:List Value} (h:Fits S w fds vs) {n:Nat} {o:List (Nat×Own S)} {β:Nat->Nm} (hg:GH w F D0 D o (· <n) β w):
  ∃ p:Ps S.T fds,(∀ f∈Dz fds p,VF S f)/\ ∀ cs o' n',CS (Dz fds p) n o=(cs,o',n')-> ∃ β',(∀ i,i<n->β i=β' i)/\GH w F D0 D o' (· <n') β' w/\AA β' cs=vs/\BR (· <n') cs/\n<=n':=by
 subst hD
 obtain ⟨l,⟨p,rfl⟩,h2,h3⟩:=h
 exact ⟨p,h3,fun cs o' n' hu=>G9 h2 hg hu⟩
theorem Kp {N:Nat} {D0 F:Nat->Prop} {D:Nat->Prop} (hD:D=(· <w.heap.size)) {r:Reach} {b:Nat}: ∀ (as:List Cr) (ts:List TypeId) (vs:List Value) (ds:List (DataW H)) (ps:List MemPlace),PB S P N as ts=true->DataW.TrodAll enc P w 0 spare held ts vs ds ps->
  (∀ (j:Nat) t v,ts[j]?=some t->vs[j]?=some v->Value.okWide P w r b t v)->(∀ z∈DataW.weightsEach P ts ds,z<=reachBytes)-> ∀ (n:Nat) (o:List (Nat×Own S)) (β:Nat->Nm),GH w F D0 D o (· <n) β w->
  ∃ (x:PT S as) (cs:List SV) (o':List (Nat×Own S)) (n':Nat) (β':Nat->Nm),B9 as x n o=(cs,o',n')/\GH w F D0 D o' (· <n') β' w/\AA β' cs=vs/\BR (· <n') cs/\(∀ i,i<n->β i=β' i)/\n<=n'/\VG S as x
 | [],[],[],_,_,_,_,_,_,n,o,β,hg=>⟨(),[],o,n,β,rfl,hg,by simp [AA],trivial,fun _ _=>rfl,Nat.le_refl _,trivial⟩
 | [],[],_::_,[],_,_,h,_,_,n,o,β,hg=>by simp [DataW.TrodAll] at h
 | [],[],_::_,_::_,_,_,h,_,_,n,o,β,hg=>by simp [DataW.TrodAll] at h
 | [],_::_,_,_,_,h,_,_,_,_,_,_,_=>by simp [PB] at h
 | p::_,[],_,_,_,h,_,_,_,_,_,_,_=>by cases p<;>simp [PB] at h
 | p::q,t::ts,[],ds,_,_,h,_,_,_,_,_,_=>by simp [DataW.TrodAll] at h
 | p::q,t::ts,v::vs,[],_,_,h,_,_,_,_,_,_=>by simp [DataW.TrodAll] at h
 | p::q,t::ts,v::vs,d::ds,ps,h,ha,hv,hz,n,o,β,hg=>by
  have hd:OT P t d:=I3 hz 0 t d rfl rfl
  have hzr: ∀ z∈DataW.weightsEach P ts ds,z<=reachBytes:=fun z h=>hz z (by simp only [DataW.weightsEach];exact List.mem_append_right _ h)
  obtain ⟨p1,p2,⟨fuel,h1⟩,h2,_⟩:=ha
  have hv0:=hv 0 t v rfl rfl
  have hvr: ∀ (j:Nat) t v,ts[j]?=some t->vs[j]?=some v->Value.okWide P w r b t v:=fun j t v h1 h2=>hv (j+1) t v (by simpa using h1) (by simpa using h2)
  cases p with
  | fd f=>
   simp only [PB,Bool.and_eq_true] at h
   obtain ⟨⟨k1,k2⟩,k3⟩:=h
   rw [cells_one k1 hv0] at h1
   obtain ⟨y,hy,hu⟩:=T9 hD (J2 N t [f] [v] fuel _ k2 h1 hd) hg
   rcases hE:CS (Dz [f] y) n o with ⟨cs1,o1,n1⟩
   obtain ⟨β1,b1,b2,b3,b4,b5⟩:=hu _ _ _ hE
   obtain ⟨x,cs,o',n',β',e1,e2,e3,e4,e5,e6,e7⟩:=Kp hD q ts vs ds p2 k3 h2 hvr hzr n1 o1 β1 b2
   have hlen:cs1.length=1:=by have:=congrArg List.length b3;rw [AF] at this;simpa using this
   match cs1,hlen with
   | [c],_=>
    have hon:c.on (· <n1):=by simpa [BR] using b4
    refine ⟨(y.1,x),c::cs,o',n',β',?_,e2,?_,?_,fun i hi=>(b1 i hi).trans (e5 i (by omega)),by omega,?_⟩
    ·have hE':CS [f.fc y.1] n o=([c],o1,n1):=hE
     simp only [B9,Bn,hE',e1,Cr.val]
    ·simp only [AA] at b3 ⊢
     rw [<-CF (fun i hi=>e5 i hi) c hon,e3]
     simp only [List.cons.injEq,and_true] at b3
     rw [b3]
    ·simp only [BR]
     exact ⟨Am (fun i hi=>Nat.lt_of_lt_of_le hi e6) hon,e4⟩
    ·exact ⟨hy _ (by simp [Dz]),e7⟩
  | st τ=>
   simp only [PB,Bool.and_eq_true] at h
   obtain ⟨⟨k1,k2⟩,k3⟩:=h
   obtain ⟨ca,rfl⟩:=Wg k1 hv0
   have hcl:(Value.agg ca).cells.toList=ca.toList:=by simp [Value.cells]
   rw [hcl] at h1
   obtain ⟨y,hy,hun⟩:=T9 hD (J2 N t (S.fds τ) ca.toList fuel _ k2 h1 hd) hg
   rcases hE:CS (Dz (S.fds τ) y) n o with ⟨cs1,o1,n1⟩
   obtain ⟨β1,b1,b2,b3,b4,b5⟩:=hun _ _ _ hE
   obtain ⟨x,cs,o',n',β',e1,e2,e3,e4,e5,e6,e7⟩:=Kp hD q ts vs ds p2 k3 h2 hvr hzr n1 o1 β1 b2
   have hen:S.enc τ (S.of τ y)=Dz (S.fds τ) y:=by unfold Aq.enc;rw [S.E4]
   refine ⟨(S.of τ y,x),.agg cs1::cs,o',n',β',?_,e2,?_,?_,fun i hi=>(b1 i hi).trans (e5 i (by omega)),by omega,?_⟩
   ·simp only [B9,Bn,hen,hE,e1,Cr.val]
   ·simp only [AA,SV.den]
    rw [<-BX (fun i hi=>e5 i hi) cs1 b4,e3,b3]
   ·simp only [BR,SV.on]
    exact ⟨CP (fun i hi=>Nat.lt_of_lt_of_le hi e6) b4,e4⟩
   ·exact ⟨fun f hf=>hy f (by rw [<-hen];exact hf),e7⟩
  | _=>simp [PB] at h
theorem Vg {N:Nat} {f:Nat} {as:List Cr} {flat:Bool} {m:Spec.D S ⟨as,[]⟩->Option (Spec.D S ⟨[.fd .bool],[]⟩)} (hc:By.Holds P ⟨f,0,⟨as,[]⟩,⟨[.fd .bool],[]⟩,flat,.opt m⟩) (hm: ∀ x:PT S as,VG S as x->m (x,())=some ((true,()),()))
  {ts:List TypeId} {args:Array Value} {ds:List (DataW H)} {ps:List MemPlace} {r:Reach} {b:Nat} (hty:PB S P N as ts=true) (ha:DataW.TrodAll enc P w 0 spare held ts args.toList ds ps) (hv: ∀ (j:Nat) t v,ts[j]?=some t->args.toList[j]?=some v->Value.okWide P w r b t v) (hz: ∀ z∈DataW.weightsEach P ts ds,z<=reachBytes) (hiv:S.inv (· <w.heap.size) w):
  Calls P f args w fun e w'=>e=.returned (.bool true)/\Below w.heap.size w w':=by
 have hg0:GH w (fun _=>False) (· <w.heap.size) (· <w.heap.size) ([]:List (Nat×Own S)) (· <0) (fun _=>⟨none,0,0,undef⟩) w:=
  ⟨fun i b h=>by simp [AS] at h,fun i b h=>by simp [AS] at h,fun i j b c k h=>by simp [AS] at h,fun i b k h=>by simp [AS] at h,fun i b k h=>by simp [AS] at h,fun i b k h=>by simp [AS] at h,fun k h=>h,fun k h=>.inl h,OC.refl _ _,fun _ h=>h⟩
 obtain ⟨x,cs,o,n,β,e1,e2,e3,e4,_,_,e7⟩:=Kp rfl as ts args.toList ds ps hty ha hv hz 0 [] _ hg0
 have hno: ∀ k,¬ AK o β k:=fun k ⟨i,b,h1,h2⟩=>by
  rcases e2.fresh i b k h1 h2 with h|h
  ·have:=e2.lt i b k h1 h2;omega
  ·exact h
 have hg:GH w (AK o β) (· <w.heap.size) (· <w.heap.size) o (· <n) β w:=
  ⟨e2.Bk,e2.own,e2.inj,fun i b k h1 h2=>.inr ⟨i,b,h1,h2⟩,e2.off,e2.lt,e2.C0,fun k h=>.inl h,OC.refl _ _,fun _ h=>h⟩
 have hen:Spec.enc (S:=S) ⟨as,[]⟩ (x,()) 0=(cs,o,n):=by simp only [Spec.enc,e1,Ec]
 have:=hc.calls (x,()) ((true,()),()) (hm x e7) w (· <w.heap.size) β cs o n hen hg e4 (Nat.zero_le _) hiv
 rw [e3,Array.toArray_toList] at this
 refine this.mono fun e w' h=>?_
 obtain ⟨D',β',rs',o',n',h1,h2,_,h4,_,_⟩:=h
 have h1':Spec.enc (S:=S) ⟨[.fd .bool],[]⟩ ((true,()),()) 0=([.b true],[],0):=rfl
 have h1:=h1'.symm.trans h1
 simp only [Prod.mk.injEq] at h1
 obtain ⟨rfl,_,_⟩:=h1
 refine ⟨by rw [h2];rfl,?_⟩
 exact ⟨h4.fr.os,h4.fr.tape,h4.fr.output,h4.fr.size,fun k hk=>h4.fr.block k hk (hno k)⟩
theorem Io (hl:laidOutB P=true) {W W':World} (hb:Below W.heap.size W W'): ∀ {ts:List TypeId} {vs:List Value} {ds:List (DataW H)} {ps:List MemPlace},(ts.all fun t=>P.readableRec t && decide (t<P.types.size))=true->DataW.TrodAll enc P W 0 (fun _=>true) true ts vs ds ps->(∀ x∈ps,x.block<W.heap.size)->
  DataW.TrodAll enc P W' 0 (fun b=>decide (b<W.heap.size)) true ts vs ds ps
 | [],[],[],_,_,h,_=>h
 | [],[],_::_,_,_,h,_=>by simp [DataW.TrodAll] at h
 | [],_::_,[],_,_,h,_=>by simp [DataW.TrodAll] at h
 | [],_::_,_::_,_,_,h,_=>by simp [DataW.TrodAll] at h
 | _::_,[],_,_,_,h,_=>by simp [DataW.TrodAll] at h
 | _::_,_::_,[],_,_,h,_=>by simp [DataW.TrodAll] at h
 | t::ts,v::vs,d::ds,ps,hr,h,hlt=>by
  obtain ⟨p,q,h1,h2,rfl⟩:=h
  simp only [List.all_cons,Bool.and_eq_true,decide_eq_true_eq] at hr
  exact ⟨p,q,Below.trod hl hr.1.1 hr.1.2 h1 hb fun x hx=>hlt x (List.mem_append_left _ hx),Io hl hb hr.2 h2 fun x hx=>hlt x (List.mem_append_right _ hx),rfl⟩
theorem Fv: ∀ {ts:List TypeId} {vs:List Value} {ds:List (DataW H)} {ps:List MemPlace},DataW.TrodAll enc P w 0 spare held ts vs ds ps->ds.length=ts.length
 | [],[],[],_,_=>rfl
 | [],[],_::_,_,h=>by simp [DataW.TrodAll] at h
 | [],_::_,[],_,h=>by simp [DataW.TrodAll] at h
 | [],_::_,_::_,_,h=>by simp [DataW.TrodAll] at h
 | _::_,[],_,_,h=>by simp [DataW.TrodAll] at h
 | _::_,_::_,[],_,h=>by simp [DataW.TrodAll] at h
 | _::ts,_::vs,_::ds,_,h=>by
  obtain ⟨_,_,_,h2,_⟩:=h
  simp [Fv h2]
theorem Qm {z:Nat}: ∀ {ts:List TypeId} {ds:List (DataW H)} (us:List TypeId) (es:List (DataW H)),z∈DataW.weightsEach P ts ds->z∈DataW.weightsEach P (ts++us) (ds++es)
 | [],_,_,_,h=>by simp [DataW.weightsEach] at h
 | _::_,[],_,_,h=>by simp [DataW.weightsEach] at h
 | t::ts,d::ds,us,es,h=>by
  simp only [DataW.weightsEach,List.cons_append] at h ⊢
  rcases List.mem_append.1 h with h|h
  ·exact List.mem_append_left _ h
  ·exact List.mem_append_right _ (Qm us es h)
theorem Pa {s:ChangeSpec} {fn:Func} {f t N:Nat} {as:List Cr} {flat:Bool} {m:Spec.D S ⟨as,[]⟩->Option (Spec.D S ⟨[.fd .bool],[]⟩)} (hc:By.Holds P ⟨f,0,⟨as,[]⟩,⟨[.fd .bool],[]⟩,flat,.opt m⟩) (hm: ∀ x:PT S as,VG S as x->m (x,())=some ((true,()),()))
  (hl:laidOutB P=true) (hty:PB S P N as fn.params.toList=true) (hrd:(fn.params.toList.all fun t=>P.readableRec t && decide (t<P.types.size))=true) (hres:fn.resultTypes=#[t]) (ht:P.underlying t=some .bool) (hvars:s.vars=[])
  (hs: ∀ ds:List (DataW H),ds.length=fn.params.toList.length->s.fn H ds={ results:=[.lit (.bool true)],args:=ds })
  {W:World} {base:Nat} {args:Array Value} {ds gs:List (DataW H)} {before:List MemPlace} (hval: ∀ (j:Nat) t v,fn.params[j]?=some t->args[j]?=some v->Value.okWide P W .any base t v)
  (hW:DataW.Whole enc P fn.params.toList s.vars false W args.toList ds gs before) (hz:(DataW.weightsEach P (fn.params.toList++s.plain.varTypes P) (ds++gs)).all (· <=reachBytes)=true) (hiv:S.inv (· <W.heap.size) W):
  Calls P f args W fun e W'=> ∃ v,e=.returned v/\s.post enc P fn false true false false W args v W':=by
 have hW':=hW
 obtain ⟨p,q,hA,hV,rfl,hfz,hnd⟩:=hW
 rw [hvars] at hV
 obtain ⟨rfl,rfl⟩:=trodVars_none hV
 refine (Vg (N:=N) hc hm hty hA (fun j t v h1 h2=>hval j t v (by simpa using h1) (by simpa using h2)) (fun z h=>of_decide_eq_true (List.all_eq_true.1 hz z (Qm _ _ h))) hiv).mono fun e W' ⟨he,hb⟩=>?_
 refine ⟨_,he,ds,[],p++[],[],p,[],hW',?_,?_,?_,hb.frame _,fun h=>by cases h⟩
 ·rw [List.append_nil,hs ds (Fv hA),hres]
  exact ⟨[],[],shut_bool ht true,rfl,rfl⟩
 ·rw [List.append_nil,hs ds (Fv hA)]
  exact Io hl hb hrd hA fun x hx=>hW'.lt x (by simp [hx])
 ·rw [hvars,List.append_nil,hs ds (Fv hA)]
  rfl
end
end Go.En
