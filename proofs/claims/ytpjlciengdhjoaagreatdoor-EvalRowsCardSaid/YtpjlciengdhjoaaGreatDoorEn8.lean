/-
 The evaluation is sound: append, make, copy; all operations in one theorem.
-/
import Derived.Test.YtpjlciengdhjoaaGreatDoorEn7
import Derived.Lib.AppendStr
namespace Go.En
open Go.RowKit
section
variable {S:As} {P:Program} {w0:World} {F D0 D:Nat->Prop} {s:St S} {N:Nat->Prop} {β:Nat->Nm} {a:Act} {w:World}
theorem Nu (len:Nat) (v:Value) (c:Nat):(CD len v).sub c=none:=by
 unfold CD;split<;>exact Nm.BI
theorem ownsRow_blk_lt {w:World} {base:Nat} {e:TypeId} {sz n:Nat} {v:Value} {xs:List Value} (h:w.ownsRow base e sz v n xs) {g:Nat} (hg:v.ownBlock=some g):g<w.heap.size:=by
 rcases h.2 with ⟨rfl,_⟩|⟨g',cap,cur,rfl,_,h5,_⟩
 ·cases hg
 ·simp only [Value.ownBlock,am] at hg;subst hg;exact (Array.getElem?_eq_some_iff.1 h5).1
theorem Mr (hg:GH w0 F D0 D s.o N β w) {τ e:Nat} {x:SV} {d:Option Nat} {l:List (S.T τ)} (h:Ou s τ e x=some (d,l)):
  ∃ vs,w.ownsRow 0 e (S.sz τ) (x.den β) l.length vs/\AG S w D (S.flat τ l) vs/\ ∀ g,(x.den β).ownBlock=some g-> ∃ i b,d=some i/\lk s.o i=some b/\(β i).b=some g:=by
 have hown: ∀ i (c:Option Nat) n,(Value.slice ((β i).b.map fun b=>⟨b,0,none⟩) n (β i).cap).ownBlock=(β i).b:=fun i c n=>by cases (β i).b<;>rfl
 unfold Ou at h
 split at h
 ·rename_i n c
  split at h
  ·rename_i h1 h2
   cases h
   rw [ac h1,ac h2]
   exact ⟨[],by simpa [SV.den] using World.ownsRow_nil w 0 e (S.sz τ),by simpa [As.flat] using AG.nil,fun g hg=>by simp [SV.den,Value.ownBlock] at hg⟩
  ·cases h
 ·rename_i i
  split at h
  case h_2=>cases h
  rename_i τ' E l' hi
  split at h
  ·rename_i he hE _
   subst he
   cases h
   have hE:=ac hE;subst hE
   obtain ⟨hlen,vs,hrow,hvs⟩:=hg.own i _ hi
   refine ⟨vs,by simp only [SV.den,hlen];exact hrow,hvs,fun g hgb=>⟨i,_,rfl,hi,?_⟩⟩
   simp only [SV.den] at hgb
   rwa [hown i none] at hgb
  ·cases h
 ·rename_i i n
  split at h
  case h_2=>cases h
  rename_i E z m cs hi
  split at h
  case h_2=>cases h
  rename_i hE hm hz
  have hE:=ac hE;subst hE
  have hm:=ac hm;subst hm
  have hz:=ac hz;subst hz
  split at h
  case h_2=>cases h
  rename_i l' hl
  cases h
  obtain ⟨h1,h2⟩:=Gi hg hl
  refine ⟨AD β cs,by simp only [SV.den,h1];exact hg.own i _ hi,h2,fun g hgb=>⟨i,_,rfl,hi,?_⟩⟩
  simp only [SV.den] at hgb
  rwa [hown i none] at hgb
 ·rename_i i
  split at h
  case h_2=>cases h
  rename_i E hi
  split at h
  case h_2=>cases h
  rename_i hE
  have hE:=ac hE;subst hE
  cases h
  obtain ⟨g,hb1,hb2⟩:=hg.own i _ hi
  refine ⟨[],⟨by simp,.inr ⟨g,0,#[],?_,Nat.zero_le _,hb2,Nat.le_refl _,Nat.zero_le _,by simp,by simp⟩⟩,by simpa [As.flat] using AG.nil,fun k hk=>⟨i,_,rfl,hi,?_⟩⟩
  ·simp [SV.den,Nm.AX,hb1]
  ·simp only [SV.den,Nm.AX,hb1,Value.ownBlock,Option.getD_some,am] at hk
   rw [hb1,hk]
 ·cases h
def jG (S:As) (w:World) (D:Nat->Prop) (τ:Nat) (v:Value) (l:List (S.T τ)):Prop:=
 (l=[]/\v=.slice none 0 0)\/(l=[]/\ ∃ a c,v=.slice a 0 c)\/ ∃ ad c vs,v=.slice (some ad) l.length c/\AG S w D (S.flat τ l) vs/\ ∀ (j:Nat) u,vs[j]?=some u->w.cell? (ad.add j)=some u
theorem Mf (hg:GH w0 F D0 D s.o N β w) {τ:Nat} {x:SV} {c:Option Bool} {l:List (S.T τ)} (h:Zr s τ x=some (c,l)) (hc:Cd c):jG S w D τ (x.den β) l:=by
 unfold Zr at h
 split at h
 ·rename_i n c
  split at h
  ·rename_i h1 h2
   cases h
   rw [ac h1,ac h2]
   exact .inl ⟨rfl,rfl⟩
  ·cases h
 ·rename_i i
  split at h
  case h_2=>cases h
  rename_i τ' E l' hi
  split at h
  case h_2=>cases h
  rename_i he _
  subst he
  cases h
  obtain ⟨hlen,vs,hrow,hvs⟩:=hg.own i _ hi
  by_cases h0:l'.length=0
  ·have:l'=[]:=jp h0
   subst this
   exact .inr (.inl ⟨rfl,_,_,by simp only [SV.den,hlen];rfl⟩)
  ·have hb:=A6 hrow (by omega)
   refine .inr (.inr ⟨⟨(β i).AX,0,none⟩,(β i).cap,vs,by simp only [SV.den,hlen];rw [hb];rfl,hvs,fun j u hu=>?_⟩)
   rw [add_lit,Nat.zero_add];exact (BE hrow hu).2
 ·rename_i i
  split at h
  case h_2=>cases h
  rename_i τ' l' hi
  split at h
  case h_2=>cases h
  rename_i he _
  subst he
  cases h
  obtain ⟨_,hok⟩:=hg.own i _ hi
  simp only [SV.den]
  generalize (β i).sl=sv at hok
  cases hok with
  | nil _ a c=>exact .inr (.inl ⟨rfl,a,c,rfl⟩)
  | sl _ _ bk off c vs hD hlc hcell hrec=>
   refine .inr (.inr ⟨⟨bk,off,none⟩,c,(List.range (S.flat τ' l').length).map vs,rfl,⟨by simp,fun q f v hf hv=>?_⟩,fun j u hu=>?_⟩)
   ·have hq:=(List.getElem?_eq_some_iff.1 hf).1
    rw [List.getElem?_map,List.getElem?_range hq] at hv
    cases hv
    exact hrec q f hf
   ·rw [List.getElem?_map] at hu
    obtain ⟨r,hr,hr2⟩:=Option.map_eq_some_iff.1 hu
    obtain ⟨hr4,hr5⟩:=List.getElem?_eq_some_iff.1 hr
    simp only [List.getElem_range] at hr5
    subst hr5
    rw [add_lit,hcell _ _ (co (l:=S.flat τ' l') (by simpa using hr4)),hr2]
 ·rename_i i n
  split at h
  case h_2=>cases h
  rename_i E z m cs hi
  split at h
  case h_2=>cases h
  rename_i hm hz
  have hm:=ac hm;subst hm
  have hz:=ac hz;subst hz
  split at h
  case h_2=>cases h
  rename_i l' hl
  cases h
  obtain ⟨h1,h2⟩:=Gi hg hl
  have hrow:=hg.own i _ hi
  by_cases h0:m=0
  ·subst h0
   have:l=[]:=jp h1
   subst this
   exact .inr (.inl ⟨rfl,_,_,rfl⟩)
  ·have hb:=A6 hrow (by omega)
   refine .inr (.inr ⟨⟨(β i).AX,0,none⟩,(β i).cap,AD β cs,by simp only [SV.den,h1];rw [hb];rfl,h2,fun j u hu=>?_⟩)
   rw [add_lit,Nat.zero_add];exact (BE hrow hu).2
 ·rename_i i off len cap
  split at h
  case h_2=>cases h
  rename_i U cs hi
  split at h
  case h_2=>cases h
  rename_i hle
  have hle:=dk hle
  split at h
  case h_2=>cases h
  rename_i l' hl
  cases h
  simp only [Cd,ii] at hc
  obtain ⟨h1,h2⟩:=Gi hg hl
  obtain ⟨g,hb1,hb2⟩:=hg.own i _ hi
  refine .inr (.inr ⟨⟨g,off,none⟩,cap,(AD β ((cs.drop off).take (cap*S.sz τ))).take (len*S.sz τ),by simp [SV.den,Nm.AX,hb1,h1,Nat.min_eq_left hc],by rw [S.FO];exact h2.take _,fun j u hu=>?_⟩)
  rw [add_lit,cell_of_row w g (off+j) _ U _ hb2]
  rw [ol] at hu
  split at hu
  ·rw [CM,ol] at hu
   split at hu
   ·rw [List.getElem?_drop] at hu;simpa [CM] using hu
   ·cases hu
  ·cases hu
 ·cases h
theorem Sq {tb:List (Nat×TI)} (htb:Ae S P tb) (hg:G w0 F D0 D s N β a w) {op:Oper} {T:Nat} {x y:Operand} (hop:op.op=.call ⟨.builtin .append,#[x,y],#[T,T]⟩):R.Sound P w0 F D0 D s N β a w op (Q0 tb s T x y):=by
 unfold Q0
 split
 case h_2=>trivial
 rename_i e esz ht
 have hd:=Ag htb ht
 simp only [TD.ok] at hd
 split
 case h_2=>trivial
 rename_i te hte
 have hoe:=htb.get hte
 split
 case h_2=>trivial
 rename_i τ hτ
 obtain ⟨hsz,hpos,_,_⟩:=hoe.Z6 τ hτ
 split
 case h_2=>trivial
 rename_i xv yv hz hx hy
 have hz:=ac hz
 split
 case h_2=>trivial
 rename_i d l hb
 split
 case h_2=>trivial
 rename_i c l' hs
 intro hc hN
 subst hN
 have hcc:Cd c/\room te.bs (l.length+l'.length)=true:=by
  cases c with
  | none=>exact ⟨trivial,hc⟩
  | some c=>simp only [Cd,Dc,dl] at hc;exact hc
 obtain ⟨hc1,hroom⟩:=hcc
 simp only [room,ii] at hroom
 obtain ⟨vs,hown,hvs,A5⟩:=Mr hg.gh hb
 have hsrc:=Mf hg.gh hs hc1
 have hinf:=hoe.info
 cases hi:P.info? e with
 | none=>simp [hi] at hinf
 | some i=>
 simp only [hi,Option.map_some,am,bi] at hinf
 obtain ⟨hiz,his,hib⟩:=hinf
 have hzc:te.z.cells.size=te.sz:=by rw [<-Array.length_toList,hoe.zc β,AI,hoe.zl]
 rw [hsz] at hown
 have e1:a.eval x=xv.den β:=AE hg hx
 have e2:a.eval y=yv.den β:=AE hg hy
 have hlen_le:l.length+l'.length<=(l.length+l'.length)*(te.bs+1):=Nat.le_mul_of_pos_right _ (by omega)
 -- what append gives
 have key: ∃ v' w',(Builtin.append_ #[T,T] op.type #[xv.den β,yv.den β]).run P w=.ok v' w'/\(∃ us,w'.ownsRow 0 e te.sz v' (l++l').length us/\AG S w D (S.flat τ (l++l')) us)/\w.grownBy w' (xv.den β).ownBlock/\
   (v'.ownBlock=none\/v'.ownBlock=(xv.den β).ownBlock\/v'.ownBlock=some w.heap.size):=by
  have hnil: ∀ (a':Option Addr) (c':Nat),yv.den β=.slice a' 0 c'->l'=[]->(a'=none->c'=0)-> ∃ v' w',(Builtin.append_ #[T,T] op.type #[xv.den β,yv.den β]).run P w=.ok v' w'/\(∃ us,w'.ownsRow 0 e te.sz v' (l++l').length us/\AG S w D (S.flat τ (l++l')) us)/\w.grownBy w' (xv.den β).ownBlock/\
   (v'.ownBlock=none\/v'.ownBlock=(xv.den β).ownBlock\/v'.ownBlock=some w.heap.size):=by
   intro a' c' hv hl' hac
   subst hl'
   cases a' with
   | none=>
    have:=hac rfl;subst this
    refine ⟨xv.den β,w,?_,⟨vs,by simpa using hown,by simpa using hvs⟩,⟨rfl,rfl,rfl,Nat.le_refl _,fun _ _ _=>rfl⟩,.inr (.inl rfl)⟩
    rw [hv]
    exact run_append_owned_none (P:=P) w 0 T op.type e i te.sz hd.1 hi (xv.den β) l.length vs hown
   | some ad=>
    obtain ⟨v',w',hr,h2,h3,h4⟩:=CE w T op.type e i te.z te.sz te.bs hd.1 hi hiz his hib hzc hpos (xv.den β) l.length vs hown ad 0 c' [] (by simp) (fun j u hu=>by simp at hu) (fun u hu=>by simp at hu)
     (by simp only [maxLen];simp only [List.length_nil,Nat.add_zero] at hroom hlen_le;omega) (Nat.le_trans (Nat.mul_le_mul_left _ (Nat.le_succ te.bs)) (by simpa using hroom))
    exact ⟨v',w',by rw [hv];exact hr,⟨vs,by simpa using h2,by simpa using hvs⟩,h3,h4⟩
  rcases hsrc with ⟨h1,h2⟩|⟨h1,a',c',h2⟩|⟨ad,c',us,h1,h2,h3⟩
  ·exact hnil none 0 h2 h1 fun _=>rfl
  ·cases a' with
   | none=>
    -- a nil address with a capacity: the model appends nothing
    subst h1
    refine ⟨xv.den β,w,?_,⟨vs,by simpa using hown,by simpa using hvs⟩,⟨rfl,rfl,rfl,Nat.le_refl _,fun _ _ _=>rfl⟩,.inr (.inl rfl)⟩
    rw [h2]
    rcases hown.2 with ⟨h5,h6⟩|⟨g,cap,cur,h5,_,_,hnc,_⟩
    ·rw [h5];simp [Builtin.append_,run_underlying hd.1,sizeOf,typeInfo,hi,Builtin.lenOf,Builtin.firstCells]
    ·rw [h5];simp [Builtin.append_,run_underlying hd.1,sizeOf,typeInfo,hi,Builtin.lenOf,Builtin.firstCells,hnc,storeCells]
   | some ad=>exact hnil (some ad) c' h2 h1 (fun h=>by cases h)
  ·obtain ⟨v',w',hr,h4,h5,h6⟩:=CE w T op.type e i te.z te.sz te.bs hd.1 hi hiz his hib hzc hpos (xv.den β) l.length vs hown ad l'.length c' us (by rw [<-h2.1,S.Au,hsz]) h3 h2.WB
    (by simp only [maxLen];omega) (Nat.le_trans (Nat.mul_le_mul_left _ (by omega)) hroom)
   exact ⟨v',w',by rw [h1];exact hr,⟨vs++us,by rw [List.length_append];exact h4,by rw [S.Es];exact hvs.append h2⟩,h5,h6⟩
 obtain ⟨v',w',hr,⟨us,h2,hus⟩,h3,h4⟩:=key
 obtain ⟨hgh,hD⟩:=hg.gh.Y0 (d:=d) h3 (fun k hk=>let ⟨i,b,a1,a2,a3⟩:=A5 k hk;⟨i,b,a1,a2,.inl a3⟩)
 have hnb: ∀ g,(CD (l++l').length v').has g->(CD (l++l').length v').b=some g:=fun g h=>(Nm.FG (Nu _ _)).1 h
 obtain ⟨hv',hv2,hv3⟩:=EK (len:=(l++l').length) h2
 obtain ⟨β',hβ,hβn,hgh'⟩:=hgh.name (b:=.tr τ e (l++l')) (nm:=CD (l++l').length v') (n:=s.n) (by simp) trivial
  (fun β' hβ hn'=>⟨hv3,us,by rw [<-hv',hsz];exact h2,hus.B4 hD fun _ h=>h⟩)
  (fun g hg'=>by
   have hg':=hnb g hg'
   rw [hv2] at hg'
   rcases h4 with h4|h4|h4<;>rw [hg'] at h4
   ·cases h4
   ·obtain ⟨i,b,_,hi,hib⟩:=A5 g h4.symm;exact hg.gh.fresh i b g hi (.inl hib)
   ·simp only [am] at h4;subst h4;exact .inl hg.gh.fr.size)
  (fun g hg' hD=>by
   have hg':=hnb g hg'
   rw [hv2] at hg'
   rcases h4 with h4|h4|h4<;>rw [hg'] at h4
   ·cases h4
   ·obtain ⟨i,b,_,hi,hib⟩:=A5 g h4.symm;exact hg.gh.off i b g hi (.inl hib) hD
   ·simp only [am] at h4;subst h4;have:=hg.gh.DL _ hD;omega)
  (fun i b g hi hib he=>by
   have he:=hnb g he
   rw [hv2] at he
   have hi':=Ea i b hi
   rcases h4 with h4|h4|h4<;>rw [he] at h4
   ·cases h4
   ·obtain ⟨j,c,hd',hj,hjb⟩:=A5 g h4.symm
    have:=hg.gh.inj i j b c g hi' hj hib (.inl hjb)
    subst this
    subst hd'
    simp [EU,Cy] at hi
   ·simp only [am] at h4;subst h4;have:=hg.gh.lt i b _ hi' hib;omega)
  (fun g hg'=>by
   have hg':=hnb g hg'
   rw [hv2] at hg'
   exact ownsRow_blk_lt h2 hg')
 rw [DG] at hgh'
 refine ⟨β',w',?_,hβ,hgh',by simp [SV.on],by omega⟩
 unfold execOp
 simp only [hop,resolve,invoke,builtin,Sem.run_bind,Sem.run_pure,Result.andThen_ok,List.map_toArray,List.map_cons,List.map_nil,e1,e2,hr,SV.den,hβn,hv3]
 rw [<-hv']
theorem Wz {τ e sz:Nat} {l l':List (S.T τ)} {xv:Value} {d:Option Nat} (hg:G w0 F D0 D s (· <s.n) β a w) {R:Sem Value} (hsz:S.sz τ=sz)
  (A5: ∀ k,xv.ownBlock=some k-> ∃ i b,d=some i/\lk s.o i=some b/\(β i).b=some k)
  (key: ∃ v' w',R.run P w=.ok v' w'/\(∃ us,w'.ownsRow 0 e sz v' (l++l').length us/\AG S w D (S.flat τ (l++l')) us)/\w.grownBy w' xv.ownBlock/\(v'.ownBlock=none\/v'.ownBlock=xv.ownBlock\/v'.ownBlock=some w.heap.size)):
  ∃ (β':Nat->Nm) (w':World) (v':Value),R.run P w=.ok v' w'/\(SV.tr s.n).den β'=v'/\(∀ i,i<s.n->β i=β' i)/\GH w0 F D0 D ((s.n,.tr τ e (l++l'))::EU s.o d) (· <s.n+1) β' w':=by
 obtain ⟨v',w',hr,⟨us,h2,hus⟩,h3,h4⟩:=key
 obtain ⟨hgh,hD⟩:=hg.gh.Y0 (d:=d) h3 (fun k hk=>let ⟨i,b,a1,a2,a3⟩:=A5 k hk;⟨i,b,a1,a2,.inl a3⟩)
 have hnb: ∀ g,(CD (l++l').length v').has g->(CD (l++l').length v').b=some g:=fun g h=>(Nm.FG (Nu _ _)).1 h
 obtain ⟨hv',hv2,hv3⟩:=EK (len:=(l++l').length) h2
 obtain ⟨β',hβ,hβn,hgh'⟩:=hgh.name (b:=.tr τ e (l++l')) (nm:=CD (l++l').length v') (n:=s.n) (by simp) trivial
  (fun β' hβ hn'=>⟨hv3,us,by rw [<-hv',hsz];exact h2,hus.B4 hD fun _ h=>h⟩)
  (fun g hg'=>by
   have hg':=hnb g hg'
   rw [hv2] at hg'
   rcases h4 with h4|h4|h4<;>rw [hg'] at h4
   ·cases h4
   ·obtain ⟨i,b,_,hi,hib⟩:=A5 g h4.symm;exact hg.gh.fresh i b g hi (.inl hib)
   ·simp only [am] at h4;subst h4;exact .inl hg.gh.fr.size)
  (fun g hg' hD=>by
   have hg':=hnb g hg'
   rw [hv2] at hg'
   rcases h4 with h4|h4|h4<;>rw [hg'] at h4
   ·cases h4
   ·obtain ⟨i,b,_,hi,hib⟩:=A5 g h4.symm;exact hg.gh.off i b g hi (.inl hib) hD
   ·simp only [am] at h4;subst h4;have:=hg.gh.DL _ hD;omega)
  (fun i b g hi hib he=>by
   have he:=hnb g he
   rw [hv2] at he
   have hi':=Ea i b hi
   rcases h4 with h4|h4|h4<;>rw [he] at h4
   ·cases h4
   ·obtain ⟨j,c,hd',hj,hjb⟩:=A5 g h4.symm
    have:=hg.gh.inj i j b c g hi' hj hib (.inl hjb)
    subst this
    subst hd'
    simp [EU,Cy] at hi
   ·simp only [am] at h4;subst h4;have:=hg.gh.lt i b _ hi' hib;omega)
  (fun g hg'=>by
   have hg':=hnb g hg'
   rw [hv2] at hg'
   exact ownsRow_blk_lt h2 hg')
 rw [DG] at hgh'
 exact ⟨β',w',v',hr,by rw [SV.den,hβn,hv3];exact hv'.symm,hβ,hgh'⟩
theorem Gk (w:World) (t u ty e:TypeId) (i:TypeInfo) (ht:P.underlying t=some (.slice e)) (hu:P.underlying u=some .string) (hi:P.info? e=some i) (hz:i.zero=some (.int .u8 0))
  (hsize:i.size=1) (hby:i.bytes=1) (v:Value) (n:Nat) (xs:List Value) (hown:w.ownsRow 0 e 1 v n xs) (s:ByteArray) (h63:n+s.size<=maxLen) (hbytes:n+s.size<=140737488355328):
  ∃ v' w',(Builtin.append_ #[t,u] ty #[v,.string s]).run P w=.ok v' w'/\w'.ownsRow 0 e 1 v' (n+s.size) (xs++Lib.strCells s)/\w.grownBy w' v.ownBlock/\
   (v'.ownBlock=none\/v'.ownBlock=v.ownBlock\/v'.ownBlock=some w.heap.size):=by
 obtain ⟨v',w',hr,h2,h3,h4⟩:=Lib.run_append_own_string (P:=P) w 0 t u ty e i ht hu hi hz hsize hby v n xs hown s h63 hbytes (Nat.zero_le _)
 refine ⟨v',w',hr,h2,h3,?_⟩
 have hsmall:n+s.size<=9223372036854775807:=by simp only [maxLen] at h63;omega
 have hxl:xs.length=n:=by simpa using hown.1
 rcases hown.2 with ⟨rfl,rfl⟩|⟨g,cap,cur,rfl,hbg,hg,hnc,hcm,hcs,htake⟩
 ·by_cases hm:s.size=0
  ·have:=h4.2 ⟨rfl,hm⟩;subst this;exact .inl rfl
  ·have hr':=run_append_nil_string (P:=P) w t u ty e i (.int .u8 0) ht hu hi hz s (by omega) (by omega) (by rw [hby];omega)
   rw [hr] at hr';cases hr';exact .inr (.inr rfl)
 ·by_cases hroom:n+s.size<=cap
  ·have hcs':cur.size=cap:=by simpa using hcs
   have hr':=Lib.run_append_room_string (P:=P) w t u ty e i ht hu hi hsize g n cap cur hg s hroom (by omega)
   rw [hr] at hr';cases hr';exact .inr (.inl rfl)
  ·have holds: ∀ j u,xs[j]?=some u->w.cell? ((⟨g,0,none⟩:Addr).add j)=some u:=hown.cells (g:=g) rfl
   have hr':=Lib.run_append_grow_string (P:=P) w t u ty e i (.int .u8 0) ht hu hi hz ⟨g,0,none⟩ n cap xs (by rw [hsize];simpa using hxl) holds s (by omega) (by omega) (by rw [hby];exact growslice_fits (by omega) (by omega))
   rw [hr] at hr';cases hr';exact .inr (.inr rfl)
theorem aK {T:Nat->Type}: ∀ {fs:List Fd},Td fs=true-> ∀ (c:UInt8) (p:Ps T fs),EG fs (oo fs c p)=[.int .u8 (c.toNat:Int)]
 | [.int .u8],_,c,p=>rfl
theorem UY {τ:Nat} (h:Td (S.fds τ)=true) (c:UInt8):S.enc τ (eJ S τ c)=[.int .u8 (c.toNat:Int)]:=by
 unfold As.enc eJ
 rw [S.FF]
 exact aK h c _
theorem Q4 {τ:Nat} (h:Td (S.fds τ)=true): ∀ bs:List UInt8,S.flat τ (bs.map (eJ S τ))=bs.map fun c=>FC.int .u8 (c.toNat:Int)
 | []=>rfl
 | c::r=>by
  have ih:=Q4 h r
  simp only [As.flat,List.map_cons,List.flatMap_cons,UY h] at ih ⊢
  rw [ih]
  rfl
theorem Sp {tb:List (Nat×TI)} (htb:Ae S P tb) (hg:G w0 F D0 D s N β a w) {op:Oper} {T T':Nat} {x y:Operand} (hu:P.underlying T'=some .string) (hop:op.op=.call ⟨.builtin .append,#[x,y],#[T,T']⟩):R.Sound P w0 F D0 D s N β a w op (dz tb s T x y):=by
 unfold dz
 split
 case h_2=>trivial
 rename_i e esz ht
 have hd:=Ag htb ht
 simp only [TD.ok] at hd
 split
 case h_2=>trivial
 rename_i te hte
 have hoe:=htb.get hte
 split
 case h_2=>trivial
 rename_i τ hτ hzero
 obtain ⟨hsz,hpos,_,_⟩:=hoe.Z6 τ hτ
 split
 case h_2=>trivial
 rename_i xv bs hby hz hbs hx hy
 have hz:=ac hz
 have hbs:=ac hbs
 split
 case h_2=>trivial
 rename_i d l hb
 intro hc hN
 subst hN
 simp only [Cd,room,ii,hbs] at hc
 obtain ⟨vs,hown,hvs,A5⟩:=Mr hg.gh hb
 have hinf:=hoe.info
 cases hi:P.info? e with
 | none=>simp [hi] at hinf
 | some i=>
 simp only [hi,Option.map_some,am,bi] at hinf
 obtain ⟨hiz,his,hib⟩:=hinf
 rw [hzero] at hiz
 have h1:S.sz τ=1:=by rw [<-S.Ah τ (eJ S τ 0),UY hby];rfl
 have e1:a.eval x=xv.den β:=AE hg hx
 have e2:a.eval y=.string ⟨⟨bs⟩⟩:=AE hg hy
 have hsize:(⟨⟨bs⟩⟩:ByteArray).size=bs.length:=rfl
 rw [h1] at hown
 obtain ⟨v',w',hr,h2,h3,h4⟩:=Gk (P:=P) w T T' op.type e i hd.1 hu hi hiz (by omega) (by omega) (xv.den β) l.length vs hown ⟨⟨bs⟩⟩ (by rw [hsize];simp only [maxLen];omega) (by rw [hsize];omega)
 rw [hsize] at h2
 have hcells:AG S w D (S.flat τ (bs.map (eJ S τ))) (Lib.strCells ⟨⟨bs⟩⟩):=by
  rw [Q4 hby]
  refine ⟨by simp [Lib.strCells],fun j f v hf hv=>?_⟩
  simp only [Lib.strCells] at hv
  rw [List.getElem?_map] at hf hv
  cases hj:bs[j]? with
  | none=>rw [hj] at hf;cases hf
  | some c=>
   rw [hj] at hf hv
   simp only [Option.map_some,am] at hf hv
   subst hf;subst hv
   exact .int .u8 _
 obtain ⟨β',w2,v2,g1,g2,g3,g4⟩:=Wz (e:=e) (d:=d) (l:=l) (l':=bs.map (eJ S τ)) hg h1 A5 ⟨v',w',hr,⟨vs++Lib.strCells ⟨⟨bs⟩⟩,by rw [List.length_append,List.length_map];exact h2,by rw [S.Es];exact hvs.append hcells⟩,h3,h4⟩
 refine ⟨β',w2,?_,g3,g4,by simp [SV.on],by omega⟩
 unfold execOp
 simp only [hop,resolve,invoke,builtin,Sem.run_bind,Sem.run_pure,Result.andThen_ok,List.map_toArray,List.map_cons,List.map_nil,e1,e2,g1,g2]
theorem IU {τ:Nat} {te:TI} (hok:S.enc τ (S.A4 τ)=(S.fds τ).map Fd.PV/\te.z.cells.toList=(S.fds τ).map Fd.zeroV):AG S w D (S.enc τ (S.A4 τ)) te.z.cells.toList:=by
 rw [hok.1,hok.2]
 refine ⟨by simp,fun i f v hf hv=>?_⟩
 rw [List.getElem?_map] at hf hv
 cases hx:(S.fds τ)[i]? with
 | none=>simp [hx] at hf
 | some x=>
  simp only [hx,Option.map_some,am] at hf hv
  subst hf;subst hv
  cases x<;>simp only [Fd.PV,Fd.zeroV]
  ·exact .int _ _
  ·exact .bool _
  ·exact .str _
  ·exact .nil _ _ _
  ·exact .ow _ _ [] _ _
theorem Rq {tb:List (Nat×TI)} (htb:Ae S P tb) (hg:G w0 F D0 D s N β a w) {op:Oper} {T:Nat} {l c:Operand} (hop:op.op=.makeSlice T l c):R.Sound P w0 F D0 D s N β a w op (Ym tb s T l c):=by
 unfold Ym
 split
 case h_2=>trivial
 rename_i e esz ht
 have hd:=Ag htb ht
 simp only [TD.ok] at hd
 split
 case h_2=>trivial
 rename_i te hte
 have hoe:=htb.get hte
 split
 case h_2=>trivial
 rename_i τ hτ
 obtain ⟨hsz,hpos,hdat⟩:=hoe.Z6 τ hτ
 split
 case h_2=>trivial
 rename_i kl L kc C hz hl hcc
 intro hc hN
 simp only [Cd,ii] at hc
 obtain ⟨h0,hLC,hb⟩:=hc
 have hinf:=hoe.info
 cases hi:P.info? e with
 | none=>simp [hi] at hinf
 | some i=>
 simp only [hi,Option.map_some,am,bi] at hinf
 obtain ⟨hiz,his,hib⟩:=hinf
 have hC0:0<=C:=Int.le_trans h0 hLC
 have hbC:(te.bs:Int)*C<=281474976710656/\C<=281474976710656:=by
  have e1:C*((te.bs:Int)+1)=te.bs*C+C:=by rw [Int.mul_add,Int.mul_one,Int.mul_comm]
  have e2:0<=(te.bs:Int)*C:=Int.mul_nonneg (by omega) hC0
  omega
 have hr:=run_make w T e i te.z hd.1 hi hiz kl kc L C h0 hLC (by rw [hib];exact hbC.1) (by omega)
 have hzc:te.z.cells.toList=AD β te.zc:=hoe.zc β
 have hzs:te.z.cells.size=te.sz:=by rw [<-Array.length_toList,hzc,AI,hoe.zl]
 have hmade:(madeCells te.z.cells (C.toNat*i.size)).toList=DJ C.toNat te.z.cells.toList:=by
  have:=Nl te.z.cells C.toNat (by omega)
  rw [hzs] at this
  rw [his,madeCells,hzs,this]
 have hzl:te.z.cells.toList.length=te.sz:=by simpa using hzs
 have hrep: ∀ n,S.flat τ (List.replicate n (S.A4 τ))=DJ n (S.enc τ (S.A4 τ)):=fun n=>by
  induction n with
  | zero=>rfl
  | succ n ih=>rw [List.replicate_succ,S.Bw,ih];rfl
 have hrepok: ∀ n (w:World),AG S w D (DJ n (S.enc τ (S.A4 τ))) (DJ n te.z.cells.toList):=fun n w=>by
  induction n with
  | zero=>exact AG.nil
  | succ n ih=>exact (IU hdat).append ih
 have hh: ∀ β':Nat->Nm,(Own.tr τ e (List.replicate L.toNat (S.A4 τ)):Own S).holds D β' (w.alloc (.cells (madeCells te.z.cells (C.toNat*i.size)) e)) ⟨some w.heap.size,L.toNat,C.toNat,undef⟩:=fun β'=>by
  have hle:L.toNat<=C.toNat:=by omega
  refine ⟨by simp,DJ L.toNat te.z.cells.toList,⟨by rw [IJ,hzl,List.length_replicate,hsz],.inr ⟨w.heap.size,C.toNat,_,rfl,Nat.zero_le _,heap_alloc_new w _,by rw [List.length_replicate];exact hle,by simp only [maxLen];omega,by rw [size_madeCells,his,hsz],?_⟩⟩,by rw [hrep];exact hrepok _ _⟩
  rw [hmade,List.length_replicate,hsz]
  obtain ⟨d,hd'⟩: ∃ d,C.toNat=L.toNat+d:=⟨C.toNat -L.toNat,by omega⟩
  rw [hd',<- hzl]
  clear hd' hle
  have key: ∀ (k d:Nat) (z:List Value),(DJ (k+d) z).take (k*z.length)=DJ k z:=by
   intro k d z
   induction k with
   | zero=>simp [DJ]
   | succ k ih=>
    rw [show k+1+d=(k+d)+1 from by omega]
    simp only [DJ]
    rw [show (k+1)*z.length=z.length+k*z.length from by rw [Nat.add_mul];omega,List.take_length_add_append]
    rw [ih]
  exact key _ _ _
 obtain ⟨β',h1,h2⟩:=CG.alloc (D:=D) (N:=N) (β:=β) (n:=s.n) (hN s.n (Nat.le_refl _) (lw _)) (b:=.tr τ e (List.replicate L.toNat (S.A4 τ))) (w:=w) (ob:=.cells (madeCells te.z.cells (C.toNat*i.size)) e) (len:=L.toNat) (cap:=C.toNat) trivial (fun β' _ _=>hh β')
 refine ⟨β',_,?_,h2,.inr ⟨Nat.le_refl _,lw _⟩⟩
 unfold execOp
 simp only [hop,AE hg hl,AE hg hcc,SV.den,Sem.run_bind,hr,Result.andThen_ok,Sem.run_pure,h1,Option.map_some]
theorem Q8 {tb:List (Nat×TI)} (htb:Ae S P tb) (hg:G w0 F D0 D s N β a w) {op:Oper} {T T':Nat} {x y:Operand} (hop:op.op=.call ⟨.builtin .copy,#[x,y],#[T,T']⟩):R.Sound P w0 F D0 D s N β a w op (XR tb s T x y):=by
 unfold XR
 split
 case h_2=>trivial
 rename_i e esz ht
 have hd:=Ag htb ht
 simp only [TD.ok] at hd
 split
 case h_2=>trivial
 rename_i te hte
 have hoe:=htb.get hte
 split
 case h_2=>trivial
 rename_i τ hτ hz
 obtain ⟨hsz,hpos,_,_⟩:=hoe.Z6 τ hτ
 split
 case h_2=>trivial
 rename_i i yv hx hy
 split
 case h_2=>trivial
 rename_i τ' E l hi
 split
 case h_2=>trivial
 rename_i he _
 subst he
 split
 case h_2=>trivial
 rename_i c l' hs
 intro hc hN
 subst hN
 have hsrc:=Mf hg.gh hs hc
 obtain ⟨hlen,vs,hrow,hvs⟩:=hg.gh.own i _ hi
 have hinf:=hoe.info
 cases hie:P.info? e with
 | none=>simp [hie] at hinf
 | some ie=>
 simp only [hie,Option.map_some,am,bi] at hinf
 have his:=hinf.2.1
 have hxd:a.eval x=.slice ((β i).b.map fun b=>⟨b,0,none⟩) l.length (β i).cap:=by have:=AE hg hx;simpa [SV.den,hlen] using this
 have hyd:a.eval y=yv.den β:=AE hg hy
 have hnm:l.length<=maxLen:=by
  rcases hrow.2 with ⟨_,h⟩|⟨_,cap,_,_,_,_,h,h',_⟩
  ·simp [h]
  ·exact Nat.le_trans h h'
 have hgo: ∀ m:Nat,m<=l.length->goInt m=Value.int .i64 (m:Int):=fun m hm=>by
  have e1:IntKind.i64.wrap (m:Int)=(m:Int):=IntWalk.i64_in _ ⟨by omega,by simp only [maxLen] at hnm;omega⟩
  unfold goInt
  first|exact e1|simp [e1]
 have hvl:vs.length=l.length*S.sz τ':=by rw [<-hvs.1,S.Au]
 have hnone:min l'.length l.length=0->l'.take l.length++l.drop l'.length=l:=fun h0=>by
  by_cases h:l'=[]
  ·subst h;simp
  ·have hl0:l.length=0:=by
    have:0<l'.length:=List.length_pos_iff.2 h
    omega
   have:l=[]:=jp hl0
   subst this
   simp
 by_cases h0:min l'.length l.length=0
 ·have hrun:(execOp a.eval op).run P w=.ok (.value (.int .i64 ((min l'.length l.length:Nat):Int))) w:=by
   have hld0: ∀ ad:Addr,(loadCells ad 0).run P w=.ok #[] w:=fun ad=>by simpa using run_loadCells_list (P:=P) w ad [] (fun j v h=>by simp at h)
   have hgo0:goInt 0=Value.int .i64 0:=by have:=hgo 0 (Nat.zero_le _);simpa using this
   have hval: ∃ a' c',yv.den β=.slice a' l'.length c':=by
    rcases hsrc with ⟨h1,h2⟩|⟨h1,a',c',h2⟩|⟨ad,c',us,h1,_⟩
    ·exact ⟨none,0,by rw [h2,h1];rfl⟩
    ·exact ⟨a',c',by rw [h2,h1];rfl⟩
    ·exact ⟨_,_,h1⟩
   obtain ⟨a',c',hval⟩:=hval
   have hm0:Nat.min l'.length l.length=0:=h0
   rw [h0]
   unfold execOp
   simp only [hop,resolve,invoke,builtin,Sem.run_bind,Sem.run_pure,Result.andThen_ok,List.map_toArray,List.map_cons,List.map_nil,hxd,hyd,hval]
   cases (β i).b<;>cases a'<;>simp [Builtin.copy_,run_underlying hd.1,Builtin.lenOf,Builtin.firstCells,sizeOf,typeInfo,hie,hm0,storeCells,hld0,hgo0]
  exact ⟨β,w,by rw [hrun];rfl,fun _ _=>rfl,hg.gh.same fun j=>by rw [hnone h0];exact VD hi j,trivial,Nat.le_refl _⟩
 ·rcases hsrc with ⟨h1,h2⟩|⟨h1,a',c',h2⟩|⟨ad,c',us,h1,h2,h3⟩
  ·exact absurd (by rw [h1];simp) h0
  ·exact absurd (by rw [h1];simp) h0
  have hul:us.length=l'.length*te.sz:=by rw [<-h2.1,S.Au,hsz]
  have hle:min l'.length l.length*te.sz<=us.length:=by rw [hul];exact Nat.mul_le_mul_right _ (Nat.min_le_left _ _)
  have hlc:min l'.length l.length*te.sz<=vs.length:=by rw [hvl,hsz];exact Nat.mul_le_mul_right _ (Nat.min_le_right _ _)
  have htk:(us.take (min l'.length l.length*te.sz)).length=min l'.length l.length*te.sz:=by rw [List.length_take];omega
  have hld:=run_loadCells_list (P:=P) w ad (us.take (min l'.length l.length*te.sz)) (fun j v hv=>h3 j v (by
   rw [ol] at hv
   split at hv
   ·exact hv
   ·cases hv))
  rw [htk] at hld
  have hpos':0<min l'.length l.length*te.sz:=Nat.mul_pos (by omega) hpos
  have hne:us.take (min l'.length l.length*te.sz)≠[]:=fun h=>by
   have hz:=congrArg List.length h
   rw [htk] at hz
   simp only [List.length_nil] at hz
   omega
  obtain ⟨w',hr,hrow',hb,g1,g2,g3,g4,g5⟩:=IG (P:=P) (off:=0) hrow (us:=us.take (min l'.length l.length*te.sz)) (fun v hv=>h2.WB v (List.mem_of_mem_take hv)) (by rw [htk];omega) hne
  have hD: ∀ k,D k->w'.heap[k]?=w.heap[k]?:=fun k hk=>g5 k fun hkb=>by subst hkb;exact hg.gh.off i _ _ hi (.inl hb) hk
  have hnewlen:(l'.take l.length++l.drop l'.length).length=l.length:=by simp;omega
  have hflat:S.flat τ' (l'.take l.length++l.drop l'.length)=Af (S.flat τ' l) 0 ((S.flat τ' l').take (min l'.length l.length*te.sz)):=by
   rw [S.Es,S.FO,S.IZ,<- hsz]
   unfold Af
   have hfl:=S.Au τ' l'
   simp only [List.take_zero,List.nil_append,List.length_take,Nat.zero_add]
   by_cases hc1:l'.length<=l.length
   ·rw [Nat.min_eq_left hc1,<- hfl,List.take_length,Nat.min_self]
    rw [List.take_of_length_le (by rw [hfl];exact Nat.mul_le_mul_right _ hc1)]
   ·have hc2:l.length<=l'.length:=by omega
    rw [Nat.min_eq_right hc2]
    have hm1:l.length*S.sz τ'<=l'.length*S.sz τ':=Nat.mul_le_mul_right _ hc2
    rw [hfl,Nat.min_eq_left hm1,List.drop_eq_nil_of_le (by rw [S.Au];exact hm1),List.drop_eq_nil_of_le (by rw [S.Au];exact Nat.le_refl _)]
  refine ⟨β,w',?_,fun _ _=>rfl,?_,trivial,Nat.le_refl _⟩
  ·obtain ⟨g,hbb⟩: ∃ g,(β i).b=some g:=⟨_,hb⟩
   have hgo1:goInt (Nat.min l'.length l.length)=Value.int .i64 ((min l'.length l.length:Nat):Int):=hgo _ (Nat.min_le_right _ _)
   have hld':(loadCells ad (Nat.min l'.length l.length*te.sz)).run P w=.ok (us.take (min l'.length l.length*te.sz)).toArray w:=hld
   simp only [Nm.AX,hbb,Option.getD_some] at hr
   unfold execOp
   simp only [hop,resolve,invoke,builtin,Sem.run_bind,Sem.run_pure,Result.andThen_ok,List.map_toArray,List.map_cons,List.map_nil,hxd,hyd,h1,SV.den,hbb,Option.map_some]
   simp [Builtin.copy_,run_underlying hd.1,Builtin.lenOf,Builtin.firstCells,sizeOf,typeInfo,hie,his,hld',hr,hgo1]
  ·refine hg.gh.LL hi (.inl hb) trivial g1 g2 g3 (Nat.le_of_eq g4.symm) (fun j _ hj=>g5 j hj) ⟨by rw [hnewlen];exact hlen,_,by rw [hnewlen];exact hrow',?_⟩
   have hall:=(hvs.B4 hD fun _ h=>h).Af ((h2.take (min l'.length l.length*te.sz)).B4 hD fun _ h=>h) 0
   show AG S w' D (S.flat τ' (l'.take l.length++l.drop l'.length)) _
   rw [hflat];exact hall
end
end Go.En
