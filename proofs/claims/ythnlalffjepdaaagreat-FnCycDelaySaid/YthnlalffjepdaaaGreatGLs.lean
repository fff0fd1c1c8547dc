/- What is told was asked long enough ago: its store's slowness and two cycles more lie between. No program in sight. -/
import Derived.Test.YthnlalffjepdaaaGreatGYw
import Derived.Test.YthnlalffjepdaaaGreatGLp
import Derived.Test.YthnlalffjepdaaaGreatGFl
import Derived.Test.YthnlalffjepdaaaGreatGDo6
set_option linter.unusedVariables false
set_option linter.unusedSimpArgs false
namespace Go.Proofs.YthnlalffjepdaaaGreat
open Go.RowKit
def InL (g n:Nat) (V:Nat→Value) (b:Nat):Prop:=b=g∨∃i,i<n∧(V i).ownBlock=some b
structure BoxL {α:Type} (w:World) (base e sz:Nat) (f:α→List Value) (g n:Nat) (V:Nat→Value) (A:Nat→List α):Prop where
 bx:Bx w g ((List.range n).map V)
 own:∀i,i<n→Owns w base e sz f (V i) (A i)
 ap:∀i j,i<n→j<n→i≠j→Apart (V i) (V j)
 fr:∀i,i<n→(V i).ownBlock≠some g
 lb:base≤g
section
variable {α : Type} {w w' : World} {base e sz g n : Nat} {f : α → List Value} {V : Nat → Value} {A : Nat → List α}
theorem BoxL.lt (h:BoxL w base e sz f g n V A) {b:Nat} (hb:InL g n V b):base≤b∧b<w.heap.size:=by
 rcases hb with rfl|⟨i,hi,hb⟩
 ·exact⟨h.lb,h.bx.lt⟩
 ·exact OwnR.lt (h.own i hi) b hb
theorem BoxL.kept (h:BoxL w base e sz f g n V A) (hk:∀b,InL g n V b→w'.heap[b]? = w.heap[b]?):BoxL w' base e sz f g n V A :=
 ⟨h.bx.kept (hk g (.inl rfl)),fun i hi=>OwnR.kept (h.own i hi) fun b hb=>hk b (.inr ⟨i,hi,hb⟩),h.ap,h.fr,h.lb⟩
theorem BoxL.below (h:BoxL w base e sz f g n V A) (hb:Below w.heap.size w w'):BoxL w' base e sz f g n V A:=h.kept fun b hi=>hb.block b (h.lt hi).2
theorem BoxL.cell (h:BoxL w base e sz f g n V A) {i:Nat} (hi:i<n):w.cell? ⟨g,i,none⟩=some (V i):=by
 rw[h.bx.c i (by simpa using hi)];simp[hi]
theorem range_set {n i:Nat} (hi:i<n) (V:Nat→Value) (v:Value):((List.range n).map V).set i v=(List.range n).map (upd V i v):=by
 apply List.ext_getElem?;intro j;by_cases hj:j<n
 ·rw[List.getElem?_set];by_cases e:i=j
  ·subst e;simp[hi,upd_same]
  ·rw[if_neg e];simp[hj,upd_other _ _ (Ne.symm e)]
 ·rw[List.getElem?_eq_none (by simp;omega),List.getElem?_eq_none (by simp;omega)]
theorem BoxL.put (h : BoxL w base e sz f g n V A) {i : Nat} (hi : i < n) {v' : Value} {xs : List α} (ho : Owns w' base e sz f v' xs) (hk : ∀ b, b < w.heap.size → (V i).ownBlock ≠ some b → w'.heap[b]? = w.heap[b]?) (hn : ∀ b, v'.ownBlock = some b → (V i).ownBlock = some b ∨ w.heap.size ≤ b) :
  BoxL (w'.setCell ⟨g,i,none⟩ v') base e sz f g n (upd V i v') (upd A i xs):=by
 have hg:=h.bx.lt;have hvg:v'.ownBlock≠some g:=fun e=>by
  rcases hn g e with h1|h1
  ·exact h.fr i hi h1
  ·omega
 have hx:Bx w' g ((List.range n).map V):=h.bx.kept (hk g hg (h.fr i hi));refine⟨?_,fun j hj=>?_,fun j k hj hk2 hne=>?_,fun j hj=>?_,h.lb⟩
 ·have:=hx.set i (by simpa using hi) v'
  rwa [range_set hi]at this
 ·by_cases ej:j=i
  ·subst ej;rw[upd_same,upd_same];exact OwnR.kept ho fun b hb=>Below.heap_setCell _ _ _ _ (fun e=>hvg (by rw[hb];exact congrArg some e))
  ·rw[upd_other _ _ ej,upd_other _ _ ej];refine OwnR.kept (OwnR.kept (h.own j hj) fun b hb=>hk b (OwnR.lt (h.own j hj) b hb).2 fun e=>h.ap j i hj hi ej b hb e) fun b hb=>Below.heap_setCell _ _ _ _ (fun e=>h.fr j hj (by rw[hb];exact congrArg some e))
 ·have key:∀m,m<n→m≠i→Apart v' (V m):=fun m hm hmi b hb hc=>by
   rcases hn b hb with h1|h1
   ·exact h.ap i m hi hm (Ne.symm hmi) b h1 hc
   ·have:=(OwnR.lt (h.own m hm) b hc).2;omega
  by_cases ej:j=i
  ·subst ej;rw[upd_same,upd_other _ _ (Ne.symm hne)];exact key k hk2 (Ne.symm hne)
  ·rw[upd_other _ _ ej];by_cases ek:k=i
   ·subst ek;rw[upd_same];exact(key j hj ej).symm
   ·rw[upd_other _ _ ek];exact h.ap j k hj hk2 hne
 ·by_cases ej:j=i
  ·subst ej;rw[upd_same];exact hvg
  ·rw[upd_other _ _ ej];exact h.fr j hj
end
theorem inL_put {g n i m:Nat} {V:Nat→Value} {v':Value} (hi:i<n) (hn:∀b,v'.ownBlock=some b→(V i).ownBlock=some b∨m≤b) {b:Nat} (h:InL g n (upd V i v') b):InL g n V b∨m≤b:=by
 rcases h with rfl|⟨j,hj,hb⟩
 ·exact .inl (.inl rfl)
 ·by_cases e:j=i
  ·subst e;rw[upd_same]at hb;exact(hn b hb).imp (fun h=>.inr ⟨j,hj,h⟩) id
  ·rw[upd_other _ _ e]at hb;exact .inl (.inr ⟨j,hj,hb⟩)
structure KeptX (X:Nat→Prop) (w w':World):Prop where
 size:w.heap.size≤w'.heap.size
 block:∀b,b<w.heap.size→¬X b→w'.heap[b]? = w.heap[b]?
theorem KeptX.refl (X:Nat→Prop) (w:World):KeptX X w w:=⟨Nat.le_refl _,fun _ _ _=>rfl⟩
theorem KeptX.of {X:Nat→Prop} {w w':World} (h:Below w.heap.size w w'):KeptX X w w':=⟨h.size,fun b hb _=>h.block b hb⟩
theorem KeptX.trans {X X':Nat→Prop} {u v w:World} (h:KeptX X u v) (k:KeptX X' v w) (hx:∀b,X' b→X b∨u.heap.size≤b):KeptX X u w :=
 ⟨Nat.le_trans h.size k.size,fun b hb hn=>(k.block b (Nat.lt_of_lt_of_le hb h.size) fun e=>(hx b e).elim hn fun h=>by omega).trans (h.block b hb hn)⟩
theorem KeptX.cell {X:Nat→Prop} {w w':World} (h:KeptX X w w') {p:Addr} {v:Value} (hp:¬X p.block) (hc:w.cell? p=some v):w'.cell? p=some v:=by
 rw[←hc];simp only[World.cell?,h.block _ (World.block_lt_of_cell? w _ hc) hp]
def CyBoxX (w:World) (gs:Nat) (X:Nat→Prop) (st:Cy):Prop:=∃(V:Nat→Value) (N:Nat→Nat) (C:Nat→List Value) (D:Nat→List TJV),Bx w gs [V 0,V 1,V 2,V 3,V 4]∧Raw w 0 V N C∧Cont st [] V N C D∧Free V gs∧¬X gs∧(∀b,X b→Free V b)∧∀κ,κ<20→∀x∈D κ,IntsD w (fun b=>b<w.heap.size∧b≠gs∧¬X b) x.2 x.1.rsp.data
theorem CyBoxX.box {w:World} {gs:Nat} {X:Nat→Prop} {st:Cy} (h:CyBoxX w gs X st):CyBox w gs st:=by
 obtain⟨V,N,C,D,h1,h2,h3,h4,h5,h6,h7⟩:=h;exact⟨V,N,C,D,h1,h2,h3,h4,fun κ hκ x hx=>(h7 κ hκ x hx).weak fun b hb=>⟨hb.1,hb.2.1⟩⟩
theorem CyBoxX.keep {w w':World} {gs:Nat} {X X':Nat→Prop} {st:Cy} (h:CyBoxX w gs X st) (hk:KeptX X w w') (hX:∀b,X' b→X b∨w.heap.size≤b):CyBoxX w' gs X' st:=by
 obtain⟨V,N,C,D,h1,h2,h3,h4,h5,h6,h7⟩:=h;refine⟨V,N,C,D,h1.kept (hk.block _ h1.lt h5),h2.kept fun b hb hf=>hk.block b hb fun e=>hf (h6 b e),h3,h4,fun e=>?_,fun b hb=>?_,fun κ hκ x hx=>?_⟩
 ·rcases hX gs e with h|h
  ·exact h5 h
  ·have:=h1.lt;omega
 ·rcases hX b hb with h|h
  ·exact h6 b h
  ·exact fun κ hκ e=>by have:=(h2.lt hκ e).2;omega
 ·refine((h7 κ hκ x hx).kept fun b hb=>hk.block b hb.1 hb.2.2).weak fun b hb=>⟨Nat.lt_of_lt_of_le hb.1 hk.size,hb.2.1,fun e=>?_⟩
  rcases hX b e with h|h
  ·exact hb.2.2 h
  ·have:=hb.1;omega
theorem CyBoxX.ngs {w:World} {gs:Nat} {X:Nat→Prop} {st:Cy} (h:CyBoxX w gs X st):¬X gs:=by
 obtain⟨V,N,C,D,h1,h2,h3,h4,h5,h6,h7⟩:=h;exact h5
theorem CyBox.apart {w w':World} {gs:Nat} {X:Nat→Prop} {st:Cy} (h:CyBox w gs st) (hb:Below w.heap.size w w') (hX:∀b,X b→w.heap.size≤b):CyBoxX w' gs X st:=by
 obtain⟨V,N,C,D,h1,h2,h3,h4,h5⟩:=h;have h0:CyBoxX w gs (fun _=>False) st:=⟨V,N,C,D,h1,h2,h3,h4,fun h=>h,fun _ h=>h.elim,fun κ hκ x hx=>(h5 κ hκ x hx).weak fun b hb=>⟨hb.1,hb.2,fun h=>h⟩⟩
 exact h0.keep (KeptX.of hb) fun b hb=>.inr (hX b hb)
theorem CopP.storeX {st st' : Cy} {w wa : World} {e : Ending} {gs : Nat} {X : Nat → Prop} (hs : CyBoxX w gs X st) (hX : ∀ b, X b → b < w.heap.size) (h : CopP st' w e wa) : ∃ b0 b1 b2 b3 b4 n0 n1 n2 n3 n4 k0 k1 k2 k3 k4, e = .returned (.agg #[.slice b0 n0 k0, .slice b1 n1 k1, .slice b2 n2 k2, .slice b3 n3 k3, .slice b4 n4 k4]) ∧ (∃ a b c d f, Bx wa gs [a, b, c, d, f]) ∧ Below w.heap.size w wa ∧
  CyBoxX (((((wa.setCell ⟨gs,0,none⟩ (.slice b0 n0 k0)).setCell ⟨gs,1,none⟩ (.slice b1 n1 k1)).setCell ⟨gs,2,none⟩ (.slice b2 n2 k2)).setCell ⟨gs,3,none⟩ (.slice b3 n3 k3)).setCell ⟨gs,4,none⟩ (.slice b4 n4 k4)) gs X st':=by
 obtain⟨V,N,C,D,b0,b1,b2,b3,b4,n0,n1,n2,n3,n4,k0,k1,k2,k3,k4,⟨e0,e1,e2,e3,e4⟩,he,hr,hb⟩:=h.sl;obtain⟨V0,N0,C0,D0,hx,_,_,_,hxg,_⟩:=hs;have hgl:=hx.lt;have hx2:=hx.below hb hx.lt;have hf:Free V gs:=fun κ hκ e=>by have:=(hr.raw.lt hκ e).1;omega
 refine⟨b0,b1,b2,b3,b4,n0,n1,n2,n3,n4,k0,k1,k2,k3,k4,he,⟨_,_,_,_,_,hx2⟩,hb,V,N,C,D,?_,raw_zero (hr.raw.kept fun b _ hb=>put5_other b fun e=>hb (e▸hf)),hr.con,hf,hxg,fun b hb2 κ hκ e=>?_,fun κ hκ x hx=>?_⟩
 ·rw[e0,e1,e2,e3,e4];exact hx2.put5 _ _ _ _ _
 ·have:=(hr.raw.lt hκ e).1;have:=hX b hb2;omega
 ·refine((hr.dat κ hκ x hx).kept fun b hb2=>put5_other b (by have:=hb2.1;omega)).weak fun b hb2=>⟨by simp only[World.size_setCell];exact hb2.2.1,by have:=hb2.1;omega,fun e=>?_⟩
  have:=hX b e;have:=hb2.1;omega
def PushD {α:Type} (wo:World) (base e sz:Nat) (f:α→List Value) (g n:Nat) (V:Nat→Value) (A:Nat→List α) (i:Nat) (y:α) (W:World):Prop :=
 ∃V', BoxL W base e sz f g n V' (upd A i (A i++[y]))∧KeptX (InL g n V) wo W∧Below base wo W∧∀b,InL g n V' b→InL g n V b∨wo.heap.size≤b
def pushC {α : Type} (wo : World) (base e sz : Nat) (f : α → List Value) (g n : Nat) (V : Nat → Value) (A : Nat → List α) (i : Nat) (y : α) (us : List Value) (W : World) : Prop := match us with
 |[]=>Below wo.heap.size wo W
 |[v0]=>Below wo.heap.size wo W∧∃h,v0=.slice (some ⟨h,0,none⟩) 1 1∧∀j u,(f y)[j]? = some u→W.cell? ⟨h,j,none⟩=some u
 |[_,v1]=>∃W0,Below wo.heap.size wo W0∧Owns W base e sz f v1 (A i++[y])∧(∀b,b<W0.heap.size→(V i).ownBlock≠some b→W.heap[b]? = W0.heap[b]?)∧W0.heap.size≤W.heap.size∧Below base W0 W∧(∀k,v1.ownBlock=some k→(V i).ownBlock=some k∨W0.heap.size≤k)
 |[_,_,_]=>PushD wo base e sz f g n V A i y W
 |_=>False
section
variable {α : Type} {wo W : World} {base e sz g n i : Nat} {f : α → List Value} {V : Nat → Value} {A : Nat → List α} {y : α}
theorem pushC_kept {us:List Value} (hi:i<n) (h:pushC wo base e sz f g n V A i y us W):KeptX (InL g n V) wo W:=by
 match us,h with
 |[],h=>exact KeptX.of h
 |[_],h=>exact KeptX.of h.1
 |[_,_],⟨W0,h1,_,h2,h3,_⟩=>exact⟨Nat.le_trans h1.size h3,fun b hb hn=>(h2 b (Nat.lt_of_lt_of_le hb h1.size) fun e=>hn (.inr ⟨i,hi,e⟩)).trans (h1.block b hb)⟩
 |[_,_,_],⟨_,_,h,_⟩=>exact h
theorem pushC_store {v0 v1 v2:Value} (hb:BoxL wo base e sz f g n V A) (hi:i<n) (h:pushC wo base e sz f g n V A i y [v0,v1] W):pushC wo base e sz f g n V A i y [v0,v1,v2] (W.setCell ⟨g,i,none⟩ v1):=by
 obtain⟨W0,h1,h2,h3,h4,h5,h6⟩:=h;have hg:=hb.bx.lt;have hlb:=hb.lb;have hB:=(hb.below h1).put hi h2 h3 h6;refine⟨_,hB,⟨by simp only[World.size_setCell];exact Nat.le_trans h1.size h4,fun b hbl hn=>?_⟩,((h1.mono (Nat.le_trans hlb (Nat.le_of_lt hg))).trans h5).setCell (p:=⟨g,i,none⟩) hlb _,fun b hbb=>?_⟩
 ·rw[Below.heap_setCell _ _ _ _ (fun e=>hn (.inl e)),h3 b (Nat.lt_of_lt_of_le hbl h1.size) fun e=>hn (.inr ⟨i,hi,e⟩)];exact h1.block b hbl
 ·exact(inL_put hi h6 hbb).imp id fun h=>Nat.le_trans h1.size h
theorem pushC_cell {v0 v1:Value} (hb:BoxL wo base e sz f g n V A) (hi:i<n) (h:pushC wo base e sz f g n V A i y [v0,v1] W):W.cell? ⟨g,i,none⟩=some (V i)∧W.frozen? ⟨g,i,none⟩=false:=by
 obtain⟨W0,h1,h2,h3,h4,h5,h6⟩:=h;have hx:=(hb.bx.below h1 hb.bx.lt).kept (h3 g (Nat.lt_of_lt_of_le hb.bx.lt h1.size) (hb.fr i hi));exact⟨by rw[hx.c i (by simpa using hi)];simp[hi],hx.f i (by simpa using hi)⟩
theorem pushC_sl {v0 v1:Value} (h:pushC wo base e sz f g n V A i y [v0,v1] W):∃a m c,v1=.slice a m c:=by
 obtain⟨W0,h1,h2,_⟩:=h;obtain⟨a,c,e,_⟩:=h2.shape;exact⟨a,_,c,e⟩
theorem pushC_load {us:List Value} (hb:BoxL wo base e sz f g n V A) (hi:i<n) (h:pushC wo base e sz f g n V A i y us W) (hl:us.length≤2):W.cell? ⟨g,i,none⟩=some (V i):=by
 match us,h,hl with
 |[],h,_=>exact(hb.below h).cell hi
 |[_],h,_=>exact(hb.below h.1).cell hi
 |[_,_],h,_=>exact(pushC_cell hb hi h).1
 |[_,_,_],_,hl=>simp at hl
end
end Go.Proofs.YthnlalffjepdaaaGreat
namespace Go.Proofs.YthnlalffjepdaaaGreat
def WkOk (c:Cfg) (inp:Inp) (st:Cy) (e:Ev):Prop :=
 e.kind=2∧e.who<3∧e.n<(c.prog e.who).length∧c.slv e.who e.n<4∧inp.stall.getD (c.slv e.who e.n) false=false∧∃rest,(st.slaves (c.slv e.who e.n)).pipe=⟨e.who,e.n,0⟩::rest
structure WkI (c:Cfg) (inp:Inp) (st:Cy) (l:List Ev) (x:Cy×List Ev) (k:Nat):Prop where
 g:Good c x.1
 ev:∃es,x.2=l++es∧(∀e∈es,WkOk c inp st e∧c.slv e.who e.n<k)∧es.Pairwise (fun a b=>c.slv a.who a.n<c.slv b.who b.n)
 pipe:∀s,k≤s→(x.1.slaves s).pipe=(st.slaves s).pipe
theorem WkI.skip {c:Cfg} {inp:Inp} {st:Cy} {l:List Ev} {x:Cy×List Ev} {k:Nat} (h:WkI c inp st l x k):WkI c inp st l x (k+1):=by
 obtain⟨es,h1,h2,h3⟩:=h.ev;exact⟨h.g,⟨es,h1,fun e he=>⟨(h2 e he).1,by have:=(h2 e he).2;omega⟩,h3⟩,fun s hs=>h.pipe s (by omega)⟩
theorem Good.slvKey {c:Cfg} {st:Cy} (h:Good c st) {s w n:Nat} (hs:s<4) (hk:(w,n)∈keysOf (st.slaves s)):c.slv w n=s:=by
 obtain⟨hw,o,ho,rfl,hl⟩:=h.key hs hk;rw[←hl];exact((h.p w hw).o o ho).2.1.symm
theorem wkI_step {c:Cfg} (hb:Bus c) {inp:Inp} {st:Cy} {l:List Ev} {x:Cy×List Ev} {k:Nat} (hk:k<4) (h:WkI c inp st l x k):WkI c inp st l (work1 c inp k x) (k+1):=by
 have hg:=good_work1 hb (inp:=inp) h.g hk;obtain⟨es,h1,h2,h3⟩:=h.ev;unfold work1 at hg ⊢
 split
 ·exact h.skip
 ·rename_i hst
  split
  ·exact h.skip
  ·rename_i j rest hp;rw[if_neg hst]at hg;simp only[hp]at hg
   split
   ·rename_i hl;rw[if_pos hl]at hg;refine⟨hg,⟨es,h1,fun e he=>⟨(h2 e he).1,by have:=(h2 e he).2;omega⟩,h3⟩,fun s hs=>?_⟩;simp only[workDec];rw[upd_other _ _ (show s≠k by omega)];exact h.pipe s (by omega)
   ·rename_i hl;rw[if_neg hl]at hg
    split
    ·rename_i hd;rw[if_pos hd]at hg;have hin:(j.who,j.n)∈keysOf (x.1.slaves k):=by simp[keysOf,hp]
     have hw:=(h.g.key hk hin).1;have hn:=h.g.keyN hk hin;have hs:=h.g.slvKey hk hin;have hj0:j.left=0:=by omega
     refine⟨hg,⟨es++[⟨2,j.who,j.n⟩],by simp[workDo,h1],fun e he=>?_,?_⟩,fun s hs2=>?_⟩
     ·rcases List.mem_append.1 he with he|he
      ·exact⟨(h2 e he).1,by have:=(h2 e he).2;omega⟩
      ·rw[List.mem_singleton.1 he];refine⟨⟨rfl,hw,hn,by simp only;omega,by simp only;rw[hs];simpa using hst,rest,?_⟩,by simp only;omega⟩;simp only;rw[hs,←h.pipe k (Nat.le_refl _),hp,←hj0]
     ·rw[List.pairwise_append];refine⟨h3,List.pairwise_singleton _ _,fun a ha b hb2=>?_⟩;rw[List.mem_singleton.1 hb2];have:=(h2 a ha).2;simp only;omega
     ·simp only[workDo];rw[upd_other _ _ (show s≠k by omega)];exact h.pipe s (by omega)
    ·exact h.skip
theorem tell1_kind {inp:Inp} {x:Cy×List Ev} {w:Nat} (h:∀e∈x.2,e.kind=3):∀e∈(tell1 inp w x).2,e.kind=3:=by
 unfold tell1
 split
 ·split
  ·exact h
  ·split
   ·exact h
   ·intro e he;rcases List.mem_append.1 he with he|he
    ·exact h e he
    ·rw[List.mem_singleton.1 he]
 ·exact h
theorem ask1_ev {c:Cfg} {inp:Inp} {l:List Ev} {x:Cy×List Ev} {w:Nat} (h:∃a,x.2=l++a∧∀e∈a,e.kind=1):∃a,(ask1 c inp w x).2=l++a∧∀e∈a,e.kind=1:=by
 obtain⟨a,h1,h2⟩:=h;unfold ask1
 split
 ·refine⟨a++[⟨1,w,(x.1.ports w).next⟩],by simp[askDo,h1],fun e he=>?_⟩;rcases List.mem_append.1 he with he|he
  ·exact h2 e he
  ·rw[List.mem_singleton.1 he]
 ·exact⟨a,h1,h2⟩
end Go.Proofs.YthnlalffjepdaaaGreat
namespace Go.Proofs.YthnlalffjepdaaaGreat
open Go.RowKit
theorem reqSlave_nat {c : Cfg} (hbus : Bus c) {who n : Nat} (hw : who < 3) (hn : n < (c.prog who).length) {args : Array Value} {w : World} (h : Calls Tryz.prog 28 args w fun e w' => e = .returned (.int .i64 (if (mapOk c.ms && reqOk ((c.prog who).getD n default)) = true then slaveOf c.ms ((c.prog who).getD n default) else -1)) ∧ Below w.heap.size w w') :
  Calls Tryz.prog 28 args w fun e w' => e=.returned (.int .i64 (c.slv who n:Nat))∧Below w.heap.size w w':=by
 refine h.mono ?_;rintro e w' ⟨rfl,hb⟩;have hok:(mapOk c.ms&&reqOk ((c.prog who).getD n default))=true:=by rw[Bool.and_eq_true];exact⟨hbus.ms,hbus.req hw hn⟩
 rw[if_pos hok];exact⟨congrArg (fun x=>Ending.returned (.int .i64 x)) (slv_nat hbus.ms),hb⟩
end Go.Proofs.YthnlalffjepdaaaGreat
namespace Go.Proofs.YthnlalffjepdaaaGreat
def sum3 (f:Nat→Nat):Nat:=f 0+f 1+f 2
def cntS4 (f:Nat→Nat):Nat:=f 0+f 1+f 2+f 3
theorem sum3_upd {α:Type} (f:Nat→α) (g:α→Nat) {i:Nat} (hi:i<3) (x:α):sum3 (fun w=>g (upd f i x w))+g (f i)=sum3 (fun w=>g (f w))+g x:=by
 obtain rfl|rfl|rfl:i=0∨i=1∨i=2:=by omega
 all_goals
  simp only[sum3,upd];simp only[if_pos,if_neg,reduceCtorEq,Nat.reduceEqDiff,↓reduceIte];omega
theorem sum4_upd {α:Type} (f:Nat→α) (g:α→Nat) {i:Nat} (hi:i<4) (x:α):cntS4 (fun w=>g (upd f i x w))+g (f i)=cntS4 (fun w=>g (f w))+g x:=by
 obtain rfl|rfl|rfl|rfl:i=0∨i=1∨i=2∨i=3:=by omega
 all_goals
  simp only[cntS4,upd];simp only[if_pos,if_neg,reduceCtorEq,Nat.reduceEqDiff,↓reduceIte];omega
def outs (st:Cy):Nat:=sum3 fun w=>(st.ports w).out.length
def doneW (st:Cy):Nat:=cntS4 fun s=>(st.slaves s).done.length
def evN (k w:Nat) (l:List Ev):Nat:=(l.filter (fun e=>e.kind==k&&e.who==w)).length
def dosN (l:List Ev):Nat:=(l.filter (fun e=>e.kind==2)).length
theorem evN_snoc (k w:Nat) (l:List Ev) (e:Ev):evN k w (l++[e])=evN k w l+(if e.kind=k∧e.who=w then 1 else 0):=by
 unfold evN;rw[List.filter_append,List.length_append];by_cases h:e.kind=k∧e.who=w
 ·simp[h.1,h.2]
 ·rw[if_neg h,List.filter_cons_of_neg (by simpa using h)];simp
theorem dosN_snoc (l:List Ev) (e:Ev):dosN (l++[e])=dosN l+(if e.kind=2 then 1 else 0):=by
 unfold dosN;rw[List.filter_append,List.length_append];by_cases h:e.kind=2
 ·simp[h]
 ·rw[if_neg h,List.filter_cons_of_neg (by simpa using h)];simp
theorem cntW_snoc (w:Nat) (l:List TJ) (j:TJ):cntW w (l++[j])=cntW w l+(if j.who=w then 1 else 0):=by
 unfold cntW;rw[List.filter_append,List.length_append];by_cases h:j.who=w
 ·simp[h]
 ·rw[if_neg h,List.filter_cons_of_neg (by simpa using h)];simp
structure Tally (st0:Cy) (x:Cy×List Ev) (L:Nat):Prop where
 nx:∀w,(x.1.ports w).next=(st0.ports w).next+evN 1 w x.2
 tl:∀w,cntW w x.1.told=cntW w st0.told+evN 3 w x.2
 ou:x.1.told.length+outs x.1=st0.told.length+outs st0+L
 dn:x.1.told.length+doneW x.1=st0.told.length+doneW st0+dosN x.2
theorem tally_tell1 {c:Cfg} {inp:Inp} {st0:Cy} {x:Cy×List Ev} {L w:Nat} (hw:w<3) (h:Good c x.1) (t:Tally st0 x L):Tally st0 (tell1 inp w x) L:=by
 unfold tell1
 split
 ·split
  ·exact t
  ·rename_i k hk;obtain⟨_,_,hmm⟩:=firstK_some hk
   split
   ·exact t
   ·rename_i j rest hd;have hj:j.who=w:=by
     unfold tellM at hmm;rw[hd]at hmm;simpa using hmm
    obtain⟨s,hs⟩:∃s,s=((x.1.ports w).last+k) % 4:=⟨_,rfl⟩
    have hs4:s<4:=by omega
    rw[←hs]at hd ⊢;obtain⟨_,o,ho,hon,_⟩:=h.key (s:=s) (w:=j.who) (n:=j.n) hs4 (by simp[keysOf,hd]);rw[hj]at ho;have he:((x.1.ports w).out.eraseP (fun o=>o.n==j.n)).length+1=(x.1.ports w).out.length:=by
     have h1:=List.length_eraseP_of_mem (p:=fun o:Jb=>o.n==j.n) ho (by simp[hon]);have h2:0<(x.1.ports w).out.length:=List.length_pos_of_mem ho;omega
    refine⟨fun v=>?_,fun v=>?_,?_,?_⟩
    ·simp only[tellDo];rw[evN_snoc,if_neg (by simp),Nat.add_zero,←t.nx v];by_cases hv:v=w
     ·rw[hv,upd_same]
     ·rw[upd_other _ _ hv]
    ·simp only[tellDo];rw[evN_snoc,cntW_snoc,t.tl v,hj];simp only[true_and];omega
    ·have:=t.ou;have h3:=sum3_upd x.1.ports (fun p=>p.out.length) hw { x.1.ports w with out:=(x.1.ports w).out.eraseP (fun o=>o.n==j.n),last:=s };simp only[tellDo,outs,List.length_append,List.length_singleton]at this h3 ⊢;omega
    ·have:=t.dn;have h3:=sum4_upd x.1.slaves (fun p=>p.done.length) hs4 { x.1.slaves s with done:=rest };simp only[hd,List.length_cons]at h3;simp only[tellDo,doneW,List.length_append,List.length_singleton,dosN_snoc]at this h3 ⊢;rw[if_neg (by simp)];omega
 ·exact t
theorem tally_work1 {c:Cfg} {inp:Inp} {st0:Cy} {x:Cy×List Ev} {L s:Nat} (hs:s<4) (t:Tally st0 x L):Tally st0 (work1 c inp s x) L:=by
 unfold work1
 split
 ·exact t
 ·split
  ·exact t
  ·rename_i j rest hp
   split
   ·refine⟨t.nx,t.tl,t.ou,?_⟩;have:=t.dn;have h3:=sum4_upd x.1.slaves (fun p=>p.done.length) hs { x.1.slaves s with pipe:=⟨j.who,j.n,j.left - 1⟩::rest };simp only[workDec,doneW]at this h3 ⊢;omega
   ·split
    ·refine⟨fun v=>?_,fun v=>?_,t.ou,?_⟩
     ·simp only[workDo];rw[evN_snoc,if_neg (by simp),Nat.add_zero];exact t.nx v
     ·simp only[workDo];rw[evN_snoc,if_neg (by simp),Nat.add_zero];exact t.tl v
     ·have:=t.dn;have h3:=sum4_upd x.1.slaves (fun p=>p.done.length) hs { x.1.slaves s with pipe:=rest,done:=(x.1.slaves s).done++[⟨j.who,j.n,(doReq c.ms x.1.ws x.1.hs j.who (c.req j.who j.n)).2.2⟩] };simp only[List.length_append,List.length_singleton]at h3;simp only[workDo,doneW,dosN_snoc,if_pos]at this h3 ⊢;omega
    ·exact t
structure TallyL (st0:Cy) (l:List Ev) (y:Lt) (k:Nat):Prop where
 t:Tally st0 (y.st,l) (cntS4 y.lets)
 z:∀s,k≤s→y.lets s=0
 o:∀s,y.lets s≤1
theorem TallyL.skip {st0:Cy} {l:List Ev} {y:Lt} {k:Nat} (h:TallyL st0 l y k):TallyL st0 l y (k+1):=⟨h.t,fun s hs=>h.z s (by omega),h.o⟩
theorem tally_let1 {c:Cfg} {st0:Cy} {l:List Ev} {y:Lt} {k:Nat} (hk:k<4) (h:TallyL st0 l y k):TallyL st0 l (let1 c k y) (k+1):=by
 unfold let1
 split
 ·split
  ·exact h.skip
  ·rename_i m hm
   split
   ·exact h.skip
   ·rename_i n rest hq;obtain⟨w,hw⟩:∃s,s=((y.st.slaves k).last+m) % 3:=⟨_,rfl⟩
    have hw3:w<3:=by omega
    rw[←hw]at hq ⊢;refine⟨⟨fun v=>?_,h.t.tl,?_,?_⟩,fun s hs=>?_,fun s=>?_⟩
    ·rw[←h.t.nx v];simp only[letDo];by_cases hv:v=w
     ·rw[hv,upd_same]
     ·rw[upd_other _ _ hv]
    ·have:=h.t.ou;have h3:=sum3_upd y.st.ports (fun p=>p.out.length) hw3 { y.st.ports w with queue:=rest,out:=(y.st.ports w).out++[⟨w,n,k⟩] };have h4:=sum4_upd y.lets id hk 1;have h5:=h.z k (Nat.le_refl _);simp only[id,List.length_append,List.length_singleton]at h3 h4;simp only[letDo,outs]at this h3 ⊢;have h6:cntS4 (upd y.lets k 1)=cntS4 (fun w=>upd y.lets k 1 w):=rfl;have h7:cntS4 y.lets=cntS4 (fun w=>y.lets w):=rfl;omega
    ·have:=h.t.dn;have h3:=sum4_upd y.st.slaves (fun p=>p.done.length) hk { y.st.slaves k with pipe:=(y.st.slaves k).pipe++[⟨w,n,c.lt k⟩],last:=w };simp only[letDo,doneW]at this h3 ⊢;omega
    ·simp only[letDo];rw[upd_other _ _ (show s≠k by omega)];exact h.z s (by omega)
    ·simp only[letDo];by_cases hs:s=k
     ·rw[hs,upd_same];exact Nat.le_refl _
     ·rw[upd_other _ _ hs];exact h.o s
 ·exact h.skip
theorem tally_ask1 {c:Cfg} {inp:Inp} {st0:Cy} {x:Cy×List Ev} {L w:Nat} (hw:w<3) (t:Tally st0 x L):Tally st0 (ask1 c inp w x) L:=by
 unfold ask1
 split
 ·refine⟨fun v=>?_,fun v=>?_,?_,?_⟩
  ·simp only[askDo];rw[evN_snoc];have:=t.nx v;by_cases hv:v=w
   ·subst hv;rw[upd_same];simp only[and_self,if_pos];omega
   ·rw[upd_other _ _ hv,if_neg (by simp;omega)];exact this
  ·simp only[askDo];rw[evN_snoc,if_neg (by simp),Nat.add_zero];exact t.tl v
  ·have:=t.ou;have h3:=sum3_upd x.1.ports (fun p=>p.out.length) hw { x.1.ports w with queue:=(x.1.ports w).queue++[(x.1.ports w).next],next:=(x.1.ports w).next+1 };simp only[askDo,outs]at this h3 ⊢;omega
  ·have:=t.dn;simp only[askDo,dosN_snoc]at this ⊢;rw[if_neg (by simp)];exact this
 ·exact t
theorem tally_zero (st:Cy):Tally st (st,[]) 0:=⟨fun _=>rfl,fun _=>rfl,rfl,rfl⟩
theorem tally_step {c:Cfg} (hb:Bus c) {inp:Inp} {st:Cy} (hg:Good c st):Tally st (cyc c inp st,evs c inp st) (cntS4 (lets c inp st))∧∀s,lets c inp st s≤1:=by
 have h1:Good c (tellAll inp (st,[])).1∧Tally st (tellAll inp (st,[])) 0 :=
  foldN_keep (P:=fun x:Cy×List Ev=>Good c x.1∧Tally st x 0) 3 (st,[]) ⟨hg,tally_zero st⟩ fun i x hi hx=>⟨good_tell1 hx.1 hi,tally_tell1 hi hx.1 hx.2⟩
 obtain⟨x1,hx1⟩:∃x,x=tellAll inp (st,[]):=⟨_,rfl⟩
 rw[←hx1]at h1;have h2:Tally st (workAll c inp x1) 0:=foldN_keep (P:=fun x:Cy×List Ev=>Tally st x 0) 4 x1 h1.2 fun i x hi hx=>tally_work1 hi hx
 obtain⟨x2,hx2⟩:∃x,x=workAll c inp x1:=⟨_,rfl⟩
 rw[←hx2]at h2;have h3:TallyL st x2.2 (letAll c x2.1) 4 :=
  tally_let1 (k:=3) (by omega) (tally_let1 (k:=2) (by omega) (tally_let1 (k:=1) (by omega) (tally_let1 (k:=0) (y:=⟨x2.1,fun _=>false,fun _=>0⟩) (by omega) ⟨h2,fun _ _=>rfl,fun _=>Nat.zero_le _⟩)))
 have h4:Tally st (askAll c inp ((letAll c x2.1).st,x2.2)) (cntS4 (letAll c x2.1).lets) :=
  foldN_keep (P:=fun x:Cy×List Ev=>Tally st x (cntS4 (letAll c x2.1).lets)) 3 ((letAll c x2.1).st,x2.2) h3.t fun i x hi hx=>tally_ask1 hi hx
 have e:step c inp st=askAll c inp ((letAll c x2.1).st,x2.2):=by rw[hx2,hx1];rfl
 have e2:lets c inp st=(letAll c x2.1).lets:=by rw[hx2,hx1];rfl
 rw[e2];refine⟨?_,h3.o⟩;show Tally st (step c inp st) _;rw[e];exact h4
def AskAt (A:Nat→List Nat) (w n a:Nat):Prop:=(A w)[n]? = some a
def PipeT (c:Cfg) (A:Nat→List Nat) (k s:Nat) (l:List Jb):Prop:=∀j∈l,∃a,AskAt A j.who j.n a∧c.lt s+a+2≤j.left+k
def DoneT (c:Cfg) (A:Nat→List Nat) (k s:Nat) (l:List TJ):Prop:=∀j∈l,∃a,AskAt A j.who j.n a∧c.lt s+a+3≤k
theorem PipeT.next {c:Cfg} {A:Nat→List Nat} {k s:Nat} {l:List Jb} (h:PipeT c A k s l):PipeT c A (k+1) s l:=fun j hj=>by
 obtain⟨a,h1,h2⟩:=h j hj;exact⟨a,h1,by omega⟩
theorem DoneT.next {c:Cfg} {A:Nat→List Nat} {k s:Nat} {l:List TJ} (h:DoneT c A k s l):DoneT c A (k+1) s l:=fun j hj=>by
 obtain⟨a,h1,h2⟩:=h j hj;exact⟨a,h1,by omega⟩
structure DelayI (c:Cfg) (A:Nat→List Nat) (k:Nat) (st:Cy):Prop where
 len:∀w,w<3→(A w).length=(st.ports w).next
 tm:∀w,w<3→∀a∈A w,a<k
 pp:∀s,s<4→PipeT c A k s (st.slaves s).pipe
 dn:∀s,s<4→DoneT c A k s (st.slaves s).done
def TellOk (c:Cfg) (A:Nat→List Nat) (k:Nat) (e:Ev):Prop:=e.who<3∧e.n<(c.prog e.who).length∧∃a,AskAt A e.who e.n a∧c.lt (c.slv e.who e.n)+a+3≤k
theorem delay_tell1 {c:Cfg} {inp:Inp} {A:Nat→List Nat} {k w:Nat} {x:Cy×List Ev} (hw:w<3) (hg:Good c x.1) (h:DelayI c A k x.1) (ht:∀e∈x.2,e.kind=3∧TellOk c A k e):DelayI c A k (tell1 inp w x).1∧∀e∈(tell1 inp w x).2,e.kind=3∧TellOk c A k e:=by
 unfold tell1
 split
 ·split
  ·exact⟨h,ht⟩
  ·rename_i m hm;obtain⟨_,_,hmm⟩:=firstK_some hm
   split
   ·exact⟨h,ht⟩
   ·rename_i j rest hd;have hj:j.who=w:=by
     unfold tellM at hmm;rw[hd]at hmm;simpa using hmm
    obtain⟨s,hs⟩:∃s,s=((x.1.ports w).last+m) % 4:=⟨_,rfl⟩
    have hs4:s<4:=by omega
    rw[←hs]at hd ⊢;have hin:(j.who,j.n)∈keysOf (x.1.slaves s):=by simp[keysOf,hd]
    have hsl:=hg.slvKey hs4 hin;have hn:=hg.keyN hs4 hin;refine⟨⟨fun v hv=>?_,h.tm,fun i hi=>?_,fun i hi=>?_⟩,fun e he=>?_⟩
    ·rw[h.len v hv];simp only[tellDo];by_cases e:v=w
     ·rw[e,upd_same]
     ·rw[upd_other _ _ e]
    ·simp only[tellDo];by_cases e:i=s
     ·subst e;rw[upd_same];exact h.pp i hi
     ·rw[upd_other _ _ e];exact h.pp i hi
    ·simp only[tellDo];by_cases e:i=s
     ·subst e;rw[upd_same];exact fun y hy=>h.dn i hi y (by rw[hd];exact List.mem_cons_of_mem _ hy)
     ·rw[upd_other _ _ e];exact h.dn i hi
    ·simp only[tellDo]at he;rcases List.mem_append.1 he with he|he
     ·exact ht e he
     ·rw[List.mem_singleton.1 he];obtain⟨a,h1,h2⟩:=h.dn s hs4 j (by rw[hd];exact List.mem_cons_self ..);rw[hj]at h1 hsl hn;refine⟨rfl,hw,hn,a,h1,?_⟩;show c.lt (c.slv w j.n)+a+3≤k;rw[hsl];exact h2
 ·exact⟨h,ht⟩
structure DelayW (c:Cfg) (A:Nat→List Nat) (k:Nat) (st:Cy) (m:Nat):Prop where
 len:∀w,w<3→(A w).length=(st.ports w).next
 tm:∀w,w<3→∀a∈A w,a<k
 pp:∀s,s<4→PipeT c A (k+1) s (st.slaves s).pipe
 dn:∀s,s<4→DoneT c A (k+1) s (st.slaves s).done
 po:∀s,s<4→m≤s→PipeT c A k s (st.slaves s).pipe
theorem DelayW.skip {c:Cfg} {A:Nat→List Nat} {k m:Nat} {st:Cy} (h:DelayW c A k st m):DelayW c A k st (m+1):=⟨h.len,h.tm,h.pp,h.dn,fun s hs hm=>h.po s hs (by omega)⟩
theorem delay_work1 {c:Cfg} {inp:Inp} {A:Nat→List Nat} {k m:Nat} {x:Cy×List Ev} (hm:m<4) (h:DelayW c A k x.1 m):DelayW c A k (work1 c inp m x).1 (m+1):=by
 unfold work1
 split
 ·exact h.skip
 ·split
  ·exact h.skip
  ·rename_i j rest hp;have hpo:=h.po m hm (Nat.le_refl _);rw[hp]at hpo
   split
   ·rename_i hl;refine⟨h.len,h.tm,fun i hi=>?_,fun i hi=>?_,fun i hi hmi=>?_⟩
    ·simp only[workDec];by_cases e:i=m
     ·subst e;rw[upd_same];intro y hy;rcases List.mem_cons.1 hy with rfl|hy
      ·obtain⟨a,h1,h2⟩:=hpo j (List.mem_cons_self ..);exact⟨a,h1,by show c.lt i+a+2≤j.left - 1+(k+1);omega⟩
      ·obtain⟨a,h1,h2⟩:=hpo y (List.mem_cons_of_mem _ hy);exact⟨a,h1,by omega⟩
     ·rw[upd_other _ _ e];exact h.pp i hi
    ·simp only[workDec];by_cases e:i=m
     ·subst e;rw[upd_same];exact h.dn i hi
     ·rw[upd_other _ _ e];exact h.dn i hi
    ·simp only[workDec];rw[upd_other _ _ (show i≠m by omega)];exact h.po i hi (by omega)
   ·rename_i hl
    split
    ·refine⟨h.len,h.tm,fun i hi=>?_,fun i hi=>?_,fun i hi hmi=>?_⟩
     ·simp only[workDo];by_cases e:i=m
      ·subst e;rw[upd_same];intro y hy;obtain⟨a,h1,h2⟩:=hpo y (List.mem_cons_of_mem _ hy);exact⟨a,h1,by omega⟩
      ·rw[upd_other _ _ e];exact h.pp i hi
     ·simp only[workDo];by_cases e:i=m
      ·subst e;rw[upd_same];intro y hy;rcases List.mem_append.1 hy with hy|hy
       ·exact h.dn i hi y hy
       ·rw[List.mem_singleton.1 hy];obtain⟨a,h1,h2⟩:=hpo j (List.mem_cons_self ..);exact⟨a,h1,by omega⟩
      ·rw[upd_other _ _ e];exact h.dn i hi
     ·simp only[workDo];rw[upd_other _ _ (show i≠m by omega)];exact h.po i hi (by omega)
    ·exact h.skip
structure DelayL (c:Cfg) (A:Nat→List Nat) (k:Nat) (st:Cy):Prop where
 len:∀w,w<3→(A w).length=(st.ports w).next
 tm:∀w,w<3→∀a∈A w,a<k
 pp:∀s,s<4→PipeT c A (k+1) s (st.slaves s).pipe
 dn:∀s,s<4→DoneT c A (k+1) s (st.slaves s).done
theorem delay_let1 {c:Cfg} {A:Nat→List Nat} {k s:Nat} {y:Lt} (hs:s<4) (hg:Good c y.st) (h:DelayL c A k y.st):DelayL c A k (let1 c s y).st:=by
 unfold let1
 split
 ·split
  ·exact h
  ·rename_i m hm
   split
   ·exact h
   ·rename_i n rest hq;obtain⟨w,hw⟩:∃v,v=((y.st.slaves s).last+m) % 3:=⟨_,rfl⟩
    have hw3:w<3:=by omega
    rw[←hw]at hq ⊢;have hp:=hg.p w hw3;have hnx:n<(y.st.ports w).next:=by
     have h1:n∈List.range' ((y.st.ports w).next - (y.st.ports w).queue.length) (y.st.ports w).queue.length:=by rw[←hp.q,hq];exact List.mem_cons_self ..
     rw[List.mem_range'_1]at h1;have:=hp.qn;omega
    refine⟨fun v hv=>?_,h.tm,fun i hi=>?_,fun i hi=>?_⟩
    ·rw[h.len v hv];simp only[letDo];by_cases e:v=w
     ·rw[e,upd_same]
     ·rw[upd_other _ _ e]
    ·simp only[letDo];by_cases e:i=s
     ·subst e;rw[upd_same];intro z hz;rcases List.mem_append.1 hz with hz|hz
      ·exact h.pp i hi z hz
      ·rw[List.mem_singleton.1 hz];have hlt:n<(A w).length:=by rw[h.len w hw3];exact hnx
       refine⟨(A w)[n],List.getElem?_eq_getElem hlt,?_⟩;have:=h.tm w hw3 _ (List.getElem_mem hlt);show c.lt i+(A w)[n]+2≤c.lt i+(k+1);omega
     ·rw[upd_other _ _ e];exact h.pp i hi
    ·simp only[letDo];by_cases e:i=s
     ·subst e;rw[upd_same];exact h.dn i hi
     ·rw[upd_other _ _ e];exact h.dn i hi
 ·exact h
def askB (A:Nat→List Nat) (k:Nat) (l:List Ev):Nat→List Nat:=fun w=>A w++List.replicate (evN 1 w l) k
theorem askB_at {A:Nat→List Nat} {k:Nat} {l:List Ev} {w n a:Nat} (h:AskAt A w n a):AskAt (askB A k l) w n a:=by
 unfold AskAt askB at *;have:=(List.getElem?_eq_some_iff.1 h).1;rw[List.getElem?_append_left this];exact h
theorem evN_app (k w:Nat) (a b:List Ev):evN k w (a++b)=evN k w a+evN k w b:=by simp[evN]
theorem delay_step {c:Cfg} (hb:Bus c) {inp:Inp} {A:Nat→List Nat} {k:Nat} {st:Cy} (hg:Good c st) (h:DelayI c A k st):DelayI c (askB A k (evs c inp st)) (k+1) (cyc c inp st)∧∀e∈evs c inp st,e.kind=3→TellOk c A k e:=by
 have h1:Good c (tellAll inp (st,[])).1∧DelayI c A k (tellAll inp (st,[])).1∧∀e∈(tellAll inp (st,[])).2,e.kind=3∧TellOk c A k e :=
  foldN_keep (P:=fun x:Cy×List Ev=>Good c x.1∧DelayI c A k x.1∧∀e∈x.2,e.kind=3∧TellOk c A k e) 3 (st,[]) ⟨hg,h,fun e he=>by cases he⟩ fun i x hi hx=>⟨good_tell1 hx.1 hi,delay_tell1 hi hx.1 hx.2.1 hx.2.2⟩
 obtain⟨x1,hx1⟩:∃x,x=tellAll inp (st,[]):=⟨_,rfl⟩
 rw[←hx1]at h1;obtain⟨g1,d1,t1⟩:=h1;have g2:Good c (workAll c inp x1).1:=good_workAll hb g1;have h2:DelayW c A k (workAll c inp x1).1 4 :=
  delay_work1 (m:=3) (by omega) (delay_work1 (m:=2) (by omega) (delay_work1 (m:=1) (by omega) (delay_work1 (m:=0) (x:=x1) (by omega) ⟨d1.len,d1.tm,fun s hs=>(d1.pp s hs).next,fun s hs=>(d1.dn s hs).next,fun s hs _=>d1.pp s hs⟩)))
 obtain⟨x2,hx2⟩:∃x,x=workAll c inp x1:=⟨_,rfl⟩
 rw[←hx2]at h2 g2;have h3:Good c (letAll c x2.1).st∧DelayL c A k (letAll c x2.1).st :=
  foldN_keep (P:=fun y:Lt=>Good c y.st∧DelayL c A k y.st) 4 ⟨x2.1,fun _=>false,fun _=>0⟩ ⟨g2,h2.len,h2.tm,h2.pp,h2.dn⟩ fun i y hi hy=>⟨good_let1 hy.1 hi,delay_let1 hi hy.1 hy.2⟩
 have e:step c inp st=askAll c inp ((letAll c x2.1).st,x2.2):=by rw[hx2,hx1];rfl
 have ht:=tally_step hb (inp:=inp) hg;have h4:(∀s,((askAll c inp ((letAll c x2.1).st,x2.2)).1.slaves s)=(letAll c x2.1).st.slaves s) :=
  foldN_keep (P:=fun x:Cy×List Ev=>∀s,x.1.slaves s=(letAll c x2.1).st.slaves s) 3 ((letAll c x2.1).st,x2.2) (fun _=>rfl) fun i x _ hx=>by
   unfold ask1
   split
   ·exact hx
   ·exact hx
 have hcy:cyc c inp st=(askAll c inp ((letAll c x2.1).st,x2.2)).1:=by unfold cyc;rw[e]
 refine⟨⟨fun w hw=>?_,fun w hw a ha=>?_,fun s hs=>?_,fun s hs=>?_⟩,fun ev he hk=>?_⟩
 ·have:=ht.1.nx w;show(A w++List.replicate _ k).length=_;rw[List.length_append,List.length_replicate,h.len w hw];exact this.symm
 ·rcases List.mem_append.1 (show a∈A w++List.replicate (evN 1 w (evs c inp st)) k from ha)with ha|ha
  ·have:=h.tm w hw a ha;omega
  ·rw[(List.mem_replicate.1 ha).2];omega
 ·rw[hcy,h4 s];exact fun j hj=>by
   obtain⟨a,h1,h2⟩:=h3.2.pp s hs j hj;exact⟨a,askB_at h1,h2⟩
 ·rw[hcy,h4 s];exact fun j hj=>by
   obtain⟨a,h1,h2⟩:=h3.2.dn s hs j hj;exact⟨a,askB_at h1,h2⟩
 ·have he2:ev∈(askAll c inp ((letAll c x2.1).st,x2.2)).2:=by
   have:evs c inp st=(askAll c inp ((letAll c x2.1).st,x2.2)).2:=by unfold evs;rw[e]
   rw[←this];exact he
  obtain⟨a,a1,a2⟩:=foldN_keep (P:=fun x:Cy×List Ev=>∃a,x.2=x2.2++a∧∀e∈a,e.kind=1) 3 ((letAll c x2.1).st,x2.2) ⟨[],by simp,by simp⟩ fun i _ _ hx=>ask1_ev (c:=c) (inp:=inp) (w:=i) hx
  rw[show(askAll c inp ((letAll c x2.1).st,x2.2)).2=x2.2++a from a1]at he2;have hw5:WkI c inp x1.1 x1.2 x2 4:=by
   rw[hx2];exact wkI_step hb (k:=3) (by omega) (wkI_step hb (k:=2) (by omega) (wkI_step hb (k:=1) (by omega) (wkI_step hb (k:=0) (x:=x1) (by omega) ⟨g1,⟨[],by simp,by simp,List.Pairwise.nil⟩,fun s _=>rfl⟩)))
  obtain⟨es,e1,e2,_⟩:=hw5.ev;rw[e1]at he2;rcases List.mem_append.1 he2 with he2|he2
  ·rcases List.mem_append.1 he2 with he2|he2
   ·exact(t1 ev he2).2
   ·have:=(e2 ev he2).1.1;omega
  ·have:=a2 ev he2;omega
theorem delay_zero (c:Cfg):DelayI c (fun _=>[]) 0 cy0:=⟨fun _ _=>rfl,fun w _ a ha=>(by cases ha),fun s _ j hj=>(by cases hj),fun s _ j hj=>(by cases hj)⟩
def asks (c : Cfg) : List Inp → Cy → (Nat → List Nat) → Nat → Nat → List Nat
 |[],_,A,_=>A
 |i::rest,st,A,k=>asks c rest (cyc c i st) (askB A k (evs c i st)) (k+1)
theorem asks_app (c : Cfg) : ∀ (a b : List Inp) (st : Cy) (A : Nat → List Nat) (k : Nat), asks c (a ++ b) st A k = asks c b (runC c a st) (asks c a st A k) (k + a.length)
 |[],_,_,_,_=>rfl
 |i::a,b,st,A,k=>by
  show asks c (a++b) (cyc c i st) _ (k+1)=_;rw[asks_app c a b,List.length_cons,show k+1+a.length=k+(a.length+1) by omega];rfl
theorem asks_snoc (c:Cfg) (ins:List Inp) (k:Nat) (hk:k<ins.length) [Inhabited Inp]:asks c (ins.take (k+1)) cy0 (fun _=>[]) 0=askB (asks c (ins.take k) cy0 (fun _=>[]) 0) k (evs c (ins.getD k default) (runC c (ins.take k) cy0)):=by
 rw[List.take_add_one,asks_app];have:ins[k]?.toList=[ins.getD k default]:=by simp[List.getD,hk]
 rw[this,List.length_take,Nat.zero_add,Nat.min_eq_left (by omega)]
 rfl
theorem delay_run {c : Cfg} (hb : Bus c) : ∀ (ins : List Inp) {st : Cy} {A : Nat → List Nat} {k : Nat}, Good c st → DelayI c A k st → DelayI c (asks c ins st A k) (k + ins.length) (runC c ins st)
 |[],_,_,_,_,h=>h
 |i::rest,st,A,k,hg,h=>by
  have:=delay_run hb rest (good_step hb (inp:=i) hg) (delay_step hb (inp:=i) hg h).1;rw[List.length_cons,show k+(rest.length+1)=k+1+rest.length by omega];exact this
theorem delay_law {c:Cfg} (hb:Bus c) (ins:List Inp):DelayI c (asks c ins cy0 (fun _=>[]) 0) ins.length (runC c ins cy0):=by
 have:=delay_run hb ins (good_zero c) (delay_zero c)
 rwa [Nat.zero_add]at this
end Go.Proofs.YthnlalffjepdaaaGreat
