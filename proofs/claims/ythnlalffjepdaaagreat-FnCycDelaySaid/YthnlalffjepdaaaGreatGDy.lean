/- A bus, owned: its ranges and how slow its stores are, and what each asks behind these. -/
import Derived.Test.YthnlalffjepdaaaGreatGLs
import Derived.Test.YthnlalffjepdaaaGreatGDr3
import Derived.Test.YthnlalffjepdaaaGreatGDr7
import Derived.Test.YthnlalffjepdaaaGreatGEa
import Derived.Test.YthnlalffjepdaaaGreatGSa0
import Derived.Test.YthnlalffjepdaaaGreatGFv
import Derived.Test.YthnlalffjepdaaaGreatGAb0
import Derived.Test.YthnlalffjepdaaaGreatGCv
import Derived.Test.YthnlalffjepdaaaGreatGDo6
import Derived.Test.YthnlalffjepdaaaGreatGTh
import Derived.Test.YthnlalffjepdaaaGreatGCs
import Derived.Outline
set_option linter.unusedVariables false
set_option linter.unusedSimpArgs false
namespace Go.Proofs.YthnlalffjepdaaaGreat
open Go.RowKit
theorem work1_kind {c:Cfg} {inp:Inp} {k:Nat} {x:Cy×List Ev} (h:∀e∈x.2,e.kind≠1):∀e∈(work1 c inp k x).2,e.kind≠1:=by
  unfold work1
  repeat' split
  all_goals first
    |exact h
    | (intro e he
       simp only[workDo,workDec,List.mem_append,List.mem_singleton]at he
       first
         |exact h e he
         | (rcases he with he | rfl
            · exact h e he
            · simp))
theorem evs_who {c:Cfg} {inp:Inp} {st:Cy} {e:Ev} (he:e∈evs c inp st) (hk:e.kind=1):e.who<3:=by
 have h1:∀e∈(tellAll inp (st,[])).2,e.kind=3 :=
  foldN_keep (P:=fun x:Cy×List Ev=>∀e∈x.2,e.kind=3) 3 (st,[]) (fun e he=>by cases he) fun i x hi hx=>tell1_kind hx
 obtain⟨x1,hx1⟩:∃x,x=tellAll inp (st,[]):=⟨_,rfl⟩
 rw[←hx1]at h1;have h2:∀e∈(workAll c inp x1).2,e.kind≠1 :=
  foldN_keep (P:=fun x:Cy×List Ev=>∀e∈x.2,e.kind≠1) 4 x1 (fun e he=>by have:=h1 e he;omega) fun i x hi hx=>work1_kind hx
 have h3:∀e∈(askAll c inp ((letAll c (workAll c inp x1).1).st,(workAll c inp x1).2)).2,e.kind=1→e.who<3 :=
  foldN_keep (P:=fun x:Cy×List Ev=>∀e∈x.2,e.kind=1→e.who<3) 3 ((letAll c (workAll c inp x1).1).st,(workAll c inp x1).2) (fun e he hk=>absurd hk (h2 e he)) fun i x hi hx=>by
   unfold ask1
   split
   ·intro e he hk;simp only[askDo,List.mem_append,List.mem_singleton]at he;rcases he with he|rfl
    ·exact hx e he hk
    ·exact hi
   ·exact hx
 have hE:evs c inp st=(askAll c inp ((letAll c (workAll c inp x1).1).st,(workAll c inp x1).2)).2:=by rw[hx1];rfl
 rw[hE]at he;exact h3 e he hk
theorem evN_one (k w:Nat) (l:List Ev) (e:Ev):evN k w (l++[e])=evN k w l+if e.kind=k∧e.who=w then 1 else 0:=by
 rw[evN_app]
 congr 1
 unfold evN;by_cases h:e.kind=k∧e.who=w
 ·simp[h.1,h.2]
 ·rw[if_neg h,List.filter_cons_of_neg (by simpa using h)];rfl
theorem askB_nil (A:Nat→List Nat) (k:Nat):askB A k []=A:=by funext w;simp[askB,evN]
theorem askB_ask {A:Nat→List Nat} {k:Nat} {l:List Ev} {e:Ev} (h:e.kind=1):askB A k (l++[e])=upd (askB A k l) e.who (askB A k l e.who++[k]):=by
 funext w
 unfold askB;rw[evN_one];by_cases hw:w=e.who
 ·subst hw;rw[upd_same,if_pos ⟨h,rfl⟩,List.replicate_succ', List.append_assoc]
 ·rw[upd_other _ _ hw,if_neg (fun hc=>hw hc.2.symm),Nat.add_zero]
theorem askB_other {A:Nat→List Nat} {k:Nat} {l:List Ev} {e:Ev} (h:e.kind≠1):askB A k (l++[e])=askB A k l:=by
 funext w
 unfold askB;rw[evN_one,if_neg (fun hc=>h hc.1),Nat.add_zero]
theorem askB_len {c:Cfg} (hb:Bus c) {A:Nat→List Nat} {k:Nat} {st:Cy} (hg:Good c st) (h:DelayI c A k st) {l:List Ev} {w:Nat} (hw:w<3):(askB A k l w).length≤12+l.length:=by
 unfold askB;rw[List.length_append,List.length_replicate,h.len w hw];have h1:(st.ports w).next≤12:=Nat.le_trans (hg.p w hw).nx (hb.twelve hw);have h2:evN 1 w l≤l.length:=List.length_filter_le ..;omega
theorem rowN_one1 (x:Nat):∀u∈rowN x,u.oneCell' = true:=by intro u hu;simp only[rowN,List.mem_singleton]at hu;subst hu;rfl
def AskD (w:World) (s:Value) (w':World):Prop:=∃(V:Nat→Value) (g:Nat),s=.slice (some ⟨g,0,none⟩) 3 3∧BoxL w' w.heap.size 3 1 rowN g 3 V (fun _=>([]:List Nat))∧Below w.heap.size w w'
theorem ask_lit {w : World} {a b d : Nat} (ha : w.heap.size ≤ a ∧ a < w.heap.size + 3) (hb : w.heap.size ≤ b ∧ b < w.heap.size + 3) (hd : w.heap.size ≤ d ∧ d < w.heap.size + 3) (hab : a ≠ b) (had : a ≠ d) (hbd : b ≠ d) :
  AskD w (.slice (some ⟨w.heap.size+3,0,none⟩) 3 3) ((((w.alloc (.cells #[] 3)).alloc (.cells #[] 3)).alloc (.cells #[] 3)).alloc (.cells #[.slice (some ⟨a,0,none⟩) 0 0,.slice (some ⟨b,0,none⟩) 0 0,.slice (some ⟨d,0,none⟩) 0 0] 24)):=by
 obtain⟨w1,hw1⟩:∃W,W=w.alloc (.cells #[] 3):=⟨_,rfl⟩
 obtain⟨w2,hw2⟩:∃W,W=w1.alloc (.cells #[] 3):=⟨_,rfl⟩
 obtain⟨w3,hw3⟩:∃W,W=w2.alloc (.cells #[] 3):=⟨_,rfl⟩
 obtain⟨w4,hw4⟩:∃W,W=w3.alloc (.cells #[.slice (some ⟨a,0,none⟩) 0 0,.slice (some ⟨b,0,none⟩) 0 0,.slice (some ⟨d,0,none⟩) 0 0] 24):=⟨_,rfl⟩
 rw[←hw1,←hw2,←hw3,←hw4];have s1:w1.heap.size=w.heap.size+1:=by rw[hw1];simp
 have s2:w2.heap.size=w.heap.size+2:=by rw[hw2];simp[s1]
 have s3:w3.heap.size=w.heap.size+3:=by rw[hw3];simp[s2]
 have b1:Below w.heap.size w w1:=by rw[hw1];exact(Below.refl _ _).alloc (Nat.le_refl _) _
 have b2:Below w1.heap.size w1 w2:=by rw[hw2];exact(Below.refl _ _).alloc (Nat.le_refl _) _
 have b3:Below w2.heap.size w2 w3:=by rw[hw3];exact(Below.refl _ _).alloc (Nat.le_refl _) _
 have b4:Below w3.heap.size w3 w4:=by rw[hw4];exact(Below.refl _ _).alloc (Nat.le_refl _) _
 have o1:Owns w4 w.heap.size 3 1 rowN (.slice (some ⟨w.heap.size,0,none⟩) 0 0) ([]:List Nat):=by
  have h:Owns w1 w.heap.size 3 1 rowN (.slice (some ⟨w.heap.size,0,none⟩) 0 0) ([]:List Nat):=by rw[hw1];exact Owns.lit (Nat.le_refl _)
  exact((h.below b2).below b3).below b4
 have o2:Owns w4 w.heap.size 3 1 rowN (.slice (some ⟨w.heap.size+1,0,none⟩) 0 0) ([]:List Nat):=by
  have h:Owns w2 w.heap.size 3 1 rowN (.slice (some ⟨w1.heap.size,0,none⟩) 0 0) ([]:List Nat):=by rw[hw2];exact Owns.lit (by omega)
  rw[s1]at h;exact(h.below b3).below b4
 have o3:Owns w4 w.heap.size 3 1 rowN (.slice (some ⟨w.heap.size+2,0,none⟩) 0 0) ([]:List Nat):=by
  have h:Owns w3 w.heap.size 3 1 rowN (.slice (some ⟨w2.heap.size,0,none⟩) 0 0) ([]:List Nat):=by rw[hw3];exact Owns.lit (by omega)
  rw[s2]at h;exact h.below b4
 have oo:∀x,w.heap.size≤x∧x<w.heap.size+3→Owns w4 w.heap.size 3 1 rowN (.slice (some ⟨x,0,none⟩) 0 0) ([]:List Nat):=fun x hx=>by
  obtain rfl|rfl|rfl:x=w.heap.size∨x=w.heap.size+1∨x=w.heap.size+2:=by omega
  ·exact o1
  ·exact o2
  ·exact o3
 have hx:=Bx.new w3 #[.slice (some ⟨a,0,none⟩) 0 0,.slice (some ⟨b,0,none⟩) 0 0,.slice (some ⟨d,0,none⟩) 0 0] 24 (by simp);rw[←hw4,s3]at hx;refine⟨fun i=>match i with|0=>.slice (some ⟨a,0,none⟩) 0 0|1=>.slice (some ⟨b,0,none⟩) 0 0|_=>.slice (some ⟨d,0,none⟩) 0 0,w.heap.size+3,rfl,⟨hx,fun i hi=>?_,fun i j hi hj hne=>?_,fun i hi=>?_,by omega⟩,((b1.trans (b2.mono b1.size)).trans (b3.mono (by omega))).trans (b4.mono (by omega))⟩
 ·obtain rfl|rfl|rfl:i=0∨i=1∨i=2:=by omega
  ·exact oo a ha
  ·exact oo b hb
  ·exact oo d hd
 ·obtain rfl|rfl|rfl:i=0∨i=1∨i=2:=by omega
  all_goals
   obtain rfl|rfl|rfl:j=0∨j=1∨j=2:=by omega
  all_goals
   intro k hk hk2;simp only[Value.ownBlock,Option.some.injEq]at hk hk2;omega
 ·obtain rfl|rfl|rfl:i=0∨i=1∨i=2:=by omega
  all_goals
   intro hk;simp only[Value.ownBlock,Option.some.injEq]at hk;omega
theorem AskD.drew {w w':World} {s:Value} (h:AskD w s w'):AskD w s w'.drew:=by
 obtain⟨V,g,e,h1,h2⟩:=h;exact⟨V,g,e,h1.below (Below.refl _ _).drew,h2.drew⟩
theorem BoxL.nats {w:World} {base e g n:Nat} {V:Nat→Value} {A:Nat→List Nat} (h:BoxL w base e 1 rowN g n V A) {i:Nat} (hi:i<n) (hl:(A i).length≤1000):∃a k,V i=.slice a (A i).length k∧(∀(m x:Nat),(A i)[m]? = some x→∃b o,a=some ⟨b,o,none⟩∧w.cell? ⟨b,o+m,none⟩=some (.int .i64 x)∧(m:Int)<((A i).length:Int)∧b<w.heap.size):=by
 obtain⟨a,k,e,h1,_,_,_,h3⟩:=(h.own i hi).arr (fun _=>rfl) (by omega);simp only[List.length_map]at e h1 h3;refine⟨a,k,e,fun m x hx=>?_⟩;have hm:=(List.getElem?_eq_some_iff.1 hx).1;obtain⟨b,o,rfl,hb,hc⟩:=h3 (by omega);refine⟨b,o,rfl,?_,by omega,hb⟩;have:=hc m (by simpa using hm) 0 (by omega);rw[Nat.mul_one,Nat.add_zero]at this;rw[this];have e2:(List.map rowN (A i)).getD m []=rowN x:=by simp[List.getD,hx]
 rw[e2];rfl
theorem rowB_len (x:Bool):(rowB x).length=1:=rfl
theorem Owns.cellB {w:World} {base e g n c:Nat} {xs:List Bool} (h:Owns w base e 1 rowB (.slice (some ⟨g,0,none⟩) n c) xs) (k:Nat) (hk:k<xs.length):w.cell? ⟨g,k,none⟩=some (.bool (xs.getD k false)):=by
 have:=h.cellAt rowB_len k 0 false hk (by omega);simpa[rowB]using this
theorem Owns.putB {w:World} {base e g n c:Nat} {xs:List Bool} (h:Owns w base e 1 rowB (.slice (some ⟨g,0,none⟩) n c) xs) (k:Nat) (hk:k<xs.length) (x:Bool):Owns (w.setCell ⟨g,k,none⟩ (.bool x)) base e 1 rowB (.slice (some ⟨g,0,none⟩) n c) (xs.set k x):=by
 have:=h.putRow rowB_len k 0 false x (.bool x) hk (by omega) (by simp[rowB]);simpa using this
theorem Bx.touch {w w':World} {r g:Nat} {cs:List Value} (h:Bx w g cs) (ht:Touch r w w') (hn:g≠r):Bx w' g cs:=h.kept (ht.block g h.lt hn)
theorem Bx.setc {w:World} {g:Nat} {cs:List Value} (h:Bx w g cs) (b o:Nat) (u:Value) (hn:g≠b):Bx (w.setCell ⟨b,o,none⟩ u) g cs:=h.kept (Below.heap_setCell _ _ _ _ hn)
theorem loadVar_in (w:World) (g:Nat) (a b c:Value) (h0:w.cell? ⟨g,0,none⟩=some a) (h1:w.cell? ⟨g,1,none⟩=some b) (h2:w.cell? ⟨g,2,none⟩=some c):(loadVar 64 ⟨g,0,none⟩).run Tryz.prog w=.ok (.agg #[a,b,c]) w:=by
 simp[loadVar,go_sem,h0,h1,h2]
abbrev T3:List Bool:=[true,true,true]
abbrev F4:List Bool:=[false,false,false,false]
structure InO (w:World) (lo g1 g2 g3:Nat) (xs zs ys:List Bool):Prop where
 o1:Owns w lo 4 1 rowB (.slice (some ⟨g1,0,none⟩) 3 3) xs
 o2:Owns w lo 4 1 rowB (.slice (some ⟨g2,0,none⟩) 4 4) zs
 o3:Owns w lo 4 1 rowB (.slice (some ⟨g3,0,none⟩) 3 3) ys
 l1:xs.length=3
 l2:zs.length=4
 l3:ys.length=3
 n12:g1<g2
 n23:g2<g3
theorem InO.kept {w w':World} {lo g1 g2 g3:Nat} {xs zs ys:List Bool} (h:InO w lo g1 g2 g3 xs zs ys) (hk:∀k,lo≤k→k<w.heap.size→w'.heap[k]? = w.heap[k]?):InO w' lo g1 g2 g3 xs zs ys :=
 ⟨OwnR.kept h.o1 fun k hk2=>hk k (OwnR.lt h.o1 k hk2).1 (OwnR.lt h.o1 k hk2).2,OwnR.kept h.o2 fun k hk2=>hk k (OwnR.lt h.o2 k hk2).1 (OwnR.lt h.o2 k hk2).2,OwnR.kept h.o3 fun k hk2=>hk k (OwnR.lt h.o3 k hk2).1 (OwnR.lt h.o3 k hk2).2,h.l1,h.l2,h.l3,h.n12,h.n23⟩
theorem InO.lt {w:World} {lo g1 g2 g3:Nat} {xs zs ys:List Bool} (h:InO w lo g1 g2 g3 xs zs ys):lo≤g1∧g1<g2∧g2<g3∧g3<w.heap.size:=⟨(OwnR.lt h.o1 g1 rfl).1,h.n12,h.n23,(OwnR.lt h.o3 g3 rfl).2⟩
theorem InO.put1 {w:World} {lo g1 g2 g3:Nat} {xs zs ys:List Bool} (h:InO w lo g1 g2 g3 xs zs ys) (k:Nat) (hk:k<3) (b:Bool):InO (w.setCell ⟨g1,k,none⟩ (.bool b)) lo g1 g2 g3 (xs.set k b) zs ys :=
 ⟨h.o1.putB k (by rw[h.l1];exact hk) b,h.o2.set' g1 k _ (fun j hj=>by have:=h.n12;simp[Value.ownBlock]at hj;omega),h.o3.set' g1 k _ (fun j hj=>by have:=h.n12;have:=h.n23;simp[Value.ownBlock]at hj;omega),by simp[h.l1],h.l2,h.l3,h.n12,h.n23⟩
theorem InO.put2 {w:World} {lo g1 g2 g3:Nat} {xs zs ys:List Bool} (h:InO w lo g1 g2 g3 xs zs ys) (k:Nat) (hk:k<4) (b:Bool):InO (w.setCell ⟨g2,k,none⟩ (.bool b)) lo g1 g2 g3 xs (zs.set k b) ys :=
 ⟨h.o1.set' g2 k _ (fun j hj=>by have:=h.n12;simp[Value.ownBlock]at hj;omega),h.o2.putB k (by rw[h.l2];exact hk) b,h.o3.set' g2 k _ (fun j hj=>by have:=h.n23;simp[Value.ownBlock]at hj;omega),h.l1,by simp[h.l2],h.l3,h.n12,h.n23⟩
theorem InO.put3 {w:World} {lo g1 g2 g3:Nat} {xs zs ys:List Bool} (h:InO w lo g1 g2 g3 xs zs ys) (k:Nat) (hk:k<3) (b:Bool):InO (w.setCell ⟨g3,k,none⟩ (.bool b)) lo g1 g2 g3 xs zs (ys.set k b) :=
 ⟨h.o1.set' g3 k _ (fun j hj=>by have:=h.n12;have:=h.n23;simp[Value.ownBlock]at hj;omega),h.o2.set' g3 k _ (fun j hj=>by have:=h.n23;simp[Value.ownBlock]at hj;omega),h.o3.putB k (by rw[h.l3];exact hk) b,h.l1,h.l2,by simp[h.l3],h.n12,h.n23⟩
theorem InO.boxed {w w':World} {lo g1 g2 g3:Nat} {xs zs ys:List Bool} (h:InO w lo g1 g2 g3 xs zs ys) {b:Nat} (hk:∀k,k≠b→w'.heap[k]? = w.heap[k]?) (hb:b<g1):InO w' lo g1 g2 g3 xs zs ys:=by
 have h1:=h.n12;have h2:=h.n23;exact⟨OwnR.kept h.o1 fun k hk2=>hk k (by simp[Value.ownBlock]at hk2;omega),OwnR.kept h.o2 fun k hk2=>hk k (by simp[Value.ownBlock]at hk2;omega),OwnR.kept h.o3 fun k hk2=>hk k (by simp[Value.ownBlock]at hk2;omega),h.l1,h.l2,h.l3,h.n12,h.n23⟩
def InAllP (w:World) (e:Ending) (w':World):Prop:=∃g1 g2 g3,e=.returned (.agg #[.slice (some ⟨g1,0,none⟩) 3 3,.slice (some ⟨g2,0,none⟩) 4 4,.slice (some ⟨g3,0,none⟩) 3 3])∧InO w' w.heap.size g1 g2 g3 T3 F4 T3∧Below w.heap.size w w'
set_option maxHeartbeats 2000000 in
theorem inAll_any (w:World):Calls Tryz.prog 150 #[] w (InAllP w):=by
 go_enter Tryz.func150,Tryz.ntmps150
 go_wp2_with fail
 refine bodyPost_ret (results_c1 Tryz.results150 _ _ ⟨w.heap.size,0,none⟩ (.agg #[.slice (some ⟨w.heap.size+1,0,none⟩) 3 3,.slice (some ⟨w.heap.size+1+1,0,none⟩) 4 4,.slice (some ⟨w.heap.size+1+1+1,0,none⟩) 3 3]) rfl (loadVar_in _ _ _ _ _ (by simp[go_sem]) (by simp[go_sem]) (by simp[go_sem]))) rfl ⟨_,_,_,rfl,⟨?_,?_,?_,rfl,rfl,rfl,by omega,by omega⟩,?_⟩
 ·have:=((Owns.litOf (w:=w.alloc (.cells #[.slice (some ⟨w.heap.size+1,0,none⟩) 3 3,.slice (some ⟨w.heap.size+1+1,0,none⟩) 4 4,.slice (some ⟨w.heap.size+1+1+1,0,none⟩) 3 3] 64)) (base:=w.heap.size) (e:=4) (f:=rowB) T3 #[.bool true,.bool true,.bool true] (by simp) rowB_len rfl (by unfold maxLen;simp)).allocd (.cells #[.bool false,.bool false,.bool false,.bool false] 4)).allocd (.cells #[.bool true,.bool true,.bool true] 4);simpa using this
 ·have:=(Owns.litOf (w:=(w.alloc (.cells #[.slice (some ⟨w.heap.size+1,0,none⟩) 3 3,.slice (some ⟨w.heap.size+1+1,0,none⟩) 4 4,.slice (some ⟨w.heap.size+1+1+1,0,none⟩) 3 3] 64)).alloc (.cells #[.bool true,.bool true,.bool true] 4)) (base:=w.heap.size) (e:=4) (f:=rowB) F4 #[.bool false,.bool false,.bool false,.bool false] (by simp;omega) rowB_len rfl (by unfold maxLen;simp)).allocd (.cells #[.bool true,.bool true,.bool true] 4);simpa using this
 ·have:=Owns.litOf (w:=((w.alloc (.cells #[.slice (some ⟨w.heap.size+1,0,none⟩) 3 3,.slice (some ⟨w.heap.size+1+1,0,none⟩) 4 4,.slice (some ⟨w.heap.size+1+1+1,0,none⟩) 3 3] 64)).alloc (.cells #[.bool true,.bool true,.bool true] 4)).alloc (.cells #[.bool false,.bool false,.bool false,.bool false] 4)) (base:=w.heap.size) (e:=4) (f:=rowB) T3 #[.bool true,.bool true,.bool true] (by simp;omega) rowB_len rfl (by unfold maxLen;simp);simpa using this
 ·exact((((Below.refl _ _).alloc (Nat.le_refl _) _).alloc (by simp) _).alloc (by simp;omega) _).alloc (by simp;omega) _
def InDr (r B:Nat) (bs:List Nat) (p:Nat) (w:World) (e:Ending) (w':World):Prop :=
 ∃g1 g2 g3 xs zs ys q,e=.returned (.agg #[.slice (some ⟨g1,0,none⟩) 3 3,.slice (some ⟨g2,0,none⟩) 4 4,.slice (some ⟨g3,0,none⟩) 3 3])∧InO w' w.heap.size g1 g2 g3 xs zs ys∧q≤p+10∧RdAt w' r B bs q∧Touch r w w'
set_option maxRecDepth 4000 in
set_option maxHeartbeats 8000000 in
theorem l20In_any (r B : Nat) (bs : List Nat) (p : Nat) (n : Int) (w : World) (h : RdAt w r B bs p) (hp : p ≤ 900000000) (h1 : 1 ≤ n) (hn : n ≤ 1099511627776) :
  Calls Tryz.prog 105 #[.pointer (some ⟨r,0,none⟩),.int .i64 n] w (InDr r B bs p w):=by
 have hrw:=h.lt;have HR0:=hid h;clear h
 go_enter Tryz.func105,Tryz.ntmps105
 go_upto_region 2 with(go_at_call 150;(with_reducible refine(inAll_any _).mono ?_);rintro e w1 ⟨g1,g2,g3,rfl,ho,hb⟩;have HO1:=hid ho;have HB1:=hid hb;clear ho hb)
 obtain⟨w2,hw2⟩:∃W,W=w1.alloc (.cells #[.slice (some ⟨g1,0,none⟩) 3 3,.slice (some ⟨g2,0,none⟩) 4 4,.slice (some ⟨g3,0,none⟩) 3 3] 64):=⟨_,rfl⟩
 obtain⟨gi,hgi⟩:∃g,g=w1.heap.size:=⟨_,rfl⟩
 rw[←hw2,←hgi];have hb2:Below w1.heap.size w1 w2:=by rw[hw2];exact(Below.refl _ _).alloc (Nat.le_refl _) _
 have hb01:Below w.heap.size w w1:=((Below.refl _ _).alloc (Nat.le_refl _) _).trans (HB1.out.mono (by simp));have HLO:=hid HO1.out.lt;have HX:=hid (show Bx w2 gi [.slice (some ⟨g1,0,none⟩) 3 3,.slice (some ⟨g2,0,none⟩) 4 4,.slice (some ⟨g3,0,none⟩) 3 3] by rw[hw2,hgi];exact Bx.new w1 #[.slice (some ⟨g1,0,none⟩) 3 3,.slice (some ⟨g2,0,none⟩) 4 4,.slice (some ⟨g3,0,none⟩) 3 3] 64 (by simp));have HY:=hid (show Bx w2 w.heap.size [vnil,vnil,vnil] from((Bx.new w #[vnil,vnil,vnil] 64 (by simp)).below HB1.out (by simp)).below hb2 (by have:=HB1.out.size;simp at this;omega));have HO2:=hid (HO1.out.kept (w':=w2) fun k _ hk=>hb2.block k hk);have HT2:=hid (show Touch r w w2 from(Touch.of_below hb01 (Nat.le_refl _)).trans (Touch.of_below hb2 (Nat.le_refl _)));have HR2:=hid ((HR0.out.kept hb01 hrw).kept hb2 (by have:=hb01.size;omega));have h0lo:=HO1.out.lt;simp only[World.size_alloc]at h0lo;have hn1:g1<gi:=by omega
 have hn3:g3<gi:=by omega
 have hgr1:w.heap.size<g1:=by omega
 obtain⟨_,h12,h23,_⟩:=h0lo;have hg10:g1≠w.heap.size:=by omega
 have hSZ:=hid (show w.heap.size≤(w.alloc (.cells #[vnil,vnil,vnil] 64)).heap.size by simp);clear hw2 hgi hb2 hb01
 go_wp2_with fail
 go_loopw [6] (fun i wr=>∃(k q:Nat) (xs ys:List Bool),i=.int .i64 (k:Nat)∧k≤3∧q≤p+2 * k∧RdAt wr r B bs q∧InO wr w.heap.size g1 g2 g3 xs F4 ys∧Touch r w wr∧Bx wr gi [.slice (some ⟨g1,0,none⟩) 3 3,.slice (some ⟨g2,0,none⟩) 4 4,.slice (some ⟨g3,0,none⟩) 3 3]∧Bx wr w.heap.size [vnil,vnil,vnil]) (fun i _=>3 - (intOf i).toNat)
 case atStart=>exact⟨0,p,T3,T3,by go_num,by omega,by omega,HR2.out,⟨HO2.out.o1.rebase hSZ.out,HO2.out.o2.rebase hSZ.out,HO2.out.o3.rebase hSZ.out,HO2.out.l1,HO2.out.l2,HO2.out.l3,HO2.out.n12,HO2.out.n23⟩,HT2.out,HX.out,HY.out⟩
 case round=>
  clear HX HY HO2 HT2 HR2;obtain⟨k,q,xs,ys,rfl,hk,hq,hrd,ho,ht,hx,hy⟩:=hrel;have HO:=hid ho;have HT:=hid ht;have HX:=hid hx;have HY:=hid hy;have HRD:=hid hrd;have h3l:=ho.lt.2.2.2;have hxl:=hx.lt;clear ho ht hx hy hrd;by_cases hlt:k<3
  ·have hki:(k:Int)<3:=by omega
   obtain⟨x0,x1,x2⟩:=HX.out.three.1
   go_upto_region 5 with fail
   go_region_held3 (fun w' => w'.cell? ⟨gi, 0, none⟩ = some (.slice (some ⟨g1, 0, none⟩) 3 3)) (first | exact z1 | (rw [World.cell?_setCell_far _ _ _ _ (by show g1 ≠ gi; omega)]; exact z1) | go_keep)
    (first|(go_at_call 103;(with_reducible refine(pick_p r B bs q n _ HRD.out.drewd (by omega) h1 hn).mono ?_);rintro e w4 ⟨y,rfl,hy0,hy1,h4,ht4⟩;have HT4:=hid (show Touch r wr w4 from(Touch.refl r wr).drewd.trans ht4);have HX4:=hid (HX.out.touch HT4.out (by omega));have z1:=HX4.out.three.1.1;have HO4:=hid (HO.out.kept (w':=w4) fun k h1 h2=>HT4.out.block k h2 (by omega));have zc:=HO4.out.o1.cellB k (by rw[HO4.out.l1];omega);have zf:=HO4.out.o1.frozenAt k;have HY4:=hid (HY.out.touch HT4.out (by omega));have HRD4:=hid h4;clear h4 ht4))
   clear z1 zc zf x0 x1 x2
   go_upto_region 6 with fail
   obtain⟨w5,hw5⟩:∃W,W=w4.setCell ⟨g1,k,none⟩ (.bool (decide (0<y))):=⟨_,rfl⟩
   rw[←hw5];have HO5:=hid (show InO w5 w.heap.size g1 g2 g3 (xs.set k (decide (0<y))) F4 ys by rw[hw5];exact HO4.out.put1 k hlt _);have HX5:=hid (show Bx w5 gi _ by rw[hw5];exact HX4.out.setc g1 k _ (by omega));have HY5:=hid (show Bx w5 w.heap.size _ by rw[hw5];exact HY4.out.setc g1 k _ (by omega));have HRD5:=hid (show RdAt w5 r B bs (q+1) by rw[hw5];exact HRD4.out.setNew hrw (by omega) k _);have HT5:=hid (show Touch r w w5 by rw[hw5];exact(HT.out.trans HT4.out).setNew (by omega) _);have hxl5:=HX5.out.lt;have h3l5:=HO5.out.lt.2.2.2;clear hw5;obtain⟨x0,x1,x2⟩:=HX5.out.three.1
   go_region_held3 (fun w' => w'.cell? ⟨gi, 2, none⟩ = some (.slice (some ⟨g3, 0, none⟩) 3 3)) (first | exact z1 | (rw [World.cell?_setCell_far _ _ _ _ (by show g3 ≠ gi; omega)]; exact z1) | go_keep)
    (first|(go_at_call 103;(with_reducible refine(pick_p r B bs (q+1) n _ HRD5.out.drewd (by omega) h1 hn).mono ?_);rintro e w6 ⟨y2,rfl,hy20,hy21,h6,ht6⟩;have HT6:=hid (show Touch r w5 w6 from(Touch.refl r w5).drewd.trans ht6);have HX6:=hid (HX5.out.touch HT6.out (by omega));have z1:=HX6.out.three.1.2.2;have HO6:=hid (HO5.out.kept (w':=w6) fun k h1 h2=>HT6.out.block k h2 (by omega));have zc:=HO6.out.o3.cellB k (by rw[HO6.out.l3];omega);have zf:=HO6.out.o3.frozenAt k;have HY6:=hid (HY5.out.touch HT6.out (by omega));have HRD6:=hid h6;clear h6 ht6))
   clear z1 zc zf x0 x1 x2
   go_wp2_with fail
   go_roundw
   case rel=>exact⟨k+1,q+1+1,_,ys.set k (decide (0<y2)),by go_num,by omega,by omega,HRD6.out.setNew hrw (by omega) k _,HO6.out.put3 k hlt _,(HT5.out.trans HT6.out).setNew (by omega) _,HX6.out.setc g3 k _ (by omega),HY6.out.setc g3 k _ (by omega)⟩
   case measure=>simp[intOf];omega
  ·obtain rfl:k=3:=by omega
   have hq:q≤p+6:=by omega
   rw[show(((3:Nat)):Int)=(3:Int) from rfl]
   go_wp2_with fail
   go_loopw [7] (fun i wr=>∃(k q:Nat) (zs:List Bool),i=.int .i64 (k:Nat)∧k≤4∧q≤p+6+k∧RdAt wr r B bs q∧InO wr w.heap.size g1 g2 g3 xs zs ys∧Touch r w wr∧Bx wr gi [.slice (some ⟨g1,0,none⟩) 3 3,.slice (some ⟨g2,0,none⟩) 4 4,.slice (some ⟨g3,0,none⟩) 3 3]∧Bx wr w.heap.size [vnil,vnil,vnil]) (fun i _=>4 - (intOf i).toNat)
   case atStart=>exact⟨0,q,F4,by go_num,by omega,by omega,HRD.out,HO.out,HT.out,HX.out,HY.out⟩
   case round=>
    clear HX HY HO HT HRD hq hxl h3l;obtain⟨k,q,zs,rfl,hk,hq,hrd,ho,ht,hx,hy⟩:=hrel;have HO:=hid ho;have HT:=hid ht;have HX:=hid hx;have HY:=hid hy;have HRD:=hid hrd;have h3l:=ho.lt.2.2.2;have hxl:=hx.lt;clear ho ht hx hy hrd;by_cases hlt:k<4
    ·have hki:(k:Int)≤3:=by omega
     have hki4:(k:Int)<4:=by omega
     obtain⟨x0,x1,x2⟩:=HX.out.three.1
     go_upto_region 10 with fail
     go_region_held3 (fun w' => w'.cell? ⟨gi, 1, none⟩ = some (.slice (some ⟨g2, 0, none⟩) 4 4)) (first | exact z1 | (rw [World.cell?_setCell_far _ _ _ _ (by show g2 ≠ gi; omega)]; exact z1) | go_keep)
      (first|(go_at_call 103;(with_reducible refine(pick_p r B bs q n _ HRD.out.drewd (by omega) h1 hn).mono ?_);rintro e w4 ⟨y,rfl,hy0,hy1,h4,ht4⟩;have HT4:=hid (show Touch r wr w4 from(Touch.refl r wr).drewd.trans ht4);have HX4:=hid (HX.out.touch HT4.out (by omega));have z1:=HX4.out.three.1.2.1;have HO4:=hid (HO.out.kept (w':=w4) fun k h1 h2=>HT4.out.block k h2 (by omega));have zc:=HO4.out.o2.cellB k (by rw[HO4.out.l2];omega);have zf:=HO4.out.o2.frozenAt k;have HY4:=hid (HY.out.touch HT4.out (by omega));have HRD4:=hid h4;clear h4 ht4))
     clear z1 zc zf x0 x1 x2
     go_wp2_with fail
     go_roundw
     case rel=>exact⟨k+1,q+1,zs.set k (y==0),by go_num,by omega,by omega,HRD4.out.setNew hrw (by omega) k _,HO4.out.put2 k hlt _,(HT.out.trans HT4.out).setNew (by omega) _,HX4.out.setc g2 k _ (by omega),HY4.out.setc g2 k _ (by omega)⟩
     case measure=>simp[intOf];omega
    ·obtain rfl:k=4:=by omega
     obtain⟨x0,x1,x2⟩:=HX.out.three.1;obtain⟨⟨y0,y1,y2⟩,f0,f1,f2⟩:=HY.out.three;have hyl:=HY.out.lt
     go_wp2_with fail
     refine bodyPost_ret (results_c1 Tryz.results105 _ _ ⟨w.heap.size,0,none⟩ (.agg #[.slice (some ⟨g1,0,none⟩) 3 3,.slice (some ⟨g2,0,none⟩) 4 4,.slice (some ⟨g3,0,none⟩) 3 3]) rfl (loadVar_in _ _ _ _ _ (by simp[go_sem, *]) (by simp[go_sem, *]) (by simp[go_sem, *]))) rfl ⟨_,_,_,xs,zs,ys,q,rfl,?_,by omega,?_,?_⟩
     ·refine HO.out.boxed (b:=w.heap.size) (fun k hk=>?_) (by omega);rw[Below.heap_setCell _ _ _ _ (by exact hk),Below.heap_setCell _ _ _ _ (by exact hk),Below.heap_setCell _ _ _ _ (by exact hk)]
     ·exact((HRD.out.setNew hrw (Nat.le_refl _) _ _).setNew hrw (Nat.le_refl _) _ _).setNew hrw (Nat.le_refl _) _ _
     ·exact((HT.out.setNew (Nat.le_refl _) _).setNew (Nat.le_refl _) _).setNew (Nat.le_refl _) _
def zQ:RqV:=(⟨0,0,0,0,false,[],[]⟩,.slice none 0 0,.slice none 0 0)
def zipQ (qs:List Rq) (vs:List (Value×Value)):List RqV:=List.zipWith (fun q p=>(q,p)) qs vs
theorem zipQ_len {qs:List Rq} {vs:List (Value×Value)} (h:vs.length=qs.length):(zipQ qs vs).length=qs.length:=by simp[zipQ,h]
theorem zipQ_get {qs:List Rq} {vs:List (Value×Value)} (h:vs.length=qs.length) {k:Nat} (hk:k<qs.length) (d:RqV):(zipQ qs vs).getD k d=(qs.getD k default,vs.getD k default):=by
 have hk2:k<vs.length:=by omega
 simp[zipQ,List.getD,List.getElem?_zipWith,hk,hk2]
theorem getD_snoc_lt {α:Type} {xs:List α} {y d:α} {j:Nat} (h:j<xs.length):(xs++[y]).getD j d=xs.getD j d:=by
 simp only[List.getD];rw[List.getElem?_append_left h]
theorem getD_snoc_eq {α:Type} {xs:List α} {y d:α}:(xs++[y]).getD xs.length d=y:=by simp[List.getD]
def BoxQ (w:World) (s:Nat) (r:Rq) (d l:Value):Prop:=w.heap[s]? = some (.cells #[.int .i64 r.id,.int .i64 r.kind,.int .i64 r.addr,.int .i64 r.many,.bool r.wrap,d,l] 69 (0,0))
theorem BoxQ.lt {w:World} {s:Nat} {r:Rq} {d l:Value} (h:BoxQ w s r d l):s<w.heap.size:=heap_lt h
theorem BoxQ.keep {w w':World} {s:Nat} {r:Rq} {d l:Value} (h:BoxQ w s r d l) (e:w'.heap[s]? = w.heap[s]?):BoxQ w' s r d l:=by unfold BoxQ at h ⊢;rw[e];exact h
theorem BoxQ.below {w w':World} {s C:Nat} {r:Rq} {d l:Value} (h:BoxQ w s r d l) (hb:Below C w w') (hx:s<C):BoxQ w' s r d l:=h.keep (hb.block s hx)
theorem BoxQ.bx {w:World} {s:Nat} {r:Rq} {d l:Value} (h:BoxQ w s r d l):Bx w s [.int .i64 r.id,.int .i64 r.kind,.int .i64 r.addr,.int .i64 r.many,.bool r.wrap,d,l]:=by
 unfold BoxQ at h;exact⟨fun j hj=>by simp[World.cell?,h],fun j hj=>by simp[World.frozen?,h],by simp⟩
theorem BoxQ.put5 {w:World} {s:Nat} {r:Rq} {d l:Value} (h:BoxQ w s r d l) (u:Value):BoxQ (w.setCell ⟨s,5,none⟩ u) s r u l:=by
 unfold BoxQ at h ⊢;simp[World.setCell,Array.getElem?_modify,h]
theorem BoxQ.put6 {w:World} {s:Nat} {r:Rq} {d l:Value} (h:BoxQ w s r d l) (u:Value):BoxQ (w.setCell ⟨s,6,none⟩ u) s r d u:=by
 unfold BoxQ at h ⊢;simp[World.setCell,Array.getElem?_modify,h]
theorem BoxQ.new (w:World) (r:Rq) (d l:Value):BoxQ (w.alloc (.cells #[.int .i64 r.id,.int .i64 r.kind,.int .i64 r.addr,.int .i64 r.many,.bool r.wrap,d,l] 69)) w.heap.size r d l:=by
 show(w.heap.push _)[w.heap.size]? = _;simp
theorem elem_ReqReq:Elem 70 69 7 88:=elem_of Tryz.underlying70 (z:=(.agg #[.int .i64 0,.int .i64 0,.int .i64 0,.int .i64 0,.bool false,.slice none 0 0,.slice none 0 0])) (by kernel_rfl) rfl (by omega)
def row1 (u:Value):List Value:=[u]
theorem row1_len (u:Value):(row1 u).length=1:=rfl
theorem infoPQ:(Tryz.prog.info? 70).map (fun i=>(i.zero,i.size,i.bytes))=some (some (.slice none 0 0),1,24):=by kernel_rfl
def BoxB (w:World) (s:Nat) (a b p:Value):Prop:=w.heap[s]? = some (.cells #[a,b,p] 27 (0,0))
theorem BoxB.lt {w:World} {s:Nat} {a b p:Value} (h:BoxB w s a b p):s<w.heap.size:=heap_lt h
theorem BoxB.keep {w w':World} {s:Nat} {a b p:Value} (h:BoxB w s a b p) (e:w'.heap[s]? = w.heap[s]?):BoxB w' s a b p:=by unfold BoxB at h ⊢;rw[e];exact h
theorem BoxB.touch {w w':World} {s x:Nat} {a b p:Value} (h:BoxB w s a b p) (ht:Touch x w w') (hx:s≠x):BoxB w' s a b p:=h.keep (ht.block s h.lt hx)
theorem BoxB.below {w w':World} {s C:Nat} {a b p:Value} (h:BoxB w s a b p) (hb:Below C w w') (hx:s<C):BoxB w' s a b p:=h.keep (hb.block s hx)
theorem BoxB.bx {w:World} {s:Nat} {a b p:Value} (h:BoxB w s a b p):Bx w s [a,b,p]:=by
 unfold BoxB at h;exact⟨fun j hj=>by simp[World.cell?,h],fun j hj=>by simp[World.frozen?,h],by simp⟩
theorem BoxB.put {w:World} {s:Nat} {a b p:Value} (h:BoxB w s a b p) (a' b' p':Value):BoxB (((w.setCell ⟨s,0,none⟩ a').setCell ⟨s,1,none⟩ b').setCell ⟨s,2,none⟩ p') s a' b' p':=by
 unfold BoxB at h ⊢;simp[World.setCell,Array.getElem?_modify,h]
theorem BoxB.new (w:World) (a b p:Value):BoxB (w.alloc (.cells #[a,b,p] 27)) w.heap.size a b p:=by
 show(w.heap.push _)[w.heap.size]? = _;simp
theorem Owns.notB {α:Type} {f:α→List Value} {w:World} {base e sz g T:Nat} {v:Value} {xs:List α} {cs:Array Value} (h:Owns w base e sz f v xs) (hg:w.heap[g]? = some (.cells cs T (0,0))) (hT:T≠e):v.ownBlock≠some g:=by
 intro hk;obtain⟨_,h2⟩:=h;rcases h2 with⟨rfl,_⟩|⟨g', off,cap,cur,rfl,_,hh,_⟩
 ·simp[Value.ownBlock]at hk
 ·simp[Value.ownBlock]at hk;subst hk;rw[hh]at hg;simp only[Option.some.injEq,Obj.cells.injEq]at hg;exact hT hg.2.1.symm
theorem Owns.apartT {α β:Type} {f:α→List Value} {f2:β→List Value} {w:World} {base base2 e e2 sz sz2:Nat} {v u:Value} {xs:List α} {ys:List β} (h:Owns w base e sz f v xs) (h2:Owns w base2 e2 sz2 f2 u ys) (hT:e≠e2):Apart v u:=by
 intro k hk;obtain⟨_,h3⟩:=h;rcases h3 with⟨rfl,_⟩|⟨g', off,cap,cur,rfl,_,hh,_⟩
 ·simp[Value.ownBlock]at hk
 ·simp[Value.ownBlock]at hk;subst hk;exact h2.notB hh hT
abbrev SlV:=Option Addr×Nat×Nat
def slv (s:SlV):Value:=.slice s.1 s.2.1 s.2.2
abbrev RqS:=Rq×SlV×SlV
def rowS7 (y:RqS):List Value:=rowQ (y.1,slv y.2.1,slv y.2.2)
def toV (y:RqS):RqV:=(y.1,slv y.2.1,slv y.2.2)
theorem flat_toV (ys:List RqS):ys.flatMap rowS7=(ys.map toV).flatMap rowQ:=by rw[List.flatMap_map];rfl
theorem Owns.toV {w:World} {base e:Nat} {v:Value} {ys:List RqS} (h:Owns w base e 7 rowS7 v ys):Owns w base e 7 rowQ v (ys.map toV):=by
 unfold Owns at h ⊢;rw[List.length_map,←flat_toV];exact h
abbrev InX:=Inp×Nat×Nat×Nat
def rowX (x:InX):List Value:=[.slice (some ⟨x.2.1,0,none⟩) 3 3,.slice (some ⟨x.2.2.1,0,none⟩) 4 4,.slice (some ⟨x.2.2.2,0,none⟩) 3 3]
theorem rowX_len (x:InX):(rowX x).length=3:=rfl
theorem rowX_one (x:InX):∀u∈rowX x,u.oneCell' = true:=by
 intro u hu;simp only[rowX,List.mem_cons,List.not_mem_nil,or_false]at hu;rcases hu with rfl|rfl|rfl <;> rfl
theorem elem_in:Elem 28 64 3 72:=elem_of Tryz.underlying28 (z:=.agg #[.slice none 0 0,.slice none 0 0,.slice none 0 0]) (by kernel_rfl) rfl (by omega)
def InQ (w:World) (lo:Nat) (x:InX):Prop:=InO w lo x.2.1 x.2.2.1 x.2.2.2 x.1.ready x.1.stall x.1.send
theorem InQ.kept {w w':World} {lo:Nat} {x:InX} (h:InQ w lo x) (hk:∀k,lo≤k→k<w.heap.size→w'.heap[k]? = w.heap[k]?):InQ w' lo x:=InO.kept h hk
theorem InQ.rebase {w:World} {lo lo':Nat} {x:InX} (h:InQ w lo x) (hl:lo' ≤ lo):InQ w lo' x:=⟨h.o1.rebase hl,h.o2.rebase hl,h.o3.rebase hl,h.l1,h.l2,h.l3,h.n12,h.n23⟩
theorem InQ.push {w w':World} {lo lo':Nat} {v:Value} {xs:List InX} {x:InX} (h:InQ w lo x) (ho:Owns w lo' 64 3 rowX v xs) (hk:∀b,b<w.heap.size→v.ownBlock≠some b→w'.heap[b]? = w.heap[b]?):InQ w' lo x:=by
 have key:∀{u:Value} {ys:List Bool},Owns w lo 4 1 rowB u ys→Owns w' lo 4 1 rowB u ys:=fun hu=>OwnR.kept hu fun j hj=>hk j (OwnR.lt hu j hj).2 (fun e=>Owns.apartT hu ho (by decide) j hj e)
 exact⟨key h.o1,key h.o2,key h.o3,h.l1,h.l2,h.l3,h.n12,h.n23⟩
theorem InQ.inV {w:World} {lo:Nat} {x:InX} (h:InQ w lo x):InV w w.heap.size (.agg #[.slice (some ⟨x.2.1,0,none⟩) 3 3,.slice (some ⟨x.2.2.1,0,none⟩) 4 4,.slice (some ⟨x.2.2.2,0,none⟩) 3 3]) x.1:=by
 have h1:=h.o1.arr rowB_len (by rw[h.l1];omega);have h2:=h.o2.arr rowB_len (by rw[h.l2];omega);have h3:=h.o3.arr rowB_len (by rw[h.l3];omega);refine⟨⟨some ⟨x.2.1,0,none⟩,3,some ⟨x.2.2.1,0,none⟩,4,some ⟨x.2.2.2,0,none⟩,3,by rw[h.l1,h.l2,h.l3],?_,?_,?_⟩,h.l1,h.l2,h.l3⟩
 ·rw[h.l1];exact h1
 ·rw[h.l2];exact h2
 ·rw[h.l3];exact h3
theorem ins_of {w:World} {lo lo':Nat} {v:Value} {xs:List InX} (ho:Owns w lo' 64 3 rowX v xs) (hx:∀x∈xs,InQ w lo x) (hl:xs.length≤1000000):Ins w w.heap.size v (xs.map (·.1)):=by
 refine⟨xs.map fun x=>.agg #[.slice (some ⟨x.2.1,0,none⟩) 3 3,.slice (some ⟨x.2.2.1,0,none⟩) 4 4,.slice (some ⟨x.2.2.2,0,none⟩) 3 3],?_,by simp,fun k hk d=>?_⟩
 ·rw[List.map_map];exact ho.arr rowX_len (by omega)
 ·simp only[List.length_map]at hk;have e:=(hx _ (List.getElem_mem hk)).inV;simpa[List.getD,hk]using e
def InsDr (r B:Nat) (bs:List Nat) (p:Nat) (w:World) (e:Ending) (w':World):Prop :=
 ∃v xs q,e=.returned v∧Owns w' w.heap.size 64 3 rowX v xs∧(∀x∈xs,InQ w' w.heap.size x)∧xs.length≤89∧q≤p+1000∧RdAt w' r B bs q∧Touch r w w'
set_option maxRecDepth 4000 in
set_option maxHeartbeats 8000000 in
theorem l20Ins_any (r B : Nat) (bs : List Nat) (p : Nat) (w : World) (h : RdAt w r B bs p) (hp : p ≤ 800000000) :
  Calls Tryz.prog 57 #[.pointer (some ⟨r,0,none⟩),.int .i64 90] w (InsDr r B bs p w):=by
 have hrw:=h.lt;have HR0:=hid (h.alloc (.cells #[] 64));clear h
 go_enter Tryz.func57,Tryz.ntmps57
 go_upto_region 2 with fail
 obtain⟨w1,hw1⟩:∃W,W=w.alloc (.cells #[] 64):=⟨_,rfl⟩
 have HO1:=hid (show Owns w1 w.heap.size 64 3 rowX (.slice (some ⟨w.heap.size,0,none⟩) 0 0) [] by rw[hw1];exact Owns.lit (Nat.le_refl _));have hb1:Below w.heap.size w w1:=by rw[hw1];exact(Below.refl _ _).alloc (Nat.le_refl _) _
 have hz1:w1.heap.size=w.heap.size+1:=by rw[hw1];simp
 rw[←hw1]at HR0 ⊢;have HB1:=hid hb1;clear hw1 hb1
 go_wp2_with (first
  |(go_at_call 103;(with_reducible refine(pick_p r B bs p 4 _ (HR0.out.alloc _) (by omega) (by omega) (by omega)).mono ?_);rintro e w2 ⟨z', rfl,z0,z1,h2,ht2⟩;obtain⟨z,rfl⟩:=Int.eq_ofNat_of_zero_le z0;have hz:z<4:=(by omega);obtain⟨y,hl1,hy⟩:=tab4 2 3 5 20 hz;have hl2:=tab_arr hl1;clear hl1 hz z0;have tB:=Touch.tab ht2 (by omega) z _ hl2;rw[hz1]at tB;have HT2:=hid (((Touch.of_below HB1.out (Nat.le_refl _)).alloc _).trans ht2);have HR2:=hid h2;have hs2:=HT2.out.size;have HO2:=hid (((HO1.out).allocd (.cells #[.int .i64 2,.int .i64 3,.int .i64 5,.int .i64 20] 3)).touch ht2 hrw);clear h2 ht2 hl2)
  |(go_at_call 103;(with_reducible refine(pick_p r B bs (p+1) 90 _ HR2.out (by omega) (by omega) (by omega)).mono ?_);rintro e w3 ⟨m', rfl,m0,m1,h3,ht3⟩;obtain⟨m,rfl⟩:=Int.eq_ofNat_of_zero_le m0;have HT3:=hid (HT2.out.trans ht3);have HR3:=hid h3;have HO3:=hid (HO2.out.touch ht3 hrw);clear h3 ht3 tB m0))
 have hy1:1≤y:=by omega
 have hy2:y≤1099511627776:=by omega
 have hm:m≤89:=by omega
 clear hy hz1
 go_loopw [5,7] (fun v i wr=>∃(k q:Nat) (xs:List InX),i=.int .i64 (k:Nat)∧k+xs.length=m∧q≤p+2+10 * xs.length∧RdAt wr r B bs q∧Owns wr w.heap.size 64 3 rowX v xs∧(∀x∈xs,InQ wr w.heap.size x)∧Touch r w wr) (fun _ i _=>(intOf i).toNat)
 case atStart=>exact⟨m,p+1+1,[],rfl,by simp,by simp,HR3.out,HO3.out,(fun x hx=>by cases hx),HT3.out⟩
 case round=>
  clear HR3 HO3 HT3 HO2 HT2 HR2 HO1 HR0 HB1;obtain⟨k,q,xs,rfl,hk,hq,hrd,ho,hxs,ht⟩:=hrel;have HO:=hid ho;have HT:=hid ht;have HRD:=hid hrd;have HXS:=hid hxs;have hxl:xs.length≤89:=by omega
  have hwr:w.heap.size≤wr.heap.size:=ht.size;have HXL:=hid hxl;have HK:=hid hk;clear ho ht hrd hxs;by_cases hlt:0<k
  ·have hki:(0:Int)<(k:Int):=by omega
   have hk89:k≤89:=by omega
   clear hxl hk
   go_wp2_with (first
    |(go_at_call 105;(with_reducible refine(l20In_any r B bs q y _ HRD.out (by have:=HXL.out;omega) hy1 hy2).mono ?_);rintro e w4 ⟨g1,g2,g3,ra,za,sa,q4,rfl,ho4,hq4,h4,ht4⟩;have HO4:=hid (HO.out.touch ht4 hrw);have HXS4:=hid (fun x hx=>(HXS.out x hx).kept (w':=w4) fun k h1 h2=>ht4.block k h2 (by omega));have HT4:=hid (HT.out.trans ht4);have HIN:=hid (show InQ w4 w.heap.size (⟨ra,za,sa⟩,g1,g2,g3) from InQ.rebase ho4 hwr);have HR4:=hid h4;have HQ4:=hid hq4;have hs4:=ht4.size;clear ho4 hq4 h4 ht4)
    |(at_builtin;go_must (refine wpList_push2 elem_in rowX rowX_len ((⟨ra,za,sa⟩,g1,g2,g3):InX) (rowX_one _) w4 rfl _ _ rfl w.heap.size _ xs (by rfl) HO4.out _ (by rfl) (by rfl) (by have:=HXL.out;omega) (by have:=HXL.out;omega) (by omega) ?_);intro v' w5 ho5 hz5 hk5 hv5 hb5;have HO5:=hid ho5;have HIN5:=hid (HIN.out.push HO4.out hk5);have HXS5:=hid (fun x hx=>(HXS4.out x hx).push HO4.out hk5);have HT5:=hid (HT4.out.bel hb5 (Nat.le_refl _));have HR5:=hid (HR4.out.kept hb5 hrw);clear ho5 hz5 hk5 hv5 hb5))
   go_roundw
   case rel => exact ⟨k - 1, q4, xs ++ [(⟨ra, za, sa⟩, g1, g2, g3)], by congr 1; omega, by have := HK.out; simp; omega, by have := HQ4.out; simp; omega, HR5.out, HO5.out, fun x hx => by
    rcases List.mem_append.1 hx with hx|hx
    ·exact HXS5.out x hx
    ·rw[List.mem_singleton.1 hx];exact HIN5.out,HT5.out⟩
   case measure=>simp[intOf];omega
  ·obtain rfl:k=0:=by omega
   go_wp2_with fail
   go_ret
   exact⟨_,xs,q,rfl,HO.out,HXS.out,HXL.out,by omega,HRD.out,HT.out⟩
theorem cells_ne {w:World} {g g' T T':Nat} {cs cs':Array Value} (h:w.heap[g]? = some (.cells cs T (0,0))) (h':w.heap[g']? = some (.cells cs' T' (0,0))) (hT:T≠T'):g≠g':=by
 intro e;subst e;rw[h]at h';simp only[Option.some.injEq,Obj.cells.injEq]at h';exact hT h'.2.1
set_option maxRecDepth 20000 in
set_option maxHeartbeats 1000000 in
theorem wpList_lit7q {ops : Array Oper} {rest : List Oper} {a : Act} {w : World} {Q : Exit → Act → World → Prop} (d : Option Nat) (ty : Nat) (pos : String) (aft : Array Edge) (t : Nat)
  {x0 x1 x2 x3 x4 x5 x6:Value} (hx:a.tmps.getD t undef=.agg #[x0,x1,x2,x3,x4,x5,x6]) (h1:(#[x0,x1,x2,x3,x4,x5,x6]:Array Value).all (·.oneCell')=true)
  (h:wpList Tryz.prog ops Q rest (a.put d (.slice (some ⟨w.heap.size,0,none⟩) 1 1)) (w.alloc (.cells #[x0,x1,x2,x3,x4,x5,x6] 69))) :
  wpList Tryz.prog ops Q ({ dst:=d,op:=.buildSlice 70 1 #[(0,.tmp t)],type:=ty,pos:=pos,after:=aft,guard:=none }::rest) a w:=by
 refine wpList_plain rfl fun K hK=>?_
 have h2:=hK _ _ h;obtain⟨tmps,defers⟩:=a;simp only[Array.getD_eq_getD_getElem?]at hx;go_simp;exact h2
theorem one7r (rq:Rq) (da la:Option Addr) (dn dc ln lc:Nat):∀u∈rowQ (rq,.slice da dn dc,.slice la ln lc),u.oneCell' = true:=by
 intro u hu;simp only[rowQ,List.mem_cons,List.not_mem_nil,or_false]at hu;rcases hu with rfl|rfl|rfl|rfl|rfl|rfl|rfl <;> rfl
def RqFit (q:Rq):Prop:=Rq20 q∧(∀y∈q.data,I64 y)∧(∀y∈q.lanes,I64 y)∧I64 q.id∧I64 q.kind∧I64 q.addr∧I64 q.many
theorem loadVar_bus (w:World) (g:Nat) (a b c:Value) (h0:w.cell? ⟨g,0,none⟩=some a) (h1:w.cell? ⟨g,1,none⟩=some b) (h2:w.cell? ⟨g,2,none⟩=some c):(loadVar 27 ⟨g,0,none⟩).run Tryz.prog w=.ok (.agg #[a,b,c]) w:=by
 simp[loadVar,go_sem,h0,h1,h2]
structure BFit (ms:List MR) (lat:List Int) (pss:List (List Rq)):Prop where
 m:ms.length≤1048576
 m6:∀r∈ms,MR64 r
 l:lat.length≤1048576
 l6:∀x∈lat,I64 x
 p:pss.length≤1048576
 q:∀p∈pss,p.length≤1048576∧∀q∈p,RqFit q
theorem BFit.nil:BFit [] [] []:=⟨by simp,by simp,by simp,by simp,by simp,by simp⟩
end Go.Proofs.YthnlalffjepdaaaGreat
