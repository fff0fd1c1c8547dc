/- What FnCycDelay's walk reads: who asks; the askings in their box. -/
import Derived.Test.YtgkdoehkmbhfiaaGreatGPr
import Derived.Test.YtgkdoehkmbhfiaaGreatGDp1
import Derived.Test.YtgkdoehkmbhfiaaGreatGLt
import Derived.Test.YtgkdoehkmbhfiaaGreatGTk
import Derived.Test.YtgkdoehkmbhfiaaGreatGCs
import Derived.Test.YtgkdoehkmbhfiaaGreatGCp1
set_option linter.unusedVariables false
set_option linter.unusedSimpArgs false
set_option maxHeartbeats 16000000
namespace Go.Proofs.YtgkdoehkmbhfiaaGreat
open Go.RowKit
theorem doneN_one1 {c:Cfg} (s:Nat) (l:List Ev) (e:Ev):doneN c s (l++[e])=doneN c s l+(if e.kind=2∧c.slv e.who e.n=s then 1 else 0):=by
 rw[doneN_app]
 congr 1
 unfold doneN;by_cases h:e.kind=2∧c.slv e.who e.n=s
 ·simp[h.1,h.2]
 ·rw[if_neg h,List.filter_cons_of_neg (by simpa using h)];rfl
theorem reqSlave_nat {c : Cfg} (hbus : Bus c) {who n : Nat} (hw : who < 3) (hn : n < (c.prog who).length) {args : Array Value} {w : World} (h : Calls Tryz.prog 13 args w fun e w' => e = .returned (.int .i64 (if (mapOk c.ms && reqOk ((c.prog who).getD n default)) = true then zJ8 c.ms ((c.prog who).getD n default) else -1)) ∧ Below w.heap.size w w') :
  Calls Tryz.prog 13 args w fun e w' => e=.returned (.int .i64 (c.slv who n:Nat))∧Below w.heap.size w w':=by
 refine h.mono ?_;rintro e w' ⟨rfl,hb⟩;have hok:(mapOk c.ms&&reqOk ((c.prog who).getD n default))=true:=by rw[Bool.and_eq_true];exact⟨hbus.ms,hbus.req hw hn⟩
 rw[if_pos hok];exact⟨congrArg (fun x=>Ending.returned (.int .i64 x)) (slv_nat hbus.ms),hb⟩
theorem slvC_lt4 {c:Cfg} (hb:Bus c) (w n:Nat):c.slv w n<4:=slv_lt4 hb.ms _
def vX (x:InX):Value:=.agg #[.slice (some ⟨x.2.1,0,none⟩) 3 3,.slice (some ⟨x.2.2.1,0,none⟩) 4 4,.slice (some ⟨x.2.2.2,0,none⟩) 3 3]
theorem ins_rows {w:World} {lo:Nat} {v:Value} {xs:List InX} {ins:List Inp} (ho:Owns w lo 45 3 rowX v xs) (hl:xs.length=ins.length) (hm:xs.length≤1000000) (hx:∀k,k<xs.length→InV w w.heap.size (vX (xs.getD k default)) (ins.getD k default)):Ins w w.heap.size v ins:=by
 refine⟨xs.map vX,?_,by simp[hl],fun k hk d=>?_⟩
 ·rw[List.map_map];exact ho.arr rowX_len (by omega)
 ·have e:=hx k (by omega);have e1:(xs.map vX).getD k undef=vX (xs.getD k default):=by simp[List.getD,show k<xs.length by omega]
  have e2:ins.getD k d=ins.getD k default:=by simp[List.getD,hk]
  rw[e1,e2];exact e
def AllIn (w:World) (base:Nat) (v:Value) (k:Nat):Prop:=∃xs:List InX,Owns w base 45 3 rowX v xs∧xs.length=k∧∀x∈xs,InG w base x.2.1 x.2.2.1 x.2.2.2∧v.ownBlock≠some x.2.1∧v.ownBlock≠some x.2.2.1∧v.ownBlock≠some x.2.2.2
theorem InG.keep {w w':World} {lo g1 g2 g3:Nat} {v:Value} (h:InG w lo g1 g2 g3) (hn:v.ownBlock≠some g1∧v.ownBlock≠some g2∧v.ownBlock≠some g3) (hk:∀b,b<w.heap.size→v.ownBlock≠some b→w'.heap[b]? = w.heap[b]?) (hz:w.heap.size≤w'.heap.size):InG w' lo g1 g2 g3:=by
 refine⟨⟨h.b1.1,Nat.lt_of_lt_of_le h.b1.2 hz⟩,⟨h.b2.1,Nat.lt_of_lt_of_le h.b2.2 hz⟩,⟨h.b3.1,Nat.lt_of_lt_of_le h.b3.2 hz⟩,fun i hi=>?_,fun i hi=>?_,fun i hi=>?_⟩
 ·rw[←h.c1 i hi];simp only[World.cell?,hk g1 h.b1.2 hn.1]
 ·rw[←h.c2 i hi];simp only[World.cell?,hk g2 h.b2.2 hn.2.1]
 ·rw[←h.c3 i hi];simp only[World.cell?,hk g3 h.b3.2 hn.2.2]
theorem InG.below {w w':World} {lo g1 g2 g3:Nat} (h:InG w lo g1 g2 g3) (hb:Below w.heap.size w w'):InG w' lo g1 g2 g3 :=
 h.keep (v:=vnil) ⟨by simp[Value.ownBlock],by simp[Value.ownBlock],by simp[Value.ownBlock]⟩ (fun b hl _=>hb.block b hl) hb.size
theorem InG.lower {w:World} {lo lo' g1 g2 g3:Nat} (h:InG w lo g1 g2 g3) (hl:lo' ≤ lo):InG w lo' g1 g2 g3:=⟨⟨by have:=h.b1.1;omega,h.b1.2⟩,⟨by have:=h.b2.1;omega,h.b2.2⟩,⟨by have:=h.b3.1;omega,h.b3.2⟩,h.c1,h.c2,h.c3⟩
theorem AllIn.below {w w':World} {base k:Nat} {v:Value} (h:AllIn w base v k) (hb:Below w.heap.size w w'):AllIn w' base v k:=by
 obtain⟨xs,ho,hl,hx⟩:=h;exact⟨xs,ho.below hb,hl,fun x hm=>⟨(hx x hm).1.below hb,(hx x hm).2⟩⟩
theorem AllIn.snoc {w0 w w' : World} {base k g1 g2 g3 : Nat} {v v' : Value} {xs : List InX} (hbase : base ≤ w0.heap.size) (ho : Owns w0 base 45 3 rowX v xs) (hl : xs.length = k) (hx : ∀ x ∈ xs, InG w0 base x.2.1 x.2.2.1 x.2.2.2 ∧ v.ownBlock ≠ some x.2.1 ∧ v.ownBlock ≠ some x.2.2.1 ∧ v.ownBlock ≠ some x.2.2.2) (hb : Below w0.heap.size w0 w) (hg : InG w w0.heap.size g1 g2 g3)
  (ho':Owns w' base 45 3 rowX v' (xs++[(inAll,g1,g2,g3)])) (hz:w.heap.size≤w'.heap.size) (hk:∀b,b<w.heap.size→v.ownBlock≠some b→w'.heap[b]? = w.heap[b]?) (hn:v'.ownBlock=v.ownBlock∨∃k,w.heap.size≤k∧v'.ownBlock=some k):AllIn w' base v' (k+1):=by
 have hv:∀b,b<w.heap.size→v.ownBlock≠some b→v'.ownBlock≠some b:=fun b hlt hne e=>by
  rcases hn with h|⟨j,hj,h⟩
  ·rw[h]at e;exact hne e
  ·rw[h]at e;simp only[Option.some.injEq]at e;omega
 have hnew:∀b,w0.heap.size≤b→v.ownBlock≠some b:=fun b hle e=>by have:=(OwnR.lt ho b e).2;omega
 refine⟨xs++[(inAll,g1,g2,g3)],ho', by rw[List.length_append,hl];rfl,fun x hm=>?_⟩;rcases List.mem_append.1 hm with hm|hm
 ·obtain⟨h1,h2⟩:=hx x hm;have h3:=h1.below hb;exact⟨h3.keep h2 hk hz,hv _ h3.b1.2 h2.1,hv _ h3.b2.2 h2.2.1,hv _ h3.b3.2 h2.2.2⟩
 ·rw[List.mem_singleton]at hm;subst hm;have h2:v.ownBlock≠some g1∧v.ownBlock≠some g2∧v.ownBlock≠some g3:=⟨hnew _ hg.b1.1,hnew _ hg.b2.1,hnew _ hg.b3.1⟩
  exact⟨(hg.keep h2 hk hz).lower hbase,hv _ hg.b1.2 h2.1,hv _ hg.b2.2 h2.2.1,hv _ hg.b3.2 h2.2.2⟩
theorem AllIn.ins {w:World} {base k:Nat} {v:Value} (h:AllIn w base v k) (hk:k≤1000000):Ins w w.heap.size v (List.replicate k inAll):=by
 obtain⟨xs,ho,hl,hx⟩:=h;refine ins_rows ho (by rw[hl];simp) (by omega) fun i hi=>?_
 have e2:(List.replicate k inAll).getD i default=inAll:=by simp[List.getD,show i<k by omega]
 have e1:xs.getD i default=xs[i]:=by simp[List.getD,hi]
 rw[e1,e2];exact(hx _ (List.getElem_mem hi)).1.inV
theorem InG.stall {w:World} {lo g1 g2 g3 a:Nat} (h:InG w lo g1 g2 g3) (ha:a<4):InV (w.setCell ⟨g2,a,none⟩ (.bool true)) w.heap.size (vX (zH9 a,g1,g2,g3)) (zH9 a):=by
 have n1:g1≠g2:=fun e=>by have h1:=h.c1 0 (by omega);have h2:=h.c2 0 (by omega);rw[e,h2]at h1;simp at h1
 have n3:g3≠g2:=fun e=>by have h1:=h.c3 0 (by omega);have h2:=h.c2 0 (by omega);rw[e,h2]at h1;simp at h1
 obtain⟨w', hw⟩:∃W,W=w.setCell ⟨g2,a,none⟩ (.bool true):=⟨_,rfl⟩
 have hz:w'.heap.size=w.heap.size:=by rw[hw];simp
 have k1:∀(g i:Nat),g≠g2→w'.cell? ⟨g,i,none⟩=w.cell? ⟨g,i,none⟩:=fun g i hg=>by
  have:=Below.heap_setCell w ⟨g2,a,none⟩ (.bool true) g hg;rw[←hw]at this;simp only[World.cell?,this]
 have k2:∀i,i<4→w'.cell? ⟨g2,i,none⟩=some (.bool (decide (i=a))):=fun i hi=>by
  by_cases e:i=a
  ·subst e;rw[hw,World.cell?_setCell_same' _ _ _ (by rw[h.c2 i hi];rfl)];simp
  ·rw[hw,World.cell?_setCell_other _ _ _ _ (by intro e2;injection e2;omega),h.c2 i hi];simp[e]
 rw[←hw,←hz];refine⟨⟨some ⟨g1,0,none⟩,3,some ⟨g2,0,none⟩,4,some ⟨g3,0,none⟩,3,by simp[vX,zH9],?_,?_,?_⟩,rfl,by simp[zH9],rfl⟩
 ·exact bools_of (n:=3) (v:=true) (by rw[hz];exact h.b1.2) (by omega) fun i hi=>by rw[k1 _ _ n1];exact h.c1 i hi
 ·have hl:(zH9 a).stall.length=4:=by simp[zH9]
  rw[hl];refine⟨some ⟨g2,0,none⟩,4,by simp[hl],by simp[hl],by omega,by simp only[List.length_map,hl];omega,(fun h=>nomatch h),fun hn=>⟨g2,0,rfl,by rw[hz];exact h.b2.2,fun t ht j hj=>?_⟩⟩;have hj0:j=0:=by omega
  subst hj0;rw[List.length_map,hl]at ht;rw[Nat.zero_add,Nat.mul_one,Nat.add_zero,k2 t ht];have:=stall_at (a:=a) ht;have e3:((zH9 a).stall.map rowB).getD t []=rowB ((zH9 a).stall.getD t false):=by simp[List.getD,show t<(zH9 a).stall.length by rw[hl];exact ht]
  rw[e3,this];rfl
 ·exact bools_of (n:=3) (v:=true) (by rw[hz];exact h.b3.2) (by omega) fun i hi=>by rw[k1 _ _ n3];exact h.c3 i hi
end Go.Proofs.YtgkdoehkmbhfiaaGreat
namespace Go.Proofs.YtgkdoehkmbhfiaaGreat
open Go.RowKit
def Cn.l (n : Cn) (i : Nat) : Nat → Nat := match i with
 |0=>n.asked
 |1=>n.told
 |2=>n.waits
 |3=>n.lt
 |4=>n.done
 |_=>n.busy
def cnL (i:Nat):Nat:=if i<3 then 3 else 4
theorem cnL_le (i:Nat):cnL i≤4:=by unfold cnL;split <;> omega
def cnRow (n:Cn) (i:Nat):List Value:=(List.range (cnL i)).map fun j=>.int .i64 (n.l i j:Nat)
def cnBox (n:Cn) (G:Nat→Nat):List Value:=[.int .i64 (n.cycles:Nat),.slice (some ⟨G 0,0,none⟩) 3 3,.slice (some ⟨G 1,0,none⟩) 3 3,.slice (some ⟨G 2,0,none⟩) 3 3,.slice (some ⟨G 3,0,none⟩) 4 4,.slice (some ⟨G 4,0,none⟩) 4 4,.slice (some ⟨G 5,0,none⟩) 4 4]
structure CnB (w:World) (g:Nat) (G:Nat→Nat) (n:Cn):Prop where
 bx:Bx w g (cnBox n G)
 ls:∀i,i<6→Bx w (G i) (cnRow n i)
 ne:∀i,i<6→G i≠g
 inj:∀i j,i<6→j<6→i≠j→G i≠G j
def InC (g:Nat) (G:Nat→Nat) (b:Nat):Prop:=b=g∨∃i,i<6∧G i=b
theorem InC.at {g:Nat} {G:Nat→Nat} {i:Nat} (hi:i<6):InC g G (G i):=.inr ⟨i,hi,rfl⟩
section
variable {w w' : World} {g : Nat} {G : Nat → Nat} {n n' : Cn}
theorem zK8 (n:Cn) (i:Nat):(cnRow n i).length=cnL i:=by simp[cnRow]
theorem CnB.lt (h:CnB w g G n) {b:Nat} (hb:InC g G b):b<w.heap.size:=by
 rcases hb with rfl|⟨i,hi,rfl⟩
 ·exact h.bx.lt
 ·exact(h.ls i hi).lt
theorem CnB.kept (h:CnB w g G n) (hk:∀b,InC g G b→w'.heap[b]? = w.heap[b]?):CnB w' g G n :=
 ⟨h.bx.kept (hk g (.inl rfl)),fun i hi=>(h.ls i hi).kept (hk _ (.at hi)),h.ne,h.inj⟩
theorem CnB.below (h:CnB w g G n) (hb:Below w.heap.size w w'):CnB w' g G n:=h.kept fun b hi=>hb.block b (h.lt hi)
theorem CnB.cell (h:CnB w g G n) {i j:Nat} (hi:i<6) (hj:j<cnL i):w.cell? ⟨G i,j,none⟩=some (.int .i64 (n.l i j:Nat)):=by
 rw[(h.ls i hi).c j (by rw[zK8];exact hj)];simp[cnRow,hj]
theorem CnB.free (h:CnB w g G n) {i j:Nat} (hi:i<6) (hj:j<cnL i):w.frozen? ⟨G i,j,none⟩=false:=(h.ls i hi).f j (by rw[zK8];exact hj)
theorem CnB.congr (h:CnB w g G n) (hc:n'.cycles=n.cycles) (hn:∀i j,i<6→j<cnL i→n'.l i j=n.l i j):CnB w g G n':=by
 refine⟨by have:=h.bx;unfold cnBox at this ⊢;rw[hc];exact this,fun i hi=>?_,h.ne,h.inj⟩;have e:cnRow n' i=cnRow n i:=by
  unfold cnRow;apply List.map_congr_left;intro j hj;rw[hn i j hi (List.mem_range.1 hj)]
 rw[e];exact h.ls i hi
theorem CnB.inc (h : CnB w g G n) {i j x : Nat} (hi : i < 6) (hj : j < cnL i) (hc : n'.cycles = n.cycles) (hn : ∀ i' j', i' < 6 → j' < cnL i' → n'.l i' j' = if i' = i ∧ j' = j then x else n.l i' j') :
  CnB (w.setCell ⟨G i,j,none⟩ (.int .i64 (x:Nat))) g G n':=by
 have hk:∀b,b≠G i→(w.setCell ⟨G i,j,none⟩ (.int .i64 (x:Nat))).heap[b]? = w.heap[b]?:=fun b hb=>Below.heap_setCell _ _ _ _ (fun e=>hb e)
 refine⟨?_,fun k hk2=>?_,h.ne,h.inj⟩
 ·have:=h.bx.kept (hk g (Ne.symm (h.ne i hi)));unfold cnBox at this ⊢;rw[hc];exact this
 ·by_cases e:k=i
  ·subst e;have h1:=(h.ls k hi).set j (by rw[zK8];exact hj) (.int .i64 (x:Nat));have e2:(cnRow n k).set j (.int .i64 (x:Nat))=cnRow n' k:=by
    apply List.ext_getElem?;intro m;by_cases hm:m<cnL k
    ·by_cases ej:m=j
     ·subst ej;rw[List.getElem?_set_self (by rw[zK8];exact hm)];simp only[cnRow,List.getElem?_map,List.getElem?_range hm,Option.map_some];rw[hn k m hk2 hm,if_pos ⟨rfl,rfl⟩]
     ·rw[List.getElem?_set_ne (Ne.symm ej)];simp only[cnRow,List.getElem?_map,List.getElem?_range hm,Option.map_some];rw[hn k m hk2 hm,if_neg (fun h=>ej h.2)]
    ·rw[List.getElem?_eq_none (by simp[zK8];omega),List.getElem?_eq_none (by simp[zK8];omega)]
   rwa [e2]at h1
  ·have h1:=(h.ls k hk2).kept (hk _ (h.inj k i hk2 hi e));have e2:cnRow n' k=cnRow n k:=by
    unfold cnRow;apply List.map_congr_left;intro m hm;rw[hn k m hk2 (List.mem_range.1 hm),if_neg (fun h=>e h.1)]
   rw[e2];exact h1
theorem CnB.tick (h:CnB w g G n) (hc:n'.cycles=n.cycles+1) (hn:∀i j,i<6→j<cnL i→n'.l i j=n.l i j):CnB (w.setCell ⟨g,0,none⟩ (.int .i64 ((n.cycles+1:Nat):Int))) g G n':=by
 have hk:∀b,b≠g→(w.setCell ⟨g,0,none⟩ (.int .i64 ((n.cycles+1:Nat):Int))).heap[b]? = w.heap[b]?:=fun b hb=>Below.heap_setCell _ _ _ _ (fun e=>hb e)
 refine⟨?_,fun i hi=>?_,h.ne,h.inj⟩
 ·have:=h.bx.set 0 (by simp[cnBox]) (.int .i64 ((n.cycles+1:Nat):Int));unfold cnBox at this ⊢;rw[hc];exact this
 ·have h1:=(h.ls i hi).kept (hk _ (h.ne i hi));have e2:cnRow n' i=cnRow n i:=by
   unfold cnRow;apply List.map_congr_left;intro m hm;rw[hn i m hi (List.mem_range.1 hm)]
  rw[e2];exact h1
end
def cnS (c:Cfg) (inp:Inp) (st:Cy) (n:Cn) (k1 k2 m k4:Nat):Cn :=
  ⟨n.cycles + 1, fun w => n.asked w + evN 1 w ((evs c inp st).take m), fun w => n.told w + evN 3 w ((evs c inp st).take m), fun w => n.waits w + (if w < k1 ∧ (st.ports w).queue.length ≠ 0 then 1 else 0),
   fun s=>n.lt s+(if s<k4 then lets c inp st s else 0),fun s=>n.done s+doneN c s ((evs c inp st).take m),fun s=>n.busy s+(if s<k2∧(st.slaves s).pipe.length≠0 then 1 else 0)⟩
theorem zD0 {i:Nat} (h:i<6):i=0∨i=1∨i=2∨i=3∨i=4∨i=5:=by omega
theorem cnS_zero (c:Cfg) (inp:Inp) (st:Cy) (n:Cn) (i j:Nat) (hi:i<6):(cnS c inp st n 0 0 0 0).l i j=n.l i j:=by
 rcases zD0 hi with rfl|rfl|rfl|rfl|rfl|rfl <;> simp[cnS,Cn.l,evN,doneN]
theorem cnS_wait {c:Cfg} {inp:Inp} {st:Cy} {n:Cn} {k k2 m k4:Nat} (hq:(st.ports k).queue.length≠0) (i j:Nat) (hi:i<6):(cnS c inp st n (k+1) k2 m k4).l i j=if i=2∧j=k then(cnS c inp st n k k2 m k4).l 2 k+1 else(cnS c inp st n k k2 m k4).l i j:=by
  rcases zD0 hi with rfl|rfl|rfl|rfl|rfl|rfl
  all_goals first
    |(rw[if_neg (by omega)];rfl)
    | (simp only [cnS, Cn.l, true_and]
       by_cases e:j=k
       · subst e;rw[if_pos rfl,if_pos ⟨Nat.lt_succ_self _,hq⟩,if_neg (by omega)]
       · rw [if_neg e]
         congr 1
         by_cases h2:j<k∧(st.ports j).queue.length≠0
         · rw[if_pos h2,if_pos ⟨by omega,h2.2⟩]
         · rw[if_neg h2,if_neg (fun h=>h2 ⟨by omega,h.2⟩)])
theorem cnS_nowait {c:Cfg} {inp:Inp} {st:Cy} {n:Cn} {k k2 m k4:Nat} (hq:(st.ports k).queue.length=0) (i j:Nat) (hi:i<6):(cnS c inp st n (k+1) k2 m k4).l i j=(cnS c inp st n k k2 m k4).l i j:=by
  rcases zD0 hi with rfl|rfl|rfl|rfl|rfl|rfl
  all_goals first
    |rfl
    | (simp only [cnS, Cn.l]
       congr 1
       by_cases h2:j<k∧(st.ports j).queue.length≠0
       · rw[if_pos h2,if_pos ⟨by omega,h2.2⟩]
       · rw [if_neg h2, if_neg (fun h => h2 ⟨by
           by_cases e:j=k
           · subst e;exact absurd hq h.2
           · omega,h.2⟩)])
theorem cnS_busy {c:Cfg} {inp:Inp} {st:Cy} {n:Cn} {k1 k m k4:Nat} (hq:(st.slaves k).pipe.length≠0) (i j:Nat) (hi:i<6):(cnS c inp st n k1 (k+1) m k4).l i j=if i=5∧j=k then(cnS c inp st n k1 k m k4).l 5 k+1 else(cnS c inp st n k1 k m k4).l i j:=by
  rcases zD0 hi with rfl|rfl|rfl|rfl|rfl|rfl
  all_goals first
    |(rw[if_neg (by omega)];rfl)
    | (simp only [cnS, Cn.l, true_and]
       by_cases e:j=k
       · subst e;rw[if_pos rfl,if_pos ⟨Nat.lt_succ_self _,hq⟩,if_neg (by omega)]
       · rw [if_neg e]
         congr 1
         by_cases h2:j<k∧(st.slaves j).pipe.length≠0
         · rw[if_pos h2,if_pos ⟨by omega,h2.2⟩]
         · rw[if_neg h2,if_neg (fun h=>h2 ⟨by omega,h.2⟩)])
theorem cnS_idle {c:Cfg} {inp:Inp} {st:Cy} {n:Cn} {k1 k m k4:Nat} (hq:(st.slaves k).pipe.length=0) (i j:Nat) (hi:i<6):(cnS c inp st n k1 (k+1) m k4).l i j=(cnS c inp st n k1 k m k4).l i j:=by
  rcases zD0 hi with rfl|rfl|rfl|rfl|rfl|rfl
  all_goals first
    |rfl
    | (simp only [cnS, Cn.l]
       congr 1
       by_cases h2:j<k∧(st.slaves j).pipe.length≠0
       · rw[if_pos h2,if_pos ⟨by omega,h2.2⟩]
       · rw [if_neg h2, if_neg (fun h => h2 ⟨by
           by_cases e:j=k
           · subst e;exact absurd hq h.2
           · omega,h.2⟩)])
theorem cnS_let {c:Cfg} {inp:Inp} {st:Cy} {n:Cn} {k1 k2 m k:Nat} (i j:Nat) (hi:i<6):(cnS c inp st n k1 k2 m (k+1)).l i j=if i=3∧j=k then(cnS c inp st n k1 k2 m k).l 3 k+lets c inp st k else(cnS c inp st n k1 k2 m k).l i j:=by
  rcases zD0 hi with rfl|rfl|rfl|rfl|rfl|rfl
  all_goals first
    |(rw[if_neg (by omega)];rfl)
    | (simp only [cnS, Cn.l, true_and]
       by_cases e:j=k
       · subst e;rw[if_pos rfl,if_pos (Nat.lt_succ_self _),if_neg (by omega)];rfl
       · rw [if_neg e]
         congr 1
         by_cases h2:j<k
         · rw[if_pos h2,if_pos (by omega)]
         · rw[if_neg h2,if_neg (by omega)])
theorem cnS_ev {c : Cfg} {inp : Inp} {st : Cy} {n : Cn} {k1 k2 m k4 : Nat} {e : Ev} (ht : (evs c inp st).take (m + 1) = (evs c inp st).take m ++ [e]) (i j : Nat) (hi : i < 6) :
  (cnS c inp st n k1 k2 (m+1) k4).l i j=(cnS c inp st n k1 k2 m k4).l i j+(if(e.kind=1∧i=0∧e.who=j)∨(e.kind=3∧i=1∧e.who=j)∨(e.kind=2∧i=4∧c.slv e.who e.n=j) then 1 else 0):=by
 rcases zD0 hi with rfl|rfl|rfl|rfl|rfl|rfl
 ·simp only[cnS,Cn.l];rw[ht,zJ1];simp only[Nat.add_assoc];congr 2;simp
 ·simp only[cnS,Cn.l];rw[ht,zJ1];simp only[Nat.add_assoc];congr 2;simp
 ·simp[cnS,Cn.l]
 ·simp[cnS,Cn.l]
 ·simp only[cnS,Cn.l];rw[ht,doneN_one1];simp only[Nat.add_assoc];congr 2;simp
 ·simp[cnS,Cn.l]
theorem cnS_end {c:Cfg} {inp:Inp} {st:Cy} {n:Cn} (i j:Nat) (hi:i<6) (hj:j<cnL i):(cnt1 c inp st n).l i j=(cnS c inp st n 3 4 (evs c inp st).length 4).l i j:=by
 rcases zD0 hi with rfl|rfl|rfl|rfl|rfl|rfl
 all_goals simp only[cnL,Nat.reduceLT,↓reduceIte]at hj
 all_goals simp only[cnS,cnt1,Cn.l,List.take_length]
 ·congr 1
  by_cases h:(st.ports j).queue.length=0 <;> simp[h,hj]
 ·rw[if_pos hj]
 ·congr 1
  by_cases h:(st.slaves j).pipe.length=0 <;> simp[h,hj]
theorem evs_told {c:Cfg} {inp:Inp} {st:Cy} {e:Ev} (he:e∈evs c inp st) (hk:e.kind=3):e.who<3:=by
  have h1:∀e∈(zB0 inp (st,[])).2,e.kind=3→e.who<3 :=
    zB1 (P:=fun x:Cy×List Ev=>∀e∈x.2,e.kind=3→e.who<3) 3 (st,[]) (fun e he=>by cases he) fun i x hi hx=>by
      unfold tell1
      repeat' split
      all_goals first
        |exact hx
        | (intro e he hk
           simp only[zC5,List.mem_append,List.mem_singleton]at he;rcases he with he|rfl
           · exact hx e he hk
           · exact hi)
  obtain⟨x1,hx1⟩:∃x,x=zB0 inp (st,[]):=⟨_,rfl⟩
  rw[←hx1]at h1;have h2:∀e∈(zA8 c inp x1).2,e.kind=3→e.who<3 :=
    zB1 (P:=fun x:Cy×List Ev=>∀e∈x.2,e.kind=3→e.who<3) 4 x1 h1 fun i x hi hx=>by
      unfold work1
      repeat' split
      all_goals first
        |exact hx
        | (intro e he hk
           simp only[zD4,zD8,List.mem_append,List.mem_singleton]at he
           first
             |exact hx e he hk
             | (rcases he with he | rfl
                · exact hx e he hk
                · simp at hk))
  have h3:∀e∈(zE4 c inp ((zC4 c (zA8 c inp x1).1).st,(zA8 c inp x1).2)).2,e.kind=3→e.who<3 :=
    zB1 (P:=fun x:Cy×List Ev=>∀e∈x.2,e.kind=3→e.who<3) 3 ((zC4 c (zA8 c inp x1).1).st,(zA8 c inp x1).2) h2 fun i x hi hx=>by
      unfold ask1
      split
      · intro e he hk
        simp only[askDo,List.mem_append,List.mem_singleton]at he;rcases he with he|rfl
        · exact hx e he hk
        · simp at hk
      · exact hx
  have hE:evs c inp st=(zE4 c inp ((zC4 c (zA8 c inp x1).1).st,(zA8 c inp x1).2)).2:=by rw[hx1];rfl
  rw[hE]at he;exact h3 e he hk
theorem CyB.cut {w w':World} {base S:Nat} {X:Nat→Prop} {st:Cy} {V:Nat→Value} {N:Nat→Nat} {C:Nat→List Value} {D:Nat→List TJV} (h:CyB w base S X st V N C D) (hb:Below w.heap.size w w') {m:Nat} (hm:m≤w'.heap.size):CyB w' base S (fun b=>X b∧(b<w.heap.size∨m≤b)) st V N C D:=by
 have h2:=h.below hb;refine⟨h2.raw,h2.con,h2.v19,h2.bs,h2.fs,h2.s0,fun b hb2=>?_,fun κ hκ x hx=>?_⟩
 ·by_cases e:b<w.heap.size∨m≤b
  ·exact h2.lx b fun hx=>hb2 ⟨hx,e⟩
  ·omega
 ·exact((h.dat κ hκ x hx).kept fun b hb2=>hb.block b hb2.1.1).weak fun b hb2=>⟨⟨Nat.lt_of_lt_of_le hb2.1.1 hb.size,hb2.1.2⟩,hb2.2,.inl hb2.1.1⟩
theorem slave_nat {c : Cfg} (hbus : Bus c) {w : World} {B : Nat} {mv : Value} (hm : Maps w B mv c.ms) (hB : B ≤ w.heap.size) (who n : Nat) (da la : Option Addr) (dn dc ln lc : Nat) :
  Calls Tryz.prog 49 #[mv,.agg #[.int .i64 (c.req who n).id,.int .i64 (c.req who n).kind,.int .i64 (c.req who n).addr,.int .i64 (c.req who n).many,.bool (c.req who n).wrap,.slice da dn dc,.slice la ln lc]] w fun e w' => e=.returned (.int .i64 (c.slv who n:Nat))∧Below w.heap.size w w':=by
 refine(slave_val mv c.ms _ _ _ _ _ _ _ ⟨_,_,_,rfl⟩ ⟨_,_,_,rfl⟩ B w hm hB).mono ?_;rintro e w' ⟨rfl,hb⟩;exact⟨congrArg (fun x=>Ending.returned (.int .i64 x)) (slv_nat (r:=c.req who n) hbus.ms),hb⟩
def incC (wq : World) (a : Addr) (v : Value) (us : List Value) (W : World) : Prop := match us with
 |[]=>Below wq.heap.size wq W
 |[_]=>∃W0,Below wq.heap.size wq W0∧W=W0.setCell a v
 |_=>False
theorem incC_cell {wq W:World} {a p:Addr} {v u:Value} {us:List Value} (h:incC wq a v us W) (hp:p.block≠a.block) (hc:wq.cell? p=some u):W.cell? p=some u:=by
 have hlt:=World.block_lt_of_cell? wq _ hc
 match us,h with
 |[],h=>exact(Below.cell h hlt).trans hc
 |[_],⟨W0,h1,h2⟩=>
  rw[←hc,←h1.cell hlt,h2];simp only[World.cell?,Below.heap_setCell _ _ _ _ hp]
theorem incC_load {wq W:World} {a:Addr} {v u:Value} {us:List Value} (h:incC wq a v us W) (hl:us.length≤0) (hc:wq.cell? a=some u):W.cell? a=some u:=by
 match us,h,hl with
 |[],h,_=>exact(Below.cell h (World.block_lt_of_cell? wq _ hc)).trans hc
 |[_],_,hl=>simp at hl
theorem incC_grow {wq W W':World} {a:Addr} {v:Value} {us:List Value} (h:incC wq a v us W) (hb:Below W.heap.size W W') (hl:us.length≤0):incC wq a v us W':=by
 match us,h,hl with
 |[],h,_=>exact(show Below wq.heap.size wq W from h).trans (hb.mono (show Below wq.heap.size wq W from h).size)
 |[_],_,hl=>simp at hl
end Go.Proofs.YtgkdoehkmbhfiaaGreat
namespace Go.Proofs.YtgkdoehkmbhfiaaGreat
open Go.RowKit
section
variable {α : Type} {w w' : World} {base e sz g n : Nat} {f : α → List Value} {V : Nat → Value} {A : Nat → List α}
end
structure KeptX (X:Nat→Prop) (w w':World):Prop where
 size:w.heap.size≤w'.heap.size
 block:∀b,b<w.heap.size→¬X b→w'.heap[b]? = w.heap[b]?
theorem KeptX.refl (X:Nat→Prop) (w:World):KeptX X w w:=⟨Nat.le_refl _,fun _ _ _=>rfl⟩
theorem KeptX.of {X:Nat→Prop} {w w':World} (h:Below w.heap.size w w'):KeptX X w w':=⟨h.size,fun b hb _=>h.block b hb⟩
theorem KeptX.trans {X X':Nat→Prop} {u v w:World} (h:KeptX X u v) (k:KeptX X' v w) (hx:∀b,X' b→X b∨u.heap.size≤b):KeptX X u w :=
 ⟨Nat.le_trans h.size k.size,fun b hb hn=>(k.block b (Nat.lt_of_lt_of_le hb h.size) fun e=>(hx b e).elim hn fun h=>by omega).trans (h.block b hb hn)⟩
theorem KeptX.cell {X:Nat→Prop} {w w':World} (h:KeptX X w w') {p:Addr} {v:Value} (hp:¬X p.block) (hc:w.cell? p=some v):w'.cell? p=some v:=by
 rw[←hc];simp only[World.cell?,h.block _ (World.block_lt_of_cell? w _ hc) hp]
def CyBoxX (w:World) (gs:Nat) (X:Nat→Prop) (st:Cy):Prop:=∃(V:Nat→Value) (N:Nat→Nat) (C:Nat→List Value) (D:Nat→List TJV),Bx w gs [V 0,V 1,V 2,V 3,V 4]∧Raw w 0 V N C∧Cont st [] V N C D∧Free V gs∧¬X gs∧(∀b,X b→Free V b)∧∀κ,κ<20→∀x∈D κ,IntsD w (fun b=>b<w.heap.size∧b≠gs∧¬X b) x.2 x.1.rsp.data
theorem CyBoxX.box {w:World} {gs:Nat} {X:Nat→Prop} {st:Cy} (h:CyBoxX w gs X st):CyBox w gs st:=by
 obtain⟨V,N,C,D,h1,h2,h3,h4,h5,h6,h7⟩:=h;exact⟨V,N,C,D,h1,h2,h3,h4,fun κ hκ x hx=>(h7 κ hκ x hx).weak fun b hb=>⟨hb.1,hb.2.1⟩⟩
theorem CyBoxX.keep {w w':World} {gs:Nat} {X X':Nat→Prop} {st:Cy} (h:CyBoxX w gs X st) (hk:KeptX X w w') (hX:∀b,X' b→X b∨w.heap.size≤b):CyBoxX w' gs X' st:=by
 obtain⟨V,N,C,D,h1,h2,h3,h4,h5,h6,h7⟩:=h;refine⟨V,N,C,D,h1.kept (hk.block _ h1.lt h5),h2.kept fun b hb hf=>hk.block b hb fun e=>hf (h6 b e),h3,h4,fun e=>?_,fun b hb=>?_,fun κ hκ x hx=>?_⟩
 ·rcases hX gs e with h|h
  ·exact h5 h
  ·have:=h1.lt;omega
 ·rcases hX b hb with h|h
  ·exact h6 b h
  ·exact fun κ hκ e=>by have:=(h2.lt hκ e).2;omega
 ·refine((h7 κ hκ x hx).kept fun b hb=>hk.block b hb.1 hb.2.2).weak fun b hb=>⟨Nat.lt_of_lt_of_le hb.1 hk.size,hb.2.1,fun e=>?_⟩
  rcases hX b e with h|h
  ·exact hb.2.2 h
  ·have:=hb.1;omega
theorem CyBox.apart {w w':World} {gs:Nat} {X:Nat→Prop} {st:Cy} (h:CyBox w gs st) (hb:Below w.heap.size w w') (hX:∀b,X b→w.heap.size≤b):CyBoxX w' gs X st:=by
 obtain⟨V,N,C,D,h1,h2,h3,h4,h5⟩:=h;have h0:CyBoxX w gs (fun _=>False) st:=⟨V,N,C,D,h1,h2,h3,h4,fun h=>h,fun _ h=>h.elim,fun κ hκ x hx=>(h5 κ hκ x hx).weak fun b hb=>⟨hb.1,hb.2,fun h=>h⟩⟩
 exact h0.keep (KeptX.of hb) fun b hb=>.inr (hX b hb)
section
variable {α : Type} {wo W : World} {base e sz g n i : Nat} {f : α → List Value} {V : Nat → Value} {A : Nat → List α} {y : α}
end
end Go.Proofs.YtgkdoehkmbhfiaaGreat
namespace Go.Proofs.YtgkdoehkmbhfiaaGreat
open Go.RowKit
theorem work1_kind {c:Cfg} {inp:Inp} {k:Nat} {x:Cy×List Ev} (h:∀e∈x.2,e.kind≠1):∀e∈(work1 c inp k x).2,e.kind≠1:=by
  unfold work1
  repeat' split
  all_goals first
    |exact h
    | (intro e he
       simp only[zD4,zD8,List.mem_append,List.mem_singleton]at he
       first
         |exact h e he
         | (rcases he with he | rfl
            · exact h e he
            · simp))
theorem evs_who {c:Cfg} {inp:Inp} {st:Cy} {e:Ev} (he:e∈evs c inp st) (hk:e.kind=1):e.who<3:=by
 have h1:∀e∈(zB0 inp (st,[])).2,e.kind=3 :=
  zB1 (P:=fun x:Cy×List Ev=>∀e∈x.2,e.kind=3) 3 (st,[]) (fun e he=>by cases he) fun i x hi hx=>tell1_kind hx
 obtain⟨x1,hx1⟩:∃x,x=zB0 inp (st,[]):=⟨_,rfl⟩
 rw[←hx1]at h1;have h2:∀e∈(zA8 c inp x1).2,e.kind≠1 :=
  zB1 (P:=fun x:Cy×List Ev=>∀e∈x.2,e.kind≠1) 4 x1 (fun e he=>by have:=h1 e he;omega) fun i x hi hx=>work1_kind hx
 have h3:∀e∈(zE4 c inp ((zC4 c (zA8 c inp x1).1).st,(zA8 c inp x1).2)).2,e.kind=1→e.who<3 :=
  zB1 (P:=fun x:Cy×List Ev=>∀e∈x.2,e.kind=1→e.who<3) 3 ((zC4 c (zA8 c inp x1).1).st,(zA8 c inp x1).2) (fun e he hk=>absurd hk (h2 e he)) fun i x hi hx=>by
   unfold ask1
   split
   ·intro e he hk;simp only[askDo,List.mem_append,List.mem_singleton]at he;rcases he with he|rfl
    ·exact hx e he hk
    ·exact hi
   ·exact hx
 have hE:evs c inp st=(zE4 c inp ((zC4 c (zA8 c inp x1).1).st,(zA8 c inp x1).2)).2:=by rw[hx1];rfl
 rw[hE]at he;exact h3 e he hk
end Go.Proofs.YtgkdoehkmbhfiaaGreat
