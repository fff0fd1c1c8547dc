/- slices.Clone, slices.Clip and clone at element type CycSlave: a copy in new memory. -/
import Derived.Test.YtgkdoehkmbhfiaaGreatQMq
import Derived.Test.YtgkdoehkmbhfiaaGreatQDr2
import Derived.Test.YtgkdoehkmbhfiaaGreatQRp0
import Derived.Test.YtgkdoehkmbhfiaaGreatQMc
import Derived.Test.YtgkdoehkmbhfiaaGreatQWrd
import Derived.Test.YtgkdoehkmbhfiaaGreatQRu2
import Derived.Test.YtgkdoehkmbhfiaaGreatQLib
import Derived.Lib.SliceRun
import Derived.Deep.RegionLaw
import Derived.BigGuardPart
import Derived.Deep.QuietTactic
import Derived.BigQuiet
import Derived.Deep.RegionHeld3
set_option linter.unusedVariables false
set_option linter.unusedSimpArgs false
set_option maxHeartbeats 16000000
namespace Go.Proofs.YtgkdoehkmbhfiaaGreat
open Go.RowKit
theorem zM3 (g : Nat) : ∀ (cs : List Value) (w : World) (o : Nat), (w.setCells g o cs).heap.size = w.heap.size
 |[],_,_=>rfl
 |c::cs,w,o=>by
  show((w.setCell ⟨g,o,none⟩ c).setCells g (o+1) cs).heap.size=_;rw[zM3 g cs];simp
theorem zL2 (g : Nat) : ∀ (cs : List Value) (w : World) (o : Nat), Touch g w (w.setCells g o cs)
 |[],w,_=>Touch.refl g w
 |c::cs,w,o=>(Touch.setCell g o w c).trans (zL2 g cs _ (o+1))
theorem zL3 (g : Nat) {e : TypeId} : ∀ (cs : List Value) (w : World) (o : Nat) (cur : Array Value), w.heap[g]? = some (.cells cur e (0, 0)) → o + cs.length ≤ cur.size →
  ∃cur':Array Value,(w.setCells g o cs).heap[g]? = some (.cells cur' e (0,0))∧cur'.size=cur.size∧∀j,cur'[j]? = if o≤j∧j<o+cs.length then cs[j - o]? else cur[j]?
 |[],w,o,cur,h,_=>⟨cur,h,rfl,fun j=>by rw[if_neg (by simp only[List.length_nil];omega)]⟩
 |c::cs,w,o,cur,h,hf=>by
  simp only[List.length_cons]at hf;have h1:(w.setCell ⟨g,o,none⟩ c).heap[g]? = some (.cells (cur.set! o c) e (0,0)):=by simp[World.setCell,Array.getElem?_modify,h]
  obtain⟨cur', h2,h3,h4⟩:=zL3 g cs _ (o+1) _ h1 (by simp;omega);refine⟨cur', h2,by rw[h3];simp,fun j=>?_⟩;rw[h4 j];simp only[List.length_cons];by_cases e1:j=o
  ·subst e1;rw[if_neg (by omega),if_pos (by omega)];simp[Array.set!_eq_setIfInBounds,Array.getElem?_setIfInBounds,show j<cur.size by omega]
  ·by_cases e2:o+1≤j∧j<o+1+cs.length
   ·rw[if_pos e2,if_pos (by omega),show j - o=(j - (o+1))+1 by omega,List.getElem?_cons_succ]
   ·rw[if_neg e2,if_neg (by omega)];simp only[Array.set!_eq_setIfInBounds,Array.getElem?_setIfInBounds];rw[if_neg (by omega)]
theorem run_clear_jb (w : World) (ty : TypeId) (b o n c : Nat) (hn : n = 1) (hc : ∀ j, j < 3 → (w.cell? ⟨b, o + j, none⟩).isSome = true) (hf : ∀ j, j < 3 → w.frozen? ⟨b, o + j, none⟩ = false) :
  (Builtin.clear_ #[46] ty #[.slice (some ⟨b,o,none⟩) n c]).run Tryz.prog w=.ok (.tuple #[]) (w.setCells b o [.int .i64 0,.int .i64 0,.int .i64 0]):=by
 subst hn;have hst:=run_storeCells_cells (P:=Tryz.prog) b o [.int .i64 0,.int .i64 0,.int .i64 0] 0 w (by simpa using hc) (by simpa using hf) (by intro v hv;simp at hv;rw[hv];rfl);have hz:(Builtin.zeroCells (Value.agg #[.int .i64 0,.int .i64 0,.int .i64 0]).cells 1).toList=[.int .i64 0,.int .i64 0,.int .i64 0]:=by kernel_rfl
 obtain⟨i0,hi0,hz0,hz1,hz2⟩:=info_parts (show(Tryz.prog.info? 101).map (fun i=>(i.zero,i.size,i.bytes))=some (some (.agg #[.int .i64 0,.int .i64 0,.int .i64 0]),3,24) by kernel_rfl);simp only[Nat.add_zero]at hst;simp[Builtin.clear_,run_underlying Tryz.underlying46,zeroValue,typeInfo,hi0,hz0,hz,hst]
theorem eraseIdx_eq {α:Type} (xs:List α) (i:Nat):xs.eraseIdx i=xs.take i++xs.drop (i+1):=List.eraseIdx_eq_take_drop_succ xs i
def DelP (base g off cap:Nat) (xs:List Jb) (i:Nat) (w:World) (e:Ending) (w':World):Prop :=
 e=.returned (.slice (some ⟨g,off,none⟩) (xs.length - 1) cap)∧Owns w' base 101 3 jbRow (.slice (some ⟨g,off,none⟩) (xs.length - 1) cap) (xs.eraseIdx i)∧Touch g w w' ∧ w'.heap.size=w.heap.size
set_option maxRecDepth 100000 in
theorem delJb_any (base g off cap i : Nat) (xs : List Jb) (w : World) (ho : Owns w base 101 3 jbRow (.slice (some ⟨g, off, none⟩) xs.length cap) xs) (hi : i < xs.length) :
    Calls Tryz.prog 143 #[.slice (some ⟨g, off, none⟩) xs.length cap, .int .i64 i, .int .i64 ((i + 1 : Nat) : Int)] w (DelP base g off cap xs i w) := by
  obtain ⟨n, hn⟩ : ∃ n, n = xs.length := ⟨_, rfl⟩
  have hrows : ∀ x : Jb, (jbRow x).length = 3 := fun _ => rfl
  have hfl : (xs.flatMap jbRow).length = n * 3 := by rw [zC0 hrows, hn]
  obtain ⟨news, hnews⟩ : ∃ news, news = (xs.drop (i + 1)).flatMap jbRow := ⟨_, rfl⟩
  have hlen : news.length = (n - (i + 1)) * 3 := by rw [hnews, zC0 hrows, List.length_drop, ← hn]
  have hspl : xs.flatMap jbRow = (xs.take (i + 1)).flatMap jbRow ++ news := by rw [hnews, ← List.flatMap_append, List.take_append_drop]
  have htk : ((xs.take (i + 1)).flatMap jbRow).length = (i + 1) * 3 := by rw [zC0 hrows, List.length_take]; congr 1; omega
  obtain ⟨_, h2⟩ := ho
  rcases h2 with ⟨h2, _⟩ | ⟨g', off', cap', cur, hv, hg, hh, hle, hmax, hsz, hc⟩
  · cases h2
  simp only [Value.slice.injEq, Option.some.injEq, Addr.mk.injEq, and_true] at hv
  obtain ⟨⟨rfl, rfl⟩, _, rfl⟩ := hv
  rw [← hn] at hle hc hi ⊢
  have hcs : n * 3 ≤ cap * 3 := Nat.mul_le_mul_right _ hle
  have hcm : cap ≤ 9223372036854775807 := by unfold maxLen at hmax; omega
  have hget : ∀ t u, news[t]? = some u → w.cell? ⟨g, off + ((i + 1) * 3 + t), none⟩ = some u := by
    intro t u hu
    have ht : t < news.length := (List.getElem?_eq_some_iff.1 hu).1
    simp only [World.cell?, hh]
    rw [hc _ (by omega), hspl, List.getElem?_append_right (by omega), htk, show (i + 1) * 3 + t - (i + 1) * 3 = t by omega, hu]; simp
  obtain ⟨A, hA, hsrc⟩ : ∃ A : Addr, (if cap = i + 1 then some (⟨g, off, none⟩ : Addr) else some ⟨g, off + (i + 1) * 3, none⟩) = some A ∧ Hid (∀ t u, news[t]? = some u → w.drew.cell? (A.add t) = some u) := by
    by_cases h : cap = i + 1
    · refine ⟨⟨g, off, none⟩, by simp [h], fun t u hu => ?_⟩
      have h0 : news.length = 0 := by rw [hlen]; have : n - (i + 1) = 0 := by omega
                                      rw [this]
      rw [List.length_eq_zero_iff.1 h0] at hu
      simp at hu
    · refine ⟨⟨g, off + (i + 1) * 3, none⟩, by simp [h], fun t u hu => ?_⟩
      rw [Addr.add_lit, Nat.add_assoc]
      exact hget t u hu
  have s1 := hid hlen
  have s2 : Hid (∀ u ∈ news, u.oneCell' = true) := by
    intro u hu
    rw [hnews] at hu
    obtain ⟨x, _, hx⟩ := List.mem_flatMap.1 hu
    exact jbRow_one x u hx
  have hdst : ∀ (W : World) (cur' : Array Value), W.heap[g]? = some (.cells cur' 101 (0, 0)) → cur'.size = cur.size → ∀ t, t < n * 3 → (W.cell? ⟨g, off + t, none⟩).isSome = true ∧ W.frozen? ⟨g, off + t, none⟩ = false := by
    intro W cur' hW hs t ht
    have : off + t < cur'.size := by omega
    simp [World.cell?, World.frozen?, hW, this]
  have s3 : Hid (∀ t, t < news.length → (w.drew.cell? ⟨g, off + i * 3 + t, none⟩).isSome = true ∧ w.drew.frozen? ⟨g, off + i * 3 + t, none⟩ = false) := by
    intro t ht
    rw [Nat.add_assoc]
    exact hdst w.drew cur hh rfl _ (by omega)
  obtain ⟨W1, hW1⟩ : ∃ W1, W1 = w.drew.setCells g (off + i * 3) news := ⟨_, rfl⟩
  obtain ⟨cur1, c1, c2, c3⟩ := zL3 g news w.drew (off + i * 3) cur hh (by omega)
  rw [← hW1] at c1
  have hlow : i + (n - (i + 1)) = n - 1 := by omega
  have hcl : ∀ ty, (Builtin.clear_ #[46] ty #[.slice (some ⟨g, off + (n - 1) * 3, none⟩) (n - (n - 1)) (cap - (n - 1))]).run Tryz.prog W1 = .ok (.tuple #[]) (W1.setCells g (off + (n - 1) * 3) [.int .i64 0, .int .i64 0, .int .i64 0]) := by
    intro ty
    exact run_clear_jb W1 ty g _ _ _ (by omega) (fun j hj => by rw [Nat.add_assoc]; exact (hdst W1 cur1 c1 c2 _ (by omega)).1) (fun j hj => by rw [Nat.add_assoc]; exact (hdst W1 cur1 c1 c2 _ (by omega)).2)
  obtain ⟨cur2, d1, d2, d3⟩ := zL3 g [.int .i64 0, .int .i64 0, .int .i64 0] W1 (off + (n - 1) * 3) cur1 c1 (by simp; omega)
  have HF := hid (show DelP base g off cap xs i w (.returned (.slice (some ⟨g, off, none⟩) (n - 1) cap)) (W1.setCells g (off + (n - 1) * 3) [.int .i64 0, .int .i64 0, .int .i64 0]) by
    have htch : Touch g w (W1.setCells g (off + (n - 1) * 3) [.int .i64 0, .int .i64 0, .int .i64 0]) := by
      rw [hW1]
      exact ((show Touch g w w.drew from ⟨rfl, rfl, rfl, Nat.le_refl _, fun _ _ _ => rfl⟩).trans (zL2 g news _ _)).trans (zL2 g _ _ _)
    have hel : (xs.eraseIdx i).length = n - 1 := by rw [List.length_eraseIdx, if_pos (by omega), hn]
    refine ⟨by rw [hn], ⟨zC0 hrows _, .inr ⟨g, off, cap, cur2, by rw [hel, ← hn], hg, d1, by omega, hmax, by omega, fun j hj => ?_⟩⟩, htch, by rw [zM3, hW1, zM3]; rfl⟩
    rw [hel] at hj
    rw [d3, if_neg (by omega), c3, eraseIdx_eq, List.flatMap_append, ← hnews]
    have ht2 : ((xs.take i).flatMap jbRow).length = i * 3 := by rw [zC0 hrows, List.length_take]; congr 1; omega
    by_cases hji : j < i * 3
    · rw [if_neg (by omega), hc j (by omega), List.getElem?_append_left (by omega)]
      have e1 : xs.flatMap jbRow = (xs.take i).flatMap jbRow ++ (xs.drop i).flatMap jbRow := by rw [← List.flatMap_append, List.take_append_drop]
      rw [e1, List.getElem?_append_left (by omega)]
    · rw [if_pos (by omega), List.getElem?_append_right (by omega), ht2, show off + j - (off + i * 3) = j - i * 3 by omega])
  have hW : Hid (W1 = w.drew.setCells g (off + i * 3) news) := hW1
  have hic : i ≤ cap := by omega
  have hjc : i + 1 ≤ cap := by omega
  have hq : ((i : Int) == (i : Int) + 1) = false := by rw [beq_eq_false_iff_ne]; omega
  have hq0 : 0 ≤ (i : Int) + 1 := by omega
  have hq1 : (i : Int) + 1 ≤ (n : Int) := by omega
  have HN := hid hn
  obtain ⟨i0, hi0, hz0, hz1, hz2⟩ := info_parts (show (Tryz.prog.info? 101).map (fun i => (i.zero, i.size, i.bytes)) = some (some (.agg #[.int .i64 0, .int .i64 0, .int .i64 0]), 3, 24) by kernel_rfl)
  have HI := hid hi0; have HZ := hid hz1
  clear hW1 c1 c2 c3 d1 d2 d3 hdst hget hnews hspl htk hfl hc hh hsz hlen hi0 hz0 hz1 hz2 hn hrows hcs hmax
  go_enter Tryz.func143, Tryz.ntmps143
  go_wp2_with fail
  go_region_law (refine step_append_room rfl (.tmp 22) (.tmp 25) 46 rfl 101 i0 3 Tryz.underlying46 HI.out HZ.out g off i cap (by simp [Act.eval, Act.put]) A (n - (i + 1)) (cap - (i + 1)) news (by simp [Act.eval, Act.put]) s1.out hsrc.out s2.out (by omega) s3.out ?_; rw [← hW.out])
  go_wp2_with fail
  go_ret
  exact HF.out
theorem step_push3 {α : Type} {ops : Array Oper} {o : Oper} {a : Act} {K : Act → World → Prop} {Q : Exit → Act → World → Prop} {Z : Prop} {T e sz by_ : Nat} (E : Elem T e sz by_) (f : α → List Value) (hf : ∀ x, (f x).length = sz)
  (X:World) (hgd:o.guard=none) (s x:Operand) (ho:o.op=.call { callee:=.builtin .append,args:=#[s,x],argTypes:=#[T,T] })
  (base:Nat) (v:Value) (xs:List α) (y:α) (h1:∀u∈f y,u.oneCell' = true) (hs:a.eval s=v) (hown:Owns X base e sz f v xs) (cs:Array Value) (hcs:cs.toList=f y) (G c:Nat) (hx:a.eval x=.slice (some ⟨G,0,none⟩) 1 c) (hG:G=X.heap.size)
  (hlen:(xs.length+1) * by_≤140737488355328) (hlen2:xs.length+1≤9223372036854775807) (hbase:base≤X.heap.size)
  (h:∀v' w', Owns w' base e sz f v' (xs++[y])→Below base X w' → (∀k,k<X.heap.size→some k≠v.ownBlock→w'.heap[k]? = X.heap[k]?)→(∀k,v'.ownBlock=some k→v.ownBlock=some k∨X.heap.size≤k)→K (a.put o.dst v') w') :
  if Region.wanted o (yielded ops a.tmps)=true then Oper.wp Tryz.prog o a (X.alloc (.cells cs e)) K Q else Z:=by
 have hw:Region.wanted o (yielded ops a.tmps)=true:=by simp[Region.wanted,hgd]
 rw[if_pos hw];obtain⟨ht,i,z,hi,hz,hsize,hby,hzs,hsz⟩:=E;refine zG6 s x T ho base e i z sz by_ ht hi hz hsize hby hzs v xs.length (xs.flatMap f) hs (OwnR.alloc hown _) ⟨G,0,none⟩ 1 c (f y) hx (by rw[hf];omega) ?_ h1 (by unfold maxLen;omega) hlen (by simp;omega) ?_
 ·intro j u hj;rw[Addr.add_lit,Nat.zero_add,hG];exact news_alloc (f y) hcs j u hj
 ·intro v' w' ho' hg _ hb;have hb0:Below base X (X.alloc (.cells cs e)):=(Below.refl _ _).alloc hbase _;refine h v' w' ?_ (hb0.trans ((Below.refl _ _).grown hg (by simp;omega) (fun k hk=>(OwnR.lt hown k hk).1))) (fun k hk hne=>?_) (fun k hk=>?_)
  ·unfold Owns;simpa using ho'
  ·rw[hg.block k (by simp;omega) hne];exact((Below.refl X.heap.size X).alloc (Nat.le_refl _) (.cells cs e)).block k hk
  ·rcases hb with hb|hb
   ·exact .inl (by rw[←hb];exact hk)
   ·rw[hb]at hk;right;simp at hk;omega
theorem zA8 (w:World) (o:Obj) {g:Nat} (h:g=w.heap.size):(w.alloc o).heap[g]? = some o:=by subst h;show(w.heap.push _)[w.heap.size]? = _;simp
theorem le_drew' {B:Nat} {w:World} (h:B≤w.heap.size):B≤w.drew.heap.size:=h
theorem tjRow_one (x:TJV) (h:∃a n c,x.2=.slice a n c):∀u∈tjRow x,u.oneCell' = true:=by
 obtain⟨a,n,c,e⟩:=h;intro u hu;simp only[tjRow,List.mem_cons,List.not_mem_nil,or_false]at hu;rcases hu with rfl|rfl|rfl|rfl|rfl <;> first|rfl|(rw[e];rfl)
theorem intsD_slice {w:World} {P:Nat→Prop} {v:Value} {xs:List Int} (h:IntsD w P v xs):∃a n c,v=.slice a n c:=by
 obtain⟨a,c,e,_⟩:=h.1;exact⟨a,_,c,e⟩
theorem len_three {l:List TJ} (h:∀j∈l,j.who<3):l.length=(l.filter (fun j=>j.who==0)).length+(l.filter (fun j=>j.who==1)).length+(l.filter (fun j=>j.who==2)).length:=by
 induction l with
 |nil=>rfl
 |cons x l ih=>
  have hx:=h x (by simp);have:=ih fun j hj=>h j (List.mem_cons_of_mem _ hj)
  simp only[List.filter_cons,List.length_cons];rcases(show x.who=0∨x.who=1∨x.who=2 by omega)with e|e|e <;> simp[e] <;> omega
theorem Good.told36 {c:Cfg} (hb:Bus c) {st:Cy} (h:Good c st):st.told.length≤36:=by
 rw[len_three fun j hj=>(h.t j hj).1];have key:∀w,w<3→(st.told.filter (fun j=>j.who==w)).length≤12:=fun w hw=>by
  have h1:=(h.part w hw).length_eq;simp only[List.length_append,List.length_map,List.length_range]at h1;have h2:=(h.p w hw).nx;have h3:=hb.twelve hw;omega
 have:=key 0 (by omega);have:=key 1 (by omega);have:=key 2 (by omega);omega
theorem tellM_eq {st:Cy} {who k s:Nat} (hs:((st.ports who).last+k) % 4=s):tellM st who k=match (st.slaves s).done with|[]=>false|j::_=>j.who==who:=by subst hs;rfl
theorem tell1_no {inp:Inp} {who:Nat} {x:Cy×List Ev} (h:inp.ready.getD who false=false):tell1 inp who x=x:=by unfold tell1;rw[if_neg (by rw[h];simp)]
theorem tell1_miss {inp:Inp} {who:Nat} {x:Cy×List Ev} (h:∀j,1≤j→j≤4→tellM x.1 who j=false):tell1 inp who x=x:=by unfold tell1;rw[firstK_miss h];split <;> rfl
theorem tell1_hit {inp : Inp} {who k s : Nat} {x : Cy × List Ev} {j : TJ} {rest : List TJ} (hr : inp.ready.getD who false = true) (h1 : 1 ≤ k) (h4 : k ≤ 4) (hb : ∀ i, 1 ≤ i → i < k → tellM x.1 who i = false) (hs : ((x.1.ports who).last + k) % 4 = s) (hd : (x.1.slaves s).done = j :: rest) (hj : j.who = who) :
  tell1 inp who x=zD4 who s j rest x:=by
 unfold tell1;rw[if_pos hr,firstK_hit h1 h4 (by rw[tellM_eq hs,hd];simpa using hj) hb];simp only[hs,hd]
theorem tell1_len (inp:Inp) (who:Nat) (x:Cy×List Ev):(tell1 inp who x).2.length≤x.2.length+1:=by
 unfold tell1
 split
 ·split
  ·omega
  ·split
   ·omega
   ·simp[zD4]
 ·omega
theorem upd_upd {α:Type} (f:Nat→α) (i:Nat) (a b:α):upd (upd f i a) i b=upd f i b:=by funext j;unfold upd;split <;> rfl
theorem Owns.pop {α : Type} {w : World} {base e sz g off n cap : Nat} {f : α → List Value} {y : α} {Y : List α} (hf : ∀ x, (f x).length = sz) (h : Owns w base e sz f (.slice (some ⟨g, off, none⟩) n cap) (y :: Y)) {A : Addr} (hA : (if cap = 1 then (some ⟨g, off, none⟩ : Option Addr) else some ⟨g, off + sz, none⟩) = some A) :
  Owns w base e sz f (.slice (some A) Y.length (cap - 1)) Y∧A.block=g:=by
 have h':=h;obtain⟨_,h2⟩:=h';have hn:n=Y.length+1:=by
  rcases h2 with⟨h2,_⟩|⟨_,_,_,_,h2,_⟩
  ·cases h2
  ·simp only[Value.slice.injEq]at h2;simpa using h2.2.1
 subst hn;have ht:=OwnR.tail1 (n:=Y.length+1) h (by omega);rw[hA]at ht;refine⟨?_,?_⟩
 ·have e1:((y::Y).flatMap f).drop sz=Y.flatMap f:=by rw[List.flatMap_cons,List.drop_left' (hf y)]
  rw[e1]at ht;exact ht
 ·split at hA <;> (simp only[Option.some.injEq]at hA;rw[←hA])
theorem pop_addr (g off sz cap:Nat):∃A:Addr,(if cap=1 then(some ⟨g,off,none⟩:Option Addr) else some ⟨g,off+sz,none⟩)=some A:=by
 by_cases h:cap=1
 ·exact⟨_,if_pos h⟩
 ·exact⟨_,if_neg h⟩
theorem CyM.popDone {w : World} {base S Hb : Nat} {L : Nat → Value} {st : Cy} {ev : List Ev} {V : Nat → Value} {N : Nat → Nat} {C : Nat → List Value} {D : Nat → List TJV} (h : CyM w base S Hb L st ev V N C D) {s g off cap dg dof dn dcp : Nat} (hs : s < 4) (hV : V 3 = .slice (some ⟨g, off, none⟩) 4 cap)
  {y:TJV} {Y:List TJV} (hD:D (15+s)=y::Y) (hv:V (15+s)=.slice (some ⟨dg,dof,none⟩) dn dcp) {A:Addr} (hA:(if dcp=1 then(some ⟨dg,dof,none⟩:Option Addr) else some ⟨dg,dof+5,none⟩)=some A) :
  ∃N' C', CyM (w.setCell ⟨g,off+s * 3+1,none⟩ (.slice (some A) Y.length (dcp - 1))) base S Hb L { st with slaves:=upd st.slaves s { st.slaves s with done:=Y.map (·.1) } } ev (upd V (15+s) (.slice (some A) Y.length (dcp - 1))) N' C' (upd D (15+s) Y)∧Kp S Hb V w (upd V (15+s) (.slice (some A) Y.length (dcp - 1))) (w.setCell ⟨g,off+s * 3+1,none⟩ (.slice (some A) Y.length (dcp - 1))):=by
 have ho:=h.oDone hs;rw[hD,hv]at ho;obtain⟨h1,h2⟩:=Owns.pop (f:=tjRow) (sz:=5) (fun _=>rfl) ho hA;have hk:∀b,b<w.heap.size→(V (15+s)).ownBlock≠some b→w.heap[b]? = w.heap[b]?:=fun _ _ _=>rfl
 have hvv:∀k,(Value.slice (some A) Y.length (dcp - 1)).ownBlock=some k→(V (15+s)).ownBlock=some k∨w.heap.size≤k:=fun k hk=>by
  left;rw[hv];simp only[Value.ownBlock]at hk ⊢;rw[←hk,h2]
 exact h.setDone hs hV hk (Nat.le_refl _) h1 hvv fun x hx=>h.old (κ:=15+s) (ν:=15+s) (by omega) (by omega) hk (Nat.le_refl _) hvv (by rw[hD];exact List.mem_cons_of_mem _ hx)
theorem CyM.fresh {w w':World} {base S Hb:Nat} {L:Nat→Value} {st:Cy} {ev:List Ev} {V:Nat→Value} {N:Nat→Nat} {C:Nat→List Value} {D:Nat→List TJV} (h:CyM w base S Hb L st ev V N C D) {b:Nat} (hb1:w.heap.size≤b) (hb2:b<w'.heap.size):DFree V S Hb w' b :=
 ⟨hb2,fun κ hκ e=>by have:=(h.raw.lt hκ e).2;omega,by have:=zA3 h.bs;omega,by have:=zA3 h.bh;omega⟩
theorem CyM.congr {w:World} {base S Hb:Nat} {L:Nat→Value} {st st':Cy} {ev ev':List Ev} {V:Nat→Value} {N:Nat→Nat} {C:Nat→List Value} {D:Nat→List TJV} (h:CyM w base S Hb L st ev V N C D) (h1:st=st') (h2:ev=ev'):CyM w base S Hb L st' ev' V N C D:=by subst h1 h2;exact h
theorem delJb_int (base g off cap i : Nat) (xs : List Jb) (w : World) (ho : Owns w base 101 3 jbRow (.slice (some ⟨g, off, none⟩) xs.length cap) xs) (hi : i < xs.length) :
  Calls Tryz.prog 143 #[.slice (some ⟨g,off,none⟩) xs.length cap,.int .i64 i,.int .i64 ((i:Int)+1)] w (DelP base g off cap xs i w):=by
 have h:=delJb_any base g off cap i xs w ho hi
 rwa [show((i+1:Nat):Int)=(i:Int)+1 from by omega]at h
theorem idxP_erase (xs:List Jb) (n:Nat) (h:∃o∈xs,o.n=n):∃i:Nat,idxP (fun j=>j.n==n) xs=(i:Int)∧i<xs.length∧xs.eraseIdx i=xs.eraseP (fun j=>j.n==n):=by
 obtain⟨o,ho,e⟩:=h;have hi:xs.findIdx (fun j=>j.n==n)<xs.length:=List.findIdx_lt_length_of_exists ⟨o,ho,by simp[e]⟩;refine⟨xs.findIdx (fun j=>j.n==n),?_,hi,?_⟩
 ·unfold idxP;rw[List.findIdx?_eq_some_of_exists ⟨o,ho,by simp[e]⟩]
 ·rw[List.eraseP_eq_eraseIdx];rw[List.findIdx?_eq_some_of_exists ⟨o,ho,by simp[e]⟩]
structure InV (w:World) (B:Nat) (v:Value) (inp:Inp):Prop where
 ex:∃ra rc ta tc sa sc,v=.agg #[.slice ra inp.ready.length rc,.slice ta inp.stall.length tc,.slice sa inp.send.length sc]∧Bools w B (.slice ra inp.ready.length rc) inp.ready∧Bools w B (.slice ta inp.stall.length tc) inp.stall∧Bools w B (.slice sa inp.send.length sc) inp.send
 l1:inp.ready.length=3
 l2:inp.stall.length=4
 l3:inp.send.length=3
theorem InV.below {w w':World} {B:Nat} {v:Value} {inp:Inp} (h:InV w B v inp) (hb:Below B w w'):InV w' B v inp:=by
 obtain⟨⟨ra,rc,ta,tc,sa,sc,e,h1,h2,h3⟩,l1,l2,l3⟩:=h;exact⟨⟨ra,rc,ta,tc,sa,sc,e,h1.below hb,h2.below hb,h3.below hb⟩,l1,l2,l3⟩
theorem InV.mono {w:World} {B B':Nat} {v:Value} {inp:Inp} (h:InV w B v inp) (hb:B≤B'):InV w B' v inp:=by
 obtain⟨⟨ra,rc,ta,tc,sa,sc,e,h1,h2,h3⟩,l1,l2,l3⟩:=h;exact⟨⟨ra,rc,ta,tc,sa,sc,e,h1.mono hb,h2.mono hb,h3.mono hb⟩,l1,l2,l3⟩
def PartP (base S Hb:Nat) (L:Nat→Value) (x:Cy×List Ev) (V:Nat→Value) (w:World) (e:Ending) (w':World):Prop:=e=.returned (.tuple #[])∧∃V' N' C' D', CyM w' base S Hb L x.1 x.2 V' N' C' D' ∧ Kp S Hb V w V' w' ∧ Below base w w'
def BusV (w:World) (B:Nat) (v:Value) (c:Cfg):Prop :=
 ∃ (ma la pa : Option Addr) (mc lc pc : Nat) (Q : Nat → Value), v = .agg #[.slice ma c.ms.length mc, .slice la c.lat.length lc, .slice pa c.progs.length pc] ∧ Maps w B (.slice ma c.ms.length mc) c.ms ∧ Arr w B 1 (.slice la c.lat.length lc) (c.lat.map rowN) ∧
  Arr w B 1 (.slice pa c.progs.length pc) ((List.range c.progs.length).map fun i=>[Q i])∧∀i,i<c.progs.length→Reqs w B (Q i) (c.prog i)
theorem BusV.below {w w':World} {B:Nat} {v:Value} {c:Cfg} (h:BusV w B v c) (hb:Below B w w'):BusV w' B v c:=by
 obtain⟨ma,la,pa,mc,lc,pc,Q,e,h1,h2,h3,h4⟩:=h;exact⟨ma,la,pa,mc,lc,pc,Q,e,h1.below hb,h2.below hb,h3.below hb,fun i hi=>(h4 i hi).below hb⟩
theorem BusV.mono {w:World} {B B':Nat} {v:Value} {c:Cfg} (h:BusV w B v c) (hb:B≤B'):BusV w B' v c:=by
 obtain⟨ma,la,pa,mc,lc,pc,Q,e,h1,h2,h3,h4⟩:=h;exact⟨ma,la,pa,mc,lc,pc,Q,e,h1.mono hb,h2.mono hb,h3.mono hb,fun i hi=>(h4 i hi).mono hb⟩
theorem BusV.opened {w : World} {B : Nat} {v : Value} {c : Cfg} (h : BusV w B v c) (hc : Bus c) : ∃ (mv : Value) (lb lo lc pb po pc : Nat) (Q : Nat → Option Addr) (K : Nat → Nat), v = .agg #[mv, .slice (some ⟨lb, lo, none⟩) 4 lc, .slice (some ⟨pb, po, none⟩) 3 pc] ∧ (∃ a n k, mv = .slice a n k) ∧ Maps w B mv c.ms ∧
  lb<B∧pb<B∧(∀s,s<4→w.cell? ⟨lb,lo+s,none⟩=some (.int .i64 (c.lt s:Nat)))∧(∀i,i<3→w.cell? ⟨pb,po+i,none⟩=some (.slice (Q i) (c.prog i).length (K i)))∧(∀i,i<3→Reqs w B (.slice (Q i) (c.prog i).length (K i)) (c.prog i)):=by
 obtain⟨ma,la,pa,mc,lc,pc,Q,rfl,h1,⟨_,_,e2,_,_,_,_,h2⟩,⟨_,_,e3,_,_,_,_,h3⟩,h4⟩:=h;simp only[Value.slice.injEq,List.length_map,List.length_range]at e2 e3 h2 h3;obtain⟨rfl,_,rfl⟩:=e2;obtain⟨rfl,_,rfl⟩:=e3;rw[hc.lat]at h2;rw[hc.progs]at h3 h4;obtain⟨lb,lo,rfl,hlb,hl⟩:=h2 (by omega);obtain⟨pb,po,rfl,hpb,hp⟩:=h3 (by omega);have sh:∀i,∃(a:Option Addr) (k:Nat),i<3→Q i=.slice a (c.prog i).length k:=fun i=>by
  by_cases hi:i<3
  ·obtain⟨a,k,e,_⟩:=(h4 i hi).shape;exact⟨a,k,fun _=>e⟩
  ·exact⟨none,0,fun h=>absurd h hi⟩
 refine⟨_,lb,lo,lc,pb,po,pc,fun i=>(sh i).choose,fun i=>(sh i).choose_spec.choose,by rw[hc.lat,hc.progs],⟨_,_,_,rfl⟩,h1,hlb,hpb,fun s hs=>?_,fun i hi=>?_,fun i hi=>?_⟩
 ·have:=hl s hs 0 (by omega);simp only[Nat.mul_one,Nat.add_zero]at this;rw[this];have hs':s<c.lat.length:=by rw[hc.lat];exact hs
  simp[List.getD,rowN,hs', Cfg.lt]
 ·have:=hp i hi 0 (by omega);simp only[Nat.mul_one,Nat.add_zero]at this;rw[this];have e:=(sh i).choose_spec.choose_spec hi;rw[←e];simp[List.getD,hi]
 ·have e:=(sh i).choose_spec.choose_spec hi;rw[←e];exact h4 i hi
structure BusO (w:World) (B:Nat) (c:Cfg) (ma:Option Addr) (mn mk lb lo lc pb po pc:Nat) (Q:Nat→Option Addr) (K:Nat→Nat):Prop where
 ms:Maps w B (.slice ma mn mk) c.ms
 hlb:lb<B
 hpb:pb<B
 lat:∀s,s<4→w.cell? ⟨lb,lo+s,none⟩=some (.int .i64 (c.lt s:Nat))
 prog:∀i,i<3→w.cell? ⟨pb,po+i,none⟩=some (.slice (Q i) (c.prog i).length (K i))
 req:∀i,i<3→Reqs w B (.slice (Q i) (c.prog i).length (K i)) (c.prog i)
theorem BusO.below {w w':World} {B:Nat} {c:Cfg} {ma:Option Addr} {mn mk lb lo lc pb po pc:Nat} {Q:Nat→Option Addr} {K:Nat→Nat} (h:BusO w B c ma mn mk lb lo lc pb po pc Q K) (hb:Below B w w'):BusO w' B c ma mn mk lb lo lc pb po pc Q K :=
 ⟨h.ms.below hb,h.hlb,h.hpb,fun s hs=>(hb.cell (p:=⟨lb,_,none⟩) h.hlb).trans (h.lat s hs),fun i hi=>(hb.cell (p:=⟨pb,_,none⟩) h.hpb).trans (h.prog i hi),fun i hi=>(h.req i hi).below hb⟩
theorem BusO.at {w : World} {B : Nat} {c : Cfg} {ma : Option Addr} {mn mk lb lo lc pb po pc : Nat} {Q : Nat → Option Addr} {K : Nat → Nat} (h : BusO w B c ma mn mk lb lo lc pb po pc Q K) {who n : Nat} (hw : who < 3) (hn : n < (c.prog who).length) :
  ∃ qb qo da dc la lc', Q who = some ⟨qb, qo, none⟩ ∧ qb < B ∧ ReqV w B (.agg #[.int .i64 (c.req who n).id, .int .i64 (c.req who n).kind, .int .i64 (c.req who n).addr, .int .i64 (c.req who n).many, .bool (c.req who n).wrap, .slice da (c.req who n).data.length dc, .slice la (c.req who n).lanes.length lc']) (c.req who n) ∧
   w.cell? ⟨qb,qo+n * 7,none⟩=some (.int .i64 (c.req who n).id)∧w.cell? ⟨qb,qo+n * 7+1,none⟩=some (.int .i64 (c.req who n).kind)∧w.cell? ⟨qb,qo+n * 7+2,none⟩=some (.int .i64 (c.req who n).addr)∧w.cell? ⟨qb,qo+n * 7+3,none⟩=some (.int .i64 (c.req who n).many) ∧
   w.cell? ⟨qb,qo+n * 7+4,none⟩=some (.bool (c.req who n).wrap)∧w.cell? ⟨qb,qo+n * 7+5,none⟩=some (.slice da (c.req who n).data.length dc)∧w.cell? ⟨qb,qo+n * 7+6,none⟩=some (.slice la (c.req who n).lanes.length lc'):=by
 obtain⟨ao,cap,e,_,_,_,_,ho⟩:=(h.req who hw).opened;simp only[Value.slice.injEq]at e;obtain⟨b,off,ha,hb,hc⟩:=ho (by omega);obtain⟨da,dc,la,lc', h1,h2⟩:=hc n hn;exact⟨b,off,da,dc,la,lc', e.1.trans ha,hb,h1,h2⟩
theorem id_any {c : Cfg} (hbus : Bus c) {w : World} {B : Nat} {ma : Option Addr} {mn mk lb lo lc pb po pc : Nat} {Q : Nat → Option Addr} {K : Nat → Nat} (h : BusO w B c ma mn mk lb lo lc pb po pc Q K) (hB : B ≤ w.heap.size) {who n : Nat} (hw : who < 3) (hn : n < (c.prog who).length) :
  Calls Tryz.prog 107 #[.agg #[.slice ma mn mk,.slice (some ⟨lb,lo,none⟩) 4 lc,.slice (some ⟨pb,po,none⟩) 3 pc],.int .i64 who,.int .i64 n] w fun e w' => e=.returned (.int .i64 (c.id who n))∧Below w.heap.size w w':=by
 obtain⟨qb,qo,da,dc,la,lc', hq,hqb,_,c0,_⟩:=h.at hw hn;have hp:=h.prog who hw;rw[hq]at hp;have hpb:pb<w.heap.size:=Nat.lt_of_lt_of_le h.hpb hB;have hqz:qb<w.heap.size:=Nat.lt_of_lt_of_le hqb hB;have hwi:(who:Int)<3:=by omega
 have hni:(n:Int)<((c.prog who).length:Int):=by omega
 obtain⟨y,hy⟩:∃y,y=(c.req who n).id:=⟨_,rfl⟩
 rw[←hy]at c0;have HY:=hid (show c.id who n=y by rw[hy];rfl);have HBX:=hid ((Below.refl w.heap.size w).alloc (Nat.le_refl _) (.cells #[.slice ma mn mk,.slice (some ⟨lb,lo,none⟩) 4 lc,.slice (some ⟨pb,po,none⟩) 3 pc] 27));clear hy hq
 go_enter Tryz.func107,Tryz.ntmps107
 go_wp2_with fail
 go_ret
 exact⟨by rw[HY.out];rfl,HBX.out⟩
def BusB (w:World) (g:Nat) (ma:Option Addr) (mn mk lb lo lc pb po pc:Nat):Prop:=w.heap[g]? = some (.cells #[.slice ma mn mk,.slice (some ⟨lb,lo,none⟩) 4 lc,.slice (some ⟨pb,po,none⟩) 3 pc] 27 (0,0))
theorem BusB.below {w w':World} {g C:Nat} {ma:Option Addr} {mn mk lb lo lc pb po pc:Nat} (h:BusB w g ma mn mk lb lo lc pb po pc) (hb:Below C w w') (hg:g<C):BusB w' g ma mn mk lb lo lc pb po pc:=(hb.block g hg).trans h
theorem BusB.cells {w:World} {g:Nat} {ma:Option Addr} {mn mk lb lo lc pb po pc:Nat} (h:BusB w g ma mn mk lb lo lc pb po pc):w.cell? ⟨g,0,none⟩=some (.slice ma mn mk)∧w.cell? ⟨g,1,none⟩=some (.slice (some ⟨lb,lo,none⟩) 4 lc)∧w.cell? ⟨g,2,none⟩=some (.slice (some ⟨pb,po,none⟩) 3 pc)∧g<w.heap.size:=by
 have:=zA3 h;unfold BusB at h;refine⟨?_,?_,?_,this⟩ <;> simp[World.cell?,h]
def IntB (w:World) (g:Nat) (n:Int):Prop:=w.heap[g]? = some (.cells #[.int .i64 n] 3 (0,0))
theorem IntB.below {w w':World} {g C:Nat} {n:Int} (h:IntB w g n) (hb:Below C w w') (hg:g<C):IntB w' g n:=(hb.block g hg).trans h
theorem IntB.cells {w:World} {g:Nat} {n:Int} (h:IntB w g n):w.cell? ⟨g,0,none⟩=some (.int .i64 n)∧g<w.heap.size:=by
 have:=zA3 h;unfold IntB at h;exact⟨by simp[World.cell?,h],this⟩
def mayB (c:Cfg) (who s:Nat) (id:Int) (j:Jb):Bool:=c.id who j.n==id&&j.left != s
abbrev Sl:=Option Addr×Nat×Nat
def sl (x:Sl):Value:=.slice x.1 x.2.1 x.2.2
structure PS where
 next:Nat
 q:Sl
 o:Sl
 last:Nat
deriving Inhabited
structure SS where
 p:Sl
 d:Sl
 last:Nat
deriving Inhabited
def rowPS (x:PS):List Value:=[.int .i64 x.next,sl x.q,sl x.o,.int .i64 x.last]
def rowSS (x:SS):List Value:=[sl x.p,sl x.d,.int .i64 x.last]
theorem rowPS_len (x:PS):(rowPS x).length=4:=rfl
theorem rowSS_len (x:SS):(rowSS x).length=3:=rfl
theorem rowPS_one (x:PS):∀u∈rowPS x,u.oneCell' = true:=by
 intro u hu;simp only[rowPS,sl,List.mem_cons,List.not_mem_nil,or_false]at hu;rcases hu with rfl|rfl|rfl|rfl <;> rfl
theorem rowSS_one (x:SS):∀u∈rowSS x,u.oneCell' = true:=by
 intro u hu;simp only[rowSS,sl,List.mem_cons,List.not_mem_nil,or_false]at hu;rcases hu with rfl|rfl|rfl <;> rfl
def JobsV (w:World) (B:Nat) (v:Value) (js:List TJ):Prop:=∃D:List TJV,Arr w B 5 v (D.map tjRow)∧D.map (·.1)=js∧∀x∈D,Ints w B x.2 x.1.rsp.data
theorem JobsV.below {w w':World} {B:Nat} {v:Value} {js:List TJ} (h:JobsV w B v js) (hb:Below B w w'):JobsV w' B v js:=by
 obtain⟨D,h1,h2,h3⟩:=h;exact⟨D,h1.below hb,h2,fun x hx=>(h3 x hx).below hb⟩
theorem JobsV.mono {w:World} {B B':Nat} {v:Value} {js:List TJ} (h:JobsV w B v js) (hb:B≤B'):JobsV w B' v js:=by
 obtain⟨D,h1,h2,h3⟩:=h;exact⟨D,h1.mono hb,h2,fun x hx=>(h3 x hx).mono hb⟩
def Nats (w:World) (B:Nat) (v:Value) (xs:List Nat):Prop:=Arr w B 1 v (xs.map rowN)
structure CyV (w:World) (B:Nat) (a0 a1 a2 a3 a4:Value) (st:Cy) (P:List PS) (Q:List SS):Prop where
 ws:Ints w B a0 st.ws
 hs:Ints w B a1 st.hs
 ps:Arr w B 4 a2 (P.map rowPS)
 ss:Arr w B 3 a3 (Q.map rowSS)
 told:JobsV w B a4 st.told
 lp:P.length=3
 lq:Q.length=4
 pn:∀i,i<3→(P.getD i default).next=(st.ports i).next∧(P.getD i default).last=(st.ports i).last
 q:∀i,i<3→Nats w B (sl (P.getD i default).q) (st.ports i).queue
 o:∀i,i<3→Jbs w B (sl (P.getD i default).o) (st.ports i).out
 sn:∀s,s<4→(Q.getD s default).last=(st.slaves s).last
 p:∀s,s<4→Jbs w B (sl (Q.getD s default).p) (st.slaves s).pipe
 d:∀s,s<4→JobsV w B (sl (Q.getD s default).d) (st.slaves s).done
theorem CyV.below {w w':World} {B:Nat} {a0 a1 a2 a3 a4:Value} {st:Cy} {P:List PS} {Q:List SS} (h:CyV w B a0 a1 a2 a3 a4 st P Q) (hb:Below B w w'):CyV w' B a0 a1 a2 a3 a4 st P Q :=
 ⟨h.ws.below hb,h.hs.below hb,h.ps.below hb,h.ss.below hb,h.told.below hb,h.lp,h.lq,h.pn,fun i hi=>(h.q i hi).below hb,fun i hi=>(h.o i hi).below hb,h.sn,fun i hi=>(h.p i hi).below hb,fun i hi=>(h.d i hi).below hb⟩
theorem CyV.mono {w:World} {B B':Nat} {a0 a1 a2 a3 a4:Value} {st:Cy} {P:List PS} {Q:List SS} (h:CyV w B a0 a1 a2 a3 a4 st P Q) (hb:B≤B'):CyV w B' a0 a1 a2 a3 a4 st P Q :=
 ⟨h.ws.mono hb,h.hs.mono hb,h.ps.mono hb,h.ss.mono hb,h.told.mono hb,h.lp,h.lq,h.pn,fun i hi=>(h.q i hi).mono hb,fun i hi=>(h.o i hi).mono hb,h.sn,fun i hi=>(h.p i hi).mono hb,fun i hi=>(h.d i hi).mono hb⟩
structure CyR (w:World) (base:Nat) (st:Cy) (V:Nat→Value) (N:Nat→Nat) (C:Nat→List Value) (D:Nat→List TJV):Prop where
 raw:Raw w base V N C
 con:Cont st [] V N C D
 v19:V 19=vnil
 dat:∀κ,κ<20→∀x∈D κ,IntsD w (fun b=>base≤b∧b<w.heap.size∧Free V b) x.2 x.1.rsp.data
theorem CyR.kept {w w':World} {base:Nat} {st:Cy} {V:Nat→Value} {N:Nat→Nat} {C:Nat→List Value} {D:Nat→List TJV} (h:CyR w base st V N C D) (hk:∀b,base≤b→b<w.heap.size→w'.heap[b]? = w.heap[b]?) (hz:w.heap.size≤w'.heap.size):CyR w' base st V N C D :=
 ⟨⟨fun κ hκ=>(h.raw.own κ hκ).kept fun k hk2=>hk k (h.raw.lt hκ hk2).1 (h.raw.lt hκ hk2).2,h.raw.ap⟩,h.con,h.v19,fun κ hκ x hx=>((h.dat κ hκ x hx).kept fun b hb=>hk b hb.1 hb.2.1).weak fun b hb=>⟨hb.1,Nat.lt_of_lt_of_le hb.2.1 hz,hb.2.2⟩⟩
theorem CyR.below {w w':World} {base:Nat} {st:Cy} {V:Nat→Value} {N:Nat→Nat} {C:Nat→List Value} {D:Nat→List TJV} (h:CyR w base st V N C D) (hb:Below w.heap.size w w'):CyR w' base st V N C D:=h.kept (fun b _ hlt=>hb.block b hlt) hb.size
theorem Raw.two {w w' : World} {base : Nat} {V : Nat → Value} {N : Nat → Nat} {C : Nat → List Value} (h : Raw w base V N C) {κ ρ μ g n1 n2 : Nat} {v1 v2 : Value} {c c1 c2 : List Value} (hκ : κ < 20) (hρ : ρ < 20) (hμ : μ < 20) (hne : κ ≠ ρ) (hκμ : κ ≠ μ) (hρμ : ρ ≠ μ) (hg : (V μ).ownBlock = some g)
  (hk:∀b,b<w.heap.size→b≠g→w'.heap[b]? = w.heap[b]?) (hm:OwnR w' base (ety μ) (esz μ) (V μ) (N μ) c) (h1:OwnR w' base (ety κ) (esz κ) v1 n1 c1) (h2:OwnR w' base (ety ρ) (esz ρ) v2 n2 c2)
  (e1:∀k,v1.ownBlock=some k→w.heap.size≤k) (e2:∀k,v2.ownBlock=some k→w.heap.size≤k) (ap:Apart v1 v2):Raw w' base (upd (upd V κ v1) ρ v2) (upd (upd N κ n1) ρ n2) (upd (upd (upd C κ c1) ρ c2) μ c):=by
 refine⟨fun ν hν=>?_,fun ν π hν hπ hn=>?_⟩
 ·by_cases a:ν=μ
  ·subst a;simp only[zA1,zA0 _ _ (Ne.symm hρμ),zA0 _ _ (Ne.symm hκμ)];exact hm
  ·by_cases b:ν=ρ
   ·subst b;simp only[zA1,zA0 _ _ a];exact h2
   ·by_cases d:ν=κ
    ·subst d;simp only[zA1,zA0 _ _ a,zA0 _ _ b];exact h1
    ·simp only[zA0 _ _ a,zA0 _ _ b,zA0 _ _ d];exact(h.own ν hν).kept fun k hk2=>hk k (h.lt hν hk2).2 fun e=>h.ap ν μ hν hμ a g (by rw[hk2,e]) hg
 ·have old1:∀{σ:Nat},σ<20→Apart (V σ) v1:=fun hσ k hk1 hk2=>by have:=(h.lt hσ hk1).2;have:=e1 k hk2;omega
  have old2:∀{σ:Nat},σ<20→Apart (V σ) v2:=fun hσ k hk1 hk2=>by have:=(h.lt hσ hk1).2;have:=e2 k hk2;omega
  by_cases b:ν=ρ
  ·subst b;simp only[zA1,zA0 _ _ (Ne.symm hn)];by_cases d:π=κ
   ·subst d;simp only[zA1];exact ap.symm
   ·simp only[zA0 _ _ d];exact(old2 hπ).symm
  ·simp only[zA0 _ _ b];by_cases b2:π=ρ
   ·subst b2;simp only[zA1];by_cases d:ν=κ
    ·subst d;simp only[zA1];exact ap
    ·simp only[zA0 _ _ d];exact old2 hν
   ·simp only[zA0 _ _ b2];by_cases d:ν=κ
    ·subst d;simp only[zA1,zA0 _ _ (Ne.symm hn)];exact(old1 hπ).symm
    ·simp only[zA0 _ _ d];by_cases d2:π=κ
     ·subst d2;simp only[zA1];exact old1 hν
     ·simp only[zA0 _ _ d2];exact h.ap ν π hν hπ hn
theorem cy {l:Array Bool} {i j:Nat} {b:Bool} {P:Prop} (F:l.getD j false=b→P) (h:Nat.beq i j=false):(l.setIfInBounds i true).getD j false=b→P:=fun hj=>F (by rwa [sgy (Nat.ne_of_beq_eq_false h)]at hj)
theorem cyu {l:Array Bool} {i j k:Nat} {P:Prop} (F:l.getD j false=true→l.getD k false=false→P) (h:Nat.beq i j=false) (h2:Nat.beq i k=false):(l.setIfInBounds i true).getD j false=true→(l.setIfInBounds i true).getD k false=false→P :=
 fun hj hk=>F (by rwa [sgy (Nat.ne_of_beq_eq_false h)]at hj) (by rwa [sgy (Nat.ne_of_beq_eq_false h2)]at hk)
theorem nf {n i:Nat} {P:Prop} (h:(Array.replicate n false).getD i false=true):P:=absurd h (by rw[getD_replicate_false];simp)
theorem elem_CycPort:Elem 35 48 4 64:=zF1 Tryz.underlying35 (z:=(.agg #[.int .i64 0,.slice none 0 0,.slice none 0 0,.int .i64 0])) (by kernel_rfl) rfl (by omega)
theorem sClone_CycPort {α : Type} (f : α → List Value) (hf : ∀ x, (f x).length = 4) (h1 : ∀ x, ∀ u ∈ f x, u.oneCell' = true) (v : Value) (ys : List α) (B : Nat) (w : World) (ha : Arr w B 4 v (ys.map f)) (hlen : ys.length * 64 ≤ 140737488355328) :
  Calls Tryz.prog 135 #[v] w (zL0 f 48 4 ys w):=by
 have ha0:=hid ha;obtain⟨ao,cap,rfl,g1,g2,g0,g9,g3⟩:=ha;simp only[List.length_map]at g1 g2 g0 ⊢;clear g3;cases ao with
 |none=>
  obtain rfl:=g9 rfl;have hy:ys=[]:=by
   rcases ys with _|⟨y,ys⟩
   ·rfl
   ·simp at g1
  subst hy;have he:=fun w=>Lib.run_eql_slice_nil (P:=Tryz.prog) w 35 48 none 0 0 0 0 Tryz.underlying35
  go_enter Tryz.func135,Tryz.ntmps135
  go_wp2_with fail
  go_ret
  exact⟨_,rfl,Owns.zero,Below.refl _ _⟩
 |some ad=>
  have he:=fun w=>Lib.run_eql_slice_nil (P:=Tryz.prog) w 35 48 (some ad) ys.length cap 0 0 Tryz.underlying35
  clear g9
  go_enter Tryz.func135,Tryz.ntmps135
  go_wp2_with (at_builtin;go_must (refine zG2 elem_CycPort f hf h1 _ rfl _ _ rfl w.heap.size _ [] (by rfl) (Owns.lit (Nat.le_refl _)) _ ys (min B w.heap.size) (by rfl) (by have:=(ha0.out).fit (by omega) (by intro r hr;obtain⟨y,_,rfl⟩:=List.mem_map.1 hr;exact hf y);simp only[List.length_map]at this;exact this.below ((Below.refl _ _).alloc (Nat.min_le_right _ _) _)) (by simpa using hlen) (by simp;omega) (by simp) ?_);intro v' w1 hown1 hb1 _)
  go_ret
  exact⟨v', rfl,by simpa using hown1,((Below.refl _ _).alloc (Nat.le_refl _) _).trans hb1⟩
theorem sClip_CycPort (a:Option Addr) (n c:Nat) (w:World) (hc:n≤c) (hm:c≤9223372036854775807):Calls Tryz.prog 134 #[.slice a n c] w fun e w' => e=.returned (.slice a n n)∧w=w':=by
 go_enter Tryz.func134,Tryz.ntmps134
 go_wp2_with fail
 go_ret
 exact⟨rfl,rfl⟩
theorem clone_CycPort {α : Type} (f : α → List Value) (hf : ∀ x, (f x).length = 4) (h1 : ∀ x, ∀ u ∈ f x, u.oneCell' = true) (v : Value) (ys : List α) (B : Nat) (w : World) (ha : Arr w B 4 v (ys.map f)) (hlen : ys.length * 64 ≤ 140737488355328) :
  Calls Tryz.prog 85 #[v] w (zL0 f 48 4 ys w):=by
 go_enter Tryz.func85,Tryz.ntmps85
 go_wp2_with fail
 refine(sClone_CycPort f hf h1 v ys B w ha hlen).mono ?_;rintro e w1 ⟨u,rfl,hown,hb⟩;obtain⟨a,c,rfl,hc1,hc2⟩:=hown.shape
 go_wp2_with fail
 refine(sClip_CycPort a ys.length c _ hc1 hc2).mono ?_;rintro e w2 ⟨rfl,rfl⟩
 go_wp2_with fail
 go_ret
 exact⟨_,rfl,hown.clip,hb⟩
theorem elem_CycSlave:Elem 36 94 3 56:=zF1 Tryz.underlying36 (z:=(.agg #[.slice none 0 0,.slice none 0 0,.int .i64 0])) (by kernel_rfl) rfl (by omega)
theorem sClone_CycSlave {α : Type} (f : α → List Value) (hf : ∀ x, (f x).length = 3) (h1 : ∀ x, ∀ u ∈ f x, u.oneCell' = true) (v : Value) (ys : List α) (B : Nat) (w : World) (ha : Arr w B 3 v (ys.map f)) (hlen : ys.length * 56 ≤ 140737488355328) :
  Calls Tryz.prog 137 #[v] w (zL0 f 94 3 ys w):=by
 have ha0:=hid ha;obtain⟨ao,cap,rfl,g1,g2,g0,g9,g3⟩:=ha;simp only[List.length_map]at g1 g2 g0 ⊢;clear g3;cases ao with
 |none=>
  obtain rfl:=g9 rfl;have hy:ys=[]:=by
   rcases ys with _|⟨y,ys⟩
   ·rfl
   ·simp at g1
  subst hy;have he:=fun w=>Lib.run_eql_slice_nil (P:=Tryz.prog) w 36 94 none 0 0 0 0 Tryz.underlying36
  go_enter Tryz.func137,Tryz.ntmps137
  go_wp2_with fail
  go_ret
  exact⟨_,rfl,Owns.zero,Below.refl _ _⟩
 |some ad=>
  have he:=fun w=>Lib.run_eql_slice_nil (P:=Tryz.prog) w 36 94 (some ad) ys.length cap 0 0 Tryz.underlying36
  clear g9
  go_enter Tryz.func137,Tryz.ntmps137
  go_wp2_with (at_builtin;go_must (refine zG2 elem_CycSlave f hf h1 _ rfl _ _ rfl w.heap.size _ [] (by rfl) (Owns.lit (Nat.le_refl _)) _ ys (min B w.heap.size) (by rfl) (by have:=(ha0.out).fit (by omega) (by intro r hr;obtain⟨y,_,rfl⟩:=List.mem_map.1 hr;exact hf y);simp only[List.length_map]at this;exact this.below ((Below.refl _ _).alloc (Nat.min_le_right _ _) _)) (by simpa using hlen) (by simp;omega) (by simp) ?_);intro v' w1 hown1 hb1 _)
  go_ret
  exact⟨v', rfl,by simpa using hown1,((Below.refl _ _).alloc (Nat.le_refl _) _).trans hb1⟩
theorem sClip_CycSlave (a:Option Addr) (n c:Nat) (w:World) (hc:n≤c) (hm:c≤9223372036854775807):Calls Tryz.prog 136 #[.slice a n c] w fun e w' => e=.returned (.slice a n n)∧w=w':=by
 go_enter Tryz.func136,Tryz.ntmps136
 go_wp2_with fail
 go_ret
 exact⟨rfl,rfl⟩
theorem clone_CycSlave {α : Type} (f : α → List Value) (hf : ∀ x, (f x).length = 3) (h1 : ∀ x, ∀ u ∈ f x, u.oneCell' = true) (v : Value) (ys : List α) (B : Nat) (w : World) (ha : Arr w B 3 v (ys.map f)) (hlen : ys.length * 56 ≤ 140737488355328) :
  Calls Tryz.prog 86 #[v] w (zL0 f 94 3 ys w):=by
 go_enter Tryz.func86,Tryz.ntmps86
 go_wp2_with fail
 refine(sClone_CycSlave f hf h1 v ys B w ha hlen).mono ?_;rintro e w1 ⟨u,rfl,hown,hb⟩;obtain⟨a,c,rfl,hc1,hc2⟩:=hown.shape
 go_wp2_with fail
 refine(sClip_CycSlave a ys.length c _ hc1 hc2).mono ?_;rintro e w2 ⟨rfl,rfl⟩
 go_wp2_with fail
 go_ret
 exact⟨_,rfl,hown.clip,hb⟩
end Go.Proofs.YtgkdoehkmbhfiaaGreat
