/- What FnCycOne's walk reads: the bits of what comes from outside, the stores' rows, how many were done. -/
import Derived.Test.YtenjbhbcacocjaaGreatGKt
import Derived.Test.YtenjbhbcacocjaaGreatGDr3
import Derived.Test.YtenjbhbcacocjaaGreatGPl1
import Derived.Test.YtenjbhbcacocjaaGreatGDl
import Derived.Test.YtenjbhbcacocjaaGreatGMs
import Derived.Test.YtenjbhbcacocjaaGreatGY3
import Derived.Test.YtenjbhbcacocjaaGreatGFl
import Derived.Test.YtenjbhbcacocjaaGreatGPure
import Derived.Deep.RegionWith
import Derived.Deep.Cut
import Derived.Deep.CutRange
set_option linter.unusedVariables false
set_option linter.unusedSimpArgs false
namespace Go.Proofs.YtenjbhbcacocjaaGreat
open Go.RowKit
theorem JobsV.cells {w : World} {B : Nat} {v : Value} {js : List TJ} (h : JobsV w B v js) :
    ∃ ao cap, v = .slice ao js.length cap ∧ js.length ≤ cap ∧ cap ≤ 9223372036854775807 ∧ js.length ≤ 140737488351232 ∧
      (js.length ≠ 0 → ∃ b off, ao = some ⟨b, off, none⟩ ∧ b < B ∧ ∀ t, t < js.length → ∃ da dn dc, w.cell? ⟨b, off + t * 5, none⟩ = some (.int .i64 ((js.getD t default).who : Nat)) ∧ w.cell? ⟨b, off + t * 5 + 1, none⟩ = some (.int .i64 ((js.getD t default).n : Nat)) ∧ w.cell? ⟨b, off + t * 5 + 2, none⟩ = some (.int .i64 (js.getD t default).rsp.id) ∧ w.cell? ⟨b, off + t * 5 + 3, none⟩ = some (.int .i64 (js.getD t default).rsp.code) ∧ w.cell? ⟨b, off + t * 5 + 4, none⟩ = some (.slice da dn dc) ∧ Ints w B (.slice da dn dc) (js.getD t default).rsp.data) := by
  obtain ⟨D, ⟨ao, cap, hv, h1, h2, h0, h9, h3⟩, rfl, hd⟩ := h
  simp only [List.length_map] at hv h1 h0 h3 ⊢
  refine ⟨ao, cap, hv, h1, h2, h0, fun hn => ?_⟩
  obtain ⟨b, off, ha, hlt, hc⟩ := h3 hn
  refine ⟨b, off, ha, hlt, fun t ht => ?_⟩
  have e : (D.map tjRow).getD t [] = tjRow (D[t]) := by simp [List.getD, ht]
  have e2 : (D.map (·.1)).getD t default = (D[t]).1 := by simp [List.getD, ht]
  have c0 := hc t ht 0 (by omega); have c1 := hc t ht 1 (by omega); have c2 := hc t ht 2 (by omega); have c3 := hc t ht 3 (by omega); have c4 := hc t ht 4 (by omega)
  have hi := hd _ (List.getElem_mem ht)
  obtain ⟨da, dc, he, _⟩ := hi.opened
  rw [e] at c0 c1 c2 c3 c4
  rw [e2]
  rw [he] at hi
  exact ⟨da, _, dc, by simpa [tjRow] using c0, by simpa [tjRow] using c1, by simpa [tjRow] using c2, by simpa [tjRow] using c3, by simpa [tjRow, he] using c4, hi⟩
theorem Nats.ints {w : World} {B : Nat} {v : Value} {xs : List Nat} (h : Nats w B v xs) (hx : ∀ x ∈ xs, x < 1000) : Ints w B v (xs.map fun (x : Nat) => (x : Int)) :=
  ⟨by rw [List.map_map]; exact h, fun x hx2 => by obtain ⟨y, hy, rfl⟩ := List.mem_map.1 hx2; have := hx y hy; unfold I64; omega⟩
theorem CyV.rows {w : World} {B : Nat} {a0 a1 a2 a3 a4 : Value} {st : Cy} {P : List PS} {Q : List SS} (hv : CyV w B a0 a1 a2 a3 a4 st P Q) : ∃ (d0 d1 d4 : Option Addr) (c0 c1 c4 pg po pc tg tp tc : Nat), a0 = .slice d0 st.ws.length c0 ∧ a1 = .slice d1 st.hs.length c1 ∧ a2 = .slice (some ⟨pg, po, none⟩) 3 pc ∧ a3 = .slice (some ⟨tg, tp, none⟩) 4 tc ∧ a4 = .slice d4 st.told.length c4 ∧ pg < B ∧ tg < B ∧
    (∀ k, k < 3 → ∃ qa qc oa oc, w.cell? ⟨pg, po + k * 4, none⟩ = some (.int .i64 ((st.ports k).next : Nat)) ∧ w.cell? ⟨pg, po + k * 4 + 1, none⟩ = some (.slice qa (st.ports k).queue.length qc) ∧ w.cell? ⟨pg, po + k * 4 + 2, none⟩ = some (.slice oa (st.ports k).out.length oc) ∧ w.cell? ⟨pg, po + k * 4 + 3, none⟩ = some (.int .i64 ((st.ports k).last : Nat)) ∧ Nats w B (.slice qa (st.ports k).queue.length qc) (st.ports k).queue ∧ Jbs w B (.slice oa (st.ports k).out.length oc) (st.ports k).out) ∧
    (∀ k, k < 4 → ∃ qa qc oa oc, w.cell? ⟨tg, tp + k * 3, none⟩ = some (.slice qa (st.slaves k).pipe.length qc) ∧ w.cell? ⟨tg, tp + k * 3 + 1, none⟩ = some (.slice oa (st.slaves k).done.length oc) ∧ w.cell? ⟨tg, tp + k * 3 + 2, none⟩ = some (.int .i64 ((st.slaves k).last : Nat)) ∧ Jbs w B (.slice qa (st.slaves k).pipe.length qc) (st.slaves k).pipe ∧ JobsV w B (.slice oa (st.slaves k).done.length oc) (st.slaves k).done) := by
  obtain ⟨d0, c0, e0, _⟩ := hv.ws.opened
  obtain ⟨d1, c1, e1, _⟩ := hv.hs.opened
  obtain ⟨pg, po, pc, e2, _, _, hpg, hpc⟩ := hv.ps.at (by rw [hv.lp]; omega)
  obtain ⟨tg, tp, tc, e3, _, _, htg, htc⟩ := hv.ss.at (by rw [hv.lq]; omega)
  obtain ⟨d4, c4, e4, _⟩ := hv.told.cells
  rw [hv.lp] at e2 hpc
  rw [hv.lq] at e3 htc
  refine ⟨d0, d1, d4, c0, c1, c4, pg, po, pc, tg, tp, tc, e0, e1, e2, e3, e4, hpg, htg, fun k hk => ?_, fun k hk => ?_⟩
  · have h1 := hv.pn k hk
    have h2 := hv.q k hk
    have h3 := hv.o k hk
    have h4 := hpc k default hk
    obtain ⟨x, hx⟩ : ∃ x, x = P.getD k default := ⟨_, rfl⟩
    rw [← hx] at h1 h2 h3 h4
    obtain ⟨nx, ⟨qa, qn, qc⟩, ⟨oa, on, oc⟩, la⟩ := x
    simp only [sl] at h1 h2 h3
    obtain rfl := h2.len; obtain rfl := h3.len
    have g0 := h4 0 (by omega); have g1 := h4 1 (by omega); have g2 := h4 2 (by omega); have g3 := h4 3 (by omega)
    rw [← h1.1, ← h1.2]
    exact ⟨qa, qc, oa, oc, by simp only [rowPS, List.getElem?_cons_zero, List.getElem?_cons_succ] at g0; exact g0, by simp only [rowPS, List.getElem?_cons_zero, List.getElem?_cons_succ] at g1; exact g1, by simp only [rowPS, List.getElem?_cons_zero, List.getElem?_cons_succ] at g2; exact g2, by simp only [rowPS, List.getElem?_cons_zero, List.getElem?_cons_succ] at g3; exact g3, h2, h3⟩
  · have h1 := hv.sn k hk
    have h2 := hv.p k hk
    have h3 := hv.d k hk
    have h4 := htc k default hk
    obtain ⟨x, hx⟩ : ∃ x, x = Q.getD k default := ⟨_, rfl⟩
    rw [← hx] at h1 h2 h3 h4
    obtain ⟨⟨qa, qn, qc⟩, ⟨oa, on, oc⟩, la⟩ := x
    simp only [sl] at h1 h2 h3
    obtain rfl := h2.len; obtain rfl := h3.len
    have g0 := h4 0 (by omega); have g1 := h4 1 (by omega); have g2 := h4 2 (by omega)
    rw [← h1]
    exact ⟨qa, qc, oa, oc, by simp only [rowSS, List.getElem?_cons_zero, List.getElem?_cons_succ] at g0; exact g0, by simp only [rowSS, List.getElem?_cons_zero, List.getElem?_cons_succ] at g1; exact g1, by simp only [rowSS, List.getElem?_cons_zero, List.getElem?_cons_succ] at g2; exact g2, h2, h3⟩
theorem JobsV.take {w : World} {B : Nat} {a : Option Addr} {n k m : Nat} {js : List TJ} (h : JobsV w B (.slice a n k) js) (hm : m ≤ n) : JobsV w B (.slice a m k) (js.take m) := by
  obtain ⟨D, ⟨ao, cap, hv, h1, h2, h0, h9, h3⟩, rfl, hd⟩ := h
  simp only [List.length_map, Value.slice.injEq] at hv h1 h0 h3
  obtain ⟨rfl, rfl, rfl⟩ := hv
  have hl : (D.take m).length = m := by rw [List.length_take]; omega
  refine ⟨D.take m, ⟨a, k, by rw [List.length_map, hl], by rw [List.length_map, hl]; omega, h2, by rw [List.length_map, hl]; omega, h9, fun hn => ?_⟩, by rw [List.map_take], fun x hx => hd x (List.mem_of_mem_take hx)⟩
  rw [List.length_map, hl] at hn
  obtain ⟨b, off, ha, hlt, hc⟩ := h3 (by omega)
  refine ⟨b, off, ha, hlt, fun t ht j hj => ?_⟩
  rw [List.length_map, hl] at ht
  rw [hc t (by omega) j hj]
  simp [List.getD, List.getElem?_take, ht]
theorem InV.bits {w : World} {B : Nat} {ra ta sa : Option Addr} {rc tc sc : Nat} {inp : Inp} (h : InV w B (.agg #[.slice ra 3 rc, .slice ta 4 tc, .slice sa 3 sc]) inp) : ∃ rb ro sb so, ra = some ⟨rb, ro, none⟩ ∧ sa = some ⟨sb, so, none⟩ ∧ rb < B ∧ sb < B ∧ (∀ j, j < 3 → w.cell? ⟨rb, ro + j, none⟩ = some (.bool (inp.ready.getD j false))) ∧ (∀ j, j < 3 → w.cell? ⟨sb, so + j, none⟩ = some (.bool (inp.send.getD j false))) := by
  obtain ⟨⟨ra', rc', ta', tc', sa', sc', e, k1, _, k3⟩, l1, _, l3⟩ := h
  simp only [Value.agg.injEq, Array.mk.injEq, List.cons.injEq, Value.slice.injEq, and_true] at e
  obtain ⟨⟨rfl, _, rfl⟩, _, ⟨rfl, _, rfl⟩⟩ := e
  obtain ⟨a1, c1, e1, _, _, _, _, h1⟩ := k1.opened
  obtain ⟨a3, c3, e3, _, _, _, _, h3⟩ := k3.opened
  simp only [Value.slice.injEq, true_and] at e1 e3
  obtain ⟨rb, ro, rfl, q1, q2⟩ := h1 (by omega)
  obtain ⟨sb, so, rfl, q3, q4⟩ := h3 (by omega)
  exact ⟨rb, ro, sb, so, e1.1, e3.1, q1, q3, fun j hj => q2 j (by omega), fun j hj => q4 j (by omega)⟩
theorem elem_TlmEvent : Elem 53 56 3 24 := elem_of Tryz.underlying53 (z := .agg #[.int .i64 0, .int .i64 0, .int .i64 0]) (by kernel_rfl) rfl (by omega)
set_option maxHeartbeats 1000000 in
theorem sClone_TlmEvent {α : Type} (f : α → List Value) (hf : ∀ x, (f x).length = 3) (h1 : ∀ x, ∀ u ∈ f x, u.oneCell' = true) (v : Value) (ys : List α) (B : Nat) (w : World) (ha : Arr w B 3 v (ys.map f)) (hlen : ys.length * 24 ≤ 140737488355328) :
    Calls Tryz.prog 106 #[v] w (CloneP f 56 3 ys w) := by
  have ha0 := hid ha
  obtain ⟨ao, cap, rfl, g1, g2, g0, g9, g3⟩ := ha
  simp only [List.length_map] at g1 g2 g0 ⊢
  clear g3
  cases ao with
  | none =>
    obtain rfl := g9 rfl
    have hy : ys = [] := by
      rcases ys with _ | ⟨y, ys⟩
      · rfl
      · simp at g1
    subst hy
    have he := fun w => Lib.run_eql_slice_nil (P := Tryz.prog) w 53 56 none 0 0 0 0 Tryz.underlying53
    go_enter Tryz.func106, Tryz.ntmps106
    go_wp2_with fail
    go_ret
    exact ⟨_, rfl, Owns.zero, Below.refl _ _⟩
  | some ad =>
    have he := fun w => Lib.run_eql_slice_nil (P := Tryz.prog) w 53 56 (some ad) ys.length cap 0 0 Tryz.underlying53
    clear g9
    go_enter Tryz.func106, Tryz.ntmps106
    go_wp2_with (at_builtin; go_must (refine wpList_cat elem_TlmEvent f hf h1 _ rfl _ _ rfl w.heap.size _ [] (by rfl) (Owns.lit (Nat.le_refl _)) _ ys (min B w.heap.size) (by rfl) (by have := (ha0.out).fit (by omega) (by intro r hr; obtain ⟨y, _, rfl⟩ := List.mem_map.1 hr; exact hf y); simp only [List.length_map] at this; exact this.below ((Below.refl _ _).alloc (Nat.min_le_right _ _) _)) (by simpa using hlen) (by simp; omega) (by simp) ?_); intro v' w1 hown1 hb1 _)
    go_ret
    exact ⟨v', rfl, by simpa using hown1, ((Below.refl _ _).alloc (Nat.le_refl _) _).trans hb1⟩
set_option maxHeartbeats 1000000 in
theorem sClip_TlmEvent (a : Option Addr) (n c : Nat) (w : World) (hc : n ≤ c) (hm : c ≤ 9223372036854775807) : Calls Tryz.prog 76 #[.slice a n c] w fun e w' => e = .returned (.slice a n n) ∧ w = w' := by
  go_enter Tryz.func76, Tryz.ntmps76
  go_wp2_with fail
  go_ret
  exact ⟨rfl, rfl⟩
set_option maxHeartbeats 1000000 in
theorem clone_TlmEvent {α : Type} (f : α → List Value) (hf : ∀ x, (f x).length = 3) (h1 : ∀ x, ∀ u ∈ f x, u.oneCell' = true) (v : Value) (ys : List α) (B : Nat) (w : World) (ha : Arr w B 3 v (ys.map f)) (hlen : ys.length * 24 ≤ 140737488355328) :
    Calls Tryz.prog 56 #[v] w (CloneP f 56 3 ys w) := by
  go_enter Tryz.func56, Tryz.ntmps56
  go_wp2_with fail
  refine (sClone_TlmEvent f hf h1 v ys B w ha hlen).mono ?_
  rintro e w1 ⟨u, rfl, hown, hb⟩
  obtain ⟨a, c, rfl, hc1, hc2⟩ := hown.shape
  go_wp2_with fail
  refine (sClip_TlmEvent a ys.length c _ hc1 hc2).mono ?_
  rintro e w2 ⟨rfl, rfl⟩
  go_wp2_with fail
  go_ret
  exact ⟨_, rfl, hown.clip, hb⟩
end Go.Proofs.YtenjbhbcacocjaaGreat
namespace Go.Proofs.YtenjbhbcacocjaaGreat
open Go.RowKit
theorem evs_len (c : Cfg) (inp : Inp) (st : Cy) : (evs c inp st).length ≤ 10 := by
  have h1 := tellAll_len inp (st, [])
  have h2 := workAll_len c inp (tellAll inp (st, []))
  have h3 : ∀ x : Cy × List Ev, (askAll c inp x).2.length ≤ x.2.length + 3 := fun x => by
    have g0 := ask1_len c inp 0 x
    have g1 := ask1_len c inp 1 (ask1 c inp 0 x)
    have g2 := ask1_len c inp 2 (ask1 c inp 1 (ask1 c inp 0 x))
    show (ask1 c inp 2 (ask1 c inp 1 (ask1 c inp 0 x))).2.length ≤ _
    omega
  have h4 := h3 ((letAll c (workAll c inp (tellAll inp (st, []))).1).st, (workAll c inp (tellAll inp (st, []))).2)
  show (askAll c inp ((letAll c (workAll c inp (tellAll inp (st, []))).1).st, (workAll c inp (tellAll inp (st, []))).2)).2.length ≤ 10
  simp only [List.length_nil] at h1
  simp only at h4
  omega
theorem fieldHap (va : Option Addr) (n vc : Nat) (a b c d : Int) (w : World) : (Instr.field 98 (.agg #[.slice va n vc, .int .i64 a, .int .i64 b, .int .i64 c, .int .i64 d]) 0).run Tryz.prog w = .ok (.slice va n vc) w := by
  simp [go_sem, Instr.field, asAgg]
attribute [local go_sem] fieldHap
def EvP (es : List Ev) (w : World) (e : Ending) (w' : World) : Prop := ∃ v, e = .returned v ∧ Owns w' w.heap.size 56 3 evRow v es ∧ Below w.heap.size w w'
set_option maxRecDepth 8000 in
set_option maxHeartbeats 8000000 in
theorem cycEvents_any {c : Cfg} (hbus : Bus c) {w : World} {B : Nat} {u v : Value} (hc : BusV w B u c) {a0 a1 a2 a3 a4 : Value} {st : Cy} {P : List PS} {Q : List SS} (h : CyV w B a0 a1 a2 a3 a4 st P Q) {inp : Inp} (hi : InV w B v inp) (hB : B ≤ w.heap.size) (hg : Good c st) :
    Calls Tryz.prog 22 #[u, .agg #[a0, a1, a2, a3, a4], v] w (EvP (evs c inp st) w) := by
  obtain ⟨mv, lb, lo, lc, pb, po, pc, QQ, K, rfl, ⟨ma, mn, mk, rfl⟩, _, _, _, _, _, _⟩ := hc.opened hbus
  obtain ⟨z0, z1, z2, z3, z4, n0, n1, n2, n3, n4, k0, k1, k2, k3, k4, rfl, rfl, rfl, rfl, rfl⟩ := h.sl
  obtain ⟨ra, rc, ta, tc, sa, sc, rfl⟩ := hi.three
  have HOK := hid (fun (W : World) (hW : Below w.heap.size w W) => cycOk_any hbus (hc.below (hW.mono hB)) (h.below (hW.mono hB)) (Nat.le_trans hB hW.size) hg)
  have HCP := hid (fun (W : World) (hW : Below w.heap.size w W) => cycCopyV_any (h.below (hW.mono hB)) (Nat.le_trans hB hW.size) (smallC_of hbus hg))
  have HBV := hid hc; have HIV := hid hi
  obtain ⟨w0, hw0⟩ : ∃ W, W = ((w.alloc (.cells #[.slice ma mn mk, .slice (some ⟨lb, lo, none⟩) 4 lc, .slice (some ⟨pb, po, none⟩) 3 pc] 27)).alloc (.cells #[.slice z0 n0 k0, .slice z1 n1 k1, .slice z2 n2 k2, .slice z3 n3 k3, .slice z4 n4 k4] 39)).alloc (.cells #[.slice ra 3 rc, .slice ta 4 tc, .slice sa 3 sc] 44) := ⟨_, rfl⟩
  have hb0 : Below w.heap.size w w0 := by rw [hw0]; exact (((Below.refl _ _).alloc (Nat.le_refl _) _).alloc (by simp) _).alloc (by simp <;> omega) _
  obtain ⟨g1, hg1⟩ : ∃ g, g = w.heap.size + 1 := ⟨_, rfl⟩
  obtain ⟨g2, hg2⟩ : ∃ g, g = w.heap.size + 1 + 1 := ⟨_, rfl⟩
  have X0 := hid (show Bx w0 w.heap.size [.slice ma mn mk, .slice (some ⟨lb, lo, none⟩) 4 lc, .slice (some ⟨pb, po, none⟩) 3 pc] by
    rw [hw0]; exact ((Bx.new w #[.slice ma mn mk, .slice (some ⟨lb, lo, none⟩) 4 lc, .slice (some ⟨pb, po, none⟩) 3 pc] 27 (by simp)).below ((Below.refl _ _).alloc (Nat.le_refl _) _) (by simp)).below ((Below.refl _ _).alloc (Nat.le_refl _) _) (by simp <;> omega))
  have X1 := hid (show Bx w0 g1 [.slice z0 n0 k0, .slice z1 n1 k1, .slice z2 n2 k2, .slice z3 n3 k3, .slice z4 n4 k4] by
    rw [hw0, hg1]; have := (Bx.new (w.alloc (.cells #[.slice ma mn mk, .slice (some ⟨lb, lo, none⟩) 4 lc, .slice (some ⟨pb, po, none⟩) 3 pc] 27)) #[.slice z0 n0 k0, .slice z1 n1 k1, .slice z2 n2 k2, .slice z3 n3 k3, .slice z4 n4 k4] 39 (by simp)).below ((Below.refl _ _).alloc (Nat.le_refl _) (.cells #[.slice ra 3 rc, .slice ta 4 tc, .slice sa 3 sc] 44)) (by simp); simpa using this)
  have X2 := hid (show Bx w0 g2 [.slice ra 3 rc, .slice ta 4 tc, .slice sa 3 sc] by
    rw [hw0, hg2]; have := Bx.new ((w.alloc (.cells #[.slice ma mn mk, .slice (some ⟨lb, lo, none⟩) 4 lc, .slice (some ⟨pb, po, none⟩) 3 pc] 27)).alloc (.cells #[.slice z0 n0 k0, .slice z1 n1 k1, .slice z2 n2 k2, .slice z3 n3 k3, .slice z4 n4 k4] 39)) #[.slice ra 3 rc, .slice ta 4 tc, .slice sa 3 sc] 44 (by simp); simpa using this)
  have HB0 := hid hb0
  have HSZ := hid (show w0.heap.size = w.heap.size + 3 by rw [hw0]; simp)
  obtain ⟨b0, b1, b2⟩ := X0.out.three.1
  obtain ⟨t0, t1, t2, t3, t4⟩ := X1.out.five.1
  obtain ⟨i0, i1, i2⟩ := X2.out.three.1
  clear hc h hi hb0
  go_enter Tryz.func22, Tryz.ntmps22
  go_upto_region 1 with fail
  rw [← hw0, ← hg2, ← hg1]
  have HG1 := hid hg1; have HG2 := hid hg2
  clear hw0 hg1 hg2
  go_upto_region 3 with (first
    | (go_at_call 20; go_loud ((with_reducible refine (HOK.out _ HB0.out).mono ?_)); rintro e w1 ⟨rfl, hb1⟩; have HQ1 := hid hb1; have HB1 := hid (HB0.out.trans (hb1.mono HB0.out.size)); clear t0 t1 t2 t3 t4 b0 b1 b2 i0 i1 i2; obtain ⟨i0, i1, i2⟩ := (X2.out.below hb1 X2.out.lt).three.1; clear hb1)
    | (go_at_call 47; go_loud ((with_reducible refine (inOk_any _ _ _ _ _ _).mono ?_)); rintro e w2 ⟨rfl, hb2⟩; have HQ2 := hid (HQ1.out.trans (hb2.mono HQ1.out.size)); have HB2 := hid (HB1.out.trans (hb2.mono HB1.out.size)); clear hb2 i0 i1 i2))
  obtain ⟨t0, t1, t2, t3, t4⟩ := (X1.out.below HQ2.out X1.out.lt).five.1
  go_upto_region 4 with (go_at_call 46; go_loud ((with_reducible refine (HCP.out _ HB2.out).mono ?_)); rintro e w3 ⟨V, N, C, D, rfl, hcr, hb3⟩; have HQ3 := hid (HQ2.out.trans (hb3.mono HQ2.out.size)); have HB3 := hid (HB2.out.trans (hb3.mono HB2.out.size)); have HQ23 := hid hb3; obtain ⟨A, m, KK, e0, e1, e2, e3, e4⟩ := hcr.raw.sl; have HE := hid (show V 0 = .slice (A 0) (m 0) (KK 0) ∧ V 1 = .slice (A 1) (m 1) (KK 1) ∧ V 2 = .slice (A 2) (m 2) (KK 2) ∧ V 3 = .slice (A 3) (m 3) (KK 3) ∧ V 4 = .slice (A 4) (m 4) (KK 4) from ⟨e0, e1, e2, e3, e4⟩); rw [e0, e1, e2, e3, e4]; have HCR := hid hcr; clear hcr hb3 e0 e1 e2 e3 e4 t0 t1 t2 t3 t4)
  obtain ⟨w4, hw4⟩ : ∃ W, W = w3.alloc (.cells #[.slice (A 0) (m 0) (KK 0), .slice (A 1) (m 1) (KK 1), .slice (A 2) (m 2) (KK 2), .slice (A 3) (m 3) (KK 3), .slice (A 4) (m 4) (KK 4)] 39) := ⟨_, rfl⟩
  obtain ⟨S, hS⟩ : ∃ g, g = w3.heap.size := ⟨_, rfl⟩
  rw [← hw4, ← hS]
  have hb4 : Below w3.heap.size w3 w4 := by rw [hw4]; exact (Below.refl _ _).alloc (Nat.le_refl _) _
  have HCB := hid (HCR.out.box (S := S) hb4 (by omega) (by rw [HE.out.1, HE.out.2.1, HE.out.2.2.1, HE.out.2.2.2.1, HE.out.2.2.2.2, hw4]; exact alloc_at _ _ hS) HQ23.out.size)
  have HQ4 := hid (HQ3.out.trans (hb4.mono HQ3.out.size))
  have HB4 := hid (HB3.out.trans (hb4.mono HB3.out.size))
  obtain ⟨b0, b1, b2⟩ := (X0.out.below HQ4.out X0.out.lt).three.1
  obtain ⟨i0, i1, i2⟩ := (X2.out.below HQ4.out X2.out.lt).three.1
  have HST := hid (step_any hbus HCB.out hg (HBV.out.below (HB4.out.mono hB)) (HIV.out.below (HB4.out.mono hB)) (Nat.le_trans hB HB2.out.size))
  clear hw4 hS hb4
  go_wp2_with (first
    | (go_at_call 48; go_loud ((with_reducible refine (HST.out).mono ?_)); rintro e w5 ⟨V', N', C', D', ve, rfl, _, _, hb5, hev, _⟩; obtain ⟨va, vc, rfl, _⟩ := hev.shape; have HEV := hid hev; have HQ5 := hid hb5; clear hb5 hev b0 b1 b2 i0 i1 i2)
    | (go_at_call 56; go_loud ((with_reducible refine (clone_TlmEvent evRow (fun _ => rfl) evRow_one _ (evs c inp st) _ _ (HEV.out.arr (fun _ => rfl) (by have := evs_len c inp st; omega)) (by have := evs_len c inp st; omega)).mono ?_)); rintro e w6 ⟨v6, rfl, ho6, hb6⟩; have HO6 := hid ho6; have HB6 := hid hb6; clear ho6 hb6))
  go_ret
  exact ⟨v6, rfl, OwnR.rebase HO6.out (by have := HB4.out.size; have := HQ5.out.size; omega), (HB4.out.trans (HQ5.out.mono HB2.out.size)).trans (HB6.out.mono (by have := HB4.out.size; have := HQ5.out.size; omega))⟩
end Go.Proofs.YtenjbhbcacocjaaGreat
namespace Go.Proofs.YtenjbhbcacocjaaGreat
def WkOk (c : Cfg) (inp : Inp) (st : Cy) (e : Ev) : Prop :=
  e.kind = 2 ∧ e.who < 3 ∧ e.n < (c.prog e.who).length ∧ c.slv e.who e.n < 4 ∧ inp.stall.getD (c.slv e.who e.n) false = false ∧ ∃ rest, (st.slaves (c.slv e.who e.n)).pipe = ⟨e.who, e.n, 0⟩ :: rest
structure WkI (c : Cfg) (inp : Inp) (st : Cy) (l : List Ev) (x : Cy × List Ev) (k : Nat) : Prop where
  g : Good c x.1
  ev : ∃ es, x.2 = l ++ es ∧ (∀ e ∈ es, WkOk c inp st e ∧ c.slv e.who e.n < k) ∧ es.Pairwise (fun a b => c.slv a.who a.n < c.slv b.who b.n)
  pipe : ∀ s, k ≤ s → (x.1.slaves s).pipe = (st.slaves s).pipe
theorem WkI.skip {c : Cfg} {inp : Inp} {st : Cy} {l : List Ev} {x : Cy × List Ev} {k : Nat} (h : WkI c inp st l x k) : WkI c inp st l x (k + 1) := by
  obtain ⟨es, h1, h2, h3⟩ := h.ev
  exact ⟨h.g, ⟨es, h1, fun e he => ⟨(h2 e he).1, by have := (h2 e he).2; omega⟩, h3⟩, fun s hs => h.pipe s (by omega)⟩
theorem Good.slvKey {c : Cfg} {st : Cy} (h : Good c st) {s w n : Nat} (hs : s < 4) (hk : (w, n) ∈ keysOf (st.slaves s)) : c.slv w n = s := by
  obtain ⟨hw, o, ho, rfl, hl⟩ := h.key hs hk
  rw [← hl]; exact ((h.p w hw).o o ho).2.1.symm
theorem wkI_step {c : Cfg} (hb : Bus c) {inp : Inp} {st : Cy} {l : List Ev} {x : Cy × List Ev} {k : Nat} (hk : k < 4) (h : WkI c inp st l x k) : WkI c inp st l (work1 c inp k x) (k + 1) := by
  have hg := good_work1 hb (inp := inp) h.g hk
  obtain ⟨es, h1, h2, h3⟩ := h.ev
  unfold work1 at hg ⊢
  split
  · exact h.skip
  · rename_i hst
    split
    · exact h.skip
    · rename_i j rest hp
      rw [if_neg hst] at hg
      simp only [hp] at hg
      split
      · rename_i hl
        rw [if_pos hl] at hg
        refine ⟨hg, ⟨es, h1, fun e he => ⟨(h2 e he).1, by have := (h2 e he).2; omega⟩, h3⟩, fun s hs => ?_⟩
        simp only [workDec]
        rw [upd_other _ _ (show s ≠ k by omega)]
        exact h.pipe s (by omega)
      · rename_i hl
        rw [if_neg hl] at hg
        split
        · rename_i hd
          rw [if_pos hd] at hg
          have hin : (j.who, j.n) ∈ keysOf (x.1.slaves k) := by simp [keysOf, hp]
          have hw := (h.g.key hk hin).1
          have hn := h.g.keyN hk hin
          have hs := h.g.slvKey hk hin
          have hj0 : j.left = 0 := by omega
          refine ⟨hg, ⟨es ++ [⟨2, j.who, j.n⟩], by simp [workDo, h1], fun e he => ?_, ?_⟩, fun s hs2 => ?_⟩
          · rcases List.mem_append.1 he with he | he
            · exact ⟨(h2 e he).1, by have := (h2 e he).2; omega⟩
            · rw [List.mem_singleton.1 he]
              refine ⟨⟨rfl, hw, hn, by simp only; omega, by simp only; rw [hs]; simpa using hst, rest, ?_⟩, by simp only; omega⟩
              simp only
              rw [hs, ← h.pipe k (Nat.le_refl _), hp, ← hj0]
          · rw [List.pairwise_append]
            refine ⟨h3, List.pairwise_singleton _ _, fun a ha b hb2 => ?_⟩
            rw [List.mem_singleton.1 hb2]
            have := (h2 a ha).2
            simp only; omega
          · simp only [workDo]
            rw [upd_other _ _ (show s ≠ k by omega)]
            exact h.pipe s (by omega)
        · exact h.skip
theorem tell1_pipe {inp : Inp} {x : Cy × List Ev} {w : Nat} (s : Nat) : ((tell1 inp w x).1.slaves s).pipe = (x.1.slaves s).pipe := by
  unfold tell1
  split
  · split
    · rfl
    · rename_i k hk
      split
      · rfl
      · simp only [tellDo]
        by_cases hs : s = ((x.1.ports w).last + k) % 4
        · rw [hs, upd_same]
        · rw [upd_other _ _ hs]
  · rfl
theorem tell1_kind {inp : Inp} {x : Cy × List Ev} {w : Nat} (h : ∀ e ∈ x.2, e.kind = 3) : ∀ e ∈ (tell1 inp w x).2, e.kind = 3 := by
  unfold tell1
  split
  · split
    · exact h
    · split
      · exact h
      · intro e he
        rcases List.mem_append.1 he with he | he
        · exact h e he
        · rw [List.mem_singleton.1 he]
  · exact h
theorem ask1_ev {c : Cfg} {inp : Inp} {l : List Ev} {x : Cy × List Ev} {w : Nat} (h : ∃ a, x.2 = l ++ a ∧ ∀ e ∈ a, e.kind = 1) : ∃ a, (ask1 c inp w x).2 = l ++ a ∧ ∀ e ∈ a, e.kind = 1 := by
  obtain ⟨a, h1, h2⟩ := h
  unfold ask1
  split
  · refine ⟨a ++ [⟨1, w, (x.1.ports w).next⟩], by simp [askDo, h1], fun e he => ?_⟩
    rcases List.mem_append.1 he with he | he
    · exact h2 e he
    · rw [List.mem_singleton.1 he]
  · exact ⟨a, h1, h2⟩
theorem evs_law {c : Cfg} (hb : Bus c) {inp : Inp} {st : Cy} (hg : Good c st) : ∃ t es a, evs c inp st = t ++ es ++ a ∧ (∀ e ∈ t, e.kind = 3) ∧ (∀ e ∈ a, e.kind = 1) ∧ (∀ e ∈ es, WkOk c inp st e) ∧ es.Pairwise (fun a b => c.slv a.who a.n < c.slv b.who b.n) := by
  have h1 : Good c (tellAll inp (st, [])).1 ∧ (∀ s, ((tellAll inp (st, [])).1.slaves s).pipe = (st.slaves s).pipe) ∧ ∀ e ∈ (tellAll inp (st, [])).2, e.kind = 3 := by
    refine foldN_keep (P := fun x : Cy × List Ev => Good c x.1 ∧ (∀ s, (x.1.slaves s).pipe = (st.slaves s).pipe) ∧ ∀ e ∈ x.2, e.kind = 3) 3 (st, []) ⟨hg, fun _ => rfl, fun e he => by cases he⟩ ?_
    intro i x hi hx
    exact ⟨good_tell1 hx.1 hi, fun s => (tell1_pipe s).trans (hx.2.1 s), tell1_kind hx.2.2⟩
  obtain ⟨x1, hx1⟩ : ∃ x, x = tellAll inp (st, []) := ⟨_, rfl⟩
  rw [← hx1] at h1
  have h2 : WkI c inp st x1.2 (workAll c inp x1) 4 :=
    wkI_step hb (k := 3) (by omega) (wkI_step hb (k := 2) (by omega) (wkI_step hb (k := 1) (by omega) (wkI_step hb (k := 0) (x := x1) (by omega) ⟨h1.1, ⟨[], by simp, by simp, List.Pairwise.nil⟩, fun s _ => h1.2.1 s⟩)))
  obtain ⟨es, e1, e2, e3⟩ := h2.ev
  have h3 : ∃ a, (askAll c inp ((letAll c (workAll c inp x1).1).st, (workAll c inp x1).2)).2 = (workAll c inp x1).2 ++ a ∧ ∀ e ∈ a, e.kind = 1 :=
    foldN_keep (P := fun x : Cy × List Ev => ∃ a, x.2 = (workAll c inp x1).2 ++ a ∧ ∀ e ∈ a, e.kind = 1) 3 ((letAll c (workAll c inp x1).1).st, (workAll c inp x1).2) ⟨[], by simp, by simp⟩ fun _ _ _ hx => ask1_ev hx
  obtain ⟨a, a1, a2⟩ := h3
  refine ⟨x1.2, es, a, ?_, h1.2.2, a2, fun e he => (e2 e he).1, e3⟩
  rw [← e1, ← a1, hx1]; rfl
def doneN (c : Cfg) (s : Nat) (l : List Ev) : Nat := (l.filter (fun e => e.kind == 2 && c.slv e.who e.n == s)).length
theorem doneN_app (c : Cfg) (s : Nat) (a b : List Ev) : doneN c s (a ++ b) = doneN c s a + doneN c s b := by simp [doneN]
theorem doneN_no {c : Cfg} {s : Nat} {l : List Ev} (h : ∀ e ∈ l, ¬ (e.kind = 2 ∧ c.slv e.who e.n = s)) : doneN c s l = 0 := by
  unfold doneN
  rw [List.length_eq_zero_iff, List.filter_eq_nil_iff]
  intro e he
  simpa using h e he
theorem evs_at {c : Cfg} (hb : Bus c) {inp : Inp} {st : Cy} (hg : Good c st) {m : Nat} (hm : m < (evs c inp st).length) (hk : ((evs c inp st).getD m default).kind = 2) : WkOk c inp st ((evs c inp st).getD m default) ∧ doneN c (c.slv ((evs c inp st).getD m default).who ((evs c inp st).getD m default).n) ((evs c inp st).take m) = 0 := by
  obtain ⟨t, wk, a, e, ht, ha, hw, hp⟩ := evs_law hb (inp := inp) hg
  rw [e] at hm hk ⊢
  have g : ∀ {l1 l2 : List Ev} {i : Nat}, i < l1.length → (l1 ++ l2).getD i default = l1.getD i default := fun hi => by simp [List.getD, List.getElem?_append_left hi]
  have g2 : ∀ {l1 l2 : List Ev} {i : Nat}, l1.length ≤ i → (l1 ++ l2).getD i default = l2.getD (i - l1.length) default := fun hi => by simp [List.getD, List.getElem?_append_right hi]
  have mem : ∀ {l : List Ev} {i : Nat}, i < l.length → l.getD i default ∈ l := fun hi => by simp [List.getD, hi]
  by_cases h1 : m < t.length
  · rw [List.append_assoc, g h1] at hk
    have := ht _ (mem h1)
    omega
  · by_cases h2 : m - t.length < wk.length
    · have hlt : m < (t ++ wk).length := by rw [List.length_append]; omega
      rw [g hlt, g2 (Nat.le_of_not_lt h1)] at hk ⊢
      refine ⟨hw _ (mem h2), ?_⟩
      have htk : (t ++ wk ++ a).take m = t ++ wk.take (m - t.length) := by
        rw [List.append_assoc, List.take_append, List.take_of_length_le (by omega), List.take_append]
        simp [show m - t.length - wk.length = 0 by omega]
      rw [htk, doneN_app, doneN_no fun e he hc => by have := ht e he; omega, doneN_no fun e he hc => ?_]
      obtain ⟨i, hi, rfl⟩ := List.mem_iff_getElem.1 he
      rw [List.length_take] at hi
      have hq := List.pairwise_iff_getElem.1 hp i (m - t.length) (by omega) h2 (by omega)
      have he2 : wk.getD (m - t.length) default = wk[m - t.length] := by simp [List.getD, h2]
      rw [List.getElem_take, he2] at hc
      omega
    · have hge : (t ++ wk).length ≤ m := by rw [List.length_append]; omega
      rw [g2 hge] at hk
      have := ha _ (mem (i := m - (t ++ wk).length) (by simp only [List.length_append] at hm hge ⊢; omega))
      omega
end Go.Proofs.YtenjbhbcacocjaaGreat
namespace Go.Proofs.YtenjbhbcacocjaaGreat
open Go.RowKit
theorem InV.stalls {w : World} {B : Nat} {ra ta sa : Option Addr} {rc tc sc : Nat} {inp : Inp} (h : InV w B (.agg #[.slice ra 3 rc, .slice ta 4 tc, .slice sa 3 sc]) inp) : ∃ rb ro, ta = some ⟨rb, ro, none⟩ ∧ rb < B ∧ (∀ j, j < 4 → w.cell? ⟨rb, ro + j, none⟩ = some (.bool (inp.stall.getD j false))) := by
  obtain ⟨⟨ra', rc', ta', tc', sa', sc', e, _, k2, _⟩, _, l2, _⟩ := h
  simp only [Value.agg.injEq, Array.mk.injEq, List.cons.injEq, Value.slice.injEq, and_true] at e
  obtain ⟨_, ⟨rfl, _, rfl⟩, _⟩ := e
  obtain ⟨a1, c1, e1, _, _, _, _, h1⟩ := k2.opened
  simp only [Value.slice.injEq, true_and] at e1
  obtain ⟨rb, ro, rfl, q1, q2⟩ := h1 (by omega)
  exact ⟨rb, ro, e1.1, q1, fun j hj => q2 j (by omega)⟩
theorem Jbs.head {w : World} {B : Nat} {a : Option Addr} {n k : Nat} {j : Jb} {rest : List Jb} (h : Jbs w B (.slice a n k) (j :: rest)) : ∃ b o, a = some ⟨b, o, none⟩ ∧ n = rest.length + 1 ∧ b < B ∧ w.cell? ⟨b, o, none⟩ = some (.int .i64 j.who) ∧ w.cell? ⟨b, o + 1, none⟩ = some (.int .i64 j.n) ∧ w.cell? ⟨b, o + 2, none⟩ = some (.int .i64 j.left) := by
  obtain ⟨b, off, cap, e, _, _, hb, hc⟩ := Arr.at (f := jbRow) h (by simp)
  simp only [Value.slice.injEq, List.length_cons] at e
  obtain ⟨rfl, rfl, rfl⟩ := e
  have h0 := hc 0 default (by simp) 0 (by omega); have h1 := hc 0 default (by simp) 1 (by omega); have h2 := hc 0 default (by simp) 2 (by omega)
  exact ⟨b, off, rfl, rfl, hb, by simpa [jbRow] using h0, by simpa [jbRow] using h1, by simpa [jbRow] using h2⟩
theorem doneN_one1 {c : Cfg} (s : Nat) (l : List Ev) (e : Ev) : doneN c s (l ++ [e]) = doneN c s l + (if e.kind = 2 ∧ c.slv e.who e.n = s then 1 else 0) := by
  rw [doneN_app]
  congr 1
  unfold doneN
  by_cases h : e.kind = 2 ∧ c.slv e.who e.n = s
  · simp [h.1, h.2]
  · rw [if_neg h, List.filter_cons_of_neg (by simpa using h)]; rfl
def dn4 (c : Cfg) (l : List Ev) : List Value := [.int .i64 (doneN c 0 l : Nat), .int .i64 (doneN c 1 l : Nat), .int .i64 (doneN c 2 l : Nat), .int .i64 (doneN c 3 l : Nat)]
theorem dn4_at (c : Cfg) (l : List Ev) {s : Nat} (hs : s < 4) : (dn4 c l)[s]? = some (.int .i64 (doneN c s l : Nat)) := by
  obtain rfl | rfl | rfl | rfl : s = 0 ∨ s = 1 ∨ s = 2 ∨ s = 3 := by omega
  all_goals rfl
theorem dn4_set {c : Cfg} {l : List Ev} {e : Ev} (hk : e.kind = 2) {s : Nat} (he : c.slv e.who e.n = s) (hs : s < 4) : (dn4 c l).set s (.int .i64 ((doneN c s l : Nat) + 1 : Int)) = dn4 c (l ++ [e]) := by
  obtain rfl | rfl | rfl | rfl : s = 0 ∨ s = 1 ∨ s = 2 ∨ s = 3 := by omega
  all_goals
    unfold dn4
    simp only [doneN_one1, hk, he, true_and, reduceCtorEq, Nat.reduceEqDiff, ↓reduceIte, Nat.add_zero]
    simp only [List.set]
    simp
theorem dn4_other {c : Cfg} {l : List Ev} {e : Ev} (hk : e.kind ≠ 2) : dn4 c (l ++ [e]) = dn4 c l := by
  unfold dn4
  simp only [doneN_one1, hk, false_and, if_false, Nat.add_zero]
theorem reqSlave_nat {c : Cfg} (hbus : Bus c) {who n : Nat} (hw : who < 3) (hn : n < (c.prog who).length) {args : Array Value} {w : World} (h : Calls Tryz.prog 23 args w fun e w' => e = .returned (.int .i64 (if (mapOk c.ms && reqOk ((c.prog who).getD n default)) = true then slaveOf c.ms ((c.prog who).getD n default) else -1)) ∧ Below w.heap.size w w') :
    Calls Tryz.prog 23 args w fun e w' => e = .returned (.int .i64 (c.slv who n : Nat)) ∧ Below w.heap.size w w' := by
  refine h.mono ?_
  rintro e w' ⟨rfl, hb⟩
  have hok : (mapOk c.ms && reqOk ((c.prog who).getD n default)) = true := by rw [Bool.and_eq_true]; exact ⟨hbus.ms, hbus.req hw hn⟩
  rw [if_pos hok]
  exact ⟨congrArg (fun x => Ending.returned (.int .i64 x)) (slv_nat hbus.ms), hb⟩
theorem left_le {c : Cfg} {s : Nat} {v : Sv} (h : SGood c s v) {i : Nat} (hi : i < v.pipe.length) : (v.pipe.getD i default).left ≤ c.lt s := by
  cases hp : v.pipe with
  | nil => rw [hp] at hi; exact absurd hi (Nat.not_lt_zero _)
  | cons j rest =>
    obtain ⟨h1, h2⟩ := h.pl j rest hp
    rw [hp, List.length_cons] at hi
    cases i with
    | zero => exact h1
    | succ i =>
      have hm : i < rest.length := by omega
      have : ((j :: rest).getD (i + 1) default) ∈ rest := by simp [List.getD, hm]
      exact Nat.le_of_eq (h2 _ this)
end Go.Proofs.YtenjbhbcacocjaaGreat
