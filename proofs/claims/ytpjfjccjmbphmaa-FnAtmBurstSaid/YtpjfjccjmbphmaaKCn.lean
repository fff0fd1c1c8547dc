/-
  crOne of the laws: one word of what is asked.
-/
import Derived.Test.YtpjfjccjmbphmaaJSa3
set_option linter.unusedVariables false
set_option linter.unusedSimpArgs false
namespace Go.Proofs.Ytpjfjccjmbphmaa
open Go.RowKit

theorem ints_cell {W : World} {b B : Nat} {x : Int} (h : W.cell? ⟨b, 0, none⟩ = some (.int .i64 x)) (hx : I64 x) (hb : b < B) : Ints W B (.slice (some ⟨b, 0, none⟩) 1 1) [x] := by
  refine ⟨⟨some ⟨b, 0, none⟩, 1, rfl, by simp, by omega, by simp, (fun h => by cases h), fun _ => ⟨b, 0, rfl, hb, fun t ht j hj => ?_⟩⟩, by intro y hy; simp only [List.mem_singleton] at hy; rw [hy]; exact hx⟩
  have ht0 : t = 0 := by simp at ht; omega
  have hj0 : j = 0 := by omega
  subst ht0 hj0
  simpa [rowI] using h
theorem loadVar_rq (w : World) (g : Nat) (a b c d e f h : Value) (h0 : w.cell? ⟨g, 0, none⟩ = some a) (h1 : w.cell? ⟨g, 1, none⟩ = some b) (h2 : w.cell? ⟨g, 2, none⟩ = some c) (h3 : w.cell? ⟨g, 3, none⟩ = some d) (h4 : w.cell? ⟨g, 4, none⟩ = some e) (h5 : w.cell? ⟨g, 5, none⟩ = some f) (h6 : w.cell? ⟨g, 6, none⟩ = some h) :
    (loadVar 30 ⟨g, 0, none⟩).run Try.prog w = .ok (.agg #[a, b, c, d, e, f, h]) w := by
  simp [loadVar, go_sem, h0, h1, h2, h3, h4, h5, h6]

set_option maxRecDepth 4000 in
set_option maxHeartbeats 4000000 in
theorem crOne_any (dv lv : Value) (r : Rq) (a : Int) (k B : Nat) (w : World) (hd : Ints w B dv r.data) (hl : Ints w B lv r.lanes) (hB : B ≤ w.heap.size) (hi : I64 r.id ∧ I64 r.kind) (ha : I64 a) (hk : r.kind = 2 → k < r.data.length ∧ k < r.lanes.length) :
    Calls Try.prog 29 #[.agg #[.int .i64 r.id, .int .i64 r.kind, .int .i64 r.addr, .int .i64 r.many, .bool r.wrap, dv, lv], .int .i64 a, .int .i64 k] w fun e w' => ∃ v, e = .returned v ∧ ReqV w' w'.heap.size v (oneOf r a k) ∧ Below w.heap.size w w' := by
  obtain ⟨d1, d2, rfl, _, _, _, _, hdr⟩ := hd.opened
  obtain ⟨l1, l2, rfl, _, _, _, _, hlr⟩ := hl.opened
  have H64D := hid hd.2; have H64L := hid hl.2
  clear hd hl
  by_cases h2 : r.kind = 2
  · obtain ⟨k1, k2⟩ := hk h2
    obtain ⟨db, dw, rfl, dbl, dc⟩ := hdr (by omega)
    obtain ⟨lb, lw, rfl, lbl, lc⟩ := hlr (by omega)
    have cd := dc k k1
    have cl := lc k k2
    obtain ⟨dn, hdn⟩ : ∃ o, o = r.data.getD k 0 := ⟨_, rfl⟩
    obtain ⟨ln, hln⟩ : ∃ o, o = r.lanes.getD k 0 := ⟨_, rfl⟩
    rw [← hdn] at cd; rw [← hln] at cl
    have HD64 := hid (show I64 dn by rw [hdn]; exact H64D.out _ (getD_mem k1))
    have HL64 := hid (show I64 ln by rw [hln]; exact H64L.out _ (getD_mem k2))
    have HO := hid (show oneOf r a k = ⟨r.id, r.kind, a, 1, false, [dn], [ln]⟩ by unfold oneOf; rw [if_pos h2, if_pos h2, hdn, hln])
    have hq : (r.kind == 2) = true := by simp [h2]
    have t1 : db < w.heap.size := by omega
    have t2 : lb < w.heap.size := by omega
    have t11 : db < w.heap.size + 1 := by omega
    have t21 : lb < w.heap.size + 1 := by omega
    have n11 : db ≠ w.heap.size + 1 := by omega
    have n21 : lb ≠ w.heap.size + 1 := by omega
    have t12 : db < w.heap.size + 1 + 1 := by omega
    have t22 : lb < w.heap.size + 1 + 1 := by omega
    have n12 : db ≠ w.heap.size + 1 + 1 := by omega
    have n22 : lb ≠ w.heap.size + 1 + 1 := by omega
    have t13 : db < w.heap.size + 1 + 1 + 1 := by omega
    have t23 : lb < w.heap.size + 1 + 1 + 1 := by omega
    have n13 : db ≠ w.heap.size + 1 + 1 + 1 := by omega
    have n23 : lb ≠ w.heap.size + 1 + 1 + 1 := by omega
    have t14 : db < w.heap.size + 1 + 1 + 1 + 1 := by omega
    have t24 : lb < w.heap.size + 1 + 1 + 1 + 1 := by omega
    have n14 : db ≠ w.heap.size + 1 + 1 + 1 + 1 := by omega
    have n24 : lb ≠ w.heap.size + 1 + 1 + 1 + 1 := by omega
    have n10 : db ≠ w.heap.size := by omega
    have n20 : lb ≠ w.heap.size := by omega
    clear h2 hdr hlr dc lc hk hdn hln
    go_enter Try.func29, Try.ntmps29
    go_wp2_with fail
    refine bodyPost_ret (results_c1 Try.results29 _ _ ⟨w.heap.size + 1, 0, none⟩ (.agg #[.int .i64 r.id, .int .i64 r.kind, .int .i64 a, .int .i64 1, .bool false, .slice (some ⟨w.heap.size + 3, 0, none⟩) 1 1, .slice (some ⟨w.heap.size + 4, 0, none⟩) 1 1]) rfl ?_) rfl ?_
    · exact loadVar_rq _ _ _ _ _ _ _ _ _ (by simp [go_sem]) (by simp [go_sem]) (by simp [go_sem]) (by simp [go_sem]) (by simp [go_sem]) (by simp [go_sem]) (by simp [go_sem])
    refine ⟨_, rfl, ?_, ?_⟩
    · rw [HO.out]
      refine ⟨_, _, rfl, ints_cell (by simp [go_sem]) HD64.out (by simp [World.setCell]), ints_cell (by simp [go_sem]) HL64.out (by simp [World.setCell]), hi.1, hi.2, ha, by unfold I64; simp only; omega⟩
    · exact (((((Below.refl _ _).alloc (Nat.le_refl _) _).alloc (by simp) _).alloc (by simp; omega) _).alloc (by simp; omega) _).alloc (by simp; omega) _
  · have HO := hid (show oneOf r a k = ⟨r.id, r.kind, a, 1, false, [], []⟩ by unfold oneOf; rw [if_neg h2, if_neg h2])
    have hq : (r.kind == 2) = false := by simpa using h2
    clear h2 hdr hlr hk
    go_enter Try.func29, Try.ntmps29
    go_wp2_with fail
    refine bodyPost_ret (results_c1 Try.results29 _ _ ⟨w.heap.size + 1, 0, none⟩ (.agg #[.int .i64 r.id, .int .i64 r.kind, .int .i64 a, .int .i64 1, .bool false, .slice none 0 0, .slice none 0 0]) rfl ?_) rfl ?_
    · exact loadVar_rq _ _ _ _ _ _ _ _ _ (by simp [go_sem]) (by simp [go_sem]) (by simp [go_sem]) (by simp [go_sem]) (by simp [go_sem]) (by simp [go_sem]) (by simp [go_sem])
    refine ⟨_, rfl, ?_, ?_⟩
    · rw [HO.out]
      exact ⟨_, _, rfl, Ints.nil _ _, Ints.nil _ _, hi.1, hi.2, ha, by unfold I64; simp only; omega⟩
    · exact (((Below.refl _ _).alloc (Nat.le_refl _) _).alloc (by simp) _).alloc (by simp; omega) _

end Go.Proofs.Ytpjfjccjmbphmaa
