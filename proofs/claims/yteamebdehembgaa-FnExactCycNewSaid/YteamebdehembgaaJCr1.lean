/-
  One thing at once, as it is read behind the call: by value, with shapes.
-/
import Derived.Test.YteamebdehembgaaJPl1
set_option linter.unusedVariables false
set_option linter.unusedSimpArgs false
namespace Go.Proofs.Yteamebdehembgaa
open Go.RowKit

theorem crOk_any (w : World) : Calls Try.prog 13 #[] w fun e w' => e = .returned (.bool true) ∧ w = w' := by
  go_enter Try.func13, Try.ntmps13
  go_wp2_with (first | (go_at_call 64; refine (implAdrOk_any _ _ _ _).mono ?_; rw [show adrOk 5 1 false = true by decide]; rintro e w' ⟨rfl, rfl⟩))
  go_ret
  exact ⟨rfl, rfl⟩

set_option maxHeartbeats 1000000 in
/-- The same numbers are the same. -/
theorem crInts_same (v u : Value) (xs : List Int) (B C : Nat) (w : World) (hv : Ints w B v xs) (hu : Ints w C u xs) :
    Calls Try.prog 58 #[v, u] w fun e w' => e = .returned (.bool true) ∧ Drew w w' := by
  obtain ⟨ao, cap, rfl, hlc, hcap, hln, hni, hr⟩ := hv.opened
  obtain ⟨bo, cbp, rfl, hlc2, hcap2, hln2, hni2, hr2⟩ := hu.opened
  clear hv hu
  go_enter Try.func58, Try.ntmps58
  go_wp2_with fail
  go_loopw [5] (fun i wr => ∃ k n : Nat, k ≤ xs.length ∧ i = .int .i64 k ∧ wr = w.drewN n) (fun i _ => xs.length - (intOf i).toNat)
  case atStart => exact ⟨0, 0, Nat.zero_le _, rfl, rfl⟩
  case round =>
    obtain ⟨k, n, hk, rfl, rfl⟩ := hrel
    by_cases hlt : k < xs.length
    · obtain ⟨b, off, rfl, hb, hc⟩ := hr (by omega)
      obtain ⟨b2, off2, rfl, hb2, hc2⟩ := hr2 (by omega)
      have hck := hc k hlt
      have hck2 := hc2 k hlt
      obtain ⟨x, hx⟩ : ∃ x, x = xs.getD k 0 := ⟨_, rfl⟩
      rw [← hx] at hck hck2
      have hq2 : (x != x) = false := by simp
      clear hc hr hc2 hr2 hx
      go_wp2_with fail
      go_quiet (fail)
      go_wp2_with fail
      go_roundw
      case rel => exact ⟨k + 1, _, by omega, by go_num, rfl⟩
      case measure => simp [intOf]; omega
    · go_wp2_with fail
      go_ret
      exact ⟨rfl, by first | exact Drew.one .. | exact Drew.two ..⟩

end Go.Proofs.Yteamebdehembgaa

namespace Go.Proofs.Yteamebdehembgaa
open Go.RowKit

structure Small (x : List Int × List Int × Rs) : Prop where
  w : ∀ y ∈ x.1, I64 y
  h : ∀ y ∈ x.2.1, I64 y
  d : ∀ y ∈ x.2.2.data, I64 y
  i : I64 x.2.2.id
  c : I64 x.2.2.code
  lw : x.1.length ≤ 64
  lh : x.2.1.length ≤ 6
  ld : x.2.2.data.length ≤ 4
theorem word64 {n : Int} (h : wordOk n = true) : I64 n := by
  simp only [wordOk, inB, Bool.and_eq_true, decide_eq_true_eq] at h; unfold I64; omega
theorem atmDo_small (ms : List MR) (ws hs : List Int) (who : Int) (r : Rq) : Small (atmDo ms ws hs who r) := by
  rcases h : atmOkk ms ws hs who r with _ | _
  · rw [atmDo_no h]
    exact ⟨by simp, by simp, by simp, by simp [I64], by simp [I64], by simp, by simp, by simp⟩
  · have h1 := hold_len h
    obtain ⟨h2, h3⟩ := rsp_law h
    obtain ⟨a1, a2, a3, a4⟩ := atmOk_parts h1
    simp only [rspOk, inB, Bool.and_eq_true, decide_eq_true_eq] at h2
    rw [List.all_eq_true] at a3 a4
    refine ⟨fun y hy => word64 (a3 y hy), fun y hy => ?_, fun y hy => word64 (List.all_eq_true.1 h2.2 y hy), ?_, ?_, by omega, by omega, by omega⟩
    · have := a4 y hy
      simp only [inB, Bool.and_eq_true, decide_eq_true_eq] at this
      unfold I64; omega
    · unfold I64; omega
    · unfold I64; omega

/-- What AtmDo comes to, as it is read. -/
def DoV (x : List Int × List Int × Rs) (w : World) (e : Ending) (w' : World) : Prop :=
  ∃ wa wc ha hc da dc, e = .returned (.tuple #[.agg #[.slice wa x.1.length wc, .slice ha x.2.1.length hc], .agg #[.int .i64 x.2.2.id, .int .i64 x.2.2.code, .slice da x.2.2.data.length dc]]) ∧
    Ints w' w'.heap.size (.slice wa x.1.length wc) x.1 ∧ Ints w' w'.heap.size (.slice ha x.2.1.length hc) x.2.1 ∧ Ints w' w'.heap.size (.slice da x.2.2.data.length dc) x.2.2.data ∧ Below w.heap.size w w'
theorem implDo_v (v sv u : Value) (ms : List MR) (B : Nat) (ws hs : List Int) (who : Int) (r : Rq) (w : World) (hv : Maps w B v ms) (hs1 : AtmV w B sv ws hs) (hu : ReqV w B u r) (hB : B ≤ w.heap.size) :
    Calls Try.prog 33 #[v, sv, .int .i64 who, u] w (DoV (atmDo ms ws hs who r) w) := by
  have hs := atmDo_small ms ws hs who r
  refine (implAtmDo_any v sv u ms B ws _ who r w hv hs1 hu hB).mono ?_
  rintro e w' ⟨wv, hv', dv, rfl, o1, o2, o3, _, _, _, hb⟩
  have i1 := o1.ints (by have := hs.lw; omega) hs.w
  have i2 := o2.ints (by have := hs.lh; omega) hs.h
  have i3 := o3.ints (by have := hs.ld; omega) hs.d
  obtain ⟨q1, k1, rfl, _, _⟩ := o1.shape
  obtain ⟨q2, k2, rfl, _, _⟩ := o2.shape
  obtain ⟨q3, k3, rfl, _, _⟩ := o3.shape
  exact ⟨_, _, _, _, _, _, rfl, i1, i2, i3, hb⟩

/-- What comes of a thing, boxed at block g. -/
def Box2 (w : World) (g : Nat) (a b : Value) : Prop := w.cell? ⟨g, 0, none⟩ = some a ∧ w.cell? ⟨g, 1, none⟩ = some b
def Box3 (w : World) (g : Nat) (a b c : Value) : Prop := w.cell? ⟨g, 0, none⟩ = some a ∧ w.cell? ⟨g, 1, none⟩ = some b ∧ w.cell? ⟨g, 2, none⟩ = some c
theorem Box2.below {w w' : World} {g C : Nat} {a b : Value} (h : Box2 w g a b) (hb : Below C w w') (hg : g < C) : Box2 w' g a b :=
  ⟨by rw [hb.cell (by exact hg)]; exact h.1, by rw [hb.cell (by exact hg)]; exact h.2⟩
theorem Box3.below {w w' : World} {g C : Nat} {a b c : Value} (h : Box3 w g a b c) (hb : Below C w w') (hg : g < C) : Box3 w' g a b c :=
  ⟨by rw [hb.cell (by exact hg)]; exact h.1, by rw [hb.cell (by exact hg)]; exact h.2.1, by rw [hb.cell (by exact hg)]; exact h.2.2⟩
theorem Box2.lt {w : World} {g : Nat} {a b : Value} (h : Box2 w g a b) : g < w.heap.size := World.block_lt_of_cell? w _ h.1
theorem Box3.lt {w : World} {g : Nat} {a b c : Value} (h : Box3 w g a b c) : g < w.heap.size := World.block_lt_of_cell? w _ h.1
/-- Behind two new boxes, and what makes memory. -/
theorem two_below {w w' : World} {o p : Obj} (hb : Below ((w.alloc o).alloc p).heap.size ((w.alloc o).alloc p) w') : Below w.heap.size w w' ∧ w.heap.size + 2 ≤ w'.heap.size :=
  ⟨(((Below.refl _ _).alloc (Nat.le_refl _) _).alloc (by simp) _).trans (hb.mono (by simp; omega)), by have := hb.size; simp at this; omega⟩
theorem two_in (w : World) (o p : Obj) : Below w.heap.size w ((w.alloc o).alloc p) := ((Below.refl _ _).alloc (Nat.le_refl _) _).alloc (by simp) _

end Go.Proofs.Yteamebdehembgaa
