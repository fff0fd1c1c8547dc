/-
  AtmDo of the reference, as it is read behind the call.
-/
import Derived.Test.YteamebdehembgaaKSa2
set_option linter.unusedVariables false
set_option linter.unusedSimpArgs false
namespace Go.Proofs.Yteamebdehembgaa
open Go.RowKit

theorem specAtmDo_any (v sv u : Value) (ms : List MR) (B : Nat) (ws hs : List Int) (who : Int) (r : Rq) (w : World) (hv : Maps w B v ms) (hs1 : AtmV w B sv ws hs) (hu : ReqV w B u r) (hB : B ≤ w.heap.size) :
    Calls Try.prog 29 #[v, sv, .int .i64 who, u] w (AtmDoP (atmDo ms ws hs who r) w) := by
  unfold atmDo
  rcases hc : (mapOk ms && atmOk ws hs && inB who 0 2 && reqOk r) with _ | _
  · rw [if_neg (by simp)]
    exact specAtmDo_no v sv u ms B ws hs who r w hv hs1 hu hB hc
  · rw [if_pos rfl]
    simp only [Bool.and_eq_true] at hc
    exact specAtmDo_yes v sv u ms B ws hs who r w hv hs1 hu hB hc.1.1.1 hc.1.1.2 hc.1.2 hc.2

theorem specDo_v (v sv u : Value) (ms : List MR) (B : Nat) (ws hs : List Int) (who : Int) (r : Rq) (w : World) (hv : Maps w B v ms) (hs1 : AtmV w B sv ws hs) (hu : ReqV w B u r) (hB : B ≤ w.heap.size) :
    Calls Try.prog 29 #[v, sv, .int .i64 who, u] w (DoV (atmDo ms ws hs who r) w) := by
  have hs := atmDo_small ms ws hs who r
  refine (specAtmDo_any v sv u ms B ws _ who r w hv hs1 hu hB).mono ?_
  rintro e w' ⟨wv, hv', dv, rfl, o1, o2, o3, _, _, _, hb⟩
  have i1 := o1.ints (by have := hs.lw; omega) hs.w
  have i2 := o2.ints (by have := hs.lh; omega) hs.h
  have i3 := o3.ints (by have := hs.ld; omega) hs.d
  obtain ⟨q1, k1, rfl, _, _⟩ := o1.shape
  obtain ⟨q2, k2, rfl, _, _⟩ := o2.shape
  obtain ⟨q3, k3, rfl, _, _⟩ := o3.shape
  exact ⟨_, _, _, _, _, _, rfl, i1, i2, i3, hb⟩

end Go.Proofs.Yteamebdehembgaa
