/-
  MapOk of the reference.
-/
import Derived.Test.YteamebdehembgaaKReq
set_option linter.unusedVariables false
set_option linter.unusedSimpArgs false
namespace Go.Proofs.Yteamebdehembgaa
open Go.RowKit

theorem Same.quiet2 {P : Program} {f : FuncId} {args : Array Value} {w : World} {n x : Nat} {v : Value}
    (h : Calls P f args (w.drewN (n + x)) fun e w' => e = .returned v ∧ w.drewN (n + x) = w') : Calls P f args (w.drewN (n + x)) fun e w'' => e = .returned v ∧ ∃ m, w'' = w.drewN (n + m) :=
  h.mono fun _ _ ⟨he, hm⟩ => ⟨he, x, hm.symm⟩
theorem Drew.quiet2 {P : Program} {f : FuncId} {args : Array Value} {w : World} {n x : Nat} {v : Value}
    (h : Calls P f args (w.drewN (n + x)) fun e w' => e = .returned v ∧ Drew (w.drewN (n + x)) w') : Calls P f args (w.drewN (n + x)) fun e w'' => e = .returned v ∧ ∃ m, w'' = w.drewN (n + m) :=
  h.mono fun _ _ ⟨he, m, hm⟩ => ⟨he, x + m, by rw [hm, World.drewN_drewN, Nat.add_assoc]⟩

theorem findIdx_hit {ms : List MR} {p : MR → Bool} {k : Nat} (hlt : k < ms.length) (h : p (ms.getD k default) = true) (hno : ∀ j, j < k → p (ms.getD j default) = false) : ms.findIdx? p = some k := by
  rw [List.findIdx?_eq_some_iff_getElem]
  exact ⟨hlt, by simpa [List.getD, hlt] using h, fun j hj => by have := hno j hj; simp [List.getD, show j < ms.length by omega] at this; simpa using this⟩
theorem rngOf_hit {ms : List MR} {a : Int} {k : Nat} (hlt : k < ms.length) (h : inB a (ms.getD k default).fr (ms.getD k default).to = true) (hno : ∀ j, j < k → inB a (ms.getD j default).fr (ms.getD j default).to = false) : rngOf ms a = k := by
  unfold rngOf; rw [findIdx_hit hlt h hno]
theorem rngOf_miss {ms : List MR} {a : Int} (hno : ∀ j, j < ms.length → inB a (ms.getD j default).fr (ms.getD j default).to = false) : rngOf ms a = -1 := by
  unfold rngOf
  have : ms.findIdx? (fun r => inB a r.fr r.to) = none := by
    rw [List.findIdx?_eq_none_iff]
    intro x hx
    obtain ⟨i, hi, rfl⟩ := List.mem_iff_getElem.1 hx
    have := hno i hi
    simpa [List.getD, hi] using this
  rw [this]
theorem rngOf_lt (ms : List MR) (a : Int) : rngOf ms a < ms.length := by
  unfold rngOf
  split
  · rename_i k h
    obtain ⟨h1, _⟩ := List.findIdx?_eq_some_iff_getElem.1 h
    omega
  · omega
theorem rngOf_ge (ms : List MR) (a : Int) : -1 ≤ rngOf ms a := by
  unfold rngOf
  split <;> omega

set_option maxHeartbeats 1000000 in
theorem l1Find_any (v : Value) (ms : List MR) (a : Int) (B : Nat) (w : World) (hv : Maps w B v ms) :
    Calls Try.prog 178 #[v, .int .i64 a] w fun e w' => e = .returned (.int .i64 (rngOf ms a)) ∧ Drew w w' := by
  obtain ⟨ao, cap, rfl, hlc, hcap, hln, hni, hr⟩ := hv.opened
  clear hv
  go_enter Try.func178, Try.ntmps178
  go_wp2_with fail
  go_loopw [5] (fun i wr => ∃ k n : Nat, k ≤ ms.length ∧ i = .int .i64 k ∧ wr = w.drewN n ∧ ∀ j, j < k → inB a (ms.getD j default).fr (ms.getD j default).to = false) (fun i _ => ms.length - (intOf i).toNat)
  case atStart => exact ⟨0, 0, Nat.zero_le _, rfl, rfl, by simp⟩
  case round =>
    obtain ⟨k, n, hk, rfl, rfl, hno⟩ := hrel
    have HN := hid hno; clear hno
    by_cases hlt : k < ms.length
    · obtain ⟨b, off, rfl, hb, hc⟩ := hr (by omega)
      obtain ⟨c0, c1, c2, c3⟩ := hc k hlt
      obtain ⟨x, hx⟩ : ∃ x, x = ms.getD k default := ⟨_, rfl⟩
      rw [← hx] at c0 c1
      have HX := hid hx; clear hx hc hr c2 c3
      have hP := fun w => l1In_any a x.fr x.to w
      rcases hp : inB a x.fr x.to with _ | _
      all_goals rw [hp] at hP
      · have HQ := hid (all_step HN.out (show inB a (ms.getD k default).fr (ms.getD k default).to = false by rw [← HX.out]; exact hp))
        go_wp2_with fail
        go_quiet ((go_at_call 60; first | exact Same.quiet2 (hP _) | exact Same.quiet (hP _)))
        go_wp2_with fail
        go_roundw
        case rel => exact ⟨k + 1, _, by omega, by go_num, rfl, HQ.out⟩
        case measure => simp [intOf]; omega
      · have HF := hid (rngOf_hit hlt (show inB a (ms.getD k default).fr (ms.getD k default).to = true by rw [← HX.out]; exact hp) HN.out)
        go_wp2_with fail
        go_quiet ((go_at_call 60; first | exact Same.quiet2 (hP _) | exact Same.quiet (hP _)))
        go_wp2_with fail
        go_ret
        exact ⟨by rw [HF.out]; rfl, by first | exact Drew.one .. | exact Drew.two ..⟩
    · have HF := hid (rngOf_miss (ms := ms) (a := a) (fun j hj => HN.out j (by omega)))
      go_wp2_with fail
      go_ret
      exact ⟨by rw [HF.out]; rfl, by first | exact Drew.one .. | exact Drew.two ..⟩

def wholeIs (ms : List MR) (xs : List Int) (k : Nat) : Prop := ∀ j, j < k → rngOf ms (xs.getD j 0) = rngOf ms (xs.getD 0 0)
theorem wholeOf_nil {ms : List MR} {xs : List Int} (h : xs.length = 0) : wholeOf ms xs = -1 := by
  obtain rfl := List.eq_nil_of_length_eq_zero h; rfl
theorem wholeOf_all {ms : List MR} {xs : List Int} (h0 : xs.length ≠ 0) (h : wholeIs ms xs xs.length) : wholeOf ms xs = rngOf ms (xs.getD 0 0) := by
  rcases xs with _ | ⟨a, rest⟩
  · simp at h0
  · have : rest.all (fun b => rngOf ms b == rngOf ms a) = true := by
      rw [List.all_eq_true]
      intro x hx
      obtain ⟨i, hi, rfl⟩ := List.mem_iff_getElem.1 hx
      have := h (i + 1) (by simpa using hi)
      simpa [List.getD, hi] using this
    simp [wholeOf, this]
theorem wholeOf_bad {ms : List MR} {xs : List Int} {k : Nat} (hk : k < xs.length) (h : rngOf ms (xs.getD k 0) ≠ rngOf ms (xs.getD 0 0)) : wholeOf ms xs = -1 := by
  rcases xs with _ | ⟨a, rest⟩
  · simp at hk
  · have : rest.all (fun b => rngOf ms b == rngOf ms a) = false := by
      rw [List.all_eq_false]
      rcases k with _ | k
      · simp at h
      · have hk' : k < rest.length := by simpa using hk
        exact ⟨rest[k], List.getElem_mem _, by simpa [List.getD, hk'] using h⟩
    simp [wholeOf, this]
theorem wholeOf_neg {ms : List MR} {xs : List Int} {k : Nat} (hk : k < xs.length) (h : rngOf ms (xs.getD k 0) < 0) (hn : wholeIs ms xs k) : wholeOf ms xs = -1 := by
  by_cases e : rngOf ms (xs.getD k 0) = rngOf ms (xs.getD 0 0)
  · have hm : rngOf ms (xs.getD 0 0) = -1 := by have := rngOf_ge ms (xs.getD 0 0); omega
    rcases xs with _ | ⟨a, rest⟩
    · simp at hk
    · simp only [wholeOf]
      split
      · simpa using hm
      · rfl
  · exact wholeOf_bad hk e
theorem wholeOf_lt (ms : List MR) (xs : List Int) : wholeOf ms xs < ms.length := by
  rcases xs with _ | ⟨a, rest⟩
  · simp [wholeOf]; omega
  · simp only [wholeOf]
    split
    · exact rngOf_lt ms a
    · omega

set_option maxHeartbeats 1000000 in
theorem l1Whole_any (v u : Value) (ms : List MR) (xs : List Int) (B : Nat) (w : World) (hv : Maps w B v ms) (hu : Ints w B u xs) :
    Calls Try.prog 148 #[v, u] w fun e w' => e = .returned (.int .i64 (wholeOf ms xs)) ∧ Drew w w' := by
  obtain ⟨ao, cap, rfl, hlc, hcap, hln, hni, hr⟩ := hu.opened
  by_cases he : xs.length = 0
  · have hg : ((xs.length : Int) == 0) = true := by simp [he]
    have HE := hid (wholeOf_nil (ms := ms) he)
    clear he
    go_enter Try.func148, Try.ntmps148
    go_wp2_with fail
    go_ret
    exact ⟨by rw [HE.out]; rfl, Drew.refl _⟩
  · have hg : ((xs.length : Int) == 0) = false := by simpa using he
    obtain ⟨b, off, rfl, hb, hc⟩ := hr he
    have hc0 := hc 0 (by omega)
    rw [Nat.add_zero] at hc0
    obtain ⟨r0, hr0⟩ : ∃ r, r = rngOf ms (xs.getD 0 0) := ⟨_, rfl⟩
    have HR := hid hr0; clear hr0
    obtain ⟨x0, hx0⟩ : ∃ r, r = xs.getD 0 0 := ⟨_, rfl⟩
    rw [← hx0] at hc0
    rw [← hx0] at HR
    have HX0 := hid hx0; clear hx0
    have HL := hid (fun (n : Nat) (x : Int) => l1Find_any v ms x B (w.drewN n) (hv.below (Below.draws (Below.refl _ _) n)))
    clear hr
    have hlen1 : 1 ≤ xs.length := by omega
    have hw1 : wholeIs ms xs 1 := by
      intro j hj
      obtain rfl : j = 0 := by omega
      rfl
    go_enter Try.func148, Try.ntmps148
    go_wp2_with (first | (go_at_call 178; refine (HL.out 0 x0).mono ?_; rw [← HR.out]; rintro e w1 ⟨rfl, n1, rfl⟩))
    go_loopw [6] (fun i wr => ∃ k n : Nat, 1 ≤ k ∧ k ≤ xs.length ∧ i = .int .i64 k ∧ wr = w.drewN n ∧ wholeIs ms xs k) (fun i _ => xs.length - (intOf i).toNat)
    case atStart => exact ⟨1, _, by omega, hlen1, rfl, by first | rfl | simp, hw1⟩
    case round =>
      obtain ⟨k, n, hk0, hk, rfl, rfl, hno⟩ := hrel
      have HN := hid hno; clear hno
      by_cases hlt : k < xs.length
      · have hck := hc k hlt
        obtain ⟨x, hx⟩ : ∃ x, x = xs.getD k 0 := ⟨_, rfl⟩
        rw [← hx] at hck
        have HX := hid hx; have HC := hid hc; clear hx hc
        obtain ⟨rx, hrx⟩ : ∃ r, r = rngOf ms x := ⟨_, rfl⟩
        have HRX := hid hrx; clear hrx
        by_cases hq : rx = r0
        · have HQ := hid (show wholeIs ms xs (k + 1) from all_step HN.out (by rw [← HX.out, ← HX0.out, ← HRX.out, ← HR.out]; exact hq))
          have hq2 : (rx != r0) = false := by simp [hq]
          clear hq
          go_wp2_with (first | (go_at_call 178; refine (HL.out n x).mono ?_; rw [← HRX.out]; rintro e w1 ⟨rfl, n1, rfl⟩))
          go_roundw
          case rel => exact ⟨k + 1, _, by omega, by omega, by go_num, by first | rfl | simp, HQ.out⟩
          case measure => simp [intOf]; omega
        · have HF := hid (wholeOf_bad (ms := ms) hlt (by rw [← HX.out, ← HX0.out, ← HRX.out, ← HR.out]; exact hq))
          have hq2 : (rx != r0) = true := by simp [hq]
          clear hq
          go_wp2_with (first | (go_at_call 178; refine (HL.out n x).mono ?_; rw [← HRX.out]; rintro e w1 ⟨rfl, n1, rfl⟩))
          go_ret
          exact ⟨by rw [HF.out]; rfl, by first | exact Drew.one .. | exact Drew.two ..⟩
      · have HF := hid (show wholeOf ms xs = r0 by
          obtain rfl : k = xs.length := by omega
          rw [wholeOf_all (by omega) HN.out, HR.out, HX0.out])
        go_wp2_with fail
        go_ret
        exact ⟨by rw [HF.out]; rfl, by first | exact Drew.one .. | exact Drew.two ..⟩

end Go.Proofs.Yteamebdehembgaa

namespace Go.Proofs.Yteamebdehembgaa
open Go.RowKit

theorem rangeOk_spec (ms : List MR) (k : Nat) (x : MR) (hx : x = ms.getD k default) : rangeOk ms k = (inB x.fr 0 x.to && decide (x.to ≤ 63) && inB x.sl 0 2 && !((ms.take k).any (over x))) := by
  rw [rangeOk_eq ms k x hx]
  have : (inB x.fr 0 63 && inB x.to x.fr 63) = (inB x.fr 0 x.to && decide (x.to ≤ 63)) := by
    rw [Bool.eq_iff_iff]
    simp only [inB, Bool.and_eq_true, decide_eq_true_eq]
    omega
  rw [this]
theorem any_over_no {ms : List MR} {k : Nat} {x : MR} (hk : k ≤ ms.length) (h : ∀ j, j < k → over x (ms.getD j default) = false) : (ms.take k).any (over x) = false := by
  rw [List.any_eq_false]
  intro q hq
  obtain ⟨i, hi, rfl⟩ := List.mem_iff_getElem.1 hq
  have hi2 : i < k := by simp at hi; omega
  have := h i hi2
  simp [List.getD, show i < ms.length by omega] at this
  simpa using this
theorem any_over_yes {ms : List MR} {k j : Nat} {x : MR} (hk : k ≤ ms.length) (hj : j < k) (h : over x (ms.getD j default) = true) : (ms.take k).any (over x) = true := by
  rw [List.any_eq_true]
  refine ⟨ms.getD j default, ?_, h⟩
  rw [List.mem_iff_getElem]
  exact ⟨j, by simp; omega, by simp [List.getD, show j < ms.length by omega]⟩

set_option maxHeartbeats 4000000 in
theorem specMapOk_any (v : Value) (ms : List MR) (B : Nat) (w : World) (hv : Maps w B v ms) (hB : B ≤ w.heap.size) :
    Calls Try.prog 61 #[v] w fun e w' => e = .returned (.bool (mapOk ms)) ∧ Below w.heap.size w w' := by
  obtain ⟨ao, cap, rfl, hlc, hcap, hln, hni, hr⟩ := hv.opened
  obtain ⟨q, hq⟩ : ∃ q, q = mapOk ms := ⟨_, rfl⟩
  rw [← hq]
  have HQ := hid hq; clear hq
  clear hv
  by_cases h4 : (4 : Int) < (ms.length : Int)
  · have HF := hid (show q = false by rw [HQ.out, mapOk, Bool.and_eq_false_iff]; left; simp; omega)
    go_enter Try.func61, Try.ntmps61
    go_wp2_with fail
    go_ret
    exact ⟨by rw [HF.out]; rfl, Below.refl _ _⟩
  · have HA := hid (fun h => (HQ.out.trans (mapOk_all (ms := ms) h)).trans (show decide (ms.length ≤ 4) = true by simp; omega))
    have HB := hid (fun (k : Nat) (hk : k < ms.length) h => HQ.out.trans (mapOk_bad hk h))
    clear HQ
    go_enter Try.func61, Try.ntmps61
    go_wp2_with fail
    go_loopw [3, 4, 5] (fun i _ _ wr => ∃ k : Nat, k ≤ ms.length ∧ i = .int .i64 k ∧ Below w.heap.size w wr ∧ ∀ j, j < k → rangeOk ms j = true) (fun i _ _ _ => ms.length - (intOf i).toNat)
    case atStart => exact ⟨0, Nat.zero_le _, rfl, Below.refl _ _, by simp⟩
    case round =>
      obtain ⟨k, hk, rfl, hbl, hno⟩ := hrel
      have HN := hid hno; clear hno
      by_cases hlt : k < ms.length
      · obtain ⟨b, off, rfl, hb, hc⟩ := hr (by omega)
        have hc' := hid (fun j hj => by
          obtain ⟨c0, c1, _, _⟩ := hc j hj
          rw [← hbl.cell (p := ⟨b, _, none⟩) (Nat.lt_of_lt_of_le hb hB)] at c0 c1
          exact And.intro c0 c1)
        obtain ⟨c0, c1, c2, c3⟩ := hc k hlt
        obtain ⟨x, hx⟩ : ∃ x, x = ms.getD k default := ⟨_, rfl⟩
        rw [← hx] at c0 c1 c2 c3
        rw [← hbl.cell (p := ⟨b, _, none⟩) (Nat.lt_of_lt_of_le hb hB)] at c0 c1 c2 c3
        have HE := hid (rangeOk_spec ms k x hx); clear hx hc hr
        have hsz := hbl.size
        have hb2 : b < wr.heap.size := by omega
        rcases h1 : inB x.fr 0 x.to with _ | _
        · have HF := hid (HB.out k hlt (by rw [HE.out, h1]; rfl))
          go_wp2_with (first | (go_at_call 60; refine (l1In_any _ _ _ _).mono ?_; rintro e w' ⟨rfl, rfl⟩))
          go_ret
          exact ⟨by rw [HF.out]; rfl, hbl.alloc hsz _⟩
        · by_cases h2 : (63 : Int) < x.to
          · have HF := hid (HB.out k hlt (by rw [HE.out, h1, show decide (x.to ≤ 63) = false by simp; omega]; rfl))
            go_wp2_with (first | (go_at_call 60; refine (l1In_any _ _ _ _).mono ?_; rintro e w' ⟨rfl, rfl⟩))
            go_ret
            exact ⟨by rw [HF.out]; rfl, hbl.alloc hsz _⟩
          · rcases h3 : inB x.sl 0 2 with _ | _
            · have HF := hid (HB.out k hlt (by rw [HE.out, h3, Bool.and_false]; rfl))
              go_wp2_with (first | (go_at_call 60; refine (l1In_any _ _ _ _).mono ?_; rintro e w' ⟨rfl, rfl⟩))
              go_ret
              exact ⟨by rw [HF.out]; rfl, hbl.alloc hsz _⟩
            · have HE2 := hid (show rangeOk ms k = !((ms.take k).any (over x)) by rw [HE.out, h1, h3, show decide (x.to ≤ 63) = true by simp; omega]; simp)
              have h2' : decide ((63 : Int) < x.to) = false := by simpa using h2
              clear HE h2
              obtain ⟨wo, rfl⟩ : ∃ wo : World, wo = wr := ⟨_, rfl⟩
              go_wp2_with (first | (go_at_call 60; refine (l1In_any _ _ _ _).mono ?_; rintro e w' ⟨rfl, rfl⟩))
              clear c0 c1 c2 c3
              go_loopw [5] (fun i wr => ∃ j n : Nat, j ≤ k ∧ i = .int .i64 j ∧ wr = (wo.alloc (.cells #[.int .i64 x.fr, .int .i64 x.to, .int .i64 x.sl, .bool x.only] 101)).drewN n ∧ ∀ t, t < j → over x (ms.getD t default) = false) (fun i _ => k - (intOf i).toNat)
              case atStart => exact ⟨0, 0, by omega, rfl, rfl, by simp⟩
              case round =>
                obtain ⟨j, n, hj, rfl, rfl, hno⟩ := hrel
                have HO := hid hno; clear hno
                by_cases hjk : j < k
                · obtain ⟨d0, d1⟩ := hc'.out j (by omega)
                  obtain ⟨y, hy⟩ : ∃ y, y = ms.getD j default := ⟨_, rfl⟩
                  rw [← hy] at d0 d1
                  have HY := hid hy; clear hy
                  by_cases g1 : x.fr ≤ y.to
                  · by_cases g2 : y.fr ≤ x.to
                    · have HF := hid (HB.out k hlt (by rw [HE2.out, any_over_yes hk hjk (by rw [← HY.out]; simp [over, g1, g2])]; rfl))
                      go_wp2_with fail
                      go_quiet (fail)
                      go_wp2_with fail
                      go_ret
                      exact ⟨by rw [HF.out]; rfl, by first | exact Below.draws (Below.draws (hbl.alloc hsz _) _) _ | exact Below.draws (hbl.alloc hsz _) _⟩
                    · have HP := hid (all_step HO.out (show over x (ms.getD j default) = false by rw [← HY.out]; simp [over, g2]))
                      have g3 : decide (y.fr ≤ x.to) = false := by simpa using g2
                      go_wp2_with fail
                      go_quiet (fail)
                      go_wp2_with fail
                      go_roundw
                      case rel => exact ⟨j + 1, _, by omega, by go_num, rfl, HP.out⟩
                      case measure => simp [intOf]; omega
                  · have HP := hid (all_step HO.out (show over x (ms.getD j default) = false by rw [← HY.out]; simp [over, g1]))
                    have g3 : decide (x.fr ≤ y.to) = false := by simpa using g1
                    go_wp2_with fail
                    go_quiet (fail)
                    go_wp2_with fail
                    go_roundw
                    case rel => exact ⟨j + 1, _, by omega, by go_num, rfl, HP.out⟩
                    case measure => simp [intOf]; omega
                · have HP := hid (all_step HN.out (show rangeOk ms k = true by
                    rw [HE2.out, any_over_no hk (fun t ht => HO.out t (by omega))]; rfl))
                  go_wp2_with fail
                  go_roundw
                  case rel => exact ⟨k + 1, by omega, by go_num, Below.draws (hbl.alloc hsz _) _, HP.out⟩
                  case measure => simp [intOf]; omega
      · have HF := hid (HA.out (fun j hj => HN.out j (by omega)))
        go_wp2_with fail
        go_ret
        exact ⟨by rw [HF.out]; rfl, hbl⟩

end Go.Proofs.Yteamebdehembgaa
