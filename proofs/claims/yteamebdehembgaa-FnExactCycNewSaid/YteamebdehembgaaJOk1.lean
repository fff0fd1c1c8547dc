/-
  MemOk and AtmOk of the reference; RspOk, ReqOk of both.
-/
import Derived.Test.YteamebdehembgaaKWrd
set_option linter.unusedVariables false
set_option linter.unusedSimpArgs false
namespace Go.Proofs.Yteamebdehembgaa
open Go.RowKit

theorem not_any_all {α : Type} (p : α → Bool) (xs : List α) : (!xs.any fun x => !p x) = xs.all p := by
  rw [List.all_eq_not_any_not]

set_option maxHeartbeats 1000000 in
theorem areWords_any (v : Value) (xs : List Int) (B : Nat) (w : World) (hv : Ints w B v xs) :
    Calls Try.prog 128 #[v] w fun e w' => e = .returned (.bool (xs.all wordOk)) ∧ w = w' := by
  have HE := hid (not_any_all wordOk xs)
  obtain ⟨r, hr⟩ : ∃ r, r = xs.any fun x => !wordOk x := ⟨_, rfl⟩
  rw [← hr] at HE
  have HR := hid hr; clear hr
  obtain ⟨q, hq⟩ : ∃ q, q = xs.all wordOk := ⟨_, rfl⟩
  rw [← hq] at HE ⊢
  clear hq
  have hcl : ∀ x, I64 x → ∀ w : World, Calls Try.prog 166 (#[.int .i64 x] ++ #[]) w fun e w' => e = .returned (.bool (!wordOk x)) ∧ w = w' := by
    intro x _ w
    go_enter Try.func166, Try.ntmps166
    go_wp2_with (first | (go_at_call 167; refine (isWord_any _ _).mono ?_; rintro e w' ⟨rfl, rfl⟩))
    go_ret
    exact ⟨rfl, rfl⟩
  have HC := hid hcl; clear hcl
  go_enter Try.func128, Try.ntmps128
  go_wp2_with fail
  refine (hasInt_any 166 #[] (callable_of Try.func166 (by kernel_rfl) (by kernel_rfl)) (fun x => !wordOk x) v xs B _ hv (fun x hx => HC.out x hx _)).mono ?_
  rintro e w' ⟨rfl, rfl⟩
  rw [← HR.out]
  go_wp2_with fail
  go_ret
  exact ⟨by rw [← HE.out]; rfl, rfl⟩

set_option maxHeartbeats 1000000 in
theorem implMemOk_any (v : Value) (xs : List Int) (B : Nat) (w : World) (hv : Ints w B v xs) (hB : B ≤ w.heap.size) :
    Calls Try.prog 153 #[.agg #[v]] w fun e w' => e = .returned (.bool (memOk xs)) ∧ Below w.heap.size w w' := by
  obtain ⟨ao, cap, hvv, hlc, hcap, hln, hni, hr⟩ := hv.opened
  clear hr
  subst hvv
  have hE : memOk xs = (xs.length == 64 && xs.all wordOk) := rfl
  obtain ⟨q, hq⟩ : ∃ q, q = memOk xs := ⟨_, rfl⟩
  rw [← hq] at hE ⊢
  by_cases h64 : xs.length = 64
  · have HE := hid (show q = xs.all wordOk by rw [hE, h64]; simp)
    have hg : ((xs.length : Int) == 64) = true := by simp [h64]
    clear hE h64 hq
    go_enter Try.func153, Try.ntmps153
    go_wp2_with (first | (go_at_call 128; refine (areWords_any _ xs B _ (hv.below ((Below.refl _ _).alloc hB _))).mono ?_; rintro e w' ⟨rfl, rfl⟩))
    go_ret
    exact ⟨by rw [HE.out]; rfl, (Below.refl _ _).alloc (Nat.le_refl _) _⟩
  · have HE := hid (show q = false by rw [hE]; simp [h64])
    have hg : ((xs.length : Int) == 64) = false := by rw [beq_eq_false_iff_ne]; omega
    clear hE hq
    go_enter Try.func153, Try.ntmps153
    go_wp2_with (first | (go_at_call 128; refine (areWords_any _ xs B _ (hv.below ((Below.refl _ _).alloc hB _))).mono ?_; rintro e w' ⟨rfl, rfl⟩))
    go_ret
    exact ⟨by rw [HE.out]; rfl, (Below.refl _ _).alloc (Nat.le_refl _) _⟩

set_option maxHeartbeats 1000000 in
theorem implAtmOk_any (v : Value) (ws hs : List Int) (B : Nat) (w : World) (h : AtmV w B v ws hs) (hB : B ≤ w.heap.size) :
    Calls Try.prog 106 #[v] w fun e w' => e = .returned (.bool (atmOk ws hs)) ∧ Below w.heap.size w w' := by
  obtain ⟨wv, hv, rfl, h1, h2⟩ := h
  obtain ⟨ao, cap, hvv, hlc, hcap, hln, hni, hr⟩ := h2.opened
  obtain ⟨bo, cbp, hwv, hlc2, hcap2, hln2, hni2, hr2⟩ := h1.opened
  clear hr hr2
  subst hvv hwv
  have hcl : ∀ x, I64 x → ∀ w : World, Calls Try.prog 154 (#[.int .i64 x] ++ #[]) w fun e w' => e = .returned (.bool (!inB x (-1) 63)) ∧ w = w' := by
    intro x _ w
    go_enter Try.func154, Try.ntmps154
    go_wp2_with (first | (go_at_call 68; refine (in_any _ _ _ _).mono ?_; rintro e w' ⟨rfl, rfl⟩))
    go_ret
    exact ⟨rfl, rfl⟩
  have HC := hid hcl; clear hcl
  have hE : atmOk ws hs = (memOk ws && hs.length == 6 && hs.all fun h => inB h (-1) 63) := rfl
  have hA := not_any_all (fun h => inB h (-1) 63) hs
  obtain ⟨r, hr⟩ : ∃ r, r = hs.any fun x => !inB x (-1) 63 := ⟨_, rfl⟩
  rw [← hA, ← hr] at hE
  have HR := hid hr; clear hr hA
  obtain ⟨q, hq⟩ : ∃ q, q = atmOk ws hs := ⟨_, rfl⟩
  obtain ⟨m, hm⟩ : ∃ m, m = memOk ws := ⟨_, rfl⟩
  rw [← hq] at hE ⊢
  rw [← hm] at hE
  have HM := hid hm; clear hm hq
  have HE := hid hE; clear hE
  have hg : ∀ b : Bool, (hs.length == 6) = b → ((hs.length : Int) == 6) = b := by
    intro b hb
    cases b
    · rw [beq_eq_false_iff_ne] at *; omega
    · rw [beq_iff_eq] at *; omega
  rcases hl : (hs.length == 6) with _ | _
  all_goals
    have hl6 := hg _ hl
    have HL := hid hl
    clear hg hl
    go_enter Try.func106, Try.ntmps106
    go_wp2_with (first
      | (go_at_call 153; refine (implMemOk_any _ ws B _ (h1.below ((Below.refl _ _).alloc hB _)) (by simp; omega)).mono ?_; rintro e w1 ⟨rfl, hb1⟩; rw [← HM.out]; have c1 : w1.cell? ⟨w.heap.size, 1, none⟩ = some (.slice ao hs.length cap) := (by rw [hb1.cell (p := ⟨w.heap.size, 1, none⟩) (by simp)]; simp))
      | (go_at_call 66; refine (hasInt_any 154 #[] (callable_of Try.func154 (by kernel_rfl) (by kernel_rfl)) (fun x => !inB x (-1) 63) _ hs B _ (h2.below (((Below.refl _ _).alloc hB _).trans (hb1.mono (by simp; omega)))) (fun x hx => HC.out x hx _)).mono ?_; rintro e w' ⟨rfl, rfl⟩; rw [← HR.out]))
    all_goals
      go_ret
      refine ⟨by rw [HE.out, HL.out]; simp [*], ?_⟩
      exact ((Below.refl _ _).alloc (Nat.le_refl _) _).trans (hb1.mono (by simp))

end Go.Proofs.Yteamebdehembgaa

namespace Go.Proofs.Yteamebdehembgaa
open Go.RowKit

theorem all_of_getD {p : Int → Bool} {xs : List Int} (h : ∀ j, j < xs.length → p (xs.getD j 0) = true) : xs.all p = true := by
  rw [List.all_eq_true]
  intro x hx
  obtain ⟨i, hi, rfl⟩ := List.mem_iff_getElem.1 hx
  have := h i hi
  simpa [List.getD, hi] using this
theorem all_bad {p : Int → Bool} {xs : List Int} {k : Nat} (hk : k < xs.length) (h : p (xs.getD k 0) = false) : xs.all p = false := by
  rw [List.all_eq_false]; exact ⟨xs.getD k 0, getD_mem hk, by rw [h]; simp⟩

set_option maxHeartbeats 1000000 in
theorem specMemOk_any (v : Value) (xs : List Int) (B : Nat) (w : World) (hv : Ints w B v xs) (hB : B ≤ w.heap.size) :
    Calls Try.prog 144 #[.agg #[v]] w fun e w' => e = .returned (.bool (memOk xs)) ∧ Below w.heap.size w w' := by
  obtain ⟨ao, cap, rfl, hlc, hcap, hln, hni, hr⟩ := hv.opened
  clear hv
  have hE : memOk xs = (xs.length == 64 && xs.all wordOk) := rfl
  obtain ⟨q, hq⟩ : ∃ q, q = memOk xs := ⟨_, rfl⟩
  rw [← hq] at hE ⊢
  by_cases h64 : xs.length = 64
  · have HE := hid (show q = xs.all wordOk by rw [hE, h64]; simp)
    have hg : ((xs.length : Int) != 64) = false := by simp [h64]
    clear hE hq h64
    go_enter Try.func144, Try.ntmps144
    go_wp2_with fail
    go_loop [3] (fun i => ∃ k : Nat, k ≤ xs.length ∧ i = .int .i64 k ∧ ∀ j, j < k → wordOk (xs.getD j 0) = true) (fun i => xs.length - (intOf i).toNat)
    case atStart => exact ⟨0, Nat.zero_le _, rfl, by simp⟩
    case round =>
      obtain ⟨k, hk, rfl, hno⟩ := hrel
      have HN := hid hno; clear hno
      by_cases hlt : k < xs.length
      · obtain ⟨b, off, rfl, hb, hc⟩ := hr (by omega)
        have hb2 : b < w.heap.size := by omega
        have hck := hc k hlt
        obtain ⟨x, hx⟩ : ∃ x, x = xs.getD k 0 := ⟨_, rfl⟩
        rw [← hx] at hck
        have HX := hid hx; clear hx hc hr
        rcases hp : wordOk x with _ | _
        · have HF := hid (show q = false by rw [HE.out]; exact all_bad hlt (by rw [← HX.out]; exact hp))
          have hp2 : inB x 0 65535 = false := hp
          clear hp
          go_wp2_with (first | (go_at_call 60; refine (l1In_any _ _ _ _).mono ?_; rintro e w' ⟨rfl, rfl⟩))
          go_ret
          exact ⟨by rw [HF.out]; rfl, (Below.refl _ _).alloc (Nat.le_refl _) _⟩
        · have HQ := hid (all_step HN.out (by rw [← HX.out]; exact hp))
          have hp2 : inB x 0 65535 = true := hp
          clear hp
          go_wp2_with (first | (go_at_call 60; refine (l1In_any _ _ _ _).mono ?_; rintro e w' ⟨rfl, rfl⟩))
          go_round
          case rel => exact ⟨k + 1, by omega, by go_num, HQ.out⟩
          case measure => simp [intOf]; omega
      · have HF := hid (show q = true by rw [HE.out]; exact all_of_getD (fun j hj => HN.out j (by omega)))
        go_wp2_with fail
        go_ret
        exact ⟨by rw [HF.out]; rfl, (Below.refl _ _).alloc (Nat.le_refl _) _⟩
  · have HE := hid (show q = false by rw [hE]; simp [h64])
    have hg : ((xs.length : Int) != 64) = true := by simp; omega
    clear hE hq
    go_enter Try.func144, Try.ntmps144
    go_wp2_with fail
    go_ret
    exact ⟨by rw [HE.out]; rfl, (Below.refl _ _).alloc (Nat.le_refl _) _⟩

set_option maxHeartbeats 1000000 in
theorem specAtmOk_any (v : Value) (ws hs : List Int) (B : Nat) (w : World) (h : AtmV w B v ws hs) (hB : B ≤ w.heap.size) :
    Calls Try.prog 100 #[v] w fun e w' => e = .returned (.bool (atmOk ws hs)) ∧ Below w.heap.size w w' := by
  obtain ⟨wv, hv, rfl, h1, h2⟩ := h
  obtain ⟨ao, cap, hvv, hlc, hcap, hln, hni, hr⟩ := h2.opened
  obtain ⟨bo, cbp, hwv, hlc2, hcap2, hln2, hni2, hr2⟩ := h1.opened
  clear hr hr2
  subst hvv hwv
  have hE : atmOk ws hs = (memOk ws && hs.length == 6 && hs.all fun h => inB h (-1) 63) := rfl
  obtain ⟨r, hr⟩ : ∃ r, r = hs.all fun h => inB h (-1) 63 := ⟨_, rfl⟩
  rw [← hr] at hE
  have HR := hid hr; clear hr
  obtain ⟨q, hq⟩ : ∃ q, q = atmOk ws hs := ⟨_, rfl⟩
  obtain ⟨m, hm⟩ : ∃ m, m = memOk ws := ⟨_, rfl⟩
  rw [← hq] at hE ⊢
  rw [← hm] at hE
  have HM := hid hm; clear hm hq
  have HE := hid hE; clear hE
  have hg : ∀ b : Bool, (hs.length == 6) = b → ((hs.length : Int) == 6) = b := by
    intro b hb
    cases b
    · rw [beq_eq_false_iff_ne] at *; omega
    · rw [beq_iff_eq] at *; omega
  rcases hl : (hs.length == 6) with _ | _
  all_goals
    have hl6 := hg _ hl
    have HL := hid hl
    clear hg hl
    go_enter Try.func100, Try.ntmps100
    go_wp2_with (first
      | (go_at_call 144; refine (specMemOk_any _ ws B _ (h1.below ((Below.refl _ _).alloc hB _)) (by simp; omega)).mono ?_; rintro e w1 ⟨rfl, hb1⟩; rw [← HM.out]; have c1 : w1.cell? ⟨w.heap.size, 1, none⟩ = some (.slice ao hs.length cap) := (by rw [hb1.cell (p := ⟨w.heap.size, 1, none⟩) (by simp)]; simp))
      | (go_at_call 62; refine (l3All_any _ hs (-1) 63 B _ (h2.below (((Below.refl _ _).alloc hB _).trans (hb1.mono (by simp; omega))))).mono ?_; rintro e w' ⟨rfl, rfl⟩; rw [← HR.out]))
    all_goals
      go_ret
      refine ⟨by rw [HE.out, HL.out]; simp [*], ?_⟩
      exact ((Below.refl _ _).alloc (Nat.le_refl _) _).trans (hb1.mono (by simp))

end Go.Proofs.Yteamebdehembgaa
