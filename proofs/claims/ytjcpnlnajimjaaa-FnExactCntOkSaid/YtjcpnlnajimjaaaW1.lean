/-
  Walks for ArbNext.
-/
import Derived.Test.YtjcpnlnajimjaaaLib
import Derived.BigQuiet
import Derived.BigGuardPart
import Derived.Deep.QuietTactic
namespace Go.Proofs.Ytjcpnlnajimjaaa
open Go.RowKit

def inB (n lo hi : Int) : Bool := decide (lo ≤ n) && decide (n ≤ hi)

set_option maxHeartbeats 400000 in
theorem in_any (n lo hi : Int) (w : World) :
    Calls Try.prog 24 #[.int .i64 n, .int .i64 lo, .int .i64 hi] w fun e w' => e = .returned (.bool (inB n lo hi)) ∧ w = w' := by
  by_cases h1 : lo ≤ n
  all_goals
    go_enter Try.func24, Try.ntmps24
    go_wp2
    go_ret
    exact ⟨by simp [inB, h1]; try omega, rfl⟩
set_option maxHeartbeats 400000 in
theorem l1In_any (n lo hi : Int) (w : World) :
    Calls Try.prog 23 #[.int .i64 n, .int .i64 lo, .int .i64 hi] w fun e w' => e = .returned (.bool (inB n lo hi)) ∧ w = w' := by
  by_cases h1 : lo ≤ n
  all_goals
    go_enter Try.func23, Try.ntmps23
    go_wp2
    go_ret
    exact ⟨by simp [inB, h1]; try omega, rfl⟩

def arbAt (m n k : Nat) : Nat := (m + (k + 1)) % n
def arb (last : Int) (asks : List Bool) : Int :=
  if inB last 0 (asks.length - 1) = true then
    match (List.range asks.length).find? (fun k => asks.getD (arbAt last.toNat asks.length k) false) with
    | some k => arbAt last.toNat asks.length k
    | none => -1
  else -1

theorem arb_hit (m k : Nat) (asks : List Bool) (hi : inB m 0 (asks.length - 1) = true) (hk : k < asks.length) (h1 : ∀ j, j < k → asks.getD (arbAt m asks.length j) false = false)
    (h2 : asks.getD ((m + (k + 1)) % asks.length) false = true) : arb (m : Int) asks = ((m + (k + 1)) % asks.length : Nat) := by
  unfold arb
  have : (List.range asks.length).find? (fun k => asks.getD (arbAt (m : Int).toNat asks.length k) false) = some k := by
    rw [List.find?_range_eq_some]
    exact ⟨h2, by simpa using hk, fun j hj => by have := h1 j hj; simp only [Int.toNat_natCast]; rw [this]; rfl⟩
  rw [if_pos hi, this]; simp [arbAt]
theorem arb_miss (m k : Nat) (asks : List Bool) (hi : inB m 0 (asks.length - 1) = true) (hk : ¬ k < asks.length) (h1 : ∀ j, j < k → asks.getD (arbAt m asks.length j) false = false) : arb (m : Int) asks = -1 := by
  unfold arb
  have : (List.range asks.length).find? (fun k => asks.getD (arbAt (m : Int).toNat asks.length k) false) = none := by
    rw [List.find?_range_eq_none]
    exact fun j hj => by have := h1 j (by omega); simp only [Int.toNat_natCast]; rw [this]; rfl
  rw [if_pos hi, this]
theorem arb_step {m k n : Nat} {asks : List Bool} (h1 : ∀ j, j < k → asks.getD (arbAt m n j) false = false) (h2 : asks.getD ((m + (k + 1)) % n) false = false) : ∀ j, j < k + 1 → asks.getD (arbAt m n j) false = false := by
  intro j hj
  rcases Nat.lt_succ_iff_lt_or_eq.1 hj with h | h
  · exact h1 j h
  · subst h; exact h2
theorem arb_out {last : Int} {asks : List Bool} (hi : inB last 0 (asks.length - 1) = false) : arb last asks = -1 := by
  unfold arb; rw [if_neg (by simp [hi])]

set_option maxHeartbeats 400000 in
theorem specArb_any (last : Int) (v : Value) (asks : List Bool) (B : Nat) (w : World) (hv : Bools w B v asks) :
    Calls Try.prog 7 #[.int .i64 last, v] w fun e w' => e = .returned (.int .i64 (arb last asks)) ∧ w = w' := by
  obtain ⟨ao, cap, rfl, hlc, hcap, hln, hni, hr⟩ := hv.opened
  by_cases he : asks.length = 0
  · have hg : ((asks.length : Int) == 0) = true := by simp [he]
    go_enter Try.func7, Try.ntmps7
    go_wp2_with fail
    go_ret
    exact ⟨by simp [arb, he, inB], rfl⟩
  · have hg : ((asks.length : Int) == 0) = false := by simpa using he
    rcases hi : inB last 0 (asks.length - 1) with _ | _
    · have HF := hid (arb_out hi)
      go_enter Try.func7, Try.ntmps7
      go_wp2_with (go_at_call 23; refine (l1In_any _ _ _ _).mono ?_; rintro e w' ⟨rfl, rfl⟩)
      go_ret
      exact ⟨by rw [HF.out]; rfl, rfl⟩
    · have hi' : 0 ≤ last ∧ last ≤ asks.length - 1 := by simpa [inB] using hi
      obtain ⟨b, off, rfl, hb, hc⟩ := hr he
      obtain ⟨m, rfl⟩ := Int.eq_ofNat_of_zero_le hi'.1
      have hm : m < asks.length := by omega
      clear hv hr
      go_enter Try.func7, Try.ntmps7
      go_wp2_with (go_at_call 23; refine (l1In_any _ _ _ _).mono ?_; rintro e w' ⟨rfl, rfl⟩)
      go_loop [5] (fun i => ∃ k : Nat, k ≤ asks.length ∧ i = .int .i64 (k + 1) ∧ ∀ j, j < k → asks.getD (arbAt m asks.length j) false = false) (fun i => asks.length + 1 - (intOf i).toNat)
      case atStart => exact ⟨0, Nat.zero_le _, rfl, by simp⟩
      case round =>
        obtain ⟨k, hk, rfl, hno⟩ := hrel
        have HN := hid hno; clear hno
        by_cases hlt : k < asks.length
        · have hlt2 : (m + (k + 1)) % asks.length < asks.length := Nat.mod_lt _ (by omega)
          have hck := hc _ hlt2
          have h3 : (0 : Int) ≤ ((m : Int) + ((k : Int) + 1)) % (asks.length : Int) := Int.emod_nonneg _ (by omega)
          have h4 : ((m : Int) + ((k : Int) + 1)) % (asks.length : Int) < (asks.length : Int) := Int.emod_lt_of_pos _ (by omega)
          have HC := hid hc; clear hc
          rcases hbb : asks.getD ((m + (k + 1)) % asks.length) false with _ | _
          · rw [hbb] at hck
            have HB := hid hbb; clear hbb
            go_wp2
            go_round
            case rel => exact ⟨k + 1, by omega, by go_num, arb_step HN.out HB.out⟩
            case measure => simp [intOf]; omega
          · rw [hbb] at hck
            have HF := hid (arb_hit m k asks hi hlt HN.out hbb); clear hbb
            go_wp2
            go_ret
            exact ⟨by rw [HF.out]; simp, rfl⟩
        · have HF := hid (arb_miss m k asks hi hlt HN.out)
          go_wp2
          go_ret
          exact ⟨by rw [HF.out]; rfl, rfl⟩

set_option maxHeartbeats 400000 in
theorem implArb_any (last : Int) (v : Value) (asks : List Bool) (B : Nat) (w : World) (hv : Bools w B v asks) :
    Calls Try.prog 9 #[.int .i64 last, v] w fun e w' => e = .returned (.int .i64 (arb last asks)) ∧ w = w' := by
  obtain ⟨ao, cap, rfl, hlc, hcap, hln, hni, hr⟩ := hv.opened
  rcases hi : inB last 0 (asks.length - 1) with _ | _
  · have HF := hid (arb_out hi)
    go_enter Try.func9, Try.ntmps9
    go_wp2_with (go_at_call 24; refine (in_any _ _ _ _).mono ?_; rintro e w' ⟨rfl, rfl⟩)
    go_ret
    exact ⟨by rw [HF.out]; rfl, rfl⟩
  · have hi' : 0 ≤ last ∧ last ≤ asks.length - 1 := by simpa [inB] using hi
    obtain ⟨b, off, rfl, hb, hc⟩ := hr (by omega)
    obtain ⟨m, rfl⟩ := Int.eq_ofNat_of_zero_le hi'.1
    have hm : m < asks.length := by omega
    clear hv hr
    go_enter Try.func9, Try.ntmps9
    go_wp2_with (go_at_call 24; refine (in_any _ _ _ _).mono ?_; rintro e w' ⟨rfl, rfl⟩)
    go_loop [6] (fun i => ∃ k : Nat, k ≤ asks.length ∧ i = .int .i64 (k + 1) ∧ ∀ j, j < k → asks.getD (arbAt m asks.length j) false = false) (fun i => asks.length + 1 - (intOf i).toNat)
    case atStart => exact ⟨0, Nat.zero_le _, rfl, by simp⟩
    case round =>
      obtain ⟨k, hk, rfl, hno⟩ := hrel
      have HN := hid hno; clear hno
      by_cases hlt : k < asks.length
      · have hlt2 : (m + (k + 1)) % asks.length < asks.length := Nat.mod_lt _ (by omega)
        have hck := hc _ hlt2
        have h3 : (0 : Int) ≤ ((m : Int) + ((k : Int) + 1)) % (asks.length : Int) := Int.emod_nonneg _ (by omega)
        have h4 : ((m : Int) + ((k : Int) + 1)) % (asks.length : Int) < (asks.length : Int) := Int.emod_lt_of_pos _ (by omega)
        have HC := hid hc; clear hc
        rcases hbb : asks.getD ((m + (k + 1)) % asks.length) false with _ | _
        · rw [hbb] at hck
          have HB := hid hbb; clear hbb
          go_wp2
          go_round
          case rel => exact ⟨k + 1, by omega, by go_num, arb_step HN.out HB.out⟩
          case measure => simp [intOf]; omega
        · rw [hbb] at hck
          have HF := hid (arb_hit m k asks hi hlt HN.out hbb); clear hbb
          go_wp2
          go_ret
          exact ⟨by rw [HF.out]; simp, rfl⟩
      · have HF := hid (arb_miss m k asks hi hlt HN.out)
        go_wp2
        go_ret
        exact ⟨by rw [HF.out]; rfl, rfl⟩

theorem eq_of_all {α : Type} [BEq α] [LawfulBEq α] {xs ys : List α} {d : α} (hl : xs.length = ys.length) (h : ∀ j, j < xs.length → xs.getD j d = ys.getD j d) : (xs == ys) = true := by
  rw [beq_iff_eq]
  refine List.ext_getElem hl fun i h1 h2 => ?_
  have := h i h1
  simpa [List.getD, h1, h2] using this
theorem ne_of_one {α : Type} [BEq α] [LawfulBEq α] {xs ys : List α} {d : α} {j : Nat} (h : xs.getD j d ≠ ys.getD j d) : (xs == ys) = false := by
  rw [beq_eq_false_iff_ne]; rintro rfl; exact h rfl
theorem ne_of_len {α : Type} [BEq α] [LawfulBEq α] {xs ys : List α} (h : xs.length ≠ ys.length) : (xs == ys) = false := by
  rw [beq_eq_false_iff_ne]; rintro rfl; exact h rfl
theorem all_step {k : Nat} {P : Nat → Prop} (h1 : ∀ j, j < k → P j) (h2 : P k) : ∀ j, j < k + 1 → P j := by
  intro j hj
  rcases Nat.lt_succ_iff_lt_or_eq.1 hj with h | h
  · exact h1 j h
  · subst h; exact h2

set_option maxHeartbeats 400000 in
theorem eqBoolS_any (v u : Value) (xs ys : List Bool) (B : Nat) (w : World) (hv : Bools w B v xs) (hu : Bools w B u ys) :
    Calls Try.prog 10 #[v, u] w fun e w' => e = .returned (.bool (xs == ys)) ∧ Drew w w' := by
  obtain ⟨ao, cap, rfl, hlc, hcap, hln, hni, hr⟩ := hv.opened
  obtain ⟨au, cau, rfl, hlu, hcau, hln2, hni2, hs⟩ := hu.opened
  clear hv hu
  by_cases he : xs.length = ys.length
  · have hg : ((xs.length : Int) != ys.length) = false := by simp [he]
    have HE := hid he; clear he
    go_enter Try.func10, Try.ntmps10
    go_wp2
    go_loopw [5] (fun i wr => ∃ k n : Nat, k ≤ xs.length ∧ i = .int .i64 k ∧ wr = w.drewN n ∧ ∀ j, j < k → xs.getD j false = ys.getD j false) (fun i _ => xs.length - (intOf i).toNat)
    case atStart => exact ⟨0, 0, Nat.zero_le _, rfl, rfl, by simp⟩
    case round =>
      obtain ⟨k, n, hk, rfl, rfl, hno⟩ := hrel
      have HN := hid hno; clear hno
      by_cases hlt : k < xs.length
      · have hlt2 : k < ys.length := by have := HE.out; omega
        obtain ⟨b, off, rfl, hb, hc⟩ := hr (by omega)
        obtain ⟨b2, off2, rfl, hb2, hc2⟩ := hs (by omega)
        have hck := hc k hlt
        have hck2 := hc2 k hlt2
        clear hc hc2 hr hs
        obtain ⟨x, hx⟩ : ∃ x, x = xs.getD k false := ⟨_, rfl⟩
        obtain ⟨y, hy⟩ : ∃ y, y = ys.getD k false := ⟨_, rfl⟩
        rw [← hx] at hck; rw [← hy] at hck2
        have HX := hid hx; have HY := hid hy; clear hx hy
        by_cases hq : x = y
        · have HQ := hid (all_step HN.out (by rw [← HX.out, ← HY.out]; exact hq))
          have hq2 : (x == y) = true := by simp [hq]
          clear hq
          go_wp2
          go_quiet (fail)
          go_wp2
          go_roundw
          case rel => exact ⟨k + 1, _, by omega, by go_num, rfl, HQ.out⟩
          case measure => simp [intOf]; omega
        · have HF := hid (ne_of_one (xs := xs) (ys := ys) (d := false) (j := k) (by rw [← HX.out, ← HY.out]; exact hq))
          have hq2 : (x == y) = false := by simp [hq]
          clear hq
          go_wp2
          go_quiet (fail)
          go_wp2
          go_ret
          exact ⟨by rw [HF.out]; rfl, by first | exact Drew.one .. | exact Drew.two ..⟩
      · have HF := hid (eq_of_all (d := false) HE.out (fun j hj => HN.out j (by omega)))
        go_wp2
        go_ret
        exact ⟨by rw [HF.out]; rfl, by first | exact Drew.one .. | exact Drew.two ..⟩
  · have hg : ((xs.length : Int) != ys.length) = true := by simp; omega
    have HF := hid (ne_of_len he); clear he
    go_enter Try.func10, Try.ntmps10
    go_wp2
    go_ret
    exact ⟨by rw [HF.out]; rfl, Drew.refl _⟩

end Go.Proofs.Ytjcpnlnajimjaaa
