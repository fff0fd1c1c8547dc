/-
  MemOk and AtmOk of the reference; RspOk, ReqOk of both.
-/
import Derived.Test.YteamebdehembgaaJAdr
set_option linter.unusedVariables false
set_option linter.unusedSimpArgs false
namespace Go.Proofs.Yteamebdehembgaa
open Go.RowKit

theorem bits_and_nat (a b : Nat) (ha : a < 4611686018427387904) (hb : b < 4611686018427387904) : bits .and .i64 (a : Int) (b : Int) = ((a &&& b : Nat) : Int) :=
  (bits_nat .i64 62 (by decide) (fun n h0 h1 => by rw [IntKind.wrap_i64]; have : (2 : Int) ^ 62 = 4611686018427387904 := by decide
                                                   omega) a b (by omega) (by omega)).1
theorem bits_or_nat (a b : Nat) (ha : a < 4611686018427387904) (hb : b < 4611686018427387904) : bits .or .i64 (a : Int) (b : Int) = ((a ||| b : Nat) : Int) :=
  (bits_nat .i64 62 (by decide) (fun n h0 h1 => by rw [IntKind.wrap_i64]; have : (2 : Int) ^ 62 = 4611686018427387904 := by decide
                                                   omega) a b (by omega) (by omega)).2
theorem land_eq (a c r : Nat) (g : Nat → Bool) (ha : a < 65536) (hc : ∀ i, i < 16 → c.testBit i = g i) (hr : ∀ i, r.testBit i = (g i && a.testBit i)) : a &&& c = r := by
  apply Nat.eq_of_testBit_eq
  intro i
  rw [Nat.testBit_and, hr]
  by_cases hi : i < 16
  · rw [hc i hi, Bool.and_comm]
  · have : a.testBit i = false := Nat.testBit_lt_two_pow (Nat.lt_of_lt_of_le ha (by
      have : 2 ^ 16 ≤ 2 ^ i := Nat.pow_le_pow_right (by omega) (by omega)
      simpa using this))
    simp [this]
theorem bit_hi (n i : Nat) : (n / 256 * 256).testBit i = (decide (8 ≤ i) && n.testBit i) := by
  rw [show n / 256 * 256 = (n / 2 ^ 8) * 2 ^ 8 from rfl, Nat.testBit_mul_two_pow, Nat.testBit_div_two_pow]
  by_cases h8 : 8 ≤ i
  · rw [show i - 8 + 8 = i from by omega]
  · simp [h8]
theorem bit_lo (n i : Nat) : (n % 256).testBit i = (decide (i < 8) && n.testBit i) := by
  rw [show n % 256 = n % 2 ^ 8 from rfl, Nat.testBit_mod_two_pow]
theorem and_hi (n : Nat) (h : n < 65536) : n &&& 65280 = n / 256 * 256 := land_eq n _ _ (fun i => decide (8 ≤ i)) h (by decide) (bit_hi n)
theorem and_lo (n : Nat) (h : n < 65536) : n &&& 255 = n % 256 := land_eq n _ _ (fun i => decide (i < 8)) h (by decide) (bit_lo n)
theorem and_all (n : Nat) (h : n < 65536) : n &&& 65535 = n := land_eq n _ _ (fun _ => true) h (by decide) (by simp)
theorem not_lo (n : Nat) (h : n < 65536) : n &&& 18446744073709551360 = n / 256 * 256 := land_eq n _ _ (fun i => decide (8 ≤ i)) h (by decide) (bit_hi n)
theorem not_hi (n : Nat) (h : n < 65536) : n &&& 18446744073709486335 = n % 256 := land_eq n _ _ (fun i => decide (i < 8)) h (by decide) (bit_lo n)
theorem not_all (n : Nat) (h : n < 65536) : n &&& 18446744073709486080 = 0 := land_eq n _ _ (fun _ => false) h (by decide) (by simp)
theorem not_none (n : Nat) (h : n < 65536) : n &&& 18446744073709551615 = n := land_eq n _ _ (fun _ => true) h (by decide) (by simp)
theorem or_split (x y : Nat) (h : y < 256) : (x * 256) ||| y = x * 256 + y := by
  have := Nat.two_pow_add_eq_or_of_lt (i := 8) (b := y) (by simpa using h) x
  rw [Nat.mul_comm x 256]; simpa using this.symm
theorem andNot_nat (a b : Nat) (ha : a < 65536) (hb : b < 65536) (r : Nat) (hr : a &&& (18446744073709551615 - b) = r) (hr2 : r < 65536) : bits .andNot .i64 (a : Int) (b : Int) = (r : Int) := by
  unfold bits
  have ea : (BitVec.ofInt IntKind.i64.bits (a : Int)).toNat = a := by
    simp [BitVec.toNat_ofInt, IntKind.bits]; omega
  have eb : (BitVec.ofInt IntKind.i64.bits (b : Int)).toNat = b := by
    simp [BitVec.toNat_ofInt, IntKind.bits]; omega
  have key : (BitVec.ofInt IntKind.i64.bits (a : Int) &&& ~~~(BitVec.ofInt IntKind.i64.bits (b : Int))).toNat = r := by
    rw [BitVec.toNat_and, BitVec.toNat_not, ea, eb, ← hr]
    rfl
  simp only [key]
  rw [IntKind.wrap_i64]; omega

theorem put0 (o n : Nat) (ho : o < 65536) (hn : n < 65536) : bits .or .i64 (bits .andNot .i64 (o : Int) 0) (bits .and .i64 (n : Int) 0) = putW o n 0 := by
  have e1 := andNot_nat o 0 ho (by omega) o (not_none o ho) ho
  have e2 := bits_and_nat n 0 (by omega) (by omega)
  simp only [Nat.and_zero, Int.natCast_zero] at e1 e2
  rw [e1, e2, show (0 : Int) = ((0 : Nat) : Int) from rfl, bits_or_nat o 0 (by omega) (by omega)]
  simp [putW]; try omega
theorem put1 (o n : Nat) (ho : o < 65536) (hn : n < 65536) : bits .or .i64 (bits .andNot .i64 (o : Int) 255) (bits .and .i64 (n : Int) 255) = putW o n 1 := by
  have e1 := andNot_nat o 255 ho (by omega) _ (not_lo o ho) (by omega)
  have e2 := bits_and_nat n 255 (by omega) (by omega)
  rw [and_lo n hn] at e2
  have e3 := bits_or_nat (o / 256 * 256) (n % 256) (by omega) (by omega)
  rw [or_split _ _ (by omega)] at e3
  rw [show (255 : Int) = ((255 : Nat) : Int) from rfl, e1, e2, e3]
  simp [putW]; try omega
theorem put2 (o n : Nat) (ho : o < 65536) (hn : n < 65536) : bits .or .i64 (bits .andNot .i64 (o : Int) 65280) (bits .and .i64 (n : Int) 65280) = putW o n 2 := by
  have e1 := andNot_nat o 65280 ho (by omega) _ (not_hi o ho) (by omega)
  have e2 := bits_and_nat n 65280 (by omega) (by omega)
  rw [and_hi n hn] at e2
  have e3 := bits_or_nat (o % 256) (n / 256 * 256) (by omega) (by omega)
  rw [Nat.or_comm, or_split _ _ (by omega)] at e3
  rw [show (65280 : Int) = ((65280 : Nat) : Int) from rfl, e1, e2, e3]
  simp [putW]
theorem put3 (o n : Nat) (ho : o < 65536) (hn : n < 65536) : bits .or .i64 (bits .andNot .i64 (o : Int) 65535) (bits .and .i64 (n : Int) 65535) = putW o n 3 := by
  have e1 := andNot_nat o 65535 ho (by omega) _ (not_all o ho) (by omega)
  have e2 := bits_and_nat n 65535 (by omega) (by omega)
  rw [and_all n hn] at e2
  have e3 := bits_or_nat 0 n (by omega) (by omega)
  rw [Nat.zero_or] at e3
  rw [show (65535 : Int) = ((65535 : Nat) : Int) from rfl, e1, e2, e3]
  simp [putW]; try omega

theorem isWord_any (n : Int) (w : World) : Calls Try.prog 167 #[.int .i64 n] w fun e w' => e = .returned (.bool (wordOk n)) ∧ w = w' := by
  have HE := hid (show wordOk n = inB n 0 65535 from rfl)
  go_enter Try.func167, Try.ntmps167
  go_wp2_with (first | (go_at_call 68; refine (in_any _ _ _ _).mono ?_; rintro e w' ⟨rfl, rfl⟩))
  go_ret
  exact ⟨by rw [HE.out]; rfl, rfl⟩
theorem isMaster_any (n : Int) (w : World) : Calls Try.prog 56 #[.int .i64 n] w fun e w' => e = .returned (.bool (inB n 0 2)) ∧ w = w' := by
  go_enter Try.func56, Try.ntmps56
  go_wp2_with (first | (go_at_call 68; refine (in_any _ _ _ _).mono ?_; rintro e w' ⟨rfl, rfl⟩))
  go_ret
  exact ⟨rfl, rfl⟩

theorem mask1 : bits .and .i64 1 1 = 1 ∧ bits .and .i64 2 1 = 0 ∧ bits .and .i64 3 1 = 1 ∧ bits .and .i64 0 1 = 0 := by decide +kernel
theorem maskor : bits .or .i64 0 0 = 0 ∧ bits .or .i64 255 0 = 255 ∧ bits .or .i64 0 65280 = 65280 ∧ bits .or .i64 255 65280 = 65535 := by decide +kernel

set_option maxHeartbeats 1000000 in
theorem put_any (o n l : Int) (w : World) (ho : wordOk o = true) (hn : wordOk n = true) (hl : inB l 0 3 = true) : Calls Try.prog 156 #[.int .i64 o, .int .i64 n, .int .i64 l] w fun e w' => e = .returned (.int .i64 (putW o n l)) ∧ w = w' := by
  simp [wordOk, inB] at ho hn hl
  obtain ⟨o, rfl⟩ := Int.eq_ofNat_of_zero_le ho.1
  obtain ⟨n, rfl⟩ := Int.eq_ofNat_of_zero_le hn.1
  have m1 := mask1; have m2 := maskor
  have h : l = 0 ∨ l = 1 ∨ l = 2 ∨ l = 3 := by omega
  rcases h with rfl | rfl | rfl | rfl
  all_goals
    go_enter Try.func156, Try.ntmps156
    go_wp2
    go_ret
    exact ⟨ret_int (by first | exact put0 o n (by omega) (by omega) | exact put1 o n (by omega) (by omega) | exact put2 o n (by omega) (by omega) | exact put3 o n (by omega) (by omega)), rfl⟩

theorem wrdPut_yes {o n l : Int} (ho : wordOk o = true) (hn : wordOk n = true) (hl : inB l 0 3 = true) : wrdPut o n l = putW o n l := by simp [wrdPut, ho, hn, hl]
theorem wrdPut_no {o n l : Int} (h : wordOk o = false ∨ wordOk n = false ∨ inB l 0 3 = false) : wrdPut o n l = -1 := by
  rcases h with h | h | h <;> simp [wrdPut, h]

set_option maxHeartbeats 1000000 in
theorem specWrdPut_any (o n l : Int) (w : World) : Calls Try.prog 179 #[.int .i64 o, .int .i64 n, .int .i64 l] w fun e w' => e = .returned (.int .i64 (wrdPut o n l)) ∧ w = w' := by
  rcases hb : (wordOk o && wordOk n && inB l 0 3) with _ | _
  · have hb' : wordOk o = false ∨ wordOk n = false ∨ inB l 0 3 = false := by
      rcases h1 : wordOk o with _ | _ <;> rcases h2 : wordOk n with _ | _ <;> simp_all
    have HE := hid (wrdPut_no hb')
    have h1 : wordOk o = inB o 0 65535 := rfl
    have h2 : wordOk n = inB n 0 65535 := rfl
    rw [h1, h2] at hb
    have HB := hid hb; clear hb hb' h1 h2
    go_enter Try.func179, Try.ntmps179
    go_wp2_with (first | (go_at_call 60; refine (l1In_any _ _ _ _).mono ?_; rintro e w' ⟨rfl, rfl⟩))
    all_goals first
      | (go_ret; exact ⟨by rw [HE.out]; rfl, rfl⟩)
      | (exfalso; have := HB.out; simp_all)
  · simp only [Bool.and_eq_true] at hb
    obtain ⟨⟨ho, hn⟩, hl⟩ := hb
    have HE := hid (wrdPut_yes ho hn hl)
    have h1 : inB o 0 65535 = true := ho
    have h2 : inB n 0 65535 = true := hn
    simp [wordOk, inB] at ho hn
    obtain ⟨o, rfl⟩ := Int.eq_ofNat_of_zero_le ho.1
    obtain ⟨n, rfl⟩ := Int.eq_ofNat_of_zero_le hn.1
    have h3 : o ≤ 65535 := by omega
    have h4 : n ≤ 65535 := by omega
    have hl' : 0 ≤ l ∧ l ≤ 3 := by simpa [inB] using hl
    have h : l = 0 ∨ l = 1 ∨ l = 2 ∨ l = 3 := by omega
    clear ho hn hl'
    rcases h with rfl | rfl | rfl | rfl
    all_goals
      go_enter Try.func179, Try.ntmps179
      go_wp2_with (first | (go_at_call 60; refine (l1In_any _ _ _ _).mono ?_; rintro e w' ⟨rfl, rfl⟩))
      go_ret
      exact ⟨by rw [HE.out]; simp [putW], rfl⟩

set_option maxHeartbeats 1000000 in
/-- A test of each number of a list. -/
theorem l3All_any (v : Value) (xs : List Int) (lo hi : Int) (B : Nat) (w : World) (hv : Ints w B v xs) :
    Calls Try.prog 62 #[v, .int .i64 lo, .int .i64 hi] w fun e w' => e = .returned (.bool (xs.all fun n => inB n lo hi)) ∧ w = w' := by
  obtain ⟨ao, cap, rfl, hlc, hcap, hln, hni, hr⟩ := hv.opened
  clear hv
  obtain ⟨r, hE⟩ : ∃ r, r = xs.all fun n => inB n lo hi := ⟨_, rfl⟩
  rw [← hE]
  have HE := hid hE; clear hE
  go_enter Try.func62, Try.ntmps62
  go_wp2_with fail
  go_loop [7] (fun i => ∃ k : Nat, k ≤ xs.length ∧ i = .int .i64 k ∧ ∀ j, j < k → inB (xs.getD j 0) lo hi = true) (fun i => xs.length - (intOf i).toNat)
  case atStart => exact ⟨0, Nat.zero_le _, rfl, by simp⟩
  case round =>
    obtain ⟨k, hk, rfl, hno⟩ := hrel
    have HN := hid hno; clear hno
    by_cases hlt : k < xs.length
    · obtain ⟨b, off, rfl, hb, hc⟩ := hr (by omega)
      have hck := hc k hlt
      obtain ⟨x, hx⟩ : ∃ x, x = xs.getD k 0 := ⟨_, rfl⟩
      rw [← hx] at hck
      have HX := hid hx; clear hx hc hr
      rcases hp : inB x lo hi with _ | _
      · have HF := hid (show r = false by
          rw [HE.out, List.all_eq_false]; exact ⟨x, by rw [HX.out]; exact getD_mem hlt, by simp [hp]⟩)
        go_wp2_with (first | (go_at_call 60; refine (l1In_any _ _ _ _).mono ?_; rintro e w' ⟨rfl, rfl⟩))
        go_ret
        exact ⟨by rw [HF.out]; rfl, rfl⟩
      · have HQ := hid (all_step HN.out (by rw [← HX.out]; exact hp))
        go_wp2_with (first | (go_at_call 60; refine (l1In_any _ _ _ _).mono ?_; rintro e w' ⟨rfl, rfl⟩))
        go_round
        case rel => exact ⟨k + 1, by omega, by go_num, HQ.out⟩
        case measure => simp [intOf]; omega
    · have HF := hid (show r = true by
        rw [HE.out, List.all_eq_true]
        intro x hx
        obtain ⟨i, hi, rfl⟩ := List.mem_iff_getElem.1 hx
        have := HN.out i (by omega)
        simpa [List.getD, hi] using this)
      go_wp2_with fail
      go_ret
      exact ⟨by rw [HF.out]; rfl, rfl⟩

end Go.Proofs.Yteamebdehembgaa

namespace Go.Proofs.Yteamebdehembgaa
open Go.RowKit

theorem not_any_all {α : Type} (p : α → Bool) (xs : List α) : (!xs.any fun x => !p x) = xs.all p := by
  rw [List.all_eq_not_any_not]

set_option maxHeartbeats 1000000 in
theorem areWords_any (v : Value) (xs : List Int) (B : Nat) (w : World) (hv : Ints w B v xs) :
    Calls Try.prog 128 #[v] w fun e w' => e = .returned (.bool (xs.all wordOk)) ∧ w = w' := by
  have HE := hid (not_any_all wordOk xs)
  obtain ⟨r, hr⟩ : ∃ r, r = xs.any fun x => !wordOk x := ⟨_, rfl⟩
  rw [← hr] at HE
  have HR := hid hr; clear hr
  obtain ⟨q, hq⟩ : ∃ q, q = xs.all wordOk := ⟨_, rfl⟩
  rw [← hq] at HE ⊢
  clear hq
  have hcl : ∀ x, I64 x → ∀ w : World, Calls Try.prog 166 (#[.int .i64 x] ++ #[]) w fun e w' => e = .returned (.bool (!wordOk x)) ∧ w = w' := by
    intro x _ w
    go_enter Try.func166, Try.ntmps166
    go_wp2_with (first | (go_at_call 167; refine (isWord_any _ _).mono ?_; rintro e w' ⟨rfl, rfl⟩))
    go_ret
    exact ⟨rfl, rfl⟩
  have HC := hid hcl; clear hcl
  go_enter Try.func128, Try.ntmps128
  go_wp2_with fail
  refine (hasInt_any 166 #[] (callable_of Try.func166 (by kernel_rfl) (by kernel_rfl)) (fun x => !wordOk x) v xs B _ hv (fun x hx => HC.out x hx _)).mono ?_
  rintro e w' ⟨rfl, rfl⟩
  rw [← HR.out]
  go_wp2_with fail
  go_ret
  exact ⟨by rw [← HE.out]; rfl, rfl⟩

set_option maxHeartbeats 1000000 in
theorem implMemOk_any (v : Value) (xs : List Int) (B : Nat) (w : World) (hv : Ints w B v xs) (hB : B ≤ w.heap.size) :
    Calls Try.prog 153 #[.agg #[v]] w fun e w' => e = .returned (.bool (memOk xs)) ∧ Below w.heap.size w w' := by
  obtain ⟨ao, cap, hvv, hlc, hcap, hln, hni, hr⟩ := hv.opened
  clear hr
  subst hvv
  have hE : memOk xs = (xs.length == 64 && xs.all wordOk) := rfl
  obtain ⟨q, hq⟩ : ∃ q, q = memOk xs := ⟨_, rfl⟩
  rw [← hq] at hE ⊢
  by_cases h64 : xs.length = 64
  · have HE := hid (show q = xs.all wordOk by rw [hE, h64]; simp)
    have hg : ((xs.length : Int) == 64) = true := by simp [h64]
    clear hE h64 hq
    go_enter Try.func153, Try.ntmps153
    go_wp2_with (first | (go_at_call 128; refine (areWords_any _ xs B _ (hv.below ((Below.refl _ _).alloc hB _))).mono ?_; rintro e w' ⟨rfl, rfl⟩))
    go_ret
    exact ⟨by rw [HE.out]; rfl, (Below.refl _ _).alloc (Nat.le_refl _) _⟩
  · have HE := hid (show q = false by rw [hE]; simp [h64])
    have hg : ((xs.length : Int) == 64) = false := by rw [beq_eq_false_iff_ne]; omega
    clear hE hq
    go_enter Try.func153, Try.ntmps153
    go_wp2_with (first | (go_at_call 128; refine (areWords_any _ xs B _ (hv.below ((Below.refl _ _).alloc hB _))).mono ?_; rintro e w' ⟨rfl, rfl⟩))
    go_ret
    exact ⟨by rw [HE.out]; rfl, (Below.refl _ _).alloc (Nat.le_refl _) _⟩

set_option maxHeartbeats 1000000 in
theorem implAtmOk_any (v : Value) (ws hs : List Int) (B : Nat) (w : World) (h : AtmV w B v ws hs) (hB : B ≤ w.heap.size) :
    Calls Try.prog 106 #[v] w fun e w' => e = .returned (.bool (atmOk ws hs)) ∧ Below w.heap.size w w' := by
  obtain ⟨wv, hv, rfl, h1, h2⟩ := h
  obtain ⟨ao, cap, hvv, hlc, hcap, hln, hni, hr⟩ := h2.opened
  obtain ⟨bo, cbp, hwv, hlc2, hcap2, hln2, hni2, hr2⟩ := h1.opened
  clear hr hr2
  subst hvv hwv
  have hcl : ∀ x, I64 x → ∀ w : World, Calls Try.prog 154 (#[.int .i64 x] ++ #[]) w fun e w' => e = .returned (.bool (!inB x (-1) 63)) ∧ w = w' := by
    intro x _ w
    go_enter Try.func154, Try.ntmps154
    go_wp2_with (first | (go_at_call 68; refine (in_any _ _ _ _).mono ?_; rintro e w' ⟨rfl, rfl⟩))
    go_ret
    exact ⟨rfl, rfl⟩
  have HC := hid hcl; clear hcl
  have hE : atmOk ws hs = (memOk ws && hs.length == 6 && hs.all fun h => inB h (-1) 63) := rfl
  have hA := not_any_all (fun h => inB h (-1) 63) hs
  obtain ⟨r, hr⟩ : ∃ r, r = hs.any fun x => !inB x (-1) 63 := ⟨_, rfl⟩
  rw [← hA, ← hr] at hE
  have HR := hid hr; clear hr hA
  obtain ⟨q, hq⟩ : ∃ q, q = atmOk ws hs := ⟨_, rfl⟩
  obtain ⟨m, hm⟩ : ∃ m, m = memOk ws := ⟨_, rfl⟩
  rw [← hq] at hE ⊢
  rw [← hm] at hE
  have HM := hid hm; clear hm hq
  have HE := hid hE; clear hE
  have hg : ∀ b : Bool, (hs.length == 6) = b → ((hs.length : Int) == 6) = b := by
    intro b hb
    cases b
    · rw [beq_eq_false_iff_ne] at *; omega
    · rw [beq_iff_eq] at *; omega
  rcases hl : (hs.length == 6) with _ | _
  all_goals
    have hl6 := hg _ hl
    have HL := hid hl
    clear hg hl
    go_enter Try.func106, Try.ntmps106
    go_wp2_with (first
      | (go_at_call 153; refine (implMemOk_any _ ws B _ (h1.below ((Below.refl _ _).alloc hB _)) (by simp; omega)).mono ?_; rintro e w1 ⟨rfl, hb1⟩; rw [← HM.out]; have c1 : w1.cell? ⟨w.heap.size, 1, none⟩ = some (.slice ao hs.length cap) := (by rw [hb1.cell (p := ⟨w.heap.size, 1, none⟩) (by simp)]; simp))
      | (go_at_call 66; refine (hasInt_any 154 #[] (callable_of Try.func154 (by kernel_rfl) (by kernel_rfl)) (fun x => !inB x (-1) 63) _ hs B _ (h2.below (((Below.refl _ _).alloc hB _).trans (hb1.mono (by simp; omega)))) (fun x hx => HC.out x hx _)).mono ?_; rintro e w' ⟨rfl, rfl⟩; rw [← HR.out]))
    all_goals
      go_ret
      refine ⟨by rw [HE.out, HL.out]; simp [*], ?_⟩
      exact ((Below.refl _ _).alloc (Nat.le_refl _) _).trans (hb1.mono (by simp))

end Go.Proofs.Yteamebdehembgaa

namespace Go.Proofs.Yteamebdehembgaa
open Go.RowKit

theorem all_of_getD {p : Int → Bool} {xs : List Int} (h : ∀ j, j < xs.length → p (xs.getD j 0) = true) : xs.all p = true := by
  rw [List.all_eq_true]
  intro x hx
  obtain ⟨i, hi, rfl⟩ := List.mem_iff_getElem.1 hx
  have := h i hi
  simpa [List.getD, hi] using this
theorem all_bad {p : Int → Bool} {xs : List Int} {k : Nat} (hk : k < xs.length) (h : p (xs.getD k 0) = false) : xs.all p = false := by
  rw [List.all_eq_false]; exact ⟨xs.getD k 0, getD_mem hk, by rw [h]; simp⟩

set_option maxHeartbeats 1000000 in
theorem specMemOk_any (v : Value) (xs : List Int) (B : Nat) (w : World) (hv : Ints w B v xs) (hB : B ≤ w.heap.size) :
    Calls Try.prog 144 #[.agg #[v]] w fun e w' => e = .returned (.bool (memOk xs)) ∧ Below w.heap.size w w' := by
  obtain ⟨ao, cap, rfl, hlc, hcap, hln, hni, hr⟩ := hv.opened
  clear hv
  have hE : memOk xs = (xs.length == 64 && xs.all wordOk) := rfl
  obtain ⟨q, hq⟩ : ∃ q, q = memOk xs := ⟨_, rfl⟩
  rw [← hq] at hE ⊢
  by_cases h64 : xs.length = 64
  · have HE := hid (show q = xs.all wordOk by rw [hE, h64]; simp)
    have hg : ((xs.length : Int) != 64) = false := by simp [h64]
    clear hE hq h64
    go_enter Try.func144, Try.ntmps144
    go_wp2_with fail
    go_loop [3] (fun i => ∃ k : Nat, k ≤ xs.length ∧ i = .int .i64 k ∧ ∀ j, j < k → wordOk (xs.getD j 0) = true) (fun i => xs.length - (intOf i).toNat)
    case atStart => exact ⟨0, Nat.zero_le _, rfl, by simp⟩
    case round =>
      obtain ⟨k, hk, rfl, hno⟩ := hrel
      have HN := hid hno; clear hno
      by_cases hlt : k < xs.length
      · obtain ⟨b, off, rfl, hb, hc⟩ := hr (by omega)
        have hb2 : b < w.heap.size := by omega
        have hck := hc k hlt
        obtain ⟨x, hx⟩ : ∃ x, x = xs.getD k 0 := ⟨_, rfl⟩
        rw [← hx] at hck
        have HX := hid hx; clear hx hc hr
        rcases hp : wordOk x with _ | _
        · have HF := hid (show q = false by rw [HE.out]; exact all_bad hlt (by rw [← HX.out]; exact hp))
          have hp2 : inB x 0 65535 = false := hp
          clear hp
          go_wp2_with (first | (go_at_call 60; refine (l1In_any _ _ _ _).mono ?_; rintro e w' ⟨rfl, rfl⟩))
          go_ret
          exact ⟨by rw [HF.out]; rfl, (Below.refl _ _).alloc (Nat.le_refl _) _⟩
        · have HQ := hid (all_step HN.out (by rw [← HX.out]; exact hp))
          have hp2 : inB x 0 65535 = true := hp
          clear hp
          go_wp2_with (first | (go_at_call 60; refine (l1In_any _ _ _ _).mono ?_; rintro e w' ⟨rfl, rfl⟩))
          go_round
          case rel => exact ⟨k + 1, by omega, by go_num, HQ.out⟩
          case measure => simp [intOf]; omega
      · have HF := hid (show q = true by rw [HE.out]; exact all_of_getD (fun j hj => HN.out j (by omega)))
        go_wp2_with fail
        go_ret
        exact ⟨by rw [HF.out]; rfl, (Below.refl _ _).alloc (Nat.le_refl _) _⟩
  · have HE := hid (show q = false by rw [hE]; simp [h64])
    have hg : ((xs.length : Int) != 64) = true := by simp; omega
    clear hE hq
    go_enter Try.func144, Try.ntmps144
    go_wp2_with fail
    go_ret
    exact ⟨by rw [HE.out]; rfl, (Below.refl _ _).alloc (Nat.le_refl _) _⟩

set_option maxHeartbeats 1000000 in
theorem specAtmOk_any (v : Value) (ws hs : List Int) (B : Nat) (w : World) (h : AtmV w B v ws hs) (hB : B ≤ w.heap.size) :
    Calls Try.prog 100 #[v] w fun e w' => e = .returned (.bool (atmOk ws hs)) ∧ Below w.heap.size w w' := by
  obtain ⟨wv, hv, rfl, h1, h2⟩ := h
  obtain ⟨ao, cap, hvv, hlc, hcap, hln, hni, hr⟩ := h2.opened
  obtain ⟨bo, cbp, hwv, hlc2, hcap2, hln2, hni2, hr2⟩ := h1.opened
  clear hr hr2
  subst hvv hwv
  have hE : atmOk ws hs = (memOk ws && hs.length == 6 && hs.all fun h => inB h (-1) 63) := rfl
  obtain ⟨r, hr⟩ : ∃ r, r = hs.all fun h => inB h (-1) 63 := ⟨_, rfl⟩
  rw [← hr] at hE
  have HR := hid hr; clear hr
  obtain ⟨q, hq⟩ : ∃ q, q = atmOk ws hs := ⟨_, rfl⟩
  obtain ⟨m, hm⟩ : ∃ m, m = memOk ws := ⟨_, rfl⟩
  rw [← hq] at hE ⊢
  rw [← hm] at hE
  have HM := hid hm; clear hm hq
  have HE := hid hE; clear hE
  have hg : ∀ b : Bool, (hs.length == 6) = b → ((hs.length : Int) == 6) = b := by
    intro b hb
    cases b
    · rw [beq_eq_false_iff_ne] at *; omega
    · rw [beq_iff_eq] at *; omega
  rcases hl : (hs.length == 6) with _ | _
  all_goals
    have hl6 := hg _ hl
    have HL := hid hl
    clear hg hl
    go_enter Try.func100, Try.ntmps100
    go_wp2_with (first
      | (go_at_call 144; refine (specMemOk_any _ ws B _ (h1.below ((Below.refl _ _).alloc hB _)) (by simp; omega)).mono ?_; rintro e w1 ⟨rfl, hb1⟩; rw [← HM.out]; have c1 : w1.cell? ⟨w.heap.size, 1, none⟩ = some (.slice ao hs.length cap) := (by rw [hb1.cell (p := ⟨w.heap.size, 1, none⟩) (by simp)]; simp))
      | (go_at_call 62; refine (l3All_any _ hs (-1) 63 B _ (h2.below (((Below.refl _ _).alloc hB _).trans (hb1.mono (by simp; omega))))).mono ?_; rintro e w' ⟨rfl, rfl⟩; rw [← HR.out]))
    all_goals
      go_ret
      refine ⟨by rw [HE.out, HL.out]; simp [*], ?_⟩
      exact ((Below.refl _ _).alloc (Nat.le_refl _) _).trans (hb1.mono (by simp))

end Go.Proofs.Yteamebdehembgaa
