/-
  Draws: ranges.
-/
import Derived.Test.YteamebdehembgaaJRd
import Derived.Test.YteamebdehembgaaJDo6
set_option linter.unusedVariables false
set_option linter.unusedSimpArgs false
namespace Go.Proofs.Yteamebdehembgaa
open Go.RowKit

/-- What pick of a number above 0 comes to. -/
def PickP (r B : Nat) (bs : List Nat) (p : Nat) (n : Int) (w : World) (e : Ending) (w' : World) : Prop :=
  ∃ x : Int, e = .returned (.int .i64 x) ∧ 0 ≤ x ∧ x < n ∧ RdAt w' r B bs (p + 1) ∧ Touch r w w'
theorem pick_p (r B : Nat) (bs : List Nat) (p : Nat) (n : Int) (w : World) (h : RdAt w r B bs p) (hp : p ≤ 1099511627776) (h1 : 1 ≤ n) (hn : n ≤ 1099511627776) :
    Calls Try.prog 55 #[.pointer (some ⟨r, 0, none⟩), .int .i64 n] w (PickP r B bs p n w) := by
  refine (pick_any r B bs p n w h hp hn).mono ?_
  rintro e w' ⟨x, rfl, h0, h2, h3, h4⟩
  exact ⟨x, rfl, h0, by omega, h3, h4⟩

def OddP (r B : Nat) (bs : List Nat) (p : Nat) (n : Int) (w : World) (e : Ending) (w' : World) : Prop :=
  ∃ (b : Bool) (q : Nat), e = .returned (.bool b) ∧ (9000 ≤ n → b = false) ∧ q ≤ p + 1 ∧ RdAt w' r B bs q ∧ Touch r w w'
set_option maxHeartbeats 1000000 in
theorem odd_any (r B : Nat) (bs : List Nat) (p : Nat) (n : Int) (w : World) (h : RdAt w r B bs p) (hp : p ≤ 1099511627776) (h1 : 1 ≤ n) (hn : n ≤ 1099511627776) :
    Calls Try.prog 115 #[.pointer (some ⟨r, 0, none⟩), .int .i64 n] w (OddP r B bs p n w) := by
  by_cases h9 : n < 9000
  · go_enter Try.func115, Try.ntmps115
    go_wp2_with (first | (go_at_call 55; refine (pick_p r B bs p n _ h hp h1 hn).mono ?_; rintro e w1 ⟨x, rfl, hx0, hx1, hr1, ht1⟩))
    go_ret
    exact ⟨_, p + 1, rfl, fun h => by omega, by omega, hr1, ht1⟩
  · have h9' : decide (n < 9000) = false := by simpa using h9
    go_enter Try.func115, Try.ntmps115
    go_wp2_with fail
    go_ret
    exact ⟨false, p, rfl, fun _ => rfl, by omega, h, Touch.refl _ _⟩

theorem RdAt.alloc {w : World} {r B : Nat} {bs : List Nat} {p : Nat} (h : RdAt w r B bs p) (o : Obj) : RdAt (w.alloc o) r B bs p := h.kept ((Below.refl _ _).alloc (Nat.le_refl _) o) h.lt

/-- A table laid ahead of a pick still stands behind it. -/
theorem Touch.tab {r : Nat} {w w' : World} {xs : Array Value} {T : TypeId} (ht : Touch r (w.alloc (.cells xs T)) w') (hr : r < w.heap.size) : ∀ i v, xs[i]? = some v → w'.cell? ⟨w.heap.size, i, none⟩ = some v := by
  intro i v hv
  rw [Touch.cell ht (by show w.heap.size ≠ r; omega) (by simp)]
  simp [go_sem, hv]
theorem Touch.tab2 {r : Nat} {w w' : World} {xs ys : Array Value} {T U : TypeId} (ht : Touch r ((w.alloc (.cells xs T)).alloc (.cells ys U)) w') (hr : r < w.heap.size) :
    (∀ i v, xs[i]? = some v → w'.cell? ⟨w.heap.size, i, none⟩ = some v) ∧ (∀ i v, ys[i]? = some v → w'.cell? ⟨w.heap.size + 1, i, none⟩ = some v) := by
  refine ⟨fun i v hv => ?_, fun i v hv => ?_⟩
  · rw [Touch.cell ht (by show w.heap.size ≠ r; omega) (by simp; omega)]
    simp [go_sem, hv]
  · rw [Touch.cell ht (by show w.heap.size + 1 ≠ r; omega) (by simp)]
    simp [go_sem, hv]

def AddrP (r B : Nat) (bs : List Nat) (p : Nat) (w : World) (e : Ending) (w' : World) : Prop :=
  ∃ x : Int, e = .returned (.int .i64 x) ∧ 0 ≤ x ∧ x ≤ 63 ∧ RdAt w' r B bs (p + 7) ∧ Touch r w w'
set_option maxHeartbeats 4000000 in
theorem l20Addr_any (r B : Nat) (bs : List Nat) (p : Nat) (w : World) (h : RdAt w r B bs p) (hp : p ≤ 1000000000) :
    Calls Try.prog 158 #[.pointer (some ⟨r, 0, none⟩)] w (AddrP r B bs p w) := by
  have HT := hid (Touch.refl r w)
  go_enter Try.func158, Try.ntmps158
  go_wp2_with (first
    | (go_at_call 55; (with_reducible refine (pick_p r B bs _ 8 _ ((h.alloc _).alloc _) ?_ (by omega) (by omega)).mono ?_); (omega); have hlt := h.lt; rintro e w1 ⟨x, rfl, a0, a1, h, ht⟩; obtain ⟨tA, tB⟩ := Touch.tab2 ht hlt; have u0 := tA 0 _ rfl; have u1 := tA 1 _ rfl; have u2 := tA 2 _ rfl; have u3 := tA 3 _ rfl; have u4 := tA 4 _ rfl; have u5 := tA 5 _ rfl; have v0 := tB 0 _ rfl; have v1 := tB 1 _ rfl; have v2 := tB 2 _ rfl; have v3 := tB 3 _ rfl; have v4 := tB 4 _ rfl; have v5 := tB 5 _ rfl; have v6 := tB 6 _ rfl; have v7 := tB 7 _ rfl; clear tA tB; have HT := hid (show Touch r w w1 from ((HT.out.alloc _).alloc _).trans ht); rcases (show x = 0 ∨ x = 1 ∨ x = 2 ∨ x = 3 ∨ x = 4 ∨ x = 5 ∨ x = 6 ∨ x = 7 by omega) with rfl | rfl | rfl | rfl | rfl | rfl | rfl | rfl)
    | (go_at_call 55; go_must (refine (pick_p r B bs _ _ _ (by first | exact h | exact h.alloc _ | exact (h.alloc _).alloc _) (by omega) (by omega) (by omega)).mono ?_); rintro e w1 ⟨x, rfl, a0, a1, h, ht⟩; have HT := hid (show Touch r w w1 by first | exact HT.out.trans ht | exact (HT.out.alloc _).trans ht | exact ((HT.out.alloc _).alloc _).trans ht)))
  all_goals
    go_ret
    exact ⟨_, rfl, by omega, by omega, h, HT.out⟩

end Go.Proofs.Yteamebdehembgaa

namespace Go.Proofs.Yteamebdehembgaa
open Go.RowKit

theorem Owns.touch {α : Type} {w w' : World} {r base e sz : Nat} {f : α → List Value} {v : Value} {xs : List α} (h : Owns w base e sz f v xs) (ht : Touch r w w') (hr : r < base) : Owns w' base e sz f v xs :=
  OwnR.kept h fun k hk => ht.block k (OwnR.lt h k hk).2 (by have := (OwnR.lt h k hk).1; omega)
theorem Owns.cellAt {α : Type} {w : World} {base e sz g off n c : Nat} {f : α → List Value} {xs : List α} (h : Owns w base e sz f (.slice (some ⟨g, off, none⟩) n c) xs) (hf : ∀ x, (f x).length = sz) (k j : Nat) (d : α) (hk : k < xs.length) (hj : j < sz) : w.cell? ⟨g, off + k * sz + j, none⟩ = (f (xs.getD k d))[j]? := by
  obtain ⟨hl, h2⟩ := h
  rcases h2 with ⟨h2, _⟩ | ⟨g', off', cap, cur, hv, hg, hh, hle, hmax, hsz, hc⟩
  · cases h2
  · simp only [Value.slice.injEq, Option.some.injEq, Addr.mk.injEq] at hv
    obtain ⟨⟨rfl, rfl, _⟩, rfl, rfl⟩ := hv
    have hlt : k * sz + j < xs.length * sz := by
      have : (k + 1) * sz ≤ xs.length * sz := Nat.mul_le_mul_right _ hk
      rw [Nat.add_mul] at this; omega
    have h3 := hc (k * sz + j) hlt
    rw [flatMap_get hf xs k j hk hj] at h3
    simp only [World.cell?, hh, Nat.add_assoc, h3]
    simp [List.getD, hk]
theorem Owns.frozenAt {α : Type} {w : World} {base e sz g off n c : Nat} {f : α → List Value} {xs : List α} (h : Owns w base e sz f (.slice (some ⟨g, off, none⟩) n c) xs) (o : Nat) : w.frozen? ⟨g, o, none⟩ = false := by
  obtain ⟨hl, h2⟩ := h
  rcases h2 with ⟨h2, _⟩ | ⟨g', off', cap, cur, hv, hg, hh, hle, hmax, hsz, hc⟩
  · cases h2
  · simp only [Value.slice.injEq, Option.some.injEq, Addr.mk.injEq] at hv
    obtain ⟨⟨rfl, rfl, _⟩, rfl, rfl⟩ := hv
    simp [World.frozen?, hh]
/-- A store of one cell of one row. -/
theorem Owns.putRow {α : Type} {w : World} {base e sz g off n c : Nat} {f : α → List Value} {xs : List α} (h : Owns w base e sz f (.slice (some ⟨g, off, none⟩) n c) xs) (hf : ∀ x, (f x).length = sz) (k j : Nat) (d y : α) (u : Value) (hk : k < xs.length) (hj : j < sz)
    (hy : f y = (f (xs.getD k d)).set j u) : Owns (w.setCell ⟨g, off + k * sz + j, none⟩ u) base e sz f (.slice (some ⟨g, off, none⟩) n c) (xs.set k y) := by
  obtain ⟨hl, h2⟩ := h
  rcases h2 with ⟨h2, _⟩ | ⟨g', off', cap, cur, hv, hg, hh, hle, hmax, hsz, hc⟩
  · cases h2
  · simp only [Value.slice.injEq, Option.some.injEq, Addr.mk.injEq] at hv
    obtain ⟨⟨rfl, rfl, _⟩, rfl, rfl⟩ := hv
    have hks : (k + 1) * sz ≤ xs.length * sz := Nat.mul_le_mul_right _ hk
    have hcs : xs.length * sz ≤ c * sz := Nat.mul_le_mul_right _ hle
    rw [Nat.add_mul] at hks
    refine ⟨by rw [flatMap_len hf], .inr ⟨g, off, c, cur.set! (off + k * sz + j) u, by simp, hg, ?_, by simpa using hle, hmax, by simpa using hsz, ?_⟩⟩
    · simp only [World.setCell, Array.getElem?_modify, hh]
      simp
    · intro i hi
      have hi' : i < xs.length * sz := by simpa using hi
      have hs0 : 0 < sz := by omega
      rw [rows_flat hf (xs.set k y) i (by simpa using hi') hs0]
      have hq : i / sz < xs.length := Nat.div_lt_of_lt_mul (by rw [Nat.mul_comm]; exact hi')
      have hm : i % sz < sz := Nat.mod_lt _ hs0
      have hdm : sz * (i / sz) + i % sz = i := Nat.div_add_mod i sz
      by_cases hik : i = k * sz + j
      · have hq2 : i / sz = k := by
          rw [hik, Nat.mul_comm, Nat.mul_add_div hs0, Nat.div_eq_of_lt hj, Nat.add_zero]
        have hm2 : i % sz = j := by rw [hik, Nat.mul_comm, Nat.mul_add_mod, Nat.mod_eq_of_lt hj]
        have hlt : off + k * sz + j < cur.size := by omega
        rw [hq2, hm2, hik, ← Nat.add_assoc]
        have e1 : ((xs.set k y).map f).getD k [] = f y := by simp [List.getD, hk]
        rw [e1, hy, List.getElem?_set_self (by rw [hf]; exact hj)]
        simp [hlt]
      · rw [Array.set!_eq_setIfInBounds, Array.getElem?_setIfInBounds_ne (by omega), hc i hi', rows_flat hf xs i hi' hs0]
        by_cases hqk : i / sz = k
        · have hne : i % sz ≠ j := by
            intro e; apply hik; rw [← hdm, hqk, e, Nat.mul_comm]
          have e1 : ((xs.set k y).map f).getD (i / sz) [] = f y := by rw [hqk]; simp [List.getD, hk]
          have e2 : (xs.map f).getD (i / sz) [] = f (xs.getD k d) := by rw [hqk]; simp [List.getD, hk]
          rw [e1, e2, hy, List.getElem?_set_ne (Ne.symm hne)]
        · congr 1
          simp [List.getD, List.getElem?_set, Ne.symm hqk]
theorem Owns.take {α : Type} {w : World} {base e sz n c : Nat} {a : Option Addr} {f : α → List Value} {xs : List α} (h : Owns w base e sz f (.slice a n c) xs) (hf : ∀ x, (f x).length = sz) (m : Nat) (hm : m ≤ xs.length) : Owns w base e sz f (.slice a m c) (xs.take m) := by
  obtain ⟨hl, h2⟩ := h
  have hlm : (xs.take m).length = m := by simp; omega
  refine ⟨by rw [flatMap_len hf], ?_⟩
  rcases h2 with ⟨h2, h3⟩ | ⟨g', off', cap, cur, hv, hg, hh, hle, hmax, hsz, hc⟩
  · simp only [Value.slice.injEq] at h2
    obtain ⟨rfl, rfl, rfl⟩ := h2
    have hm0 : m = 0 := by omega
    exact .inl ⟨by rw [hm0], by omega⟩
  · simp only [Value.slice.injEq] at hv
    obtain ⟨rfl, rfl, rfl⟩ := hv
    refine .inr ⟨g', off', c, cur, by rw [hlm], hg, hh, by omega, hmax, hsz, fun j hj => ?_⟩
    rw [hlm] at hj
    have hms : m * sz ≤ xs.length * sz := Nat.mul_le_mul_right _ hm
    rw [hc j (by omega)]
    rcases Nat.eq_zero_or_pos sz with h0 | h0
    · subst h0; omega
    · rw [rows_flat hf xs j (by omega) h0, rows_flat hf (xs.take m) j (by rw [hlm]; exact hj) h0]
      have hq : j / sz < m := Nat.div_lt_of_lt_mul (by rw [Nat.mul_comm]; exact hj)
      congr 1
      simp [List.getD, List.getElem?_take, hq]
theorem Owns.litOf {α : Type} {w : World} {base e sz : Nat} {f : α → List Value} (xs : List α) (cs : Array Value) (hb : base ≤ w.heap.size) (hf : ∀ x, (f x).length = sz) (hcs : cs.toList = xs.flatMap f) (hm : xs.length ≤ maxLen) :
    Owns (w.alloc (.cells cs e)) base e sz f (.slice (some ⟨w.heap.size, 0, none⟩) xs.length xs.length) xs := by
  have hlen : cs.size = xs.length * sz := by rw [← Array.length_toList, hcs, flatMap_len hf]
  unfold Owns
  rw [← hcs]
  exact OwnR.of_row (World.ownsRow_lit w cs xs.length hb hm hlen)

end Go.Proofs.Yteamebdehembgaa
