/-
  Of what lies in memory: the general laws of the greater texts, for seats that lack those texts' functions.
-/
import Derived.Test.YtjcpnlnajimjaaaRd
import Derived.Test.YtjcpnlnajimjaaaW2
namespace Go.Proofs.Ytjcpnlnajimjaaa
open Go.RowKit

theorem Owns.shape {α : Type} {w : World} {base e sz : Nat} {f : α → List Value} {v : Value} {xs : List α} (h : Owns w base e sz f v xs) : ∃ a c, v = .slice a xs.length c ∧ xs.length ≤ c ∧ c ≤ 9223372036854775807 := by
  obtain ⟨hl, h2⟩ := h
  rcases h2 with ⟨rfl, h2⟩ | ⟨g, off, cap, cur, rfl, hg, hh, hle, hmax, _⟩
  · exact ⟨none, 0, by rw [h2], by omega, by omega⟩
  · exact ⟨_, cap, rfl, hle, by unfold maxLen at hmax; omega⟩
theorem Owns.set {α : Type} {w : World} {base e sz : Nat} {f : α → List Value} {v : Value} {xs : List α} (h : Owns w base e sz f v xs) (g o : Nat) (u : Value) (hg : g < base) : Owns (w.setCell ⟨g, o, none⟩ u) base e sz f v xs :=
  OwnR.kept h fun k hk => Below.heap_setCell _ _ _ _ (by have := (OwnR.lt h k hk).1; simp only; omega)
theorem Owns.set' {α : Type} {w : World} {base e sz : Nat} {f : α → List Value} {v : Value} {xs : List α} (h : Owns w base e sz f v xs) (g o : Nat) (u : Value) (hg : ∀ k, v.ownBlock = some k → k ≠ g) : Owns (w.setCell ⟨g, o, none⟩ u) base e sz f v xs :=
  OwnR.kept h fun k hk => Below.heap_setCell _ _ _ _ (hg k hk)
theorem Owns.draws {α : Type} {w : World} {base e sz : Nat} {f : α → List Value} {v : Value} {xs : List α} (h : Owns w base e sz f v xs) (n : Nat) : Owns (w.drewN n) base e sz f v xs := OwnR.kept h fun _ _ => rfl
theorem flat_rowI : ∀ xs : List Int, xs.flatMap rowI = xs.map (Value.int .i64)
  | [] => rfl
  | x :: xs => by rw [List.flatMap_cons, flat_rowI xs]; rfl
theorem Owns.cellI {w : World} {base e g off n c : Nat} {xs : List Int} (h : Owns w base e 1 rowI (.slice (some ⟨g, off, none⟩) n c) xs) (k : Nat) (hk : k < xs.length) : w.cell? ⟨g, off + k, none⟩ = some (.int .i64 (xs.getD k 0)) := by
  obtain ⟨hl, h2⟩ := h
  rcases h2 with ⟨h2, _⟩ | ⟨g', off', cap, cur, hv, hg, hh, hle, hmax, hsz, hc⟩
  · cases h2
  · simp only [Value.slice.injEq, Option.some.injEq, Addr.mk.injEq] at hv
    obtain ⟨⟨rfl, rfl, _⟩, rfl, rfl⟩ := hv
    simp only [World.cell?, hh]
    have := hc k (by omega)
    rw [flat_rowI] at this
    rw [this]
    simp [List.getD, hk]
theorem Owns.frozenI {w : World} {base e g off n c : Nat} {xs : List Int} (h : Owns w base e 1 rowI (.slice (some ⟨g, off, none⟩) n c) xs) (k : Nat) : w.frozen? ⟨g, off + k, none⟩ = false := by
  obtain ⟨hl, h2⟩ := h
  rcases h2 with ⟨h2, _⟩ | ⟨g', off', cap, cur, hv, hg, hh, hle, hmax, hsz, hc⟩
  · cases h2
  · simp only [Value.slice.injEq, Option.some.injEq, Addr.mk.injEq] at hv
    obtain ⟨⟨rfl, rfl, _⟩, rfl, rfl⟩ := hv
    simp [World.frozen?, hh]
theorem Owns.putI {w : World} {base e g off n c : Nat} {xs : List Int} (h : Owns w base e 1 rowI (.slice (some ⟨g, off, none⟩) n c) xs) (k : Nat) (hk : k < xs.length) (x : Int) : Owns (w.setCell ⟨g, off + k, none⟩ (.int .i64 x)) base e 1 rowI (.slice (some ⟨g, off, none⟩) n c) (xs.set k x) := by
  obtain ⟨hl, h2⟩ := h
  rcases h2 with ⟨h2, _⟩ | ⟨g', off', cap, cur, hv, hg, hh, hle, hmax, hsz, hc⟩
  · cases h2
  · simp only [Value.slice.injEq, Option.some.injEq, Addr.mk.injEq] at hv
    obtain ⟨⟨rfl, rfl, _⟩, rfl, rfl⟩ := hv
    refine ⟨by rw [flat_rowI]; simp, .inr ⟨g, off, c, cur.set! (off + k) (.int .i64 x), by simp, hg, ?_, by simpa using hle, hmax, by simpa using hsz, ?_⟩⟩
    · simp only [World.setCell, Array.getElem?_modify, hh]
      simp
    · intro j hj
      rw [flat_rowI]
      have hj' : j < xs.length * 1 := by simpa using hj
      have hcj := hc j hj'
      rw [flat_rowI] at hcj
      by_cases hjk : j = k
      · subst hjk
        have : off + j < cur.size := by omega
        simp [this, hk]
      · rw [Array.set!_eq_setIfInBounds, Array.getElem?_setIfInBounds_ne (by omega), hcj]
        simp [List.getElem?_map, List.getElem?_set, Ne.symm hjk]
theorem Owns.ltI {α : Type} {w : World} {base e sz g off n c : Nat} {f : α → List Value} {xs : List α} (h : Owns w base e sz f (.slice (some ⟨g, off, none⟩) n c) xs) : base ≤ g ∧ g < w.heap.size := OwnR.lt h g rfl
theorem Touch.cell {r : Nat} {w w' : World} (h : Touch r w w') {p : Addr} (ha : p.block ≠ r) (hlt : p.block < w.heap.size) : w'.cell? p = w.cell? p := by
  simp only [World.cell?, h.block _ hlt ha]
theorem results_c1 {fn : Func} {t : Tmp} {T : TypeId} (h : fn.results = #[.cell t T]) (tmps : Array Value) (w : World) (p : Addr) (v : Value) (ht : tmps.getD t undef = .pointer (some p)) (hl : (loadVar T p).run Try.prog w = .ok v w) :
    (results fn tmps).run Try.prog w = .ok v w := by
  simp only [Array.getD_eq_getD_getElem?] at ht
  simp only [results, h]
  simp [ht, asAddr, hl]
theorem Ints.heap {w w' : World} {B : Nat} {v : Value} {xs : List Int} (h : Ints w B v xs) (hk : ∀ k, v.ownBlock = some k → k < B → w'.heap[k]? = w.heap[k]?) : Ints w' B v xs := by
  refine ⟨?_, h.2⟩
  obtain ⟨ao, cap, he, k1, k2, k3, k4, k5⟩ := h.1
  refine ⟨ao, cap, he, k1, k2, k3, k4, fun hn => ?_⟩
  obtain ⟨b, off, ha, hb, hc⟩ := k5 hn
  refine ⟨b, off, ha, hb, fun t ht j hj => ?_⟩
  rw [← hc t ht j hj]
  simp only [World.cell?, hk b (by rw [he, ha]; rfl) hb]

end Go.Proofs.Ytjcpnlnajimjaaa
