/-
  make of whatever element; lists of slice values of which each owns a block of its own.
-/
import Derived.Test.YteamebdehembgaaJDr1
import Derived.OwnWalk
import Derived.Deep.MidRow
set_option linter.unusedVariables false
set_option linter.unusedSimpArgs false
namespace Go.Proofs.Yteamebdehembgaa
open Go.RowKit

theorem madeCells_add (z : Array Value) (n : Nat) (hz : 0 < z.size) : (madeCells z ((n + 1) * z.size)).toList = z.toList ++ (madeCells z (n * z.size)).toList := by
  apply List.ext_getElem?
  intro i
  unfold madeCells
  simp only [Array.toList_map, Array.toList_range, List.getElem?_map, List.getElem?_append, Array.length_toList]
  by_cases h : i < z.size
  · rw [if_pos h, List.getElem?_range (by rw [Nat.add_mul]; omega)]
    simp [Nat.mod_eq_of_lt h, h]
  · rw [if_neg h]
    by_cases h2 : i < (n + 1) * z.size
    · rw [List.getElem?_range h2, List.getElem?_range (by rw [Nat.add_mul] at h2; omega)]
      simp only [Option.map_some]
      rw [show (i - z.size) % z.size = i % z.size from by rw [← Nat.mod_eq_sub_mod (by omega)]]
    · rw [List.getElem?_eq_none (by simp; omega), List.getElem?_eq_none (by simp; rw [Nat.add_mul] at h2; omega)]
theorem madeCells_rows {α : Type} (f : α → List Value) (x : α) (z : Array Value) (hz : 0 < z.size) (hf : f x = z.toList) : ∀ n : Nat, (madeCells z (n * z.size)).toList = (List.replicate n x).flatMap f
  | 0 => by simp [madeCells]
  | n + 1 => by rw [madeCells_add z n hz, madeCells_rows f x z hz hf n, List.replicate_succ, List.flatMap_cons, hf]

/-- 'make([]T, n)': n rows of noughts, the call's own. -/
theorem wpList_mk {α : Type} {ops : Array Oper} {rest : List Oper} {o : Oper} {a : Act} {Q : Exit → Act → World → Prop} {T e sz by_ : Nat} (f : α → List Value) (x : α) (z : Value) (hT : Try.prog.underlying T = some (.slice e)) (hi : (Try.prog.info? e).map (fun i => (i.zero, i.size, i.bytes)) = some (some z, sz, by_))
    (hz : z.cells.size = sz) (hs : 0 < sz) (hf : f x = z.cells.toList) (w : World) (hgd : o.guard = none) (l c : Operand) (hop : o.op = Op.makeSlice T l c) (kl kc : IntKind) (L C : Int) (n : Nat) (hl : a.eval l = .int kl L) (hc : a.eval c = .int kc C) (hL : L = (n : Int)) (hC : C = (n : Int))
    (b2 : by_ * n ≤ 281474976710656) (b3 : n ≤ maxLen)
    (hK : ∀ w', Owns w' w.heap.size e sz f (.slice (some ⟨w.heap.size, 0, none⟩) n n) (List.replicate n x) → Below w.heap.size w w' → w.heap.size < w'.heap.size → wpList Try.prog ops Q rest (a.put o.dst (.slice (some ⟨w.heap.size, 0, none⟩) n n)) w') :
    wpList Try.prog ops Q (o :: rest) a w := by
  obtain ⟨i, h1, h2, h3, h4⟩ := info_parts hi
  refine wpList_make_full w hgd l c T hop w.heap.size e i z sz hT h1 h2 h3 kl kc L C n hl hc hL hC (by rw [h4]; exact b2) b3 (Nat.le_refl _) fun w' hown hg => ?_
  have hr : (madeCells z.cells (n * sz)).toList = (List.replicate n x).flatMap f := by rw [← hz]; exact madeCells_rows f x z.cells (by omega) hf n
  rw [hr] at hown
  have hO : Owns w' w.heap.size e sz f (.slice (some ⟨w.heap.size, 0, none⟩) n n) (List.replicate n x) := by
    unfold Owns; rw [List.length_replicate]; exact OwnR.of_row hown
  exact hK w' hO ((Below.refl _ _).grown hg (Nat.le_refl _) (by simp)) hO.ltI.2

theorem Owns.kept {α : Type} {w w' : World} {base e sz : Nat} {f : α → List Value} {v : Value} {xs : List α} (h : Owns w base e sz f v xs) (hk : ∀ k, v.ownBlock = some k → w'.heap[k]? = w.heap[k]?) : Owns w' base e sz f v xs := OwnR.kept h hk
/-- What owns a block below another's base is apart from it. -/
theorem Apart.of_lt {v u : Value} {m : Nat} (h : ∀ k, v.ownBlock = some k → k < m) (h' : ∀ k, u.ownBlock = some k → m ≤ k) : Apart v u := fun k hk hu => by
  have := h k hk; have := h' k hu; omega
theorem Apart.symm {v u : Value} (h : Apart v u) : Apart u v := fun k hk hu => h k hu hk

/-- Storing a whole block's worth into a new block. -/
theorem setCells_alloc (w : World) (T : TypeId) : ∀ (cs : List Value) (z : Array Value) (k : Nat), k + cs.length ≤ z.size →
    (w.alloc (.cells z T)).setCells w.heap.size k cs = w.alloc (.cells ((z.toList.take k ++ cs ++ z.toList.drop (k + cs.length)).toArray) T)
  | [], z, k, _ => by simp [World.setCells]
  | c :: cs, z, k, h => by
    have h' : k < z.size := by simp at h; omega
    have e : (w.alloc (.cells z T)).setCell ⟨w.heap.size, k, none⟩ c = w.alloc (.cells (z.set! k c) T) := by
      rw [World.setCell_alloc_at _ _ _ _ _ rfl, Array.set!_eq_setIfInBounds]
    simp only [World.setCells]
    rw [e, setCells_alloc w T cs (z.set! k c) (k + 1) (by simp at h ⊢; omega)]
    congr 3
    have ht : (z.toList.set k c).take (k + 1) = z.toList.take k ++ [c] := by
      rw [List.take_set, List.take_succ_eq_append_getElem (by simpa using h')]
      rw [List.set_append_right _ _ (by simp; exact Nat.min_le_left _ _)]
      simp [Nat.min_eq_left (Nat.le_of_lt h')]
    have hd : (z.toList.set k c).drop (k + 1 + cs.length) = z.toList.drop (k + (cs.length + 1)) := by
      rw [List.drop_set_of_lt (by omega)]; congr 1; omega
    simp only [Array.set!_eq_setIfInBounds, Array.toList_setIfInBounds, ht, hd, List.length_cons]
    simp
theorem wpList_store_new {ops : Array Oper} {rest : List Oper} {op : Oper} {a : Act} {Q : Exit → Act → World → Prop} (hgd : op.guard = none) (ty : TypeId) (x y : Operand) (ho : op.op = .store ty x y) (hdst : op.dst = none)
    (w : World) (z : Array Value) (T : TypeId) (cells : Array Value) (hx : a.eval x = .pointer (some ⟨w.heap.size, 0, none⟩)) (hy : a.eval y = .agg cells) (hz : z.size = cells.size) (hi : (Try.prog.info? ty).map (·.size) = some cells.size) (h1 : cells.all (·.oneCell') = true)
    (h : wpList Try.prog ops Q rest a (w.alloc (.cells cells T))) : wpList Try.prog ops Q (op :: rest) a (w.alloc (.cells z T)) := by
  refine wpList_store_mid hgd ty x y ho w.heap.size 0 cells hx hy (fun j hj => ?_) hi h1 ?_
  · have hj' : j < z.size := by omega
    simp [hj']
  · rw [setCells_alloc w T cells.toList z 0 (by simp [hz]), hdst]
    simpa [Act.put, List.drop_eq_nil_of_le (show z.toList.length ≤ cells.size by simp [hz])] using h

end Go.Proofs.Yteamebdehembgaa
