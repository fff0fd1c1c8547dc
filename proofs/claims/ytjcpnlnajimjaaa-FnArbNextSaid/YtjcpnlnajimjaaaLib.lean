/-
  Plain words for what lies in memory: a slice whose elements are rows of cells (Arr), of numbers (Ints), of bools (Bools); and small laws on worlds.
-/
import Derived.Test.YtjcpnlnajimjaaaRows
import Derived.WalkKit
import Derived.WalkSpells
import Derived.WalkLawsBesides
import Derived.Deep.Draws
namespace Go.Proofs.Ytjcpnlnajimjaaa
open Go.RowKit

theorem hid {p : Prop} (h : p) : Hid p := h
theorem ret_congr {a b : Value} (h : a = b) : Ending.returned a = .returned b := by rw [h]
theorem ret_int {a b : Int} (h : a = b) : Ending.returned (.int .i64 a) = .returned (.int .i64 b) := by rw [h]
theorem ret_bool {a b : Bool} (h : a = b) : Ending.returned (.bool a) = .returned (.bool b) := by rw [h]

/-- An int of Go. -/
def I64 (n : Int) : Prop := -9223372036854775808 ≤ n ∧ n ≤ 9223372036854775807

/-- A slice whose elements are rows of sz cells each, all in blocks below B. -/
def Arr (w : World) (B sz : Nat) (v : Value) (rows : List (List Value)) : Prop :=
  ∃ ao cap, v = .slice ao rows.length cap ∧ rows.length ≤ cap ∧ cap ≤ 9223372036854775807 ∧ rows.length ≤ 140737488351232 ∧
    (rows.length ≠ 0 → ∃ b off, ao = some ⟨b, off, none⟩ ∧ b < B ∧ ∀ t, t < rows.length → ∀ j, j < sz → w.cell? ⟨b, off + t * sz + j, none⟩ = (rows.getD t [])[j]?)

theorem Arr.below {w w' : World} {B sz : Nat} {v : Value} {rows : List (List Value)} (h : Arr w B sz v rows) (hb : Below B w w') : Arr w' B sz v rows := by
  obtain ⟨ao, cap, hv, h1, h2, h0, h3⟩ := h
  refine ⟨ao, cap, hv, h1, h2, h0, fun hn => ?_⟩
  obtain ⟨b, off, ha, hlt, hc⟩ := h3 hn
  exact ⟨b, off, ha, hlt, fun t ht j hj => by rw [← hc t ht j hj]; exact hb.cell (p := ⟨b, _, none⟩) hlt⟩

theorem Arr.mono {w : World} {B B' sz : Nat} {v : Value} {rows : List (List Value)} (h : Arr w B sz v rows) (hb : B ≤ B') : Arr w B' sz v rows := by
  obtain ⟨ao, cap, hv, h1, h2, h0, h3⟩ := h
  refine ⟨ao, cap, hv, h1, h2, h0, fun hn => ?_⟩
  obtain ⟨b, off, ha, hlt, hc⟩ := h3 hn
  exact ⟨b, off, ha, by omega, hc⟩

theorem Arr.take {w : World} {B sz n cap m : Nat} {ao : Option Addr} {rows : List (List Value)} (h : Arr w B sz (.slice ao n cap) rows) (hm : m ≤ n) : Arr w B sz (.slice ao m cap) (rows.take m) := by
  obtain ⟨ao', cap', hv, h1, h2, h0, h3⟩ := h
  simp only [Value.slice.injEq] at hv
  obtain ⟨rfl, rfl, rfl⟩ := hv
  have hl : (rows.take m).length = m := by simp; omega
  refine ⟨ao, cap, by rw [hl], by omega, h2, by omega, fun hn => ?_⟩
  obtain ⟨b, off, ha, hlt, hc⟩ := h3 (by omega)
  refine ⟨b, off, ha, hlt, fun t ht j hj => ?_⟩
  rw [hc t (by omega) j hj]
  simp only [List.getD, List.getElem?_take_of_lt (show t < m by omega)]

def rowI (n : Int) : List Value := [.int .i64 n]
def rowB (x : Bool) : List Value := [.bool x]
def Ints (w : World) (B : Nat) (v : Value) (xs : List Int) : Prop := Arr w B 1 v (xs.map rowI) ∧ ∀ x ∈ xs, I64 x
def Bools (w : World) (B : Nat) (v : Value) (xs : List Bool) : Prop := Arr w B 1 v (xs.map rowB)

def rowU (n : Nat) : List Value := [.int .u8 n]
def Bytes (w : World) (B : Nat) (v : Value) (xs : List Nat) : Prop := Arr w B 1 v (xs.map rowU) ∧ ∀ x ∈ xs, x < 256
theorem Bytes.below {w w' : World} {B : Nat} {v : Value} {xs : List Nat} (h : Bytes w B v xs) (hb : Below B w w') : Bytes w' B v xs := ⟨h.1.below hb, h.2⟩
theorem Bytes.mono {w : World} {B B' : Nat} {v : Value} {xs : List Nat} (h : Bytes w B v xs) (hb : B ≤ B') : Bytes w B' v xs := ⟨h.1.mono hb, h.2⟩
theorem Bytes.take {w : World} {B n cap m : Nat} {ao : Option Addr} {xs : List Nat} (h : Bytes w B (.slice ao n cap) xs) (hm : m ≤ n) : Bytes w B (.slice ao m cap) (xs.take m) :=
  ⟨by rw [List.map_take]; exact h.1.take hm, fun x hx => h.2 x (List.mem_of_mem_take hx)⟩
theorem Bytes.opened {w : World} {B : Nat} {v : Value} {xs : List Nat} (h : Bytes w B v xs) :
    ∃ ao cap, v = .slice ao xs.length cap ∧ xs.length ≤ cap ∧ cap ≤ 9223372036854775807 ∧ xs.length ≤ 140737488351232 ∧
      (xs.length ≠ 0 → ∃ b off, ao = some ⟨b, off, none⟩ ∧ b < B ∧ ∀ t, t < xs.length → w.cell? ⟨b, off + t, none⟩ = some (.int .u8 (xs.getD t 0 : Nat))) := by
  obtain ⟨⟨ao, cap, hv, h1, h2, h0, h3⟩, _⟩ := h
  simp only [List.length_map] at hv h1 h0 h3
  refine ⟨ao, cap, hv, h1, h2, h0, fun hn => ?_⟩
  obtain ⟨b, off, ha, hlt, hc⟩ := h3 hn
  refine ⟨b, off, ha, hlt, fun t ht => ?_⟩
  have := hc t ht 0 (by omega)
  simp only [Nat.mul_one, Nat.add_zero] at this
  rw [this]
  simp [List.getD, rowU, ht]

theorem Ints.below {w w' : World} {B : Nat} {v : Value} {xs : List Int} (h : Ints w B v xs) (hb : Below B w w') : Ints w' B v xs := ⟨h.1.below hb, h.2⟩
theorem Bools.below {w w' : World} {B : Nat} {v : Value} {xs : List Bool} (h : Bools w B v xs) (hb : Below B w w') : Bools w' B v xs := Arr.below h hb
theorem Ints.mono {w : World} {B B' : Nat} {v : Value} {xs : List Int} (h : Ints w B v xs) (hb : B ≤ B') : Ints w B' v xs := ⟨h.1.mono hb, h.2⟩
theorem Bools.mono {w : World} {B B' : Nat} {v : Value} {xs : List Bool} (h : Bools w B v xs) (hb : B ≤ B') : Bools w B' v xs := Arr.mono h hb

/-- A slice of numbers, opened: its shape, and a cell for each. -/
theorem Ints.opened {w : World} {B : Nat} {v : Value} {xs : List Int} (h : Ints w B v xs) :
    ∃ ao cap, v = .slice ao xs.length cap ∧ xs.length ≤ cap ∧ cap ≤ 9223372036854775807 ∧ xs.length ≤ 140737488351232 ∧
      (xs.length ≠ 0 → ∃ b off, ao = some ⟨b, off, none⟩ ∧ b < B ∧ ∀ t, t < xs.length → w.cell? ⟨b, off + t, none⟩ = some (.int .i64 (xs.getD t 0))) := by
  obtain ⟨⟨ao, cap, hv, h1, h2, h0, h3⟩, _⟩ := h
  simp only [List.length_map] at hv h1 h0 h3
  refine ⟨ao, cap, hv, h1, h2, h0, fun hn => ?_⟩
  obtain ⟨b, off, ha, hlt, hc⟩ := h3 hn
  refine ⟨b, off, ha, hlt, fun t ht => ?_⟩
  have := hc t ht 0 (by omega)
  simp only [Nat.mul_one, Nat.add_zero] at this
  rw [this]
  simp [List.getD, rowI, ht]

theorem Bools.opened {w : World} {B : Nat} {v : Value} {xs : List Bool} (h : Bools w B v xs) :
    ∃ ao cap, v = .slice ao xs.length cap ∧ xs.length ≤ cap ∧ cap ≤ 9223372036854775807 ∧ xs.length ≤ 140737488351232 ∧
      (xs.length ≠ 0 → ∃ b off, ao = some ⟨b, off, none⟩ ∧ b < B ∧ ∀ t, t < xs.length → w.cell? ⟨b, off + t, none⟩ = some (.bool (xs.getD t false))) := by
  obtain ⟨ao, cap, hv, h1, h2, h0, h3⟩ := h
  simp only [List.length_map] at hv h1 h0 h3
  refine ⟨ao, cap, hv, h1, h2, h0, fun hn => ?_⟩
  obtain ⟨b, off, ha, hlt, hc⟩ := h3 hn
  refine ⟨b, off, ha, hlt, fun t ht => ?_⟩
  have := hc t ht 0 (by omega)
  simp only [Nat.mul_one, Nat.add_zero] at this
  rw [this]
  simp [List.getD, rowB, ht]

theorem Below.draws {B : Nat} {a w : World} (h : Below B a w) (n : Nat) : Below B a (w.drewN n) := h.trans ⟨rfl, rfl, rfl, Nat.le_refl _, fun _ _ => rfl⟩

/-- The world has but drawn. -/
def Drew (w w' : World) : Prop := ∃ n, w' = w.drewN n
theorem Drew.refl (w : World) : Drew w w := ⟨0, rfl⟩
theorem Drew.one (w : World) (n : Nat) : Drew w (w.drewN n) := ⟨n, rfl⟩
theorem Drew.two (w : World) (n m : Nat) : Drew w ((w.drewN n).drewN m) := ⟨n + m, by simp⟩
theorem Drew.trans {a b c : World} (h : Drew a b) (k : Drew b c) : Drew a c := by
  obtain ⟨n, rfl⟩ := h; obtain ⟨m, rfl⟩ := k; exact .two ..
theorem Drew.below {w w' : World} (h : Drew w w') (B : Nat) : Below B w w' := by obtain ⟨n, rfl⟩ := h; exact Below.draws (Below.refl _ _) _
theorem Drew.quiet {P : Program} {f : FuncId} {args : Array Value} {w : World} {n : Nat} {v : Value}
    (h : Calls P f args (w.drewN n) fun e w' => e = .returned v ∧ Drew (w.drewN n) w') : Calls P f args (w.drewN n) fun e w'' => e = .returned v ∧ ∃ m, w'' = w.drewN m :=
  h.mono fun _ _ ⟨he, m, hm⟩ => ⟨he, n + m, by rw [hm, World.drewN_drewN]⟩

/-- What is owned from 'base' on reads as an array of rows. -/
theorem ownsRow_arr {w : World} {base e sz : Nat} {v : Value} {n : Nat} {cells : List Value} {rows : List (List Value)} (h : w.ownsRow base e sz v n cells)
    (hrows : rows.length = n) (hn : n ≤ 140737488351232) (hc : ∀ t, t < n → ∀ j, j < sz → cells[t * sz + j]? = (rows.getD t [])[j]?) : Arr w w.heap.size sz v rows := by
  subst hrows
  obtain ⟨hl, h2⟩ := h
  rcases h2 with ⟨rfl, h2⟩ | ⟨g, cap, cur, rfl, hg, hh, hle, hmax, hsz, hpre⟩
  · exact ⟨none, 0, by rw [h2], by omega, by omega, hn, fun hn => absurd h2 hn⟩
  · refine ⟨_, cap, rfl, hle, by unfold maxLen at hmax; omega, hn, fun hn => ⟨g, 0, rfl, ?_, fun t ht j hj => ?_⟩⟩
    · rcases Nat.lt_or_ge g w.heap.size with h | h
      · exact h
      · rw [Array.getElem?_eq_none h] at hh; simp at hh
    · have hlt : t * sz + j < rows.length * sz := by
        have : (t + 1) * sz ≤ rows.length * sz := Nat.mul_le_mul_right _ ht
        rw [Nat.add_mul] at this; omega
      rw [← hc t ht j hj, ← hpre]
      simp only [World.cell?, hh, Nat.zero_add]
      rw [List.getElem?_take_of_lt hlt]
      simp

/-- A row that is being filled: the first k are there, the others are still z. -/
def fillRow {α : Type} (f : α → Value) (z : Value) (xs : List α) (k : Nat) : List Value := (xs.take k).map f ++ List.replicate (xs.length - k) z
theorem fillRow_zero {α : Type} (f : α → Value) (z : Value) (xs : List α) : fillRow f z xs 0 = List.replicate xs.length z := by simp [fillRow]
theorem fillRow_all {α : Type} (f : α → Value) (z : Value) (xs : List α) : fillRow f z xs xs.length = xs.map f := by simp [fillRow]
theorem fillRow_get {α : Type} (f : α → Value) (z : Value) (xs : List α) (k : Nat) (h : k < xs.length) : (fillRow f z xs k)[k]? = some z := by
  unfold fillRow
  have hl : ((xs.take k).map f).length = k := by simp; omega
  rw [List.getElem?_append_right (by omega), hl, List.getElem?_replicate, if_pos (by omega)]
theorem fillRow_set {α : Type} (f : α → Value) (z : Value) (xs : List α) (k : Nat) (d : α) (h : k < xs.length) : (fillRow f z xs k).set k (f (xs.getD k d)) = fillRow f z xs (k + 1) := by
  unfold fillRow
  have hl : ((xs.take k).map f).length = k := by simp; omega
  rw [List.set_append_right _ _ (by omega), hl, Nat.sub_self, List.take_succ_eq_append_getElem h, show xs.length - k = (xs.length - (k + 1)) + 1 from by omega, List.replicate_succ, List.map_append, List.append_assoc]
  simp only [List.set_cons_zero, List.map_cons, List.map_nil, List.cons_append, List.nil_append]
  simp [List.getD, h]

end Go.Proofs.Ytjcpnlnajimjaaa
