/-
  What is read, by the blocks in which it lies: P says which. What keeps these blocks keeps it.
-/
import Derived.Test.YteamebdehembgaaJPl1
import Derived.Test.YteamebdehembgaaJDr1
import Derived.Test.YteamebdehembgaaJEx1
import Derived.OwnWalk
import Derived.Deep.MidRow
set_option linter.unusedVariables false
set_option linter.unusedSimpArgs false
namespace Go.Proofs.Yteamebdehembgaa
open Go.RowKit

theorem crOk_any (w : World) : Calls Try.prog 13 #[] w fun e w' => e = .returned (.bool true) ∧ w = w' := by
  go_enter Try.func13, Try.ntmps13
  go_wp2_with (first | (go_at_call 64; refine (implAdrOk_any _ _ _ _).mono ?_; rw [show adrOk 5 1 false = true by decide]; rintro e w' ⟨rfl, rfl⟩))
  go_ret
  exact ⟨rfl, rfl⟩

set_option maxHeartbeats 1000000 in
/-- The same numbers are the same. -/
theorem crInts_same (v u : Value) (xs : List Int) (B C : Nat) (w : World) (hv : Ints w B v xs) (hu : Ints w C u xs) :
    Calls Try.prog 58 #[v, u] w fun e w' => e = .returned (.bool true) ∧ Drew w w' := by
  obtain ⟨ao, cap, rfl, hlc, hcap, hln, hni, hr⟩ := hv.opened
  obtain ⟨bo, cbp, rfl, hlc2, hcap2, hln2, hni2, hr2⟩ := hu.opened
  clear hv hu
  go_enter Try.func58, Try.ntmps58
  go_wp2_with fail
  go_loopw [5] (fun i wr => ∃ k n : Nat, k ≤ xs.length ∧ i = .int .i64 k ∧ wr = w.drewN n) (fun i _ => xs.length - (intOf i).toNat)
  case atStart => exact ⟨0, 0, Nat.zero_le _, rfl, rfl⟩
  case round =>
    obtain ⟨k, n, hk, rfl, rfl⟩ := hrel
    by_cases hlt : k < xs.length
    · obtain ⟨b, off, rfl, hb, hc⟩ := hr (by omega)
      obtain ⟨b2, off2, rfl, hb2, hc2⟩ := hr2 (by omega)
      have hck := hc k hlt
      have hck2 := hc2 k hlt
      obtain ⟨x, hx⟩ : ∃ x, x = xs.getD k 0 := ⟨_, rfl⟩
      rw [← hx] at hck hck2
      have hq2 : (x != x) = false := by simp
      clear hc hr hc2 hr2 hx
      go_wp2_with fail
      go_quiet (fail)
      go_wp2_with fail
      go_roundw
      case rel => exact ⟨k + 1, _, by omega, by go_num, rfl⟩
      case measure => simp [intOf]; omega
    · go_wp2_with fail
      go_ret
      exact ⟨rfl, by first | exact Drew.one .. | exact Drew.two ..⟩

end Go.Proofs.Yteamebdehembgaa

namespace Go.Proofs.Yteamebdehembgaa
open Go.RowKit

structure Small (x : List Int × List Int × Rs) : Prop where
  w : ∀ y ∈ x.1, I64 y
  h : ∀ y ∈ x.2.1, I64 y
  d : ∀ y ∈ x.2.2.data, I64 y
  i : I64 x.2.2.id
  c : I64 x.2.2.code
  lw : x.1.length ≤ 64
  lh : x.2.1.length ≤ 6
  ld : x.2.2.data.length ≤ 4
theorem word64 {n : Int} (h : wordOk n = true) : I64 n := by
  simp only [wordOk, inB, Bool.and_eq_true, decide_eq_true_eq] at h; unfold I64; omega
theorem atmDo_small (ms : List MR) (ws hs : List Int) (who : Int) (r : Rq) : Small (atmDo ms ws hs who r) := by
  rcases h : atmOkk ms ws hs who r with _ | _
  · rw [atmDo_no h]
    exact ⟨by simp, by simp, by simp, by simp [I64], by simp [I64], by simp, by simp, by simp⟩
  · have h1 := hold_len h
    obtain ⟨h2, h3⟩ := rsp_law h
    obtain ⟨a1, a2, a3, a4⟩ := atmOk_parts h1
    simp only [rspOk, inB, Bool.and_eq_true, decide_eq_true_eq] at h2
    rw [List.all_eq_true] at a3 a4
    refine ⟨fun y hy => word64 (a3 y hy), fun y hy => ?_, fun y hy => word64 (List.all_eq_true.1 h2.2 y hy), ?_, ?_, by omega, by omega, by omega⟩
    · have := a4 y hy
      simp only [inB, Bool.and_eq_true, decide_eq_true_eq] at this
      unfold I64; omega
    · unfold I64; omega
    · unfold I64; omega

/-- What AtmDo comes to, as it is read. -/
def DoV (x : List Int × List Int × Rs) (w : World) (e : Ending) (w' : World) : Prop :=
  ∃ wa wc ha hc da dc, e = .returned (.tuple #[.agg #[.slice wa x.1.length wc, .slice ha x.2.1.length hc], .agg #[.int .i64 x.2.2.id, .int .i64 x.2.2.code, .slice da x.2.2.data.length dc]]) ∧
    Ints w' w'.heap.size (.slice wa x.1.length wc) x.1 ∧ Ints w' w'.heap.size (.slice ha x.2.1.length hc) x.2.1 ∧ Ints w' w'.heap.size (.slice da x.2.2.data.length dc) x.2.2.data ∧ Below w.heap.size w w'
theorem implDo_v (v sv u : Value) (ms : List MR) (B : Nat) (ws hs : List Int) (who : Int) (r : Rq) (w : World) (hv : Maps w B v ms) (hs1 : AtmV w B sv ws hs) (hu : ReqV w B u r) (hB : B ≤ w.heap.size) :
    Calls Try.prog 33 #[v, sv, .int .i64 who, u] w (DoV (atmDo ms ws hs who r) w) := by
  have hs := atmDo_small ms ws hs who r
  refine (implAtmDo_any v sv u ms B ws _ who r w hv hs1 hu hB).mono ?_
  rintro e w' ⟨wv, hv', dv, rfl, o1, o2, o3, _, _, _, hb⟩
  have i1 := o1.ints (by have := hs.lw; omega) hs.w
  have i2 := o2.ints (by have := hs.lh; omega) hs.h
  have i3 := o3.ints (by have := hs.ld; omega) hs.d
  obtain ⟨q1, k1, rfl, _, _⟩ := o1.shape
  obtain ⟨q2, k2, rfl, _, _⟩ := o2.shape
  obtain ⟨q3, k3, rfl, _, _⟩ := o3.shape
  exact ⟨_, _, _, _, _, _, rfl, i1, i2, i3, hb⟩

/-- What comes of a thing, boxed at block g. -/
def Box2 (w : World) (g : Nat) (a b : Value) : Prop := w.cell? ⟨g, 0, none⟩ = some a ∧ w.cell? ⟨g, 1, none⟩ = some b
def Box3 (w : World) (g : Nat) (a b c : Value) : Prop := w.cell? ⟨g, 0, none⟩ = some a ∧ w.cell? ⟨g, 1, none⟩ = some b ∧ w.cell? ⟨g, 2, none⟩ = some c
theorem Box2.below {w w' : World} {g C : Nat} {a b : Value} (h : Box2 w g a b) (hb : Below C w w') (hg : g < C) : Box2 w' g a b :=
  ⟨by rw [hb.cell (by exact hg)]; exact h.1, by rw [hb.cell (by exact hg)]; exact h.2⟩
theorem Box3.below {w w' : World} {g C : Nat} {a b c : Value} (h : Box3 w g a b c) (hb : Below C w w') (hg : g < C) : Box3 w' g a b c :=
  ⟨by rw [hb.cell (by exact hg)]; exact h.1, by rw [hb.cell (by exact hg)]; exact h.2.1, by rw [hb.cell (by exact hg)]; exact h.2.2⟩
theorem Box2.lt {w : World} {g : Nat} {a b : Value} (h : Box2 w g a b) : g < w.heap.size := World.block_lt_of_cell? w _ h.1
theorem Box3.lt {w : World} {g : Nat} {a b c : Value} (h : Box3 w g a b c) : g < w.heap.size := World.block_lt_of_cell? w _ h.1
/-- Behind two new boxes, and what makes memory. -/
theorem two_below {w w' : World} {o p : Obj} (hb : Below ((w.alloc o).alloc p).heap.size ((w.alloc o).alloc p) w') : Below w.heap.size w w' ∧ w.heap.size + 2 ≤ w'.heap.size :=
  ⟨(((Below.refl _ _).alloc (Nat.le_refl _) _).alloc (by simp) _).trans (hb.mono (by simp; omega)), by have := hb.size; simp at this; omega⟩
theorem two_in (w : World) (o p : Obj) : Below w.heap.size w ((w.alloc o).alloc p) := ((Below.refl _ _).alloc (Nat.le_refl _) _).alloc (by simp) _

end Go.Proofs.Yteamebdehembgaa

namespace Go.Proofs.Yteamebdehembgaa
open Go.RowKit

theorem madeCells_add (z : Array Value) (n : Nat) (hz : 0 < z.size) : (madeCells z ((n + 1) * z.size)).toList = z.toList ++ (madeCells z (n * z.size)).toList := by
  apply List.ext_getElem?
  intro i
  unfold madeCells
  simp only [Array.toList_map, Array.toList_range, List.getElem?_map, List.getElem?_append, Array.length_toList]
  by_cases h : i < z.size
  · rw [if_pos h, List.getElem?_range (by rw [Nat.add_mul]; omega)]
    simp [Nat.mod_eq_of_lt h, h]
  · rw [if_neg h]
    by_cases h2 : i < (n + 1) * z.size
    · rw [List.getElem?_range h2, List.getElem?_range (by rw [Nat.add_mul] at h2; omega)]
      simp only [Option.map_some]
      rw [show (i - z.size) % z.size = i % z.size from by rw [← Nat.mod_eq_sub_mod (by omega)]]
    · rw [List.getElem?_eq_none (by simp; omega), List.getElem?_eq_none (by simp; rw [Nat.add_mul] at h2; omega)]
theorem madeCells_rows {α : Type} (f : α → List Value) (x : α) (z : Array Value) (hz : 0 < z.size) (hf : f x = z.toList) : ∀ n : Nat, (madeCells z (n * z.size)).toList = (List.replicate n x).flatMap f
  | 0 => by simp [madeCells]
  | n + 1 => by rw [madeCells_add z n hz, madeCells_rows f x z hz hf n, List.replicate_succ, List.flatMap_cons, hf]

/-- 'make([]T, n)': n rows of noughts, the call's own. -/
theorem wpList_mk {α : Type} {ops : Array Oper} {rest : List Oper} {o : Oper} {a : Act} {Q : Exit → Act → World → Prop} {T e sz by_ : Nat} (f : α → List Value) (x : α) (z : Value) (hT : Try.prog.underlying T = some (.slice e)) (hi : (Try.prog.info? e).map (fun i => (i.zero, i.size, i.bytes)) = some (some z, sz, by_))
    (hz : z.cells.size = sz) (hs : 0 < sz) (hf : f x = z.cells.toList) (w : World) (hgd : o.guard = none) (l c : Operand) (hop : o.op = Op.makeSlice T l c) (kl kc : IntKind) (L C : Int) (n : Nat) (hl : a.eval l = .int kl L) (hc : a.eval c = .int kc C) (hL : L = (n : Int)) (hC : C = (n : Int))
    (b2 : by_ * n ≤ 281474976710656) (b3 : n ≤ maxLen)
    (hK : ∀ w', Owns w' w.heap.size e sz f (.slice (some ⟨w.heap.size, 0, none⟩) n n) (List.replicate n x) → Below w.heap.size w w' → w.heap.size < w'.heap.size → wpList Try.prog ops Q rest (a.put o.dst (.slice (some ⟨w.heap.size, 0, none⟩) n n)) w') :
    wpList Try.prog ops Q (o :: rest) a w := by
  obtain ⟨i, h1, h2, h3, h4⟩ := info_parts hi
  refine wpList_make_full w hgd l c T hop w.heap.size e i z sz hT h1 h2 h3 kl kc L C n hl hc hL hC (by rw [h4]; exact b2) b3 (Nat.le_refl _) fun w' hown hg => ?_
  have hr : (madeCells z.cells (n * sz)).toList = (List.replicate n x).flatMap f := by rw [← hz]; exact madeCells_rows f x z.cells (by omega) hf n
  rw [hr] at hown
  have hO : Owns w' w.heap.size e sz f (.slice (some ⟨w.heap.size, 0, none⟩) n n) (List.replicate n x) := by
    unfold Owns; rw [List.length_replicate]; exact OwnR.of_row hown
  exact hK w' hO ((Below.refl _ _).grown hg (Nat.le_refl _) (by simp)) hO.ltI.2

theorem Owns.kept {α : Type} {w w' : World} {base e sz : Nat} {f : α → List Value} {v : Value} {xs : List α} (h : Owns w base e sz f v xs) (hk : ∀ k, v.ownBlock = some k → w'.heap[k]? = w.heap[k]?) : Owns w' base e sz f v xs := OwnR.kept h hk
/-- What owns a block below another's base is apart from it. -/
theorem Apart.of_lt {v u : Value} {m : Nat} (h : ∀ k, v.ownBlock = some k → k < m) (h' : ∀ k, u.ownBlock = some k → m ≤ k) : Apart v u := fun k hk hu => by
  have := h k hk; have := h' k hu; omega
theorem Apart.symm {v u : Value} (h : Apart v u) : Apart u v := fun k hk hu => h k hu hk

/-- Storing a whole block's worth into a new block. -/
theorem setCells_alloc (w : World) (T : TypeId) : ∀ (cs : List Value) (z : Array Value) (k : Nat), k + cs.length ≤ z.size →
    (w.alloc (.cells z T)).setCells w.heap.size k cs = w.alloc (.cells ((z.toList.take k ++ cs ++ z.toList.drop (k + cs.length)).toArray) T)
  | [], z, k, _ => by simp [World.setCells]
  | c :: cs, z, k, h => by
    have h' : k < z.size := by simp at h; omega
    have e : (w.alloc (.cells z T)).setCell ⟨w.heap.size, k, none⟩ c = w.alloc (.cells (z.set! k c) T) := by
      rw [World.setCell_alloc_at _ _ _ _ _ rfl, Array.set!_eq_setIfInBounds]
    simp only [World.setCells]
    rw [e, setCells_alloc w T cs (z.set! k c) (k + 1) (by simp at h ⊢; omega)]
    congr 3
    have ht : (z.toList.set k c).take (k + 1) = z.toList.take k ++ [c] := by
      rw [List.take_set, List.take_succ_eq_append_getElem (by simpa using h')]
      rw [List.set_append_right _ _ (by simp; exact Nat.min_le_left _ _)]
      simp [Nat.min_eq_left (Nat.le_of_lt h')]
    have hd : (z.toList.set k c).drop (k + 1 + cs.length) = z.toList.drop (k + (cs.length + 1)) := by
      rw [List.drop_set_of_lt (by omega)]; congr 1; omega
    simp only [Array.set!_eq_setIfInBounds, Array.toList_setIfInBounds, ht, hd, List.length_cons]
    simp
theorem wpList_store_new {ops : Array Oper} {rest : List Oper} {op : Oper} {a : Act} {Q : Exit → Act → World → Prop} (hgd : op.guard = none) (ty : TypeId) (x y : Operand) (ho : op.op = .store ty x y) (hdst : op.dst = none)
    (w : World) (z : Array Value) (T : TypeId) (cells : Array Value) (hx : a.eval x = .pointer (some ⟨w.heap.size, 0, none⟩)) (hy : a.eval y = .agg cells) (hz : z.size = cells.size) (hi : (Try.prog.info? ty).map (·.size) = some cells.size) (h1 : cells.all (·.oneCell') = true)
    (h : wpList Try.prog ops Q rest a (w.alloc (.cells cells T))) : wpList Try.prog ops Q (op :: rest) a (w.alloc (.cells z T)) := by
  refine wpList_store_mid hgd ty x y ho w.heap.size 0 cells hx hy (fun j hj => ?_) hi h1 ?_
  · have hj' : j < z.size := by omega
    simp [hj']
  · rw [setCells_alloc w T cells.toList z 0 (by simp [hz]), hdst]
    simpa [Act.put, List.drop_eq_nil_of_le (show z.toList.length ≤ cells.size by simp [hz])] using h

end Go.Proofs.Yteamebdehembgaa

namespace Go.Proofs.Yteamebdehembgaa
open Go.RowKit

/-- The blocks of P are as they were. -/
def Keeps (P : Nat → Prop) (w w' : World) : Prop := ∀ b, P b → w'.heap[b]? = w.heap[b]?
theorem Keeps.weak {P Q : Nat → Prop} {w w' : World} (h : Keeps Q w w') (hs : ∀ b, P b → Q b) : Keeps P w w' := fun b hb => h b (hs b hb)
theorem Keeps.trans {P : Nat → Prop} {u v w : World} (h : Keeps P u v) (k : Keeps P v w) : Keeps P u w := fun b hb => (k b hb).trans (h b hb)
theorem Keeps.cell {P : Nat → Prop} {w w' : World} (h : Keeps P w w') {a : Addr} (ha : P a.block) : w'.cell? a = w.cell? a := by simp only [World.cell?, h _ ha]
theorem Keeps.frozen {P : Nat → Prop} {w w' : World} (h : Keeps P w w') {a : Addr} (ha : P a.block) : w'.frozen? a = w.frozen? a := by simp only [World.frozen?, h _ ha]

/-- A slice of rows, read in blocks of P. -/
def ArrD (w : World) (P : Nat → Prop) (sz : Nat) (v : Value) (rows : List (List Value)) : Prop :=
  ∃ ao cap, v = .slice ao rows.length cap ∧ rows.length ≤ cap ∧ cap ≤ 9223372036854775807 ∧ rows.length ≤ 140737488351232 ∧ (ao = none → cap = 0) ∧
    (rows.length ≠ 0 → ∃ b off, ao = some ⟨b, off, none⟩ ∧ P b ∧ ∀ t, t < rows.length → ∀ j, j < sz → w.cell? ⟨b, off + t * sz + j, none⟩ = (rows.getD t [])[j]?)
theorem ArrD.of {w : World} {B sz : Nat} {v : Value} {rows : List (List Value)} (h : Arr w B sz v rows) : ArrD w (· < B) sz v rows := h
theorem ArrD.to {w : World} {P : Nat → Prop} {B sz : Nat} {v : Value} {rows : List (List Value)} (h : ArrD w P sz v rows) (hP : ∀ b, P b → b < B) : Arr w B sz v rows := by
  obtain ⟨ao, cap, hv, h1, h2, h0, h9, h3⟩ := h
  refine ⟨ao, cap, hv, h1, h2, h0, h9, fun hn => ?_⟩
  obtain ⟨b, off, ha, hlt, hc⟩ := h3 hn
  exact ⟨b, off, ha, hP b hlt, hc⟩
theorem ArrD.kept {w w' : World} {P : Nat → Prop} {sz : Nat} {v : Value} {rows : List (List Value)} (h : ArrD w P sz v rows) (hk : Keeps P w w') : ArrD w' P sz v rows := by
  obtain ⟨ao, cap, hv, h1, h2, h0, h9, h3⟩ := h
  refine ⟨ao, cap, hv, h1, h2, h0, h9, fun hn => ?_⟩
  obtain ⟨b, off, ha, hlt, hc⟩ := h3 hn
  exact ⟨b, off, ha, hlt, fun t ht j hj => by rw [← hc t ht j hj]; exact hk.cell (a := ⟨b, _, none⟩) hlt⟩
theorem ArrD.weak {w : World} {P Q : Nat → Prop} {sz : Nat} {v : Value} {rows : List (List Value)} (h : ArrD w P sz v rows) (hs : ∀ b, P b → Q b) : ArrD w Q sz v rows := by
  obtain ⟨ao, cap, hv, h1, h2, h0, h9, h3⟩ := h
  refine ⟨ao, cap, hv, h1, h2, h0, h9, fun hn => ?_⟩
  obtain ⟨b, off, ha, hlt, hc⟩ := h3 hn
  exact ⟨b, off, ha, hs b hlt, hc⟩
theorem OwnR.arrD {w : World} {base e sz : Nat} {v : Value} {n : Nat} {cells : List Value} {rows : List (List Value)} {P : Nat → Prop} (h : OwnR w base e sz v n cells) (hP : ∀ k, v.ownBlock = some k → P k)
    (hrows : rows.length = n) (hn : n ≤ 140737488351232) (hc : ∀ t, t < n → ∀ j, j < sz → cells[t * sz + j]? = (rows.getD t [])[j]?) : ArrD w P sz v rows := by
  obtain ⟨ao, cap, hv, h1, h2, h0, h9, h3⟩ := h.arr hrows hn hc
  refine ⟨ao, cap, hv, h1, h2, h0, h9, fun hnz => ?_⟩
  obtain ⟨b, off, ha, hlt, hc⟩ := h3 hnz
  exact ⟨b, off, ha, hP b (by rw [hv, ha]; rfl), hc⟩
theorem Owns.arrD {α : Type} {w : World} {base e sz : Nat} {f : α → List Value} {v : Value} {xs : List α} {P : Nat → Prop} (h : Owns w base e sz f v xs) (hP : ∀ k, v.ownBlock = some k → P k) (hf : ∀ x, (f x).length = sz) (hn : xs.length ≤ 140737488351232) : ArrD w P sz v (xs.map f) :=
  OwnR.arrD h hP (by simp) hn (fun t ht j hj => flatMap_get hf xs t j ht hj)

def IntsD (w : World) (P : Nat → Prop) (v : Value) (xs : List Int) : Prop := ArrD w P 1 v (xs.map rowI) ∧ ∀ x ∈ xs, I64 x
theorem IntsD.of {w : World} {B : Nat} {v : Value} {xs : List Int} (h : Ints w B v xs) : IntsD w (· < B) v xs := h
theorem IntsD.to {w : World} {P : Nat → Prop} {B : Nat} {v : Value} {xs : List Int} (h : IntsD w P v xs) (hP : ∀ b, P b → b < B) : Ints w B v xs := ⟨h.1.to hP, h.2⟩
theorem IntsD.kept {w w' : World} {P : Nat → Prop} {v : Value} {xs : List Int} (h : IntsD w P v xs) (hk : Keeps P w w') : IntsD w' P v xs := ⟨h.1.kept hk, h.2⟩
theorem IntsD.weak {w : World} {P Q : Nat → Prop} {v : Value} {xs : List Int} (h : IntsD w P v xs) (hs : ∀ b, P b → Q b) : IntsD w Q v xs := ⟨h.1.weak hs, h.2⟩
theorem Owns.intsD {w : World} {base e : Nat} {v : Value} {xs : List Int} {P : Nat → Prop} (h : Owns w base e 1 rowI v xs) (hP : ∀ k, v.ownBlock = some k → P k) (hn : xs.length ≤ 140737488351232) (hx : ∀ x ∈ xs, I64 x) : IntsD w P v xs := ⟨h.arrD hP rowI_len hn, hx⟩
theorem IntsD.nil (w : World) (P : Nat → Prop) : IntsD w P (.slice none 0 0) [] := ⟨⟨none, 0, rfl, by simp, by omega, by simp, fun _ => rfl, fun h => absurd rfl h⟩, by simp⟩

def MapsD (w : World) (P : Nat → Prop) (v : Value) (ms : List MR) : Prop := ArrD w P 4 v (ms.map rowM) ∧ ∀ r ∈ ms, MR64 r
theorem MapsD.of {w : World} {B : Nat} {v : Value} {xs : List MR} (h : Maps w B v xs) : MapsD w (· < B) v xs := h
theorem MapsD.to {w : World} {P : Nat → Prop} {B : Nat} {v : Value} {xs : List MR} (h : MapsD w P v xs) (hP : ∀ b, P b → b < B) : Maps w B v xs := ⟨h.1.to hP, h.2⟩
theorem MapsD.kept {w w' : World} {P : Nat → Prop} {v : Value} {xs : List MR} (h : MapsD w P v xs) (hk : Keeps P w w') : MapsD w' P v xs := ⟨h.1.kept hk, h.2⟩
theorem MapsD.weak {w : World} {P Q : Nat → Prop} {v : Value} {xs : List MR} (h : MapsD w P v xs) (hs : ∀ b, P b → Q b) : MapsD w Q v xs := ⟨h.1.weak hs, h.2⟩

/-- What is asked, with the slices in which its words and lanes lie. -/
abbrev RqV := Rq × Value × Value
def rowQ (y : RqV) : List Value := [.int .i64 y.1.id, .int .i64 y.1.kind, .int .i64 y.1.addr, .int .i64 y.1.many, .bool y.1.wrap, y.2.1, y.2.2]
theorem rowQ_len (y : RqV) : (rowQ y).length = 7 := rfl
def RqD (w : World) (P : Nat → Prop) (y : RqV) : Prop := IntsD w P y.2.1 y.1.data ∧ IntsD w P y.2.2 y.1.lanes ∧ I64 y.1.id ∧ I64 y.1.kind ∧ I64 y.1.addr ∧ I64 y.1.many
theorem RqD.kept {w w' : World} {P : Nat → Prop} {y : RqV} (h : RqD w P y) (hk : Keeps P w w') : RqD w' P y := ⟨h.1.kept hk, h.2.1.kept hk, h.2.2⟩
theorem RqD.weak {w : World} {P Q : Nat → Prop} {y : RqV} (h : RqD w P y) (hs : ∀ b, P b → Q b) : RqD w Q y := ⟨h.1.weak hs, h.2.1.weak hs, h.2.2⟩
theorem RqD.val {w : World} {P : Nat → Prop} {B : Nat} {y : RqV} (h : RqD w P y) (hP : ∀ b, P b → b < B) : ReqV w B (.agg #[.int .i64 y.1.id, .int .i64 y.1.kind, .int .i64 y.1.addr, .int .i64 y.1.many, .bool y.1.wrap, y.2.1, y.2.2]) y.1 :=
  ⟨_, _, rfl, h.1.to hP, h.2.1.to hP, h.2.2⟩
theorem reqs_of {w : World} {P : Nat → Prop} {B : Nat} {v : Value} {ys : List RqV} (ha : ArrD w P 7 v (ys.map rowQ)) (hy : ∀ y ∈ ys, RqD w P y) (hP : ∀ b, P b → b < B) : Reqs w B v (ys.map (·.1)) := by
  refine ⟨ys.map fun y => .agg #[.int .i64 y.1.id, .int .i64 y.1.kind, .int .i64 y.1.addr, .int .i64 y.1.many, .bool y.1.wrap, y.2.1, y.2.2], ?_, by simp, fun k hk d => ?_⟩
  · rw [List.map_map]; exact ha.to hP
  · simp only [List.length_map] at hk
    have e : (ys.map fun y : RqV => Value.agg #[.int .i64 y.1.id, .int .i64 y.1.kind, .int .i64 y.1.addr, .int .i64 y.1.many, .bool y.1.wrap, y.2.1, y.2.2]).getD k undef = .agg #[.int .i64 ys[k].1.id, .int .i64 ys[k].1.kind, .int .i64 ys[k].1.addr, .int .i64 ys[k].1.many, .bool ys[k].1.wrap, ys[k].2.1, ys[k].2.2] := by simp [List.getD, hk]
    have e2 : (ys.map (·.1)).getD k d = ys[k].1 := by simp [List.getD, hk]
    rw [e, e2]
    exact (hy _ (List.getElem_mem hk)).val hP

/-- The blocks that are there, but for block r and that of v. -/
def Clear (v : Value) (r : Nat) (w : World) (b : Nat) : Prop := b < w.heap.size ∧ b ≠ r ∧ v.ownBlock ≠ some b
theorem Clear.touch {v : Value} {r : Nat} {w w' : World} (ht : Touch r w w') : Keeps (Clear v r w) w w' := fun b hb => ht.block b hb.1 hb.2.1
theorem Clear.grow {v : Value} {r b : Nat} {w w' : World} (h : Clear v r w b) (hs : w.heap.size ≤ w'.heap.size) : Clear v r w' b := ⟨Nat.lt_of_lt_of_le h.1 hs, h.2⟩
theorem Clear.swap {v v' : Value} {r b : Nat} {w w' : World} (h : Clear v r w b) (hs : w.heap.size ≤ w'.heap.size) (hv : v'.ownBlock = v.ownBlock ∨ ∃ k, w.heap.size ≤ k ∧ v'.ownBlock = some k) : Clear v' r w' b := by
  refine ⟨Nat.lt_of_lt_of_le h.1 hs, h.2.1, ?_⟩
  rcases hv with hv | ⟨k, hk, hv⟩
  · rw [hv]; exact h.2.2
  · rw [hv]; intro e; obtain rfl := Option.some.inj e; have := h.1; omega

/-- The blocks from base on that are there, but for block r and that of v. -/
def ClearB (base : Nat) (v : Value) (r : Nat) (w : World) (b : Nat) : Prop := base ≤ b ∧ Clear v r w b
theorem ClearB.grow {base : Nat} {v : Value} {r b : Nat} {w w' : World} (h : ClearB base v r w b) (hs : w.heap.size ≤ w'.heap.size) : ClearB base v r w' b := ⟨h.1, h.2.grow hs⟩
theorem ClearB.swap {base : Nat} {v v' : Value} {r b : Nat} {w w' : World} (h : ClearB base v r w b) (hs : w.heap.size ≤ w'.heap.size) (hv : v'.ownBlock = v.ownBlock ∨ ∃ k, w.heap.size ≤ k ∧ v'.ownBlock = some k) : ClearB base v' r w' b := ⟨h.1, h.2.swap hs hv⟩

theorem ClearB.lt {base : Nat} {v : Value} {r : Nat} {w : World} : ∀ b, ClearB base v r w b → b < w.heap.size := fun b hb => hb.2.1
theorem ClearB.touch {base : Nat} {v : Value} {r : Nat} {w w' : World} (ht : Touch r w w') : Keeps (ClearB base v r w) w w' := fun b hb => ht.block b hb.2.1 hb.2.2.1

/-- 'out = append(out, y)' onto what the call itself owns: but for its block, and new ones, all is as it was. -/
theorem wpList_push2 {α : Type} {ops : Array Oper} {rest : List Oper} {o : Oper} {a : Act} {Q : Exit → Act → World → Prop} {T e sz by_ : Nat} (E : Elem T e sz by_) (f : α → List Value) (hf : ∀ x, (f x).length = sz) (y : α) (h1 : ∀ u ∈ f y, u.oneCell' = true)
    (w : World) (hgd : o.guard = none) (s x : Operand) (ho : o.op = .call { callee := .builtin .append, args := #[s, x], argTypes := #[T, T] })
    (base : Nat) (v : Value) (xs : List α) (hs : a.eval s = v) (hown : Owns w base e sz f v xs) (cs : Array Value) (hcs : cs.toList = f y) (hx : a.eval x = .slice (some ⟨w.heap.size, 0, none⟩) 1 1)
    (hlen : (xs.length + 1) * by_ ≤ 140737488355328) (hlen2 : xs.length + 1 ≤ 9223372036854775807) (hbase : base ≤ w.heap.size)
    (h : ∀ v' w', Owns w' base e sz f v' (xs ++ [y]) → w.heap.size ≤ w'.heap.size → (∀ b, b < w.heap.size → v.ownBlock ≠ some b → w'.heap[b]? = w.heap[b]?) → (v'.ownBlock = v.ownBlock ∨ ∃ k, w.heap.size ≤ k ∧ v'.ownBlock = some k) → Below base w w' → wpList Try.prog ops Q rest (a.put o.dst v') w') :
    wpList Try.prog ops Q (o :: rest) a (w.alloc (.cells cs e)) := by
  obtain ⟨ht, i, z, hi, hz, hsize, hby, hzs, hsz⟩ := E
  have hown' : OwnR (w.alloc (.cells cs e)) base e sz v xs.length (xs.flatMap f) := OwnR.alloc hown _
  refine wpList_append_OwnR hgd s x T ho base e i z sz by_ ht hi hz hsize hby hzs v xs.length (xs.flatMap f) hs hown' ⟨w.heap.size, 0, none⟩ 1 1 (f y) hx (by rw [hf]; omega) ?_ h1 (by unfold maxLen; omega) hlen (by simp; omega) ?_
  · intro j u hj
    rw [Addr.add_lit, Nat.zero_add, World.cell?_alloc_at _ _ _ _ rfl, ← hj, ← hcs]
    simp
  · intro v' w' ho' hg _ hb
    have hsz := hg.size
    simp only [World.size_alloc] at hsz
    refine h v' w' (by unfold Owns; simpa using ho') (by omega) (fun b hb hne => ?_) ?_ (((Below.refl _ _).alloc hbase _).grown hg (by simp; omega) (fun k hk => (OwnR.lt hown k hk).1))
    · rw [hg.block b (by simp; omega) (by intro e; exact hne e.symm)]
      exact ((Below.refl w.heap.size w).alloc (Nat.le_refl _) _).block b hb
    · rcases hb with hb | hb
      · exact .inl hb
      · exact .inr ⟨_, by simp, hb⟩

end Go.Proofs.Yteamebdehembgaa
