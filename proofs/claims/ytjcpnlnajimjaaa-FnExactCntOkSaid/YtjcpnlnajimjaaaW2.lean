/-
  Walks: bools copied.
-/
import Derived.Test.YtjcpnlnajimjaaaW1
namespace Go.Proofs.Ytjcpnlnajimjaaa
open Go.RowKit

theorem own_bools {w : World} {base : Nat} {u : Value} {xs : List Bool} (h : w.ownsRow base 4 1 u xs.length (xs.map Value.bool)) (hn : xs.length ≤ 140737488351232) : Bools w w.heap.size u xs :=
  ownsRow_arr h (by simp) hn (fun t ht j hj => by
    obtain rfl : j = 0 := by omega
    simp [rowB, ht])

theorem infoI : (Try.prog.info? 3).map (fun i => (i.zero, i.size, i.bytes)) = some (some (.int .i64 0), 1, 8) := by kernel_rfl
theorem own_ints {w : World} {base : Nat} {u : Value} {xs : List Int} (h : w.ownsRow base 3 1 u xs.length (xs.map (Value.int .i64))) (hn : xs.length ≤ 140737488351232) (hx : ∀ x ∈ xs, I64 x) : Ints w w.heap.size u xs :=
  ⟨ownsRow_arr h (by simp) hn (fun t ht j hj => by
    obtain rfl : j = 0 := by omega
    simp [rowI, ht]), hx⟩
theorem ints_push {w : World} {base : Nat} {v : Value} {xs : List Int} {x : Int} (h : w.ownsRow base 3 1 v (xs.length + 1) (xs.map (Value.int .i64) ++ [.int .i64 x])) : w.ownsRow base 3 1 v (xs ++ [x]).length ((xs ++ [x]).map (Value.int .i64)) := by
  simpa using h

theorem infoB : (Try.prog.info? 4).map (fun i => (i.zero, i.size, i.bytes)) = some (some (.bool false), 1, 1) := by kernel_rfl

set_option maxHeartbeats 400000 in
theorem toBoolS_any (v : Value) (xs : List Bool) (B : Nat) (w : World) (hv : Bools w B v xs) (hB : B ≤ w.heap.size) :
    Calls Try.prog 8 #[v] w fun e w' => ∃ u, e = .returned u ∧ w'.ownsRow w.heap.size 4 1 u xs.length (xs.map Value.bool) ∧ Below w.heap.size w w' := by
  obtain ⟨ao, cap, rfl, hlc, hcap, hln, hni, hr⟩ := hv.opened
  obtain ⟨i0, hi, hz0, hz1, hz2⟩ := info_parts infoB
  clear hv
  go_enter Try.func8, Try.ntmps8
  go_wp2_with (at_make; refine wpList_make_full _ rfl _ _ 22 rfl w.heap.size 4 i0 (.bool false) 1 Try.underlying22 hi hz0 hz1 _ _ _ _ xs.length rfl rfl rfl rfl (by rw [hz2]; omega) (by unfold maxLen; omega) (Nat.le_refl _) ?_)
  intro w1 hown hgrow
  have hbel : Below w.heap.size w w1 := (Below.refl _ _).grown hgrow (Nat.le_refl _) (by simp)
  have hsz := hgrow.size
  rw [toList_madeCells_one, ← fillRow_zero Value.bool] at hown
  go_wp2
  go_loopw [4] (fun i wr => ∃ k : Nat, k ≤ xs.length ∧ i = .int .i64 k ∧ wr.ownsRow w.heap.size 4 1 (.slice (some ⟨w.heap.size, 0, none⟩) xs.length xs.length) xs.length (fillRow Value.bool (.bool false) xs k) ∧ Below w.heap.size w wr) (fun i _ => xs.length - (intOf i).toNat)
  case atStart => exact ⟨0, Nat.zero_le _, rfl, hown, hbel⟩
  case round =>
    clear hown hbel hgrow hsz
    obtain ⟨k, hk, rfl, hown, hbel⟩ := hrel
    by_cases hlt : k < xs.length
    · obtain ⟨b, off, rfl, hb, hc⟩ := hr (by omega)
      have hck := hc k hlt
      rw [← hbel.cell (p := ⟨b, off + k, none⟩) (by exact Nat.lt_of_lt_of_le hb hB)] at hck
      have hcell := hown.cellAt k (by omega)
      rw [fillRow_get _ _ _ _ hlt] at hcell
      have hfr := hown.frozenAt k
      have hst := hown.stored k (.bool (xs.getD k false))
      rw [fillRow_set _ _ _ _ _ hlt] at hst
      have HS := hid hst; clear hst
      have HB := hid hbel; clear hbel hc hr hown
      obtain ⟨x, hx⟩ : ∃ x, x = xs.getD k false := ⟨_, rfl⟩
      rw [← hx] at hck HS
      have HX := hid hx; clear hx
      go_wp2
      go_roundw
      case rel => exact ⟨k + 1, by omega, by go_num, HS.out.1, HB.out.setCell (by simp) _⟩
      case measure => simp [intOf]; omega
    · have hk2 : k = xs.length := by omega
      subst hk2
      go_wp2
      go_ret
      exact ⟨_, rfl, by rw [fillRow_all] at hown; exact hown, hbel⟩

end Go.Proofs.Ytjcpnlnajimjaaa
