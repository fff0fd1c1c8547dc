/-
  Counts read: copied from the law's own type, measured, and held to be ok by the program and by the reference.
-/
import Derived.Test.YtjcpnlnajimjaaaFv
import Derived.Test.YtjcpnlnajimjaaaEx3
namespace Go.Proofs.Ytjcpnlnajimjaaa
open Go.RowKit

set_option maxHeartbeats 1000000 in
/-- A test of each number of a list. -/
theorem all3_any (v : Value) (xs : List Int) (lo hi : Int) (B : Nat) (w : World) (hv : Ints w B v xs) :
    Calls Try.prog 34 #[v, .int .i64 lo, .int .i64 hi] w fun e w' => e = .returned (.bool (xs.all fun n => inB n lo hi)) ∧ w = w' := by
  obtain ⟨ao, cap, rfl, hlc, hcap, hln, hni, hr⟩ := hv.opened
  clear hv
  obtain ⟨r, hE⟩ : ∃ r, r = xs.all fun n => inB n lo hi := ⟨_, rfl⟩
  rw [← hE]
  have HE := hid hE; clear hE
  go_enter Try.func34, Try.ntmps34
  go_wp2_with fail
  go_loop [7] (fun i => ∃ k : Nat, k ≤ xs.length ∧ i = .int .i64 k ∧ ∀ j, j < k → inB (xs.getD j 0) lo hi = true) (fun i => xs.length - (intOf i).toNat)
  case atStart => exact ⟨0, Nat.zero_le _, rfl, by simp⟩
  case round =>
    obtain ⟨k, hk, rfl, hno⟩ := hrel
    have HN := hid hno; clear hno
    by_cases hlt : k < xs.length
    · obtain ⟨b, off, rfl, hb, hc⟩ := hr (by omega)
      have hck := hc k hlt
      obtain ⟨x, hx⟩ : ∃ x, x = xs.getD k 0 := ⟨_, rfl⟩
      rw [← hx] at hck
      have HX := hid hx; clear hx hc hr
      rcases hp : inB x lo hi with _ | _
      · have HF := hid (show r = false by
          rw [HE.out, List.all_eq_false]; exact ⟨x, by rw [HX.out]; simp [List.getD, hlt], by simp [hp]⟩)
        go_wp2_with (first | (go_at_call 23; refine (l1In_any _ _ _ _).mono ?_; rintro e w' ⟨rfl, rfl⟩))
        go_ret
        exact ⟨by rw [HF.out]; rfl, rfl⟩
      · have HQ := hid (all_step HN.out (by rw [← HX.out]; exact hp))
        go_wp2_with (first | (go_at_call 23; refine (l1In_any _ _ _ _).mono ?_; rintro e w' ⟨rfl, rfl⟩))
        go_round
        case rel => exact ⟨k + 1, by omega, by go_num, HQ.out⟩
        case measure => simp [intOf]; omega
    · have HF := hid (show r = true by
        rw [HE.out, List.all_eq_true]
        intro x hx
        obtain ⟨i, hi, rfl⟩ := List.mem_iff_getElem.1 hx
        have := HN.out i (by omega)
        simpa [List.getD, hi] using this)
      go_wp2_with fail
      go_ret
      exact ⟨by rw [HF.out]; rfl, rfl⟩

set_option maxHeartbeats 400000 in
theorem toIntS_any0 (v : Value) (xs : List Int) (B : Nat) (w : World) (hv : Ints w B v xs) (hB : B ≤ w.heap.size) (hlen : xs.length ≤ 1048576) :
    Calls Try.prog 35 #[v] w fun e w' => ∃ u, e = .returned u ∧ w'.ownsRow w.heap.size 3 1 u xs.length (xs.map (Value.int .i64)) ∧ Below w.heap.size w w' := by
  obtain ⟨ao, cap, rfl, hlc, hcap, hln, hni, hr⟩ := hv.opened
  obtain ⟨i0, hi, hz0, hz1, hz2⟩ := info_parts infoI
  clear hv
  go_enter Try.func35, Try.ntmps35
  go_wp2_with (at_make; refine wpList_make_full _ rfl _ _ 31 rfl w.heap.size 3 i0 (.int .i64 0) 1 Try.underlying31 hi hz0 hz1 _ _ _ _ xs.length rfl rfl rfl rfl (by rw [hz2]; omega) (by unfold maxLen; omega) (Nat.le_refl _) ?_)
  intro w1 hown hgrow
  have hbel : Below w.heap.size w w1 := (Below.refl _ _).grown hgrow (Nat.le_refl _) (by simp)
  have hsz := hgrow.size
  rw [toList_madeCells_one, ← fillRow_zero (Value.int .i64)] at hown
  go_wp2
  go_loopw [4] (fun i wr => ∃ k : Nat, k ≤ xs.length ∧ i = .int .i64 k ∧ wr.ownsRow w.heap.size 3 1 (.slice (some ⟨w.heap.size, 0, none⟩) xs.length xs.length) xs.length (fillRow (Value.int .i64) (.int .i64 0) xs k) ∧ Below w.heap.size w wr) (fun i _ => xs.length - (intOf i).toNat)
  case atStart => exact ⟨0, Nat.zero_le _, rfl, hown, hbel⟩
  case round =>
    clear hown hbel hgrow hsz
    obtain ⟨k, hk, rfl, hown, hbel⟩ := hrel
    by_cases hlt : k < xs.length
    · obtain ⟨b, off, rfl, hb, hc⟩ := hr (by omega)
      have hck := hc k hlt
      rw [← hbel.cell (p := ⟨b, off + k, none⟩) (by exact Nat.lt_of_lt_of_le hb hB)] at hck
      have hcell := hown.cellAt k (by omega)
      rw [fillRow_get _ _ _ _ hlt] at hcell
      have hfr := hown.frozenAt k
      have hst := hown.stored k (.int .i64 (xs.getD k 0))
      rw [fillRow_set _ _ _ _ _ hlt] at hst
      have HS := hid hst; clear hst
      have HB := hid hbel; clear hbel hc hr hown
      obtain ⟨x, hx⟩ : ∃ x, x = xs.getD k 0 := ⟨_, rfl⟩
      rw [← hx] at hck HS
      have HX := hid hx; clear hx
      go_wp2
      go_roundw
      case rel => exact ⟨k + 1, by omega, by go_num, HS.out.1, HB.out.setCell (by simp) _⟩
      case measure => simp [intOf]; omega
    · have hk2 : k = xs.length := by omega
      subst hk2
      go_wp2
      go_ret
      exact ⟨_, rfl, by rw [fillRow_all] at hown; exact hown, hbel⟩

theorem toIntS_any (v : Value) (xs : List Int) (B : Nat) (w : World) (hv : Ints w B v xs) (hB : B ≤ w.heap.size) (hlen : xs.length ≤ 1048576) :
    Calls Try.prog 35 #[v] w fun e w' => ∃ u, e = .returned u ∧ Owns w' w.heap.size 3 1 rowI u xs ∧ Below w.heap.size w w' := by
  refine (toIntS_any0 v xs B w hv hB hlen).mono ?_
  rintro e w' ⟨u, rfl, ho, hb⟩
  refine ⟨u, rfl, ?_, hb⟩
  unfold Owns
  rw [flat_rowI]
  exact OwnR.of_row ho

def SzP (left : Int) (n : Nat) (w : World) (e : Ending) (w' : World) : Prop := ∃ r : Int, e = .returned (.int .i64 r) ∧ (r = -1 ∨ (0 ≤ r ∧ r ≤ left ∧ (n : Int) ≤ left)) ∧ w = w'
set_option maxHeartbeats 1000000 in
theorem szIntS_any (v : Value) (xs : List Int) (left : Int) (B : Nat) (w : World) (hv : Ints w B v xs) (h0 : 0 ≤ left) (h1 : left ≤ 1048576) :
    Calls Try.prog 33 #[v, .int .i64 left] w (SzP left xs.length w) := by
  obtain ⟨ao, cap, rfl, hlc, hcap, hln, hni, hr⟩ := hv.opened
  clear hr
  by_cases hq : left - (xs.length : Int) < 0
  · go_enter Try.func33, Try.ntmps33
    go_wp2_with fail
    go_ret
    exact ⟨-1, rfl, .inl rfl, rfl⟩
  · go_enter Try.func33, Try.ntmps33
    go_wp2_with fail
    go_ret
    exact ⟨_, rfl, .inr ⟨by omega, by omega, by omega⟩, rfl⟩

/-- So many numbers, all in 0 to one. -/
def cnt (xs : List Int) (many most : Int) : Bool := ((xs.length : Int) == many) && xs.all fun n => inB n 0 most
theorem countedF_any (x most : Int) (g : Nat) (w : World) (hc : w.cell? ⟨g, 0, none⟩ = some (.int .i64 most)) :
    Calls Try.prog 38 (#[.int .i64 x] ++ #[.pointer (some ⟨g, 0, none⟩)]) w fun e w' => e = .returned (.bool (!inB x 0 most)) ∧ w = w' := by
  go_enter Try.func38, Try.ntmps38
  go_wp2_with (first | (go_at_call 24; refine (in_any _ _ _ _).mono ?_; rintro e w' ⟨rfl, rfl⟩))
  go_ret
  exact ⟨rfl, rfl⟩
theorem any_not_all (p : Int → Bool) (xs : List Int) : (!xs.any fun x => !p x) = xs.all p := by
  induction xs with
  | nil => rfl
  | cons x xs ih => simp only [List.any_cons, List.all_cons, Bool.not_or, Bool.not_not, ih]
set_option maxHeartbeats 2000000 in
theorem counted_any (v : Value) (xs : List Int) (many most : Int) (B : Nat) (w : World) (hv : Ints w B v xs) (hB : B ≤ w.heap.size) :
    Calls Try.prog 36 #[v, .int .i64 many, .int .i64 most] w fun e w' => e = .returned (.bool (cnt xs many most)) ∧ Below w.heap.size w w' := by
  obtain ⟨ao, cap, hve, hlc, hcap, hln, hni, hr⟩ := hv.opened
  clear hr
  have HV := hid hv; clear hv
  subst hve
  have hcl := hid (fun x => countedF_any x most w.heap.size (w.alloc (.cells #[.int .i64 most] 3)) (by simp [go_sem]))
  have hA := any_not_all (fun n => inB n 0 most) xs
  obtain ⟨y, hy⟩ : ∃ y, y = xs.any fun x => !inB x 0 most := ⟨_, rfl⟩
  obtain ⟨q, hq⟩ : ∃ q, q = cnt xs many most := ⟨_, rfl⟩
  rw [← hy] at hA
  have hE : q = (((xs.length : Int) == many) && !y) := by rw [hq, hA]; rfl
  rw [← hq]
  have HY := hid hy; have HE := hid hE
  clear hy hq hA hE
  rcases hl : ((xs.length : Int) == many) with _ | _
  all_goals
    have HL := hid hl
    go_enter Try.func36, Try.ntmps36
    go_wp2_with (first | (go_at_call 37; refine (hasInt_any 38 #[.pointer (some ⟨w.heap.size, 0, none⟩)] (callable_of Try.func38 (by kernel_rfl) (by kernel_rfl)) (fun x => !inB x 0 most) _ xs B _ (HV.out.below ((Below.refl _ _).alloc hB _)) (fun x _ => hcl.out x)).mono ?_; rw [← HY.out]; rintro e w' ⟨rfl, rfl⟩))
    go_ret
    exact ⟨by rw [HE.out, HL.out]; simp, (Below.refl _ _).alloc (Nat.le_refl _) _⟩

end Go.Proofs.Ytjcpnlnajimjaaa
