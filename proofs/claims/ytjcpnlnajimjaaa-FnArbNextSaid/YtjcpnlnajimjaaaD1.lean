/-
  The draw of ArbNext's arguments.
-/
import Derived.Test.YtjcpnlnajimjaaaRd
import Derived.Test.YtjcpnlnajimjaaaW2
namespace Go.Proofs.Ytjcpnlnajimjaaa
open Go.RowKit

theorem RdAt.fresh {w : World} {B : Nat} {bv : Value} {bs : List Nat} (h : Bytes w B bv bs) (hB : B ≤ w.heap.size) (hl : bs.length ≤ 2000) : RdAt (w.alloc (.cells #[bv, .int .i64 0] 55)) w.heap.size B bs 0 :=
  ⟨bv, by show (w.heap.push _)[w.heap.size]? = _; simp, h.below ((Below.refl _ _).alloc (by omega) _), hB, hl⟩

def OpenP (w : World) (B : Nat) (e : Ending) (w' : World) : Prop := ∃ cs, e = .returned (.pointer (some ⟨w.heap.size, 0, none⟩)) ∧ RdAt w' w.heap.size B cs 0 ∧ Below w.heap.size w w'

set_option maxHeartbeats 400000 in
theorem open_any (v : Value) (bs : List Nat) (B : Nat) (w : World) (h : Bytes w B v bs) (hB : B ≤ w.heap.size) :
    Calls Try.prog 25 #[v] w (OpenP w B) := by
  obtain ⟨ao, cap, rfl, hlc, hcap, hln, hr⟩ := h.opened
  by_cases hl : (2000 : Int) < (bs.length : Int)
  · go_enter Try.func25, Try.ntmps25
    go_wp2
    go_ret
    exact ⟨bs.take 2000, rfl, by exact RdAt.fresh (h.take (by omega)) hB (by simp; omega), (Below.refl _ _).alloc (Nat.le_refl _) _⟩
  · go_enter Try.func25, Try.ntmps25
    go_wp2
    go_ret
    exact ⟨bs, rfl, by exact RdAt.fresh h hB (by omega), (Below.refl _ _).alloc (Nat.le_refl _) _⟩

theorem bools_push {w : World} {base : Nat} {v : Value} {xs : List Bool} {x : Bool} (h : w.ownsRow base 4 1 v (xs.length + 1) (xs.map Value.bool ++ [.bool x])) : w.ownsRow base 4 1 v (xs ++ [x]).length ((xs ++ [x]).map Value.bool) := by
  simpa using h

def DrawArbP (w : World) (e : Ending) (w' : World) : Prop := ∃ (n : Int) (u : Value) (xs : List Bool), e = .returned (.tuple #[.int .i64 n, u]) ∧ -9 ≤ n ∧ n ≤ 9 ∧ Bools w' w'.heap.size u xs ∧ xs.length ≤ 9 ∧ Below w.heap.size w w'

set_option maxHeartbeats 1000000 in
theorem drawArb_any (v : Value) (bs : List Nat) (B : Nat) (w : World) (h : Bytes w B v bs) (hB : B ≤ w.heap.size) :
    Calls Try.prog 11 #[v] w (DrawArbP w) := by
  obtain ⟨i0, hi, iz0, iz1, iz2⟩ := info_parts infoB
  go_enter Try.func11, Try.ntmps11
  go_wp2_with fail
  refine (open_any v bs B w h hB).mono ?_
  rintro e w1 ⟨cs, rfl, hrd, hb1⟩
  have hz := hb1.size
  have hlt := hrd.lt
  go_wp2_with (first | (go_at_call 26; refine (pick_any _ B cs 0 6 _ (hrd.kept ((Below.refl _ _).alloc (Nat.le_refl _) _) hlt) (by omega) (by omega)).mono ?_; rintro e w2 ⟨x, rfl, hx0, hx1, hrd2, ht2⟩))
  obtain ⟨m, rfl⟩ := Int.eq_ofNat_of_zero_le hx0
  have hm : m < 6 := by omega
  have hz2 := ht2.size
  simp only [World.size_alloc] at hz2
  have hown0 : w2.ownsRow w1.heap.size 4 1 (.slice (some ⟨w1.heap.size, 0, none⟩) 0 0) ([] : List Bool).length (([] : List Bool).map Value.bool) :=
    ht2.owns (World.ownsRow_lit w1 #[] 0 (Nat.le_refl _) (by unfold maxLen; omega) rfl) hlt
  go_loopw [5, 6] (fun v i wr => ∃ (xs : List Bool) (k : Nat) (p : Nat), i = .int .i64 k ∧ k + xs.length = m ∧ p ≤ 1 + xs.length ∧ RdAt wr w.heap.size B cs p ∧ wr.ownsRow w1.heap.size 4 1 v xs.length (xs.map Value.bool) ∧ Below w.heap.size w wr ∧ w1.heap.size ≤ wr.heap.size) (fun _ i _ => (intOf i).toNat)
  case atStart => exact ⟨[], m, 1, rfl, by simp, by simp, hrd2, hown0, (hb1.alloc (by omega) _).trans (ht2.below (Nat.le_refl _) (by simp; omega)), by omega⟩
  case round =>
    clear hrd2 hown0 ht2 hx0 hx1
    obtain ⟨xs, k, p, rfl, hkm, hp, hrd2, hown, hbel, hsz⟩ := hrel
    have HK := hid hkm; clear hkm
    have hkm2 : k ≤ m := by have := HK.out; omega
    by_cases hk : 0 < k
    · have hkx : xs.length ≤ 5 := by have := HK.out; omega
      go_wp2_with (first
        | (go_at_call 26; refine (pick_any _ B cs p 3 _ hrd2 (by omega) (by omega)).mono ?_; rintro e w3 ⟨x, rfl, _, _, hrd3, ht3⟩; have hown3 := ht3.owns hown hlt; have hz3 := ht3.size)
        | (at_builtin; go_must (refine wpList_append_own _ rfl _ _ 22 rfl w1.heap.size 4 i0 (.bool false) 1 1 Try.underlying22 hi iz0 iz1 iz2 rfl (by decide) _ _ _ rfl (hown3.alloc _) ⟨w3.heap.size, 0, none⟩ 1 1 [.bool (x == 0)] rfl rfl ?c1 ?c2 ?c3 ?c4 ?c5 ?_)))
      case c1 =>
        intro j u hj
        match j, hj with
        | 0, hj => simp at hj; subst hj; simp [Addr.add]
      case c2 => intro u hu; simp at hu; subst hu; rfl
      case c3 => unfold maxLen; omega
      case c4 => omega
      case c5 => simp; omega
      · intro v' w4 hown' hgrow _
        have hb34 := app_below hown3 hgrow (by omega)
        have hrd4 := hrd3.kept hb34 hlt
        have hb4 : Below w.heap.size w w4 := (hbel.trans (ht3.below (Nat.le_refl _) (by omega))).trans (hb34.mono (by omega))
        have hz4 := hb34.size
        have HO := hid (bools_push hown'); clear hown' hown hown3 hgrow
        go_wp2
        go_roundw
        case rel => exact ⟨xs ++ [x == 0], k - 1, p + 1, by go_num, by simp; have := HK.out; omega, by simp; omega, hrd4, HO.out, hb4, by omega⟩
        case measure => simp [intOf]; omega
    · have hk0 : k = 0 := by omega
      subst hk0
      have hkx : xs.length ≤ 5 := by have := HK.out; omega
      go_wp2_with (go_at_call 26; refine (pick_any _ B cs p 7 _ hrd2 (by omega) (by omega)).mono ?_; rintro e w3 ⟨x, rfl, hx0, hx1, hrd3, ht3⟩)
      go_ret2
      have hown3 := ht3.owns hown hlt
      exact ⟨x - 1, _, xs, rfl, by omega, by omega, own_bools hown3 (by omega), by omega, hbel.trans (ht3.below (Nat.le_refl _) (by omega))⟩

end Go.Proofs.Ytjcpnlnajimjaaa
