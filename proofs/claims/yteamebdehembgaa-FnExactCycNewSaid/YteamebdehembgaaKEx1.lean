/-
  The exact laws' helpers on numbers: the same, marked, held.
-/
import Derived.Test.YteamebdehembgaaJOwn1
import Derived.Test.YteamebdehembgaaJInv
set_option linter.unusedVariables false
set_option linter.unusedSimpArgs false
namespace Go.Proofs.Yteamebdehembgaa
open Go.RowKit

set_option maxHeartbeats 1000000 in
theorem eqIntS_same (v u : Value) (xs : List Int) (B C : Nat) (w : World) (hv : Ints w B v xs) (hu : Ints w C u xs) :
    Calls Try.prog 92 #[v, u] w fun e w' => e = .returned (.bool true) ∧ Drew w w' := by
  obtain ⟨ao, cap, rfl, hlc, hcap, hln, hni, hr⟩ := hv.opened
  obtain ⟨bo, cbp, rfl, hlc2, hcap2, hln2, hni2, hr2⟩ := hu.opened
  clear hv hu
  go_enter Try.func92, Try.ntmps92
  go_wp2_with fail
  go_loopw [5] (fun i wr => ∃ k n : Nat, k ≤ xs.length ∧ i = .int .i64 k ∧ wr = w.drewN n) (fun i _ => xs.length - (intOf i).toNat)
  case atStart => exact ⟨0, 0, Nat.zero_le _, rfl, rfl⟩
  case round =>
    obtain ⟨k, n, hk, rfl, rfl⟩ := hrel
    by_cases hlt : k < xs.length
    · obtain ⟨b, off, rfl, hb, hc⟩ := hr (by omega)
      obtain ⟨b2, off2, rfl, hb2, hc2⟩ := hr2 (by omega)
      have hck := hc k hlt
      have hck2 := hc2 k hlt
      obtain ⟨x, hx⟩ : ∃ x, x = xs.getD k 0 := ⟨_, rfl⟩
      rw [← hx] at hck hck2
      have hq2 : (x != x) = false := by simp
      clear hc hr hc2 hr2 hx
      go_wp2_with fail
      go_quiet (fail)
      go_wp2_with fail
      go_roundw
      case rel => exact ⟨k + 1, _, by omega, by go_num, rfl⟩
      case measure => simp [intOf]; omega
    · go_wp2_with fail
      go_ret
      exact ⟨rfl, by first | exact Drew.one .. | exact Drew.two ..⟩

/-- The numbers m, m + 1, .. -/
def marks (m n : Nat) : List Int := (List.range n).map fun j => ((m + j : Nat) : Int)
theorem marks_len (m n : Nat) : (marks m n).length = n := by simp [marks]
theorem marks_get (m : Nat) {n j : Nat} (h : j < n) : (marks m n).getD j 0 = ((m + j : Nat) : Int) := by simp [marks, List.getD, h]
theorem marks_64 {m n : Nat} (h : m + n ≤ 1048576) : ∀ x ∈ marks m n, I64 x := by
  intro x hx
  obtain ⟨j, hj, rfl⟩ := List.mem_map.1 hx
  rw [List.mem_range] at hj
  unfold I64; omega
/-- The first k of xs are marked from m on. -/
def markK (xs : List Int) (m k : Nat) : List Int := marks m k ++ xs.drop k
theorem markK_zero (xs : List Int) (m : Nat) : markK xs m 0 = xs := by simp [markK, marks]
theorem markK_all (xs : List Int) (m : Nat) : markK xs m xs.length = marks m xs.length := by simp [markK]
theorem markK_len {xs : List Int} {m k : Nat} (h : k ≤ xs.length) : (markK xs m k).length = xs.length := by simp [markK, marks_len]; omega
theorem markK_set {xs : List Int} {m k : Nat} (h : k < xs.length) : (markK xs m k).set k ((m + k : Nat) : Int) = markK xs m (k + 1) := by
  unfold markK
  rw [List.set_append_right _ _ (by rw [marks_len]; omega), marks_len, Nat.sub_self, List.drop_eq_getElem_cons h, List.set_cons_zero]
  simp [marks, List.range_succ]

set_option maxHeartbeats 1000000 in
theorem markIntS_any (v : Value) (xs : List Int) (m base : Nat) (w : World) (hv : Owns w base 3 1 rowI v xs) (hm : m + xs.length ≤ 1048576) :
    Calls Try.prog 94 #[v, .int .i64 m] w fun e w' => e = .returned (.int .i64 ((m + xs.length : Nat) : Int)) ∧ Owns w' base 3 1 rowI v (marks m xs.length) ∧ (∀ k, k < w.heap.size → v.ownBlock ≠ some k → w'.heap[k]? = w.heap[k]?) ∧ w'.os = w.os ∧ w'.tape = w.tape ∧ w'.output = w.output ∧ w'.heap.size = w.heap.size := by
  by_cases h0 : xs.length = 0
  · have hx : xs = [] := List.eq_nil_of_length_eq_zero h0
    subst hx
    obtain ⟨a, c, rfl, h1, h2⟩ := hv.shape
    simp only [List.length_nil] at *
    have HV := hid hv; clear hv
    go_enter Try.func94, Try.ntmps94
    go_wp2_with fail
    go_loopw [1, 5] (fun m' i wr => m' = .int .i64 m ∧ i = .int .i64 0 ∧ wr = w) (fun _ i _ => (intOf i).toNat)
    case atStart => exact ⟨rfl, rfl, rfl⟩
    case round =>
      obtain ⟨rfl, rfl, rfl⟩ := hrel
      go_wp2_with fail
      go_ret
      exact ⟨by simp, by simpa [marks] using HV.out, fun _ _ _ => rfl, rfl, rfl, rfl, rfl⟩
  · have HV := hid hv
    obtain ⟨hl, h2⟩ := hv
    rcases h2 with ⟨h2, h3⟩ | ⟨g, off, cap, cur, rfl, hg, hh, hle, hmax, hsz, hc⟩
    · exact absurd h3 h0
    have hcap : cap ≤ 9223372036854775807 := by unfold maxLen at hmax; omega
    clear hl hh hsz hc hmax
    have hz0 := hid (markK_zero xs m)
    go_enter Try.func94, Try.ntmps94
    go_wp2_with fail
    go_loopw [1, 5] (fun m' i wr => ∃ k : Nat, k ≤ xs.length ∧ m' = .int .i64 ((m + k : Nat) : Int) ∧ i = .int .i64 k ∧ Owns wr base 3 1 rowI (.slice (some ⟨g, off, none⟩) xs.length cap) (markK xs m k) ∧ Touch g w wr ∧ wr.heap.size = w.heap.size) (fun _ i _ => xs.length - (intOf i).toNat)
    case atStart => exact ⟨0, Nat.zero_le _, by simp, rfl, by rw [hz0.out]; exact HV.out, Touch.refl _ _, rfl⟩
    case round =>
      obtain ⟨k, hk, rfl, rfl, hown, ht, hsz⟩ := hrel
      by_cases hlt : k < xs.length
      · have hcell := hown.cellI k (by rw [markK_len hk]; exact hlt)
        have hfr := hown.frozenI k
        have hput := hown.putI k (by rw [markK_len hk]; exact hlt) ((m + k : Nat) : Int)
        rw [markK_set hlt] at hput
        have HP := hid hput; have HT := hid ht
        obtain ⟨y, hy⟩ : ∃ y, y = (markK xs m k).getD k 0 := ⟨_, rfl⟩
        rw [← hy] at hcell
        have HS := hid hsz
        clear hput hown ht hy hsz
        go_wp2_with fail
        go_roundw
        case rel => exact ⟨k + 1, by omega, by go_num, by go_num, HP.out, HT.out.trans (Touch.setCell ..), by simpa [World.setCell] using HS.out⟩
        case measure => simp [intOf]; omega
      · obtain rfl : k = xs.length := by omega
        rw [markK_all] at hown
        have HO := hid hown; have HT := hid ht; have HS := hid hsz
        clear hown ht hsz
        go_wp2_with fail
        go_ret
        exact ⟨rfl, HO.out, fun k hk hn => HT.out.block k hk (fun e => hn (by rw [e]; rfl)), HT.out.os, HT.out.tape, HT.out.output, HS.out⟩

set_option maxHeartbeats 1000000 in
theorem heldIntS_any (v : Value) (n m B : Nat) (w : World) (hv : Ints w B v (marks m n)) (hm : m + n ≤ 1048576) :
    Calls Try.prog 97 #[v, .int .i64 m] w fun e w' => e = .returned (.int .i64 ((m + n : Nat) : Int)) ∧ w = w' := by
  obtain ⟨ao, cap, rfl, hlc, hcap, hln, hni, hr⟩ := hv.opened
  rw [marks_len] at *
  clear hv
  go_enter Try.func97, Try.ntmps97
  go_wp2_with fail
  go_loop [1, 5] (fun m' i => ∃ k : Nat, k ≤ n ∧ m' = .int .i64 ((m + k : Nat) : Int) ∧ i = .int .i64 k) (fun _ i => n - (intOf i).toNat)
  case atStart => exact ⟨0, Nat.zero_le _, by simp, rfl⟩
  case round =>
    obtain ⟨k, hk, rfl, rfl⟩ := hrel
    by_cases hlt : k < n
    · obtain ⟨b, off, rfl, hb, hc⟩ := hr (by omega)
      have hck := hc k hlt
      rw [marks_get m hlt] at hck
      clear hc hr
      go_wp2_with fail
      go_round
      case rel => exact ⟨k + 1, by omega, by go_num, by go_num⟩
      case measure => simp [intOf]; omega
    · obtain rfl : k = n := by omega
      go_wp2_with fail
      go_ret
      exact ⟨rfl, rfl⟩

end Go.Proofs.Yteamebdehembgaa
