/-
  A store and what is held: copies.
-/
import Derived.Test.YteamebdehembgaaKMap1
import Derived.Lib.LazyBuf
import Derived.Deep.RegionHeld3
set_option linter.unusedVariables false
set_option linter.unusedSimpArgs false
namespace Go.Proofs.Yteamebdehembgaa
open Go.RowKit

theorem adrOk_eq (a m : Int) (wr : Bool) : adrOk a m wr = true ↔ (0 ≤ a ∧ a ≤ 63 ∧ (m = 1 ∨ m = 2 ∨ m = 4) ∧ (wr = true ∨ a + m - 1 ≤ 63)) := by
  simp [adrOk, inB, or_assoc, and_assoc]

set_option maxHeartbeats 1000000 in
theorem implAdrOk_any (a m : Int) (wr : Bool) (w : World) : Calls Try.prog 64 #[.int .i64 a, .int .i64 m, .bool wr] w fun e w' => e = .returned (.bool (adrOk a m wr)) ∧ w = w' := by
  rcases hI : inB a 0 63 with _ | _
  · have HE := hid (show adrOk a m wr = false by simp [adrOk, hI])
    go_enter Try.func64, Try.ntmps64
    go_wp2_with (first | (go_at_call 68; refine (in_any _ _ _ _).mono ?_; rintro e w' ⟨rfl, rfl⟩))
    all_goals
      go_ret
      exact ⟨by rw [HE.out]; rfl, rfl⟩
  · have hb : 0 ≤ a ∧ a ≤ 63 := by simpa [inB] using hI
    have h0 := hb.1
    have h1 := hb.2
    have HE := hid (show adrOk a m wr = ((m == 1 || m == 2 || m == 4) && (wr || decide (a + m - 1 ≤ 63))) by simp [adrOk, hI])
    clear hb
    go_enter Try.func64, Try.ntmps64
    go_wp2_with (first | (go_at_call 68; refine (in_any _ _ _ _).mono ?_; rintro e w' ⟨rfl, rfl⟩))
    all_goals
      go_ret
      exact ⟨by rw [HE.out]; simp [*]; try omega, rfl⟩
set_option maxHeartbeats 1000000 in
theorem specAdrOk_any (a m : Int) (wr : Bool) (w : World) : Calls Try.prog 145 #[.int .i64 a, .int .i64 m, .bool wr] w fun e w' => e = .returned (.bool (adrOk a m wr)) ∧ w = w' := by
  rcases hI : inB a 0 63 with _ | _
  · have HE := hid (show adrOk a m wr = false by simp [adrOk, hI])
    go_enter Try.func145, Try.ntmps145
    go_wp2_with (first | (go_at_call 60; refine (l1In_any _ _ _ _).mono ?_; rintro e w' ⟨rfl, rfl⟩))
    all_goals
      go_ret
      exact ⟨by rw [HE.out]; rfl, rfl⟩
  · have hb : 0 ≤ a ∧ a ≤ 63 := by simpa [inB] using hI
    have h0 := hb.1
    have h1 := hb.2
    have HE := hid (show adrOk a m wr = ((m == 1 || m == 2 || m == 4) && (wr || decide (a + m - 1 ≤ 63))) by simp [adrOk, hI])
    clear hb
    by_cases h4 : m = 4
    · subst h4
      go_enter Try.func145, Try.ntmps145
      go_wp2_with (first | (go_at_call 60; refine (l1In_any _ _ _ _).mono ?_; rintro e w' ⟨rfl, rfl⟩))
      all_goals
        go_ret
        exact ⟨by rw [HE.out]; simp [*], rfl⟩
    · have h5 : (m != 4) = true := by simpa using h4
      have h6 : (m == 4) = false := by simpa using h4
      go_enter Try.func145, Try.ntmps145
      go_wp2_with (first | (go_at_call 60; refine (l1In_any _ _ _ _).mono ?_; rintro e w' ⟨rfl, rfl⟩))
      all_goals
        go_ret
        exact ⟨by rw [HE.out]; simp [*], rfl⟩

/-- What a burst comes to, in new memory. -/
def BurstP (a m : Int) (wp : Bool) (w : World) (e : Ending) (w' : World) : Prop := ∃ u, e = .returned u ∧ Ints w' w'.heap.size u (burst a m wp) ∧ Below w.heap.size w w' ∧ ∀ k, u.ownBlock = some k → w.heap.size ≤ k

def burstK (a m : Int) (wp : Bool) (k : Nat) : List Int := (List.range k).map (fun (k : Nat) => if wp then a - a % m + (a + (k : Int)) % m else a + (k : Int))
theorem burstK_succ (a m : Int) (wp : Bool) (k : Nat) : burstK a m wp (k + 1) = burstK a m wp k ++ [if wp then a - a % m + (a + (k : Int)) % m else a + (k : Int)] := by simp [burstK, List.range_succ]
theorem burstK_len (a m : Int) (wp : Bool) (k : Nat) : (burstK a m wp k).length = k := by simp [burstK]
theorem burst_yes {a m : Int} {wp : Bool} (h : adrOk a m wp = true) : burst a m wp = burstK a m wp m.toNat := by unfold burst burstK; rw [if_pos h]
theorem burst_no {a m : Int} {wp : Bool} (h : adrOk a m wp = false) : burst a m wp = [] := by unfold burst; rw [if_neg (by simp [h])]
theorem burstK_small {a m : Int} {wp : Bool} (h0 : 0 ≤ a) (h1 : a ≤ 63) (hm : m = 1 ∨ m = 2 ∨ m = 4) (k : Nat) (hk : k ≤ 4) : ∀ x ∈ burstK a m wp k, I64 x := by
  intro x hx
  obtain ⟨j, hj, rfl⟩ := List.mem_map.1 hx
  rw [List.mem_range] at hj
  unfold I64
  split <;> (rcases hm with rfl | rfl | rfl <;> omega)

set_option maxHeartbeats 4000000 in
theorem specBurst_any (a m : Int) (wp : Bool) (w : World) : Calls Try.prog 147 #[.int .i64 a, .int .i64 m, .bool wp] w (BurstP a m wp w) := by
  obtain ⟨i1, hj, jz0, jz1, jz2⟩ := info_parts infoI
  rcases hA : adrOk a m wp with _ | _
  · have HE := hid (burst_no hA)
    go_enter Try.func147, Try.ntmps147
    go_wp2_with (first | (go_at_call 145; refine (specAdrOk_any _ _ _ _).mono ?_; rintro e w' ⟨rfl, rfl⟩))
    go_ret
    exact ⟨_, rfl, by rw [HE.out]; exact (Owns.lit (e := 3) (Nat.le_refl _)).ints (by simp) (by simp), (Below.refl _ _).alloc (Nat.le_refl _) _, by intro k hk; simp [Value.ownBlock] at hk; omega⟩
  · obtain ⟨h0, h1, hm, hw⟩ := (adrOk_eq a m wp).1 hA
    have HE := hid (burst_yes hA)
    have HSm := hid (burstK_small (wp := wp) h0 h1 hm)
    have hown0 : Owns (w.alloc (.cells #[] 3)) w.heap.size 3 1 rowI (.slice (some ⟨w.heap.size, 0, none⟩) 0 0) (burstK a m wp 0) := Owns.lit (Nat.le_refl _)
    have hbel0 : Below w.heap.size w (w.alloc (.cells #[] 3)) := (Below.refl _ _).alloc (Nat.le_refl _) _
    have hm1 : 1 ≤ m := by omega
    have hm4 : m ≤ 4 := by omega
    have e0 : 0 ≤ a % m := Int.emod_nonneg _ (by omega)
    have e1 : a % m < m := Int.emod_lt_of_pos _ (by omega)
    have e2 : a % m ≤ a := by rcases hm with rfl | rfl | rfl <;> omega
    have HM := hid hm; clear hm hw
    go_enter Try.func147, Try.ntmps147
    go_wp2_with (first | (go_at_call 145; refine (specAdrOk_any _ _ _ _).mono ?_; rintro e w' ⟨rfl, rfl⟩))
    go_loopw [7, 9] (fun v i wr => ∃ k : Nat, (k : Int) ≤ m ∧ i = .int .i64 k ∧ Owns wr w.heap.size 3 1 rowI v (burstK a m wp k) ∧ Below w.heap.size w wr) (fun _ i _ => (4 - intOf i).toNat)
    case atStart => exact ⟨0, by omega, rfl, hown0, hbel0⟩
    case round =>
      clear hown0 hbel0
      obtain ⟨k, hk, rfl, hown, hbl⟩ := hrel
      have hsz := hbl.size
      have hl := hid (burstK_len a m wp k)
      by_cases hlt : (k : Int) < m
      · have e3 : 0 ≤ (a - (a - a % m) + (k : Int)) % m := Int.emod_nonneg _ (by omega)
        have e4 : (a - (a - a % m) + (k : Int)) % m < m := Int.emod_lt_of_pos _ (by omega)
        have HE4 := hid (show (a - (a - a % m) + (k : Int)) % m = (a + (k : Int)) % m by rw [show a - (a - a % m) + (k : Int) = a % m + (k : Int) from by omega, Int.emod_add_emod])
        cases wp
        · go_wp2_with (at_builtin; go_must (refine wpList_push elem_int rowI rowI_len rowI_one wr rfl _ _ rfl w.heap.size _ _ _ (by rfl) hown _ (by rfl) (by rfl) (by rw [hl.out]; omega) (by rw [hl.out]; omega) hsz ?_); intro v' w1 hown1 hb1)
          go_roundw
          case rel => exact ⟨k + 1, by omega, by go_num, by rw [burstK_succ]; exact hown1, hbl.trans hb1⟩
          case measure => simp [intOf]; omega
        · go_wp2_with (at_builtin; go_must (refine wpList_push elem_int rowI rowI_len rowI_one wr rfl _ _ rfl w.heap.size _ _ _ (by rfl) hown _ (by rfl) (by rfl) (by rw [hl.out]; omega) (by rw [hl.out]; omega) hsz ?_); intro v' w1 hown1 hb1)
          go_roundw
          case rel => exact ⟨k + 1, by omega, by go_num, by rw [burstK_succ]; rw [HE4.out] at hown1; exact hown1, hbl.trans hb1⟩
          case measure => simp [intOf]; omega
      · have hkm : k = m.toNat := by omega
        have HK := hid hkm; clear hkm
        go_wp2_with fail
        go_ret
        exact ⟨_, rfl, by rw [HE.out, ← HK.out]; exact hown.ints (by rw [hl.out]; omega) (HSm.out k (by omega)), hbl, fun j hj => (OwnR.lt hown j hj).1⟩

end Go.Proofs.Yteamebdehembgaa

namespace Go.Proofs.Yteamebdehembgaa
open Go.RowKit

def CloneP {α : Type} (f : α → List Value) (e sz : Nat) (ys : List α) (w : World) (en : Ending) (w' : World) : Prop :=
  ∃ u, en = .returned u ∧ Owns w' w.heap.size e sz f u ys ∧ Below w.heap.size w w'

/-- What is read lies among the blocks that are there. -/
theorem Arr.fit {w : World} {B sz : Nat} {v : Value} {rows : List (List Value)} (h : Arr w B sz v rows) (hs : 0 < sz) (hr : ∀ r ∈ rows, r.length = sz) : Arr w (min B w.heap.size) sz v rows := by
  obtain ⟨ao, cap, hv, h1, h2, h0, h9, h3⟩ := h
  refine ⟨ao, cap, hv, h1, h2, h0, h9, fun hn => ?_⟩
  obtain ⟨b, off, ha, hlt, hc⟩ := h3 hn
  refine ⟨b, off, ha, ?_, hc⟩
  have := hc 0 (by omega) 0 hs
  have hl : (rows.getD 0 []).length = sz := hr _ (by simp [List.getD, List.getElem?_eq_getElem (show 0 < rows.length by omega)])
  rw [List.getElem?_eq_getElem (show 0 < (rows.getD 0 []).length by omega)] at this
  have hb := World.block_lt_of_cell? w _ this
  simp only at hb
  omega

theorem Owns.clip {α : Type} {w : World} {base e sz : Nat} {f : α → List Value} {a : Option Addr} {c : Nat} {xs : List α} (h : Owns w base e sz f (.slice a xs.length c) xs) : Owns w base e sz f (.slice a xs.length xs.length) xs := by
  obtain ⟨hl, h2⟩ := h
  refine ⟨hl, ?_⟩
  rcases h2 with ⟨hv, h2⟩ | ⟨g, off, cap, cur, hv, hg, hh, hle, hmax, hsz, hc⟩
  · simp only [Value.slice.injEq] at hv
    obtain ⟨rfl, h3, rfl⟩ := hv
    exact .inl ⟨by rw [h3], h3⟩
  · simp only [Value.slice.injEq] at hv
    obtain ⟨rfl, _, rfl⟩ := hv
    exact .inr ⟨g, off, xs.length, cur, rfl, hg, hh, Nat.le_refl _, by omega, by have := Nat.mul_le_mul_right sz hle; omega, hc⟩

theorem Owns.shape {α : Type} {w : World} {base e sz : Nat} {f : α → List Value} {v : Value} {xs : List α} (h : Owns w base e sz f v xs) : ∃ a c, v = .slice a xs.length c ∧ xs.length ≤ c ∧ c ≤ 9223372036854775807 := by
  obtain ⟨hl, h2⟩ := h
  rcases h2 with ⟨rfl, h2⟩ | ⟨g, off, cap, cur, rfl, hg, hh, hle, hmax, _⟩
  · exact ⟨none, 0, by rw [h2], by omega, by omega⟩
  · exact ⟨_, cap, rfl, hle, by unfold maxLen at hmax; omega⟩

/-- A store below the base turns nothing that is owned. -/
theorem Owns.set {α : Type} {w : World} {base e sz : Nat} {f : α → List Value} {v : Value} {xs : List α} (h : Owns w base e sz f v xs) (g o : Nat) (u : Value) (hg : g < base) : Owns (w.setCell ⟨g, o, none⟩ u) base e sz f v xs :=
  OwnR.kept h fun k hk => Below.heap_setCell _ _ _ _ (by have := (OwnR.lt h k hk).1; simp only; omega)
theorem Owns.set' {α : Type} {w : World} {base e sz : Nat} {f : α → List Value} {v : Value} {xs : List α} (h : Owns w base e sz f v xs) (g o : Nat) (u : Value) (hg : ∀ k, v.ownBlock = some k → k ≠ g) : Owns (w.setCell ⟨g, o, none⟩ u) base e sz f v xs :=
  OwnR.kept h fun k hk => Below.heap_setCell _ _ _ _ (hg k hk)
theorem Owns.draws {α : Type} {w : World} {base e sz : Nat} {f : α → List Value} {v : Value} {xs : List α} (h : Owns w base e sz f v xs) (n : Nat) : Owns (w.drewN n) base e sz f v xs := OwnR.kept h fun _ _ => rfl

end Go.Proofs.Yteamebdehembgaa

namespace Go.Proofs.Yteamebdehembgaa
open Go.RowKit
set_option maxHeartbeats 1000000 in
theorem sClone_int {α : Type} (f : α → List Value) (hf : ∀ x, (f x).length = 1) (h1 : ∀ x, ∀ u ∈ f x, u.oneCell' = true) (v : Value) (ys : List α) (B : Nat) (w : World) (ha : Arr w B 1 v (ys.map f)) (hlen : ys.length * 8 ≤ 140737488355328) :
    Calls Try.prog 162 #[v] w (CloneP f 3 1 ys w) := by
  have ha0 := hid ha
  obtain ⟨ao, cap, rfl, g1, g2, g0, g9, g3⟩ := ha
  simp only [List.length_map] at g1 g2 g0 ⊢
  clear g3
  cases ao with
  | none =>
    obtain rfl := g9 rfl
    have hy : ys = [] := by
      rcases ys with _ | ⟨y, ys⟩
      · rfl
      · simp at g1
    subst hy
    have he := fun w => Lib.run_eql_slice_nil (P := Try.prog) w 24 3 none 0 0 0 0 Try.underlying24
    go_enter Try.func162, Try.ntmps162
    go_wp2_with fail
    go_ret
    exact ⟨_, rfl, Owns.zero, Below.refl _ _⟩
  | some ad =>
    have he := fun w => Lib.run_eql_slice_nil (P := Try.prog) w 24 3 (some ad) ys.length cap 0 0 Try.underlying24
    clear g9
    go_enter Try.func162, Try.ntmps162
    go_wp2_with (at_builtin; go_must (refine wpList_cat elem_int f hf h1 _ rfl _ _ rfl w.heap.size _ [] (by rfl) (Owns.lit (Nat.le_refl _)) _ ys (min B w.heap.size) (by rfl) (by have := (ha0.out).fit (by omega) (by intro r hr; obtain ⟨y, _, rfl⟩ := List.mem_map.1 hr; exact hf y); simp only [List.length_map] at this; exact this.below ((Below.refl _ _).alloc (Nat.min_le_right _ _) _)) (by simpa using hlen) (by simp; omega) (by simp) ?_); intro v' w1 hown1 hb1 _)
    go_ret
    exact ⟨v', rfl, by simpa using hown1, ((Below.refl _ _).alloc (Nat.le_refl _) _).trans hb1⟩

set_option maxHeartbeats 1000000 in
theorem sClip_int (a : Option Addr) (n c : Nat) (w : World) (hc : n ≤ c) (hm : c ≤ 9223372036854775807) : Calls Try.prog 161 #[.slice a n c] w fun e w' => e = .returned (.slice a n n) ∧ w = w' := by
  go_enter Try.func161, Try.ntmps161
  go_wp2_with fail
  go_ret
  exact ⟨rfl, rfl⟩

set_option maxHeartbeats 1000000 in
theorem clone_int {α : Type} (f : α → List Value) (hf : ∀ x, (f x).length = 1) (h1 : ∀ x, ∀ u ∈ f x, u.oneCell' = true) (v : Value) (ys : List α) (B : Nat) (w : World) (ha : Arr w B 1 v (ys.map f)) (hlen : ys.length * 8 ≤ 140737488355328) :
    Calls Try.prog 119 #[v] w (CloneP f 3 1 ys w) := by
  go_enter Try.func119, Try.ntmps119
  go_wp2_with fail
  refine (sClone_int f hf h1 v ys B w ha hlen).mono ?_
  rintro e w1 ⟨u, rfl, hown, hb⟩
  obtain ⟨a, c, rfl, hc1, hc2⟩ := hown.shape
  go_wp2_with fail
  refine (sClip_int a ys.length c _ hc1 hc2).mono ?_
  rintro e w2 ⟨rfl, rfl⟩
  go_wp2_with fail
  go_ret
  exact ⟨_, rfl, hown.clip, hb⟩

end Go.Proofs.Yteamebdehembgaa

namespace Go.Proofs.Yteamebdehembgaa
open Go.RowKit

/-- Two slice values of which each owns its own block. -/
def Apart (v u : Value) : Prop := ∀ k, v.ownBlock = some k → u.ownBlock ≠ some k
theorem apart_of {α β : Type} {w w' : World} {base e sz e' sz' : Nat} {f : α → List Value} {g : β → List Value} {v u : Value} {xs : List α} {ys : List β} (h : Owns w base e sz f v xs) (h' : Owns w' w.heap.size e' sz' g u ys) : Apart v u := by
  intro k hk hu
  have := (OwnR.lt h k hk).2
  have := (OwnR.lt h' k hu).1
  omega

/-- A store and what is held, by value. -/
def AtmV (w : World) (B : Nat) (v : Value) (ws hs : List Int) : Prop := ∃ wv hv, v = .agg #[wv, hv] ∧ Ints w B wv ws ∧ Ints w B hv hs

def AtmCopyP (ws hs : List Int) (w : World) (en : Ending) (w' : World) : Prop :=
  ∃ wv hv, en = .returned (.agg #[wv, hv]) ∧ Owns w' w.heap.size 3 1 rowI wv ws ∧ Owns w' w.heap.size 3 1 rowI hv hs ∧ Apart wv hv ∧ Below w.heap.size w w'

set_option maxHeartbeats 1000000 in
theorem atmCopy_any (v : Value) (ws hs : List Int) (B : Nat) (w : World) (h : AtmV w B v ws hs) (hB : B ≤ w.heap.size) (hl1 : ws.length ≤ 1048576) (hl2 : hs.length ≤ 1048576) :
    Calls Try.prog 107 #[v] w (AtmCopyP ws hs w) := by
  obtain ⟨wv, hv, rfl, h1, h2⟩ := h
  have ha1 := hid (fun (W : World) (hW : Below B w W) => (h1.below hW).1)
  have ha2 := hid (fun (W : World) (hW : Below B w W) => (h2.below hW).1)
  go_enter Try.func107, Try.ntmps107
  go_wp2_with fail
  go_region_held3 (fun w' => w'.cell? ⟨w.heap.size, 0, none⟩ = some wv ∧ w'.cell? ⟨w.heap.size, 1, none⟩ = some hv)
    (first | exact ⟨d1, d2⟩ | exact ⟨c1, c2⟩ | go_keep)
    (first
      | (go_at_call 119; (with_reducible refine (clone_int rowI rowI_len rowI_one wv ws B _ ?_ ?_).mono ?_); (exact ha1.out _ ((((Below.refl _ _).alloc hB _).alloc (by simp; omega) _).drew)); omega; rintro e w1 ⟨u1, rfl, ho1, hb1⟩; obtain ⟨q1, k1, rfl, hk1, hm1⟩ := ho1.shape; have c1 : w1.cell? ⟨w.heap.size, 0, none⟩ = some wv := (by rw [hb1.cell (p := ⟨w.heap.size, 0, none⟩) (by simp; omega)]; simp); have c2 : w1.cell? ⟨w.heap.size, 1, none⟩ = some hv := (by rw [hb1.cell (p := ⟨w.heap.size, 1, none⟩) (by simp; omega)]; simp))
      | (go_at_call 119; (with_reducible refine (clone_int rowI rowI_len rowI_one hv hs B _ ?_ ?_).mono ?_); (exact ha2.out _ (((((Below.refl _ _).alloc hB _).alloc (by simp; omega) _).drew).trans (hb1.mono (by simp; omega)))); omega; rintro e w2 ⟨u2, rfl, ho2, hb2⟩; obtain ⟨q2, k2, rfl, hk2, hm2⟩ := ho2.shape; have d1 : w2.cell? ⟨w.heap.size, 0, none⟩ = some wv := (by rw [hb2.cell (p := ⟨w.heap.size, 0, none⟩) (by have := hb1.size; simp at this; simp; omega)]; exact c1); have d2 : w2.cell? ⟨w.heap.size, 1, none⟩ = some hv := (by rw [hb2.cell (p := ⟨w.heap.size, 1, none⟩) (by have := hb1.size; simp at this; simp; omega)]; exact c2); have d3 : w2.cell? ⟨w.heap.size + 1, 0, none⟩ = some (.slice none 0 0) := (by rw [hb2.cell (p := ⟨w.heap.size + 1, 0, none⟩) (by have := hb1.size; simp at this; simp; omega), hb1.cell (p := ⟨w.heap.size + 1, 0, none⟩) (by simp)]; simp); have d4 : w2.cell? ⟨w.heap.size + 1, 1, none⟩ = some (.slice none 0 0) := (by rw [hb2.cell (p := ⟨w.heap.size + 1, 1, none⟩) (by have := hb1.size; simp at this; simp; omega), hb1.cell (p := ⟨w.heap.size + 1, 1, none⟩) (by simp)]; simp); have d5 : w2.frozen? ⟨w.heap.size + 1, 0, none⟩ = false := (by rw [hb2.frozen (p := ⟨w.heap.size + 1, 0, none⟩) (by have := hb1.size; simp at this; simp; omega), hb1.frozen (p := ⟨w.heap.size + 1, 0, none⟩) (by simp)]; simp); have d6 : w2.frozen? ⟨w.heap.size + 1, 1, none⟩ = false := (by rw [hb2.frozen (p := ⟨w.heap.size + 1, 1, none⟩) (by have := hb1.size; simp at this; simp; omega), hb1.frozen (p := ⟨w.heap.size + 1, 1, none⟩) (by simp)]; simp)))
  go_wp2_with fail
  have z1 := hb1.size
  simp at z1
  refine bodyPost_ret (v := .agg #[.slice q1 ws.length k1, .slice q2 hs.length k2]) (by simp [results, Try.results107, go_sem, d3, d4]) rfl ?_
  refine ⟨_, _, rfl, ?_, ?_, ?_, ?_⟩
  · exact ((ho1.rebase (by simp; omega)).below hb2 |>.set' _ _ _ (fun k hk => by have := (OwnR.lt ho1 k hk).1; simp at this; omega)).set' _ _ _ (fun k hk => by have := (OwnR.lt ho1 k hk).1; simp at this; omega)
  · exact ((ho2.rebase (by omega)).set' _ _ _ (fun k hk => by have := (OwnR.lt ho2 k hk).1; omega)).set' _ _ _ (fun k hk => by have := (OwnR.lt ho2 k hk).1; omega)
  · exact apart_of ho1 ho2
  · exact (((((Below.refl _ _).alloc (Nat.le_refl _) _).alloc (by simp) _).drew.trans (hb1.mono (by simp; omega))).trans (hb2.mono (by omega))).setCell (by simp) _ |>.setCell (by simp) _

end Go.Proofs.Yteamebdehembgaa
