/-
  For every code the law FnArbNext returns true, and its argument reads behind the call as it read before.
-/
import Derived.Test.YtjcpnlnajimjaaaD1
import Derived.Test.YtjcpnlnajimjaaaRow
namespace Go.Proofs.Ytjcpnlnajimjaaa
open Go.ChangeShapes Go.WideShapes Go.ChangeAt Go.RowKit

theorem crOk_any (w : World) : Calls Try.prog 12 #[] w fun e w' => e = .returned (.bool true) ∧ w = w' := by
  go_enter Try.func12, Try.ntmps12
  go_wp2
  go_ret
  exact ⟨rfl, rfl⟩

theorem infoI : (Try.prog.info? 3).map (fun i => (i.zero, i.size, i.bytes)) = some (some (.int .i64 0), 1, 8) := by kernel_rfl
theorem own_ints {w : World} {base : Nat} {u : Value} {xs : List Int} (h : w.ownsRow base 3 1 u xs.length (xs.map (Value.int .i64))) (hn : xs.length ≤ 140737488351232) (hx : ∀ x ∈ xs, I64 x) : Ints w w.heap.size u xs :=
  ⟨ownsRow_arr h (by simp) hn (fun t ht j hj => by
    obtain rfl : j = 0 := by omega
    simp [rowI, ht]), hx⟩
theorem ints_push {w : World} {base : Nat} {v : Value} {xs : List Int} {x : Int} (h : w.ownsRow base 3 1 v (xs.length + 1) (xs.map (Value.int .i64) ++ [.int .i64 x])) : w.ownsRow base 3 1 v (xs ++ [x]).length ((xs ++ [x]).map (Value.int .i64)) := by
  simpa using h

def inL (xs : List Int) (n : Int) : Bool := decide (n ∈ xs)

set_option maxHeartbeats 400000 in
theorem crIn_any (v : Value) (xs : List Int) (n : Int) (B : Nat) (w : World) (hv : Ints w B v xs) :
    Calls Try.prog 13 #[v, .int .i64 n] w fun e w' => e = .returned (.bool (inL xs n)) ∧ w = w' := by
  obtain ⟨ao, cap, rfl, hlc, hcap, hln, hr⟩ := hv.opened
  clear hv
  go_enter Try.func13, Try.ntmps13
  go_wp2
  go_loop [5] (fun i => ∃ k : Nat, k ≤ xs.length ∧ i = .int .i64 k ∧ ∀ j, j < k → xs.getD j 0 ≠ n) (fun i => xs.length - (intOf i).toNat)
  case atStart => exact ⟨0, Nat.zero_le _, rfl, by simp⟩
  case round =>
    obtain ⟨k, hk, rfl, hno⟩ := hrel
    have HN := hid hno; clear hno
    by_cases hlt : k < xs.length
    · obtain ⟨b, off, rfl, hb, hc⟩ := hr (by omega)
      have hck := hc k hlt
      obtain ⟨x, hx⟩ : ∃ x, x = xs.getD k 0 := ⟨_, rfl⟩
      rw [← hx] at hck
      have HX := hid hx; clear hx hc hr
      by_cases hq : x = n
      · have HF := hid (show inL xs n = true by
          rw [inL, decide_eq_true_eq, ← hq, HX.out]
          simp [List.getD, hlt])
        have hq2 : (x == n) = true := by simp [hq]
        clear hq
        go_wp2
        go_ret
        exact ⟨by rw [HF.out]; rfl, rfl⟩
      · have HQ := hid (all_step HN.out (by rw [← HX.out]; exact hq))
        have hq2 : (x == n) = false := by simp [hq]
        clear hq
        go_wp2
        go_round
        case rel => exact ⟨k + 1, by omega, by go_num, HQ.out⟩
        case measure => simp [intOf]; omega
    · have HF := hid (show inL xs n = false by
        rw [inL, decide_eq_false_iff_not]
        intro hm
        obtain ⟨i, hi, e⟩ := List.mem_iff_getElem.1 hm
        exact HN.out i (by omega) (by simp [List.getD, hi, e]))
      go_wp2
      go_ret
      exact ⟨by rw [HF.out]; rfl, rfl⟩

def seenK (m n k : Nat) : List Int := (List.range k).map fun j => ((arbAt m n j : Nat) : Int)
theorem seenK_succ (m n k : Nat) : seenK m n (k + 1) = seenK m n k ++ [((arbAt m n k : Nat) : Int)] := by simp [seenK, List.range_succ]
theorem seenK_len (m n k : Nat) : (seenK m n k).length = k := by simp [seenK]
theorem seenK_get (m n k j : Nat) (h : j < k) : (seenK m n k).getD j 0 = ((arbAt m n j : Nat) : Int) := by simp [seenK, List.getD, h]
theorem seenK_in (m n k : Nat) (h : k < n) : inL (seenK m n k) ((arbAt m n k : Nat) : Int) = false := by
  rw [inL, decide_eq_false_iff_not]
  intro hm
  obtain ⟨j, hj, e⟩ := List.mem_map.1 hm
  rw [List.mem_range] at hj
  unfold arbAt at e
  have e2 : (m + (j + 1)) % n = (m + (k + 1)) % n := by omega
  have := Nat.sub_mod_eq_zero_of_mod_eq e2.symm
  have h3 : m + (k + 1) - (m + (j + 1)) = k - j := by omega
  rw [h3, Nat.mod_eq_of_lt (by omega)] at this
  omega
theorem seenK_small (m n k : Nat) (h0 : 0 < n) (h1 : n ≤ 9) : ∀ x ∈ seenK m n k, I64 x := by
  intro x hx
  obtain ⟨j, _, rfl⟩ := List.mem_map.1 hx
  have : arbAt m n j < n := Nat.mod_lt _ h0
  unfold I64; omega
theorem any_take (xs : List Bool) (k : Nat) (hk : k < xs.length) : (xs.take (k + 1)).any id = ((xs.take k).any id || xs.getD k false) := by
  rw [List.take_succ_eq_append_getElem hk, List.any_append]; simp [List.getD, hk]
theorem push_true {w : World} {base : Nat} {v : Value} {k : Nat} (h : w.ownsRow base 4 1 v (k + 1) (List.replicate k (Value.bool true) ++ [.bool true])) : w.ownsRow base 4 1 v (k + 1) ((List.replicate (k + 1) true).map Value.bool) := by
  simpa [List.replicate_succ'] using h

theorem arb_true (a n : Nat) (h : a < n) : arb (a : Int) (List.replicate n true) = (((a + 1) % n : Nat) : Int) := by
  have := arb_hit a 0 (List.replicate n true) (by rw [List.length_replicate, inB]; simp; omega) (by rw [List.length_replicate]; omega) (fun j hj => absurd hj (by omega)) (by
    rw [List.length_replicate, List.getD, List.getElem?_replicate, if_pos (Nat.mod_lt _ (by omega))]; rfl)
  rw [this, List.length_replicate]
theorem arbAt_next (m n k : Nat) : ((m + k) % n + 1) % n = arbAt m n k := by unfold arbAt; rw [Nat.mod_add_mod]; rfl
theorem arb_none (m : Nat) (asks : List Bool) (hm : m < asks.length) (h : asks.any id = false) : arb (m : Int) asks = -1 := by
  refine arb_miss m asks.length asks (by simp [inB]; omega) (by omega) fun j hj => ?_
  have hlt : arbAt m asks.length j < asks.length := Nat.mod_lt _ (by omega)
  simp [List.getD, hlt]
  have := List.any_eq_false.1 h _ (List.getElem_mem hlt)
  simpa using this
theorem arb_all (m : Nat) (asks : List Bool) (hm : m < asks.length) (h : ∀ j, j < asks.length → asks.getD (arbAt m asks.length j) false = false) : asks.any id = false := by
  rw [List.any_eq_false]
  intro x hx
  obtain ⟨i, hi, rfl⟩ := List.mem_iff_getElem.1 hx
  have := h ((i + asks.length - (m + 1)) % asks.length) (Nat.mod_lt _ (by omega))
  have e : arbAt m asks.length ((i + asks.length - (m + 1)) % asks.length) = i := by
    unfold arbAt
    rw [show m + ((i + asks.length - (m + 1)) % asks.length + 1) = (m + 1) + (i + asks.length - (m + 1)) % asks.length from by omega, Nat.add_mod_mod, show m + 1 + (i + asks.length - (m + 1)) = i + asks.length from by omega, Nat.add_mod_right, Nat.mod_eq_of_lt hi]
  rw [e] at this
  simpa [List.getD, hi] using this

set_option maxHeartbeats 2000000 in
theorem arbLaw_any (v : Value) (bs : List Nat) (B : Nat) (w : World) (h : Bytes w B v bs) (hB : B ≤ w.heap.size) :
    Calls Try.prog 4 #[v] w fun e w' => e = .returned (.bool true) ∧ Below w.heap.size w w' := by
  obtain ⟨i0, hi, iz0, iz1, iz2⟩ := info_parts infoB
  obtain ⟨i1, hj, jz0, jz1, jz2⟩ := info_parts infoI
  obtain ⟨ao, cap, rfl, hlc, hcap, hln, hr⟩ := h.opened
  clear hr
  by_cases hbig : (1048576 : Int) < (bs.length : Int)
  · go_enter Try.func4, Try.ntmps4
    go_wp2_with fail
    go_ret
    exact ⟨rfl, Below.refl _ _⟩
  · go_enter Try.func4, Try.ntmps4
    go_wp2_with fail
    refine (drawArb_any _ bs B w h hB).mono ?_
    rintro e w1 ⟨n, u, xs, rfl, hn0, hn1, hxs, hxl, hb1⟩
    have hz1 := hb1.size
    go_wp2_with fail
    refine (implArb_any n u xs _ _ hxs).mono ?_
    rintro e w1' ⟨rfl, rfl⟩
    go_wp2_with fail
    refine (specArb_any n u xs _ _ hxs).mono ?_
    rintro e w1' ⟨rfl, rfl⟩
    obtain ⟨au, cau, rfl, hlu, hcau, hlu2, hru⟩ := hxs.opened
    rcases hin : inB n 0 (xs.length - 1) with _ | _
    · have hA := arb_out hin
      have hA2 : (arb n xs == -1) = true := by simp [hA]
      have hcase : xs.length = 0 ∨ (xs.length ≠ 0 ∧ n < 0) ∨ (xs.length ≠ 0 ∧ 0 ≤ n ∧ (xs.length : Int) ≤ n) := by
        simp [inB] at hin
        omega
      have HA := hid hA; clear hA hin
      rcases hcase with h0 | ⟨h0, h1⟩ | ⟨h0, h1, h2⟩
      · have g : ((xs.length : Int) == 0) = true := by simp [h0]
        clear h0
        go_wp2_with (go_at_call 12; refine (crOk_any _).mono ?_; rintro e w2 ⟨rfl, rfl⟩)
        go_ret
        exact ⟨rfl, hb1⟩
      · have g : ((xs.length : Int) == 0) = false := by simpa using h0
        go_wp2_with (go_at_call 12; refine (crOk_any _).mono ?_; rintro e w2 ⟨rfl, rfl⟩)
        go_ret
        exact ⟨rfl, hb1⟩
      · have g : ((xs.length : Int) == 0) = false := by simpa using h0
        go_wp2_with (go_at_call 12; refine (crOk_any _).mono ?_; rintro e w2 ⟨rfl, rfl⟩)
        go_ret
        exact ⟨rfl, hb1⟩
    · have hin' : 0 ≤ n ∧ n ≤ xs.length - 1 := by simpa [inB] using hin
      obtain ⟨m, rfl⟩ := Int.eq_ofNat_of_zero_le hin'.1
      have hm : m < xs.length := by omega
      have g : ((xs.length : Int) == 0) = false := by rw [beq_eq_false_iff_ne]; omega
      obtain ⟨ub, uo, rfl, hub, huc⟩ := hru (by omega)
      have hown0 : (w1.alloc (.cells #[] 4)).ownsRow w1.heap.size 4 1 (.slice (some ⟨w1.heap.size, 0, none⟩) 0 0) 0 ((List.replicate 0 true).map Value.bool) :=
        World.ownsRow_lit w1 #[] 0 (Nat.le_refl _) (by unfold maxLen; omega) rfl
      have hbel0 : Below w1.heap.size w1 (w1.alloc (.cells #[] 4)) := (Below.refl _ _).alloc (Nat.le_refl _) _
      have HC := hid huc; clear hru
      go_wp2_with fail
      go_loopw [6, 7, 8] (fun v a i wr => ∃ k : Nat, k ≤ xs.length ∧ i = .int .i64 k ∧ a = .bool ((xs.take k).any id) ∧ wr.ownsRow w1.heap.size 4 1 v k ((List.replicate k true).map Value.bool) ∧ Below w1.heap.size w1 wr) (fun _ _ i _ => xs.length - (intOf i).toNat)
      case atStart => exact ⟨0, Nat.zero_le _, rfl, rfl, hown0, hbel0⟩
      case round =>
        clear hown0 hbel0
        obtain ⟨k, hk, rfl, rfl, hown, hbel⟩ := hrel
        by_cases hlt : k < xs.length
        · have hck := huc k hlt
          have hsz := hbel.size
          rw [← hbel.cell (p := ⟨ub, uo + k, none⟩) (by exact hub)] at hck
          obtain ⟨x, hx⟩ : ∃ x, x = xs.getD k false := ⟨_, rfl⟩
          rw [← hx] at hck
          obtain ⟨y, hy⟩ : ∃ y, y = (xs.take k).any id := ⟨_, rfl⟩
          rw [← hy]
          have HX := hid hx; have HY := hid hy; clear hx hy
          go_wp2_with (at_builtin; go_must (refine wpList_append_own _ rfl _ _ 22 rfl w1.heap.size 4 i0 (.bool false) 1 1 Try.underlying22 hi iz0 iz1 iz2 rfl (by decide) _ _ _ rfl (hown.alloc _) ⟨wr.heap.size, 0, none⟩ 1 1 [.bool true] rfl rfl ?c1 ?c2 ?c3 ?c4 ?c5 ?_))
          case c1 =>
            intro j u hj
            match j, hj with
            | 0, hj => simp at hj; subst hj; simp [Addr.add]
          case c2 => intro u hu; simp at hu; subst hu; rfl
          case c3 => unfold maxLen; omega
          case c4 => omega
          case c5 => simp; omega
          intro v' w4 hown' hgrow _
          have hb34 := app_below hown hgrow (by omega)
          have hck4 := hck
          rw [← hb34.cell (p := ⟨ub, uo + k, none⟩) (by exact hub)] at hck4
          go_wp2_with fail
          all_goals
            go_roundw
            case rel => exact ⟨k + 1, by omega, by go_num, by rw [any_take _ _ hlt, ← HY.out, ← HX.out]; simp_all, push_true hown', hbel.trans hb34⟩
            case measure => simp [intOf]; omega
        · have hk2 : k = xs.length := by omega
          subst hk2
          rw [List.take_length] at *
          obtain ⟨y, hy⟩ : ∃ y, y = xs.any id := ⟨_, rfl⟩
          have HY := hid hy; clear hy
          have hsz := hbel.size
          obtain ⟨wo, rfl⟩ : ∃ wo : World, wo = wr := ⟨_, rfl⟩
          have hall : Bools wo wo.heap.size u6 (List.replicate xs.length true) := own_bools (by simpa using hown) (by simpa using hlu2)
          have hown1 : (wo.alloc (.cells #[] 3)).ownsRow wo.heap.size 3 1 (.slice (some ⟨wo.heap.size, 0, none⟩) 0 0) 0 ((seenK m xs.length 0).map (Value.int .i64)) :=
            World.ownsRow_lit wo #[] 0 (Nat.le_refl _) (by unfold maxLen; omega) rfl
          have hbel1 : Below wo.heap.size wo (wo.alloc (.cells #[] 3)) := (Below.refl _ _).alloc (Nat.le_refl _) _
          clear hown
          go_wp2_with fail
          go_loopw [9, 10, 11] (fun v a i wr => ∃ k : Nat, k ≤ xs.length ∧ i = .int .i64 k ∧ a = .int .i64 (((m + k) % xs.length : Nat) : Int) ∧ wr.ownsRow wo.heap.size 3 1 v k ((seenK m xs.length k).map (Value.int .i64)) ∧ Below wo.heap.size wo wr) (fun _ _ i _ => xs.length - (intOf i).toNat)
          case atStart => exact ⟨0, Nat.zero_le _, rfl, by rw [Nat.add_zero, Nat.mod_eq_of_lt hm], hown1, hbel1⟩
          case round =>
            clear hown1 hbel1
            obtain ⟨k, hk, rfl, rfl, hown, hbl⟩ := hrel
            by_cases hlt : k < xs.length
            · have hsz2 := hbl.size
              have hmk : (m + k) % xs.length < xs.length := Nat.mod_lt _ (by omega)
              have hnx := hid (show arb (((m : Int) + (k : Int)) % (xs.length : Int)) (List.replicate xs.length true) = ((arbAt m xs.length k : Nat) : Int) by
                rw [show ((m : Int) + (k : Int)) % (xs.length : Int) = (((m + k) % xs.length : Nat) : Int) from by simp, arb_true _ _ hmk, arbAt_next])
              have hni := hid (seenK_in m xs.length k hlt)
              go_wp2_with (first
                | (go_at_call 9; go_must (refine (implArb_any _ u6 (List.replicate xs.length true) wo.heap.size _ (Bools.below hall hbl)).mono ?_); rintro e w5 ⟨rfl, rfl⟩; rw [hnx.out])
                | (go_at_call 13; refine (crIn_any _ (seenK m xs.length k) _ wr.heap.size _ (own_ints (by rw [seenK_len]; exact hown) (by rw [seenK_len]; omega) (seenK_small m xs.length k (by omega) (by omega)))).mono ?_; rintro e w6 ⟨rfl, rfl⟩; rw [hni.out])
                | (at_builtin; go_must (refine wpList_append_own _ rfl _ _ 31 rfl wo.heap.size 3 i1 (.int .i64 0) 1 8 Try.underlying31 hj jz0 jz1 jz2 rfl (by decide) _ _ _ rfl (hown.alloc _) ⟨wr.heap.size, 0, none⟩ 1 1 [.int .i64 ((arbAt m xs.length k : Nat) : Int)] rfl rfl ?d1 ?d2 ?d3 ?d4 ?d5 ?_)))
              case d1 =>
                intro j u hj
                match j, hj with
                | 0, hj => simp at hj; subst hj; simp [Addr.add]
              case d2 => intro u hu; simp at hu; subst hu; rfl
              case d3 => unfold maxLen; omega
              case d4 => omega
              case d5 => simp; omega
              intro v' w7 hown' hgrow _
              have hb7 := hid (app_below hown hgrow (by omega))
              have ho7 := hid (show w7.ownsRow wo.heap.size 3 1 v' (k + 1) ((seenK m xs.length (k + 1)).map (Value.int .i64)) by
                rw [seenK_succ, List.map_append]; exact hown')
              clear hown' hown hgrow
              go_wp2_with fail
              go_roundw
              case rel => exact ⟨k + 1, by omega, by go_num, by unfold arbAt; rfl, ho7.out, hbl.trans hb7.out⟩
              case measure => simp [intOf]; omega
            · have hk3 : k = xs.length := by omega
              subst hk3
              have hsz3 := hbl.size
              have hbl0 := hid (hbel.trans (hbl.mono (by omega)))
              have hseen : Ints wr wr.heap.size u9 (seenK m xs.length xs.length) := own_ints (by rw [seenK_len]; exact hown) (by rw [seenK_len]; omega) (seenK_small m xs.length xs.length (by omega) (by omega))
              obtain ⟨asv, cas, hus, has1, has2, has3, hsr⟩ := hseen.opened
              rw [seenK_len] at hus has1 has3 hsr
              subst hus
              obtain ⟨sb, so, rfl, hsb, hsc⟩ := hsr (by omega)
              clear hseen hown hsr
              rcases hany : xs.any id with _ | _
              · have hA2 : (arb (m : Int) xs == -1) = true := by simp [arb_none m xs hm hany]
                go_wp2_with fail
                go_ret
                exact ⟨rfl, hb1.trans (hbl0.out.mono (by omega))⟩
              · go_wp2_with fail
                have HN0 := hid hsc; have HN1 := hid huc; clear hsc huc
                go_loop [12] (fun i => ∃ k : Nat, k ≤ xs.length ∧ i = .int .i64 k ∧ ∀ j, j < k → xs.getD (arbAt m xs.length j) false = false) (fun i => xs.length - (intOf i).toNat)
                case atStart => exact ⟨0, Nat.zero_le _, rfl, by simp⟩
                case round =>
                  obtain ⟨k, hk, rfl, hno⟩ := hrel
                  have HK := hid hno; clear hno
                  by_cases hlt : k < xs.length
                  · have hck := HN0.out k (by omega)
                    rw [seenK_get _ _ _ _ hlt] at hck
                    have hlt2 : arbAt m xs.length k < xs.length := Nat.mod_lt _ (by omega)
                    have hcu := HN1.out _ hlt2
                    rw [← hbel.cell (p := ⟨ub, uo + arbAt m xs.length k, none⟩) (by exact hub), ← hbl.cell (p := ⟨ub, uo + arbAt m xs.length k, none⟩) (by show ub < _; omega)] at hcu
                    rcases hbb : xs.getD (arbAt m xs.length k) false with _ | _
                    · rw [hbb] at hcu
                      have HB := hid hbb; clear hbb
                      go_wp2_with fail
                      go_round
                      case rel => exact ⟨k + 1, by omega, by go_num, arb_step HK.out HB.out⟩
                      case measure => simp [intOf]; omega
                    · rw [hbb] at hcu
                      have hfin : arb (m : Int) xs = ((arbAt m xs.length k : Nat) : Int) := arb_hit m k xs hin hlt HK.out hbb
                      have hA2 : (arb (m : Int) xs == ((arbAt m xs.length k : Nat) : Int)) = true := by simp [hfin]
                      clear hfin hbb
                      go_wp2_with fail
                      go_ret
                      exact ⟨rfl, hb1.trans (hbl0.out.mono (by omega))⟩
                  · exfalso
                    have := arb_all m xs hm (fun j hj => HK.out j (by omega))
                    rw [hany] at this
                    exact absurd this (by simp)

theorem arbLaw_holds : Rows.FnArbNextSaid :=
  OpenClaim.holds_of_wide 4 Try.f4 rfl rfl rfl rfl rfl rfl rfl ⟨rfl, rfl, rfl, rfl, rfl⟩ rfl rfl rfl rfl rfl (by kernel_rfl) Try.func4 (by kernel_rfl)
    (of_decide_eq_true (by kernel_rfl)) (by unfold Func.isWrapper; first | (rw [if_pos (by decide +kernel)]; kernel_rfl) | (rw [if_neg (by decide +kernel)]; exact ⟨rfl, rfl⟩))
    (fun os started H enc _ => code_lifted started enc 4 Try.f4 Rows.fnArbNextSpec rfl (by kernel_rfl) Try.func4
      (ChangeSpec.witness6 (enc := enc) (C := Try.checked) false ⟨#[], #[.slice none 0 0], []⟩ 8 (by kernel_rfl) (by kernel_rfl) (by kernel_rfl) (by kernel_rfl)) Try.params4 rfl (fun _ => ⟨rfl, rfl, rfl⟩) arbLaw_any)
#print axioms arbLaw_holds

end Go.Proofs.Ytjcpnlnajimjaaa
