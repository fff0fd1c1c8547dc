/-
  The reference lets go of addresses; its copy of a store and of what is held.
-/
import Derived.Test.YteamebdehembgaaJInv
import Derived.Test.YteamebdehembgaaJPl1
import Derived.StillTailTactics
set_option linter.unusedVariables false
set_option linter.unusedSimpArgs false
namespace Go.Proofs.Yteamebdehembgaa
open Go.RowKit
attribute [local go_sem ↓] Go.wp_at_zero Go.wp_at_succ

set_option maxHeartbeats 1000000 in
theorem l2Copy_any (v : Value) (ws : List Int) (B : Nat) (w : World) (hv : Ints w B v ws) (hB : B ≤ w.heap.size) (hl : ws.length ≤ 1048576) :
    Calls Try.prog 152 #[.agg #[v]] w fun e w' => ∃ u, e = .returned (.agg #[u]) ∧ Owns w' w.heap.size 3 1 rowI u ws ∧ Below w.heap.size w w' := by
  have HA := hid (fun (W : World) (hW : Below B w W) => (hv.below hW).1)
  have hb3 := hid (show ∀ x y z : Obj, Below w.heap.size w (((w.alloc x).alloc y).alloc z) from fun x y z => (((Below.refl _ _).alloc (Nat.le_refl _) _).alloc (by simp) _).alloc (by simp; omega) _)
  have hown := hid (fun (W : World) => Owns.lit (α := Int) (w := W) (base := W.heap.size) (e := 3) (sz := 1) (f := rowI) (Nat.le_refl _))
  clear hv
  go_enter Try.func152, Try.ntmps152
  go_wp2_with (at_builtin; go_must (refine wpList_cat elem_int rowI rowI_len rowI_one _ rfl _ _ rfl (w.heap.size + 1 + 1) (.slice (some ⟨w.heap.size + 1 + 1, 0, none⟩) 0 0) [] (by rfl) (by have := hown.out ((w.alloc (.cells #[v] 38)).alloc (.cells #[.slice none 0 0] 38)); simpa using this) _ ws B (by rfl) (HA.out _ ((hb3.out _ _ _).mono hB)) (by first | (simp; done) | (simp; omega)) (by first | (simp; done) | (simp; omega)) (by first | (simp; done) | (simp; omega)) ?_); intro v' w1 ho1 hb1 _; have d0 : w1.cell? ⟨w.heap.size + 1, 0, none⟩ = some (.slice none 0 0) := (by rw [hb1.cell (p := ⟨w.heap.size + 1, 0, none⟩) (by simp)]; simp [go_sem]); have d1 : w1.frozen? ⟨w.heap.size + 1, 0, none⟩ = false := (by rw [hb1.frozen (p := ⟨w.heap.size + 1, 0, none⟩) (by simp)]; simp [go_sem]); obtain ⟨q1, k1, rfl, hk1, hm1⟩ := ho1.shape)
  have hbE := hid (((hb3.out _ _ _).trans (hb1.mono (by omega))).setCell (p := ⟨w.heap.size + 1, 0, none⟩) (by simp) (.slice q1 ws.length k1))
  refine bodyPost_ret (v := .agg #[.slice q1 ws.length k1]) (by simp [results, Try.results152, go_sem, d0]) rfl ⟨_, rfl, ?_, hbE.out⟩
  exact (by simpa using ho1.rebase (show w.heap.size ≤ w.heap.size + 1 + 1 by omega) : Owns w1 w.heap.size 3 1 rowI (.slice q1 ws.length k1) ws).set' _ _ _ (fun k hk => by have := (OwnR.lt ho1 k hk).1; omega)

theorem getAll_zero (ws xs : List Int) : getAll ws (xs.take 0) = [] := by simp [getAll]
theorem getAll_succ {ws xs : List Int} {k : Nat} (h : k < xs.length) : getAll ws (xs.take (k + 1)) = getAll ws (xs.take k) ++ [ws.getD (xs.getD k 0).toNat 0] := by
  rw [take_snoc (d := 0) h]; simp [getAll]

set_option maxHeartbeats 2000000 in
theorem l2Get_any (gw ow cw B : Nat) (u : Value) (ws xs : List Int) (w : World) (hw : Ints w B (.slice (some ⟨gw, ow, none⟩) 64 cw) ws) (hu : Ints w B u xs) (hB : B ≤ w.heap.size) (hin : ∀ x ∈ xs, 0 ≤ x ∧ x ≤ 63) (hl4 : xs.length ≤ 4) (h64 : ws.length = 64) :
    Calls Try.prog 149 #[.agg #[.slice (some ⟨gw, ow, none⟩) 64 cw], u] w fun e w' => ∃ v, e = .returned v ∧ Owns w' w.heap.size 3 1 rowI v (getAll ws xs) ∧ Below w.heap.size w w' := by
  obtain ⟨ao, cap, rfl, hlc, hcap, hln, hni, hr⟩ := hu.opened
  obtain ⟨_, _, hwe, hwc1, hwc2, _, _, hwr⟩ := hw.opened
  obtain ⟨e1, e2, e3⟩ := Value.slice.inj hwe
  clear e2
  subst e1; subst e3
  obtain ⟨b0, o0, hb0, hbB, hwc⟩ := hwr (by omega)
  obtain ⟨rfl, rfl⟩ : gw = b0 ∧ ow = o0 := by simpa using hb0
  have HWC := hid hwc; have HIN := hid hin; have H64 := hid h64
  have hl0 := hid (getAll_zero ws xs)
  have hc64 : 64 ≤ cw := by omega
  clear hw hu hwr hwe hwc hin h64 hb0 hwc1
  have hown0 : Owns ((w.alloc (.cells #[.slice (some ⟨gw, ow, none⟩) 64 cw] 38)).alloc (.cells #[] 3)) (w.heap.size + 1) 3 1 rowI (.slice (some ⟨w.heap.size + 1, 0, none⟩) 0 0) (getAll ws (xs.take 0)) := by
    rw [hl0.out]; simpa using Owns.lit (α := Int) (w := w.alloc (.cells #[.slice (some ⟨gw, ow, none⟩) 64 cw] 38)) (base := w.heap.size + 1) (e := 3) (sz := 1) (f := rowI) (by simp)
  have hbel0 : Below (w.heap.size + 1) (w.alloc (.cells #[.slice (some ⟨gw, ow, none⟩) 64 cw] 38)) ((w.alloc (.cells #[.slice (some ⟨gw, ow, none⟩) 64 cw] 38)).alloc (.cells #[] 3)) := (Below.refl _ _).alloc (by simp) _
  go_enter Try.func149, Try.ntmps149
  go_wp2_with fail
  go_loopw [5, 6] (fun v i wr => ∃ k : Nat, k ≤ xs.length ∧ i = .int .i64 k ∧ Owns wr (w.heap.size + 1) 3 1 rowI v (getAll ws (xs.take k)) ∧ Below (w.heap.size + 1) (w.alloc (.cells #[.slice (some ⟨gw, ow, none⟩) 64 cw] 38)) wr) (fun _ i _ => xs.length - (intOf i).toNat)
  case atStart => exact ⟨0, Nat.zero_le _, rfl, hown0, hbel0⟩
  case round =>
    clear hown0 hbel0
    obtain ⟨k, hk, rfl, hown, hbl⟩ := hrel
    have hsz := hbl.size
    simp only [World.size_alloc] at hsz
    by_cases hlt : k < xs.length
    · obtain ⟨b, off, rfl, hb, hc⟩ := hr (by omega)
      have hck := hc k hlt
      have hin := HIN.out _ (getD_mem (d := 0) hlt)
      have hst := getAll_succ (ws := ws) hlt
      obtain ⟨m, hm⟩ := Int.eq_ofNat_of_zero_le hin.1
      rw [hm] at hck hin hst
      have hm64 : m < 64 := by omega
      have hmi : (m : Int) < 64 := by omega
      have hki : (k : Int) < (xs.length : Int) := by omega
      have hk0 : (0 : Int) ≤ (k : Int) := by omega
      have hm0 : (0 : Int) ≤ (m : Int) := by omega
      have hwk := HWC.out m (by rw [H64.out]; exact hm64)
      obtain ⟨y, hy⟩ : ∃ y, y = ws.getD m 0 := ⟨_, rfl⟩
      rw [← hy] at hwk
      rw [Int.toNat_natCast, ← hy] at hst
      have c1 : wr.cell? ⟨b, off + k, none⟩ = some (.int .i64 m) := by rw [hbl.cell (p := ⟨b, off + k, none⟩) (by show b < _; omega), ← hck]; exact ((Below.refl w.heap.size w).alloc (Nat.le_refl _) _).cell (p := ⟨b, off + k, none⟩) (by show b < _; omega)
      have c2 : wr.cell? ⟨gw, ow + m, none⟩ = some (.int .i64 y) := by rw [hbl.cell (p := ⟨gw, ow + m, none⟩) (by show gw < _; omega), ← hwk]; exact ((Below.refl w.heap.size w).alloc (Nat.le_refl _) _).cell (p := ⟨gw, ow + m, none⟩) (by show gw < _; omega)
      have c3 : wr.cell? ⟨w.heap.size, 0, none⟩ = some (.slice (some ⟨gw, ow, none⟩) 64 cw) := by rw [hbl.cell (p := ⟨w.heap.size, 0, none⟩) (by simp)]; simp [go_sem]
      have HST := hid hst
      have HO := hid hown; have HB := hid hbl
      clear hm hc hr hy hst hck hwk hown hbl
      go_wp2_with fail
      go_region_held3 (fun w' => w'.cell? ⟨b, off + k, none⟩ = some (.int .i64 m) ∧ w'.cell? ⟨gw, ow + m, none⟩ = some (.int .i64 y) ∧ w'.cell? ⟨w.heap.size, 0, none⟩ = some (.slice (some ⟨gw, ow, none⟩) 64 cw)) (first | exact ⟨x1, x2, x3⟩ | go_keep)
        (first | ((refine step_push elem_int rowI rowI_len rowI_one _ (by rfl) _ _ (by rfl) (w.heap.size + 1) _ (getAll ws (xs.take k)) y (by rfl) (HO.out.allocd _).drewd wr.heap.size 1 (by rfl) (news_drew _ rfl) (by simp [getAll]; omega) (by simp [getAll]; omega) (by simp; omega) ?_); intro v' w1 ho1 hb1; have hbw := hid (show Below (w.heap.size + 1) wr w1 from (((Below.refl _ _).alloc hsz _).drew).trans hb1); have x1 : w1.cell? ⟨b, off + k, none⟩ = some (.int .i64 m) := (by rw [hbw.out.cell (p := ⟨b, off + k, none⟩) (by show b < _; omega)]; exact c1); have x2 : w1.cell? ⟨gw, ow + m, none⟩ = some (.int .i64 y) := (by rw [hbw.out.cell (p := ⟨gw, ow + m, none⟩) (by show gw < _; omega)]; exact c2); have x3 : w1.cell? ⟨w.heap.size, 0, none⟩ = some (.slice (some ⟨gw, ow, none⟩) 64 cw) := (by rw [hbw.out.cell (p := ⟨w.heap.size, 0, none⟩) (by simp)]; exact c3)))
      go_wp2_with fail
      go_roundw
      case rel => exact ⟨k + 1, by omega, by go_num, by rw [HST.out]; exact ho1, HB.out.trans hbw.out⟩
      case measure => simp [intOf]; omega
    · obtain rfl : k = xs.length := by omega
      rw [List.take_length] at hown
      go_wp2_with fail
      go_ret
      exact ⟨_, rfl, hown.rebase (by omega), ((Below.refl _ _).alloc (Nat.le_refl _) _).trans (hbl.mono (by omega))⟩


set_option maxRecDepth 4000 in
set_option maxHeartbeats 4000000 in
theorem l2Put_any (gw ow cw B : Nat) (u dv lv : Value) (ws xs ds ls : List Int) (w : World) (how : Owns w B 3 1 rowI (.slice (some ⟨gw, ow, none⟩) 64 cw) ws) (hu : Ints w w.heap.size u xs) (hug : ∀ k, u.ownBlock = some k → k ≠ gw) (hd : Ints w B dv ds) (hl : Ints w B lv ls)
    (hin : ∀ x ∈ xs, 0 ≤ x ∧ x ≤ 63) (hl4 : xs.length ≤ 4) (h64 : ws.length = 64) (hdl : ds.length = xs.length) (hll : ls.length = xs.length) (hdo : ds.all wordOk = true) (hlo : ls.all (fun l => inB l 0 3) = true) (hws : ws.all wordOk = true) :
    Calls Try.prog 150 #[.agg #[.slice (some ⟨gw, ow, none⟩) 64 cw], u, dv, lv] w fun e w' => e = .returned (.agg #[.slice (some ⟨gw, ow, none⟩) 64 cw]) ∧ Owns w' B 3 1 rowI (.slice (some ⟨gw, ow, none⟩) 64 cw) (putAll ws xs ds ls) ∧ Touch gw w w' := by
  obtain ⟨ao, cap, rfl, hlc, hcap, hln, hni, hr⟩ := hu.opened
  obtain ⟨ad, cd, rfl, hlcd, hcapd, hlnd, hnid, hrd⟩ := hd.opened
  obtain ⟨al, cl, rfl, hlcl, hcapl, hlnl, hnil, hrl⟩ := hl.opened
  have hg := how.ltI
  have hc64 : 64 ≤ cw := by
    obtain ⟨_, h2⟩ := how
    rcases h2 with ⟨h2, _⟩ | ⟨_, _, _, _, hv, _, _, hle, _⟩
    · cases h2
    · simp only [Value.slice.injEq] at hv; omega
  have HIN := hid hin; have H64 := hid h64; have HUG := hid hug; have HDL := hid hdl; have HLL := hid hll; have HDO := hid hdo; have HLO := hid hlo; have HWS := hid hws; have HOW := hid how
  have hone : gw ≠ w.heap.size := by omega
  obtain ⟨W1, hW1⟩ : ∃ W1, W1 = (w.alloc (.cells #[.slice (some ⟨gw, ow, none⟩) 64 cw] 38)).alloc (.cells #[.slice none 0 0] 38) := ⟨_, rfl⟩
  have HB1 := hid (show Below w.heap.size w W1 by rw [hW1]; exact ((Below.refl _ _).alloc (Nat.le_refl _) _).alloc (by simp) _)
  have s1 : W1.cell? ⟨w.heap.size, 0, none⟩ = some (.slice (some ⟨gw, ow, none⟩) 64 cw) := by rw [hW1]; simp [go_sem]
  have s2 : W1.cell? ⟨w.heap.size + 1, 0, none⟩ = some (.slice none 0 0) := by rw [hW1]; simp [go_sem]
  have s3 : W1.frozen? ⟨w.heap.size + 1, 0, none⟩ = false := by rw [hW1]; simp [go_sem]
  have hz1 : W1.heap.size = w.heap.size + 2 := by rw [hW1]; simp
  have hz0 := hid (putK_zero ws xs ds ls)
  clear hu hd hl hin h64 hug hdl hll hdo hlo hws how
  go_enter Try.func150, Try.ntmps150
  go_wp2_with fail
  rw [← hW1]
  have HW1 := hid hW1; have HZ1 := hid hz1; clear hW1
  have hzge : w.heap.size + 2 ≤ W1.heap.size := by omega
  clear hz1
  go_loopw [9] (fun i wr => ∃ k : Nat, k ≤ xs.length ∧ i = .int .i64 k ∧ Owns wr B 3 1 rowI (.slice (some ⟨gw, ow, none⟩) 64 cw) (putK ws xs ds ls k) ∧ Touch gw W1 wr) (fun i _ => xs.length - (intOf i).toNat)
  case atStart => exact ⟨0, Nat.zero_le _, rfl, by rw [hz0.out]; exact OwnR.later HOW.out HB1.out, Touch.refl _ _⟩
  case round =>
    obtain ⟨k, hk, rfl, hown, ht⟩ := hrel
    have hsz := ht.size
    have p1 := ht.cell (p := ⟨w.heap.size, 0, none⟩) (by show w.heap.size ≠ gw; omega) (by show w.heap.size < _; omega)
    rw [s1] at p1
    by_cases hlt : k < xs.length
    · obtain ⟨b, off, rfl, hb, hc⟩ := hr (by omega)
      obtain ⟨bd, od, rfl, hbd, hcd⟩ := hrd (by have := HDL.out; omega)
      obtain ⟨bl, ol, rfl, hbl, hcl⟩ := hrl (by have := HLL.out; omega)
      have hbg : b ≠ gw := HUG.out b rfl
      have keep : ∀ (g o : Nat) (x : Value), g ≠ gw → g < w.heap.size → w.cell? ⟨g, o, none⟩ = some x → wr.cell? ⟨g, o, none⟩ = some x := fun g o x h1 h2 h3 => by
        rw [ht.cell (p := ⟨g, o, none⟩) h1 (by show g < _; omega), HB1.out.cell (p := ⟨g, o, none⟩) h2, h3]
      have hck := keep _ _ _ hbg hb (hc k hlt)
      have hd1 := keep _ _ _ (by omega) (by omega) (hcd k (by have := HDL.out; omega))
      have hl1 := keep _ _ _ (by omega) (by omega) (hcl k (by have := HLL.out; omega))
      have hin := HIN.out (xs.getD k 0) (getD_mem hlt)
      have hstep := putK_succ ws (xs := xs) (ds := ds) (ls := ls) (k := k) HDL.out HLL.out hlt
      obtain ⟨m, hm⟩ := Int.eq_ofNat_of_zero_le hin.1
      rw [hm] at hck hin hstep
      have hm64 : m < 64 := by omega
      have hwc := hown.cellI m (by rw [putK_len, H64.out]; exact hm64)
      have hwf := hown.frozenI m
      obtain ⟨x, hx⟩ : ∃ x, x = (putK ws xs ds ls k).getD m 0 := ⟨_, rfl⟩
      obtain ⟨d, hd⟩ : ∃ d, d = ds.getD k 0 := ⟨_, rfl⟩
      obtain ⟨l, hl⟩ : ∃ l, l = ls.getD k 0 := ⟨_, rfl⟩
      rw [← hx] at hwc; rw [← hd] at hd1; rw [← hl] at hl1
      rw [Int.toNat_natCast, ← hx, ← hd, ← hl] at hstep
      have HPut := hid (fun W => specWrdPut_any x d l W)
      have HPE := hid (show wrdPut x d l = putW x d l from wrdPut_yes (by rw [hx]; exact getD_ok (putK_ok HWS.out HDO.out) (by decide)) (by rw [hd]; exact getD_ok HDO.out (by decide)) (by rw [hl]; exact getD_ok (p := fun l => inB l 0 3) HLO.out (by decide)))
      have HST := hid hstep
      have HO := hid hown; have HT := hid ht
      have hdk : (k : Int) < (ds.length : Int) := by have := HDL.out; omega
      have hlk : (k : Int) < (ls.length : Int) := by have := HLL.out; omega
      clear hx hd hl hrd hrl hr hc hcd hcl hstep hm ht keep hown
      go_wp2
      have hmi : (m : Int) < 64 := by omega
      refine wp_region_still_tail 24 (by kernel_rfl) (by kernel_rfl) ?_
      obtain ⟨w9, hw9⟩ : ∃ w9, w9 = wr.drew := ⟨_, rfl⟩
      change wpStill Try.prog _ wr.drew (fun a' => wpList Try.prog _ _ _ a' wr.drew) _ _
      have y0 : w9.cell? ⟨w.heap.size, 0, none⟩ = some (.slice (some ⟨gw, ow, none⟩) 64 cw) := by rw [hw9]; exact p1
      have y1 : w9.cell? ⟨gw, ow + m, none⟩ = some (.int .i64 x) := by rw [hw9]; exact hwc
      have y2 : w9.frozen? ⟨gw, ow + m, none⟩ = false := by rw [hw9]; exact hwf
      have y3 : w9.cell? ⟨b, off + k, none⟩ = some (.int .i64 m) := by rw [hw9]; exact hck
      have y5 : w9.cell? ⟨bd, od + k, none⟩ = some (.int .i64 d) := by rw [hw9]; exact hd1
      have y6 : w9.cell? ⟨bl, ol + k, none⟩ = some (.int .i64 l) := by rw [hw9]; exact hl1
      rw [← hw9]
      have HNext := hid ((show Owns w9 B 3 1 rowI (.slice (some ⟨gw, ow, none⟩) 64 cw) (putK ws xs ds ls k) by rw [hw9]; exact HO.out.drewd).putI m (by rw [putK_len, H64.out]; exact hm64) (putW x d l))
      rw [← HST.out] at HNext
      have HT9 := hid (HT.out.trans (show Touch gw wr w9 by rw [hw9]; exact (Touch.refl _ _).drewd))
      clear hw9 p1 hwc hwf hck hd1 hl1
      simp only [List.take_succ_cons, List.take_zero, List.drop_succ_cons, List.drop_zero]
      repeat still_step
      still_call ((HPut.out _).mono (fun _ _ h => ⟨h.1, h.2.symm⟩))
      repeat still_step
      refine wpStill_nil ?_
      rw [HPE.out]
      go_wp2
      go_roundw
      case rel => exact ⟨k + 1, by omega, by go_num, HNext.out, HT9.out.trans (Touch.setCell ..)⟩
      case measure => simp [intOf]; omega
    · obtain rfl : k = xs.length := by omega
      rw [putK_all _ _ _ _ HDL.out HLL.out] at hown
      have p2 := ht.cell (p := ⟨w.heap.size + 1, 0, none⟩) (by show w.heap.size + 1 ≠ gw; omega) (by show w.heap.size + 1 < _; omega)
      have p3 := ht.frozen (p := ⟨w.heap.size + 1, 0, none⟩) (by show w.heap.size + 1 ≠ gw; omega) (by show w.heap.size + 1 < _; omega)
      rw [s2] at p2; rw [s3] at p3
      have HO := hid hown; have HT := hid ht; clear hown ht
      go_wp2_with fail
      refine bodyPost_ret (v := .agg #[.slice (some ⟨gw, ow, none⟩) 64 cw]) (by simp [results, Try.results150, go_sem, p2]) rfl ⟨rfl, ?_, ?_⟩
      · exact HO.out.set' _ _ _ (fun j hj => by simp [Value.ownBlock] at hj; omega)
      · exact ((Touch.of_below (r := gw) HB1.out (Nat.le_refl _)).trans HT.out).setNew (by omega) _

end Go.Proofs.Yteamebdehembgaa

namespace Go.Proofs.Yteamebdehembgaa
open Go.RowKit
attribute [local go_sem ↓] Go.wp_at_zero Go.wp_at_succ

/-- What is held, behind k of all that is held, and j of the addresses of the next. -/
def freeJ (hs xs : List Int) (k j : Nat) : List Int := (freeK hs xs k).set k (freeOne (xs.take j) (hs.getD k 0))
theorem freeJ_zero {hs xs : List Int} {k : Nat} (hk : k < hs.length) : freeJ hs xs k 0 = freeK hs xs k := by
  unfold freeJ
  rw [List.take_zero, freeOne_eq]
  simp only [List.not_mem_nil, if_false]
  exact set_self (freeK_get hk) (by rw [freeK_len]; exact hk)
theorem freeJ_all {hs xs : List Int} {k : Nat} (hk : k < hs.length) : freeJ hs xs k xs.length = freeK hs xs (k + 1) := by
  unfold freeJ
  rw [List.take_length, freeK_succ hk]
theorem freeJ_len (hs xs : List Int) (k j : Nat) : (freeJ hs xs k j).length = hs.length := by simp [freeJ, freeK_len]
theorem freeJ_get {hs xs : List Int} {k : Nat} (j : Nat) (hk : k < hs.length) : (freeJ hs xs k j).getD k 0 = freeOne (xs.take j) (hs.getD k 0) := by
  unfold freeJ
  exact lget_set_self (by rw [freeK_len]; exact hk)
theorem freeJ_hit {hs xs : List Int} {k j : Nat} (hj : j < xs.length) (h : (freeJ hs xs k j).getD k 0 = xs.getD j 0) (hk : k < hs.length) : freeJ hs xs k (j + 1) = (freeJ hs xs k j).set k (-1) := by
  rw [freeJ_get j hk, freeOne_eq] at h
  unfold freeJ
  rw [List.set_set, freeOne_eq, take_snoc (d := 0) hj]
  congr 1
  by_cases hm : hs.getD k 0 ∈ xs.take j
  · rw [if_pos (List.mem_append_left _ hm)]
  · rw [if_neg hm] at h
    rw [if_pos (List.mem_append_right _ (by simp [h, -List.getD_eq_getElem?_getD]))]
theorem freeJ_miss {hs xs : List Int} {k j : Nat} (hj : j < xs.length) (h : (freeJ hs xs k j).getD k 0 ≠ xs.getD j 0) (hk : k < hs.length) : freeJ hs xs k (j + 1) = freeJ hs xs k j := by
  rw [freeJ_get j hk, freeOne_eq] at h
  unfold freeJ
  rw [freeOne_eq, freeOne_eq, take_snoc (d := 0) hj]
  congr 1
  by_cases hm : hs.getD k 0 ∈ xs.take j
  · rw [if_pos (List.mem_append_left _ hm), if_pos hm]
  · rw [if_neg hm] at h
    rw [if_neg hm, if_neg]
    intro h2
    rcases List.mem_append.1 h2 with h2 | h2
    · exact hm h2
    · rw [List.mem_singleton] at h2; exact h h2

set_option maxHeartbeats 4000000 in
theorem l4Free_any (wv : Value) (gh oh ch B : Nat) (u : Value) (hs xs : List Int) (w : World) (hwv : ∃ a n c, wv = .slice a n c) (how : Owns w B 3 1 rowI (.slice (some ⟨gh, oh, none⟩) 6 ch) hs) (hu : Ints w w.heap.size u xs) (hug : ∀ k, u.ownBlock = some k → k ≠ gh)
    (h6 : hs.length = 6) (hl4 : xs.length ≤ 4) :
    Calls Try.prog 151 #[.agg #[wv, .slice (some ⟨gh, oh, none⟩) 6 ch], u] w fun e w' => e = .returned (.agg #[wv, .slice (some ⟨gh, oh, none⟩) 6 ch]) ∧ Owns w' B 3 1 rowI (.slice (some ⟨gh, oh, none⟩) 6 ch) (freeAll hs xs) ∧ Touch gh w w' := by
  obtain ⟨wa, wn, wc, rfl⟩ := hwv
  obtain ⟨ao, cap, rfl, hlc, hcap, hln, hni, hr⟩ := hu.opened
  have hg := how.ltI
  have hc6 : 6 ≤ ch := by
    obtain ⟨_, h2⟩ := how
    rcases h2 with ⟨h2, _⟩ | ⟨_, _, _, _, hv, _, _, hle, _⟩
    · cases h2
    · simp only [Value.slice.injEq] at hv; omega
  have H6 := hid h6; have HUG := hid hug; have HOW := hid how
  obtain ⟨W1, hW1⟩ : ∃ W1, W1 = (w.alloc (.cells #[.slice wa wn wc, .slice (some ⟨gh, oh, none⟩) 6 ch] 40)).alloc (.cells #[.slice none 0 0, .slice none 0 0] 40) := ⟨_, rfl⟩
  have HB1 := hid (show Below w.heap.size w W1 by rw [hW1]; exact ((Below.refl _ _).alloc (Nat.le_refl _) _).alloc (by simp) _)
  have s0 : W1.cell? ⟨w.heap.size, 0, none⟩ = some (.slice wa wn wc) := by rw [hW1]; simp [go_sem]
  have s1 : W1.cell? ⟨w.heap.size, 1, none⟩ = some (.slice (some ⟨gh, oh, none⟩) 6 ch) := by rw [hW1]; simp [go_sem]
  have s2 : W1.cell? ⟨w.heap.size + 1, 0, none⟩ = some (.slice none 0 0) := by rw [hW1]; simp [go_sem]
  have s3 : W1.cell? ⟨w.heap.size + 1, 1, none⟩ = some (.slice none 0 0) := by rw [hW1]; simp [go_sem]
  have s4 : W1.frozen? ⟨w.heap.size + 1, 0, none⟩ = false := by rw [hW1]; simp [go_sem]
  have s5 : W1.frozen? ⟨w.heap.size + 1, 1, none⟩ = false := by rw [hW1]; simp [go_sem]
  have hz1 : W1.heap.size = w.heap.size + 2 := by rw [hW1]; simp
  have hz0 := hid (freeK_zero hs xs)
  clear hu h6 hug how
  go_enter Try.func151, Try.ntmps151
  go_wp2_with fail
  rw [← hW1]
  have HW1 := hid hW1; clear hW1
  have hzge : w.heap.size + 2 ≤ W1.heap.size := by omega
  clear hz1
  go_loopw [5, 6] (fun i _ wr => ∃ k : Nat, k ≤ 6 ∧ i = .int .i64 k ∧ Owns wr B 3 1 rowI (.slice (some ⟨gh, oh, none⟩) 6 ch) (freeK hs xs k) ∧ Touch gh W1 wr) (fun i _ _ => 6 - (intOf i).toNat)
  case atStart => exact ⟨0, Nat.zero_le _, rfl, by rw [hz0.out]; exact OwnR.later HOW.out HB1.out, Touch.refl _ _⟩
  case round =>
    obtain ⟨k, hk, rfl, hown, ht⟩ := hrel
    have hsz := ht.size
    have p1 := ht.cell (p := ⟨w.heap.size, 1, none⟩) (by show w.heap.size ≠ gh; omega) (by show w.heap.size < _; omega)
    rw [s1] at p1
    by_cases hlt : k < 6
    · have HO := hid hown; have HT := hid ht
      have hji := hid (freeJ_zero (xs := xs) (show k < hs.length by rw [H6.out]; exact hlt))
      obtain ⟨wo, rfl⟩ : ∃ wo : World, wo = wr := ⟨_, rfl⟩
      clear hown ht
      go_wp2_with fail
      go_loopw [6] (fun i wr => ∃ j : Nat, j ≤ xs.length ∧ i = .int .i64 j ∧ Owns wr B 3 1 rowI (.slice (some ⟨gh, oh, none⟩) 6 ch) (freeJ hs xs k j) ∧ Touch gh W1 wr) (fun i _ => xs.length - (intOf i).toNat)
      case atStart => exact ⟨0, Nat.zero_le _, rfl, by rw [hji.out]; exact HO.out, HT.out⟩
      case round =>
        obtain ⟨j, hj, rfl, hown, ht⟩ := hrel
        have hsz2 := ht.size
        have q1 := ht.cell (p := ⟨w.heap.size, 1, none⟩) (by show w.heap.size ≠ gh; omega) (by show w.heap.size < _; omega)
        rw [s1] at q1
        by_cases hlt2 : j < xs.length
        · obtain ⟨b, off, rfl, hb, hc⟩ := hr (by omega)
          have hbg : b ≠ gh := HUG.out b rfl
          have hck := hc j hlt2
          rw [← HB1.out.cell (p := ⟨b, off + j, none⟩) (by exact hb), ← ht.cell (p := ⟨b, off + j, none⟩) hbg (by show b < _; omega)] at hck
          have hcell := hown.cellI k (by rw [freeJ_len, H6.out]; exact hlt)
          have hfr := hown.frozenI k
          obtain ⟨x, hx⟩ : ∃ x, x = xs.getD j 0 := ⟨_, rfl⟩
          obtain ⟨y, hy⟩ : ∃ y, y = (freeJ hs xs k j).getD k 0 := ⟨_, rfl⟩
          rw [← hx] at hck; rw [← hy] at hcell
          have HX := hid hx; have HY := hid hy
          have HO2 := hid hown; have HT2 := hid ht
          have hki : (k : Int) < 6 := by omega
          have hji2 : (j : Int) < (xs.length : Int) := by omega
          clear hx hy hown ht hc hr
          by_cases hq : y = x
          · have hst := hid (freeJ_hit (hs := hs) (xs := xs) (k := k) hlt2 (by rw [← HX.out, ← HY.out]; exact hq) (by rw [H6.out]; exact hlt))
            have hq2 : (y == x) = true := by simp [hq]
            clear hq
            go_wp2_with fail
            go_quiet (fail)
            go_wp2_with fail
            go_roundw
            case rel => exact ⟨j + 1, by omega, by go_num, by rw [hst.out]; exact (HO2.out.draws _).putI k (by rw [freeJ_len, H6.out]; exact hlt) (-1), (HT2.out.draws _).trans (Touch.setCell ..)⟩
            case measure => simp [intOf]; omega
          · have hst := hid (freeJ_miss (hs := hs) (xs := xs) (k := k) hlt2 (by rw [← HX.out, ← HY.out]; exact hq) (by rw [H6.out]; exact hlt))
            have hq2 : (y == x) = false := by simp [hq]
            clear hq
            go_wp2_with fail
            go_quiet (fail)
            go_wp2_with fail
            go_roundw
            case rel => exact ⟨j + 1, by omega, by go_num, by rw [hst.out]; exact HO2.out.draws _, HT2.out.draws _⟩
            case measure => simp [intOf]; omega
        · obtain rfl : j = xs.length := by omega
          have hst := hid (freeJ_all (hs := hs) (xs := xs) (k := k) (by rw [H6.out]; exact hlt))
          go_wp2_with fail
          go_roundw
          case rel => exact ⟨k + 1, by omega, by go_num, by rw [← hst.out]; exact hown, ht⟩
          case measure => simp [intOf]; omega
    · obtain rfl : k = 6 := by omega
      have e6 : freeK hs xs 6 = freeAll hs xs := by have := freeK_all hs xs; rw [H6.out] at this; exact this
      rw [e6] at hown
      have g0 := ht.cell (p := ⟨w.heap.size, 0, none⟩) (by show w.heap.size ≠ gh; omega) (by show w.heap.size < _; omega)
      have g2 := ht.cell (p := ⟨w.heap.size + 1, 0, none⟩) (by show w.heap.size + 1 ≠ gh; omega) (by show w.heap.size + 1 < _; omega)
      have g3 := ht.cell (p := ⟨w.heap.size + 1, 1, none⟩) (by show w.heap.size + 1 ≠ gh; omega) (by show w.heap.size + 1 < _; omega)
      have g4 := ht.frozen (p := ⟨w.heap.size + 1, 0, none⟩) (by show w.heap.size + 1 ≠ gh; omega) (by show w.heap.size + 1 < _; omega)
      have g5 := ht.frozen (p := ⟨w.heap.size + 1, 1, none⟩) (by show w.heap.size + 1 ≠ gh; omega) (by show w.heap.size + 1 < _; omega)
      rw [s0] at g0; rw [s2] at g2; rw [s3] at g3; rw [s4] at g4; rw [s5] at g5
      have hlt9 : w.heap.size + 1 < wr.heap.size := by omega
      have HO := hid hown; have HT := hid ht; clear hown ht
      go_wp2_with fail
      refine bodyPost_ret (v := .agg #[.slice wa wn wc, .slice (some ⟨gh, oh, none⟩) 6 ch]) (by simp [results, Try.results151, go_sem, g2, g3, hlt9]) rfl ⟨rfl, ?_, ?_⟩
      · exact (HO.out.set' _ _ _ (fun j hj => by simp [Value.ownBlock] at hj; omega)).set' _ _ _ (fun j hj => by simp [Value.ownBlock] at hj; omega)
      · exact (((Touch.of_below (r := gh) HB1.out (Nat.le_refl _)).trans HT.out).setNew (by omega) _).setNew (by omega) _

end Go.Proofs.Yteamebdehembgaa
