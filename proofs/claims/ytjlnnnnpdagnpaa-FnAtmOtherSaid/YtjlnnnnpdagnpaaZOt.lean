/-
  For every code the law FnAtmOther returns true, and its argument reads behind the call as it read before.
-/
import Derived.Test.YtjlnnnnpdagnpaaKLw5
import Derived.Test.YtjlnnnnpdagnpaaJRu3
import Derived.Test.YtjlnnnnpdagnpaaKPl5
import Derived.Test.YtjlnnnnpdagnpaaKDrA
import Derived.Test.YtjlnnnnpdagnpaaKRow
set_option linter.unusedVariables false
set_option linter.unusedSimpArgs false
namespace Go.Proofs.Ytjlnnnnpdagnpaa
open Go.RowKit

set_option maxRecDepth 4000 in
set_option maxHeartbeats 8000000 in
theorem other_any (hdraw : DrawDo) (v : Value) (bs : List Nat) (B : Nat) (w : World) (h : Bytes w B v bs) (hB : B ≤ w.heap.size) :
    Calls Try.prog 3 #[v] w fun e w' => e = .returned (.bool true) ∧ Below w.heap.size w w' := by
  have HBC := hid h
  obtain ⟨ao, cap, rfl, hlc, hcap, hln, hni, hr⟩ := h.opened
  clear hr h
  by_cases hbig : (1048576 : Int) < (bs.length : Int)
  · go_enter Try.func3, Try.ntmps3
    go_wp2_with fail
    go_ret
    exact ⟨rfl, Below.refl _ _⟩
  · have hb1 : decide ((1048576 : Int) < (bs.length : Int)) = false := by simpa using hbig
    clear hbig
    go_enter Try.func3, Try.ntmps3
    go_upto_region 4 with (first
      | (go_at_call 7; refine (hdraw _ bs B w HBC.out hB).mono ?_; rintro e w1 ⟨mv, ms, sv, ws, hs, who, rv, r, rfl, hm, hs0, hw0, hw3, hr0, hb1⟩; have HS := hid hs0; have HR := hid hr0; have HB1 := hid hb1; obtain ⟨wa, wc, ha, hc, rfl, hs1, hs2⟩ := hs0.shape; obtain ⟨da, dc, la, lc, rfl⟩ := hr0.shape; clear hm hs0 hr0 hb1 hs1 hs2 hw0 hw3)
      | fail)
    rcases hat : atmOk ws hs with _ | _
    · have HAT := hid hat; clear hat
      go_wp2_with (first
        | (go_at_call 8; go_loud ((with_reducible refine (specAtmOk_any _ ws hs w1.heap.size _ (HS.out.below (two_in w1 _ _)) (two_in w1 _ _).size).mono ?_); rw [HAT.out]; rintro e w3 ⟨rfl, hb⟩; obtain ⟨BS, BQ, hbx, hz3⟩ := law_open hb; have HB := hid hbx; have HBS := hid BS; have ts := BS.lt; obtain ⟨s0, s1⟩ := BS; clear hb hbx BQ))
        | (go_at_call 9; go_loud ((with_reducible refine (implAtmOk_any _ ws hs w1.heap.size _ (HS.out.below HB.out) HB.out.size).mono ?_); rw [HAT.out]; rintro e w5 ⟨rfl, hb⟩; have HB := hid (HB.out.trans (hb.mono HB.out.size)); clear hb))
        | (go_at_call 10; refine (crOk_any _).mono ?_; rintro e w9 ⟨rfl, rfl⟩))
      go_ret
      exact ⟨rfl, HB1.out.trans (HB.out.mono HB1.out.size)⟩
    have HAT := hid hat; clear hat
    go_upto_region 6 with (first | (go_at_call 8; go_loud ((with_reducible refine (specAtmOk_any _ ws hs w1.heap.size _ (HS.out.below (two_in w1 _ _)) (two_in w1 _ _).size).mono ?_); rw [HAT.out]; rintro e w3 ⟨rfl, hb⟩; obtain ⟨BS, BQ, hbx, hz3⟩ := law_open hb; have HB := hid hbx; have HBS := hid BS; have ts := BS.lt; obtain ⟨s0, s1⟩ := BS; clear hb hbx BQ)))
    obtain ⟨a, haa⟩ : ∃ a, a = (bs.length : Int) % 30 := ⟨_, rfl⟩
    obtain ⟨j, hjj⟩ : ∃ j, j = (bs.length : Int) % 2 := ⟨_, rfl⟩
    have ha0 : 0 ≤ a := by omega
    have ha29 : a ≤ 29 := by omega
    have hj0 : 0 ≤ j := by omega
    have hj1 : j ≤ 1 := by omega
    have HJJ := hid hjj; have HAA := hid haa
    clear hjj haa
    go_upto_region 8 with fail
    simp only [← HAA.out]
    go_upto_region 10 with fail
    simp only [← HJJ.out]
    clear HAA HJJ
    obtain ⟨w6, hw6⟩ : ∃ W, W = ((w3.alloc (.cells #[.int .i64 0, .int .i64 63, .int .i64 0, .bool false] 36)).alloc (.cells #[.int .i64 0, .int .i64 3, .int .i64 a, .int .i64 1, .bool false, .slice none 0 0, .slice none 0 0] 30)).alloc (.cells #[.int .i64 j, .int .i64 3, .int .i64 (a + 1), .int .i64 1, .bool false, .slice none 0 0, .slice none 0 0] 30) := ⟨_, rfl⟩
    rw [← hw6]
    obtain ⟨n0, n1, n2, hbx, hz6⟩ := three_new hw6
    have HLM := hid (maps_lit n0 (show w3.heap.size < w6.heap.size by omega))
    have HR1 := hid (show ReqV w6 w6.heap.size (.agg #[.int .i64 0, .int .i64 3, .int .i64 a, .int .i64 1, .bool false, .slice none 0 0, .slice none 0 0]) (holdOf 0 a) from ⟨_, _, rfl, Ints.nil _ _, Ints.nil _ _, by unfold I64 holdOf; simp only; omega, by unfold I64 holdOf; simp only; omega, by unfold I64 holdOf; simp only; omega, by unfold I64 holdOf; simp only; omega⟩)
    have HR2 := hid (show ReqV w6 w6.heap.size (.agg #[.int .i64 j, .int .i64 3, .int .i64 (a + 1), .int .i64 1, .bool false, .slice none 0 0, .slice none 0 0]) (holdOf j (a + 1)) from ⟨_, _, rfl, Ints.nil _ _, Ints.nil _ _, by unfold I64 holdOf; simp only; omega, by unfold I64 holdOf; simp only; omega, by unfold I64 holdOf; simp only; omega, by unfold I64 holdOf; simp only; omega⟩)
    have HQ1 := hid (reqAt_of n1); have HQ2 := hid (reqAt_of n2)
    have HB6 := hid hbx
    have HB := hid (HB.out.trans (hbx.mono HB.out.size))
    have hbs := hbx
    obtain ⟨s0, s1⟩ := HBS.out.below hbx HBS.out.lt
    have HBS := hid (HBS.out.below hbx HBS.out.lt)
    clear hw6 n0 n1 n2 hbx hbs hz6
    go_upto_region 11 with fail
    obtain ⟨w7, hw7⟩ : ∃ W, W = ((w6.alloc (.cells #[.int .i64 1] 3)).alloc (.cells #[.int .i64 3] 3)).alloc (.cells #[.int .i64 0, .int .i64 4, .int .i64 a, .int .i64 1, .bool false, .slice (some ⟨w6.heap.size, 0, none⟩) 1 1, .slice (some ⟨w6.heap.size + 1, 0, none⟩) 1 1] 30) := ⟨_, rfl⟩
    rw [← hw7]
    obtain ⟨n0, n1, n2, hbx, hz7⟩ := three_new hw7
    have HR3 := hid (show ReqV w7 w7.heap.size (.agg #[.int .i64 0, .int .i64 4, .int .i64 a, .int .i64 1, .bool false, .slice (some ⟨w6.heap.size, 0, none⟩) 1 1, .slice (some ⟨w6.heap.size + 1, 0, none⟩) 1 1]) (tryOf 0 a 1) from ⟨_, _, rfl, ints_lit n0 (by unfold I64; omega) (by omega), ints_lit n1 (by unfold I64; omega) (by omega), by unfold I64 tryOf; simp only; omega, by unfold I64 tryOf; simp only; omega, by unfold I64 tryOf; simp only; omega, by unfold I64 tryOf; simp only; omega⟩)
    have HQ3 := hid (reqAt_of n2)
    have HR1 := hid ((HR1.out.below hbx).mono hbx.size)
    have HR2 := hid ((HR2.out.below hbx).mono hbx.size)
    have HLM := hid ((HLM.out.below hbx).mono hbx.size)
    have HQ1 := hid (HQ1.out.below hbx HQ1.out.lt); have HQ2 := hid (HQ2.out.below hbx HQ2.out.lt)
    have HB := hid (HB.out.trans (hbx.mono HB.out.size))
    obtain ⟨s0, s1⟩ := HBS.out.below hbx HBS.out.lt
    clear hw7 n0 n1 n2 hbx hz7
    obtain ⟨a0, a1, a2, a3, a4, a5, a6⟩ := HQ1.out
    obtain ⟨b0, b1, b2, b3, b4, b5, b6⟩ := HQ2.out
    obtain ⟨c0, c1, c2, c3, c4, c5, c6⟩ := HQ3.out
    have hlaw := other_law (ws := ws) (hs := hs) (a := a) (j := j) HAT.out ⟨hj0, hj1⟩ ⟨ha0, ha29⟩
    obtain ⟨x, hx⟩ : ∃ x, x = atmRun ms1 ws hs 1 [holdOf 0 a, holdOf j (a + 1), tryOf 0 a 1] := ⟨_, rfl⟩
    rw [← hx] at hlaw
    have HX := hid hx; have HL3 := hid hlaw.2.1; have HC := hid hlaw.2.2
    clear hx hlaw
    have hin := hid (show Below w7.heap.size w7 (w7.alloc (.cells #[.int .i64 0, .int .i64 3, .int .i64 a, .int .i64 1, .bool false, .slice none 0 0, .slice none 0 0, .int .i64 j, .int .i64 3, .int .i64 (a + 1), .int .i64 1, .bool false, .slice none 0 0, .slice none 0 0, .int .i64 0, .int .i64 4, .int .i64 a, .int .i64 1, .bool false, .slice (some ⟨w6.heap.size, 0, none⟩) 1 1, .slice (some ⟨w6.heap.size + 1, 0, none⟩) 1 1] 30)) from (Below.refl _ _).alloc (Nat.le_refl _) _)
    have h78 : w7.heap.size ≤ w7.heap.size + 1 := Nat.le_succ _
    have hw17 : w1.heap.size ≤ w7.heap.size + 1 := by have := HB.out.size; omega
    have HRS := hid (reqs_lit3 (T := 30) (alloc_new w7 _) ((HR1.out.below hin.out).mono h78) ((HR2.out.below hin.out).mono h78) ((HR3.out.below hin.out).mono h78) (Nat.lt_succ_self _))
    have HMS := hid ((HLM.out.below hin.out).mono h78)
    have HBI := hid (HB.out.trans (hin.out.mono HB.out.size))
    have HSS := hid ((HS.out.below HBI.out).mono hw17)
    have hsz8 : w7.heap.size + 1 ≤ (w7.alloc (.cells #[.int .i64 0, .int .i64 3, .int .i64 a, .int .i64 1, .bool false, .slice none 0 0, .slice none 0 0, .int .i64 j, .int .i64 3, .int .i64 (a + 1), .int .i64 1, .bool false, .slice none 0 0, .slice none 0 0, .int .i64 0, .int .i64 4, .int .i64 a, .int .i64 1, .bool false, .slice (some ⟨w6.heap.size, 0, none⟩) 1 1, .slice (some ⟨w6.heap.size + 1, 0, none⟩) 1 1] 30)).heap.size := by simp
    go_upto_region 12 with (first
      | ((with_reducible refine wpList_lit3 _ _ _ _ _ _ _ rfl rfl rfl ?_ ?_); rfl)
      | (go_at_call 11; go_loud ((with_reducible refine (implRun_v _ _ _ ms1 (w7.heap.size + 1) ws hs 1 [holdOf 0 a, holdOf j (a + 1), tryOf 0 a 1] _ HMS.out HSS.out HRS.out hsz8).mono ?_); rw [← HX.out]; rintro e w9 ⟨ra, rc, rha, rhc, rda, rdc, rfl, i1, i2, i3, hb⟩)))
    have hb7 := hin.out.trans (hb.mono (Nat.le_of_succ_le hsz8))
    have HBE := hid ((HB.out.trans (hb7.mono HB.out.size)).trans ((Below.refl _ _).alloc (HB.out.trans (hb7.mono HB.out.size)).size (.cells #[Value.slice ra x.1.length rc, Value.slice rha x.2.1.length rhc] 28)))
    have hb9 := hid (hb7.trans ((Below.refl _ _).alloc hb7.size (.cells #[Value.slice ra x.1.length rc, Value.slice rha x.2.1.length rhc] 28)))
    obtain ⟨b0, _⟩ := HQ2.out.below hb9.out HQ2.out.lt
    have h29 : w3.heap.size + 1 + 1 < w9.heap.size + 1 := by have := HQ2.out.lt; have := hb7.size; omega
    have i4 := i3.below ((Below.refl _ _).alloc (Nat.le_refl _) (.cells #[Value.slice ra x.1.length rc, Value.slice rha x.2.1.length rhc] 28))
    obtain ⟨_, _, eo, _, _, _, _, ho⟩ := i4.opened
    simp only [Value.slice.injEq, true_and] at eo
    obtain ⟨rfl, rfl⟩ := eo
    obtain ⟨xb, xo, rfl, hxb, hxc⟩ := ho (by rw [HL3.out]; omega)
    obtain ⟨_, _, _, _, _, _, d1, _⟩ := hxc 2 (by rw [HL3.out]; omega)
    obtain ⟨cd, hcd⟩ : ∃ c, c = (x.2.2.getD 2 default).code := ⟨_, rfl⟩
    rw [← hcd] at d1
    obtain ⟨n, hn⟩ : ∃ n, n = x.2.2.length := ⟨_, rfl⟩
    have hn3 : n = 3 := by rw [hn]; exact HL3.out
    rw [← hn]
    have hcv : cd = if j = 1 then 2 else 1 := by rw [hcd]; exact HC.out
    clear hcd ho hxc i4 i3 i2 i1 hb7 hn hb
    subst hn3
    by_cases hj : j = 1
    · subst hj
      rw [if_pos rfl] at hcv
      subst hcv
      go_wp2_with fail
      go_ret
      exact ⟨rfl, HB1.out.trans (HBE.out.mono HB1.out.size)⟩
    · rw [if_neg hj] at hcv
      subst hcv
      have hjb : (j == 1) = false := by simpa using hj
      clear hj
      go_wp2_with fail
      go_ret
      exact ⟨rfl, HB1.out.trans (HBE.out.mono HB1.out.size)⟩

end Go.Proofs.Ytjlnnnnpdagnpaa

namespace Go.Proofs.Ytjlnnnnpdagnpaa
open Go.RowKit
open Go.ChangeShapes Go.WideShapes Go.ChangeAt

theorem other_holds : Rows.FnAtmOtherSaid :=
  OpenClaim.holds_of_wide 3 Try.f3 rfl rfl rfl rfl rfl rfl rfl ⟨rfl, rfl, rfl, rfl, rfl⟩ rfl rfl rfl rfl rfl (by kernel_rfl) Try.func3 (by kernel_rfl)
    (of_decide_eq_true (by kernel_rfl)) (by unfold Func.isWrapper; first | (rw [if_pos (by decide +kernel)]; kernel_rfl) | (rw [if_neg (by decide +kernel)]; exact ⟨rfl, rfl⟩))
    (fun os started H enc _ => code_lifted started enc 3 Try.f3 Rows.fnAtmOtherSpec rfl (by kernel_rfl) Try.func3
      (ChangeSpec.witness6 (enc := enc) (C := Try.checked) false ⟨#[], #[.slice none 0 0], []⟩ 8 (by kernel_rfl) (by kernel_rfl) (by kernel_rfl) (by kernel_rfl)) Try.params3 rfl (fun _ => ⟨rfl, rfl, rfl⟩) (other_any drawAtmDo_any))
#print axioms other_holds

end Go.Proofs.Ytjlnnnnpdagnpaa
