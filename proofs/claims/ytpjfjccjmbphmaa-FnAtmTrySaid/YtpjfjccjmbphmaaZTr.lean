/-
  For every two codes the law FnAtmTry returns true, and its arguments read behind the call as they read before.
-/
import Derived.Test.YtpjfjccjmbphmaaKLw5
import Derived.Test.YtpjfjccjmbphmaaKDrA
import Derived.Test.YtpjfjccjmbphmaaJRow
set_option linter.unusedVariables false
set_option linter.unusedSimpArgs false
namespace Go.Proofs.Ytpjfjccjmbphmaa
open Go.RowKit

set_option maxRecDepth 4000 in
set_option maxHeartbeats 8000000 in
theorem try_any (hdraw : DrawDo) (v u : Value) (bs cs : List Nat) (B : Nat) (w : World) (h : Bytes w B v bs) (h' : Bytes w B u cs) (hB : B ≤ w.heap.size) :
    Calls Try.prog 4 #[v, u] w fun e w' => e = .returned (.bool true) ∧ Below w.heap.size w w' := by
  have HBC := hid h; have HBD := hid h'
  obtain ⟨ao, cap, rfl, hlc, hcap, hln, hni, hr⟩ := h.opened
  obtain ⟨ao2, cap2, rfl, hlc2, hcap2, hln2, hni2, hr2⟩ := h'.opened
  clear hr hr2 h h'
  by_cases hbig : (1048576 : Int) < (bs.length : Int)
  · go_enter Try.func4, Try.ntmps4
    go_wp2_with fail
    go_ret
    exact ⟨rfl, Below.refl _ _⟩
  by_cases hbig2 : (1048576 : Int) < (cs.length : Int)
  · have hb1 : decide ((1048576 : Int) < (bs.length : Int)) = false := by simpa using hbig
    clear hbig
    go_enter Try.func4, Try.ntmps4
    go_wp2_with fail
    go_ret
    exact ⟨rfl, Below.refl _ _⟩
  · have hb1 : decide ((1048576 : Int) < (bs.length : Int)) = false := by simpa using hbig
    have hb2 : decide ((1048576 : Int) < (cs.length : Int)) = false := by simpa using hbig2
    clear hbig hbig2
    go_enter Try.func4, Try.ntmps4
    go_upto_region 4 with (first
      | (go_at_call 15; refine (hdraw _ bs B w HBC.out hB).mono ?_; rintro e w1 ⟨mv, ms, sv, ws, hs, who, rv, r, rfl, hm, hs0, hw0, hw3, hr0, hb1⟩; have HM := hid hm; have HS := hid hs0; have HR := hid hr0; have HB1 := hid hb1; have HID := hid (show I64 r.id ∧ I64 r.kind ∧ I64 r.addr ∧ I64 r.many by obtain ⟨_, _, _, _, _, h⟩ := hr0; exact h); obtain ⟨wa, wc, ha, hc, rfl, hs1, hs2⟩ := hs0.shape; obtain ⟨da, dc, la, lc, rfl⟩ := hr0.shape; have HS1 := hid hs1; have HS2 := hid hs2; clear hm hs0 hr0 hb1 hs1 hs2)
      | fail)
    rcases hat : atmOk ws hs with _ | _
    · have HAT := hid hat; clear hat
      go_wp2_with (first | (go_at_call 16; go_loud ((with_reducible refine (specAtmOk_any _ ws hs w1.heap.size _ (HS.out.below (two_in w1 _ _)) (two_in w1 _ _).size).mono ?_); rw [HAT.out]; rintro e w3 ⟨rfl, hb⟩; obtain ⟨BS, BQ, hbx, hz3⟩ := law_open hb; have HB := hid hbx; have HBS := hid BS; have ts := BS.lt; obtain ⟨s0, s1⟩ := BS; have HBQ := hid BQ; have tf := BQ.lt; obtain ⟨f0, f1, f2, f3, f4, f5, f6⟩ := BQ; clear hb hbx)) | (go_at_call 18; refine (crOk_any _).mono ?_; rintro e w9 ⟨rfl, rfl⟩))
      go_ret
      exact ⟨rfl, HB1.out.trans (HB.out.mono HB1.out.size)⟩
    have HAT := hid hat; clear hat
    rcases hrq : reqOk r with _ | _
    · have HRQ := hid hrq; clear hrq
      go_wp2_with (first | (go_at_call 16; go_loud ((with_reducible refine (specAtmOk_any _ ws hs w1.heap.size _ (HS.out.below (two_in w1 _ _)) (two_in w1 _ _).size).mono ?_); rw [HAT.out]; rintro e w3 ⟨rfl, hb⟩; obtain ⟨BS, BQ, hbx, hz3⟩ := law_open hb; have HB := hid hbx; have HBS := hid BS; have ts := BS.lt; obtain ⟨s0, s1⟩ := BS; have HBQ := hid BQ; have tf := BQ.lt; obtain ⟨f0, f1, f2, f3, f4, f5, f6⟩ := BQ; clear hb hbx)) | (go_at_call 20; go_loud ((with_reducible refine (specReqOk_any _ r w1.heap.size w3 (HR.out.below HB.out) HB.out.size).mono ?_); rw [HRQ.out]; rintro e w5 ⟨rfl, hbx⟩; have HB := hid (HB.out.trans (hbx.mono HB.out.size)); have HBS := hid (HBS.out.below hbx HBS.out.lt); have ts := HBS.out.lt; obtain ⟨s0, s1⟩ := HBS.out; have HBQ := hid (HBQ.out.below hbx HBQ.out.lt); have tf := HBQ.out.lt; obtain ⟨f0, f1, f2, f3, f4, f5, f6⟩ := HBQ.out; clear hbx)) | (go_at_call 18; refine (crOk_any _).mono ?_; rintro e w9 ⟨rfl, rfl⟩))
      go_ret
      exact ⟨rfl, HB1.out.trans (HB.out.mono HB1.out.size)⟩
    have HRQ := hid hrq; clear hrq
    obtain ⟨ha0, ha1, _⟩ := (adrOk_eq _ _ _).1 (adr_of HRQ.out)
    obtain ⟨hi0, hi1⟩ := id_of HRQ.out
    go_upto_region 6 with (first | (go_at_call 16; go_loud ((with_reducible refine (specAtmOk_any _ ws hs w1.heap.size _ (HS.out.below (two_in w1 _ _)) (two_in w1 _ _).size).mono ?_); rw [HAT.out]; rintro e w3 ⟨rfl, hb⟩; obtain ⟨BS, BQ, hbx, hz3⟩ := law_open hb; have HB := hid hbx; have HBS := hid BS; have ts := BS.lt; obtain ⟨s0, s1⟩ := BS; have HBQ := hid BQ; have tf := BQ.lt; obtain ⟨f0, f1, f2, f3, f4, f5, f6⟩ := BQ; clear hb hbx)) | (go_at_call 20; go_loud ((with_reducible refine (specReqOk_any _ r w1.heap.size w3 (HR.out.below HB.out) HB.out.size).mono ?_); rw [HRQ.out]; rintro e w5 ⟨rfl, hbx⟩; have HB := hid (HB.out.trans (hbx.mono HB.out.size)); have HBS := hid (HBS.out.below hbx HBS.out.lt); have ts := HBS.out.lt; obtain ⟨s0, s1⟩ := HBS.out; have HBQ := hid (HBQ.out.below hbx HBQ.out.lt); have tf := HBQ.out.lt; obtain ⟨f0, f1, f2, f3, f4, f5, f6⟩ := HBQ.out; clear hbx)) | (go_at_call 18; refine (crOk_any _).mono ?_; rintro e w9 ⟨rfl, rfl⟩))
    go_upto_region 9 with fail
    obtain ⟨w6, hw6⟩ : ∃ W, W = (w5.alloc (.cells #[.int .i64 0, .int .i64 63, .int .i64 0, .bool false] 36)).alloc (.cells #[.int .i64 r.id, .int .i64 3, .int .i64 r.addr, .int .i64 1, .bool false, .slice none 0 0, .slice none 0 0] 30) := ⟨_, rfl⟩
    rw [← hw6]
    obtain ⟨n0, n1, hbx, hz6⟩ := two_new hw6
    have HLM := hid (maps_lit n0 (show w5.heap.size < w6.heap.size by omega))
    have HHO := hid (show ReqV w6 w6.heap.size (.agg #[.int .i64 r.id, .int .i64 3, .int .i64 r.addr, .int .i64 1, .bool false, .slice none 0 0, .slice none 0 0]) (holdOf r.id r.addr) from ⟨_, _, rfl, Ints.nil _ _, Ints.nil _ _, by unfold I64 holdOf; simp only; omega, by unfold I64 holdOf; simp only; omega, by unfold I64 holdOf; simp only; omega, by unfold I64 holdOf; simp only; omega⟩)
    have HBO := hid (reqAt_of n1)
    have HB6 := hid (Below.refl w6.heap.size w6)
    clear hw6 n0 n1 hz6
    have HB := hid (HB.out.trans (hbx.mono HB.out.size))
    have HBS := hid (HBS.out.below hbx HBS.out.lt)
    have ts := HBS.out.lt
    obtain ⟨s0, s1⟩ := HBS.out
    have HBQ := hid (HBQ.out.below hbx HBQ.out.lt)
    have tf := HBQ.out.lt
    obtain ⟨f0, f1, f2, f3, f4, f5, f6⟩ := HBQ.out
    clear hbx
    have HBO_ := hid HBO.out
    have tj := HBO.out.lt
    have tpj := Nat.lt_of_succ_lt tj
    obtain ⟨j0, j1, j2, j3, j4, j5, j6⟩ := HBO.out
    go_upto_region 10 with fail
    obtain ⟨w7, hw7⟩ : ∃ W, W = ((w6.alloc (.cells #[.int .i64 77] 3)).alloc (.cells #[.int .i64 3] 3)).alloc (.cells #[.int .i64 r.id, .int .i64 4, .int .i64 r.addr, .int .i64 1, .bool false, .slice (some ⟨w6.heap.size, 0, none⟩) 1 1, .slice (some ⟨w6.heap.size + 1, 0, none⟩) 1 1] 30) := ⟨_, rfl⟩
    rw [← hw7]
    obtain ⟨n0, n1, n2, hbx, hz7⟩ := three_new hw7
    have HTY := hid (show ReqV w7 w7.heap.size (.agg #[.int .i64 r.id, .int .i64 4, .int .i64 r.addr, .int .i64 1, .bool false, .slice (some ⟨w6.heap.size, 0, none⟩) 1 1, .slice (some ⟨w6.heap.size + 1, 0, none⟩) 1 1]) (tryOf r.id r.addr 77) from ⟨_, _, rfl, ints_lit n0 (by unfold I64; omega) (by omega), ints_lit n1 (by unfold I64; omega) (by omega), by unfold I64 tryOf; simp only; omega, by unfold I64 tryOf; simp only; omega, by unfold I64 tryOf; simp only; omega, by unfold I64 tryOf; simp only; omega⟩)
    have HBT := hid (reqAt_of n2)
    have HB7 := hid (Below.refl w7.heap.size w7)
    clear hw7 n0 n1 n2 hz7
    have HB := hid (HB.out.trans (hbx.mono HB.out.size))
    have HB6 := hid (HB6.out.trans (hbx.mono HB6.out.size))
    have HBS := hid (HBS.out.below hbx HBS.out.lt)
    have ts := HBS.out.lt
    obtain ⟨s0, s1⟩ := HBS.out
    have HBQ := hid (HBQ.out.below hbx HBQ.out.lt)
    have tf := HBQ.out.lt
    obtain ⟨f0, f1, f2, f3, f4, f5, f6⟩ := HBQ.out
    have HBO := hid (HBO.out.below hbx HBO.out.lt)
    have tj := HBO.out.lt
    have tpj := Nat.lt_of_succ_lt tj
    obtain ⟨j0, j1, j2, j3, j4, j5, j6⟩ := HBO.out
    clear hbx
    have HBT_ := hid HBT.out
    have tk := HBT.out.lt
    have tpk := Nat.lt_of_succ_lt tk
    obtain ⟨k0, k1, k2, k3, k4, k5, k6⟩ := HBT.out
    obtain ⟨m4, hm4⟩ : ∃ m, m = (cs.length : Int) % 4 := ⟨_, rfl⟩
    have HM4 := hid hm4
    have hm40 : 0 ≤ m4 := by omega
    have hm43 : m4 ≤ 3 := by omega
    go_upto_region 11 with fail
    simp only [← hm4]
    clear hm4
    obtain ⟨w8, hw8⟩ : ∃ W, W = ((w7.alloc (.cells #[.int .i64 5] 3)).alloc (.cells #[.int .i64 m4] 3)).alloc (.cells #[.int .i64 0, .int .i64 2, .int .i64 r.addr, .int .i64 1, .bool false, .slice (some ⟨w7.heap.size, 0, none⟩) 1 1, .slice (some ⟨w7.heap.size + 1, 0, none⟩) 1 1] 30) := ⟨_, rfl⟩
    rw [← hw8]
    obtain ⟨n0, n1, n2, hbx, hz8⟩ := three_new hw8
    have HTH := hid (show ReqV w8 w8.heap.size (.agg #[.int .i64 0, .int .i64 2, .int .i64 r.addr, .int .i64 1, .bool false, .slice (some ⟨w7.heap.size, 0, none⟩) 1 1, .slice (some ⟨w7.heap.size + 1, 0, none⟩) 1 1]) (writeOf r.addr 5 m4) from ⟨_, _, rfl, ints_lit n0 (by unfold I64; omega) (by omega), ints_lit n1 (by unfold I64; omega) (by omega), by unfold I64 writeOf; simp only; omega, by unfold I64 writeOf; simp only; omega, by unfold I64 writeOf; simp only; omega, by unfold I64 writeOf; simp only; omega⟩)
    have HBH := hid (reqAt_of n2)
    have HB8 := hid (Below.refl w8.heap.size w8)
    clear hw8 n0 n1 n2 hz8
    have HB := hid (HB.out.trans (hbx.mono HB.out.size))
    have HB6 := hid (HB6.out.trans (hbx.mono HB6.out.size))
    have HB7 := hid (HB7.out.trans (hbx.mono HB7.out.size))
    have HBS := hid (HBS.out.below hbx HBS.out.lt)
    have ts := HBS.out.lt
    obtain ⟨s0, s1⟩ := HBS.out
    have HBQ := hid (HBQ.out.below hbx HBQ.out.lt)
    have tf := HBQ.out.lt
    obtain ⟨f0, f1, f2, f3, f4, f5, f6⟩ := HBQ.out
    have HBO := hid (HBO.out.below hbx HBO.out.lt)
    have tj := HBO.out.lt
    have tpj := Nat.lt_of_succ_lt tj
    obtain ⟨j0, j1, j2, j3, j4, j5, j6⟩ := HBO.out
    have HBT := hid (HBT.out.below hbx HBT.out.lt)
    have tk := HBT.out.lt
    have tpk := Nat.lt_of_succ_lt tk
    obtain ⟨k0, k1, k2, k3, k4, k5, k6⟩ := HBT.out
    clear hbx
    have HBH_ := hid HBH.out
    have th := HBH.out.lt
    have tph := Nat.lt_of_succ_lt th
    obtain ⟨h0, h1, h2, h3, h4, h5, h6⟩ := HBH.out
    obtain ⟨a2, ha2⟩ : ∃ m, m = (r.addr + 1 + (cs.length : Int) % 60) % 64 := ⟨_, rfl⟩
    have HA2 := hid ha2
    have ha20 : 0 ≤ a2 := by omega
    have ha23 : a2 ≤ 63 := by omega
    have HNE := hid (show a2 ≠ r.addr by omega)
    go_upto_region 12 with fail
    simp only [← ha2]
    clear ha2
    obtain ⟨wz, hwz⟩ : ∃ m, m = (cs.length : Int) % 3 := ⟨_, rfl⟩
    have HWZ := hid hwz
    have hwz0 : 0 ≤ wz := by omega
    have hwz2 : wz ≤ 2 := by omega
    simp only [← hwz]
    clear hwz
    obtain ⟨w9, hw9⟩ : ∃ W, W = ((w8.alloc (.cells #[.int .i64 5] 3)).alloc (.cells #[.int .i64 3] 3)).alloc (.cells #[.int .i64 0, .int .i64 2, .int .i64 a2, .int .i64 1, .bool false, .slice (some ⟨w8.heap.size, 0, none⟩) 1 1, .slice (some ⟨w8.heap.size + 1, 0, none⟩) 1 1] 30) := ⟨_, rfl⟩
    rw [← hw9]
    obtain ⟨n0, n1, n2, hbx, hz9⟩ := three_new hw9
    have HEL := hid (show ReqV w9 w9.heap.size (.agg #[.int .i64 0, .int .i64 2, .int .i64 a2, .int .i64 1, .bool false, .slice (some ⟨w8.heap.size, 0, none⟩) 1 1, .slice (some ⟨w8.heap.size + 1, 0, none⟩) 1 1]) (writeOf a2 5 3) from ⟨_, _, rfl, ints_lit n0 (by unfold I64; omega) (by omega), ints_lit n1 (by unfold I64; omega) (by omega), by unfold I64 writeOf; simp only; omega, by unfold I64 writeOf; simp only; omega, by unfold I64 writeOf; simp only; omega, by unfold I64 writeOf; simp only; omega⟩)
    have HBE := hid (reqAt_of n2)
    have HB9 := hid (Below.refl w9.heap.size w9)
    clear hw9 n0 n1 n2 hz9
    have HB := hid (HB.out.trans (hbx.mono HB.out.size))
    have HB6 := hid (HB6.out.trans (hbx.mono HB6.out.size))
    have HB7 := hid (HB7.out.trans (hbx.mono HB7.out.size))
    have HB8 := hid (HB8.out.trans (hbx.mono HB8.out.size))
    have HBS := hid (HBS.out.below hbx HBS.out.lt)
    have ts := HBS.out.lt
    obtain ⟨s0, s1⟩ := HBS.out
    have HBQ := hid (HBQ.out.below hbx HBQ.out.lt)
    have tf := HBQ.out.lt
    obtain ⟨f0, f1, f2, f3, f4, f5, f6⟩ := HBQ.out
    have HBO := hid (HBO.out.below hbx HBO.out.lt)
    have tj := HBO.out.lt
    have tpj := Nat.lt_of_succ_lt tj
    obtain ⟨j0, j1, j2, j3, j4, j5, j6⟩ := HBO.out
    have HBT := hid (HBT.out.below hbx HBT.out.lt)
    have tk := HBT.out.lt
    have tpk := Nat.lt_of_succ_lt tk
    obtain ⟨k0, k1, k2, k3, k4, k5, k6⟩ := HBT.out
    have HBH := hid (HBH.out.below hbx HBH.out.lt)
    have th := HBH.out.lt
    have tph := Nat.lt_of_succ_lt th
    obtain ⟨h0, h1, h2, h3, h4, h5, h6⟩ := HBH.out
    clear hbx
    have HBE_ := hid HBE.out
    have tg := HBE.out.lt
    have tpg := Nat.lt_of_succ_lt tg
    obtain ⟨g0, g1, g2, g3, g4, g5, g6⟩ := HBE.out
    obtain ⟨X1, hX1⟩ : ∃ X, X = atmDo ms1 ws hs wz (holdOf r.id r.addr) := ⟨_, rfl⟩
    obtain ⟨X2, hX2⟩ : ∃ X, X = atmDo ms1 X1.1 X1.2.1 wz (tryOf r.id r.addr 77) := ⟨_, rfl⟩
    obtain ⟨Z, hZ⟩ : ∃ X, X = atmDo ms1 X1.1 X1.2.1 ((wz + 1) % 3) (writeOf r.addr 5 m4) := ⟨_, rfl⟩
    obtain ⟨T2, hT2⟩ : ∃ X, X = atmDo ms1 Z.1 Z.2.1 wz (tryOf r.id r.addr 77) := ⟨_, rfl⟩
    obtain ⟨V, hV⟩ : ∃ X, X = atmDo ms1 X1.1 X1.2.1 ((wz + 1) % 3) (writeOf a2 5 3) := ⟨_, rfl⟩
    obtain ⟨T3, hT3⟩ : ∃ X, X = atmDo ms1 V.1 V.2.1 wz (tryOf r.id r.addr 77) := ⟨_, rfl⟩
    obtain ⟨T4, hT4⟩ : ∃ X, X = atmDo ms1 X2.1 X2.2.1 wz (tryOf r.id r.addr 77) := ⟨_, rfl⟩
    have hlaw := try_law HAT.out ⟨hwz0, hwz2⟩ ⟨hi0, hi1⟩ ⟨ha0, ha1⟩ ⟨hm40, hm43⟩ ⟨ha20, ha23⟩ HNE.out hX1 hX2 hZ hT2 hV hT3 hT4
    have HX1 := hid hX1; have HX2 := hid hX2; have HZ := hid hZ; have HT2 := hid hT2; have HV := hid hV; have HT3 := hid hT3; have HT4 := hid hT4
    obtain ⟨l1, l2, l3, l4, l5, l6⟩ := hlaw
    have L2 := hid l2; have L3 := hid l3
    have q1 : (X2.2.2.code == 2) = true := by rw [l1]; rfl
    have q2 : (T2.2.2.code == 1) = true := by rw [l4]; rfl
    have q3 : (T3.2.2.code == 2) = true := by rw [l5]; rfl
    have q4 : (T4.2.2.code == 1) = true := by rw [l6]; rfl
    clear hX1 hX2 hZ hT2 hV hT3 hT4 l1 l2 l3 l4 l5 l6
    go_upto_region 13 with (first | (go_at_call 21; go_loud ((with_reducible refine (implDo_v _ _ _ ms1 w9.heap.size ws hs wz (holdOf r.id r.addr) _ (((HLM.out.below HB6.out).mono HB6.out.size)) (((HS.out.below HB.out).mono HB.out.size)) (((HHO.out.below HB6.out).mono HB6.out.size)) (Nat.le_refl _)).mono ?_); rw [← HX1.out]; rintro e wA ⟨qwAwa, qwAwc, qwAha, qwAhc, qwAda, qwAdc, rfl, i1, i2, i3, hb⟩; have DwA1 := hid i1; have DwA2 := hid i2; have hbx := hb; clear i1 i2 i3 hb; have HB := hid (HB.out.trans (hbx.mono HB.out.size)); have HB6 := hid (HB6.out.trans (hbx.mono HB6.out.size)); have HB7 := hid (HB7.out.trans (hbx.mono HB7.out.size)); have HB8 := hid (HB8.out.trans (hbx.mono HB8.out.size)); have HB9 := hid (HB9.out.trans (hbx.mono HB9.out.size)); have HBS := hid (HBS.out.below hbx HBS.out.lt); have ts := HBS.out.lt; obtain ⟨s0, s1⟩ := HBS.out; have HBQ := hid (HBQ.out.below hbx HBQ.out.lt); have tf := HBQ.out.lt; obtain ⟨f0, f1, f2, f3, f4, f5, f6⟩ := HBQ.out; have HBO := hid (HBO.out.below hbx HBO.out.lt); have tj := HBO.out.lt; have tpj := Nat.lt_of_succ_lt tj; obtain ⟨j0, j1, j2, j3, j4, j5, j6⟩ := HBO.out; have HBT := hid (HBT.out.below hbx HBT.out.lt); have tk := HBT.out.lt; have tpk := Nat.lt_of_succ_lt tk; obtain ⟨k0, k1, k2, k3, k4, k5, k6⟩ := HBT.out; have HBH := hid (HBH.out.below hbx HBH.out.lt); have th := HBH.out.lt; have tph := Nat.lt_of_succ_lt th; obtain ⟨h0, h1, h2, h3, h4, h5, h6⟩ := HBH.out; have HBE := hid (HBE.out.below hbx HBE.out.lt); have tg := HBE.out.lt; have tpg := Nat.lt_of_succ_lt tg; obtain ⟨g0, g1, g2, g3, g4, g5, g6⟩ := HBE.out; clear hbx)))
    go_upto_region 14 with (first | (go_at_call 21; go_loud ((with_reducible refine (implDo_v _ _ _ ms1 wA.heap.size X1.1 X1.2.1 wz (tryOf r.id r.addr 77) _ (((HLM.out.below HB6.out).mono HB6.out.size).below (two_in wA _ _)) ((atmV_of DwA1.out DwA2.out).below (two_in wA _ _)) (((HTY.out.below HB7.out).mono HB7.out.size).below (two_in wA _ _)) (two_in wA _ _).size).mono ?_); rw [← HX2.out]; rintro e wB ⟨qwBwa, qwBwc, qwBha, qwBhc, qwBda, qwBdc, rfl, i1, i2, i3, hb⟩; have DwB1 := hid i1; have DwB2 := hid i2; obtain ⟨BA, BR, hbx, hzz⟩ := law_next hb; have HBA := hid BA; have tx := BA.lt; obtain ⟨x0, x1⟩ := BA; clear i1 i2 i3 hb; have HB := hid (HB.out.trans (hbx.mono HB.out.size)); have HB6 := hid (HB6.out.trans (hbx.mono HB6.out.size)); have HB7 := hid (HB7.out.trans (hbx.mono HB7.out.size)); have HB8 := hid (HB8.out.trans (hbx.mono HB8.out.size)); have HB9 := hid (HB9.out.trans (hbx.mono HB9.out.size)); have HBS := hid (HBS.out.below hbx HBS.out.lt); have ts := HBS.out.lt; obtain ⟨s0, s1⟩ := HBS.out; have HBQ := hid (HBQ.out.below hbx HBQ.out.lt); have tf := HBQ.out.lt; obtain ⟨f0, f1, f2, f3, f4, f5, f6⟩ := HBQ.out; have HBO := hid (HBO.out.below hbx HBO.out.lt); have tj := HBO.out.lt; have tpj := Nat.lt_of_succ_lt tj; obtain ⟨j0, j1, j2, j3, j4, j5, j6⟩ := HBO.out; have HBT := hid (HBT.out.below hbx HBT.out.lt); have tk := HBT.out.lt; have tpk := Nat.lt_of_succ_lt tk; obtain ⟨k0, k1, k2, k3, k4, k5, k6⟩ := HBT.out; have HBH := hid (HBH.out.below hbx HBH.out.lt); have th := HBH.out.lt; have tph := Nat.lt_of_succ_lt th; obtain ⟨h0, h1, h2, h3, h4, h5, h6⟩ := HBH.out; have HBE := hid (HBE.out.below hbx HBE.out.lt); have tg := HBE.out.lt; have tpg := Nat.lt_of_succ_lt tg; obtain ⟨g0, g1, g2, g3, g4, g5, g6⟩ := HBE.out; have DwA1 := hid ((DwA1.out.below hbx).mono hbx.size); have DwA2 := hid ((DwA2.out.below hbx).mono hbx.size); clear hbx)))
    go_upto_region 15 with (first | (go_at_call 21; go_loud ((with_reducible refine (implDo_v _ _ _ ms1 wB.heap.size X1.1 X1.2.1 ((wz + 1) % 3) (writeOf r.addr 5 m4) _ (((HLM.out.below HB6.out).mono HB6.out.size).below (two_in wB _ _)) ((atmV_of DwA1.out DwA2.out).below (two_in wB _ _)) (((HTH.out.below HB8.out).mono HB8.out.size).below (two_in wB _ _)) (two_in wB _ _).size).mono ?_); rw [← HZ.out]; rintro e wC ⟨qwCwa, qwCwc, qwCha, qwChc, qwCda, qwCdc, rfl, i1, i2, i3, hb⟩; have DwC1 := hid i1; have DwC2 := hid i2; obtain ⟨BA, BR, hbx, hzz⟩ := law_next hb; have HBY := hid BA; have ty := BA.lt; obtain ⟨y0, y1⟩ := BA; have HBN := hid BR; have tn := BR.lt; have tpn := Nat.lt_of_succ_lt tn; obtain ⟨n0, n1, n2⟩ := BR; clear i1 i2 i3 hb; have HB := hid (HB.out.trans (hbx.mono HB.out.size)); have HB6 := hid (HB6.out.trans (hbx.mono HB6.out.size)); have HB7 := hid (HB7.out.trans (hbx.mono HB7.out.size)); have HB8 := hid (HB8.out.trans (hbx.mono HB8.out.size)); have HB9 := hid (HB9.out.trans (hbx.mono HB9.out.size)); have HBS := hid (HBS.out.below hbx HBS.out.lt); have ts := HBS.out.lt; obtain ⟨s0, s1⟩ := HBS.out; have HBQ := hid (HBQ.out.below hbx HBQ.out.lt); have tf := HBQ.out.lt; obtain ⟨f0, f1, f2, f3, f4, f5, f6⟩ := HBQ.out; have HBO := hid (HBO.out.below hbx HBO.out.lt); have tj := HBO.out.lt; have tpj := Nat.lt_of_succ_lt tj; obtain ⟨j0, j1, j2, j3, j4, j5, j6⟩ := HBO.out; have HBT := hid (HBT.out.below hbx HBT.out.lt); have tk := HBT.out.lt; have tpk := Nat.lt_of_succ_lt tk; obtain ⟨k0, k1, k2, k3, k4, k5, k6⟩ := HBT.out; have HBH := hid (HBH.out.below hbx HBH.out.lt); have th := HBH.out.lt; have tph := Nat.lt_of_succ_lt th; obtain ⟨h0, h1, h2, h3, h4, h5, h6⟩ := HBH.out; have HBE := hid (HBE.out.below hbx HBE.out.lt); have tg := HBE.out.lt; have tpg := Nat.lt_of_succ_lt tg; obtain ⟨g0, g1, g2, g3, g4, g5, g6⟩ := HBE.out; have HBA := hid (HBA.out.below hbx HBA.out.lt); have tx := HBA.out.lt; obtain ⟨x0, x1⟩ := HBA.out; have DwA1 := hid ((DwA1.out.below hbx).mono hbx.size); have DwA2 := hid ((DwA2.out.below hbx).mono hbx.size); have DwB1 := hid ((DwB1.out.below hbx).mono hbx.size); have DwB2 := hid ((DwB2.out.below hbx).mono hbx.size); clear hbx)))
    go_upto_region 16 with (first | (go_at_call 21; go_loud ((with_reducible refine (implDo_v _ _ _ ms1 wC.heap.size Z.1 Z.2.1 wz (tryOf r.id r.addr 77) _ (((HLM.out.below HB6.out).mono HB6.out.size).below (two_in wC _ _)) ((atmV_of DwC1.out DwC2.out).below (two_in wC _ _)) (((HTY.out.below HB7.out).mono HB7.out.size).below (two_in wC _ _)) (two_in wC _ _).size).mono ?_); rw [← HT2.out]; rintro e wD ⟨qwDwa, qwDwc, qwDha, qwDhc, qwDda, qwDdc, rfl, i1, i2, i3, hb⟩; have DwD1 := hid i1; have DwD2 := hid i2; obtain ⟨BA, BR, hbx, hzz⟩ := law_next hb; clear i1 i2 i3 hb; have HB := hid (HB.out.trans (hbx.mono HB.out.size)); have HB6 := hid (HB6.out.trans (hbx.mono HB6.out.size)); have HB7 := hid (HB7.out.trans (hbx.mono HB7.out.size)); have HB8 := hid (HB8.out.trans (hbx.mono HB8.out.size)); have HB9 := hid (HB9.out.trans (hbx.mono HB9.out.size)); have HBS := hid (HBS.out.below hbx HBS.out.lt); have ts := HBS.out.lt; obtain ⟨s0, s1⟩ := HBS.out; have HBQ := hid (HBQ.out.below hbx HBQ.out.lt); have tf := HBQ.out.lt; obtain ⟨f0, f1, f2, f3, f4, f5, f6⟩ := HBQ.out; have HBO := hid (HBO.out.below hbx HBO.out.lt); have tj := HBO.out.lt; have tpj := Nat.lt_of_succ_lt tj; obtain ⟨j0, j1, j2, j3, j4, j5, j6⟩ := HBO.out; have HBT := hid (HBT.out.below hbx HBT.out.lt); have tk := HBT.out.lt; have tpk := Nat.lt_of_succ_lt tk; obtain ⟨k0, k1, k2, k3, k4, k5, k6⟩ := HBT.out; have HBH := hid (HBH.out.below hbx HBH.out.lt); have th := HBH.out.lt; have tph := Nat.lt_of_succ_lt th; obtain ⟨h0, h1, h2, h3, h4, h5, h6⟩ := HBH.out; have HBE := hid (HBE.out.below hbx HBE.out.lt); have tg := HBE.out.lt; have tpg := Nat.lt_of_succ_lt tg; obtain ⟨g0, g1, g2, g3, g4, g5, g6⟩ := HBE.out; have HBA := hid (HBA.out.below hbx HBA.out.lt); have tx := HBA.out.lt; obtain ⟨x0, x1⟩ := HBA.out; have HBY := hid (HBY.out.below hbx HBY.out.lt); have ty := HBY.out.lt; obtain ⟨y0, y1⟩ := HBY.out; have HBN := hid (HBN.out.below hbx HBN.out.lt); have tn := HBN.out.lt; have tpn := Nat.lt_of_succ_lt tn; obtain ⟨n0, n1, n2⟩ := HBN.out; have DwA1 := hid ((DwA1.out.below hbx).mono hbx.size); have DwA2 := hid ((DwA2.out.below hbx).mono hbx.size); have DwB1 := hid ((DwB1.out.below hbx).mono hbx.size); have DwB2 := hid ((DwB2.out.below hbx).mono hbx.size); clear hbx)))
    go_upto_region 17 with (first | (go_at_call 21; go_loud ((with_reducible refine (implDo_v _ _ _ ms1 wD.heap.size X1.1 X1.2.1 ((wz + 1) % 3) (writeOf a2 5 3) _ (((HLM.out.below HB6.out).mono HB6.out.size).below (two_in wD _ _)) ((atmV_of DwA1.out DwA2.out).below (two_in wD _ _)) (((HEL.out.below HB9.out).mono HB9.out.size).below (two_in wD _ _)) (two_in wD _ _).size).mono ?_); rw [← HV.out]; rintro e wE ⟨qwEwa, qwEwc, qwEha, qwEhc, qwEda, qwEdc, rfl, i1, i2, i3, hb⟩; have DwE1 := hid i1; have DwE2 := hid i2; obtain ⟨BA, BR, hbx, hzz⟩ := law_next hb; have HBU := hid BR; have tu_ := BR.lt; have tpu_ := Nat.lt_of_succ_lt tu_; obtain ⟨u_0, u_1, u_2⟩ := BR; clear i1 i2 i3 hb; have HB := hid (HB.out.trans (hbx.mono HB.out.size)); have HB6 := hid (HB6.out.trans (hbx.mono HB6.out.size)); have HB7 := hid (HB7.out.trans (hbx.mono HB7.out.size)); have HB8 := hid (HB8.out.trans (hbx.mono HB8.out.size)); have HB9 := hid (HB9.out.trans (hbx.mono HB9.out.size)); have HBS := hid (HBS.out.below hbx HBS.out.lt); have ts := HBS.out.lt; obtain ⟨s0, s1⟩ := HBS.out; have HBQ := hid (HBQ.out.below hbx HBQ.out.lt); have tf := HBQ.out.lt; obtain ⟨f0, f1, f2, f3, f4, f5, f6⟩ := HBQ.out; have HBO := hid (HBO.out.below hbx HBO.out.lt); have tj := HBO.out.lt; have tpj := Nat.lt_of_succ_lt tj; obtain ⟨j0, j1, j2, j3, j4, j5, j6⟩ := HBO.out; have HBT := hid (HBT.out.below hbx HBT.out.lt); have tk := HBT.out.lt; have tpk := Nat.lt_of_succ_lt tk; obtain ⟨k0, k1, k2, k3, k4, k5, k6⟩ := HBT.out; have HBH := hid (HBH.out.below hbx HBH.out.lt); have th := HBH.out.lt; have tph := Nat.lt_of_succ_lt th; obtain ⟨h0, h1, h2, h3, h4, h5, h6⟩ := HBH.out; have HBE := hid (HBE.out.below hbx HBE.out.lt); have tg := HBE.out.lt; have tpg := Nat.lt_of_succ_lt tg; obtain ⟨g0, g1, g2, g3, g4, g5, g6⟩ := HBE.out; have HBA := hid (HBA.out.below hbx HBA.out.lt); have tx := HBA.out.lt; obtain ⟨x0, x1⟩ := HBA.out; have HBY := hid (HBY.out.below hbx HBY.out.lt); have ty := HBY.out.lt; obtain ⟨y0, y1⟩ := HBY.out; have HBN := hid (HBN.out.below hbx HBN.out.lt); have tn := HBN.out.lt; have tpn := Nat.lt_of_succ_lt tn; obtain ⟨n0, n1, n2⟩ := HBN.out; have DwA1 := hid ((DwA1.out.below hbx).mono hbx.size); have DwA2 := hid ((DwA2.out.below hbx).mono hbx.size); have DwB1 := hid ((DwB1.out.below hbx).mono hbx.size); have DwB2 := hid ((DwB2.out.below hbx).mono hbx.size); clear hbx)))
    go_upto_region 18 with (first | (go_at_call 21; go_loud ((with_reducible refine (implDo_v _ _ _ ms1 wE.heap.size V.1 V.2.1 wz (tryOf r.id r.addr 77) _ (((HLM.out.below HB6.out).mono HB6.out.size).below (two_in wE _ _)) ((atmV_of DwE1.out DwE2.out).below (two_in wE _ _)) (((HTY.out.below HB7.out).mono HB7.out.size).below (two_in wE _ _)) (two_in wE _ _).size).mono ?_); rw [← HT3.out]; rintro e wF ⟨qwFwa, qwFwc, qwFha, qwFhc, qwFda, qwFdc, rfl, i1, i2, i3, hb⟩; have DwF1 := hid i1; have DwF2 := hid i2; obtain ⟨BA, BR, hbx, hzz⟩ := law_next hb; clear i1 i2 i3 hb; have HB := hid (HB.out.trans (hbx.mono HB.out.size)); have HB6 := hid (HB6.out.trans (hbx.mono HB6.out.size)); have HB7 := hid (HB7.out.trans (hbx.mono HB7.out.size)); have HB8 := hid (HB8.out.trans (hbx.mono HB8.out.size)); have HB9 := hid (HB9.out.trans (hbx.mono HB9.out.size)); have HBS := hid (HBS.out.below hbx HBS.out.lt); have ts := HBS.out.lt; obtain ⟨s0, s1⟩ := HBS.out; have HBQ := hid (HBQ.out.below hbx HBQ.out.lt); have tf := HBQ.out.lt; obtain ⟨f0, f1, f2, f3, f4, f5, f6⟩ := HBQ.out; have HBO := hid (HBO.out.below hbx HBO.out.lt); have tj := HBO.out.lt; have tpj := Nat.lt_of_succ_lt tj; obtain ⟨j0, j1, j2, j3, j4, j5, j6⟩ := HBO.out; have HBT := hid (HBT.out.below hbx HBT.out.lt); have tk := HBT.out.lt; have tpk := Nat.lt_of_succ_lt tk; obtain ⟨k0, k1, k2, k3, k4, k5, k6⟩ := HBT.out; have HBH := hid (HBH.out.below hbx HBH.out.lt); have th := HBH.out.lt; have tph := Nat.lt_of_succ_lt th; obtain ⟨h0, h1, h2, h3, h4, h5, h6⟩ := HBH.out; have HBE := hid (HBE.out.below hbx HBE.out.lt); have tg := HBE.out.lt; have tpg := Nat.lt_of_succ_lt tg; obtain ⟨g0, g1, g2, g3, g4, g5, g6⟩ := HBE.out; have HBA := hid (HBA.out.below hbx HBA.out.lt); have tx := HBA.out.lt; obtain ⟨x0, x1⟩ := HBA.out; have HBY := hid (HBY.out.below hbx HBY.out.lt); have ty := HBY.out.lt; obtain ⟨y0, y1⟩ := HBY.out; have HBN := hid (HBN.out.below hbx HBN.out.lt); have tn := HBN.out.lt; have tpn := Nat.lt_of_succ_lt tn; obtain ⟨n0, n1, n2⟩ := HBN.out; have HBU := hid (HBU.out.below hbx HBU.out.lt); have tu_ := HBU.out.lt; have tpu_ := Nat.lt_of_succ_lt tu_; obtain ⟨u_0, u_1, u_2⟩ := HBU.out; have DwB1 := hid ((DwB1.out.below hbx).mono hbx.size); have DwB2 := hid ((DwB2.out.below hbx).mono hbx.size); clear hbx)))
    go_upto_region 19 with (first | (go_at_call 21; go_loud ((with_reducible refine (implDo_v _ _ _ ms1 wF.heap.size X2.1 X2.2.1 wz (tryOf r.id r.addr 77) _ (((HLM.out.below HB6.out).mono HB6.out.size).below (two_in wF _ _)) ((atmV_of DwB1.out DwB2.out).below (two_in wF _ _)) (((HTY.out.below HB7.out).mono HB7.out.size).below (two_in wF _ _)) (two_in wF _ _).size).mono ?_); rw [← HT4.out]; rintro e wG ⟨qwGwa, qwGwc, qwGha, qwGhc, qwGda, qwGdc, rfl, i1, i2, i3, hb⟩; have DwG1 := hid i1; have DwG2 := hid i2; obtain ⟨BA, BR, hbx, hzz⟩ := law_next hb; have HBV := hid BR; have tv_ := BR.lt; have tpv_ := Nat.lt_of_succ_lt tv_; obtain ⟨v_0, v_1, v_2⟩ := BR; clear i1 i2 i3 hb; have HB := hid (HB.out.trans (hbx.mono HB.out.size)); have HB6 := hid (HB6.out.trans (hbx.mono HB6.out.size)); have HB7 := hid (HB7.out.trans (hbx.mono HB7.out.size)); have HB8 := hid (HB8.out.trans (hbx.mono HB8.out.size)); have HB9 := hid (HB9.out.trans (hbx.mono HB9.out.size)); have HBS := hid (HBS.out.below hbx HBS.out.lt); have ts := HBS.out.lt; obtain ⟨s0, s1⟩ := HBS.out; have HBQ := hid (HBQ.out.below hbx HBQ.out.lt); have tf := HBQ.out.lt; obtain ⟨f0, f1, f2, f3, f4, f5, f6⟩ := HBQ.out; have HBO := hid (HBO.out.below hbx HBO.out.lt); have tj := HBO.out.lt; have tpj := Nat.lt_of_succ_lt tj; obtain ⟨j0, j1, j2, j3, j4, j5, j6⟩ := HBO.out; have HBT := hid (HBT.out.below hbx HBT.out.lt); have tk := HBT.out.lt; have tpk := Nat.lt_of_succ_lt tk; obtain ⟨k0, k1, k2, k3, k4, k5, k6⟩ := HBT.out; have HBH := hid (HBH.out.below hbx HBH.out.lt); have th := HBH.out.lt; have tph := Nat.lt_of_succ_lt th; obtain ⟨h0, h1, h2, h3, h4, h5, h6⟩ := HBH.out; have HBE := hid (HBE.out.below hbx HBE.out.lt); have tg := HBE.out.lt; have tpg := Nat.lt_of_succ_lt tg; obtain ⟨g0, g1, g2, g3, g4, g5, g6⟩ := HBE.out; have HBA := hid (HBA.out.below hbx HBA.out.lt); have tx := HBA.out.lt; obtain ⟨x0, x1⟩ := HBA.out; have HBY := hid (HBY.out.below hbx HBY.out.lt); have ty := HBY.out.lt; obtain ⟨y0, y1⟩ := HBY.out; have HBN := hid (HBN.out.below hbx HBN.out.lt); have tn := HBN.out.lt; have tpn := Nat.lt_of_succ_lt tn; obtain ⟨n0, n1, n2⟩ := HBN.out; have HBU := hid (HBU.out.below hbx HBU.out.lt); have tu_ := HBU.out.lt; have tpu_ := Nat.lt_of_succ_lt tu_; obtain ⟨u_0, u_1, u_2⟩ := HBU.out; have DwB1 := hid ((DwB1.out.below hbx).mono hbx.size); have DwB2 := hid ((DwB2.out.below hbx).mono hbx.size); clear hbx)))
    have hxl := L3.out
    obtain ⟨_, _, eo, _, _, _, _, ho⟩ := (DwB1.out).opened
    simp only [Value.slice.injEq, true_and] at eo
    obtain ⟨rfl, rfl⟩ := eo
    obtain ⟨yb, yo, rfl, ybl, yc⟩ := ho (by omega)
    have YC := hid yc
    clear ho yc
    have cy := YC.out r.addr.toNat (by omega)
    rw [L2.out] at cy
    have hyl : r.addr < (X2.1.length : Int) := by omega
    have hyn : r.addr.toNat < X2.1.length := by omega
    clear hxl
    go_wp2_with fail
    go_ret
    exact ⟨rfl, HB1.out.trans ((HB.out.trans ((two_in wG _ _).mono HB.out.size)).mono HB1.out.size)⟩

end Go.Proofs.Ytpjfjccjmbphmaa

namespace Go.Proofs.Ytpjfjccjmbphmaa
open Go.RowKit
open Go.ChangeShapes Go.WideShapes Go.ChangeAt

theorem try_holds : Rows.FnAtmTrySaid :=
  OpenClaim.holds_of_wide 4 Try.f4 rfl rfl rfl rfl rfl rfl rfl ⟨rfl, rfl, rfl, rfl, rfl⟩ rfl rfl rfl rfl rfl (by kernel_rfl) Try.func4 (by kernel_rfl)
    (of_decide_eq_true (by kernel_rfl)) (by unfold Func.isWrapper; first | (rw [if_pos (by decide +kernel)]; kernel_rfl) | (rw [if_neg (by decide +kernel)]; exact ⟨rfl, rfl⟩))
    (fun os started H enc _ => code2_lifted started enc 4 Try.f4 Rows.fnAtmTrySpec rfl (by kernel_rfl) Try.func4
      (ChangeSpec.witness6 (enc := enc) (C := Try.checked) false ⟨#[], #[.slice none 0 0, .slice none 0 0], []⟩ 8 (by kernel_rfl) (by kernel_rfl) (by kernel_rfl) (by kernel_rfl)) Try.params4 rfl (fun _ _ => ⟨rfl, rfl, rfl⟩) (try_any drawAtmDo_any))
#print axioms try_holds

end Go.Proofs.Ytpjfjccjmbphmaa
