/-
  One thing at once of the reference, in a copy: a try that is held (printed by wip/gen_sdo.py).
-/
import Derived.Test.YteamebdehembgaaKSd2
set_option linter.unusedVariables false
set_option linter.unusedSimpArgs false
namespace Go.Proofs.Yteamebdehembgaa
open Go.RowKit
attribute [local go_sem ↓] Go.wp_at_zero Go.wp_at_succ

set_option maxRecDepth 4000 in
set_option maxHeartbeats 8000000 in
theorem sdo_tryyes (v : Value) (ms : List MR) (B gw ow cw gh oh ch : Nat) (ws hs : List Int) (who : Int) (id kind addr many : Int) (wp : Bool) (dv lv : Value) (data lanes xs : List Int) (hxs : xs = burst addr many wp) (w : World) (hv : Maps w B v ms) (h : SIn w B gw ow cw gh oh ch ws hs)
    (hdv : Ints w B dv data) (hlv : Ints w B lv lanes) (hwho : inB who 0 2 = true) (hid1 : inB id 0 1 = true) (hz : 0 ≤ wholeOf ms xs) (hk1 : kind = 4) (hon : (ms.getD (wholeOf ms xs).toNat default).only = false) (hhe : hs.getD (who * 2 + id).toNat 0 = addr) (hws : ws.all wordOk = true) (hdat : data.length = xs.length ∧ lanes.length = xs.length ∧ data.all wordOk = true ∧ lanes.all (fun l => inB l 0 3) = true) :
    Calls Try.prog 102 #[v, .agg #[.slice (some ⟨gw, ow, none⟩) 64 cw, .slice (some ⟨gh, oh, none⟩) 6 ch], .int .i64 who, .agg #[.int .i64 id, .int .i64 kind, .int .i64 addr, .int .i64 many, .bool wp, dv, lv]] w (SDoP B gw ow cw gh oh ch (putAll ws xs data lanes, freeAll hs xs, ⟨id, 2, []⟩) w) := by
  have HDV := hid hdv; have HLV := hid hlv; have HV := hid hv; have HH := hid h
  have hgw := h.ww.ltI; have hgh := h.hh.ltI; have hcw := h.c1; have hch := h.c2; have hgne := h.ne
  have hd1 : ∃ a n c, dv = .slice a n c := by obtain ⟨a, c, h, _⟩ := hdv.1; exact ⟨_, _, _, h⟩
  have hd2 : ∃ a n c, lv = .slice a n c := by obtain ⟨a, c, h, _⟩ := hlv.1; exact ⟨_, _, _, h⟩
  obtain ⟨da, dn, dc, rfl⟩ := hd1
  obtain ⟨la, ln, lc, rfl⟩ := hd2
  simp only [inB, Bool.and_eq_true, decide_eq_true_eq] at hwho hid1
  have HXS := hid hxs
  have hl4 : xs.length ≤ 4 := by rw [hxs]; exact burst_len
  have HIN := hid (show ∀ x ∈ xs, 0 ≤ x ∧ x ≤ 63 by rw [hxs]; exact burst_in)
  clear hxs
  have HNE := hid (show xs.length ≠ 0 from fun h0 => by rw [List.eq_nil_of_length_eq_zero h0] at hz; simp [wholeOf] at hz)
  obtain ⟨k, hk⟩ := Int.eq_ofNat_of_zero_le (show 0 ≤ wholeOf ms xs by omega)
  have HZ := hid hk.symm
  have hkm : k < ms.length := by have := wholeOf_lt ms xs; omega
  obtain ⟨mo, mcap, rfl, hm1, hm2, hm3, hm4, hmr⟩ := hv.opened
  obtain ⟨mb, moff, rfl, hmb, hmc⟩ := hmr (by omega)
  obtain ⟨_, _, _, c3⟩ := hmc k hkm
  have HC3 := hid c3
  have HON := hid (show (ms.getD k default).only = false by rw [hk] at hon; exact hon)
  clear hon c3 hmc hmr
  obtain ⟨d1, d2, d3, d4⟩ := hdat
  have HDL := hid d1; have HLL := hid d2; have HDO := hid d3; have HLO := hid d4; have HWS := hid hws
  clear d1 d2 d3 d4 hws
  have hw : (kind == 2 || kind == 4) = true := by rw [hk1]; rfl
  have HW := hid hw; clear hw
  obtain ⟨a, ha6, hae, hat⟩ := do_at hwho hid1
  rw [hat] at hhe
  have hd0 : (0 : Int) ≤ who * 2 + id := by omega
  have hd6 : who * 2 + id < 6 := by omega
  obtain ⟨y, hy⟩ : ∃ y, y = hs.getD a 0 := ⟨_, rfl⟩
  rw [← hy] at hhe
  have HY := hid hy; clear hy
  have hq2 : (y != addr) = false := by simpa using hhe
  clear hhe
  have hk1b : (kind == 1) = false := by rw [hk1]; rfl
  have hk3b : (kind == 3) = false := by rw [hk1]; rfl
  have hk4b : (kind == 4) = true := by rw [hk1]; rfl
  clear hk1
  have HAB0 := hid (ad_open w (.slice (some ⟨gw, ow, none⟩) 64 cw) (.slice (some ⟨gh, oh, none⟩) 6 ch) id kind addr many wp (.slice da dn dc) (.slice la ln lc) 40 71 40 66)
  have HFZ0 := hid (show ∀ o, ((((w.alloc (.cells #[.slice (some ⟨gw, ow, none⟩) 64 cw, .slice (some ⟨gh, oh, none⟩) 6 ch] 40)).alloc (.cells #[.int .i64 id, .int .i64 kind, .int .i64 addr, .int .i64 many, .bool wp, .slice da dn dc, .slice la ln lc] 71)).alloc (.cells #[.slice none 0 0, .slice none 0 0] 40)).alloc (.cells #[.int .i64 0, .int .i64 0, .slice none 0 0] 66)).frozen? ⟨w.heap.size, o, none⟩ = false from fun o => by simp [go_sem])
  have hb4 := hid (show Below w.heap.size w ((((w.alloc (.cells #[.slice (some ⟨gw, ow, none⟩) 64 cw, .slice (some ⟨gh, oh, none⟩) 6 ch] 40)).alloc (.cells #[.int .i64 id, .int .i64 kind, .int .i64 addr, .int .i64 many, .bool wp, .slice da dn dc, .slice la ln lc] 71)).alloc (.cells #[.slice none 0 0, .slice none 0 0] 40)).alloc (.cells #[.int .i64 0, .int .i64 0, .slice none 0 0] 66)) from ((((Below.refl _ _).alloc (Nat.le_refl _) _).alloc (by simp) _).alloc (by simp; omega) _).alloc (by simp; omega) _)
  have hB : B ≤ w.heap.size := by omega
  clear hv h hdv hlv
  go_enter Try.func102, Try.ntmps102
  go_wp2_with (first
    | (go_at_call 147; refine (specBurst_any _ _ _ _).mono ?_; rintro e w1 ⟨u, rfl, hu, hb1, hfr⟩; rw [← HXS.out] at hu; have HB := hid (hb4.out.trans (hb1.mono hb4.out.size)); have HAB := hid (HAB0.out.below hb1 (by first | (simp; done) | (simp; omega))); have HFZ := hid (fun o => (hb1.frozen (p := ⟨w.heap.size, o, none⟩) (by first | (simp; done) | (simp; omega))).trans (HFZ0.out o)); obtain ⟨ua, ucap, hue, _, _, _, _, hur⟩ := hu.opened; subst hue; have HFL := hid (show xs.length ≠ 0 → ∀ k, (Value.slice ua xs.length ucap).ownBlock = some k → k < w1.heap.size from fun h0 k hk => by obtain ⟨b, off, rfl, hb, _⟩ := hur h0; simp [Value.ownBlock] at hk; omega); clear hur; have HU := hid hu; have HFR := hid (show ∀ k, (Value.slice ua xs.length ucap).ownBlock = some k → w.heap.size + 4 ≤ k from fun k hk => by have := hfr k hk; simp at this; omega); obtain ⟨⟨a0, a1⟩, ⟨f0, f1, f2, f3, f4, f5, f6⟩, ⟨g0, g1, g2, g3⟩, ⟨r0, r1, r2, r3, r4, r5⟩⟩ := HAB.out; have hz := HAB.out.lt; obtain ⟨z1, z2, z3, z4⟩ := four hz; clear hu hfr hb1)
    | (go_at_call 148; refine (l1Whole_any _ _ ms xs w1.heap.size _ ((HV.out.below (HB.out.mono hB)).mono (Nat.le_trans hB HB.out.size)) HU.out).mono ?_; rw [← HZ.out]; rintro e w2 ⟨rfl, hdw⟩; have hbx := hdw.below w1.heap.size; have hs12 := hbx.size; have HFZ := hid (fun o => (hbx.frozen (p := ⟨w.heap.size, o, none⟩) (show w.heap.size < w1.heap.size by have := HAB.out.lt; omega)).trans (HFZ.out o)); have HAB := hid (HAB.out.below hbx HAB.out.lt); have HB := hid (HB.out.trans (hbx.mono HB.out.size)); have HU := hid ((HU.out.below hbx).mono hbx.size); obtain ⟨⟨a0, a1⟩, ⟨f0, f1, f2, f3, f4, f5, f6⟩, ⟨g0, g1, g2, g3⟩, ⟨r0, r1, r2, r3, r4, r5⟩⟩ := HAB.out; have hz := HAB.out.lt; obtain ⟨z1, z2, z3, z4⟩ := four hz; clear hdw hbx)
    | (go_at_call 146; refine (l3Writes_val _ _ _ _ _ _ _ _).mono ?_; rw [HW.out]; rintro e w3 ⟨rfl, hbx⟩; have hb23 := hid (show Below w2.heap.size w2 w3 from ((Below.refl _ _).alloc (Nat.le_refl _) _).trans (hbx.mono (by simp))); have HR := hid ((rsp_new w2 id 66).below hbx (by simp)); have HFZ := hid (fun o => (hb23.out.frozen (p := ⟨w.heap.size, o, none⟩) (show w.heap.size < w2.heap.size by have := HAB.out.lt; omega)).trans (HFZ.out o)); have HAB := hid (HAB.out.below hb23.out HAB.out.lt); have HB := hid (HB.out.trans (hb23.out.mono HB.out.size)); have HU := hid ((HU.out.below hb23.out).mono hb23.out.size); have hgo4 : w.heap.size + 4 ≤ w2.heap.size := (by omega); obtain ⟨o0, o1, o2, o3, o4, o5⟩ := HR.out; have hgl := HR.out.lt; obtain ⟨⟨a0, a1⟩, ⟨f0, f1, f2, f3, f4, f5, f6⟩, ⟨g0, g1, g2, g3⟩, ⟨r0, r1, r2, r3, r4, r5⟩⟩ := HAB.out; have hz := HAB.out.lt; obtain ⟨z1, z2, z3, z4⟩ := four hz; have c3 : w3.cell? ⟨mb, moff + k * 4 + 3, none⟩ = some (.bool false) := (by rw [HB.out.cell (p := ⟨mb, moff + k * 4 + 3, none⟩) (by show mb < _; omega)]; rw [← HON.out]; exact HC3.out); have hcl : Owns w3 B 3 1 rowI (.slice (some ⟨gh, oh, none⟩) 6 ch) hs := OwnR.below HH.out.hh (HB.out) (fun j hj => by simp [Value.ownBlock] at hj; omega); have i1 := hcl.cellI a (by rw [HH.out.lh]; exact ha6); rw [← HY.out] at i1; clear hcl hbx))
  go_quiet (fail)
  go_wp2_with (first
    | (go_at_call 150; go_must (have hxl : xs.length ≠ 0 := HNE.out; have HB9 := hid (show Below w.heap.size w ((w3.drewN nq).setCell ⟨w2.heap.size, 1, none⟩ (.int .i64 2)) from ((Below.draws HB.out _).setCell (by show w.heap.size ≤ w2.heap.size; omega) _)); have HU9 := hid (show Ints ((w3.drewN nq).setCell ⟨w2.heap.size, 1, none⟩ (.int .i64 2)) ((w3.drewN nq).setCell ⟨w2.heap.size, 1, none⟩ (.int .i64 2)).heap.size (.slice ua xs.length ucap) xs from (Ints.setc (show Ints (w3.drewN nq) w3.heap.size (.slice ua xs.length ucap) xs from HU.out.below (Below.draws (Below.refl _ _) _)) _ _ _ (fun j hj => by have := HFL.out hxl j hj; omega)).mono (by rw [World.size_setCell]; exact Nat.le_refl _)); have HAB9 := hid (HAB.out.heap (w' := ((w3.drewN nq).setCell ⟨w2.heap.size, 1, none⟩ (.int .i64 2))) (fun j h1 h2 => Below.heap_setCell _ _ _ _ (show j ≠ w2.heap.size by omega))); have HR9 := hid (show RspAt ((w3.drewN nq).setCell ⟨w2.heap.size, 1, none⟩ (.int .i64 2)) w2.heap.size id 2 (.slice none 0 0) from ⟨by simp [go_sem, o0], by simp [go_sem, o1], by simp [go_sem, o2], by simp [go_sem, o3], by simp [go_sem, o4], by simp [go_sem, o5]⟩); have HFZ9 := hid (show ∀ o, ((w3.drewN nq).setCell ⟨w2.heap.size, 1, none⟩ (.int .i64 2)).frozen? ⟨w.heap.size, o, none⟩ = false from fun o => by simp [go_sem, HFZ.out o]); refine (l2Put_any gw ow cw B _ _ _ ws xs data lanes _ (OwnR.below HH.out.ww HB9.out (fun j hj => by simp [Value.ownBlock] at hj; omega)) (HU9.out) (fun j hj => by have := HFR.out j hj; omega) (HDV.out.below (HB9.out.mono hB)) (HLV.out.below (HB9.out.mono hB)) HIN.out hl4 HH.out.lw HDL.out HLL.out HDO.out HLO.out HWS.out).mono ?_; rintro e w4 ⟨rfl, how4, ht4⟩; have hs34 := ht4.size; have HFZ := hid (fun o => (ht4.frozen (p := ⟨w.heap.size, o, none⟩) (show w.heap.size ≠ gw by omega) (show w.heap.size < _ by have := HAB9.out.lt; omega)).trans (HFZ9.out o)); have fz0 := HFZ.out 0; have fz1 := HFZ.out 1; have HAB := hid (HAB9.out.heap (w' := w4) (fun j h1 h2 => ht4.block j (by have := HAB9.out.lt; omega) (by omega))); have HR := hid (HR9.out.heap (w' := w4) (ht4.block w2.heap.size HR9.out.lt (by omega))); have HWW := hid how4; have HT4 := hid (Touch2.trans (Touch2.of_below (a := gw) (b := gh) HB9.out (Nat.le_refl _)) (Touch2.ofL ht4)); have HHH4 := hid (Owns.touch' (show Owns _ B 3 1 rowI (.slice (some ⟨gh, oh, none⟩) 6 ch) hs from OwnR.below HH.out.hh HB9.out (fun j hj => by simp [Value.ownBlock] at hj; omega)) ht4 (by omega)); have HU := hid (HU9.out.touch ht4 (fun j hj => by have := HFR.out j hj; omega)); obtain ⟨o0, o1, o2, o3, o4, o5⟩ := HR.out; have hgl := HR.out.lt; obtain ⟨⟨a0, a1⟩, ⟨f0, f1, f2, f3, f4, f5, f6⟩, ⟨g0, g1, g2, g3⟩, ⟨r0, r1, r2, r3, r4, r5⟩⟩ := HAB.out; have hz := HAB.out.lt; obtain ⟨z1, z2, z3, z4⟩ := four hz; clear how4 ht4))
    | (go_at_call 151; go_must (refine (l4Free_any _ gh oh ch B _ hs xs _ ⟨_, _, _, rfl⟩ (HHH4.out.set' _ _ _ (fun j hj => by simp [Value.ownBlock] at hj; omega)) ((HU.out.setc _ _ _ (fun j hj => by have := HFR.out j hj; omega)).mono (by simp [World.setCell])) (fun j hj => by have := HFR.out j hj; omega) HH.out.lh hl4).mono ?_; rintro e w5 ⟨rfl, how5, ht5⟩; have hs45 := ht5.size; simp only [World.size_setCell] at hs45; have HFZ := hid (fun o => (ht5.frozen (p := ⟨w.heap.size, o, none⟩) (show w.heap.size ≠ gh by omega) (show w.heap.size < _ by simp only [World.size_setCell]; have := HAB.out.lt; omega)).trans (show (w4.setCell ⟨w.heap.size, 0, none⟩ (.slice (some ⟨gw, ow, none⟩) 64 cw)).frozen? ⟨w.heap.size, o, none⟩ = false by simp [go_sem, HFZ.out o])); have fz0 := HFZ.out 0; have fz1 := HFZ.out 1; have HAB := hid ((HAB.out.setA (.slice (some ⟨gw, ow, none⟩) 64 cw)).heap (w' := w5) (fun j h1 h2 => ht5.block j (by simp only [World.size_setCell]; have := HAB.out.lt; omega) (by omega))); have HR := hid ((HR.out.heap (w' := w4.setCell ⟨w.heap.size, 0, none⟩ (.slice (some ⟨gw, ow, none⟩) 64 cw)) (Below.heap_setCell _ _ _ _ (show w2.heap.size ≠ w.heap.size by omega))).heap (w' := w5) (ht5.block w2.heap.size (by simp only [World.size_setCell]; exact HR.out.lt) (by omega))); have HHH := hid how5; have HTT := hid (Touch2.trans (HT4.out.setN (Nat.le_refl _) _) (Touch2.ofR ht5)); have HWW := hid ((HWW.out.set' _ _ _ (fun j hj => by simp [Value.ownBlock] at hj; omega)).touch' ht5 (by omega)); obtain ⟨o0, o1, o2, o3, o4, o5⟩ := HR.out; have hgl := HR.out.lt; obtain ⟨⟨a0, a1⟩, ⟨f0, f1, f2, f3, f4, f5, f6⟩, ⟨g0, g1, g2, g3⟩, ⟨r0, r1, r2, r3, r4, r5⟩⟩ := HAB.out; have hz := HAB.out.lt; obtain ⟨z1, z2, z3, z4⟩ := four hz; clear how5 ht5)))
  go_region
  go_wp2
  have HDD := hid (Owns.zero : Owns w5 w.heap.size 3 1 rowI (.slice none 0 0) ([] : List Int))
  have HDN := hid (show ∀ j, (Value.slice none 0 0).ownBlock = some j → ∀ g, g < w5.heap.size → j ≠ g from fun j hj => by simp [Value.ownBlock] at hj)
  refine bodyPost_ret (results_c2 Try.results102 _ _ ⟨w.heap.size + 1 + 1, 0, none⟩ ⟨w.heap.size + 1 + 1 + 1, 0, none⟩ (.agg #[.slice (some ⟨gw, ow, none⟩) 64 cw, .slice (some ⟨gh, oh, none⟩) 6 ch]) (.agg #[.int .i64 id, .int .i64 2, .slice none 0 0]) rfl rfl ?_ ?_) rfl ?_
  · exact loadVar_atm _ _ _ _ (by simp [go_sem, *]) (by simp [go_sem, *])
  · exact loadVar_rsp _ _ _ _ _ (by simp [go_sem, *]) (by simp [go_sem, *]) (by simp [go_sem, *])
  refine ⟨_, rfl, ?_, ?_, ?_, ?_⟩
  · repeat (first | with_reducible exact HDD.out | with_reducible refine Owns.drewd ?_ | with_reducible refine Owns.draws ?_ _ | with_reducible refine Owns.allocd ?_ _ | with_reducible refine Owns.set' ?_ _ _ _ (fun j hj => HDN.out j hj _ (by omega)))
    try exact HDD.out
  · repeat (first | with_reducible exact HWW.out | with_reducible refine Owns.drewd ?_ | with_reducible refine Owns.draws ?_ _ | with_reducible refine Owns.allocd ?_ _ | with_reducible refine Owns.set' ?_ _ _ _ (fun j hj => by simp [Value.ownBlock] at hj; omega))
    try exact HWW.out
  · repeat (first | with_reducible exact HHH.out | with_reducible refine Owns.putRow1 ?_ _ (by have := HH.out.lh; omega) _ rfl | with_reducible refine Owns.drewd ?_ | with_reducible refine Owns.draws ?_ _ | with_reducible refine Owns.allocd ?_ _ | with_reducible refine Owns.set' ?_ _ _ _ (fun j hj => by simp [Value.ownBlock] at hj; omega))
    try exact HHH.out
  · repeat (first | with_reducible exact HTT.out | with_reducible refine Touch2.drewd ?_ | with_reducible refine Touch2.drews ?_ _ | with_reducible refine Touch2.allocd ?_ _ | with_reducible refine Touch2.setR ?_ _ | with_reducible refine Touch2.setN ?_ (by first | (simp; done) | omega) _)
    try exact HTT.out

end Go.Proofs.Yteamebdehembgaa
