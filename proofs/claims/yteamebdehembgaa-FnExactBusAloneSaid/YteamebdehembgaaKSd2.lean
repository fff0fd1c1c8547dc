/-
  One thing at once of the reference, in a copy: what writes (printed by wip/gen_sdo.py).
-/
import Derived.Test.YteamebdehembgaaKSd1
set_option linter.unusedVariables false
set_option linter.unusedSimpArgs false
namespace Go.Proofs.Yteamebdehembgaa
open Go.RowKit
attribute [local go_sem ↓] Go.wp_at_zero Go.wp_at_succ

theorem Owns.touch' {α : Type} {w w' : World} {r base e sz g off n c : Nat} {f : α → List Value} {xs : List α} (h : Owns w base e sz f (.slice (some ⟨g, off, none⟩) n c) xs) (ht : Touch r w w') (hr : g ≠ r) : Owns w' base e sz f (.slice (some ⟨g, off, none⟩) n c) xs :=
  OwnR.kept h fun k hk => ht.block k (OwnR.lt h k hk).2 (by simp [Value.ownBlock] at hk; omega)
theorem Ints.touch {w w' : World} {r : Nat} {v : Value} {xs : List Int} (h : Ints w w.heap.size v xs) (ht : Touch r w w') (hr : ∀ k, v.ownBlock = some k → k ≠ r) : Ints w' w'.heap.size v xs :=
  (h.heap fun k hk hlt => ht.block k hlt (hr k hk)).mono ht.size
theorem Ints.setc {w : World} {B : Nat} {v : Value} {xs : List Int} (h : Ints w B v xs) (g o : Nat) (u : Value) (hr : ∀ k, v.ownBlock = some k → k ≠ g) : Ints (w.setCell ⟨g, o, none⟩ u) B v xs :=
  h.heap fun k hk _ => Below.heap_setCell _ _ _ _ (hr k hk)
theorem World.size_setCell (w : World) (p : Addr) (u : Value) : (w.setCell p u).heap.size = w.heap.size := by simp [World.setCell]
theorem AdBox.setA {w : World} {g : Nat} {wv hv : Value} {id kind addr many : Int} {wp : Bool} {dv lv : Value} (h : AdBox w g wv hv id kind addr many wp dv lv) (u : Value) : AdBox (w.setCell ⟨g, 0, none⟩ u) g u hv id kind addr many wp dv lv := by
  have hl := h.lt
  have ht := Touch.setCell g 0 w u
  obtain ⟨⟨a0, a1⟩, hq, ⟨g0, g1, g2, g3⟩, hr⟩ := h
  refine ⟨⟨by simp [go_sem, a0], by simp [go_sem, a1]⟩, hq.heap (ht.block _ (by omega) (by omega)), ⟨?_, ?_, ?_, ?_⟩, hr.heap (ht.block _ (by omega) (by omega))⟩
  · rw [ht.cell (p := ⟨g + 2, 0, none⟩) (by show g + 2 ≠ g; omega) (by show g + 2 < _; omega)]; exact g0
  · rw [ht.cell (p := ⟨g + 2, 1, none⟩) (by show g + 2 ≠ g; omega) (by show g + 2 < _; omega)]; exact g1
  · rw [ht.frozen (p := ⟨g + 2, 0, none⟩) (by show g + 2 ≠ g; omega) (by show g + 2 < _; omega)]; exact g2
  · rw [ht.frozen (p := ⟨g + 2, 1, none⟩) (by show g + 2 ≠ g; omega) (by show g + 2 < _; omega)]; exact g3

set_option maxRecDepth 4000 in
set_option maxHeartbeats 8000000 in
theorem sdo_tryno (v : Value) (ms : List MR) (B gw ow cw gh oh ch : Nat) (ws hs : List Int) (who : Int) (id kind addr many : Int) (wp : Bool) (dv lv : Value) (data lanes xs : List Int) (hxs : xs = burst addr many wp) (w : World) (hv : Maps w B v ms) (h : SIn w B gw ow cw gh oh ch ws hs)
    (hdv : Ints w B dv data) (hlv : Ints w B lv lanes) (hwho : inB who 0 2 = true) (hid1 : inB id 0 1 = true) (hz : 0 ≤ wholeOf ms xs) (hk1 : kind = 4) (hon : (ms.getD (wholeOf ms xs).toNat default).only = false) (hhe : hs.getD (who * 2 + id).toNat 0 ≠ addr) :
    Calls Try.prog 102 #[v, .agg #[.slice (some ⟨gw, ow, none⟩) 64 cw, .slice (some ⟨gh, oh, none⟩) 6 ch], .int .i64 who, .agg #[.int .i64 id, .int .i64 kind, .int .i64 addr, .int .i64 many, .bool wp, dv, lv]] w (SDoP B gw ow cw gh oh ch (ws, hs, ⟨id, 1, []⟩) w) := by
  have HDV := hid hdv; have HLV := hid hlv; have HV := hid hv; have HH := hid h
  have hgw := h.ww.ltI; have hgh := h.hh.ltI; have hcw := h.c1; have hch := h.c2; have hgne := h.ne
  have hd1 : ∃ a n c, dv = .slice a n c := by obtain ⟨a, c, h, _⟩ := hdv.1; exact ⟨_, _, _, h⟩
  have hd2 : ∃ a n c, lv = .slice a n c := by obtain ⟨a, c, h, _⟩ := hlv.1; exact ⟨_, _, _, h⟩
  obtain ⟨da, dn, dc, rfl⟩ := hd1
  obtain ⟨la, ln, lc, rfl⟩ := hd2
  simp only [inB, Bool.and_eq_true, decide_eq_true_eq] at hwho hid1
  have HXS := hid hxs
  have hl4 : xs.length ≤ 4 := by rw [hxs]; exact burst_len
  have HIN := hid (show ∀ x ∈ xs, 0 ≤ x ∧ x ≤ 63 by rw [hxs]; exact burst_in)
  clear hxs
  obtain ⟨k, hk⟩ := Int.eq_ofNat_of_zero_le (show 0 ≤ wholeOf ms xs by omega)
  have HZ := hid hk.symm
  have hkm : k < ms.length := by have := wholeOf_lt ms xs; omega
  obtain ⟨mo, mcap, rfl, hm1, hm2, hm3, hm4, hmr⟩ := hv.opened
  obtain ⟨mb, moff, rfl, hmb, hmc⟩ := hmr (by omega)
  obtain ⟨_, _, _, c3⟩ := hmc k hkm
  have HC3 := hid c3
  have HON := hid (show (ms.getD k default).only = false by rw [hk] at hon; exact hon)
  clear hon c3 hmc hmr
  have hw : (kind == 2 || kind == 4) = true := by rw [hk1]; rfl
  have HW := hid hw; clear hw
  obtain ⟨a, ha6, hae, hat⟩ := do_at hwho hid1
  rw [hat] at hhe
  have hd0 : (0 : Int) ≤ who * 2 + id := by omega
  have hd6 : who * 2 + id < 6 := by omega
  obtain ⟨y, hy⟩ : ∃ y, y = hs.getD a 0 := ⟨_, rfl⟩
  rw [← hy] at hhe
  have HY := hid hy; clear hy
  have hq2 : (y != addr) = true := by simpa using hhe
  clear hhe
  have hk1b : (kind == 1) = false := by rw [hk1]; rfl
  have hk3b : (kind == 3) = false := by rw [hk1]; rfl
  have hk4b : (kind == 4) = true := by rw [hk1]; rfl
  clear hk1
  have HAB0 := hid (ad_open w (.slice (some ⟨gw, ow, none⟩) 64 cw) (.slice (some ⟨gh, oh, none⟩) 6 ch) id kind addr many wp (.slice da dn dc) (.slice la ln lc) 40 71 40 66)
  have HFZ0 := hid (show ∀ o, ((((w.alloc (.cells #[.slice (some ⟨gw, ow, none⟩) 64 cw, .slice (some ⟨gh, oh, none⟩) 6 ch] 40)).alloc (.cells #[.int .i64 id, .int .i64 kind, .int .i64 addr, .int .i64 many, .bool wp, .slice da dn dc, .slice la ln lc] 71)).alloc (.cells #[.slice none 0 0, .slice none 0 0] 40)).alloc (.cells #[.int .i64 0, .int .i64 0, .slice none 0 0] 66)).frozen? ⟨w.heap.size, o, none⟩ = false from fun o => by simp [go_sem])
  have hb4 := hid (show Below w.heap.size w ((((w.alloc (.cells #[.slice (some ⟨gw, ow, none⟩) 64 cw, .slice (some ⟨gh, oh, none⟩) 6 ch] 40)).alloc (.cells #[.int .i64 id, .int .i64 kind, .int .i64 addr, .int .i64 many, .bool wp, .slice da dn dc, .slice la ln lc] 71)).alloc (.cells #[.slice none 0 0, .slice none 0 0] 40)).alloc (.cells #[.int .i64 0, .int .i64 0, .slice none 0 0] 66)) from ((((Below.refl _ _).alloc (Nat.le_refl _) _).alloc (by simp) _).alloc (by simp; omega) _).alloc (by simp; omega) _)
  have hB : B ≤ w.heap.size := by omega
  clear hv h hdv hlv
  go_enter Try.func102, Try.ntmps102
  go_wp2_with (first
    | (go_at_call 147; refine (specBurst_any _ _ _ _).mono ?_; rintro e w1 ⟨u, rfl, hu, hb1, hfr⟩; rw [← HXS.out] at hu; have HB := hid (hb4.out.trans (hb1.mono hb4.out.size)); have HAB := hid (HAB0.out.below hb1 (by first | (simp; done) | (simp; omega))); have HFZ := hid (fun o => (hb1.frozen (p := ⟨w.heap.size, o, none⟩) (by first | (simp; done) | (simp; omega))).trans (HFZ0.out o)); obtain ⟨ua, ucap, hue, _, _, _, _, hur⟩ := hu.opened; subst hue; have HFL := hid (show xs.length ≠ 0 → ∀ k, (Value.slice ua xs.length ucap).ownBlock = some k → k < w1.heap.size from fun h0 k hk => by obtain ⟨b, off, rfl, hb, _⟩ := hur h0; simp [Value.ownBlock] at hk; omega); clear hur; have HU := hid hu; have HFR := hid (show ∀ k, (Value.slice ua xs.length ucap).ownBlock = some k → w.heap.size + 4 ≤ k from fun k hk => by have := hfr k hk; simp at this; omega); obtain ⟨⟨a0, a1⟩, ⟨f0, f1, f2, f3, f4, f5, f6⟩, ⟨g0, g1, g2, g3⟩, ⟨r0, r1, r2, r3, r4, r5⟩⟩ := HAB.out; have hz := HAB.out.lt; obtain ⟨z1, z2, z3, z4⟩ := four hz; clear hu hfr hb1)
    | (go_at_call 148; refine (l1Whole_any _ _ ms xs w1.heap.size _ ((HV.out.below (HB.out.mono hB)).mono (Nat.le_trans hB HB.out.size)) HU.out).mono ?_; rw [← HZ.out]; rintro e w2 ⟨rfl, hdw⟩; have hbx := hdw.below w1.heap.size; have hs12 := hbx.size; have HFZ := hid (fun o => (hbx.frozen (p := ⟨w.heap.size, o, none⟩) (show w.heap.size < w1.heap.size by have := HAB.out.lt; omega)).trans (HFZ.out o)); have HAB := hid (HAB.out.below hbx HAB.out.lt); have HB := hid (HB.out.trans (hbx.mono HB.out.size)); have HU := hid ((HU.out.below hbx).mono hbx.size); obtain ⟨⟨a0, a1⟩, ⟨f0, f1, f2, f3, f4, f5, f6⟩, ⟨g0, g1, g2, g3⟩, ⟨r0, r1, r2, r3, r4, r5⟩⟩ := HAB.out; have hz := HAB.out.lt; obtain ⟨z1, z2, z3, z4⟩ := four hz; clear hdw hbx)
    | (go_at_call 146; refine (l3Writes_val _ _ _ _ _ _ _ _).mono ?_; rw [HW.out]; rintro e w3 ⟨rfl, hbx⟩; have hb23 := hid (show Below w2.heap.size w2 w3 from ((Below.refl _ _).alloc (Nat.le_refl _) _).trans (hbx.mono (by simp))); have HR := hid ((rsp_new w2 id 66).below hbx (by simp)); have HFZ := hid (fun o => (hb23.out.frozen (p := ⟨w.heap.size, o, none⟩) (show w.heap.size < w2.heap.size by have := HAB.out.lt; omega)).trans (HFZ.out o)); have HAB := hid (HAB.out.below hb23.out HAB.out.lt); have HB := hid (HB.out.trans (hb23.out.mono HB.out.size)); have HU := hid ((HU.out.below hb23.out).mono hb23.out.size); have hgo4 : w.heap.size + 4 ≤ w2.heap.size := (by omega); obtain ⟨o0, o1, o2, o3, o4, o5⟩ := HR.out; have hgl := HR.out.lt; obtain ⟨⟨a0, a1⟩, ⟨f0, f1, f2, f3, f4, f5, f6⟩, ⟨g0, g1, g2, g3⟩, ⟨r0, r1, r2, r3, r4, r5⟩⟩ := HAB.out; have hz := HAB.out.lt; obtain ⟨z1, z2, z3, z4⟩ := four hz; have c3 : w3.cell? ⟨mb, moff + k * 4 + 3, none⟩ = some (.bool false) := (by rw [HB.out.cell (p := ⟨mb, moff + k * 4 + 3, none⟩) (by show mb < _; omega)]; rw [← HON.out]; exact HC3.out); have hcl : Owns w3 B 3 1 rowI (.slice (some ⟨gh, oh, none⟩) 6 ch) hs := OwnR.below HH.out.hh (HB.out) (fun j hj => by simp [Value.ownBlock] at hj; omega); have i1 := hcl.cellI a (by rw [HH.out.lh]; exact ha6); rw [← HY.out] at i1; clear hcl hbx))
  go_quiet (fail)
  go_wp2
  go_region
  go_wp2
  have HWW := hid (OwnR.below HH.out.ww (HB.out) (fun j hj => by simp [Value.ownBlock] at hj; omega) : Owns w3 B 3 1 rowI (.slice (some ⟨gw, ow, none⟩) 64 cw) ws)
  have HHH := hid (OwnR.below HH.out.hh (HB.out) (fun j hj => by simp [Value.ownBlock] at hj; omega) : Owns w3 B 3 1 rowI (.slice (some ⟨gh, oh, none⟩) 6 ch) hs)
  have HTT := hid (Touch2.of_below HB.out (Nat.le_refl _) : Touch2 gw gh w w3)
  have HDD := hid (Owns.zero : Owns w3 w.heap.size 3 1 rowI (.slice none 0 0) ([] : List Int))
  have HDN := hid (show ∀ j, (Value.slice none 0 0).ownBlock = some j → ∀ g, g < w3.heap.size → j ≠ g from fun j hj => by simp [Value.ownBlock] at hj)
  refine bodyPost_ret (results_c2 Try.results102 _ _ ⟨w.heap.size + 1 + 1, 0, none⟩ ⟨w.heap.size + 1 + 1 + 1, 0, none⟩ (.agg #[.slice (some ⟨gw, ow, none⟩) 64 cw, .slice (some ⟨gh, oh, none⟩) 6 ch]) (.agg #[.int .i64 id, .int .i64 1, .slice none 0 0]) rfl rfl ?_ ?_) rfl ?_
  · exact loadVar_atm _ _ _ _ (by simp [go_sem, *]) (by simp [go_sem, *])
  · exact loadVar_rsp _ _ _ _ _ (by simp [go_sem, *]) (by simp [go_sem, *]) (by simp [go_sem, *])
  refine ⟨_, rfl, ?_, ?_, ?_, ?_⟩
  · repeat (first | with_reducible exact HDD.out | with_reducible refine Owns.drewd ?_ | with_reducible refine Owns.draws ?_ _ | with_reducible refine Owns.allocd ?_ _ | with_reducible refine Owns.set' ?_ _ _ _ (fun j hj => HDN.out j hj _ (by omega)))
    try exact HDD.out
  · repeat (first | with_reducible exact HWW.out | with_reducible refine Owns.drewd ?_ | with_reducible refine Owns.draws ?_ _ | with_reducible refine Owns.allocd ?_ _ | with_reducible refine Owns.set' ?_ _ _ _ (fun j hj => by simp [Value.ownBlock] at hj; omega))
    try exact HWW.out
  · repeat (first | with_reducible exact HHH.out | with_reducible refine Owns.putRow1 ?_ _ (by have := HH.out.lh; omega) _ rfl | with_reducible refine Owns.drewd ?_ | with_reducible refine Owns.draws ?_ _ | with_reducible refine Owns.allocd ?_ _ | with_reducible refine Owns.set' ?_ _ _ _ (fun j hj => by simp [Value.ownBlock] at hj; omega))
    try exact HHH.out
  · repeat (first | with_reducible exact HTT.out | with_reducible refine Touch2.drewd ?_ | with_reducible refine Touch2.drews ?_ _ | with_reducible refine Touch2.allocd ?_ _ | with_reducible refine Touch2.setR ?_ _ | with_reducible refine Touch2.setN ?_ (by first | (simp; done) | omega) _)
    try exact HTT.out

set_option maxRecDepth 4000 in
set_option maxHeartbeats 8000000 in
theorem sdo_write (v : Value) (ms : List MR) (B gw ow cw gh oh ch : Nat) (ws hs : List Int) (who : Int) (id kind addr many : Int) (wp : Bool) (dv lv : Value) (data lanes xs : List Int) (hxs : xs = burst addr many wp) (w : World) (hv : Maps w B v ms) (h : SIn w B gw ow cw gh oh ch ws hs)
    (hdv : Ints w B dv data) (hlv : Ints w B lv lanes) (hwho : inB who 0 2 = true) (hid1 : inB id 0 1 = true) (hz : 0 ≤ wholeOf ms xs) (hk1 : kind = 2) (hon : (ms.getD (wholeOf ms xs).toNat default).only = false) (hws : ws.all wordOk = true) (hdat : data.length = xs.length ∧ lanes.length = xs.length ∧ data.all wordOk = true ∧ lanes.all (fun l => inB l 0 3) = true) :
    Calls Try.prog 102 #[v, .agg #[.slice (some ⟨gw, ow, none⟩) 64 cw, .slice (some ⟨gh, oh, none⟩) 6 ch], .int .i64 who, .agg #[.int .i64 id, .int .i64 kind, .int .i64 addr, .int .i64 many, .bool wp, dv, lv]] w (SDoP B gw ow cw gh oh ch (putAll ws xs data lanes, freeAll hs xs, ⟨id, 1, []⟩) w) := by
  have HDV := hid hdv; have HLV := hid hlv; have HV := hid hv; have HH := hid h
  have hgw := h.ww.ltI; have hgh := h.hh.ltI; have hcw := h.c1; have hch := h.c2; have hgne := h.ne
  have hd1 : ∃ a n c, dv = .slice a n c := by obtain ⟨a, c, h, _⟩ := hdv.1; exact ⟨_, _, _, h⟩
  have hd2 : ∃ a n c, lv = .slice a n c := by obtain ⟨a, c, h, _⟩ := hlv.1; exact ⟨_, _, _, h⟩
  obtain ⟨da, dn, dc, rfl⟩ := hd1
  obtain ⟨la, ln, lc, rfl⟩ := hd2
  simp only [inB, Bool.and_eq_true, decide_eq_true_eq] at hwho hid1
  have HXS := hid hxs
  have hl4 : xs.length ≤ 4 := by rw [hxs]; exact burst_len
  have HIN := hid (show ∀ x ∈ xs, 0 ≤ x ∧ x ≤ 63 by rw [hxs]; exact burst_in)
  clear hxs
  obtain ⟨k, hk⟩ := Int.eq_ofNat_of_zero_le (show 0 ≤ wholeOf ms xs by omega)
  have HZ := hid hk.symm
  have hkm : k < ms.length := by have := wholeOf_lt ms xs; omega
  obtain ⟨mo, mcap, rfl, hm1, hm2, hm3, hm4, hmr⟩ := hv.opened
  obtain ⟨mb, moff, rfl, hmb, hmc⟩ := hmr (by omega)
  obtain ⟨_, _, _, c3⟩ := hmc k hkm
  have HC3 := hid c3
  have HON := hid (show (ms.getD k default).only = false by rw [hk] at hon; exact hon)
  clear hon c3 hmc hmr
  obtain ⟨d1, d2, d3, d4⟩ := hdat
  have HDL := hid d1; have HLL := hid d2; have HDO := hid d3; have HLO := hid d4; have HWS := hid hws
  clear d1 d2 d3 d4 hws
  have hw : (kind == 2 || kind == 4) = true := by rw [hk1]; rfl
  have HW := hid hw; clear hw
  have hk1b : (kind == 1) = false := by rw [hk1]; rfl
  have hk3b : (kind == 3) = false := by rw [hk1]; rfl
  have hk4b : (kind == 4) = false := by rw [hk1]; rfl
  clear hk1
  have HAB0 := hid (ad_open w (.slice (some ⟨gw, ow, none⟩) 64 cw) (.slice (some ⟨gh, oh, none⟩) 6 ch) id kind addr many wp (.slice da dn dc) (.slice la ln lc) 40 71 40 66)
  have HFZ0 := hid (show ∀ o, ((((w.alloc (.cells #[.slice (some ⟨gw, ow, none⟩) 64 cw, .slice (some ⟨gh, oh, none⟩) 6 ch] 40)).alloc (.cells #[.int .i64 id, .int .i64 kind, .int .i64 addr, .int .i64 many, .bool wp, .slice da dn dc, .slice la ln lc] 71)).alloc (.cells #[.slice none 0 0, .slice none 0 0] 40)).alloc (.cells #[.int .i64 0, .int .i64 0, .slice none 0 0] 66)).frozen? ⟨w.heap.size, o, none⟩ = false from fun o => by simp [go_sem])
  have hb4 := hid (show Below w.heap.size w ((((w.alloc (.cells #[.slice (some ⟨gw, ow, none⟩) 64 cw, .slice (some ⟨gh, oh, none⟩) 6 ch] 40)).alloc (.cells #[.int .i64 id, .int .i64 kind, .int .i64 addr, .int .i64 many, .bool wp, .slice da dn dc, .slice la ln lc] 71)).alloc (.cells #[.slice none 0 0, .slice none 0 0] 40)).alloc (.cells #[.int .i64 0, .int .i64 0, .slice none 0 0] 66)) from ((((Below.refl _ _).alloc (Nat.le_refl _) _).alloc (by simp) _).alloc (by simp; omega) _).alloc (by simp; omega) _)
  have hB : B ≤ w.heap.size := by omega
  clear hv h hdv hlv
  go_enter Try.func102, Try.ntmps102
  go_wp2_with (first
    | (go_at_call 147; refine (specBurst_any _ _ _ _).mono ?_; rintro e w1 ⟨u, rfl, hu, hb1, hfr⟩; rw [← HXS.out] at hu; have HB := hid (hb4.out.trans (hb1.mono hb4.out.size)); have HAB := hid (HAB0.out.below hb1 (by first | (simp; done) | (simp; omega))); have HFZ := hid (fun o => (hb1.frozen (p := ⟨w.heap.size, o, none⟩) (by first | (simp; done) | (simp; omega))).trans (HFZ0.out o)); obtain ⟨ua, ucap, hue, _, _, _, _, hur⟩ := hu.opened; subst hue; have HFL := hid (show xs.length ≠ 0 → ∀ k, (Value.slice ua xs.length ucap).ownBlock = some k → k < w1.heap.size from fun h0 k hk => by obtain ⟨b, off, rfl, hb, _⟩ := hur h0; simp [Value.ownBlock] at hk; omega); clear hur; have HU := hid hu; have HFR := hid (show ∀ k, (Value.slice ua xs.length ucap).ownBlock = some k → w.heap.size + 4 ≤ k from fun k hk => by have := hfr k hk; simp at this; omega); obtain ⟨⟨a0, a1⟩, ⟨f0, f1, f2, f3, f4, f5, f6⟩, ⟨g0, g1, g2, g3⟩, ⟨r0, r1, r2, r3, r4, r5⟩⟩ := HAB.out; have hz := HAB.out.lt; obtain ⟨z1, z2, z3, z4⟩ := four hz; clear hu hfr hb1)
    | (go_at_call 148; refine (l1Whole_any _ _ ms xs w1.heap.size _ ((HV.out.below (HB.out.mono hB)).mono (Nat.le_trans hB HB.out.size)) HU.out).mono ?_; rw [← HZ.out]; rintro e w2 ⟨rfl, hdw⟩; have hbx := hdw.below w1.heap.size; have hs12 := hbx.size; have HFZ := hid (fun o => (hbx.frozen (p := ⟨w.heap.size, o, none⟩) (show w.heap.size < w1.heap.size by have := HAB.out.lt; omega)).trans (HFZ.out o)); have HAB := hid (HAB.out.below hbx HAB.out.lt); have HB := hid (HB.out.trans (hbx.mono HB.out.size)); have HU := hid ((HU.out.below hbx).mono hbx.size); obtain ⟨⟨a0, a1⟩, ⟨f0, f1, f2, f3, f4, f5, f6⟩, ⟨g0, g1, g2, g3⟩, ⟨r0, r1, r2, r3, r4, r5⟩⟩ := HAB.out; have hz := HAB.out.lt; obtain ⟨z1, z2, z3, z4⟩ := four hz; clear hdw hbx)
    | (go_at_call 146; refine (l3Writes_val _ _ _ _ _ _ _ _).mono ?_; rw [HW.out]; rintro e w3 ⟨rfl, hbx⟩; have hb23 := hid (show Below w2.heap.size w2 w3 from ((Below.refl _ _).alloc (Nat.le_refl _) _).trans (hbx.mono (by simp))); have HR := hid ((rsp_new w2 id 66).below hbx (by simp)); have HFZ := hid (fun o => (hb23.out.frozen (p := ⟨w.heap.size, o, none⟩) (show w.heap.size < w2.heap.size by have := HAB.out.lt; omega)).trans (HFZ.out o)); have HAB := hid (HAB.out.below hb23.out HAB.out.lt); have HB := hid (HB.out.trans (hb23.out.mono HB.out.size)); have HU := hid ((HU.out.below hb23.out).mono hb23.out.size); have hgo4 : w.heap.size + 4 ≤ w2.heap.size := (by omega); obtain ⟨o0, o1, o2, o3, o4, o5⟩ := HR.out; have hgl := HR.out.lt; obtain ⟨⟨a0, a1⟩, ⟨f0, f1, f2, f3, f4, f5, f6⟩, ⟨g0, g1, g2, g3⟩, ⟨r0, r1, r2, r3, r4, r5⟩⟩ := HAB.out; have hz := HAB.out.lt; obtain ⟨z1, z2, z3, z4⟩ := four hz; have c3 : w3.cell? ⟨mb, moff + k * 4 + 3, none⟩ = some (.bool false) := (by rw [HB.out.cell (p := ⟨mb, moff + k * 4 + 3, none⟩) (by show mb < _; omega)]; rw [← HON.out]; exact HC3.out); clear hbx)
    | (go_at_call 150; go_must (have HFZ9 := HFZ; have HB9 := HB; have HU9 := HU; have HAB9 := HAB; have HR9 := HR; refine (l2Put_any gw ow cw B _ _ _ ws xs data lanes _ (OwnR.below HH.out.ww HB9.out (fun j hj => by simp [Value.ownBlock] at hj; omega)) (HU9.out) (fun j hj => by have := HFR.out j hj; omega) (HDV.out.below (HB9.out.mono hB)) (HLV.out.below (HB9.out.mono hB)) HIN.out hl4 HH.out.lw HDL.out HLL.out HDO.out HLO.out HWS.out).mono ?_; rintro e w4 ⟨rfl, how4, ht4⟩; have hs34 := ht4.size; have HFZ := hid (fun o => (ht4.frozen (p := ⟨w.heap.size, o, none⟩) (show w.heap.size ≠ gw by omega) (show w.heap.size < _ by have := HAB9.out.lt; omega)).trans (HFZ9.out o)); have fz0 := HFZ.out 0; have fz1 := HFZ.out 1; have HAB := hid (HAB9.out.heap (w' := w4) (fun j h1 h2 => ht4.block j (by have := HAB9.out.lt; omega) (by omega))); have HR := hid (HR9.out.heap (w' := w4) (ht4.block w2.heap.size HR9.out.lt (by omega))); have HWW := hid how4; have HT4 := hid (Touch2.trans (Touch2.of_below (a := gw) (b := gh) HB9.out (Nat.le_refl _)) (Touch2.ofL ht4)); have HHH4 := hid (Owns.touch' (show Owns _ B 3 1 rowI (.slice (some ⟨gh, oh, none⟩) 6 ch) hs from OwnR.below HH.out.hh HB9.out (fun j hj => by simp [Value.ownBlock] at hj; omega)) ht4 (by omega)); have HU := hid (HU9.out.touch ht4 (fun j hj => by have := HFR.out j hj; omega)); obtain ⟨o0, o1, o2, o3, o4, o5⟩ := HR.out; have hgl := HR.out.lt; obtain ⟨⟨a0, a1⟩, ⟨f0, f1, f2, f3, f4, f5, f6⟩, ⟨g0, g1, g2, g3⟩, ⟨r0, r1, r2, r3, r4, r5⟩⟩ := HAB.out; have hz := HAB.out.lt; obtain ⟨z1, z2, z3, z4⟩ := four hz; clear how4 ht4))
    | (go_at_call 151; go_must (refine (l4Free_any _ gh oh ch B _ hs xs _ ⟨_, _, _, rfl⟩ (HHH4.out.set' _ _ _ (fun j hj => by simp [Value.ownBlock] at hj; omega)) ((HU.out.setc _ _ _ (fun j hj => by have := HFR.out j hj; omega)).mono (by simp [World.setCell])) (fun j hj => by have := HFR.out j hj; omega) HH.out.lh hl4).mono ?_; rintro e w5 ⟨rfl, how5, ht5⟩; have hs45 := ht5.size; simp only [World.size_setCell] at hs45; have HFZ := hid (fun o => (ht5.frozen (p := ⟨w.heap.size, o, none⟩) (show w.heap.size ≠ gh by omega) (show w.heap.size < _ by simp only [World.size_setCell]; have := HAB.out.lt; omega)).trans (show (w4.setCell ⟨w.heap.size, 0, none⟩ (.slice (some ⟨gw, ow, none⟩) 64 cw)).frozen? ⟨w.heap.size, o, none⟩ = false by simp [go_sem, HFZ.out o])); have fz0 := HFZ.out 0; have fz1 := HFZ.out 1; have HAB := hid ((HAB.out.setA (.slice (some ⟨gw, ow, none⟩) 64 cw)).heap (w' := w5) (fun j h1 h2 => ht5.block j (by simp only [World.size_setCell]; have := HAB.out.lt; omega) (by omega))); have HR := hid ((HR.out.heap (w' := w4.setCell ⟨w.heap.size, 0, none⟩ (.slice (some ⟨gw, ow, none⟩) 64 cw)) (Below.heap_setCell _ _ _ _ (show w2.heap.size ≠ w.heap.size by omega))).heap (w' := w5) (ht5.block w2.heap.size (by simp only [World.size_setCell]; exact HR.out.lt) (by omega))); have HHH := hid how5; have HTT := hid (Touch2.trans (HT4.out.setN (Nat.le_refl _) _) (Touch2.ofR ht5)); have HWW := hid ((HWW.out.set' _ _ _ (fun j hj => by simp [Value.ownBlock] at hj; omega)).touch' ht5 (by omega)); obtain ⟨o0, o1, o2, o3, o4, o5⟩ := HR.out; have hgl := HR.out.lt; obtain ⟨⟨a0, a1⟩, ⟨f0, f1, f2, f3, f4, f5, f6⟩, ⟨g0, g1, g2, g3⟩, ⟨r0, r1, r2, r3, r4, r5⟩⟩ := HAB.out; have hz := HAB.out.lt; obtain ⟨z1, z2, z3, z4⟩ := four hz; clear how5 ht5)))
  go_region
  go_wp2
  have HDD := hid (Owns.zero : Owns w5 w.heap.size 3 1 rowI (.slice none 0 0) ([] : List Int))
  have HDN := hid (show ∀ j, (Value.slice none 0 0).ownBlock = some j → ∀ g, g < w5.heap.size → j ≠ g from fun j hj => by simp [Value.ownBlock] at hj)
  refine bodyPost_ret (results_c2 Try.results102 _ _ ⟨w.heap.size + 1 + 1, 0, none⟩ ⟨w.heap.size + 1 + 1 + 1, 0, none⟩ (.agg #[.slice (some ⟨gw, ow, none⟩) 64 cw, .slice (some ⟨gh, oh, none⟩) 6 ch]) (.agg #[.int .i64 id, .int .i64 1, .slice none 0 0]) rfl rfl ?_ ?_) rfl ?_
  · exact loadVar_atm _ _ _ _ (by simp [go_sem, *]) (by simp [go_sem, *])
  · exact loadVar_rsp _ _ _ _ _ (by simp [go_sem, *]) (by simp [go_sem, *]) (by simp [go_sem, *])
  refine ⟨_, rfl, ?_, ?_, ?_, ?_⟩
  · repeat (first | with_reducible exact HDD.out | with_reducible refine Owns.drewd ?_ | with_reducible refine Owns.draws ?_ _ | with_reducible refine Owns.allocd ?_ _ | with_reducible refine Owns.set' ?_ _ _ _ (fun j hj => HDN.out j hj _ (by omega)))
    try exact HDD.out
  · repeat (first | with_reducible exact HWW.out | with_reducible refine Owns.drewd ?_ | with_reducible refine Owns.draws ?_ _ | with_reducible refine Owns.allocd ?_ _ | with_reducible refine Owns.set' ?_ _ _ _ (fun j hj => by simp [Value.ownBlock] at hj; omega))
    try exact HWW.out
  · repeat (first | with_reducible exact HHH.out | with_reducible refine Owns.putRow1 ?_ _ (by have := HH.out.lh; omega) _ rfl | with_reducible refine Owns.drewd ?_ | with_reducible refine Owns.draws ?_ _ | with_reducible refine Owns.allocd ?_ _ | with_reducible refine Owns.set' ?_ _ _ _ (fun j hj => by simp [Value.ownBlock] at hj; omega))
    try exact HHH.out
  · repeat (first | with_reducible exact HTT.out | with_reducible refine Touch2.drewd ?_ | with_reducible refine Touch2.drews ?_ _ | with_reducible refine Touch2.allocd ?_ _ | with_reducible refine Touch2.setR ?_ _ | with_reducible refine Touch2.setN ?_ (by first | (simp; done) | omega) _)
    try exact HTT.out

end Go.Proofs.Yteamebdehembgaa
