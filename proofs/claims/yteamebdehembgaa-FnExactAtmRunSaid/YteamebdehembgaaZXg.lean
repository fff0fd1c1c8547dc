/-
  The law FnExactAtmRun returns true on all ranges, stores, numbers and lists of what is asked, in whatever memory: the program's AtmRun and the reference's tell and leave the same, and share no memory.
-/
import Derived.Test.YteamebdehembgaaKXe
import Derived.Test.YteamebdehembgaaJXs
import Derived.Test.YteamebdehembgaaJXn
import Derived.Test.YteamebdehembgaaJXc
import Derived.Test.YteamebdehembgaaJSa3
import Derived.Test.YteamebdehembgaaKXr
import Derived.Deep.RegionHeld3
import Derived.Deep.DrawnRows
set_option linter.unusedVariables false
set_option linter.unusedSimpArgs false
namespace Go.Proofs.Yteamebdehembgaa
open Go.RowKit
attribute [local go_sem ↓] Go.wp_at_zero Go.wp_at_succ

theorem Reqs.props {w : World} {B : Nat} {v : Value} {rs : List Rq} (h : Reqs w B v rs) : ∀ j, j < rs.length → (∀ y ∈ (rs.getD j default).data, I64 y) ∧ (∀ y ∈ (rs.getD j default).lanes, I64 y) ∧ I64 (rs.getD j default).id ∧ I64 (rs.getD j default).kind ∧ I64 (rs.getD j default).addr ∧ I64 (rs.getD j default).many := by
  obtain ⟨vs, h1, h2, h3⟩ := h
  intro j hj
  obtain ⟨dv, lv, _, k1, k2, k3⟩ := h3 j hj default
  exact ⟨k1.2, k2.2, k3⟩

set_option maxRecDepth 8000 in
set_option maxHeartbeats 32000000 in
theorem exactAtmRun_any (v sv u : Value) (ms : List MR) (B : Nat) (ws hs : List Int) (who : Int) (rs : List Rq) (w : World) (hv : Maps w B v ms) (hs1 : AtmV w B sv ws hs) (hu : Reqs w B u rs) (hB : B ≤ w.heap.size) :
    Calls Try.prog 7 #[v, sv, .int .i64 who, u] w fun e w' => e = .returned (.bool true) ∧ Below w.heap.size w w' := by
  have HM := hid hv; have HA := hid hs1; have HQ := hid hu
  obtain ⟨wv, hv2, rfl, s1, s2⟩ := hs1
  have HA2 := hid (And.intro s1.2 s2.2)
  have HQP := hid hu.props
  clear hv s1 s2 hu
  obtain ⟨x, hx⟩ : ∃ x, x = atmRun ms ws hs who rs := ⟨_, rfl⟩
  have HX := hid hx; have HSM := hid (show SmallR x by rw [hx]; exact atmRun_small ..)
  clear hx
  go_enter Try.func7, Try.ntmps7
  go_wp2_with fail
  refine at_world (EX w [(w.heap.size, [wv, hv2])] []) ((EX.start w).new #[wv, hv2] _ (by simp)) ?_
  rintro W1 hE
  have HE := hid hE; clear hE
  refine (szRanges_any v ms 1048576 B W1 (HM.out.below (HE.out.w.mono hB)) (by omega) (by omega)).mono ?_
  rintro e w1 ⟨r1, rfl, hr1, hww⟩
  subst hww
  have HR1 := hid hr1; clear hr1
  by_cases hn1 : r1 < 0
  · go_wp2_with fail
    go_ret
    exact ⟨rfl, HE.out.w⟩
  have HL0 := hid (show 0 ≤ r1 ∧ r1 ≤ 1048576 ∧ ms.length ≤ 1048576 by have := HR1.out; omega)
  obtain ⟨⟨a0, a1⟩, _, _⟩ := (HE.out.box (g := w.heap.size) (by repeat first | with_reducible exact List.mem_cons_self | with_reducible apply List.mem_cons_of_mem)).two
  go_wp2_with fail
  refine (szAtm_any _ ws hs r1 B W1 (HA.out.below (HE.out.w.mono hB)) (Nat.le_trans hB HE.out.w.size) HL0.out.1 HL0.out.2.1).mono ?_
  rintro e w2 ⟨r2, rfl, hr2, hb⟩
  have HE := hid (HE.out.below hb); have HR2 := hid hr2; clear hr2 hb a0 a1 hn1
  by_cases hn2 : r2 < 0
  · go_wp2_with fail
    go_ret
    exact ⟨rfl, HE.out.w⟩
  have HL1 := hid (show 0 ≤ r2 ∧ r2 ≤ 1048576 ∧ ws.length ≤ 1048576 ∧ hs.length ≤ 1048576 by have := HR2.out; have := HL0.out; rcases HR2.out with h | h; omega; omega)
  go_wp2_with fail
  refine (szReqs_any _ rs r2 B w2 (HQ.out.below (HE.out.w.mono hB)) (Nat.le_trans hB HE.out.w.size) HL1.out.1 HL1.out.2.1).mono ?_
  rintro e w4 ⟨r3, rfl, hr3, hb⟩
  have HE := hid (HE.out.below hb); have HR3 := hid hr3; clear hr3 hb hn2
  by_cases hn3 : r3 < 0
  · go_wp2_with fail
    go_ret
    exact ⟨rfl, HE.out.w⟩
  have HL2 := hid (show rs.length ≤ 1048576 ∧ ∀ j, j < rs.length → Rq20 (rs.getD j default) by rcases HR3.out with h | h; omega; exact h.2.2)
  have HZ4 := hid (HE.out.box (g := w.heap.size) (by repeat first | with_reducible exact List.mem_cons_self | with_reducible apply List.mem_cons_of_mem)).lt
  have HQ2 := hid (show ∀ q ∈ rs, Rq20 q ∧ (∀ y ∈ q.data, I64 y) ∧ (∀ y ∈ q.lanes, I64 y) ∧ I64 q.id ∧ I64 q.kind ∧ I64 q.addr ∧ I64 q.many from fun q hq => by
    obtain ⟨j, hj, rfl⟩ := List.mem_iff_getElem.1 hq
    have e : rs[j] = rs.getD j default := by simp [List.getD, hj]
    rw [e]
    exact ⟨HL2.out.2 j hj, HQP.out j hj⟩)
  go_upto_region 11 with fail
  have HMC := hid (show ∀ W : World, Below w.heap.size w W → Maps W W.heap.size v ms from fun W hW => (HM.out.below (hW.mono hB)).mono (Nat.le_trans hB hW.size))
  have HAC := hid (show ∀ W : World, Below w.heap.size w W → AtmV W W.heap.size (.agg #[wv, hv2]) ws hs from fun W hW => (HA.out.below (hW.mono hB)).mono (Nat.le_trans hB hW.size))
  have HUC := hid (show ∀ W : World, Below w.heap.size w W → Reqs W W.heap.size u rs from fun W hW => (HQ.out.below (hW.mono hB)).mono (Nat.le_trans hB hW.size))
  go_cut [10, 11] from 37 to 47 (fun p q wd => XsP p q x w4 wd)
  case first =>
    rename_i J K' hJ hK
    exact xc_region _ _ _ _ _ _ _ _ _ _ _ _ _ _ _ _ _ _ _ _ _ _ _ _ _ _ _ _ _ _ _ _ _ _ _ _ _ _ _ _ _ _ _ _ _ _ _ _ _ _ _ _ _ _ _ _ _ _ _ _ _ _ _ _ _ _ _ _ _ _ _ _ _ _ _ _ _ _ _ _ _ _ _ _ _ _ _ _ _ _ _ _ _ _ _ _ _ _ _ _ _ _ _ _ _ _ _ _ _ _ _ _ _ _ _ _ _ _ _ _ _ _ _ _ _ _ _ _ _ _ _ _ _ _ _ _ _ _ _ _ _ _ _ _ _ _ _ _ _ _ _ _ _ _ _ _ _ _ _ v u who w.heap.size wv hv2 x w4 ms ws hs rs HX (HE.out.box (by repeat first | with_reducible exact List.mem_cons_self | with_reducible apply List.mem_cons_of_mem)) (HMC.out w4 HE.out.w) (HAC.out w4 HE.out.w) HA2.out (HUC.out w4 HE.out.w) HQ2.out HL2.out.2 HL0.out.2.2 HL1.out.2.2.1 HL1.out.2.2.2 HL2.out.1 (fun u10 u11 u37 u38 u39 u40 u41 u42 u43 u44 u45 u46 u47 wd h => hK _ _ (Met.intro (hJ _ _ ⟨u10, u11, u37, u38, u39, u40, u41, u42, u43, u44, u45, u46, u47, h, rfl⟩)))
  case rest =>
    obtain ⟨w5, hw5⟩ : ∃ W, W = wc := ⟨_, rfl⟩
    subst hw5
    obtain ⟨ga, qa, ca, qb, cb, qd, cdd, rfl, rfl, hga, hA0, i1, i2, i3, hb5⟩ := hcut
    have HE := hid ((HE.out.below hb5).addB hA0.bx)
    have HT := hid (EX.start w5)
    have HI1 := hid i1; have HI2 := hid i2; have HI3 := hid i3
    have HS := hid (And.intro hga (And.intro HE.out.w.size hb5.size))
    have HG := hid hA0.lt
    clear hga hA0 i1 i2 i3 hb5
    go_wp2_with fail
    refine (toRanges_any v ms _ w5 (HMC.out w5 HE.out.w) (Nat.le_refl _) HL0.out.2.2).mono ?_
    rintro e w6 ⟨g0, rfl, o0, hb⟩
    have HE := hid (HE.out.below hb); have HT := hid (HT.out.below hb)
    have HG0 := hid (OwnR.lt o0 g0 rfl)
    have HO0 := hid o0
    have HS6 := hid hb.size
    clear o0 hb
    obtain ⟨⟨a0, a1⟩, _, _⟩ := (HE.out.box (g := w.heap.size) (by repeat first | with_reducible exact List.mem_cons_self | with_reducible apply List.mem_cons_of_mem)).two
    go_wp2_with fail
    refine (toAtm_any _ ws hs _ w6 (HAC.out w6 HE.out.w) (Nat.le_refl _) HL1.out.2.2.1 HL1.out.2.2.2).mono ?_
    rintro e w7 ⟨u1, z1, rfl, p1, p2, pap, hb⟩
    obtain ⟨qu, cu, rfl, _, _⟩ := p1.shape
    obtain ⟨qz, cz, rfl, _, _⟩ := p2.shape
    have HP1 := hid (Ow.of p1); have HP2 := hid (Ow.of p2); have HPA := hid pap
    have HE := hid (HE.out.below hb); have HO0 := hid (HO0.out.below hb); have HS7 := hid hb.size; have HT := hid (HT.out.below hb)
    have hl7 := (HE.out.box (g := w.heap.size) (by repeat first | with_reducible exact List.mem_cons_self | with_reducible apply List.mem_cons_of_mem)).lt
    clear p1 p2 pap hb a0 a1
    go_wp2_with fail
    refine at_world (fun W => EX w ((w7.heap.size, [.slice qu ws.length cu, .slice qz hs.length cz]) :: _) ((w6.heap.size, w7.heap.size, .slice qz hs.length cz, hs) :: (w6.heap.size, w7.heap.size, .slice qu ws.length cu, ws) :: _) W ∧ EX w5 [] [] W ∧ Owns W w5.heap.size 101 4 rowM (.slice (some ⟨g0, 0, none⟩) ms.length ms.length) ms ∧ W.heap.size = w7.heap.size + 1) ⟨((HE.out.addO HP1.out).addO HP2.out).new #[.slice qu ws.length cu, .slice qz hs.length cz] _ (by simp), HT.out.below (bx1 _ _), HO0.out.below (bx1 _ _), by simp⟩ ?_
    clear hl7 HE HO0 HP1 HP2 HT
    rintro W7 ⟨hE, hT, ho0, hS8⟩
    have HE := hid hE; have HT := hid hT; have HO0 := hid ho0; have HS8 := hid hS8
    clear hE hT ho0 hS8
    refine (toReqs_any _ rs _ W7 (HUC.out W7 HE.out.w) (Nat.le_refl _) HL2.out.1 HL2.out.2).mono ?_
    rintro e w8 ⟨g3, vs3, rfl, hq3, hb⟩
    have HQ3 := hid hq3
    have HE := hid (HE.out.below hb); have HO0 := hid (HO0.out.below hb); have HS9 := hid hb.size; have HT := hid (HT.out.below hb)
    have hl8 := (HE.out.box (g := w7.heap.size) (by repeat first | with_reducible exact List.mem_cons_self | with_reducible apply List.mem_cons_of_mem)).lt
    obtain ⟨⟨a0, a1⟩, _, _⟩ := (HE.out.box (g := w7.heap.size) (by repeat first | with_reducible exact List.mem_cons_self | with_reducible apply List.mem_cons_of_mem)).two
    have HQB := hid hq3.bound
    clear hq3 hb
    go_wp2_with fail
    have HIM := hid (show Maps w8 w8.heap.size (.slice (some ⟨g0, 0, none⟩) ms.length ms.length) ms from HO0.out.maps HL0.out.2.2 HM.out.2)
    have HIA := hid (show AtmV w8 w8.heap.size (.agg #[.slice qu ws.length cu, .slice qz hs.length cz]) ws hs from ⟨_, _, rfl, (HE.out.own (lo := w6.heap.size) (hi := w7.heap.size) (xs := ws) (by repeat first | with_reducible exact List.mem_cons_self | with_reducible apply List.mem_cons_of_mem)).ints (by have := HL1.out; omega) HA2.out.1, (HE.out.own (lo := w6.heap.size) (hi := w7.heap.size) (xs := hs) (by repeat first | with_reducible exact List.mem_cons_self | with_reducible apply List.mem_cons_of_mem)).ints (by have := HL1.out; omega) HA2.out.2⟩)
    refine (implAtmRun_any _ _ _ ms _ ws hs who rs w8 HIM.out HIA.out (HQ3.out.reqs HL2.out.1 HQ2.out) (Nat.le_refl _)).mono ?_
    rw [← HX.out]
    rintro e w9 ⟨ya, yb, yd, ds, rfl, o1, o2, o3, o4, o5, hap, hb⟩
    obtain ⟨ra, da, rfl, _, _⟩ := o1.shape
    obtain ⟨rb, db, rfl, _, _⟩ := o2.shape
    have HR := hid (RsO.of o4 o3 o5)
    obtain ⟨rd, dd, hyd, _, _⟩ := o3.shape
    rw [mkRows_len _ _ o4] at hyd
    subst hyd
    have HE := hid (((HE.out.below hb).addO (Ow.of o1)).addO (Ow.of o2))
    have HO0 := hid (HO0.out.below hb); have HS11 := hid hb.size; have HQ3 := hid (HQ3.out.below hb); have HT := hid (HT.out.below hb)
    have HAP := hid hap
    have hlg9 : ga < w9.heap.size := (HE.out.box (g := ga) (by repeat first | with_reducible exact List.mem_cons_self | with_reducible apply List.mem_cons_of_mem)).lt
    obtain ⟨⟨b0, b1⟩, _, _⟩ := (HE.out.box (g := ga) (by repeat first | with_reducible exact List.mem_cons_self | with_reducible apply List.mem_cons_of_mem)).two
    clear o1 o2 o3 o4 o5 hap hb HIM HIA a0 a1 hl8
    go_wp2_with fail
    refine at_world (fun W => EX w ((w9.heap.size, [.slice ra x.1.length da, .slice rb x.2.1.length db]) :: _) _ W ∧ EX w5 [] [] W ∧ Owns W w5.heap.size 101 4 rowM (.slice (some ⟨g0, 0, none⟩) ms.length ms.length) ms ∧ RsO W w8.heap.size w9.heap.size (.slice rd x.2.2.length dd) x.2.2 ds ∧ QsO W W7.heap.size g3 rs.length rs vs3 ∧ W.heap.size = w9.heap.size + 1) ⟨HE.out.new #[.slice ra x.1.length da, .slice rb x.2.1.length db] _ (by simp), HT.out.below (bx1 _ _), HO0.out.below (bx1 _ _), HR.out.below (bx1 _ _), HQ3.out.below (bx1 _ _), by simp⟩ ?_
    clear b0 b1 hlg9 HE HO0 HT HR HQ3
    rintro W9 ⟨hE, hT, ho0, hR, hQ, hS8⟩
    have HE := hid hE; have HT := hid hT; have HO0 := hid ho0; have HR := hid hR; have HQ3 := hid hQ; have HS12 := hid hS8
    clear hE hT ho0 hR hQ hS8
    have HSW := hid (show x.1.length ≤ 140737488351232 ∧ x.2.1.length ≤ 140737488351232 ∧ x.2.2.length ≤ 140737488351232 by have := HSM.out.lw; have := HSM.out.lh; have := HSM.out.ld; omega)
    have RW := hid (show ∀ (W : World), EX w5 [] [] W → AtmV W W.heap.size (.agg #[.slice qa x.1.length ca, .slice qb x.2.1.length cb]) x.1 x.2.1 from fun W h => ⟨_, _, rfl, (HI1.out.below h.w).mono h.w.size, (HI2.out.below h.w).mono h.w.size⟩)
    have RD := hid (show ∀ (W : World), EX w5 [] [] W → Rsps W W.heap.size (.slice qd x.2.2.length cdd) x.2.2 from fun W h => (HI3.out.below h.w).mono h.w.size)
    have GW := hid (show ∀ (W : World) bs os, EX w bs os W → (w8.heap.size, w9.heap.size, Value.slice ra x.1.length da, x.1) ∈ os → (w8.heap.size, w9.heap.size, Value.slice rb x.2.1.length db, x.2.1) ∈ os → AtmV W W.heap.size (.agg #[.slice ra x.1.length da, .slice rb x.2.1.length db]) x.1 x.2.1 from fun W bs os h m1 m2 => ⟨_, _, rfl, (h.own m1).ints HSW.out.1 HSM.out.w, (h.own m2).ints HSW.out.2.1 HSM.out.h⟩)
    have GD := hid (show ∀ (W : World), RsO W w8.heap.size w9.heap.size (.slice rd x.2.2.length dd) x.2.2 ds → Rsps W W.heap.size (.slice rd x.2.2.length dd) x.2.2 from fun W h => h.rsps HSM.out.d HSW.out.2.2)
    have HSA := hid (show Apart (.slice ra x.1.length da) (.slice rb x.2.1.length db) ∧ Apart (.slice ra x.1.length da) (.slice rd x.2.2.length dd) ∧ Apart (.slice rb x.2.1.length db) (.slice rd x.2.2.length dd) ∧ (∀ j, j < x.2.2.length → Apart (.slice ra x.1.length da) (ds.getD j undef) ∧ Apart (.slice rb x.2.1.length db) (ds.getD j undef) ∧ Apart (.slice rd x.2.2.length dd) (ds.getD j undef)) ∧ ∀ i j, i < x.2.2.length → j < x.2.2.length → i ≠ j → Apart (ds.getD i undef) (ds.getD j undef) from by
      have h := HAP.out
      simp only [List.pairwise_cons, List.mem_cons, forall_eq_or_imp] at h
      obtain ⟨⟨h1, h2, h3⟩, ⟨h4, h5⟩, h6, h7⟩ := h
      have hl := HR.out.len
      have hm : ∀ j, j < x.2.2.length → ds.getD j undef ∈ ds := fun j hj => getD_mem (by omega)
      refine ⟨h1, h2, h4, fun j hj => ⟨h3 _ (hm j hj), h5 _ (hm j hj), h6 _ (hm j hj)⟩, fun i j hi hj hne => ?_⟩
      have hp := List.pairwise_iff_getElem.1 h7
      have ei : ds.getD i undef = ds[i]'(by omega) := by simp [List.getD, show i < ds.length by omega]
      have ej : ds.getD j undef = ds[j]'(by omega) := by simp [List.getD, show j < ds.length by omega]
      rw [ei, ej]
      rcases Nat.lt_or_ge i j with h | h
      · exact hp i j (by omega) (by omega) h
      · exact (hp j i (by omega) (by omega) (by omega)).symm)
    refine (eqAtm_same _ _ x.1 x.2.1 _ W9 (GW.out _ _ _ HE.out (by repeat first | with_reducible exact List.mem_cons_self | with_reducible apply List.mem_cons_of_mem) (by repeat first | with_reducible exact List.mem_cons_self | with_reducible apply List.mem_cons_of_mem)) (RW.out _ HT.out) (Nat.le_refl _)).mono ?_
    rintro e v1 ⟨rfl, hb⟩
    have HE := hid (HE.out.below hb); have HT := hid (HT.out.below hb); have HO0 := hid (HO0.out.below hb); have HR := hid (HR.out.below hb); have HQ3 := hid (HQ3.out.below hb); clear hb
    go_wp2_with fail
    refine (eqRsps_same x.2.2 _ _ _ v1 (GD.out _ HR.out) (RD.out _ HT.out) (Nat.le_refl _)).mono ?_
    rintro e v2 ⟨rfl, hb⟩
    have HE := hid (HE.out.below hb); have HT := hid (HT.out.below hb); have HO0 := hid (HO0.out.below hb); have HR := hid (HR.out.below hb); have HQ3 := hid (HQ3.out.below hb); clear hb
    go_wp2_with fail
    refine (toRanges_any v ms _ v2 (HMC.out v2 HE.out.w) (Nat.le_refl _) HL0.out.2.2).mono ?_
    rintro e v3 ⟨g1, rfl, o0, hb⟩
    have HE := hid (HE.out.below hb); have HT := hid (HT.out.below hb); have HO0 := hid (HO0.out.below hb); have HR := hid (HR.out.below hb); have HQ3 := hid (HQ3.out.below hb); have HN := hid o0; clear hb o0
    go_wp2_with fail
    refine (eqRanges_same ms _ _ _ v3 (HO0.out.maps HL0.out.2.2 HM.out.2) (HN.out.maps HL0.out.2.2 HM.out.2) (Nat.le_refl _)).mono ?_
    rintro e v4 ⟨rfl, hb⟩
    have HE := hid (HE.out.below hb); have HT := hid (HT.out.below hb); have HO0 := hid (HO0.out.below hb); have HR := hid (HR.out.below hb); have HQ3 := hid (HQ3.out.below hb); clear hb HN
    obtain ⟨⟨a0, a1⟩, _, _⟩ := (HE.out.box (g := w.heap.size) (by repeat first | with_reducible exact List.mem_cons_self | with_reducible apply List.mem_cons_of_mem)).two
    obtain ⟨⟨b0, b1⟩, _, _⟩ := (HE.out.box (g := w7.heap.size) (by repeat first | with_reducible exact List.mem_cons_self | with_reducible apply List.mem_cons_of_mem)).two
    have HCK := hid (show ∀ W, Below v4.heap.size v4 W → (W.cell? ⟨w7.heap.size, 0, none⟩ = some (.slice qu ws.length cu) ∧ W.cell? ⟨w7.heap.size, 1, none⟩ = some (.slice qz hs.length cz)) ∧ W.cell? ⟨w.heap.size, 0, none⟩ = some wv ∧ W.cell? ⟨w.heap.size, 1, none⟩ = some hv2 from fun W hW => ⟨((HE.out.below hW).box (by repeat first | with_reducible exact List.mem_cons_self | with_reducible apply List.mem_cons_of_mem)).two.1, ((HE.out.below hW).box (by repeat first | with_reducible exact List.mem_cons_self | with_reducible apply List.mem_cons_of_mem)).two.1⟩)
    have HB4 := hid (show Below w.heap.size w v4.drew from HE.out.w.drew)
    have HED := hid (show ∀ W, Below v4.drew.heap.size v4.drew W → Below v4.heap.size v4 W from fun W hW => ((Below.refl v4.heap.size v4).drew).trans hW)
    go_wp2_with fail
    go_region_held3 (fun w' => (w'.cell? ⟨w7.heap.size, 0, none⟩ = some (.slice qu ws.length cu) ∧ w'.cell? ⟨w7.heap.size, 1, none⟩ = some (.slice qz hs.length cz)) ∧ w'.cell? ⟨w.heap.size, 0, none⟩ = some wv ∧ w'.cell? ⟨w.heap.size, 1, none⟩ = some hv2)
      (first | exact s7 | exact ⟨⟨b0, b1⟩, a0, a1⟩ | go_keep)
      (first
        | (go_at_call 31; refine (toAtm_any _ ws hs _ _ (HAC.out _ HB4.out) (Nat.le_refl _) HL1.out.2.2.1 HL1.out.2.2.2).mono ?_; rintro e v5 ⟨u5, z5, rfl, p1, p2, pap, hb⟩; have HB5 := hid (HED.out _ hb); have s7 := HCK.out _ HB5.out; have HN1 := hid p1; have HN2 := hid p2; clear p1 p2 pap hb)
        | (go_at_call 34; refine (eqAtm_same _ _ ws hs _ v5 ⟨_, _, rfl, ((HE.out.below HB5.out).own (lo := w6.heap.size) (hi := w7.heap.size) (xs := ws) (by repeat first | with_reducible exact List.mem_cons_self | with_reducible apply List.mem_cons_of_mem)).ints (by have := HL1.out; omega) HA2.out.1, ((HE.out.below HB5.out).own (lo := w6.heap.size) (hi := w7.heap.size) (xs := hs) (by repeat first | with_reducible exact List.mem_cons_self | with_reducible apply List.mem_cons_of_mem)).ints (by have := HL1.out; omega) HA2.out.2⟩ ⟨_, _, rfl, HN1.out.ints (by have := HL1.out; omega) HA2.out.1, HN2.out.ints (by have := HL1.out; omega) HA2.out.2⟩ (Nat.le_refl _)).mono ?_; rintro e v6 ⟨rfl, hb⟩; have HB6 := hid (HB5.out.trans (hb.mono HB5.out.size)); have s7 := HCK.out _ HB6.out; clear hb))
    have hb := HB6.out
    have HE := hid (HE.out.below hb); have HT := hid (HT.out.below hb); have HO0 := hid (HO0.out.below hb); have HR := hid (HR.out.below hb); have HQ3 := hid (HQ3.out.below hb)
    clear hb s7 a0 a1 b0 b1 HN1 HN2 HB5 HB6 HCK HB4 HED
    go_wp2_with fail
    refine (toReqs_any _ rs _ v6 (HUC.out v6 HE.out.w) (Nat.le_refl _) HL2.out.1 HL2.out.2).mono ?_
    rintro e v7 ⟨g4, vs4, rfl, hq4, hb⟩
    have HE := hid (HE.out.below hb); have HT := hid (HT.out.below hb); have HO0 := hid (HO0.out.below hb); have HR := hid (HR.out.below hb); have HQ3 := hid (HQ3.out.below hb); have HN := hid hq4; clear hb hq4
    go_wp2_with fail
    refine (eqReqs_same rs _ _ _ v7 (HQ3.out.reqs HL2.out.1 HQ2.out) (HN.out.reqs HL2.out.1 HQ2.out) (Nat.le_refl _)).mono ?_
    rintro e v8 ⟨rfl, hb⟩
    have HE := hid (HE.out.below hb); have HT := hid (HT.out.below hb); have HO0 := hid (HO0.out.below hb); have HR := hid (HR.out.below hb); have HQ3 := hid (HQ3.out.below hb); clear hb HN
    go_wp2_with fail
    refine (markRanges_any ms _ 1 g0 0 _ v8 HO0.out (by have := HL0.out; omega)).mono ?_
    rintro e v9 ⟨rfl, _, ht, _⟩
    have HSZ := hid (show w.heap.size + 1 ≤ w4.heap.size ∧ w4.heap.size ≤ ga ∧ ga < w5.heap.size ∧ w5.heap.size ≤ w6.heap.size ∧ w6.heap.size ≤ w7.heap.size ∧ W7.heap.size = w7.heap.size + 1 ∧ W7.heap.size ≤ w8.heap.size ∧ w8.heap.size ≤ w9.heap.size ∧ W9.heap.size = w9.heap.size + 1 by have := HS.out; have := HG.out; have := HS6.out; have := HS7.out; have := HS8.out; have := HS9.out; have := HS11.out; have := HS12.out; have := HZ4.out; omega)
    have hbt := ht.toBt (lo := w5.heap.size) (hi := w6.heap.size) HG0.out.1 HG0.out.2
    have HE := hid (HE.out.bt hbt (by have := HSZ.out; simp; try omega) (by have := HSZ.out; simp; try omega) (by have := HSZ.out; omega))
    have HT := hid (HT.out.bt hbt (by simp) (by simp) (Nat.le_refl _))
    have HR := hid (HR.out.bt hbt (.inr (by have := HSZ.out; omega)))
    have HQ3 := hid (HQ3.out.bt HQB.out hbt (.inr (by have := HSZ.out; omega)))
    obtain ⟨⟨b0, b1⟩, _, _⟩ := (HE.out.box (g := w7.heap.size) (by repeat first | with_reducible exact List.mem_cons_self | with_reducible apply List.mem_cons_of_mem)).two
    clear ht HO0 hbt
    go_wp2_with fail
    refine (markAtm_any _ _ ws hs (1 + 4 * ms.length) _ w6.heap.size w7.heap.size v9 (HE.out.own (lo := w6.heap.size) (hi := w7.heap.size) (xs := ws) (by repeat first | with_reducible exact List.mem_cons_self | with_reducible apply List.mem_cons_of_mem)).o (HE.out.own (lo := w6.heap.size) (hi := w7.heap.size) (xs := hs) (by repeat first | with_reducible exact List.mem_cons_self | with_reducible apply List.mem_cons_of_mem)).o HPA.out (by have := HL0.out; have := HL1.out; omega) (HE.out.own (lo := w6.heap.size) (hi := w7.heap.size) (xs := ws) (by repeat first | with_reducible exact List.mem_cons_self | with_reducible apply List.mem_cons_of_mem)).lo (HE.out.own (lo := w6.heap.size) (hi := w7.heap.size) (xs := hs) (by repeat first | with_reducible exact List.mem_cons_self | with_reducible apply List.mem_cons_of_mem)).lo).mono ?_
    rintro e v10 ⟨rfl, _, _, hbt, _⟩
    have HE := hid ((HE.out.del2.del2).bt hbt (by have := HSZ.out; simp; try omega) (by have := HSZ.out; simp; try omega) (by have := HSZ.out; omega))
    have HT := hid (HT.out.bt hbt (by simp) (by simp) (by have := HSZ.out; omega))
    have HR := hid (HR.out.bt hbt (.inr (by have := HSZ.out; omega)))
    have HQ3 := hid (HQ3.out.bt HQB.out hbt (.inr (by have := HSZ.out; omega)))
    clear b0 b1 hbt
    have HSQ := hid (show sumG wQ rs ≤ rs.length * 2097157 from sumG_le wQ _ rs (fun q hq => by have := (HQ2.out q hq).1; unfold Rq20 at this; simp only [wQ]; omega))
    go_wp2_with fail
    refine (markReqs_any rs W7.heap.size w8.heap.size (1 + 4 * ms.length + ws.length + hs.length) g3 vs3 v10 HQ3.out HQB.out HL2.out.1 (by have := HL0.out; have := HL1.out; have := HL2.out.1; have := HSQ.out; omega)).mono ?_
    rintro e v11 ⟨rfl, _, hbt⟩
    have HE := hid (HE.out.bt hbt (by have := HSZ.out; simp; try omega) (by have := HSZ.out; simp; try omega) (by have := HSZ.out; omega))
    have HT := hid (HT.out.bt hbt (by simp) (by simp) (by have := HSZ.out; omega))
    have HR := hid (HR.out.bt hbt (.inr (by have := HSZ.out; omega)))
    clear hbt HQ3
    obtain ⟨kk, hkk⟩ : ∃ kk : Nat, kk = 1 + 4 * ms.length + ws.length + hs.length + sumG wQ rs := ⟨_, rfl⟩
    rw [← hkk]
    have hk64 : kk ≤ 1152921504606846976 := by have := HL0.out; have := HL1.out; have := HL2.out.1; have := HSQ.out; omega
    clear hkk
    obtain ⟨⟨a0, a1⟩, _, _⟩ := (HE.out.box (g := ga) (by repeat first | with_reducible exact List.mem_cons_self | with_reducible apply List.mem_cons_of_mem)).two
    obtain ⟨⟨c0, c1⟩, _, _⟩ := (HE.out.box (g := w9.heap.size) (by repeat first | with_reducible exact List.mem_cons_self | with_reducible apply List.mem_cons_of_mem)).two
    go_wp2_with fail
    clear a0 a1 c0 c1
    refine (eqAtm_same _ _ x.1 x.2.1 _ v11 (GW.out _ _ _ HE.out (by repeat first | with_reducible exact List.mem_cons_self | with_reducible apply List.mem_cons_of_mem) (by repeat first | with_reducible exact List.mem_cons_self | with_reducible apply List.mem_cons_of_mem)) (RW.out _ HT.out) (Nat.le_refl _)).mono ?_
    rintro e v12 ⟨rfl, hb⟩
    have HE := hid (HE.out.below hb); have HT := hid (HT.out.below hb); have HR := hid (HR.out.below hb); clear hb
    go_wp2_with fail
    refine (eqRsps_same x.2.2 _ _ _ v12 (GD.out _ HR.out) (RD.out _ HT.out) (Nat.le_refl _)).mono ?_
    rintro e v13 ⟨rfl, hb⟩
    have HE := hid (HE.out.below hb); have HT := hid (HT.out.below hb); have HR := hid (HR.out.below hb); clear hb
    obtain ⟨⟨c0, c1⟩, _, _⟩ := (HE.out.box (g := w9.heap.size) (by repeat first | with_reducible exact List.mem_cons_self | with_reducible apply List.mem_cons_of_mem)).two
    go_wp2_with fail
    refine (markAtm_any _ _ x.1 x.2.1 1 _ w8.heap.size w9.heap.size v13 (HE.out.own (lo := w8.heap.size) (hi := w9.heap.size) (xs := x.1) (by repeat first | with_reducible exact List.mem_cons_self | with_reducible apply List.mem_cons_of_mem)).o (HE.out.own (lo := w8.heap.size) (hi := w9.heap.size) (xs := x.2.1) (by repeat first | with_reducible exact List.mem_cons_self | with_reducible apply List.mem_cons_of_mem)).o HSA.out.1 (by have := HSM.out.lw; have := HSM.out.lh; omega) (HE.out.own (lo := w8.heap.size) (hi := w9.heap.size) (xs := x.1) (by repeat first | with_reducible exact List.mem_cons_self | with_reducible apply List.mem_cons_of_mem)).lo (HE.out.own (lo := w8.heap.size) (hi := w9.heap.size) (xs := x.2.1) (by repeat first | with_reducible exact List.mem_cons_self | with_reducible apply List.mem_cons_of_mem)).lo).mono ?_
    rintro e v14 ⟨rfl, m1, m2, hbt, hkp⟩
    have HK := hid (And.intro (HE.out.own (lo := w8.heap.size) (hi := w9.heap.size) (v := .slice ra x.1.length da) (xs := x.1) (by repeat first | with_reducible exact List.mem_cons_self | with_reducible apply List.mem_cons_of_mem)).h (HE.out.own (lo := w8.heap.size) (hi := w9.heap.size) (v := .slice rb x.2.1.length db) (xs := x.2.1) (by repeat first | with_reducible exact List.mem_cons_self | with_reducible apply List.mem_cons_of_mem)).h)
    have HR := hid (HR.out.keep2 fun k hk hk2 => hkp k hk (fun e => by
        rcases hk2 with hk2 | ⟨j, hj, hk2⟩
        · exact HSA.out.2.1 k e hk2
        · exact (HSA.out.2.2.2.1 j hj).1 k e hk2) (fun e => by
        rcases hk2 with hk2 | ⟨j, hj, hk2⟩
        · exact HSA.out.2.2.1 k e hk2
        · exact (HSA.out.2.2.2.1 j hj).2.1 k e hk2))
    have HE := hid ((HE.out.del0.del0).bt hbt (by have := HSZ.out; simp; try omega) (by have := HSZ.out; simp; try omega) (by have := HSZ.out; omega))
    have HT := hid (HT.out.bt hbt (by simp) (by simp) (by have := HSZ.out; omega))
    have M1 := hid m1; have M2 := hid m2
    clear hbt hkp m1 m2 c0 c1
    have HRS := hid (show sumG wR x.2.2 ≤ x.2.2.length * 6 from sumG_le wR _ x.2.2 (fun q hq => by have := (HSM.out.d q hq).2.2.2; simp only [wR]; omega))
    have HRB := hid (show 1 + x.1.length + x.2.1.length + sumG wR x.2.2 ≤ 1048576 by have := HSM.out.lw; have := HSM.out.lh; have := HSM.out.ld; have := HRS.out; omega)
    go_wp2_with fail
    refine (markRsps_v x.2.2 _ _ (1 + x.1.length + x.2.1.length) _ ds v14 HR.out (fun j hj => (HSA.out.2.2.2.1 j hj).2.2) HSA.out.2.2.2.2 (by have := HRB.out; omega)).mono ?_
    rintro e v15 ⟨rfl, hr15, hkb⟩
    have hbt := hkb.bt HR.out.lo.1 HR.out.lo.2
    have HE := hid (((HE.out.bt hbt (by have := HSZ.out; simp; try omega) (by have := HSZ.out; simp; try omega) (by have := HSZ.out; omega)).addO (Ow.mk (OwnR.kept M2.out fun k hk => hkb.keep k (OwnR.lt M2.out k hk).2 (fun e => HSA.out.2.2.1 k hk e) (fun j hj e => (HSA.out.2.2.2.1 j hj).2.1 k hk e)) HK.out.2)).addO (Ow.mk (OwnR.kept M1.out fun k hk => hkb.keep k (OwnR.lt M1.out k hk).2 (fun e => HSA.out.2.1 k hk e) (fun j hj e => (HSA.out.2.2.2.1 j hj).1 k hk e)) HK.out.1))
    have HT := hid (HT.out.bt hbt (by simp) (by simp) (by have := HSZ.out; omega))
    have HR := hid hr15
    clear hr15 hkb hbt M1 M2 HK
    have HML := hid (show x.1.length ≤ 64 ∧ x.2.1.length ≤ 6 from ⟨HSM.out.lw, HSM.out.lh⟩)
    have HW := hid (show ∀ (W : World) bs os, EX w bs os W → (w8.heap.size, w9.heap.size, Value.slice ra x.1.length da, marks 1 x.1.length) ∈ os → (w8.heap.size, w9.heap.size, Value.slice rb x.2.1.length db, marks (1 + x.1.length) x.2.1.length) ∈ os → AtmV W W.heap.size (.agg #[.slice ra x.1.length da, .slice rb x.2.1.length db]) (marks 1 x.1.length) (marks (1 + x.1.length) x.2.1.length) from fun W bs os h m1 m2 => ⟨_, _, rfl, (h.own m1).ints (by rw [marks_len]; have := HML.out; omega) (marks_64 (by have := HML.out; omega)), (h.own m2).ints (by rw [marks_len]; have := HML.out; omega) (marks_64 (by have := HML.out; omega))⟩)
    have HD := hid (show ∀ (W : World), RsO W w8.heap.size w9.heap.size (.slice rd x.2.2.length dd) (markR (1 + x.1.length + x.2.1.length) x.2.2) ds → Rsps W W.heap.size (.slice rd x.2.2.length dd) (markR (1 + x.1.length + x.2.1.length) x.2.2) from fun W h => h.rsps (markR_small _ _ HRB.out (fun r hr => (HSM.out.d r hr).2.2.2)) (by unfold markR; rw [markG_len]; have := HSM.out.ld; omega))
    obtain ⟨⟨c0, c1⟩, _, _⟩ := (HE.out.box (g := w9.heap.size) (by repeat first | with_reducible exact List.mem_cons_self | with_reducible apply List.mem_cons_of_mem)).two
    go_wp2_with fail
    refine (heldAtm_any _ x.1.length x.2.1.length 1 _ v15 (HW.out _ _ _ HE.out (by repeat first | with_reducible exact List.mem_cons_self | with_reducible apply List.mem_cons_of_mem) (by repeat first | with_reducible exact List.mem_cons_self | with_reducible apply List.mem_cons_of_mem)) (Nat.le_refl _) (by have := HML.out; omega)).mono ?_
    rintro e v16 ⟨rfl, hb⟩
    have HE := hid (HE.out.below hb); have HT := hid (HT.out.below hb); have HR := hid (HR.out.below hb); clear hb c0 c1
    go_wp2_with fail
    refine (heldRsps_any _ x.2.2 (1 + x.1.length + x.2.1.length) _ v16 (HD.out _ HR.out) (Nat.le_refl _) (by have := HRB.out; omega)).mono ?_
    rintro e w' ⟨rfl, hww⟩
    subst hww
    go_upto_region 42 with fail
    go_cut [20, 21] from 129 to 139 (fun p q wd => XsP p q x v16 wd)
    case first =>
      rename_i J K' hJ hK
      exact xd_region _ _ _ _ _ _ _ _ _ _ _ _ _ _ _ _ _ _ _ _ _ _ _ _ _ _ _ _ _ _ _ _ _ _ _ _ _ _ _ _ _ _ _ _ _ _ _ _ _ _ _ _ _ _ _ _ _ _ _ _ _ _ _ _ _ _ _ _ _ _ _ _ _ _ _ _ _ _ _ _ _ _ _ _ _ _ _ _ _ _ _ _ _ _ _ _ _ _ _ _ _ _ _ _ _ _ _ _ _ _ _ _ _ _ _ _ _ _ _ _ _ _ _ _ _ _ _ _ _ _ _ _ _ _ _ _ _ _ _ _ _ _ _ _ _ _ _ _ _ _ _ _ _ _ _ _ _ _ _ v u who w.heap.size wv hv2 x v16 ms ws hs rs HX (HE.out.box (by repeat first | with_reducible exact List.mem_cons_self | with_reducible apply List.mem_cons_of_mem)) (HMC.out v16 HE.out.w) (HAC.out v16 HE.out.w) HA2.out (HUC.out v16 HE.out.w) HQ2.out HL2.out.2 HL0.out.2.2 HL1.out.2.2.1 HL1.out.2.2.2 HL2.out.1 (fun u20 u21 u129 u130 u131 u132 u133 u134 u135 u136 u137 u138 u139 wd h => hK _ _ (Met.intro (hJ _ _ ⟨u20, u21, u129, u130, u131, u132, u133, u134, u135, u136, u137, u138, u139, h, rfl⟩)))
    case rest =>
      obtain ⟨v18, hw5⟩ : ∃ W, W = wc := ⟨_, rfl⟩
      subst hw5
      obtain ⟨hga, ta, na, tb, nb, td, nd, rfl, rfl, _, hA0, i1, i2, i3, hb⟩ := hcut
      have HE := hid ((HE.out.below hb).addB hA0.bx); have HT := hid (HT.out.below hb); have HR := hid (HR.out.below hb)
      have I1 := hid i1; have I2 := hid i2; have I3 := hid i3
      clear hA0 i1 i2 i3 hb
      have hl1 := (HE.out.box (g := hga) (by repeat first | with_reducible exact List.mem_cons_self | with_reducible apply List.mem_cons_of_mem)).lt
      obtain ⟨⟨a0, a1⟩, _, _⟩ := (HE.out.box (g := ga) (by repeat first | with_reducible exact List.mem_cons_self | with_reducible apply List.mem_cons_of_mem)).two
      obtain ⟨⟨c0, c1⟩, _, _⟩ := (HE.out.box (g := hga) (by repeat first | with_reducible exact List.mem_cons_self | with_reducible apply List.mem_cons_of_mem)).two
      go_wp2_with fail
      refine (eqAtm_same _ _ x.1 x.2.1 _ v18 ⟨_, _, rfl, I1.out, I2.out⟩ (RW.out _ HT.out) (Nat.le_refl _)).mono ?_
      rintro e v19 ⟨rfl, hb⟩
      have HE := hid (HE.out.below hb); have HT := hid (HT.out.below hb); have HR := hid (HR.out.below hb); have I3 := hid ((I3.out.below hb).mono hb.size); clear hb a0 a1 c0 c1 I1 I2
      go_wp2_with fail
      refine (eqRsps_same x.2.2 _ _ _ v19 I3.out (RD.out _ HT.out) (Nat.le_refl _)).mono ?_
      rintro e v20 ⟨rfl, hb⟩
      have HE := hid (HE.out.below hb); have HT := hid (HT.out.below hb); have HR := hid (HR.out.below hb); clear hb I3 hl1
      obtain ⟨⟨c0, c1⟩, _, _⟩ := (HE.out.box (g := w9.heap.size) (by repeat first | with_reducible exact List.mem_cons_self | with_reducible apply List.mem_cons_of_mem)).two
      go_wp2_with fail
      refine (heldAtm_any _ x.1.length x.2.1.length 1 _ v20 (HW.out _ _ _ HE.out (by repeat first | with_reducible exact List.mem_cons_self | with_reducible apply List.mem_cons_of_mem) (by repeat first | with_reducible exact List.mem_cons_self | with_reducible apply List.mem_cons_of_mem)) (Nat.le_refl _) (by have := HML.out; omega)).mono ?_
      rintro e v21 ⟨rfl, hb⟩
      have HE := hid (HE.out.below hb); have HT := hid (HT.out.below hb); have HR := hid (HR.out.below hb); clear hb c0 c1
      go_wp2_with fail
      refine (heldRsps_any _ x.2.2 (1 + x.1.length + x.2.1.length) _ v21 (HD.out _ HR.out) (Nat.le_refl _) (by have := HRB.out; omega)).mono ?_
      rintro e w' ⟨rfl, hww⟩
      subst hww
      go_wp2_with fail
      go_ret
      exact ⟨rfl, HE.out.w⟩

end Go.Proofs.Yteamebdehembgaa

namespace Go.Proofs.Yteamebdehembgaa
open Go.ChangeShapes Go.WideShapes Go.ChangeAt Go.RowKit Go.Deep

set_option maxRecDepth 100000 in
theorem exactAtmRun_lifted (os : Os) (started : os.Started) (H : Type) (enc : TypeId × Value → H) :
    ReturnsInHanded {} Try.checked os 7 .any (Rows.fnExactAtmRunSpec.pre6 enc Try.prog Try.f7 Rows.fnExactAtmRunRow.domain false) (Rows.fnExactAtmRunSpec.post enc Try.prog Try.f7 false true false false) := by
  refine law_lifted started enc 7 Try.f7 Rows.fnExactAtmRunSpec rfl (by kernel_rfl) Try.func7
    (ChangeSpec.witness6 (enc := enc) (C := Try.checked) false ⟨#[], #[.slice none 0 0, .agg #[.slice none 0 0, .slice none 0 0], .int .i64 0, .slice none 0 0], []⟩ 8 (by kernel_rfl) (by kernel_rfl) (by kernel_rfl) (by kernel_rfl)) rfl ?_ ?_ ?_
  · intro t ht
    simp [Try.params7] at ht
    rcases ht with rfl | rfl | rfl | rfl <;> exact ⟨by kernel_rfl, of_decide_eq_true (by kernel_rfl)⟩
  · intro ds hl
    simp [Try.params7] at hl
    match ds, hl with
    | [d1, d2, d3, d4], _ => exact ⟨rfl, rfl, rfl⟩
  · intro W base args ds p hval hA hlt hw
    rw [Try.params7] at hA hval hw
    obtain ⟨v0, v1, v2, v3, d0, d1, d2, d3, p0, p1, p2, p3, rfl, rfl, rfl, h0, h1, h2, h3⟩ := trodAll_four hA
    obtain ⟨ao, l, c, rfl⟩ := okWide_slice Try.underlying49 (hval 0 49 v0 rfl rfl)
    obtain ⟨cs, rfl, _⟩ := okWide_struct Try.underlying59 (hval 1 59 v1 rfl rfl)
    obtain ⟨who, rfl⟩ := okWide_int Try.underlying3 (hval 2 3 v2 rfl rfl)
    obtain ⟨bo, m, e, rfl⟩ := okWide_slice Try.underlying82 (hval 3 82 v3 rfl rfl)
    have r0 := read_of h0 (fun x hx => hlt x (by simp [hx])) (fun x hx => by
      have := List.all_eq_true.1 hw x (by simp [DataW.weightsEach, hx])
      simpa using this)
    have r1 := read_of h1 (fun x hx => hlt x (by simp [hx])) (fun x hx => by
      have := List.all_eq_true.1 hw x (by simp [DataW.weightsEach, hx])
      simpa using this)
    have r3 := read_of h3 (fun x hx => hlt x (by simp [hx])) (fun x hx => by
      have := List.all_eq_true.1 hw x (by simp [DataW.weightsEach, hx])
      simpa using this)
    obtain ⟨ms, hm⟩ := r0.ranges
    obtain ⟨wv, hv, ws, hs, e1, ha⟩ := r1.atm
    obtain ⟨rs, hq⟩ := r3.reqs
    obtain ⟨cl⟩ := cs
    obtain rfl : cl = [wv, hv] := by simpa [Value.cells] using e1
    exact exactAtmRun_any _ _ _ ms W.heap.size ws hs who rs W hm ha hq (Nat.le_refl _)

set_option maxRecDepth 100000 in
theorem exactAtmRun_holds : Rows.FnExactAtmRunSaid :=
  OpenClaim.holds_of_wide 7 Try.f7 rfl rfl rfl rfl rfl rfl rfl ⟨rfl, rfl, rfl, rfl, rfl⟩ rfl rfl rfl rfl rfl (by kernel_rfl) Try.func7 (by kernel_rfl)
    (of_decide_eq_true (by kernel_rfl)) (by unfold Func.isWrapper; first | (rw [if_pos (by decide +kernel)]; kernel_rfl) | (rw [if_neg (by decide +kernel)]; exact ⟨rfl, rfl⟩))
    (fun os started H enc _ => exactAtmRun_lifted os started H enc)
#print axioms exactAtmRun_holds

end Go.Proofs.Yteamebdehembgaa
