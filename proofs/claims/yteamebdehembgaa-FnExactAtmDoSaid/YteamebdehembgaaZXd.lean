/-
  The law FnExactAtmDo returns true on all ranges, stores, numbers and things that are asked, in whatever memory: the program's AtmDo and the reference's tell and leave the same, and share no memory.
-/
import Derived.Test.YteamebdehembgaaKXe
import Derived.Test.YteamebdehembgaaJXs
import Derived.Test.YteamebdehembgaaJXa
import Derived.Test.YteamebdehembgaaJSa3
import Derived.Test.YteamebdehembgaaKXr
import Derived.Deep.RegionHeld3
import Derived.Deep.DrawnRows
set_option linter.unusedVariables false
set_option linter.unusedSimpArgs false
namespace Go.Proofs.Yteamebdehembgaa
open Go.RowKit
attribute [local go_sem ↓] Go.wp_at_zero Go.wp_at_succ

set_option maxRecDepth 8000 in
set_option maxHeartbeats 32000000 in
theorem exactAtmDo_any (v sv u : Value) (ms : List MR) (B : Nat) (ws hs : List Int) (who : Int) (r : Rq) (w : World) (hv : Maps w B v ms) (hs1 : AtmV w B sv ws hs) (hu : ReqV w B u r) (hB : B ≤ w.heap.size) :
    Calls Try.prog 6 #[v, sv, .int .i64 who, u] w fun e w' => e = .returned (.bool true) ∧ Below w.heap.size w w' := by
  have HM := hid hv; have HA := hid hs1; have HQ := hid hu
  obtain ⟨wv, hv2, rfl, s1, s2⟩ := hs1
  obtain ⟨dv, lv, rfl, k1, k2, k3⟩ := hu
  have HA2 := hid (And.intro s1.2 s2.2)
  have HQ2 := hid (And.intro k1.2 (And.intro k2.2 k3))
  clear hv s1 s2 k1 k2 k3
  obtain ⟨x, hx⟩ : ∃ x, x = atmDo ms ws hs who r := ⟨_, rfl⟩
  have HX := hid hx; have HSM := hid (show Small x by rw [hx]; exact atmDo_small ..)
  clear hx
  go_enter Try.func6, Try.ntmps6
  go_wp2_with fail
  refine at_world (EX w [(w.heap.size + 1, [.int .i64 r.id, .int .i64 r.kind, .int .i64 r.addr, .int .i64 r.many, .bool r.wrap, dv, lv]), (w.heap.size, [wv, hv2])] []) ((EX.start w).new2 #[wv, hv2] #[.int .i64 r.id, .int .i64 r.kind, .int .i64 r.addr, .int .i64 r.many, .bool r.wrap, dv, lv] _ _ (by simp) (by simp)) ?_
  rintro W1 hE
  have HE := hid hE; clear hE
  refine (szRanges_any v ms 1048576 B W1 (HM.out.below (HE.out.w.mono hB)) (by omega) (by omega)).mono ?_
  rintro e w1 ⟨r1, rfl, hr1, hww⟩
  subst hww
  have HR1 := hid hr1; clear hr1
  by_cases hn1 : r1 < 0
  · go_wp2_with fail
    go_ret
    exact ⟨rfl, HE.out.w⟩
  have HL0 := hid (show 0 ≤ r1 ∧ r1 ≤ 1048576 ∧ ms.length ≤ 1048576 by have := HR1.out; omega)
  obtain ⟨⟨a0, a1⟩, _, _⟩ := (HE.out.box (g := w.heap.size) (by repeat first | with_reducible exact List.mem_cons_self | with_reducible apply List.mem_cons_of_mem)).two
  go_wp2_with fail
  refine (szAtm_any _ ws hs r1 B W1 (HA.out.below (HE.out.w.mono hB)) (Nat.le_trans hB HE.out.w.size) HL0.out.1 HL0.out.2.1).mono ?_
  rintro e w2 ⟨r2, rfl, hr2, hb⟩
  have HE := hid (HE.out.below hb); have HR2 := hid hr2; clear hr2 hb a0 a1 hn1
  by_cases hn2 : r2 < 0
  · go_wp2_with fail
    go_ret
    exact ⟨rfl, HE.out.w⟩
  have HL1 := hid (show 0 ≤ r2 ∧ r2 ≤ 1048576 ∧ ws.length ≤ 1048576 ∧ hs.length ≤ 1048576 by have := HR2.out; have := HL0.out; rcases HR2.out with h | h; omega; omega)
  obtain ⟨⟨q0, q1, q2, q3, q4, q5, q6⟩, _⟩ := (HE.out.box (g := w.heap.size + 1) (by repeat first | with_reducible exact List.mem_cons_self | with_reducible apply List.mem_cons_of_mem)).seven
  go_wp2_with fail
  refine (szReq_any _ r r2 B w2 (HQ.out.below (HE.out.w.mono hB)) (Nat.le_trans hB HE.out.w.size) HL1.out.1 HL1.out.2.1).mono ?_
  rintro e w4 ⟨r3, rfl, hr3, hb⟩
  have HE := hid (HE.out.below hb); have HR3 := hid hr3; clear hr3 hb q0 q1 q2 q3 q4 q5 q6 hn2
  by_cases hn3 : r3 < 0
  · go_wp2_with fail
    go_ret
    exact ⟨rfl, HE.out.w⟩
  have HL2 := hid (show r.data.length ≤ 1048576 ∧ r.lanes.length ≤ 1048576 by rcases HR3.out with h | h; omega; exact h.2.2)
  have HZ4 := hid (HE.out.box (g := w.heap.size + 1) (by repeat first | with_reducible exact List.mem_cons_self | with_reducible apply List.mem_cons_of_mem)).lt
  go_upto_region 11 with fail
  have HMC := hid (show ∀ W : World, Below w.heap.size w W → Maps W W.heap.size v ms from fun W hW => (HM.out.below (hW.mono hB)).mono (Nat.le_trans hB hW.size))
  have HAC := hid (show ∀ W : World, Below w.heap.size w W → AtmV W W.heap.size (.agg #[wv, hv2]) ws hs from fun W hW => (HA.out.below (hW.mono hB)).mono (Nat.le_trans hB hW.size))
  have HQC := hid (show ∀ W : World, Below w.heap.size w W → ReqV W W.heap.size (.agg #[.int .i64 r.id, .int .i64 r.kind, .int .i64 r.addr, .int .i64 r.many, .bool r.wrap, dv, lv]) r from fun W hW => (HQ.out.below (hW.mono hB)).mono (Nat.le_trans hB hW.size))
  go_cut [10, 11] from 37 to 47 (fun p q wd => XrP p q x w4 wd)
  case first =>
    rename_i J K' hJ hK
    exact xa_region _ _ _ _ _ _ _ _ _ _ _ _ _ _ _ _ _ _ _ _ _ _ _ _ _ _ _ _ _ _ _ _ _ _ _ _ _ _ _ _ _ _ _ _ _ _ _ _ _ _ _ _ _ _ _ _ _ _ _ _ _ _ _ _ _ _ _ _ _ _ _ _ _ _ _ _ _ _ _ _ _ _ _ _ _ _ _ _ _ _ _ _ _ _ _ _ _ _ _ _ _ _ _ _ _ _ _ _ _ _ _ _ _ _ _ _ _ _ _ _ _ _ _ _ _ _ _ _ _ _ _ _ _ _ _ _ _ _ _ _ _ _ _ _ _ _ _ _ _ _ _ _ _ _ _ _ _ _ _ v who w.heap.size (w.heap.size + 1) wv hv2 dv lv r x w4 ms ws hs HX (HE.out.box (by repeat first | with_reducible exact List.mem_cons_self | with_reducible apply List.mem_cons_of_mem)) (HE.out.box (by repeat first | with_reducible exact List.mem_cons_self | with_reducible apply List.mem_cons_of_mem)) (HMC.out w4 HE.out.w) (HAC.out w4 HE.out.w) HA2.out (HQC.out w4 HE.out.w) HQ2.out HL0.out.2.2 HL1.out.2.2.1 HL1.out.2.2.2 HL2.out.1 HL2.out.2 (fun u10 u11 u37 u38 u39 u40 u41 u42 u43 u44 u45 u46 u47 wd h => hK _ _ (Met.intro (hJ _ _ ⟨u10, u11, u37, u38, u39, u40, u41, u42, u43, u44, u45, u46, u47, h, rfl⟩)))
  case rest =>
    obtain ⟨w5, hw5⟩ : ∃ W, W = wc := ⟨_, rfl⟩
    subst hw5
    obtain ⟨ga, gr, va, vb, vd, rfl, rfl, hga, hgr, hA0, hR0, o1, o2, o3, hb5⟩ := hcut
    obtain ⟨qa, ca, rfl, _, _⟩ := o1.shape
    obtain ⟨qb, cb, rfl, _, _⟩ := o2.shape
    obtain ⟨qd, cdd, rfl, _, _⟩ := o3.shape
    have HE := hid ((((((HE.out.below hb5).addB hA0.bx).addB hR0.bx).addO (Ow.of o1)).addO (Ow.of o2)).addO (Ow.of o3))
    have HS := hid (And.intro hga (And.intro hgr (And.intro HE.out.w.size hb5.size)))
    have HG := hid (And.intro hA0.lt hR0.lt)
    clear hga hgr hA0 hR0 o1 o2 o3 hb5
    go_wp2_with fail
    refine (toRanges_any v ms _ w5 (HMC.out w5 HE.out.w) (Nat.le_refl _) HL0.out.2.2).mono ?_
    rintro e w6 ⟨g0, rfl, o0, hb6⟩
    have HE := hid (HE.out.below hb6)
    have HG0 := hid (OwnR.lt o0 g0 rfl)
    have HO0 := hid o0
    have HS6 := hid hb6.size
    clear o0 hb6
    obtain ⟨⟨a0, a1⟩, _, _⟩ := (HE.out.box (g := w.heap.size) (by repeat first | with_reducible exact List.mem_cons_self | with_reducible apply List.mem_cons_of_mem)).two
    go_wp2_with fail
    refine (toAtm_any _ ws hs _ w6 (HAC.out w6 HE.out.w) (Nat.le_refl _) HL1.out.2.2.1 HL1.out.2.2.2).mono ?_
    rintro e w7 ⟨u1, z1, rfl, p1, p2, pap, hb7⟩
    obtain ⟨qu, cu, rfl, _, _⟩ := p1.shape
    obtain ⟨qz, cz, rfl, _, _⟩ := p2.shape
    have HP1 := hid (Ow.of p1); have HP2 := hid (Ow.of p2); have HPA := hid pap
    have HE := hid (HE.out.below hb7); have HO0 := hid (HO0.out.below hb7); have HS7 := hid hb7.size
    have hl7 := (HE.out.box (g := w.heap.size + 1) (by repeat first | with_reducible exact List.mem_cons_self | with_reducible apply List.mem_cons_of_mem)).lt
    obtain ⟨⟨q0, q1, q2, q3, q4, q5, q6⟩, _⟩ := (HE.out.box (g := w.heap.size + 1) (by repeat first | with_reducible exact List.mem_cons_self | with_reducible apply List.mem_cons_of_mem)).seven
    clear p1 p2 pap hb7 a0 a1
    go_wp2_with fail
    refine at_world (fun W => EX w ((w7.heap.size, [.slice qu ws.length cu, .slice qz hs.length cz]) :: _) ((w6.heap.size, w7.heap.size, .slice qz hs.length cz, hs) :: (w6.heap.size, w7.heap.size, .slice qu ws.length cu, ws) :: _) W ∧ Owns W w5.heap.size 101 4 rowM (.slice (some ⟨g0, 0, none⟩) ms.length ms.length) ms ∧ W.heap.size = w7.heap.size + 1) ⟨((HE.out.addO HP1.out).addO HP2.out).new #[.slice qu ws.length cu, .slice qz hs.length cz] _ (by simp), HO0.out.below (bx1 _ _), by simp⟩ ?_
    clear q0 q1 q2 q3 q4 q5 q6 hl7 HE HO0 HP1 HP2
    rintro W7 ⟨hE, ho0, hS8⟩
    have HE := hid hE; have HO0 := hid ho0; have HS8 := hid hS8
    clear hE ho0 hS8
    refine (toReq_any _ r _ W7 (HQC.out W7 HE.out.w) (Nat.le_refl _) HL2.out.1 HL2.out.2).mono ?_
    rintro e w8 ⟨u3, z3, rfl, p1, p2, pap, hb8⟩
    obtain ⟨ud, cd, rfl, _, _⟩ := p1.shape
    obtain ⟨ul, cl, rfl, _, _⟩ := p2.shape
    have HP1 := hid (Ow.of p1); have HP2 := hid (Ow.of p2); have HPQ := hid pap
    have HE := hid (HE.out.below hb8); have HO0 := hid (HO0.out.below hb8); have HS9 := hid hb8.size
    have hl8 := (HE.out.box (g := w7.heap.size) (by repeat first | with_reducible exact List.mem_cons_self | with_reducible apply List.mem_cons_of_mem)).lt
    obtain ⟨⟨a0, a1⟩, _, _⟩ := (HE.out.box (g := w7.heap.size) (by repeat first | with_reducible exact List.mem_cons_self | with_reducible apply List.mem_cons_of_mem)).two
    clear p1 p2 pap hb8
    go_wp2_with fail
    refine at_world (fun W => EX w ((w8.heap.size, [.int .i64 r.id, .int .i64 r.kind, .int .i64 r.addr, .int .i64 r.many, .bool r.wrap, .slice ud r.data.length cd, .slice ul r.lanes.length cl]) :: _) ((W7.heap.size, w8.heap.size, .slice ul r.lanes.length cl, r.lanes) :: (W7.heap.size, w8.heap.size, .slice ud r.data.length cd, r.data) :: _) W ∧ Owns W w5.heap.size 101 4 rowM (.slice (some ⟨g0, 0, none⟩) ms.length ms.length) ms ∧ W.heap.size = w8.heap.size + 1) ⟨((HE.out.addO HP1.out).addO HP2.out).new #[.int .i64 r.id, .int .i64 r.kind, .int .i64 r.addr, .int .i64 r.many, .bool r.wrap, .slice ud r.data.length cd, .slice ul r.lanes.length cl] _ (by simp), HO0.out.below (bx1 _ _), by simp⟩ ?_
    clear a0 a1 hl8 HE HO0 HP1 HP2
    rintro W8 ⟨hE, ho0, hS8⟩
    have HE := hid hE; have HO0 := hid ho0; have HS10 := hid hS8
    clear hE ho0 hS8
    have HIM := hid (show Maps W8 W8.heap.size (.slice (some ⟨g0, 0, none⟩) ms.length ms.length) ms from HO0.out.maps HL0.out.2.2 HM.out.2)
    have HIA := hid (show AtmV W8 W8.heap.size (.agg #[.slice qu ws.length cu, .slice qz hs.length cz]) ws hs from ⟨_, _, rfl, (HE.out.own (lo := w6.heap.size) (hi := w7.heap.size) (xs := ws) (by repeat first | with_reducible exact List.mem_cons_self | with_reducible apply List.mem_cons_of_mem)).ints (by have := HL1.out; omega) HA2.out.1, (HE.out.own (lo := w6.heap.size) (hi := w7.heap.size) (xs := hs) (by repeat first | with_reducible exact List.mem_cons_self | with_reducible apply List.mem_cons_of_mem)).ints (by have := HL1.out; omega) HA2.out.2⟩)
    have HIQ := hid (show ReqV W8 W8.heap.size (.agg #[.int .i64 r.id, .int .i64 r.kind, .int .i64 r.addr, .int .i64 r.many, .bool r.wrap, .slice ud r.data.length cd, .slice ul r.lanes.length cl]) r from ⟨_, _, rfl, (HE.out.own (lo := W7.heap.size) (hi := w8.heap.size) (xs := r.data) (by repeat first | with_reducible exact List.mem_cons_self | with_reducible apply List.mem_cons_of_mem)).ints (by have := HL2.out; omega) HQ2.out.1, (HE.out.own (lo := W7.heap.size) (hi := w8.heap.size) (xs := r.lanes) (by repeat first | with_reducible exact List.mem_cons_self | with_reducible apply List.mem_cons_of_mem)).ints (by have := HL2.out; omega) HQ2.out.2.1, HQ2.out.2.2⟩)
    refine (implAtmDo_any _ _ _ ms _ ws hs who r W8 HIM.out HIA.out HIQ.out (Nat.le_refl _)).mono ?_
    rw [← HX.out]
    rintro e w9 ⟨ya, yb, yd, rfl, o1, o2, o3, ap1, ap2, ap3, hb9⟩
    obtain ⟨ra, da, rfl, _, _⟩ := o1.shape
    obtain ⟨rb, db, rfl, _, _⟩ := o2.shape
    obtain ⟨rd, dd, rfl, _, _⟩ := o3.shape
    have HE := hid ((((HE.out.below hb9).addO (Ow.of o1)).addO (Ow.of o2)).addO (Ow.of o3))
    have HO0 := hid (HO0.out.below hb9); have HS11 := hid hb9.size; have HAP := hid (And.intro ap1 (And.intro ap2 ap3))
    have hlg := HG.out.1; have hlr := HG.out.2
    have hlg9 : ga < w9.heap.size := (HE.out.box (g := ga) (by repeat first | with_reducible exact List.mem_cons_self | with_reducible apply List.mem_cons_of_mem)).lt
    have hlr9 : gr < w9.heap.size := (HE.out.box (g := gr) (by repeat first | with_reducible exact List.mem_cons_self | with_reducible apply List.mem_cons_of_mem)).lt
    obtain ⟨⟨a0, a1⟩, _, _⟩ := (HE.out.box (g := ga) (by repeat first | with_reducible exact List.mem_cons_self | with_reducible apply List.mem_cons_of_mem)).two
    obtain ⟨⟨b0, b1, b2⟩, _, _, _⟩ := (HE.out.box (g := gr) (by repeat first | with_reducible exact List.mem_cons_self | with_reducible apply List.mem_cons_of_mem)).three
    clear o1 o2 o3 ap1 ap2 ap3 hb9 HIM HIA HIQ hlg hlr
    go_wp2_with fail
    refine at_world (fun W => EX w ((w9.heap.size + 1, [.int .i64 x.2.2.id, .int .i64 x.2.2.code, .slice rd x.2.2.data.length dd]) :: (w9.heap.size, [.slice ra x.1.length da, .slice rb x.2.1.length db]) :: _) _ W ∧ Owns W w5.heap.size 101 4 rowM (.slice (some ⟨g0, 0, none⟩) ms.length ms.length) ms ∧ W.heap.size = w9.heap.size + 2) ⟨HE.out.new2 #[.slice ra x.1.length da, .slice rb x.2.1.length db] #[.int .i64 x.2.2.id, .int .i64 x.2.2.code, .slice rd x.2.2.data.length dd] _ _ (by simp) (by simp), HO0.out.below (bx2 _ _ _), by simp⟩ ?_
    clear a0 a1 b0 b1 b2 hlg9 hlr9 HE HO0
    rintro W9 ⟨hE, ho0, hS8⟩
    have HE := hid hE; have HO0 := hid ho0; have HS12 := hid hS8
    clear hE ho0 hS8
    have HSW := hid (show x.1.length ≤ 140737488351232 ∧ x.2.1.length ≤ 140737488351232 ∧ x.2.2.data.length ≤ 140737488351232 by have := HSM.out.lw; have := HSM.out.lh; have := HSM.out.ld; omega)
    have RW := hid (show ∀ (W : World) bs os, EX w bs os W → (w4.heap.size, w5.heap.size, Value.slice qa x.1.length ca, x.1) ∈ os → (w4.heap.size, w5.heap.size, Value.slice qb x.2.1.length cb, x.2.1) ∈ os → AtmV W W.heap.size (.agg #[.slice qa x.1.length ca, .slice qb x.2.1.length cb]) x.1 x.2.1 from fun W bs os h m1 m2 => ⟨_, _, rfl, (h.own m1).ints HSW.out.1 HSM.out.w, (h.own m2).ints HSW.out.2.1 HSM.out.h⟩)
    have RD := hid (show ∀ (W : World) bs os, EX w bs os W → (w4.heap.size, w5.heap.size, Value.slice qd x.2.2.data.length cdd, x.2.2.data) ∈ os → RspV W W.heap.size (.agg #[.int .i64 x.2.2.id, .int .i64 x.2.2.code, .slice qd x.2.2.data.length cdd]) x.2.2 from fun W bs os h m1 => ⟨_, rfl, (h.own m1).ints HSW.out.2.2 HSM.out.d, HSM.out.i, HSM.out.c⟩)
    have GW := hid (show ∀ (W : World) bs os, EX w bs os W → (W8.heap.size, w9.heap.size, Value.slice ra x.1.length da, x.1) ∈ os → (W8.heap.size, w9.heap.size, Value.slice rb x.2.1.length db, x.2.1) ∈ os → AtmV W W.heap.size (.agg #[.slice ra x.1.length da, .slice rb x.2.1.length db]) x.1 x.2.1 from fun W bs os h m1 m2 => ⟨_, _, rfl, (h.own m1).ints HSW.out.1 HSM.out.w, (h.own m2).ints HSW.out.2.1 HSM.out.h⟩)
    have GD := hid (show ∀ (W : World) bs os, EX w bs os W → (W8.heap.size, w9.heap.size, Value.slice rd x.2.2.data.length dd, x.2.2.data) ∈ os → RspV W W.heap.size (.agg #[.int .i64 x.2.2.id, .int .i64 x.2.2.code, .slice rd x.2.2.data.length dd]) x.2.2 from fun W bs os h m1 => ⟨_, rfl, (h.own m1).ints HSW.out.2.2 HSM.out.d, HSM.out.i, HSM.out.c⟩)
    refine (eqAtm_same _ _ x.1 x.2.1 _ W9 (GW.out _ _ _ HE.out (by repeat first | with_reducible exact List.mem_cons_self | with_reducible apply List.mem_cons_of_mem) (by repeat first | with_reducible exact List.mem_cons_self | with_reducible apply List.mem_cons_of_mem)) (RW.out _ _ _ HE.out (by repeat first | with_reducible exact List.mem_cons_self | with_reducible apply List.mem_cons_of_mem) (by repeat first | with_reducible exact List.mem_cons_self | with_reducible apply List.mem_cons_of_mem)) (Nat.le_refl _)).mono ?_
    rintro e v1 ⟨rfl, hb⟩
    have HE := hid (HE.out.below hb); have HO0 := hid (HO0.out.below hb); clear hb
    have hl_1 := (HE.out.box (g := w9.heap.size + 1) (by repeat first | with_reducible exact List.mem_cons_self | with_reducible apply List.mem_cons_of_mem)).lt
    obtain ⟨⟨a0, a1⟩, _, _⟩ := (HE.out.box (g := ga) (by repeat first | with_reducible exact List.mem_cons_self | with_reducible apply List.mem_cons_of_mem)).two
    obtain ⟨⟨b0, b1, b2⟩, _, _, _⟩ := (HE.out.box (g := gr) (by repeat first | with_reducible exact List.mem_cons_self | with_reducible apply List.mem_cons_of_mem)).three
    obtain ⟨⟨c0, c1⟩, _, _⟩ := (HE.out.box (g := w9.heap.size) (by repeat first | with_reducible exact List.mem_cons_self | with_reducible apply List.mem_cons_of_mem)).two
    obtain ⟨⟨d0, d1, d2⟩, _, _, _⟩ := (HE.out.box (g := w9.heap.size + 1) (by repeat first | with_reducible exact List.mem_cons_self | with_reducible apply List.mem_cons_of_mem)).three
    go_wp2_with fail
    refine (eqRsp_same _ _ x.2.2 _ v1 (GD.out _ _ _ HE.out (by repeat first | with_reducible exact List.mem_cons_self | with_reducible apply List.mem_cons_of_mem)) (RD.out _ _ _ HE.out (by repeat first | with_reducible exact List.mem_cons_self | with_reducible apply List.mem_cons_of_mem)) (Nat.le_refl _)).mono ?_
    rintro e v2 ⟨rfl, hb⟩
    have HE := hid (HE.out.below hb); have HO0 := hid (HO0.out.below hb); clear hb hl_1
    clear a0 a1 b0 b1 b2 c0 c1 d0 d1 d2
    go_wp2_with fail
    refine (toRanges_any v ms _ v2 (HMC.out v2 HE.out.w) (Nat.le_refl _) HL0.out.2.2).mono ?_
    rintro e v3 ⟨g1, rfl, o0, hb⟩
    have HE := hid (HE.out.below hb); have HO0 := hid (HO0.out.below hb); have HN := hid o0; clear hb o0
    go_wp2_with fail
    refine (eqRanges_same ms _ _ _ v3 (HO0.out.maps HL0.out.2.2 HM.out.2) (HN.out.maps HL0.out.2.2 HM.out.2) (Nat.le_refl _)).mono ?_
    rintro e v4 ⟨rfl, hb⟩
    have HE := hid (HE.out.below hb); have HO0 := hid (HO0.out.below hb); clear hb HN
    obtain ⟨⟨a0, a1⟩, _, _⟩ := (HE.out.box (g := w.heap.size) (by repeat first | with_reducible exact List.mem_cons_self | with_reducible apply List.mem_cons_of_mem)).two
    obtain ⟨⟨b0, b1⟩, _, _⟩ := (HE.out.box (g := w7.heap.size) (by repeat first | with_reducible exact List.mem_cons_self | with_reducible apply List.mem_cons_of_mem)).two
    have HCK := hid (show ∀ W, Below v4.heap.size v4 W → (W.cell? ⟨w7.heap.size, 0, none⟩ = some (.slice qu ws.length cu) ∧ W.cell? ⟨w7.heap.size, 1, none⟩ = some (.slice qz hs.length cz)) ∧ W.cell? ⟨w.heap.size, 0, none⟩ = some wv ∧ W.cell? ⟨w.heap.size, 1, none⟩ = some hv2 from fun W hW => ⟨((HE.out.below hW).box (by repeat first | with_reducible exact List.mem_cons_self | with_reducible apply List.mem_cons_of_mem)).two.1, ((HE.out.below hW).box (by repeat first | with_reducible exact List.mem_cons_self | with_reducible apply List.mem_cons_of_mem)).two.1⟩)
    have HB4 := hid (show Below w.heap.size w v4.drew from HE.out.w.drew)
    have HED := hid (show ∀ W, Below v4.drew.heap.size v4.drew W → Below v4.heap.size v4 W from fun W hW => ((Below.refl v4.heap.size v4).drew).trans hW)
    go_wp2_with fail
    go_region_held3 (fun w' => (w'.cell? ⟨w7.heap.size, 0, none⟩ = some (.slice qu ws.length cu) ∧ w'.cell? ⟨w7.heap.size, 1, none⟩ = some (.slice qz hs.length cz)) ∧ w'.cell? ⟨w.heap.size, 0, none⟩ = some wv ∧ w'.cell? ⟨w.heap.size, 1, none⟩ = some hv2)
      (first | exact s7 | exact ⟨⟨b0, b1⟩, a0, a1⟩ | go_keep)
      (first
        | (go_at_call 31; refine (toAtm_any _ ws hs _ _ (HAC.out _ HB4.out) (Nat.le_refl _) HL1.out.2.2.1 HL1.out.2.2.2).mono ?_; rintro e v5 ⟨u5, z5, rfl, p1, p2, pap, hb⟩; have HB5 := hid (HED.out _ hb); have s7 := HCK.out _ HB5.out; have HN1 := hid p1; have HN2 := hid p2; clear p1 p2 pap hb)
        | (go_at_call 34; refine (eqAtm_same _ _ ws hs _ v5 ⟨_, _, rfl, ((HE.out.below HB5.out).own (lo := w6.heap.size) (hi := w7.heap.size) (xs := ws) (by repeat first | with_reducible exact List.mem_cons_self | with_reducible apply List.mem_cons_of_mem)).ints (by have := HL1.out; omega) HA2.out.1, ((HE.out.below HB5.out).own (lo := w6.heap.size) (hi := w7.heap.size) (xs := hs) (by repeat first | with_reducible exact List.mem_cons_self | with_reducible apply List.mem_cons_of_mem)).ints (by have := HL1.out; omega) HA2.out.2⟩ ⟨_, _, rfl, HN1.out.ints (by have := HL1.out; omega) HA2.out.1, HN2.out.ints (by have := HL1.out; omega) HA2.out.2⟩ (Nat.le_refl _)).mono ?_; rintro e v6 ⟨rfl, hb⟩; have HB6 := hid (HB5.out.trans (hb.mono HB5.out.size)); have s7 := HCK.out _ HB6.out; clear hb))
    have HE := hid (HE.out.below HB6.out); have HO0 := hid (HO0.out.below HB6.out)
    clear s7 a0 a1 b0 b1 HN1 HN2 HB5 HB6 HCK HB4 HED
    obtain ⟨⟨a0, a1, a2, a3, a4, a5, a6⟩, _⟩ := (HE.out.box (g := w.heap.size + 1) (by repeat first | with_reducible exact List.mem_cons_self | with_reducible apply List.mem_cons_of_mem)).seven
    obtain ⟨⟨b0, b1, b2, b3, b4, b5, b6⟩, _⟩ := (HE.out.box (g := w8.heap.size) (by repeat first | with_reducible exact List.mem_cons_self | with_reducible apply List.mem_cons_of_mem)).seven
    have HCK := hid (show ∀ W, Below v6.heap.size v6 W → (W.cell? ⟨w8.heap.size, 0, none⟩ = some (.int .i64 r.id) ∧ W.cell? ⟨w8.heap.size, 1, none⟩ = some (.int .i64 r.kind) ∧ W.cell? ⟨w8.heap.size, 2, none⟩ = some (.int .i64 r.addr) ∧ W.cell? ⟨w8.heap.size, 3, none⟩ = some (.int .i64 r.many) ∧ W.cell? ⟨w8.heap.size, 4, none⟩ = some (.bool r.wrap) ∧ W.cell? ⟨w8.heap.size, 5, none⟩ = some (.slice ud r.data.length cd) ∧ W.cell? ⟨w8.heap.size, 6, none⟩ = some (.slice ul r.lanes.length cl)) ∧ W.cell? ⟨w.heap.size + 1, 0, none⟩ = some (.int .i64 r.id) ∧ W.cell? ⟨w.heap.size + 1, 1, none⟩ = some (.int .i64 r.kind) ∧ W.cell? ⟨w.heap.size + 1, 2, none⟩ = some (.int .i64 r.addr) ∧ W.cell? ⟨w.heap.size + 1, 3, none⟩ = some (.int .i64 r.many) ∧ W.cell? ⟨w.heap.size + 1, 4, none⟩ = some (.bool r.wrap) ∧ W.cell? ⟨w.heap.size + 1, 5, none⟩ = some (dv) ∧ W.cell? ⟨w.heap.size + 1, 6, none⟩ = some (lv) from fun W hW => ⟨((HE.out.below hW).box (by repeat first | with_reducible exact List.mem_cons_self | with_reducible apply List.mem_cons_of_mem)).seven.1, ((HE.out.below hW).box (by repeat first | with_reducible exact List.mem_cons_self | with_reducible apply List.mem_cons_of_mem)).seven.1⟩)
    have HB4 := hid (show Below w.heap.size w v6.drew from HE.out.w.drew)
    have HED := hid (show ∀ W, Below v6.drew.heap.size v6.drew W → Below v6.heap.size v6 W from fun W hW => ((Below.refl v6.heap.size v6).drew).trans hW)
    go_wp2_with fail
    go_region_held3 (fun w' => (w'.cell? ⟨w8.heap.size, 0, none⟩ = some (.int .i64 r.id) ∧ w'.cell? ⟨w8.heap.size, 1, none⟩ = some (.int .i64 r.kind) ∧ w'.cell? ⟨w8.heap.size, 2, none⟩ = some (.int .i64 r.addr) ∧ w'.cell? ⟨w8.heap.size, 3, none⟩ = some (.int .i64 r.many) ∧ w'.cell? ⟨w8.heap.size, 4, none⟩ = some (.bool r.wrap) ∧ w'.cell? ⟨w8.heap.size, 5, none⟩ = some (.slice ud r.data.length cd) ∧ w'.cell? ⟨w8.heap.size, 6, none⟩ = some (.slice ul r.lanes.length cl)) ∧ w'.cell? ⟨w.heap.size + 1, 0, none⟩ = some (.int .i64 r.id) ∧ w'.cell? ⟨w.heap.size + 1, 1, none⟩ = some (.int .i64 r.kind) ∧ w'.cell? ⟨w.heap.size + 1, 2, none⟩ = some (.int .i64 r.addr) ∧ w'.cell? ⟨w.heap.size + 1, 3, none⟩ = some (.int .i64 r.many) ∧ w'.cell? ⟨w.heap.size + 1, 4, none⟩ = some (.bool r.wrap) ∧ w'.cell? ⟨w.heap.size + 1, 5, none⟩ = some (dv) ∧ w'.cell? ⟨w.heap.size + 1, 6, none⟩ = some (lv))
      (first | exact s7 | exact ⟨⟨b0, b1, b2, b3, b4, b5, b6⟩, a0, a1, a2, a3, a4, a5, a6⟩ | go_keep)
      (first
        | (go_at_call 32; refine (toReq_any _ r _ _ (HQC.out _ HB4.out) (Nat.le_refl _) HL2.out.1 HL2.out.2).mono ?_; rintro e v7 ⟨u5, z5, rfl, p1, p2, pap, hb⟩; have HB5 := hid (HED.out _ hb); have s7 := HCK.out _ HB5.out; have HN1 := hid p1; have HN2 := hid p2; clear p1 p2 pap hb)
        | (go_at_call 37; refine (eqReq_same _ _ r _ v7 ⟨_, _, rfl, ((HE.out.below HB5.out).own (lo := W7.heap.size) (hi := w8.heap.size) (xs := r.data) (by repeat first | with_reducible exact List.mem_cons_self | with_reducible apply List.mem_cons_of_mem)).ints (by have := HL2.out; omega) HQ2.out.1, ((HE.out.below HB5.out).own (lo := W7.heap.size) (hi := w8.heap.size) (xs := r.lanes) (by repeat first | with_reducible exact List.mem_cons_self | with_reducible apply List.mem_cons_of_mem)).ints (by have := HL2.out; omega) HQ2.out.2.1, HQ2.out.2.2⟩ ⟨_, _, rfl, HN1.out.ints (by have := HL2.out; omega) HQ2.out.1, HN2.out.ints (by have := HL2.out; omega) HQ2.out.2.1, HQ2.out.2.2⟩ (Nat.le_refl _)).mono ?_; rintro e v8 ⟨rfl, hb⟩; have HB6 := hid (HB5.out.trans (hb.mono HB5.out.size)); have s7 := HCK.out _ HB6.out; clear hb))
    have HE := hid (HE.out.below HB6.out); have HO0 := hid (HO0.out.below HB6.out)
    clear s7 a0 a1 a2 a3 a4 a5 a6 b0 b1 b2 b3 b4 b5 b6 HN1 HN2 HB5 HB6 HCK HB4 HED
    go_wp2_with fail
    refine (markRanges_any ms _ 1 g0 0 _ v8 HO0.out (by have := HL0.out; omega)).mono ?_
    rintro e v9 ⟨rfl, _, ht, _⟩
    have HSZ := hid (show w.heap.size + 2 ≤ w4.heap.size ∧ w4.heap.size ≤ ga ∧ w4.heap.size ≤ gr ∧ ga < w5.heap.size ∧ gr < w5.heap.size ∧ w5.heap.size ≤ w6.heap.size ∧ w6.heap.size ≤ w7.heap.size ∧ W7.heap.size = w7.heap.size + 1 ∧ W7.heap.size ≤ w8.heap.size ∧ W8.heap.size = w8.heap.size + 1 ∧ W8.heap.size ≤ w9.heap.size by have := HS.out; have := HG.out; have := HS6.out; have := HS7.out; have := HS8.out; have := HS9.out; have := HS10.out; have := HS11.out; have := HZ4.out; omega)
    have HE := hid (HE.out.bt (ht.toBt (lo := w5.heap.size) (hi := w6.heap.size) HG0.out.1 HG0.out.2) (by have := HSZ.out; simp; omega) (by have := HSZ.out; simp; omega) (by have := HSZ.out; omega))
    obtain ⟨⟨b0, b1⟩, _, _⟩ := (HE.out.box (g := w7.heap.size) (by repeat first | with_reducible exact List.mem_cons_self | with_reducible apply List.mem_cons_of_mem)).two
    clear ht HO0
    go_wp2_with fail
    refine (markAtm_any _ _ ws hs (1 + 4 * ms.length) _ w6.heap.size w7.heap.size v9 (HE.out.own (lo := w6.heap.size) (hi := w7.heap.size) (xs := ws) (by repeat first | with_reducible exact List.mem_cons_self | with_reducible apply List.mem_cons_of_mem)).o (HE.out.own (lo := w6.heap.size) (hi := w7.heap.size) (xs := hs) (by repeat first | with_reducible exact List.mem_cons_self | with_reducible apply List.mem_cons_of_mem)).o HPA.out (by have := HL0.out; have := HL1.out; omega) (HE.out.own (lo := w6.heap.size) (hi := w7.heap.size) (xs := ws) (by repeat first | with_reducible exact List.mem_cons_self | with_reducible apply List.mem_cons_of_mem)).lo (HE.out.own (lo := w6.heap.size) (hi := w7.heap.size) (xs := hs) (by repeat first | with_reducible exact List.mem_cons_self | with_reducible apply List.mem_cons_of_mem)).lo).mono ?_
    rintro e v10 ⟨rfl, _, _, hbt⟩
    have HE := hid ((HE.out.del5.del5).bt hbt.1 (by have := HSZ.out; simp; omega) (by have := HSZ.out; simp; omega) (by have := HSZ.out; omega))
    clear b0 b1 hbt
    obtain ⟨⟨b0, b1, b2, b3, b4, b5, b6⟩, _⟩ := (HE.out.box (g := w8.heap.size) (by repeat first | with_reducible exact List.mem_cons_self | with_reducible apply List.mem_cons_of_mem)).seven
    go_wp2_with fail
    refine (markReq_any r _ _ (1 + 4 * ms.length + ws.length + hs.length) _ W7.heap.size w8.heap.size v10 (HE.out.own (lo := W7.heap.size) (hi := w8.heap.size) (xs := r.data) (by repeat first | with_reducible exact List.mem_cons_self | with_reducible apply List.mem_cons_of_mem)).o (HE.out.own (lo := W7.heap.size) (hi := w8.heap.size) (xs := r.lanes) (by repeat first | with_reducible exact List.mem_cons_self | with_reducible apply List.mem_cons_of_mem)).o HPQ.out (by have := HL0.out; have := HL1.out; have := HL2.out; omega) (HE.out.own (lo := W7.heap.size) (hi := w8.heap.size) (xs := r.data) (by repeat first | with_reducible exact List.mem_cons_self | with_reducible apply List.mem_cons_of_mem)).lo (HE.out.own (lo := W7.heap.size) (hi := w8.heap.size) (xs := r.lanes) (by repeat first | with_reducible exact List.mem_cons_self | with_reducible apply List.mem_cons_of_mem)).lo).mono ?_
    rintro e v11 ⟨rfl, hbt⟩
    have HE := hid ((HE.out.del3.del3).bt hbt (by have := HSZ.out; simp; omega) (by have := HSZ.out; simp; omega) (by have := HSZ.out; omega))
    clear b0 b1 b2 b3 b4 b5 b6 hbt
    obtain ⟨kk, hkk⟩ : ∃ kk : Nat, kk = 1 + 4 * ms.length + ws.length + hs.length + r.data.length + r.lanes.length := ⟨_, rfl⟩
    rw [← hkk]
    have hk64 : kk ≤ 1152921504606846976 := by have := HL0.out; have := HL1.out; have := HL2.out; omega
    clear hkk
    have hl_0 := (HE.out.box (g := w9.heap.size + 1) (by repeat first | with_reducible exact List.mem_cons_self | with_reducible apply List.mem_cons_of_mem)).lt
    obtain ⟨⟨a0, a1⟩, _, _⟩ := (HE.out.box (g := ga) (by repeat first | with_reducible exact List.mem_cons_self | with_reducible apply List.mem_cons_of_mem)).two
    obtain ⟨⟨b0, b1, b2⟩, _, _, _⟩ := (HE.out.box (g := gr) (by repeat first | with_reducible exact List.mem_cons_self | with_reducible apply List.mem_cons_of_mem)).three
    obtain ⟨⟨c0, c1⟩, _, _⟩ := (HE.out.box (g := w9.heap.size) (by repeat first | with_reducible exact List.mem_cons_self | with_reducible apply List.mem_cons_of_mem)).two
    obtain ⟨⟨d0, d1, d2⟩, _, _, _⟩ := (HE.out.box (g := w9.heap.size + 1) (by repeat first | with_reducible exact List.mem_cons_self | with_reducible apply List.mem_cons_of_mem)).three
    go_wp2_with fail
    clear a0 a1 b0 b1 b2 c0 c1 d0 d1 d2
    clear hl_0
    refine (eqAtm_same _ _ x.1 x.2.1 _ v11 (GW.out _ _ _ HE.out (by repeat first | with_reducible exact List.mem_cons_self | with_reducible apply List.mem_cons_of_mem) (by repeat first | with_reducible exact List.mem_cons_self | with_reducible apply List.mem_cons_of_mem)) (RW.out _ _ _ HE.out (by repeat first | with_reducible exact List.mem_cons_self | with_reducible apply List.mem_cons_of_mem) (by repeat first | with_reducible exact List.mem_cons_self | with_reducible apply List.mem_cons_of_mem)) (Nat.le_refl _)).mono ?_
    rintro e v12 ⟨rfl, hb⟩
    have HE := hid (HE.out.below hb); clear hb
    have hl_12 := (HE.out.box (g := w9.heap.size + 1) (by repeat first | with_reducible exact List.mem_cons_self | with_reducible apply List.mem_cons_of_mem)).lt
    obtain ⟨⟨a0, a1⟩, _, _⟩ := (HE.out.box (g := ga) (by repeat first | with_reducible exact List.mem_cons_self | with_reducible apply List.mem_cons_of_mem)).two
    obtain ⟨⟨b0, b1, b2⟩, _, _, _⟩ := (HE.out.box (g := gr) (by repeat first | with_reducible exact List.mem_cons_self | with_reducible apply List.mem_cons_of_mem)).three
    obtain ⟨⟨c0, c1⟩, _, _⟩ := (HE.out.box (g := w9.heap.size) (by repeat first | with_reducible exact List.mem_cons_self | with_reducible apply List.mem_cons_of_mem)).two
    obtain ⟨⟨d0, d1, d2⟩, _, _, _⟩ := (HE.out.box (g := w9.heap.size + 1) (by repeat first | with_reducible exact List.mem_cons_self | with_reducible apply List.mem_cons_of_mem)).three
    go_wp2_with fail
    refine (eqRsp_same _ _ x.2.2 _ v12 (GD.out _ _ _ HE.out (by repeat first | with_reducible exact List.mem_cons_self | with_reducible apply List.mem_cons_of_mem)) (RD.out _ _ _ HE.out (by repeat first | with_reducible exact List.mem_cons_self | with_reducible apply List.mem_cons_of_mem)) (Nat.le_refl _)).mono ?_
    rintro e v13 ⟨rfl, hb⟩
    have HE := hid (HE.out.below hb); clear hb hl_12
    clear a0 a1 b0 b1 b2 c0 c1 d0 d1 d2
    obtain ⟨⟨c0, c1⟩, _, _⟩ := (HE.out.box (g := w9.heap.size) (by repeat first | with_reducible exact List.mem_cons_self | with_reducible apply List.mem_cons_of_mem)).two
    go_wp2_with fail
    refine (markAtm_any _ _ x.1 x.2.1 1 _ W8.heap.size w9.heap.size v13 (HE.out.own (lo := W8.heap.size) (hi := w9.heap.size) (xs := x.1) (by repeat first | with_reducible exact List.mem_cons_self | with_reducible apply List.mem_cons_of_mem)).o (HE.out.own (lo := W8.heap.size) (hi := w9.heap.size) (xs := x.2.1) (by repeat first | with_reducible exact List.mem_cons_self | with_reducible apply List.mem_cons_of_mem)).o HAP.out.1 (by have := HSM.out.lw; have := HSM.out.lh; omega) (HE.out.own (lo := W8.heap.size) (hi := w9.heap.size) (xs := x.1) (by repeat first | with_reducible exact List.mem_cons_self | with_reducible apply List.mem_cons_of_mem)).lo (HE.out.own (lo := W8.heap.size) (hi := w9.heap.size) (xs := x.2.1) (by repeat first | with_reducible exact List.mem_cons_self | with_reducible apply List.mem_cons_of_mem)).lo).mono ?_
    rintro e v14 ⟨rfl, m1, m2, hbt⟩
    have HK := hid (And.intro (HE.out.own (lo := W8.heap.size) (hi := w9.heap.size) (v := .slice ra x.1.length da) (xs := x.1) (by repeat first | with_reducible exact List.mem_cons_self | with_reducible apply List.mem_cons_of_mem)).h (HE.out.own (lo := W8.heap.size) (hi := w9.heap.size) (v := .slice rb x.2.1.length db) (xs := x.2.1) (by repeat first | with_reducible exact List.mem_cons_self | with_reducible apply List.mem_cons_of_mem)).h)
    have HDO := hid (HE.out.own (lo := W8.heap.size) (hi := w9.heap.size) (v := .slice rd x.2.2.data.length dd) (xs := x.2.2.data) (by repeat first | with_reducible exact List.mem_cons_self | with_reducible apply List.mem_cons_of_mem))
    have HE := hid ((HE.out.del0.del0.del0).bt hbt.1 (by have := HSZ.out; simp; omega) (by have := HSZ.out; simp; omega) (by have := HSZ.out; omega))
    have HDO := hid (Ow.mk (hbt.2 _ _ HDO.out.o HAP.out.2.1 HAP.out.2.2) HDO.out.h)
    have M1 := hid m1; have M2 := hid m2
    clear hbt m1 m2 c0 c1
    obtain ⟨⟨d0, d1, d2⟩, _, _, _⟩ := (HE.out.box (g := w9.heap.size + 1) (by repeat first | with_reducible exact List.mem_cons_self | with_reducible apply List.mem_cons_of_mem)).three
    go_wp2_with fail
    refine (markRsp_any x.2.2 _ (1 + x.1.length + x.2.1.length) _ v14 HDO.out.o (by have := HSM.out.lw; have := HSM.out.lh; have := HSM.out.ld; omega)).mono ?_
    rintro e v15 ⟨rfl, m3, hkb⟩
    have HE := hid (((((HE.out.bt (hkb.bt HDO.out.lo) (by have := HSZ.out; simp; omega) (by have := HSZ.out; simp; omega) (by have := HSZ.out; omega)).addO (Ow.mk m3 HDO.out.h)).addO (Ow.mk (hkb.other M2.out HAP.out.2.2) HK.out.2)).addO (Ow.mk (hkb.other M1.out HAP.out.2.1) HK.out.1)))
    clear m3 hkb d0 d1 d2 M1 M2 HDO HK
    have HML := hid (show x.1.length ≤ 64 ∧ x.2.1.length ≤ 6 ∧ x.2.2.data.length ≤ 4 from ⟨HSM.out.lw, HSM.out.lh, HSM.out.ld⟩)
    have HW := hid (show ∀ (W : World) bs os, EX w bs os W → (W8.heap.size, w9.heap.size, Value.slice ra x.1.length da, marks 1 x.1.length) ∈ os → (W8.heap.size, w9.heap.size, Value.slice rb x.2.1.length db, marks (1 + x.1.length) x.2.1.length) ∈ os → AtmV W W.heap.size (.agg #[.slice ra x.1.length da, .slice rb x.2.1.length db]) (marks 1 x.1.length) (marks (1 + x.1.length) x.2.1.length) from fun W bs os h m1 m2 => ⟨_, _, rfl, (h.own m1).ints (by rw [marks_len]; have := HML.out; omega) (marks_64 (by have := HML.out; omega)), (h.own m2).ints (by rw [marks_len]; have := HML.out; omega) (marks_64 (by have := HML.out; omega))⟩)
    have HD := hid (show ∀ (W : World) bs os, EX w bs os W → (W8.heap.size, w9.heap.size, Value.slice rd x.2.2.data.length dd, marks (1 + x.1.length + x.2.1.length) x.2.2.data.length) ∈ os → Ints W W.heap.size (.slice rd x.2.2.data.length dd) (marks (1 + x.1.length + x.2.1.length) x.2.2.data.length) from fun W bs os h m1 => (h.own m1).ints (by rw [marks_len]; have := HML.out; omega) (marks_64 (by have := HML.out; omega)))
    obtain ⟨⟨c0, c1⟩, _, _⟩ := (HE.out.box (g := w9.heap.size) (by repeat first | with_reducible exact List.mem_cons_self | with_reducible apply List.mem_cons_of_mem)).two
    go_wp2_with fail
    refine (heldAtm_any _ x.1.length x.2.1.length 1 _ v15 (HW.out _ _ _ HE.out (by repeat first | with_reducible exact List.mem_cons_self | with_reducible apply List.mem_cons_of_mem) (by repeat first | with_reducible exact List.mem_cons_self | with_reducible apply List.mem_cons_of_mem)) (Nat.le_refl _) (by have := HML.out; omega)).mono ?_
    rintro e v16 ⟨rfl, hb⟩
    have HE := hid (HE.out.below hb); clear hb c0 c1
    obtain ⟨⟨d0, d1, d2⟩, _, _, _⟩ := (HE.out.box (g := w9.heap.size + 1) (by repeat first | with_reducible exact List.mem_cons_self | with_reducible apply List.mem_cons_of_mem)).three
    go_wp2_with fail
    refine (heldRsp_any _ _ _ x.2.2.data.length (1 + x.1.length + x.2.1.length) _ v16 (HD.out _ _ _ HE.out (by repeat first | with_reducible exact List.mem_cons_self | with_reducible apply List.mem_cons_of_mem)) (Nat.le_refl _) (by have := HML.out; omega)).mono ?_
    rintro e v17 ⟨rfl, hb⟩
    have HE := hid (HE.out.below hb); clear hb d0 d1 d2
    go_upto_region 42 with fail
    go_cut [20, 21] from 129 to 139 (fun p q wd => XrP p q x v17 wd)
    case first =>
      rename_i J K' hJ hK
      exact xb_region _ _ _ _ _ _ _ _ _ _ _ _ _ _ _ _ _ _ _ _ _ _ _ _ _ _ _ _ _ _ _ _ _ _ _ _ _ _ _ _ _ _ _ _ _ _ _ _ _ _ _ _ _ _ _ _ _ _ _ _ _ _ _ _ _ _ _ _ _ _ _ _ _ _ _ _ _ _ _ _ _ _ _ _ _ _ _ _ _ _ _ _ _ _ _ _ _ _ _ _ _ _ _ _ _ _ _ _ _ _ _ _ _ _ _ _ _ _ _ _ _ _ _ _ _ _ _ _ _ _ _ _ _ _ _ _ _ _ _ _ _ _ _ _ _ _ _ _ _ _ _ _ _ _ _ _ _ _ _ v who w.heap.size (w.heap.size + 1) wv hv2 dv lv r x v17 ms ws hs HX (HE.out.box (by repeat first | with_reducible exact List.mem_cons_self | with_reducible apply List.mem_cons_of_mem)) (HE.out.box (by repeat first | with_reducible exact List.mem_cons_self | with_reducible apply List.mem_cons_of_mem)) (HMC.out v17 HE.out.w) (HAC.out v17 HE.out.w) HA2.out (HQC.out v17 HE.out.w) HQ2.out HL0.out.2.2 HL1.out.2.2.1 HL1.out.2.2.2 HL2.out.1 HL2.out.2 (fun u20 u21 u129 u130 u131 u132 u133 u134 u135 u136 u137 u138 u139 wd h => hK _ _ (Met.intro (hJ _ _ ⟨u20, u21, u129, u130, u131, u132, u133, u134, u135, u136, u137, u138, u139, h, rfl⟩)))
    case rest =>
      obtain ⟨v18, hw5⟩ : ∃ W, W = wc := ⟨_, rfl⟩
      subst hw5
      obtain ⟨hga, hgr, va, vb, vd, rfl, rfl, _, _, hA0, hR0, o1, o2, o3, hb5⟩ := hcut
      obtain ⟨ta, na, rfl, _, _⟩ := o1.shape
      obtain ⟨tb, nb, rfl, _, _⟩ := o2.shape
      obtain ⟨td, nd, rfl, _, _⟩ := o3.shape
      have HE := hid ((HE.out.below hb5).addB hA0.bx |>.addB hR0.bx)
      have I1 := hid (o1.ints HSW.out.1 HSM.out.w); have I2 := hid (o2.ints HSW.out.2.1 HSM.out.h); have I3 := hid (o3.ints HSW.out.2.2 HSM.out.d)
      clear hA0 hR0 o1 o2 o3 hb5
      have hl1 := (HE.out.box (g := hga) (by repeat first | with_reducible exact List.mem_cons_self | with_reducible apply List.mem_cons_of_mem)).lt
      have hl2 := (HE.out.box (g := hgr) (by repeat first | with_reducible exact List.mem_cons_self | with_reducible apply List.mem_cons_of_mem)).lt
      obtain ⟨⟨a0, a1⟩, _, _⟩ := (HE.out.box (g := ga) (by repeat first | with_reducible exact List.mem_cons_self | with_reducible apply List.mem_cons_of_mem)).two
      obtain ⟨⟨c0, c1⟩, _, _⟩ := (HE.out.box (g := hga) (by repeat first | with_reducible exact List.mem_cons_self | with_reducible apply List.mem_cons_of_mem)).two
      go_wp2_with fail
      refine (eqAtm_same _ _ x.1 x.2.1 _ v18 ⟨_, _, rfl, I1.out, I2.out⟩ (RW.out _ _ _ HE.out (by repeat first | with_reducible exact List.mem_cons_self | with_reducible apply List.mem_cons_of_mem) (by repeat first | with_reducible exact List.mem_cons_self | with_reducible apply List.mem_cons_of_mem)) (Nat.le_refl _)).mono ?_
      rintro e v19 ⟨rfl, hb⟩
      have HE := hid (HE.out.below hb); have I3 := hid ((I3.out.below hb).mono hb.size); clear hb a0 a1 c0 c1 I1 I2
      obtain ⟨⟨b0, b1, b2⟩, _, _, _⟩ := (HE.out.box (g := gr) (by repeat first | with_reducible exact List.mem_cons_self | with_reducible apply List.mem_cons_of_mem)).three
      obtain ⟨⟨d0, d1, d2⟩, _, _, _⟩ := (HE.out.box (g := hgr) (by repeat first | with_reducible exact List.mem_cons_self | with_reducible apply List.mem_cons_of_mem)).three
      go_wp2_with fail
      refine (eqRsp_same _ _ x.2.2 _ v19 ⟨_, rfl, I3.out, HSM.out.i, HSM.out.c⟩ (RD.out _ _ _ HE.out (by repeat first | with_reducible exact List.mem_cons_self | with_reducible apply List.mem_cons_of_mem)) (Nat.le_refl _)).mono ?_
      rintro e v20 ⟨rfl, hb⟩
      have HE := hid (HE.out.below hb); clear hb b0 b1 b2 d0 d1 d2 I3 hl1 hl2
      obtain ⟨⟨c0, c1⟩, _, _⟩ := (HE.out.box (g := w9.heap.size) (by repeat first | with_reducible exact List.mem_cons_self | with_reducible apply List.mem_cons_of_mem)).two
      go_wp2_with fail
      refine (heldAtm_any _ x.1.length x.2.1.length 1 _ v20 (HW.out _ _ _ HE.out (by repeat first | with_reducible exact List.mem_cons_self | with_reducible apply List.mem_cons_of_mem) (by repeat first | with_reducible exact List.mem_cons_self | with_reducible apply List.mem_cons_of_mem)) (Nat.le_refl _) (by have := HML.out; omega)).mono ?_
      rintro e v21 ⟨rfl, hb⟩
      have HE := hid (HE.out.below hb); clear hb c0 c1
      obtain ⟨⟨d0, d1, d2⟩, _, _, _⟩ := (HE.out.box (g := w9.heap.size + 1) (by repeat first | with_reducible exact List.mem_cons_self | with_reducible apply List.mem_cons_of_mem)).three
      go_wp2_with fail
      refine (heldRsp_any _ _ _ x.2.2.data.length (1 + x.1.length + x.2.1.length) _ v21 (HD.out _ _ _ HE.out (by repeat first | with_reducible exact List.mem_cons_self | with_reducible apply List.mem_cons_of_mem)) (Nat.le_refl _) (by have := HML.out; omega)).mono ?_
      rintro e v22 ⟨rfl, hb⟩
      have HE := hid (HE.out.below hb); clear hb d0 d1 d2
      go_wp2_with fail
      go_ret
      exact ⟨rfl, HE.out.w⟩

end Go.Proofs.Yteamebdehembgaa

namespace Go.Proofs.Yteamebdehembgaa
open Go.ChangeShapes Go.WideShapes Go.ChangeAt Go.RowKit Go.Deep

set_option maxRecDepth 100000 in
theorem exactAtmDo_lifted (os : Os) (started : os.Started) (H : Type) (enc : TypeId × Value → H) :
    ReturnsInHanded {} Try.checked os 6 .any (Rows.fnExactAtmDoSpec.pre6 enc Try.prog Try.f6 Rows.fnExactAtmDoRow.domain false) (Rows.fnExactAtmDoSpec.post enc Try.prog Try.f6 false true false false) := by
  refine law_lifted started enc 6 Try.f6 Rows.fnExactAtmDoSpec rfl (by kernel_rfl) Try.func6
    (ChangeSpec.witness6 (enc := enc) (C := Try.checked) false ⟨#[], #[.slice none 0 0, .agg #[.slice none 0 0, .slice none 0 0], .int .i64 0, .agg #[.int .i64 0, .int .i64 0, .int .i64 0, .int .i64 0, .bool false, .slice none 0 0, .slice none 0 0]], []⟩ 8 (by kernel_rfl) (by kernel_rfl) (by kernel_rfl) (by kernel_rfl)) rfl ?_ ?_ ?_
  · intro t ht
    simp [Try.params6] at ht
    rcases ht with rfl | rfl | rfl | rfl <;> exact ⟨by kernel_rfl, of_decide_eq_true (by kernel_rfl)⟩
  · intro ds hl
    simp [Try.params6] at hl
    match ds, hl with
    | [d1, d2, d3, d4], _ => exact ⟨rfl, rfl, rfl⟩
  · intro W base args ds p hval hA hlt hw
    rw [Try.params6] at hA hval hw
    obtain ⟨v0, v1, v2, v3, d0, d1, d2, d3, p0, p1, p2, p3, rfl, rfl, rfl, h0, h1, h2, h3⟩ := trodAll_four hA
    obtain ⟨ao, l, c, rfl⟩ := okWide_slice Try.underlying49 (hval 0 49 v0 rfl rfl)
    obtain ⟨cs, rfl, _⟩ := okWide_struct Try.underlying59 (hval 1 59 v1 rfl rfl)
    obtain ⟨who, rfl⟩ := okWide_int Try.underlying3 (hval 2 3 v2 rfl rfl)
    obtain ⟨es, rfl, _⟩ := okWide_struct Try.underlying61 (hval 3 61 v3 rfl rfl)
    have r0 := read_of h0 (fun x hx => hlt x (by simp [hx])) (fun x hx => by
      have := List.all_eq_true.1 hw x (by simp [DataW.weightsEach, hx])
      simpa using this)
    have r1 := read_of h1 (fun x hx => hlt x (by simp [hx])) (fun x hx => by
      have := List.all_eq_true.1 hw x (by simp [DataW.weightsEach, hx])
      simpa using this)
    have r3 := read_of h3 (fun x hx => hlt x (by simp [hx])) (fun x hx => by
      have := List.all_eq_true.1 hw x (by simp [DataW.weightsEach, hx])
      simpa using this)
    obtain ⟨ms, hm⟩ := r0.ranges
    obtain ⟨wv, hv, ws, hs, e1, ha⟩ := r1.atm
    obtain ⟨q, dv, lv, e3, hq⟩ := r3.req
    obtain ⟨cl⟩ := cs
    obtain ⟨el⟩ := es
    obtain rfl : cl = [wv, hv] := by simpa [Value.cells] using e1
    obtain rfl : el = rowQ (q, dv, lv) := by simpa [Value.cells] using e3
    exact exactAtmDo_any _ _ _ ms W.heap.size ws hs who q W hm ha (hq.val (fun b hb => hb)) (Nat.le_refl _)

set_option maxRecDepth 100000 in
theorem exactAtmDo_holds : Rows.FnExactAtmDoSaid :=
  OpenClaim.holds_of_wide 6 Try.f6 rfl rfl rfl rfl rfl rfl rfl ⟨rfl, rfl, rfl, rfl, rfl⟩ rfl rfl rfl rfl rfl (by kernel_rfl) Try.func6 (by kernel_rfl)
    (of_decide_eq_true (by kernel_rfl)) (by unfold Func.isWrapper; first | (rw [if_pos (by decide +kernel)]; kernel_rfl) | (rw [if_neg (by decide +kernel)]; exact ⟨rfl, rfl⟩))
    (fun os started H enc _ => exactAtmDo_lifted os started H enc)
#print axioms exactAtmDo_holds

end Go.Proofs.Yteamebdehembgaa
