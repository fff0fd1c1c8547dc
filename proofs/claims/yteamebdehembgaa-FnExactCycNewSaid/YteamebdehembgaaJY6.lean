/-
  CycNew of the program.
-/
import Derived.Test.YteamebdehembgaaKYc1
import Derived.Test.YteamebdehembgaaJYc5
set_option linter.unusedVariables false
set_option linter.unusedSimpArgs false
namespace Go.Proofs.Yteamebdehembgaa
open Go.RowKit

theorem ports_at {w : World} {lo g o n c : Nat} {ps : List (Int × Int)} (h : Owns w lo 116 4 rowP (.slice (some ⟨g, o, none⟩) n c) ps) (k : Nat) (hk : k < ps.length) :
    ∃ x y, w.cell? ⟨g, o + k * 4, none⟩ = some (.int .i64 x) ∧ w.cell? ⟨g, o + k * 4 + 1, none⟩ = some vnil ∧ w.cell? ⟨g, o + k * 4 + 2, none⟩ = some vnil ∧ w.cell? ⟨g, o + k * 4 + 3, none⟩ = some (.int .i64 y) :=
  ⟨(ps.getD k (0, 0)).1, (ps.getD k (0, 0)).2, h.cellAt rowP_len k 0 (0, 0) hk (by omega), h.cellAt rowP_len k 1 (0, 0) hk (by omega), h.cellAt rowP_len k 2 (0, 0) hk (by omega), h.cellAt rowP_len k 3 (0, 0) hk (by omega)⟩
theorem slaves_at {w : World} {lo g o n c : Nat} {ss : List Int} (h : Owns w lo 118 3 rowS (.slice (some ⟨g, o, none⟩) n c) ss) (k : Nat) (hk : k < ss.length) :
    ∃ x, w.cell? ⟨g, o + k * 3, none⟩ = some vnil ∧ w.cell? ⟨g, o + k * 3 + 1, none⟩ = some vnil ∧ w.cell? ⟨g, o + k * 3 + 2, none⟩ = some (.int .i64 x) :=
  ⟨ss.getD k 0, h.cellAt rowS_len k 0 0 hk (by omega), h.cellAt rowS_len k 1 0 hk (by omega), h.cellAt rowS_len k 2 0 hk (by omega)⟩
theorem heap_below {c : Nat} {w w1 w2 : World} (h : Below c w w1) (hh : w2.heap = w1.heap) (h0 : Below 0 w1 w2) : Below c w w2 :=
  h.trans { h0 with block := fun k _ => by rw [hh] }
def CyCopyP (xs ys : List Int) (ps : List (Int × Int)) (ss : List Int) (w : World) (e : Ending) (w' : World) : Prop := ∃ a b p s, e = .returned (.agg #[a, b, p, s, vnil]) ∧ CyO w' w.heap.size a b p s xs ys ps ss ∧ Below w.heap.size w w'

set_option maxRecDepth 8000 in
set_option maxHeartbeats 8000000 in
theorem cycCopy_any (w : World) {lo : Nat} {a b p s : Value} {xs ys : List Int} {ps : List (Int × Int)} {ss : List Int} (h : CyO w lo a b p s xs ys ps ss) (hx : ∀ x ∈ xs, I64 x) (hy : ∀ x ∈ ys, I64 x) (hl1 : xs.length ≤ 1048576) (hl2 : ys.length ≤ 1048576) (hn : ps.length = 3) (hm : ss.length = 4) :
    Calls Try.prog 78 #[.agg #[a, b, p, s, vnil]] w (CyCopyP xs ys ps ss w) := by
  obtain ⟨sg, so, sc, rfl, sc1, sc2, _, sg2⟩ := Owns.someR h.op (by omega)
  obtain ⟨tg, tp, tc, rfl, tc1, tc2, _, tg2⟩ := Owns.someR h.os (by omega)
  rw [hn, hm] at h ⊢
  rw [hn] at sc1
  rw [hm] at tc1
  obtain ⟨ya, yb, rfl, _, _⟩ := Owns.shape h.oa
  obtain ⟨za, zb, rfl, _, _⟩ := Owns.shape h.ob
  have HC := hid h
  have HA := hid (show ∀ W, Below w.heap.size w W → AtmV W W.heap.size (.agg #[.slice ya xs.length yb, .slice za ys.length zb]) xs ys from fun W hb => ⟨_, _, rfl, (h.oa.below hb).ints (by omega) hx, (h.ob.below hb).ints (by omega) hy⟩)
  have HP := hid (show ∀ W, Below w.heap.size w W → Arr W W.heap.size 4 (.slice (some ⟨sg, so, none⟩) 3 sc) (ps.map rowP) from fun W hb => (h.op.below hb).arr rowP_len (by omega))
  have HT := hid (show ∀ W, Below w.heap.size w W → Arr W W.heap.size 3 (.slice (some ⟨tg, tp, none⟩) 4 tc) (ss.map rowS) from fun W hb => (h.os.below hb).arr rowS_len (by omega))
  have HN := hid hn; have HM := hid hm; have HX1 := hid hl1; have HX2 := hid hl2
  clear h hx hy hn hm hl1 hl2
  go_enter Try.func78, Try.ntmps78
  go_upto_region 1 with fail
  obtain ⟨W2, hW2⟩ : ∃ W2, W2 = (w.alloc (.cells #[.slice ya xs.length yb, .slice za ys.length zb, .slice (some ⟨sg, so, none⟩) 3 sc, .slice (some ⟨tg, tp, none⟩) 4 tc, .slice none 0 0] 45)).alloc (.cells #[.slice none 0 0, .slice none 0 0, .slice none 0 0, .slice none 0 0, .slice none 0 0] 45) := ⟨_, rfl⟩
  have HB2 := hid (show Below w.heap.size w W2 by rw [hW2]; exact (bx1 _ _).alloc (by simp) _)
  have HS := hid (show Bx W2 w.heap.size [.slice ya xs.length yb, .slice za ys.length zb, .slice (some ⟨sg, so, none⟩) 3 sc, .slice (some ⟨tg, tp, none⟩) 4 tc, vnil] by rw [hW2]; exact (Bx.new w #[.slice ya xs.length yb, .slice za ys.length zb, .slice (some ⟨sg, so, none⟩) 3 sc, .slice (some ⟨tg, tp, none⟩) 4 tc, vnil] _ (by simp)).below (bx1 _ _) (by simp))
  have HR := hid (show Bx W2 (w.heap.size + 1) [vnil, vnil, vnil, vnil, vnil] by rw [hW2]; have := Bx.new (w.alloc (.cells #[.slice ya xs.length yb, .slice za ys.length zb, .slice (some ⟨sg, so, none⟩) 3 sc, .slice (some ⟨tg, tp, none⟩) 4 tc, .slice none 0 0] 45)) #[vnil, vnil, vnil, vnil, vnil] 45 (by simp); simpa using this)
  rw [← hW2]
  have HZ := hid (show W2.heap.size = w.heap.size + 2 by rw [hW2]; simp)
  clear hW2
  go_cut [3] from 8 to 20 (fun u wd => YcP u xs ys ps ss W2 wd)
  case first =>
    rename_i J K' hJ hK
    exact y1c_region _ _ _ _ _ _ _ _ _ _ _ _ _ _ _ _ _ _ _ _ _ _ _ _ _ _ _ _ _ _ _ _ _ _ _ _ _ _ _ _ _ _ _ _ _ _ _ _ _ _ _ _ _ _ _ _ _ _ _ _ _ _ _ _ _ _ _ _ _ _ _ w.heap.size _ _ _ _ xs ys ps ss W2 HS.out (HA.out W2 HB2.out) (HP.out W2 HB2.out) (HT.out W2 HB2.out) HX1.out HX2.out (by rw [HN.out]; omega) (by rw [HM.out]; omega) (fun u3 u8 u9 u10 u11 u12 u13 u14 u15 u16 u17 u18 u19 u20 wd h => hK _ _ (Met.intro (hJ _ _ ⟨u3, u8, u9, u10, u11, u12, u13, u14, u15, u16, u17, u18, u19, u20, h, rfl⟩)))
  case rest =>
    obtain ⟨g, a2, b2, p2, s2, rfl, hg, hB, hC, hb⟩ := hcut
    obtain ⟨pg, po, pc, rfl, pc1, pc2, _, pg2⟩ := Owns.someR hC.op (by rw [HN.out]; omega)
    obtain ⟨qg, qo, qc, rfl, qc1, qc2, _, qg2⟩ := Owns.someR hC.os (by rw [HM.out]; omega)
    obtain ⟨ya2, yb2, rfl, _, _⟩ := Owns.shape hC.oa
    obtain ⟨za2, zb2, rfl, _, _⟩ := Owns.shape hC.ob
    rw [HN.out, HM.out] at hC hB
    rw [HN.out] at pc1
    rw [HM.out] at qc1
    have HBx := hid hB; have HCx := hid hC
    have HBe := hid (HB2.out.trans (hb.mono (by rw [HZ.out]; omega)))
    have HSx := hid (HS.out.below hb HS.out.lt)
    have HRx := hid (HR.out.below hb HR.out.lt)
    clear hB hC hb
    obtain ⟨⟨r0, r1, r2, r3, r4⟩, _⟩ := HSx.out.five
    go_wp2_with fail
    clear r0 r1 r2 r3 r4
    go_loopw [24] (fun i wr => ∃ k : Nat, i = .int .i64 k ∧ k ≤ 3 ∧ BoxC wr g (.slice ya2 xs.length yb2) (.slice za2 ys.length zb2) (.slice (some ⟨pg, po, none⟩) 3 pc) (.slice (some ⟨qg, qo, none⟩) 4 qc) vnil ∧ CyO wr W2.heap.size (.slice ya2 xs.length yb2) (.slice za2 ys.length zb2) (.slice (some ⟨pg, po, none⟩) 3 pc) (.slice (some ⟨qg, qo, none⟩) 4 qc) xs ys ps ss ∧ Below w.heap.size w wr ∧ Bx wr w.heap.size [.slice ya xs.length yb, .slice za ys.length zb, .slice (some ⟨sg, so, none⟩) 3 sc, .slice (some ⟨tg, tp, none⟩) 4 tc, vnil] ∧ Bx wr (w.heap.size + 1) [vnil, vnil, vnil, vnil, vnil]) (fun i _ => 3 - (intOf i).toNat)
    case atStart => exact ⟨0, rfl, by omega, HBx.out, HCx.out, HBe.out, HSx.out, HRx.out⟩
    case round =>
      clear HBx HCx HBe HSx HRx
      obtain ⟨k, rfl, hk3, hB, hC, hbl, hS, hR⟩ := hrel
      have HBx := hid hB; have HCx := hid hC; have HBe := hid hbl; have HSx := hid hS; have HRx := hid hR
      clear hB hC hbl hS hR
      by_cases hlt : k < 3
      · obtain ⟨x, y, c0, c1, c2, c3⟩ := ports_at (HC.out.below HBe.out).op k (by rw [HN.out]; omega)
        have hzz := hid (Nat.le_trans (show w.heap.size ≤ w.heap.size from Nat.le_refl _) HBe.out.size)
        go_upto_region 5 with fail
        clear c0 c1 c2 c3
        obtain ⟨wo, hwo⟩ : ∃ W, W = wr := ⟨_, rfl⟩
        subst hwo
        obtain ⟨W3, hW3⟩ : ∃ W3, W3 = wo.alloc (.cells #[.int .i64 x, .slice none 0 0, .slice none 0 0, .int .i64 y] 116) := ⟨_, rfl⟩
        rw [← hW3]
        have HB3 := hid (show Below wo.heap.size wo W3 by rw [hW3]; exact bx1 _ _)
        have HE1 := hid (show W3.cell? ⟨wo.heap.size, 1, none⟩ = some vnil by rw [hW3]; simp [go_sem])
        have HE2 := hid (show W3.cell? ⟨wo.heap.size, 2, none⟩ = some vnil by rw [hW3]; simp [go_sem])
        have HBy := hid (HBx.out.below HB3.out HBx.out.lt)
        have HCy := hid (HCx.out.below HB3.out)
        have HZ3 := hid (show W3.heap.size = wo.heap.size + 1 by rw [hW3]; simp)
        clear hW3
        obtain ⟨x, y, c0, c1, c2, c3⟩ := ports_at HCy.out.op k (by rw [HN.out]; omega)
        have HC1 := hid c1; have HC2 := hid c2
        clear c0 c1 c2 c3
        refine y5c_region _ _ _ _ _ _ _ _ _ _ _ _ _ _ _ _ _ _ _ _ _ _ _ _ _ _ _ _ _ _ _ _ _ _ _ _ _ _ _ _ _ _ _ _ _ _ _ _ _ _ _ _ _ _ _ _ _ _ _ _ _ _ _ _ _ _ _ _ _ g k wo.heap.size pg po 3 pc W3 HBy.out.bx.five.1.2.2.1 hlt HE1.out HC1.out (HCy.out.op.frozenAt _) HE2.out HC2.out (HCy.out.op.frozenAt _) ?_
        intro u29 u30 u31 u32 u33 u34 u35 u36 u37 u38 u39 u40 u41 u42 u43 u44  wc hcut
        obtain ⟨w5, hw5⟩ : ∃ W, W = wc := ⟨_, rfl⟩
        subst hw5
        have HH := hid hcut.1; have H0 := hid hcut.2
        clear hcut
        unfold y5cA
        go_wp2_with fail
        go_roundw
        case rel => exact ⟨k + 1, by go_num, by omega, HBy.out.keep (by rw [HH.out]), HCy.out.heap HH.out, heap_below (HBe.out.trans (HB3.out.mono (HBe.out.size))) HH.out H0.out, (HSx.out.below HB3.out HSx.out.lt).kept (by rw [HH.out]), (HRx.out.below HB3.out HRx.out.lt).kept (by rw [HH.out])⟩
        case measure => simp [intOf]; omega
      · obtain rfl : k = 3 := by omega
        obtain ⟨⟨r0, r1, r2, r3, r4⟩, _⟩ := HSx.out.five
        go_wp2_with fail
        clear r0 r1 r2 r3 r4
        go_loopw [49] (fun i wr => ∃ k : Nat, i = .int .i64 k ∧ k ≤ 4 ∧ BoxC wr g (.slice ya2 xs.length yb2) (.slice za2 ys.length zb2) (.slice (some ⟨pg, po, none⟩) 3 pc) (.slice (some ⟨qg, qo, none⟩) 4 qc) vnil ∧ CyO wr W2.heap.size (.slice ya2 xs.length yb2) (.slice za2 ys.length zb2) (.slice (some ⟨pg, po, none⟩) 3 pc) (.slice (some ⟨qg, qo, none⟩) 4 qc) xs ys ps ss ∧ Below w.heap.size w wr ∧ Bx wr w.heap.size [.slice ya xs.length yb, .slice za ys.length zb, .slice (some ⟨sg, so, none⟩) 3 sc, .slice (some ⟨tg, tp, none⟩) 4 tc, vnil] ∧ Bx wr (w.heap.size + 1) [vnil, vnil, vnil, vnil, vnil]) (fun i _ => 4 - (intOf i).toNat)
        case atStart => exact ⟨0, rfl, by omega, HBx.out, HCx.out, HBe.out, HSx.out, HRx.out⟩
        case round =>
          clear HBx HCx HBe HSx HRx
          obtain ⟨k, rfl, hk3, hB, hC, hbl, hS, hR⟩ := hrel
          have HBx := hid hB; have HCx := hid hC; have HBe := hid hbl; have HSx := hid hS; have HRx := hid hR
          clear hB hC hbl hS hR
          by_cases hlt : k < 4
          · obtain ⟨x, c0, c1, c2⟩ := slaves_at (HC.out.below HBe.out).os k (by rw [HM.out]; omega)
            have hzz := hid (Nat.le_trans (show w.heap.size ≤ w.heap.size from Nat.le_refl _) HBe.out.size)
            go_upto_region 10 with fail
            clear c0 c1 c2
            obtain ⟨wo, hwo⟩ : ∃ W, W = wr := ⟨_, rfl⟩
            subst hwo
            obtain ⟨W3, hW3⟩ : ∃ W3, W3 = wo.alloc (.cells #[.slice none 0 0, .slice none 0 0, .int .i64 x] 118) := ⟨_, rfl⟩
            rw [← hW3]
            have HB3 := hid (show Below wo.heap.size wo W3 by rw [hW3]; exact bx1 _ _)
            have HE1 := hid (show W3.cell? ⟨wo.heap.size, 0, none⟩ = some vnil by rw [hW3]; simp [go_sem])
            have HE2 := hid (show W3.cell? ⟨wo.heap.size, 1, none⟩ = some vnil by rw [hW3]; simp [go_sem])
            have HBy := hid (HBx.out.below HB3.out HBx.out.lt)
            have HCy := hid (HCx.out.below HB3.out)
            have HZ3 := hid (show W3.heap.size = wo.heap.size + 1 by rw [hW3]; simp)
            clear hW3
            obtain ⟨x, c0, c1, c2⟩ := slaves_at HCy.out.os k (by rw [HM.out]; omega)
            have HC1 := hid c0; have HC2 := hid c1
            clear c0 c1 c2
            refine y10c_region _ _ _ _ _ _ _ _ _ _ _ _ _ _ _ _ _ _ _ _ _ _ _ _ _ _ _ _ _ _ _ _ _ _ _ _ _ _ _ _ _ _ _ _ _ _ _ _ _ _ _ _ _ _ _ _ _ _ _ _ _ _ _ _ _ _ _ _ _ g k wo.heap.size qg qo 4 qc W3 HBy.out.bx.five.1.2.2.2.1 hlt HE1.out HC1.out (HCy.out.os.frozenAt _) HE2.out HC2.out (HCy.out.os.frozenAt _) ?_
            intro u54 u55 u56 u57 u58 u59 u60 u61 u62 u63 u64 u65 u66 u67 u68 u69  wc hcut
            obtain ⟨w5, hw5⟩ : ∃ W, W = wc := ⟨_, rfl⟩
            subst hw5
            have HH := hid hcut.1; have H0 := hid hcut.2
            clear hcut
            unfold y10cA
            go_wp2_with fail
            go_roundw
            case rel => exact ⟨k + 1, by go_num, by omega, HBy.out.keep (by rw [HH.out]), HCy.out.heap HH.out, heap_below (HBe.out.trans (HB3.out.mono (HBe.out.size))) HH.out H0.out, (HSx.out.below HB3.out HSx.out.lt).kept (by rw [HH.out]), (HRx.out.below HB3.out HRx.out.lt).kept (by rw [HH.out])⟩
            case measure => simp [intOf]; omega
          · obtain rfl : k = 4 := by omega
            obtain ⟨⟨r0, r1, r2, r3, r4⟩, _⟩ := HBx.out.bx.five
            obtain ⟨⟨q0, q1, q2, q3, q4⟩, f0, f1, f2, f3, f4⟩ := HRx.out.five
            have hrl := HRx.out.lt
            go_wp2_with fail
            refine bodyPost_ret (results_c1 Try.results78 _ _ ⟨w.heap.size + 1, 0, none⟩ (.agg #[.slice ya2 xs.length yb2, .slice za2 ys.length zb2, .slice (some ⟨pg, po, none⟩) 3 pc, .slice (some ⟨qg, qo, none⟩) 4 qc, vnil]) rfl (loadVar_cyc _ _ _ _ _ _ _ (by simp [go_sem, *]) (by simp [go_sem, *]) (by simp [go_sem, *]) (by simp [go_sem, *]) (by simp [go_sem, *]))) rfl ⟨_, _, _, _, rfl, ?_, ?_⟩
            · have hz := HZ.out
              exact (HCx.out.kept fun k h1 h2 => (touchC (w.heap.size + 1) _ _ _ _ _ _).block k h2 (by omega)).rebase (by omega)
            · exact ((((HBe.out.setCell (by exact Nat.le_succ _) _).setCell (by exact Nat.le_succ _) _).setCell (by exact Nat.le_succ _) _).setCell (by exact Nat.le_succ _) _).setCell (by exact Nat.le_succ _) _

end Go.Proofs.Yteamebdehembgaa

namespace Go.Proofs.Yteamebdehembgaa
open Go.RowKit

theorem i64_z64 : ∀ x ∈ z64, I64 x := by intro x hx; obtain ⟨_, rfl⟩ := List.mem_replicate.1 hx; exact ⟨by omega, by omega⟩
theorem i64_z6 : ∀ x ∈ z6, I64 x := by intro x hx; obtain ⟨_, rfl⟩ := List.mem_replicate.1 hx; exact ⟨by omega, by omega⟩

set_option maxRecDepth 8000 in
set_option maxHeartbeats 8000000 in
theorem implCycNew_any (w : World) : Calls Try.prog 17 #[] w (CyNewP w) := by
  go_enter Try.func17, Try.ntmps17
  go_wp2_with fail
  refine (implAtmNewW_any _).mono ?_
  rintro e w1 ⟨wa, wc, g, ga, go, gc, rfl, o1, o2, _, _, hap, hb⟩
  have HR := hid ((Bx.new w #[vnil, vnil, vnil, vnil, vnil] 45 (by simp)).below hb (by simp))
  have HB1 := hid ((bx1 w _).trans (hb.mono (by simp)))
  have O1 := hid o1; have O2 := hid o2; have AP := hid hap
  clear o1 o2 hap hb
  obtain ⟨⟨r0, r1, r2, r3, r4⟩, f0, f1, f2, f3, f4⟩ := HR.out.five
  have hz1 := HR.out.lt
  go_wp2_with fail
  clear r0 r1 r2 r3 r4 f0 f1 f2 f3 f4
  obtain ⟨W2, hW2⟩ : ∃ W2, W2 = w1.alloc (.cells #[.slice (some ⟨g, wa, none⟩) 64 wc, .slice (some ⟨ga, go, none⟩) 6 gc, .slice none 0 0, .slice none 0 0, .slice none 0 0] 45) := ⟨_, rfl⟩
  rw [← hW2]
  have hb2 : Below w1.heap.size w1 W2 := by rw [hW2]; exact bx1 _ _
  have hz2 : W2.heap.size = w1.heap.size + 1 := by rw [hW2]; simp
  have HS := hid (show Bx W2 w1.heap.size [.slice (some ⟨g, wa, none⟩) 64 wc, .slice (some ⟨ga, go, none⟩) 6 gc, vnil, vnil, vnil] by rw [hW2]; exact Bx.new w1 #[.slice (some ⟨g, wa, none⟩) 64 wc, .slice (some ⟨ga, go, none⟩) 6 gc, vnil, vnil, vnil] _ (by simp))
  have HR2 := hid (HR.out.below hb2 hz1)
  have HB2 := hid hb2
  have HZ2 := hid hz2
  clear hW2 hb2 HR hz2
  go_loopw [4] (fun i wr => ∃ (k : Nat) (u : Value), i = .int .i64 k ∧ k ≤ 3 ∧ Owns wr (w1.heap.size + 1) 116 4 rowP u (List.replicate k ((0, 3) : Int × Int)) ∧ Below w1.heap.size W2 wr ∧ Bx wr w.heap.size [vnil, vnil, vnil, vnil, vnil] ∧ Bx wr w1.heap.size [.slice (some ⟨g, wa, none⟩) 64 wc, .slice (some ⟨ga, go, none⟩) 6 gc, u, vnil, vnil] ∧ w1.heap.size + 1 ≤ wr.heap.size) (fun i _ => 3 - (intOf i).toNat)
  case atStart => exact ⟨0, _, rfl, by omega, Owns.zero, Below.refl _ _, HR2.out, HS.out, by have := HZ2.out; omega⟩
  case round =>
    clear HS HR2
    obtain ⟨k, u, rfl, hk3, hown, hbl, hr, hs, hsz⟩ := hrel
    have HOW := hid hown; have HBL := hid hbl; have HR := hid hr; have HS := hid hs; have HSZ := hid hsz
    clear hown hbl hr hs hsz
    have hrep := hid (show List.replicate k ((0, 3) : Int × Int) ++ [(0, 3)] = List.replicate (k + 1) (0, 3) from by rw [List.replicate_succ'])
    have hlr := hid (show (List.replicate k ((0, 3) : Int × Int)).length = k from by simp)
    obtain ⟨⟨s0, s1, s2, s3, s4⟩, e0, e1, e2, e3, e4⟩ := HS.out.five
    have hsl := HS.out.lt
    by_cases hlt : k < 3
    · go_wp2_with (at_builtin; go_must (refine wpList_push elem_portY rowP rowP_len rowP_one wr rfl _ _ rfl (w1.heap.size + 1) _ _ (0, 3) (by rfl) HOW.out _ (by rfl) (by rfl) (by rw [hlr.out]; omega) (by rw [hlr.out]; omega) HSZ.out ?_); intro v' w3 hown1 hb1; rw [hrep.out] at hown1; obtain ⟨va, vc, hv', hvc1, hvc2⟩ := hown1.shape; rw [List.length_replicate] at hv'; subst hv'; have HS3 := hid (HS.out.below hb1 (by omega)); have HR3 := hid (HR.out.below hb1 (by omega)); obtain ⟨⟨s0, s1, s2, s3, s4⟩, e0, e1, e2, e3, e4⟩ := HS3.out.five; have hsl3 := HS3.out.lt; have HO1 := hid hown1; have HB1' := hid hb1; clear hown1 hb1)
      go_roundw
      case rel => exact ⟨k + 1, _, by go_num, by omega, HO1.out.set' _ _ _ (fun j hj => by have := (OwnR.lt HO1.out j hj).1; omega), (HBL.out.trans (HB1'.out.mono (by omega))).setCell (by exact Nat.le_refl _) _, HR3.out.kept (Below.heap_setCell _ _ _ _ (by show w.heap.size ≠ w1.heap.size; omega)), HS3.out.set 2 (by simp) _, by have := HB1'.out.size; have := HSZ.out; simp [World.setCell]; omega⟩
      case measure => simp [intOf]; omega
    · obtain rfl : k = 3 := by omega
      go_wp2_with fail
      obtain ⟨wo, hwo⟩ : ∃ W, W = wr := ⟨_, rfl⟩
      subst hwo
      have hz3 : w1.heap.size < wo.heap.size := hsl
      clear s0 s1 s2 s3 s4 e0 e1 e2 e3 e4
      have hc3 : ((3 : Nat) : Int) = 3 := rfl
      simp only [hc3]
      clear hc3
      go_loopw [13] (fun i wx => ∃ (k : Nat) (v : Value), i = .int .i64 k ∧ k ≤ 4 ∧ Owns wx wo.heap.size 118 3 rowS v (List.replicate k (2 : Int)) ∧ Owns wx (w1.heap.size + 1) 116 4 rowP u (List.replicate 3 ((0, 3) : Int × Int)) ∧ Below w1.heap.size W2 wx ∧ Bx wx w.heap.size [vnil, vnil, vnil, vnil, vnil] ∧ Bx wx w1.heap.size [.slice (some ⟨g, wa, none⟩) 64 wc, .slice (some ⟨ga, go, none⟩) 6 gc, u, v, vnil] ∧ wo.heap.size ≤ wx.heap.size) (fun i _ => 4 - (intOf i).toNat)
      case atStart => exact ⟨0, _, rfl, by omega, Owns.zero, HOW.out, HBL.out, HR.out, HS.out, Nat.le_refl _⟩
      case round =>
        have hul := hid (fun j hj => (OwnR.lt HOW.out j hj).2)
        clear HBL HR HS
        obtain ⟨k, v, rfl, hk4, hown, hop, hbl, hr, hs, hsz⟩ := hrel
        have HOS := hid hown; have HOP := hid hop; have HBL := hid hbl; have HR := hid hr; have HS := hid hs; have HSZ2 := hid hsz
        clear hown hop hbl hr hs hsz
        have hrep := hid (show List.replicate k (2 : Int) ++ [2] = List.replicate (k + 1) 2 from by rw [List.replicate_succ'])
        have hlr := hid (show (List.replicate k (2 : Int)).length = k from by simp)
        obtain ⟨⟨s0, s1, s2, s3, s4⟩, e0, e1, e2, e3, e4⟩ := HS.out.five
        have hsl := HS.out.lt
        by_cases hlt4 : k < 4
        · have hle3 : (k : Int) ≤ 3 := by omega
          go_wp2_with (at_builtin; go_must (refine wpList_push elem_slaveY rowS rowS_len rowS_one _ rfl _ _ rfl wo.heap.size _ _ 2 (by rfl) HOS.out _ (by rfl) (by rfl) (by rw [hlr.out]; omega) (by rw [hlr.out]; omega) HSZ2.out ?_); intro v' w3 hown1 hb1; rw [hrep.out] at hown1; obtain ⟨va, vc, hv', hvc1, hvc2⟩ := hown1.shape; rw [List.length_replicate] at hv'; subst hv'; have HS3 := hid (HS.out.below hb1 (by omega)); have HR3 := hid (HR.out.below hb1 (by omega)); have HOP3 := hid (OwnR.below HOP.out hb1 (fun j hj => hul.out j hj)); obtain ⟨⟨s0, s1, s2, s3, s4⟩, e0, e1, e2, e3, e4⟩ := HS3.out.five; have hsl3 := HS3.out.lt; have HO1 := hid hown1; have HB1' := hid hb1; clear hown1 hb1)
          go_roundw
          case rel => exact ⟨k + 1, _, by go_num, by omega, HO1.out.set' _ _ _ (fun j hj => by have := (OwnR.lt HO1.out j hj).1; omega), Owns.set' HOP3.out _ _ _ (fun j hj => by have := (OwnR.lt HOP3.out j hj).1; omega), (HBL.out.trans (HB1'.out.mono (by omega))).setCell (by exact Nat.le_refl _) _, HR3.out.kept (Below.heap_setCell _ _ _ _ (by show w.heap.size ≠ w1.heap.size; omega)), HS3.out.set 3 (by simp) _, by have := HB1'.out.size; have := HSZ2.out; simp [World.setCell]; omega⟩
          case measure => simp [intOf]; omega
        · obtain rfl : k = 4 := by omega
          obtain ⟨pa, pc, rfl, _, _⟩ := HOP.out.shape
          obtain ⟨sa, sc, rfl, _, _⟩ := HOS.out.shape
          simp only [List.length_replicate] at *
          have O1W := hid (OwnR.below (O1.out.below HB2.out) HBL.out (fun j hj => (OwnR.lt O1.out j hj).2))
          have O2W := hid (OwnR.below (O2.out.below HB2.out) HBL.out (fun j hj => (OwnR.lt O2.out j hj).2))
          have hg1 : ∀ j, (Value.slice (some ⟨g, wa, none⟩) 64 wc).ownBlock = some j → w.heap.size + 1 ≤ j ∧ j < w1.heap.size := fun j hj => by have := OwnR.lt O1.out j hj; simpa using this
          have hg2 : ∀ j, (Value.slice (some ⟨ga, go, none⟩) 6 gc).ownBlock = some j → w.heap.size + 1 ≤ j ∧ j < w1.heap.size := fun j hj => by have := OwnR.lt O2.out j hj; simpa using this
          have hg3 : ∀ j, (Value.slice pa 3 pc).ownBlock = some j → w1.heap.size + 1 ≤ j ∧ j < wo.heap.size := fun j hj => ⟨(OwnR.lt HOP.out j hj).1, hul.out j hj⟩
          have hg4 : ∀ j, (Value.slice sa 4 sc).ownBlock = some j → wo.heap.size ≤ j := fun j hj => (OwnR.lt HOS.out j hj).1
          have HCY := hid (show CyO _ w.heap.size (.slice (some ⟨g, wa, none⟩) 64 wc) (.slice (some ⟨ga, go, none⟩) 6 gc) (.slice pa 3 pc) (.slice sa 4 sc) z64 z6 z3 z4 from
            ⟨OwnR.rebase O1W.out (show w.heap.size ≤ _ by simp), OwnR.rebase O2W.out (show w.heap.size ≤ _ by simp), OwnR.rebase HOP.out (show w.heap.size ≤ w1.heap.size + 1 by omega), OwnR.rebase HOS.out (show w.heap.size ≤ wo.heap.size by omega),
              AP.out, Apart.of_lt (m := w1.heap.size) (fun j hj => (hg1 j hj).2) (fun j hj => by have := hg3 j hj; omega), Apart.of_lt (m := w1.heap.size) (fun j hj => (hg1 j hj).2) (fun j hj => by have := hg4 j hj; omega),
              Apart.of_lt (m := w1.heap.size) (fun j hj => (hg2 j hj).2) (fun j hj => by have := hg3 j hj; omega), Apart.of_lt (m := w1.heap.size) (fun j hj => (hg2 j hj).2) (fun j hj => by have := hg4 j hj; omega), Apart.of_lt (m := wo.heap.size) (fun j hj => (hg3 j hj).2) (fun j hj => hg4 j hj)⟩)
          clear hg1 hg2 hg3 hg4
          obtain ⟨⟨s0, s1, s2, s3, s4⟩, _⟩ := HS.out.five
          go_wp2_with fail
          clear s0 s1 s2 s3 s4
          refine (cycCopy_any _ HCY.out i64_z64 i64_z6 (by simp) (by simp) (by simp) (by simp)).mono ?_
          rintro e w5 ⟨a2, b2, p2, s2, rfl, hC, hb5⟩
          have HC5 := hid hC; have HB5 := hid hb5
          clear hC hb5
          obtain ⟨a3, a4, rfl, _, _⟩ := HC5.out.oa.shape
          obtain ⟨b3, b4, rfl, _, _⟩ := HC5.out.ob.shape
          obtain ⟨p3, p4, rfl, _, _⟩ := HC5.out.op.shape
          obtain ⟨s5, s6, rfl, _, _⟩ := HC5.out.os.shape
          have HR5 := hid (HR.out.below HB5.out HR.out.lt)
          obtain ⟨⟨r0, r1, r2, r3, r4⟩, f0, f1, f2, f3, f4⟩ := HR5.out.five
          have hrl := HR.out.lt
          have hr5 := HR5.out.lt
          go_wp2_with fail
          refine bodyPost_ret (results_c1 Try.results17 _ _ ⟨w.heap.size, 0, none⟩ (.agg #[.slice a3 _ a4, .slice b3 _ b4, .slice p3 _ p4, .slice s5 _ s6, vnil]) rfl (loadVar_cyc _ _ _ _ _ _ _ (by simp [go_sem, *]; rfl) (by simp [go_sem, *]; rfl) (by simp [go_sem, *]; rfl) (by simp [go_sem, *]; rfl) (by simp [go_sem, *]))) rfl ⟨_, _, _, _, rfl, ?_, ?_⟩
          · have hz := HB5.out.size
            exact (HC5.out.kept fun k h1 h2 => (touchC w.heap.size _ _ _ _ _ _).block k h2 (by omega)).rebase (by omega)
          · have hbE : Below w.heap.size w w5 := ((HB1.out.trans (HB2.out.mono (by omega))).trans (HBL.out.mono (by omega))).trans (HB5.out.mono (by omega))
            exact ((((hbE.setCell (by exact Nat.le_refl _) _).setCell (by exact Nat.le_refl _) _).setCell (by exact Nat.le_refl _) _).setCell (by exact Nat.le_refl _) _).setCell (by exact Nat.le_refl _) _

end Go.Proofs.Yteamebdehembgaa
