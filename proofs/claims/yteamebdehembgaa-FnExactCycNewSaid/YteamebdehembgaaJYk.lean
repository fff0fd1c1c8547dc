/-
  The exact laws' helpers: a whole bus, marked and held.
-/
import Derived.Test.YteamebdehembgaaJY8
import Derived.Test.YteamebdehembgaaJXt
set_option linter.unusedVariables false
set_option linter.unusedSimpArgs false
namespace Go.Proofs.Yteamebdehembgaa
open Go.RowKit
theorem getD_set_eqY {α : Type} {xs : List α} {k : Nat} (h : k < xs.length) (y d : α) : (xs.set k y).getD k d = y := by simp [List.getD, List.getElem?_set_self h]

def MkPoP (xs : List (Int × Int)) (n m lo g o c : Nat) (w : World) (e : Ending) (w' : World) : Prop := e = .returned (.int .i64 ((m + 2 * n : Nat) : Int)) ∧ Owns w' lo 116 4 rowP (.slice (some ⟨g, o, none⟩) n c) (mk1PG m xs) ∧ Touch g w w'
set_option maxRecDepth 8000 in
set_option maxHeartbeats 8000000 in
theorem markPorts_any (xs : List (Int × Int)) (n m lo g o c : Nat) (w : World) (hn : xs.length = n) (hv : Owns w lo 116 4 rowP (.slice (some ⟨g, o, none⟩) n c) xs) (hm : m ≤ 1048576) (hm2 : n ≤ 1048576) (hc : n ≤ c) :
    Calls Try.prog 82 #[.slice (some ⟨g, o, none⟩) n c, .int .i64 m] w (MkPoP xs n m lo g o c w) := by
  have HV := hid hv; have HN := hid hn
  have hz0 := hid (partG_zero mk1P (fun _ => 2) m xs)
  clear hv hn
  go_enter Try.func82, Try.ntmps82
  go_wp2_with fail
  go_loopw [1, 5] (fun m' i wr => ∃ k : Nat, k ≤ n ∧ m' = .int .i64 ((m + 2 * k : Nat) : Int) ∧ i = .int .i64 k ∧ Owns wr lo 116 4 rowP (.slice (some ⟨g, o, none⟩) n c) (partG mk1P (fun _ => 2) m xs k) ∧ Touch g w wr) (fun _ i _ => n - (intOf i).toNat)
  case atStart => exact ⟨0, Nat.zero_le _, by simp, rfl, by rw [hz0.out]; exact HV.out, Touch.refl _ _⟩
  case round =>
    obtain ⟨k, hk, rfl, rfl, hown, ht⟩ := hrel
    have HO := hid hown; have HT := hid ht
    clear hown ht
    by_cases hlt : k < n
    · have hkl := hid (show k < (partG mk1P (fun _ => 2) m xs k).length by rw [partG_len, HN.out]; exact hlt)
      have hgl := (OwnR.lt HO.out g rfl).2
      have HST := hid (show (partG mk1P (fun _ => 2) m xs k).set k (mk1P (m + 2 * k) (xs.getD k (0, 0))) = partG mk1P (fun _ => 2) m xs (k + 1) by
        have := partG_set mk1P (fun _ => 2) m (show k < xs.length by rw [HN.out]; exact hlt) (0, 0)
        rw [sum_mk1P, List.length_take, Nat.min_eq_left (by rw [HN.out]; omega)] at this
        exact this)
      obtain ⟨mk, hmk⟩ : ∃ mk, mk = m + 2 * k := ⟨_, rfl⟩
      rw [← hmk] at HST
      rw [← hmk]
      have hmb : mk + 2 ≤ 1152921504606846976 := by omega
      have HMK := hid hmk
      clear hmk
      obtain ⟨L, hL⟩ : ∃ L, L = partG mk1P (fun _ => 2) m xs k := ⟨_, rfl⟩
      rw [← hL] at HO hkl HST
      have HL := hid hL
      clear hL
      obtain ⟨x, hx⟩ : ∃ x, x = L.getD k (0, 0) := ⟨_, rfl⟩
      have hr1 := HO.out.putRow rowP_len k 0 (0, 0) ((mk : Int), x.2) (.int .i64 (mk : Int)) hkl.out (by omega) (by rw [← hx]; rfl)
      have hr2 := hr1.putRow rowP_len k 3 (0, 0) ((mk : Int), ((mk + 1 : Nat) : Int)) (.int .i64 ((mk + 1 : Nat) : Int)) (by rw [List.length_set]; exact hkl.out) (by omega) (by rw [getD_set_eqY hkl.out]; rfl)
      rw [List.set_set] at hr2
      rw [show ((mk : Int), ((mk + 1 : Nat) : Int)) = mk1P mk (xs.getD k (0, 0)) from rfl, HST.out] at hr2
      simp only [Nat.add_zero] at hr2
      have HE := hid hr2
      obtain ⟨c0, c1, c2, c3⟩ := ports_get HO.out k hkl.out
      have f0 := HO.out.frozenAt (o + k * 4); have f3 := HO.out.frozenAt (o + k * 4 + 3)
      clear hr1 hr2 hx x
      go_wp2_with fail
      refine (markIntS_nil _ _).mono ?_
      rintro e w2 ⟨rfl, hww⟩
      subst hww
      go_wp2_with fail
      refine (markCycJobS_nil _ _).mono ?_
      rintro e w2 ⟨rfl, hww⟩
      subst hww
      go_wp2_with fail
      go_roundw
      case rel => exact ⟨k + 1, by omega, by have := HMK.out; go_num, by go_num, HE.out, (HT.out.trans (Touch.setCell ..)).trans (Touch.setCell ..)⟩
      case measure => simp [intOf]; omega
    · obtain rfl : k = n := by omega
      have HE := hid (show Owns wr lo 116 4 rowP (.slice (some ⟨g, o, none⟩) k c) (mk1PG m xs) by have := HO.out; rw [show partG mk1P (fun _ => 2) m xs k = mk1PG m xs by rw [← HN.out]; exact partG_all ..] at this; exact this)
      go_wp2_with fail
      go_ret
      exact ⟨rfl, HE.out, HT.out⟩

def MkSlP (xs : List (Int)) (n m lo g o c : Nat) (w : World) (e : Ending) (w' : World) : Prop := e = .returned (.int .i64 ((m + 1 * n : Nat) : Int)) ∧ Owns w' lo 118 3 rowS (.slice (some ⟨g, o, none⟩) n c) (mk1SG m xs) ∧ Touch g w w'
set_option maxRecDepth 8000 in
set_option maxHeartbeats 8000000 in
theorem markSlaves_any (xs : List (Int)) (n m lo g o c : Nat) (w : World) (hn : xs.length = n) (hv : Owns w lo 118 3 rowS (.slice (some ⟨g, o, none⟩) n c) xs) (hm : m ≤ 1048576) (hm2 : n ≤ 1048576) (hc : n ≤ c) :
    Calls Try.prog 83 #[.slice (some ⟨g, o, none⟩) n c, .int .i64 m] w (MkSlP xs n m lo g o c w) := by
  have HV := hid hv; have HN := hid hn
  have hz0 := hid (partG_zero mk1S (fun _ => 1) m xs)
  clear hv hn
  go_enter Try.func83, Try.ntmps83
  go_wp2_with fail
  go_loopw [1, 5] (fun m' i wr => ∃ k : Nat, k ≤ n ∧ m' = .int .i64 ((m + 1 * k : Nat) : Int) ∧ i = .int .i64 k ∧ Owns wr lo 118 3 rowS (.slice (some ⟨g, o, none⟩) n c) (partG mk1S (fun _ => 1) m xs k) ∧ Touch g w wr) (fun _ i _ => n - (intOf i).toNat)
  case atStart => exact ⟨0, Nat.zero_le _, by simp, rfl, by rw [hz0.out]; exact HV.out, Touch.refl _ _⟩
  case round =>
    obtain ⟨k, hk, rfl, rfl, hown, ht⟩ := hrel
    have HO := hid hown; have HT := hid ht
    clear hown ht
    by_cases hlt : k < n
    · have hkl := hid (show k < (partG mk1S (fun _ => 1) m xs k).length by rw [partG_len, HN.out]; exact hlt)
      have hgl := (OwnR.lt HO.out g rfl).2
      have HST := hid (show (partG mk1S (fun _ => 1) m xs k).set k (mk1S (m + 1 * k) (xs.getD k 0)) = partG mk1S (fun _ => 1) m xs (k + 1) by
        have := partG_set mk1S (fun _ => 1) m (show k < xs.length by rw [HN.out]; exact hlt) 0
        rw [sum_mk1S, List.length_take, Nat.min_eq_left (by rw [HN.out]; omega)] at this
        exact this)
      obtain ⟨mk, hmk⟩ : ∃ mk, mk = m + 1 * k := ⟨_, rfl⟩
      rw [← hmk] at HST
      rw [← hmk]
      have hmb : mk + 2 ≤ 1152921504606846976 := by omega
      have HMK := hid hmk
      clear hmk
      obtain ⟨L, hL⟩ : ∃ L, L = partG mk1S (fun _ => 1) m xs k := ⟨_, rfl⟩
      rw [← hL] at HO hkl HST
      have HL := hid hL
      clear hL
      have hr1 := HO.out.putRow rowS_len k 2 0 (mk : Int) (.int .i64 (mk : Int)) hkl.out (by omega) (by rfl)
      rw [show (mk : Int) = mk1S mk (xs.getD k 0) from rfl, HST.out] at hr1
      have HE := hid hr1
      obtain ⟨c0, c1, c2⟩ := slaves_get HO.out k hkl.out
      have f2 := HO.out.frozenAt (o + k * 3 + 2)
      clear hr1
      go_wp2_with fail
      refine (markCycJobS_nil _ _).mono ?_
      rintro e w2 ⟨rfl, hww⟩
      subst hww
      go_wp2_with fail
      refine (markTlmJobS_nil _ _).mono ?_
      rintro e w2 ⟨rfl, hww⟩
      subst hww
      go_wp2_with fail
      go_roundw
      case rel => exact ⟨k + 1, by omega, by have := HMK.out; go_num, by go_num, HE.out, HT.out.trans (Touch.setCell ..)⟩
      case measure => simp [intOf]; omega
    · obtain rfl : k = n := by omega
      have HE := hid (show Owns wr lo 118 3 rowS (.slice (some ⟨g, o, none⟩) k c) (mk1SG m xs) by have := HO.out; rw [show partG mk1S (fun _ => 1) m xs k = mk1SG m xs by rw [← HN.out]; exact partG_all ..] at this; exact this)
      go_wp2_with fail
      go_ret
      exact ⟨rfl, HE.out, HT.out⟩

end Go.Proofs.Yteamebdehembgaa

namespace Go.Proofs.Yteamebdehembgaa
open Go.RowKit

theorem touch_bt {g lo hi : Nat} {w w' : World} (h : Touch g w w') (h1 : lo ≤ g) (h2 : g < hi) : Bt lo hi w w' :=
  ⟨h.os, h.tape, h.output, h.size, fun k hk hp => h.block k hk (by omega)⟩
theorem Owns.tch {α : Type} {w w' : World} {base e sz g : Nat} {f : α → List Value} {v : Value} {xs : List α} (h : Owns w base e sz f v xs) (ht : Touch g w w') (hg : v.ownBlock ≠ some g) : Owns w' base e sz f v xs :=
  OwnR.kept h fun k hk => ht.block k (OwnR.lt h k hk).2 (fun e => hg (by rw [hk, e]))

def MkCyP (n1 n2 m lo hi : Nat) (a b p s : Value) (ps : List (Int × Int)) (ss : List Int) (w : World) (e : Ending) (w' : World) : Prop :=
  e = .returned (.int .i64 ((m + n1 + n2 + 6 + 4 : Nat) : Int)) ∧ CyO w' lo a b p s (marks m n1) (marks (m + n1) n2) (mk1PG (m + n1 + n2) ps) (mk1SG (m + n1 + n2 + 6) ss) ∧ Bt lo hi w w'

set_option maxRecDepth 8000 in
set_option maxHeartbeats 8000000 in
theorem markCyc_any (w W0 : World) {lo m : Nat} {a b p s : Value} {xs ys : List Int} {ps : List (Int × Int)} {ss : List Int} (h : CyO w lo a b p s xs ys ps ss) (hl1 : xs.length ≤ 1024) (hl2 : ys.length ≤ 1024) (hn : ps.length = 3) (hm : ss.length = 4) (hmm : m ≤ 1024) (h0 : CyO W0 lo a b p s xs ys ps ss) (hW : W0.heap.size ≤ w.heap.size) :
    Calls Try.prog 19 #[.agg #[a, b, p, s, vnil], .int .i64 m] w (MkCyP xs.length ys.length m lo W0.heap.size a b p s ps ss w) := by
  obtain ⟨sg, so, sc, rfl, sc1, sc2, sl, sh⟩ := Owns.someR h0.op (by omega)
  obtain ⟨tg, tp, tc, rfl, tc1, tc2, tl, th⟩ := Owns.someR h0.os (by omega)
  rw [hn, hm] at h h0 ⊢
  rw [hn] at sc1
  rw [hm] at tc1
  obtain ⟨ya, yb, rfl, _, _⟩ := Owns.shape h.oa
  obtain ⟨za, zb, rfl, _, _⟩ := Owns.shape h.ob
  have H := hid h
  have HN := hid hn; have HM := hid hm
  have K1 := hid (fun k (hk : (Value.slice ya xs.length yb).ownBlock = some k) => OwnR.lt h0.oa k hk)
  have K2 := hid (fun k (hk : (Value.slice za ys.length zb).ownBlock = some k) => OwnR.lt h0.ob k hk)
  clear h h0 hn hm
  go_enter Try.func19, Try.ntmps19
  obtain ⟨W2, hW2⟩ : ∃ W2, W2 = w.alloc (.cells #[.slice ya xs.length yb, .slice za ys.length zb, .slice (some ⟨sg, so, none⟩) 3 sc, .slice (some ⟨tg, tp, none⟩) 4 tc, vnil] 45) := ⟨_, rfl⟩
  have HB2 := hid (show Below w.heap.size w W2 by rw [hW2]; exact bx1 _ _)
  have HS := hid (show Bx W2 w.heap.size [.slice ya xs.length yb, .slice za ys.length zb, .slice (some ⟨sg, so, none⟩) 3 sc, .slice (some ⟨tg, tp, none⟩) 4 tc, vnil] by rw [hW2]; exact Bx.new w #[.slice ya xs.length yb, .slice za ys.length zb, .slice (some ⟨sg, so, none⟩) 3 sc, .slice (some ⟨tg, tp, none⟩) 4 tc, vnil] _ (by simp))
  go_wp2_with fail
  simp only [← hW2]
  clear hW2
  refine (markAtm_any _ _ xs ys m lo lo W0.heap.size W2 (H.out.oa.below HB2.out) (H.out.ob.below HB2.out) H.out.dab (by omega) K1.out K2.out).mono ?_
  rintro e w3 ⟨rfl, o1, o2, hbt, hkp⟩
  have HOP := hid (show Owns w3 lo 116 4 rowP (.slice (some ⟨sg, so, none⟩) 3 sc) ps from OwnR.kept (H.out.op.below HB2.out) (fun k hk => hkp k (OwnR.lt (H.out.op.below HB2.out) k hk).2 (fun e => H.out.dap k e hk) (fun e => H.out.dbp k e hk)))
  have HOS := hid (show Owns w3 lo 118 3 rowS (.slice (some ⟨tg, tp, none⟩) 4 tc) ss from OwnR.kept (H.out.os.below HB2.out) (fun k hk => hkp k (OwnR.lt (H.out.os.below HB2.out) k hk).2 (fun e => H.out.das k e hk) (fun e => H.out.dbs k e hk)))
  have HO1 := hid o1; have HO2 := hid o2
  have HS3 := hid (HS.out.bt hbt (.inr hW))
  have HT3 := hid ((Bt.of_below HB2.out (lo := lo) (hi := W0.heap.size)).trans hbt)
  clear o1 o2 hbt hkp
  obtain ⟨⟨r0, r1, r2, r3, r4⟩, _⟩ := HS3.out.five
  go_wp2_with fail
  clear r0 r1 r2 r3 r4
  refine (markPorts_any ps 3 (m + xs.length + ys.length) lo sg so sc w3 HN.out HOP.out (by omega) (by omega) sc1).mono ?_
  rintro e w4 ⟨rfl, o3, ht⟩
  have HO1b := hid (HO1.out.tch ht (fun e => H.out.dap sg e rfl)); have HO2b := hid (HO2.out.tch ht (fun e => H.out.dbp sg e rfl))
  have HOSb := hid (HOS.out.tch ht (fun e => H.out.dps sg rfl e))
  have HO3 := hid o3
  have HS4 := hid (HS3.out.bt (touch_bt ht sl sh) (.inr hW))
  have HT4 := hid (HT3.out.trans (touch_bt ht sl sh))
  clear o3 ht
  obtain ⟨⟨r0, r1, r2, r3, r4⟩, _⟩ := HS4.out.five
  go_wp2_with fail
  clear r0 r1 r2 r3 r4
  refine (markSlaves_any ss 4 (m + xs.length + ys.length + 2 * 3) lo tg tp tc w4 HM.out HOSb.out (by omega) (by omega) tc1).mono ?_
  rintro e w5 ⟨rfl, o4, ht⟩
  have HO1c := hid (HO1b.out.tch ht (fun e => H.out.das tg e rfl)); have HO2c := hid (HO2b.out.tch ht (fun e => H.out.dbs tg e rfl))
  have HO3c := hid (HO3.out.tch ht (fun e => H.out.dps tg e rfl))
  have HO4 := hid o4
  have HS5 := hid (HS4.out.bt (touch_bt ht tl th) (.inr hW))
  have HT5 := hid (HT4.out.trans (touch_bt ht tl th))
  clear o4 ht
  obtain ⟨⟨r0, r1, r2, r3, r4⟩, _⟩ := HS5.out.five
  go_wp2_with fail
  clear r0 r1 r2 r3 r4
  refine (markTlmJobS_nil _ w5).mono ?_
  rintro e w6 ⟨rfl, hw⟩
  subst hw
  go_wp2_with fail
  go_ret
  exact ⟨rfl, { H.out with oa := HO1c.out, ob := HO2c.out, op := HO3c.out, os := HO4.out }, HT5.out⟩

set_option maxRecDepth 8000 in
set_option maxHeartbeats 8000000 in
theorem heldCyc_any (w : World) {lo m n1 n2 : Nat} {a b p s : Value} {ps : List (Int × Int)} {ss : List Int} (h : CyO w lo a b p s (marks m n1) (marks (m + n1) n2) (mk1PG (m + n1 + n2) ps) (mk1SG (m + n1 + n2 + 6) ss)) (hl1 : n1 ≤ 1024) (hl2 : n2 ≤ 1024) (hn : ps.length = 3) (hm : ss.length = 4) (hmm : m ≤ 1024) :
    Calls Try.prog 20 #[.agg #[a, b, p, s, vnil], .int .i64 m] w fun e w' => e = .returned (.int .i64 ((m + n1 + n2 + 6 + 4 : Nat) : Int)) ∧ Below w.heap.size w w' := by
  obtain ⟨sg, so, sc, rfl, sc1, sc2, _, _⟩ := Owns.someR h.op (by rw [mk1P_len]; omega)
  obtain ⟨tg, tp, tc, rfl, tc1, tc2, _, _⟩ := Owns.someR h.os (by rw [mk1S_len]; omega)
  rw [mk1P_len, mk1S_len, hn, hm] at h ⊢
  rw [mk1P_len, hn] at sc1
  rw [mk1S_len, hm] at tc1
  have HA := hid (fun W (hb : Below w.heap.size w W) => h.atm (marks_64 (by omega)) (marks_64 (by omega)) (by rw [marks_len]; omega) (by rw [marks_len]; omega) hb)
  obtain ⟨ya, yb, rfl, _, _⟩ := Owns.shape h.oa
  obtain ⟨za, zb, rfl, _, _⟩ := Owns.shape h.ob
  rw [marks_len, marks_len] at *
  have H := hid h
  have HN := hid hn; have HM := hid hm
  clear h hn hm
  go_enter Try.func20, Try.ntmps20
  obtain ⟨W2, hW2⟩ : ∃ W2, W2 = w.alloc (.cells #[.slice ya n1 yb, .slice za n2 zb, .slice (some ⟨sg, so, none⟩) 3 sc, .slice (some ⟨tg, tp, none⟩) 4 tc, vnil] 45) := ⟨_, rfl⟩
  have HB2 := hid (show Below w.heap.size w W2 by rw [hW2]; exact bx1 _ _)
  have HS := hid (show Bx W2 w.heap.size [.slice ya n1 yb, .slice za n2 zb, .slice (some ⟨sg, so, none⟩) 3 sc, .slice (some ⟨tg, tp, none⟩) 4 tc, vnil] by rw [hW2]; exact Bx.new w #[.slice ya n1 yb, .slice za n2 zb, .slice (some ⟨sg, so, none⟩) 3 sc, .slice (some ⟨tg, tp, none⟩) 4 tc, vnil] _ (by simp))
  go_wp2_with fail
  simp only [← hW2]
  clear hW2
  refine (heldAtm_any _ n1 n2 m W2.heap.size W2 (HA.out W2 HB2.out) (Nat.le_refl _) (by omega)).mono ?_
  rintro e w3 ⟨rfl, hb⟩
  have HS3 := hid (HS.out.below hb HS.out.lt)
  have HB3 := hid (HB2.out.trans (hb.mono HB2.out.size))
  clear hb
  obtain ⟨⟨r0, r1, r2, r3, r4⟩, _⟩ := HS3.out.five
  go_wp2_with fail
  refine (heldPorts_any ps 3 (m + n1 + n2) lo sg so sc w3 HN.out (H.out.op.below HB3.out) (by omega) (by omega) sc1).mono ?_
  rintro e w4 ⟨rfl, hw⟩
  subst hw
  go_wp2_with fail
  refine (heldSlaves_any ss 4 (m + n1 + n2 + 2 * 3) lo tg tp tc w3 HM.out (H.out.os.below HB3.out) (by omega) (by omega) tc1).mono ?_
  rintro e w4 ⟨rfl, hw⟩
  subst hw
  go_wp2_with fail
  refine (heldTlmJobS_nil _ w3).mono ?_
  rintro e w4 ⟨rfl, hw⟩
  subst hw
  go_wp2_with fail
  go_ret
  exact ⟨rfl, HB3.out⟩

end Go.Proofs.Yteamebdehembgaa
