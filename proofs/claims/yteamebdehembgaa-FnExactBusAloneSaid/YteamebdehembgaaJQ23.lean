/-
  The exact laws' helpers: a bus, measured to the number.
-/
import Derived.Test.YteamebdehembgaaJQ22
import Derived.Test.YteamebdehembgaaKQ6
import Derived.Test.YteamebdehembgaaJQ12
import Derived.Test.YteamebdehembgaaJXt
set_option linter.unusedVariables false
set_option linter.unusedSimpArgs false
namespace Go.Proofs.Yteamebdehembgaa
open Go.RowKit

theorem markReqs_nil (m : Nat) (w : World) : Calls Try.prog 50 #[vnil, .int .i64 m] w fun e w' => e = .returned (.int .i64 (m : Int)) ∧ w = w' := by
  go_enter Try.func50, Try.ntmps50
  go_wp2_with fail
  go_loop [1, 5] (fun m' i => m' = .int .i64 (m : Int) ∧ i = .int .i64 0) (fun _ _ => 0)
  case atStart => exact ⟨rfl, rfl⟩
  case round =>
    obtain ⟨rfl, rfl⟩ := hrel
    go_wp2_with fail
    go_ret
    exact ⟨rfl, rfl⟩
theorem markRanges_nil (m : Nat) (w : World) : Calls Try.prog 38 #[vnil, .int .i64 m] w fun e w' => e = .returned (.int .i64 (m : Int)) ∧ w = w' := by
  go_enter Try.func38, Try.ntmps38
  go_wp2_with fail
  go_loop [1, 5] (fun m' i => m' = .int .i64 (m : Int) ∧ i = .int .i64 0) (fun _ _ => 0)
  case atStart => exact ⟨rfl, rfl⟩
  case round =>
    obtain ⟨rfl, rfl⟩ := hrel
    go_wp2_with fail
    go_ret
    exact ⟨rfl, rfl⟩
theorem markProgs_nil (m : Nat) (w : World) : Calls Try.prog 95 #[vnil, .int .i64 m] w fun e w' => e = .returned (.int .i64 (m : Int)) ∧ w = w' := by
  go_enter Try.func95, Try.ntmps95
  go_wp2_with fail
  go_loop [1, 5] (fun m' i => m' = .int .i64 (m : Int) ∧ i = .int .i64 0) (fun _ _ => 0)
  case atStart => exact ⟨rfl, rfl⟩
  case round =>
    obtain ⟨rfl, rfl⟩ := hrel
    go_wp2_with fail
    go_ret
    exact ⟨rfl, rfl⟩
/-- One's list, nil or not, marked. -/
theorem markPg_any (u : Value) (x : List Rq) (lo hi m : Nat) (w : World) (h : PgO w lo hi u x) (hlen : x.length ≤ 1048576) (hm : m + sumG wQ x ≤ 1152921504606846976) :
    Calls Try.prog 50 #[u, .int .i64 m] w fun e w' => e = .returned (.int .i64 ((m + sumG wQ x : Nat) : Int)) ∧ PgO w' lo hi u (markQ m x) ∧ Bt lo hi w w' := by
  rcases h with ⟨rfl, rfl⟩ | ⟨g, o, c, vs, rfl, h1, h2, h3, h4⟩
  · refine (markReqs_nil m w).mono ?_
    rintro e w' ⟨rfl, rfl⟩
    exact ⟨by simp [sumG], PgO.nil _ _ _, Bt.refl _ _ _⟩
  · refine (markReqsC_any x lo hi m g o c vs w h1 h2 h3 h4 hlen hm).mono ?_
    rintro e w' ⟨rfl, k1, k2⟩
    exact ⟨rfl, .inr ⟨g, o, c, vs, by rw [markQ_len], by rw [markQ_len]; exact h1, h2, by rw [markQ_len]; exact k1, by rw [markQ_len]; exact h4⟩, k2⟩

def MkPsP (pss : List (List Rq)) (lo pb m : Nat) (us : List Value) (L : Nat → Nat) (w : World) (e : Ending) (w' : World) : Prop := e = .returned (.int .i64 ((m + sumG wP pss : Nat) : Int)) ∧ PsO w' lo pb pss.length us (markPs m pss) L ∧ Bt (L 0) (L pss.length) w w'
set_option maxRecDepth 8000 in
set_option maxHeartbeats 8000000 in
theorem markProgs_any (pss : List (List Rq)) (lo pb m : Nat) (us : List Value) (L : Nat → Nat) (w : World) (h : PsO w lo pb pss.length us pss L) (hn : pss.length ≤ 1048576) (hq : ∀ p ∈ pss, p.length ≤ 1048576) (hm : m + sumG wP pss ≤ 1152921504606846976) :
    Calls Try.prog 95 #[.slice (some ⟨pb, 0, none⟩) pss.length pss.length, .int .i64 m] w (MkPsP pss lo pb m us L w) := by
  have H := hid h; have HM := hid hm; have HQ := hid hq
  have hz0 := hid (partG_zero markQ wP m pss)
  have HLJ := hid (show ∀ i j, i ≤ j → j ≤ pss.length → L i ≤ L j from fun i j h1 h2 => h.leij h1 h2)
  clear h hm hq
  go_enter Try.func95, Try.ntmps95
  go_wp2_with fail
  go_loopw [1, 5] (fun m' i wr => ∃ k : Nat, k ≤ pss.length ∧ m' = .int .i64 ((m + sumG wP (pss.take k) : Nat) : Int) ∧ i = .int .i64 k ∧ PsO wr lo pb pss.length us (partG markQ wP m pss k) L ∧ Bt (L 0) (L pss.length) w wr) (fun _ i _ => pss.length - (intOf i).toNat)
  case atStart => exact ⟨0, Nat.zero_le _, by simp [sumG], rfl, by rw [hz0.out]; exact H.out, Bt.refl _ _ _⟩
  case round =>
    obtain ⟨k, hk, rfl, rfl, hps, hbt⟩ := hrel
    have HP := hid hps; have HB := hid hbt
    clear hps hbt
    have HPL := hid (show (partG markQ wP m pss k).length = pss.length from partG_len ..)
    by_cases hlt : k < pss.length
    · obtain ⟨mk, hmk⟩ : ∃ mk, mk = m + sumG wP (pss.take k) := ⟨_, rfl⟩
      obtain ⟨x, hx⟩ : ∃ x, x = pss.getD k [] := ⟨_, rfl⟩
      have HNX := hid (show m + sumG wP (pss.take (k + 1)) = mk + sumG wQ x by rw [sumG_snoc wP hlt [], hmk, ← hx]; show m + (sumG wP (List.take k pss) + sumG wQ x) = _; omega)
      have hmb : mk + sumG wQ x ≤ 1152921504606846976 := by
        have := sumG_take_le wP pss (k + 1); have := HM.out; have := HNX.out; omega
      have hpg := HP.out.pg k (by rw [HPL.out]; exact hlt)
      rw [partG_get markQ wP m (Nat.le_refl k) hlt [], ← hx] at hpg
      have HSET := hid (show (partG markQ wP m pss k).set k (markQ mk x) = partG markQ wP m pss (k + 1) by rw [hmk, hx]; exact partG_set markQ wP m hlt [])
      have HXL := hid (show x.length ≤ 1048576 by rw [hx]; exact HQ.out _ (getD_mem hlt))
      have q := HP.out.outer.cellAt row1_len k 0 vnil (by rw [HP.out.len]; exact hlt) (by omega)
      simp only [Nat.zero_add, Nat.mul_one, Nat.add_zero, row1, List.getElem?_cons_zero] at q
      obtain ⟨u, hu⟩ : ∃ u, u = us.getD k vnil := ⟨_, rfl⟩
      rw [← hu] at q hpg
      obtain ⟨ua, uc, rfl, _, _⟩ := hpg.shape
      rw [← hmk]
      have HPG := hid hpg; have HU := hid hu; have HMB := hid hmb; have HX := hid hx; have HMK := hid hmk
      clear hpg hu hmb hx hmk
      go_wp2_with fail
      refine (markPg_any _ x (L k) (L (k + 1)) mk wr HPG.out HXL.out HMB.out).mono ?_
      rintro e w2 ⟨rfl, hpg2, hb2⟩
      have HN := hid (HP.out.setPg (by rw [HPL.out]; exact hlt) hb2 (by rw [← HU.out]; exact hpg2))
      rw [HSET.out] at HN
      have HB2 := hid (HB.out.trans (hb2.mono (HLJ.out 0 k (by omega) (by omega)) (HLJ.out (k + 1) pss.length (by omega) (Nat.le_refl _))))
      clear hpg2 hb2 q
      go_wp2_with fail
      go_roundw
      case rel => exact ⟨k + 1, by omega, by rw [HNX.out]; go_num, by go_num, HN.out, HB2.out⟩
      case measure => simp [intOf]; omega
    · obtain rfl : k = pss.length := by omega
      have he := hid (show sumG wP (pss.take pss.length) = sumG wP pss by rw [List.take_length])
      have HA := hid (show partG markQ wP m pss pss.length = markPs m pss from partG_all ..)
      rw [he.out]
      rw [HA.out] at HP
      go_wp2_with fail
      go_ret
      exact ⟨rfl, HP.out, HB.out⟩

/-- How much is marked in a bus. -/
def wB (ms : List MR) (lat : List Int) (pss : List (List Rq)) : Nat := 4 * ms.length + lat.length + sumG wP pss
def MkBsP (lo mid hi : Nat) (a b p : Value) (ms : List MR) (lat : List Int) (pss : List (List Rq)) (m : Nat) (w : World) (e : Ending) (w' : World) : Prop :=
  e = .returned (.int .i64 ((m + wB ms lat pss : Nat) : Int)) ∧ BsO w' lo mid hi a b p (markM m ms) (marks (m + 4 * ms.length) lat.length) (markPs (m + 4 * ms.length + lat.length) pss) ∧ Bt lo hi w w'
theorem Owns.cases {α : Type} {w : World} {base e sz : Nat} {f : α → List Value} {v : Value} {xs : List α} (h : Owns w base e sz f v xs) : (v = vnil ∧ xs = []) ∨ ∃ g o c, v = .slice (some ⟨g, o, none⟩) xs.length c := by
  rcases h.2 with ⟨h1, h2⟩ | ⟨g, o, c, _, h1, _⟩
  · exact .inl ⟨h1, List.eq_nil_of_length_eq_zero h2⟩
  · exact .inr ⟨g, o, c, h1⟩
/-- Ranges, nil or not, marked. -/
theorem markMs_any (a : Value) (ms : List MR) (lo m : Nat) (w : World) (h : Owns w lo 101 4 rowM a ms) (hm : m + 4 * ms.length ≤ 1152921504606846976) :
    Calls Try.prog 38 #[a, .int .i64 m] w fun e w' => e = .returned (.int .i64 ((m + 4 * ms.length : Nat) : Int)) ∧ Owns w' lo 101 4 rowM a (markM m ms) ∧ (∀ k, k < w.heap.size → a.ownBlock ≠ some k → w'.heap[k]? = w.heap[k]?) ∧ (∀ r s, (∀ k, a.ownBlock = some k → r ≤ k ∧ k < s) → Bt r s w w') := by
  rcases h.cases with ⟨rfl, rfl⟩ | ⟨g, o, c, rfl⟩
  · refine (markRanges_nil m w).mono ?_
    rintro e w' ⟨rfl, rfl⟩
    exact ⟨by simp, h, fun _ _ _ => rfl, fun _ _ _ => Bt.refl _ _ _⟩
  · refine (markRanges_any ms lo m g o c w h hm).mono ?_
    rintro e w' ⟨rfl, k1, k2, k3⟩
    refine ⟨rfl, ?_, fun k hk hne => k2.block k hk (fun e => hne (by rw [e]; rfl)), fun r s hrs => k2.toBt (hrs g rfl).1 (hrs g rfl).2⟩
    exact k1
set_option maxRecDepth 8000 in
set_option maxHeartbeats 8000000 in
theorem markBus_any (lo mid hi : Nat) (a b p : Value) (ms : List MR) (lat : List Int) (pss : List (List Rq)) (m : Nat) (w : World) (h : BsO w lo mid hi a b p ms lat pss) (hhi : hi ≤ w.heap.size) (hn : pss.length ≤ 1048576) (hq : ∀ p ∈ pss, p.length ≤ 1048576) (hm : m + wB ms lat pss ≤ 1152921504606846976) :
    Calls Try.prog 24 #[.agg #[a, b, p], .int .i64 m] w (MkBsP lo mid hi a b p ms lat pss m w) := by
  have H := hid h; have HHI := hid hhi; have HM := hid (show m + (4 * ms.length + lat.length + sumG wP pss) ≤ 1152921504606846976 from hm)
  have HN := hid hn; have HQ := hid hq
  obtain ⟨⟨a1, a2, rfl⟩, ⟨b1, b2, rfl⟩, p1, p2, rfl⟩ := h.shapes
  clear h hhi hm hn hq
  obtain ⟨W1, hW1⟩ : ∃ W1, W1 = w.alloc (.cells #[.slice a1 ms.length a2, .slice b1 lat.length b2, .slice p1 pss.length p2] 27) := ⟨_, rfl⟩
  have HB1 := hid (show Below w.heap.size w W1 by rw [hW1]; exact bx1 _ _)
  have HS := hid (show Bx W1 w.heap.size [.slice a1 ms.length a2, .slice b1 lat.length b2, .slice p1 pss.length p2] by rw [hW1]; exact Bx.new w #[.slice a1 ms.length a2, .slice b1 lat.length b2, .slice p1 pss.length p2] _ (by simp))
  have H1 := hid (H.out.below HB1.out)
  have HW1 := hid hW1
  clear hW1
  go_enter Try.func24, Try.ntmps24
  go_wp2_with fail
  rw [show w.alloc _ = W1 from HW1.out.symm]
  refine (markMs_any _ ms lo m W1 H1.out.oa (by have := HM.out; omega)).mono ?_
  rintro e w1 ⟨rfl, oa, kp, kbt⟩
  have HBA := hid (kbt lo mid fun k hk => ⟨(OwnR.lt H1.out.oa k hk).1, H1.out.ha k hk⟩)
  have hsz := HBA.out.size
  have HOA := hid oa
  have HOB := hid (OwnR.kept H1.out.ob fun k hk => kp k (OwnR.lt H1.out.ob k hk).2 (fun e => Owns.apartT H1.out.oa H1.out.ob (by decide) k e hk))
  have HPS := hid (show (Value.slice p1 pss.length p2 = vnil ∧ pss = []) ∨ ∃ pb us L, Value.slice p1 pss.length p2 = .slice (some ⟨pb, 0, none⟩) pss.length pss.length ∧ PsO w1 lo pb pss.length us pss L ∧ pb < mid ∧ mid ≤ L 0 ∧ L pss.length ≤ hi from by
    rcases H1.out.ps with h1 | ⟨pb, us, L, e, h1, h2, h3, h4⟩
    · exact .inl h1
    · exact .inr ⟨pb, us, L, e, h1.keptB (fun k hk2 h5 => kp k h5 (fun e2 => by
        rcases hk2 with rfl | hk2
        · exact Owns.apartT H1.out.oa h1.outer (by decide) k e2 rfl
        · have := H1.out.ha k e2; omega)) hsz, h2, h3, h4⟩)
  have HS1 := hid (HS.out.bt HBA.out (.inr (by have := H.out.mh; have := HHI.out; omega)))
  have HX1 := hid (show Bt lo hi w w1 from (Bt.of_below HB1.out).trans (HBA.out.mono (Nat.le_refl _) H.out.mh))
  clear oa kp kbt hsz
  obtain ⟨⟨s0, s1, s2⟩, _⟩ := HS1.out.three
  go_wp2_with fail
  refine (markI_any _ lat (m + 4 * ms.length) lo w1 HOB.out (by have := HM.out; omega)).mono ?_
  rintro e w2 ⟨rfl, mk⟩
  have HBB := hid (mk.bt (lo := lo) (hi := mid) fun k hk => ⟨(OwnR.lt HOB.out k hk).1, H.out.hb k hk⟩)
  have HOB2 := hid mk.own
  have HOA2 := hid (OwnR.kept HOA.out fun k hk => mk.keep k (OwnR.lt HOA.out k hk).2 (fun e => Owns.apartT HOB.out HOA.out (by decide) k e hk))
  have HPS2 := hid (show (Value.slice p1 pss.length p2 = vnil ∧ pss = []) ∨ ∃ pb us L, Value.slice p1 pss.length p2 = .slice (some ⟨pb, 0, none⟩) pss.length pss.length ∧ PsO w2 lo pb pss.length us pss L ∧ pb < mid ∧ mid ≤ L 0 ∧ L pss.length ≤ hi from by
    rcases HPS.out with h1 | ⟨pb, us, L, e, h1, h2, h3, h4⟩
    · exact .inl h1
    · exact .inr ⟨pb, us, L, e, h1.keptB (fun k hk2 h5 => mk.keep k h5 (fun e2 => by
        rcases hk2 with rfl | hk2
        · exact Owns.apartT HOB.out h1.outer (by decide) k e2 rfl
        · have := H.out.hb k e2; omega)) (Nat.le_of_eq mk.size.symm), h2, h3, h4⟩)
  have HS2 := hid (HS1.out.bt HBB.out (.inr (by have := H.out.mh; have := HHI.out; omega)))
  have HX2 := hid (HX1.out.trans (HBB.out.mono (Nat.le_refl _) H.out.mh))
  clear mk s0 s1 s2 HOA HOB HPS HBA HBB
  obtain ⟨⟨s0, s1, s2⟩, _⟩ := HS2.out.three
  go_wp2_with fail
  rcases HPS2.out with ⟨hp1, hp2⟩ | ⟨pb, us, L, hp, hps, l1, l2, l3⟩
  · simp only [Value.slice.injEq] at hp1
    obtain ⟨rfl, hp3, rfl⟩ := hp1
    subst hp2
    refine (markProgs_nil (m + 4 * ms.length + lat.length) w2).mono ?_
    rintro e w3 ⟨rfl, hww⟩
    subst hww
    have HV := hid (show m + wB ms lat [] = m + 4 * ms.length + lat.length by simp [wB, sumG]; omega)
    go_wp2_with fail
    go_ret
    exact ⟨ret_int (a := (m : Int) + 4 * (ms.length : Int) + (lat.length : Int)) (by have := HV.out; omega), ⟨HOA2.out, HOB2.out, H.out.ha, H.out.hb, H.out.mh, .inl ⟨rfl, rfl⟩⟩, HX2.out⟩
  · simp only [Value.slice.injEq] at hp
    obtain ⟨rfl, _, rfl⟩ := hp
    have HL := hid (And.intro l1 (And.intro l2 l3)); have HP := hid hps
    clear hps l1 l2 l3 HPS2
    refine (markProgs_any pss lo pb (m + 4 * ms.length + lat.length) us L w2 HP.out HN.out HQ.out (by have := HM.out; omega)).mono ?_
    rintro e w3 ⟨rfl, hps, hbt⟩
    have HP3 := hid hps; have HBT := hid hbt
    clear hps hbt
    have HV := hid (show m + wB ms lat pss = m + 4 * ms.length + lat.length + sumG wP pss by simp [wB]; omega)
    go_wp2_with fail
    go_ret
    refine ⟨ret_int (a := (m : Int) + 4 * (ms.length : Int) + (lat.length : Int) + (sumG wP pss : Nat)) (by have := HV.out; omega), ⟨OwnR.kept HOA2.out fun k hk => HBT.out.block k (OwnR.lt HOA2.out k hk).2 (.inl (by have := H.out.ha k hk; have := HL.out; omega)), OwnR.kept HOB2.out fun k hk => HBT.out.block k (OwnR.lt HOB2.out k hk).2 (.inl (by have := H.out.hb k hk; have := HL.out; omega)), H.out.ha, H.out.hb, H.out.mh, .inr ⟨pb, us, L, by rw [markPs_len], by rw [markPs_len]; exact HP3.out, HL.out.1, HL.out.2.1, by rw [markPs_len]; exact HL.out.2.2⟩⟩, HX2.out.trans (HBT.out.mono ?_ HL.out.2.2)⟩
    have := HP.out.pb.1; have := HP.out.pbl; omega

end Go.Proofs.Yteamebdehembgaa

namespace Go.Proofs.Yteamebdehembgaa
open Go.RowKit

/-- What a measure leaves: less than nothing, or what is left of it. -/
def SzW (left : Int) (n : Nat) (w : World) (e : Ending) (w' : World) : Prop := ∃ r : Int, e = .returned (.int .i64 r) ∧ (r = -1 ∨ (0 ≤ r ∧ r + (n : Int) ≤ left)) ∧ Below w.heap.size w w'
def SzV (left : Int) (n : Nat) (w : World) (e : Ending) (w' : World) : Prop := ∃ r : Int, e = .returned (.int .i64 r) ∧ (r = -1 ∨ (0 ≤ r ∧ r + (n : Int) ≤ left)) ∧ w = w'
def tQ (q : Rq) : Nat := q.data.length + q.lanes.length
def tR (p : List Rq) : Nat := p.length + sumG tQ p
def tP (pss : List (List Rq)) : Nat := pss.length + sumG tR pss
def tB (ms : List MR) (lat : List Int) (pss : List (List Rq)) : Nat := ms.length + lat.length + tP pss
set_option maxHeartbeats 1000000 in
theorem szIntS_w (v : Value) (xs : List Int) (left : Int) (B : Nat) (w : World) (hv : Ints w B v xs) (h0 : 0 ≤ left) (h1 : left ≤ 1048576) :
    Calls Try.prog 88 #[v, .int .i64 left] w (SzV left xs.length w) := by
  obtain ⟨ao, cap, rfl, hlc, hcap, hln, hni, hr⟩ := hv.opened
  clear hr
  by_cases hq : left - (xs.length : Int) < 0
  · go_enter Try.func88, Try.ntmps88
    go_wp2_with fail
    go_ret
    exact ⟨-1, rfl, .inl rfl, rfl⟩
  · go_enter Try.func88, Try.ntmps88
    go_wp2_with fail
    go_ret
    exact ⟨_, rfl, .inr ⟨by omega, by omega⟩, rfl⟩
set_option maxHeartbeats 1000000 in
theorem szRanges_w (v : Value) (ms : List MR) (left : Int) (B : Nat) (w : World) (hv : Maps w B v ms) (h0 : 0 ≤ left) (h1 : left ≤ 1048576) :
    Calls Try.prog 26 #[v, .int .i64 left] w (SzV left ms.length w) := by
  obtain ⟨ao, cap, rfl, hlc, hcap, hln, hni, hr⟩ := hv.opened
  clear hr
  by_cases hq : left - (ms.length : Int) < 0
  · go_enter Try.func26, Try.ntmps26
    go_wp2_with fail
    go_ret
    exact ⟨-1, rfl, .inl rfl, rfl⟩
  · go_enter Try.func26, Try.ntmps26
    go_wp2_with fail
    go_ret
    exact ⟨_, rfl, .inr ⟨by omega, by omega⟩, rfl⟩
set_option maxHeartbeats 2000000 in
theorem szReq_w (v : Value) (q : Rq) (left : Int) (B : Nat) (w : World) (h : ReqV w B v q) (hB : B ≤ w.heap.size) (h0 : 0 ≤ left) (h1 : left ≤ 1048576) :
    Calls Try.prog 28 #[v, .int .i64 left] w (SzW left (tQ q) w) := by
  obtain ⟨dv, lv, rfl, k1, k2, k3⟩ := h
  have HV := hid k1; have HU := hid k2
  obtain ⟨ao, cap, rfl, _⟩ := k1.opened
  obtain ⟨bo, cbp, rfl, _⟩ := k2.opened
  clear k1 k2 k3
  have HB := hid (bx1 w)
  go_enter Try.func28, Try.ntmps28
  go_wp2_with fail
  refine (szIntS_w _ q.data left B _ (HV.out.below ((HB.out _).mono hB)) h0 h1).mono ?_
  rintro e w1 ⟨r, rfl, hr, hw⟩
  subst hw
  have HR := hid hr
  clear hr
  by_cases hn : r < 0
  · go_wp2_with fail
    go_ret
    exact ⟨_, rfl, .inl rfl, HB.out _⟩
  · have hq0 : 0 ≤ r := by omega
    have hq1 : r ≤ 1048576 := by have := HR.out; omega
    go_wp2_with fail
    refine (szIntS_w _ q.lanes r B _ (HU.out.below ((HB.out _).mono hB)) hq0 hq1).mono ?_
    rintro e w2 ⟨r2, rfl, hr2, hw⟩
    subst hw
    have HR2 := hid hr2; clear hr2
    by_cases hn2 : r2 < 0
    · go_wp2_with fail
      go_ret
      exact ⟨_, rfl, .inl rfl, HB.out _⟩
    · go_wp2_with fail
      go_ret
      exact ⟨_, rfl, .inr (by have := HR.out; have := HR2.out; simp only [tQ]; omega), HB.out _⟩

set_option maxHeartbeats 4000000 in
theorem szReqs_w (v : Value) (rs : List Rq) (left : Int) (B : Nat) (w : World) (h : Reqs w B v rs) (hB : B ≤ w.heap.size) (h0 : 0 ≤ left) (h1 : left ≤ 1048576) :
    Calls Try.prog 44 #[v, .int .i64 left] w (SzW left (tR rs) w) := by
  obtain ⟨ao, cap, rfl, hlc, hcap, hln, hni, hr⟩ := h.opened
  clear h
  have hrl : ∀ k r : Int, 0 ≤ r → r + k ≤ left → 0 ≤ k → r ≤ 1048576 := by intro k r _ _ _; omega
  by_cases hq : left - (rs.length : Int) < 0
  · go_enter Try.func44, Try.ntmps44
    go_wp2_with fail
    go_ret
    exact ⟨-1, rfl, .inl rfl, Below.refl _ _⟩
  · go_enter Try.func44, Try.ntmps44
    go_wp2_with fail
    go_loopw [1, 5] (fun l i wr => ∃ (k : Nat) (r : Int), k ≤ rs.length ∧ l = .int .i64 r ∧ i = .int .i64 k ∧ 0 ≤ r ∧ r + ((rs.length + sumG tQ (rs.take k) : Nat) : Int) ≤ left ∧ Below w.heap.size w wr) (fun _ i _ => rs.length - (intOf i).toNat)
    case atStart => exact ⟨0, _, Nat.zero_le _, rfl, rfl, by omega, by simp [sumG], Below.refl _ _⟩
    case round =>
      obtain ⟨k, r, hk, rfl, rfl, hr0, hr1, hbl⟩ := hrel
      by_cases hlt : k < rs.length
      · obtain ⟨b, off, rfl, hb, hc⟩ := hr (by omega)
        obtain ⟨da, dc, la, lc, hu, c0, c1, c2, c3, c4, c5, c6⟩ := hc k hlt
        obtain ⟨x, hx⟩ : ∃ x, x = rs.getD k default := ⟨_, rfl⟩
        rw [← hx] at c0 c1 c2 c3 c4 c5 c6 hu
        rw [← hbl.cell (p := ⟨b, _, none⟩) (Nat.lt_of_lt_of_le hb hB)] at c0 c1 c2 c3 c4 c5 c6
        have HX := hid hx; have HU := hid (hu.below (hbl.mono hB)); have HB := hid hbl; clear hx hc hr hu hbl
        go_wp2_with fail
        refine (szReq_w _ x r B _ HU.out (Nat.le_trans hB HB.out.size) hr0 (by omega)).mono ?_
        rintro e w' ⟨r2, rfl, hr2, hb'⟩
        have HB2 := hid (HB.out.trans (hb'.mono HB.out.size))
        have HR2 := hid hr2
        clear hb' hr2
        by_cases hn : r2 < 0
        · go_wp2_with fail
          go_ret
          exact ⟨-1, rfl, .inl rfl, HB2.out⟩
        · have hg := hid (show 0 ≤ r2 ∧ r2 + (tQ x : Int) ≤ r by have := HR2.out; rcases this with h | h; omega; exact h)
          have hs := hid (show sumG tQ (rs.take (k + 1)) = sumG tQ (rs.take k) + tQ x by rw [HX.out]; exact sumG_snoc tQ hlt default)
          go_wp2_with fail
          go_roundw
          case rel =>
            exact ⟨k + 1, r2, by omega, by go_num, by go_num, hg.out.1, by have := hg.out.2; have := hs.out; omega, HB2.out⟩
          case measure => simp [intOf]; omega
      · have hke : k = rs.length := by omega
        go_wp2_with fail
        go_ret
        subst hke
        rw [List.take_length] at hr1
        exact ⟨_, rfl, .inr ⟨hr0, hr1⟩, hbl⟩

set_option maxHeartbeats 4000000 in
theorem szProgs_w (v : Value) (rs : List (List Rq)) (left : Int) (B : Nat) (w : World) (h : Progs w B v rs) (hB : B ≤ w.heap.size) (h0 : 0 ≤ left) (h1 : left ≤ 1048576) :
    Calls Try.prog 89 #[v, .int .i64 left] w (SzW left (tP rs) w) := by
  obtain ⟨ao, cap, rfl, hlc, hcap, hln, hni, hr⟩ := h.opened
  clear h
  by_cases hq : left - (rs.length : Int) < 0
  · go_enter Try.func89, Try.ntmps89
    go_wp2_with fail
    go_ret
    exact ⟨-1, rfl, .inl rfl, Below.refl _ _⟩
  · go_enter Try.func89, Try.ntmps89
    go_wp2_with fail
    go_loopw [1, 5] (fun l i wr => ∃ (k : Nat) (r : Int), k ≤ rs.length ∧ l = .int .i64 r ∧ i = .int .i64 k ∧ 0 ≤ r ∧ r + ((rs.length + sumG tR (rs.take k) : Nat) : Int) ≤ left ∧ Below w.heap.size w wr) (fun _ i _ => rs.length - (intOf i).toNat)
    case atStart => exact ⟨0, _, Nat.zero_le _, rfl, rfl, by omega, by simp [sumG], Below.refl _ _⟩
    case round =>
      obtain ⟨k, r, hk, rfl, rfl, hr0, hr1, hbl⟩ := hrel
      by_cases hlt : k < rs.length
      · obtain ⟨b, off, rfl, hb, hc⟩ := hr (by omega)
        obtain ⟨da, dc, hu, c0⟩ := hc k hlt
        obtain ⟨x, hx⟩ : ∃ x, x = rs.getD k [] := ⟨_, rfl⟩
        rw [← hx] at c0 hu
        rw [← hbl.cell (p := ⟨b, _, none⟩) (Nat.lt_of_lt_of_le hb hB)] at c0
        have HX := hid hx; have HU := hid (hu.below (hbl.mono hB)); have HB := hid hbl; clear hx hc hr hu hbl
        go_wp2_with fail
        refine (szReqs_w _ x r B _ HU.out (Nat.le_trans hB HB.out.size) hr0 (by omega)).mono ?_
        rintro e w' ⟨r2, rfl, hr2, hb'⟩
        have HB2 := hid (HB.out.trans (hb'.mono HB.out.size))
        have HR2 := hid hr2
        clear hb' hr2
        by_cases hn : r2 < 0
        · go_wp2_with fail
          go_ret
          exact ⟨-1, rfl, .inl rfl, HB2.out⟩
        · have hg := hid (show 0 ≤ r2 ∧ r2 + (tR x : Int) ≤ r by have := HR2.out; rcases this with h | h; omega; exact h)
          have hs := hid (show sumG tR (rs.take (k + 1)) = sumG tR (rs.take k) + tR x by rw [HX.out]; exact sumG_snoc tR hlt [])
          go_wp2_with fail
          go_roundw
          case rel =>
            exact ⟨k + 1, r2, by omega, by go_num, by go_num, hg.out.1, by have := hg.out.2; have := hs.out; omega, HB2.out⟩
          case measure => simp [intOf]; omega
      · have hke : k = rs.length := by omega
        go_wp2_with fail
        go_ret
        subst hke
        rw [List.take_length] at hr1
        exact ⟨_, rfl, .inr ⟨hr0, hr1⟩, hbl⟩

set_option maxHeartbeats 4000000 in
theorem szBus_w (v : Value) (ms : List MR) (lat : List Int) (pss : List (List Rq)) (left : Int) (B : Nat) (w : World) (h : BusI w B v ms lat pss) (hB : B ≤ w.heap.size) (h0 : 0 ≤ left) (h1 : left ≤ 1048576) :
    Calls Try.prog 21 #[v, .int .i64 left] w (SzW left (tB ms lat pss) w) := by
  obtain ⟨mv, lv, pv, rfl, hm, hl, hp⟩ := h
  have HM := hid hm; have HL := hid hl; have HP := hid hp
  obtain ⟨ma, mc, rfl, _⟩ := hm.opened
  obtain ⟨la, lc, rfl, _⟩ := hl.opened
  obtain ⟨pa, pc, rfl, _⟩ := hp.opened
  clear hm hl hp
  have HB := hid (bx1 w)
  go_enter Try.func21, Try.ntmps21
  go_wp2_with fail
  refine (szRanges_w _ ms left B _ (HM.out.below ((HB.out _).mono hB)) h0 h1).mono ?_
  rintro e w1 ⟨r, rfl, hr, hw⟩
  subst hw
  have HR := hid hr
  clear hr
  by_cases hn : r < 0
  · go_wp2_with fail
    go_ret
    exact ⟨_, rfl, .inl rfl, HB.out _⟩
  · have hq0 : 0 ≤ r := by omega
    have hq1 : r ≤ 1048576 := by have := HR.out; omega
    go_wp2_with fail
    refine (szIntS_w _ lat r B _ (HL.out.below ((HB.out _).mono hB)) hq0 hq1).mono ?_
    rintro e w1 ⟨r2, rfl, hr2, hw⟩
    subst hw
    have HR2 := hid hr2
    clear hr2
    by_cases hn2 : r2 < 0
    · go_wp2_with fail
      go_ret
      exact ⟨_, rfl, .inl rfl, HB.out _⟩
    · have hp0 : 0 ≤ r2 := by omega
      have hp1 : r2 ≤ 1048576 := by have := HR2.out; omega
      go_wp2_with fail
      refine (szProgs_w _ pss r2 B _ (HP.out.below ((HB.out _).mono hB)) (Nat.le_trans hB (HB.out _).size) hp0 hp1).mono ?_
      rintro e w2 ⟨r3, rfl, hr3, hb⟩
      have HR3 := hid hr3
      have HE := hid ((HB.out _).trans (hb.mono (HB.out _).size))
      clear hr3 hb
      by_cases hn3 : r3 < 0
      · go_wp2_with fail
        go_ret
        exact ⟨_, rfl, .inl rfl, HE.out⟩
      · go_wp2_with fail
        go_ret
        refine ⟨_, rfl, .inr ?_, HE.out⟩
        have g1 := HR.out; have g2 := HR2.out
        rcases HR3.out with h3 | ⟨h3, h4⟩
        · omega
        · refine ⟨by omega, ?_⟩
          simp only [tB]
          omega

theorem sumG_mem {α : Type} (wt : α → Nat) : ∀ {xs : List α} {x : α}, x ∈ xs → wt x ≤ sumG wt xs
  | [], _, h => absurd h (by simp)
  | y :: ys, x, h => by
    rcases List.mem_cons.1 h with rfl | h
    · simp [sumG]
    · have := sumG_mem wt h; simp only [sumG, List.map_cons, List.sum_cons] at this ⊢; omega
theorem sumG_mul {α : Type} (wt wu : α → Nat) (c : Nat) : ∀ xs : List α, (∀ x ∈ xs, wt x ≤ c * wu x) → sumG wt xs ≤ c * sumG wu xs
  | [], _ => by simp [sumG]
  | y :: ys, h => by
    have h1 := sumG_mul wt wu c ys (fun x hx => h x (by simp [hx]))
    have h2 := h y (by simp)
    simp only [sumG, List.map_cons, List.sum_cons, Nat.mul_add] at h1 ⊢; omega
theorem sumG_wQ : ∀ p : List Rq, sumG wQ p = 5 * p.length + sumG tQ p
  | [] => by simp [sumG]
  | q :: p => by
    have := sumG_wQ p
    have e : wQ q = 5 + tQ q := by simp [wQ, tQ]; omega
    simp only [sumG, List.map_cons, List.sum_cons, List.length_cons] at this ⊢; omega
/-- The marks of a bus are few. -/
theorem wB_le {ms : List MR} {lat : List Int} {pss : List (List Rq)} : wB ms lat pss ≤ 5 * tB ms lat pss := by
  have h : sumG wP pss ≤ 5 * sumG tR pss := sumG_mul wP tR 5 pss fun p _ => by
    show sumG wQ p ≤ 5 * tR p
    rw [sumG_wQ]; simp only [tR]; omega
  simp only [wB, tB, tP]; omega
theorem Ps20.of {pss : List (List Rq)} (h : sumG tR pss ≤ 1048576) : ∀ p ∈ pss, p.length ≤ 1048576 ∧ ∀ q ∈ p, Rq20 q := by
  intro p hp
  have h1 := sumG_mem tR hp
  simp only [tR] at h1
  refine ⟨by omega, fun q hq => ?_⟩
  have h2 := sumG_mem tQ hq
  simp only [tQ] at h2
  exact ⟨by omega, by omega⟩

end Go.Proofs.Yteamebdehembgaa
