/-
  The exact laws' helpers: a bus, held.
-/
import Derived.Test.YteamebdehembgaaJQ11
import Derived.Test.YteamebdehembgaaJXn
import Derived.Test.YteamebdehembgaaJQ1
set_option linter.unusedVariables false
set_option linter.unusedSimpArgs false
namespace Go.Proofs.Yteamebdehembgaa
open Go.RowKit

def BusAloneP (ms : List MR) (lat : List Int) (pss : List (List Rq)) (who : Int) (w : World) (e : Ending) (w' : World) : Prop :=
  ((busOk ms lat pss = true ∧ inB who 0 2 = true) ∧ ∃ a b pb us L, e = .returned (.agg #[a, b, .slice (some ⟨pb, 0, none⟩) pss.length pss.length]) ∧ Owns w' w.heap.size 101 4 rowM a ms ∧ Owns w' w.heap.size 3 1 rowI b lat ∧ PsO w' w.heap.size pb pss.length us (aloneK pss who pss.length) L ∧ ((∀ k, a.ownBlock = some k → k < L 0) ∧ ∀ k, b.ownBlock = some k → k < L 0) ∧ Below w.heap.size w w') ∨
  ((busOk ms lat pss && inB who 0 2) = false ∧ e = .returned (.agg #[vnil, vnil, vnil]) ∧ Below w.heap.size w w')

set_option maxRecDepth 8000 in
set_option maxHeartbeats 16000000 in
theorem implBusAlone_any (v : Value) (ms : List MR) (lat : List Int) (pss : List (List Rq)) (who : Int) (B : Nat) (w : World) (h : BusI w B v ms lat pss) (hB : B ≤ w.heap.size) (hl1 : ms.length ≤ 1048576) (hl2 : lat.length ≤ 1048576) (hl3 : pss.length ≤ 1048576) (hl4 : ∀ p ∈ pss, p.length ≤ 1048576 ∧ ∀ q ∈ p, Rq20 q) :
    Calls Try.prog 9 #[v, .int .i64 who] w (BusAloneP ms lat pss who w) := by
  have HI := hid h; have HB := hid hB
  have HL1 := hid hl1; have HL2 := hid hl2; have HL3 := hid hl3; have HL4 := hid hl4
  obtain ⟨mv, lv, pv, rfl, hm, hl, hp⟩ := h
  obtain ⟨ma, mc, rfl, _⟩ := hm.opened
  obtain ⟨la, lc, rfl, _⟩ := hl.opened
  obtain ⟨pa, pc, rfl, _⟩ := hp.opened
  clear hm hl hp hB hl1 hl2 hl3 hl4
  obtain ⟨W2, hW2⟩ : ∃ W2, W2 = (w.alloc (.cells #[.slice ma ms.length mc, .slice la lat.length lc, .slice pa pss.length pc] 27)).alloc (.cells #[.slice none 0 0, .slice none 0 0, .slice none 0 0] 27) := ⟨_, rfl⟩
  have HB2 := hid (show Below w.heap.size w W2 by rw [hW2]; exact (bx1 _ _).alloc (by simp) _)
  have HS := hid (show Bx W2 w.heap.size [.slice ma ms.length mc, .slice la lat.length lc, .slice pa pss.length pc] by rw [hW2]; exact (Bx.new w #[.slice ma ms.length mc, .slice la lat.length lc, .slice pa pss.length pc] _ (by simp)).below (bx1 _ _) (by simp))
  have HR := hid (show Bx W2 (w.heap.size + 1) [vnil, vnil, vnil] by rw [hW2]; have := Bx.new (w.alloc (.cells #[.slice ma ms.length mc, .slice la lat.length lc, .slice pa pss.length pc] 27)) #[vnil, vnil, vnil] 27 (by simp); simpa using this)
  have HZ := hid (show W2.heap.size = w.heap.size + 2 by rw [hW2]; simp)
  have HW2 := hid hW2
  rcases hbo : busOk ms lat pss with _ | _
  · have HO := hid hbo
    clear hbo hW2
    go_enter Try.func9, Try.ntmps9
    go_wp2_with (first
      | (go_at_call 14; rw [show (w.alloc _).alloc _ = W2 from HW2.out.symm]; refine (implBusOk_any _ ms lat pss B W2 (HI.out.below (HB2.out.mono HB.out)) (Nat.le_trans HB.out HB2.out.size)).mono ?_; rw [HO.out]; rintro e w1 ⟨rfl, hb⟩; have HR1 := hid (HR.out.below hb HR.out.lt); have HBE := hid (HB2.out.trans (hb.mono HB2.out.size)); obtain ⟨⟨q0, q1, q2⟩, f0, f1, f2⟩ := HR1.out.three; have hrl := HR1.out.lt; clear hb))
    refine bodyPost_ret (results_c1 Try.results9 _ _ ⟨w.heap.size + 1, 0, none⟩ (.agg #[vnil, vnil, vnil]) rfl (loadVar_bus _ _ _ _ _ (by simp [go_sem, *]) (by simp [go_sem, *]) (by simp [go_sem, *]))) rfl (.inr ⟨by rw [HO.out]; rfl, rfl, ?_⟩)
    exact ((HBE.out.setCell (by exact Nat.le_succ _) _).setCell (by exact Nat.le_succ _) _).setCell (by exact Nat.le_succ _) _
  · have HO := hid hbo
    clear hbo hW2
    rcases hib : inB who 0 2 with _ | _
    · have HI2 := hid hib
      clear hib
      go_enter Try.func9, Try.ntmps9
      go_wp2_with (first
        | (go_at_call 14; rw [show (w.alloc _).alloc _ = W2 from HW2.out.symm]; refine (implBusOk_any _ ms lat pss B W2 (HI.out.below (HB2.out.mono HB.out)) (Nat.le_trans HB.out HB2.out.size)).mono ?_; rw [HO.out]; rintro e w1 ⟨rfl, hb⟩; have HS1 := hid (HS.out.below hb HS.out.lt); have HR1 := hid (HR.out.below hb HR.out.lt); have HBE := hid (HB2.out.trans (hb.mono HB2.out.size)); obtain ⟨⟨s0, s1, s2⟩, _⟩ := HS1.out.three; obtain ⟨⟨q0, q1, q2⟩, f0, f1, f2⟩ := HR1.out.three; have hrl := HR1.out.lt; clear hb)
        | (go_at_call 56; refine (isMaster_any _ _).mono ?_; rw [HI2.out]; rintro e w' ⟨rfl, hw⟩; subst hw))
      refine bodyPost_ret (results_c1 Try.results9 _ _ ⟨w.heap.size + 1, 0, none⟩ (.agg #[vnil, vnil, vnil]) rfl (loadVar_bus _ _ _ _ _ (by simp [go_sem, *]) (by simp [go_sem, *]) (by simp [go_sem, *]))) rfl (.inr ⟨by rw [HO.out, HI2.out]; rfl, rfl, ?_⟩)
      exact ((HBE.out.setCell (by exact Nat.le_succ _) _).setCell (by exact Nat.le_succ _) _).setCell (by exact Nat.le_succ _) _
    · have HI2 := hid hib
      clear hib
      go_enter Try.func9, Try.ntmps9
      go_wp2_with (first
        | (go_at_call 14; rw [show (w.alloc _).alloc _ = W2 from HW2.out.symm]; refine (implBusOk_any _ ms lat pss B W2 (HI.out.below (HB2.out.mono HB.out)) (Nat.le_trans HB.out HB2.out.size)).mono ?_; rw [HO.out]; rintro e w1 ⟨rfl, hb⟩; have HS1 := hid (HS.out.below hb HS.out.lt); have HR1 := hid (HR.out.below hb HR.out.lt); have HBE := hid (HB2.out.trans (hb.mono HB2.out.size)); obtain ⟨⟨s0, s1, s2⟩, _⟩ := HS1.out.three; obtain ⟨⟨q0, q1, q2⟩, f0, f1, f2⟩ := HR1.out.three; have hrl := HR1.out.lt; clear hb)
        | (go_at_call 56; refine (isMaster_any _ _).mono ?_; rw [HI2.out]; rintro e w' ⟨rfl, hw⟩; subst hw)
        | (go_at_call 57; go_must (refine (busCopy_any _ ms lat pss B _ (HI.out.below (HBE.out.mono HB.out)) (Nat.le_trans HB.out HBE.out.size) HL1.out HL2.out HL3.out HL4.out).mono ?_); rintro e w3 ⟨a, b, pb, us, L, rfl, oa, ob, hps, hl0, hb⟩; have HOA := hid oa; have HOB := hid ob; have HPS := hid hps; have HBF := hid (HBE.out.trans (hb.mono HBE.out.size)); have HR3 := hid (HR1.out.below hb HR1.out.lt); obtain ⟨ya, yb, rfl, _, _⟩ := oa.shape; obtain ⟨za, zb, rfl, _, _⟩ := ob.shape; have HL0 := hid hl0; clear oa ob hps hl0 hb s0 s1 s2 q0 q1 q2 f0 f1 f2))
      obtain ⟨W4, hW4⟩ : ∃ W4, W4 = w3.alloc (.cells #[.slice ya ms.length yb, .slice za lat.length zb, .slice (some ⟨pb, 0, none⟩) pss.length pss.length] 27) := ⟨_, rfl⟩
      rw [← hW4]
      have HB4 := hid (show Below w3.heap.size w3 W4 by rw [hW4]; exact bx1 _ _)
      have HX4 := hid (show BoxB W4 w3.heap.size (.slice ya ms.length yb) (.slice za lat.length zb) (.slice (some ⟨pb, 0, none⟩) pss.length pss.length) by rw [hW4]; exact BoxB.new _ _ _ _)
      clear hW4
      have HA4 := hid (HOA.out.below HB4.out); have HO4 := hid (HOB.out.below HB4.out); have HP4 := hid (HPS.out.below HB4.out)
      have HBG := hid (HBF.out.trans (HB4.out.mono HBF.out.size)); have HR4 := hid (HR3.out.below HB4.out HR3.out.lt)
      have hz1 := HR1.out.lt
      have hpb3 := HPS.out.pb
      have HPB := hid hpb3; have HZ1 := hid hz1
      clear HOA HOB HPS hpb3 hz1
      go_loopw [21] (fun i wr => ∃ (k : Nat) (us : List Value), i = .int .i64 k ∧ k ≤ pss.length ∧ BoxB wr w3.heap.size (.slice ya ms.length yb) (.slice za lat.length zb) (.slice (some ⟨pb, 0, none⟩) pss.length pss.length) ∧ Owns wr w1.heap.size 101 4 rowM (.slice ya ms.length yb) ms ∧ Owns wr w1.heap.size 3 1 rowI (.slice za lat.length zb) lat ∧ PsO wr w1.heap.size pb pss.length us (aloneK pss who k) L ∧ Below w.heap.size w wr ∧ Bx wr (w.heap.size + 1) [vnil, vnil, vnil]) (fun i _ => pss.length - (intOf i).toNat)
      case atStart => exact ⟨0, us, rfl, by omega, HX4.out, HA4.out, HO4.out, by rw [aloneK_zero]; exact HP4.out, HBG.out, HR4.out⟩
      case round =>
        clear HX4 HA4 HO4 HP4 HBG HR4
        obtain ⟨k, us, rfl, hk, hx, ha, ho, hp, hb, hr⟩ := hrel
        have HX := hid hx; have HA := hid ha; have HO2 := hid ho; have HP := hid hp; have HBE2 := hid hb; have HR5 := hid hr
        clear hx ha ho hp hb hr
        have hn3 := HL3.out
        by_cases hlt : k < pss.length
        · by_cases hw : (k : Int) = who
          · have hne : ((k : Int) != who) = false := by simp [hw]
            have HK := hid (aloneK_keep (pss := pss) hw)
            clear hw
            go_wp2_with fail
            go_roundw
            case rel => exact ⟨k + 1, us, by go_num, by omega, HX.out, HA.out, HO2.out, by rw [HK.out]; exact HP.out, HBE2.out, HR5.out⟩
            case measure => simp [intOf]; omega
          · have hne : ((k : Int) != who) = true := by simp [hw]
            have HN := hid (HP.out.setNil hlt hw)
            clear hw
            obtain ⟨⟨s0, s1, s2⟩, _⟩ := HX.out.bx.three
            have q := HP.out.outer.cellAt row1_len k 0 vnil (by rw [HP.out.len]; exact hlt) (by omega)
            have q2 := HP.out.outer.frozenAt k
            simp only [Nat.zero_add, Nat.mul_one, Nat.add_zero, row1, List.getElem?_cons_zero] at q
            have hpl := HP.out.pb.2
            go_wp2_with fail
            go_roundw
            case rel => exact ⟨k + 1, _, by go_num, by omega, HX.out.touch (Touch.setCell ..) (by have := HPB.out.2; omega), HA.out.tchB (Touch.setCell ..) (fun e => Owns.apartT HA.out HP.out.outer (by decide) pb e rfl), HO2.out.tchB (Touch.setCell ..) (fun e => Owns.apartT HO2.out HP.out.outer (by decide) pb e rfl), HN.out, HBE2.out.setCell (by show w.heap.size ≤ pb; have := HPB.out.1; have := HZ1.out; omega) _, HR5.out.kept (Below.heap_setCell _ _ _ _ (by show w.heap.size + 1 ≠ pb; have := HPB.out.1; have := HZ1.out; omega))⟩
            case measure => simp [intOf]; omega
        · obtain rfl : k = pss.length := by omega
          obtain ⟨⟨r0, r1, r2⟩, _⟩ := HX.out.bx.three
          obtain ⟨⟨q0, q1, q2⟩, f0, f1, f2⟩ := HR5.out.three
          have hrl := HR5.out.lt
          have hbl := HX.out.lt
          go_wp2_with fail
          refine bodyPost_ret (results_c1 Try.results9 _ _ ⟨w.heap.size + 1, 0, none⟩ (.agg #[.slice ya ms.length yb, .slice za lat.length zb, .slice (some ⟨pb, 0, none⟩) pss.length pss.length]) rfl (loadVar_bus _ _ _ _ _ (by simp [go_sem, *]) (by simp [go_sem, *]) (by simp [go_sem, *]))) rfl (.inl ⟨⟨HO.out, HI2.out⟩, _, _, _, us, L, rfl, ?_, ?_, ?_, HL0.out, ?_⟩)
          · have hz := HZ1.out
            exact OwnR.rebase (OwnR.kept HA.out (fun k hk => (touchB (w.heap.size + 1) _ _ _ _).block k (OwnR.lt HA.out k hk).2 (by have := (OwnR.lt HA.out k hk).1; omega))) (show w.heap.size ≤ w1.heap.size by omega)
          · have hz := HZ1.out
            exact OwnR.rebase (OwnR.kept HO2.out (fun k hk => (touchB (w.heap.size + 1) _ _ _ _).block k (OwnR.lt HO2.out k hk).2 (by have := (OwnR.lt HO2.out k hk).1; omega))) (show w.heap.size ≤ w1.heap.size by omega)
          · have hz := HZ1.out
            exact (HP.out.kept (fun k h1 h2 => (touchB (w.heap.size + 1) _ _ _ _).block k h2 (by omega)) (touchB (w.heap.size + 1) _ _ _ _).size).rebase (by omega)
          · exact ((HBE2.out.setCell (by exact Nat.le_succ _) _).setCell (by exact Nat.le_succ _) _).setCell (by exact Nat.le_succ _) _

end Go.Proofs.Yteamebdehembgaa

namespace Go.Proofs.Yteamebdehembgaa
open Go.RowKit

theorem heldIntC (v : Value) (n m B : Nat) (m' : Int) (w : World) (hv : Ints w B v (marks m n)) (hm : m + n ≤ 1152921504606846976) (e : m' = (m : Int)) :
    Calls Try.prog 97 #[v, .int .i64 m'] w fun e w' => e = .returned (.int .i64 ((m + n : Nat) : Int)) ∧ w = w' := by
  subst e; exact heldIntB_any v n m B w hv hm
set_option maxRecDepth 8000 in
set_option maxHeartbeats 8000000 in
theorem heldReqs_any (v : Value) (xs : List Rq) (m B : Nat) (w : World) (hv : Reqs w B v (markQ m xs)) (hB : B ≤ w.heap.size) (hm : m + sumG wQ xs ≤ 1152921504606846976) :
    Calls Try.prog 143 #[v, .int .i64 m] w fun e w' => e = .returned (.int .i64 ((m + sumG wQ xs : Nat) : Int)) ∧ w = w' := by
  obtain ⟨ao, cap, rfl, hlc, hcap, hln, hni, hr⟩ := hv.opened
  have HL := hid (markG_len mk1Q wQ xs m)
  unfold markQ at hlc hln hr ⊢
  rw [HL.out] at hlc hln hr ⊢
  have HM := hid hm
  clear hv hm
  go_enter Try.func143, Try.ntmps143
  go_wp2_with fail
  go_loop [1, 5] (fun m' i => ∃ k : Nat, k ≤ xs.length ∧ m' = .int .i64 ((m + sumG wQ (xs.take k) : Nat) : Int) ∧ i = .int .i64 k) (fun _ i => xs.length - (intOf i).toNat)
  case atStart => exact ⟨0, Nat.zero_le _, by simp [sumG], rfl⟩
  case round =>
    obtain ⟨k, hk, rfl, rfl⟩ := hrel
    by_cases hlt : k < xs.length
    · obtain ⟨b, off, rfl, hb, hc⟩ := hr (by omega)
      obtain ⟨da, dc, la, lc, hq, c0, c1, c2, c3, c4, c5, c6⟩ := hc k hlt
      have hg := markG_get mk1Q wQ m hlt default
      rw [hg] at c0 c1 c2 c3 c4 c5 c6 hq
      obtain ⟨mk, hmk⟩ : ∃ mk, mk = m + sumG wQ (xs.take k) := ⟨_, rfl⟩
      obtain ⟨x, hx⟩ : ∃ x, x = xs.getD k default := ⟨_, rfl⟩
      rw [← hmk, ← hx] at c0 c1 c2 c3 c4 c5 c6 hq
      rw [← hmk]
      have HD := hid (show Ints w B (.slice da x.data.length dc) (marks (mk + 5) x.data.length) ∧ Ints w B (.slice la x.lanes.length lc) (marks (mk + 5 + x.data.length) x.lanes.length) by
        obtain ⟨_, _, e, h1, h2, _⟩ := hq
        simp only [mk1Q, marks_len, Value.agg.injEq, Array.mk.injEq, List.cons.injEq, and_true, true_and] at e
        obtain ⟨rfl, rfl⟩ := e
        exact ⟨h1, h2⟩)
      simp only [mk1Q, marks_len] at c0 c1 c2 c3 c4 c5 c6
      have HNX := hid (show m + sumG wQ (xs.take (k + 1)) = mk + (5 + x.data.length + x.lanes.length) by rw [sumG_snoc wQ hlt default, hmk, ← hx]; show m + (sumG wQ (List.take k xs) + (5 + x.data.length + x.lanes.length)) = _; omega)
      have hmb : mk + (5 + x.data.length + x.lanes.length) ≤ 1152921504606846976 := by
        have := sumG_take_le wQ xs (k + 1); have := HM.out; have := HNX.out; omega
      have ht : ((mk + 4 : Nat) : Int).tmod 3 = ((mk : Int) + 1 + 1 + 1 + 1) % 3 := by
        rw [Int.tmod_eq_emod_of_nonneg (by omega)]; congr 1
      rw [ht] at c4
      clear hc hr hg hq hmk hx ht
      go_wp2_with fail
      refine (heldIntC _ x.data.length (mk + 5) B _ w HD.out.1 (by omega) (by omega)).mono ?_
      rintro e w2 ⟨rfl, hww⟩
      subst hww
      go_wp2_with fail
      refine (heldIntC _ x.lanes.length (mk + 5 + x.data.length) B _ w HD.out.2 (by omega) (by omega)).mono ?_
      rintro e w2 ⟨rfl, hww⟩
      subst hww
      go_wp2_with fail
      go_round
      case rel => exact ⟨k + 1, by omega, by rw [HNX.out]; go_num, by go_num⟩
      case measure => simp [intOf]; omega
    · obtain rfl : k = xs.length := by omega
      have he := hid (show sumG wQ (xs.take xs.length) = sumG wQ xs by rw [List.take_length])
      rw [he.out]
      go_wp2_with fail
      go_ret
      exact ⟨rfl, rfl⟩

end Go.Proofs.Yteamebdehembgaa

namespace Go.Proofs.Yteamebdehembgaa
open Go.RowKit

def wP (p : List Rq) : Nat := sumG wQ p
def markPs (m : Nat) (pss : List (List Rq)) : List (List Rq) := markG markQ wP m pss
theorem markQ_len (m : Nat) (p : List Rq) : (markQ m p).length = p.length := markG_len ..
theorem markPs_len (m : Nat) (pss : List (List Rq)) : (markPs m pss).length = pss.length := markG_len ..

set_option maxRecDepth 8000 in
set_option maxHeartbeats 8000000 in
theorem heldProgs_any (v : Value) (xs : List (List Rq)) (m B : Nat) (w : World) (hv : Progs w B v (markPs m xs)) (hB : B ≤ w.heap.size) (hm : m + sumG wP xs ≤ 1152921504606846976) :
    Calls Try.prog 98 #[v, .int .i64 m] w fun e w' => e = .returned (.int .i64 ((m + sumG wP xs : Nat) : Int)) ∧ w = w' := by
  obtain ⟨ao, cap, rfl, hlc, hcap, hln, hni, hr⟩ := hv.opened
  rw [markPs_len] at hlc hln hr ⊢
  have HM := hid hm
  clear hv hm
  go_enter Try.func98, Try.ntmps98
  go_wp2_with fail
  go_loop [1, 5] (fun m' i => ∃ k : Nat, k ≤ xs.length ∧ m' = .int .i64 ((m + sumG wP (xs.take k) : Nat) : Int) ∧ i = .int .i64 k) (fun _ i => xs.length - (intOf i).toNat)
  case atStart => exact ⟨0, Nat.zero_le _, by simp [sumG], rfl⟩
  case round =>
    obtain ⟨k, hk, rfl, rfl⟩ := hrel
    by_cases hlt : k < xs.length
    · obtain ⟨b, off, rfl, hb, hc⟩ := hr (by omega)
      obtain ⟨da, dc, hq, c0⟩ := hc k hlt
      have hg : (markPs m xs).getD k [] = markQ (m + sumG wP (xs.take k)) (xs.getD k []) := markG_get markQ wP m hlt []
      rw [hg, markQ_len] at c0 hq
      obtain ⟨mk, hmk⟩ : ∃ mk, mk = m + sumG wP (xs.take k) := ⟨_, rfl⟩
      obtain ⟨x, hx⟩ : ∃ x, x = xs.getD k [] := ⟨_, rfl⟩
      rw [← hx] at c0 hq
      rw [← hmk] at hq
      rw [← hmk]
      have HQ := hid hq
      have HNX := hid (show m + sumG wP (xs.take (k + 1)) = mk + sumG wQ x by rw [sumG_snoc wP hlt [], hmk, ← hx]; show m + (sumG wP (List.take k xs) + sumG wQ x) = _; omega)
      have hmb : mk + sumG wQ x ≤ 1152921504606846976 := by
        have := sumG_take_le wP xs (k + 1); have := HM.out; have := HNX.out; omega
      clear hc hr hg hq hmk hx
      go_wp2_with fail
      refine (heldReqs_any _ x mk B w HQ.out hB hmb).mono ?_
      rintro e w2 ⟨rfl, hww⟩
      subst hww
      go_wp2_with fail
      go_round
      case rel => exact ⟨k + 1, by omega, by rw [HNX.out]; go_num, by go_num⟩
      case measure => simp [intOf]; omega
    · obtain rfl : k = xs.length := by omega
      have he := hid (show sumG wP (xs.take xs.length) = sumG wP xs by rw [List.take_length])
      rw [he.out]
      go_wp2_with fail
      go_ret
      exact ⟨rfl, rfl⟩

end Go.Proofs.Yteamebdehembgaa

namespace Go.Proofs.Yteamebdehembgaa
open Go.RowKit

set_option maxRecDepth 8000 in
set_option maxHeartbeats 8000000 in
theorem heldRanges_any (v : Value) (xs : List MR) (m B : Nat) (w : World) (hv : Maps w B v (markM m xs)) (hB : B ≤ w.heap.size) (hm : m + 4 * xs.length ≤ 1152921504606846976) :
    Calls Try.prog 96 #[v, .int .i64 m] w fun e w' => e = .returned (.int .i64 ((m + 4 * xs.length : Nat) : Int)) ∧ w = w' := by
  obtain ⟨ao, cap, rfl, hlc, hcap, hln, hni, hr⟩ := hv.opened
  have HL := hid (show (markM m xs).length = xs.length from markG_len ..)
  rw [HL.out] at hlc hln hr ⊢
  clear hv
  go_enter Try.func96, Try.ntmps96
  go_wp2_with fail
  go_loop [1, 5] (fun m' i => ∃ k : Nat, k ≤ xs.length ∧ m' = .int .i64 ((m + 4 * k : Nat) : Int) ∧ i = .int .i64 k) (fun _ i => xs.length - (intOf i).toNat)
  case atStart => exact ⟨0, Nat.zero_le _, by simp, rfl⟩
  case round =>
    obtain ⟨k, hk, rfl, rfl⟩ := hrel
    by_cases hlt : k < xs.length
    · obtain ⟨b, off, rfl, hb, hc⟩ := hr (by omega)
      obtain ⟨c0, c1, c2, c3⟩ := hc k hlt
      have hg : (markM m xs).getD k default = mk1M (m + 4 * k) := by
        have := markG_get (fun m _ => mk1M m) (fun _ => 4) m hlt default
        rw [sum4, List.length_take, Nat.min_eq_left (by omega)] at this
        exact this
      rw [hg] at c0 c1 c2 c3
      obtain ⟨mk, hmk⟩ : ∃ mk, mk = m + 4 * k := ⟨_, rfl⟩
      rw [← hmk] at c0 c1 c2 c3
      rw [← hmk]
      simp only [mk1M] at c0 c1 c2 c3
      have hmb : mk + 4 ≤ 1152921504606846976 := by omega
      have ht : ((mk + 3 : Nat) : Int).tmod 3 = ((mk : Int) + 1 + 1 + 1) % 3 := by
        rw [Int.tmod_eq_emod_of_nonneg (by omega)]; congr 1
      try rw [ht] at c3
      have HMK := hid hmk
      clear hc hr hg hmk ht
      go_wp2_with fail
      go_round
      case rel => exact ⟨k + 1, by omega, by have := HMK.out; go_num, by go_num⟩
      case measure => simp [intOf]; omega
    · obtain rfl : k = xs.length := by omega
      go_wp2_with fail
      go_ret
      exact ⟨rfl, rfl⟩

end Go.Proofs.Yteamebdehembgaa

namespace Go.Proofs.Yteamebdehembgaa
open Go.RowKit

set_option maxRecDepth 8000 in
set_option maxHeartbeats 8000000 in
theorem heldBus_any (v : Value) (ms : List MR) (n : Nat) (pss : List (List Rq)) (m B : Nat) (w : World) (h : BusI w B v (markM m ms) (marks (m + 4 * ms.length) n) (markPs (m + 4 * ms.length + n) pss)) (hB : B ≤ w.heap.size) (hm : m + 4 * ms.length + n + sumG wP pss ≤ 1152921504606846976) :
    Calls Try.prog 25 #[v, .int .i64 m] w fun e w' => e = .returned (.int .i64 ((m + 4 * ms.length + n + sumG wP pss : Nat) : Int)) ∧ Below w.heap.size w w' := by
  obtain ⟨mv, lv, pv, rfl, hm1, hl, hp⟩ := h
  have HM := hid hm1; have HL := hid hl; have HP := hid hp; have HB := hid hB
  obtain ⟨ma, mc, rfl, _⟩ := hm1.opened
  obtain ⟨la, lc, rfl, _⟩ := hl.opened
  obtain ⟨pa, pc, rfl, _⟩ := hp.opened
  clear hm1 hl hp hB
  generalize (markM m ms).length = k1 at *
  generalize (marks (m + 4 * ms.length) n).length = k2 at *
  generalize (markPs (m + 4 * ms.length + n) pss).length = k3 at *
  obtain ⟨W2, hW2⟩ : ∃ W2, W2 = w.alloc (.cells #[.slice ma k1 mc, .slice la k2 lc, .slice pa k3 pc] 27) := ⟨_, rfl⟩
  have HB2 := hid (show Below w.heap.size w W2 by rw [hW2]; exact bx1 _ _)
  have HS := hid (show Bx W2 w.heap.size [.slice ma k1 mc, .slice la k2 lc, .slice pa k3 pc] by rw [hW2]; exact Bx.new w #[.slice ma k1 mc, .slice la k2 lc, .slice pa k3 pc] _ (by simp))
  have HW2 := hid hW2
  clear hW2
  go_enter Try.func25, Try.ntmps25
  go_wp2_with fail
  rw [show w.alloc _ = W2 from HW2.out.symm]
  refine (heldRanges_any _ ms m B W2 (HM.out.below (HB2.out.mono HB.out)) (Nat.le_trans HB.out HB2.out.size) (by omega)).mono ?_
  rintro e w3 ⟨rfl, hw⟩
  subst hw
  obtain ⟨⟨r0, r1, r2⟩, _⟩ := HS.out.three
  have hz := HS.out.lt
  go_wp2_with fail
  refine (heldIntB_any _ n (m + 4 * ms.length) B W2 (HL.out.below (HB2.out.mono HB.out)) (by omega)).mono ?_
  rintro e w3 ⟨rfl, hw⟩
  subst hw
  go_wp2_with fail
  refine (heldProgs_any _ pss (m + 4 * ms.length + n) B W2 (HP.out.below (HB2.out.mono HB.out)) (Nat.le_trans HB.out HB2.out.size) (by omega)).mono ?_
  rintro e w3 ⟨rfl, hw⟩
  subst hw
  go_wp2_with fail
  go_ret
  exact ⟨rfl, HB2.out⟩

end Go.Proofs.Yteamebdehembgaa
