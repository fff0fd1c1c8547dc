/-
  The exact laws' helpers: a bus, measured.
-/
import Derived.Test.YteamebdehembgaaKQ10
import Derived.Test.YteamebdehembgaaJQ1
import Derived.Test.YteamebdehembgaaJXs
set_option linter.unusedVariables false
set_option linter.unusedSimpArgs false
namespace Go.Proofs.Yteamebdehembgaa
open Go.RowKit

/-- What is asked where all but one, of the first k, ask nothing. -/
def aloneK (pss : List (List Rq)) (who : Int) (k : Nat) : List (List Rq) := (List.range pss.length).map fun j => if j < k ∧ (j : Int) ≠ who then [] else pss.getD j []
theorem aloneK_len (pss : List (List Rq)) (who : Int) (k : Nat) : (aloneK pss who k).length = pss.length := by simp [aloneK]
theorem aloneK_get {pss : List (List Rq)} {who : Int} {k j : Nat} (hj : j < pss.length) : (aloneK pss who k).getD j [] = if j < k ∧ (j : Int) ≠ who then [] else pss.getD j [] := by simp [aloneK, List.getD, hj]
theorem aloneK_zero (pss : List (List Rq)) (who : Int) : aloneK pss who 0 = pss := by
  apply List.ext_getElem
  · simp [aloneK]
  · intro i h1 h2; simp [aloneK, List.getD, h2]
theorem aloneK_keep {pss : List (List Rq)} {who : Int} {k : Nat} (h : (k : Int) = who) : aloneK pss who (k + 1) = aloneK pss who k := by
  unfold aloneK
  apply List.map_congr_left
  intro j _
  by_cases e : j = k
  · subst e; simp [h]
  · have : (j < k + 1 ↔ j < k) := by omega
    simp [this]
theorem PsO.setNil {w : World} {lo pb n k : Nat} {us : List Value} {pss : List (List Rq)} {who : Int} {L : Nat → Nat} (h : PsO w lo pb n us (aloneK pss who k) L) (hk : k < pss.length) (hw : (k : Int) ≠ who) : PsO (w.setCell ⟨pb, k, none⟩ vnil) lo pb n (us.set k vnil) (aloneK pss who (k + 1)) L := by
  have hl := h.le
  rw [aloneK_len] at hl
  have ho := h.outer.putRow row1_len k 0 vnil vnil vnil (by rw [h.len]; omega) (by omega) rfl
  simp only [Nat.zero_add, Nat.mul_one, Nat.add_zero] at ho
  have hs : (w.setCell ⟨pb, k, none⟩ vnil).heap.size = w.heap.size := by simp [World.setCell]
  refine ⟨ho, by rw [List.length_set]; exact h.len, by rw [aloneK_len]; exact hl, fun j hj => ?_, fun j h1 h2 => ?_, fun j hj => h.mono j (by rw [aloneK_len] at hj ⊢; exact hj), h.pbl, by rw [hs, aloneK_len]; have := h.top; rw [aloneK_len] at this; exact this⟩
  · rw [aloneK_len] at hj
    rw [aloneK_get hj]
    by_cases e : j = k
    · subst e
      rw [getD_set_eq (by rw [h.len]; omega), if_pos ⟨by omega, hw⟩]
      exact PgO.nil _ _ _
    · rw [getD_set_ne' e]
      have := h.pg j (by rw [aloneK_len]; exact hj)
      rw [aloneK_get hj] at this
      have hc : (if j < k + 1 ∧ (j : Int) ≠ who then ([] : List Rq) else pss.getD j []) = if j < k ∧ (j : Int) ≠ who then [] else pss.getD j [] := by
        have : (j < k + 1 ↔ j < k) := by omega
        simp [this]
      rw [hc]
      refine this.kept fun i h1 _ _ => Below.heap_setCell _ _ _ _ ?_
      have := h.le0 j (by rw [aloneK_len]; omega); have := h.pbl
      show i ≠ pb
      omega
  · rw [aloneK_len] at h1
    rw [getD_set_ne' (by omega)]
    exact h.nil j (by rw [aloneK_len]; exact h1) h2

end Go.Proofs.Yteamebdehembgaa

namespace Go.Proofs.Yteamebdehembgaa
open Go.RowKit

theorem PsO.snoc {w w' : World} {lo pb n : Nat} {us : List Value} {pss : List (List Rq)} {L : Nat → Nat} {u : Value} {x : List Rq} (h : PsO w lo pb n us pss L) (hk : pss.length < n) (hb : Below w.heap.size w w') (hp : PgO w' w.heap.size w'.heap.size u x) :
    PsO (w'.setCell ⟨pb, pss.length, none⟩ u) lo pb n (us.set pss.length u) (pss ++ [x]) (fun j => if j ≤ pss.length then L j else w'.heap.size) := by
  have h' := h.below hb
  have hpb := h.pb
  have hs : (w'.setCell ⟨pb, pss.length, none⟩ u).heap.size = w'.heap.size := by simp [World.setCell]
  have ho := h'.outer.putRow row1_len pss.length 0 vnil u u (by rw [h.len]; omega) (by omega) rfl
  simp only [Nat.zero_add, Nat.mul_one, Nat.add_zero] at ho
  have hset : ∀ i, i ≠ pb → (w'.setCell ⟨pb, pss.length, none⟩ u).heap[i]? = w'.heap[i]? := fun i hi => Below.heap_setCell _ _ _ _ hi
  have htop := h.top
  have hl0 := h.le0 pss.length (Nat.le_refl _)
  have hpl := h.pbl
  have hz := hb.size
  refine ⟨ho, by rw [List.length_set]; exact h.len, by simp; omega, fun j hj => ?_, fun j h1 h2 => ?_, fun j hj => ?_, ?_, ?_⟩
  · by_cases e : j = pss.length
    · subst e
      rw [getD_set_eq (by rw [h.len]; exact hk), getD_snoc_eq]
      simp only [Nat.le_refl, if_true, show ¬ pss.length + 1 ≤ pss.length by omega, if_false]
      exact (hp.kept fun i h1 _ _ => hset i (by omega)).rebase htop
    · have hj2 : j < pss.length := by simp at hj; omega
      rw [getD_set_ne' e, getD_snoc_lt hj2]
      simp only [show j ≤ pss.length by omega, if_true, show j + 1 ≤ pss.length by omega]
      exact (h'.pg j hj2).kept fun i h1 _ _ => hset i (by have := h.le0 j (by omega); omega)
  · have hj2 : pss.length + 1 ≤ j := by simp at h1; omega
    rw [getD_set_ne' (by omega)]
    exact h.nil j (by omega) h2
  · by_cases e : j = pss.length
    · subst e
      simp only [Nat.le_refl, if_true, show ¬ pss.length + 1 ≤ pss.length by omega, if_false]
      omega
    · have hj2 : j < pss.length := by simp at hj; omega
      simp only [show j ≤ pss.length by omega, if_true, show j + 1 ≤ pss.length by omega]
      exact h.mono j hj2
  · simp only [Nat.zero_le, if_true]; exact hpl
  · rw [hs]
    have : (pss ++ [x]).length = pss.length + 1 := by simp
    rw [this]
    simp only [show ¬ pss.length + 1 ≤ pss.length by omega, if_false]
    exact Nat.le_refl _

end Go.Proofs.Yteamebdehembgaa

namespace Go.Proofs.Yteamebdehembgaa
open Go.RowKit

/-- No list of what one asks is longer than a measure. -/
def Ps20 (p : List Rq) : Prop := p.length ≤ 1048576 ∧ ∀ j, j < p.length → Rq20 (p.getD j default)
set_option maxHeartbeats 4000000 in
theorem szProgs_any (v : Value) (rs : List (List Rq)) (left : Int) (B : Nat) (w : World) (h : Progs w B v rs) (hB : B ≤ w.heap.size) (h0 : 0 ≤ left) (h1 : left ≤ 1048576) :
    Calls Try.prog 89 #[v, .int .i64 left] w (SzB left (rs.length ≤ 1048576 ∧ ∀ j, j < rs.length → Ps20 (rs.getD j [])) w) := by
  obtain ⟨ao, cap, rfl, hlc, hcap, hln, hni, hr⟩ := h.opened
  clear h
  by_cases hq : left - (rs.length : Int) < 0
  · go_enter Try.func89, Try.ntmps89
    go_wp2_with fail
    go_ret
    exact ⟨-1, rfl, .inl rfl, Below.refl _ _⟩
  · go_enter Try.func89, Try.ntmps89
    go_wp2_with fail
    go_loopw [1, 5] (fun l i wr => ∃ (k : Nat) (r : Int), k ≤ rs.length ∧ l = .int .i64 r ∧ i = .int .i64 k ∧ 0 ≤ r ∧ r ≤ left ∧ (∀ j, j < k → Ps20 (rs.getD j [])) ∧ Below w.heap.size w wr) (fun _ i _ => rs.length - (intOf i).toNat)
    case atStart => exact ⟨0, _, Nat.zero_le _, rfl, rfl, by omega, by omega, by simp, Below.refl _ _⟩
    case round =>
      obtain ⟨k, r, hk, rfl, rfl, hr0, hr1, hno, hbl⟩ := hrel
      have HN := hid hno; clear hno
      by_cases hlt : k < rs.length
      · obtain ⟨b, off, rfl, hb, hc⟩ := hr (by omega)
        obtain ⟨da, dc, hu, c0⟩ := hc k hlt
        obtain ⟨x, hx⟩ : ∃ x, x = rs.getD k [] := ⟨_, rfl⟩
        rw [← hx] at c0 hu
        rw [← hbl.cell (p := ⟨b, _, none⟩) (Nat.lt_of_lt_of_le hb hB)] at c0
        have HX := hid hx; have HU := hid (hu.below (hbl.mono hB)); have HB := hid hbl; clear hx hc hr hu hbl
        go_wp2_with fail
        refine (szReqs_any _ x r B _ HU.out (Nat.le_trans hB HB.out.size) hr0 (by omega)).mono ?_
        rintro e w' ⟨r2, rfl, hr2, hb'⟩
        have HB2 := hid (HB.out.trans (hb'.mono HB.out.size))
        have HR2 := hid hr2
        clear hb' hr2
        by_cases hn : r2 < 0
        · go_wp2_with fail
          go_ret
          exact ⟨-1, rfl, .inl rfl, HB2.out⟩
        · have hg := hid (show 0 ≤ r2 ∧ r2 ≤ r ∧ Ps20 x by have := HR2.out; rcases this with h | h; omega; exact h)
          go_wp2_with fail
          go_roundw
          case rel =>
            refine ⟨k + 1, r2, by omega, by go_num, by go_num, hg.out.1, by have := hg.out.2.1; omega, fun j hj => ?_, HB2.out⟩
            by_cases e : j = k
            · subst e; rw [← HX.out]; exact hg.out.2.2
            · exact HN.out j (by omega)
          case measure => simp [intOf]; omega
      · have hke : k = rs.length := by omega
        go_wp2_with fail
        go_ret
        exact ⟨_, rfl, .inr ⟨hr0, hr1, by omega, fun j hj => HN.out j (by omega)⟩, hbl⟩

end Go.Proofs.Yteamebdehembgaa

namespace Go.Proofs.Yteamebdehembgaa
open Go.RowKit

def ToPsP (pss : List (List Rq)) (w : World) (e : Ending) (w' : World) : Prop := ∃ (pb : Nat) (us : List Value) (L : Nat → Nat), e = .returned (.slice (some ⟨pb, 0, none⟩) pss.length pss.length) ∧ PsO w' w.heap.size pb pss.length us pss L ∧ Below w.heap.size w w'
set_option maxRecDepth 8000 in
set_option maxHeartbeats 8000000 in
theorem toProgs_any (v : Value) (pss : List (List Rq)) (B : Nat) (w : World) (hv : Progs w B v pss) (hB : B ≤ w.heap.size) (hlen : pss.length ≤ 1048576) (h20 : ∀ j, j < pss.length → Ps20 (pss.getD j [])) :
    Calls Try.prog 91 #[v] w (ToPsP pss w) := by
  obtain ⟨ao, cap, rfl, hlc, hcap, hln, hni, hr⟩ := hv.opened
  have H20 := hid h20
  clear hv h20
  go_enter Try.func91, Try.ntmps91
  go_wp2_with (first | (at_make; go_must (refine wpList_mk row1 vnil vnil Try.underlying25 infoPQ rfl (by omega) rfl _ rfl _ _ rfl _ _ _ _ pss.length rfl rfl rfl rfl (by omega) (by unfold maxLen; omega) ?_); intro w1 hown hbel hlt1))
  have H0 := hid (show PsO w1 w.heap.size w.heap.size pss.length (List.replicate pss.length vnil) (pss.take 0) (fun _ => w1.heap.size) from ⟨hown, by simp, by simp, fun j hj => absurd hj (by simp), fun j _ hj => by simp [List.getD, hj], fun j hj => absurd hj (by simp), hlt1, Nat.le_refl _⟩)
  have HB0 := hid hbel
  clear hown hbel hlt1
  go_loopw [4] (fun i wr => ∃ (k : Nat) (us : List Value) (L : Nat → Nat), k ≤ pss.length ∧ i = .int .i64 k ∧ PsO wr w.heap.size w.heap.size pss.length us (pss.take k) L ∧ Below w.heap.size w wr) (fun i _ => pss.length - (intOf i).toNat)
  case atStart => exact ⟨0, _, _, Nat.zero_le _, rfl, H0.out, HB0.out⟩
  case round =>
    obtain ⟨k, us, L, hk, rfl, hq, hbel⟩ := hrel
    have HQ := hid hq; have HB := hid hbel
    clear hq H0 HB0
    have HTL := hid (show (pss.take k).length = k by simp; omega)
    by_cases hlt : k < pss.length
    · obtain ⟨b, off, rfl, hb, hc⟩ := hr (by omega)
      obtain ⟨da, dc, hu, c0⟩ := hc k hlt
      obtain ⟨x, hx⟩ : ∃ x, x = pss.getD k [] := ⟨_, rfl⟩
      rw [← hx] at c0 hu
      rw [← hbel.cell (p := ⟨b, _, none⟩) (Nat.lt_of_lt_of_le hb hB)] at c0
      have HX := hid hx; have HU := hid (hu.below (hbel.mono hB))
      have HK := hid (show Ps20 x by rw [hx]; exact H20.out k hlt)
      clear hx hc hr hu hbel
      go_wp2_with fail
      refine (toReqs_any _ x B wr HU.out (Nat.le_trans hB HB.out.size) HK.out.1 HK.out.2).mono ?_
      rintro e w2 ⟨g, vs, rfl, hqs, hb2⟩
      have hp := hqs.toC rfl
      have HN := hid (HQ.out.snoc (u := .slice (some ⟨g, 0, none⟩) x.length x.length) (x := x) (by rw [HTL.out]; exact hlt) hb2 (.inr ⟨g, 0, x.length, vs, rfl, Nat.le_refl _, by have := HK.out.1; omega, hp, hp.bound⟩))
      rw [HTL.out] at HN
      have HB2 := hid (HB.out.trans (hb2.mono HB.out.size))
      have HQ2 := hid (HQ.out.below hb2)
      have q := HQ2.out.outer.cellAt row1_len k 0 vnil (by rw [HQ2.out.len]; exact hlt) (by omega)
      have q2 := HQ2.out.outer.frozenAt k
      simp only [Nat.zero_add, Nat.mul_one, Nat.add_zero, row1, List.getElem?_cons_zero] at q
      have hpl := HQ2.out.pb.2
      have hx20 := HK.out.1
      clear hqs hp hb2 c0
      go_wp2_with fail
      go_roundw
      case rel => exact ⟨k + 1, _, _, by omega, by go_num, by rw [show pss.take (k + 1) = pss.take k ++ [x] by rw [List.take_succ_eq_append_getElem hlt, HX.out]; simp [List.getD, hlt]]; exact HN.out, HB2.out.setCell (by exact Nat.le_refl _) _⟩
      case measure => simp [intOf]; omega
    · have hk2 : k = pss.length := by omega
      subst hk2
      rw [List.take_length] at HQ
      go_wp2_with fail
      go_ret
      exact ⟨_, _, _, rfl, HQ.out, HB.out⟩

end Go.Proofs.Yteamebdehembgaa

namespace Go.Proofs.Yteamebdehembgaa
open Go.RowKit

set_option maxHeartbeats 4000000 in
theorem szBus_any (v : Value) (ms : List MR) (lat : List Int) (pss : List (List Rq)) (left : Int) (B : Nat) (w : World) (h : BusI w B v ms lat pss) (hB : B ≤ w.heap.size) (h0 : 0 ≤ left) (h1 : left ≤ 1048576) :
    Calls Try.prog 21 #[v, .int .i64 left] w (SzB left (ms.length ≤ 1048576 ∧ lat.length ≤ 1048576 ∧ pss.length ≤ 1048576 ∧ ∀ j, j < pss.length → Ps20 (pss.getD j [])) w) := by
  obtain ⟨mv, lv, pv, rfl, hm, hl, hp⟩ := h
  have HM := hid hm; have HL := hid hl; have HP := hid hp
  obtain ⟨ma, mc, rfl, _⟩ := hm.opened
  obtain ⟨la, lc, rfl, _⟩ := hl.opened
  obtain ⟨pa, pc, rfl, _⟩ := hp.opened
  clear hm hl hp
  have HB := hid (bx1 w)
  go_enter Try.func21, Try.ntmps21
  go_wp2_with fail
  refine (szRanges_any _ ms left B _ (HM.out.below ((HB.out _).mono hB)) h0 h1).mono ?_
  rintro e w1 ⟨r, rfl, hr, hw⟩
  subst hw
  have HR := hid hr
  clear hr
  by_cases hn : r < 0
  · go_wp2_with fail
    go_ret
    exact ⟨_, rfl, .inl rfl, HB.out _⟩
  · have hq0 : 0 ≤ r := by omega
    have hq1 : r ≤ 1048576 := by have := HR.out; omega
    go_wp2_with fail
    refine (szIntS_any _ lat r B _ (HL.out.below ((HB.out _).mono hB)) hq0 hq1).mono ?_
    rintro e w1 ⟨r2, rfl, hr2, hw⟩
    subst hw
    have HR2 := hid hr2
    clear hr2
    by_cases hn2 : r2 < 0
    · go_wp2_with fail
      go_ret
      exact ⟨_, rfl, .inl rfl, HB.out _⟩
    · have hp0 : 0 ≤ r2 := by omega
      have hp1 : r2 ≤ 1048576 := by have := HR2.out; omega
      go_wp2_with fail
      refine (szProgs_any _ pss r2 B _ (HP.out.below ((HB.out _).mono hB)) (Nat.le_trans hB (HB.out _).size) hp0 hp1).mono ?_
      rintro e w2 ⟨r3, rfl, hr3, hb⟩
      have HR3 := hid hr3
      have HE := hid ((HB.out _).trans (hb.mono (HB.out _).size))
      clear hr3 hb
      by_cases hn3 : r3 < 0
      · go_wp2_with fail
        go_ret
        exact ⟨_, rfl, .inl rfl, HE.out⟩
      · go_wp2_with fail
        go_ret
        refine ⟨_, rfl, .inr ?_, HE.out⟩
        rcases HR3.out with h3 | ⟨h3, h4, h5, h6⟩
        · omega
        · exact ⟨by omega, by have := HR.out; have := HR2.out; omega, by have := HR.out; omega, by have := HR.out; have := HR2.out; omega, h5, h6⟩

end Go.Proofs.Yteamebdehembgaa
