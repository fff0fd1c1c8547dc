/-
  The exact laws' helpers: the same is the same (printed by wip/gen_xv.py).
-/
import Derived.Test.YteamebdehembgaaJEx1
import Derived.Test.YteamebdehembgaaJCr1
import Derived.Test.YteamebdehembgaaKRu3
import Derived.Outline
import Derived.Deep.RegionHeld3
set_option linter.unusedVariables false
set_option linter.unusedSimpArgs false
namespace Go.Proofs.Yteamebdehembgaa
open Go.RowKit

theorem bx1 (w : World) (o : Obj) : Below w.heap.size w (w.alloc o) := (Below.refl _ _).alloc (Nat.le_refl _) _

/-- What a measure leaves: less than nothing, or what was within it. -/
def SzP (left : Int) (n : Nat) (w : World) (e : Ending) (w' : World) : Prop := ∃ r : Int, e = .returned (.int .i64 r) ∧ (r = -1 ∨ (0 ≤ r ∧ r ≤ left ∧ (n : Int) ≤ left)) ∧ w = w'
def SzB (left : Int) (p : Prop) (w : World) (e : Ending) (w' : World) : Prop := ∃ r : Int, e = .returned (.int .i64 r) ∧ (r = -1 ∨ (0 ≤ r ∧ r ≤ left ∧ p)) ∧ Below w.heap.size w w'
set_option maxHeartbeats 1000000 in
theorem szIntS_any (v : Value) (xs : List Int) (left : Int) (B : Nat) (w : World) (hv : Ints w B v xs) (h0 : 0 ≤ left) (h1 : left ≤ 1048576) :
    Calls Try.prog 88 #[v, .int .i64 left] w (SzP left xs.length w) := by
  obtain ⟨ao, cap, rfl, hlc, hcap, hln, hni, hr⟩ := hv.opened
  clear hr
  by_cases hq : left - (xs.length : Int) < 0
  · go_enter Try.func88, Try.ntmps88
    go_wp2_with fail
    go_ret
    exact ⟨-1, rfl, .inl rfl, rfl⟩
  · go_enter Try.func88, Try.ntmps88
    go_wp2_with fail
    go_ret
    exact ⟨_, rfl, .inr ⟨by omega, by omega, by omega⟩, rfl⟩
set_option maxHeartbeats 1000000 in
theorem szRanges_any (v : Value) (ms : List MR) (left : Int) (B : Nat) (w : World) (hv : Maps w B v ms) (h0 : 0 ≤ left) (h1 : left ≤ 1048576) :
    Calls Try.prog 26 #[v, .int .i64 left] w (SzP left ms.length w) := by
  obtain ⟨ao, cap, rfl, hlc, hcap, hln, hni, hr⟩ := hv.opened
  clear hr
  by_cases hq : left - (ms.length : Int) < 0
  · go_enter Try.func26, Try.ntmps26
    go_wp2_with fail
    go_ret
    exact ⟨-1, rfl, .inl rfl, rfl⟩
  · go_enter Try.func26, Try.ntmps26
    go_wp2_with fail
    go_ret
    exact ⟨_, rfl, .inr ⟨by omega, by omega, by omega⟩, rfl⟩
set_option maxHeartbeats 1000000 in
theorem szMem_any (v : Value) (xs : List Int) (left : Int) (B : Nat) (w : World) (hv : Ints w B v xs) (hB : B ≤ w.heap.size) (h0 : 0 ≤ left) (h1 : left ≤ 1048576) :
    Calls Try.prog 99 #[.agg #[v], .int .i64 left] w (SzB left (xs.length ≤ 1048576) w) := by
  have HV := hid hv
  obtain ⟨ao, cap, rfl, _⟩ := hv.opened
  clear hv
  have HB := hid (bx1 w)
  go_enter Try.func99, Try.ntmps99
  go_wp2_with fail
  refine (szIntS_any _ xs left B _ (HV.out.below ((HB.out _).mono hB)) h0 h1).mono ?_
  rintro e w1 ⟨r, rfl, hr, hw⟩
  subst hw
  have HR := hid hr; clear hr
  by_cases hn : r < 0
  · go_wp2_with fail
    go_ret
    exact ⟨_, rfl, .inl rfl, HB.out _⟩
  · go_wp2_with fail
    go_ret
    exact ⟨_, rfl, .inr (by have := HR.out; omega), HB.out _⟩
set_option maxHeartbeats 2000000 in
theorem szAtm_any (v : Value) (ws hs : List Int) (left : Int) (B : Nat) (w : World) (h : AtmV w B v ws hs) (hB : B ≤ w.heap.size) (h0 : 0 ≤ left) (h1 : left ≤ 1048576) :
    Calls Try.prog 27 #[v, .int .i64 left] w (SzB left (ws.length ≤ 1048576 ∧ hs.length ≤ 1048576) w) := by
  obtain ⟨wv, hv, rfl, k1, k2⟩ := h
  have HV := hid k1; have HU := hid k2
  obtain ⟨ao, cap, rfl, _⟩ := k1.opened
  obtain ⟨bo, cbp, rfl, _⟩ := k2.opened
  clear k1 k2
  have HB := hid (bx1 w)
  go_enter Try.func27, Try.ntmps27
  go_wp2_with fail
  refine (szMem_any _ ws left B _ (HV.out.below ((HB.out _).mono hB)) (Nat.le_trans hB (HB.out _).size) h0 h1).mono ?_
  rintro e w1 ⟨r, rfl, hr, hb⟩
  have HR := hid hr
  have c1 : w1.cell? ⟨w.heap.size, 1, none⟩ = some (.slice bo hs.length cbp) := by rw [hb.cell (p := ⟨w.heap.size, 1, none⟩) (by simp)]; simp
  have hb1 := hid ((HB.out _).trans (hb.mono (by simp)))
  have hlt : w.heap.size < w1.heap.size := World.block_lt_of_cell? w1 _ c1
  clear hr hb
  by_cases hn : r < 0
  · go_wp2_with fail
    go_ret
    exact ⟨_, rfl, .inl rfl, hb1.out⟩
  · have hq0 : 0 ≤ r := by omega
    have hq1 : r ≤ 1048576 := by have := HR.out; omega
    go_wp2_with fail
    refine (szIntS_any _ hs r B _ (HU.out.below (hb1.out.mono hB)) hq0 hq1).mono ?_
    rintro e w2 ⟨r2, rfl, hr2, hw⟩
    subst hw
    have HR2 := hid hr2; clear hr2
    by_cases hn2 : r2 < 0
    · go_wp2_with fail
      go_ret
      exact ⟨_, rfl, .inl rfl, hb1.out⟩
    · go_wp2_with fail
      go_ret
      exact ⟨_, rfl, .inr (by have := HR.out; have := HR2.out; omega), hb1.out⟩
set_option maxHeartbeats 2000000 in
theorem szReq_any (v : Value) (q : Rq) (left : Int) (B : Nat) (w : World) (h : ReqV w B v q) (hB : B ≤ w.heap.size) (h0 : 0 ≤ left) (h1 : left ≤ 1048576) :
    Calls Try.prog 28 #[v, .int .i64 left] w (SzB left (q.data.length ≤ 1048576 ∧ q.lanes.length ≤ 1048576) w) := by
  obtain ⟨dv, lv, rfl, k1, k2, k3⟩ := h
  have HV := hid k1; have HU := hid k2
  obtain ⟨ao, cap, rfl, _⟩ := k1.opened
  obtain ⟨bo, cbp, rfl, _⟩ := k2.opened
  clear k1 k2 k3
  have HB := hid (bx1 w)
  go_enter Try.func28, Try.ntmps28
  go_wp2_with fail
  refine (szIntS_any _ q.data left B _ (HV.out.below ((HB.out _).mono hB)) h0 h1).mono ?_
  rintro e w1 ⟨r, rfl, hr, hw⟩
  subst hw
  have HR := hid hr
  clear hr
  by_cases hn : r < 0
  · go_wp2_with fail
    go_ret
    exact ⟨_, rfl, .inl rfl, HB.out _⟩
  · have hq0 : 0 ≤ r := by omega
    have hq1 : r ≤ 1048576 := by have := HR.out; omega
    go_wp2_with fail
    refine (szIntS_any _ q.lanes r B _ (HU.out.below ((HB.out _).mono hB)) hq0 hq1).mono ?_
    rintro e w2 ⟨r2, rfl, hr2, hw⟩
    subst hw
    have HR2 := hid hr2; clear hr2
    by_cases hn2 : r2 < 0
    · go_wp2_with fail
      go_ret
      exact ⟨_, rfl, .inl rfl, HB.out _⟩
    · go_wp2_with fail
      go_ret
      exact ⟨_, rfl, .inr (by have := HR.out; have := HR2.out; omega), HB.out _⟩

/-- No list of a thing that is asked is longer than a measure. -/
def Rq20 (q : Rq) : Prop := q.data.length ≤ 1048576 ∧ q.lanes.length ≤ 1048576
set_option maxHeartbeats 4000000 in
theorem szReqs_any (v : Value) (rs : List Rq) (left : Int) (B : Nat) (w : World) (h : Reqs w B v rs) (hB : B ≤ w.heap.size) (h0 : 0 ≤ left) (h1 : left ≤ 1048576) :
    Calls Try.prog 44 #[v, .int .i64 left] w (SzB left (rs.length ≤ 1048576 ∧ ∀ j, j < rs.length → Rq20 (rs.getD j default)) w) := by
  obtain ⟨ao, cap, rfl, hlc, hcap, hln, hni, hr⟩ := h.opened
  clear h
  by_cases hq : left - (rs.length : Int) < 0
  · go_enter Try.func44, Try.ntmps44
    go_wp2_with fail
    go_ret
    exact ⟨-1, rfl, .inl rfl, Below.refl _ _⟩
  · go_enter Try.func44, Try.ntmps44
    go_wp2_with fail
    go_loopw [1, 5] (fun l i wr => ∃ (k : Nat) (r : Int), k ≤ rs.length ∧ l = .int .i64 r ∧ i = .int .i64 k ∧ 0 ≤ r ∧ r ≤ left ∧ (∀ j, j < k → Rq20 (rs.getD j default)) ∧ Below w.heap.size w wr) (fun _ i _ => rs.length - (intOf i).toNat)
    case atStart => exact ⟨0, _, Nat.zero_le _, rfl, rfl, by omega, by omega, by simp, Below.refl _ _⟩
    case round =>
      obtain ⟨k, r, hk, rfl, rfl, hr0, hr1, hno, hbl⟩ := hrel
      have HN := hid hno; clear hno
      by_cases hlt : k < rs.length
      · obtain ⟨b, off, rfl, hb, hc⟩ := hr (by omega)
        obtain ⟨da, dc, la, lc, hu, c0, c1, c2, c3, c4, c5, c6⟩ := hc k hlt
        obtain ⟨x, hx⟩ : ∃ x, x = rs.getD k default := ⟨_, rfl⟩
        rw [← hx] at c0 c1 c2 c3 c4 c5 c6 hu
        rw [← hbl.cell (p := ⟨b, _, none⟩) (Nat.lt_of_lt_of_le hb hB)] at c0 c1 c2 c3 c4 c5 c6
        have HX := hid hx; have HU := hid (hu.below (hbl.mono hB)); have HB := hid hbl; clear hx hc hr hu hbl
        go_wp2_with fail
        refine (szReq_any _ x r B _ HU.out (Nat.le_trans hB HB.out.size) hr0 (by omega)).mono ?_
        rintro e w' ⟨r2, rfl, hr2, hb'⟩
        have HB2 := hid (HB.out.trans (hb'.mono HB.out.size))
        have HR2 := hid hr2
        clear hb' hr2
        by_cases hn : r2 < 0
        · go_wp2_with fail
          go_ret
          exact ⟨-1, rfl, .inl rfl, HB2.out⟩
        · have hg := hid (show 0 ≤ r2 ∧ r2 ≤ r ∧ Rq20 x by have := HR2.out; rcases this with h | h; omega; exact h)
          go_wp2_with fail
          go_roundw
          case rel =>
            refine ⟨k + 1, r2, by omega, by go_num, by go_num, hg.out.1, by have := hg.out.2.1; omega, fun j hj => ?_, HB2.out⟩
            by_cases e : j = k
            · subst e; rw [← HX.out]; exact hg.out.2.2
            · exact HN.out j (by omega)
          case measure => simp [intOf]; omega
      · have hke : k = rs.length := by omega
        go_wp2_with fail
        go_ret
        exact ⟨_, rfl, .inr ⟨hr0, hr1, by omega, fun j hj => HN.out j (by omega)⟩, hbl⟩

end Go.Proofs.Yteamebdehembgaa

namespace Go.Proofs.Yteamebdehembgaa
open Go.RowKit

theorem bx2 (w : World) (o p : Obj) : Below w.heap.size w ((w.alloc o).alloc p) := ((Below.refl _ _).alloc (Nat.le_refl _) _).alloc (by simp) _
theorem rspV_mk {w : World} {B : Nat} {v : Value} {x : Rs} (h : Ints w B v x.data) (hi : I64 x.id ∧ I64 x.code) : RspV w.drew B (.agg #[.int .i64 x.id, .int .i64 x.code, v]) x := ⟨_, rfl, h.below (Below.refl _ _).drew, hi⟩
theorem le_drew' {B : Nat} {w : World} (h : B ≤ w.heap.size) : B ≤ w.drew.heap.size := h

set_option maxHeartbeats 2000000 in
theorem eqRange_same (r : MR) (w : World) :
    Calls Try.prog 110 #[.agg #[.int .i64 r.fr, .int .i64 r.to, .int .i64 r.sl, .bool r.only], .agg #[.int .i64 r.fr, .int .i64 r.to, .int .i64 r.sl, .bool r.only]] w fun e w' => e = .returned (.bool true) ∧ Below w.heap.size w w' := by
  obtain ⟨a, b, c, d⟩ := r
  have q1 : (a != a) = false := by simp
  have q2 : (b != b) = false := by simp
  have q3 : (c != c) = false := by simp
  have q4 : (d != d) = false := by simp
  go_enter Try.func110, Try.ntmps110
  go_wp2_with fail
  go_ret
  exact ⟨rfl, bx2 _ _ _⟩

set_option maxHeartbeats 2000000 in
theorem eqMem_same (v u : Value) (xs : List Int) (B : Nat) (w : World) (h1 : Ints w B v xs) (h2 : Ints w B u xs) (hB : B ≤ w.heap.size) :
    Calls Try.prog 109 #[.agg #[v], .agg #[u]] w fun e w' => e = .returned (.bool true) ∧ Below w.heap.size w w' := by
  have HB := hid (fun o p => bx2 w o p)
  have H1 := hid h1; have H2 := hid h2
  obtain ⟨ao, cap, rfl, _⟩ := h1.opened
  obtain ⟨bo, cbp, rfl, _⟩ := h2.opened
  clear h1 h2
  go_enter Try.func109, Try.ntmps109
  go_wp2_with (first | (go_at_call 92; refine (eqIntS_same _ _ xs B B _ (H1.out.below ((HB.out _ _).mono hB)) (H2.out.below ((HB.out _ _).mono hB))).mono ?_; rintro e w1 ⟨rfl, hd⟩))
  go_ret
  exact ⟨rfl, (HB.out _ _).trans (hd.below _)⟩

set_option maxHeartbeats 4000000 in
theorem eqAtm_same (v u : Value) (ws hs : List Int) (B : Nat) (w : World) (h1 : AtmV w B v ws hs) (h2 : AtmV w B u ws hs) (hB : B ≤ w.heap.size) :
    Calls Try.prog 34 #[v, u] w fun e w' => e = .returned (.bool true) ∧ Below w.heap.size w w' := by
  obtain ⟨wv, hv, rfl, a1, a2⟩ := h1
  obtain ⟨wu, hu, rfl, b1, b2⟩ := h2
  have HB := hid (fun o p => bx2 w o p)
  have H1 := hid a1; have H2 := hid a2; have H3 := hid b1; have H4 := hid b2
  obtain ⟨a1o, c1, rfl, _⟩ := a1.opened
  obtain ⟨a2o, c2, rfl, _⟩ := a2.opened
  obtain ⟨b1o, d1, rfl, _⟩ := b1.opened
  obtain ⟨b2o, d2, rfl, _⟩ := b2.opened
  clear a1 a2 b1 b2
  go_enter Try.func34, Try.ntmps34
  go_wp2_with (first
    | (go_at_call 109; (with_reducible refine (eqMem_same _ _ ws B _ (H1.out.below ((HB.out _ _).mono hB)) (H3.out.below ((HB.out _ _).mono hB)) (Nat.le_trans hB (HB.out _ _).size)).mono ?_); rintro e w1 ⟨rfl, hb⟩; have k1 : w1.cell? ⟨w.heap.size, 1, none⟩ = some (.slice a2o hs.length c2) := (by rw [hb.cell (p := ⟨w.heap.size, 1, none⟩) (by simp; omega)]; simp); have k2 : w1.cell? ⟨w.heap.size + 1, 1, none⟩ = some (.slice b2o hs.length d2) := (by rw [hb.cell (p := ⟨w.heap.size + 1, 1, none⟩) (by simp)]; simp); have HD := hid ((HB.out _ _).trans (hb.mono (by simp; omega))); have hl1 : w.heap.size + 1 < w1.heap.size := World.block_lt_of_cell? w1 _ k2; have hl0 : w.heap.size < w1.heap.size := (by omega); clear hb)
    | (go_at_call 92; (with_reducible refine (eqIntS_same _ _ hs B B _ (H2.out.below (HD.out.mono hB)) (H4.out.below (HD.out.mono hB))).mono ?_); rintro e w2 ⟨rfl, hd2⟩))
  go_ret
  exact ⟨rfl, HD.out.trans (hd2.below _)⟩

set_option maxHeartbeats 4000000 in
theorem eqReq_same (v u : Value) (q : Rq) (B : Nat) (w : World) (h1 : ReqV w B v q) (h2 : ReqV w B u q) (hB : B ≤ w.heap.size) :
    Calls Try.prog 37 #[v, u] w fun e w' => e = .returned (.bool true) ∧ Below w.heap.size w w' := by
  obtain ⟨wv, hv, rfl, a1, a2, _⟩ := h1
  obtain ⟨wu, hu, rfl, b1, b2, _⟩ := h2
  have HB := hid (fun o p => bx2 w o p)
  have H1 := hid a1; have H2 := hid a2; have H3 := hid b1; have H4 := hid b2
  obtain ⟨a1o, c1, rfl, _⟩ := a1.opened
  obtain ⟨a2o, c2, rfl, _⟩ := a2.opened
  obtain ⟨b1o, d1, rfl, _⟩ := b1.opened
  obtain ⟨b2o, d2, rfl, _⟩ := b2.opened
  clear a1 a2 b1 b2
  obtain ⟨id, kind, addr, many, wp, data, lanes⟩ := q
  have q1 : (id != id) = false := by simp
  have q2 : (kind != kind) = false := by simp
  have q3 : (addr != addr) = false := by simp
  have q4 : (many != many) = false := by simp
  have q5 : (wp != wp) = false := by simp
  simp only at H1 H2 H3 H4
  go_enter Try.func37, Try.ntmps37
  go_wp2_with (first
    | (go_at_call 92; (with_reducible refine (eqIntS_same (.slice a1o data.length c1) (.slice b1o data.length d1) data B B _ (H1.out.below ((HB.out _ _).mono hB)) (H3.out.below ((HB.out _ _).mono hB))).mono ?_); rintro e w1 ⟨rfl, hd⟩; have HD := hid (hd.below w.heap.size); obtain ⟨nd, rfl⟩ := hd)
    | (go_at_call 92; (with_reducible refine (eqIntS_same (.slice a2o lanes.length c2) (.slice b2o lanes.length d2) lanes B B _ (H2.out.below (((HB.out _ _).trans HD.out).mono hB)) (H4.out.below (((HB.out _ _).trans HD.out).mono hB))).mono ?_); rintro e w2 ⟨rfl, hd2⟩))
  go_ret
  exact ⟨rfl, ((HB.out _ _).trans HD.out).trans (hd2.below _)⟩

set_option maxHeartbeats 2000000 in
theorem eqRsp_same (v u : Value) (x : Rs) (B : Nat) (w : World) (h1 : RspV w B v x) (h2 : RspV w B u x) (hB : B ≤ w.heap.size) :
    Calls Try.prog 35 #[v, u] w fun e w' => e = .returned (.bool true) ∧ Below w.heap.size w w' := by
  obtain ⟨dv, rfl, a1, _⟩ := h1
  obtain ⟨du, rfl, b1, _⟩ := h2
  have HB := hid (fun o p => bx2 w o p)
  have H1 := hid a1; have H2 := hid b1
  obtain ⟨a1o, c1, rfl, _⟩ := a1.opened
  obtain ⟨b1o, d1, rfl, _⟩ := b1.opened
  have e1 : (x.id != x.id) = false := by simp
  have e2 : (x.code != x.code) = false := by simp
  clear a1 b1
  go_enter Try.func35, Try.ntmps35
  go_wp2_with (first | (go_at_call 92; refine (eqIntS_same _ _ x.data B B _ (H1.out.below ((HB.out _ _).mono hB)) (H2.out.below ((HB.out _ _).mono hB))).mono ?_; rintro e w1 ⟨rfl, hd⟩))
  go_ret
  exact ⟨rfl, (HB.out _ _).trans (hd.below _)⟩

set_option maxRecDepth 8000 in
set_option maxHeartbeats 8000000 in
theorem eqRanges_same (xs : List MR) (v u : Value) (B : Nat) (w : World) (hv : Maps w B v xs) (hu : Maps w B u xs) (hB : B ≤ w.heap.size) :
    Calls Try.prog 36 #[v, u] w fun e w' => e = .returned (.bool true) ∧ Below w.heap.size w w' := by
  obtain ⟨ao, cap, rfl, hlc, hcap, hln, hni, hr⟩ := hv.opened
  obtain ⟨bo, cbp, rfl, hlc2, hcap2, hln2, hni2, hr2⟩ := hu.opened
  clear hv hu
  go_enter Try.func36, Try.ntmps36
  go_wp2_with fail
  go_loopw [5] (fun i wr => ∃ k : Nat, k ≤ xs.length ∧ i = .int .i64 k ∧ Below w.heap.size w wr) (fun i _ => xs.length - (intOf i).toNat)
  case atStart => exact ⟨0, Nat.zero_le _, rfl, by first | exact Below.refl _ _ | exact (Below.refl _ _).drew⟩
  case round =>
    obtain ⟨k, hk, rfl, hbl⟩ := hrel
    have hsz := hbl.size
    by_cases hlt : k < xs.length
    · obtain ⟨b, off, rfl, hb, hc⟩ := hr (by omega)
      obtain ⟨b2, off2, rfl, hb2, hc2⟩ := hr2 (by omega)
      obtain ⟨c0, c1, c2, c3⟩ := hc k hlt
      obtain ⟨e0, e1, e2, e3⟩ := hc2 k hlt
      obtain ⟨x, hx⟩ : ∃ x, x = xs.getD k default := ⟨_, rfl⟩
      rw [← hx] at c0 c1 c2 c3 e0 e1 e2 e3
      rw [← hbl.cell (p := ⟨b, _, none⟩) (Nat.lt_of_lt_of_le hb hB)] at c0 c1 c2 c3
      rw [← hbl.cell (p := ⟨b2, _, none⟩) (Nat.lt_of_lt_of_le hb2 hB)] at e0 e1 e2 e3
      have HBL := hid hbl.drew
      clear hc hr hc2 hr2 hx hbl
      go_wp2_with fail
      go_region_held3 (fun w' => w'.cell? ⟨b, off + k * 4, none⟩ = some (.int .i64 x.fr) ∧ w'.cell? ⟨b, off + k * 4 + 1, none⟩ = some (.int .i64 x.to) ∧ w'.cell? ⟨b, off + k * 4 + 2, none⟩ = some (.int .i64 x.sl) ∧ w'.cell? ⟨b, off + k * 4 + 3, none⟩ = some (.bool x.only) ∧ w'.cell? ⟨b2, off2 + k * 4, none⟩ = some (.int .i64 x.fr) ∧ w'.cell? ⟨b2, off2 + k * 4 + 1, none⟩ = some (.int .i64 x.to) ∧ w'.cell? ⟨b2, off2 + k * 4 + 2, none⟩ = some (.int .i64 x.sl) ∧ w'.cell? ⟨b2, off2 + k * 4 + 3, none⟩ = some (.bool x.only))
        (first | exact s6 | go_keep)
        (first
          | (go_at_call 110; (with_reducible refine (eqRange_same x _).mono ?_); rintro e w2 ⟨rfl, hb3⟩; have s6 : w2.cell? ⟨b, off + k * 4, none⟩ = some (.int .i64 x.fr) ∧ w2.cell? ⟨b, off + k * 4 + 1, none⟩ = some (.int .i64 x.to) ∧ w2.cell? ⟨b, off + k * 4 + 2, none⟩ = some (.int .i64 x.sl) ∧ w2.cell? ⟨b, off + k * 4 + 3, none⟩ = some (.bool x.only) ∧ w2.cell? ⟨b2, off2 + k * 4, none⟩ = some (.int .i64 x.fr) ∧ w2.cell? ⟨b2, off2 + k * 4 + 1, none⟩ = some (.int .i64 x.to) ∧ w2.cell? ⟨b2, off2 + k * 4 + 2, none⟩ = some (.int .i64 x.sl) ∧ w2.cell? ⟨b2, off2 + k * 4 + 3, none⟩ = some (.bool x.only) := ⟨(hb3.cell (p := ⟨b, _, none⟩) (Nat.lt_of_lt_of_le hb (Nat.le_trans hB hsz))).trans c0, (hb3.cell (p := ⟨b, _, none⟩) (Nat.lt_of_lt_of_le hb (Nat.le_trans hB hsz))).trans c1, (hb3.cell (p := ⟨b, _, none⟩) (Nat.lt_of_lt_of_le hb (Nat.le_trans hB hsz))).trans c2, (hb3.cell (p := ⟨b, _, none⟩) (Nat.lt_of_lt_of_le hb (Nat.le_trans hB hsz))).trans c3, (hb3.cell (p := ⟨b2, _, none⟩) (Nat.lt_of_lt_of_le hb2 (Nat.le_trans hB hsz))).trans e0, (hb3.cell (p := ⟨b2, _, none⟩) (Nat.lt_of_lt_of_le hb2 (Nat.le_trans hB hsz))).trans e1, (hb3.cell (p := ⟨b2, _, none⟩) (Nat.lt_of_lt_of_le hb2 (Nat.le_trans hB hsz))).trans e2, (hb3.cell (p := ⟨b2, _, none⟩) (Nat.lt_of_lt_of_le hb2 (Nat.le_trans hB hsz))).trans e3⟩))
      go_wp2_with fail
      go_roundw
      case rel => exact ⟨k + 1, by omega, by go_num, HBL.out.trans (hb3.mono (by simpa using hsz))⟩
      case measure => simp [intOf]; omega
    · go_wp2_with fail
      go_ret
      exact ⟨rfl, hbl⟩

set_option maxRecDepth 8000 in
set_option maxHeartbeats 8000000 in
theorem eqReqs_same (xs : List Rq) (v u : Value) (B : Nat) (w : World) (hv : Reqs w B v xs) (hu : Reqs w B u xs) (hB : B ≤ w.heap.size) :
    Calls Try.prog 49 #[v, u] w fun e w' => e = .returned (.bool true) ∧ Below w.heap.size w w' := by
  obtain ⟨ao, cap, rfl, hlc, hcap, hln, hni, hr⟩ := hv.opened
  obtain ⟨bo, cbp, rfl, hlc2, hcap2, hln2, hni2, hr2⟩ := hu.opened
  clear hv hu
  go_enter Try.func49, Try.ntmps49
  go_wp2_with fail
  go_loopw [5] (fun i wr => ∃ k : Nat, k ≤ xs.length ∧ i = .int .i64 k ∧ Below w.heap.size w wr) (fun i _ => xs.length - (intOf i).toNat)
  case atStart => exact ⟨0, Nat.zero_le _, rfl, by first | exact Below.refl _ _ | exact (Below.refl _ _).drew⟩
  case round =>
    obtain ⟨k, hk, rfl, hbl⟩ := hrel
    have hsz := hbl.size
    by_cases hlt : k < xs.length
    · obtain ⟨b, off, rfl, hb, hc⟩ := hr (by omega)
      obtain ⟨b2, off2, rfl, hb2, hc2⟩ := hr2 (by omega)
      obtain ⟨da, dc, da2, dc2, hd, c0, c1, c2, c3, c4, c5, c6⟩ := hc k hlt
      obtain ⟨ea, ec, ea2, ec2, he, e0, e1, e2, e3, e4, e5, e6⟩ := hc2 k hlt
      obtain ⟨x, hx⟩ : ∃ x, x = xs.getD k default := ⟨_, rfl⟩
      rw [← hx] at c0 c1 c2 c3 c4 c5 c6 e0 e1 e2 e3 e4 e5 e6 hd he
      rw [← hbl.cell (p := ⟨b, _, none⟩) (Nat.lt_of_lt_of_le hb hB)] at c0 c1 c2 c3 c4 c5 c6
      rw [← hbl.cell (p := ⟨b2, _, none⟩) (Nat.lt_of_lt_of_le hb2 hB)] at e0 e1 e2 e3 e4 e5 e6
      have HD := hid (hd.below (hbl.mono hB)); have HE := hid (he.below (hbl.mono hB))
      have HBL := hid hbl.drew
      clear hc hr hc2 hr2 hx hbl hd he
      go_wp2_with fail
      go_region_held3 (fun w' => w'.cell? ⟨b, off + k * 7, none⟩ = some (.int .i64 x.id) ∧ w'.cell? ⟨b, off + k * 7 + 1, none⟩ = some (.int .i64 x.kind) ∧ w'.cell? ⟨b, off + k * 7 + 2, none⟩ = some (.int .i64 x.addr) ∧ w'.cell? ⟨b, off + k * 7 + 3, none⟩ = some (.int .i64 x.many) ∧ w'.cell? ⟨b, off + k * 7 + 4, none⟩ = some (.bool x.wrap) ∧ w'.cell? ⟨b, off + k * 7 + 5, none⟩ = some (.slice da x.data.length dc) ∧ w'.cell? ⟨b, off + k * 7 + 6, none⟩ = some (.slice da2 x.lanes.length dc2) ∧ w'.cell? ⟨b2, off2 + k * 7, none⟩ = some (.int .i64 x.id) ∧ w'.cell? ⟨b2, off2 + k * 7 + 1, none⟩ = some (.int .i64 x.kind) ∧ w'.cell? ⟨b2, off2 + k * 7 + 2, none⟩ = some (.int .i64 x.addr) ∧ w'.cell? ⟨b2, off2 + k * 7 + 3, none⟩ = some (.int .i64 x.many) ∧ w'.cell? ⟨b2, off2 + k * 7 + 4, none⟩ = some (.bool x.wrap) ∧ w'.cell? ⟨b2, off2 + k * 7 + 5, none⟩ = some (.slice ea x.data.length ec) ∧ w'.cell? ⟨b2, off2 + k * 7 + 6, none⟩ = some (.slice ea2 x.lanes.length ec2))
        (first | exact s6 | go_keep)
        (first
          | (go_at_call 37; (with_reducible refine (eqReq_same _ _ x B _ (HD.out.below (Below.refl _ _).drew) (HE.out.below (Below.refl _ _).drew) (le_drew' (Nat.le_trans hB hsz))).mono ?_); rintro e w2 ⟨rfl, hb3⟩; have s6 : w2.cell? ⟨b, off + k * 7, none⟩ = some (.int .i64 x.id) ∧ w2.cell? ⟨b, off + k * 7 + 1, none⟩ = some (.int .i64 x.kind) ∧ w2.cell? ⟨b, off + k * 7 + 2, none⟩ = some (.int .i64 x.addr) ∧ w2.cell? ⟨b, off + k * 7 + 3, none⟩ = some (.int .i64 x.many) ∧ w2.cell? ⟨b, off + k * 7 + 4, none⟩ = some (.bool x.wrap) ∧ w2.cell? ⟨b, off + k * 7 + 5, none⟩ = some (.slice da x.data.length dc) ∧ w2.cell? ⟨b, off + k * 7 + 6, none⟩ = some (.slice da2 x.lanes.length dc2) ∧ w2.cell? ⟨b2, off2 + k * 7, none⟩ = some (.int .i64 x.id) ∧ w2.cell? ⟨b2, off2 + k * 7 + 1, none⟩ = some (.int .i64 x.kind) ∧ w2.cell? ⟨b2, off2 + k * 7 + 2, none⟩ = some (.int .i64 x.addr) ∧ w2.cell? ⟨b2, off2 + k * 7 + 3, none⟩ = some (.int .i64 x.many) ∧ w2.cell? ⟨b2, off2 + k * 7 + 4, none⟩ = some (.bool x.wrap) ∧ w2.cell? ⟨b2, off2 + k * 7 + 5, none⟩ = some (.slice ea x.data.length ec) ∧ w2.cell? ⟨b2, off2 + k * 7 + 6, none⟩ = some (.slice ea2 x.lanes.length ec2) := ⟨(hb3.cell (p := ⟨b, _, none⟩) (Nat.lt_of_lt_of_le hb (Nat.le_trans hB hsz))).trans c0, (hb3.cell (p := ⟨b, _, none⟩) (Nat.lt_of_lt_of_le hb (Nat.le_trans hB hsz))).trans c1, (hb3.cell (p := ⟨b, _, none⟩) (Nat.lt_of_lt_of_le hb (Nat.le_trans hB hsz))).trans c2, (hb3.cell (p := ⟨b, _, none⟩) (Nat.lt_of_lt_of_le hb (Nat.le_trans hB hsz))).trans c3, (hb3.cell (p := ⟨b, _, none⟩) (Nat.lt_of_lt_of_le hb (Nat.le_trans hB hsz))).trans c4, (hb3.cell (p := ⟨b, _, none⟩) (Nat.lt_of_lt_of_le hb (Nat.le_trans hB hsz))).trans c5, (hb3.cell (p := ⟨b, _, none⟩) (Nat.lt_of_lt_of_le hb (Nat.le_trans hB hsz))).trans c6, (hb3.cell (p := ⟨b2, _, none⟩) (Nat.lt_of_lt_of_le hb2 (Nat.le_trans hB hsz))).trans e0, (hb3.cell (p := ⟨b2, _, none⟩) (Nat.lt_of_lt_of_le hb2 (Nat.le_trans hB hsz))).trans e1, (hb3.cell (p := ⟨b2, _, none⟩) (Nat.lt_of_lt_of_le hb2 (Nat.le_trans hB hsz))).trans e2, (hb3.cell (p := ⟨b2, _, none⟩) (Nat.lt_of_lt_of_le hb2 (Nat.le_trans hB hsz))).trans e3, (hb3.cell (p := ⟨b2, _, none⟩) (Nat.lt_of_lt_of_le hb2 (Nat.le_trans hB hsz))).trans e4, (hb3.cell (p := ⟨b2, _, none⟩) (Nat.lt_of_lt_of_le hb2 (Nat.le_trans hB hsz))).trans e5, (hb3.cell (p := ⟨b2, _, none⟩) (Nat.lt_of_lt_of_le hb2 (Nat.le_trans hB hsz))).trans e6⟩))
      go_wp2_with fail
      go_roundw
      case rel => exact ⟨k + 1, by omega, by go_num, HBL.out.trans (hb3.mono (by simpa using hsz))⟩
      case measure => simp [intOf]; omega
    · go_wp2_with fail
      go_ret
      exact ⟨rfl, hbl⟩

set_option maxRecDepth 8000 in
set_option maxHeartbeats 8000000 in
theorem eqRsps_same (xs : List Rs) (v u : Value) (B : Nat) (w : World) (hv : Rsps w B v xs) (hu : Rsps w B u xs) (hB : B ≤ w.heap.size) :
    Calls Try.prog 48 #[v, u] w fun e w' => e = .returned (.bool true) ∧ Below w.heap.size w w' := by
  obtain ⟨ao, cap, rfl, hlc, hcap, hln, hni, hr⟩ := hv.opened
  obtain ⟨bo, cbp, rfl, hlc2, hcap2, hln2, hni2, hr2⟩ := hu.opened
  clear hv hu
  go_enter Try.func48, Try.ntmps48
  go_wp2_with fail
  go_loopw [5] (fun i wr => ∃ k : Nat, k ≤ xs.length ∧ i = .int .i64 k ∧ Below w.heap.size w wr) (fun i _ => xs.length - (intOf i).toNat)
  case atStart => exact ⟨0, Nat.zero_le _, rfl, by first | exact Below.refl _ _ | exact (Below.refl _ _).drew⟩
  case round =>
    obtain ⟨k, hk, rfl, hbl⟩ := hrel
    have hsz := hbl.size
    by_cases hlt : k < xs.length
    · obtain ⟨b, off, rfl, hb, hc⟩ := hr (by omega)
      obtain ⟨b2, off2, rfl, hb2, hc2⟩ := hr2 (by omega)
      obtain ⟨da, dc, hd, _, _, c0, c1, c2⟩ := hc k hlt
      obtain ⟨ea, ec, he, _, _, e0, e1, e2⟩ := hc2 k hlt
      obtain ⟨x, hx⟩ : ∃ x, x = xs.getD k default := ⟨_, rfl⟩
      rw [← hx] at c0 c1 c2 e0 e1 e2 hd he
      rw [← hbl.cell (p := ⟨b, _, none⟩) (Nat.lt_of_lt_of_le hb hB)] at c0 c1 c2
      rw [← hbl.cell (p := ⟨b2, _, none⟩) (Nat.lt_of_lt_of_le hb2 hB)] at e0 e1 e2
      have HD := hid (hd.below (hbl.mono hB)); have HE := hid (he.below (hbl.mono hB)); have HI := hid (show I64 x.id ∧ I64 x.code from ⟨by rw [hx]; assumption, by rw [hx]; assumption⟩)
      have HBL := hid hbl.drew
      clear hc hr hc2 hr2 hx hbl hd he
      go_wp2_with fail
      go_region_held3 (fun w' => w'.cell? ⟨b, off + k * 3, none⟩ = some (.int .i64 x.id) ∧ w'.cell? ⟨b, off + k * 3 + 1, none⟩ = some (.int .i64 x.code) ∧ w'.cell? ⟨b, off + k * 3 + 2, none⟩ = some (.slice da x.data.length dc) ∧ w'.cell? ⟨b2, off2 + k * 3, none⟩ = some (.int .i64 x.id) ∧ w'.cell? ⟨b2, off2 + k * 3 + 1, none⟩ = some (.int .i64 x.code) ∧ w'.cell? ⟨b2, off2 + k * 3 + 2, none⟩ = some (.slice ea x.data.length ec))
        (first | exact s6 | go_keep)
        (first
          | (go_at_call 35; (with_reducible refine (eqRsp_same _ _ x B _ (rspV_mk HD.out HI.out) (rspV_mk HE.out HI.out) (le_drew' (Nat.le_trans hB hsz))).mono ?_); rintro e w2 ⟨rfl, hb3⟩; have s6 : w2.cell? ⟨b, off + k * 3, none⟩ = some (.int .i64 x.id) ∧ w2.cell? ⟨b, off + k * 3 + 1, none⟩ = some (.int .i64 x.code) ∧ w2.cell? ⟨b, off + k * 3 + 2, none⟩ = some (.slice da x.data.length dc) ∧ w2.cell? ⟨b2, off2 + k * 3, none⟩ = some (.int .i64 x.id) ∧ w2.cell? ⟨b2, off2 + k * 3 + 1, none⟩ = some (.int .i64 x.code) ∧ w2.cell? ⟨b2, off2 + k * 3 + 2, none⟩ = some (.slice ea x.data.length ec) := ⟨(hb3.cell (p := ⟨b, _, none⟩) (Nat.lt_of_lt_of_le hb (Nat.le_trans hB hsz))).trans c0, (hb3.cell (p := ⟨b, _, none⟩) (Nat.lt_of_lt_of_le hb (Nat.le_trans hB hsz))).trans c1, (hb3.cell (p := ⟨b, _, none⟩) (Nat.lt_of_lt_of_le hb (Nat.le_trans hB hsz))).trans c2, (hb3.cell (p := ⟨b2, _, none⟩) (Nat.lt_of_lt_of_le hb2 (Nat.le_trans hB hsz))).trans e0, (hb3.cell (p := ⟨b2, _, none⟩) (Nat.lt_of_lt_of_le hb2 (Nat.le_trans hB hsz))).trans e1, (hb3.cell (p := ⟨b2, _, none⟩) (Nat.lt_of_lt_of_le hb2 (Nat.le_trans hB hsz))).trans e2⟩))
      go_wp2_with fail
      go_roundw
      case rel => exact ⟨k + 1, by omega, by go_num, HBL.out.trans (hb3.mono (by simpa using hsz))⟩
      case measure => simp [intOf]; omega
    · go_wp2_with fail
      go_ret
      exact ⟨rfl, hbl⟩

end Go.Proofs.Yteamebdehembgaa
