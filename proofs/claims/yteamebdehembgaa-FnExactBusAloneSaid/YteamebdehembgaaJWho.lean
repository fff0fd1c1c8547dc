/-
  ReqOk of the reference; RspOk of the program.
-/
import Derived.Test.YteamebdehembgaaJFind
set_option linter.unusedVariables false
set_option linter.unusedSimpArgs false
namespace Go.Proofs.Yteamebdehembgaa
open Go.RowKit

/-- A request's cells, boxed at block g. -/
def ReqAt (w : World) (g : Nat) (id kind addr many : Int) (wp : Bool) (dv lv : Value) : Prop :=
  w.cell? ⟨g, 0, none⟩ = some (.int .i64 id) ∧ w.cell? ⟨g, 1, none⟩ = some (.int .i64 kind) ∧ w.cell? ⟨g, 2, none⟩ = some (.int .i64 addr) ∧ w.cell? ⟨g, 3, none⟩ = some (.int .i64 many) ∧
    w.cell? ⟨g, 4, none⟩ = some (.bool wp) ∧ w.cell? ⟨g, 5, none⟩ = some dv ∧ w.cell? ⟨g, 6, none⟩ = some lv
theorem reqAt_box {a w : World} {id kind addr many : Int} {wp : Bool} {dv lv : Value} {T : TypeId}
    (hb : Below (a.alloc (.cells #[.int .i64 id, .int .i64 kind, .int .i64 addr, .int .i64 many, .bool wp, dv, lv] T)).heap.size (a.alloc (.cells #[.int .i64 id, .int .i64 kind, .int .i64 addr, .int .i64 many, .bool wp, dv, lv] T)) w) : ReqAt w a.heap.size id kind addr many wp dv lv := by
  refine ⟨?_, ?_, ?_, ?_, ?_, ?_, ?_⟩ <;> (rw [hb.cell (by simp)]; simp)

theorem ReqAt.below {w w' : World} {g C : Nat} {id kind addr many : Int} {wp : Bool} {dv lv : Value} (h : ReqAt w g id kind addr many wp dv lv) (hb : Below C w w') (hg : g < C) : ReqAt w' g id kind addr many wp dv lv := by
  obtain ⟨f0, f1, f2, f3, f4, f5, f6⟩ := h
  refine ⟨?_, ?_, ?_, ?_, ?_, ?_, ?_⟩ <;> (rw [hb.cell (by exact hg)]; assumption)
theorem ReqAt.lt {w : World} {g : Nat} {id kind addr many : Int} {wp : Bool} {dv lv : Value} (h : ReqAt w g id kind addr many wp dv lv) : g < w.heap.size := World.block_lt_of_cell? w _ h.1

set_option maxHeartbeats 2000000 in
theorem whole_val (v : Value) (ms : List MR) (id kind addr many : Int) (wp : Bool) (dv lv : Value) (hd1 : ∃ a n c, dv = .slice a n c) (hd2 : ∃ a n c, lv = .slice a n c) (B : Nat) (w : World) (hv : Maps w B v ms) (hB : B ≤ w.heap.size) :
    Calls Try.prog 130 #[v, .agg #[.int .i64 id, .int .i64 kind, .int .i64 addr, .int .i64 many, .bool wp, dv, lv]] w fun e w' => e = .returned (.int .i64 (wholeOf ms (burst addr many wp))) ∧ Below w.heap.size w w' := by
  obtain ⟨xs, hxs⟩ : ∃ xs, xs = burst addr many wp := ⟨_, rfl⟩
  rw [← hxs]
  have HXS := hid hxs; clear hxs
  obtain ⟨da, dn, dc, rfl⟩ := hd1
  obtain ⟨la, ln, lc, rfl⟩ := hd2
  go_enter Try.func130, Try.ntmps130
  go_wp2_with (first | (go_at_call 155; refine (reqBurst_val _ _ _ _ _ _ _ _).mono ?_; rintro e w1 ⟨u, rfl, hu, hb1, _⟩; rw [← HXS.out] at hu; obtain ⟨ao, cap, rfl, hlc, hcap, hln, hni, hr⟩ := hu.opened))
  have hb1' : Below w.heap.size w w1 := ((Below.refl _ _).alloc (Nat.le_refl _) _).trans (hb1.mono (by simp))
  clear hu hb1
  go_loopw [5, 6, 7, 8, 12] (fun r _ _ _ i wr => ∃ (k : Nat) (rv : Int), k ≤ xs.length ∧ i = .int .i64 k ∧ r = .int .i64 rv ∧ (k = 0 → rv = -1) ∧ (k ≠ 0 → rv = rngOf ms (xs.getD 0 0)) ∧ Below w1.heap.size w1 wr ∧ wholeIs ms xs k) (fun _ _ _ _ i _ => xs.length - (intOf i).toNat)
  case atStart => exact ⟨0, -1, Nat.zero_le _, rfl, rfl, fun _ => rfl, fun h => absurd rfl h, Below.refl _ _, fun j hj => absurd hj (by omega)⟩
  case round =>
    obtain ⟨k, rv, hk, rfl, rfl, hr1, hr2, hbl, hno⟩ := hrel
    have HN := hid hno; have HR1 := hid hr1; have HR2 := hid hr2; clear hno hr1 hr2
    have hs1 := hb1'.size
    have hs2 := hbl.size
    by_cases hlt : k < xs.length
    · obtain ⟨b, off, rfl, hb, hc⟩ := hr (by omega)
      have hck := hc k hlt
      rw [← hbl.cell (p := ⟨b, _, none⟩) hb] at hck
      obtain ⟨x, hx⟩ : ∃ x, x = xs.getD k 0 := ⟨_, rfl⟩
      rw [← hx] at hck
      have HX := hid hx; clear hx hc hr
      obtain ⟨rx, hrx⟩ : ∃ r, r = rngOf ms x := ⟨_, rfl⟩
      have HRX := hid hrx
      have hge : -1 ≤ rx := by rw [hrx]; exact rngOf_ge _ _
      clear hrx
      have hbw : Below w.heap.size w wr := hb1'.trans (hbl.mono hs1)
      have HM := hid (hv.below (hbw.mono hB)); clear hbw
      by_cases hneg : rx < 0
      · have HF := hid (wholeOf_neg (ms := ms) hlt (by rw [← HX.out, ← HRX.out]; exact hneg) HN.out)
        go_wp2_with (first | (go_at_call 168; refine (rangeOf_any _ ms _ B _ HM.out (by omega)).mono ?_; rw [← HRX.out]; rintro e w2 ⟨rfl, hb2⟩))
        go_ret
        exact ⟨by rw [HF.out]; rfl, hb1'.trans ((hbl.trans (hb2.mono hs2)).mono hs1)⟩
      · have hneg' : decide (rx < 0) = false := by simpa using hneg
        clear hneg
        by_cases hk0 : k = 0
        · have g0 : decide (0 < k) = false := by simp; omega
          have HQ := hid (show wholeIs ms xs (k + 1) by
            intro j hj
            obtain rfl : j = 0 := by omega
            rfl)
          have HZ := hid (show rx = rngOf ms (xs.getD 0 0) by rw [HRX.out, HX.out, hk0])
          clear hk0
          go_wp2_with (first | (go_at_call 168; refine (rangeOf_any _ ms _ B _ HM.out (by omega)).mono ?_; rw [← HRX.out]; rintro e w2 ⟨rfl, hb2⟩))
          go_roundw
          case rel => exact ⟨k + 1, rx, by omega, by go_num, rfl, by omega, fun _ => HZ.out, hbl.trans (hb2.mono hs2), HQ.out⟩
          case measure => simp [intOf]; omega
        · have g0 : 0 < k := by omega
          have HR0 := hid (HR2.out hk0)
          by_cases hq : rx = rv
          · have HQ := hid (show wholeIs ms xs (k + 1) from all_step HN.out (by rw [← HX.out, ← HRX.out, ← HR0.out]; exact hq))
            have hq2 : (rx != rv) = false := by simp [hq]
            have HQ0 := hid (hq.trans HR0.out); clear hq
            go_wp2_with (first | (go_at_call 168; refine (rangeOf_any _ ms _ B _ HM.out (by omega)).mono ?_; rw [← HRX.out]; rintro e w2 ⟨rfl, hb2⟩))
            go_roundw
            case rel => exact ⟨k + 1, rx, by omega, by go_num, rfl, by omega, fun _ => HQ0.out, hbl.trans (hb2.mono hs2), HQ.out⟩
            case measure => simp [intOf]; omega
          · have HF := hid (wholeOf_bad (ms := ms) hlt (by rw [← HX.out, ← HRX.out, ← HR0.out]; exact hq))
            have hq2 : (rx != rv) = true := by simp [hq]
            clear hq
            go_wp2_with (first | (go_at_call 168; refine (rangeOf_any _ ms _ B _ HM.out (by omega)).mono ?_; rw [← HRX.out]; rintro e w2 ⟨rfl, hb2⟩))
            go_ret
            exact ⟨by rw [HF.out]; rfl, hb1'.trans ((hbl.trans (hb2.mono hs2)).mono hs1)⟩
    · have HF := hid (show wholeOf ms xs = rv by
        obtain rfl : k = xs.length := by omega
        by_cases h0 : xs.length = 0
        · rw [wholeOf_nil h0, HR1.out h0]
        · rw [wholeOf_all h0 HN.out, HR2.out h0])
      go_wp2_with fail
      go_ret
      exact ⟨by rw [HF.out]; rfl, hb1'.trans (hbl.mono hs1)⟩

def slaveAt (ms : List MR) (k : Int) : Int := if k < 0 then 3 else (ms.getD k.toNat default).sl
theorem slaveOf_eq (ms : List MR) (r : Rq) : slaveOf ms r = slaveAt ms (wholeOf ms (rqBurst r)) := rfl

set_option maxHeartbeats 2000000 in
theorem slave_val (v : Value) (ms : List MR) (id kind addr many : Int) (wp : Bool) (dv lv : Value) (hd1 : ∃ a n c, dv = .slice a n c) (hd2 : ∃ a n c, lv = .slice a n c) (B : Nat) (w : World) (hv : Maps w B v ms) (hB : B ≤ w.heap.size) :
    Calls Try.prog 74 #[v, .agg #[.int .i64 id, .int .i64 kind, .int .i64 addr, .int .i64 many, .bool wp, dv, lv]] w fun e w' => e = .returned (.int .i64 (slaveAt ms (wholeOf ms (burst addr many wp)))) ∧ Below w.heap.size w w' := by
  obtain ⟨z, hz⟩ : ∃ z, z = wholeOf ms (burst addr many wp) := ⟨_, rfl⟩
  have hz1 : z < ms.length := by rw [hz]; exact wholeOf_lt _ _
  rw [← hz]
  have HZ := hid hz; clear hz
  have hd1' := hid hd1; have hd2' := hid hd2
  obtain ⟨da, dn, dc, rfl⟩ := hd1
  obtain ⟨la, ln, lc, rfl⟩ := hd2
  obtain ⟨ao, cap, rfl, hlc, hcap, hln, hni, hr⟩ := hv.opened
  have HV := hid hv; clear hv
  by_cases hneg : z < 0
  · have HE := hid (show slaveAt ms z = 3 by simp [slaveAt, hneg])
    go_enter Try.func74, Try.ntmps74
    go_wp2_with (first | (go_at_call 130; refine (whole_val _ ms _ _ _ _ _ _ _ hd1'.out hd2'.out B _ (HV.out.below ((Below.refl _ _).alloc hB _)) (by simp; omega)).mono ?_; rw [← HZ.out]; rintro e w1 ⟨rfl, hb1⟩))
    go_ret
    exact ⟨by rw [HE.out]; rfl, ((Below.refl _ _).alloc (Nat.le_refl _) _).trans (hb1.mono (by simp))⟩
  · obtain ⟨k, rfl⟩ := Int.eq_ofNat_of_zero_le (show 0 ≤ z by omega)
    have HE := hid (show slaveAt ms (k : Int) = (ms.getD k default).sl by unfold slaveAt; rw [if_neg (by omega)]; simp)
    obtain ⟨b, off, rfl, hb, hc⟩ := hr (by omega)
    have hk : k < ms.length := by omega
    obtain ⟨c0, c1, c2, c3⟩ := hc k hk
    obtain ⟨y, hy⟩ : ∃ y, y = (ms.getD k default).sl := ⟨_, rfl⟩
    rw [← hy] at HE c2
    clear hr hc c0 c1 c3 hneg hy
    go_enter Try.func74, Try.ntmps74
    go_wp2_with (first | (go_at_call 130; refine (whole_val _ ms _ _ _ _ _ _ _ hd1'.out hd2'.out B _ (HV.out.below ((Below.refl _ _).alloc hB _)) (by simp; omega)).mono ?_; rw [← HZ.out]; rintro e w1 ⟨rfl, hb1⟩; have c9 : w1.cell? ⟨b, off + k * 4 + 2, none⟩ = some (.int .i64 y) := (by rw [← c2]; exact (((Below.refl _ _).alloc hB _).trans (hb1.mono (by simp; omega))).cell hb)))
    go_ret
    exact ⟨by rw [HE.out]; rfl, ((Below.refl _ _).alloc (Nat.le_refl _) _).trans (hb1.mono (by simp))⟩

end Go.Proofs.Yteamebdehembgaa

namespace Go.Proofs.Yteamebdehembgaa
open Go.RowKit

theorem reqOk_spec (r : Rq) : reqOk r = (inB r.id 0 1 && inB r.kind 1 4 && adrOk r.addr r.many r.wrap && !(decide (3 ≤ r.kind) && (r.many != 1)) &&
    (if (r.kind == 2 || r.kind == 4) = true then ((r.data.length : Int) == r.many) && ((r.lanes.length : Int) == r.many) && r.data.all wordOk && r.lanes.all (fun l => inB l 0 3) else r.data.length == 0 && r.lanes.length == 0)) := by
  unfold reqOk rqWrites
  rcases hk : inB r.kind 1 4 with _ | _
  · simp
  · have h : (r.kind == 1 || r.kind == 2 || r.many == 1) = !(decide (3 ≤ r.kind) && (r.many != 1)) := by
      simp only [inB, Bool.and_eq_true, decide_eq_true_eq] at hk
      rw [Bool.eq_iff_iff]
      simp only [Bool.or_eq_true, beq_iff_eq, Bool.not_eq_true', Bool.and_eq_false_iff, decide_eq_false_iff_not, bne_eq_false_iff_eq]
      omega
    rw [h]

set_option maxHeartbeats 4000000 in
theorem specReqOk_any (v : Value) (r : Rq) (B : Nat) (w : World) (h : ReqV w B v r) (hB : B ≤ w.heap.size) :
    Calls Try.prog 101 #[v] w fun e w' => e = .returned (.bool (reqOk r)) ∧ Below w.heap.size w w' := by
  obtain ⟨dv, lv, rfl, h1, h2, _⟩ := h
  obtain ⟨ao, cap, hdv, hlc, hcap, hln, hni, hr⟩ := h1.opened
  obtain ⟨bo, cbp, hlv, hlc2, hcap2, hln2, hni2, hr2⟩ := h2.opened
  clear hr hr2
  subst hdv hlv
  have hE := reqOk_spec r
  obtain ⟨id, kind, addr, many, wp, data, lanes⟩ := r
  simp only at *
  obtain ⟨q, hq⟩ : ∃ q, q = reqOk ⟨id, kind, addr, many, wp, data, lanes⟩ := ⟨_, rfl⟩
  obtain ⟨x1, hx1⟩ : ∃ x, x = lanes.all fun x => inB x 0 3 := ⟨_, rfl⟩
  obtain ⟨x2, hx2⟩ : ∃ x, x = data.all wordOk := ⟨_, rfl⟩
  rw [← hx1, ← hx2, ← hq] at hE
  rw [← hq]
  have HX1 := hid hx1; have HX2 := hid (show x2 = data.all fun x => inB x 0 65535 from hx2); have HE := hid hE
  clear hx1 hx2 hE hq
  rcases hw : (kind == 2 || kind == 4) with _ | _
  all_goals
    have HW := hid hw; clear hw
    go_enter Try.func101, Try.ntmps101
    go_wp2_with (first
      | (go_at_call 60; refine (l1In_any _ _ _ _).mono ?_; rintro e w' ⟨rfl, rfl⟩)
      | (go_at_call 145; refine (specAdrOk_any _ _ _ _).mono ?_; rintro e w' ⟨rfl, rfl⟩)
      | (go_at_call 146; refine (l3Writes_val _ _ _ _ _ _ _ _).mono ?_; rw [HW.out]; rintro e w1 ⟨rfl, hb1⟩; obtain ⟨f0, f1, f2, f3, f4, f5, f6⟩ := reqAt_box hb1)
      | (go_at_call 62; with_reducible refine (l3All_any _ data 0 65535 B _ (h1.below (((Below.refl _ _).alloc hB _).trans (hb1.mono (by simp; omega))))).mono ?_; rw [← HX2.out]; rintro e w' ⟨rfl, rfl⟩)
      | (go_at_call 62; refine (l3All_any _ lanes 0 3 B _ (h2.below (((Below.refl _ _).alloc hB _).trans (hb1.mono (by simp; omega))))).mono ?_; rw [← HX1.out]; rintro e w' ⟨rfl, rfl⟩))
    all_goals
      go_ret
      refine ⟨by rw [HE.out, HW.out]; first | (simp [*]; done) | (simp [-List.length_eq_zero_iff, *]; done) | (simp [-List.length_eq_zero_iff, *]; grind [inB]), ?_⟩
      first
        | exact ((Below.refl _ _).alloc (Nat.le_refl _) _).trans (hb1.mono (by simp))
        | exact (Below.refl _ _).alloc (Nat.le_refl _) _

end Go.Proofs.Yteamebdehembgaa
