/-
  What is asked, what comes of it: by value; writes, burst, ReqOk and RspOk.
-/
import Derived.Test.YteamebdehembgaaJWrd
set_option linter.unusedVariables false
set_option linter.unusedSimpArgs false
namespace Go.Proofs.Yteamebdehembgaa
open Go.RowKit

/-- What is asked, by value. -/
def ReqV (w : World) (B : Nat) (v : Value) (r : Rq) : Prop :=
  ∃ dv lv, v = .agg #[.int .i64 r.id, .int .i64 r.kind, .int .i64 r.addr, .int .i64 r.many, .bool r.wrap, dv, lv] ∧ Ints w B dv r.data ∧ Ints w B lv r.lanes ∧ I64 r.id ∧ I64 r.kind ∧ I64 r.addr ∧ I64 r.many
theorem ReqV.below {w w' : World} {B : Nat} {v : Value} {r : Rq} (h : ReqV w B v r) (hb : Below B w w') : ReqV w' B v r := by
  obtain ⟨dv, lv, rfl, h1, h2, h3⟩ := h
  exact ⟨dv, lv, rfl, h1.below hb, h2.below hb, h3⟩
theorem ReqV.mono {w : World} {B B' : Nat} {v : Value} {r : Rq} (h : ReqV w B v r) (hb : B ≤ B') : ReqV w B' v r := by
  obtain ⟨dv, lv, rfl, h1, h2, h3⟩ := h
  exact ⟨dv, lv, rfl, h1.mono hb, h2.mono hb, h3⟩
theorem AtmV.below {w w' : World} {B : Nat} {v : Value} {ws hs : List Int} (h : AtmV w B v ws hs) (hb : Below B w w') : AtmV w' B v ws hs := by
  obtain ⟨dv, lv, rfl, h1, h2⟩ := h
  exact ⟨dv, lv, rfl, h1.below hb, h2.below hb⟩
theorem AtmV.mono {w : World} {B B' : Nat} {v : Value} {ws hs : List Int} (h : AtmV w B v ws hs) (hb : B ≤ B') : AtmV w B' v ws hs := by
  obtain ⟨dv, lv, rfl, h1, h2⟩ := h
  exact ⟨dv, lv, rfl, h1.mono hb, h2.mono hb⟩
/-- What comes of it, by value. -/
def RspV (w : World) (B : Nat) (v : Value) (x : Rs) : Prop :=
  ∃ dv, v = .agg #[.int .i64 x.id, .int .i64 x.code, dv] ∧ Ints w B dv x.data ∧ I64 x.id ∧ I64 x.code
theorem RspV.below {w w' : World} {B : Nat} {v : Value} {x : Rs} (h : RspV w B v x) (hb : Below B w w') : RspV w' B v x := by
  obtain ⟨dv, rfl, h1, h2⟩ := h
  exact ⟨dv, rfl, h1.below hb, h2⟩
theorem RspV.mono {w : World} {B B' : Nat} {v : Value} {x : Rs} (h : RspV w B v x) (hb : B ≤ B') : RspV w B' v x := by
  obtain ⟨dv, rfl, h1, h2⟩ := h
  exact ⟨dv, rfl, h1.mono hb, h2⟩

set_option maxHeartbeats 1000000 in
theorem writes_val (id kind addr many : Int) (wp : Bool) (dv lv : Value) (w : World) :
    Calls Try.prog 127 #[.agg #[.int .i64 id, .int .i64 kind, .int .i64 addr, .int .i64 many, .bool wp, dv, lv]] w fun e w' => e = .returned (.bool (kind == 2 || kind == 4)) ∧ Below w.heap.size w w' := by
  rcases h2 : (kind == 2) with _ | _
  all_goals
    go_enter Try.func127, Try.ntmps127
    go_wp2_with fail
    go_ret
    exact ⟨rfl, (Below.refl _ _).alloc (Nat.le_refl _) _⟩

set_option maxHeartbeats 1000000 in
theorem l3Writes_val (id kind addr many : Int) (wp : Bool) (dv lv : Value) (w : World) :
    Calls Try.prog 146 #[.agg #[.int .i64 id, .int .i64 kind, .int .i64 addr, .int .i64 many, .bool wp, dv, lv]] w fun e w' => e = .returned (.bool (kind == 2 || kind == 4)) ∧ Below w.heap.size w w' := by
  rcases h2 : (kind == 2) with _ | _
  all_goals
    go_enter Try.func146, Try.ntmps146
    go_wp2_with fail
    go_ret
    exact ⟨rfl, (Below.refl _ _).alloc (Nat.le_refl _) _⟩

theorem Ints.nil (w : World) (B : Nat) : Ints w B (.slice none 0 0) [] := ⟨⟨none, 0, rfl, by simp, by omega, by simp, fun _ => rfl, fun h => absurd rfl h⟩, by simp⟩
theorem burstK_get (a m : Int) (wp : Bool) (n k : Nat) (h : k < n) : (burstK a m wp n).getD k 0 = if wp then a - a % m + (a + (k : Int)) % m else a + (k : Int) := by simp [burstK, List.getD, h]

set_option maxHeartbeats 4000000 in
theorem implBurst_any (a m : Int) (wp : Bool) (w : World) : Calls Try.prog 180 #[.int .i64 a, .int .i64 m, .bool wp] w (BurstP a m wp w) := by
  obtain ⟨i1, hj, jz0, jz1, jz2⟩ := info_parts infoI
  rcases hA : adrOk a m wp with _ | _
  · have HE := hid (burst_no hA)
    go_enter Try.func180, Try.ntmps180
    go_wp2_with (first | (go_at_call 64; refine (implAdrOk_any _ _ _ _).mono ?_; rintro e w' ⟨rfl, rfl⟩))
    go_ret
    exact ⟨_, rfl, by rw [HE.out]; exact Ints.nil _ _, Below.refl _ _, by intro k hk; simp [Value.ownBlock] at hk⟩
  · obtain ⟨h0, h1, hm, hw⟩ := (adrOk_eq a m wp).1 hA
    obtain ⟨n, rfl⟩ : ∃ n : Nat, m = n := ⟨m.toNat, by omega⟩
    have hn4 : n ≤ 4 := by omega
    have hn1 : 1 ≤ n := by omega
    have HE := hid (burst_yes hA)
    have HSm := hid (burstK_small (wp := wp) h0 h1 hm n (by omega))
    have HL := hid (burstK_len a n wp n)
    have e0 : 0 ≤ a % (n : Int) := Int.emod_nonneg _ (by omega)
    have e1 : a % (n : Int) < n := Int.emod_lt_of_pos _ (by omega)
    clear hw
    go_enter Try.func180, Try.ntmps180
    go_wp2_with (first
      | (go_at_call 64; refine (implAdrOk_any _ _ _ _).mono ?_; rintro e w' ⟨rfl, rfl⟩)
      | (at_make; go_must (refine wpList_make_full _ rfl _ _ 24 rfl w.heap.size 3 i1 (.int .i64 0) 1 Try.underlying24 hj jz0 jz1 _ _ _ _ n rfl rfl rfl rfl (by rw [jz2]; omega) (by unfold maxLen; omega) (Nat.le_refl _) ?_); intro w1 hown hgrow))
    have hbel : Below w.heap.size w w1 := (Below.refl _ _).grown hgrow (Nat.le_refl _) (by simp)
    rw [show madeCells (Value.int .i64 0).cells (n * 1) = madeCells #[.int .i64 0] n by rw [Nat.mul_one]; rfl, toList_madeCells_one, show List.replicate n (Value.int .i64 0) = fillRow (Value.int .i64) (.int .i64 0) (burstK a n wp n) 0 by rw [fillRow_zero, HL.out]] at hown
    clear hgrow
    go_wp2
    go_loopw [8, 18] (fun _ i wr => ∃ k : Nat, k ≤ n ∧ i = .int .i64 k ∧ wr.ownsRow w.heap.size 3 1 (.slice (some ⟨w.heap.size, 0, none⟩) n n) n (fillRow (Value.int .i64) (.int .i64 0) (burstK a n wp n) k) ∧ Below w.heap.size w wr) (fun _ i _ => n - (intOf i).toNat)
    case atStart => exact ⟨0, Nat.zero_le _, rfl, hown, hbel⟩
    case round =>
      clear hown hbel
      obtain ⟨k, hk, rfl, hown, hbel⟩ := hrel
      by_cases hlt : k < n
      · have hfr := hown.frozenAt k
        have hst := hown.stored k (.int .i64 (a + (k : Int)))
        have hcell := hown.cellAt k (by omega)
        rw [fillRow_get _ _ _ _ (by rw [HL.out]; exact hlt)] at hcell
        have e3 : 0 ≤ (a + (k : Int)) % (n : Int) := Int.emod_nonneg _ (by omega)
        have e4 : (a + (k : Int)) % (n : Int) < n := Int.emod_lt_of_pos _ (by omega)
        have HB := hid hbel; clear hbel
        cases wp
        · have HS := hid (show (wr.setCell ⟨w.heap.size, k, none⟩ (.int .i64 (a + (k : Int)))).ownsRow w.heap.size 3 1 (.slice (some ⟨w.heap.size, 0, none⟩) n n) n (fillRow (Value.int .i64) (.int .i64 0) (burstK a n false n) (k + 1)) by
            have := hst.1
            rw [show Value.int .i64 (a + (k : Int)) = Value.int .i64 ((burstK a n false n).getD k 0) by rw [burstK_get _ _ _ _ _ hlt]; rfl, fillRow_set _ _ _ _ _ (by rw [HL.out]; exact hlt), burstK_get _ _ _ _ _ hlt] at this
            simpa using this)
          clear hst hown
          go_wp2
          go_roundw
          case rel => exact ⟨k + 1, by omega, by go_num, HS.out, HB.out.setCell (by simp) _⟩
          case measure => simp [intOf]; omega
        · have HS := hid (show ((wr.setCell ⟨w.heap.size, k, none⟩ (.int .i64 (a + (k : Int)))).setCell ⟨w.heap.size, k, none⟩ (.int .i64 (a - a % (n : Int) + (a + (k : Int)) % (n : Int)))).ownsRow w.heap.size 3 1 (.slice (some ⟨w.heap.size, 0, none⟩) n n) n (fillRow (Value.int .i64) (.int .i64 0) (burstK a n true n) (k + 1)) by
            have := (hst.1.stored k (.int .i64 (a - a % (n : Int) + (a + (k : Int)) % (n : Int)))).1
            rw [List.set_set, show Value.int .i64 (a - a % (n : Int) + (a + (k : Int)) % (n : Int)) = Value.int .i64 ((burstK a n true n).getD k 0) by rw [burstK_get _ _ _ _ _ hlt]; rfl, fillRow_set _ _ _ _ _ (by rw [HL.out]; exact hlt), burstK_get _ _ _ _ _ hlt] at this
            simpa using this)
          clear hst hown
          go_wp2
          go_region
          go_wp2
          go_roundw
          case rel => exact ⟨k + 1, by omega, by go_num, by exact HS.out, ((HB.out.setCell (Nat.le_refl _) _).setCell (Nat.le_refl _) _).drew⟩
          case measure => simp [intOf]; omega
      · have hk2 : k = n := by omega
        subst hk2
        go_wp2
        go_ret
        have e : fillRow (Value.int .i64) (.int .i64 0) (burstK a k wp k) k = (burstK a k wp k).map (Value.int .i64) := by
          have := fillRow_all (Value.int .i64) (.int .i64 0) (burstK a k wp k)
          rw [HL.out] at this; exact this
        rw [e] at hown
        refine ⟨.slice (some ⟨w.heap.size, 0, none⟩) k k, rfl, ?_, hbel, by intro j hj; simp [Value.ownBlock] at hj; omega⟩
        rw [HE.out]
        exact own_ints (xs := burstK a k wp k) (base := w.heap.size) (by rw [HL.out]; exact hown) (by rw [HL.out]; omega) HSm.out

set_option maxHeartbeats 1000000 in
theorem reqBurst_val (id kind addr many : Int) (wp : Bool) (dv lv : Value) (w : World) :
    Calls Try.prog 155 #[.agg #[.int .i64 id, .int .i64 kind, .int .i64 addr, .int .i64 many, .bool wp, dv, lv]] w (BurstP addr many wp w) := by
  go_enter Try.func155, Try.ntmps155
  go_wp2_with (first | (go_at_call 180; refine (implBurst_any _ _ _ _).mono ?_; rintro e w1 ⟨u, rfl, hu, hb, hf⟩))
  go_ret
  exact ⟨_, rfl, hu, ((Below.refl _ _).alloc (Nat.le_refl _) _).trans (hb.mono (by simp)), fun k hk => by have := hf k hk; simp at this; omega⟩

theorem reqOk_eq (r : Rq) (m : Int) (hm : m = if (r.kind == 2 || r.kind == 4) = true then r.many else 0) :
    reqOk r = (inB r.id 0 1 && inB r.kind 1 4 && adrOk r.addr r.many r.wrap && ((r.data.length : Int) == m) && ((r.lanes.length : Int) == m) && r.data.all wordOk && r.lanes.all (fun l => inB l 0 3) && (r.kind == 1 || r.kind == 2 || r.many == 1)) := by
  subst hm
  unfold reqOk rqWrites
  rcases hw : (r.kind == 2 || r.kind == 4) with _ | _
  · simp only [Bool.false_eq_true, if_false]
    rcases hd : r.data with _ | ⟨d, ds⟩ <;> rcases hl : r.lanes with _ | ⟨l, ls⟩
    · simp
    · have : ((ls.length : Int) + 1 == 0) = false := by rw [beq_eq_false_iff_ne]; omega
      simp [this]
    · have : ((ds.length : Int) + 1 == 0) = false := by rw [beq_eq_false_iff_ne]; omega
      simp [this]
    · have : ((ds.length : Int) + 1 == 0) = false := by rw [beq_eq_false_iff_ne]; omega
      simp [this]
  · simp only [if_true]
    generalize inB r.id 0 1 = a1
    generalize inB r.kind 1 4 = a2
    generalize adrOk r.addr r.many r.wrap = a3
    generalize (r.kind == 1 || r.kind == 2 || r.many == 1) = a4
    generalize ((r.data.length : Int) == r.many) = a5
    generalize ((r.lanes.length : Int) == r.many) = a6
    generalize r.data.all wordOk = a7
    generalize (r.lanes.all fun l => inB l 0 3) = a8
    cases a1 <;> cases a2 <;> cases a3 <;> cases a4 <;> simp

set_option maxHeartbeats 4000000 in
theorem implReqOk_any (v : Value) (r : Rq) (B : Nat) (w : World) (h : ReqV w B v r) (hB : B ≤ w.heap.size) :
    Calls Try.prog 73 #[v] w fun e w' => e = .returned (.bool (reqOk r)) ∧ Below w.heap.size w w' := by
  obtain ⟨dv, lv, rfl, h1, h2, _⟩ := h
  obtain ⟨ao, cap, hdv, hlc, hcap, hln, hni, hr⟩ := h1.opened
  obtain ⟨bo, cbp, hlv, hlc2, hcap2, hln2, hni2, hr2⟩ := h2.opened
  clear hr hr2
  subst hdv hlv
  have hcl : ∀ x, I64 x → ∀ w : World, Calls Try.prog 129 (#[.int .i64 x] ++ #[]) w fun e w' => e = .returned (.bool (!inB x 0 3)) ∧ w = w' := by
    intro x _ w
    go_enter Try.func129, Try.ntmps129
    go_wp2_with (first | (go_at_call 68; refine (in_any _ _ _ _).mono ?_; rintro e w' ⟨rfl, rfl⟩))
    go_ret
    exact ⟨rfl, rfl⟩
  have HC := hid hcl; clear hcl
  have hA := not_any_all (fun l => inB l 0 3) r.lanes
  obtain ⟨m, hm⟩ : ∃ m, m = if (r.kind == 2 || r.kind == 4) = true then r.many else 0 := ⟨_, rfl⟩
  have hE := reqOk_eq r m hm
  obtain ⟨id, kind, addr, many, wp, data, lanes⟩ := r
  simp only at *
  obtain ⟨q, hq⟩ : ∃ q, q = reqOk ⟨id, kind, addr, many, wp, data, lanes⟩ := ⟨_, rfl⟩
  obtain ⟨x1, hx1⟩ : ∃ x, x = lanes.any fun x => !inB x 0 3 := ⟨_, rfl⟩
  obtain ⟨x2, hx2⟩ : ∃ x, x = data.all wordOk := ⟨_, rfl⟩
  rw [← hA, ← hx1, ← hx2, ← hq] at hE
  rw [← hq]
  have HX1 := hid hx1; have HX2 := hid hx2; have HE := hid hE
  clear hx1 hx2 hE hq hA
  rcases hw : (kind == 2 || kind == 4) with _ | _
  all_goals
    rw [hw] at hm
    simp only [Bool.false_eq_true, if_false, if_true] at hm
    replace hm := hm.symm
    subst hm
    have HW := hid hw; clear hw
    go_enter Try.func73, Try.ntmps73
    go_wp2_with (first
      | (go_at_call 127; refine (writes_val _ _ _ _ _ _ _ _).mono ?_; rw [HW.out]; rintro e w1 ⟨rfl, hb1⟩; have f0 : w1.cell? ⟨w.heap.size, 0, none⟩ = some (.int .i64 id) := (by rw [hb1.cell (p := ⟨w.heap.size, 0, none⟩) (by simp)]; simp); have f1 : w1.cell? ⟨w.heap.size, 1, none⟩ = some (.int .i64 kind) := (by rw [hb1.cell (p := ⟨w.heap.size, 1, none⟩) (by simp)]; simp); have f2 : w1.cell? ⟨w.heap.size, 2, none⟩ = some (.int .i64 addr) := (by rw [hb1.cell (p := ⟨w.heap.size, 2, none⟩) (by simp)]; simp); have f3 : w1.cell? ⟨w.heap.size, 3, none⟩ = some (.int .i64 many) := (by rw [hb1.cell (p := ⟨w.heap.size, 3, none⟩) (by simp)]; simp); have f4 : w1.cell? ⟨w.heap.size, 4, none⟩ = some (.bool wp) := (by rw [hb1.cell (p := ⟨w.heap.size, 4, none⟩) (by simp)]; simp); have f5 : w1.cell? ⟨w.heap.size, 5, none⟩ = some (.slice ao data.length cap) := (by rw [hb1.cell (p := ⟨w.heap.size, 5, none⟩) (by simp)]; simp); have f6 : w1.cell? ⟨w.heap.size, 6, none⟩ = some (.slice bo lanes.length cbp) := (by rw [hb1.cell (p := ⟨w.heap.size, 6, none⟩) (by simp)]; simp))
      | (go_at_call 68; refine (in_any _ _ _ _).mono ?_; rintro e w' ⟨rfl, rfl⟩)
      | (go_at_call 64; refine (implAdrOk_any _ _ _ _).mono ?_; rintro e w' ⟨rfl, rfl⟩)
      | (go_at_call 128; refine (areWords_any _ data B _ (h1.below (((Below.refl _ _).alloc hB _).trans (hb1.mono (by simp; omega))))).mono ?_; rw [← HX2.out]; rintro e w' ⟨rfl, rfl⟩)
      | (go_at_call 66; refine (hasInt_any 129 #[] (callable_of Try.func129 (by kernel_rfl) (by kernel_rfl)) (fun x => !inB x 0 3) _ lanes B _ (h2.below (((Below.refl _ _).alloc hB _).trans (hb1.mono (by simp; omega)))) (fun x hx => HC.out x hx _)).mono ?_; rw [← HX1.out]; rintro e w' ⟨rfl, rfl⟩))
    all_goals
      go_ret
      refine ⟨by rw [HE.out]; first | (simp [*]; done) | (simp [-List.length_eq_zero_iff, *]; done) | (simp [-List.length_eq_zero_iff, *]; grind [inB]), ?_⟩
      exact ((Below.refl _ _).alloc (Nat.le_refl _) _).trans (hb1.mono (by simp))

end Go.Proofs.Yteamebdehembgaa
