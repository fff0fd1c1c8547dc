/-
  AtmDo of the program.
-/
import Derived.Test.YteamebdehembgaaKDo5
set_option linter.unusedVariables false
set_option linter.unusedSimpArgs false
namespace Go.Proofs.Yteamebdehembgaa
open Go.RowKit

theorem reqOk_parts {r : Rq} (h : reqOk r = true) : inB r.id 0 1 = true ∧ inB r.kind 1 4 = true ∧ adrOk r.addr r.many r.wrap = true ∧
    ((r.kind == 2 || r.kind == 4) = true → r.data.length = (burst r.addr r.many r.wrap).length ∧ r.lanes.length = (burst r.addr r.many r.wrap).length ∧ r.data.all wordOk = true ∧ r.lanes.all (fun l => inB l 0 3) = true) ∧ (r.kind = 3 ∨ r.kind = 4 → r.many = 1) := by
  have h' := h
  simp only [reqOk, Bool.and_eq_true] at h'
  obtain ⟨⟨⟨⟨h1, h2⟩, h3⟩, h4⟩, h5⟩ := h'
  refine ⟨h1, h2, h3, fun hw => ?_, fun hk => ?_⟩
  · unfold rqWrites at h5
    rw [if_pos hw] at h5
    simp only [Bool.and_eq_true, beq_iff_eq] at h5
    obtain ⟨⟨⟨h6, h7⟩, h8⟩, h9⟩ := h5
    have hl : (burst r.addr r.many r.wrap).length = r.many.toNat := by rw [burst_yes h3, burstK_len]
    exact ⟨by omega, by omega, h8, h9⟩
  · simp only [Bool.or_eq_true, beq_iff_eq] at h4
    omega

theorem do_any (v u : Value) (ms : List MR) (B S gw ow cw gh oh ch : Nat) (ws hs : List Int) (who : Int) (r : Rq) (w : World) (hv : Maps w B v ms) (h : AtmAt w B S gw ow cw gh oh ch ws hs) (hu : ReqV w B u r) (hwho : inB who 0 2 = true) (hq : reqOk r = true) (hws : ws.all wordOk = true) :
    Calls Try.prog 108 #[.pointer (some ⟨S, 0, none⟩), v, .int .i64 who, u] w (DoP B S gw ow cw gh oh ch (doReq ms ws hs who r).1 (doReq ms ws hs who r).2.1 (doReq ms ws hs who r).2.2 w) := by
  obtain ⟨h1, h2, h3, h4, h5⟩ := reqOk_parts hq
  obtain ⟨dv, lv, rfl, k1, k2, k3⟩ := hu
  have hd1 : ∃ a n c, dv = .slice a n c := by obtain ⟨a, c, h, _⟩ := k1.1; exact ⟨_, _, _, h⟩
  have hd2 : ∃ a n c, lv = .slice a n c := by obtain ⟨a, c, h, _⟩ := k2.1; exact ⟨_, _, _, h⟩
  have haddr : inB r.addr 0 63 = true := by
    obtain ⟨g0, g1, _⟩ := (adrOk_eq r.addr r.many r.wrap).1 h3
    simp [inB, g0, g1]
  have hkk : 1 ≤ r.kind ∧ r.kind ≤ 4 := by simpa [inB] using h2
  by_cases hz : wholeOf ms (burst r.addr r.many r.wrap) < 0
  · have e : doReq ms ws hs who r = (ws, hs, ⟨r.id, 4, []⟩) := by simp [doReq, rqBurst, hz]
    rw [e]
    exact do_none v ms B S gw ow cw gh oh ch ws hs who _ _ _ _ _ dv lv w hv h hd1 hd2 hwho h1 hz
  · have hz0 : 0 ≤ wholeOf ms (burst r.addr r.many r.wrap) := by omega
    rcases hw : rqWrites r with _ | _
    · have hk : r.kind = 1 ∨ r.kind = 3 := by simp [rqWrites] at hw; omega
      rcases hk with hk | hk
      · have e : doReq ms ws hs who r = (ws, hs, ⟨r.id, 1, getAll ws (burst r.addr r.many r.wrap)⟩) := by
          simp [doReq, rqBurst, hz, hw, hk]
        rw [e]
        exact do_read v ms B S gw ow cw gh oh ch ws hs who _ _ _ _ _ dv lv w hv h hd1 hd2 hwho h1 hz0 hk haddr
      · have e : doReq ms ws hs who r = (ws, hs.set (who * 2 + r.id).toNat r.addr, ⟨r.id, 2, getAll ws (burst r.addr r.many r.wrap)⟩) := by
          simp [doReq, rqBurst, hz, hw, hk]
        rw [e]
        exact do_hold v ms B S gw ow cw gh oh ch ws hs who _ _ _ _ _ dv lv w hv h hd1 hd2 hwho h1 hz0 hk haddr
    · have hw' : (r.kind == 2 || r.kind == 4) = true := hw
      obtain ⟨d1, d2, d3, d4⟩ := h4 hw'
      rcases ho : (ms.getD (wholeOf ms (burst r.addr r.many r.wrap)).toNat default).only with _ | _
      · have hk : r.kind = 2 ∨ r.kind = 4 := by simpa using hw'
        rcases hk with hk | hk
        · have e : doReq ms ws hs who r = (putAll ws (burst r.addr r.many r.wrap) r.data r.lanes, freeAll hs (burst r.addr r.many r.wrap), ⟨r.id, 1, []⟩) := by
            simp [doReq, rqBurst, hz, hw, ho, hk, -List.getD_eq_getElem?_getD]
          rw [e]
          exact do_write v ms B S gw ow cw gh oh ch ws hs who _ _ _ _ _ dv lv w hv h hwho h1 hz0 hk ho _ _ k1 k2 d1 d2 d3 d4 hws
        · by_cases hh : hs.getD (who * 2 + r.id).toNat 0 = r.addr
          · have e : doReq ms ws hs who r = (putAll ws (burst r.addr r.many r.wrap) r.data r.lanes, freeAll hs (burst r.addr r.many r.wrap), ⟨r.id, 2, []⟩) := by
              simp [doReq, rqBurst, hz, hw, ho, hk, hh, -List.getD_eq_getElem?_getD]
            rw [e]
            exact do_try v ms B S gw ow cw gh oh ch ws hs who _ _ _ _ _ dv lv w hv h hwho h1 hz0 hk ho _ _ k1 k2 d1 d2 d3 d4 hws hh
          · have e : doReq ms ws hs who r = (ws, hs, ⟨r.id, 1, []⟩) := by
              simp [doReq, rqBurst, hz, hw, ho, hk, hh, -List.getD_eq_getElem?_getD]
            rw [e]
            exact do_tryno v ms B S gw ow cw gh oh ch ws hs who _ _ _ _ _ dv lv w hv h hd1 hd2 hwho h1 hz0 (by rw [hk]; rfl) ho hh
      · have e : doReq ms ws hs who r = (ws, hs, ⟨r.id, 3, []⟩) := by
          simp [doReq, rqBurst, hz, hw, ho, -List.getD_eq_getElem?_getD]
        rw [e]
        exact do_deny v ms B S gw ow cw gh oh ch ws hs who _ _ _ _ _ dv lv w hv h hd1 hd2 hwho h1 hz0 hw' ho

theorem doReq_ok {ms : List MR} {ws hs : List Int} {who : Int} {r : Rq} (hwho : inB who 0 2 = true) (hq : reqOk r = true) (ha : atmOk ws hs = true) : atmOk (doReq ms ws hs who r).1 (doReq ms ws hs who r).2.1 = true := by
  obtain ⟨h1, h2, h3, h4, h5⟩ := reqOk_parts hq
  have ha' := ha
  simp only [atmOk, memOk, Bool.and_eq_true, beq_iff_eq] at ha'
  obtain ⟨⟨⟨a1, a2⟩, a3⟩, a4⟩ := ha'
  have haddr : inB r.addr (-1) 63 = true := by
    obtain ⟨g0, g1, _⟩ := (adrOk_eq r.addr r.many r.wrap).1 h3
    simp [inB]; omega
  have hkk : 1 ≤ r.kind ∧ r.kind ≤ 4 := by simpa [inB] using h2
  by_cases hz : wholeOf ms (burst r.addr r.many r.wrap) < 0
  · have e : doReq ms ws hs who r = (ws, hs, ⟨r.id, 4, []⟩) := by simp [doReq, rqBurst, hz]
    rw [e]; exact ha
  · rcases hw : rqWrites r with _ | _
    · have hk : r.kind = 1 ∨ r.kind = 3 := by simp [rqWrites] at hw; omega
      rcases hk with hk | hk
      · have e : doReq ms ws hs who r = (ws, hs, ⟨r.id, 1, getAll ws (burst r.addr r.many r.wrap)⟩) := by simp [doReq, rqBurst, hz, hw, hk]
        rw [e]; exact ha
      · have e : doReq ms ws hs who r = (ws, hs.set (who * 2 + r.id).toNat r.addr, ⟨r.id, 2, getAll ws (burst r.addr r.many r.wrap)⟩) := by simp [doReq, rqBurst, hz, hw, hk]
        rw [e]
        simp only [atmOk, memOk, Bool.and_eq_true, beq_iff_eq]
        exact ⟨⟨⟨a1, a2⟩, by simpa using a3⟩, all_set (p := fun h => inB h (-1) 63) a4 haddr⟩
    · have hw' : (r.kind == 2 || r.kind == 4) = true := hw
      obtain ⟨d1, d2, d3, d4⟩ := h4 hw'
      rcases ho : (ms.getD (wholeOf ms (burst r.addr r.many r.wrap)).toNat default).only with _ | _
      · by_cases hh : (r.kind == 4 && !(hs.getD (who * 2 + r.id).toNat 0 == r.addr)) = true
        · have e : (doReq ms ws hs who r).1 = ws ∧ (doReq ms ws hs who r).2.1 = hs := by
            have hk : r.kind = 4 := by simp at hh; exact hh.1
            have hn : ¬ hs.getD (who * 2 + r.id).toNat 0 = r.addr := by simp only [Bool.and_eq_true, Bool.not_eq_true', beq_eq_false_iff_ne] at hh; exact hh.2
            simp [doReq, rqBurst, hz, hw, ho, hk, hn, -List.getD_eq_getElem?_getD]
          rw [e.1, e.2]; exact ha
        · have e : (doReq ms ws hs who r).1 = putAll ws (burst r.addr r.many r.wrap) r.data r.lanes ∧ (doReq ms ws hs who r).2.1 = freeAll hs (burst r.addr r.many r.wrap) := by
            have hk : r.kind = 2 ∨ r.kind = 4 := by simpa using hw'
            rcases hk with hk | hk
            · simp [doReq, rqBurst, hz, hw, ho, hk, -List.getD_eq_getElem?_getD]
            · have hn : hs.getD (who * 2 + r.id).toNat 0 = r.addr := by
                simp only [hk, Bool.not_eq_true, Bool.and_eq_false_iff, Bool.not_eq_false', beq_iff_eq] at hh
                rcases hh with hh | hh
                · simp at hh
                · exact hh
              simp [doReq, rqBurst, hz, hw, ho, hk, hn, -List.getD_eq_getElem?_getD]
          rw [e.1, e.2]
          simp only [atmOk, memOk, Bool.and_eq_true, beq_iff_eq]
          exact ⟨⟨⟨by rw [putAll_len]; exact a1, putAll_ok _ _ _ _ a2 d3⟩, by simpa [freeAll] using a3⟩, freeAll_ok a4⟩
      · have e : doReq ms ws hs who r = (ws, hs, ⟨r.id, 3, []⟩) := by simp [doReq, rqBurst, hz, hw, ho, -List.getD_eq_getElem?_getD]
        rw [e]; exact ha

end Go.Proofs.Yteamebdehembgaa

namespace Go.Proofs.Yteamebdehembgaa
open Go.RowKit

def atmDo (ms : List MR) (ws hs : List Int) (who : Int) (r : Rq) : List Int × List Int × Rs :=
  if (mapOk ms && atmOk ws hs && inB who 0 2 && reqOk r) = true then doReq ms ws hs who r else ([], [], ⟨0, 0, []⟩)

/-- What AtmDo comes to. -/
def AtmDoP (x : List Int × List Int × Rs) (w : World) (e : Ending) (w' : World) : Prop :=
  ∃ wv hv dv, e = .returned (.tuple #[.agg #[wv, hv], .agg #[.int .i64 x.2.2.id, .int .i64 x.2.2.code, dv]]) ∧ Owns w' w.heap.size 3 1 rowI wv x.1 ∧ Owns w' w.heap.size 3 1 rowI hv x.2.1 ∧ Owns w' w.heap.size 3 1 rowI dv x.2.2.data ∧
    Apart wv hv ∧ Apart wv dv ∧ Apart hv dv ∧ Below w.heap.size w w'

/-- What AtmDo has laid: the store, what is asked, and the two results' cells. -/
def AdBox (w : World) (g : Nat) (wv hv : Value) (id kind addr many : Int) (wp : Bool) (dv lv : Value) : Prop :=
  (w.cell? ⟨g, 0, none⟩ = some wv ∧ w.cell? ⟨g, 1, none⟩ = some hv) ∧ ReqAt w (g + 1) id kind addr many wp dv lv ∧
    (w.cell? ⟨g + 2, 0, none⟩ = some (.slice none 0 0) ∧ w.cell? ⟨g + 2, 1, none⟩ = some (.slice none 0 0) ∧ w.frozen? ⟨g + 2, 0, none⟩ = false ∧ w.frozen? ⟨g + 2, 1, none⟩ = false) ∧ RspAt w (g + 3) 0 0 (.slice none 0 0)
theorem AdBox.below {w w' : World} {g C : Nat} {wv hv : Value} {id kind addr many : Int} {wp : Bool} {dv lv : Value} (h : AdBox w g wv hv id kind addr many wp dv lv) (hb : Below C w w') (hg : g + 3 < C) : AdBox w' g wv hv id kind addr many wp dv lv := by
  obtain ⟨⟨a, b⟩, c, ⟨d, e, f, i⟩, j⟩ := h
  refine ⟨⟨?_, ?_⟩, c.below hb (by omega), ⟨?_, ?_, ?_, ?_⟩, j.below hb hg⟩
  · rw [hb.cell (by show g < C; omega)]; exact a
  · rw [hb.cell (by show g < C; omega)]; exact b
  · rw [hb.cell (by show g + 2 < C; omega)]; exact d
  · rw [hb.cell (by show g + 2 < C; omega)]; exact e
  · rw [hb.frozen (by show g + 2 < C; omega)]; exact f
  · rw [hb.frozen (by show g + 2 < C; omega)]; exact i
theorem AdBox.lt {w : World} {g : Nat} {wv hv : Value} {id kind addr many : Int} {wp : Bool} {dv lv : Value} (h : AdBox w g wv hv id kind addr many wp dv lv) : g + 3 < w.heap.size := h.2.2.2.lt
theorem ad_open (w : World) (wv hv : Value) (id kind addr many : Int) (wp : Bool) (dv lv : Value) (T U V X : TypeId) :
    AdBox ((((w.alloc (.cells #[wv, hv] T)).alloc (.cells #[.int .i64 id, .int .i64 kind, .int .i64 addr, .int .i64 many, .bool wp, dv, lv] U)).alloc (.cells #[.slice none 0 0, .slice none 0 0] V)).alloc (.cells #[.int .i64 0, .int .i64 0, .slice none 0 0] X)) w.heap.size wv hv id kind addr many wp dv lv := by
  refine ⟨⟨?_, ?_⟩, ⟨?_, ?_, ?_, ?_, ?_, ?_, ?_⟩, ⟨?_, ?_, ?_, ?_⟩, ⟨?_, ?_, ?_, ?_, ?_, ?_⟩⟩ <;> simp [go_sem]

set_option maxRecDepth 4000 in
set_option maxHeartbeats 8000000 in
theorem implAtmDo_no (v sv u : Value) (ms : List MR) (B : Nat) (ws hs : List Int) (who : Int) (r : Rq) (w : World) (hv : Maps w B v ms) (hs1 : AtmV w B sv ws hs) (hu : ReqV w B u r) (hB : B ≤ w.heap.size)
    (hno : (mapOk ms && atmOk ws hs && inB who 0 2 && reqOk r) = false) :
    Calls Try.prog 33 #[v, sv, .int .i64 who, u] w (AtmDoP ([], [], ⟨0, 0, []⟩) w) := by
  have HV := hid hv; have HS := hid hs1; have HU := hid hu
  obtain ⟨wv, hv2, rfl, s1, s2⟩ := hs1
  obtain ⟨dv, lv, rfl, k1, k2, k3⟩ := hu
  have hc : mapOk ms = false ∨ (mapOk ms = true ∧ atmOk ws hs = false) ∨ (mapOk ms = true ∧ atmOk ws hs = true ∧ inB who 0 2 = false) ∨ (mapOk ms = true ∧ atmOk ws hs = true ∧ inB who 0 2 = true ∧ reqOk r = false) := by
    rcases h1 : mapOk ms with _ | _ <;> rcases h2 : atmOk ws hs with _ | _ <;> rcases h3 : inB who 0 2 with _ | _ <;> simp_all
  clear hv k1 k2 k3 hno s1 s2
  obtain ⟨id, kind, addr, many, wp, data, lanes⟩ := r
  have HAB := hid (fun T U V X => ad_open w wv hv2 id kind addr many wp dv lv T U V X)
  have h4 := hid (show ∀ (T U V X : TypeId), Below w.heap.size w ((((w.alloc (.cells #[wv, hv2] T)).alloc (.cells #[.int .i64 id, .int .i64 kind, .int .i64 addr, .int .i64 many, .bool wp, dv, lv] U)).alloc (.cells #[.slice none 0 0, .slice none 0 0] V)).alloc (.cells #[.int .i64 0, .int .i64 0, .slice none 0 0] X)) from fun T U V X => ((((Below.refl _ _).alloc (Nat.le_refl _) _).alloc (by simp) _).alloc (by simp; omega) _).alloc (by simp; omega) _)
  go_enter Try.func33, Try.ntmps33
  rcases hc with h1 | ⟨h1, h2⟩ | ⟨h1, h2, h3⟩ | ⟨h1, h2, h3, h5⟩
  all_goals
    go_wp2_with (first
      | (go_at_call 65; refine (implMapOk_any _ ms B _ (HV.out.below ((h4.out _ _ _ _).mono hB)) (by first | (simp; done) | (simp; omega))).mono ?_; rw [h1]; rintro e w1 ⟨rfl, hb1⟩; have HAB1 := hid ((HAB.out _ _ _ _).below hb1 (by first | (simp; done) | (simp; omega))); obtain ⟨⟨a0, a1⟩, ⟨f0, f1, f2, f3, f4, f5, f6⟩, ⟨g0, g1, g2, g3⟩, ⟨r0, r1, r2, r3, r4, r5⟩⟩ := HAB1.out; have HB := hid ((h4.out _ _ _ _).trans (hb1.mono (by first | (simp; done) | (simp; omega)))); clear hb1)
      | (go_at_call 106; refine (implAtmOk_any _ ws hs B _ (HS.out.below (HB.out.mono hB)) (Nat.le_trans hB HB.out.size)).mono ?_; rw [h2]; rintro e w1 ⟨rfl, hb1⟩; have HAB1 := hid (HAB1.out.below hb1 HAB1.out.lt); obtain ⟨⟨a0, a1⟩, ⟨f0, f1, f2, f3, f4, f5, f6⟩, ⟨g0, g1, g2, g3⟩, ⟨r0, r1, r2, r3, r4, r5⟩⟩ := HAB1.out; have HB := hid (HB.out.trans (hb1.mono HB.out.size)); clear hb1)
      | (go_at_call 56; refine (isMaster_any _ _).mono ?_; rw [h3]; rintro e w' ⟨rfl, rfl⟩)
      | (go_at_call 73; refine (implReqOk_any _ _ B _ (HU.out.below (HB.out.mono hB)) (Nat.le_trans hB HB.out.size)).mono ?_; rw [h5]; rintro e w1 ⟨rfl, hb1⟩; have HAB1 := hid (HAB1.out.below hb1 HAB1.out.lt); obtain ⟨⟨a0, a1⟩, ⟨f0, f1, f2, f3, f4, f5, f6⟩, ⟨g0, g1, g2, g3⟩, ⟨r0, r1, r2, r3, r4, r5⟩⟩ := HAB1.out; have HB := hid (HB.out.trans (hb1.mono HB.out.size)); clear hb1))
    have hbE := hid (((((HB.out.setCell (p := ⟨w.heap.size + 1 + 1, 0, none⟩) (by simp; try omega) (.slice none 0 0)).setCell (p := ⟨w.heap.size + 1 + 1, 1, none⟩) (by simp; try omega) (.slice none 0 0)).setCell (p := ⟨w.heap.size + 1 + 1 + 1, 0, none⟩) (by simp; try omega) (.int .i64 0)).setCell (p := ⟨w.heap.size + 1 + 1 + 1, 1, none⟩) (by simp; try omega) (.int .i64 0)).setCell (p := ⟨w.heap.size + 1 + 1 + 1, 2, none⟩) (by simp; try omega) (.slice none 0 0))
    refine bodyPost_ret (results_c2 Try.results33 _ _ ⟨w.heap.size + 1 + 1, 0, none⟩ ⟨w.heap.size + 1 + 1 + 1, 0, none⟩ (.agg #[.slice none 0 0, .slice none 0 0]) (.agg #[.int .i64 0, .int .i64 0, .slice none 0 0]) rfl rfl ?_ ?_) rfl ?_
    · exact loadVar_atm _ _ _ _ (by simp [go_sem, g0]) (by simp [go_sem, g1])
    · exact loadVar_rsp _ _ _ _ _ (by simp [go_sem, r0]) (by simp [go_sem, r1]) (by simp [go_sem, r2])
    exact ⟨_, _, _, rfl, Owns.zero, Owns.zero, Owns.zero, fun k hk => by simp [Value.ownBlock] at hk, fun k hk => by simp [Value.ownBlock] at hk, fun k hk => by simp [Value.ownBlock] at hk, hbE.out⟩

theorem Owns.someI {w : World} {base e : Nat} {v : Value} {xs : List Int} (h : Owns w base e 1 rowI v xs) (hn : xs.length ≠ 0) : ∃ g off c, v = .slice (some ⟨g, off, none⟩) xs.length c ∧ xs.length ≤ c ∧ base ≤ g ∧ g < w.heap.size := by
  have hlt := OwnR.lt h
  obtain ⟨hl, h2⟩ := h
  rcases h2 with ⟨_, h2⟩ | ⟨g, off, cap, cur, rfl, hg, hh, hle, hmax, hsz, hc⟩
  · exact absurd h2 hn
  · exact ⟨g, off, cap, rfl, hle, hg, (hlt g rfl).2⟩

/-- The copy of a store, laid at block S. -/
theorem ad_copy {w1 w2 : World} {base : Nat} {wv hv : Value} {ws hs : List Int} (T : TypeId) (h1 : Owns w2 w1.heap.size 3 1 rowI wv ws) (h2 : Owns w2 w1.heap.size 3 1 rowI hv hs) (ha : Apart wv hv) (lw : ws.length = 64) (lh : hs.length = 6) (hb : base ≤ w1.heap.size) (hs2 : w1.heap.size ≤ w2.heap.size) :
    ∃ gw ow cw gh oh ch, wv = .slice (some ⟨gw, ow, none⟩) 64 cw ∧ hv = .slice (some ⟨gh, oh, none⟩) 6 ch ∧ w1.heap.size ≤ gw ∧ w1.heap.size ≤ gh ∧ gw < w2.heap.size ∧ gh < w2.heap.size ∧ AtmAt (w2.alloc (.cells #[wv, hv] T)) base w2.heap.size gw ow cw gh oh ch ws hs := by
  obtain ⟨gw, ow, cw, rfl, c1, g1, g2⟩ := h1.someI (by omega)
  obtain ⟨gh, oh, ch, rfl, c2, k1, k2⟩ := h2.someI (by omega)
  rw [lw] at c1; rw [lh] at c2
  have hne : gw ≠ gh := by
    intro e; exact ha gw rfl (by rw [e]; rfl)
  have a1 := (h1.rebase hb).below (((Below.refl _ _).alloc (Nat.le_refl _) (.cells #[Value.slice (some ⟨gw, ow, none⟩) ws.length cw, Value.slice (some ⟨gh, oh, none⟩) hs.length ch] T)))
  have a2 := (h2.rebase hb).below (((Below.refl _ _).alloc (Nat.le_refl _) (.cells #[Value.slice (some ⟨gw, ow, none⟩) ws.length cw, Value.slice (some ⟨gh, oh, none⟩) hs.length ch] T)))
  simp only [lw, lh] at a1 a2 ⊢
  exact ⟨gw, ow, cw, gh, oh, ch, rfl, rfl, g1, k1, g2, k2, ⟨by simp [go_sem], by simp [go_sem], a1, a2, hne, by omega, by omega, by omega, lw, lh, c1, c2⟩⟩

theorem AdBox.touched {w w' : World} {g a b : Nat} {wv hv : Value} {id kind addr many : Int} {wp : Bool} {dv lv : Value} (h : AdBox w g wv hv id kind addr many wp dv lv) (ht : Touch2 a b w w') (ha : g + 3 < a) (hb : g + 3 < b) : AdBox w' g wv hv id kind addr many wp dv lv := by
  have hlt := h.lt
  have e : ∀ k, k ≤ g + 3 → w'.heap[k]? = w.heap[k]? := fun k hk => ht.block k (by omega) (by omega) (by omega)
  simpa only [AdBox, ReqAt, RspAt, World.cell?, World.frozen?, e g (by omega), e (g + 1) (by omega), e (g + 2) (by omega), e (g + 3) (by omega)] using h

set_option maxRecDepth 4000 in
set_option maxHeartbeats 8000000 in
theorem implAtmDo_yes (v sv u : Value) (ms : List MR) (B : Nat) (ws hs : List Int) (who : Int) (r : Rq) (w : World) (hv : Maps w B v ms) (hs1 : AtmV w B sv ws hs) (hu : ReqV w B u r) (hB : B ≤ w.heap.size)
    (h1 : mapOk ms = true) (h2 : atmOk ws hs = true) (h3 : inB who 0 2 = true) (h5 : reqOk r = true) :
    Calls Try.prog 33 #[v, sv, .int .i64 who, u] w (AtmDoP (doReq ms ws hs who r) w) := by
  have HV := hid hv; have HS := hid hs1; have HU := hid hu
  obtain ⟨wv, hv2, rfl, s1, s2⟩ := hs1
  obtain ⟨dv, lv, rfl, k1, k2, k3⟩ := hu
  have hl : ws.length = 64 ∧ hs.length = 6 ∧ ws.all wordOk = true := by
    have h2' := h2
    simp only [atmOk, memOk, Bool.and_eq_true, beq_iff_eq] at h2'
    exact ⟨h2'.1.1.1, h2'.1.2, h2'.1.1.2⟩
  have HL := hid hl
  clear hv k1 k2 k3 s1 s2 hl
  obtain ⟨x, hx⟩ : ∃ x, x = doReq ms ws hs who r := ⟨_, rfl⟩
  rw [← hx]
  have HX := hid hx; clear hx
  have HWHO := hid h3; have HRQ := hid h5
  obtain ⟨id, kind, addr, many, wp, data, lanes⟩ := r
  have HAB := hid (fun T U V X => ad_open w wv hv2 id kind addr many wp dv lv T U V X)
  have h4 := hid (show ∀ (T U V X : TypeId), Below w.heap.size w ((((w.alloc (.cells #[wv, hv2] T)).alloc (.cells #[.int .i64 id, .int .i64 kind, .int .i64 addr, .int .i64 many, .bool wp, dv, lv] U)).alloc (.cells #[.slice none 0 0, .slice none 0 0] V)).alloc (.cells #[.int .i64 0, .int .i64 0, .slice none 0 0] X)) from fun T U V X => ((((Below.refl _ _).alloc (Nat.le_refl _) _).alloc (by simp) _).alloc (by simp; omega) _).alloc (by simp; omega) _)
  go_enter Try.func33, Try.ntmps33
  go_wp2_with (first
      | (go_at_call 65; refine (implMapOk_any _ ms B _ (HV.out.below ((h4.out _ _ _ _).mono hB)) (by first | (simp; done) | (simp; omega))).mono ?_; rw [h1]; rintro e w1 ⟨rfl, hb1⟩; have HAB1 := hid ((HAB.out _ _ _ _).below hb1 (by first | (simp; done) | (simp; omega))); obtain ⟨⟨a0, a1⟩, ⟨f0, f1, f2, f3, f4, f5, f6⟩, ⟨g0, g1, g2, g3⟩, ⟨r0, r1, r2, r3, r4, r5⟩⟩ := HAB1.out; have HB := hid ((h4.out _ _ _ _).trans (hb1.mono (by first | (simp; done) | (simp; omega)))); clear hb1)
      | (go_at_call 106; refine (implAtmOk_any _ ws hs B _ (HS.out.below (HB.out.mono hB)) (Nat.le_trans hB HB.out.size)).mono ?_; rw [h2]; rintro e w1 ⟨rfl, hb1⟩; have HAB1 := hid (HAB1.out.below hb1 HAB1.out.lt); obtain ⟨⟨a0, a1⟩, ⟨f0, f1, f2, f3, f4, f5, f6⟩, ⟨g0, g1, g2, g3⟩, ⟨r0, r1, r2, r3, r4, r5⟩⟩ := HAB1.out; have HB := hid (HB.out.trans (hb1.mono HB.out.size)); clear hb1)
      | (go_at_call 56; refine (isMaster_any _ _).mono ?_; rw [h3]; rintro e w' ⟨rfl, rfl⟩)
      | (go_at_call 73; refine (implReqOk_any _ _ B _ (HU.out.below (HB.out.mono hB)) (Nat.le_trans hB HB.out.size)).mono ?_; rw [h5]; rintro e w1 ⟨rfl, hb1⟩; have HAB1 := hid (HAB1.out.below hb1 HAB1.out.lt); obtain ⟨⟨a0, a1⟩, ⟨f0, f1, f2, f3, f4, f5, f6⟩, ⟨g0, g1, g2, g3⟩, ⟨r0, r1, r2, r3, r4, r5⟩⟩ := HAB1.out; have HB := hid (HB.out.trans (hb1.mono HB.out.size)); clear hb1)
      | (go_at_call 107; refine (atmCopy_any _ ws hs B _ (HS.out.below (HB.out.mono hB)) (Nat.le_trans hB HB.out.size) (by rw [HL.out.1]; omega) (by rw [HL.out.2.1]; omega)).mono ?_; rintro e w2 ⟨wv', hv', rfl, ho1, ho2, hap, hb1⟩; have hbs := HB.out.size; have hlt1 := HAB1.out.lt; have HAB1 := hid (HAB1.out.below hb1 HAB1.out.lt); obtain ⟨⟨a0, a1⟩, ⟨f0, f1, f2, f3, f4, f5, f6⟩, ⟨g0, g1, g2, g3⟩, ⟨r0, r1, r2, r3, r4, r5⟩⟩ := HAB1.out; have HB := hid (HB.out.trans (hb1.mono HB.out.size)); obtain ⟨gw, ow, cw, gh, oh, ch, rfl, rfl, e1, e2, e3, e4, hat⟩ := ad_copy (base := w.heap.size) 40 ho1 ho2 hap HL.out.1 HL.out.2.1 hbs hb1.size; have HAT := hid hat; clear hat hap; have hlt2 := HAB1.out.lt; have i1 : w.heap.size < w2.heap.size := (by omega); have i2 : w.heap.size + 1 < w2.heap.size := (by omega); have i3 : w.heap.size + 1 + 1 < w2.heap.size := (by omega); have i4 : w.heap.size + 1 + 1 + 1 < w2.heap.size := (by omega); have HB3 := hid ((HB.out.trans ((Below.refl _ _).alloc HB.out.size (.cells #[Value.slice (some ⟨gw, ow, none⟩) 64 cw, Value.slice (some ⟨gh, oh, none⟩) 6 ch] 40)))); have HAB3 := hid (HAB1.out.below ((Below.refl w2.heap.size w2).alloc (Nat.le_refl _) (.cells #[Value.slice (some ⟨gw, ow, none⟩) 64 cw, Value.slice (some ⟨gh, oh, none⟩) 6 ch] 40)) hlt2))
      | (go_at_call 108; refine (do_any _ _ ms w.heap.size w2.heap.size gw ow cw gh oh ch ws hs who ⟨id, kind, addr, many, wp, data, lanes⟩ _ ((HV.out.below (HB3.out.mono hB)).mono hB) HAT.out ((HU.out.below (HB3.out.mono hB)).mono hB) HWHO.out HRQ.out HL.out.2.2).mono ?_; rw [← HX.out]; rintro e w4 ⟨dv', rfl, hod, hat4, ht4⟩; obtain ⟨da, dc, rfl, hdc1, hdc2⟩ := hod.shape; obtain ⟨⟨a0, a1⟩, ⟨f0, f1, f2, f3, f4, f5, f6⟩, ⟨g0, g1, g2, g3⟩, ⟨r0, r1, r2, r3, r4, r5⟩⟩ := HAB3.out.touched ht4 (by omega) (by omega); have q0 := hat4.s0; have q1 := hat4.s1; have hsl := hat4.sLt; have hsz4 := ht4.size; have j3 : w.heap.size + 1 + 1 < w4.heap.size := (by omega); have j4 : w.heap.size + 1 + 1 + 1 < w4.heap.size := (by omega)))
  go_region
  go_wp2
  have hb4 := hid (show Below w.heap.size w w4 from HB3.out.trans (ht4.below (by omega) (by omega) HB3.out.size))
  have hbS := hid (((((hb4.out.setCell (p := ⟨w.heap.size + 1 + 1, 0, none⟩) (by show _ ≤ _ + 1 + 1; omega) (.slice (some ⟨gw, ow, none⟩) 64 cw)).setCell (p := ⟨w.heap.size + 1 + 1, 1, none⟩) (by show _ ≤ _ + 1 + 1; omega) (.slice (some ⟨gh, oh, none⟩) 6 ch)).setCell (p := ⟨w.heap.size + 1 + 1 + 1, 0, none⟩) (by show _ ≤ _ + 1 + 1 + 1; omega) (.int .i64 x.2.2.id)).setCell (p := ⟨w.heap.size + 1 + 1 + 1, 1, none⟩) (by show _ ≤ _ + 1 + 1 + 1; omega) (.int .i64 x.2.2.code)).setCell (p := ⟨w.heap.size + 1 + 1 + 1, 2, none⟩) (by show _ ≤ _ + 1 + 1 + 1; omega) (.slice da x.2.2.data.length dc))
  have hbE := hid ((hbS.out.alloc hbS.out.size (.cells #[.int .i64 x.2.2.id, .int .i64 x.2.2.code, .slice da x.2.2.data.length dc] 66)).drew)
  refine bodyPost_ret (results_c2 Try.results33 _ _ ⟨w.heap.size + 1 + 1, 0, none⟩ ⟨w.heap.size + 1 + 1 + 1, 0, none⟩ (.agg #[.slice (some ⟨gw, ow, none⟩) 64 cw, .slice (some ⟨gh, oh, none⟩) 6 ch]) (.agg #[.int .i64 x.2.2.id, .int .i64 x.2.2.code, .slice da x.2.2.data.length dc]) rfl rfl ?_ ?_) rfl ?_
  · exact loadVar_atm _ _ _ _ (by simp [go_sem, g0, j3]) (by simp [go_sem, g1, j3])
  · exact loadVar_rsp _ _ _ _ _ (by simp [go_sem, r0, j4]) (by simp [go_sem, r1, j4]) (by simp [go_sem, r2, j4])
  have hgd : ∀ k, (Value.slice da x.2.2.data.length dc).ownBlock = some k → w2.heap.size < k := fun k hk => by
    have := (OwnR.lt hod k hk).1; simp at this; omega
  refine ⟨_, _, _, rfl, ?_, ?_, ?_, ?_, ?_, ?_, hbE.out⟩
  · exact (((((hat4.ww.set' _ _ _ (fun k hk => by simp [Value.ownBlock] at hk; omega)).set' _ _ _ (fun k hk => by simp [Value.ownBlock] at hk; omega)).set' _ _ _ (fun k hk => by simp [Value.ownBlock] at hk; omega)).set' _ _ _ (fun k hk => by simp [Value.ownBlock] at hk; omega)).set' _ _ _ (fun k hk => by simp [Value.ownBlock] at hk; omega)).below (((Below.refl _ _).alloc (Nat.le_refl _) _).drew)
  · exact (((((hat4.hh.set' _ _ _ (fun k hk => by simp [Value.ownBlock] at hk; omega)).set' _ _ _ (fun k hk => by simp [Value.ownBlock] at hk; omega)).set' _ _ _ (fun k hk => by simp [Value.ownBlock] at hk; omega)).set' _ _ _ (fun k hk => by simp [Value.ownBlock] at hk; omega)).set' _ _ _ (fun k hk => by simp [Value.ownBlock] at hk; omega)).below (((Below.refl _ _).alloc (Nat.le_refl _) _).drew)
  · exact ((((((hod.rebase (by simp; omega)).set' _ _ _ (fun k hk => by have := hgd k hk; omega)).set' _ _ _ (fun k hk => by have := hgd k hk; omega)).set' _ _ _ (fun k hk => by have := hgd k hk; omega)).set' _ _ _ (fun k hk => by have := hgd k hk; omega)).set' _ _ _ (fun k hk => by have := hgd k hk; omega)).below (((Below.refl _ _).alloc (Nat.le_refl _) _).drew)
  · intro k hk hk2
    simp only [Value.ownBlock, Option.some.injEq] at hk hk2
    exact hat4.ne (by omega)
  · intro k hk hk2
    simp only [Value.ownBlock, Option.some.injEq] at hk
    have := hgd k hk2; omega
  · intro k hk hk2
    simp only [Value.ownBlock, Option.some.injEq] at hk
    have := hgd k hk2; omega

theorem implAtmDo_any (v sv u : Value) (ms : List MR) (B : Nat) (ws hs : List Int) (who : Int) (r : Rq) (w : World) (hv : Maps w B v ms) (hs1 : AtmV w B sv ws hs) (hu : ReqV w B u r) (hB : B ≤ w.heap.size) :
    Calls Try.prog 33 #[v, sv, .int .i64 who, u] w (AtmDoP (atmDo ms ws hs who r) w) := by
  unfold atmDo
  rcases hc : (mapOk ms && atmOk ws hs && inB who 0 2 && reqOk r) with _ | _
  · rw [if_neg (by simp)]
    exact implAtmDo_no v sv u ms B ws hs who r w hv hs1 hu hB hc
  · rw [if_pos rfl]
    simp only [Bool.and_eq_true] at hc
    exact implAtmDo_yes v sv u ms B ws hs who r w hv hs1 hu hB hc.1.1.1 hc.1.1.2 hc.1.2 hc.2

end Go.Proofs.Yteamebdehembgaa
