/-
  AtmRun of the program, of whatever it is asked; and as it is read.
-/
import Derived.Test.YteamebdehembgaaJRu1
import Derived.Test.YteamebdehembgaaJCr1
set_option linter.unusedVariables false
set_option linter.unusedSimpArgs false
namespace Go.Proofs.Yteamebdehembgaa
open Go.RowKit

set_option maxRecDepth 4000 in
set_option maxHeartbeats 8000000 in
theorem implAtmRun_no (v sv u : Value) (ms : List MR) (B : Nat) (ws hs : List Int) (who : Int) (rs : List Rq) (w : World) (hv : Maps w B v ms) (hs1 : AtmV w B sv ws hs) (hu : Reqs w B u rs) (hB : B ≤ w.heap.size)
    (hno : runOk ms ws hs who rs = false) :
    Calls Try.prog 47 #[v, sv, .int .i64 who, u] w (AtmRunP ([], [], []) w) := by
  have HV := hid hv; have HS := hid hs1; have HU := hid hu
  obtain ⟨wv, hv2, rfl, s1, s2⟩ := hs1
  obtain ⟨uo, uc, rfl, hlc, hcap, hln, hni, hr⟩ := hu.opened
  have hc : mapOk ms = false ∨ (mapOk ms = true ∧ atmOk ws hs = false) ∨ (mapOk ms = true ∧ atmOk ws hs = true ∧ inB who 0 2 = false) ∨ (mapOk ms = true ∧ atmOk ws hs = true ∧ inB who 0 2 = true ∧ (12 : Int) < (rs.length : Int)) ∨
      (mapOk ms = true ∧ atmOk ws hs = true ∧ inB who 0 2 = true ∧ decide ((12 : Int) < (rs.length : Int)) = false ∧ rs.any (fun r => !reqOk r) = true) := by
    unfold runOk at hno
    rcases h1 : mapOk ms with _ | _ <;> rcases h2 : atmOk ws hs with _ | _ <;> rcases h3 : inB who 0 2 with _ | _ <;> simp_all
    by_cases h4 : rs.length ≤ 12
    · have := hno h4
      right; exact ⟨by omega, this⟩
    · left; omega
  clear hv hno s1 s2 hu hr hlc hcap hni
  have HAB := hid (fun T V => rn_open w wv hv2 T V)
  have HP := hid (fun (T V : TypeId) => show Below w.heap.size w ((w.alloc (.cells #[wv, hv2] T)).alloc (.cells #[.slice none 0 0, .slice none 0 0] V)) from ((Below.refl _ _).alloc (Nat.le_refl _) _).alloc (by simp) _)
  go_enter Try.func47, Try.ntmps47
  rcases hc with h1 | ⟨h1, h2⟩ | ⟨h1, h2, h3⟩ | ⟨h1, h2, h3, h4⟩ | ⟨h1, h2, h3, h4, h5⟩
  all_goals
    go_wp2_with (first
      | (go_at_call 65; refine (implMapOk_any _ ms B _ (HV.out.below ((HP.out _ _).mono hB)) (by first | (simp; done) | (simp; omega))).mono ?_; rw [h1]; rintro e w1 ⟨rfl, hb1⟩; have HAB1 := hid ((HAB.out _ _).below hb1 (by first | (simp; done) | (simp; omega))); obtain ⟨⟨a0, a1⟩, ⟨g0, g1, g2, g3⟩⟩ := HAB1.out; have HB := hid ((HP.out _ _).trans (hb1.mono (by first | (simp; done) | (simp; omega)))); clear hb1)
      | (go_at_call 106; refine (implAtmOk_any _ ws hs B _ (HS.out.below (HB.out.mono hB)) (Nat.le_trans hB HB.out.size)).mono ?_; rw [h2]; rintro e w1 ⟨rfl, hb1⟩; have HAB1 := hid (HAB1.out.below hb1 HAB1.out.lt); obtain ⟨⟨a0, a1⟩, ⟨g0, g1, g2, g3⟩⟩ := HAB1.out; have HB := hid (HB.out.trans (hb1.mono HB.out.size)); clear hb1)
      | (go_at_call 56; refine (isMaster_any _ _).mono ?_; rw [h3]; rintro e w' ⟨rfl, rfl⟩)
      | (go_at_call 71; refine (hasReq_any 113 _ (callable_of Try.func113 (by kernel_rfl) (by kernel_rfl)) (fun r => !reqOk r) _ rs B _ (HU.out.below (HB.out.mono hB)) (Nat.le_trans hB HB.out.size) (fun r u' w1 hb hu' => by simpa using runTest_any r u' B w1 hu' (Nat.le_trans (Nat.le_trans hB HB.out.size) hb.size))).mono ?_; unfold HasRP; rw [h5]; rintro e w1 ⟨rfl, hb1⟩; have HAB1 := hid (HAB1.out.below hb1 HAB1.out.lt); obtain ⟨⟨a0, a1⟩, ⟨g0, g1, g2, g3⟩⟩ := HAB1.out; have HB := hid (HB.out.trans (hb1.mono HB.out.size)); clear hb1))
    have hbE := hid ((HB.out.setCell (p := ⟨w.heap.size + 1, 0, none⟩) (by simp; try omega) (.slice none 0 0)).setCell (p := ⟨w.heap.size + 1, 1, none⟩) (by simp; try omega) (.slice none 0 0))
    refine bodyPost_ret (results_ct Try.results47 _ _ ⟨w.heap.size + 1, 0, none⟩ (.agg #[.slice none 0 0, .slice none 0 0]) rfl ?_) rfl ?_
    · exact loadVar_atm _ _ _ _ (by simp [go_sem, g0]) (by simp [go_sem, g1])
    exact ⟨_, _, _, [], rfl, Owns.zero, Owns.zero, Owns.zero, rfl, fun j hj => absurd hj (by simp), by simp [Apart, Value.ownBlock], hbE.out⟩

theorem implAtmRun_any (v sv u : Value) (ms : List MR) (B : Nat) (ws hs : List Int) (who : Int) (rs : List Rq) (w : World) (hv : Maps w B v ms) (hs1 : AtmV w B sv ws hs) (hu : Reqs w B u rs) (hB : B ≤ w.heap.size) :
    Calls Try.prog 47 #[v, sv, .int .i64 who, u] w (AtmRunP (atmRun ms ws hs who rs) w) := by
  unfold atmRun
  rcases hc : runOk ms ws hs who rs with _ | _
  · rw [if_neg (by simp)]; exact implAtmRun_no v sv u ms B ws hs who rs w hv hs1 hu hB hc
  · rw [if_pos rfl]; exact implAtmRun_yes v sv u ms B ws hs who rs w hv hs1 hu hB hc

/-- A slice of what came of things. -/
def Rsps (w : World) (B : Nat) (v : Value) (xs : List Rs) : Prop := ArrV RspV w B 3 v xs
theorem Rsps.below {w w' : World} {B : Nat} {v : Value} {rs : List Rs} (h : Rsps w B v rs) (hb : Below B w w') : Rsps w' B v rs := ArrV.below h hb fun _ _ h => h.below hb
theorem Rsps.mono {w : World} {B B' : Nat} {v : Value} {rs : List Rs} (h : Rsps w B v rs) (hb : B ≤ B') : Rsps w B' v rs := ArrV.mono h hb fun _ _ h => h.mono hb
theorem Rsps.opened {w : World} {B : Nat} {v : Value} {xs : List Rs} (h : Rsps w B v xs) :
    ∃ ao cap, v = .slice ao xs.length cap ∧ xs.length ≤ cap ∧ cap ≤ 9223372036854775807 ∧ xs.length ≤ 140737488351232 ∧ (ao = none → cap = 0) ∧
      (xs.length ≠ 0 → ∃ b off, ao = some ⟨b, off, none⟩ ∧ b < B ∧ ∀ t, t < xs.length → ∃ da dc, Ints w B (.slice da (xs.getD t default).data.length dc) (xs.getD t default).data ∧ I64 (xs.getD t default).id ∧ I64 (xs.getD t default).code ∧
        w.cell? ⟨b, off + t * 3, none⟩ = some (.int .i64 (xs.getD t default).id) ∧ w.cell? ⟨b, off + t * 3 + 1, none⟩ = some (.int .i64 (xs.getD t default).code) ∧ w.cell? ⟨b, off + t * 3 + 2, none⟩ = some (.slice da (xs.getD t default).data.length dc)) := by
  obtain ⟨ao, cap, rfl, h1, h2, h0, h9⟩ := ArrV.shape h
  refine ⟨ao, cap, rfl, h1, h2, h0, h9, fun hn => ?_⟩
  obtain ⟨b, off, ha, hlt, hc⟩ := ArrV.at h hn
  refine ⟨b, off, ha, hlt, fun t ht => ?_⟩
  obtain ⟨u, hu, hcell⟩ := hc t ht
  obtain ⟨dv, rfl, k1, k2, k3⟩ := hu default
  have k1' := k1
  obtain ⟨da, dc, rfl, _⟩ := k1'.opened
  refine ⟨_, _, k1, k2, k3, ?_, ?_, ?_⟩
  · have := hcell 0 (by omega); simpa [Value.cells] using this
  · have := hcell 1 (by omega); simpa [Value.cells] using this
  · have := hcell 2 (by omega); simpa [Value.cells] using this

theorem doReq_small {ms : List MR} {ws hs : List Int} {who : Int} {r : Rq} (hok : atmOkk ms ws hs who r = true) : (∀ y ∈ (doReq ms ws hs who r).2.2.data, I64 y) ∧ I64 (doReq ms ws hs who r).2.2.id ∧ I64 (doReq ms ws hs who r).2.2.code ∧ (doReq ms ws hs who r).2.2.data.length ≤ 4 := by
  have h := atmDo_small ms ws hs who r
  rw [atmDo_yes hok] at h
  exact ⟨h.d, h.i, h.c, h.ld⟩
theorem run_small {ms : List MR} {who : Int} (hm : mapOk ms = true) (hw : inB who 0 2 = true) : ∀ (a : List Rq) (ws hs : List Int), atmOk ws hs = true → a.all reqOk = true → ∀ x ∈ (runReq ms who ws hs a).2.2, (∀ y ∈ x.data, I64 y) ∧ I64 x.id ∧ I64 x.code ∧ x.data.length ≤ 4
  | [], ws, hs, _, _ => by simp [runReq]
  | r :: a, ws, hs, h, hr => by
    simp only [List.all_cons, Bool.and_eq_true] at hr
    simp only [runReq, List.mem_cons]
    rintro x (rfl | hx)
    · exact doReq_small (okk_parts.2 ⟨hm, h, hw, hr.1⟩)
    · exact run_small hm hw a _ _ (doReq_ok hw hr.1 h) hr.2 x hx
structure SmallR (x : List Int × List Int × List Rs) : Prop where
  w : ∀ y ∈ x.1, I64 y
  h : ∀ y ∈ x.2.1, I64 y
  d : ∀ r ∈ x.2.2, (∀ y ∈ r.data, I64 y) ∧ I64 r.id ∧ I64 r.code ∧ r.data.length ≤ 4
  lw : x.1.length ≤ 64
  lh : x.2.1.length ≤ 6
  ld : x.2.2.length ≤ 12
theorem atmRun_small (ms : List MR) (ws hs : List Int) (who : Int) (rs : List Rq) : SmallR (atmRun ms ws hs who rs) := by
  unfold atmRun
  rcases hc : runOk ms ws hs who rs with _ | _
  · rw [if_neg (by simp)]; exact ⟨by simp, by simp, by simp, by simp, by simp, by simp⟩
  · rw [if_pos rfl]
    obtain ⟨h1, h2, h3, h4, h5⟩ := runOk_parts.1 hc
    obtain ⟨a1, a2, a3, a4⟩ := atmOk_parts (run_ok (ms := ms) h3 rs ws hs h2 h5)
    rw [List.all_eq_true] at a3 a4
    refine ⟨fun y hy => word64 (a3 y hy), fun y hy => ?_, run_small h1 h3 rs ws hs h2 h5, by omega, by omega, by rw [run_len]; omega⟩
    have := a4 y hy
    simp only [inB, Bool.and_eq_true, decide_eq_true_eq] at this
    unfold I64; omega

/-- What AtmRun comes to, as it is read. -/
def RunV (x : List Int × List Int × List Rs) (w : World) (e : Ending) (w' : World) : Prop :=
  ∃ wa wc ha hc da dc, e = .returned (.tuple #[.agg #[.slice wa x.1.length wc, .slice ha x.2.1.length hc], .slice da x.2.2.length dc]) ∧
    Ints w' w'.heap.size (.slice wa x.1.length wc) x.1 ∧ Ints w' w'.heap.size (.slice ha x.2.1.length hc) x.2.1 ∧ Rsps w' w'.heap.size (.slice da x.2.2.length dc) x.2.2 ∧ Below w.heap.size w w'
theorem rsps_of {w' : World} {H : Nat} {v : Value} {xs : List Rs} {ds : List Value} (h : Owns w' H 66 3 rowR v (mkRows xs ds)) (hl : ds.length = xs.length) (hd : ∀ j, j < xs.length → Owns w' H 3 1 rowI (ds.getD j undef) (xs.getD j default).data)
    (hs : ∀ r ∈ xs, (∀ y ∈ r.data, I64 y) ∧ I64 r.id ∧ I64 r.code ∧ r.data.length ≤ 4) (hn : xs.length ≤ 140737488351232) : Rsps w' w'.heap.size v xs := by
  have hr := h.arr rowR_len (by rw [mkRows_len _ _ hl]; exact hn)
  refine ⟨(mkRows xs ds).map fun y => .agg #[.int .i64 y.1, .int .i64 y.2.1, y.2.2], ?_, by simp [mkRows_len _ _ hl], fun k hk d => ?_⟩
  · rw [List.map_map]
    exact hr
  · have hkd : k < ds.length := by omega
    have e : (((mkRows xs ds).map fun y : Int × Int × Value => Value.agg #[.int .i64 y.1, .int .i64 y.2.1, y.2.2]).getD k undef) = .agg #[.int .i64 (xs.getD k default).id, .int .i64 (xs.getD k default).code, ds.getD k undef] := by
      simp [mkRows, List.getD, List.getElem?_zipWith, hk, hkd]
    have e2 : xs.getD k d = xs.getD k default := by simp [List.getD, hk]
    rw [e, e2]
    obtain ⟨q1, q2, q3, q4⟩ := hs _ (getD_mem (d := default) hk)
    exact ⟨_, rfl, (hd k hk).ints (by omega) q1, q2, q3⟩
theorem implRun_v (v sv u : Value) (ms : List MR) (B : Nat) (ws hs : List Int) (who : Int) (rs : List Rq) (w : World) (hv : Maps w B v ms) (hs1 : AtmV w B sv ws hs) (hu : Reqs w B u rs) (hB : B ≤ w.heap.size) :
    Calls Try.prog 47 #[v, sv, .int .i64 who, u] w (RunV (atmRun ms ws hs who rs) w) := by
  have hs := atmRun_small ms ws hs who rs
  refine (implAtmRun_any v sv u ms B ws _ who rs w hv hs1 hu hB).mono ?_
  rintro e w' ⟨wv, hv', dv, ds, rfl, o1, o2, o3, o4, o5, _, hb⟩
  have i1 := o1.ints (by have := hs.lw; omega) hs.w
  have i2 := o2.ints (by have := hs.lh; omega) hs.h
  have i3 := rsps_of o3 o4 o5 hs.d (by have := hs.ld; omega)
  obtain ⟨q1, k1, rfl, _, _⟩ := o1.shape
  obtain ⟨q2, k2, rfl, _, _⟩ := o2.shape
  obtain ⟨q3, k3, rfl, _, _⟩ := o3.shape
  rw [mkRows_len _ _ o4] at i3
  rw [mkRows_len _ _ o4]
  exact ⟨_, _, _, _, _, _, rfl, i1, i2, i3, hb⟩

end Go.Proofs.Yteamebdehembgaa
