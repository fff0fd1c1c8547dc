/-
  A literal of three things that are asked.
-/
import Derived.Test.YteamebdehembgaaJRu1
import Derived.Test.YteamebdehembgaaJCr1
import Derived.Test.YteamebdehembgaaJSa3
set_option linter.unusedVariables false
set_option linter.unusedSimpArgs false
namespace Go.Proofs.Yteamebdehembgaa
open Go.RowKit

set_option maxRecDepth 4000 in
set_option maxHeartbeats 8000000 in
theorem implAtmRun_no (v sv u : Value) (ms : List MR) (B : Nat) (ws hs : List Int) (who : Int) (rs : List Rq) (w : World) (hv : Maps w B v ms) (hs1 : AtmV w B sv ws hs) (hu : Reqs w B u rs) (hB : B ≤ w.heap.size)
    (hno : runOk ms ws hs who rs = false) :
    Calls Try.prog 47 #[v, sv, .int .i64 who, u] w (AtmRunP ([], [], []) w) := by
  have HV := hid hv; have HS := hid hs1; have HU := hid hu
  obtain ⟨wv, hv2, rfl, s1, s2⟩ := hs1
  obtain ⟨uo, uc, rfl, hlc, hcap, hln, hni, hr⟩ := hu.opened
  have hc : mapOk ms = false ∨ (mapOk ms = true ∧ atmOk ws hs = false) ∨ (mapOk ms = true ∧ atmOk ws hs = true ∧ inB who 0 2 = false) ∨ (mapOk ms = true ∧ atmOk ws hs = true ∧ inB who 0 2 = true ∧ (12 : Int) < (rs.length : Int)) ∨
      (mapOk ms = true ∧ atmOk ws hs = true ∧ inB who 0 2 = true ∧ decide ((12 : Int) < (rs.length : Int)) = false ∧ rs.any (fun r => !reqOk r) = true) := by
    unfold runOk at hno
    rcases h1 : mapOk ms with _ | _ <;> rcases h2 : atmOk ws hs with _ | _ <;> rcases h3 : inB who 0 2 with _ | _ <;> simp_all
    by_cases h4 : rs.length ≤ 12
    · have := hno h4
      right; exact ⟨by omega, this⟩
    · left; omega
  clear hv hno s1 s2 hu hr hlc hcap hni
  have HAB := hid (fun T V => rn_open w wv hv2 T V)
  have HP := hid (fun (T V : TypeId) => show Below w.heap.size w ((w.alloc (.cells #[wv, hv2] T)).alloc (.cells #[.slice none 0 0, .slice none 0 0] V)) from ((Below.refl _ _).alloc (Nat.le_refl _) _).alloc (by simp) _)
  go_enter Try.func47, Try.ntmps47
  rcases hc with h1 | ⟨h1, h2⟩ | ⟨h1, h2, h3⟩ | ⟨h1, h2, h3, h4⟩ | ⟨h1, h2, h3, h4, h5⟩
  all_goals
    go_wp2_with (first
      | (go_at_call 65; refine (implMapOk_any _ ms B _ (HV.out.below ((HP.out _ _).mono hB)) (by first | (simp; done) | (simp; omega))).mono ?_; rw [h1]; rintro e w1 ⟨rfl, hb1⟩; have HAB1 := hid ((HAB.out _ _).below hb1 (by first | (simp; done) | (simp; omega))); obtain ⟨⟨a0, a1⟩, ⟨g0, g1, g2, g3⟩⟩ := HAB1.out; have HB := hid ((HP.out _ _).trans (hb1.mono (by first | (simp; done) | (simp; omega)))); clear hb1)
      | (go_at_call 106; refine (implAtmOk_any _ ws hs B _ (HS.out.below (HB.out.mono hB)) (Nat.le_trans hB HB.out.size)).mono ?_; rw [h2]; rintro e w1 ⟨rfl, hb1⟩; have HAB1 := hid (HAB1.out.below hb1 HAB1.out.lt); obtain ⟨⟨a0, a1⟩, ⟨g0, g1, g2, g3⟩⟩ := HAB1.out; have HB := hid (HB.out.trans (hb1.mono HB.out.size)); clear hb1)
      | (go_at_call 56; refine (isMaster_any _ _).mono ?_; rw [h3]; rintro e w' ⟨rfl, rfl⟩)
      | (go_at_call 71; refine (hasReq_any 113 _ (callable_of Try.func113 (by kernel_rfl) (by kernel_rfl)) (fun r => !reqOk r) _ rs B _ (HU.out.below (HB.out.mono hB)) (Nat.le_trans hB HB.out.size) (fun r u' w1 hb hu' => by simpa using runTest_any r u' B w1 hu' (Nat.le_trans (Nat.le_trans hB HB.out.size) hb.size))).mono ?_; unfold HasRP; rw [h5]; rintro e w1 ⟨rfl, hb1⟩; have HAB1 := hid (HAB1.out.below hb1 HAB1.out.lt); obtain ⟨⟨a0, a1⟩, ⟨g0, g1, g2, g3⟩⟩ := HAB1.out; have HB := hid (HB.out.trans (hb1.mono HB.out.size)); clear hb1))
    have hbE := hid ((HB.out.setCell (p := ⟨w.heap.size + 1, 0, none⟩) (by simp; try omega) (.slice none 0 0)).setCell (p := ⟨w.heap.size + 1, 1, none⟩) (by simp; try omega) (.slice none 0 0))
    refine bodyPost_ret (results_ct Try.results47 _ _ ⟨w.heap.size + 1, 0, none⟩ (.agg #[.slice none 0 0, .slice none 0 0]) rfl ?_) rfl ?_
    · exact loadVar_atm _ _ _ _ (by simp [go_sem, g0]) (by simp [go_sem, g1])
    exact ⟨_, _, _, [], rfl, Owns.zero, Owns.zero, Owns.zero, rfl, fun j hj => absurd hj (by simp), by simp [Apart, Value.ownBlock], hbE.out⟩

theorem implAtmRun_any (v sv u : Value) (ms : List MR) (B : Nat) (ws hs : List Int) (who : Int) (rs : List Rq) (w : World) (hv : Maps w B v ms) (hs1 : AtmV w B sv ws hs) (hu : Reqs w B u rs) (hB : B ≤ w.heap.size) :
    Calls Try.prog 47 #[v, sv, .int .i64 who, u] w (AtmRunP (atmRun ms ws hs who rs) w) := by
  unfold atmRun
  rcases hc : runOk ms ws hs who rs with _ | _
  · rw [if_neg (by simp)]; exact implAtmRun_no v sv u ms B ws hs who rs w hv hs1 hu hB hc
  · rw [if_pos rfl]; exact implAtmRun_yes v sv u ms B ws hs who rs w hv hs1 hu hB hc

/-- A slice of what came of things. -/
def Rsps (w : World) (B : Nat) (v : Value) (xs : List Rs) : Prop := ArrV RspV w B 3 v xs
theorem Rsps.below {w w' : World} {B : Nat} {v : Value} {rs : List Rs} (h : Rsps w B v rs) (hb : Below B w w') : Rsps w' B v rs := ArrV.below h hb fun _ _ h => h.below hb
theorem Rsps.mono {w : World} {B B' : Nat} {v : Value} {rs : List Rs} (h : Rsps w B v rs) (hb : B ≤ B') : Rsps w B' v rs := ArrV.mono h hb fun _ _ h => h.mono hb
theorem Rsps.opened {w : World} {B : Nat} {v : Value} {xs : List Rs} (h : Rsps w B v xs) :
    ∃ ao cap, v = .slice ao xs.length cap ∧ xs.length ≤ cap ∧ cap ≤ 9223372036854775807 ∧ xs.length ≤ 140737488351232 ∧ (ao = none → cap = 0) ∧
      (xs.length ≠ 0 → ∃ b off, ao = some ⟨b, off, none⟩ ∧ b < B ∧ ∀ t, t < xs.length → ∃ da dc, Ints w B (.slice da (xs.getD t default).data.length dc) (xs.getD t default).data ∧ I64 (xs.getD t default).id ∧ I64 (xs.getD t default).code ∧
        w.cell? ⟨b, off + t * 3, none⟩ = some (.int .i64 (xs.getD t default).id) ∧ w.cell? ⟨b, off + t * 3 + 1, none⟩ = some (.int .i64 (xs.getD t default).code) ∧ w.cell? ⟨b, off + t * 3 + 2, none⟩ = some (.slice da (xs.getD t default).data.length dc)) := by
  obtain ⟨ao, cap, rfl, h1, h2, h0, h9⟩ := ArrV.shape h
  refine ⟨ao, cap, rfl, h1, h2, h0, h9, fun hn => ?_⟩
  obtain ⟨b, off, ha, hlt, hc⟩ := ArrV.at h hn
  refine ⟨b, off, ha, hlt, fun t ht => ?_⟩
  obtain ⟨u, hu, hcell⟩ := hc t ht
  obtain ⟨dv, rfl, k1, k2, k3⟩ := hu default
  have k1' := k1
  obtain ⟨da, dc, rfl, _⟩ := k1'.opened
  refine ⟨_, _, k1, k2, k3, ?_, ?_, ?_⟩
  · have := hcell 0 (by omega); simpa [Value.cells] using this
  · have := hcell 1 (by omega); simpa [Value.cells] using this
  · have := hcell 2 (by omega); simpa [Value.cells] using this

theorem doReq_small {ms : List MR} {ws hs : List Int} {who : Int} {r : Rq} (hok : atmOkk ms ws hs who r = true) : (∀ y ∈ (doReq ms ws hs who r).2.2.data, I64 y) ∧ I64 (doReq ms ws hs who r).2.2.id ∧ I64 (doReq ms ws hs who r).2.2.code ∧ (doReq ms ws hs who r).2.2.data.length ≤ 4 := by
  have h := atmDo_small ms ws hs who r
  rw [atmDo_yes hok] at h
  exact ⟨h.d, h.i, h.c, h.ld⟩
theorem run_small {ms : List MR} {who : Int} (hm : mapOk ms = true) (hw : inB who 0 2 = true) : ∀ (a : List Rq) (ws hs : List Int), atmOk ws hs = true → a.all reqOk = true → ∀ x ∈ (runReq ms who ws hs a).2.2, (∀ y ∈ x.data, I64 y) ∧ I64 x.id ∧ I64 x.code ∧ x.data.length ≤ 4
  | [], ws, hs, _, _ => by simp [runReq]
  | r :: a, ws, hs, h, hr => by
    simp only [List.all_cons, Bool.and_eq_true] at hr
    simp only [runReq, List.mem_cons]
    rintro x (rfl | hx)
    · exact doReq_small (okk_parts.2 ⟨hm, h, hw, hr.1⟩)
    · exact run_small hm hw a _ _ (doReq_ok hw hr.1 h) hr.2 x hx
structure SmallR (x : List Int × List Int × List Rs) : Prop where
  w : ∀ y ∈ x.1, I64 y
  h : ∀ y ∈ x.2.1, I64 y
  d : ∀ r ∈ x.2.2, (∀ y ∈ r.data, I64 y) ∧ I64 r.id ∧ I64 r.code ∧ r.data.length ≤ 4
  lw : x.1.length ≤ 64
  lh : x.2.1.length ≤ 6
  ld : x.2.2.length ≤ 12
theorem atmRun_small (ms : List MR) (ws hs : List Int) (who : Int) (rs : List Rq) : SmallR (atmRun ms ws hs who rs) := by
  unfold atmRun
  rcases hc : runOk ms ws hs who rs with _ | _
  · rw [if_neg (by simp)]; exact ⟨by simp, by simp, by simp, by simp, by simp, by simp⟩
  · rw [if_pos rfl]
    obtain ⟨h1, h2, h3, h4, h5⟩ := runOk_parts.1 hc
    obtain ⟨a1, a2, a3, a4⟩ := atmOk_parts (run_ok (ms := ms) h3 rs ws hs h2 h5)
    rw [List.all_eq_true] at a3 a4
    refine ⟨fun y hy => word64 (a3 y hy), fun y hy => ?_, run_small h1 h3 rs ws hs h2 h5, by omega, by omega, by rw [run_len]; omega⟩
    have := a4 y hy
    simp only [inB, Bool.and_eq_true, decide_eq_true_eq] at this
    unfold I64; omega

/-- What AtmRun comes to, as it is read. -/
def RunV (x : List Int × List Int × List Rs) (w : World) (e : Ending) (w' : World) : Prop :=
  ∃ wa wc ha hc da dc, e = .returned (.tuple #[.agg #[.slice wa x.1.length wc, .slice ha x.2.1.length hc], .slice da x.2.2.length dc]) ∧
    Ints w' w'.heap.size (.slice wa x.1.length wc) x.1 ∧ Ints w' w'.heap.size (.slice ha x.2.1.length hc) x.2.1 ∧ Rsps w' w'.heap.size (.slice da x.2.2.length dc) x.2.2 ∧ Below w.heap.size w w'
theorem rsps_of {w' : World} {H : Nat} {v : Value} {xs : List Rs} {ds : List Value} (h : Owns w' H 66 3 rowR v (mkRows xs ds)) (hl : ds.length = xs.length) (hd : ∀ j, j < xs.length → Owns w' H 3 1 rowI (ds.getD j undef) (xs.getD j default).data)
    (hs : ∀ r ∈ xs, (∀ y ∈ r.data, I64 y) ∧ I64 r.id ∧ I64 r.code ∧ r.data.length ≤ 4) (hn : xs.length ≤ 140737488351232) : Rsps w' w'.heap.size v xs := by
  have hr := h.arr rowR_len (by rw [mkRows_len _ _ hl]; exact hn)
  refine ⟨(mkRows xs ds).map fun y => .agg #[.int .i64 y.1, .int .i64 y.2.1, y.2.2], ?_, by simp [mkRows_len _ _ hl], fun k hk d => ?_⟩
  · rw [List.map_map]
    exact hr
  · have hkd : k < ds.length := by omega
    have e : (((mkRows xs ds).map fun y : Int × Int × Value => Value.agg #[.int .i64 y.1, .int .i64 y.2.1, y.2.2]).getD k undef) = .agg #[.int .i64 (xs.getD k default).id, .int .i64 (xs.getD k default).code, ds.getD k undef] := by
      simp [mkRows, List.getD, List.getElem?_zipWith, hk, hkd]
    have e2 : xs.getD k d = xs.getD k default := by simp [List.getD, hk]
    rw [e, e2]
    obtain ⟨q1, q2, q3, q4⟩ := hs _ (getD_mem (d := default) hk)
    exact ⟨_, rfl, (hd k hk).ints (by omega) q1, q2, q3⟩
theorem implRun_v (v sv u : Value) (ms : List MR) (B : Nat) (ws hs : List Int) (who : Int) (rs : List Rq) (w : World) (hv : Maps w B v ms) (hs1 : AtmV w B sv ws hs) (hu : Reqs w B u rs) (hB : B ≤ w.heap.size) :
    Calls Try.prog 47 #[v, sv, .int .i64 who, u] w (RunV (atmRun ms ws hs who rs) w) := by
  have hs := atmRun_small ms ws hs who rs
  refine (implAtmRun_any v sv u ms B ws _ who rs w hv hs1 hu hB).mono ?_
  rintro e w' ⟨wv, hv', dv, ds, rfl, o1, o2, o3, o4, o5, _, hb⟩
  have i1 := o1.ints (by have := hs.lw; omega) hs.w
  have i2 := o2.ints (by have := hs.lh; omega) hs.h
  have i3 := rsps_of o3 o4 o5 hs.d (by have := hs.ld; omega)
  obtain ⟨q1, k1, rfl, _, _⟩ := o1.shape
  obtain ⟨q2, k2, rfl, _, _⟩ := o2.shape
  obtain ⟨q3, k3, rfl, _, _⟩ := o3.shape
  rw [mkRows_len _ _ o4] at i3
  rw [mkRows_len _ _ o4]
  exact ⟨_, _, _, _, _, _, rfl, i1, i2, i3, hb⟩

end Go.Proofs.Yteamebdehembgaa

namespace Go.Proofs.Yteamebdehembgaa
open Go.RowKit

theorem flatten_get {sz : Nat} : ∀ (rows : List (List Value)) (t j : Nat), (∀ r ∈ rows, r.length = sz) → t < rows.length → j < sz → rows.flatten[t * sz + j]? = (rows.getD t [])[j]?
  | r :: rows, 0, j, h, _, hj => by
    simp only [List.flatten_cons, Nat.zero_mul, Nat.zero_add, List.getD_cons_zero]
    rw [List.getElem?_append_left (by rw [h r (by simp)]; exact hj)]
  | r :: rows, t + 1, j, h, ht, hj => by
    have hr := h r (by simp)
    simp only [List.flatten_cons, List.getD_cons_succ]
    rw [List.getElem?_append_right (by rw [hr, Nat.add_mul]; omega), hr, show (t + 1) * sz + j - sz = t * sz + j from by rw [Nat.add_mul]; omega]
    exact flatten_get rows t j (fun x hx => h x (List.mem_cons_of_mem _ hx)) (by simpa using ht) hj
theorem arr_block {W : World} {b B sz : Nat} {T : TypeId} {rows : List (List Value)} {cs : Array Value} (h : W.heap[b]? = some (.cells cs T (0, 0))) (hcs : cs.toList = rows.flatten) (hl : ∀ r ∈ rows, r.length = sz) (hb : b < B) (hn : rows.length ≤ 140737488351232) :
    Arr W B sz (.slice (some ⟨b, 0, none⟩) rows.length rows.length) rows := by
  refine ⟨_, _, rfl, Nat.le_refl _, by omega, hn, (fun h => by cases h), fun _ => ⟨b, 0, rfl, hb, fun t ht j hj => ?_⟩⟩
  rw [← flatten_get rows t j hl ht hj, ← hcs]
  simp [World.cell?, h]

set_option maxRecDepth 20000 in
set_option maxHeartbeats 1000000 in
/-- '[]ReqReq{x, y, z}'. -/
theorem wpList_lit3 {ops : Array Oper} {rest : List Oper} {a : Act} {w : World} {Q : Exit → Act → World → Prop} (d : Option Nat) (ty : Nat) (pos : String) (aft : Array Edge) (t u v : Nat)
    {x0 x1 x2 x3 x4 x5 x6 y0 y1 y2 y3 y4 y5 y6 z0 z1 z2 z3 z4 z5 z6 : Value} (hx : a.tmps.getD t undef = .agg #[x0, x1, x2, x3, x4, x5, x6]) (hy : a.tmps.getD u undef = .agg #[y0, y1, y2, y3, y4, y5, y6]) (hz : a.tmps.getD v undef = .agg #[z0, z1, z2, z3, z4, z5, z6])
    (h1 : (#[x0, x1, x2, x3, x4, x5, x6, y0, y1, y2, y3, y4, y5, y6, z0, z1, z2, z3, z4, z5, z6] : Array Value).all (·.oneCell') = true)
    (h : wpList Try.prog ops Q rest (a.put d (.slice (some ⟨w.heap.size, 0, none⟩) 3 3)) (w.alloc (.cells #[x0, x1, x2, x3, x4, x5, x6, y0, y1, y2, y3, y4, y5, y6, z0, z1, z2, z3, z4, z5, z6] 71))) :
    wpList Try.prog ops Q ({ dst := d, op := .buildSlice 34 3 #[(0, .tmp t), (1, .tmp u), (2, .tmp v)], type := ty, pos := pos, after := aft, guard := none } :: rest) a w := by
  refine wpList_plain rfl fun K hK => ?_
  have h2 := hK _ _ h
  obtain ⟨tmps, defers⟩ := a
  simp only [Array.getD_eq_getD_getElem?] at hx hy hz
  go_simp
  exact h2

theorem reqs_lit3 {W : World} {b B : Nat} {x0 x1 x2 x3 x4 x5 x6 y0 y1 y2 y3 y4 y5 y6 z0 z1 z2 z3 z4 z5 z6 : Value} {r1 r2 r3 : Rq} {T : TypeId}
    (h : W.heap[b]? = some (.cells #[x0, x1, x2, x3, x4, x5, x6, y0, y1, y2, y3, y4, y5, y6, z0, z1, z2, z3, z4, z5, z6] T (0, 0))) (h1 : ReqV W B (.agg #[x0, x1, x2, x3, x4, x5, x6]) r1) (h2 : ReqV W B (.agg #[y0, y1, y2, y3, y4, y5, y6]) r2) (h3 : ReqV W B (.agg #[z0, z1, z2, z3, z4, z5, z6]) r3) (hb : b < B) :
    Reqs W B (.slice (some ⟨b, 0, none⟩) 3 3) [r1, r2, r3] := by
  refine ⟨[.agg #[x0, x1, x2, x3, x4, x5, x6], .agg #[y0, y1, y2, y3, y4, y5, y6], .agg #[z0, z1, z2, z3, z4, z5, z6]], arr_block (rows := [[x0, x1, x2, x3, x4, x5, x6], [y0, y1, y2, y3, y4, y5, y6], [z0, z1, z2, z3, z4, z5, z6]]) h rfl ?_ hb (by simp), rfl, fun k hk d => ?_⟩
  · intro r hr
    simp only [List.mem_cons, List.not_mem_nil, or_false] at hr
    rcases hr with rfl | rfl | rfl <;> rfl
  · simp only [List.length_cons, List.length_nil] at hk
    rcases (show k = 0 ∨ k = 1 ∨ k = 2 by omega) with rfl | rfl | rfl
    · exact h1
    · exact h2
    · exact h3

end Go.Proofs.Yteamebdehembgaa
