/-
  slices.IndexFunc and slices.ContainsFunc over what is asked, at whatever function value that answers by a plain test.
-/
import Derived.Test.YteamebdehembgaaJOwn1
import Derived.Test.YteamebdehembgaaJInv
import Derived.Test.YteamebdehembgaaKReq
set_option linter.unusedVariables false
set_option linter.unusedSimpArgs false
namespace Go.Proofs.Yteamebdehembgaa
open Go.RowKit

set_option maxHeartbeats 1000000 in
theorem eqIntS_same (v u : Value) (xs : List Int) (B C : Nat) (w : World) (hv : Ints w B v xs) (hu : Ints w C u xs) :
    Calls Try.prog 92 #[v, u] w fun e w' => e = .returned (.bool true) ∧ Drew w w' := by
  obtain ⟨ao, cap, rfl, hlc, hcap, hln, hni, hr⟩ := hv.opened
  obtain ⟨bo, cbp, rfl, hlc2, hcap2, hln2, hni2, hr2⟩ := hu.opened
  clear hv hu
  go_enter Try.func92, Try.ntmps92
  go_wp2_with fail
  go_loopw [5] (fun i wr => ∃ k n : Nat, k ≤ xs.length ∧ i = .int .i64 k ∧ wr = w.drewN n) (fun i _ => xs.length - (intOf i).toNat)
  case atStart => exact ⟨0, 0, Nat.zero_le _, rfl, rfl⟩
  case round =>
    obtain ⟨k, n, hk, rfl, rfl⟩ := hrel
    by_cases hlt : k < xs.length
    · obtain ⟨b, off, rfl, hb, hc⟩ := hr (by omega)
      obtain ⟨b2, off2, rfl, hb2, hc2⟩ := hr2 (by omega)
      have hck := hc k hlt
      have hck2 := hc2 k hlt
      obtain ⟨x, hx⟩ : ∃ x, x = xs.getD k 0 := ⟨_, rfl⟩
      rw [← hx] at hck hck2
      have hq2 : (x != x) = false := by simp
      clear hc hr hc2 hr2 hx
      go_wp2_with fail
      go_quiet (fail)
      go_wp2_with fail
      go_roundw
      case rel => exact ⟨k + 1, _, by omega, by go_num, rfl⟩
      case measure => simp [intOf]; omega
    · go_wp2_with fail
      go_ret
      exact ⟨rfl, by first | exact Drew.one .. | exact Drew.two ..⟩

/-- The numbers m, m + 1, .. -/
def marks (m n : Nat) : List Int := (List.range n).map fun j => ((m + j : Nat) : Int)
theorem marks_len (m n : Nat) : (marks m n).length = n := by simp [marks]
theorem marks_get (m : Nat) {n j : Nat} (h : j < n) : (marks m n).getD j 0 = ((m + j : Nat) : Int) := by simp [marks, List.getD, h]
theorem marks_64 {m n : Nat} (h : m + n ≤ 1048576) : ∀ x ∈ marks m n, I64 x := by
  intro x hx
  obtain ⟨j, hj, rfl⟩ := List.mem_map.1 hx
  rw [List.mem_range] at hj
  unfold I64; omega
/-- The first k of xs are marked from m on. -/
def markK (xs : List Int) (m k : Nat) : List Int := marks m k ++ xs.drop k
theorem markK_zero (xs : List Int) (m : Nat) : markK xs m 0 = xs := by simp [markK, marks]
theorem markK_all (xs : List Int) (m : Nat) : markK xs m xs.length = marks m xs.length := by simp [markK]
theorem markK_len {xs : List Int} {m k : Nat} (h : k ≤ xs.length) : (markK xs m k).length = xs.length := by simp [markK, marks_len]; omega
theorem markK_set {xs : List Int} {m k : Nat} (h : k < xs.length) : (markK xs m k).set k ((m + k : Nat) : Int) = markK xs m (k + 1) := by
  unfold markK
  rw [List.set_append_right _ _ (by rw [marks_len]; omega), marks_len, Nat.sub_self, List.drop_eq_getElem_cons h, List.set_cons_zero]
  simp [marks, List.range_succ]

set_option maxHeartbeats 1000000 in
theorem markIntS_any (v : Value) (xs : List Int) (m base : Nat) (w : World) (hv : Owns w base 3 1 rowI v xs) (hm : m + xs.length ≤ 1048576) :
    Calls Try.prog 94 #[v, .int .i64 m] w fun e w' => e = .returned (.int .i64 ((m + xs.length : Nat) : Int)) ∧ Owns w' base 3 1 rowI v (marks m xs.length) ∧ (∀ k, k < w.heap.size → v.ownBlock ≠ some k → w'.heap[k]? = w.heap[k]?) ∧ w'.os = w.os ∧ w'.tape = w.tape ∧ w'.output = w.output ∧ w'.heap.size = w.heap.size := by
  by_cases h0 : xs.length = 0
  · have hx : xs = [] := List.eq_nil_of_length_eq_zero h0
    subst hx
    obtain ⟨a, c, rfl, h1, h2⟩ := hv.shape
    simp only [List.length_nil] at *
    have HV := hid hv; clear hv
    go_enter Try.func94, Try.ntmps94
    go_wp2_with fail
    go_loopw [1, 5] (fun m' i wr => m' = .int .i64 m ∧ i = .int .i64 0 ∧ wr = w) (fun _ i _ => (intOf i).toNat)
    case atStart => exact ⟨rfl, rfl, rfl⟩
    case round =>
      obtain ⟨rfl, rfl, rfl⟩ := hrel
      go_wp2_with fail
      go_ret
      exact ⟨by simp, by simpa [marks] using HV.out, fun _ _ _ => rfl, rfl, rfl, rfl, rfl⟩
  · have HV := hid hv
    obtain ⟨hl, h2⟩ := hv
    rcases h2 with ⟨h2, h3⟩ | ⟨g, off, cap, cur, rfl, hg, hh, hle, hmax, hsz, hc⟩
    · exact absurd h3 h0
    have hcap : cap ≤ 9223372036854775807 := by unfold maxLen at hmax; omega
    clear hl hh hsz hc hmax
    have hz0 := hid (markK_zero xs m)
    go_enter Try.func94, Try.ntmps94
    go_wp2_with fail
    go_loopw [1, 5] (fun m' i wr => ∃ k : Nat, k ≤ xs.length ∧ m' = .int .i64 ((m + k : Nat) : Int) ∧ i = .int .i64 k ∧ Owns wr base 3 1 rowI (.slice (some ⟨g, off, none⟩) xs.length cap) (markK xs m k) ∧ Touch g w wr ∧ wr.heap.size = w.heap.size) (fun _ i _ => xs.length - (intOf i).toNat)
    case atStart => exact ⟨0, Nat.zero_le _, by simp, rfl, by rw [hz0.out]; exact HV.out, Touch.refl _ _, rfl⟩
    case round =>
      obtain ⟨k, hk, rfl, rfl, hown, ht, hsz⟩ := hrel
      by_cases hlt : k < xs.length
      · have hcell := hown.cellI k (by rw [markK_len hk]; exact hlt)
        have hfr := hown.frozenI k
        have hput := hown.putI k (by rw [markK_len hk]; exact hlt) ((m + k : Nat) : Int)
        rw [markK_set hlt] at hput
        have HP := hid hput; have HT := hid ht
        obtain ⟨y, hy⟩ : ∃ y, y = (markK xs m k).getD k 0 := ⟨_, rfl⟩
        rw [← hy] at hcell
        have HS := hid hsz
        clear hput hown ht hy hsz
        go_wp2_with fail
        go_roundw
        case rel => exact ⟨k + 1, by omega, by go_num, by go_num, HP.out, HT.out.trans (Touch.setCell ..), by simpa [World.setCell] using HS.out⟩
        case measure => simp [intOf]; omega
      · obtain rfl : k = xs.length := by omega
        rw [markK_all] at hown
        have HO := hid hown; have HT := hid ht; have HS := hid hsz
        clear hown ht hsz
        go_wp2_with fail
        go_ret
        exact ⟨rfl, HO.out, fun k hk hn => HT.out.block k hk (fun e => hn (by rw [e]; rfl)), HT.out.os, HT.out.tape, HT.out.output, HS.out⟩

set_option maxHeartbeats 1000000 in
theorem heldIntS_any (v : Value) (n m B : Nat) (w : World) (hv : Ints w B v (marks m n)) (hm : m + n ≤ 1048576) :
    Calls Try.prog 97 #[v, .int .i64 m] w fun e w' => e = .returned (.int .i64 ((m + n : Nat) : Int)) ∧ w = w' := by
  obtain ⟨ao, cap, rfl, hlc, hcap, hln, hni, hr⟩ := hv.opened
  rw [marks_len] at *
  clear hv
  go_enter Try.func97, Try.ntmps97
  go_wp2_with fail
  go_loop [1, 5] (fun m' i => ∃ k : Nat, k ≤ n ∧ m' = .int .i64 ((m + k : Nat) : Int) ∧ i = .int .i64 k) (fun _ i => n - (intOf i).toNat)
  case atStart => exact ⟨0, Nat.zero_le _, by simp, rfl⟩
  case round =>
    obtain ⟨k, hk, rfl, rfl⟩ := hrel
    by_cases hlt : k < n
    · obtain ⟨b, off, rfl, hb, hc⟩ := hr (by omega)
      have hck := hc k hlt
      rw [marks_get m hlt] at hck
      clear hc hr
      go_wp2_with fail
      go_round
      case rel => exact ⟨k + 1, by omega, by go_num, by go_num⟩
      case measure => simp [intOf]; omega
    · obtain rfl : k = n := by omega
      go_wp2_with fail
      go_ret
      exact ⟨rfl, rfl⟩

end Go.Proofs.Yteamebdehembgaa

namespace Go.Proofs.Yteamebdehembgaa
open Go.RowKit

/-- A slice whose elements, sz cells each, are the values vs, and these stand for xs. -/
def ArrV {α : Type} (R : World → Nat → Value → α → Prop) (w : World) (B sz : Nat) (v : Value) (xs : List α) : Prop :=
  ∃ vs : List Value, Arr w B sz v (vs.map fun u => u.cells.toList) ∧ vs.length = xs.length ∧ ∀ k, k < xs.length → ∀ d, R w B (vs.getD k undef) (xs.getD k d)
theorem ArrV.below {α : Type} {R : World → Nat → Value → α → Prop} {w w' : World} {B sz : Nat} {v : Value} {xs : List α} (h : ArrV R w B sz v xs) (hb : Below B w w') (hR : ∀ u x, R w B u x → R w' B u x) : ArrV R w' B sz v xs := by
  obtain ⟨vs, h1, h2, h3⟩ := h
  exact ⟨vs, h1.below hb, h2, fun k hk d => hR _ _ (h3 k hk d)⟩
theorem ArrV.mono {α : Type} {R : World → Nat → Value → α → Prop} {w : World} {B B' sz : Nat} {v : Value} {xs : List α} (h : ArrV R w B sz v xs) (hb : B ≤ B') (hR : ∀ u x, R w B u x → R w B' u x) : ArrV R w B' sz v xs := by
  obtain ⟨vs, h1, h2, h3⟩ := h
  exact ⟨vs, h1.mono hb, h2, fun k hk d => hR _ _ (h3 k hk d)⟩
theorem getD_take {α : Type} {xs : List α} {k m : Nat} {d : α} (h : k < m) : (xs.take m).getD k d = xs.getD k d := by
  simp [List.getD, List.getElem?_take_of_lt h]
theorem ArrV.take {α : Type} {R : World → Nat → Value → α → Prop} {w : World} {B sz n cap m : Nat} {ao : Option Addr} {xs : List α} (h : ArrV R w B sz (.slice ao n cap) xs) (hm : m ≤ n) : ArrV R w B sz (.slice ao m cap) (xs.take m) := by
  obtain ⟨vs, h1, h2, h3⟩ := h
  refine ⟨vs.take m, by rw [List.map_take]; exact h1.take hm, by simp [h2], fun k hk d => ?_⟩
  simp only [List.length_take] at hk
  rw [getD_take (by omega), getD_take (by omega)]
  exact h3 k (by omega) d
theorem ArrV.shape {α : Type} {R : World → Nat → Value → α → Prop} {w : World} {B sz : Nat} {v : Value} {xs : List α} (h : ArrV R w B sz v xs) :
    ∃ ao cap, v = .slice ao xs.length cap ∧ xs.length ≤ cap ∧ cap ≤ 9223372036854775807 ∧ xs.length ≤ 140737488351232 ∧ (ao = none → cap = 0) := by
  obtain ⟨vs, ⟨ao, cap, hv, h1, h2, h0, h9, _⟩, hl, _⟩ := h
  simp only [List.length_map, hl] at hv h1 h0
  exact ⟨ao, cap, hv, h1, h2, h0, h9⟩
/-- One element: its value, and where its cells lie. -/
theorem ArrV.at {α : Type} {R : World → Nat → Value → α → Prop} {w : World} {B sz n cap : Nat} {ao : Option Addr} {xs : List α} (h : ArrV R w B sz (.slice ao n cap) xs) (hn : xs.length ≠ 0) :
    ∃ b off, ao = some ⟨b, off, none⟩ ∧ b < B ∧ ∀ k, k < xs.length → ∃ u, (∀ d, R w B u (xs.getD k d)) ∧ ∀ j, j < sz → w.cell? ⟨b, off + k * sz + j, none⟩ = u.cells.toList[j]? := by
  obtain ⟨vs, ⟨ao', cap', hv, h1, h2, h0, h9, h3⟩, hl, hr⟩ := h
  simp only [Value.slice.injEq] at hv
  obtain ⟨rfl, _, rfl⟩ := hv
  obtain ⟨b, off, ha, hlt, hc⟩ := h3 (by simp only [List.length_map]; omega)
  refine ⟨b, off, ha, hlt, fun k hk => ⟨vs.getD k undef, fun d => hr k hk d, fun j hj => ?_⟩⟩
  rw [hc k (by simp only [List.length_map]; omega) j hj]
  simp [List.getD, show k < vs.length by omega]
theorem ArrV.nil {α : Type} (R : World → Nat → Value → α → Prop) (w : World) (B sz : Nat) : ArrV R w B sz (.slice none 0 0) ([] : List α) :=
  ⟨[], ⟨none, 0, rfl, by simp, by omega, by simp, fun _ => rfl, fun h => absurd rfl h⟩, rfl, fun k hk => absurd hk (by simp)⟩

/-- A slice of what is asked. -/
def Reqs (w : World) (B : Nat) (v : Value) (rs : List Rq) : Prop := ArrV ReqV w B 7 v rs
theorem Reqs.below {w w' : World} {B : Nat} {v : Value} {rs : List Rq} (h : Reqs w B v rs) (hb : Below B w w') : Reqs w' B v rs := ArrV.below h hb fun _ _ h => h.below hb
theorem Reqs.mono {w : World} {B B' : Nat} {v : Value} {rs : List Rq} (h : Reqs w B v rs) (hb : B ≤ B') : Reqs w B' v rs := ArrV.mono h hb fun _ _ h => h.mono hb
theorem Reqs.opened {w : World} {B : Nat} {v : Value} {rs : List Rq} (h : Reqs w B v rs) :
    ∃ ao cap, v = .slice ao rs.length cap ∧ rs.length ≤ cap ∧ cap ≤ 9223372036854775807 ∧ rs.length ≤ 140737488351232 ∧ (ao = none → cap = 0) ∧
      (rs.length ≠ 0 → ∃ b off, ao = some ⟨b, off, none⟩ ∧ b < B ∧ ∀ t, t < rs.length → ∃ da dc la lc, ReqV w B (.agg #[.int .i64 (rs.getD t default).id, .int .i64 (rs.getD t default).kind, .int .i64 (rs.getD t default).addr, .int .i64 (rs.getD t default).many, .bool (rs.getD t default).wrap, .slice da (rs.getD t default).data.length dc, .slice la (rs.getD t default).lanes.length lc]) (rs.getD t default) ∧
        w.cell? ⟨b, off + t * 7, none⟩ = some (.int .i64 (rs.getD t default).id) ∧ w.cell? ⟨b, off + t * 7 + 1, none⟩ = some (.int .i64 (rs.getD t default).kind) ∧ w.cell? ⟨b, off + t * 7 + 2, none⟩ = some (.int .i64 (rs.getD t default).addr) ∧
        w.cell? ⟨b, off + t * 7 + 3, none⟩ = some (.int .i64 (rs.getD t default).many) ∧ w.cell? ⟨b, off + t * 7 + 4, none⟩ = some (.bool (rs.getD t default).wrap) ∧ w.cell? ⟨b, off + t * 7 + 5, none⟩ = some (.slice da (rs.getD t default).data.length dc) ∧ w.cell? ⟨b, off + t * 7 + 6, none⟩ = some (.slice la (rs.getD t default).lanes.length lc)) := by
  obtain ⟨ao, cap, rfl, h1, h2, h0, h9⟩ := ArrV.shape h
  refine ⟨ao, cap, rfl, h1, h2, h0, h9, fun hn => ?_⟩
  obtain ⟨b, off, ha, hlt, hc⟩ := ArrV.at h hn
  refine ⟨b, off, ha, hlt, fun t ht => ?_⟩
  obtain ⟨u, hu, hcell⟩ := hc t ht
  have hu' := hu default
  have hu2 := hu'
  obtain ⟨dv, lv, rfl, k1, k2, k3⟩ := hu'
  obtain ⟨da, dc, rfl, _⟩ := k1.opened
  obtain ⟨la, lc, rfl, _⟩ := k2.opened
  refine ⟨_, _, _, _, hu2, ?_, ?_, ?_, ?_, ?_, ?_, ?_⟩
  · have := hcell 0 (by omega); simpa [Value.cells] using this
  · have := hcell 1 (by omega); simpa [Value.cells] using this
  · have := hcell 2 (by omega); simpa [Value.cells] using this
  · have := hcell 3 (by omega); simpa [Value.cells] using this
  · have := hcell 4 (by omega); simpa [Value.cells] using this
  · have := hcell 5 (by omega); simpa [Value.cells] using this
  · have := hcell 6 (by omega); simpa [Value.cells] using this

end Go.Proofs.Yteamebdehembgaa

namespace Go.Proofs.Yteamebdehembgaa
open Go.RowKit

def IdxRP (p : Rq → Bool) (rs : List Rq) (w : World) (e : Ending) (w' : World) : Prop := e = .returned (.int .i64 (idxP p rs)) ∧ Below w.heap.size w w'
def HasRP (p : Rq → Bool) (rs : List Rq) (w : World) (e : Ending) (w' : World) : Prop := e = .returned (.bool (rs.any p)) ∧ Below w.heap.size w w'

set_option maxHeartbeats 2000000 in
theorem idxReq_any (K : FuncId) (cap : Array Value) (hK : Callable K) (p : Rq → Bool) (v : Value) (rs : List Rq) (B : Nat) (w : World) (hv : Reqs w B v rs) (hB : B ≤ w.heap.size)
    (hf : ∀ (r : Rq) (u : Value) (w1 : World), Below w.heap.size w w1 → ReqV w1 B u r → Calls Try.prog K (#[u] ++ cap) w1 fun e w' => e = .returned (.bool (p r)) ∧ Below w1.heap.size w1 w') :
    Calls Try.prog 126 #[v, .func (.func K) #[] cap] w (IdxRP p rs w) := by
  obtain ⟨ao, cap', rfl, hlc, hcap, hln, hni, hr⟩ := hv.opened
  have HF := hid hf; clear hf hv
  have hK2 := fun args w => hK args w
  go_enter Try.func126, Try.ntmps126
  go_wp2_with fail
  go_loopw [8] (fun i wr => ∃ k : Nat, k ≤ rs.length ∧ i = .int .i64 k ∧ Below w.heap.size w wr ∧ ∀ j, j < k → p (rs.getD j default) = false) (fun i _ => rs.length - (intOf i).toNat)
  case atStart => exact ⟨0, Nat.zero_le _, rfl, Below.refl _ _, by simp⟩
  case round =>
    obtain ⟨k, hk, rfl, hbl, hno⟩ := hrel
    have HN := hid hno; clear hno
    by_cases hlt : k < rs.length
    · obtain ⟨b, off, rfl, hb, hc⟩ := hr (by omega)
      obtain ⟨da, dc, la, lc, hu, c0, c1, c2, c3, c4, c5, c6⟩ := hc k hlt
      obtain ⟨x, hx⟩ : ∃ x, x = rs.getD k default := ⟨_, rfl⟩
      rw [← hx] at c0 c1 c2 c3 c4 c5 c6 hu
      rw [← hbl.cell (p := ⟨b, _, none⟩) (Nat.lt_of_lt_of_le hb hB)] at c0 c1 c2 c3 c4 c5 c6
      have HX := hid hx; have HU := hid (hu.below (hbl.mono hB)); clear hx hc hr hu
      go_wp2_with fail
      refine (HF.out x _ _ hbl HU.out).mono ?_
      rintro e w' ⟨rfl, hb'⟩
      have hsz := hbl.size
      have HB := hid (hbl.trans (hb'.mono hsz))
      clear hbl
      rcases hp : p x with _ | _
      · have HQ := hid (all_step HN.out (show p (rs.getD k default) = false by rw [← HX.out]; exact hp))
        go_wp2_with fail
        go_roundw
        case rel => exact ⟨k + 1, by omega, by go_num, HB.out, HQ.out⟩
        case measure => simp [intOf]; omega
      · have HQ := hid (idxP_hit p rs k default hlt (by rw [← HX.out]; exact hp) HN.out)
        go_wp2_with fail
        go_ret
        exact ⟨by rw [HQ.out]; rfl, HB.out⟩
    · have HF2 := hid (idxP_miss p rs default (fun j hj => HN.out j (by omega)))
      go_wp2_with fail
      go_ret
      exact ⟨by rw [HF2.out]; rfl, hbl⟩

set_option maxHeartbeats 1000000 in
theorem hasReq_any (K : FuncId) (cap : Array Value) (hK : Callable K) (p : Rq → Bool) (v : Value) (rs : List Rq) (B : Nat) (w : World) (hv : Reqs w B v rs) (hB : B ≤ w.heap.size)
    (hf : ∀ (r : Rq) (u : Value) (w1 : World), Below w.heap.size w w1 → ReqV w1 B u r → Calls Try.prog K (#[u] ++ cap) w1 fun e w' => e = .returned (.bool (p r)) ∧ Below w1.heap.size w1 w') :
    Calls Try.prog 71 #[v, .func (.func K) #[] cap] w (HasRP p rs w) := by
  have HA := hid (idxP_any p rs)
  go_enter Try.func71, Try.ntmps71
  go_wp2_with fail
  refine (idxReq_any K cap hK p v rs B _ hv hB hf).mono ?_
  rintro e w' ⟨rfl, hb⟩
  go_wp2_with fail
  go_ret
  exact ⟨by rw [← HA.out]; rfl, hb⟩

set_option maxHeartbeats 1000000 in
/-- AtmRun's test of what is asked. -/
theorem runTest_any (r : Rq) (u : Value) (B : Nat) (w : World) (hu : ReqV w B u r) (hB : B ≤ w.heap.size) :
    Calls Try.prog 113 #[u] w fun e w' => e = .returned (.bool (!reqOk r)) ∧ Below w.heap.size w w' := by
  have HU := hid hu
  obtain ⟨dv, lv, rfl, k1, k2, _⟩ := hu
  obtain ⟨da, dc, rfl, _⟩ := k1.opened
  obtain ⟨la, lc, rfl, _⟩ := k2.opened
  rcases h : reqOk r with _ | _
  all_goals
    have HR := hid h; clear h
    go_enter Try.func113, Try.ntmps113
    go_wp2_with (first | (go_at_call 73; go_loud ((with_reducible refine (implReqOk_any _ r B _ (HU.out.below ((Below.refl _ _).alloc hB _)) (by simp; omega)).mono ?_); rw [HR.out]; rintro e w1 ⟨rfl, hb1⟩)))
    go_ret
    exact ⟨rfl, ((Below.refl _ _).alloc (Nat.le_refl _) _).trans (hb1.mono (by simp))⟩

end Go.Proofs.Yteamebdehembgaa
