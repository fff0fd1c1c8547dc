/-
  Ranges: MapOk, rangeOf, l1Find, MapFind.
-/
import Derived.Test.YteamebdehembgaaJW1
set_option linter.unusedVariables false
set_option linter.unusedSimpArgs false
namespace Go.Proofs.Yteamebdehembgaa
open Go.RowKit

def rowM (r : MR) : List Value := [.int .i64 r.fr, .int .i64 r.to, .int .i64 r.sl, .bool r.only]
def MR64 (r : MR) : Prop := I64 r.fr ∧ I64 r.to ∧ I64 r.sl
def Maps (w : World) (B : Nat) (v : Value) (ms : List MR) : Prop := Arr w B 4 v (ms.map rowM) ∧ ∀ r ∈ ms, MR64 r
theorem Maps.below {w w' : World} {B : Nat} {v : Value} {xs : List MR} (h : Maps w B v xs) (hb : Below B w w') : Maps w' B v xs := ⟨h.1.below hb, h.2⟩
theorem Maps.mono {w : World} {B B' : Nat} {v : Value} {xs : List MR} (h : Maps w B v xs) (hb : B ≤ B') : Maps w B' v xs := ⟨h.1.mono hb, h.2⟩
theorem Maps.take {w : World} {B n cap m : Nat} {ao : Option Addr} {xs : List MR} (h : Maps w B (.slice ao n cap) xs) (hm : m ≤ n) : Maps w B (.slice ao m cap) (xs.take m) :=
  ⟨by rw [List.map_take]; exact h.1.take hm, fun x hx => h.2 x (List.mem_of_mem_take hx)⟩
theorem Maps.opened {w : World} {B : Nat} {v : Value} {ms : List MR} (h : Maps w B v ms) :
    ∃ ao cap, v = .slice ao ms.length cap ∧ ms.length ≤ cap ∧ cap ≤ 9223372036854775807 ∧ ms.length ≤ 140737488351232 ∧ (ao = none → cap = 0) ∧
      (ms.length ≠ 0 → ∃ b off, ao = some ⟨b, off, none⟩ ∧ b < B ∧ ∀ t, t < ms.length → w.cell? ⟨b, off + t * 4, none⟩ = some (.int .i64 (ms.getD t default).fr) ∧ w.cell? ⟨b, off + t * 4 + 1, none⟩ = some (.int .i64 (ms.getD t default).to) ∧
        w.cell? ⟨b, off + t * 4 + 2, none⟩ = some (.int .i64 (ms.getD t default).sl) ∧ w.cell? ⟨b, off + t * 4 + 3, none⟩ = some (.bool (ms.getD t default).only)) := by
  obtain ⟨⟨ao, cap, hv, h1, h2, h0, h9, h3⟩, _⟩ := h
  simp only [List.length_map] at hv h1 h0 h3
  refine ⟨ao, cap, hv, h1, h2, h0, h9, fun hn => ?_⟩
  obtain ⟨b, off, ha, hlt, hc⟩ := h3 hn
  refine ⟨b, off, ha, hlt, fun t ht => ?_⟩
  have e : (ms.map rowM).getD t [] = rowM (ms.getD t default) := by simp [List.getD, ht]
  have k0 := hc t ht 0 (by omega)
  have k1 := hc t ht 1 (by omega)
  have k2 := hc t ht 2 (by omega)
  have k3 := hc t ht 3 (by omega)
  rw [e] at k0 k1 k2 k3
  exact ⟨k0, k1, k2, k3⟩
theorem getD_mem {α : Type} {xs : List α} {k : Nat} {d : α} (h : k < xs.length) : xs.getD k d ∈ xs := by simp [List.getD, h]

def IdxMP (p : MR → Bool) (ms : List MR) (w : World) (e : Ending) (w' : World) : Prop := e = .returned (.int .i64 (idxP p ms)) ∧ Below w.heap.size w w'
def HasMP (p : MR → Bool) (ms : List MR) (w : World) (e : Ending) (w' : World) : Prop := e = .returned (.bool (ms.any p)) ∧ Below w.heap.size w w'

set_option maxHeartbeats 1000000 in
theorem idxMap_any (K : FuncId) (cap : Array Value) (hK : Callable K) (p : MR → Bool) (v : Value) (ms : List MR) (B : Nat) (w : World) (hv : Maps w B v ms) (hB : B ≤ w.heap.size)
    (hf : ∀ (r : MR) (w1 : World), Below w.heap.size w w1 → Calls Try.prog K (#[.agg #[.int .i64 r.fr, .int .i64 r.to, .int .i64 r.sl, .bool r.only]] ++ cap) w1 fun e w' => e = .returned (.bool (p r)) ∧ Below w1.heap.size w1 w') :
    Calls Try.prog 165 #[v, .func (.func K) #[] cap] w (IdxMP p ms w) := by
  obtain ⟨ao, cap', rfl, hlc, hcap, hln, hni, hr⟩ := hv.opened
  have HF := hid hf; clear hf hv
  have hK2 := fun args w => hK args w
  go_enter Try.func165, Try.ntmps165
  go_wp2_with fail
  go_loopw [8] (fun i wr => ∃ k : Nat, k ≤ ms.length ∧ i = .int .i64 k ∧ Below w.heap.size w wr ∧ ∀ j, j < k → p (ms.getD j default) = false) (fun i _ => ms.length - (intOf i).toNat)
  case atStart => exact ⟨0, Nat.zero_le _, rfl, Below.refl _ _, by simp⟩
  case round =>
    obtain ⟨k, hk, rfl, hbl, hno⟩ := hrel
    have HN := hid hno; clear hno
    by_cases hlt : k < ms.length
    · obtain ⟨b, off, rfl, hb, hc⟩ := hr (by omega)
      obtain ⟨c0, c1, c2, c3⟩ := hc k hlt
      obtain ⟨x, hx⟩ : ∃ x, x = ms.getD k default := ⟨_, rfl⟩
      rw [← hx] at c0 c1 c2 c3
      rw [← hbl.cell (p := ⟨b, _, none⟩) (Nat.lt_of_lt_of_le hb hB)] at c0 c1 c2 c3
      have HX := hid hx; clear hx hc hr
      go_wp2_with fail
      refine (HF.out x _ hbl).mono ?_
      rintro e w' ⟨rfl, hb'⟩
      have hsz := hbl.size
      have HB := hid (hbl.trans (hb'.mono hsz))
      clear hbl
      rcases hp : p x with _ | _
      · have HQ := hid (all_step HN.out (show p (ms.getD k default) = false by rw [← HX.out]; exact hp))
        go_wp2_with fail
        go_roundw
        case rel => exact ⟨k + 1, by omega, by go_num, HB.out, HQ.out⟩
        case measure => simp [intOf]; omega
      · have HQ := hid (idxP_hit p ms k default hlt (by rw [← HX.out]; exact hp) HN.out)
        go_wp2_with fail
        go_ret
        exact ⟨by rw [HQ.out]; rfl, HB.out⟩
    · have HF2 := hid (idxP_miss p ms default (fun j hj => HN.out j (by omega)))
      go_wp2_with fail
      go_ret
      exact ⟨by rw [HF2.out]; rfl, hbl⟩

set_option maxHeartbeats 1000000 in
theorem hasMap_any (K : FuncId) (cap : Array Value) (hK : Callable K) (p : MR → Bool) (v : Value) (ms : List MR) (B : Nat) (w : World) (hv : Maps w B v ms) (hB : B ≤ w.heap.size)
    (hf : ∀ (r : MR) (w1 : World), Below w.heap.size w w1 → Calls Try.prog K (#[.agg #[.int .i64 r.fr, .int .i64 r.to, .int .i64 r.sl, .bool r.only]] ++ cap) w1 fun e w' => e = .returned (.bool (p r)) ∧ Below w1.heap.size w1 w') :
    Calls Try.prog 122 #[v, .func (.func K) #[] cap] w (HasMP p ms w) := by
  have HA := hid (idxP_any p ms)
  go_enter Try.func122, Try.ntmps122
  go_wp2_with fail
  refine (idxMap_any K cap hK p v ms B _ hv hB hf).mono ?_
  rintro e w' ⟨rfl, hb⟩
  go_wp2_with fail
  go_ret
  exact ⟨by rw [← HA.out]; rfl, hb⟩

set_option maxHeartbeats 1000000 in
theorem rangeOf_any (v : Value) (ms : List MR) (a : Int) (B : Nat) (w : World) (hv : Maps w B v ms) (hB : B ≤ w.heap.size) :
    Calls Try.prog 168 #[v, .int .i64 a] w fun e w' => e = .returned (.int .i64 (rngOf ms a)) ∧ Below w.heap.size w w' := by
  have hE : rngOf ms a = idxP (fun r => inB a r.fr r.to) ms := rfl
  have HE := hid hE; clear hE
  have hcl : ∀ (r : MR) (w1 : World), Below (w.heap.size + 1) (w.alloc (.cells #[.int .i64 a] 3)) w1 → Calls Try.prog 182 (#[.agg #[.int .i64 r.fr, .int .i64 r.to, .int .i64 r.sl, .bool r.only]] ++ #[.pointer (some ⟨w.heap.size, 0, none⟩)]) w1 fun e w' => e = .returned (.bool (inB a r.fr r.to)) ∧ Below w1.heap.size w1 w' := by
    intro r w1 hb
    have hc : w1.cell? ⟨w.heap.size, 0, none⟩ = some (.int .i64 a) := by
      rw [hb.cell (p := ⟨w.heap.size, 0, none⟩) (by simp)]; simp
    have hsz := hb.size
    simp only [World.size_alloc] at hsz
    have hsz2 : w.heap.size < w1.heap.size := by omega
    clear hb hsz
    go_enter Try.func182, Try.ntmps182
    go_wp2_with (go_at_call 68; refine (in_any _ _ _ _).mono ?_; rintro e w' ⟨rfl, rfl⟩)
    go_ret
    exact ⟨rfl, (Below.refl _ _).alloc (Nat.le_refl _) _⟩
  have HC := hid hcl; clear hcl
  go_enter Try.func168, Try.ntmps168
  go_wp2_with fail
  refine (idxMap_any 182 #[.pointer (some ⟨w.heap.size, 0, none⟩)] (callable_of Try.func182 (by kernel_rfl) (by kernel_rfl)) (fun r => inB a r.fr r.to) v ms B _ (hv.below ((Below.refl _ _).alloc hB _)) (by simp; omega) (fun r w1 hb => HC.out r w1 (by simpa using hb))).mono ?_
  rintro e w' ⟨rfl, hb⟩
  go_wp2_with fail
  go_ret
  exact ⟨by rw [HE.out]; rfl, ((Below.refl _ _).alloc (Nat.le_refl _) _).trans (hb.mono (by simp))⟩

def over (r q : MR) : Bool := decide (q.fr ≤ r.to) && decide (r.fr ≤ q.to)
theorem rangeOk_eq (ms : List MR) (k : Nat) (x : MR) (hx : x = ms.getD k default) : rangeOk ms k = (inB x.fr 0 63 && inB x.to x.fr 63 && inB x.sl 0 2 && !((ms.take k).any (over x))) := by
  subst hx
  unfold rangeOk over
  have e1 : ∀ q : MR, (!(decide (((ms.getD k default).fr) ≤ q.to) && decide (q.fr ≤ (ms.getD k default).to))) = !(decide (q.fr ≤ (ms.getD k default).to) && decide ((ms.getD k default).fr ≤ q.to)) := fun q => by rw [Bool.and_comm]
  rw [List.not_any_eq_all_not]
  simp only [e1, Function.comp_def]
  congr 1
  congr 1
  rw [Bool.eq_iff_iff]
  simp only [inB, Bool.and_eq_true, decide_eq_true_eq]
  omega
theorem mapOk_bad {ms : List MR} {k : Nat} (hk : k < ms.length) (h : rangeOk ms k = false) : mapOk ms = false := by
  unfold mapOk
  rw [Bool.and_eq_false_iff]; right
  rw [List.all_eq_false]; exact ⟨k, by simpa using hk, by simp [h]⟩
theorem mapOk_all {ms : List MR} (h : ∀ j, j < ms.length → rangeOk ms j = true) : mapOk ms = decide (ms.length ≤ 4) := by
  unfold mapOk
  have : (List.range ms.length).all (rangeOk ms) = true := by rw [List.all_eq_true]; intro j hj; exact h j (by simpa using hj)
  rw [this, Bool.and_true]

set_option maxHeartbeats 2000000 in
theorem implMapOk_any (v : Value) (ms : List MR) (B : Nat) (w : World) (hv : Maps w B v ms) (hB : B ≤ w.heap.size) :
    Calls Try.prog 65 #[v] w fun e w' => e = .returned (.bool (mapOk ms)) ∧ Below w.heap.size w w' := by
  obtain ⟨ao, cap, rfl, hlc, hcap, hln, hni, hr⟩ := hv.opened
  go_enter Try.func65, Try.ntmps65
  go_wp2_with fail
  go_loopw [7] (fun i wr => ∃ k : Nat, k ≤ ms.length ∧ i = .int .i64 k ∧ Below w.heap.size w wr ∧ ∀ j, j < k → rangeOk ms j = true) (fun i _ => ms.length - (intOf i).toNat)
  case atStart => exact ⟨0, Nat.zero_le _, rfl, Below.refl _ _, by simp⟩
  case round =>
    obtain ⟨k, hk, rfl, hbl, hno⟩ := hrel
    have HN := hid hno; clear hno
    by_cases hlt : k < ms.length
    · obtain ⟨b, off, rfl, hb, hc⟩ := hr (by omega)
      obtain ⟨c0, c1, c2, c3⟩ := hc k hlt
      obtain ⟨x, hx⟩ : ∃ x, x = ms.getD k default := ⟨_, rfl⟩
      rw [← hx] at c0 c1 c2 c3
      rw [← hbl.cell (p := ⟨b, _, none⟩) (Nat.lt_of_lt_of_le hb hB)] at c0 c1 c2 c3
      have HE := hid (rangeOk_eq ms k x hx); clear hx hc hr
      have hsz := hbl.size
      have hcl : ∀ (q : MR) (w1 : World), Below (wr.heap.size + 1) (wr.alloc (.cells #[.int .i64 x.fr, .int .i64 x.to, .int .i64 x.sl, .bool x.only] 101)) w1 → Calls Try.prog 123 (#[.agg #[.int .i64 q.fr, .int .i64 q.to, .int .i64 q.sl, .bool q.only]] ++ #[.pointer (some ⟨wr.heap.size, 0, none⟩)]) w1 fun e w' => e = .returned (.bool (over x q)) ∧ Below w1.heap.size w1 w' := by
        intro q w1 hb
        have d0 : w1.cell? ⟨wr.heap.size, 0, none⟩ = some (.int .i64 x.fr) := by rw [hb.cell (p := ⟨wr.heap.size, 0, none⟩) (by simp)]; simp
        have d1 : w1.cell? ⟨wr.heap.size, 1, none⟩ = some (.int .i64 x.to) := by rw [hb.cell (p := ⟨wr.heap.size, 1, none⟩) (by simp)]; simp
        have hsz1 := hb.size
        simp only [World.size_alloc] at hsz1
        have hsz2 : wr.heap.size < w1.heap.size := by omega
        clear hb hsz1 hbl c0 c1 c2 c3
        go_enter Try.func123, Try.ntmps123
        go_wp2
        all_goals
          go_ret
          exact ⟨by simp [over, *]; try omega, (Below.refl _ _).alloc (Nat.le_refl _) _⟩
      have HC := hid hcl; clear hcl
      have hv2 := hid (Maps.take hv (show k ≤ ms.length by omega))
      go_wp2_with (first
        | (go_at_call 68; refine (in_any _ _ _ _).mono ?_; rintro e w' ⟨rfl, rfl⟩)
        | (go_at_call 122; go_must (refine (hasMap_any 123 _ (callable_of Try.func123 (by kernel_rfl) (by kernel_rfl)) (over x) _ (ms.take k) B _ (hv2.out.below ((hbl.mono hB).trans ((Below.refl _ _).alloc (by omega) _))) (by simp; omega) (fun r w1 hb => HC.out r w1 (by simpa using hb))).mono ?_); rintro e w' ⟨rfl, hb2⟩))
      · have HF := hid (mapOk_bad hlt (by rw [HE.out]; simp [*]))
        go_ret
        exact ⟨by rw [HF.out]; rfl, hbl.trans ((Below.refl _ _).alloc (by omega) _)⟩
      · have HF := hid (mapOk_bad hlt (by rw [HE.out]; simp [*]))
        go_ret
        exact ⟨by rw [HF.out]; rfl, hbl.trans ((Below.refl _ _).alloc (by omega) _)⟩
      · have HF := hid (mapOk_bad hlt (by rw [HE.out]; simp [*]))
        go_ret
        exact ⟨by rw [HF.out]; rfl, hbl.trans ((Below.refl _ _).alloc (by omega) _)⟩
      · have HF := hid (mapOk_bad hlt (by rw [HE.out]; simp only [*]; simp))
        go_ret
        exact ⟨by rw [HF.out]; rfl, (hbl.trans ((Below.refl _ _).alloc (by omega) _)).trans (hb2.mono (by simp; omega))⟩
      · have HQ := hid (all_step HN.out (show rangeOk ms k = true by rw [HE.out]; simp only [*]; simp))
        go_roundw
        case rel => exact ⟨k + 1, by omega, by go_num, (hbl.trans ((Below.refl _ _).alloc (by omega) _)).trans (hb2.mono (by simp; omega)), HQ.out⟩
        case measure => simp [intOf]; omega
    · have HF := hid (mapOk_all (fun j hj => HN.out j (by omega)))
      go_wp2_with fail
      go_ret
      exact ⟨by rw [HF.out]; exact ret_bool (by rw [decide_eq_decide]; omega), hbl⟩

end Go.Proofs.Yteamebdehembgaa
