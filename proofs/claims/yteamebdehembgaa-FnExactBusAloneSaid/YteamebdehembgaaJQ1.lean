/-
  BusOk of the program and of the reference.
-/
import Derived.Test.YteamebdehembgaaJEx1
import Derived.Test.YteamebdehembgaaJWrd
import Derived.Test.YteamebdehembgaaJWho
import Derived.Test.YteamebdehembgaaJXt
import Derived.Test.YteamebdehembgaaJFind
import Derived.BigGuardPart
set_option linter.unusedVariables false
set_option linter.unusedSimpArgs false
namespace Go.Proofs.Yteamebdehembgaa
open Go.RowKit

/-- What each asks, by value. -/
def Progs (w : World) (B : Nat) (v : Value) (pss : List (List Rq)) : Prop := ArrV Reqs w B 1 v pss
theorem Progs.below {w w' : World} {B : Nat} {v : Value} {pss : List (List Rq)} (h : Progs w B v pss) (hb : Below B w w') : Progs w' B v pss := ArrV.below h hb fun _ _ h => h.below hb
theorem Progs.mono {w : World} {B B' : Nat} {v : Value} {pss : List (List Rq)} (h : Progs w B v pss) (hb : B ≤ B') : Progs w B' v pss := ArrV.mono h hb fun _ _ h => h.mono hb
theorem Progs.opened {w : World} {B : Nat} {v : Value} {pss : List (List Rq)} (h : Progs w B v pss) :
    ∃ ao cap, v = .slice ao pss.length cap ∧ pss.length ≤ cap ∧ cap ≤ 9223372036854775807 ∧ pss.length ≤ 140737488351232 ∧ (ao = none → cap = 0) ∧
      (pss.length ≠ 0 → ∃ b off, ao = some ⟨b, off, none⟩ ∧ b < B ∧ ∀ t, t < pss.length → ∃ da dc, Reqs w B (.slice da (pss.getD t []).length dc) (pss.getD t []) ∧ w.cell? ⟨b, off + t, none⟩ = some (.slice da (pss.getD t []).length dc)) := by
  obtain ⟨ao, cap, rfl, h1, h2, h0, h9⟩ := ArrV.shape h
  refine ⟨ao, cap, rfl, h1, h2, h0, h9, fun hn => ?_⟩
  obtain ⟨b, off, ha, hlt, hc⟩ := ArrV.at h hn
  refine ⟨b, off, ha, hlt, fun t ht => ?_⟩
  obtain ⟨u, hu, hcell⟩ := hc t ht
  have hu' := hu []
  obtain ⟨da, dc, rfl, _⟩ := Reqs.opened hu'
  refine ⟨da, dc, hu', ?_⟩
  have := hcell 0 (by omega)
  simpa [Value.cells] using this
/-- A bus, by value. -/
def BusI (w : World) (B : Nat) (v : Value) (ms : List MR) (lat : List Int) (pss : List (List Rq)) : Prop := ∃ mv lv pv, v = .agg #[mv, lv, pv] ∧ Maps w B mv ms ∧ Ints w B lv lat ∧ Progs w B pv pss
theorem BusI.below {w w' : World} {B : Nat} {v : Value} {ms : List MR} {lat : List Int} {pss : List (List Rq)} (h : BusI w B v ms lat pss) (hb : Below B w w') : BusI w' B v ms lat pss := by
  obtain ⟨mv, lv, pv, e, h1, h2, h3⟩ := h; exact ⟨mv, lv, pv, e, h1.below hb, h2.below hb, h3.below hb⟩
theorem BusI.mono {w : World} {B B' : Nat} {v : Value} {ms : List MR} {lat : List Int} {pss : List (List Rq)} (h : BusI w B v ms lat pss) (hb : B ≤ B') : BusI w B' v ms lat pss := by
  obtain ⟨mv, lv, pv, e, h1, h2, h3⟩ := h; exact ⟨mv, lv, pv, e, h1.mono hb, h2.mono hb, h3.mono hb⟩
def progOk (p : List Rq) : Bool := decide (p.length ≤ 12) && p.all reqOk
def busOk (ms : List MR) (lat : List Int) (pss : List (List Rq)) : Bool := mapOk ms && decide (lat.length = 4) && lat.all (inB · 0 3) && decide (pss.length = 3) && pss.all progOk

def IdxPP (p : List Rq → Bool) (rs : List (List Rq)) (w : World) (e : Ending) (w' : World) : Prop := e = .returned (.int .i64 (idxP p rs)) ∧ Below w.heap.size w w'
def HasPP (p : List Rq → Bool) (rs : List (List Rq)) (w : World) (e : Ending) (w' : World) : Prop := e = .returned (.bool (rs.any p)) ∧ Below w.heap.size w w'
set_option maxHeartbeats 1000000 in
theorem idxProg_any (K : FuncId) (cap : Array Value) (hK : Callable K) (p : List Rq → Bool) (v : Value) (rs : List (List Rq)) (B : Nat) (w : World) (hv : Progs w B v rs) (hB : B ≤ w.heap.size)
    (hf : ∀ (r : List Rq) (u : Value) (w1 : World), Below w.heap.size w w1 → Reqs w1 B u r → Calls Try.prog K (#[u] ++ cap) w1 fun e w' => e = .returned (.bool (p r)) ∧ Below w1.heap.size w1 w') :
    Calls Try.prog 125 #[v, .func (.func K) #[] cap] w (IdxPP p rs w) := by
  obtain ⟨ao, cap', rfl, hlc, hcap, hln, hni, hr⟩ := hv.opened
  have HF := hid hf; clear hf hv
  have hK2 := fun args w => hK args w
  go_enter Try.func125, Try.ntmps125
  go_wp2_with fail
  go_loopw [8] (fun i wr => ∃ k : Nat, k ≤ rs.length ∧ i = .int .i64 k ∧ Below w.heap.size w wr ∧ ∀ j, j < k → p (rs.getD j []) = false) (fun i _ => rs.length - (intOf i).toNat)
  case atStart => exact ⟨0, Nat.zero_le _, rfl, Below.refl _ _, by simp⟩
  case round =>
    obtain ⟨k, hk, rfl, hbl, hno⟩ := hrel
    have HN := hid hno; clear hno
    by_cases hlt : k < rs.length
    · obtain ⟨b, off, rfl, hb, hc⟩ := hr (by omega)
      obtain ⟨da, dc, hu, c0⟩ := hc k hlt
      obtain ⟨x, hx⟩ : ∃ x, x = rs.getD k [] := ⟨_, rfl⟩
      rw [← hx] at c0 hu
      rw [← hbl.cell (p := ⟨b, _, none⟩) (Nat.lt_of_lt_of_le hb hB)] at c0
      have HX := hid hx; have HU := hid (hu.below (hbl.mono hB)); clear hx hc hr hu
      go_wp2_with fail
      refine (HF.out x _ _ hbl HU.out).mono ?_
      rintro e w' ⟨rfl, hb'⟩
      have hsz := hbl.size
      have HB := hid (hbl.trans (hb'.mono hsz))
      clear hbl
      rcases hp : p x with _ | _
      · have HQ := hid (all_step HN.out (show p (rs.getD k []) = false by rw [← HX.out]; exact hp))
        go_wp2_with fail
        go_roundw
        case rel => exact ⟨k + 1, by omega, by go_num, HB.out, HQ.out⟩
        case measure => simp [intOf]; omega
      · have HQ := hid (idxP_hit p rs k [] hlt (by rw [← HX.out]; exact hp) HN.out)
        go_wp2_with fail
        go_ret
        exact ⟨by rw [HQ.out]; rfl, HB.out⟩
    · have HF2 := hid (idxP_miss p rs [] (fun j hj => HN.out j (by omega)))
      go_wp2_with fail
      go_ret
      exact ⟨by rw [HF2.out]; rfl, hbl⟩
set_option maxHeartbeats 1000000 in
theorem hasProg_any (K : FuncId) (cap : Array Value) (hK : Callable K) (p : List Rq → Bool) (v : Value) (rs : List (List Rq)) (B : Nat) (w : World) (hv : Progs w B v rs) (hB : B ≤ w.heap.size)
    (hf : ∀ (r : List Rq) (u : Value) (w1 : World), Below w.heap.size w w1 → Reqs w1 B u r → Calls Try.prog K (#[u] ++ cap) w1 fun e w' => e = .returned (.bool (p r)) ∧ Below w1.heap.size w1 w') :
    Calls Try.prog 69 #[v, .func (.func K) #[] cap] w (HasPP p rs w) := by
  have HA := hid (idxP_any p rs)
  go_enter Try.func69, Try.ntmps69
  go_wp2_with fail
  refine (idxProg_any K cap hK p v rs B _ hv hB hf).mono ?_
  rintro e w' ⟨rfl, hb⟩
  go_wp2_with fail
  go_ret
  exact ⟨by rw [← HA.out]; rfl, hb⟩

set_option maxHeartbeats 1000000 in
theorem busLat_any (x : Int) (w : World) : Calls Try.prog 67 #[.int .i64 x] w fun e w' => e = .returned (.bool (!inB x 0 3)) ∧ w = w' := by
  rcases h : inB x 0 3 with _ | _
  all_goals
    go_enter Try.func67, Try.ntmps67
    go_wp2_with (go_at_call 68; refine (in_any _ _ _ _).mono ?_; rw [h]; rintro e w' ⟨rfl, rfl⟩)
    go_ret
    exact ⟨rfl, rfl⟩
set_option maxHeartbeats 1000000 in
theorem busReq_any (r : Rq) (u : Value) (B : Nat) (w : World) (hu : ReqV w B u r) (hB : B ≤ w.heap.size) :
    Calls Try.prog 72 #[u] w fun e w' => e = .returned (.bool (!reqOk r)) ∧ Below w.heap.size w w' := by
  have HU := hid hu
  obtain ⟨dv, lv, rfl, k1, k2, _⟩ := hu
  obtain ⟨da, dc, rfl, _⟩ := k1.opened
  obtain ⟨la, lc, rfl, _⟩ := k2.opened
  rcases h : reqOk r with _ | _
  all_goals
    have HR := hid h; clear h
    go_enter Try.func72, Try.ntmps72
    go_wp2_with (first | (go_at_call 73; go_loud ((with_reducible refine (implReqOk_any _ r B _ (HU.out.below ((Below.refl _ _).alloc hB _)) (by simp; omega)).mono ?_); rw [HR.out]; rintro e w1 ⟨rfl, hb1⟩)))
    go_ret
    exact ⟨rfl, ((Below.refl _ _).alloc (Nat.le_refl _) _).trans (hb1.mono (by simp))⟩
theorem all_not_any {α : Type} (p : α → Bool) (xs : List α) : xs.any (fun x => !p x) = !xs.all p := by induction xs <;> simp_all [Bool.not_and]
set_option maxHeartbeats 1000000 in
theorem busProg_any (p : List Rq) (u : Value) (B : Nat) (w : World) (hu : Reqs w B u p) (hB : B ≤ w.heap.size) :
    Calls Try.prog 70 #[u] w fun e w' => e = .returned (.bool (!progOk p)) ∧ Below w.heap.size w w' := by
  have HU := hid hu
  obtain ⟨ao, cap, rfl, hlc, hcap, hln, hni, hr⟩ := hu.opened
  clear hr hu
  have HE := hid (all_not_any reqOk p)
  by_cases h12 : (12 : Int) < (p.length : Int)
  · have hd : progOk p = false := by unfold progOk; rw [decide_eq_false (by omega)]; rfl
    rw [hd]
    go_enter Try.func70, Try.ntmps70
    go_wp2_with fail
    go_ret
    exact ⟨rfl, Below.refl _ _⟩
  · have hd : progOk p = p.all reqOk := by unfold progOk; rw [decide_eq_true (by omega)]; rfl
    have h12' : decide ((12 : Int) < (p.length : Int)) = false := decide_eq_false h12
    rw [hd]
    rcases hq : p.all reqOk with _ | _
    all_goals
      rw [hq] at HE
      go_enter Try.func70, Try.ntmps70
      go_wp2_with (first
        | (go_at_call 71; refine (hasReq_any 72 _ (callable_of Try.func72 (by kernel_rfl) (by kernel_rfl)) (fun r => !reqOk r) _ p B _ HU.out hB (fun r u' w1 hb hu' => by simpa using busReq_any r u' B w1 hu' (Nat.le_trans hB hb.size))).mono ?_; unfold HasRP; rw [HE.out]; rintro e w1 ⟨rfl, hb1⟩))
      go_ret
      exact ⟨rfl, hb1⟩

end Go.Proofs.Yteamebdehembgaa

namespace Go.Proofs.Yteamebdehembgaa
open Go.RowKit

theorem busOk_cases (ms : List MR) (lat : List Int) (pss : List (List Rq)) :
    (busOk ms lat pss = false ∧ mapOk ms = false) ∨ (busOk ms lat pss = false ∧ mapOk ms = true ∧ ¬ lat.length = 4) ∨ (busOk ms lat pss = false ∧ mapOk ms = true ∧ lat.length = 4 ∧ lat.all (inB · 0 3) = false) ∨
    (busOk ms lat pss = false ∧ mapOk ms = true ∧ lat.length = 4 ∧ lat.all (inB · 0 3) = true ∧ ¬ pss.length = 3) ∨ (∃ y, busOk ms lat pss = y ∧ pss.all progOk = y ∧ mapOk ms = true ∧ lat.length = 4 ∧ lat.all (inB · 0 3) = true ∧ pss.length = 3) := by
  unfold busOk
  by_cases h2 : lat.length = 4 <;> by_cases h4 : pss.length = 3 <;> rcases h1 : mapOk ms with _ | _ <;> rcases h3 : lat.all (inB · 0 3) with _ | _ <;> simp_all

set_option maxRecDepth 4000 in
set_option maxHeartbeats 8000000 in
theorem implBusOk_any (v : Value) (ms : List MR) (lat : List Int) (pss : List (List Rq)) (B : Nat) (w : World) (h : BusI w B v ms lat pss) (hB : B ≤ w.heap.size) :
    Calls Try.prog 14 #[v] w fun e w' => e = .returned (.bool (busOk ms lat pss)) ∧ Below w.heap.size w w' := by
  obtain ⟨mv, lv, pv, rfl, hm, hl, hp⟩ := h
  have HM := hid hm; have HL := hid hl; have HP := hid hp
  obtain ⟨ma, mc, rfl, _⟩ := hm.opened
  obtain ⟨la, lc, rfl, _⟩ := hl.opened
  obtain ⟨pa, pc, rfl, _⟩ := hp.opened
  clear hm hl hp
  have HS := hid (fun T => show Bx (w.alloc (.cells #[.slice ma ms.length mc, .slice la lat.length lc, .slice pa pss.length pc] T)) w.heap.size [.slice ma ms.length mc, .slice la lat.length lc, .slice pa pss.length pc] from Bx.new w #[.slice ma ms.length mc, .slice la lat.length lc, .slice pa pss.length pc] T (by simp))
  have HB := hid (bx1 w)
  have HL2 := hid (all_not_any (inB · 0 3) lat)
  have HP2 := hid (all_not_any progOk pss)
  rcases busOk_cases ms lat pss with ⟨hy, h1⟩ | ⟨hy, h1, h2⟩ | ⟨hy, h1, h2, h3⟩ | ⟨hy, h1, h2, h3, h4⟩ | ⟨y, hy, h5, h1, h2, h3, h4⟩
  case inr.inr.inr.inr =>
    rcases y with _ | _
    all_goals
      rw [hy]
      rw [h3] at HL2
      rw [h5] at HP2
      have q2 : ((lat.length : Int) == 4) = true := by simp; omega
      have q4 : ((pss.length : Int) == 3) = true := by simp; omega
      have H1 := hid h1
      clear h1 h2 h3 h4 h5 hy
      go_enter Try.func14, Try.ntmps14
      go_wp2_with (first
        | (go_at_call 65; refine (implMapOk_any _ ms B _ (HM.out.below ((HB.out _).mono hB)) (Nat.le_trans hB (HB.out _).size)).mono ?_; rw [H1.out]; rintro e w1 ⟨rfl, hb⟩; have HS1 := hid ((HS.out _).below hb (by simp)); obtain ⟨⟨c0, c1, c2⟩, _⟩ := HS1.out.three; have HB1 := hid ((HB.out _).trans (hb.mono (by simp))); clear hb)
        | (go_at_call 66; refine (hasInt_any 67 #[] (callable_of Try.func67 (by kernel_rfl) (by kernel_rfl)) (fun n => !inB n 0 3) _ lat B _ (HL.out.below (HB1.out.mono hB)) (fun x _ => by simpa using busLat_any x _)).mono ?_; rw [HL2.out]; rintro e w2 ⟨rfl, hw⟩; subst hw)
        | (go_at_call 69; refine (hasProg_any 70 #[] (callable_of Try.func70 (by kernel_rfl) (by kernel_rfl)) (fun p => !progOk p) _ pss B _ (HP.out.below (HB1.out.mono hB)) (Nat.le_trans hB HB1.out.size) (fun r u' w1 hb hu' => by simpa using busProg_any r u' B w1 hu' (Nat.le_trans (Nat.le_trans hB HB1.out.size) hb.size))).mono ?_; unfold HasPP; rw [HP2.out]; rintro e w2 ⟨rfl, hb⟩; have HB2 := hid (HB1.out.trans (hb.mono HB1.out.size)); clear hb))
      go_ret
      exact ⟨rfl, HB2.out⟩
  case inl =>
    rw [hy]
    have H1 := hid h1
    clear h1 hy
    go_enter Try.func14, Try.ntmps14
    go_wp2_with (first
      | (go_at_call 65; refine (implMapOk_any _ ms B _ (HM.out.below ((HB.out _).mono hB)) (Nat.le_trans hB (HB.out _).size)).mono ?_; rw [H1.out]; rintro e w1 ⟨rfl, hb⟩; have HS1 := hid ((HS.out _).below hb (by simp)); obtain ⟨⟨c0, c1, c2⟩, _⟩ := HS1.out.three; have HB1 := hid ((HB.out _).trans (hb.mono (by simp))); clear hb))
    go_ret
    exact ⟨rfl, HB1.out⟩
  case inr.inl =>
    rw [hy]
    have H1 := hid h1
    have q2 : ((lat.length : Int) == 4) = false := by simp; omega
    clear h1 h2 hy
    go_enter Try.func14, Try.ntmps14
    go_wp2_with (first
      | (go_at_call 65; refine (implMapOk_any _ ms B _ (HM.out.below ((HB.out _).mono hB)) (Nat.le_trans hB (HB.out _).size)).mono ?_; rw [H1.out]; rintro e w1 ⟨rfl, hb⟩; have HS1 := hid ((HS.out _).below hb (by simp)); obtain ⟨⟨c0, c1, c2⟩, _⟩ := HS1.out.three; have HB1 := hid ((HB.out _).trans (hb.mono (by simp))); clear hb))
    go_ret
    exact ⟨rfl, HB1.out⟩
  case inr.inr.inl =>
    rw [hy]
    have H1 := hid h1
    rw [h3] at HL2
    have q2 : ((lat.length : Int) == 4) = true := by simp; omega
    clear h1 h2 h3 hy
    go_enter Try.func14, Try.ntmps14
    go_wp2_with (first
      | (go_at_call 65; refine (implMapOk_any _ ms B _ (HM.out.below ((HB.out _).mono hB)) (Nat.le_trans hB (HB.out _).size)).mono ?_; rw [H1.out]; rintro e w1 ⟨rfl, hb⟩; have HS1 := hid ((HS.out _).below hb (by simp)); obtain ⟨⟨c0, c1, c2⟩, _⟩ := HS1.out.three; have HB1 := hid ((HB.out _).trans (hb.mono (by simp))); clear hb)
      | (go_at_call 66; refine (hasInt_any 67 #[] (callable_of Try.func67 (by kernel_rfl) (by kernel_rfl)) (fun n => !inB n 0 3) _ lat B _ (HL.out.below (HB1.out.mono hB)) (fun x _ => by simpa using busLat_any x _)).mono ?_; rw [HL2.out]; rintro e w2 ⟨rfl, hw⟩; subst hw))
    go_ret
    exact ⟨rfl, HB1.out⟩
  case inr.inr.inr.inl =>
    rw [hy]
    have H1 := hid h1
    rw [h3] at HL2
    have q2 : ((lat.length : Int) == 4) = true := by simp; omega
    have q4 : ((pss.length : Int) == 3) = false := by simp; omega
    clear h1 h2 h3 h4 hy
    go_enter Try.func14, Try.ntmps14
    go_wp2_with (first
      | (go_at_call 65; refine (implMapOk_any _ ms B _ (HM.out.below ((HB.out _).mono hB)) (Nat.le_trans hB (HB.out _).size)).mono ?_; rw [H1.out]; rintro e w1 ⟨rfl, hb⟩; have HS1 := hid ((HS.out _).below hb (by simp)); obtain ⟨⟨c0, c1, c2⟩, _⟩ := HS1.out.three; have HB1 := hid ((HB.out _).trans (hb.mono (by simp))); clear hb)
      | (go_at_call 66; refine (hasInt_any 67 #[] (callable_of Try.func67 (by kernel_rfl) (by kernel_rfl)) (fun n => !inB n 0 3) _ lat B _ (HL.out.below (HB1.out.mono hB)) (fun x _ => by simpa using busLat_any x _)).mono ?_; rw [HL2.out]; rintro e w2 ⟨rfl, hw⟩; subst hw))
    go_ret
    exact ⟨rfl, HB1.out⟩

end Go.Proofs.Yteamebdehembgaa
