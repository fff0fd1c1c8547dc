/-
  slices.IndexFunc and slices.ContainsFunc over ints, at whatever function value that answers by a plain test.
-/
import Derived.Test.YtjcpnlnajimjaaaPure
import Derived.Test.YtjcpnlnajimjaaaW2
namespace Go.Proofs.Ytjcpnlnajimjaaa
open Go.RowKit

/-- Function K of the program has a body and is no entry of the runtime's. -/
def Callable (K : FuncId) : Prop := ∀ (args : Array Value) (w : World), (callFunc K args).run Try.prog w = .ok (.enter K args) w

theorem callable_of {K : FuncId} {fn : Func} (h : Try.prog.funcs[K]? = some fn) (hn : (fn.name == "runtime.NumGoroutine") = false) (hb : fn.body.isNone = false) : Callable K := by
  intro args w
  have hn' : ¬ fn.name = "runtime.NumGoroutine" := by simpa using hn
  have hb' : ¬ fn.body = none := by intro h'; rw [h'] at hb; simp at hb
  simp [callFunc, h, hn', hb', go_sem]

def idxP {α : Type} (p : α → Bool) (xs : List α) : Int := match xs.findIdx? p with | some k => k | none => -1
theorem idxP_hit {α : Type} (p : α → Bool) (xs : List α) (k : Nat) (d : α) (hk : k < xs.length) (h : p (xs.getD k d) = true) (hno : ∀ j, j < k → p (xs.getD j d) = false) : idxP p xs = k := by
  have : xs.findIdx? p = some k := by
    rw [List.findIdx?_eq_some_iff_getElem]
    refine ⟨hk, by simpa [List.getD, hk] using h, fun j hj => ?_⟩
    have hj2 : j < xs.length := by omega
    have := hno j hj
    simp [List.getD, hj2] at this
    simp [this]
  simp [idxP, this]
theorem idxP_miss {α : Type} (p : α → Bool) (xs : List α) (d : α) (hno : ∀ j, j < xs.length → p (xs.getD j d) = false) : idxP p xs = -1 := by
  have : xs.findIdx? p = none := by
    rw [List.findIdx?_eq_none_iff]
    intro x hx
    obtain ⟨i, hi, rfl⟩ := List.mem_iff_getElem.1 hx
    have := hno i hi
    simpa [List.getD, hi] using this
  simp [idxP, this]
theorem idxP_any {α : Type} (p : α → Bool) (xs : List α) : decide (0 ≤ idxP p xs) = xs.any p := by
  unfold idxP
  rcases h : xs.findIdx? p with _ | k
  · rw [List.findIdx?_eq_none_iff] at h
    simp only [Int.reduceNeg, Int.reduceLE, decide_false]
    symm; rw [List.any_eq_false]; intro x hx; simp [h x hx]
  · rw [List.findIdx?_eq_some_iff_getElem] at h
    obtain ⟨hk, h1, _⟩ := h
    simp only [Int.natCast_nonneg, decide_true]
    symm; rw [List.any_eq_true]; exact ⟨_, List.getElem_mem hk, h1⟩

set_option maxHeartbeats 1000000 in
theorem idxInt_any (K : FuncId) (cap : Array Value) (hK : Callable K) (p : Int → Bool) (v : Value) (xs : List Int) (B : Nat) (w : World) (hv : Ints w B v xs)
    (hf : ∀ x, I64 x → Calls Try.prog K (#[.int .i64 x] ++ cap) w fun e w' => e = .returned (.bool (p x)) ∧ w = w') :
    Calls Try.prog 39 #[v, .func (.func K) #[] cap] w fun e w' => e = .returned (.int .i64 (idxP p xs)) ∧ w = w' := by
  obtain ⟨ao, cap', rfl, hlc, hcap, hln, hni, hr⟩ := hv.opened
  have HV := hid hv; clear hv
  have HF := hid hf; clear hf
  have hK2 := fun args w => hK args w
  go_enter Try.func39, Try.ntmps39
  go_wp2_with fail
  go_loop [8] (fun i => ∃ k : Nat, k ≤ xs.length ∧ i = .int .i64 k ∧ ∀ j, j < k → p (xs.getD j 0) = false) (fun i => xs.length - (intOf i).toNat)
  case atStart => exact ⟨0, Nat.zero_le _, rfl, by simp⟩
  case round =>
    obtain ⟨k, hk, rfl, hno⟩ := hrel
    have HN := hid hno; clear hno
    by_cases hlt : k < xs.length
    · obtain ⟨b, off, rfl, hb, hc⟩ := hr (by omega)
      have hck := hc k hlt
      have hx64 : I64 (xs.getD k 0) := HV.out.2 _ (by simp [List.getD, hlt])
      obtain ⟨x, hx⟩ : ∃ x, x = xs.getD k 0 := ⟨_, rfl⟩
      rw [← hx] at hck hx64
      have HX := hid hx; have HI := hid hx64; clear hx hc hr hx64
      go_wp2_with fail
      refine (HF.out x HI.out).mono ?_
      rintro e w' ⟨rfl, rfl⟩
      rcases hp : p x with _ | _
      · have HQ := hid (all_step HN.out (show p (xs.getD k 0) = false by rw [← HX.out]; exact hp))
        go_wp2_with fail
        go_round
        case rel => exact ⟨k + 1, by omega, by go_num, HQ.out⟩
        case measure => simp [intOf]; omega
      · have HQ := hid (idxP_hit p xs k 0 hlt (by rw [← HX.out]; exact hp) HN.out)
        go_wp2_with fail
        go_ret
        exact ⟨by rw [HQ.out]; rfl, rfl⟩
    · have HF2 := hid (idxP_miss p xs 0 (fun j hj => HN.out j (by omega)))
      go_wp2_with fail
      go_ret
      exact ⟨by rw [HF2.out]; rfl, rfl⟩

set_option maxHeartbeats 1000000 in
theorem hasInt_any (K : FuncId) (cap : Array Value) (hK : Callable K) (p : Int → Bool) (v : Value) (xs : List Int) (B : Nat) (w : World) (hv : Ints w B v xs)
    (hf : ∀ x, I64 x → Calls Try.prog K (#[.int .i64 x] ++ cap) w fun e w' => e = .returned (.bool (p x)) ∧ w = w') :
    Calls Try.prog 37 #[v, .func (.func K) #[] cap] w fun e w' => e = .returned (.bool (xs.any p)) ∧ w = w' := by
  have HA := hid (idxP_any p xs)
  obtain ⟨y, hy⟩ : ∃ y, y = xs.any p := ⟨_, rfl⟩
  rw [← hy] at HA ⊢
  clear hy
  go_enter Try.func37, Try.ntmps37
  go_wp2_with fail
  refine (idxInt_any K cap hK p v xs B _ hv hf).mono ?_
  rintro e w' ⟨rfl, rfl⟩
  go_wp2_with fail
  go_ret
  exact ⟨by rw [← HA.out]; rfl, rfl⟩

end Go.Proofs.Ytjcpnlnajimjaaa
