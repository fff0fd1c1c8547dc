/-
  slices.IndexFunc and slices.ContainsFunc over ints, at whatever function value that answers by a plain test.
-/
import Derived.Test.YteamebdehembgaaKLib
import Derived.BigQuiet
import Derived.BigGuardPart
import Derived.Deep.QuietTactic
set_option linter.unusedVariables false
set_option linter.unusedSimpArgs false
namespace Go.Proofs.Yteamebdehembgaa
open Go.RowKit

def inB (n lo hi : Int) : Bool := decide (lo ≤ n) && decide (n ≤ hi)

set_option maxHeartbeats 400000 in
theorem in_any (n lo hi : Int) (w : World) :
    Calls Try.prog 68 #[.int .i64 n, .int .i64 lo, .int .i64 hi] w fun e w' => e = .returned (.bool (inB n lo hi)) ∧ w = w' := by
  by_cases h1 : lo ≤ n
  all_goals
    go_enter Try.func68, Try.ntmps68
    go_wp2
    go_ret
    exact ⟨by simp [inB, h1]; try omega, rfl⟩
set_option maxHeartbeats 400000 in
theorem l1In_any (n lo hi : Int) (w : World) :
    Calls Try.prog 60 #[.int .i64 n, .int .i64 lo, .int .i64 hi] w fun e w' => e = .returned (.bool (inB n lo hi)) ∧ w = w' := by
  by_cases h1 : lo ≤ n
  all_goals
    go_enter Try.func60, Try.ntmps60
    go_wp2
    go_ret
    exact ⟨by simp [inB, h1]; try omega, rfl⟩

def arbAt (m n k : Nat) : Nat := (m + (k + 1)) % n
def arb (last : Int) (asks : List Bool) : Int :=
  if inB last 0 (asks.length - 1) = true then
    match (List.range asks.length).find? (fun k => asks.getD (arbAt last.toNat asks.length k) false) with
    | some k => arbAt last.toNat asks.length k
    | none => -1
  else -1

theorem arb_hit (m k : Nat) (asks : List Bool) (hi : inB m 0 (asks.length - 1) = true) (hk : k < asks.length) (h1 : ∀ j, j < k → asks.getD (arbAt m asks.length j) false = false)
    (h2 : asks.getD ((m + (k + 1)) % asks.length) false = true) : arb (m : Int) asks = ((m + (k + 1)) % asks.length : Nat) := by
  unfold arb
  have : (List.range asks.length).find? (fun k => asks.getD (arbAt (m : Int).toNat asks.length k) false) = some k := by
    rw [List.find?_range_eq_some]
    exact ⟨h2, by simpa using hk, fun j hj => by have := h1 j hj; simp only [Int.toNat_natCast]; rw [this]; rfl⟩
  rw [if_pos hi, this]; simp [arbAt]
theorem arb_miss (m k : Nat) (asks : List Bool) (hi : inB m 0 (asks.length - 1) = true) (hk : ¬ k < asks.length) (h1 : ∀ j, j < k → asks.getD (arbAt m asks.length j) false = false) : arb (m : Int) asks = -1 := by
  unfold arb
  have : (List.range asks.length).find? (fun k => asks.getD (arbAt (m : Int).toNat asks.length k) false) = none := by
    rw [List.find?_range_eq_none]
    exact fun j hj => by have := h1 j (by omega); simp only [Int.toNat_natCast]; rw [this]; rfl
  rw [if_pos hi, this]
theorem arb_step {m k n : Nat} {asks : List Bool} (h1 : ∀ j, j < k → asks.getD (arbAt m n j) false = false) (h2 : asks.getD ((m + (k + 1)) % n) false = false) : ∀ j, j < k + 1 → asks.getD (arbAt m n j) false = false := by
  intro j hj
  rcases Nat.lt_succ_iff_lt_or_eq.1 hj with h | h
  · exact h1 j h
  · subst h; exact h2
theorem arb_out {last : Int} {asks : List Bool} (hi : inB last 0 (asks.length - 1) = false) : arb last asks = -1 := by
  unfold arb; rw [if_neg (by simp [hi])]

theorem eq_of_all {α : Type} [BEq α] [LawfulBEq α] {xs ys : List α} {d : α} (hl : xs.length = ys.length) (h : ∀ j, j < xs.length → xs.getD j d = ys.getD j d) : (xs == ys) = true := by
  rw [beq_iff_eq]
  refine List.ext_getElem hl fun i h1 h2 => ?_
  have := h i h1
  simpa [List.getD, h1, h2] using this
theorem ne_of_one {α : Type} [BEq α] [LawfulBEq α] {xs ys : List α} {d : α} {j : Nat} (h : xs.getD j d ≠ ys.getD j d) : (xs == ys) = false := by
  rw [beq_eq_false_iff_ne]; rintro rfl; exact h rfl
theorem ne_of_len {α : Type} [BEq α] [LawfulBEq α] {xs ys : List α} (h : xs.length ≠ ys.length) : (xs == ys) = false := by
  rw [beq_eq_false_iff_ne]; rintro rfl; exact h rfl
theorem all_step {k : Nat} {P : Nat → Prop} (h1 : ∀ j, j < k → P j) (h2 : P k) : ∀ j, j < k + 1 → P j := by
  intro j hj
  rcases Nat.lt_succ_iff_lt_or_eq.1 hj with h | h
  · exact h1 j h
  · subst h; exact h2

end Go.Proofs.Yteamebdehembgaa

namespace Go.Proofs.Yteamebdehembgaa

structure MR where
  fr : Int
  to : Int
  sl : Int
  only : Bool
deriving Inhabited

structure Rq where
  id : Int
  kind : Int
  addr : Int
  many : Int
  wrap : Bool
  data : List Int
  lanes : List Int
deriving Inhabited

structure Rs where
  id : Int
  code : Int
  data : List Int
deriving Inhabited

def rangeOk (ms : List MR) (k : Nat) : Bool :=
  let r := ms.getD k default
  inB r.fr 0 r.to && decide (r.to ≤ 63) && inB r.sl 0 2 && (ms.take k).all (fun q => !(decide (r.fr ≤ q.to) && decide (q.fr ≤ r.to)))
def mapOk (ms : List MR) : Bool := decide (ms.length ≤ 4) && (List.range ms.length).all (rangeOk ms)

/-- The place of the first range with an address; -1, if there is none. -/
def rngOf (ms : List MR) (a : Int) : Int := match ms.findIdx? (fun r => inB a r.fr r.to) with | some k => k | none => -1

def adrOk (a m : Int) (wrap : Bool) : Bool := inB a 0 63 && (m == 1 || m == 2 || m == 4) && (wrap || decide (a + m - 1 ≤ 63))
def burst (a m : Int) (wrap : Bool) : List Int :=
  if adrOk a m wrap = true then (List.range m.toNat).map (fun (k : Nat) => if wrap then a - a % m + (a + (k : Int)) % m else a + (k : Int)) else []

def wholeOf (ms : List MR) (all : List Int) : Int :=
  match all with
  | [] => -1
  | a :: rest => if rest.all (fun b => rngOf ms b == rngOf ms a) then rngOf ms a else -1

def wordOk (n : Int) : Bool := inB n 0 65535
def memOk (ws : List Int) : Bool := ws.length == 64 && ws.all wordOk
def atmOk (ws hs : List Int) : Bool := memOk ws && hs.length == 6 && hs.all (fun h => inB h (-1) 63)

def rqWrites (r : Rq) : Bool := r.kind == 2 || r.kind == 4
def reqOk (r : Rq) : Bool :=
  inB r.id 0 1 && inB r.kind 1 4 && adrOk r.addr r.many r.wrap && (r.kind == 1 || r.kind == 2 || r.many == 1) &&
    (if rqWrites r then ((r.data.length : Int) == r.many) && ((r.lanes.length : Int) == r.many) && r.data.all wordOk && r.lanes.all (fun l => inB l 0 3)
     else r.data.length == 0 && r.lanes.length == 0)
def rqBurst (r : Rq) : List Int := burst r.addr r.many r.wrap
def slaveOf (ms : List MR) (r : Rq) : Int := if wholeOf ms (rqBurst r) < 0 then 3 else (ms.getD (wholeOf ms (rqBurst r)).toNat default).sl
def rspOk (x : Rs) : Bool := inB x.id 0 1 && inB x.code 1 4 && decide (x.data.length ≤ 4) && x.data.all wordOk

/-- A word with lanes of another one. -/
def putW (old new lanes : Int) : Int :=
  (if lanes / 2 = 1 then new / 256 else old / 256) * 256 + (if lanes % 2 = 1 then new % 256 else old % 256)
def wrdPut (old new lanes : Int) : Int := if wordOk old && wordOk new && inB lanes 0 3 then putW old new lanes else -1

/-- Words at addresses, one behind the other. -/
def putAll (ws : List Int) : List Int → List Int → List Int → List Int
  | a :: rest, d :: ds, l :: ls => putAll (ws.set a.toNat (putW (ws.getD a.toNat 0) d l)) rest ds ls
  | _, _, _ => ws
def getAll (ws : List Int) (all : List Int) : List Int := all.map fun a => ws.getD a.toNat 0
def freeAll (hs : List Int) (all : List Int) : List Int := hs.map fun h => if all.contains h then -1 else h

/-- One thing at once, of what is ok. -/
def doReq (ms : List MR) (ws hs : List Int) (who : Int) (r : Rq) : List Int × List Int × Rs :=
  let all := rqBurst r
  let k := wholeOf ms all
  let at_ := (who * 2 + r.id).toNat
  if k < 0 then (ws, hs, ⟨r.id, 4, []⟩)
  else if rqWrites r && (ms.getD k.toNat default).only then (ws, hs, ⟨r.id, 3, []⟩)
  else if r.kind == 1 then (ws, hs, ⟨r.id, 1, getAll ws all⟩)
  else if r.kind == 3 then (ws, hs.set at_ r.addr, ⟨r.id, 2, getAll ws all⟩)
  else if r.kind == 4 && !(hs.getD at_ 0 == r.addr) then (ws, hs, ⟨r.id, 1, []⟩)
  else (putAll ws all r.data r.lanes, freeAll hs all, ⟨r.id, if r.kind == 4 then 2 else 1, []⟩)

end Go.Proofs.Yteamebdehembgaa

namespace Go.Proofs.Yteamebdehembgaa
open Go.RowKit

theorem infoI : (Try.prog.info? 3).map (fun i => (i.zero, i.size, i.bytes)) = some (some (.int .i64 0), 1, 8) := by kernel_rfl
theorem own_ints {w : World} {base : Nat} {u : Value} {xs : List Int} (h : w.ownsRow base 3 1 u xs.length (xs.map (Value.int .i64))) (hn : xs.length ≤ 140737488351232) (hx : ∀ x ∈ xs, I64 x) : Ints w w.heap.size u xs :=
  ⟨ownsRow_arr h (by simp) hn (fun t ht j hj => by
    obtain rfl : j = 0 := by omega
    simp [rowI, ht]), hx⟩
theorem ints_push {w : World} {base : Nat} {v : Value} {xs : List Int} {x : Int} (h : w.ownsRow base 3 1 v (xs.length + 1) (xs.map (Value.int .i64) ++ [.int .i64 x])) : w.ownsRow base 3 1 v (xs ++ [x]).length ((xs ++ [x]).map (Value.int .i64)) := by
  simpa using h

end Go.Proofs.Yteamebdehembgaa

namespace Go.Proofs.Yteamebdehembgaa
open Go.RowKit

/-- Function K of the program has a body and is no entry of the runtime's. -/
def Callable (K : FuncId) : Prop := ∀ (args : Array Value) (w : World), (callFunc K args).run Try.prog w = .ok (.enter K args) w

theorem callable_of {K : FuncId} {fn : Func} (h : Try.prog.funcs[K]? = some fn) (hn : (fn.name == "runtime.NumGoroutine") = false) (hb : fn.body.isNone = false) : Callable K := by
  intro args w
  have hn' : ¬ fn.name = "runtime.NumGoroutine" := by simpa using hn
  have hb' : ¬ fn.body = none := by intro h'; rw [h'] at hb; simp at hb
  simp [callFunc, h, hn', hb', go_sem]

def idxP {α : Type} (p : α → Bool) (xs : List α) : Int := match xs.findIdx? p with | some k => k | none => -1
theorem idxP_hit {α : Type} (p : α → Bool) (xs : List α) (k : Nat) (d : α) (hk : k < xs.length) (h : p (xs.getD k d) = true) (hno : ∀ j, j < k → p (xs.getD j d) = false) : idxP p xs = k := by
  have : xs.findIdx? p = some k := by
    rw [List.findIdx?_eq_some_iff_getElem]
    refine ⟨hk, by simpa [List.getD, hk] using h, fun j hj => ?_⟩
    have hj2 : j < xs.length := by omega
    have := hno j hj
    simp [List.getD, hj2] at this
    simp [this]
  simp [idxP, this]
theorem idxP_miss {α : Type} (p : α → Bool) (xs : List α) (d : α) (hno : ∀ j, j < xs.length → p (xs.getD j d) = false) : idxP p xs = -1 := by
  have : xs.findIdx? p = none := by
    rw [List.findIdx?_eq_none_iff]
    intro x hx
    obtain ⟨i, hi, rfl⟩ := List.mem_iff_getElem.1 hx
    have := hno i hi
    simpa [List.getD, hi] using this
  simp [idxP, this]
theorem idxP_any {α : Type} (p : α → Bool) (xs : List α) : decide (0 ≤ idxP p xs) = xs.any p := by
  unfold idxP
  rcases h : xs.findIdx? p with _ | k
  · rw [List.findIdx?_eq_none_iff] at h
    simp only [Int.reduceNeg, Int.reduceLE, decide_false]
    symm; rw [List.any_eq_false]; intro x hx; simp [h x hx]
  · rw [List.findIdx?_eq_some_iff_getElem] at h
    obtain ⟨hk, h1, _⟩ := h
    simp only [Int.natCast_nonneg, decide_true]
    symm; rw [List.any_eq_true]; exact ⟨_, List.getElem_mem hk, h1⟩

set_option maxHeartbeats 1000000 in
theorem idxInt_any (K : FuncId) (cap : Array Value) (hK : Callable K) (p : Int → Bool) (v : Value) (xs : List Int) (B : Nat) (w : World) (hv : Ints w B v xs)
    (hf : ∀ x, I64 x → Calls Try.prog K (#[.int .i64 x] ++ cap) w fun e w' => e = .returned (.bool (p x)) ∧ w = w') :
    Calls Try.prog 124 #[v, .func (.func K) #[] cap] w fun e w' => e = .returned (.int .i64 (idxP p xs)) ∧ w = w' := by
  obtain ⟨ao, cap', rfl, hlc, hcap, hln, hni, hr⟩ := hv.opened
  have HV := hid hv; clear hv
  have HF := hid hf; clear hf
  have hK2 := fun args w => hK args w
  go_enter Try.func124, Try.ntmps124
  go_wp2_with fail
  go_loop [8] (fun i => ∃ k : Nat, k ≤ xs.length ∧ i = .int .i64 k ∧ ∀ j, j < k → p (xs.getD j 0) = false) (fun i => xs.length - (intOf i).toNat)
  case atStart => exact ⟨0, Nat.zero_le _, rfl, by simp⟩
  case round =>
    obtain ⟨k, hk, rfl, hno⟩ := hrel
    have HN := hid hno; clear hno
    by_cases hlt : k < xs.length
    · obtain ⟨b, off, rfl, hb, hc⟩ := hr (by omega)
      have hck := hc k hlt
      have hx64 : I64 (xs.getD k 0) := HV.out.2 _ (by simp [List.getD, hlt])
      obtain ⟨x, hx⟩ : ∃ x, x = xs.getD k 0 := ⟨_, rfl⟩
      rw [← hx] at hck hx64
      have HX := hid hx; have HI := hid hx64; clear hx hc hr hx64
      go_wp2_with fail
      refine (HF.out x HI.out).mono ?_
      rintro e w' ⟨rfl, rfl⟩
      rcases hp : p x with _ | _
      · have HQ := hid (all_step HN.out (show p (xs.getD k 0) = false by rw [← HX.out]; exact hp))
        go_wp2_with fail
        go_round
        case rel => exact ⟨k + 1, by omega, by go_num, HQ.out⟩
        case measure => simp [intOf]; omega
      · have HQ := hid (idxP_hit p xs k 0 hlt (by rw [← HX.out]; exact hp) HN.out)
        go_wp2_with fail
        go_ret
        exact ⟨by rw [HQ.out]; rfl, rfl⟩
    · have HF2 := hid (idxP_miss p xs 0 (fun j hj => HN.out j (by omega)))
      go_wp2_with fail
      go_ret
      exact ⟨by rw [HF2.out]; rfl, rfl⟩

set_option maxHeartbeats 1000000 in
theorem hasInt_any (K : FuncId) (cap : Array Value) (hK : Callable K) (p : Int → Bool) (v : Value) (xs : List Int) (B : Nat) (w : World) (hv : Ints w B v xs)
    (hf : ∀ x, I64 x → Calls Try.prog K (#[.int .i64 x] ++ cap) w fun e w' => e = .returned (.bool (p x)) ∧ w = w') :
    Calls Try.prog 66 #[v, .func (.func K) #[] cap] w fun e w' => e = .returned (.bool (xs.any p)) ∧ w = w' := by
  have HA := hid (idxP_any p xs)
  obtain ⟨y, hy⟩ : ∃ y, y = xs.any p := ⟨_, rfl⟩
  rw [← hy] at HA ⊢
  clear hy
  go_enter Try.func66, Try.ntmps66
  go_wp2_with fail
  refine (idxInt_any K cap hK p v xs B _ hv hf).mono ?_
  rintro e w' ⟨rfl, rfl⟩
  go_wp2_with fail
  go_ret
  exact ⟨by rw [← HA.out]; rfl, rfl⟩

end Go.Proofs.Yteamebdehembgaa
