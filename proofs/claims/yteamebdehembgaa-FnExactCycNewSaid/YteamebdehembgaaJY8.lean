/-
  The exact laws' helpers: two buses that are the same; ports and stores, held.
-/
import Derived.Test.YteamebdehembgaaJY2
import Derived.Test.YteamebdehembgaaJXs
import Derived.Test.YteamebdehembgaaJY6
import Derived.Test.YteamebdehembgaaJXt
set_option linter.unusedVariables false
set_option linter.unusedSimpArgs false
namespace Go.Proofs.Yteamebdehembgaa
open Go.RowKit

def TrueP (w : World) (e : Ending) (w' : World) : Prop := e = .returned (.bool true) ∧ w = w'
def SameP (m : Int) (w : World) (e : Ending) (w' : World) : Prop := e = .returned (.int .i64 m) ∧ w = w'

set_option maxHeartbeats 1000000 in
theorem eqIntS_nil (w : World) : Calls Try.prog 92 #[vnil, vnil] w (TrueP w) := by
  go_enter Try.func92, Try.ntmps92
  go_wp2_with fail
  go_loop [5] (fun i => i = .int .i64 0) (fun _ => 0)
  case atStart => rfl
  case round =>
    subst hrel
    go_wp2_with fail
    go_ret
    exact ⟨rfl, rfl⟩

set_option maxHeartbeats 1000000 in
theorem eqCycJobS_nil (w : World) : Calls Try.prog 177 #[vnil, vnil] w (TrueP w) := by
  go_enter Try.func177, Try.ntmps177
  go_wp2_with fail
  go_loop [5] (fun i => i = .int .i64 0) (fun _ => 0)
  case atStart => rfl
  case round =>
    subst hrel
    go_wp2_with fail
    go_ret
    exact ⟨rfl, rfl⟩

set_option maxHeartbeats 1000000 in
theorem eqTlmJobS_nil (w : World) : Calls Try.prog 81 #[vnil, vnil] w (TrueP w) := by
  go_enter Try.func81, Try.ntmps81
  go_wp2_with fail
  go_loop [5] (fun i => i = .int .i64 0) (fun _ => 0)
  case atStart => rfl
  case round =>
    subst hrel
    go_wp2_with fail
    go_ret
    exact ⟨rfl, rfl⟩

set_option maxHeartbeats 1000000 in
theorem markIntS_nil (m : Int) (w : World) : Calls Try.prog 94 #[vnil, .int .i64 m] w (SameP m w) := by
  go_enter Try.func94, Try.ntmps94
  go_wp2_with fail
  go_loop [1, 5] (fun m' i => m' = .int .i64 m ∧ i = .int .i64 0) (fun _ _ => 0)
  case atStart => exact ⟨rfl, rfl⟩
  case round =>
    obtain ⟨rfl, rfl⟩ := hrel
    go_wp2_with fail
    go_ret
    exact ⟨rfl, rfl⟩

set_option maxHeartbeats 1000000 in
theorem markCycJobS_nil (m : Int) (w : World) : Calls Try.prog 141 #[vnil, .int .i64 m] w (SameP m w) := by
  go_enter Try.func141, Try.ntmps141
  go_wp2_with fail
  go_loop [1, 5] (fun m' i => m' = .int .i64 m ∧ i = .int .i64 0) (fun _ _ => 0)
  case atStart => exact ⟨rfl, rfl⟩
  case round =>
    obtain ⟨rfl, rfl⟩ := hrel
    go_wp2_with fail
    go_ret
    exact ⟨rfl, rfl⟩

set_option maxHeartbeats 1000000 in
theorem markTlmJobS_nil (m : Int) (w : World) : Calls Try.prog 84 #[vnil, .int .i64 m] w (SameP m w) := by
  go_enter Try.func84, Try.ntmps84
  go_wp2_with fail
  go_loop [1, 5] (fun m' i => m' = .int .i64 m ∧ i = .int .i64 0) (fun _ _ => 0)
  case atStart => exact ⟨rfl, rfl⟩
  case round =>
    obtain ⟨rfl, rfl⟩ := hrel
    go_wp2_with fail
    go_ret
    exact ⟨rfl, rfl⟩

set_option maxHeartbeats 1000000 in
theorem heldIntS_nil (m : Int) (w : World) : Calls Try.prog 97 #[vnil, .int .i64 m] w (SameP m w) := by
  go_enter Try.func97, Try.ntmps97
  go_wp2_with fail
  go_loop [1, 5] (fun m' i => m' = .int .i64 m ∧ i = .int .i64 0) (fun _ _ => 0)
  case atStart => exact ⟨rfl, rfl⟩
  case round =>
    obtain ⟨rfl, rfl⟩ := hrel
    go_wp2_with fail
    go_ret
    exact ⟨rfl, rfl⟩

set_option maxHeartbeats 1000000 in
theorem heldCycJobS_nil (m : Int) (w : World) : Calls Try.prog 142 #[vnil, .int .i64 m] w (SameP m w) := by
  go_enter Try.func142, Try.ntmps142
  go_wp2_with fail
  go_loop [1, 5] (fun m' i => m' = .int .i64 m ∧ i = .int .i64 0) (fun _ _ => 0)
  case atStart => exact ⟨rfl, rfl⟩
  case round =>
    obtain ⟨rfl, rfl⟩ := hrel
    go_wp2_with fail
    go_ret
    exact ⟨rfl, rfl⟩

set_option maxHeartbeats 1000000 in
theorem heldTlmJobS_nil (m : Int) (w : World) : Calls Try.prog 87 #[vnil, .int .i64 m] w (SameP m w) := by
  go_enter Try.func87, Try.ntmps87
  go_wp2_with fail
  go_loop [1, 5] (fun m' i => m' = .int .i64 m ∧ i = .int .i64 0) (fun _ _ => 0)
  case atStart => exact ⟨rfl, rfl⟩
  case round =>
    obtain ⟨rfl, rfl⟩ := hrel
    go_wp2_with fail
    go_ret
    exact ⟨rfl, rfl⟩

set_option maxHeartbeats 2000000 in
theorem eqPort_same (x : Int × Int) (w : World) : Calls Try.prog 138 #[.agg #[.int .i64 x.1, vnil, vnil, .int .i64 x.2], .agg #[.int .i64 x.1, vnil, vnil, .int .i64 x.2]] w fun e w' => e = .returned (.bool true) ∧ Below w.heap.size w w' := by
  obtain ⟨a, b⟩ := x
  have q1 : (a != a) = false := by simp
  have q2 : (b != b) = false := by simp
  have HB := hid (fun o p => bx2 w o p)
  go_enter Try.func138, Try.ntmps138
  go_wp2_with (first
    | (go_at_call 92; (with_reducible refine (eqIntS_nil _).mono ?_); rintro e w1 ⟨rfl, hw⟩; subst hw)
    | (go_at_call 177; (with_reducible refine (eqCycJobS_nil _).mono ?_); rintro e w1 ⟨rfl, hw⟩; subst hw))
  go_ret
  exact ⟨rfl, HB.out _ _⟩
set_option maxHeartbeats 2000000 in
theorem eqSlave_same (x : Int) (w : World) : Calls Try.prog 139 #[.agg #[vnil, vnil, .int .i64 x], .agg #[vnil, vnil, .int .i64 x]] w fun e w' => e = .returned (.bool true) ∧ Below w.heap.size w w' := by
  have q1 : (x != x) = false := by simp
  have HB := hid (fun o p => bx2 w o p)
  go_enter Try.func139, Try.ntmps139
  go_wp2_with (first
    | (go_at_call 177; (with_reducible refine (eqCycJobS_nil _).mono ?_); rintro e w1 ⟨rfl, hw⟩; subst hw)
    | (go_at_call 81; (with_reducible refine (eqTlmJobS_nil _).mono ?_); rintro e w1 ⟨rfl, hw⟩; subst hw))
  go_ret
  exact ⟨rfl, HB.out _ _⟩
theorem ports_get {w : World} {lo g o n c : Nat} {ps : List (Int × Int)} (h : Owns w lo 116 4 rowP (.slice (some ⟨g, o, none⟩) n c) ps) (k : Nat) (hk : k < ps.length) :
    w.cell? ⟨g, o + k * 4, none⟩ = some (.int .i64 (ps.getD k (0, 0)).1) ∧ w.cell? ⟨g, o + k * 4 + 1, none⟩ = some vnil ∧ w.cell? ⟨g, o + k * 4 + 2, none⟩ = some vnil ∧ w.cell? ⟨g, o + k * 4 + 3, none⟩ = some (.int .i64 (ps.getD k (0, 0)).2) :=
  ⟨h.cellAt rowP_len k 0 (0, 0) hk (by omega), h.cellAt rowP_len k 1 (0, 0) hk (by omega), h.cellAt rowP_len k 2 (0, 0) hk (by omega), h.cellAt rowP_len k 3 (0, 0) hk (by omega)⟩
theorem slaves_get {w : World} {lo g o n c : Nat} {ss : List Int} (h : Owns w lo 118 3 rowS (.slice (some ⟨g, o, none⟩) n c) ss) (k : Nat) (hk : k < ss.length) :
    w.cell? ⟨g, o + k * 3, none⟩ = some vnil ∧ w.cell? ⟨g, o + k * 3 + 1, none⟩ = some vnil ∧ w.cell? ⟨g, o + k * 3 + 2, none⟩ = some (.int .i64 (ss.getD k 0)) :=
  ⟨h.cellAt rowS_len k 0 0 hk (by omega), h.cellAt rowS_len k 1 0 hk (by omega), h.cellAt rowS_len k 2 0 hk (by omega)⟩

set_option maxRecDepth 8000 in
set_option maxHeartbeats 8000000 in
theorem eqPorts_same (xs : List (Int × Int)) (n lo1 lo2 g1 o1 c1 g2 o2 c2 : Nat) (w : World) (hn : xs.length = n) (hv : Owns w lo1 116 4 rowP (.slice (some ⟨g1, o1, none⟩) n c1) xs) (hu : Owns w lo2 116 4 rowP (.slice (some ⟨g2, o2, none⟩) n c2) xs) (hm : n ≤ 1048576) (hc1 : n ≤ c1) (hc2 : n ≤ c2) :
    Calls Try.prog 79 #[.slice (some ⟨g1, o1, none⟩) n c1, .slice (some ⟨g2, o2, none⟩) n c2] w fun e w' => e = .returned (.bool true) ∧ Below w.heap.size w w' := by
  have HV := hid hv; have HU := hid hu; have HN := hid hn
  clear hv hu hn
  go_enter Try.func79, Try.ntmps79
  go_wp2_with fail
  go_loopw [5] (fun i wr => ∃ k : Nat, k ≤ n ∧ i = .int .i64 k ∧ Below w.heap.size w wr) (fun i _ => n - (intOf i).toNat)
  case atStart => exact ⟨0, Nat.zero_le _, rfl, by first | exact Below.refl _ _ | exact (Below.refl _ _).drew⟩
  case round =>
    obtain ⟨k, hk, rfl, hbl⟩ := hrel
    have hsz := hbl.size
    by_cases hlt : k < n
    · obtain ⟨c0, c1, c2, c3⟩ := ports_get (HV.out.below hbl) k (by rw [HN.out]; exact hlt)
      obtain ⟨e0, e1, e2, e3⟩ := ports_get (HU.out.below hbl) k (by rw [HN.out]; exact hlt)
      obtain ⟨x, hx⟩ : ∃ x, x = xs.getD k (0, 0) := ⟨_, rfl⟩
      rw [← hx] at c0 e0 c3 e3
      have hg1 : g1 < wr.heap.size := (OwnR.lt (HV.out.below hbl) g1 rfl).2
      have hg2 : g2 < wr.heap.size := (OwnR.lt (HU.out.below hbl) g2 rfl).2
      have HBL := hid hbl.drew
      clear hx hbl
      go_wp2_with fail
      go_region_held3 (fun w' => w'.cell? ⟨g1, o1 + k * 4, none⟩ = some (.int .i64 x.1) ∧ w'.cell? ⟨g1, o1 + k * 4 + 1, none⟩ = some (vnil) ∧ w'.cell? ⟨g1, o1 + k * 4 + 2, none⟩ = some (vnil) ∧ w'.cell? ⟨g1, o1 + k * 4 + 3, none⟩ = some (.int .i64 x.2) ∧ w'.cell? ⟨g2, o2 + k * 4, none⟩ = some (.int .i64 x.1) ∧ w'.cell? ⟨g2, o2 + k * 4 + 1, none⟩ = some (vnil) ∧ w'.cell? ⟨g2, o2 + k * 4 + 2, none⟩ = some (vnil) ∧ w'.cell? ⟨g2, o2 + k * 4 + 3, none⟩ = some (.int .i64 x.2))
        (first | exact s6 | go_keep)
        (first
          | (go_at_call 138; (with_reducible refine (eqPort_same x _).mono ?_); rintro e w2 ⟨rfl, hb3⟩; have s6 : w2.cell? ⟨g1, o1 + k * 4, none⟩ = some (.int .i64 x.1) ∧ w2.cell? ⟨g1, o1 + k * 4 + 1, none⟩ = some (vnil) ∧ w2.cell? ⟨g1, o1 + k * 4 + 2, none⟩ = some (vnil) ∧ w2.cell? ⟨g1, o1 + k * 4 + 3, none⟩ = some (.int .i64 x.2) ∧ w2.cell? ⟨g2, o2 + k * 4, none⟩ = some (.int .i64 x.1) ∧ w2.cell? ⟨g2, o2 + k * 4 + 1, none⟩ = some (vnil) ∧ w2.cell? ⟨g2, o2 + k * 4 + 2, none⟩ = some (vnil) ∧ w2.cell? ⟨g2, o2 + k * 4 + 3, none⟩ = some (.int .i64 x.2) := ⟨(hb3.cell (p := ⟨g1, _, none⟩) hg1).trans c0, (hb3.cell (p := ⟨g1, _, none⟩) hg1).trans c1, (hb3.cell (p := ⟨g1, _, none⟩) hg1).trans c2, (hb3.cell (p := ⟨g1, _, none⟩) hg1).trans c3, (hb3.cell (p := ⟨g2, _, none⟩) hg2).trans e0, (hb3.cell (p := ⟨g2, _, none⟩) hg2).trans e1, (hb3.cell (p := ⟨g2, _, none⟩) hg2).trans e2, (hb3.cell (p := ⟨g2, _, none⟩) hg2).trans e3⟩))
      go_wp2_with fail
      go_roundw
      case rel => exact ⟨k + 1, by omega, by go_num, HBL.out.trans (hb3.mono (by simpa using hsz))⟩
      case measure => simp [intOf]; omega
    · go_wp2_with fail
      go_ret
      exact ⟨rfl, hbl⟩

set_option maxRecDepth 8000 in
set_option maxHeartbeats 8000000 in
theorem eqSlaves_same (xs : List Int) (n lo1 lo2 g1 o1 c1 g2 o2 c2 : Nat) (w : World) (hn : xs.length = n) (hv : Owns w lo1 118 3 rowS (.slice (some ⟨g1, o1, none⟩) n c1) xs) (hu : Owns w lo2 118 3 rowS (.slice (some ⟨g2, o2, none⟩) n c2) xs) (hm : n ≤ 1048576) (hc1 : n ≤ c1) (hc2 : n ≤ c2) :
    Calls Try.prog 80 #[.slice (some ⟨g1, o1, none⟩) n c1, .slice (some ⟨g2, o2, none⟩) n c2] w fun e w' => e = .returned (.bool true) ∧ Below w.heap.size w w' := by
  have HV := hid hv; have HU := hid hu; have HN := hid hn
  clear hv hu hn
  go_enter Try.func80, Try.ntmps80
  go_wp2_with fail
  go_loopw [5] (fun i wr => ∃ k : Nat, k ≤ n ∧ i = .int .i64 k ∧ Below w.heap.size w wr) (fun i _ => n - (intOf i).toNat)
  case atStart => exact ⟨0, Nat.zero_le _, rfl, by first | exact Below.refl _ _ | exact (Below.refl _ _).drew⟩
  case round =>
    obtain ⟨k, hk, rfl, hbl⟩ := hrel
    have hsz := hbl.size
    by_cases hlt : k < n
    · obtain ⟨c0, c1, c2⟩ := slaves_get (HV.out.below hbl) k (by rw [HN.out]; exact hlt)
      obtain ⟨e0, e1, e2⟩ := slaves_get (HU.out.below hbl) k (by rw [HN.out]; exact hlt)
      obtain ⟨x, hx⟩ : ∃ x, x = xs.getD k 0 := ⟨_, rfl⟩
      rw [← hx] at c2 e2
      have hg1 : g1 < wr.heap.size := (OwnR.lt (HV.out.below hbl) g1 rfl).2
      have hg2 : g2 < wr.heap.size := (OwnR.lt (HU.out.below hbl) g2 rfl).2
      have HBL := hid hbl.drew
      clear hx hbl
      go_wp2_with fail
      go_region_held3 (fun w' => w'.cell? ⟨g1, o1 + k * 3, none⟩ = some (vnil) ∧ w'.cell? ⟨g1, o1 + k * 3 + 1, none⟩ = some (vnil) ∧ w'.cell? ⟨g1, o1 + k * 3 + 2, none⟩ = some (.int .i64 x) ∧ w'.cell? ⟨g2, o2 + k * 3, none⟩ = some (vnil) ∧ w'.cell? ⟨g2, o2 + k * 3 + 1, none⟩ = some (vnil) ∧ w'.cell? ⟨g2, o2 + k * 3 + 2, none⟩ = some (.int .i64 x))
        (first | exact s6 | go_keep)
        (first
          | (go_at_call 139; (with_reducible refine (eqSlave_same x _).mono ?_); rintro e w2 ⟨rfl, hb3⟩; have s6 : w2.cell? ⟨g1, o1 + k * 3, none⟩ = some (vnil) ∧ w2.cell? ⟨g1, o1 + k * 3 + 1, none⟩ = some (vnil) ∧ w2.cell? ⟨g1, o1 + k * 3 + 2, none⟩ = some (.int .i64 x) ∧ w2.cell? ⟨g2, o2 + k * 3, none⟩ = some (vnil) ∧ w2.cell? ⟨g2, o2 + k * 3 + 1, none⟩ = some (vnil) ∧ w2.cell? ⟨g2, o2 + k * 3 + 2, none⟩ = some (.int .i64 x) := ⟨(hb3.cell (p := ⟨g1, _, none⟩) hg1).trans c0, (hb3.cell (p := ⟨g1, _, none⟩) hg1).trans c1, (hb3.cell (p := ⟨g1, _, none⟩) hg1).trans c2, (hb3.cell (p := ⟨g2, _, none⟩) hg2).trans e0, (hb3.cell (p := ⟨g2, _, none⟩) hg2).trans e1, (hb3.cell (p := ⟨g2, _, none⟩) hg2).trans e2⟩))
      go_wp2_with fail
      go_roundw
      case rel => exact ⟨k + 1, by omega, by go_num, HBL.out.trans (hb3.mono (by simpa using hsz))⟩
      case measure => simp [intOf]; omega
    · go_wp2_with fail
      go_ret
      exact ⟨rfl, hbl⟩

end Go.Proofs.Yteamebdehembgaa

namespace Go.Proofs.Yteamebdehembgaa
open Go.RowKit

theorem CyO.atm {w : World} {lo : Nat} {a b p s : Value} {xs ys : List Int} {ps : List (Int × Int)} {ss : List Int} (h : CyO w lo a b p s xs ys ps ss) (hx : ∀ x ∈ xs, I64 x) (hy : ∀ x ∈ ys, I64 x) (hl1 : xs.length ≤ 1048576) (hl2 : ys.length ≤ 1048576) {W : World} (hb : Below w.heap.size w W) : AtmV W W.heap.size (.agg #[a, b]) xs ys :=
  ⟨_, _, rfl, (h.oa.below hb).ints (by omega) hx, (h.ob.below hb).ints (by omega) hy⟩

set_option maxRecDepth 8000 in
set_option maxHeartbeats 8000000 in
theorem eqCyc_same (w : World) {lo lo2 : Nat} {a b p s a2 b2 p2 s2 : Value} {xs ys : List Int} {ps : List (Int × Int)} {ss : List Int} (h : CyO w lo a b p s xs ys ps ss) (h2 : CyO w lo2 a2 b2 p2 s2 xs ys ps ss) (hx : ∀ x ∈ xs, I64 x) (hy : ∀ x ∈ ys, I64 x) (hl1 : xs.length ≤ 1048576) (hl2 : ys.length ≤ 1048576) (hn : ps.length = 3) (hm : ss.length = 4) :
    Calls Try.prog 18 #[.agg #[a, b, p, s, vnil], .agg #[a2, b2, p2, s2, vnil]] w fun e w' => e = .returned (.bool true) ∧ Below w.heap.size w w' := by
  obtain ⟨sg, so, sc, rfl, sc1, sc2, _, _⟩ := Owns.someR h.op (by omega)
  obtain ⟨tg, tp, tc, rfl, tc1, tc2, _, _⟩ := Owns.someR h.os (by omega)
  obtain ⟨ug, uo, uc, rfl, uc1, uc2, _, _⟩ := Owns.someR h2.op (by omega)
  obtain ⟨vg, vo, vc, rfl, vc1, vc2, _, _⟩ := Owns.someR h2.os (by omega)
  rw [hn, hm] at h h2 ⊢
  rw [hn] at sc1 uc1
  rw [hm] at tc1 vc1
  obtain ⟨ya, yb, rfl, _, _⟩ := Owns.shape h.oa
  obtain ⟨za, zb, rfl, _, _⟩ := Owns.shape h.ob
  obtain ⟨ya2, yb2, rfl, _, _⟩ := Owns.shape h2.oa
  obtain ⟨za2, zb2, rfl, _, _⟩ := Owns.shape h2.ob
  have HA := hid (fun W (hb : Below w.heap.size w W) => h.atm hx hy hl1 hl2 hb)
  have HA2 := hid (fun W (hb : Below w.heap.size w W) => h2.atm hx hy hl1 hl2 hb)
  have H := hid h; have H2 := hid h2
  have HN := hid hn; have HM := hid hm
  clear h h2 hx hy hn hm hl1 hl2
  go_enter Try.func18, Try.ntmps18
  obtain ⟨W2, hW2⟩ : ∃ W2, W2 = (w.alloc (.cells #[.slice ya xs.length yb, .slice za ys.length zb, .slice (some ⟨sg, so, none⟩) 3 sc, .slice (some ⟨tg, tp, none⟩) 4 tc, vnil] 45)).alloc (.cells #[.slice ya2 xs.length yb2, .slice za2 ys.length zb2, .slice (some ⟨ug, uo, none⟩) 3 uc, .slice (some ⟨vg, vo, none⟩) 4 vc, vnil] 45) := ⟨_, rfl⟩
  have HB2 := hid (show Below w.heap.size w W2 by rw [hW2]; exact bx2 _ _ _)
  have HS := hid (show Bx W2 w.heap.size [.slice ya xs.length yb, .slice za ys.length zb, .slice (some ⟨sg, so, none⟩) 3 sc, .slice (some ⟨tg, tp, none⟩) 4 tc, vnil] by rw [hW2]; exact (Bx.new w #[.slice ya xs.length yb, .slice za ys.length zb, .slice (some ⟨sg, so, none⟩) 3 sc, .slice (some ⟨tg, tp, none⟩) 4 tc, vnil] _ (by simp)).below (bx1 _ _) (by simp))
  have HR := hid (show Bx W2 (w.heap.size + 1) [.slice ya2 xs.length yb2, .slice za2 ys.length zb2, .slice (some ⟨ug, uo, none⟩) 3 uc, .slice (some ⟨vg, vo, none⟩) 4 vc, vnil] by rw [hW2]; have := Bx.new (w.alloc (.cells #[.slice ya xs.length yb, .slice za ys.length zb, .slice (some ⟨sg, so, none⟩) 3 sc, .slice (some ⟨tg, tp, none⟩) 4 tc, .slice none 0 0] 45)) #[.slice ya2 xs.length yb2, .slice za2 ys.length zb2, .slice (some ⟨ug, uo, none⟩) 3 uc, .slice (some ⟨vg, vo, none⟩) 4 vc, vnil] 45 (by simp); simpa using this)
  go_wp2_with fail
  simp only [← hW2]
  clear hW2
  refine (eqAtm_same _ _ xs ys W2.heap.size W2 (HA.out W2 HB2.out) (HA2.out W2 HB2.out) (Nat.le_refl _)).mono ?_
  rintro e w3 ⟨rfl, hb⟩
  have HS3 := hid (HS.out.below hb HS.out.lt); have HR3 := hid (HR.out.below hb HR.out.lt)
  have HB3 := hid (HB2.out.trans (hb.mono HB2.out.size))
  clear hb
  obtain ⟨⟨r0, r1, r2, r3, r4⟩, _⟩ := HS3.out.five
  obtain ⟨⟨q0, q1, q2, q3, q4⟩, _⟩ := HR3.out.five
  go_wp2_with fail
  clear r0 r1 r2 r3 r4 q0 q1 q2 q3 q4
  refine (eqPorts_same ps 3 _ _ _ _ _ _ _ _ w3 HN.out (H.out.op.below HB3.out) (H2.out.op.below HB3.out) (by omega) sc1 uc1).mono ?_
  rintro e w4 ⟨rfl, hb⟩
  have HS4 := hid (HS3.out.below hb HS3.out.lt); have HR4 := hid (HR3.out.below hb HR3.out.lt)
  have HB4 := hid (HB3.out.trans (hb.mono HB3.out.size))
  clear hb
  obtain ⟨⟨r0, r1, r2, r3, r4⟩, _⟩ := HS4.out.five
  obtain ⟨⟨q0, q1, q2, q3, q4⟩, _⟩ := HR4.out.five
  go_wp2_with fail
  clear r0 r1 r2 r3 r4 q0 q1 q2 q3 q4
  refine (eqSlaves_same ss 4 _ _ _ _ _ _ _ _ w4 HM.out (H.out.os.below HB4.out) (H2.out.os.below HB4.out) (by omega) tc1 vc1).mono ?_
  rintro e w5 ⟨rfl, hb⟩
  have HS5 := hid (HS4.out.below hb HS4.out.lt); have HR5 := hid (HR4.out.below hb HR4.out.lt)
  have HB5 := hid (HB4.out.trans (hb.mono HB4.out.size))
  clear hb
  obtain ⟨⟨r0, r1, r2, r3, r4⟩, _⟩ := HS5.out.five
  obtain ⟨⟨q0, q1, q2, q3, q4⟩, _⟩ := HR5.out.five
  go_wp2_with fail
  clear r0 r1 r2 r3 r4 q0 q1 q2 q3 q4
  refine (eqTlmJobS_nil w5).mono ?_
  rintro e w6 ⟨rfl, hw⟩
  subst hw
  go_wp2_with fail
  go_ret
  exact ⟨rfl, HB5.out⟩

def mk1P : Nat → Int × Int → Int × Int := fun m _ => (((m : Nat) : Int), ((m + 1 : Nat) : Int))
theorem sum_mk1P (xs : List (Int × Int)) : sumG (fun _ : Int × Int => 2) xs = 2 * xs.length := by
  induction xs with
  | nil => rfl
  | cons x xs ih => simp only [sumG, List.map_cons, List.sum_cons, List.length_cons] at *; omega
def mk1PG (m : Nat) (xs : List (Int × Int)) : List (Int × Int) := markG mk1P (fun _ => 2) m xs
theorem mk1P_len (m : Nat) (xs : List (Int × Int)) : (mk1PG m xs).length = xs.length := markG_len ..
set_option maxRecDepth 8000 in
set_option maxHeartbeats 8000000 in
theorem heldPorts_any (xs : List (Int × Int)) (n m lo g o c : Nat) (w : World) (hn : xs.length = n) (hv : Owns w lo 116 4 rowP (.slice (some ⟨g, o, none⟩) n c) (mk1PG m xs)) (hm : m ≤ 1048576) (hm2 : n ≤ 1048576) (hc : n ≤ c) :
    Calls Try.prog 85 #[.slice (some ⟨g, o, none⟩) n c, .int .i64 m] w (SameP ((m + 2 * n : Nat) : Int) w) := by
  have HV := hid hv; have HN := hid hn
  clear hv hn
  go_enter Try.func85, Try.ntmps85
  go_wp2_with fail
  go_loop [1, 5] (fun m' i => ∃ k : Nat, k ≤ n ∧ m' = .int .i64 ((m + 2 * k : Nat) : Int) ∧ i = .int .i64 k) (fun _ i => n - (intOf i).toNat)
  case atStart => exact ⟨0, Nat.zero_le _, by simp, rfl⟩
  case round =>
    obtain ⟨k, hk, rfl, rfl⟩ := hrel
    by_cases hlt : k < n
    · obtain ⟨c0, c1, c2, c3⟩ := ports_get HV.out k (by rw [mk1P_len, HN.out]; exact hlt)
      rw [show (mk1PG m xs).getD k (0, 0) = mk1P (m + 2 * k) (xs.getD k (0, 0)) by
        have := markG_get mk1P (fun _ => 2) m (show k < xs.length by rw [HN.out]; exact hlt) (0, 0)
        rw [sum_mk1P, List.length_take, Nat.min_eq_left (by rw [HN.out]; omega)] at this
        exact this] at c0 c3
      simp only [mk1P] at c0 c3
      obtain ⟨mk, hmk⟩ : ∃ mk, mk = m + 2 * k := ⟨_, rfl⟩
      rw [← hmk] at c0 c3
      rw [← hmk]
      have hmb : mk + 2 ≤ 1152921504606846976 := by omega
      have HMK := hid hmk
      clear hmk
      go_wp2_with fail
      refine (heldIntS_nil _ _).mono ?_
      rintro e w2 ⟨rfl, hww⟩
      subst hww
      go_wp2_with fail
      refine (heldCycJobS_nil _ _).mono ?_
      rintro e w2 ⟨rfl, hww⟩
      subst hww
      go_wp2_with fail
      go_round
      case rel => exact ⟨k + 1, by omega, by have := HMK.out; go_num, by go_num⟩
      case measure => simp [intOf]; omega
    · obtain rfl : k = n := by omega
      go_wp2_with fail
      go_ret
      exact ⟨rfl, rfl⟩

def mk1S : Nat → Int → Int := fun m _ => ((m : Nat) : Int)
theorem sum_mk1S (xs : List (Int)) : sumG (fun _ : Int => 1) xs = 1 * xs.length := by
  induction xs with
  | nil => rfl
  | cons x xs ih => simp only [sumG, List.map_cons, List.sum_cons, List.length_cons] at *; omega
def mk1SG (m : Nat) (xs : List (Int)) : List (Int) := markG mk1S (fun _ => 1) m xs
theorem mk1S_len (m : Nat) (xs : List (Int)) : (mk1SG m xs).length = xs.length := markG_len ..
set_option maxRecDepth 8000 in
set_option maxHeartbeats 8000000 in
theorem heldSlaves_any (xs : List (Int)) (n m lo g o c : Nat) (w : World) (hn : xs.length = n) (hv : Owns w lo 118 3 rowS (.slice (some ⟨g, o, none⟩) n c) (mk1SG m xs)) (hm : m ≤ 1048576) (hm2 : n ≤ 1048576) (hc : n ≤ c) :
    Calls Try.prog 86 #[.slice (some ⟨g, o, none⟩) n c, .int .i64 m] w (SameP ((m + 1 * n : Nat) : Int) w) := by
  have HV := hid hv; have HN := hid hn
  clear hv hn
  go_enter Try.func86, Try.ntmps86
  go_wp2_with fail
  go_loop [1, 5] (fun m' i => ∃ k : Nat, k ≤ n ∧ m' = .int .i64 ((m + 1 * k : Nat) : Int) ∧ i = .int .i64 k) (fun _ i => n - (intOf i).toNat)
  case atStart => exact ⟨0, Nat.zero_le _, by simp, rfl⟩
  case round =>
    obtain ⟨k, hk, rfl, rfl⟩ := hrel
    by_cases hlt : k < n
    · obtain ⟨c0, c1, c2⟩ := slaves_get HV.out k (by rw [mk1S_len, HN.out]; exact hlt)
      rw [show (mk1SG m xs).getD k 0 = mk1S (m + 1 * k) (xs.getD k 0) by
        have := markG_get mk1S (fun _ => 1) m (show k < xs.length by rw [HN.out]; exact hlt) 0
        rw [sum_mk1S, List.length_take, Nat.min_eq_left (by rw [HN.out]; omega)] at this
        exact this] at c2
      simp only [mk1S] at c2
      obtain ⟨mk, hmk⟩ : ∃ mk, mk = m + 1 * k := ⟨_, rfl⟩
      rw [← hmk] at c2
      rw [← hmk]
      have hmb : mk + 2 ≤ 1152921504606846976 := by omega
      have HMK := hid hmk
      clear hmk
      go_wp2_with fail
      refine (heldCycJobS_nil _ _).mono ?_
      rintro e w2 ⟨rfl, hww⟩
      subst hww
      go_wp2_with fail
      refine (heldTlmJobS_nil _ _).mono ?_
      rintro e w2 ⟨rfl, hww⟩
      subst hww
      go_wp2_with fail
      go_round
      case rel => exact ⟨k + 1, by omega, by have := HMK.out; go_num, by go_num⟩
      case measure => simp [intOf]; omega
    · obtain rfl : k = n := by omega
      go_wp2_with fail
      go_ret
      exact ⟨rfl, rfl⟩

end Go.Proofs.Yteamebdehembgaa
