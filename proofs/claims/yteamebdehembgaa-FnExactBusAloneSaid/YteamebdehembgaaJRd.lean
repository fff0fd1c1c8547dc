/-
  The draw of ArbNext's arguments.
-/
import Derived.Test.YteamebdehembgaaKLib
import Derived.Test.YteamebdehembgaaJW1
import Derived.BigQuiet
import Derived.BigGuardPart
import Derived.Deep.QuietTactic
set_option linter.unusedVariables false
set_option linter.unusedSimpArgs false
namespace Go.Proofs.Yteamebdehembgaa
open Go.RowKit

/-- But for block r (and new blocks) the world is as it was. -/
structure Touch (r : Nat) (w w' : World) : Prop where
  os : w'.os = w.os
  tape : w'.tape = w.tape
  output : w'.output = w.output
  size : w.heap.size ≤ w'.heap.size
  block : ∀ k, k < w.heap.size → k ≠ r → w'.heap[k]? = w.heap[k]?
theorem Touch.refl (r : Nat) (w : World) : Touch r w w := ⟨rfl, rfl, rfl, Nat.le_refl _, fun _ _ _ => rfl⟩
theorem Touch.trans {r : Nat} {a b c : World} (h : Touch r a b) (k : Touch r b c) : Touch r a c :=
  ⟨k.os.trans h.os, k.tape.trans h.tape, k.output.trans h.output, Nat.le_trans h.size k.size, fun i hi hr => (k.block i (Nat.lt_of_lt_of_le hi h.size) hr).trans (h.block i hi hr)⟩
theorem Touch.below {r B : Nat} {w w' : World} (h : Touch r w w') (hr : B ≤ r) (hB : B ≤ w.heap.size) : Below B w w' :=
  ⟨h.os, h.tape, h.output, h.size, fun k hk => h.block k (by omega) (by omega)⟩
theorem Touch.of_below {r B : Nat} {w w' : World} (h : Below B w w') (hB : w.heap.size ≤ B) : Touch r w w' :=
  ⟨h.os, h.tape, h.output, h.size, fun k hk _ => h.block k (by omega)⟩
theorem Touch.setCell (r o : Nat) (w : World) (v : Value) : Touch r w (w.setCell ⟨r, o, none⟩ v) :=
  ⟨rfl, rfl, rfl, by simp [World.setCell], fun k _ hr => Below.heap_setCell _ _ _ _ hr⟩
theorem Touch.draws {r : Nat} {a w : World} (h : Touch r a w) (n : Nat) : Touch r a (w.drewN n) := h.trans ⟨rfl, rfl, rfl, Nat.le_refl _, fun _ _ _ => rfl⟩

theorem Touch.grown {r : Nat} {w w' : World} (h : Touch r w w') : w.grownBy w' (some r) := ⟨h.os, h.tape, h.output, h.size, fun k h1 h2 => h.block k h1 (by simpa using h2)⟩
/-- What is owned in another block stays owned. -/
theorem Touch.owns {r base e sz n : Nat} {w w' : World} {v : Value} {xs : List Value} (h : Touch r w w') (ho : w.ownsRow base e sz v n xs) (hr : r < base) : w'.ownsRow base e sz v n xs :=
  ho.kept h.grown (by
    rcases hb : v.ownBlock with _ | k
    · exact .inl rfl
    · right; have := (ho.lt k hb).1; simp; omega)
theorem Touch.alloc {r : Nat} {a w : World} (h : Touch r a w) (o : Obj) : Touch r a (w.alloc o) := h.trans (Touch.of_below ((Below.refl _ _).alloc (Nat.le_refl _) o) (Nat.le_refl _))
theorem Touch.grew {r : Nat} {a w w' : World} {row : Option Nat} (h : Touch r a w) (hg : w.grownBy w' row) (hr : ∀ k, row = some k → a.heap.size ≤ k) : Touch r a w' :=
  ⟨hg.os.trans h.os, hg.tape.trans h.tape, hg.output.trans h.output, Nat.le_trans h.size hg.size, fun k hk hne => by
    rw [hg.block k (Nat.lt_of_lt_of_le hk h.size) (fun e => by have := hr k e.symm; omega)]; exact h.block k hk hne⟩

/-- Behind an append onto what the call itself owns from base on. -/
theorem app_below {base e sz n : Nat} {w w' : World} {o : Obj} {v : Value} {xs : List Value} (ho : w.ownsRow base e sz v n xs) (hg : (w.alloc o).grownBy w' v.ownBlock) (hb : base ≤ w.heap.size) : Below base w w' :=
  ((Below.refl _ _).alloc hb o).grown hg (by simp; omega) (fun k hk => (ho.lt k hk).1)

/-- The reader at block r: its bytes, and its place p. -/
def RdAt (w : World) (r B : Nat) (bs : List Nat) (p : Nat) : Prop :=
  ∃ bv, w.heap[r]? = some (.cells #[bv, .int .i64 p] 142 (0, 0)) ∧ Bytes w B bv bs ∧ B ≤ r ∧ bs.length ≤ 2000

theorem lt_of_heap {w : World} {r : Nat} {o : Obj} (h : w.heap[r]? = some o) : r < w.heap.size := by
  rcases Nat.lt_or_ge r w.heap.size with h1 | h1
  · exact h1
  · rw [Array.getElem?_eq_none h1] at h; simp at h

theorem RdAt.lt {w : World} {r B : Nat} {bs : List Nat} {p : Nat} (h : RdAt w r B bs p) : r < w.heap.size := by
  obtain ⟨bv, hb, _⟩ := h; exact lt_of_heap hb

theorem RdAt.draws {w : World} {r B : Nat} {bs : List Nat} {p : Nat} (h : RdAt w r B bs p) (n : Nat) : RdAt (w.drewN n) r B bs p := by
  obtain ⟨bv, hb, hy, hB, hl⟩ := h
  exact ⟨bv, hb, hy.below (Below.draws (Below.refl _ _) n), hB, hl⟩

/-- Behind what turns nothing that was there the reader stands as it did. -/
theorem RdAt.kept {w w' : World} {r B C : Nat} {bs : List Nat} {p : Nat} (h : RdAt w r B bs p) (hb : Below C w w') (hl : r < C) : RdAt w' r B bs p := by
  obtain ⟨bv, hh, hy, hB, hn⟩ := h
  exact ⟨bv, by rw [hb.block r hl]; exact hh, hy.below (hb.mono (by omega)), hB, hn⟩

theorem RdAt.stepped {w : World} {r B : Nat} {bs : List Nat} {p q : Nat} (h : RdAt w r B bs p) : RdAt (w.setCell ⟨r, 1, none⟩ (.int .i64 q)) r B bs q := by
  obtain ⟨bv, hh, hy, hB, hn⟩ := h
  refine ⟨bv, ?_, hy.below ((Below.refl _ _).setCell (by simpa using hB) _), hB, hn⟩
  simp only [World.setCell, Array.getElem?_modify, hh]
  simp

theorem xor_nat (a b : Nat) (ha : a < 4611686018427387904) (hb : b < 4611686018427387904) : bits .xor .i64 (a : Int) (b : Int) = ((a ^^^ b : Nat) : Int) := by
  have hx : a ^^^ b < 2 ^ 62 := Nat.xor_lt_two_pow (by omega) (by omega)
  have e : (2 : Nat) ^ 62 = 4611686018427387904 := by decide
  unfold bits
  have ea : (BitVec.ofInt IntKind.i64.bits (a : Int)).toNat = a := by
    simp [BitVec.toNat_ofInt, IntKind.bits]; omega
  have eb : (BitVec.ofInt IntKind.i64.bits (b : Int)).toNat = b := by
    simp [BitVec.toNat_ofInt, IntKind.bits]; omega
  simp only [BitVec.toNat_xor, ea, eb]
  rw [IntKind.wrap_i64]; omega

theorem mix_ok (Z n : Int) (h0 : 0 ≤ Z) (h1 : Z < 4611686018427387904) (hn : 1 ≤ n) : 0 ≤ (bits .xor .i64 Z (Z / 64)).tmod n ∧ (bits .xor .i64 Z (Z / 64)).tmod n < n := by
  obtain ⟨z, rfl⟩ := Int.eq_ofNat_of_zero_le h0
  have e : ((z : Int) / 64) = ((z / 64 : Nat) : Int) := by omega
  rw [e, xor_nat z (z / 64) (by omega) (by omega), Int.tmod_eq_emod_of_nonneg (by omega)]
  exact ⟨Int.emod_nonneg _ (by omega), Int.emod_lt_of_pos _ (by omega)⟩

set_option maxHeartbeats 1000000 in
theorem pick_any (r B : Nat) (bs : List Nat) (p : Nat) (n : Int) (w : World) (h : RdAt w r B bs p) (hp : p ≤ 1099511627776) (hn : n ≤ 1099511627776) :
    Calls Try.prog 55 #[.pointer (some ⟨r, 0, none⟩), .int .i64 n] w fun e w' => ∃ x : Int, e = .returned (.int .i64 x) ∧ 0 ≤ x ∧ (x < n ∨ (x = 0 ∧ n < 1)) ∧ RdAt w' r B bs (p + 1) ∧ Touch r w w' := by
  have hlt := h.lt
  have hstep := h.stepped (q := p + 1)
  have htouch := Touch.setCell r 1 w (.int .i64 (p + 1 : Nat))
  obtain ⟨bv, hh, hy, hB, hbl⟩ := h
  obtain ⟨ao, cap, rfl, hlc, hcap, hln, hni, hr⟩ := hy.opened
  have c0 : w.cell? ⟨r, 0, none⟩ = some (.slice ao bs.length cap) := by simp [World.cell?, hh]
  have c1 : w.cell? ⟨r, 1, none⟩ = some (.int .i64 p) := by simp [World.cell?, hh]
  have f1 : w.frozen? ⟨r, 1, none⟩ = false := by simp [World.frozen?, hh]
  have HS := hid hstep; have HT := hid htouch; have HY := hid hy; clear hstep htouch hy hh
  by_cases hn1 : n < 1
  · go_enter Try.func55, Try.ntmps55
    go_wp2
    go_ret
    exact ⟨0, rfl, by omega, by omega, by exact HS.out, by exact HT.out⟩
  · by_cases hb0 : bs.length = 0
    · have hb : ((bs.length : Int) == 0) = true := by simp [hb0]
      have HB := hid hb0; clear hb0
      go_enter Try.func55, Try.ntmps55
      go_wp2
      go_ret
      exact ⟨0, rfl, by omega, by omega, by exact HS.out, by exact HT.out⟩
    · have hb : ((bs.length : Int) == 0) = false := by simpa using hb0
      obtain ⟨b, off, rfl, hbB, hc⟩ := hr hb0
      have hne : b ≠ r := by omega
      by_cases hlp : p < bs.length
      · have hck := hc p hlp
        obtain ⟨x, hx⟩ : ∃ x, x = bs.getD p 0 := ⟨_, rfl⟩
        rw [← hx] at hck
        have hx2 : x < 256 := by rw [hx]; simp [List.getD, hlp]; exact HY.out.2 _ (List.getElem_mem _)
        have HX := hid hx; have HC := hid hc; clear hx hc hr
        go_enter Try.func55, Try.ntmps55
        go_wp2
        go_ret
        exact ⟨_, rfl, Int.emod_nonneg _ (by omega), .inl (Int.emod_lt_of_pos _ (by omega)), by exact HS.out, by exact HT.out⟩
      · have hm1 : p % bs.length < bs.length := Nat.mod_lt _ (by omega)
        have hm2 : (p * 7 + 3) % bs.length < bs.length := Nat.mod_lt _ (by omega)
        have hk1 := hc _ hm1
        have hk2 := hc _ hm2
        obtain ⟨x, hx⟩ : ∃ x, x = bs.getD (p % bs.length) 0 := ⟨_, rfl⟩
        obtain ⟨y, hy⟩ : ∃ y, y = bs.getD ((p * 7 + 3) % bs.length) 0 := ⟨_, rfl⟩
        rw [← hx] at hk1; rw [← hy] at hk2
        have hx2 : x < 256 := by rw [hx]; simp [List.getD, hm1]; exact HY.out.2 _ (List.getElem_mem _)
        have hy2 : y < 256 := by rw [hy]; simp [List.getD, hm2]; exact HY.out.2 _ (List.getElem_mem _)
        have HX := hid hx; have HY2 := hid hy; have HC := hid hc; clear hx hy hc hr
        have g1 : (0 : Int) ≤ (p : Int) % (bs.length : Int) := Int.emod_nonneg _ (by omega)
        have g2 : (p : Int) % (bs.length : Int) < (bs.length : Int) := Int.emod_lt_of_pos _ (by omega)
        have g3 : (0 : Int) ≤ ((p : Int) * 7 + 3) % (bs.length : Int) := Int.emod_nonneg _ (by omega)
        have g4 : ((p : Int) * 7 + 3) % (bs.length : Int) < (bs.length : Int) := Int.emod_lt_of_pos _ (by omega)
        have g5 : (0 : Int) ≤ (p : Int) / (bs.length : Int) := Int.ediv_nonneg (by omega) (by omega)
        have g6 : (p : Int) / (bs.length : Int) ≤ 1099511627776 := by
          have := Int.ediv_le_self (b := (bs.length : Int)) (show (0 : Int) ≤ (p : Int) by omega)
          omega
        go_enter Try.func55, Try.ntmps55
        go_wp2
        go_quiet (fail)
        go_wp2
        go_ret
        have M := mix_ok (x * 131 + y * 1117 + p * 29 + p / bs.length * 53) n (by omega) (by omega) (by omega)
        exact ⟨_, rfl, M.1, .inl M.2, by exact (HS.out.draws _), by exact (HT.out.draws _)⟩

end Go.Proofs.Yteamebdehembgaa

namespace Go.Proofs.Yteamebdehembgaa
open Go.RowKit

theorem RdAt.fresh {w : World} {B : Nat} {bv : Value} {bs : List Nat} (h : Bytes w B bv bs) (hB : B ≤ w.heap.size) (hl : bs.length ≤ 2000) : RdAt (w.alloc (.cells #[bv, .int .i64 0] 142)) w.heap.size B bs 0 :=
  ⟨bv, by show (w.heap.push _)[w.heap.size]? = _; simp, h.below ((Below.refl _ _).alloc (by omega) _), hB, hl⟩

def OpenP (w : World) (B : Nat) (e : Ending) (w' : World) : Prop := ∃ cs, e = .returned (.pointer (some ⟨w.heap.size, 0, none⟩)) ∧ RdAt w' w.heap.size B cs 0 ∧ Below w.heap.size w w'

set_option maxHeartbeats 400000 in
theorem open_any (v : Value) (bs : List Nat) (B : Nat) (w : World) (h : Bytes w B v bs) (hB : B ≤ w.heap.size) :
    Calls Try.prog 53 #[v] w (OpenP w B) := by
  obtain ⟨ao, cap, rfl, hlc, hcap, hln, hni, hr⟩ := h.opened
  by_cases hl : (2000 : Int) < (bs.length : Int)
  · go_enter Try.func53, Try.ntmps53
    go_wp2
    go_ret
    exact ⟨bs.take 2000, rfl, by exact RdAt.fresh (h.take (by omega)) hB (by simp; omega), (Below.refl _ _).alloc (Nat.le_refl _) _⟩
  · go_enter Try.func53, Try.ntmps53
    go_wp2
    go_ret
    exact ⟨bs, rfl, by exact RdAt.fresh h hB (by omega), (Below.refl _ _).alloc (Nat.le_refl _) _⟩

end Go.Proofs.Yteamebdehembgaa
