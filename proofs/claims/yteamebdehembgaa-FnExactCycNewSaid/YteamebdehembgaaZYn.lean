/-
  The law FnExactCycNew returns true, in whatever memory: new buses of the program and of the reference are the same, and share no memory.
-/
import Derived.Test.YteamebdehembgaaJYk
import Derived.Test.YteamebdehembgaaKRow
set_option linter.unusedVariables false
set_option linter.unusedSimpArgs false
namespace Go.Proofs.Yteamebdehembgaa
open Go.RowKit

set_option maxRecDepth 8000 in
set_option maxHeartbeats 8000000 in
theorem exactCycNew_any (w : World) : Calls Try.prog 4 #[] w fun e w' => e = .returned (.bool true) ∧ Below w.heap.size w w' := by
  go_enter Try.func4, Try.ntmps4
  go_wp2_with fail
  refine (specCycNew_any _).mono ?_
  rintro e w1 ⟨a, b, p, s, rfl, hc, hb⟩
  obtain ⟨a0, x0, rfl, _, _⟩ := hc.oa.shape
  obtain ⟨b0, y0, rfl, _, _⟩ := hc.ob.shape
  obtain ⟨p0, z0, rfl, _, _⟩ := hc.op.shape
  obtain ⟨s0, t0, rfl, _, _⟩ := hc.os.shape
  simp only [List.length_replicate] at hc
  have HC0 := hid hc; have HB1 := hid hb
  clear hc hb
  go_wp2_with fail
  obtain ⟨W1, hW⟩ : ∃ W1, W1 = w1.alloc (.cells #[.slice a0 64 x0, .slice b0 6 y0, .slice p0 3 z0, .slice s0 4 t0, vnil] 45) := ⟨_, rfl⟩
  simp only [← hW]
  have BW1 := hid (show Below w1.heap.size w1 W1 by rw [hW]; exact bx1 _ _)
  have S1 := hid (show Bx W1 w1.heap.size [.slice a0 64 x0, .slice b0 6 y0, .slice p0 3 z0, .slice s0 4 t0, vnil] by rw [hW]; exact Bx.new w1 #[.slice a0 64 x0, .slice b0 6 y0, .slice p0 3 z0, .slice s0 4 t0, vnil] _ (by simp))
  clear hW
  have C0 := hid (HC0.out.below BW1.out)
  refine (implCycNew_any _).mono ?_
  rintro e w2 ⟨a, b, p, s, rfl, hc, hb⟩
  obtain ⟨a1, x1, rfl, _, _⟩ := hc.oa.shape
  obtain ⟨b1, y1, rfl, _, _⟩ := hc.ob.shape
  obtain ⟨p1, z1, rfl, _, _⟩ := hc.op.shape
  obtain ⟨s1, t1, rfl, _, _⟩ := hc.os.shape
  simp only [List.length_replicate] at hc
  have HC1 := hid hc; have HB2 := hid hb
  clear hc hb
  have hl12 : w1.heap.size < w2.heap.size := Nat.lt_of_lt_of_le S1.out.lt HB2.out.size
  have S1z := hid (S1.out.below HB2.out S1.out.lt)
  obtain ⟨⟨q0, q1, q2, q3, q4⟩, _⟩ := S1z.out.five
  go_wp2_with fail
  obtain ⟨W2, hW⟩ : ∃ W2, W2 = w2.alloc (.cells #[.slice a1 64 x1, .slice b1 6 y1, .slice p1 3 z1, .slice s1 4 t1, vnil] 45) := ⟨_, rfl⟩
  simp only [← hW]
  have BW2 := hid (show Below w2.heap.size w2 W2 by rw [hW]; exact bx1 _ _)
  have S2 := hid (show Bx W2 w2.heap.size [.slice a1 64 x1, .slice b1 6 y1, .slice p1 3 z1, .slice s1 4 t1, vnil] by rw [hW]; exact Bx.new w2 #[.slice a1 64 x1, .slice b1 6 y1, .slice p1 3 z1, .slice s1 4 t1, vnil] _ (by simp))
  clear hW
  have C1 := hid (HC1.out.below BW2.out)
  have R2 := hid (HB2.out.trans (BW2.out.mono HB2.out.size))
  have S1a := hid (S1.out.below R2.out S1.out.lt)
  have C0a := hid (C0.out.below R2.out)
  clear q0 q1 q2 q3 q4
  refine (eqCyc_same W2 C1.out C0a.out i64_z64 i64_z6 (by simp) (by simp) (by simp) (by simp)).mono ?_
  rintro e w3 ⟨rfl, hb⟩
  have HB3 := hid hb; clear hb
  have S2a := hid (S2.out.below HB3.out S2.out.lt)
  have C1a := hid (C1.out.below HB3.out)
  have R3 := hid (R2.out.trans (HB3.out.mono R2.out.size))
  obtain ⟨⟨r0, r1, r2, r3, r4⟩, _⟩ := S2a.out.five
  go_wp2_with fail
  clear r0 r1 r2 r3 r4
  refine (markCyc_any (m := 1) w3 w2 C1a.out (by simp) (by simp) (by simp) (by simp) (by omega) HC1.out (Nat.le_trans BW2.out.size HB3.out.size)).mono ?_
  rintro e w4 ⟨rfl, hc, hbt⟩
  simp only [List.length_replicate] at hc ⊢
  have M1 := hid hc
  have S2b := hid (S2a.out.bt hbt (.inr (Nat.le_refl _)))
  have R4 := hid (R3.out.trans (hbt.below (by exact R3.out.size)))
  have Z34 := hid hbt.size
  clear hc hbt
  obtain ⟨⟨r0, r1, r2, r3, r4⟩, _⟩ := S2b.out.five
  go_wp2_with fail
  clear r0 r1 r2 r3 r4
  refine (heldCyc_any (m := 1) w4 M1.out (by omega) (by omega) (by simp) (by simp) (by omega)).mono ?_
  rintro e w5 ⟨rfl, hb⟩
  have S2c := hid (S2b.out.below hb S2b.out.lt)
  have M1a := hid (M1.out.below hb)
  have R5 := hid (R4.out.trans (hb.mono R4.out.size))
  have z34 := Nat.le_trans Z34.out hb.size
  clear hb
  go_wp2_with fail
  refine (implCycNew_any _).mono ?_
  rintro e w6 ⟨a, b, p, s, rfl, hc, hb⟩
  obtain ⟨a2, x2, rfl, _, _⟩ := hc.oa.shape
  obtain ⟨b2, y2, rfl, _, _⟩ := hc.ob.shape
  obtain ⟨p2, z2, rfl, _, _⟩ := hc.op.shape
  obtain ⟨s2, t2, rfl, _, _⟩ := hc.os.shape
  simp only [List.length_replicate] at hc
  have HC2 := hid hc; have HB6 := hid hb
  clear hc hb
  have hl16 : w1.heap.size < w6.heap.size := Nat.lt_of_lt_of_le hl12 (Nat.le_trans BW2.out.size (Nat.le_trans (Nat.le_trans HB3.out.size z34) HB6.out.size))
  have S1z2 := hid (S1.out.below (R5.out.trans (HB6.out.mono R5.out.size)) S1.out.lt)
  obtain ⟨⟨q0, q1, q2, q3, q4⟩, _⟩ := S1z2.out.five
  go_wp2_with fail
  obtain ⟨W6, hW⟩ : ∃ W6, W6 = w6.alloc (.cells #[.slice a2 64 x2, .slice b2 6 y2, .slice p2 3 z2, .slice s2 4 t2, vnil] 45) := ⟨_, rfl⟩
  simp only [← hW]
  have BW6 := hid (show Below w6.heap.size w6 W6 by rw [hW]; exact bx1 _ _)
  have S6 := hid (show Bx W6 w6.heap.size [.slice a2 64 x2, .slice b2 6 y2, .slice p2 3 z2, .slice s2 4 t2, vnil] by rw [hW]; exact Bx.new w6 #[.slice a2 64 x2, .slice b2 6 y2, .slice p2 3 z2, .slice s2 4 t2, vnil] _ (by simp))
  clear hW
  have R6 := hid (HB6.out.trans (BW6.out.mono HB6.out.size))
  have C2 := hid (HC2.out.below BW6.out)
  have R7 := hid (R5.out.trans (R6.out.mono R5.out.size))
  have S1b := hid (S1.out.below R7.out S1.out.lt)
  have C0b := hid (C0.out.below R7.out)
  have S2d := hid (S2c.out.below R6.out S2c.out.lt)
  have M1b := hid (M1a.out.below R6.out)
  clear q0 q1 q2 q3 q4
  refine (eqCyc_same W6 C2.out C0b.out i64_z64 i64_z6 (by simp) (by simp) (by simp) (by simp)).mono ?_
  rintro e w7 ⟨rfl, hb⟩
  have S2e := hid (S2d.out.below hb S2d.out.lt)
  have M1c := hid (M1b.out.below hb)
  have R8 := hid (R7.out.trans (hb.mono R7.out.size))
  clear hb
  obtain ⟨⟨r0, r1, r2, r3, r4⟩, _⟩ := S2e.out.five
  go_wp2_with fail
  clear r0 r1 r2 r3 r4
  refine (heldCyc_any (m := 1) w7 M1c.out (by omega) (by omega) (by simp) (by simp) (by omega)).mono ?_
  rintro e w8 ⟨rfl, hb⟩
  have R9 := hid (R8.out.trans (hb.mono R8.out.size))
  clear hb
  go_wp2_with fail
  go_ret
  have z1 := HB1.out.size
  have z2 := BW1.out.size
  exact ⟨rfl, (HB1.out.trans (BW1.out.mono z1)).trans (R9.out.mono (by omega))⟩

end Go.Proofs.Yteamebdehembgaa

namespace Go.Proofs.Yteamebdehembgaa
open Go.ChangeShapes Go.WideShapes Go.ChangeAt Go.RowKit

set_option maxRecDepth 100000 in
theorem exactCycNew_lifted (os : Os) (started : os.Started) (H : Type) (enc : TypeId × Value → H) :
    ReturnsInHanded {} Try.checked os 4 .any (Rows.fnExactCycNewSpec.pre6 enc Try.prog Try.f4 Rows.fnExactCycNewRow.domain false) (Rows.fnExactCycNewSpec.post enc Try.prog Try.f4 false true false false) := by
  refine law_lifted started enc 4 Try.f4 Rows.fnExactCycNewSpec rfl (by kernel_rfl) Try.func4
    (ChangeSpec.witness6 (enc := enc) (C := Try.checked) false ⟨#[], #[], []⟩ 8 (by kernel_rfl) (by kernel_rfl) (by kernel_rfl) (by kernel_rfl)) rfl ?_ ?_ ?_
  · intro t ht
    simp [Try.params4] at ht
  · intro ds hl
    simp [Try.params4] at hl
    subst hl
    exact ⟨rfl, rfl, rfl⟩
  · intro W base args ds p hval hA hlt hw
    rw [Try.params4] at hA
    obtain ⟨h1, h2, h3⟩ := trodAll_nil hA
    obtain rfl : args = #[] := by cases args; simp_all
    exact exactCycNew_any W

set_option maxRecDepth 100000 in
theorem exactCycNew_holds : Rows.FnExactCycNewSaid :=
  OpenClaim.holds_of_wide 4 Try.f4 rfl rfl rfl rfl rfl rfl rfl ⟨rfl, rfl, rfl, rfl, rfl⟩ rfl rfl rfl rfl rfl (by kernel_rfl) Try.func4 (by kernel_rfl)
    (of_decide_eq_true (by kernel_rfl)) (by unfold Func.isWrapper; first | (rw [if_pos (by decide +kernel)]; kernel_rfl) | (rw [if_neg (by decide +kernel)]; exact ⟨rfl, rfl⟩))
    (fun os started H enc _ => exactCycNew_lifted os started H enc)
#print axioms exactCycNew_holds

end Go.Proofs.Yteamebdehembgaa
