/-
  Counts read: measured, copied, and held to be ok (printed by wip/gen_ck.py).
-/
import Derived.Test.YtjcpnlnajimjaaaCk1
import Derived.Test.YtjcpnlnajimjaaaEx5
namespace Go.Proofs.Ytjcpnlnajimjaaa
open Go.RowKit

def SzCP (x1 x2 x3 x4 x5 x6 : List Int) (w : World) (e : Ending) (w' : World) : Prop :=
  ∃ r : Int, e = .returned (.int .i64 r) ∧ (r < 0 ∨ (0 ≤ r ∧ x1.length ≤ 1048576 ∧ x2.length ≤ 1048576 ∧ x3.length ≤ 1048576 ∧ x4.length ≤ 1048576 ∧ x5.length ≤ 1048576 ∧ x6.length ≤ 1048576)) ∧ Below w.heap.size w w'
set_option maxHeartbeats 4000000 in
theorem szCnt_any (c : Int) (v1 v2 v3 v4 v5 v6 : Value) (x1 x2 x3 x4 x5 x6 : List Int) (B : Nat) (w : World) (h : SixI w B v1 v2 v3 v4 v5 v6 x1 x2 x3 x4 x5 x6) (hB : B ≤ w.heap.size) :
    Calls Try.prog 19 #[.agg #[.int .i64 c, v1, v2, v3, v4, v5, v6], .int .i64 1048576] w (SzCP x1 x2 x3 x4 x5 x6 w) := by
  have HS := hid h
  obtain ⟨⟨a1, c1, rfl⟩, ⟨a2, c2, rfl⟩, ⟨a3, c3, rfl⟩, ⟨a4, c4, rfl⟩, ⟨a5, c5, rfl⟩, ⟨a6, c6, rfl⟩⟩ := h.shape
  clear h
  have HB := hid (fun o => oneBox w o)
  go_enter Try.func19, Try.ntmps19
  go_wp2_with fail
  refine (szIntS_any (.slice a1 x1.length c1) x1 1048576 B _ (HS.out.1.below ((HB.out _).mono hB)) (by omega) (by omega)).mono ?_
  rintro e w1 ⟨r1, rfl, hr1, hw1⟩
  subst hw1
  have HR1 := hid hr1; clear hr1
  by_cases hn1 : r1 < 0
  · go_wp2_with fail
    go_ret
    exact ⟨_, rfl, .inl (by omega), HB.out _⟩
  have hp1 : 0 ≤ r1 := by omega
  have hq1 : r1 ≤ 1048576 := by have := HR1.out; omega
  go_wp2_with fail
  refine (szIntS_any (.slice a2 x2.length c2) x2 r1 B _ (HS.out.2.1.below ((HB.out _).mono hB)) (by omega) (by omega)).mono ?_
  rintro e w2 ⟨r2, rfl, hr2, hw2⟩
  subst hw2
  have HR2 := hid hr2; clear hr2
  by_cases hn2 : r2 < 0
  · go_wp2_with fail
    go_ret
    exact ⟨_, rfl, .inl (by omega), HB.out _⟩
  have hp2 : 0 ≤ r2 := by omega
  have hq2 : r2 ≤ 1048576 := by have := HR2.out; omega
  go_wp2_with fail
  refine (szIntS_any (.slice a3 x3.length c3) x3 r2 B _ (HS.out.2.2.1.below ((HB.out _).mono hB)) (by omega) (by omega)).mono ?_
  rintro e w3 ⟨r3, rfl, hr3, hw3⟩
  subst hw3
  have HR3 := hid hr3; clear hr3
  by_cases hn3 : r3 < 0
  · go_wp2_with fail
    go_ret
    exact ⟨_, rfl, .inl (by omega), HB.out _⟩
  have hp3 : 0 ≤ r3 := by omega
  have hq3 : r3 ≤ 1048576 := by have := HR3.out; omega
  go_wp2_with fail
  refine (szIntS_any (.slice a4 x4.length c4) x4 r3 B _ (HS.out.2.2.2.1.below ((HB.out _).mono hB)) (by omega) (by omega)).mono ?_
  rintro e w4 ⟨r4, rfl, hr4, hw4⟩
  subst hw4
  have HR4 := hid hr4; clear hr4
  by_cases hn4 : r4 < 0
  · go_wp2_with fail
    go_ret
    exact ⟨_, rfl, .inl (by omega), HB.out _⟩
  have hp4 : 0 ≤ r4 := by omega
  have hq4 : r4 ≤ 1048576 := by have := HR4.out; omega
  go_wp2_with fail
  refine (szIntS_any (.slice a5 x5.length c5) x5 r4 B _ (HS.out.2.2.2.2.1.below ((HB.out _).mono hB)) (by omega) (by omega)).mono ?_
  rintro e w5 ⟨r5, rfl, hr5, hw5⟩
  subst hw5
  have HR5 := hid hr5; clear hr5
  by_cases hn5 : r5 < 0
  · go_wp2_with fail
    go_ret
    exact ⟨_, rfl, .inl (by omega), HB.out _⟩
  have hp5 : 0 ≤ r5 := by omega
  have hq5 : r5 ≤ 1048576 := by have := HR5.out; omega
  go_wp2_with fail
  refine (szIntS_any (.slice a6 x6.length c6) x6 r5 B _ (HS.out.2.2.2.2.2.below ((HB.out _).mono hB)) (by omega) (by omega)).mono ?_
  rintro e w6 ⟨r6, rfl, hr6, hw6⟩
  subst hw6
  have HR6 := hid hr6; clear hr6
  by_cases hn6 : r6 < 0
  · go_wp2_with fail
    go_ret
    exact ⟨_, rfl, .inl (by omega), HB.out _⟩
  have hp6 : 0 ≤ r6 := by omega
  have hq6 : r6 ≤ 1048576 := by have := HR6.out; omega
  go_wp2_with fail
  go_ret
  exact ⟨_, rfl, .inr ⟨hp6, by have := HR1.out; omega, by have := HR2.out; omega, by have := HR3.out; omega, by have := HR4.out; omega, by have := HR5.out; omega, by have := HR6.out; omega⟩, HB.out _⟩

theorem at_world {P : Program} {f : FuncId} {args : Array Value} {w : World} {Q : Ending → World → Prop} (Z : World → Prop) (hZ : Z w) (h : ∀ W, Z W → Calls P f args W Q) : Calls P f args w Q := h w hZ
def zero7 : List Value := [.int .i64 0, .slice none 0 0, .slice none 0 0, .slice none 0 0, .slice none 0 0, .slice none 0 0, .slice none 0 0]
structure ToSt (w0 : World) (H : Nat) (A O : List Value) (W : World) : Prop where
  a : CellsAt W H A
  o : CellsAt W (H + 1 + 1) O
  f : ∀ j, j < 7 → W.frozen? ⟨H + 1 + 1, j, none⟩ = false
  r : CellsAt W (H + 1) zero7
  rf : ∀ j, j < 7 → W.frozen? ⟨H + 1, j, none⟩ = false
  b : Below H w0 W
  l : H + 1 + 1 < W.heap.size
theorem ToSt.below {w0 W W' : World} {H : Nat} {A O : List Value} (h : ToSt w0 H A O W) (hb : Below W.heap.size W W') : ToSt w0 H A O W' := by
  have hl := h.l
  exact ⟨h.a.below hb (by omega), h.o.below hb hl, fun j hj => by rw [hb.frozen (by exact hl)]; exact h.f j hj, h.r.below hb (by omega), fun j hj => by rw [hb.frozen (by show H + 1 < _; omega)]; exact h.rf j hj, h.b.trans (hb.mono (by omega)), Nat.lt_of_lt_of_le hl hb.size⟩
theorem ToSt.set {w0 W : World} {H : Nat} {A O : List Value} (h : ToSt w0 H A O W) (j : Nat) (hj : j < 7) (hO : O.length = 7) (u : Value) : ToSt w0 H A (O.set j u) (W.setCell ⟨H + 1 + 1, j, none⟩ u) := by
  have hl := h.l
  have ht := Touch.setCell (H + 1 + 1) j W u
  refine ⟨fun i hi => ?_, fun i hi => ?_, fun i hi => ?_, fun i hi => ?_, fun i hi => ?_, h.b.setCell (by show H ≤ H + 1 + 1; omega) _, by simpa [World.setCell] using hl⟩
  · rw [ht.cell (p := ⟨H, i, none⟩) (by show H ≠ H + 1 + 1; omega) (by show H < _; omega)]; exact h.a i hi
  · by_cases hij : i = j
    · subst hij
      have := h.o i hi
      rw [List.getElem?_set_self (by omega)]
      have hs : (W.cell? ⟨H + 1 + 1, i, none⟩).isSome := by rw [this]; simp [hO, hi]
      simp [go_sem, hs]
    · rw [List.getElem?_set_ne (Ne.symm hij), ← h.o i hi]
      simp [go_sem, hij, Ne.symm hij]
  · have := h.f i hi
    simpa [go_sem] using this
  · rw [ht.cell (p := ⟨H + 1, i, none⟩) (by show H + 1 ≠ H + 1 + 1; omega) (by show H + 1 < _; omega)]; exact h.r i hi
  · rw [show (W.setCell ⟨H + 1 + 1, j, none⟩ u).frozen? ⟨H + 1, i, none⟩ = W.frozen? ⟨H + 1, i, none⟩ from by simp only [World.frozen?, ht.block (H + 1) (by omega) (by omega)]]; exact h.rf i hi

end Go.Proofs.Ytjcpnlnajimjaaa
