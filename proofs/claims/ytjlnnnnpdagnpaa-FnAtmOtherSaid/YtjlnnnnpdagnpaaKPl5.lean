/-
  Plain laws: to hold and to try.
-/
import Derived.Test.YtjlnnnnpdagnpaaJPl1
set_option linter.unusedVariables false
set_option linter.unusedSimpArgs false
namespace Go.Proofs.Ytjlnnnnpdagnpaa

theorem at6 {who id : Int} (hw : 0 ≤ who ∧ who ≤ 2) (hi : 0 ≤ id ∧ id ≤ 1) : (who * 2 + id).toNat < 6 := by omega
theorem set_at {hs : List Int} {i : Nat} {a : Int} (hi : i < hs.length) : (hs.set i a).getD i 0 = a := by simp [List.getD, hi]

theorem try_law {ws hs : List Int} {who id a l a2 : Int} (ha : atmOk ws hs = true) (hw : 0 ≤ who ∧ who ≤ 2) (hi : 0 ≤ id ∧ id ≤ 1) (h : 0 ≤ a ∧ a ≤ 63) (hl : 0 ≤ l ∧ l ≤ 3) (h2 : 0 ≤ a2 ∧ a2 ≤ 63) (hne : a2 ≠ a)
    {X1 X2 Z T2 V T3 T4 : List Int × List Int × Rs} (e1 : X1 = atmDo ms1 ws hs who (holdOf id a)) (e2 : X2 = atmDo ms1 X1.1 X1.2.1 who (tryOf id a 77)) (e3 : Z = atmDo ms1 X1.1 X1.2.1 ((who + 1) % 3) (writeOf a 5 l))
    (e4 : T2 = atmDo ms1 Z.1 Z.2.1 who (tryOf id a 77)) (e5 : V = atmDo ms1 X1.1 X1.2.1 ((who + 1) % 3) (writeOf a2 5 3)) (e6 : T3 = atmDo ms1 V.1 V.2.1 who (tryOf id a 77)) (e7 : T4 = atmDo ms1 X2.1 X2.2.1 who (tryOf id a 77)) :
    X2.2.2.code = 2 ∧ X2.1.getD a.toNat 0 = 77 ∧ X2.1.length = 64 ∧ T2.2.2.code = 1 ∧ T3.2.2.code = 2 ∧ T4.2.2.code = 1 := by
  have hp := atmOk_parts ha
  have h6 := at6 hw hi
  obtain ⟨i, hie⟩ : ∃ i, i = (who * 2 + id).toNat := ⟨_, rfl⟩
  rw [← hie] at h6
  have hwd : wordOk 77 = true := by decide
  have hwo : 0 ≤ (who + 1) % 3 ∧ (who + 1) % 3 ≤ 2 := by omega
  have k1 := do_hold1 ha hw hi h
  have a1 : atmOk X1.1 X1.2.1 = true := by rw [e1]; exact ok_behind k1.1
  rw [← e1] at k1
  rw [← hie] at k1
  have x1 : X1.1 = ws := by rw [k1.2]
  have x2 : X1.2.1 = hs.set i a := by rw [k1.2]
  have k2 := do_try1 (d := 77) a1 hw hi h hwd
  have a2' : atmOk X2.1 X2.2.1 = true := by rw [e2]; exact ok_behind k2.1
  rw [← e2, ← hie] at k2
  have g1 : X1.2.1.getD i 0 = a := by rw [x2]; exact set_at (by omega)
  have k22 := k2.2
  rw [if_pos g1] at k22
  have k3 := do_write1 (d := 5) (l := l) a1 hwo h (by decide) hl
  have a3 : atmOk Z.1 Z.2.1 = true := by rw [e3]; exact ok_behind k3.1
  rw [← e3] at k3
  have k4 := do_try1 (d := 77) a3 hw hi h hwd
  rw [← e4, ← hie] at k4
  have k5 := do_write1 (d := 5) (l := 3) a1 hwo h2 (by decide) (by omega)
  have a5 : atmOk V.1 V.2.1 = true := by rw [e5]; exact ok_behind k5.1
  rw [← e5] at k5
  have k6 := do_try1 (d := 77) a5 hw hi h hwd
  rw [← e6, ← hie] at k6
  have k7 := do_try1 (d := 77) a2' hw hi h hwd
  rw [← e7, ← hie] at k7
  have hlx : i < X1.2.1.length := by have := (atmOk_parts a1).2.1; omega
  have g3 : Z.2.1.getD i 0 = -1 := by rw [k3.2]; simp only; rw [free_at g1 hlx, if_pos rfl]
  have g5 : V.2.1.getD i 0 = a := by rw [k5.2]; simp only; rw [free_at g1 hlx, if_neg (Ne.symm hne)]
  have g7 : X2.2.1.getD i 0 = -1 := by rw [k22]; simp only; rw [free_at g1 hlx, if_pos rfl]
  have k42 := k4.2; rw [if_neg (by rw [g3]; omega)] at k42
  have k62 := k6.2; rw [if_pos g5] at k62
  have k72 := k7.2; rw [if_neg (by rw [g7]; omega)] at k72
  refine ⟨by rw [k22], ?_, (atmOk_parts a2').1, by rw [k42], by rw [k62], by rw [k72]⟩
  rw [k22]
  simp only
  rw [putW_all _ _ hwd]
  exact set_at (by have := (atmOk_parts a1).1; omega)

/-- Who holds another address by the same name holds that alone. -/
theorem other_law {ws hs : List Int} {a j : Int} (ha : atmOk ws hs = true) (hj : 0 ≤ j ∧ j ≤ 1) (h : 0 ≤ a ∧ a ≤ 29) :
    atmRun ms1 ws hs 1 [holdOf 0 a, holdOf j (a + 1), tryOf 0 a 1] = ((atmRun ms1 ws hs 1 [holdOf 0 a, holdOf j (a + 1), tryOf 0 a 1]).1, (atmRun ms1 ws hs 1 [holdOf 0 a, holdOf j (a + 1), tryOf 0 a 1]).2.1, (atmRun ms1 ws hs 1 [holdOf 0 a, holdOf j (a + 1), tryOf 0 a 1]).2.2) ∧
      (atmRun ms1 ws hs 1 [holdOf 0 a, holdOf j (a + 1), tryOf 0 a 1]).2.2.length = 3 ∧ ((atmRun ms1 ws hs 1 [holdOf 0 a, holdOf j (a + 1), tryOf 0 a 1]).2.2.getD 2 default).code = if j = 1 then 2 else 1 := by
  have r1 := holdOf_ok (i := 0) (a := a) (by omega) (by omega)
  have r2 := holdOf_ok (i := j) (a := a + 1) hj (by omega)
  have r3 := tryOf_ok (i := 0) (a := a) (d := 1) (by omega) (by omega) (by decide)
  have hok : runOk ms1 ws hs 1 [holdOf 0 a, holdOf j (a + 1), tryOf 0 a 1] = true := runOk_parts.2 ⟨ms1_ok, ha, by decide, by simp, by simp [r1, r2, r3]⟩
  refine ⟨rfl, ?_, ?_⟩
  · unfold atmRun; rw [if_pos hok, run_len]; rfl
  · unfold atmRun; rw [if_pos hok]
    have k1 := do_hold1 (who := 1) (i := 0) (a := a) ha (by omega) (by omega) (by omega)
    have a1 := ok_behind k1.1
    have k2 := do_hold1 (who := 1) (i := j) (a := a + 1) a1 (by omega) hj (by omega)
    have a2 := ok_behind k2.1
    have k3 := do_try1 (who := 1) (i := 0) (a := a) (d := 1) a2 (by omega) (by omega) (by omega) (by decide)
    have hl := (atmOk_parts ha).2.1
    simp only [runReq]
    rw [atmDo_yes k1.1] at k1 a1 k2 a2 k3
    rw [atmDo_yes k2.1] at k2 a2 k3
    rw [atmDo_yes k3.1] at k3
    simp only [List.getD_cons_succ, List.getD_cons_zero]
    rw [k3.2, k2.2, k1.2]
    simp only
    have e : ((hs.set (1 * 2 + 0 : Int).toNat a).set (1 * 2 + j).toNat (a + 1)).getD (1 * 2 + 0 : Int).toNat 0 = if j = 1 then a else a + 1 := by
      by_cases hj1 : j = 1
      · subst hj1
        rw [if_pos rfl]
        rw [lget_set_ne (by decide)]
        exact set_at (by rw [hl]; decide)
      · have : j = 0 := by omega
        subst this
        rw [if_neg (by omega)]
        exact set_at (by simp [hl])
    rw [e]
    by_cases hj1 : j = 1
    · rw [if_pos hj1, if_pos rfl, if_pos hj1]
    · rw [if_neg hj1, if_neg (by omega), if_neg hj1]

end Go.Proofs.Ytjlnnnnpdagnpaa
