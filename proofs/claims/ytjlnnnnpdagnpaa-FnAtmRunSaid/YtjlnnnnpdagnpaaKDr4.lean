/-
  Draws: a store of words.
-/
import Derived.Test.YtjlnnnnpdagnpaaKDr3
import Derived.Test.YtjlnnnnpdagnpaaJInv
import Derived.Deep.RegionHeld3
import Derived.Deep.RegionWith
set_option linter.unusedVariables false
set_option linter.unusedSimpArgs false
namespace Go.Proofs.Ytjlnnnnpdagnpaa
open Go.RowKit
attribute [local go_sem ↓] Go.wp_at_zero Go.wp_at_succ

theorem rep_rows (n : Nat) : (List.replicate n (0 : Int)).flatMap rowI = List.replicate n (Value.int .i64 0) := by rw [flat_rowI, List.map_replicate]
theorem owns_made {w : World} {base n : Nat} {v : Value} (h : w.ownsRow base 3 1 v n (List.replicate n (Value.int .i64 0))) : Owns w base 3 1 rowI v (List.replicate n (0 : Int)) := by
  unfold Owns
  rw [rep_rows, List.length_replicate]
  exact OwnR.of_row h
theorem memOk_rep : memOk (List.replicate 64 0) = true := by
  simp only [memOk, Bool.and_eq_true, beq_iff_eq, List.length_replicate, List.all_eq_true]
  exact ⟨trivial, fun x hx => by rw [(List.mem_replicate.1 hx).2]; decide⟩
theorem memOk_parts {ws : List Int} (h : memOk ws = true) : ws.length = 64 ∧ ws.all wordOk = true := by
  simpa only [memOk, Bool.and_eq_true, beq_iff_eq] using h
theorem memOk_set {ws : List Int} {k : Nat} {x : Int} (h : memOk ws = true) (hx : wordOk x = true) : memOk (ws.set k x) = true := by
  obtain ⟨h1, h2⟩ := memOk_parts h
  simp only [memOk, Bool.and_eq_true, beq_iff_eq]
  exact ⟨by simpa using h1, all_set h2 hx⟩

set_option maxHeartbeats 1000000 in
theorem memNew_any (w : World) : Calls Try.prog 104 #[] w fun e w' => ∃ g off c, e = .returned (.agg #[.slice (some ⟨g, off, none⟩) 64 c]) ∧ Owns w' w.heap.size 3 1 rowI (.slice (some ⟨g, off, none⟩) 64 c) (List.replicate 64 0) ∧ 64 ≤ c ∧ c ≤ 9223372036854775807 ∧ Below w.heap.size w w' := by
  obtain ⟨i1, hj, jz0, jz1, jz2⟩ := info_parts infoI
  go_enter Try.func104, Try.ntmps104
  go_wp2_with (at_make; go_must (refine wpList_make_full _ rfl _ _ 24 rfl (w.heap.size + 1) 3 i1 (.int .i64 0) 1 Try.underlying24 hj jz0 jz1 _ _ _ _ 64 rfl rfl rfl rfl (by rw [jz2]; omega) (by unfold maxLen; omega) (by simp) ?_); intro w1 hown hgrow; have hbx := (show Below (w.heap.size + 1) (w.alloc (.cells #[.slice none 0 0] 26)) w1 from (Below.refl _ _).grown hgrow (by simp) (by simp)); have d0 : w1.cell? ⟨w.heap.size, 0, none⟩ = some (.slice none 0 0) := (by rw [hbx.cell (p := ⟨w.heap.size, 0, none⟩) (by simp)]; simp [go_sem]); have d1 : w1.frozen? ⟨w.heap.size, 0, none⟩ = false := (by rw [hbx.frozen (p := ⟨w.heap.size, 0, none⟩) (by simp)]; simp [go_sem]))
  rw [show madeCells (Value.int .i64 0).cells (64 * 1) = madeCells #[.int .i64 0] 64 by rfl, toList_madeCells_one] at hown
  have HO := hid (owns_made hown)
  simp only [World.size_alloc] at HO
  have HB := hid hbx
  clear hown hgrow hbx
  go_wp2_with fail
  refine bodyPost_ret (v := .agg #[.slice (some ⟨w.heap.size + 1, 0, none⟩) 64 64]) (by simp [results, Try.results104, go_sem, d0]) rfl ⟨_, _, _, rfl, ?_, by omega, by omega, ?_⟩
  · exact (HO.out.rebase (by omega)).set' _ _ _ (fun k hk => by have := (OwnR.lt HO.out k hk).1; omega)
  · exact (((Below.refl _ _).alloc (Nat.le_refl _) _).trans (HB.out.mono (by omega))).setCell (by simp) _

def MemP (r B : Nat) (bs : List Nat) (p : Nat) (n : Int) (w : World) (e : Ending) (w' : World) : Prop :=
  ∃ v ws q, e = .returned (.agg #[v]) ∧ Owns w' w.heap.size 3 1 rowI v ws ∧ (∀ x ∈ ws, I64 x) ∧ ws.length ≤ 65 ∧ (9000 ≤ n → memOk ws = true) ∧ q ≤ p + 70 ∧ RdAt w' r B bs q ∧ Touch r w w'

theorem words64 {ws : List Int} (h : memOk ws = true) : ∀ x ∈ ws, I64 x := fun x hx => by
  have := List.all_eq_true.1 (memOk_parts h).2 x hx
  simp only [wordOk, inB, Bool.and_eq_true, decide_eq_true_eq] at this
  unfold I64; omega
/-- The rest of a list that is owned, but for its first. -/
theorem Owns.tail {α : Type} {w : World} {base e sz g off n c : Nat} {f : α → List Value} {xs : List α} (h : Owns w base e sz f (.slice (some ⟨g, off, none⟩) n c) xs) (hf : ∀ x, (f x).length = sz) (hn : 1 ≤ n) : Owns w base e sz f (.slice (some ⟨g, off + sz, none⟩) (n - 1) (c - 1)) xs.tail := by
  obtain ⟨hl, h2⟩ := h
  rcases h2 with ⟨h2, _⟩ | ⟨g', off', cap, cur, hv, hg, hh, hle, hmax, hsz, hc⟩
  · cases h2
  · simp only [Value.slice.injEq, Option.some.injEq, Addr.mk.injEq] at hv
    obtain ⟨⟨rfl, rfl, _⟩, rfl, rfl⟩ := hv
    obtain ⟨x, xs, rfl⟩ : ∃ x ys, xs = x :: ys := by
      rcases xs with _ | ⟨x, ys⟩
      · simp at hn
      · exact ⟨x, ys, rfl⟩
    have hcap : c * sz = (c - 1) * sz + sz := by
      have : c = (c - 1) + 1 := by simp at hle; omega
      rw [this, Nat.add_mul]; simp
    refine ⟨by rw [flatMap_len hf], .inr ⟨g, off + sz, c - 1, cur, by simp, hg, hh, by simp at hle ⊢; omega, by omega, by omega, fun j hj => ?_⟩⟩
    simp only [List.tail_cons] at hj ⊢
    have := hc (sz + j) (by simp only [List.length_cons, Nat.add_mul]; omega)
    rw [← Nat.add_assoc] at this
    rw [this, List.flatMap_cons, List.getElem?_append_right (by rw [hf]; omega), hf]
    congr 1; omega

/-- 'out = append(out, y)' onto what the call itself owns; but for its block nothing turns. -/
theorem wpList_pushT {α : Type} {ops : Array Oper} {rest : List Oper} {o : Oper} {a : Act} {Q : Exit → Act → World → Prop} {T e sz by_ : Nat} (E : Elem T e sz by_) (f : α → List Value) (hf : ∀ x, (f x).length = sz) (h1 : ∀ x, ∀ u ∈ f x, u.oneCell' = true)
    (w : World) (hgd : o.guard = none) (s x : Operand) (ho : o.op = .call { callee := .builtin .append, args := #[s, x], argTypes := #[T, T] })
    (base g : Nat) (v : Value) (hv : ∀ k, v.ownBlock = some k → k = g) (xs : List α) (y : α) (hs : a.eval s = v) (hown : Owns w base e sz f v xs) (cs : Array Value) (hcs : cs.toList = f y) (hx : a.eval x = .slice (some ⟨w.heap.size, 0, none⟩) 1 1)
    (hlen : (xs.length + 1) * by_ ≤ 140737488355328) (hlen2 : xs.length + 1 ≤ 9223372036854775807) (hbase : base ≤ w.heap.size)
    (h : ∀ v' w', Owns w' base e sz f v' (xs ++ [y]) → Touch g w w' → (∀ k, v'.ownBlock = some k → v.ownBlock = some k ∨ w.heap.size ≤ k) → wpList Try.prog ops Q rest (a.put o.dst v') w') :
    wpList Try.prog ops Q (o :: rest) a (w.alloc (.cells cs e)) := by
  obtain ⟨ht, i, z, hi, hz, hsize, hby, hzs, hsz⟩ := E
  have hown' : OwnR (w.alloc (.cells cs e)) base e sz v xs.length (xs.flatMap f) := OwnR.alloc hown _
  refine wpList_append_OwnR hgd s x T ho base e i z sz by_ ht hi hz hsize hby hzs v xs.length (xs.flatMap f) hs hown' ⟨w.heap.size, 0, none⟩ 1 1 (f y) hx (by rw [hf]; omega) ?_ (h1 y) (by unfold maxLen; omega) hlen (by simp; omega) ?_
  · intro j u hj
    rw [Addr.add_lit, Nat.zero_add, World.cell?_alloc_at _ _ _ _ rfl, ← hj, ← hcs]
    simp
  · intro v' w' ho' hg _ hbl
    refine h v' w' ?_ (Touch.trans ((Touch.refl g w).alloc _) ⟨hg.os, hg.tape, hg.output, hg.size, fun k hk hne => hg.block k hk (fun e => hne (hv k e.symm))⟩) (fun k hk => ?_)
    · unfold Owns
      simpa using ho'
    · rcases hbl with hbl | hbl
      · exact .inl (by rw [← hbl]; exact hk)
      · rw [hbl] at hk; right; simp at hk; omega

theorem Owns.putRow1' {w : World} {base e g off n c : Nat} {xs : List Int} (h : Owns w base e 1 rowI (.slice (some ⟨g, off, none⟩) n c) xs) (k : Nat) (hk : k < xs.length) (x : Int) {b : Nat} (hb : b = off + k) : Owns (w.setCell ⟨g, b, none⟩ (.int .i64 x)) base e 1 rowI (.slice (some ⟨g, off, none⟩) n c) (xs.set k x) := by
  subst hb; exact h.putI k hk x
/-- Two boxes of one cell each, not frozen: s0 holds v0, gm holds v. -/
def MB (w : World) (s0 gm : Nat) (v0 v : Value) : Prop := w.cell? ⟨gm, 0, none⟩ = some v ∧ w.frozen? ⟨gm, 0, none⟩ = false ∧ w.cell? ⟨s0, 0, none⟩ = some v0 ∧ w.frozen? ⟨s0, 0, none⟩ = false ∧ gm < w.heap.size ∧ s0 < w.heap.size
theorem MB.touch {w w' : World} {r s0 gm : Nat} {v0 v : Value} (h : MB w s0 gm v0 v) (ht : Touch r w w') (h1 : gm ≠ r) (h2 : s0 ≠ r) : MB w' s0 gm v0 v := by
  obtain ⟨a, b, c, d, e, f⟩ := h
  exact ⟨by rw [ht.cell (p := ⟨gm, 0, none⟩) h1 e]; exact a, by rw [ht.frozen (p := ⟨gm, 0, none⟩) h1 e]; exact b, by rw [ht.cell (p := ⟨s0, 0, none⟩) h2 f]; exact c, by rw [ht.frozen (p := ⟨s0, 0, none⟩) h2 f]; exact d, Nat.lt_of_lt_of_le e ht.size, Nat.lt_of_lt_of_le f ht.size⟩
theorem MB.setc {w : World} {s0 gm : Nat} {v0 v : Value} (h : MB w s0 gm v0 v) (g o : Nat) (u : Value) (h1 : gm ≠ g) (h2 : s0 ≠ g) : MB (w.setCell ⟨g, o, none⟩ u) s0 gm v0 v := h.touch (Touch.setCell g o w u) h1 h2
theorem MB.drewd {w : World} {s0 gm : Nat} {v0 v : Value} (h : MB w s0 gm v0 v) : MB w.drew s0 gm v0 v := h
theorem MB.alloc {w : World} {s0 gm : Nat} {v0 v : Value} (h : MB w s0 gm v0 v) (o : Obj) : MB (w.alloc o) s0 gm v0 v := by
  have hl := h.2.2.2.2
  have hb : Below w.heap.size w (w.alloc o) := (Below.refl _ _).alloc (Nat.le_refl _) o
  obtain ⟨a, b, c, d, e, f⟩ := h
  exact ⟨by rw [hb.cell (p := ⟨gm, 0, none⟩) e]; exact a, by rw [hb.frozen (p := ⟨gm, 0, none⟩) e]; exact b, by rw [hb.cell (p := ⟨s0, 0, none⟩) f]; exact c, by rw [hb.frozen (p := ⟨s0, 0, none⟩) f]; exact d, by simp; omega, by simp; omega⟩
theorem MB.setM {w : World} {s0 gm : Nat} {v0 v : Value} (h : MB w s0 gm v0 v) (u : Value) (hne : s0 ≠ gm) : MB (w.setCell ⟨gm, 0, none⟩ u) s0 gm v0 u := by
  have ht := Touch.setCell gm 0 w u
  obtain ⟨a, b, c, d, e, f⟩ := h
  exact ⟨by simp [go_sem, a], by simp [go_sem, b], by rw [ht.cell (p := ⟨s0, 0, none⟩) hne f]; exact c, by rw [ht.frozen (p := ⟨s0, 0, none⟩) hne f]; exact d, by simpa [World.setCell] using e, by simpa [World.setCell] using f⟩
theorem loadVar_mem (w : World) (g : Nat) (a : Value) (h0 : w.cell? ⟨g, 0, none⟩ = some a) : (loadVar 26 ⟨g, 0, none⟩).run Try.prog w = .ok (.agg #[a]) w := by
  simp [loadVar, go_sem, h0]
theorem app64I {ws : List Int} {y : Int} (h : ∀ x ∈ ws, I64 x) (hy : I64 y) : ∀ x ∈ ws ++ [y], I64 x := by
  intro x hx
  rcases List.mem_append.1 hx with hx | hx
  · exact h x hx
  · simp only [List.mem_singleton] at hx; rw [hx]; exact hy
theorem set64I {ws : List Int} {k : Nat} {y : Int} (h : ∀ x ∈ ws, I64 x) (hy : I64 y) : ∀ x ∈ ws.set k y, I64 x := by
  intro x hx
  rcases List.mem_or_eq_of_mem_set hx with h1 | h1
  · exact h x h1
  · rw [h1]; exact hy

set_option maxRecDepth 4000 in
set_option maxHeartbeats 8000000 in
theorem l20Mem_any (r B : Nat) (bs : List Nat) (p : Nat) (n : Int) (w : World) (h : RdAt w r B bs p) (hp : p ≤ 900000000) (h1 : 1 ≤ n) (hn : n ≤ 1099511627776) :
    Calls Try.prog 82 #[.pointer (some ⟨r, 0, none⟩), .int .i64 n] w (MemP r B bs p n w) := by
  have hrw := h.lt
  have h0 := h
  go_enter Try.func82, Try.ntmps82
  go_wp2_with (first
    | (go_at_call 104; refine (memNew_any _).mono ?_; rintro e w1 ⟨g, off, c, rfl, hown, hc1, hc2, hb⟩; have hb1 := (show Below w.heap.size w w1 from ((Below.refl _ _).alloc (Nat.le_refl _) _).trans (hb.mono (by simp))); have h := h0.kept hb1 hrw; have hz1 := hb.size; simp only [World.size_alloc] at hz1; have d0 : w1.cell? ⟨w.heap.size, 0, none⟩ = some (.slice none 0 0) := (by rw [hb.cell (p := ⟨w.heap.size, 0, none⟩) (by simp)]; simp [go_sem]); have d1 : w1.frozen? ⟨w.heap.size, 0, none⟩ = false := (by rw [hb.frozen (p := ⟨w.heap.size, 0, none⟩) (by simp)]; simp [go_sem]); have HOWN := hid (hown.rebase (show w.heap.size ≤ (w.alloc (.cells #[.slice none 0 0] 26)).heap.size by simp)); have HB1 := hid hb1; have hgl := hown.ltI; clear hown hb hb1 h0)
    | (go_at_call 44; go_must (refine (pick_p r B bs _ 8 _ (h.alloc _) (by omega) (by omega) (by omega)).mono ?_); rintro e w2 ⟨x, rfl, a0, a1, h, ht⟩))
  obtain ⟨m, rfl⟩ := Int.eq_ofNat_of_zero_le a0
  have hm : m ≤ 7 := by omega
  have hgl1 := hgl.1
  simp only [World.size_alloc] at hgl1
  obtain ⟨gm, hgm⟩ : ∃ gm, gm = w1.heap.size := ⟨_, rfl⟩
  have hwgm : w.heap.size + 1 ≤ gm := by omega
  have hggm : g < gm := by omega
  have HM := hid (show MB w2 w.heap.size gm (.slice none 0 0) (.slice (some ⟨g, off, none⟩) 64 c) from MB.touch (w := w1.alloc (.cells #[.slice (some ⟨g, off, none⟩) 64 c] 26)) ⟨by rw [hgm]; simp [go_sem], by rw [hgm]; simp [go_sem], by rw [World.cell?_alloc_past _ _ _ (by omega)]; exact d0, by rw [World.frozen?_alloc_past _ _ _ (by omega)]; exact d1, by simp; omega, by simp; omega⟩ ht (by omega) (by omega))
  have HT := hid (show Touch r w w2 from ((Touch.of_below HB1.out (Nat.le_refl _)).alloc _).trans ht)
  have HO := hid (show Owns w2 w.heap.size 3 1 rowI (.slice (some ⟨g, off, none⟩) 64 c) (List.replicate 64 0) from (HOWN.out.allocd _).touch ht hrw)
  rw [← hgm]
  clear hgm d0 d1 ht hz1 HOWN HB1 a0 a1 hgl
  go_loopw [6] (fun i wr => ∃ (k : Nat) (ws : List Int) (q : Nat), i = .int .i64 k ∧ k ≤ m ∧ q + 8 * k ≤ p + 1 + 8 * m ∧ memOk ws = true ∧ Owns wr w.heap.size 3 1 rowI (.slice (some ⟨g, off, none⟩) 64 c) ws ∧ RdAt wr r B bs q ∧ Touch r w wr ∧
      MB wr w.heap.size gm (.slice none 0 0) (.slice (some ⟨g, off, none⟩) 64 c)) (fun i _ => (intOf i).toNat)
  case atStart => exact ⟨m, _, p + 1, rfl, Nat.le_refl _, by omega, memOk_rep, HO.out, h, HT.out, HM.out⟩
  case round =>
    clear h HT HO HM
    obtain ⟨k, ws, q, rfl, hkm, hq, hmo, hown, h, ht, hmb⟩ := hrel
    have HMO := hid hmo; have HO := hid hown; have HT := hid ht; have HM := hid hmb
    obtain ⟨q0, q1, q2, q3, hgl2, hsl⟩ := hmb
    have hg2 := hown.ltI
    have hl64 := (memOk_parts hmo).1
    have HL := hid hl64
    clear hmo hown ht hl64
    by_cases hk : 0 < k
    · go_wp2_with fail
      go_region_held3 (fun w' => w'.cell? ⟨gm, 0, none⟩ = some (.slice (some ⟨g, off, none⟩) 64 c)) (first | exact z1 | exact z0 | (rw [World.cell?_setCell_far _ _ _ _ (by show g ≠ gm; omega)]; exact z1) | go_keep)
        (first
          | (go_at_call 83; (with_reducible refine (l20Addr_any r B bs q wr.drew h.drewd (by omega)).mono ?_); rintro e w3 ⟨x, rfl, hx0, hx1, h3, ht3⟩; obtain ⟨a, rfl⟩ := Int.eq_ofNat_of_zero_le hx0; have z0 : w3.cell? ⟨gm, 0, none⟩ = some (.slice (some ⟨g, off, none⟩) 64 c) := (HM.out.drewd.touch ht3 (by omega) (by omega)).1)
          | (go_at_call 44; (with_reducible refine (pick_p r B bs (q + 7) 256 _ h3 (by omega) (by omega) (by omega)).mono ?_); rintro e w4 ⟨y, rfl, hy0, hy1, h4, ht4⟩; have HT4 := hid (show Touch r wr w4 from ((Touch.refl r wr).drewd.trans ht3).trans ht4); have z1 : w4.cell? ⟨gm, 0, none⟩ = some (.slice (some ⟨g, off, none⟩) 64 c) := (HM.out.touch HT4.out (by omega) (by omega)).1; have HO4 := hid (HO.out.touch HT4.out hrw); have zc := HO4.out.cellI a (by rw [HL.out]; omega); have zf := HO4.out.frozenI a; have hai : (a : Int) < 64 := (by omega)))
      go_wp2_with fail
      go_roundw
      case rel => exact ⟨k - 1, ws.set a (y * 257), q + 8, by go_num, by omega, by omega, memOk_set HMO.out (by simp [wordOk, inB]; omega), HO4.out.putI a (by rw [HL.out]; omega) _, h4.kept ((Below.refl w.heap.size w4).setCell (by exact hg2.1) _) hrw, (HT.out.trans HT4.out).setNew hg2.1 _, (HM.out.touch HT4.out (by omega) (by omega)).setc _ _ _ (by omega) (by omega)⟩
      case measure => simp [intOf]; omega
    · obtain rfl : k = 0 := by omega
      have hqp : q ≤ p + 57 := by omega
      have HWS := hid (words64 HMO.out)
      clear hk hq hkm
      go_wp2_with (first
        | (go_at_call 60; (with_reducible refine (odd_any r B bs q n wr h (by omega) h1 hn).mono ?_); rintro e w3 ⟨b, q9, rfl, hb9, hq9, h3, ht3⟩; have HM3 := hid (HM.out.touch ht3 (by omega) (by omega)); obtain ⟨q0, q1, q2, q3, hgl3, hsl3⟩ := HM3.out; have HO3 := hid (HO.out.touch ht3 hrw); have HT3 := hid (HT.out.trans ht3); have hs3 := ht3.size; have HB9 := hid hb9; clear hb9 ht3; cases b)
        | (go_at_call 44; (with_reducible refine (pick_p r B bs q9 3 w3 h3 (by omega) (by omega) (by omega)).mono ?_); rintro e w4 ⟨y, rfl, y0, y1, h4, ht4⟩; have HM4 := hid (HM3.out.touch ht4 (by omega) (by omega)); obtain ⟨q0, q1, q2, q3, hgl4, hsl4⟩ := HM4.out; have HO4 := hid (HO3.out.touch ht4 hrw); have HT4 := hid (HT3.out.trans ht4); have hs4 := ht4.size; clear ht4; rcases (show y = 0 ∨ y = 1 ∨ y = 2 by omega) with rfl | rfl | rfl)
        | (at_builtin; go_must (refine wpList_pushT elem_int rowI rowI_len rowI_one w4 rfl _ _ rfl w.heap.size g _ (fun k hk => by simp [Value.ownBlock] at hk; omega) _ 0 (by rfl) HO4.out _ (by rfl) (by rfl) (by rw [HL.out]; omega) (by rw [HL.out]; omega) (by omega) ?_; intro v' w5 ho5 ht5 hvb; obtain ⟨va, vc, rfl, hvc1, hvc2⟩ := ho5.shape; have HVB := hid (show ∀ k, (Value.slice va (ws ++ [0]).length vc).ownBlock = some k → k ≠ gm ∧ k ≠ w.heap.size from fun k hk => by first | omega | (rcases hvb k hk with hk | hk <;> first | omega | (simp [Value.ownBlock] at hk; omega))); clear hvb; have HM5 := hid (HM4.out.touch ht5 (by omega) (by omega)); obtain ⟨q0, q1, q2, q3, hgl5, hsl5⟩ := HM5.out; have HO5 := hid ho5; have HT5 := hid (show Touch r w w5 from ⟨ht5.os.trans HT4.out.os, ht5.tape.trans HT4.out.tape, ht5.output.trans HT4.out.output, Nat.le_trans HT4.out.size ht5.size, fun k hk hr => by rw [ht5.block k (by omega) (by omega)]; exact HT4.out.block k hk hr⟩); have H5 := hid (h4.kept (C := w.heap.size) ⟨ht5.os, ht5.tape, ht5.output, ht5.size, fun k hk => ht5.block k (by omega) (by omega)⟩ hrw); clear ho5 ht5))
        | fail)
      · refine bodyPost_ret (results_c1 Try.results82 _ _ ⟨w.heap.size, 0, none⟩ (.agg #[.slice (some ⟨g, off, none⟩) 64 c]) rfl (loadVar_mem _ _ _ (by simp [go_sem, *]))) rfl ⟨_, ws, q9, rfl, ?o, HWS.out, by rw [HL.out]; omega, fun _ => HMO.out, by omega, ?r, ?t⟩
        case o => repeat (first | with_reducible exact HO3.out | with_reducible exact HO3 | with_reducible refine Owns.drewd ?_ | with_reducible refine Owns.allocd ?_ _ | with_reducible refine Owns.putRow1' ?_ _ (by rw [HL.out]; omega) _ rfl | with_reducible refine Owns.set' ?_ _ _ _ (fun j hj => by simp [Value.ownBlock] at hj; omega))
        case r => repeat (first | with_reducible exact h3 | with_reducible refine RdAt.drewd ?_ | with_reducible refine RdAt.alloc ?_ _ | with_reducible refine RdAt.setNew ?_ hrw (by omega) _ _)
        case t => repeat (first | with_reducible exact HT3.out | with_reducible refine Touch.drewd ?_ | with_reducible refine Touch.alloc ?_ _ | with_reducible refine Touch.setNew ?_ (by omega) _)
      · refine bodyPost_ret (results_c1 Try.results82 _ _ ⟨w.heap.size, 0, none⟩ (.agg #[.slice (some ⟨g, off + 1, none⟩) 63 (c - 1)]) rfl (loadVar_mem _ _ _ (by simp [go_sem, *]))) rfl ⟨_, ws.tail, q9 + 1, rfl, ?o, fun x hx => HWS.out x (List.mem_of_mem_tail hx), by simp [HL.out], fun h9 => absurd (HB9.out h9) (by simp), by omega, ?r, ?t⟩
        case o => repeat (first | with_reducible exact (HO4.out.tail rowI_len (by omega)).out | with_reducible exact (HO4.out.tail rowI_len (by omega)) | with_reducible refine Owns.drewd ?_ | with_reducible refine Owns.allocd ?_ _ | with_reducible refine Owns.putRow1' ?_ _ (by rw [HL.out]; omega) _ rfl | with_reducible refine Owns.set' ?_ _ _ _ (fun j hj => by simp [Value.ownBlock] at hj; omega))
        case r => repeat (first | with_reducible exact h4 | with_reducible refine RdAt.drewd ?_ | with_reducible refine RdAt.alloc ?_ _ | with_reducible refine RdAt.setNew ?_ hrw (by omega) _ _)
        case t => repeat (first | with_reducible exact HT4.out | with_reducible refine Touch.drewd ?_ | with_reducible refine Touch.alloc ?_ _ | with_reducible refine Touch.setNew ?_ (by omega) _)
      · go_region_with (first
            | (go_at_call 44; (with_reducible refine (pick_p r B bs (q9 + 1) 64 w4.drew h4.drewd (by omega) (by omega) (by omega)).mono ?_); rintro e w5 ⟨a', rfl, a0, a1, h5, ht5⟩; obtain ⟨a, rfl⟩ := Int.eq_ofNat_of_zero_le a0; have hal : a < 64 := (by omega); have hs5 : w4.heap.size ≤ w5.heap.size := (by have := ht5.size; first | omega | (simp at this; omega)); have HM5 := hid (HM4.out.drewd.touch ht5 (by omega) (by omega)); obtain ⟨q0, q1, q2, q3, hgl5, hsl5⟩ := HM5.out; have HO5 := hid (HO4.out.drewd.touch ht5 hrw); have HT5 := hid (HT4.out.drewd.trans ht5))
            | (go_at_call 44; (with_reducible refine (pick_p r B bs (q9 + 1) 64 (w4.alloc _).drew (h4.alloc _).drewd (by omega) (by omega) (by omega)).mono ?_); rintro e w5 ⟨a', rfl, a0, a1, h5, ht5⟩; obtain ⟨a, rfl⟩ := Int.eq_ofNat_of_zero_le a0; have hal : a < 64 := (by omega); have hs5 : w4.heap.size ≤ w5.heap.size := (by have := ht5.size; first | omega | (simp at this; omega)); have TT := hid (Touch.tab ht5.ofDrew h4.lt); have HM5 := hid ((HM4.out.alloc _).drewd.touch ht5 (by omega) (by omega)); obtain ⟨q0, q1, q2, q3, hgl5, hsl5⟩ := HM5.out; have HO5 := hid ((HO4.out.allocd _).drewd.touch ht5 hrw); have HT5 := hid ((HT4.out.alloc _).drewd.trans ht5))
            | (go_at_call 44; (with_reducible refine (pick_p r B bs (q9 + 1 + 1) 2 w5 h5 (by omega) (by omega) (by omega)).mono ?_); rintro e w6 ⟨z', rfl, z0, z1, h6, ht6⟩; have hs6 : w5.heap.size ≤ w6.heap.size := (by have := ht6.size; first | omega | (simp at this; omega)); obtain ⟨z, rfl⟩ := Int.eq_ofNat_of_zero_le z0; have hz : z < 2 := (by omega); obtain ⟨y, hl1, hy⟩ := tab2 (-1) 65536 hz; have hl2 := tab_arr hl1; clear hz; have hzi : (z : Int) < 2 := z1; clear z1; have HM6 := hid (HM5.out.touch ht6 (by omega) (by omega)); obtain ⟨q0, q1, q2, q3, hgl6, hsl6⟩ := HM6.out; have HO6 := hid (HO5.out.touch ht6 hrw); have HT6 := hid (HT5.out.trans ht6); have zc := HO6.out.cellI a (by rw [HL.out]; omega); have zf := HO6.out.frozenI a; have hg6 : g < w6.heap.size := (by omega); first | (have tB := (ht6.cell (p := ⟨w4.heap.size, z, none⟩) (by show w4.heap.size ≠ r; omega) (by show w4.heap.size < w5.heap.size; exact World.block_lt_of_cell? w5 _ (TT.out z _ hl2))).trans (TT.out z _ hl2)) | skip)
            | (go_at_call 44; (with_reducible refine (pick_p r B bs (q9 + 1 + 1) 2 (w5.alloc _) (h5.alloc _) (by omega) (by omega) (by omega)).mono ?_); rintro e w6 ⟨z', rfl, z0, z1, h6, ht6⟩; have hs6 : w5.heap.size ≤ w6.heap.size := (by have := ht6.size; first | omega | (simp at this; omega)); obtain ⟨z, rfl⟩ := Int.eq_ofNat_of_zero_le z0; have hz : z < 2 := (by omega); obtain ⟨y, hl1, hy⟩ := tab2 (-1) 65536 hz; have hl2 := tab_arr hl1; clear hz; have hzi : (z : Int) < 2 := z1; clear z1; have HM6 := hid ((HM5.out.alloc _).touch ht6 (by omega) (by omega)); obtain ⟨q0, q1, q2, q3, hgl6, hsl6⟩ := HM6.out; have HO6 := hid ((HO5.out.allocd _).touch ht6 hrw); have HT6 := hid ((HT5.out.alloc _).trans ht6); have zc := HO6.out.cellI a (by rw [HL.out]; omega); have zf := HO6.out.frozenI a; have hg6 : g < w6.heap.size := (by omega); have tB := Touch.tab ht6 h5.lt z _ hl2))
        all_goals
          go_wp2_with fail
          refine bodyPost_ret (results_c1 Try.results82 _ _ ⟨w.heap.size, 0, none⟩ (.agg #[.slice (some ⟨g, off, none⟩) 64 c]) rfl (loadVar_mem _ _ _ (by simp [go_sem, *]))) rfl ⟨_, ws.set a y, q9 + 1 + 1 + 1, rfl, ?o, set64I HWS.out (by unfold I64; omega), by simp [HL.out], fun h9 => absurd (HB9.out h9) (by simp), by omega, ?r, ?t⟩
          case o => repeat (first | with_reducible exact HO6.out | with_reducible exact HO6 | with_reducible refine Owns.drewd ?_ | with_reducible refine Owns.allocd ?_ _ | with_reducible refine Owns.putRow1' ?_ _ (by rw [HL.out]; omega) _ rfl | with_reducible refine Owns.set' ?_ _ _ _ (fun j hj => by simp [Value.ownBlock] at hj; omega))
          case r => repeat (first | with_reducible exact h6 | with_reducible refine RdAt.drewd ?_ | with_reducible refine RdAt.alloc ?_ _ | with_reducible refine RdAt.setNew ?_ hrw (by omega) _ _)
          case t => repeat (first | with_reducible exact HT6.out | with_reducible refine Touch.drewd ?_ | with_reducible refine Touch.alloc ?_ _ | with_reducible refine Touch.setNew ?_ (by omega) _)
      · refine bodyPost_ret (results_c1 Try.results82 _ _ ⟨w.heap.size, 0, none⟩ (.agg #[.slice va (ws ++ [0]).length vc]) rfl (loadVar_mem _ _ _ (by simp [go_sem, *]))) rfl ⟨_, ws ++ [0], q9 + 1, rfl, ?o, app64I HWS.out (by simp [I64]), by simp [HL.out], fun h9 => absurd (HB9.out h9) (by simp), by omega, ?r, ?t⟩
        case o => repeat (first | with_reducible exact HO5.out | with_reducible exact HO5 | with_reducible refine Owns.drewd ?_ | with_reducible refine Owns.allocd ?_ _ | with_reducible refine Owns.putRow1' ?_ _ (by rw [HL.out]; omega) _ rfl | with_reducible refine Owns.set' ?_ _ _ _ (fun j hj => (HVB.out j hj).1) | with_reducible refine Owns.set' ?_ _ _ _ (fun j hj => (HVB.out j hj).2))
        case r => repeat (first | with_reducible exact H5.out | with_reducible refine RdAt.drewd ?_ | with_reducible refine RdAt.alloc ?_ _ | with_reducible refine RdAt.setNew ?_ hrw (by omega) _ _)
        case t => repeat (first | with_reducible exact HT5.out | with_reducible refine Touch.drewd ?_ | with_reducible refine Touch.alloc ?_ _ | with_reducible refine Touch.setNew ?_ (by omega) _)

end Go.Proofs.Ytjlnnnnpdagnpaa
