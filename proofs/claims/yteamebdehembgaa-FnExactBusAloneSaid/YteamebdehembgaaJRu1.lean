/-
  AtmRun of the program: the walk.
-/
import Derived.Test.YteamebdehembgaaJEx1
import Derived.Test.YteamebdehembgaaJCr1
import Derived.Test.YteamebdehembgaaJPl1
import Derived.Test.YteamebdehembgaaJDo6
import Derived.Outline
set_option linter.unusedVariables false
set_option linter.unusedSimpArgs false
namespace Go.Proofs.Yteamebdehembgaa
open Go.RowKit

def rowR (x : Int × Int × Value) : List Value := [.int .i64 x.1, .int .i64 x.2.1, x.2.2]
theorem rowR_len (x : Int × Int × Value) : (rowR x).length = 3 := rfl
def zR : Int × Int × Value := (0, 0, .slice none 0 0)
def mkRows (out : List Rs) (ds : List Value) : List (Int × Int × Value) := List.zipWith (fun x d => (x.id, x.code, d)) out ds
theorem mkRows_len (out : List Rs) (ds : List Value) (h : ds.length = out.length) : (mkRows out ds).length = out.length := by simp [mkRows, h]

/-- AtmRun amid its rounds: the store, and what was told so far. -/
structure RunI (w : World) (base S gw ow cw gh oh ch g n : Nat) (ws hs : List Int) (out : List Rs) (ds : List Value) : Prop where
  at_ : AtmAt w base S gw ow cw gh oh ch ws hs
  rows : Owns w base 66 3 rowR (.slice (some ⟨g, 0, none⟩) n n) (mkRows out ds ++ List.replicate (n - out.length) zR)
  len : ds.length = out.length
  le : out.length ≤ n
  data : ∀ j, j < out.length → Owns w base 3 1 rowI (ds.getD j undef) (out.getD j default).data
  ng : g ≠ gw ∧ g ≠ gh ∧ g ≠ S
  ap : List.Pairwise Apart (.slice (some ⟨gw, ow, none⟩) 64 cw :: .slice (some ⟨gh, oh, none⟩) 6 ch :: .slice (some ⟨g, 0, none⟩) n n :: ds)

/-- What AtmRun comes to: each list of numbers that it hands back has a block of its own. -/
def AtmRunP (x : List Int × List Int × List Rs) (w : World) (e : Ending) (w' : World) : Prop :=
  ∃ wv hv dv ds, e = .returned (.tuple #[.agg #[wv, hv], dv]) ∧ Owns w' w.heap.size 3 1 rowI wv x.1 ∧ Owns w' w.heap.size 3 1 rowI hv x.2.1 ∧ Owns w' w.heap.size 66 3 rowR dv (mkRows x.2.2 ds) ∧ ds.length = x.2.2.length ∧
    (∀ j, j < x.2.2.length → Owns w' w.heap.size 3 1 rowI (ds.getD j undef) (x.2.2.getD j default).data) ∧ List.Pairwise Apart (wv :: hv :: dv :: ds) ∧ Below w.heap.size w w'

/-- What AtmRun has laid: the store, and the first result's cells. -/
def RnBox (w : World) (g : Nat) (wv hv : Value) : Prop :=
  (w.cell? ⟨g, 0, none⟩ = some wv ∧ w.cell? ⟨g, 1, none⟩ = some hv) ∧
    (w.cell? ⟨g + 1, 0, none⟩ = some (.slice none 0 0) ∧ w.cell? ⟨g + 1, 1, none⟩ = some (.slice none 0 0) ∧ w.frozen? ⟨g + 1, 0, none⟩ = false ∧ w.frozen? ⟨g + 1, 1, none⟩ = false)
theorem RnBox.below {w w' : World} {g C : Nat} {wv hv : Value} (h : RnBox w g wv hv) (hb : Below C w w') (hg : g + 1 < C) : RnBox w' g wv hv := by
  obtain ⟨⟨a, b⟩, ⟨d, e, f, i⟩⟩ := h
  refine ⟨⟨?_, ?_⟩, ⟨?_, ?_, ?_, ?_⟩⟩
  · rw [hb.cell (by show g < C; omega)]; exact a
  · rw [hb.cell (by show g < C; omega)]; exact b
  · rw [hb.cell (by show g + 1 < C; omega)]; exact d
  · rw [hb.cell (by show g + 1 < C; omega)]; exact e
  · rw [hb.frozen (by show g + 1 < C; omega)]; exact f
  · rw [hb.frozen (by show g + 1 < C; omega)]; exact i
theorem RnBox.lt {w : World} {g : Nat} {wv hv : Value} (h : RnBox w g wv hv) : g + 1 < w.heap.size := World.block_lt_of_cell? w _ h.2.1
theorem rn_open (w : World) (wv hv : Value) (T V : TypeId) : RnBox ((w.alloc (.cells #[wv, hv] T)).alloc (.cells #[.slice none 0 0, .slice none 0 0] V)) w.heap.size wv hv := by
  refine ⟨⟨?_, ?_⟩, ⟨?_, ?_, ?_, ?_⟩⟩ <;> simp [go_sem]

theorem run_take {ms : List MR} {who : Int} {rs : List Rq} {ws hs : List Int} {k : Nat} (hk : k < rs.length) :
    runReq ms who ws hs (rs.take (k + 1)) = ((doReq ms (runReq ms who ws hs (rs.take k)).1 (runReq ms who ws hs (rs.take k)).2.1 who (rs.getD k default)).1, (doReq ms (runReq ms who ws hs (rs.take k)).1 (runReq ms who ws hs (rs.take k)).2.1 who (rs.getD k default)).2.1,
      (runReq ms who ws hs (rs.take k)).2.2 ++ [(doReq ms (runReq ms who ws hs (rs.take k)).1 (runReq ms who ws hs (rs.take k)).2.1 who (rs.getD k default)).2.2]) := by
  have : rs.take (k + 1) = rs.take k ++ [rs.getD k default] := by
    rw [List.take_succ_eq_append_getElem hk]; simp [List.getD, hk]
  rw [this, run_app]
  simp [runReq]
theorem mkRows_snoc {out : List Rs} {ds : List Value} (h : ds.length = out.length) (x : Rs) (d : Value) : mkRows (out ++ [x]) (ds ++ [d]) = mkRows out ds ++ [(x.id, x.code, d)] := by
  unfold mkRows
  rw [List.zipWith_append h.symm]; rfl
theorem fill_next {α : Type} {xs : List α} {n : Nat} {z y : α} (h : xs.length < n) : (xs ++ List.replicate (n - xs.length) z).set xs.length y = xs ++ [y] ++ List.replicate (n - (xs.length + 1)) z := by
  rw [List.set_append_right _ _ (Nat.le_refl _), Nat.sub_self, show n - xs.length = (n - (xs.length + 1)) + 1 from by omega, List.replicate_succ, List.set_cons_zero, List.append_assoc]
  rfl
theorem pair_snoc {α : Type} {R : α → α → Prop} {xs : List α} {y : α} (h : xs.Pairwise R) (hy : ∀ x ∈ xs, R x y) : (xs ++ [y]).Pairwise R := by
  rw [List.pairwise_append]
  exact ⟨h, List.pairwise_singleton _ _, fun a ha b hb => by simp only [List.mem_singleton] at hb; subst hb; exact hy a ha⟩

theorem RunI.lts {w : World} {base S gw ow cw gh oh ch g n : Nat} {ws hs : List Int} {out : List Rs} {ds : List Value} (h : RunI w base S gw ow cw gh oh ch g n ws hs out ds) :
    ∀ v ∈ ((.slice (some ⟨gw, ow, none⟩) 64 cw :: .slice (some ⟨gh, oh, none⟩) 6 ch :: .slice (some ⟨g, 0, none⟩) n n :: ds) : List Value), ∀ k, v.ownBlock = some k → k < w.heap.size := by
  intro v hv k hk
  simp only [List.mem_cons] at hv
  rcases hv with rfl | rfl | rfl | hv
  · exact (OwnR.lt h.at_.ww k hk).2
  · exact (OwnR.lt h.at_.hh k hk).2
  · exact (OwnR.lt h.rows k hk).2
  · obtain ⟨j, hj, rfl⟩ := List.mem_iff_getElem.1 hv
    have := h.data j (by rw [← h.len]; exact hj)
    have e : ds.getD j undef = ds[j] := by simp [List.getD, hj]
    rw [e] at this
    exact (OwnR.lt this k hk).2
theorem RunI.dApart {w : World} {base S gw ow cw gh oh ch g n : Nat} {ws hs : List Int} {out : List Rs} {ds : List Value} (h : RunI w base S gw ow cw gh oh ch g n ws hs out ds) {j : Nat} (hj : j < out.length) :
    ∀ k, (ds.getD j undef).ownBlock = some k → k ≠ gw ∧ k ≠ gh ∧ k ≠ g ∧ k < w.heap.size := by
  intro k hk
  have hjd : j < ds.length := by rw [h.len]; exact hj
  have hm : ds.getD j undef ∈ ds := by simp [List.getD, hjd]
  have ap := h.ap
  simp only [List.pairwise_cons] at ap
  obtain ⟨a1, a2, a3, _⟩ := ap
  have e1 := a1 _ (List.mem_cons_of_mem _ (List.mem_cons_of_mem _ hm)) gw rfl
  have e2 := a2 _ (List.mem_cons_of_mem _ hm) gh rfl
  have e3 := a3 _ hm g rfl
  rw [hk] at e1 e2 e3
  simp only [ne_eq, Option.some.injEq] at e1 e2 e3
  exact ⟨e1, e2, e3, (OwnR.lt (h.data j hj) k hk).2⟩
/-- New memory leaves it. -/
theorem RunI.below {w w' : World} {base S gw ow cw gh oh ch g n : Nat} {ws hs : List Int} {out : List Rs} {ds : List Value} (h : RunI w base S gw ow cw gh oh ch g n ws hs out ds) (hb : Below w.heap.size w w') : RunI w' base S gw ow cw gh oh ch g n ws hs out ds :=
  ⟨h.at_.kept hb (Nat.le_refl _), h.rows.below hb, h.len, h.le, fun j hj => (h.data j hj).below hb, h.ng, h.ap⟩
/-- One thing more is done, and told. -/
theorem RunI.step {w w' : World} {base S gw ow cw gh oh ch g n k : Nat} {ws hs : List Int} {out : List Rs} {ds : List Value} {ws' hs' : List Int} {x : Rs} {d : Value} (h : RunI w base S gw ow cw gh oh ch g n ws hs out ds) (hk0 : out.length = k) (hn : k < n)
    (ht : Touch2 gw gh w w') (ha : AtmAt w' base S gw ow cw gh oh ch ws' hs') (hd : Owns w' w.heap.size 3 1 rowI d x.data) :
    RunI (((w'.setCell ⟨g, k * 3, none⟩ (.int .i64 x.id)).setCell ⟨g, k * 3 + 1, none⟩ (.int .i64 x.code)).setCell ⟨g, k * 3 + 2, none⟩ d) base S gw ow cw gh oh ch g n ws' hs' (out ++ [x]) (ds ++ [d]) := by
  subst hk0
  obtain ⟨n1, n2, n3⟩ := h.ng
  have hglt := OwnR.lt h.rows g rfl
  have hbw : base ≤ w.heap.size := by omega
  have hdlt : ∀ k, d.ownBlock = some k → w.heap.size ≤ k := fun k hk => (OwnR.lt hd k hk).1
  have hrl : (mkRows out ds).length = out.length := mkRows_len _ _ h.len
  have hset : ∀ k, k ≠ g → (((w'.setCell ⟨g, out.length * 3, none⟩ (.int .i64 x.id)).setCell ⟨g, out.length * 3 + 1, none⟩ (.int .i64 x.code)).setCell ⟨g, out.length * 3 + 2, none⟩ d).heap[k]? = w'.heap[k]? := by
    intro k hk
    rw [Below.heap_setCell _ _ _ _ hk, Below.heap_setCell _ _ _ _ hk, Below.heap_setCell _ _ _ _ hk]
  have hr0 : Owns w' base 66 3 rowR (.slice (some ⟨g, 0, none⟩) n n) (mkRows out ds ++ List.replicate (n - out.length) zR) :=
    h.rows.kept fun k hk => by
      simp only [Value.ownBlock, Option.some.injEq] at hk
      subst hk; exact ht.block _ hglt.2 n1 n2
  have hk : out.length < (mkRows out ds ++ List.replicate (n - out.length) zR).length := by simp [hrl]; omega
  have hz : (mkRows out ds ++ List.replicate (n - out.length) zR).getD out.length zR = zR := by
    simp only [List.getD]
    rw [List.getElem?_append_right (by omega), hrl, Nat.sub_self, List.getElem?_replicate, if_pos (by omega)]; rfl
  have r1 := hr0.putRow rowR_len out.length 0 zR (x.id, 0, .slice none 0 0) (.int .i64 x.id) hk (by omega) (by rw [hz]; rfl)
  have hk1 : ∀ y, out.length < ((mkRows out ds ++ List.replicate (n - out.length) zR).set out.length y).length := fun y => by simpa using hk
  have hg1 : ∀ y, ((mkRows out ds ++ List.replicate (n - out.length) zR).set out.length y).getD out.length zR = y := fun y => by simp [List.getD, List.getElem?_set_self hk]
  have r2 := r1.putRow rowR_len out.length 1 zR (x.id, x.code, .slice none 0 0) (.int .i64 x.code) (hk1 _) (by omega) (by rw [hg1]; rfl)
  rw [List.set_set] at r2
  have r3 := r2.putRow rowR_len out.length 2 zR (x.id, x.code, d) d (hk1 _) (by omega) (by rw [hg1]; rfl)
  rw [List.set_set] at r3
  simp only [Nat.zero_add, Nat.add_zero] at r3
  refine ⟨?_, ?_, by simp [h.len], by simp; omega, ?_, h.ng, ?_⟩
  · have hs0 := ha.s0; have hs1 := ha.s1
    exact { ha with s0 := by simp only [World.cell?] at hs0 ⊢; rw [hset S (Ne.symm n3)]; exact hs0
                    s1 := by simp only [World.cell?] at hs1 ⊢; rw [hset S (Ne.symm n3)]; exact hs1
                    ww := ha.ww.kept fun k hk => by simp only [Value.ownBlock, Option.some.injEq] at hk; exact hset k (by omega)
                    hh := ha.hh.kept fun k hk => by simp only [Value.ownBlock, Option.some.injEq] at hk; exact hset k (by omega) }
  · rw [mkRows_snoc h.len, show (out ++ [x]).length = (mkRows out ds).length + 1 from by simp [hrl], ← fill_next (by rw [hrl]; exact hn), hrl]
    exact r3
  · intro j hj
    simp only [List.length_append, List.length_singleton] at hj
    by_cases hjo : j < out.length
    · have e1 : (ds ++ [d]).getD j undef = ds.getD j undef := by simp only [List.getD]; rw [List.getElem?_append_left (by rw [h.len]; exact hjo)]
      have e2 : (out ++ [x]).getD j default = out.getD j default := by simp only [List.getD]; rw [List.getElem?_append_left hjo]
      rw [e1, e2]
      refine (h.data j hjo).kept fun k hk => ?_
      obtain ⟨q1, q2, q3, q4⟩ := h.dApart hjo k hk
      rw [hset k q3]; exact ht.block _ q4 q1 q2
    · have hjo' : j = out.length := by omega
      subst hjo'
      have e1 : (ds ++ [d]).getD out.length undef = d := by simp only [List.getD]; rw [List.getElem?_append_right (by rw [h.len]; omega), h.len]; simp
      have e2 : (out ++ [x]).getD out.length default = x := by simp [List.getD]
      rw [e1, e2]
      exact (hd.rebase hbw).kept fun k hk => hset k (by have := hdlt k hk; omega)
  · rw [show (Value.slice (some ⟨gw, ow, none⟩) 64 cw :: .slice (some ⟨gh, oh, none⟩) 6 ch :: .slice (some ⟨g, 0, none⟩) n n :: (ds ++ [d])) = ((.slice (some ⟨gw, ow, none⟩) 64 cw :: .slice (some ⟨gh, oh, none⟩) 6 ch :: .slice (some ⟨g, 0, none⟩) n n :: ds) ++ [d]) from rfl]
    exact pair_snoc h.ap fun v hv => Apart.of_lt (h.lts v hv) hdlt

/-- Room for what is told next. -/
theorem RunI.room {w w' : World} {base S gw ow cw gh oh ch g n k : Nat} {ws hs : List Int} {out : List Rs} {ds : List Value} (h : RunI w base S gw ow cw gh oh ch g n ws hs out ds) (hk0 : out.length = k) (hn : k < n) (ht : Touch2 gw gh w w') :
    w'.cell? ⟨g, k * 3, none⟩ = some (.int .i64 0) ∧ w'.cell? ⟨g, k * 3 + 1, none⟩ = some (.int .i64 0) ∧ w'.cell? ⟨g, k * 3 + 2, none⟩ = some (.slice none 0 0) ∧
      w'.frozen? ⟨g, k * 3, none⟩ = false ∧ w'.frozen? ⟨g, k * 3 + 1, none⟩ = false ∧ w'.frozen? ⟨g, k * 3 + 2, none⟩ = false ∧ g < w'.heap.size := by
  subst hk0
  obtain ⟨n1, n2, n3⟩ := h.ng
  have hglt := OwnR.lt h.rows g rfl
  have hrl : (mkRows out ds).length = out.length := mkRows_len _ _ h.len
  have hr0 : Owns w' base 66 3 rowR (.slice (some ⟨g, 0, none⟩) n n) (mkRows out ds ++ List.replicate (n - out.length) zR) :=
    h.rows.kept fun k hk => by
      simp only [Value.ownBlock, Option.some.injEq] at hk
      subst hk; exact ht.block _ hglt.2 n1 n2
  have hk : out.length < (mkRows out ds ++ List.replicate (n - out.length) zR).length := by simp [hrl]; omega
  have hz : (mkRows out ds ++ List.replicate (n - out.length) zR).getD out.length zR = zR := by
    simp only [List.getD]
    rw [List.getElem?_append_right (by omega), hrl, Nat.sub_self, List.getElem?_replicate, if_pos (by omega)]; rfl
  have c0 := hr0.cellAt rowR_len out.length 0 zR hk (by omega)
  have c1 := hr0.cellAt rowR_len out.length 1 zR hk (by omega)
  have c2 := hr0.cellAt rowR_len out.length 2 zR hk (by omega)
  rw [hz] at c0 c1 c2
  simp only [Nat.zero_add, Nat.add_zero] at c0 c1 c2
  exact ⟨c0, c1, c2, hr0.frozenAt _, hr0.frozenAt _, hr0.frozenAt _, (OwnR.lt hr0 g rfl).2⟩
theorem RnBox.kept {w w' : World} {g : Nat} {wv hv : Value} (h : RnBox w g wv hv) (hk : ∀ k, k ≤ g + 1 → w'.heap[k]? = w.heap[k]?) : RnBox w' g wv hv := by
  simpa only [RnBox, World.cell?, World.frozen?, hk g (by omega), hk (g + 1) (by omega)] using h
/-- The end: the store goes into the result's cells. -/
theorem RunI.done {w w' : World} {S gw ow cw gh oh ch g n H : Nat} {ws hs : List Int} {out : List Rs} {ds : List Value} (h : RunI w (H + 2) S gw ow cw gh oh ch g n ws hs out ds) (hn : out.length = n) (hk : ∀ k, H + 2 ≤ k → w'.heap[k]? = w.heap[k]?) :
    Owns w' H 3 1 rowI (.slice (some ⟨gw, ow, none⟩) 64 cw) ws ∧ Owns w' H 3 1 rowI (.slice (some ⟨gh, oh, none⟩) 6 ch) hs ∧ Owns w' H 66 3 rowR (.slice (some ⟨g, 0, none⟩) n n) (mkRows out ds) ∧ ds.length = out.length ∧
      (∀ j, j < out.length → Owns w' H 3 1 rowI (ds.getD j undef) (out.getD j default).data) ∧ List.Pairwise Apart (.slice (some ⟨gw, ow, none⟩) 64 cw :: .slice (some ⟨gh, oh, none⟩) 6 ch :: .slice (some ⟨g, 0, none⟩) n n :: ds) := by
  have kp : ∀ {α : Type} {e sz : Nat} {f : α → List Value} {v : Value} {xs : List α}, Owns w (H + 2) e sz f v xs → Owns w' H e sz f v xs := fun ho => (ho.kept fun k hk2 => hk k (OwnR.lt ho k hk2).1).rebase (by omega)
  have hr := h.rows
  rw [hn, Nat.sub_self, List.replicate_zero, List.append_nil] at hr
  exact ⟨kp h.at_.ww, kp h.at_.hh, kp hr, h.len, fun j hj => kp (h.data j hj), h.ap⟩

end Go.Proofs.Yteamebdehembgaa

namespace Go.Proofs.Yteamebdehembgaa
open Go.RowKit

theorem sizeReq : (Try.prog.info? 71).map (·.size) = some 7 := by kernel_rfl
theorem infoRsp : (Try.prog.info? 66).map (fun i => (i.zero, i.size, i.bytes)) = some (some (.agg #[.int .i64 0, .int .i64 0, .slice none 0 0]), 3, 40) := by kernel_rfl

/-- The start: a copy, and room for what is told. -/
theorem RunI.start {w : World} {base S gw ow cw gh oh ch g n : Nat} {ws hs : List Int} (ha : AtmAt w base S gw ow cw gh oh ch ws hs) (hr : Owns w base 66 3 rowR (.slice (some ⟨g, 0, none⟩) n n) (List.replicate n zR)) (h1 : gw < g) (h2 : gh < g) (h3 : S < g) :
    RunI w base S gw ow cw gh oh ch g n ws hs [] [] := by
  refine ⟨ha, by simpa [mkRows] using hr, rfl, by simp, fun j hj => absurd hj (by simp), ⟨by omega, by omega, by omega⟩, ?_⟩
  simp only [List.pairwise_cons, List.mem_cons, List.not_mem_nil, or_false]
  refine ⟨?_, ?_, ?_, List.Pairwise.nil⟩
  · rintro v (rfl | rfl)
    · intro k hk hk2; simp only [Value.ownBlock, Option.some.injEq] at hk hk2; exact ha.ne (by omega)
    · intro k hk hk2; simp only [Value.ownBlock, Option.some.injEq] at hk hk2; omega
  · rintro v rfl k hk hk2; simp only [Value.ownBlock, Option.some.injEq] at hk hk2; omega
  · simp

set_option maxRecDepth 4000 in
set_option maxHeartbeats 8000000 in
theorem implAtmRun_yes (v sv u : Value) (ms : List MR) (B : Nat) (ws hs : List Int) (who : Int) (rs : List Rq) (w : World) (hv : Maps w B v ms) (hs1 : AtmV w B sv ws hs) (hu : Reqs w B u rs) (hB : B ≤ w.heap.size)
    (hok : runOk ms ws hs who rs = true) :
    Calls Try.prog 47 #[v, sv, .int .i64 who, u] w (AtmRunP (runReq ms who ws hs rs) w) := by
  have HV := hid hv; have HS := hid hs1; have HU := hid hu
  obtain ⟨wv, hv2, rfl, s1, s2⟩ := hs1
  obtain ⟨h1, h2, h3, h4, h5⟩ := runOk_parts.1 hok
  have hl : ws.length = 64 ∧ hs.length = 6 ∧ ws.all wordOk = true := by
    have h2' := h2
    simp only [atmOk, memOk, Bool.and_eq_true, beq_iff_eq] at h2'
    exact ⟨h2'.1.1.1, h2'.1.2, h2'.1.1.2⟩
  have HL := hid hl
  obtain ⟨uo, uc, rfl, hlc, hcap, hln, hni, hr⟩ := hu.opened
  clear hv s1 s2 hl hu
  have HWHO := hid h3; have HALL := hid h5; have HOK2 := hid h2
  have H12 := hid h4
  have hle : (rs.length : Int) ≤ 12 := by omega
  have h12 : decide ((12 : Int) < (rs.length : Int)) = false := by simpa using hle
  have HNO := hid (show rs.any (fun r => !reqOk r) = false by rw [List.any_eq_false]; intro r hr; simp [List.all_eq_true.1 h5 r hr])
  have HAB := hid (fun T V => rn_open w wv hv2 T V)
  have HP := hid (fun (T V : TypeId) => show Below w.heap.size w ((w.alloc (.cells #[wv, hv2] T)).alloc (.cells #[.slice none 0 0, .slice none 0 0] V)) from ((Below.refl _ _).alloc (Nat.le_refl _) _).alloc (by simp) _)
  clear h5 h4 hok hle hlc
  go_enter Try.func47, Try.ntmps47
  go_wp2_with (first
      | (go_at_call 65; refine (implMapOk_any _ ms B _ (HV.out.below ((HP.out _ _).mono hB)) (by first | (simp; done) | (simp; omega))).mono ?_; rw [h1]; rintro e w1 ⟨rfl, hb1⟩; have HAB1 := hid ((HAB.out _ _).below hb1 (by first | (simp; done) | (simp; omega))); obtain ⟨⟨a0, a1⟩, ⟨g0, g1, g2, g3⟩⟩ := HAB1.out; have HB := hid ((HP.out _ _).trans (hb1.mono (by first | (simp; done) | (simp; omega)))); clear hb1)
      | (go_at_call 106; refine (implAtmOk_any _ ws hs B _ (HS.out.below (HB.out.mono hB)) (Nat.le_trans hB HB.out.size)).mono ?_; rw [h2]; rintro e w1 ⟨rfl, hb1⟩; have HAB1 := hid (HAB1.out.below hb1 HAB1.out.lt); obtain ⟨⟨a0, a1⟩, ⟨g0, g1, g2, g3⟩⟩ := HAB1.out; have HB := hid (HB.out.trans (hb1.mono HB.out.size)); clear hb1)
      | (go_at_call 56; refine (isMaster_any _ _).mono ?_; rw [h3]; rintro e w' ⟨rfl, rfl⟩)
      | (go_at_call 71; refine (hasReq_any 113 _ (callable_of Try.func113 (by kernel_rfl) (by kernel_rfl)) (fun r => !reqOk r) _ rs B _ (HU.out.below (HB.out.mono hB)) (Nat.le_trans hB HB.out.size) (fun r u' w1 hb hu' => by simpa using runTest_any r u' B w1 hu' (Nat.le_trans (Nat.le_trans hB HB.out.size) hb.size))).mono ?_; unfold HasRP; rw [HNO.out]; rintro e w1 ⟨rfl, hb1⟩; have HAB1 := hid (HAB1.out.below hb1 HAB1.out.lt); obtain ⟨⟨a0, a1⟩, ⟨g0, g1, g2, g3⟩⟩ := HAB1.out; have HB := hid (HB.out.trans (hb1.mono HB.out.size)); clear hb1)
      | (go_at_call 107; refine (atmCopy_any _ ws hs B _ (HS.out.below (HB.out.mono hB)) (Nat.le_trans hB HB.out.size) (by rw [HL.out.1]; omega) (by rw [HL.out.2.1]; omega)).mono ?_; rintro e w2 ⟨wv', hv', rfl, ho1, ho2, hap, hb1⟩; have hbs := HB.out.size; have hlt1 := HAB1.out.lt; have HAB1 := hid (HAB1.out.below hb1 HAB1.out.lt); obtain ⟨⟨a0, a1⟩, ⟨g0, g1, g2, g3⟩⟩ := HAB1.out; have HB := hid (HB.out.trans (hb1.mono HB.out.size)); obtain ⟨gw, ow, cw, gh, oh, ch, rfl, rfl, e1, e2, e3, e4, hat⟩ := ad_copy (base := w.heap.size + 2) 40 ho1 ho2 hap HL.out.1 HL.out.2.1 (by omega) hb1.size; have HAT := hid hat; clear hat hap; have hlt2 := HAB1.out.lt; have HB3 := hid ((HB.out.trans ((Below.refl _ _).alloc HB.out.size (.cells #[Value.slice (some ⟨gw, ow, none⟩) 64 cw, Value.slice (some ⟨gh, oh, none⟩) 6 ch] 40)))); have HAB3 := hid (HAB1.out.below ((Below.refl w2.heap.size w2).alloc (Nat.le_refl _) (.cells #[Value.slice (some ⟨gw, ow, none⟩) 64 cw, Value.slice (some ⟨gh, oh, none⟩) 6 ch] 40)) hlt2))
      | (at_make; go_must (refine wpList_mk rowR zR (.agg #[.int .i64 0, .int .i64 0, .slice none 0 0]) Try.underlying84 infoRsp rfl (by omega) rfl _ rfl _ _ rfl _ _ _ _ rs.length rfl rfl rfl rfl (by have := H12.out; omega) (by have := H12.out; unfold maxLen; omega) ?_); intro w5 hown hb5 hlt5))
  simp only [World.size_alloc] at hown hb5 hlt5
  have HB4 := hid (HB3.out.trans (hb5.mono (by have := HB3.out.size; simp at this; omega)))
  have hrb0 := HAB3.out.below hb5 (by omega)
  have hri0 := RunI.start (HAT.out.kept hb5 (by simp)) (hown.rebase (by omega)) (by omega) (by omega) (by omega)
  have HRB0 := hid hrb0; have HRI0 := hid hri0
  clear hown hb5 hrb0 hri0 a0 a1 g0 g1 g2 g3
  go_loopw [44] (fun i wr => ∃ (k : Nat) (ds : List Value), k ≤ rs.length ∧ i = .int .i64 k ∧ RunI wr (w.heap.size + 2) w2.heap.size gw ow cw gh oh ch (w2.heap.size + 1) rs.length (runReq ms who ws hs (rs.take k)).1 (runReq ms who ws hs (rs.take k)).2.1 (runReq ms who ws hs (rs.take k)).2.2 ds ∧ Below w.heap.size w wr ∧ RnBox wr w.heap.size wv hv2) (fun i _ => rs.length - (intOf i).toNat)
  case atStart => exact ⟨0, [], Nat.zero_le _, rfl, by simpa [runReq] using HRI0.out, HB4.out, HRB0.out⟩
  case round =>
    obtain ⟨k, ds, hk, rfl, hri, hbw, hrb⟩ := hrel
    have HRI := hid hri; have HBW := hid hbw; have HRB := hid hrb
    have hsz := hbw.size
    have hylen := run_len ms who (rs.take k) ws hs
    rw [List.length_take, Nat.min_eq_left hk] at hylen
    have HYL := hid hylen
    clear hri hrb hylen
    by_cases hlt : k < rs.length
    · obtain ⟨b, off, rfl, hb, hc⟩ := hr (by omega)
      obtain ⟨da0, dc0, la0, lc0, hu, c0, c1, c2, c3, c4, c5, c6⟩ := hc k hlt
      obtain ⟨x, hx⟩ : ∃ x, x = rs.getD k default := ⟨_, rfl⟩
      rw [← hx] at c0 c1 c2 c3 c4 c5 c6 hu
      rw [← hbw.cell (p := ⟨b, _, none⟩) (Nat.lt_of_lt_of_le hb hB)] at c0 c1 c2 c3 c4 c5 c6
      have HU1 := hid (hu.below (hbw.mono hB))
      have HXOK := hid (show reqOk x = true by rw [hx]; exact List.all_eq_true.1 HALL.out _ (getD_mem hlt))
      have HNEXT := hid (run_take (ms := ms) (who := who) (ws := ws) (hs := hs) hlt)
      rw [← hx] at HNEXT
      have HYOK := hid (run_ok (ms := ms) HWHO.out (rs.take k) ws hs HOK2.out (by rw [List.all_eq_true]; exact fun r hr => List.all_eq_true.1 HALL.out r (List.mem_of_mem_take hr)))
      obtain ⟨y, hy⟩ : ∃ y, y = runReq ms who ws hs (rs.take k) := ⟨_, rfl⟩
      rw [← hy] at HNEXT HYOK HRI HYL
      clear hx hc hr hu hbw hy
      obtain ⟨z, hz⟩ : ∃ z, z = doReq ms y.1 y.2.1 who x := ⟨_, rfl⟩
      rw [← hz] at HNEXT
      have HZ := hid hz
      clear hz
      go_wp2_with (first
        | ((with_reducible refine wpList_store_new rfl 71 _ _ rfl rfl _ _ _ _ rfl rfl rfl sizeReq rfl ?_))
        | (go_at_call 108; go_loud ((with_reducible refine (do_any _ _ ms (w.heap.size + 2) w2.heap.size gw ow cw gh oh ch _ _ who x _ ((HV.out.below ((HBW.out.trans ((Below.refl _ _).alloc hsz _)).mono hB)).mono (by omega)) (HRI.out.below ((Below.refl _ _).alloc (Nat.le_refl _) _)).at_ ((HU1.out.below ((Below.refl B _).alloc (by omega) _)).mono (by omega)) HWHO.out HXOK.out (atmOk_parts HYOK.out).2.2.1).mono ?_); rw [← HZ.out]; rintro e w4 ⟨dv', rfl, hod, hat4, ht4⟩; have HOD := hid hod; have HAT4 := hid hat4; have HT4 := hid ht4; obtain ⟨da, dc, rfl, hdc1, hdc2⟩ := hod.shape; obtain ⟨q0, q1, q2, q3, q4, q5, q6⟩ := (HRI.out.below ((Below.refl _ _).alloc (Nat.le_refl _) _)).room HYL.out hlt ht4; clear hod hat4 ht4))
        | fail)
      have hgw : w.heap.size + 2 ≤ gw := HRI.out.at_.ww.ltI.1
      have hgh : w.heap.size + 2 ≤ gh := HRI.out.at_.hh.ltI.1
      have HBN := hid (((((HBW.out.trans ((Below.refl _ _).alloc hsz _)).trans (HT4.out.below (by omega) (by omega) (by simp; omega))).setCell (p := ⟨w2.heap.size + 1, k * 3, none⟩) (by show _ ≤ _ + 1; omega) (.int .i64 z.2.2.id)).setCell (p := ⟨w2.heap.size + 1, k * 3 + 1, none⟩) (by show _ ≤ _ + 1; omega) (.int .i64 z.2.2.code)).setCell (p := ⟨w2.heap.size + 1, k * 3 + 2, none⟩) (by show _ ≤ _ + 1; omega) (.slice da z.2.2.data.length dc))
      have HRN := hid ((HRI.out.below ((Below.refl _ _).alloc (Nat.le_refl _) _)).step HYL.out hlt HT4.out HAT4.out HOD.out)
      have hrl := HRB.out.lt
      have HRBN := hid (HRB.out.kept (w' := ((w4.setCell ⟨w2.heap.size + 1, k * 3, none⟩ (.int .i64 z.2.2.id)).setCell ⟨w2.heap.size + 1, k * 3 + 1, none⟩ (.int .i64 z.2.2.code)).setCell ⟨w2.heap.size + 1, k * 3 + 2, none⟩ (.slice da z.2.2.data.length dc)) fun k' hk' => by
        rw [Below.heap_setCell _ ⟨w2.heap.size + 1, k * 3 + 2, none⟩ _ _ (by show k' ≠ _ + 1; omega), Below.heap_setCell _ ⟨w2.heap.size + 1, k * 3 + 1, none⟩ _ _ (by show k' ≠ _ + 1; omega), Below.heap_setCell _ ⟨w2.heap.size + 1, k * 3, none⟩ _ _ (by show k' ≠ _ + 1; omega), HT4.out.block k' (by simp; omega) (by omega) (by omega)]
        exact ((Below.refl wr.heap.size wr).alloc (Nat.le_refl _) _).block k' (by omega))
      go_roundw
      case rel => exact ⟨k + 1, _, by omega, by go_num, by rw [HNEXT.out]; exact HRN.out, HBN.out, HRBN.out⟩
      case measure => simp [intOf]; omega
    · have hkn : k = rs.length := by omega
      subst hkn
      have HYT := hid (show rs.take rs.length = rs from List.take_length)
      rw [HYT.out] at HRI HYL
      have t0 := HRI.out.at_.s0; have t1 := HRI.out.at_.s1
      obtain ⟨⟨a0, a1⟩, ⟨g0, g1, g2, g3⟩⟩ := HRB.out
      have hlt9 := HRB.out.lt
      have hlt8 := Nat.lt_of_succ_lt hlt9
      clear hbw
      go_wp2_with fail
      obtain ⟨o1, o2, o3, o4, o5, o6⟩ := HRI.out.done (w' := (wr.setCell ⟨w.heap.size + 1, 0, none⟩ (.slice (some ⟨gw, ow, none⟩) 64 cw)).setCell ⟨w.heap.size + 1, 1, none⟩ (.slice (some ⟨gh, oh, none⟩) 6 ch)) HYL.out (fun k' hk' => by rw [Below.heap_setCell _ _ _ _ (by show k' ≠ _ + 1; omega), Below.heap_setCell _ _ _ _ (by show k' ≠ _ + 1; omega)])
      refine bodyPost_ret (results_ct Try.results47 _ _ ⟨w.heap.size + 1, 0, none⟩ (.agg #[.slice (some ⟨gw, ow, none⟩) 64 cw, .slice (some ⟨gh, oh, none⟩) 6 ch]) rfl ?_) rfl ?_
      · exact loadVar_atm _ _ _ _ (by simp [go_sem, g0, hlt9]) (by simp [go_sem, g1, hlt9])
      exact ⟨_, _, _, ds, rfl, o1, o2, o3, o4, o5, o6, (HBW.out.setCell (p := ⟨w.heap.size + 1, 0, none⟩) (by show _ ≤ _ + 1; omega) _).setCell (p := ⟨w.heap.size + 1, 1, none⟩) (by show _ ≤ _ + 1; omega) _⟩

end Go.Proofs.Yteamebdehembgaa
