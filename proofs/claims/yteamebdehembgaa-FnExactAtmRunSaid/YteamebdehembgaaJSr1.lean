/-
  AtmRun of the reference: the walk.
-/
import Derived.Test.YteamebdehembgaaKSr0
import Derived.Test.YteamebdehembgaaKDat
import Derived.Test.YteamebdehembgaaJRu3
import Derived.Outline
import Derived.Deep.Cut
import Derived.Deep.CutRange
set_option linter.unusedVariables false
set_option linter.unusedSimpArgs false
namespace Go.Proofs.Yteamebdehembgaa
open Go.RowKit

theorem all_of {α : Type} {p : α → Bool} {xs : List α} {d : α} (h : ∀ j, j < xs.length → p (xs.getD j d) = true) : xs.all p = true := by
  rw [List.all_eq_true]
  intro x hx
  obtain ⟨i, hi, rfl⟩ := List.mem_iff_getElem.1 hx
  have := h i hi
  simpa [List.getD, hi] using this
theorem all_not {α : Type} {p : α → Bool} {xs : List α} {d : α} {k : Nat} (hk : k < xs.length) (h : p (xs.getD k d) = false) : xs.all p = false := by
  rw [List.all_eq_false]
  exact ⟨xs.getD k d, getD_mem hk, by rw [h]; simp⟩
theorem rowR_one (x : Int × Int × Value) (hx : x.2.2.oneCell' = true) : ∀ u ∈ rowR x, u.oneCell' = true := by
  intro u hu; simp only [rowR, List.mem_cons, List.not_mem_nil, or_false] at hu
  rcases hu with rfl | rfl | rfl <;> first | rfl | exact hx
theorem elem_rsp : Elem 84 66 3 40 := elem_of Try.underlying84 (z := .agg #[.int .i64 0, .int .i64 0, .slice none 0 0]) (by kernel_rfl) rfl (by omega)

theorem own_empty {w : World} {base g : Nat} {α : Type} {T : TypeId} {f : α → List Value} (h : w.heap[g]? = some (.cells #[] T (0, 0))) (hg : base ≤ g) : Owns w base T 3 f (.slice (some ⟨g, 0, none⟩) 0 0) ([] : List α) :=
  ⟨by simp, .inr ⟨g, 0, 0, #[], rfl, hg, h, by simp, by unfold maxLen; omega, by simp, fun j hj => by simp at hj⟩⟩
theorem alloc_new_at (w : World) (o : Obj) {g : Nat} (h : g = w.heap.size) : (w.alloc o).heap[g]? = some o := by subst h; show (w.heap.push _)[w.heap.size]? = _; simp

/-- The reference's AtmRun amid its rounds: the store's box, the store, what was told so far. -/
structure SRun (base : Nat) (w0 w : World) (gX : Nat) (av bv v : Value) (ws hs : List Int) (out : List Rs) (ds : List Value) : Prop where
  bx : BoxA w gX av bv
  aw : IntsD w (ClearB base v gX w) av ws
  ah : IntsD w (ClearB base v gX w) bv hs
  rows : Owns w base 66 3 rowR v (mkRows out ds)
  len : ds.length = out.length
  data : ∀ j, j < out.length → IntsD w (ClearB base v gX w) (ds.getD j undef) (out.getD j default).data
  bl : Below base w0 w
  gx : base ≤ gX
  bs : base ≤ w.heap.size
  vx : v.ownBlock ≠ some gX

/-- The start: the copy lies in a new box; nothing is told. -/
theorem SRun.start {base b1 gX : Nat} {w0 w : World} {av bv v : Value} {ws hs : List Int} (hb : BoxA w gX av bv) (h1 : Owns w b1 3 1 rowI av ws) (h2 : Owns w b1 3 1 rowI bv hs) (hv : Owns w base 66 3 rowR v []) (hvb : ∀ k, v.ownBlock = some k → k < b1) (hg : gX < b1 ∨ ∀ k, (av.ownBlock = some k ∨ bv.ownBlock = some k) → k ≠ gX)
    (l1 : ws.length ≤ 65) (l2 : hs.length ≤ 65) (i1 : ∀ x ∈ ws, I64 x) (i2 : ∀ x ∈ hs, I64 x) (hbl : Below base w0 w) (hgx : base ≤ gX) (hbs : base ≤ w.heap.size) (hvx : v.ownBlock ≠ some gX) (hbb : base ≤ b1) : SRun base w0 w gX av bv v ws hs [] [] := by
  have key : ∀ k, (av.ownBlock = some k ∨ bv.ownBlock = some k) → b1 ≤ k → k < w.heap.size → ClearB base v gX w k := by
    intro k hk h3 h4
    refine ⟨by omega, h4, ?_, ?_⟩
    · rcases hg with hg | hg
      · omega
      · exact hg k hk
    · intro e; have := hvb k e; omega
  exact ⟨hb, h1.intsD (fun k hk => key k (.inl hk) (OwnR.lt h1 k hk).1 (OwnR.lt h1 k hk).2) (by omega) i1, h2.intsD (fun k hk => key k (.inr hk) (OwnR.lt h2 k hk).1 (OwnR.lt h2 k hk).2) (by omega) i2, hv, rfl, fun j hj => absurd hj (by simp), hbl, hgx, hbs, hvx⟩


/-- A round: what came of it lies in new blocks; the store goes into the box. -/
theorem SRun.mid {base gX : Nat} {w0 w w' : World} {av bv v a b d : Value} {ws hs : List Int} {out : List Rs} {ds : List Value} {x : List Int × List Int × Rs} {ga gr : Nat} (h : SRun base w0 w gX av bv v ws hs out ds)
    (hA : BoxA w' ga a b) (hR : BoxR w' gr x.2.2.id x.2.2.code d) (hga : w.heap.size ≤ ga) (hgr : w.heap.size ≤ gr) (o1 : Owns w' w.heap.size 3 1 rowI a x.1) (o2 : Owns w' w.heap.size 3 1 rowI b x.2.1) (o3 : Owns w' w.heap.size 3 1 rowI d x.2.2.data) (hb : Below w.heap.size w w')
    (l1 : x.1.length ≤ 64) (l2 : x.2.1.length ≤ 64) (l3 : x.2.2.data.length ≤ 64) (i1 : ∀ y ∈ x.1, I64 y) (i2 : ∀ y ∈ x.2.1, I64 y) (i3 : ∀ y ∈ x.2.2.data, I64 y) :
    ∀ W, W = (w'.setCell ⟨gX, 0, none⟩ a).setCell ⟨gX, 1, none⟩ b →
      BoxA W gX a b ∧ BoxR W gr x.2.2.id x.2.2.code d ∧ IntsD W (ClearB base v gX W) a x.1 ∧ IntsD W (ClearB base v gX W) b x.2.1 ∧ IntsD W (ClearB base v gX W) d x.2.2.data ∧ Owns W base 66 3 rowR v (mkRows out ds) ∧
      (∀ j, j < out.length → IntsD W (ClearB base v gX W) (ds.getD j undef) (out.getD j default).data) ∧ Below base w0 W ∧ base ≤ W.heap.size := by
  intro W hW
  have hgl := h.bx.lt
  have hX := h.bx.below hb hgl
  have hz : W.heap.size = w'.heap.size := by rw [hW]; simp
  have hset : ∀ k, k ≠ gX → W.heap[k]? = w'.heap[k]? := by
    intro k hk
    rw [hW, Below.heap_setCell _ _ _ _ hk, Below.heap_setCell _ _ _ _ hk]
  have hsz := hb.size
  have kp : Keeps (ClearB base v gX w) w W := fun k hk => by
    rw [hset k hk.2.2.1]; exact hb.block k hk.2.1
  have hg : ∀ k, ClearB base v gX w k → ClearB base v gX W k := fun k hk => hk.grow (by omega)
  have kp2 : Keeps (fun k => w.heap.size ≤ k ∧ k < w'.heap.size) w' W := fun k hk => hset k (by omega)
  have hg2 : ∀ k, (w.heap.size ≤ k ∧ k < w'.heap.size) → ClearB base v gX W k := fun k hk => by
    have := h.bs
    refine ⟨by omega, by omega, by omega, ?_⟩
    intro e; have := (OwnR.lt h.rows k e).2; omega
  refine ⟨by rw [hW]; exact hX.put _ _, hR.keep (hset gr (by omega)), ?_, ?_, ?_, ?_, ?_, ?_, ?_⟩
  · exact ((o1.intsD (OwnR.lt o1) (by omega) i1).kept kp2).weak hg2
  · exact ((o2.intsD (OwnR.lt o2) (by omega) i2).kept kp2).weak hg2
  · exact ((o3.intsD (OwnR.lt o3) (by omega) i3).kept kp2).weak hg2
  · refine h.rows.kept fun k hk => ?_
    rw [hset k (by intro e; subst e; exact h.vx hk)]
    exact hb.block k (OwnR.lt h.rows k hk).2
  · exact fun j hj => ((h.data j hj).kept kp).weak hg
  · have : Below base w' W := by rw [hW]; exact ((Below.refl base w').setCell (p := ⟨gX, 0, none⟩) (by exact h.gx) a).setCell (p := ⟨gX, 1, none⟩) (by exact h.gx) b
    exact (h.bl.trans (hb.mono h.bs)).trans this
  · have := h.bs; omega

/-- The next round's state, once what was told is appended. -/
theorem SRun.next {base gX : Nat} {w0 W W' : World} {a b v v' d : Value} {out : List Rs} {ds : List Value} {x : List Int × List Int × Rs} (hX : BoxA W gX a b) (h1 : IntsD W (ClearB base v gX W) a x.1) (h2 : IntsD W (ClearB base v gX W) b x.2.1) (h3 : IntsD W (ClearB base v gX W) d x.2.2.data) (hl : ds.length = out.length)
    (hd : ∀ j, j < out.length → IntsD W (ClearB base v gX W) (ds.getD j undef) (out.getD j default).data) (hbl : Below base w0 W) (hgx : base ≤ gX) (hvx : v.ownBlock ≠ some gX)
    (ho : Owns W' base 66 3 rowR v' (mkRows out ds ++ [(x.2.2.id, x.2.2.code, d)])) (hsz : W.heap.size ≤ W'.heap.size) (hk : ∀ k, k < W.heap.size → v.ownBlock ≠ some k → W'.heap[k]? = W.heap[k]?) (hown : v'.ownBlock = v.ownBlock ∨ ∃ k, W.heap.size ≤ k ∧ v'.ownBlock = some k) (hb : Below base W W') (hbs : base ≤ W.heap.size) :
    SRun base w0 W' gX a b v' x.1 x.2.1 (out ++ [x.2.2]) (ds ++ [d]) := by
  have hgl := hX.lt
  have kp : Keeps (ClearB base v gX W) W W' := fun k hk2 => hk k hk2.2.1 hk2.2.2.2
  have hg : ∀ k, ClearB base v gX W k → ClearB base v' gX W' k := fun k hk2 => hk2.swap hsz hown
  refine ⟨hX.keep (hk gX hgl hvx), (h1.kept kp).weak hg, (h2.kept kp).weak hg, by rw [mkRows_snoc hl]; exact ho, by simp [hl], ?_, hbl.trans hb, hgx, by omega, ?_⟩
  · intro j hj
    simp only [List.length_append, List.length_singleton] at hj
    by_cases hjo : j < out.length
    · have e1 : (ds ++ [d]).getD j undef = ds.getD j undef := by simp only [List.getD]; rw [List.getElem?_append_left (by rw [hl]; exact hjo)]
      have e2 : (out ++ [x.2.2]).getD j default = out.getD j default := by simp only [List.getD]; rw [List.getElem?_append_left hjo]
      rw [e1, e2]
      exact ((hd j hjo).kept kp).weak hg
    · have hjo' : j = out.length := by omega
      subst hjo'
      have e1 : (ds ++ [d]).getD out.length undef = d := by simp only [List.getD]; rw [List.getElem?_append_right (by rw [hl]; omega), hl]; simp
      have e2 : (out ++ [x.2.2]).getD out.length default = x.2.2 := by simp [List.getD]
      rw [e1, e2]
      exact (h3.kept kp).weak hg
  · rcases hown with hown | ⟨k, hk2, hown⟩
    · rw [hown]; exact hvx
    · rw [hown]; intro e; obtain rfl := Option.some.inj e; omega

/-- What was told, as it is read, in a world that keeps the blocks from base on. -/
theorem SRun.read {base gX : Nat} {w0 w W : World} {av bv v : Value} {ws hs : List Int} {out : List Rs} {ds : List Value} (h : SRun base w0 w gX av bv v ws hs out ds) (hs2 : ∀ r ∈ out, (∀ y ∈ r.data, I64 y) ∧ I64 r.id ∧ I64 r.code ∧ r.data.length ≤ 4) (hn : out.length ≤ 140737488351232)
    (hk : ∀ k, base ≤ k → k < w.heap.size → W.heap[k]? = w.heap[k]?) (hz : w.heap.size ≤ W.heap.size) :
    Ints W W.heap.size av ws ∧ Ints W W.heap.size bv hs ∧ Rsps W W.heap.size v out := by
  have kp : Keeps (ClearB base v gX w) w W := fun b hb => hk b hb.1 hb.2.1
  have hlt : ∀ b, ClearB base v gX w b → b < W.heap.size := fun b hb => Nat.lt_of_lt_of_le hb.2.1 hz
  refine ⟨(h.aw.kept kp).to hlt, (h.ah.kept kp).to hlt, ?_⟩
  have hr := (h.rows.kept (w' := W) fun k hk2 => hk k (OwnR.lt h.rows k hk2).1 (OwnR.lt h.rows k hk2).2).arr rowR_len (by rw [mkRows_len _ _ h.len]; exact hn)
  refine ⟨(mkRows out ds).map fun y => .agg #[.int .i64 y.1, .int .i64 y.2.1, y.2.2], ?_, by simp [mkRows_len _ _ h.len], fun k hk d => ?_⟩
  · rw [List.map_map]
    exact hr
  · have hkd : k < ds.length := by rw [h.len]; exact hk
    have e : (((mkRows out ds).map fun y : Int × Int × Value => Value.agg #[.int .i64 y.1, .int .i64 y.2.1, y.2.2]).getD k undef) = .agg #[.int .i64 (out.getD k default).id, .int .i64 (out.getD k default).code, ds.getD k undef] := by
      simp [mkRows, List.getD, List.getElem?_zipWith, hk, hkd]
    have e2 : out.getD k d = out.getD k default := by simp [List.getD, hk]
    rw [e, e2]
    obtain ⟨_, q2, q3, _⟩ := hs2 _ (getD_mem (d := default) hk)
    exact ⟨_, rfl, ((h.data k hk).kept kp).to hlt, q2, q3⟩

/-- What came of several things, read in blocks of P. -/
def RspsD (w : World) (P : Nat → Prop) (v : Value) (xs : List Rs) : Prop :=
  ∃ ds : List Value, ds.length = xs.length ∧ ArrD w P 3 v ((mkRows xs ds).map rowR) ∧ (∀ j, j < xs.length → IntsD w P (ds.getD j undef) (xs.getD j default).data) ∧ ∀ r ∈ xs, I64 r.id ∧ I64 r.code
theorem RspsD.kept {w w' : World} {P : Nat → Prop} {v : Value} {xs : List Rs} (h : RspsD w P v xs) (hk : Keeps P w w') : RspsD w' P v xs := by
  obtain ⟨ds, h1, h2, h3, h4⟩ := h; exact ⟨ds, h1, h2.kept hk, fun j hj => (h3 j hj).kept hk, h4⟩
theorem RspsD.weak {w : World} {P Q : Nat → Prop} {v : Value} {xs : List Rs} (h : RspsD w P v xs) (hs : ∀ b, P b → Q b) : RspsD w Q v xs := by
  obtain ⟨ds, h1, h2, h3, h4⟩ := h; exact ⟨ds, h1, h2.weak hs, fun j hj => (h3 j hj).weak hs, h4⟩
theorem RspsD.to {w : World} {P : Nat → Prop} {B : Nat} {v : Value} {xs : List Rs} (h : RspsD w P v xs) (hP : ∀ b, P b → b < B) : Rsps w B v xs := by
  obtain ⟨ds, h1, h2, h3, h4⟩ := h
  refine ⟨(mkRows xs ds).map fun y => .agg #[.int .i64 y.1, .int .i64 y.2.1, y.2.2], ?_, by simp [mkRows_len _ _ h1], fun k hk d => ?_⟩
  · rw [List.map_map]
    exact h2.to hP
  · have hkd : k < ds.length := by rw [h1]; exact hk
    have e : (((mkRows xs ds).map fun y : Int × Int × Value => Value.agg #[.int .i64 y.1, .int .i64 y.2.1, y.2.2]).getD k undef) = .agg #[.int .i64 (xs.getD k default).id, .int .i64 (xs.getD k default).code, ds.getD k undef] := by
      simp [mkRows, List.getD, List.getElem?_zipWith, hk, hkd]
    have e2 : xs.getD k d = xs.getD k default := by simp [List.getD, hk]
    rw [e, e2]
    obtain ⟨q2, q3⟩ := h4 _ (getD_mem (d := default) hk)
    exact ⟨_, rfl, (h3 k hk).to hP, q2, q3⟩
/-- What was told, as it is read, in a world that keeps the blocks from base on: the blocks in which it lies. -/
theorem SRun.readD {base gX : Nat} {w0 w W : World} {av bv v : Value} {ws hs : List Int} {out : List Rs} {ds : List Value} {P : Nat → Prop} (h : SRun base w0 w gX av bv v ws hs out ds) (hs2 : ∀ r ∈ out, (∀ y ∈ r.data, I64 y) ∧ I64 r.id ∧ I64 r.code ∧ r.data.length ≤ 4) (hn : out.length ≤ 140737488351232)
    (hk : ∀ k, base ≤ k → k < w.heap.size → W.heap[k]? = w.heap[k]?) (hP : ∀ b, base ≤ b → b < w.heap.size → P b) :
    IntsD W P av ws ∧ IntsD W P bv hs ∧ RspsD W P v out := by
  have kp : Keeps (ClearB base v gX w) w W := fun b hb => hk b hb.1 hb.2.1
  have hlt : ∀ b, ClearB base v gX w b → P b := fun b hb => hP b hb.1 hb.2.1
  refine ⟨(h.aw.kept kp).weak hlt, (h.ah.kept kp).weak hlt, ds, h.len, ?_, fun j hj => ((h.data j hj).kept kp).weak hlt, fun r hr => ⟨(hs2 r hr).2.1, (hs2 r hr).2.2.1⟩⟩
  exact (h.rows.kept (w' := W) fun k hk2 => hk k (OwnR.lt h.rows k hk2).1 (OwnR.lt h.rows k hk2).2).arrD (fun k hk2 => hP k (OwnR.lt h.rows k hk2).1 (OwnR.lt h.rows k hk2).2) rowR_len (by rw [mkRows_len _ _ h.len]; exact hn)
/-- What AtmRun comes to, read in the blocks that it made. -/
def RunVD (x : List Int × List Int × List Rs) (w : World) (e : Ending) (w' : World) : Prop :=
  ∃ wa wc ha hc da dc, e = .returned (.tuple #[.agg #[.slice wa x.1.length wc, .slice ha x.2.1.length hc], .slice da x.2.2.length dc]) ∧
    IntsD w' (fun b => w.heap.size ≤ b ∧ b < w'.heap.size) (.slice wa x.1.length wc) x.1 ∧ IntsD w' (fun b => w.heap.size ≤ b ∧ b < w'.heap.size) (.slice ha x.2.1.length hc) x.2.1 ∧ RspsD w' (fun b => w.heap.size ≤ b ∧ b < w'.heap.size) (.slice da x.2.2.length dc) x.2.2 ∧ Below w.heap.size w w'
theorem RunVD.v {x : List Int × List Int × List Rs} {w : World} {e : Ending} {w' : World} (h : RunVD x w e w') : RunV x w e w' := by
  obtain ⟨wa, wc, ha, hc, da, dc, he, h1, h2, h3, hb⟩ := h
  exact ⟨wa, wc, ha, hc, da, dc, he, h1.to (fun b hb => hb.2), h2.to (fun b hb => hb.2), h3.to (fun b hb => hb.2), hb⟩

theorem atmOk_64 {ws hs : List Int} (h : atmOk ws hs = true) : (∀ x ∈ ws, I64 x) ∧ (∀ x ∈ hs, I64 x) := by
  obtain ⟨a1, a2, a3, a4⟩ := atmOk_parts h
  rw [List.all_eq_true] at a3 a4
  refine ⟨fun y hy => word64 (a3 y hy), fun y hy => ?_⟩
  have := a4 y hy
  simp only [inB, Bool.and_eq_true, decide_eq_true_eq] at this
  unfold I64; omega

end Go.Proofs.Yteamebdehembgaa

namespace Go.Proofs.Yteamebdehembgaa
open Go.RowKit

set_option maxHeartbeats 2000000 in
theorem l4Prog_any (v : Value) (rs : List Rq) (B : Nat) (w : World) (hv : Reqs w B v rs) (hB : B ≤ w.heap.size) :
    Calls Try.prog 63 #[v] w fun e w' => e = .returned (.bool (rs.all reqOk)) ∧ Below w.heap.size w w' := by
  obtain ⟨ao, cap, rfl, hlc, hcap, hln, hni, hr⟩ := hv.opened
  clear hv
  go_enter Try.func63, Try.ntmps63
  go_wp2_with fail
  go_loopw [3] (fun i wr => ∃ k : Nat, k ≤ rs.length ∧ i = .int .i64 k ∧ Below w.heap.size w wr ∧ ∀ j, j < k → reqOk (rs.getD j default) = true) (fun i _ => rs.length - (intOf i).toNat)
  case atStart => exact ⟨0, Nat.zero_le _, rfl, Below.refl _ _, by simp⟩
  case round =>
    obtain ⟨k, hk, rfl, hbl, hno⟩ := hrel
    have HN := hid hno; clear hno
    have hsz := hbl.size
    by_cases hlt : k < rs.length
    · obtain ⟨b, off, rfl, hb, hc⟩ := hr (by omega)
      obtain ⟨da, dc, la, lc, hu, c0, c1, c2, c3, c4, c5, c6⟩ := hc k hlt
      obtain ⟨x, hx⟩ : ∃ x, x = rs.getD k default := ⟨_, rfl⟩
      rw [← hx] at c0 c1 c2 c3 c4 c5 c6 hu
      rw [← hbl.cell (p := ⟨b, _, none⟩) (Nat.lt_of_lt_of_le hb hB)] at c0 c1 c2 c3 c4 c5 c6
      have HX := hid hx; have HU := hid (hu.below (hbl.mono hB)); clear hx hc hr hu
      rcases hp : reqOk x with _ | _
      · have HQ := hid (all_not (p := reqOk) (d := default) hlt (by rw [← HX.out]; exact hp))
        have HP := hid hp; clear hp
        go_wp2_with (first | (go_at_call 101; go_loud ((with_reducible refine (specReqOk_any _ x B _ HU.out (Nat.le_trans hB hsz)).mono ?_); rw [HP.out]; rintro e w1 ⟨rfl, hb1⟩)))
        go_ret
        exact ⟨by rw [HQ.out]; rfl, hbl.trans (hb1.mono hsz)⟩
      · have HQ := hid (all_step HN.out (show reqOk (rs.getD k default) = true by rw [← HX.out]; exact hp))
        have HP := hid hp; clear hp
        go_wp2_with (first | (go_at_call 101; go_loud ((with_reducible refine (specReqOk_any _ x B _ HU.out (Nat.le_trans hB hsz)).mono ?_); rw [HP.out]; rintro e w1 ⟨rfl, hb1⟩)))
        go_roundw
        case rel => exact ⟨k + 1, by omega, by go_num, hbl.trans (hb1.mono hsz), HQ.out⟩
        case measure => simp [intOf]; omega
    · have HQ := hid (all_of (d := default) (p := reqOk) (fun j hj => HN.out j (by omega)))
      go_wp2_with fail
      go_ret
      exact ⟨by rw [HQ.out]; rfl, hbl⟩

/-- What AtmRun of the reference has laid: the store, the first result's cells. -/
theorem rs_open (w : World) (wv hv : Value) (T V U : TypeId) : RnBox (((w.alloc (.cells #[wv, hv] T)).alloc (.cells #[.slice none 0 0, .slice none 0 0] V)).alloc (.cells #[] U)) w.heap.size wv hv := by
  refine ⟨⟨?_, ?_⟩, ⟨?_, ?_, ?_, ?_⟩⟩ <;> simp [go_sem]
theorem rs_below (w : World) (a b c : Obj) : Below w.heap.size w (((w.alloc a).alloc b).alloc c) := (((Below.refl _ _).alloc (Nat.le_refl _) _).alloc (by simp) _).alloc (by simp; omega) _

set_option maxRecDepth 4000 in
set_option maxHeartbeats 8000000 in
theorem specAtmRun_no (v sv u : Value) (ms : List MR) (B : Nat) (ws hs : List Int) (who : Int) (rs : List Rq) (w : World) (hv : Maps w B v ms) (hs1 : AtmV w B sv ws hs) (hu : Reqs w B u rs) (hB : B ≤ w.heap.size)
    (hno : runOk ms ws hs who rs = false) :
    Calls Try.prog 45 #[v, sv, .int .i64 who, u] w (RunVD ([], [], []) w) := by
  have HV := hid hv; have HS := hid hs1; have HU := hid hu
  obtain ⟨wv, hv2, rfl, s1, s2⟩ := hs1
  obtain ⟨uo, uc, rfl, hlc, hcap, hln, hni, hr⟩ := hu.opened
  have hc : mapOk ms = false ∨ (mapOk ms = true ∧ atmOk ws hs = false) ∨ (mapOk ms = true ∧ atmOk ws hs = true ∧ inB who 0 2 = false) ∨ (mapOk ms = true ∧ atmOk ws hs = true ∧ inB who 0 2 = true ∧ (12 : Int) < (rs.length : Int)) ∨
      (mapOk ms = true ∧ atmOk ws hs = true ∧ inB who 0 2 = true ∧ decide ((12 : Int) < (rs.length : Int)) = false ∧ rs.all reqOk = false) := by
    unfold runOk at hno
    rcases h1 : mapOk ms with _ | _ <;> rcases h2 : atmOk ws hs with _ | _ <;> rcases h3 : inB who 0 2 with _ | _ <;> rcases h5 : rs.all reqOk with _ | _ <;> simp_all <;> omega
  clear hv hno s1 s2 hu hr hlc hcap hni
  have HAB := hid (fun T V U => rs_open w wv hv2 T V U)
  have HP := hid (fun a b c => rs_below w a b c)
  go_enter Try.func45, Try.ntmps45
  rcases hc with h1 | ⟨h1, h2⟩ | ⟨h1, h2, h3⟩ | ⟨h1, h2, h3, h4⟩ | ⟨h1, h2, h3, h4, h5⟩
  all_goals
    go_wp2_with (first
      | (go_at_call 61; refine (specMapOk_any _ ms B _ (HV.out.below ((HP.out _ _ _).mono hB)) (by first | (simp; done) | (simp; omega))).mono ?_; rw [h1]; rintro e w1 ⟨rfl, hb1⟩; have HAB1 := hid ((HAB.out _ _ _).below hb1 (by first | (simp; done) | (simp; omega))); obtain ⟨⟨a0, a1⟩, ⟨g0, g1, g2, g3⟩⟩ := HAB1.out; have HB := hid ((HP.out _ _ _).trans (hb1.mono (by first | (simp; done) | (simp; omega)))); clear hb1)
      | (go_at_call 100; refine (specAtmOk_any _ ws hs B _ (HS.out.below (HB.out.mono hB)) (Nat.le_trans hB HB.out.size)).mono ?_; rw [h2]; rintro e w1 ⟨rfl, hb1⟩; have HAB1 := hid (HAB1.out.below hb1 HAB1.out.lt); obtain ⟨⟨a0, a1⟩, ⟨g0, g1, g2, g3⟩⟩ := HAB1.out; have HB := hid (HB.out.trans (hb1.mono HB.out.size)); clear hb1)
      | (go_at_call 60; refine (l1In_any _ _ _ _).mono ?_; rw [h3]; rintro e w' ⟨rfl, rfl⟩)
      | (go_at_call 63; refine (l4Prog_any _ rs B _ (HU.out.below (HB.out.mono hB)) (Nat.le_trans hB HB.out.size)).mono ?_; rw [h5]; rintro e w1 ⟨rfl, hb1⟩; have HAB1 := hid (HAB1.out.below hb1 HAB1.out.lt); obtain ⟨⟨a0, a1⟩, ⟨g0, g1, g2, g3⟩⟩ := HAB1.out; have HB := hid (HB.out.trans (hb1.mono HB.out.size)); clear hb1))
    have hbE := hid ((HB.out.setCell (p := ⟨w.heap.size + 1, 0, none⟩) (by simp; try omega) (.slice none 0 0)).setCell (p := ⟨w.heap.size + 1, 1, none⟩) (by simp; try omega) (.slice none 0 0))
    refine bodyPost_ret (results_ct Try.results45 _ _ ⟨w.heap.size + 1, 0, none⟩ (.agg #[.slice none 0 0, .slice none 0 0]) rfl ?_) rfl ?_
    · exact loadVar_atm _ _ _ _ (by simp [go_sem, g0]) (by simp [go_sem, g1])
    exact ⟨none, 0, none, 0, _, _, rfl, IntsD.nil _ _, IntsD.nil _ _, ⟨[], rfl, ⟨_, _, rfl, by simp [mkRows], by simp [mkRows], by simp [mkRows], (fun h => by cases h), fun h => absurd rfl h⟩, fun k hk => absurd hk (by simp), by simp⟩, hbE.out⟩

theorem allReq_take {rs : List Rq} (h : rs.all reqOk = true) (k : Nat) : (rs.take k).all reqOk = true := by
  rw [List.all_eq_true] at h ⊢
  exact fun x hx => h x (List.mem_of_mem_take hx)
theorem allReq_get {rs : List Rq} (h : rs.all reqOk = true) {k : Nat} (hk : k < rs.length) : reqOk (rs.getD k default) = true := by
  rw [List.all_eq_true] at h
  exact h _ (getD_mem hk)

/-- The store, and what was told, at the head of round k. -/
def SrRel (base : Nat) (w0 w : World) (gX : Nat) (ms : List MR) (who : Int) (rs : List Rq) (ws hs : List Int) (k : Nat) (v av bv : Value) : Prop :=
  ∃ (ds : List Value) (va : Option Addr) (vc : Nat), v = .slice va k vc ∧ SRun base w0 w gX av bv (.slice va k vc) (runReq ms who ws hs (rs.take k)).1 (runReq ms who ws hs (rs.take k)).2.1 (runReq ms who ws hs (rs.take k)).2.2 ds

set_option maxRecDepth 4000 in
set_option maxHeartbeats 16000000 in
theorem specAtmRun_yes (v sv u : Value) (ms : List MR) (B : Nat) (ws hs : List Int) (who : Int) (rs : List Rq) (w : World) (hv : Maps w B v ms) (hs1 : AtmV w B sv ws hs) (hu : Reqs w B u rs) (hB : B ≤ w.heap.size)
    (hok : runOk ms ws hs who rs = true) :
    Calls Try.prog 45 #[v, sv, .int .i64 who, u] w (RunVD (runReq ms who ws hs rs) w) := by
  have HV := hid hv; have HS := hid hs1; have HU := hid hu
  obtain ⟨wv, hv2, rfl, s1, s2⟩ := hs1
  obtain ⟨h1, h2, h3, h4, h5⟩ := runOk_parts.1 hok
  have hl : ws.length = 64 ∧ hs.length = 6 := by
    have h2' := h2
    simp only [atmOk, memOk, Bool.and_eq_true, beq_iff_eq] at h2'
    exact ⟨h2'.1.1.1, h2'.1.2⟩
  have HL := hid hl
  obtain ⟨uo, uc, rfl, hlc, hcap, hln, hni, hr⟩ := hu.opened
  have HR := hid hr
  clear hv s1 s2 hl hu hr
  have HM1 := hid h1; have HWHO := hid h3; have HALL := hid h5; have HOK2 := hid h2
  have H12 := hid h4
  have hle : (rs.length : Int) ≤ 12 := by omega
  have h12 : decide ((12 : Int) < (rs.length : Int)) = false := by simpa using hle
  have HAB := hid (fun T V U => rs_open w wv hv2 T V U)
  have HP := hid (fun a b c => rs_below w a b c)
  have hL0 := hid (show ∀ T, (((w.alloc (.cells #[wv, hv2] 40)).alloc (.cells #[.slice none 0 0, .slice none 0 0] 40)).alloc (.cells #[] T)).heap[w.heap.size + 2]? = some (.cells #[] T (0, 0)) from fun T => alloc_new_at _ _ (by simp))
  clear hok hle hlc
  go_enter Try.func45, Try.ntmps45
  go_upto_region 4 with (first
      | (go_at_call 61; refine (specMapOk_any _ ms B _ (HV.out.below ((HP.out _ _ _).mono hB)) (by first | (simp; done) | (simp; omega))).mono ?_; rw [h1]; rintro e w1 ⟨rfl, hb1⟩; have HAB1 := hid ((HAB.out _ _ _).below hb1 (by first | (simp; done) | (simp; omega))); have HE1 := hid ((hb1.block (w.heap.size + 2) (by simp)).trans (hL0.out _)); obtain ⟨⟨a0, a1⟩, ⟨g0, g1, g2, g3⟩⟩ := HAB1.out; have HB := hid ((HP.out _ _ _).trans (hb1.mono (by first | (simp; done) | (simp; omega)))); have hzz := hb1.size; simp only [World.size_alloc] at hzz; clear hb1)
      | (go_at_call 100; refine (specAtmOk_any _ ws hs B _ (HS.out.below (HB.out.mono hB)) (Nat.le_trans hB HB.out.size)).mono ?_; rw [h2]; rintro e w1b ⟨rfl, hb1⟩; have hzz2 := hb1.size; have HE1 := hid ((hb1.block (w.heap.size + 2) (by omega)).trans HE1.out); have HAB1 := hid (HAB1.out.below hb1 HAB1.out.lt); obtain ⟨⟨a0, a1⟩, ⟨g0, g1, g2, g3⟩⟩ := HAB1.out; have HB := hid (HB.out.trans (hb1.mono HB.out.size)); clear hb1)
      | (go_at_call 60; refine (l1In_any _ _ _ _).mono ?_; rw [h3]; rintro e w' ⟨rfl, rfl⟩)
      | (go_at_call 63; refine (l4Prog_any _ rs B _ (HU.out.below (HB.out.mono hB)) (Nat.le_trans hB HB.out.size)).mono ?_; rw [h5]; rintro e w1c ⟨rfl, hb1⟩; have hzz3 := hb1.size; have HE1 := hid ((hb1.block (w.heap.size + 2) (by omega)).trans HE1.out); have HAB1 := hid (HAB1.out.below hb1 HAB1.out.lt); obtain ⟨⟨a0, a1⟩, ⟨g0, g1, g2, g3⟩⟩ := HAB1.out; have HB := hid (HB.out.trans (hb1.mono HB.out.size)); clear hb1))
  go_upto_region 5 with (first
      | (go_at_call 103; refine (l4Copy_any _ ws hs B _ (HS.out.below (HB.out.mono hB)) (Nat.le_trans hB HB.out.size) (by rw [HL.out.1]; omega) (by rw [HL.out.2]; omega) (by rw [HL.out.1]; omega)).mono ?_; rintro e w2 ⟨wv', hv', rfl, ho1, ho2, _, hb1⟩; have hbs := HB.out.size; obtain ⟨wa, kc, rfl, _, _⟩ := ho1.shape; obtain ⟨ha, hc, rfl, _, _⟩ := ho2.shape; have HO1 := hid ho1; have HO2 := hid ho2; have HB2 := hid hb1; clear ho1 ho2 hb1 a0 a1 g0 g1 g2 g3))
  obtain ⟨w3, hw3⟩ : ∃ W, W = w2.alloc (.cells #[.slice wa ws.length kc, .slice ha hs.length hc] 40) := ⟨_, rfl⟩
  rw [← hw3]
  have hb3 : Below w2.heap.size w2 w3 := by rw [hw3]; exact (Below.refl _ _).alloc (Nat.le_refl _) _
  have hz3 : w3.heap.size = w2.heap.size + 1 := by rw [hw3]; simp
  have hz2 := HB2.out.size
  have HBE := hid (HB.out.trans ((HB2.out.trans (hb3.mono hz2)).mono HB.out.size))
  have HBX := hid (show BoxA w3 w2.heap.size (.slice wa ws.length kc) (.slice ha hs.length hc) by rw [hw3]; exact BoxA.new _ _ _)
  have HAB3 := hid ((HAB1.out.below HB2.out HAB1.out.lt).below hb3 (by have := HAB1.out.lt; omega))
  have HE3 := hid (((hb3.block (w.heap.size + 2) (by omega)).trans (HB2.out.block (w.heap.size + 2) (by omega))).trans HE1.out)
  have a64 := atmOk_64 HOK2.out
  have HST := hid (SRun.start (v := .slice (some ⟨w.heap.size + 2, 0, none⟩) 0 0) HBX.out (HO1.out.below hb3) (HO2.out.below hb3) (own_empty HE3.out (by omega)) (fun k hk => by simp only [Value.ownBlock, Option.some.injEq] at hk; omega) (.inr fun k hk => by
      rcases hk with hk | hk
      · have := (OwnR.lt HO1.out k hk).2; omega
      · have := (OwnR.lt HO2.out k hk).2; omega) (by rw [HL.out.1]; omega) (by rw [HL.out.2]; omega) a64.1 a64.2 (Below.refl (w.heap.size + 2) w3) (by omega) (by omega) (by simp only [Value.ownBlock]; intro e; have := Option.some.inj e; omega) (by omega))
  clear hw3 hb3 HB2 HO1 HO2 HBX HE1 HAB1 HE3 HB a64
  go_upto_block 1 with fail
  go_loopw [10, 12] (fun v i wr => ∃ (k : Nat) (av bv : Value), i = .int .i64 (k : Nat) ∧ k ≤ rs.length ∧ SrRel (w.heap.size + 2) w3 wr w2.heap.size ms who rs ws hs k v av bv) (fun _ i _ => rs.length - (intOf i).toNat)
  case atStart => exact ⟨0, _, _, by go_num, by omega, ⟨[], _, _, rfl, HST.out⟩⟩
  case round =>
    obtain ⟨k, av, bv, rfl, hkx, ⟨ds, va, vc, rfl, hrel⟩⟩ := hrel
    obtain ⟨sk, hsk⟩ : ∃ s, s = runReq ms who ws hs (rs.take k) := ⟨_, rfl⟩
    rw [← hsk] at hrel
    have HSK := hid hsk
    have HR1 := hid hrel
    clear hrel HST hsk
    by_cases hlt : k < rs.length
    · have HUC := HR.out (by omega)
      obtain ⟨b, off, rfl, hb, hc⟩ := HUC
      obtain ⟨da, dc, la, lc, hu, c0, c1, c2, c3, c4, c5, c6⟩ := hc k hlt
      obtain ⟨rk, hrk⟩ : ∃ r, r = rs.getD k default := ⟨_, rfl⟩
      rw [← hrk] at c0 c1 c2 c3 c4 c5 c6 hu
      have hw3r := HBE.out.trans (HR1.out.bl.mono (by omega))
      have hbr : b < w.heap.size := Nat.lt_of_lt_of_le hb hB
      have hbz : b < wr.heap.size := Nat.lt_of_lt_of_le hbr hw3r.size
      have C0 := hid ((hw3r.cell (p := ⟨b, _, none⟩) hbr).trans c0); have C1 := hid ((hw3r.cell (p := ⟨b, _, none⟩) hbr).trans c1); have C2 := hid ((hw3r.cell (p := ⟨b, _, none⟩) hbr).trans c2); have C3 := hid ((hw3r.cell (p := ⟨b, _, none⟩) hbr).trans c3); have C4 := hid ((hw3r.cell (p := ⟨b, _, none⟩) hbr).trans c4); have C5 := hid ((hw3r.cell (p := ⟨b, _, none⟩) hbr).trans c5); have C6 := hid ((hw3r.cell (p := ⟨b, _, none⟩) hbr).trans c6)
      have HUR := hid ((hu.below (hw3r.mono hB)).mono (Nat.le_trans hB hw3r.size))
      have HMR := hid ((HV.out.below (hw3r.mono hB)).mono (Nat.le_trans hB hw3r.size))
      clear hc hu c0 c1 c2 c3 c4 c5 c6 hw3r hbr
      obtain ⟨x, hx⟩ : ∃ x, x = atmDo ms sk.1 sk.2.1 who rk := ⟨_, rfl⟩
      have HX := hid hx
      have HXS := hid (show Small x by rw [hx]; exact atmDo_small ..)
      have HEK := hid (show runReq ms who ws hs (rs.take (k + 1)) = (x.1, x.2.1, sk.2.2 ++ [x.2.2]) by
        rw [run_take hlt, ← HSK.out, hx, ← hrk, atmDo_yes (okk_parts.2 ⟨HM1.out, by rw [HSK.out]; exact run_ok HWHO.out _ ws hs HOK2.out (allReq_take HALL.out k), HWHO.out, by rw [hrk]; exact allReq_get HALL.out hlt⟩)])
      clear hx hrk
      go_upto_region 8 with fail
      go_cut [13, 14] from 49 to 59 (fun p q wd => SrP p q x wr wd)
      case first =>
        rename_i J K' hJ hK
        exact sr_region _ _ _ _ _ _ _ _ _ _ _ _ _ _ _ _ _ _ _ _ _ _ _ _ _ _ _ _ _ _ _ _ _ _ _ _ _ _ _ _ _ _ _ _ _ _ _ _ _ _ _ _ _ _ _ _ _ _ _ _ _ _ v who b off rs.length uc w2.heap.size k av bv _ _ rk x wr ms sk.1 sk.2.1 HX HR1.out.bx C0.out C1.out C2.out C3.out C4.out C5.out C6.out hbz hlt HMR.out (HR1.out.aw.to ClearB.lt) (HR1.out.ah.to ClearB.lt) HUR.out (fun u13 u14 u49 u50 u51 u52 u53 u54 u55 u56 u57 u58 u59 wd h => hK _ _ (Met.intro (hJ _ _ ⟨u13, u14, u49, u50, u51, u52, u53, u54, u55, u56, u57, u58, u59, h, rfl⟩)))
      case rest =>
        obtain ⟨ga, gr, a, bb, d, rfl, rfl, hga, hgr, hA0, hR0, o1, o2, o3, hb1⟩ := hcut
        have hmid := HR1.out.mid hA0 hR0 hga hgr o1 o2 o3 hb1 (by have := HXS.out.lw; omega) (by have := HXS.out.lh; omega) (by have := HXS.out.ld; omega) HXS.out.w HXS.out.h HXS.out.d
        obtain ⟨k0, k1, m0, m1⟩ := (HR1.out.bx.below hb1 HR1.out.bx.lt).cells
        obtain ⟨a0, a1, _, _⟩ := hA0.cells
        obtain ⟨qa, qc, rfl, _, _⟩ := o1.shape
        obtain ⟨ra, rc, rfl, _, _⟩ := o2.shape
        obtain ⟨ta, tc, rfl, _, _⟩ := o3.shape
        have HMID := hid hmid
        clear hmid hA0 hR0 o1 o2 o3 C0 C1 C2 C3 C4 C5 C6 HUR HMR
        go_upto_region 10 with fail
        obtain ⟨W, hW⟩ : ∃ W, W = (wc.setCell ⟨w2.heap.size, 0, none⟩ (.slice qa x.1.length qc)).setCell ⟨w2.heap.size, 1, none⟩ (.slice ra x.2.1.length rc) := ⟨_, rfl⟩
        rw [← hW]
        obtain ⟨q1, q2, q3, q4, q5, q6, q7, q8, q9⟩ := HMID.out W hW
        obtain ⟨z0, z1, z2, _, _, _⟩ := q2.cells
        have HQ1 := hid q1; have HQ3 := hid q3; have HQ4 := hid q4; have HQ5 := hid q5; have HQ6 := hid q6; have HQ7 := hid q7; have HQ8 := hid q8
        have hdl := HR1.out.len
        have hol := run_len ms who (rs.take k) ws hs
        rw [← HSK.out, List.length_take, Nat.min_eq_left (by omega)] at hol
        have hgx := HR1.out.gx; have hvx := HR1.out.vx
        have hml := mkRows_len sk.2.2 ds hdl
        have HDL := hid hdl; have HOL := hid hol; have HML := hid hml; have HVX := hid hvx
        clear hW q1 q2 q3 q4 q5 q6 q7 q8 k0 k1 m0 m1 a0 a1 hdl hol hml hvx
        go_wp2_with (first
          | (at_builtin; go_must (refine wpList_push2 elem_rsp rowR rowR_len (x.2.2.id, x.2.2.code, .slice ta x.2.2.data.length tc) (rowR_one _ rfl) W rfl _ _ rfl (w.heap.size + 2) _ (mkRows sk.2.2 ds) (by rfl) HQ6.out _ (by rfl) (by rfl) (by rw [HML.out, HOL.out]; have := H12.out; omega) (by rw [HML.out, HOL.out]; have := H12.out; omega) q9 ?_; intro v' W' ho9 hz9 hk9 hv9 hb9)))
        obtain ⟨va', vc', hv', _, _⟩ := ho9.shape
        have hnl : (mkRows sk.2.2 ds ++ [(x.2.2.id, x.2.2.code, Value.slice ta x.2.2.data.length tc)]).length = k + 1 := by rw [List.length_append, HML.out, HOL.out]; rfl
        rw [hnl] at hv'
        subst hv'
        have HN := hid (SRun.next HQ1.out HQ3.out HQ4.out HQ5.out HDL.out HQ7.out HQ8.out hgx HVX.out ho9 hz9 hk9 hv9 hb9 q9)
        clear ho9 hz9 hk9 hv9 hb9 hnl
        go_roundw
        case rel => exact ⟨k + 1, _, _, by go_num, by omega, ⟨_, va', vc', rfl, by rw [HEK.out]; exact HN.out⟩⟩
        case measure => simp [intOf]; omega
    · obtain rfl : k = rs.length := by omega
      rw [List.take_length] at HSK
      obtain ⟨k0, k1, _, _⟩ := HR1.out.bx.cells
      have hab := HAB3.out.below HR1.out.bl (by have := HR1.out.bs; have := HAB3.out.lt; omega)
      obtain ⟨_, ⟨g0, g1, g2, g3⟩⟩ := hab
      have hmz := HR1.out.bx.lt
      have hbx := HBE.out.trans (HR1.out.bl.mono (by omega))
      have HBXX := hid hbx
      have HRD := hid (fun (W : World) => HR1.out.readD (W := W) (P := fun b => w.heap.size ≤ b ∧ b < W.heap.size) (by rw [HSK.out]; exact run_small HM1.out HWHO.out rs ws hs HOK2.out HALL.out) (by rw [HSK.out, run_len]; have := H12.out; omega))
      have hol := run_len ms who rs ws hs
      rw [← HSK.out] at hol
      have h1' := HR1.out.aw.1; have h2' := HR1.out.ah.1
      obtain ⟨qa, qc, rfl, _⟩ := h1'
      obtain ⟨ra, rc, rfl, _⟩ := h2'
      have HOL := hid hol
      simp only [List.length_map] at *
      clear hbx hol HR
      go_wp2_with fail
      obtain ⟨W, hW⟩ : ∃ W, W = (wr.setCell ⟨w.heap.size + 1, 0, none⟩ (.slice qa sk.1.length qc)).setCell ⟨w.heap.size + 1, 1, none⟩ (.slice ra sk.2.1.length rc) := ⟨_, rfl⟩
      rw [← hW]
      have hzW : W.heap.size = wr.heap.size := by rw [hW]; simp
      obtain ⟨i1, i2, i3⟩ := HRD.out W (fun j hj _ => by rw [hW, Below.heap_setCell _ _ _ _ (by show j ≠ w.heap.size + 1; omega), Below.heap_setCell _ _ _ _ (by show j ≠ w.heap.size + 1; omega)]) (fun b h1 h2 => ⟨by omega, by omega⟩)
      have hbW : Below w.heap.size w W := by rw [hW]; exact (HBXX.out.setCell (p := ⟨w.heap.size + 1, 0, none⟩) (by show _ ≤ w.heap.size + 1; omega) _).setCell (p := ⟨w.heap.size + 1, 1, none⟩) (by show _ ≤ w.heap.size + 1; omega) _
      refine bodyPost_ret (results_ct Try.results45 _ _ ⟨w.heap.size + 1, 0, none⟩ (.agg #[.slice qa sk.1.length qc, .slice ra sk.2.1.length rc]) rfl ?_) rfl ?_
      · exact loadVar_atm _ _ _ _ (by rw [hW]; simp [go_sem, g0, hmz]) (by rw [hW]; simp [go_sem, g1, hmz])
      rw [← HSK.out]
      exact ⟨_, _, _, _, va, vc, by rw [HOL.out]; rfl, i1, i2, by rw [HOL.out]; exact i3, hbW⟩

theorem specRun_d (v sv u : Value) (ms : List MR) (B : Nat) (ws hs : List Int) (who : Int) (rs : List Rq) (w : World) (hv : Maps w B v ms) (hs1 : AtmV w B sv ws hs) (hu : Reqs w B u rs) (hB : B ≤ w.heap.size) :
    Calls Try.prog 45 #[v, sv, .int .i64 who, u] w (RunVD (atmRun ms ws hs who rs) w) := by
  unfold atmRun
  rcases hc : runOk ms ws hs who rs with _ | _
  · rw [if_neg (by simp)]; exact specAtmRun_no v sv u ms B ws hs who rs w hv hs1 hu hB hc
  · rw [if_pos rfl]; exact specAtmRun_yes v sv u ms B ws hs who rs w hv hs1 hu hB hc
theorem specRun_v (v sv u : Value) (ms : List MR) (B : Nat) (ws hs : List Int) (who : Int) (rs : List Rq) (w : World) (hv : Maps w B v ms) (hs1 : AtmV w B sv ws hs) (hu : Reqs w B u rs) (hB : B ≤ w.heap.size) :
    Calls Try.prog 45 #[v, sv, .int .i64 who, u] w (RunV (atmRun ms ws hs who rs) w) := (specRun_d v sv u ms B ws hs who rs w hv hs1 hu hB).mono fun _ _ h => h.v

end Go.Proofs.Yteamebdehembgaa
