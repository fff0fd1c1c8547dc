/-
  One thing at once of the reference, whole; copies of a store (printed by wip/gen_sad.py).
-/
import Derived.Test.YteamebdehembgaaJInv
import Derived.Test.YteamebdehembgaaKSd1
import Derived.Test.YteamebdehembgaaJDr1
import Derived.Test.YteamebdehembgaaKSd3
import Derived.Test.YteamebdehembgaaJCr1
set_option linter.unusedVariables false
set_option linter.unusedSimpArgs false
namespace Go.Proofs.Yteamebdehembgaa
open Go.RowKit

theorem sgx {l : Array Bool} {i j : Nat} (h : i ≠ j) : (l.setIfInBounds i true).getD j false = l.getD j false := Go.getD_set_ne false h
theorem sgix {l : Array Bool} {i : Nat} (h : l.getD i true = false) : (l.setIfInBounds i true).getD i false = true := by
  have hlt : i < l.size := by
    rcases Nat.lt_or_ge i l.size with h1 | h1
    · exact h1
    · simp [Array.getElem?_eq_none h1] at h
  simp [hlt]
theorem wpOp_stepx {P : Program} {ops : Array Oper} {Q : Exit → Act → World → Prop} {i : Nat} {o : Oper} {I : Act → World → Prop} {a : Act} {w : World} (ho : ops[i]? = some o) (hg : o.guard = none)
    (h : ∀ K : Act → World → Prop, (∀ a' w', I a' w' → K a' w') → o.wp P a w K Q) : wpOp P ops Q i I a w := wpOp_wp ho hg (h _ fun _ _ h => h)
/-- What is listed is closed: what an operation comes behind is listed where it is. -/
def Closed (ops : Array Oper) (listed : Array Bool) : Prop := ∀ i o, ops[i]? = some o → listed.getD i false = true → ∀ e ∈ o.after, Region.binds .any e = true → listed.getD e.on false = true
theorem wp_region_inv2 {P : Program} {ops : Array Oper} {Q : Exit → Act → World → Prop} {id : Nat} {a : Act} {w : World} (I : Array Bool → Act → World → Prop) (hm : P.follows .mixedOrders = true) (hb : backB .any ops = true)
    (start : I (Array.replicate ops.size false) a { w with drawn := w.drawn + 1 })
    (step : ∀ listed a w i o, I listed a w → listed.size = ops.size → ops[i]? = some o → listed.getD i true = false → (∀ e ∈ o.after, Region.binds .any e = true → listed.getD e.on false = true) → Closed ops listed → wpOp P ops Q i (fun a' w' => I (listed.setIfInBounds i true) a' w') a w)
    (done : ∀ listed a w, I listed a w → (∀ i, i < ops.size → listed.getD i false = true) → Q .normal a w) : (Code.region id ops true).wp P Q a w := by
  refine wp_region_inv (fun listed a w => Closed ops listed ∧ I listed a w) hm hb ⟨fun i o _ hl => ?_, start⟩ ?_ (fun listed a w h hd => done listed a w h.2 hd)
  · rw [getD_replicate_false] at hl; cases hl
  · rintro listed a w i o ⟨hc, hI⟩ hs ho hl he
    refine wpOp_mono (fun a' w' h' => ⟨?_, h'⟩) (step listed a w i o hI hs ho hl he hc)
    intro j o' ho' hj e hem heb
    have hset : ∀ k, listed.getD k false = true → (listed.setIfInBounds i true).getD k false = true := fun k hk => by
      by_cases hik : i = k
      · subst hik; exact sgix hl
      · rw [sgx hik]; exact hk
    by_cases hij : i = j
    · subst hij
      rw [ho] at ho'; obtain rfl := Option.some.inj ho'
      exact hset _ (he e hem heb)
    · rw [sgx hij] at hj
      exact hset _ (hc j o' ho' hj e hem heb)

theorem heap_lt {w : World} {r : Nat} {o : Obj} (h : w.heap[r]? = some o) : r < w.heap.size := by
  rcases Nat.lt_or_ge r w.heap.size with h1 | h1
  · exact h1
  · rw [Array.getElem?_eq_none h1] at h; simp at h
/-- The box of a store, and what is held. -/
def BoxA (w : World) (s : Nat) (a b : Value) : Prop := w.heap[s]? = some (.cells #[a, b] 40 (0, 0))
theorem BoxA.lt {w : World} {s : Nat} {a b : Value} (h : BoxA w s a b) : s < w.heap.size := heap_lt h
theorem BoxA.keep {w w' : World} {s : Nat} {a b : Value} (h : BoxA w s a b) (e : w'.heap[s]? = w.heap[s]?) : BoxA w' s a b := by unfold BoxA at h ⊢; rw [e]; exact h
theorem BoxA.touch {w w' : World} {s x : Nat} {a b : Value} (h : BoxA w s a b) (ht : Touch x w w') (hx : s ≠ x) : BoxA w' s a b := h.keep (ht.block s h.lt hx)
theorem BoxA.below {w w' : World} {s C : Nat} {a b : Value} (h : BoxA w s a b) (hb : Below C w w') (hx : s < C) : BoxA w' s a b := h.keep (hb.block s hx)
theorem BoxA.cells {w : World} {s : Nat} {a b : Value} (h : BoxA w s a b) : w.cell? ⟨s, 0, none⟩ = some a ∧ w.cell? ⟨s, 1, none⟩ = some b ∧ w.frozen? ⟨s, 0, none⟩ = false ∧ w.frozen? ⟨s, 1, none⟩ = false := by
  unfold BoxA at h
  refine ⟨?_, ?_, ?_, ?_⟩ <;> simp [World.cell?, World.frozen?, h]
theorem BoxA.put {w : World} {s : Nat} {a b : Value} (h : BoxA w s a b) (c d : Value) : BoxA ((w.setCell ⟨s, 0, none⟩ c).setCell ⟨s, 1, none⟩ d) s c d := by
  unfold BoxA at h ⊢; simp [World.setCell, Array.getElem?_modify, h]
theorem BoxA.new (w : World) (a b : Value) : BoxA (w.alloc (.cells #[a, b] 40)) w.heap.size a b := by
  show (w.heap.push _)[w.heap.size]? = _; simp
/-- The box of what comes of something. -/
def BoxR (w : World) (s : Nat) (i c : Int) (d : Value) : Prop := w.heap[s]? = some (.cells #[.int .i64 i, .int .i64 c, d] 66 (0, 0))
theorem BoxR.lt {w : World} {s : Nat} {a b : Int} {d : Value} (h : BoxR w s a b d) : s < w.heap.size := heap_lt h
theorem BoxR.keep {w w' : World} {s : Nat} {a b : Int} {d : Value} (h : BoxR w s a b d) (e : w'.heap[s]? = w.heap[s]?) : BoxR w' s a b d := by unfold BoxR at h ⊢; rw [e]; exact h
theorem BoxR.touch {w w' : World} {s x : Nat} {a b : Int} {d : Value} (h : BoxR w s a b d) (ht : Touch x w w') (hx : s ≠ x) : BoxR w' s a b d := h.keep (ht.block s h.lt hx)
theorem BoxR.below {w w' : World} {s C : Nat} {a b : Int} {d : Value} (h : BoxR w s a b d) (hb : Below C w w') (hx : s < C) : BoxR w' s a b d := h.keep (hb.block s hx)
theorem BoxR.cells {w : World} {s : Nat} {a b : Int} {d : Value} (h : BoxR w s a b d) : w.cell? ⟨s, 0, none⟩ = some (.int .i64 a) ∧ w.cell? ⟨s, 1, none⟩ = some (.int .i64 b) ∧ w.cell? ⟨s, 2, none⟩ = some d ∧ w.frozen? ⟨s, 0, none⟩ = false ∧ w.frozen? ⟨s, 1, none⟩ = false ∧ w.frozen? ⟨s, 2, none⟩ = false := by
  unfold BoxR at h
  refine ⟨?_, ?_, ?_, ?_, ?_, ?_⟩ <;> simp [World.cell?, World.frozen?, h]
theorem BoxR.put {w : World} {s : Nat} {a b : Int} {d : Value} (h : BoxR w s a b d) (i c : Int) (u : Value) : BoxR (((w.setCell ⟨s, 0, none⟩ (.int .i64 i)).setCell ⟨s, 1, none⟩ (.int .i64 c)).setCell ⟨s, 2, none⟩ u) s i c u := by
  unfold BoxR at h ⊢; simp [World.setCell, Array.getElem?_modify, h]
theorem BoxR.new (w : World) (i c : Int) (d : Value) : BoxR (w.alloc (.cells #[.int .i64 i, .int .i64 c, d] 66)) w.heap.size i c d := by
  show (w.heap.push _)[w.heap.size]? = _; simp
theorem touchA (s : Nat) (w : World) (a b : Value) : Touch s w ((w.setCell ⟨s, 0, none⟩ a).setCell ⟨s, 1, none⟩ b) := (Touch.setCell _ _ _ _).trans (Touch.setCell _ _ _ _)
theorem touchR (s : Nat) (w : World) (a b c : Value) : Touch s w (((w.setCell ⟨s, 0, none⟩ a).setCell ⟨s, 1, none⟩ b).setCell ⟨s, 2, none⟩ c) := ((Touch.setCell _ _ _ _).trans (Touch.setCell _ _ _ _)).trans (Touch.setCell _ _ _ _)
/-- A slice of numbers that is owned lies in no box of another type. -/
theorem Owns.notBox {w : World} {base g T : Nat} {v : Value} {xs : List Int} {cs : Array Value} (h : Owns w base 3 1 rowI v xs) (hg : w.heap[g]? = some (.cells cs T (0, 0))) (hT : T ≠ 3) : ∀ k, v.ownBlock = some k → k ≠ g := by
  intro k hk e
  subst e
  obtain ⟨_, h2⟩ := h
  rcases h2 with ⟨rfl, _⟩ | ⟨g', off, cap, cur, rfl, _, hh, _⟩
  · simp [Value.ownBlock] at hk
  · simp [Value.ownBlock] at hk
    subst hk
    rw [hh] at hg
    simp only [Option.some.injEq, Obj.cells.injEq] at hg
    exact hT hg.2.1.symm
theorem Owns.touchN {w w' : World} {base g : Nat} {v : Value} {xs : List Int} (h : Owns w base 3 1 rowI v xs) (ht : Touch g w w') (hg : ∀ k, v.ownBlock = some k → k ≠ g) : Owns w' base 3 1 rowI v xs :=
  OwnR.kept h fun k hk => ht.block k (OwnR.lt h k hk).2 (hg k hk)
theorem Owns.boxA {w w' : World} {base g : Nat} {v a b : Value} {xs : List Int} (h : Owns w base 3 1 rowI v xs) (hA : BoxA w g a b) (ht : Touch g w w') : Owns w' base 3 1 rowI v xs := h.touchN ht (h.notBox hA (by decide))
theorem Owns.boxR {w w' : World} {base g : Nat} {v d : Value} {i c : Int} {xs : List Int} (h : Owns w base 3 1 rowI v xs) (hA : BoxR w g i c d) (ht : Touch g w w') : Owns w' base 3 1 rowI v xs := h.touchN ht (h.notBox hA (by decide))
/-- An empty array lies in no block that holds something. -/
theorem Owns.notEmpty {w : World} {base g T : Nat} {v : Value} {xs : List Int} (h : Owns w base 3 1 rowI v xs) (hg : w.heap[g]? = some (.cells #[] T (0, 0))) (hn : xs.length ≠ 0) : ∀ k, v.ownBlock = some k → k ≠ g := by
  intro k hk e
  subst e
  obtain ⟨hl, h2⟩ := h
  rcases h2 with ⟨rfl, _⟩ | ⟨g', off, cap, cur, rfl, _, hh, hle, _, hsz, _⟩
  · simp [Value.ownBlock] at hk
  · simp [Value.ownBlock] at hk
    subst hk
    rw [hh] at hg
    simp only [Option.some.injEq, Obj.cells.injEq] at hg
    obtain ⟨rfl, _⟩ := hg
    simp at hsz; omega
theorem Touch.transN {r x : Nat} {a w w' : World} (h : Touch r a w) (ht : Touch x w w') (hx : a.heap.size ≤ x) : Touch r a w' :=
  ⟨ht.os.trans h.os, ht.tape.trans h.tape, ht.output.trans h.output, Nat.le_trans h.size ht.size, fun k hk hr => (ht.block k (Nat.lt_of_lt_of_le hk h.size) (by omega)).trans (h.block k hk hr)⟩
theorem Below.touchN {B x : Nat} {a w w' : World} (h : Below B a w) (ht : Touch x w w') (hx : B ≤ x) (hB : B ≤ a.heap.size) : Below B a w' := h.trans (ht.below hx (Nat.le_trans hB h.size))
/-- 'append(out, ys...)' at a step: which blocks are kept. -/
theorem wp_catN {o : Oper} {a : Act} {K : Act → World → Prop} {Q : Exit → Act → World → Prop} (w : World) (s x : Operand) (ho : o.op = .call { callee := .builtin .append, args := #[s, x], argTypes := #[24, 24] })
    (g : Nat) (hs : a.eval s = .slice (some ⟨g, 0, none⟩) 0 0) (hg : w.heap[g]? = some (.cells #[] 3 (0, 0))) (u : Value) (ys : List Int) (B : Nat) (hx : a.eval x = u) (harr : Ints w B u ys) (hl : ys.length ≤ 1048576)
    (h : ∀ v' w', Owns w' g 3 1 rowI v' ys → Touch g w w' → (∀ k, v'.ownBlock = some k → k = g ∨ w.heap.size ≤ k) → K (a.put o.dst v') w') : Oper.wp Try.prog o a w K Q := by
  obtain ⟨ht, i, z, hi, hz, hsize, hby, hzs, hsz⟩ := elem_int
  have hown : OwnR w g 3 1 (.slice (some ⟨g, 0, none⟩) 0 0) 0 [] := ⟨by simp, .inr ⟨g, 0, 0, #[], rfl, Nat.le_refl _, hg, by omega, by unfold maxLen; omega, by simp, fun j hj => by omega⟩⟩
  obtain ⟨ao, cap, rfl, g1, g2, g0, g9, g3⟩ := harr.1
  simp only [List.length_map] at hx g1 g0 g3
  cases ao with
  | none =>
    have hc := g9 rfl
    have hy : ys = [] := by
      rcases ys with _ | ⟨y, ys⟩
      · rfl
      · simp at g1; omega
    subst hy hc
    refine wp_append_OwnR_none s x 24 ho g 3 i 1 ht hi _ 0 [] hs hown hx (h _ w ?_ (Touch.refl _ _) (fun k hk => .inl (by simp [Value.ownBlock] at hk; omega)))
    simpa [Owns] using hown
  | some ad =>
    refine wp_append_OwnR s x 24 ho g 3 i z 1 8 ht hi hz hsize hby hzs _ 0 [] hs hown ad ys.length cap (ys.flatMap rowI) hx (by rw [flatMap_len rowI_len]) ?_ ?_ (by unfold maxLen; omega) (by omega) (Nat.le_of_lt (heap_lt hg)) ?_
    · intro j u hj
      have hjl : j < ys.length * 1 := by rw [← flatMap_len rowI_len ys]; exact (List.getElem?_eq_some_iff.1 hj).1
      obtain ⟨b, off, had, _, hc⟩ := g3 (by omega)
      obtain rfl := Option.some.inj had
      rw [Addr.add_lit, ← hj, rows_flat rowI_len ys j hjl (by omega), ← hc (j / 1) (by omega) (j % 1) (by omega)]
      have e : off + j / 1 * 1 + j % 1 = off + j := by omega
      rw [e]
    · intro u hu
      obtain ⟨y, _, hy⟩ := List.mem_flatMap.1 hu
      exact rowI_one y u hy
    · intro v' w' ho' hgr _ hb
      refine h v' w' (by simpa [Owns] using ho') ⟨hgr.os, hgr.tape, hgr.output, hgr.size, fun k hk hne => hgr.block k hk (by simpa [Value.ownBlock] using hne)⟩ (fun k hk => ?_)
      rcases hb with hb | hb
      · left; rw [hb] at hk; simp [Value.ownBlock] at hk; exact hk.symm
      · right; rw [hb] at hk; simp at hk; omega

end Go.Proofs.Yteamebdehembgaa

namespace Go.Proofs.Yteamebdehembgaa
open Go.RowKit

theorem sdo_any (v : Value) (ms : List MR) (B gw ow cw gh oh ch : Nat) (ws hs : List Int) (who : Int) (r : Rq) (u : Value) (w : World) (hv : Maps w B v ms) (h : SIn w B gw ow cw gh oh ch ws hs) (hu : ReqV w B u r) (hwho : inB who 0 2 = true) (hq : reqOk r = true) (hws : ws.all wordOk = true) :
    Calls Try.prog 102 #[v, .agg #[.slice (some ⟨gw, ow, none⟩) 64 cw, .slice (some ⟨gh, oh, none⟩) 6 ch], .int .i64 who, u] w (SDoP B gw ow cw gh oh ch (doReq ms ws hs who r) w) := by
  obtain ⟨h1, h2, h3, h4, h5⟩ := reqOk_parts hq
  obtain ⟨dv, lv, rfl, k1, k2, k3⟩ := hu
  have hkk : 1 ≤ r.kind ∧ r.kind ≤ 4 := by simpa [inB] using h2
  by_cases hz : wholeOf ms (burst r.addr r.many r.wrap) < 0
  · have e : doReq ms ws hs who r = (ws, hs, ⟨r.id, 4, []⟩) := by simp [doReq, rqBurst, hz]
    rw [e]
    exact sdo_none v ms B gw ow cw gh oh ch ws hs who _ _ _ _ _ dv lv _ _ _ rfl w hv h k1 k2 hwho h1 hz
  · have hz0 : 0 ≤ wholeOf ms (burst r.addr r.many r.wrap) := by omega
    rcases hw : rqWrites r with _ | _
    · have hk : r.kind = 1 ∨ r.kind = 3 := by simp [rqWrites] at hw; omega
      rcases hk with hk | hk
      · have e : doReq ms ws hs who r = (ws, hs, ⟨r.id, 1, getAll ws (burst r.addr r.many r.wrap)⟩) := by
          simp [doReq, rqBurst, hz, hw, hk]
        rw [e]
        exact sdo_read v ms B gw ow cw gh oh ch ws hs who _ _ _ _ _ dv lv _ _ _ rfl w hv h k1 k2 hwho h1 hz0 hk hws
      · have e : doReq ms ws hs who r = (ws, hs.set (who * 2 + r.id).toNat r.addr, ⟨r.id, 2, getAll ws (burst r.addr r.many r.wrap)⟩) := by
          simp [doReq, rqBurst, hz, hw, hk]
        rw [e]
        exact sdo_hold v ms B gw ow cw gh oh ch ws hs who _ _ _ _ _ dv lv _ _ _ rfl w hv h k1 k2 hwho h1 hz0 hk hws
    · have hw' : (r.kind == 2 || r.kind == 4) = true := hw
      have hd := h4 hw'
      rcases ho : (ms.getD (wholeOf ms (burst r.addr r.many r.wrap)).toNat default).only with _ | _
      · have hk : r.kind = 2 ∨ r.kind = 4 := by simpa using hw'
        rcases hk with hk | hk
        · have e : doReq ms ws hs who r = (putAll ws (burst r.addr r.many r.wrap) r.data r.lanes, freeAll hs (burst r.addr r.many r.wrap), ⟨r.id, 1, []⟩) := by
            simp [doReq, rqBurst, hz, hw, ho, hk, -List.getD_eq_getElem?_getD]
          rw [e]
          exact sdo_write v ms B gw ow cw gh oh ch ws hs who _ _ _ _ _ dv lv _ _ _ rfl w hv h k1 k2 hwho h1 hz0 hk ho hws hd
        · by_cases hh : hs.getD (who * 2 + r.id).toNat 0 = r.addr
          · have e : doReq ms ws hs who r = (putAll ws (burst r.addr r.many r.wrap) r.data r.lanes, freeAll hs (burst r.addr r.many r.wrap), ⟨r.id, 2, []⟩) := by
              simp [doReq, rqBurst, hz, hw, ho, hk, hh, -List.getD_eq_getElem?_getD]
            rw [e]
            exact sdo_tryyes v ms B gw ow cw gh oh ch ws hs who _ _ _ _ _ dv lv _ _ _ rfl w hv h k1 k2 hwho h1 hz0 hk ho hh hws hd
          · have e : doReq ms ws hs who r = (ws, hs, ⟨r.id, 1, []⟩) := by
              simp [doReq, rqBurst, hz, hw, ho, hk, hh, -List.getD_eq_getElem?_getD]
            rw [e]
            exact sdo_tryno v ms B gw ow cw gh oh ch ws hs who _ _ _ _ _ dv lv _ _ _ rfl w hv h k1 k2 hwho h1 hz0 hk ho hh
      · have e : doReq ms ws hs who r = (ws, hs, ⟨r.id, 3, []⟩) := by
          simp [doReq, rqBurst, hz, hw, ho, -List.getD_eq_getElem?_getD]
        rw [e]
        exact sdo_deny v ms B gw ow cw gh oh ch ws hs who _ _ _ _ _ dv lv _ _ _ rfl w hv h k1 k2 hwho h1 hz0 hw' ho

def cpA (wv hv : Value) (s : Nat) (u3 u4 u5 u6 u7 u8 u9 u10 : Value) : Act := { tmps := #[.agg #[wv, hv], .pointer (some ⟨s, 0, none⟩), .pointer (some ⟨s + 1, 0, none⟩), u3, u4, u5, u6, u7, u8, u9, u10], defers := [] }
def cpI (wv hv : Value) (ws hs : List Int) (s : Nat) (w0 : World) (listed : Array Bool) (a : Act) (w' : World) : Prop :=
  ∃ u3 u4 u5 u6 u7 u8 u9 u10 : Value, a = cpA wv hv s u3 u4 u5 u6 u7 u8 u9 u10 ∧
      (listed.getD 0 false = true → u3 = .pointer (some ⟨s, 0, none⟩)) ∧
      (listed.getD 1 false = true → u4 = .agg #[wv]) ∧
      (listed.getD 2 false = true → ∃ u, u5 = .agg #[u] ∧ Owns w' w0.heap.size 3 1 rowI u ws) ∧
      (listed.getD 3 false = true → listed.getD 6 false = false → ∃ g, u6 = .slice (some ⟨g, 0, none⟩) 0 0 ∧ w0.heap.size ≤ g ∧ w'.heap[g]? = some (.cells #[] 3 (0, 0))) ∧
      (listed.getD 4 false = true → u7 = .pointer (some ⟨s, 1, none⟩)) ∧
      (listed.getD 5 false = true → u8 = hv) ∧
      (listed.getD 6 false = true → Owns w' w0.heap.size 3 1 rowI u9 hs ∧ ∃ u, u5 = .agg #[u] ∧ Apart u u9) ∧
      (listed.getD 7 false = true → ∃ u, u5 = .agg #[u] ∧ u10 = .agg #[u, u9]) ∧
      (listed.getD 8 false = true → ∃ a b, BoxA w' (s + 1) a b ∧ Owns w' w0.heap.size 3 1 rowI a ws ∧ Owns w' w0.heap.size 3 1 rowI b hs ∧ Apart a b) ∧
      (listed.getD 8 false = false → BoxA w' (s + 1) (.slice none 0 0) (.slice none 0 0)) ∧
      Touch (s + 1) w0 w'
set_option maxRecDepth 20000 in
set_option maxHeartbeats 8000000 in
/-- l4Copy of the reference. -/
theorem l4Copy_any (v : Value) (ws hs : List Int) (B : Nat) (w : World) (h : AtmV w B v ws hs) (hB : B ≤ w.heap.size) (hl1 : ws.length ≤ 1048576) (hl2 : hs.length ≤ 1048576) (hl4 : ws.length ≠ 0) :
    Calls Try.prog 103 #[v] w (AtmCopyP ws hs w) := by
  obtain ⟨wv, hv, rfl, h1, h2⟩ := h
  go_enter Try.func103, Try.ntmps103
  go_wp2_with fail
  rename_i K hK
  obtain ⟨w0, hw0⟩ : ∃ w0, w0 = (w.alloc (.cells #[wv, hv] 40)).alloc (.cells #[.slice none 0 0, .slice none 0 0] 40) := ⟨_, rfl⟩
  have hB0 : BoxA w0 w.heap.size wv hv := by rw [hw0]; exact (BoxA.new w wv hv).below ((Below.refl _ _).alloc (Nat.le_refl _) _) (by simp)
  have hN0 : BoxA w0 (w.heap.size + 1) (.slice none 0 0) (.slice none 0 0) := by rw [hw0]; have := BoxA.new (w.alloc (.cells #[wv, hv] 40)) (.slice none 0 0) (.slice none 0 0); simpa using this
  have hz1 : w0.heap.size = w.heap.size + 2 := by rw [hw0]; simp
  have hbw : Below w.heap.size w w0 := by rw [hw0]; exact ((Below.refl _ _).alloc (Nat.le_refl _) _).alloc (by simp) _
  have HBW := hid hbw
  have h1 := (h1.below (hbw.mono hB))
  have h2 := (h2.below (hbw.mono hB))
  rw [← hw0]
  obtain ⟨s, hs'⟩ : ∃ s, s = w.heap.size := ⟨_, rfl⟩
  simp only [← hs'] at hB0 hN0 hz1 hB ⊢
  have HSE := hid hs'
  clear hw0 hbw hs'
  refine wp_region_inv2 (cpI wv hv ws hs s w0) (by kernel_rfl) (by kernel_rfl) ?_ ?_ ?_
  · exact ⟨_, _, _, _, _, _, _, _, rfl, (fun h => absurd h (by rw [getD_replicate_false]; simp)), (fun h => absurd h (by rw [getD_replicate_false]; simp)), (fun h => absurd h (by rw [getD_replicate_false]; simp)), (fun h _ => absurd h (by rw [getD_replicate_false]; simp)), (fun h => absurd h (by rw [getD_replicate_false]; simp)), (fun h => absurd h (by rw [getD_replicate_false]; simp)), (fun h => absurd h (by rw [getD_replicate_false]; simp)), (fun h => absurd h (by rw [getD_replicate_false]; simp)), (fun h => absurd h (by rw [getD_replicate_false]; simp)), fun _ => hN0, (Touch.refl _ _).drewd⟩
  · intro listed a w' i o hI hsz ho hl he hcl
    have hi : i < 9 := (Array.getElem?_eq_some_iff.1 ho).1
    have e : i = 0 ∨ i = 1 ∨ i = 2 ∨ i = 3 ∨ i = 4 ∨ i = 5 ∨ i = 6 ∨ i = 7 ∨ i = 8 := by omega
    clear hi
    rcases e with rfl | rfl | rfl | rfl | rfl | rfl | rfl | rfl | rfl
    all_goals (have ho2 := ho; obtain rfl := Option.some.inj ho2.symm; clear ho2)
    · as_aux_lemma =>
        obtain ⟨u3, u4, u5, u6, u7, u8, u9, u10, rfl, F0, F1, F2, F3, F4, F5, F6, F7, F8, N8, hx⟩ := hI
        refine wpOp_stepx ho rfl (fun K hK => ?_)
        unfold cpA
        go_simp
        exact hK _ _ ⟨_, _, _, _, _, _, _, _, rfl, fun _ => rfl, fun hj => (by first | exact (F1 (by rwa [sgx (by decide)] at hj)) | rfl), fun hj => (F2 (by rwa [sgx (by decide)] at hj)), fun hj hu => (F3 (by rwa [sgx (by decide)] at hj) (by rwa [sgx (by decide)] at hu)), fun hj => (by first | exact (F4 (by rwa [sgx (by decide)] at hj)) | rfl), fun hj => (by first | exact (F5 (by rwa [sgx (by decide)] at hj)) | rfl), fun hj => (F6 (by rwa [sgx (by decide)] at hj)), fun hj => (F7 (by rwa [sgx (by decide)] at hj)), fun hj => (F8 (by rwa [sgx (by decide)] at hj)), fun hj => (N8 (by rwa [sgx (by decide)] at hj)), hx⟩
    · as_aux_lemma =>
        obtain ⟨u3, u4, u5, u6, u7, u8, u9, u10, rfl, F0, F1, F2, F3, F4, F5, F6, F7, F8, N8, hx⟩ := hI
        have l0 := he ⟨0, .data⟩ (by simp) rfl
        have e := F0 l0; subst e
        have hb0 := hB0.touch hx (by omega)
        obtain ⟨k0, k1, m0, m1⟩ := hb0.cells
        refine wpOp_stepx ho rfl (fun K hK => ?_)
        unfold cpA
        go_simp
        exact hK _ _ ⟨_, _, _, _, _, _, _, _, rfl, fun hj => (by first | exact (F0 (by rwa [sgx (by decide)] at hj)) | rfl), fun _ => rfl, fun hj => (F2 (by rwa [sgx (by decide)] at hj)), fun hj hu => (F3 (by rwa [sgx (by decide)] at hj) (by rwa [sgx (by decide)] at hu)), fun hj => (by first | exact (F4 (by rwa [sgx (by decide)] at hj)) | rfl), fun hj => (by first | exact (F5 (by rwa [sgx (by decide)] at hj)) | rfl), fun hj => (F6 (by rwa [sgx (by decide)] at hj)), fun hj => (F7 (by rwa [sgx (by decide)] at hj)), fun hj => (F8 (by rwa [sgx (by decide)] at hj)), fun hj => (N8 (by rwa [sgx (by decide)] at hj)), hx⟩
    · as_aux_lemma =>
        obtain ⟨u3, u4, u5, u6, u7, u8, u9, u10, rfl, F0, F1, F2, F3, F4, F5, F6, F7, F8, N8, hx⟩ := hI
        have l1 := he ⟨1, .data⟩ (by simp) rfl
        have e := F1 l1; subst e
        refine wpOp_stepx ho rfl (fun K hK => ?_)
        unfold cpA
        go_simp
        (with_reducible refine (l2Copy_any wv ws B w' (h1.below (hx.below (by omega) (by omega))) (Nat.le_trans (by omega) hx.size) hl1).mono ?_)
        rintro e w'' ⟨u, rfl, ho1, hb1⟩
        have ht : Touch (s + 1) w' w'' := Touch.of_below hb1 (Nat.le_refl _)
        have hsz := hx.size
        go_wp2_with fail
        exact ⟨_, _, _, _, _, _, _, _, rfl, fun hj => (by first | exact (F0 (by rwa [sgx (by decide)] at hj)) | rfl), fun hj => (by first | exact (F1 (by rwa [sgx (by decide)] at hj)) | rfl), fun _ => ⟨u, rfl, ho1.rebase hsz⟩, fun hj hu => (let ⟨g, e1, e2, e3⟩ := (F3 (by rwa [sgx (by decide)] at hj) (by rwa [sgx (by decide)] at hu)); ⟨g, e1, e2, by rw [ht.block g (heap_lt e3) (by omega)]; exact e3⟩), fun hj => (by first | exact (F4 (by rwa [sgx (by decide)] at hj)) | rfl), fun hj => (by first | exact (F5 (by rwa [sgx (by decide)] at hj)) | rfl), fun hj => absurd (hcl 6 _ rfl (by rwa [sgx (by decide)] at hj) ⟨2, .chain⟩ (by simp) rfl) (by rw [getD_both hl]; simp), fun hj => absurd (hcl 7 _ rfl (by rwa [sgx (by decide)] at hj) ⟨2, .data⟩ (by simp) rfl) (by rw [getD_both hl]; simp), fun hj => (let ⟨a, b, e1, e2, e3, e4⟩ := (F8 (by rwa [sgx (by decide)] at hj)); ⟨a, b, e1.below hb1 e1.lt, e2.touch ht (by omega), e3.touch ht (by omega), e4⟩), fun hj => (N8 (by rwa [sgx (by decide)] at hj)).below hb1 (N8 (by rwa [sgx (by decide)] at hj)).lt, hx.trans ht⟩
    · as_aux_lemma =>
        obtain ⟨u3, u4, u5, u6, u7, u8, u9, u10, rfl, F0, F1, F2, F3, F4, F5, F6, F7, F8, N8, hx⟩ := hI
        refine wpOp_stepx ho rfl (fun K hK => ?_)
        unfold cpA
        have ht := (Touch.refl (s + 1) w').alloc (.cells #[] 3)
        have hsz := hx.size
        go_simp
        exact hK _ _ ⟨_, _, _, _, _, _, _, _, rfl, fun hj => (by first | exact (F0 (by rwa [sgx (by decide)] at hj)) | rfl), fun hj => (by first | exact (F1 (by rwa [sgx (by decide)] at hj)) | rfl), fun hj => (let ⟨u, e1, e2⟩ := (F2 (by rwa [sgx (by decide)] at hj)); ⟨u, e1, e2.touch ht (by omega)⟩), fun _ _ => ⟨_, rfl, hsz, by show (w'.heap.push _)[w'.heap.size]? = _; simp⟩, fun hj => (by first | exact (F4 (by rwa [sgx (by decide)] at hj)) | rfl), fun hj => (by first | exact (F5 (by rwa [sgx (by decide)] at hj)) | rfl), fun hj => ⟨(F6 (by rwa [sgx (by decide)] at hj)).1.touch ht (by omega), (F6 (by rwa [sgx (by decide)] at hj)).2⟩, fun hj => (F7 (by rwa [sgx (by decide)] at hj)), fun hj => (let ⟨a, b, e1, e2, e3, e4⟩ := (F8 (by rwa [sgx (by decide)] at hj)); ⟨a, b, e1.below ((Below.refl _ _).alloc (Nat.le_refl _) _) e1.lt, e2.touch ht (by omega), e3.touch ht (by omega), e4⟩), fun hj => (N8 (by rwa [sgx (by decide)] at hj)).below ((Below.refl _ _).alloc (Nat.le_refl _) _) (N8 (by rwa [sgx (by decide)] at hj)).lt, hx.trans ht⟩
    · as_aux_lemma =>
        obtain ⟨u3, u4, u5, u6, u7, u8, u9, u10, rfl, F0, F1, F2, F3, F4, F5, F6, F7, F8, N8, hx⟩ := hI
        refine wpOp_stepx ho rfl (fun K hK => ?_)
        unfold cpA
        go_simp
        exact hK _ _ ⟨_, _, _, _, _, _, _, _, rfl, fun hj => (by first | exact (F0 (by rwa [sgx (by decide)] at hj)) | rfl), fun hj => (by first | exact (F1 (by rwa [sgx (by decide)] at hj)) | rfl), fun hj => (F2 (by rwa [sgx (by decide)] at hj)), fun hj hu => (F3 (by rwa [sgx (by decide)] at hj) (by rwa [sgx (by decide)] at hu)), fun _ => rfl, fun hj => (by first | exact (F5 (by rwa [sgx (by decide)] at hj)) | rfl), fun hj => (F6 (by rwa [sgx (by decide)] at hj)), fun hj => (F7 (by rwa [sgx (by decide)] at hj)), fun hj => (F8 (by rwa [sgx (by decide)] at hj)), fun hj => (N8 (by rwa [sgx (by decide)] at hj)), hx⟩
    · as_aux_lemma =>
        obtain ⟨u3, u4, u5, u6, u7, u8, u9, u10, rfl, F0, F1, F2, F3, F4, F5, F6, F7, F8, N8, hx⟩ := hI
        have l4 := he ⟨4, .data⟩ (by simp) rfl
        have e := F4 l4; subst e
        have hb0 := hB0.touch hx (by omega)
        obtain ⟨k0, k1, m0, m1⟩ := hb0.cells
        refine wpOp_stepx ho rfl (fun K hK => ?_)
        unfold cpA
        go_simp
        exact hK _ _ ⟨_, _, _, _, _, _, _, _, rfl, fun hj => (by first | exact (F0 (by rwa [sgx (by decide)] at hj)) | rfl), fun hj => (by first | exact (F1 (by rwa [sgx (by decide)] at hj)) | rfl), fun hj => (F2 (by rwa [sgx (by decide)] at hj)), fun hj hu => (F3 (by rwa [sgx (by decide)] at hj) (by rwa [sgx (by decide)] at hu)), fun hj => (by first | exact (F4 (by rwa [sgx (by decide)] at hj)) | rfl), fun _ => rfl, fun hj => (F6 (by rwa [sgx (by decide)] at hj)), fun hj => (F7 (by rwa [sgx (by decide)] at hj)), fun hj => (F8 (by rwa [sgx (by decide)] at hj)), fun hj => (N8 (by rwa [sgx (by decide)] at hj)), hx⟩
    · as_aux_lemma =>
        obtain ⟨u3, u4, u5, u6, u7, u8, u9, u10, rfl, F0, F1, F2, F3, F4, F5, F6, F7, F8, N8, hx⟩ := hI
        have l3 := he ⟨3, .data⟩ (by simp) rfl
        have l5 := he ⟨5, .data⟩ (by simp) rfl
        have l2 := he ⟨2, .chain⟩ (by simp) rfl
        obtain ⟨g, rfl, g1, g2⟩ := F3 l3 (getD_both hl)
        have e := F5 l5; subst e
        obtain ⟨u, rfl, ho1⟩ := F2 l2
        have hne := ho1.notEmpty g2 hl4
        refine wpOp_stepx ho rfl (fun K hK => ?_)
        unfold cpA
        refine wp_catN w' (.tmp 6) (.tmp 8) rfl g (by rfl) g2 u8 hs B (by rfl) (h2.below (hx.below (by omega) (by omega))) hl2 ?_
        intro v' w'' ho2 ht hbk
        have hap : Apart u v' := fun k hk hk2 => by
          have h3 := hne k hk
          have h4 := (OwnR.lt ho1 k hk).2
          rcases hbk k hk2 with h5 | h5 <;> omega
        exact hK _ _ ⟨_, _, _, _, _, _, _, _, rfl, fun hj => (by first | exact (F0 (by rwa [sgx (by decide)] at hj)) | rfl), fun hj => (by first | exact (F1 (by rwa [sgx (by decide)] at hj)) | rfl), fun hj => ⟨u, rfl, ho1.touchN ht hne⟩, fun _ hu => absurd hu (by rw [sgix hl]; simp), fun hj => (by first | exact (F4 (by rwa [sgx (by decide)] at hj)) | rfl), fun hj => (by first | exact (F5 (by rwa [sgx (by decide)] at hj)) | rfl), fun _ => ⟨ho2.rebase g1, u, rfl, hap⟩, fun hj => absurd (hcl 7 _ rfl (by rwa [sgx (by decide)] at hj) ⟨6, .data⟩ (by simp) rfl) (by rw [getD_both hl]; simp), fun hj => absurd (hcl 8 _ rfl (by rwa [sgx (by decide)] at hj) ⟨6, .chain⟩ (by simp) rfl) (by rw [getD_both hl]; simp), fun hj => (N8 (by rwa [sgx (by decide)] at hj)).touch ht (by omega), hx.transN ht g1⟩
    · as_aux_lemma =>
        obtain ⟨u3, u4, u5, u6, u7, u8, u9, u10, rfl, F0, F1, F2, F3, F4, F5, F6, F7, F8, N8, hx⟩ := hI
        have l2 := he ⟨2, .data⟩ (by simp) rfl
        have l6 := he ⟨6, .data⟩ (by simp) rfl
        obtain ⟨u, rfl, ho1⟩ := F2 l2
        obtain ⟨ho2, u', hu', hap⟩ := F6 l6
        obtain rfl : u = u' := by simpa using hu'
        obtain ⟨qa, qc, rfl, _, _⟩ := ho1.shape
        obtain ⟨ra, rc, rfl, _, _⟩ := ho2.shape
        refine wpOp_stepx ho rfl (fun K hK => ?_)
        unfold cpA
        go_simp
        exact hK _ _ ⟨_, _, _, _, _, _, _, _, rfl, fun hj => (by first | exact (F0 (by rwa [sgx (by decide)] at hj)) | rfl), fun hj => (by first | exact (F1 (by rwa [sgx (by decide)] at hj)) | rfl), fun hj => (F2 (by rwa [sgx (by decide)] at hj)), fun hj hu => (F3 (by rwa [sgx (by decide)] at hj) (by rwa [sgx (by decide)] at hu)), fun hj => (by first | exact (F4 (by rwa [sgx (by decide)] at hj)) | rfl), fun hj => (by first | exact (F5 (by rwa [sgx (by decide)] at hj)) | rfl), fun hj => (F6 (by rwa [sgx (by decide)] at hj)), fun _ => ⟨_, rfl, rfl⟩, fun hj => (F8 (by rwa [sgx (by decide)] at hj)), fun hj => (N8 (by rwa [sgx (by decide)] at hj)), hx⟩
    · as_aux_lemma =>
        obtain ⟨u3, u4, u5, u6, u7, u8, u9, u10, rfl, F0, F1, F2, F3, F4, F5, F6, F7, F8, N8, hx⟩ := hI
        have l7 := he ⟨7, .data⟩ (by simp) rfl
        have l2 := he ⟨2, .phase⟩ (by simp) rfl
        have l6 := he ⟨6, .phase⟩ (by simp) rfl
        obtain ⟨u, rfl, rfl⟩ := F7 l7
        obtain ⟨u2, hu2, ho1⟩ := F2 l2
        obtain rfl : u = u2 := by simpa using hu2
        obtain ⟨ho2, u', hu', hap⟩ := F6 l6
        obtain rfl : u = u' := by simpa using hu'
        have hb1 := N8 (getD_both hl)
        obtain ⟨qa, qc, rfl, _, _⟩ := ho1.shape
        obtain ⟨ra, rc, rfl, _, _⟩ := ho2.shape
        obtain ⟨k0, k1, m0, m1⟩ := hb1.cells
        refine wpOp_stepx ho rfl (fun K hK => ?_)
        unfold cpA
        have ht := touchA (s + 1) w' (.slice qa ws.length qc) (.slice ra hs.length rc)
        go_simp
        exact hK _ _ ⟨_, _, _, _, _, _, _, _, rfl, fun hj => (by first | exact (F0 (by rwa [sgx (by decide)] at hj)) | rfl), fun hj => (by first | exact (F1 (by rwa [sgx (by decide)] at hj)) | rfl), fun hj => (let ⟨u, e1, e2⟩ := (F2 (by rwa [sgx (by decide)] at hj)); ⟨u, e1, e2.touch ht (by omega)⟩), fun hj hu => (let ⟨g, e1, e2, e3⟩ := (F3 (by rwa [sgx (by decide)] at hj) (by rwa [sgx (by decide)] at hu)); ⟨g, e1, e2, by rw [ht.block g (heap_lt e3) (by omega)]; exact e3⟩), fun hj => (by first | exact (F4 (by rwa [sgx (by decide)] at hj)) | rfl), fun hj => (by first | exact (F5 (by rwa [sgx (by decide)] at hj)) | rfl), fun hj => ⟨(F6 (by rwa [sgx (by decide)] at hj)).1.touch ht (by omega), (F6 (by rwa [sgx (by decide)] at hj)).2⟩, fun hj => (F7 (by rwa [sgx (by decide)] at hj)), fun _ => ⟨_, _, hb1.put _ _, ho1.touch ht (by omega), ho2.touch ht (by omega), hap⟩, fun hj => absurd hj (by rw [sgix hl]; simp), hx.trans ht⟩
  · intro listed a w' hI hd
    obtain ⟨u3, u4, u5, u6, u7, u8, u9, u10, rfl, F0, F1, F2, F3, F4, F5, F6, F7, F8, N8, hx⟩ := hI
    obtain ⟨a, b, hA, ho1, ho2, hap⟩ := F8 (hd 8 (by show 8 < 9; omega))
    obtain ⟨k0, k1, m0, m1⟩ := hA.cells
    have hb : Below w.heap.size w w' := HBW.out.trans (hx.below (by rw [← HSE.out]; omega) HBW.out.size)
    have HO1 := hid ho1; have HO2 := hid ho2; have HB := hid hb; have HAP := hid hap
    clear F0 F1 F2 F3 F4 F5 F6 F7 F8 N8 hd hx ho1 ho2 hap hb hA
    unfold cpA
    go_wp2_with fail
    refine bodyPost_ret (results_c1 Try.results103 _ _ ⟨s + 1, 0, none⟩ (.agg #[a, b]) rfl ?_) rfl ?_
    · exact loadVar_atm _ _ _ _ k0 k1
    exact ⟨a, b, rfl, HO1.out.rebase HBW.out.size, HO2.out.rebase HBW.out.size, HAP.out, HB.out⟩

end Go.Proofs.Yteamebdehembgaa
