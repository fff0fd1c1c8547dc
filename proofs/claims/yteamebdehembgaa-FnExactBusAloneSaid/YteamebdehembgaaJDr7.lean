/-
  A slice of things that are asked, wherever it lies in its block, owned with all its lists.
-/
import Derived.Test.YteamebdehembgaaJDr4
import Derived.Test.YteamebdehembgaaKQr
import Derived.Test.YteamebdehembgaaJAdr
import Derived.Test.YteamebdehembgaaJXn
set_option linter.unusedVariables false
set_option linter.unusedSimpArgs false
namespace Go.Proofs.Yteamebdehembgaa
open Go.RowKit

/-- The block g holds what is asked. -/
def QW (w : World) (g : Nat) (id kind addr many : Int) (wp : Bool) (dv lv : Value) : Prop :=
  w.heap[g]? = some (.cells #[.int .i64 id, .int .i64 kind, .int .i64 addr, .int .i64 many, .bool wp, dv, lv] 71 (0, 0))
theorem QW.lt {w : World} {g : Nat} {id kind addr many : Int} {wp : Bool} {dv lv : Value} (h : QW w g id kind addr many wp dv lv) : g < w.heap.size := lt_of_heap h
theorem QW.cells {w : World} {g : Nat} {id kind addr many : Int} {wp : Bool} {dv lv : Value} (h : QW w g id kind addr many wp dv lv) :
    w.cell? ⟨g, 0, none⟩ = some (.int .i64 id) ∧ w.cell? ⟨g, 1, none⟩ = some (.int .i64 kind) ∧ w.cell? ⟨g, 2, none⟩ = some (.int .i64 addr) ∧ w.cell? ⟨g, 3, none⟩ = some (.int .i64 many) ∧ w.cell? ⟨g, 4, none⟩ = some (.bool wp) ∧ w.cell? ⟨g, 5, none⟩ = some dv ∧ w.cell? ⟨g, 6, none⟩ = some lv := by
  unfold QW at h
  refine ⟨?_, ?_, ?_, ?_, ?_, ?_, ?_⟩ <;> simp [World.cell?, h]
theorem QW.unfrozen {w : World} {g : Nat} {id kind addr many : Int} {wp : Bool} {dv lv : Value} (h : QW w g id kind addr many wp dv lv) :
    w.frozen? ⟨g, 0, none⟩ = false ∧ w.frozen? ⟨g, 1, none⟩ = false ∧ w.frozen? ⟨g, 2, none⟩ = false ∧ w.frozen? ⟨g, 3, none⟩ = false ∧ w.frozen? ⟨g, 4, none⟩ = false ∧ w.frozen? ⟨g, 5, none⟩ = false ∧ w.frozen? ⟨g, 6, none⟩ = false := by
  unfold QW at h
  refine ⟨?_, ?_, ?_, ?_, ?_, ?_, ?_⟩ <;> simp [World.frozen?, h]
theorem QW.keep {w w' : World} {g : Nat} {id kind addr many : Int} {wp : Bool} {dv lv : Value} (h : QW w g id kind addr many wp dv lv) (e : w'.heap[g]? = w.heap[g]?) : QW w' g id kind addr many wp dv lv := by
  unfold QW at h ⊢; rw [e]; exact h
theorem QW.touch {w w' : World} {r g : Nat} {id kind addr many : Int} {wp : Bool} {dv lv : Value} (h : QW w g id kind addr many wp dv lv) (ht : Touch r w w') (hr : g ≠ r) : QW w' g id kind addr many wp dv lv := h.keep (ht.block g h.lt hr)
theorem QW.below {w w' : World} {C g : Nat} {id kind addr many : Int} {wp : Bool} {dv lv : Value} (h : QW w g id kind addr many wp dv lv) (hb : Below C w w') (hr : g < C) : QW w' g id kind addr many wp dv lv := h.keep (hb.block g hr)
theorem QW.alloc {w : World} {g : Nat} {id kind addr many : Int} {wp : Bool} {dv lv : Value} (h : QW w g id kind addr many wp dv lv) (o : Obj) : QW (w.alloc o) g id kind addr many wp dv lv := h.below ((Below.refl w.heap.size w).alloc (Nat.le_refl _) o) h.lt
theorem QW.drewd {w : World} {g : Nat} {id kind addr many : Int} {wp : Bool} {dv lv : Value} (h : QW w g id kind addr many wp dv lv) : QW w.drew g id kind addr many wp dv lv := h
theorem QW.setc {w : World} {g : Nat} {id kind addr many : Int} {wp : Bool} {dv lv : Value} (h : QW w g id kind addr many wp dv lv) (b o : Nat) (u : Value) (hr : g ≠ b) : QW (w.setCell ⟨b, o, none⟩ u) g id kind addr many wp dv lv := h.keep (Below.heap_setCell _ _ _ _ hr)
theorem QW.new (w : World) {id kind addr many : Int} {wp : Bool} {dv lv : Value} : QW (w.alloc (.cells #[.int .i64 id, .int .i64 kind, .int .i64 addr, .int .i64 many, .bool wp, dv, lv] 71)) w.heap.size id kind addr many wp dv lv := by
  show (w.heap.push _)[w.heap.size]? = _; simp
theorem QW.set0 {w : World} {g : Nat} {id kind addr many : Int} {wp : Bool} {dv lv : Value} (h : QW w g id kind addr many wp dv lv) (x : Int) : QW (w.setCell ⟨g, 0, none⟩ (.int .i64 x)) g x kind addr many wp dv lv := by
  unfold QW at h ⊢; simp [World.setCell, Array.getElem?_modify, h]
theorem QW.set1 {w : World} {g : Nat} {id kind addr many : Int} {wp : Bool} {dv lv : Value} (h : QW w g id kind addr many wp dv lv) (x : Int) : QW (w.setCell ⟨g, 1, none⟩ (.int .i64 x)) g id x addr many wp dv lv := by
  unfold QW at h ⊢; simp [World.setCell, Array.getElem?_modify, h]
theorem QW.set2 {w : World} {g : Nat} {id kind addr many : Int} {wp : Bool} {dv lv : Value} (h : QW w g id kind addr many wp dv lv) (x : Int) : QW (w.setCell ⟨g, 2, none⟩ (.int .i64 x)) g id kind x many wp dv lv := by
  unfold QW at h ⊢; simp [World.setCell, Array.getElem?_modify, h]
theorem QW.set3 {w : World} {g : Nat} {id kind addr many : Int} {wp : Bool} {dv lv : Value} (h : QW w g id kind addr many wp dv lv) (x : Int) : QW (w.setCell ⟨g, 3, none⟩ (.int .i64 x)) g id kind addr x wp dv lv := by
  unfold QW at h ⊢; simp [World.setCell, Array.getElem?_modify, h]
theorem QW.set4 {w : World} {g : Nat} {id kind addr many : Int} {wp : Bool} {dv lv : Value} (h : QW w g id kind addr many wp dv lv) (x : Bool) : QW (w.setCell ⟨g, 4, none⟩ (.bool x)) g id kind addr many x dv lv := by
  unfold QW at h ⊢; simp [World.setCell, Array.getElem?_modify, h]
theorem QW.set5 {w : World} {g : Nat} {id kind addr many : Int} {wp : Bool} {dv lv : Value} (h : QW w g id kind addr many wp dv lv) (x : Value) : QW (w.setCell ⟨g, 5, none⟩ x) g id kind addr many wp x lv := by
  unfold QW at h ⊢; simp [World.setCell, Array.getElem?_modify, h]
theorem QW.set6 {w : World} {g : Nat} {id kind addr many : Int} {wp : Bool} {dv lv : Value} (h : QW w g id kind addr many wp dv lv) (x : Value) : QW (w.setCell ⟨g, 6, none⟩ x) g id kind addr many wp dv x := by
  unfold QW at h ⊢; simp [World.setCell, Array.getElem?_modify, h]
/-- A struct laid ahead of a call, behind it. -/
theorem QW.ofNew {r : Nat} {w w' : World} {id kind addr many : Int} {wp : Bool} {dv lv : Value} (ht : Touch r (w.alloc (.cells #[.int .i64 id, .int .i64 kind, .int .i64 addr, .int .i64 many, .bool wp, dv, lv] 71)) w') (hr : r < w.heap.size) : QW w' w.heap.size id kind addr many wp dv lv := (QW.new w).touch ht (by omega)
/-- .. ahead of another block. -/
theorem QW.ofNew1 {r : Nat} {w w' : World} {id kind addr many : Int} {wp : Bool} {dv lv : Value} {o : Obj} (ht : Touch r ((w.alloc (.cells #[.int .i64 id, .int .i64 kind, .int .i64 addr, .int .i64 many, .bool wp, dv, lv] 71)).alloc o) w') (hr : r < w.heap.size) : QW w' w.heap.size id kind addr many wp dv lv := ((QW.new w).alloc o).touch ht (by omega)
/-- .. behind another block. -/
theorem QW.ofNew2 {r : Nat} {w w' : World} {id kind addr many : Int} {wp : Bool} {dv lv : Value} {o : Obj} (ht : Touch r ((w.alloc o).alloc (.cells #[.int .i64 id, .int .i64 kind, .int .i64 addr, .int .i64 many, .bool wp, dv, lv] 71)) w') (hr : r < w.heap.size) : QW w' (w.heap.size + 1) id kind addr many wp dv lv := by
  have h := (QW.new (w.alloc o) (id := id) (kind := kind) (addr := addr) (many := many) (wp := wp) (dv := dv) (lv := lv))
  rw [World.size_alloc] at h
  exact h.touch ht (by omega)
/-- A table of numbers at block g. -/
def TW (w : World) (g : Nat) (xs : Array Value) : Prop := w.heap[g]? = some (.cells xs 3 (0, 0))
theorem TW.at_ {w : World} {g : Nat} {xs : Array Value} (h : TW w g xs) (i : Nat) (v : Value) (hv : xs[i]? = some v) : w.cell? ⟨g, i, none⟩ = some v := by
  unfold TW at h; simp [World.cell?, h, hv]
theorem TW.touch {w w' : World} {r g : Nat} {xs : Array Value} (h : TW w g xs) (ht : Touch r w w') (hr : g ≠ r) : TW w' g xs := by
  unfold TW at h ⊢; rw [ht.block g (lt_of_heap h) hr]; exact h
theorem TW.ofNew {r : Nat} {w w' : World} {xs : Array Value} (ht : Touch r (w.alloc (.cells xs 3)) w') (hr : r < w.heap.size) : TW w' w.heap.size xs :=
  TW.touch (w := w.alloc (.cells xs 3)) (by show (w.heap.push _)[w.heap.size]? = _; simp) ht (by omega)
theorem TW.ofNew1 {r : Nat} {w w' : World} {xs : Array Value} {o : Obj} (ht : Touch r ((w.alloc (.cells xs 3)).alloc o) w') (hr : r < w.heap.size) : TW w' w.heap.size xs :=
  TW.touch (w := (w.alloc (.cells xs 3)).alloc o) (by show ((w.heap.push _).push _)[w.heap.size]? = _; simp [Array.getElem?_push]) ht (by omega)
theorem TW.ofNew2 {r : Nat} {w w' : World} {xs : Array Value} {o : Obj} (ht : Touch r ((w.alloc o).alloc (.cells xs 3)) w') (hr : r < w.heap.size) : TW w' (w.heap.size + 1) xs := by
  have h : TW ((w.alloc o).alloc (.cells xs 3)) (w.alloc o).heap.size xs := by show ((w.alloc o).heap.push _)[(w.alloc o).heap.size]? = _; exact Array.getElem?_push_size
  rw [World.size_alloc] at h
  exact h.touch ht (by omega)
theorem TW.alloc {w : World} {g : Nat} {xs : Array Value} (h : TW w g xs) (o : Obj) : TW (w.alloc o) g xs := by
  have hl := lt_of_heap h
  unfold TW at h ⊢
  rw [((Below.refl w.heap.size w).alloc (Nat.le_refl _) o).block g hl]; exact h
theorem TWal0 {w w' : World} {r g : Nat} {xs : Array Value} (h : TW w g xs) (ht : Touch r w w') (hr : g ≠ r) : TW w' g xs := h.touch ht hr
theorem TWal1 {w w' : World} {r g : Nat} {xs : Array Value} {o : Obj} (h : TW w g xs) (ht : Touch r (w.alloc o) w') (hr : g ≠ r) : TW w' g xs := (h.alloc o).touch ht hr
theorem TWal2 {w w' : World} {r g : Nat} {xs : Array Value} {o o' : Obj} (h : TW w g xs) (ht : Touch r ((w.alloc o).alloc o') w') (hr : g ≠ r) : TW w' g xs := ((h.alloc o).alloc o').touch ht hr
theorem tab4 (a b c d : Int) {n : Nat} (h : n < 4) : ∃ y : Int, ([Value.int .i64 a, .int .i64 b, .int .i64 c, .int .i64 d] : List Value)[n]? = some (.int .i64 y) ∧ (y = a ∨ y = b ∨ y = c ∨ y = d) := by
  rcases (show n = 0 ∨ n = 1 ∨ n = 2 ∨ n = 3 by omega) with rfl | rfl | rfl | rfl
  · exact ⟨a, rfl, .inl rfl⟩
  · exact ⟨b, rfl, .inr (.inl rfl)⟩
  · exact ⟨c, rfl, .inr (.inr (.inl rfl))⟩
  · exact ⟨d, rfl, .inr (.inr (.inr rfl))⟩
theorem loadVar_req (w : World) (g : Nat) (a b c d e f k : Value) (h0 : w.cell? ⟨g, 0, none⟩ = some a) (h1 : w.cell? ⟨g, 1, none⟩ = some b) (h2 : w.cell? ⟨g, 2, none⟩ = some c) (h3 : w.cell? ⟨g, 3, none⟩ = some d) (h4 : w.cell? ⟨g, 4, none⟩ = some e) (h5 : w.cell? ⟨g, 5, none⟩ = some f) (h6 : w.cell? ⟨g, 6, none⟩ = some k) :
    (loadVar 71 ⟨g, 0, none⟩).run Try.prog w = .ok (.agg #[a, b, c, d, e, f, k]) w := by
  simp [loadVar, go_sem, h0, h1, h2, h3, h4, h5, h6]
abbrev qz (w : World) (g : Nat) : Prop := QW w g 0 0 0 0 false (.slice none 0 0) (.slice none 0 0)

end Go.Proofs.Yteamebdehembgaa

namespace Go.Proofs.Yteamebdehembgaa
open Go.RowKit

theorem touch7 (s : Nat) (w : World) (a b c d e f h : Value) : Touch s w (((((((w.setCell ⟨s, 0, none⟩ a).setCell ⟨s, 1, none⟩ b).setCell ⟨s, 2, none⟩ c).setCell ⟨s, 3, none⟩ d).setCell ⟨s, 4, none⟩ e).setCell ⟨s, 5, none⟩ f).setCell ⟨s, 6, none⟩ h) :=
  ((((((Touch.setCell _ _ _ _).trans (Touch.setCell _ _ _ _)).trans (Touch.setCell _ _ _ _)).trans (Touch.setCell _ _ _ _)).trans (Touch.setCell _ _ _ _)).trans (Touch.setCell _ _ _ _)).trans (Touch.setCell _ _ _ _)
def ReqCopyP (r : Rq) (w : World) (e : Ending) (w' : World) : Prop := ∃ d l, e = .returned (.agg #[.int .i64 r.id, .int .i64 r.kind, .int .i64 r.addr, .int .i64 r.many, .bool r.wrap, d, l]) ∧ Owns w' w.heap.size 3 1 rowI d r.data ∧ Owns w' w.heap.size 3 1 rowI l r.lanes ∧ Apart d l ∧ Below w.heap.size w w'

set_option maxRecDepth 8000 in
set_option maxHeartbeats 8000000 in
theorem reqCopy_any (v : Value) (r : Rq) (B : Nat) (w : World) (h : ReqV w B v r) (hB : B ≤ w.heap.size) (hl1 : r.data.length ≤ 1048576) (hl2 : r.lanes.length ≤ 1048576) :
    Calls Try.prog 121 #[v] w (ReqCopyP r w) := by
  obtain ⟨dv, lv, rfl, h1, h2, _⟩ := h
  have HD := hid h1; have HL := hid h2; have HB := hid hB
  have HL1 := hid hl1; have HL2 := hid hl2
  obtain ⟨da, dc, rfl, _⟩ := h1.opened
  obtain ⟨la, lc, rfl, _⟩ := h2.opened
  clear h1 h2 hB hl1 hl2
  go_enter Try.func121, Try.ntmps121
  go_upto_region 1 with fail
  obtain ⟨W2, hW2⟩ : ∃ W2, W2 = (w.alloc (.cells #[.int .i64 r.id, .int .i64 r.kind, .int .i64 r.addr, .int .i64 r.many, .bool r.wrap, .slice da r.data.length dc, .slice la r.lanes.length lc] 71)).alloc (.cells #[.int .i64 0, .int .i64 0, .int .i64 0, .int .i64 0, .bool false, .slice none 0 0, .slice none 0 0] 71) := ⟨_, rfl⟩
  have HB2 := hid (show Below w.heap.size w W2 by rw [hW2]; exact (bx1 _ _).alloc (by simp) _)
  have HS := hid (show BoxQ W2 w.heap.size r (.slice da r.data.length dc) (.slice la r.lanes.length lc) by rw [hW2]; exact (BoxQ.new w r _ _).below (bx1 _ _) (by simp))
  have HR := hid (show Bx W2 (w.heap.size + 1) [.int .i64 0, .int .i64 0, .int .i64 0, .int .i64 0, .bool false, .slice none 0 0, .slice none 0 0] by rw [hW2]; have := Bx.new (w.alloc (.cells #[.int .i64 r.id, .int .i64 r.kind, .int .i64 r.addr, .int .i64 r.many, .bool r.wrap, .slice da r.data.length dc, .slice la r.lanes.length lc] 71)) #[.int .i64 0, .int .i64 0, .int .i64 0, .int .i64 0, .bool false, .slice none 0 0, .slice none 0 0] 71 (by simp); simpa using this)
  rw [← hW2]
  have HZ := hid (show W2.heap.size = w.heap.size + 2 by rw [hW2]; simp)
  clear hW2
  go_cut [] from 3 to 10 (fun wd => QrP w.heap.size r W2 wd)
  case first =>
    rename_i J K' hJ hK
    exact qr_region _ _ _ _ _ _ _ _ _ _ _ w.heap.size B _ _ r W2 (by rw [HZ.out]; omega) HB.out HS.out (HD.out.below (HB2.out.mono HB.out)) (HL.out.below (HB2.out.mono HB.out)) HL1.out HL2.out (fun u3 u4 u5 u6 u7 u8 u9 u10 wd h => hK _ _ (Met.intro (hJ _ _ ⟨u3, u4, u5, u6, u7, u8, u9, u10, h, rfl⟩)))
  case rest =>
    obtain ⟨d, l, hbx, od, ol, hap, ht⟩ := hcut
    have HBX := hid hbx; have OD := hid od; have OL := hid ol; have AP := hid hap; have HT := hid ht
    obtain ⟨d1, d2, rfl, _, _⟩ := od.shape
    obtain ⟨l1, l2, rfl, _, _⟩ := ol.shape
    have HR2 := hid (HR.out.kept (ht.block _ (by rw [HZ.out]; omega) (by omega)))
    clear hbx od ol hap ht
    obtain ⟨⟨k0, k1, k2, k3, k4, k5, k6⟩, _⟩ := HBX.out.bx.seven
    obtain ⟨⟨q0, q1, q2, q3, q4, q5, q6⟩, m0, m1, m2, m3, m4, m5, m6⟩ := HR2.out.seven
    have hl1 := HR2.out.lt
    have hl0 := HBX.out.lt
    go_wp2_with fail
    refine bodyPost_ret (results_c1 Try.results121 _ _ ⟨w.heap.size + 1, 0, none⟩ (.agg #[.int .i64 r.id, .int .i64 r.kind, .int .i64 r.addr, .int .i64 r.many, .bool r.wrap, .slice d1 r.data.length d2, .slice l1 r.lanes.length l2]) rfl (loadVar_req _ _ _ _ _ _ _ _ _ (by simp [go_sem, *]) (by simp [go_sem, *]) (by simp [go_sem, *]) (by simp [go_sem, *]) (by simp [go_sem, *]) (by simp [go_sem, *]) (by simp [go_sem, *]))) rfl ⟨_, _, rfl, ?_, ?_, AP.out, ?_⟩
    · have hz := HZ.out
      exact OwnR.rebase (OwnR.kept OD.out (fun k hk => (touch7 (w.heap.size + 1) _ _ _ _ _ _ _ _).block k (OwnR.lt OD.out k hk).2 (by have := (OwnR.lt OD.out k hk).1; omega))) (show w.heap.size ≤ W2.heap.size by omega)
    · have hz := HZ.out
      exact OwnR.rebase (OwnR.kept OL.out (fun k hk => (touch7 (w.heap.size + 1) _ _ _ _ _ _ _ _).block k (OwnR.lt OL.out k hk).2 (by have := (OwnR.lt OL.out k hk).1; omega))) (show w.heap.size ≤ W2.heap.size by omega)
    · have hz := HZ.out
      exact (HB2.out.trans (HT.out.below (Nat.le_refl _) (by omega))).trans ((touch7 (w.heap.size + 1) _ _ _ _ _ _ _ _).below (by omega) (by omega))

end Go.Proofs.Yteamebdehembgaa

namespace Go.Proofs.Yteamebdehembgaa
open Go.RowKit

theorem elem_ReqReq : Elem 34 71 7 88 := elem_of Try.underlying34 (z := (.agg #[.int .i64 0, .int .i64 0, .int .i64 0, .int .i64 0, .bool false, .slice none 0 0, .slice none 0 0])) (by kernel_rfl) rfl (by omega)

set_option maxHeartbeats 1000000 in
theorem sClone_ReqReq {α : Type} (f : α → List Value) (hf : ∀ x, (f x).length = 7) (h1 : ∀ x, ∀ u ∈ f x, u.oneCell' = true) (v : Value) (ys : List α) (B : Nat) (w : World) (ha : Arr w B 7 v (ys.map f)) (hlen : ys.length * 88 ≤ 140737488355328) :
    Calls Try.prog 164 #[v] w (CloneP f 71 7 ys w) := by
  have ha0 := hid ha
  obtain ⟨ao, cap, rfl, g1, g2, g0, g9, g3⟩ := ha
  simp only [List.length_map] at g1 g2 g0 ⊢
  clear g3
  cases ao with
  | none =>
    obtain rfl := g9 rfl
    have hy : ys = [] := by
      rcases ys with _ | ⟨y, ys⟩
      · rfl
      · simp at g1
    subst hy
    have he := fun w => Lib.run_eql_slice_nil (P := Try.prog) w 34 71 none 0 0 0 0 Try.underlying34
    go_enter Try.func164, Try.ntmps164
    go_wp2_with fail
    go_ret
    exact ⟨_, rfl, Owns.zero, Below.refl _ _⟩
  | some ad =>
    have he := fun w => Lib.run_eql_slice_nil (P := Try.prog) w 34 71 (some ad) ys.length cap 0 0 Try.underlying34
    clear g9
    go_enter Try.func164, Try.ntmps164
    go_wp2_with (at_builtin; go_must (refine wpList_cat elem_ReqReq f hf h1 _ rfl _ _ rfl w.heap.size _ [] (by rfl) (Owns.lit (Nat.le_refl _)) _ ys (min B w.heap.size) (by rfl) (by have := (ha0.out).fit (by omega) (by intro r hr; obtain ⟨y, _, rfl⟩ := List.mem_map.1 hr; exact hf y); simp only [List.length_map] at this; exact this.below ((Below.refl _ _).alloc (Nat.min_le_right _ _) _)) (by simpa using hlen) (by simp; omega) (by simp) ?_); intro v' w1 hown1 hb1 _)
    go_ret
    exact ⟨v', rfl, by simpa using hown1, ((Below.refl _ _).alloc (Nat.le_refl _) _).trans hb1⟩

set_option maxHeartbeats 1000000 in
theorem sClip_ReqReq (a : Option Addr) (n c : Nat) (w : World) (hc : n ≤ c) (hm : c ≤ 9223372036854775807) : Calls Try.prog 163 #[.slice a n c] w fun e w' => e = .returned (.slice a n n) ∧ w = w' := by
  go_enter Try.func163, Try.ntmps163
  go_wp2_with fail
  go_ret
  exact ⟨rfl, rfl⟩

set_option maxHeartbeats 1000000 in
theorem clone_ReqReq {α : Type} (f : α → List Value) (hf : ∀ x, (f x).length = 7) (h1 : ∀ x, ∀ u ∈ f x, u.oneCell' = true) (v : Value) (ys : List α) (B : Nat) (w : World) (ha : Arr w B 7 v (ys.map f)) (hlen : ys.length * 88 ≤ 140737488355328) :
    Calls Try.prog 120 #[v] w (CloneP f 71 7 ys w) := by
  go_enter Try.func120, Try.ntmps120
  go_wp2_with fail
  refine (sClone_ReqReq f hf h1 v ys B w ha hlen).mono ?_
  rintro e w1 ⟨u, rfl, hown, hb⟩
  obtain ⟨a, c, rfl, hc1, hc2⟩ := hown.shape
  go_wp2_with fail
  refine (sClip_ReqReq a ys.length c _ hc1 hc2).mono ?_
  rintro e w2 ⟨rfl, rfl⟩
  go_wp2_with fail
  go_ret
  exact ⟨_, rfl, hown.clip, hb⟩

end Go.Proofs.Yteamebdehembgaa

namespace Go.Proofs.Yteamebdehembgaa
open Go.RowKit

/-- Rows in block g, the first ones with lists of their own. -/
structure QcO (w : World) (lo g o c n : Nat) (qs : List Rq) (vs : List (Value × Value)) (rest : List RqV) : Prop where
  len : vs.length = qs.length
  le : qs.length + rest.length = n
  rows : Owns w lo 71 7 rowQ (.slice (some ⟨g, o, none⟩) n c) (zipQ qs vs ++ rest)
  d : ∀ j, j < qs.length → Owns w lo 3 1 rowI (vs.getD j default).1 (qs.getD j default).data
  l : ∀ j, j < qs.length → Owns w lo 3 1 rowI (vs.getD j default).2 (qs.getD j default).lanes
  n1 : ∀ j, j < qs.length → (vs.getD j default).1.ownBlock ≠ some g
  n2 : ∀ j, j < qs.length → (vs.getD j default).2.ownBlock ≠ some g
  a1 : ∀ i j, i < qs.length → j < qs.length → i ≠ j → Apart (vs.getD i default).1 (vs.getD j default).1
  a2 : ∀ i j, i < qs.length → j < qs.length → i ≠ j → Apart (vs.getD i default).2 (vs.getD j default).2
  a3 : ∀ i j, i < qs.length → j < qs.length → Apart (vs.getD i default).1 (vs.getD j default).2
theorem QcO.g {w : World} {lo g o c n : Nat} {qs : List Rq} {vs : List (Value × Value)} {rest : List RqV} (h : QcO w lo g o c n qs vs rest) : lo ≤ g ∧ g < w.heap.size := OwnR.lt h.rows g rfl
theorem QcO.kept {w w' : World} {lo g o c n : Nat} {qs : List Rq} {vs : List (Value × Value)} {rest : List RqV} (h : QcO w lo g o c n qs vs rest) (hk : ∀ k, lo ≤ k → k < w.heap.size → w'.heap[k]? = w.heap[k]?) : QcO w' lo g o c n qs vs rest :=
  { h with rows := OwnR.kept h.rows fun k hk2 => hk k (OwnR.lt h.rows k hk2).1 (OwnR.lt h.rows k hk2).2
           d := fun j hj => OwnR.kept (h.d j hj) fun k hk2 => hk k (OwnR.lt (h.d j hj) k hk2).1 (OwnR.lt (h.d j hj) k hk2).2
           l := fun j hj => OwnR.kept (h.l j hj) fun k hk2 => hk k (OwnR.lt (h.l j hj) k hk2).1 (OwnR.lt (h.l j hj) k hk2).2 }
theorem QcO.below {w w' : World} {lo g o c n : Nat} {qs : List Rq} {vs : List (Value × Value)} {rest : List RqV} (h : QcO w lo g o c n qs vs rest) (hb : Below w.heap.size w w') : QcO w' lo g o c n qs vs rest := h.kept fun k _ hk => hb.block k hk
theorem QcO.rebase {w : World} {lo lo' g o c n : Nat} {qs : List Rq} {vs : List (Value × Value)} {rest : List RqV} (h : QcO w lo g o c n qs vs rest) (hl : lo' ≤ lo) : QcO w lo' g o c n qs vs rest :=
  { h with rows := OwnR.rebase h.rows hl, d := fun j hj => OwnR.rebase (h.d j hj) hl, l := fun j hj => OwnR.rebase (h.l j hj) hl }
theorem QsO.toC {w : World} {lo g n : Nat} {qs : List Rq} {vs : List (Value × Value)} (h : QsO w lo g n qs vs) (hn : qs.length = n) : QcO w lo g 0 n n qs vs [] :=
  ⟨h.len, by simpa using hn, by have := h.rows0 hn; rwa [List.append_nil], h.d, h.l, h.n1, h.n2, h.a1, h.a2, h.a3⟩
theorem QcO.bound {w : World} {lo g o c n : Nat} {qs : List Rq} {vs : List (Value × Value)} {rest : List RqV} (h : QcO w lo g o c n qs vs rest) : QsB w.heap.size g qs.length vs :=
  ⟨h.g.2, fun j hj k hk => (OwnR.lt (h.d j hj) k hk).2, fun j hj k hk => (OwnR.lt (h.l j hj) k hk).2⟩
theorem QcO.bt {w w' : World} {lo hi l r g o c n : Nat} {qs : List Rq} {vs : List (Value × Value)} {rest : List RqV} (h : QcO w lo g o c n qs vs rest) (hh : QsB hi g qs.length vs) (hb : Bt l r w w') (hk : hi ≤ l ∨ r ≤ lo) : QcO w' lo g o c n qs vs rest :=
  { h with rows := OwnR.kept h.rows fun k hk2 => hb.block k (OwnR.lt h.rows k hk2).2 (by have := (OwnR.lt h.rows k hk2).1; have := hh.g; simp only [Value.ownBlock, Option.some.injEq] at hk2; omega)
           d := fun j hj => OwnR.kept (h.d j hj) fun k hk2 => hb.block k (OwnR.lt (h.d j hj) k hk2).2 (by have := (OwnR.lt (h.d j hj) k hk2).1; have := hh.d j hj k hk2; omega)
           l := fun j hj => OwnR.kept (h.l j hj) fun k hk2 => hb.block k (OwnR.lt (h.l j hj) k hk2).2 (by have := (OwnR.lt (h.l j hj) k hk2).1; have := hh.l j hj k hk2; omega) }
/-- As it is read. -/
theorem QcO.reqs {w : World} {lo g o c n : Nat} {qs : List Rq} {vs : List (Value × Value)} (h : QcO w lo g o c n qs vs []) (hn : qs.length ≤ 1048576) (hq : ∀ q ∈ qs, Rq20 q ∧ (∀ y ∈ q.data, I64 y) ∧ (∀ y ∈ q.lanes, I64 y) ∧ I64 q.id ∧ I64 q.kind ∧ I64 q.addr ∧ I64 q.many) : Reqs w w.heap.size (.slice (some ⟨g, o, none⟩) n c) qs := by
  have hr := h.rows
  rw [List.append_nil] at hr
  have hl1 : (zipQ qs vs).length = qs.length := zipQ_len h.len
  have key := reqs_of (B := w.heap.size) (P := (· < w.heap.size)) (hr.arrD (P := (· < w.heap.size)) (fun k hk => (OwnR.lt hr k hk).2) rowQ_len (by omega)) (fun y hy => ?_) (fun b hb => hb)
  · have e : (zipQ qs vs).map (·.1) = qs := by
      unfold zipQ
      rw [List.map_zipWith]
      apply List.ext_getElem
      · simp [h.len]
      · intro i h1 h2; simp
    rw [e] at key
    exact key
  · obtain ⟨k, hk, rfl⟩ := List.mem_iff_getElem.1 hy
    have hk' : k < qs.length := by omega
    have e : (zipQ qs vs)[k] = (qs.getD k default, vs.getD k default) := by
      rw [← zipQ_get h.len hk' zQ]; simp [List.getD, hk]
    rw [e]
    obtain ⟨⟨b1, b2⟩, i1, i2, i3⟩ := hq _ (getD_mem (d := default) hk')
    exact ⟨(h.d k hk').intsD (fun b hb => (OwnR.lt (h.d k hk') b hb).2) (by omega) i1, (h.l k hk').intsD (fun b hb => (OwnR.lt (h.l k hk') b hb).2) (by omega) i2, i3⟩

end Go.Proofs.Yteamebdehembgaa
