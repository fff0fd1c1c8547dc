/-
  DrawAtmRun draws so: the walk.
-/
import Derived.Test.YtjlnnnnpdagnpaaKDat
import Derived.Test.YtjlnnnnpdagnpaaKDrA
import Derived.Test.YtjlnnnnpdagnpaaKDrQ
import Derived.Outline
import Derived.Deep.Cut
import Derived.Deep.CutRange
set_option linter.unusedVariables false
set_option linter.unusedSimpArgs false
namespace Go.Proofs.Ytjlnnnnpdagnpaa
open Go.RowKit

theorem elem_req : Elem 40 30 7 88 := elem_of Try.underlying40 (z := .agg #[.int .i64 0, .int .i64 0, .int .i64 0, .int .i64 0, .bool false, .slice none 0 0, .slice none 0 0]) (by kernel_rfl) rfl (by omega)

theorem alloc_new0 (w : World) (o : Obj) : (w.alloc o).heap[w.heap.size]? = some o := by show (w.heap.push _)[w.heap.size]? = _; simp
set_option maxRecDepth 20000 in
set_option maxHeartbeats 1000000 in
/-- '[]ReqReq{x}'. -/
theorem wpList_litQ {ops : Array Oper} {rest : List Oper} {a : Act} {w : World} {Q : Exit → Act → World → Prop} (d : Option Nat) (ty : Nat) (pos : String) (aft : Array Edge) (t : Nat)
    {x0 x1 x2 x3 x4 x5 x6 : Value} (hx : a.tmps.getD t undef = .agg #[x0, x1, x2, x3, x4, x5, x6]) (h1 : (#[x0, x1, x2, x3, x4, x5, x6] : Array Value).all (·.oneCell') = true)
    (h : wpList Try.prog ops Q rest (a.put d (.slice (some ⟨w.heap.size, 0, none⟩) 1 1)) (w.alloc (.cells #[x0, x1, x2, x3, x4, x5, x6] 30))) :
    wpList Try.prog ops Q ({ dst := d, op := .buildSlice 40 1 #[(0, .tmp t)], type := ty, pos := pos, after := aft, guard := none } :: rest) a w := by
  refine wpList_plain rfl fun K hK => ?_
  have h2 := hK _ _ h
  obtain ⟨tmps, defers⟩ := a
  simp only [Array.getD_eq_getD_getElem?] at hx
  go_simp
  exact h2

/-- DrawAtmRun amid its draws: the reader, the ranges, the store, the first result's cells, what is asked so far. -/
structure RunD (w0 w : World) (r B : Nat) (bs : List Nat) (q H gs : Nat) (mv : Value) (ms : List MR) (wv hv : Value) (ws hs : List Int) (v : Value) (ys : List RqV) : Prop where
  rd : RdAt w r B bs q
  mp : MapsD w (ClearB r v r w) mv ms
  aw : IntsD w (ClearB r v r w) wv ws
  ah : IntsD w (ClearB r v r w) hv hs
  bx : BA w gs wv hv
  bxc : Clear v r w gs
  rs : BA w H (.slice none 0 0) (.slice none 0 0)
  rsc : Clear v r w H
  out : Owns w w0.heap.size 30 7 rowQ v ys
  qs : ∀ y ∈ ys, RqD w (ClearB r v r w) y
  bl : Below w0.heap.size w0 w
  vr : v.ownBlock ≠ some r
  vn : v.ownBlock ≠ none
  vh : v.ownBlock ≠ some H
theorem RunD.touch {w0 w w' : World} {r B : Nat} {bs : List Nat} {q q' H gs : Nat} {mv : Value} {ms : List MR} {wv hv : Value} {ws hs : List Int} {v : Value} {ys : List RqV} (h : RunD w0 w r B bs q H gs mv ms wv hv ws hs v ys) (hr : RdAt w' r B bs q') (ht : Touch r w w') (hr0 : w0.heap.size ≤ r) :
    RunD w0 w' r B bs q' H gs mv ms wv hv ws hs v ys := by
  have hk := ClearB.touch (base := r) (v := v) ht
  have hg : ∀ b, ClearB r v r w b → ClearB r v r w' b := fun b hb => hb.grow ht.size
  refine ⟨hr, (h.mp.kept hk).weak hg, (h.aw.kept hk).weak hg, (h.ah.kept hk).weak hg, ?_, h.bxc.grow ht.size, ?_, h.rsc.grow ht.size, ?_, fun y hy => ((h.qs y hy).kept hk).weak hg, h.bl.trans (ht.below hr0 h.bl.size), h.vr, h.vn, h.vh⟩
  · exact h.bx.touch ht h.bxc.2.1
  · exact h.rs.touch ht h.rsc.2.1
  · exact h.out.kept fun k hk2 => ht.block k (OwnR.lt h.out k hk2).2 (by intro e; subst e; exact h.vr hk2)
/-- One thing more is drawn (in world u), and appended. -/
theorem RunD.push {w0 u w' : World} {r B : Nat} {bs : List Nat} {q H gs : Nat} {mv : Value} {ms : List MR} {wv hv : Value} {ws hs : List Int} {v v' : Value} {ys : List RqV} {y : RqV} (h : RunD w0 u r B bs q H gs mv ms wv hv ws hs v ys) (hy : RqD u (ClearB r v r u) y)
    (ho : Owns w' w0.heap.size 30 7 rowQ v' (ys ++ [y])) (hsz : u.heap.size ≤ w'.heap.size) (hk : ∀ b, b < u.heap.size → v.ownBlock ≠ some b → w'.heap[b]? = u.heap[b]?) (hown : v'.ownBlock = v.ownBlock ∨ ∃ k, u.heap.size ≤ k ∧ v'.ownBlock = some k) (hb : Below w0.heap.size u w') (hB : B ≤ w0.heap.size) :
    RunD w0 w' r B bs q H gs mv ms wv hv ws hs v' (ys ++ [y]) := by
  have kp0 : Keeps (Clear v r u) u w' := fun b hb => hk b hb.1 hb.2.2
  have hg0 : ∀ b, Clear v r u b → Clear v' r w' b := fun b hb => hb.swap hsz hown
  have kp : Keeps (ClearB r v r u) u w' := fun b hb => hk b hb.2.1 hb.2.2.2
  have hg : ∀ b, ClearB r v r u b → ClearB r v' r w' b := fun b hb => hb.swap hsz hown
  have hHl := lt_of_heap h.rs
  have hrl := h.rd.lt
  have hrk := hk r hrl h.vr
  refine ⟨?_, (h.mp.kept kp).weak hg, (h.aw.kept kp).weak hg, (h.ah.kept kp).weak hg, ?_, hg0 _ h.bxc, ?_, hg0 _ h.rsc, ho, ?_, h.bl.trans hb, ?_, ?_, ?_⟩
  · obtain ⟨bv, g1, g2, g3, g4⟩ := h.rd
    refine ⟨bv, by rw [hrk]; exact g1, ?_, g3, g4⟩
    exact g2.below (hb.mono hB)
  · have := h.bx; unfold BA at this ⊢; rw [kp0 _ h.bxc]; exact this
  · have := h.rs; unfold BA at this ⊢; rw [kp0 _ h.rsc]; exact this
  · intro z hz
    simp only [List.mem_append, List.mem_singleton] at hz
    rcases hz with hz | rfl
    · exact ((h.qs z hz).kept kp).weak hg
    · exact (hy.kept kp).weak hg
  · rcases hown with hown | ⟨k, hk2, hown⟩
    · rw [hown]; exact h.vr
    · rw [hown]; intro e; obtain rfl := Option.some.inj e; omega
  · rcases hown with hown | ⟨k, hk2, hown⟩
    · rw [hown]; exact h.vn
    · rw [hown]; simp
  · rcases hown with hown | ⟨k, hk2, hown⟩
    · rw [hown]; exact h.vh
    · rw [hown]; intro e; obtain rfl := Option.some.inj e; omega

theorem own_clear {α : Type} {wc : World} {r base e sz : Nat} {f : α → List Value} {u : Value} {xs : List α} (h : Owns wc base e sz f u xs) (hr : r < base) (o : Obj) : ∀ k, u.ownBlock = some k → ClearB r (.slice (some ⟨wc.heap.size, 0, none⟩) 0 0) r (wc.alloc o) k := by
  intro k hk
  have := OwnR.lt h k hk
  refine ⟨by omega, by simp; omega, by omega, ?_⟩
  simp only [Value.ownBlock]; intro e; obtain rfl := Option.some.inj e; omega
/-- The start: nothing is asked so far. -/
theorem RunD.start {w0 wc : World} {r B : Nat} {bs : List Nat} {q H gs b1 b2 b3 : Nat} {mv : Value} {ms : List MR} {wv hv : Value} {ws hs : List Int} (hr : RdAt wc r B bs q) (hm : Owns wc b1 36 4 rowM mv ms) (hm64 : ∀ x ∈ ms, MR64 x) (hml : ms.length ≤ 7)
    (ho1 : Owns wc b2 3 1 rowI wv ws) (hw64 : ∀ x ∈ ws, I64 x) (hwl : ws.length ≤ 65) (ho2 : Owns wc b3 3 1 rowI hv hs) (hh64 : ∀ x ∈ hs, I64 x) (hhl : hs.length ≤ 6) (l1 : r < b1) (l2 : r < b2) (l3 : r < b3)
    (hbx : BA wc gs wv hv) (hgs : gs ≠ r) (hrs : BA wc H (.slice none 0 0) (.slice none 0 0)) (hH : H ≠ r) (hbl : Below w0.heap.size w0 wc) :
    RunD w0 (wc.alloc (.cells #[] 30)) r B bs q H gs mv ms wv hv ws hs (.slice (some ⟨wc.heap.size, 0, none⟩) 0 0) [] := by
  have hb : Below wc.heap.size wc (wc.alloc (.cells #[] 30)) := (Below.refl _ _).alloc (Nat.le_refl _) _
  have g1 := lt_of_heap hbx; have g2 := lt_of_heap hrs; have g3 := hr.lt
  refine ⟨hr.alloc _, ⟨(hm.below hb).arrD (own_clear hm l1 _) rowM_len (by omega), hm64⟩, (ho1.below hb).intsD (own_clear ho1 l2 _) (by omega) hw64, (ho2.below hb).intsD (own_clear ho2 l3 _) (by omega) hh64, ?_, ⟨by simp; omega, hgs, ?_⟩, ?_, ⟨by simp; omega, hH, ?_⟩, Owns.lit hbl.size, fun y hy => absurd hy (by simp), hbl.alloc hbl.size _, ?_, by simp [Value.ownBlock], by simp only [Value.ownBlock]; intro e; have := Option.some.inj e; omega⟩
  · unfold BA at hbx ⊢; rw [hb.block _ g1]; exact hbx
  · simp only [Value.ownBlock]; intro e; have := Option.some.inj e; omega
  · unfold BA at hrs ⊢; rw [hb.block _ g2]; exact hrs
  · simp only [Value.ownBlock]; intro e; have := Option.some.inj e; omega
  · simp only [Value.ownBlock]; intro e; have := Option.some.inj e; omega
/-- All is drawn: as it is read, in a world in which but the block H has changed. -/
theorem RunD.done {w0 w W : World} {r B : Nat} {bs : List Nat} {q H gs : Nat} {mv : Value} {ms : List MR} {wv hv : Value} {ws hs : List Int} {v : Value} {ys : List RqV} (h : RunD w0 w r B bs q H gs mv ms wv hv ws hs v ys) (hl : ys.length ≤ 30) (hH : H < r)
    (hk : ∀ k, k ≠ H → W.heap[k]? = w.heap[k]?) (hz : W.heap.size = w.heap.size) :
    ∃ ub uf uc, v = .slice (some ⟨ub, uf, none⟩) (ys.map (·.1)).length uc ∧ Maps W W.heap.size mv ms ∧ Ints W W.heap.size wv ws ∧ Ints W W.heap.size hv hs ∧ Reqs W W.heap.size v (ys.map (·.1)) := by
  have hlt : ∀ b, ClearB r v r w b → b < W.heap.size := fun b hb => by rw [hz]; exact hb.2.1
  have kp : Keeps (ClearB r v r w) w W := fun b hb => hk b (by have := hb.1; omega)
  have ho : Owns W w0.heap.size 30 7 rowQ v ys := h.out.kept fun k hk2 => hk k (by intro e; subst e; exact h.vh hk2)
  have hq := reqs_of (ho.arrD (P := (· < W.heap.size)) (fun k hk => (OwnR.lt ho k hk).2) rowQ_len (by omega)) (fun y hy => ((h.qs y hy).kept kp).weak hlt) (fun b hb => hb)
  have hn := h.vn
  have hm := (h.mp.kept kp).to hlt; have ha := (h.aw.kept kp).to hlt; have hb := (h.ah.kept kp).to hlt
  obtain ⟨_, h2⟩ := ho
  rcases h2 with ⟨rfl, h2⟩ | ⟨g, off, cap, cur, rfl, _⟩
  · exact absurd rfl hn
  · exact ⟨g, off, cap, by simp, hm, ha, hb, hq⟩
/-- What was drawn just now is read in blocks that none turns. -/
theorem req_new {w0 u w' : World} {r B : Nat} {bs : List Nat} {q H gs : Nat} {mv : Value} {ms : List MR} {wv hv : Value} {ws hs : List Int} {v : Value} {ys : List RqV} {dv lv : Value} {rq : Rq} (h : RunD w0 u r B bs q H gs mv ms wv hv ws hs v ys) (ht : Touch r u w')
    (o1 : Owns w' u.heap.size 3 1 rowI dv rq.data) (o2 : Owns w' u.heap.size 3 1 rowI lv rq.lanes) (n1 : rq.data.length ≤ 9) (n2 : rq.lanes.length ≤ 9) (i1 : I64 rq.id) (i2 : I64 rq.kind) (i3 : I64 rq.addr) (i4 : I64 rq.many) (i5 : ∀ x ∈ rq.data, I64 x) (i6 : ∀ x ∈ rq.lanes, I64 x) :
    RqD w' (ClearB r v r w') (rq, dv, lv) := by
  have hrl := h.rd.lt
  have key : ∀ x : Value, (∀ k, x.ownBlock = some k → u.heap.size ≤ k ∧ k < w'.heap.size) → ∀ k, x.ownBlock = some k → ClearB r v r w' k := by
    intro x hx k hk
    have := hx k hk
    refine ⟨by omega, this.2, by omega, ?_⟩
    intro e
    have := (OwnR.lt h.out k e).2
    omega
  exact ⟨o1.intsD (key _ (OwnR.lt o1)) (by first | omega | (simp only; omega)) i5, o2.intsD (key _ (OwnR.lt o2)) (by first | omega | (simp only; omega)) i6, i1, i2, i3, i4⟩

end Go.Proofs.Ytjlnnnnpdagnpaa

namespace Go.Proofs.Ytjlnnnnpdagnpaa
open Go.RowKit

theorem one7 (id kind addr many : Int) (wp : Bool) (da la : Option Addr) (dn dc ln lc : Nat) : ∀ u ∈ rowQ (⟨id, kind, addr, many, wp, [], []⟩, .slice da dn dc, .slice la ln lc), u.oneCell' = true := by
  intro u hu; simp only [rowQ, List.mem_cons, List.not_mem_nil, or_false] at hu
  rcases hu with rfl | rfl | rfl | rfl | rfl | rfl | rfl <;> rfl
theorem one7' (rq : Rq) (da la : Option Addr) (dn dc ln lc : Nat) : ∀ u ∈ rowQ (rq, .slice da dn dc, .slice la ln lc), u.oneCell' = true := by
  intro u hu; simp only [rowQ, List.mem_cons, List.not_mem_nil, or_false] at hu
  rcases hu with rfl | rfl | rfl | rfl | rfl | rfl | rfl <;> rfl

theorem results_tctt {fn : Func} {t1 t2 t3 t4 : Tmp} {T : TypeId} (h : fn.results = #[.tmp t1, .cell t2 T, .tmp t3, .tmp t4]) (tmps : Array Value) (w : World) (p : Addr) (v : Value) (ht : tmps.getD t2 undef = .pointer (some p)) (hl : (loadVar T p).run Try.prog w = .ok v w) :
    (results fn tmps).run Try.prog w = .ok (.tuple #[tmps.getD t1 undef, v, tmps.getD t3 undef, tmps.getD t4 undef]) w := by
  simp only [Array.getD_eq_getD_getElem?] at ht
  simp only [results, h]
  simp [ht, asAddr, hl]

/-- The loops' relation. -/
def DnRel (w0 w : World) (r B : Nat) (bs : List Nat) (H gs : Nat) (mv : Value) (ms : List MR) (wv hv : Value) (ws hs : List Int) (v : Value) (m q : Nat) : Prop :=
  ∃ (ys : List RqV) (ua : Option Addr) (uc : Nat), v = .slice ua ys.length uc ∧ ys.length ≤ m ∧ RunD w0 w r B bs q H gs mv ms wv hv ws hs (.slice ua ys.length uc) ys

theorem DnRel.push {w0 u w' : World} {r B : Nat} {bs : List Nat} {q H gs m : Nat} {mv : Value} {ms : List MR} {wv hv : Value} {ws hs : List Int} {v v' : Value} {ys : List RqV} {y : RqV} (hl : ys.length ≤ m) (h : RunD w0 u r B bs q H gs mv ms wv hv ws hs v ys) (hy : RqD u (ClearB r v r u) y)
    (ho : Owns w' w0.heap.size 30 7 rowQ v' (ys ++ [y])) (hsz : u.heap.size ≤ w'.heap.size) (hk : ∀ b, b < u.heap.size → v.ownBlock ≠ some b → w'.heap[b]? = u.heap[b]?) (hown : v'.ownBlock = v.ownBlock ∨ ∃ k, u.heap.size ≤ k ∧ v'.ownBlock = some k) (hb : Below w0.heap.size u w') (hB : B ≤ w0.heap.size) :
    DnRel w0 w' r B bs H gs mv ms wv hv ws hs v' (m + 1) q := by
  obtain ⟨va, vc, hv', _, _⟩ := ho.shape
  subst hv'
  exact ⟨ys ++ [y], va, vc, rfl, by simp; omega, h.push hy ho hsz hk hown hb hB⟩
theorem DnRel.more {w0 w : World} {r B : Nat} {bs : List Nat} {q H gs m m' : Nat} {mv : Value} {ms : List MR} {wv hv : Value} {ws hs : List Int} {v : Value} (h : DnRel w0 w r B bs H gs mv ms wv hv ws hs v m q) (hm : m ≤ m') : DnRel w0 w r B bs H gs mv ms wv hv ws hs v m' q := by
  obtain ⟨ys, a, c, e, l, d⟩ := h; exact ⟨ys, a, c, e, by omega, d⟩
def lenV : Value → Nat
  | .slice _ n _ => n
  | _ => 0

set_option maxRecDepth 4000 in
set_option maxHeartbeats 8000000 in
theorem drawAtmRun_any : DrawRun := by
  intro v bz B w h hB
  obtain ⟨ao, cap, rfl, hlc, hcap, hln, hni, hr⟩ := h.opened
  clear hr
  have HBZ := hid h
  clear h hlc hcap hln hni
  go_enter Try.func12, Try.ntmps12
  go_upto_region 4 with (first
    | (go_at_call 41; refine (open_any _ bz B _ ((HBZ.out.below (((Below.refl w.heap.size w).alloc (Nat.le_refl _) _).mono hB))) (by simp; omega)).mono ?_; rintro e w0 ⟨bs, rfl, hrd, hb1⟩; have HRD := hid (show RdAt w0 (w.heap.size + 1) B bs 0 by simpa using hrd); have HB1 := hid hb1; clear hrd hb1)
    | (go_at_call 42; (with_reducible refine (l20Map_any _ _ bs 0 20 _ HRD.out (by omega) (by omega) (by omega)).mono ?_); rintro e w1 ⟨mv, ms, q1, rfl, hmo, hm64, hml, _, hq1, hrd1, ht1⟩; have HMO := hid hmo; have HM64 := hid hm64; have HRD1 := hid hrd1; have HT1 := hid ht1; clear hmo hm64 hrd1 ht1)
    | (go_at_call 43; (with_reducible refine (l20Atm_any _ _ bs q1 20 _ HRD1.out (by omega) (by omega) (by omega)).mono ?_); rintro e w2 ⟨wv, hv, ws, hs, q2, rfl, hwo, hho, hw64, hh64, hwl, hhl, _, hq2, hrd2, ht2⟩; obtain ⟨wa, wc_, rfl, _, _⟩ := hwo.shape; obtain ⟨ha, hc, rfl, _, _⟩ := hho.shape; have HWO := hid hwo; have HHO := hid hho; have HW64 := hid hw64; have HH64 := hid hh64; have HRD2 := hid hrd2; have HT2 := hid ht2; clear hwo hho hw64 hh64 hrd2 ht2))
  -- one name for the reader, for the result's box, for the store's box
  have hz1 := HB1.out.size
  simp only [World.size_alloc] at hz1
  have hr1 := HRD1.out.lt
  have hrx := HRD.out.lt
  have hr2 := HRD2.out.lt
  have h12 := HT1.out.size
  have h22 := HT2.out.size
  have HBW := hid (show Below w.heap.size w w0 from ((Below.refl w.heap.size w).alloc (Nat.le_refl _) _).trans (HB1.out.mono (by simp)))
  have HA0 := hid (show BA w0 w.heap.size (.slice none 0 0) (.slice none 0 0) by
    have h : BA (w.alloc (.cells #[.slice none 0 0, .slice none 0 0] 28)) w.heap.size (.slice none 0 0) (.slice none 0 0) := alloc_new0 w _
    unfold BA at h ⊢; rw [HB1.out.block _ (by simp)]; exact h)
  have HA2 := hid ((HA0.out.touch HT1.out (by omega)).touch HT2.out (by omega))
  obtain ⟨w3, hw3⟩ : ∃ W, W = w2.alloc (.cells #[.slice wa ws.length wc_, .slice ha hs.length hc] 28) := ⟨_, rfl⟩
  rw [← hw3]
  have hb3 : Below w2.heap.size w2 w3 := by rw [hw3]; exact (Below.refl _ _).alloc (Nat.le_refl _) _
  have hz3 : w3.heap.size = w2.heap.size + 1 := by rw [hw3]; simp
  have HBX := hid (show BA w3 w2.heap.size (.slice wa ws.length wc_) (.slice ha hs.length hc) by rw [hw3]; exact alloc_new0 w2 _)
  have HA3 := hid (show BA w3 w.heap.size (.slice none 0 0) (.slice none 0 0) by
    have := HA2.out; unfold BA at this ⊢; rw [hb3.block _ (by omega)]; exact this)
  have HR3 := hid (HRD2.out.kept hb3 hr2)
  have HB3 := hid ((HBW.out.trans ((HT1.out.below (by omega) (by omega)).trans (HT2.out.below (by omega) (by omega)))).trans (hb3.mono (by omega)))
  have HW3 := hid (HWO.out.below hb3)
  have HH3 := hid (HHO.out.below hb3)
  have HM3 := hid ((HMO.out.touch HT2.out (by omega)).below hb3)
  clear hw3 hb3
  go_cut [9] from 18 to 27 (fun v wd => ∃ (x : Int) (q : Nat), v = .int .i64 x ∧ -1 ≤ x ∧ x ≤ 3 ∧ q ≤ 220 ∧ RdAt wd (w.heap.size + 1) B bs q ∧ Touch (w.heap.size + 1) w3 wd)
  case first =>
    go_wp2_with (first
      | (go_at_call 44; ((with_reducible refine (pick_p _ _ bs q2 3 _ HR3.out (by omega) (by omega) (by omega)).mono ?_); rintro e w4 ⟨x, rfl, hx0, hx3, hrd4, ht4⟩; have HR4 := hid hrd4; have HT4 := hid ht4; have h43 := ht4.size; clear hrd4 ht4))
      | (go_at_call 44; ((with_reducible refine (pick_p _ _ bs (q2 + 1) 6 _ ((HR4.out.alloc _).alloc _) (by omega) (by omega) (by omega)).mono ?_); rintro e w5 ⟨y, rfl, hy0, hy6, hrd5, ht5⟩; have HR5 := hid hrd5; have HT5 := hid (((HT4.out.alloc _).alloc _).trans ht5); obtain ⟨tA, tB⟩ := Touch.tab2 ht5 HR4.out.lt; have u0 := tA 0 _ rfl; have u1 := tA 1 _ rfl; have v0 := tB 0 _ rfl; have v1 := tB 1 _ rfl; have v2 := tB 2 _ rfl; have v3 := tB 3 _ rfl; have v4 := tB 4 _ rfl; have v5 := tB 5 _ rfl; clear hrd5 ht5 tA tB; rcases (show y = 0 ∨ y = 1 ∨ y = 2 ∨ y = 3 ∨ y = 4 ∨ y = 5 by omega) with rfl | rfl | rfl | rfl | rfl | rfl)))
    all_goals
      go_meet
      case rel => exact ⟨_, q2 + 1 + 1, rfl, by omega, by omega, by omega, HR5.out, HT5.out⟩
  case rest =>
  clear hq1 hq2
  obtain ⟨who, q3, rfl, hw0, hw3, hq3, hrd6, ht6⟩ := hcut
  have hz6 := ht6.size
  have HT6 := hid ht6; have HR6 := hid hrd6
  clear ht6 hrd6
  obtain ⟨r, hr⟩ : ∃ r, r = w.heap.size + 1 := ⟨_, rfl⟩
  have hr0 : w.heap.size ≤ r := by omega
  have hrw2 : r < w2.heap.size := by omega
  go_upto_region 6 with fail
  have HD := hid (RunD.start (w0 := w) (H := w.heap.size) (gs := w2.heap.size) HR6.out (HM3.out.touch HT6.out (by omega)) HM64.out hml (HW3.out.touch HT6.out (by omega)) HW64.out hwl (HH3.out.touch HT6.out (by omega)) HH64.out hhl (by omega) (by omega) (by omega) (HBX.out.touch HT6.out (by omega)) (by omega) (HA3.out.touch HT6.out (by omega)) (by omega) (HB3.out.trans (HT6.out.below (by omega) HB3.out.size)))
  rw [← hr] at HD
  simp only [← hr]
  have HRE := hid hr
  clear hr HRD HB1 HMO HRD1 HT1 HWO HHO HRD2 HT2 HBW HA0 HA2 HBX HA3 HR3 HB3 HW3 HH3 HM3 HT6 HR6 hz1 hr1 hrx hr2 h12 h22 hz3 hz6 hrw2
  have hrB : (9 : Int) ≤ 1099511627776 := by omega
  go_upto_block 4 with (first
    | (go_at_call 44; go_loud ((with_reducible refine (pick_p r B bs q3 9 _ HD.out.rd (by omega) (by omega) (by omega)).mono ?_); rintro e w7 ⟨k0, rfl, hk0, hk9, hrd7, ht7⟩; have HE := hid (HD.out.touch hrd7 ht7 hr0); clear hrd7 ht7)))
  obtain ⟨k1, rfl⟩ := Int.eq_ofNat_of_zero_le hk0
  clear HD
  go_loopw [10, 11] (fun v i wr => ∃ (k q : Nat), i = .int .i64 (k : Nat) ∧ k ≤ 9 ∧ q + k * 110 ≤ 2000 ∧ DnRel w wr r B bs w.heap.size w2.heap.size mv ms (.slice wa ws.length wc_) (.slice ha hs.length hc) ws hs v (9 - k) q) (fun _ i _ => (intOf i).toNat)
  case atStart => exact ⟨k1, q3 + 1, rfl, by omega, by omega, [], _, _, rfl, by simp, HE.out⟩
  case round =>
    obtain ⟨k, q, rfl, hk, hq, ys, ua, uc, rfl, hl, hd⟩ := hrel
    have HD := hid hd; clear hd HE
    by_cases hlt : 0 < k
    · go_wp2_with (first
        | (go_at_call 45; go_loud ((with_reducible refine (l20Req_any r B bs q 99999 _ HD.out.rd (by omega) (by omega) (by omega)).mono ?_); rintro e w8 ⟨dv, lv, rq, q4, rfl, o1, o2, ⟨i1, i2, i3, i4, i5, i6⟩, n1, n2, _, hq4, hrd8, ht8⟩; have HQ := hid (req_new HD.out ht8 o1 o2 n1 n2 i1 i2 i3 i4 i5 i6); have HD8 := hid (HD.out.touch hrd8 ht8 hr0); obtain ⟨da, dc, rfl, _, _⟩ := o1.shape; obtain ⟨la, lc, rfl, _, _⟩ := o2.shape; clear o1 o2 i1 i2 i3 i4 i5 i6 n1 n2 hrd8 ht8))
        | ((with_reducible refine wpList_litQ _ _ _ _ _ rfl ?_ ?_); rfl)
        | (at_builtin; go_must (refine wpList_push2 elem_req rowQ rowQ_len (rq, .slice da rq.data.length dc, .slice la rq.lanes.length lc) (one7' rq da la _ dc _ lc) w8 rfl _ _ rfl w.heap.size _ ys (by rfl) HD8.out.out _ (by rfl) (by rfl) (by omega) (by omega) HD8.out.bl.size ?_; intro v' w9 ho9 hz9 hk9 hv9 hb9)))
      go_roundw
      case rel => exact ⟨k - 1, q4, by congr 1; omega, by omega, by omega, (DnRel.push hl HD8.out HQ.out ho9 hz9 hk9 hv9 hb9 hB).more (by omega)⟩
      case measure => simp [intOf]; omega
    · obtain rfl : k = 0 := by omega
      go_upto_if 41 with (first
        | (go_at_call 60; go_loud ((with_reducible refine (odd_any r B bs q 20 _ HD.out.rd (by omega) (by omega) (by omega)).mono ?_); rintro e w8 ⟨b, q4, rfl, _, hq4, hrd8, ht8⟩; have HE := hid (HD.out.touch hrd8 ht8 hr0); clear hrd8 ht8)))
      go_cut [10] from 42 to 46 (fun v wd => ∃ q', q' ≤ 3000 ∧ DnRel w wd r B bs w.heap.size w2.heap.size mv ms (.slice wa ws.length wc_) (.slice ha hs.length hc) ws hs v 10 q')
      case first =>
        rcases b with _ | _
        · go_wp2_with fail
          go_meet
          case rel => exact ⟨q4, by omega, ys, ua, uc, rfl, by omega, HE.out⟩
        · go_wp2_with (first
            | (go_at_call 45; go_loud ((with_reducible refine (l20Req_any r B bs q4 1 _ HE.out.rd (by omega) (by omega) (by omega)).mono ?_); rintro e w9 ⟨dv, lv, rq, q5, rfl, o1, o2, ⟨i1, i2, i3, i4, i5, i6⟩, n1, n2, _, hq5, hrd8, ht8⟩; have HQ := hid (req_new HE.out ht8 o1 o2 n1 n2 i1 i2 i3 i4 i5 i6); have HD8 := hid (HE.out.touch hrd8 ht8 hr0); obtain ⟨da, dc, rfl, _, _⟩ := o1.shape; obtain ⟨la, lc, rfl, _, _⟩ := o2.shape; clear o1 o2 i1 i2 i3 i4 i5 i6 n1 n2 hrd8 ht8))
            | ((with_reducible refine wpList_litQ _ _ _ _ _ rfl ?_ ?_); rfl)
            | (at_builtin; go_must (refine wpList_push2 elem_req rowQ rowQ_len (rq, .slice da rq.data.length dc, .slice la rq.lanes.length lc) (one7' rq da la _ dc _ lc) w9 rfl _ _ rfl w.heap.size _ ys (by rfl) HD8.out.out _ (by rfl) (by rfl) (by omega) (by omega) HD8.out.bl.size ?_; intro v' w10 ho9 hz9 hk9 hv9 hb9)))
          go_meet
          case rel => exact ⟨q5, by omega, (DnRel.push hl HD8.out HQ.out ho9 hz9 hk9 hv9 hb9 hB).more (by omega)⟩
      case rest =>
        clear HD HE hl hq
        obtain ⟨q5, hq5, ys, ua, uc, rfl, hl, hd⟩ := hcut
        have HD := hid hd; clear hd
        go_upto_if 48 with (first
          | (go_at_call 60; go_loud ((with_reducible refine (odd_any r B bs q5 30 _ HD.out.rd (by omega) (by omega) (by omega)).mono ?_); rintro e w8 ⟨b, q4, rfl, _, hq4, hrd8, ht8⟩; have HE := hid (HD.out.touch hrd8 ht8 hr0); clear hrd8 ht8)))
        go_cut [10] from 49 to 55 (fun v wd => ∃ q', DnRel w wd r B bs w.heap.size w2.heap.size mv ms (.slice wa ws.length wc_) (.slice ha hs.length hc) ws hs v 20 q')
        case first =>
          rcases b with _ | _
          · go_wp2_with fail
            go_meet
            case rel => exact ⟨q4, ys, ua, uc, rfl, by omega, HE.out⟩
          · go_wp2_with fail
            go_loopw [10] (fun v wr => DnRel w wr r B bs w.heap.size w2.heap.size mv ms (.slice wa ws.length wc_) (.slice ha hs.length hc) ws hs v 13 q4) (fun v _ => 14 - lenV v)
            case atStart => exact ⟨ys, ua, uc, rfl, by omega, HE.out⟩
            case round =>
              clear HE HD hl
              obtain ⟨zs, ua, uc, rfl, hl, hd⟩ := hrel
              have HD := hid hd; clear hd
              have HQ := hid (show RqD wr (ClearB r (.slice ua zs.length uc) r wr) ((⟨0, 1, 0, 1, false, [], []⟩ : Rq), .slice none 0 0, .slice none 0 0) from ⟨IntsD.nil _ _, IntsD.nil _ _, by unfold I64; simp, by unfold I64; simp, by unfold I64; simp, by unfold I64; simp⟩)
              by_cases h12 : zs.length ≤ 12
              · go_wp2_with (first
                  | ((with_reducible refine wpList_litQ _ _ _ _ _ rfl ?_ ?_); rfl)
                  | (at_builtin; go_must (refine wpList_push2 elem_req rowQ rowQ_len ((⟨0, 1, 0, 1, false, [], []⟩ : Rq), .slice none 0 0, .slice none 0 0) (one7' _ none none _ _ _ _) wr rfl _ _ rfl w.heap.size _ zs (by rfl) HD.out.out _ (by rfl) (by rfl) (by omega) (by omega) HD.out.bl.size ?_; intro v' w10 ho9 hz9 hk9 hv9 hb9)))
                obtain ⟨va', vc', hv', _, _⟩ := ho9.shape
                have HP := hid (DnRel.push h12 HD.out HQ.out ho9 hz9 hk9 hv9 hb9 hB)
                subst hv'
                go_roundw
                case rel => exact HP.out
                case measure => simp [lenV]; omega
              · go_wp2_with fail
                go_meet
                case rel => exact ⟨q4, zs, ua, uc, rfl, by omega, HD.out⟩
        case rest =>
          clear HD HE hl hq5
          obtain ⟨q6, ys, ua, uc, rfl, hl, hd⟩ := hcut
          obtain ⟨k0, k1, _, _⟩ := hd.bx.cells
          obtain ⟨g0, g1, g2, g3⟩ := hd.rs.cells
          have HD := hid hd; clear hd
          have hzH := lt_of_heap HD.out.rs
          go_upto_region 15 with fail
          go_region
          go_wp2_with fail
          obtain ⟨W, hW⟩ : ∃ W, W = ((wc.setCell ⟨w.heap.size, 0, none⟩ (.slice wa ws.length wc_)).setCell ⟨w.heap.size, 1, none⟩ (.slice ha hs.length hc)).drew := ⟨_, rfl⟩
          rw [← hW]
          have hzW : W.heap.size = wc.heap.size := by rw [hW]; show ((wc.setCell _ _).setCell _ _).heap.size = _; simp
          have hkW : ∀ k, k ≠ w.heap.size → W.heap[k]? = wc.heap[k]? := fun j hj => by
            rw [hW]; show ((wc.setCell _ _).setCell _ _).heap[j]? = _
            rw [Below.heap_setCell _ _ _ _ (by exact hj), Below.heap_setCell _ _ _ _ (by exact hj)]
          have hbW : Below w.heap.size w W := by
            rw [hW]
            exact ((HD.out.bl.setCell (p := ⟨w.heap.size, 0, none⟩) (Nat.le_refl _) _).setCell (p := ⟨w.heap.size, 1, none⟩) (Nat.le_refl _) _).drew
          obtain ⟨ub, uf, uc', hv', i1, i2, i3, i4⟩ := HD.out.done (W := W) (by omega) (by rw [HRE.out]; omega) hkW hzW
          refine bodyPost_ret (results_tctt Try.results12 _ _ ⟨w.heap.size, 0, none⟩ (.agg #[.slice wa ws.length wc_, .slice ha hs.length hc]) rfl ?_) rfl ?_
          · exact loadVar_atm _ _ _ _ (by rw [hW]; simp [go_sem, g0, hzH]) (by rw [hW]; simp [go_sem, g1, hzH])
          simp only [Value.slice.injEq] at hv'
          obtain ⟨rfl, _, rfl⟩ := hv'
          exact ⟨mv, ms, _, _, ws, hs, who, ub, uf, uc, ys.map (·.1), by simp, i1, i2, i3, hw0, hw3, by simpa using i4, by simp; omega, hbW⟩

end Go.Proofs.Ytjlnnnnpdagnpaa
