/-
  BusAlone of the reference.
-/
import Derived.Test.YteamebdehembgaaJQ11
import Derived.Test.YteamebdehembgaaKQs3
import Derived.Test.YteamebdehembgaaJQ3
import Derived.Test.YteamebdehembgaaJY4
set_option linter.unusedVariables false
set_option linter.unusedSimpArgs false
namespace Go.Proofs.Yteamebdehembgaa
open Go.RowKit

theorem PsO.le2 {w : World} {lo pb n : Nat} {us : List Value} {pss : List (List Rq)} {L : Nat → Nat} (h : PsO w lo pb n us pss L) : ∀ d i, i + d ≤ pss.length → L i ≤ L (i + d) := by
  intro d
  induction d with
  | zero => intro i _; exact Nat.le_refl _
  | succ d ih => intro i hi; exact Nat.le_trans (ih i (by omega)) (h.mono (i + d) (by omega))
theorem PsO.leij {w : World} {lo pb n i j : Nat} {us : List Value} {pss : List (List Rq)} {L : Nat → Nat} (h : PsO w lo pb n us pss L) (h1 : i ≤ j) (h2 : j ≤ pss.length) : L i ≤ L j := by
  have := h.le2 (j - i) i (by omega)
  rwa [show i + (j - i) = j by omega] at this
/-- Kept where the outer block, and the blocks from L 0 on, are. -/
theorem PsO.keptB {w w' : World} {lo pb n : Nat} {us : List Value} {pss : List (List Rq)} {L : Nat → Nat} (h : PsO w lo pb n us pss L) (hk : ∀ k, k = pb ∨ (L 0 ≤ k ∧ k < L pss.length) → k < w.heap.size → w'.heap[k]? = w.heap[k]?) (hs : w.heap.size ≤ w'.heap.size) : PsO w' lo pb n us pss L :=
  { h with outer := OwnR.kept h.outer fun k hk2 => hk k (.inl (by simp only [Value.ownBlock, Option.some.injEq] at hk2; exact hk2.symm)) (OwnR.lt h.outer k hk2).2
           pg := fun j hj => (h.pg j hj).kept fun k h1 h2 h3 => hk k (.inr ⟨Nat.le_trans (h.le0 j (by omega)) h1, Nat.lt_of_lt_of_le h2 (h.leij (by omega) (Nat.le_refl _))⟩) h3
           top := Nat.le_trans h.top hs }
/-- One's list is another one, in its blocks. -/
theorem PsO.setPg {w w' : World} {lo pb n k : Nat} {us : List Value} {pss : List (List Rq)} {L : Nat → Nat} {y : List Rq} (h : PsO w lo pb n us pss L) (hk : k < pss.length) (hb : Bt (L k) (L (k + 1)) w w') (hp : PgO w' (L k) (L (k + 1)) (us.getD k vnil) y) : PsO w' lo pb n us (pss.set k y) L := by
  have hl : (pss.set k y).length = pss.length := by simp
  have hkb := h.leij (i := 0) (j := k) (by omega) (by omega)
  have hpb := h.pbl
  refine ⟨OwnR.kept h.outer fun i hi => hb.block i (OwnR.lt h.outer i hi).2 (.inl (by simp only [Value.ownBlock, Option.some.injEq] at hi; omega)), h.len, by rw [hl]; exact h.le, fun j hj => ?_, fun j h1 h2 => h.nil j (by rw [hl] at h1; exact h1) h2, fun j hj => h.mono j (by rw [hl] at hj; exact hj), h.pbl, by rw [hl]; exact Nat.le_trans h.top hb.size⟩
  rw [hl] at hj
  by_cases e : j = k
  · subst e
    rw [getD_set_eq hj]
    exact hp
  · rw [getD_set_ne' e]
    refine (h.pg j hj).kept fun i h1 h2 h3 => hb.block i h3 ?_
    rcases Nat.lt_or_ge j k with hjk | hjk
    · left; have := h.leij (i := j + 1) (j := k) (by omega) (by omega); omega
    · right; have := h.leij (i := k + 1) (j := j) (by omega) (by omega); omega

/-- A bus, owned: its ranges and how slow its stores are in blocks below mid, what each asks from mid up to hi. -/
structure BsO (w : World) (lo mid hi : Nat) (a b p : Value) (ms : List MR) (lat : List Int) (pss : List (List Rq)) : Prop where
  oa : Owns w lo 101 4 rowM a ms
  ob : Owns w lo 3 1 rowI b lat
  ha : ∀ k, a.ownBlock = some k → k < mid
  hb : ∀ k, b.ownBlock = some k → k < mid
  mh : mid ≤ hi
  ps : (p = vnil ∧ pss = []) ∨ ∃ pb us L, p = .slice (some ⟨pb, 0, none⟩) pss.length pss.length ∧ PsO w lo pb pss.length us pss L ∧ pb < mid ∧ mid ≤ L 0 ∧ L pss.length ≤ hi
theorem BsO.kept {w w' : World} {lo mid hi : Nat} {a b p : Value} {ms : List MR} {lat : List Int} {pss : List (List Rq)} (h : BsO w lo mid hi a b p ms lat pss) (hk : ∀ k, lo ≤ k → k < hi → k < w.heap.size → w'.heap[k]? = w.heap[k]?) (hs : w.heap.size ≤ w'.heap.size) : BsO w' lo mid hi a b p ms lat pss :=
  { h with oa := OwnR.kept h.oa fun k hk2 => hk k (OwnR.lt h.oa k hk2).1 (Nat.lt_of_lt_of_le (h.ha k hk2) h.mh) (OwnR.lt h.oa k hk2).2
           ob := OwnR.kept h.ob fun k hk2 => hk k (OwnR.lt h.ob k hk2).1 (Nat.lt_of_lt_of_le (h.hb k hk2) h.mh) (OwnR.lt h.ob k hk2).2
           ps := by
             rcases h.ps with h1 | ⟨pb, us, L, e, h1, h2, h3, h4⟩
             · exact .inl h1
             · exact .inr ⟨pb, us, L, e, h1.keptB (fun k hk2 h5 => hk k (by have := h1.pb.1; have := h1.pbl; omega) (by have := h.mh; omega) h5) hs, h2, h3, h4⟩ }
theorem BsO.below {w w' : World} {lo mid hi : Nat} {a b p : Value} {ms : List MR} {lat : List Int} {pss : List (List Rq)} (h : BsO w lo mid hi a b p ms lat pss) (hb : Below w.heap.size w w') : BsO w' lo mid hi a b p ms lat pss := h.kept (fun k _ _ hk => hb.block k hk) hb.size
theorem BsO.bt {w w' : World} {lo mid hi l r : Nat} {a b p : Value} {ms : List MR} {lat : List Int} {pss : List (List Rq)} (h : BsO w lo mid hi a b p ms lat pss) (hb : Bt l r w w') (hk : hi ≤ l ∨ r ≤ lo) : BsO w' lo mid hi a b p ms lat pss := h.kept (fun k h1 h2 h3 => hb.block k h3 (by omega)) hb.size
theorem BsO.rebase {w : World} {lo lo' mid hi : Nat} {a b p : Value} {ms : List MR} {lat : List Int} {pss : List (List Rq)} (h : BsO w lo mid hi a b p ms lat pss) (hl : lo' ≤ lo) : BsO w lo' mid hi a b p ms lat pss :=
  { h with oa := OwnR.rebase h.oa hl, ob := OwnR.rebase h.ob hl
           ps := by
             rcases h.ps with h1 | ⟨pb, us, L, e, h1, h2⟩
             · exact .inl h1
             · exact .inr ⟨pb, us, L, e, h1.rebase hl, h2⟩ }
/-- A bus fits: no list too long, all numbers of 64 bits. -/
structure BFit (ms : List MR) (lat : List Int) (pss : List (List Rq)) : Prop where
  m : ms.length ≤ 1048576
  m6 : ∀ r ∈ ms, MR64 r
  l : lat.length ≤ 1048576
  l6 : ∀ x ∈ lat, I64 x
  p : pss.length ≤ 1048576
  q : ∀ p ∈ pss, p.length ≤ 1048576 ∧ ∀ q ∈ p, RqFit q
theorem BsO.busI {w : World} {lo mid hi : Nat} {a b p : Value} {ms : List MR} {lat : List Int} {pss : List (List Rq)} (h : BsO w lo mid hi a b p ms lat pss) (hf : BFit ms lat pss) : BusI w w.heap.size (.agg #[a, b, p]) ms lat pss := by
  refine ⟨a, b, p, rfl, h.oa.maps hf.m hf.m6, h.ob.ints (by have := hf.l; omega) hf.l6, ?_⟩
  rcases h.ps with ⟨rfl, rfl⟩ | ⟨pb, us, L, e, h1, _⟩
  · exact ArrV.nil _ _ _ _
  · rw [e]; exact h1.progs rfl hf.p hf.q
theorem BsO.shapes {w : World} {lo mid hi : Nat} {a b p : Value} {ms : List MR} {lat : List Int} {pss : List (List Rq)} (h : BsO w lo mid hi a b p ms lat pss) : (∃ x y, a = .slice x ms.length y) ∧ (∃ x y, b = .slice x lat.length y) ∧ ∃ x y, p = .slice x pss.length y := by
  obtain ⟨x, y, e, _⟩ := h.oa.shape
  obtain ⟨z, t, e2, _⟩ := h.ob.shape
  refine ⟨⟨x, y, e⟩, ⟨z, t, e2⟩, ?_⟩
  rcases h.ps with ⟨rfl, rfl⟩ | ⟨pb, us, L, e, _⟩
  · exact ⟨none, 0, rfl⟩
  · exact ⟨_, _, e⟩
theorem BsO.nil (w : World) (lo : Nat) : BsO w lo lo lo vnil vnil vnil [] [] [] := ⟨Owns.zero, Owns.zero, fun k hk => by simp [Value.ownBlock] at hk, fun k hk => by simp [Value.ownBlock] at hk, Nat.le_refl _, .inl ⟨rfl, rfl⟩⟩
theorem BFit.nil : BFit [] [] [] := ⟨by simp, by simp, by simp, by simp, by simp, by simp⟩

def ToBusP (ms : List MR) (lat : List Int) (pss : List (List Rq)) (w : World) (e : Ending) (w' : World) : Prop := ∃ a b p mid, e = .returned (.agg #[a, b, p]) ∧ BsO w' w.heap.size mid w'.heap.size a b p ms lat pss ∧ Below w.heap.size w w'
/-- What the copy of a bus leaves alone. -/
structure ToK (w : World) (src out : List Value) (W : World) : Prop where
  be : Below w.heap.size w W
  s : Bx W w.heap.size src
  r : Bx W (w.heap.size + 1) [vnil, vnil, vnil]
  o : Bx W (w.heap.size + 2) out
  z : w.heap.size + 3 ≤ W.heap.size
theorem ToK.start (w : World) (a b c : Value) : ToK w [a, b, c] [vnil, vnil, vnil] (((w.alloc (.cells #[a, b, c] 52)).alloc (.cells #[.slice none 0 0, .slice none 0 0, .slice none 0 0] 27)).alloc (.cells #[.slice none 0 0, .slice none 0 0, .slice none 0 0] 27)) := by
  have h1 := Bx.new w #[a, b, c] 52 (by simp)
  have h2 := Bx.new (w.alloc (.cells #[a, b, c] 52)) #[vnil, vnil, vnil] 27 (by simp)
  have h3 := Bx.new ((w.alloc (.cells #[a, b, c] 52)).alloc (.cells #[.slice none 0 0, .slice none 0 0, .slice none 0 0] 27)) #[vnil, vnil, vnil] 27 (by simp)
  simp only [World.size_alloc] at h2 h3
  exact ⟨((bx1 _ _).alloc (by simp) _).alloc (by simp <;> omega) _, (h1.below (bx1 _ _) (by simp)).below (bx1 _ _) (by simp <;> omega), h2.below (bx1 _ _) (by simp), h3, by simp⟩
theorem ToK.below {w W W' : World} {src out : List Value} (h : ToK w src out W) (hb : Below W.heap.size W W') : ToK w src out W' :=
  ⟨h.be.trans (hb.mono h.be.size), h.s.below hb h.s.lt, h.r.below hb h.r.lt, h.o.below hb h.o.lt, Nat.le_trans h.z hb.size⟩
theorem ToK.put {w W : World} {src out : List Value} (h : ToK w src out W) {j : Nat} (hj : j < out.length) (u : Value) : ToK w src (out.set j u) (W.setCell ⟨w.heap.size + 2, j, none⟩ u) :=
  ⟨h.be.setCell (by show w.heap.size ≤ w.heap.size + 2; omega) _, h.s.kept (Below.heap_setCell _ _ _ _ (by show w.heap.size ≠ w.heap.size + 2; omega)), h.r.kept (Below.heap_setCell _ _ _ _ (by show w.heap.size + 1 ≠ w.heap.size + 2; omega)), h.o.set j hj u, by simpa using h.z⟩
theorem ToK.own {α : Type} {w W : World} {src out : List Value} (_h : ToK w src out W) {e sz : Nat} {f : α → List Value} {v : Value} {xs : List α} (ho : Owns W (w.heap.size + 3) e sz f v xs) (j : Nat) (u : Value) : Owns (W.setCell ⟨w.heap.size + 2, j, none⟩ u) (w.heap.size + 3) e sz f v xs :=
  OwnR.kept ho fun k hk => Below.heap_setCell _ _ _ _ (by have := (OwnR.lt ho k hk).1; show k ≠ w.heap.size + 2; omega)
set_option maxRecDepth 8000 in
set_option maxHeartbeats 8000000 in
theorem toBus_any (v : Value) (ms : List MR) (lat : List Int) (pss : List (List Rq)) (B : Nat) (w : World) (h : BusI w B v ms lat pss) (hB : B ≤ w.heap.size) (h1 : ms.length ≤ 1048576) (h2 : lat.length ≤ 1048576) (h3 : pss.length ≤ 1048576) (h4 : ∀ j, j < pss.length → Ps20 (pss.getD j [])) :
    Calls Try.prog 22 #[v] w (ToBusP ms lat pss w) := by
  obtain ⟨mv, lv, pv, rfl, hm, hl, hp⟩ := h
  have HM := hid hm; have HL := hid hl; have HP := hid hp; have HB := hid hB
  have H1 := hid h1; have H2 := hid h2; have H3 := hid h3; have H4 := hid h4
  obtain ⟨ma, mc, rfl, _⟩ := hm.opened
  obtain ⟨la, lc, rfl, _⟩ := hl.opened
  obtain ⟨pa, pc, rfl, _⟩ := hp.opened
  clear hm hl hp hB h1 h2 h3 h4
  obtain ⟨W3, hW3⟩ : ∃ W3, W3 = ((w.alloc (.cells #[.slice ma ms.length mc, .slice la lat.length lc, .slice pa pss.length pc] 52)).alloc (.cells #[.slice none 0 0, .slice none 0 0, .slice none 0 0] 27)).alloc (.cells #[.slice none 0 0, .slice none 0 0, .slice none 0 0] 27) := ⟨_, rfl⟩
  have HK := hid (show ToK w [.slice ma ms.length mc, .slice la lat.length lc, .slice pa pss.length pc] [vnil, vnil, vnil] W3 by rw [hW3]; exact ToK.start _ _ _ _)
  go_enter Try.func22, Try.ntmps22
  go_wp2_with fail
  rw [← hW3]
  clear hW3
  refine (toRanges_any _ ms B W3 (HM.out.below (HK.out.be.mono HB.out)) (Nat.le_trans HB.out HK.out.be.size) H1.out).mono ?_
  rintro e w1 ⟨g, rfl, o1, hb⟩
  have HK1 := hid (HK.out.below hb)
  have HOA := hid (OwnR.rebase o1 HK.out.z)
  clear o1 hb HK
  obtain ⟨⟨s0, s1, s2⟩, _⟩ := HK1.out.s.three
  obtain ⟨⟨q0, q1, q2⟩, f0, f1, f2⟩ := HK1.out.o.three
  have hz1 := HK1.out.z
  go_wp2_with fail
  refine at_world (fun W => ToK w [.slice ma ms.length mc, .slice la lat.length lc, .slice pa pss.length pc] [.slice (some ⟨g, 0, none⟩) ms.length ms.length, vnil, vnil] W ∧ Owns W (w.heap.size + 3) 101 4 rowM (.slice (some ⟨g, 0, none⟩) ms.length ms.length) ms) ⟨HK1.out.put (j := 0) (by simp) _, HK1.out.own HOA.out _ _⟩ ?_
  rintro W4 ⟨hk, ho⟩
  have HK := hid hk; have HOA := hid ho
  clear hk ho s0 s1 s2 q0 q1 q2 f0 f1 f2 hz1 HK1
  refine (toIntS_any _ lat B W4 (HL.out.below (HK.out.be.mono HB.out)) (Nat.le_trans HB.out HK.out.be.size) H2.out).mono ?_
  rintro e w2 ⟨b, rfl, o1, hb⟩
  obtain ⟨b1, b2, rfl, _, _⟩ := o1.shape
  have HK1 := hid (HK.out.below hb)
  have HOB := hid (OwnR.rebase o1 HK.out.z)
  have HOA := hid (HOA.out.below hb)
  clear o1 hb HK
  obtain ⟨⟨s0, s1, s2⟩, _⟩ := HK1.out.s.three
  obtain ⟨⟨q0, q1, q2⟩, f0, f1, f2⟩ := HK1.out.o.three
  have hz1 := HK1.out.z
  go_wp2_with fail
  refine at_world (fun W => ToK w [.slice ma ms.length mc, .slice la lat.length lc, .slice pa pss.length pc] [.slice (some ⟨g, 0, none⟩) ms.length ms.length, .slice b1 lat.length b2, vnil] W ∧ Owns W (w.heap.size + 3) 101 4 rowM (.slice (some ⟨g, 0, none⟩) ms.length ms.length) ms ∧ Owns W (w.heap.size + 3) 3 1 rowI (.slice b1 lat.length b2) lat) ⟨HK1.out.put (j := 1) (by simp) _, HK1.out.own HOA.out _ _, HK1.out.own HOB.out _ _⟩ ?_
  rintro W5 ⟨hk, ho, ho2⟩
  have HK := hid hk; have HOA := hid ho; have HOB := hid ho2
  clear hk ho ho2 s0 s1 s2 q0 q1 q2 f0 f1 f2 hz1 HK1
  refine (toProgs_any _ pss B W5 (HP.out.below (HK.out.be.mono HB.out)) (Nat.le_trans HB.out HK.out.be.size) H3.out H4.out).mono ?_
  rintro e w3 ⟨pb, us, L, rfl, hps, hb⟩
  have HK1 := hid (HK.out.below hb)
  have HPB := hid hps.pb
  have HPS := hid (hps.rebase HK.out.z)
  have HLA := hid (OwnR.lt HOA.out); have HLB := hid (OwnR.lt HOB.out)
  have HOA := hid (HOA.out.below hb); have HOB := hid (HOB.out.below hb)
  clear hps hb HK
  obtain ⟨⟨q0, q1, q2⟩, f0, f1, f2⟩ := HK1.out.o.three
  obtain ⟨⟨r0, r1, r2⟩, g0, g1, g2⟩ := HK1.out.r.three
  have hz1 := HK1.out.z
  go_wp2_with fail
  refine bodyPost_ret (results_c1 Try.results22 _ _ ⟨w.heap.size + 1, 0, none⟩ (.agg #[.slice (some ⟨g, 0, none⟩) ms.length ms.length, .slice b1 lat.length b2, .slice (some ⟨pb, 0, none⟩) pss.length pss.length]) rfl (loadVar_bus _ _ _ _ _ (by simp [go_sem, *]) (by simp [go_sem, *]) (by simp [go_sem, *]))) rfl ⟨_, _, _, pb + 1, rfl, ?_, ?_⟩
  · have key : BsO w3 (w.heap.size + 3) (pb + 1) w3.heap.size (.slice (some ⟨g, 0, none⟩) ms.length ms.length) (.slice b1 lat.length b2) (.slice (some ⟨pb, 0, none⟩) pss.length pss.length) ms lat pss :=
      ⟨HOA.out, HOB.out, fun k hk => by have := (HLA.out k hk).2; have := HPB.out.1; omega, fun k hk => by have := (HLB.out k hk).2; have := HPB.out.1; omega, HPB.out.2, .inr ⟨pb, us, L, rfl, HPS.out, by omega, HPS.out.pbl, HPS.out.top⟩⟩
    have hs : ∀ X : World, X.heap.size = w3.heap.size → (∀ k, w.heap.size + 3 ≤ k → X.heap[k]? = w3.heap[k]?) → BsO X w.heap.size (pb + 1) X.heap.size (.slice (some ⟨g, 0, none⟩) ms.length ms.length) (.slice b1 lat.length b2) (.slice (some ⟨pb, 0, none⟩) pss.length pss.length) ms lat pss := fun X h1 h2 => by
      rw [h1]; exact (key.kept (fun k h3 _ _ => h2 k h3) (Nat.le_of_eq h1.symm)).rebase (by omega)
    refine hs _ (by simp) fun k hk => ?_
    have n1 : k ≠ w.heap.size + 1 := by omega
    have n2 : k ≠ w.heap.size + 2 := by omega
    exact (Below.heap_setCell _ _ _ _ n1).trans ((Below.heap_setCell _ _ _ _ n1).trans ((Below.heap_setCell _ _ _ _ n1).trans (Below.heap_setCell _ _ _ _ n2)))
  · exact (((HK1.out.be.setCell (by exact Nat.le_add_right _ 2) _).setCell (by exact Nat.le_succ _) _).setCell (by exact Nat.le_succ _) _).setCell (by exact Nat.le_succ _) _

end Go.Proofs.Yteamebdehembgaa

namespace Go.Proofs.Yteamebdehembgaa
open Go.RowKit

/-- What one asks, owned: the rows, and each one's lists. -/
structure RdO (w : World) (lo : Nat) (v : Value) (qs : List Rq) (vs : List (Value × Value)) : Prop where
  len : vs.length = qs.length
  rows : Owns w lo 71 7 rowQ v (zipQ qs vs)
  d : ∀ j, j < qs.length → Owns w lo 3 1 rowI (vs.getD j default).1 (qs.getD j default).data
  l : ∀ j, j < qs.length → Owns w lo 3 1 rowI (vs.getD j default).2 (qs.getD j default).lanes
theorem RdO.kept {w w' : World} {lo : Nat} {v : Value} {qs : List Rq} {vs : List (Value × Value)} (h : RdO w lo v qs vs) (hk : ∀ k, lo ≤ k → k < w.heap.size → w'.heap[k]? = w.heap[k]?) : RdO w' lo v qs vs :=
  { h with rows := OwnR.kept h.rows fun k hk2 => hk k (OwnR.lt h.rows k hk2).1 (OwnR.lt h.rows k hk2).2
           d := fun j hj => OwnR.kept (h.d j hj) fun k hk2 => hk k (OwnR.lt (h.d j hj) k hk2).1 (OwnR.lt (h.d j hj) k hk2).2
           l := fun j hj => OwnR.kept (h.l j hj) fun k hk2 => hk k (OwnR.lt (h.l j hj) k hk2).1 (OwnR.lt (h.l j hj) k hk2).2 }
theorem RdO.below {w w' : World} {lo : Nat} {v : Value} {qs : List Rq} {vs : List (Value × Value)} (h : RdO w lo v qs vs) (hb : Below w.heap.size w w') : RdO w' lo v qs vs := h.kept fun k _ hk => hb.block k hk
theorem RdO.rebase {w : World} {lo lo' : Nat} {v : Value} {qs : List Rq} {vs : List (Value × Value)} (h : RdO w lo v qs vs) (hl : lo' ≤ lo) : RdO w lo' v qs vs :=
  { h with rows := OwnR.rebase h.rows hl, d := fun j hj => OwnR.rebase (h.d j hj) hl, l := fun j hj => OwnR.rebase (h.l j hj) hl }
/-- Kept where but blocks of other types turn. -/
theorem RdO.keptT {w w' : World} {lo : Nat} {v : Value} {qs : List Rq} {vs : List (Value × Value)} (h : RdO w lo v qs vs) (hk : ∀ (k : Nat) (cs : Array Value) (T : TypeId), w.heap[k]? = some (Obj.cells cs T (0, 0)) → (T = 71 ∨ T = 3) → w'.heap[k]? = w.heap[k]?) : RdO w' lo v qs vs := by
  have key : ∀ {α : Type} {f : α → List Value} {e sz : Nat} {u : Value} {xs : List α}, Owns w lo e sz f u xs → (e = 71 ∨ e = 3) → Owns w' lo e sz f u xs := by
    intro α f e sz u xs ho he
    refine OwnR.kept ho fun k hk2 => ?_
    obtain ⟨_, h2⟩ := ho
    rcases h2 with ⟨rfl, _⟩ | ⟨g, off, cap, cur, rfl, _, hh, _⟩
    · simp [Value.ownBlock] at hk2
    · simp only [Value.ownBlock, Option.some.injEq] at hk2
      subst hk2
      exact hk _ _ _ hh he
  exact { h with rows := key h.rows (.inl rfl), d := fun j hj => key (h.d j hj) (.inr rfl), l := fun j hj => key (h.l j hj) (.inr rfl) }
theorem RdO.reqs {w : World} {lo : Nat} {v : Value} {qs : List Rq} {vs : List (Value × Value)} (h : RdO w lo v qs vs) (hn : qs.length ≤ 1048576) (hq : ∀ q ∈ qs, RqFit q) : Reqs w w.heap.size v qs := by
  have hr := h.rows
  have hl1 : (zipQ qs vs).length = qs.length := zipQ_len h.len
  have key := reqs_of (B := w.heap.size) (P := (· < w.heap.size)) (hr.arrD (P := (· < w.heap.size)) (fun k hk => (OwnR.lt hr k hk).2) rowQ_len (by omega)) (fun y hy => ?_) (fun b hb => hb)
  · have e : (zipQ qs vs).map (·.1) = qs := by
      unfold zipQ
      rw [List.map_zipWith]
      apply List.ext_getElem
      · simp [h.len]
      · intro i h1 h2; simp
    rw [e] at key
    exact key
  · obtain ⟨k, hk, rfl⟩ := List.mem_iff_getElem.1 hy
    have hk' : k < qs.length := by omega
    have e : (zipQ qs vs)[k] = (qs.getD k default, vs.getD k default) := by
      rw [← zipQ_get h.len hk' zQ]; simp [List.getD, hk]
    rw [e]
    obtain ⟨⟨b1, b2⟩, i1, i2, i3⟩ := hq _ (getD_mem (d := default) hk')
    exact ⟨(h.d k hk').intsD (fun b hb => (OwnR.lt (h.d k hk') b hb).2) (by omega) i1, (h.l k hk').intsD (fun b hb => (OwnR.lt (h.l k hk') b hb).2) (by omega) i2, i3⟩
theorem RdO.snoc {w w' : World} {lo : Nat} {v v' d l : Value} {qs : List Rq} {vs : List (Value × Value)} {r : Rq} (h : RdO w lo v qs vs) (hr : Owns w' lo 71 7 rowQ v' (zipQ qs vs ++ [(r, d, l)])) (hk : ∀ (k : Nat) (cs : Array Value) (T : TypeId), w.heap[k]? = some (Obj.cells cs T (0, 0)) → T = 3 → w'.heap[k]? = w.heap[k]?) (hd : Owns w' lo 3 1 rowI d r.data) (hl : Owns w' lo 3 1 rowI l r.lanes) : RdO w' lo v' (qs ++ [r]) (vs ++ [(d, l)]) := by
  have key : ∀ {u : Value} {xs : List Int}, Owns w lo 3 1 rowI u xs → Owns w' lo 3 1 rowI u xs := by
    intro u xs ho
    refine OwnR.kept ho fun k hk2 => ?_
    obtain ⟨_, h2⟩ := ho
    rcases h2 with ⟨rfl, _⟩ | ⟨g, off, cap, cur, rfl, _, hh, _⟩
    · simp [Value.ownBlock] at hk2
    · simp only [Value.ownBlock, Option.some.injEq] at hk2
      subst hk2
      exact hk _ _ _ hh rfl
  refine ⟨by simp [h.len], ?_, fun j hj => ?_, fun j hj => ?_⟩
  · have e : zipQ (qs ++ [r]) (vs ++ [(d, l)]) = zipQ qs vs ++ [(r, d, l)] := by
      unfold zipQ; rw [List.zipWith_append h.len.symm]; rfl
    rw [e]; exact hr
  · by_cases e : j < qs.length
    · rw [getD_snoc_lt e, getD_snoc_lt (by rw [h.len]; exact e)]; exact key (h.d j e)
    · obtain rfl : j = qs.length := by simp at hj; omega
      rw [getD_snoc_eq, ← h.len, getD_snoc_eq]; exact hd
  · by_cases e : j < qs.length
    · rw [getD_snoc_lt e, getD_snoc_lt (by rw [h.len]; exact e)]; exact key (h.l j e)
    · obtain rfl : j = qs.length := by simp at hj; omega
      rw [getD_snoc_eq, ← h.len, getD_snoc_eq]; exact hl

/-- The reference's copy amid its rounds. -/
structure SpK (w0 wr : World) (lo g : Nat) (a b pv : Value) (us : List Value) (ls : List (List Rq)) (ms : List MR) (lat : List Int) (src : List Value) : Prop where
  box : BoxB wr g a b pv
  oa : Owns wr lo 101 4 rowM a ms
  ob : Owns wr lo 3 1 rowI b lat
  op : Owns wr lo 34 1 row1 pv us
  len : us.length = ls.length
  pg : ∀ j, j < ls.length → ∃ vs, RdO wr lo (us.getD j vnil) (ls.getD j []) vs
  be : Below w0.heap.size w0 wr
  src : Bx wr w0.heap.size src
  res : Bx wr (w0.heap.size + 1) [vnil, vnil, vnil]
  lo2 : w0.heap.size + 2 ≤ lo
  gl : lo ≤ g
theorem SpK.below {w0 wr wr' : World} {lo g : Nat} {a b pv : Value} {us : List Value} {ls : List (List Rq)} {ms : List MR} {lat : List Int} {src : List Value} (h : SpK w0 wr lo g a b pv us ls ms lat src) (hb : Below wr.heap.size wr wr') : SpK w0 wr' lo g a b pv us ls ms lat src :=
  ⟨h.box.below hb h.box.lt, h.oa.below hb, h.ob.below hb, h.op.below hb, h.len, fun j hj => let ⟨vs, hv⟩ := h.pg j hj; ⟨vs, hv.below hb⟩, h.be.trans (hb.mono h.be.size), h.src.below hb h.src.lt, h.res.below hb h.res.lt, h.lo2, h.gl⟩
/-- One more list: it lies at v (rebased), the outer one is appended to, and stored into the box. -/
theorem SpK.next {w0 w w1 : World} {lo g : Nat} {a b pv pv' v : Value} {us : List Value} {ls : List (List Rq)} {ms : List MR} {lat : List Int} {src : List Value} {qs : List Rq} {vs : List (Value × Value)} (h : SpK w0 w lo g a b pv us ls ms lat src) (hv : RdO w lo v qs vs)
    (ho : Owns w1 lo 34 1 row1 pv' (us ++ [v])) (hz : w.heap.size ≤ w1.heap.size) (hk : ∀ k, k < w.heap.size → pv.ownBlock ≠ some k → w1.heap[k]? = w.heap[k]?) (hb : Below lo w w1) : SpK w0 (w1.setCell ⟨g, 2, none⟩ pv') lo g a b pv' (us ++ [v]) (ls ++ [qs]) ms lat src := by
  have hgp : pv.ownBlock ≠ some g := h.op.notB h.box (by decide)
  have hB1 : BoxB w1 g a b pv := h.box.keep (hk g h.box.lt hgp)
  have hgp' : pv'.ownBlock ≠ some g := ho.notB hB1 (by decide)
  have key : ∀ k, k < w.heap.size → pv.ownBlock ≠ some k → k ≠ g → (w1.setCell ⟨g, 2, none⟩ pv').heap[k]? = w.heap[k]? := fun k h1 h2 h3 => (Below.heap_setCell _ _ _ _ h3).trans (hk k h1 h2)
  have keyT : ∀ (k : Nat) (cs : Array Value) (T : TypeId), w.heap[k]? = some (Obj.cells cs T (0, 0)) → (T = 71 ∨ T = 3) → (w1.setCell ⟨g, 2, none⟩ pv').heap[k]? = w.heap[k]? := fun k cs T hc hT => by
    refine key k (heap_lt hc) (fun e => ?_) (fun e => ?_)
    · exact (h.op.notB hc (by rcases hT with rfl | rfl <;> decide)) e
    · subst e
      exact cells_ne hc h.box (by rcases hT with rfl | rfl <;> decide) rfl
  have hl := h.lo2
  have hg := h.gl
  refine ⟨?_, OwnR.kept h.oa fun k hk2 => key k (OwnR.lt h.oa k hk2).2 (fun e => Owns.apartT h.oa h.op (by decide) k hk2 e) (fun e => (h.oa.notB h.box (by decide)) (by rw [hk2, e])), OwnR.kept h.ob fun k hk2 => key k (OwnR.lt h.ob k hk2).2 (fun e => Owns.apartT h.ob h.op (by decide) k hk2 e) (fun e => (h.ob.notB h.box (by decide)) (by rw [hk2, e])), OwnR.kept ho fun k hk2 => Below.heap_setCell _ _ _ _ (fun e => hgp' (by rw [hk2, show k = g from e])), by simp [h.len], fun j hj => ?_, (h.be.trans (hb.mono (by omega))).setCell (by show w0.heap.size ≤ g; omega) _, h.src.kept (key _ h.src.lt (fun e => by have := (OwnR.lt h.op _ e).1; omega) (by omega)), h.res.kept (key _ h.res.lt (fun e => by have := (OwnR.lt h.op _ e).1; omega) (by omega)), hl, hg⟩
  · unfold BoxB at hB1 ⊢; simp [World.setCell, Array.getElem?_modify, hB1]
  · by_cases e : j < ls.length
    · obtain ⟨vs', hv'⟩ := h.pg j e
      rw [getD_snoc_lt e, getD_snoc_lt (by rw [h.len]; exact e)]
      exact ⟨vs', hv'.keptT keyT⟩
    · obtain rfl : j = ls.length := by simp at hj; omega
      rw [getD_snoc_eq, ← h.len, getD_snoc_eq]
      exact ⟨vs, hv.keptT keyT⟩
theorem SpK.busK {w0 w W : World} {lo g : Nat} {a b pv : Value} {us : List Value} {ls : List (List Rq)} {ms : List MR} {lat : List Int} {src : List Value} (h : SpK w0 w lo g a b pv us ls ms lat src) (hf : BFit ms lat ls) (hkw : ∀ k, lo ≤ k → W.heap[k]? = w.heap[k]?) : BusI W W.heap.size (.agg #[a, b, pv]) ms lat ls := by
  have oa : Owns W lo 101 4 rowM a ms := OwnR.kept h.oa fun k hk2 => hkw k (OwnR.lt h.oa k hk2).1
  have ob : Owns W lo 3 1 rowI b lat := OwnR.kept h.ob fun k hk2 => hkw k (OwnR.lt h.ob k hk2).1
  have op : Owns W lo 34 1 row1 pv us := OwnR.kept h.op fun k hk2 => hkw k (OwnR.lt h.op k hk2).1
  refine ⟨a, b, pv, rfl, oa.maps hf.m hf.m6, ob.ints (by have := hf.l; omega) hf.l6, us, ?_, h.len, fun k hk d => ?_⟩
  · have e : us.map (fun u => u.cells.toList) = us.map row1 := by
      apply List.map_congr_left
      intro u hu
      obtain ⟨i, hi, rfl⟩ := List.mem_iff_getElem.1 hu
      obtain ⟨vs, hv⟩ := h.pg i (by have := h.len; omega)
      obtain ⟨a, c, e, _⟩ := hv.rows.shape
      have e2 : us.getD i vnil = us[i] := by simp [List.getD, hi]
      rw [e2] at e
      rw [e]; rfl
    rw [e]
    exact op.arr row1_len (by have := hf.p; have := h.len; omega)
  · obtain ⟨vs, hv⟩ := h.pg k hk
    obtain ⟨q1, q2⟩ := hf.q _ (getD_mem (d := []) hk)
    have hk2 : k < us.length := by have := h.len; omega
    rw [show us.getD k undef = us.getD k vnil by simp [List.getD, hk2], show ls.getD k d = ls.getD k [] by simp [List.getD, hk]]
    exact (hv.kept fun k h1 _ => hkw k h1).reqs q1 q2

end Go.Proofs.Yteamebdehembgaa
