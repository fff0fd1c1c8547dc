/-
  A slice of things that are asked: one more copied; marked, wherever it lies (printed by wip/gen_q6.py).
-/
import Derived.Test.YteamebdehembgaaJDr7
set_option linter.unusedVariables false
set_option linter.unusedSimpArgs false
namespace Go.Proofs.Yteamebdehembgaa
open Go.RowKit

theorem QcO.snoc {w w' : World} {lo g o c n : Nat} {qs : List Rq} {vs : List (Value × Value)} {row : RqV} {rest : List RqV} (h : QcO w lo g o c n qs vs (row :: rest)) (hb : Below w.heap.size w w') {q : Rq} {u z : Value}
    (hu : Owns w' w.heap.size 3 1 rowI u q.data) (hz : Owns w' w.heap.size 3 1 rowI z q.lanes) (ha : Apart u z) :
    QcO (w'.setCells g (o + qs.length * 7) (rowQ (q, u, z))) lo g o c n (qs ++ [q]) (vs ++ [(u, z)]) rest := by
  have hg := h.g
  have h' := h.below hb
  have hloh : lo ≤ w.heap.size := by omega
  have hul : ∀ k, u.ownBlock = some k → w.heap.size ≤ k := fun k hk => (OwnR.lt hu k hk).1
  have hzl : ∀ k, z.ownBlock = some k → w.heap.size ≤ k := fun k hk => (OwnR.lt hz k hk).1
  have hset : ∀ k, k ≠ g → (w'.setCells g (o + qs.length * 7) (rowQ (q, u, z))).heap[k]? = w'.heap[k]? := fun k hk => setCells_heap g _ _ _ _ hk
  have hl1 : (zipQ qs vs).length = qs.length := zipQ_len h.len
  have dl : ∀ j, j < qs.length → ∀ k, (vs.getD j default).1.ownBlock = some k → k < w.heap.size := fun j hj k hk => (OwnR.lt (h.d j hj) k hk).2
  have ll : ∀ j, j < qs.length → ∀ k, (vs.getD j default).2.ownBlock = some k → k < w.heap.size := fun j hj k hk => (OwnR.lt (h.l j hj) k hk).2
  have ev : ∀ j, j < qs.length → (vs ++ [(u, z)]).getD j default = vs.getD j default := fun j hj => getD_snoc_lt (by rw [h.len]; exact hj)
  have ev2 : (vs ++ [(u, z)]).getD qs.length default = (u, z) := by rw [← h.len]; exact getD_snoc_eq
  have eq1 : ∀ j, j < qs.length → (qs ++ [q]).getD j default = qs.getD j default := fun j hj => getD_snoc_lt hj
  have eq2 : (qs ++ [q]).getD qs.length default = q := getD_snoc_eq
  have cs : ∀ j, j < (qs ++ [q]).length → j < qs.length ∨ j = qs.length := fun j hj => by simp at hj; omega
  refine ⟨by simp [h.len], by have := h.le; simp at this ⊢; omega, ?_, ?_, ?_, ?_, ?_, ?_, ?_, ?_⟩
  · have hk : qs.length < (zipQ qs vs ++ row :: rest).length := by simp [hl1]
    have r := h'.rows.row7 (k := qs.length) hk (q, u, z)
    rw [zipQ_snoc h.len]
    have e : (zipQ qs vs ++ row :: rest).set qs.length (q, u, z) = zipQ qs vs ++ [(q, u, z)] ++ rest := by
      rw [List.set_append_right _ _ (by omega), hl1, Nat.sub_self, List.set_cons_zero, List.append_assoc]; rfl
    rw [e] at r
    exact r
  · intro j hj
    rcases cs j hj with hj | rfl
    · rw [ev j hj, eq1 j hj]
      exact OwnR.kept (h'.d j hj) fun k hk => hset k fun e => h.n1 j hj (e ▸ hk)
    · rw [ev2, eq2]
      exact (hu.rebase hloh).kept fun k hk => hset k (by have := hul k hk; omega)
  · intro j hj
    rcases cs j hj with hj | rfl
    · rw [ev j hj, eq1 j hj]
      exact OwnR.kept (h'.l j hj) fun k hk => hset k fun e => h.n2 j hj (e ▸ hk)
    · rw [ev2, eq2]
      exact (hz.rebase hloh).kept fun k hk => hset k (by have := hzl k hk; omega)
  · intro j hj
    rcases cs j hj with hj | rfl
    · rw [ev j hj]; exact h.n1 j hj
    · rw [ev2]; intro e; have := hul g e; omega
  · intro j hj
    rcases cs j hj with hj | rfl
    · rw [ev j hj]; exact h.n2 j hj
    · rw [ev2]; intro e; have := hzl g e; omega
  · intro i j hi hj hne
    rcases cs i hi with hi | rfl <;> rcases cs j hj with hj | rfl
    · rw [ev i hi, ev j hj]; exact h.a1 i j hi hj hne
    · rw [ev i hi, ev2]; exact Apart.of_lt (dl i hi) hul
    · rw [ev j hj, ev2]; exact (Apart.of_lt (dl j hj) hul).symm
    · exact absurd rfl hne
  · intro i j hi hj hne
    rcases cs i hi with hi | rfl <;> rcases cs j hj with hj | rfl
    · rw [ev i hi, ev j hj]; exact h.a2 i j hi hj hne
    · rw [ev i hi, ev2]; exact Apart.of_lt (ll i hi) hzl
    · rw [ev j hj, ev2]; exact (Apart.of_lt (ll j hj) hzl).symm
    · exact absurd rfl hne
  · intro i j hi hj
    rcases cs i hi with hi | rfl <;> rcases cs j hj with hj | rfl
    · rw [ev i hi, ev j hj]; exact h.a3 i j hi hj
    · rw [ev i hi, ev2]; exact Apart.of_lt (dl i hi) hzl
    · rw [ev j hj, ev2]; exact (Apart.of_lt (ll j hj) hul).symm
    · rw [ev2]; exact ha

def MkQcP (qs : List Rq) (lo hi m g o c : Nat) (vs : List (Value × Value)) (w : World) (e : Ending) (w' : World) : Prop := e = .returned (.int .i64 ((m + sumG wQ qs : Nat) : Int)) ∧ QcO w' lo g o c qs.length (markQ m qs) vs [] ∧ Bt lo hi w w'
set_option maxRecDepth 8000 in
set_option maxHeartbeats 16000000 in
theorem markReqsC_any (qs : List Rq) (lo hi m g o c : Nat) (vs : List (Value × Value)) (w : World) (hcn : qs.length ≤ c) (hcm : c ≤ 9223372036854775807) (h : QcO w lo g o c qs.length qs vs []) (hb : QsB hi g qs.length vs) (hlen : qs.length ≤ 1048576) (hm : m + sumG wQ qs ≤ 1152921504606846976) :
    Calls Try.prog 50 #[.slice (some ⟨g, o, none⟩) qs.length c, .int .i64 m] w (MkQcP qs lo hi m g o c vs w) := by
  have H := hid h; have HM := hid hm; have HH := hid hb
  have hz0 := hid (partG_zero mk1Q wQ m qs)
  clear h hm hb
  go_enter Try.func50, Try.ntmps50
  go_wp2_with fail
  go_loopw [1, 5] (fun m' i wr => ∃ k : Nat, k ≤ qs.length ∧ m' = .int .i64 ((m + sumG wQ (qs.take k) : Nat) : Int) ∧ i = .int .i64 k ∧ QcO wr lo g o c qs.length (partG mk1Q wQ m qs k) vs [] ∧ Bt lo hi w wr) (fun _ i _ => qs.length - (intOf i).toNat)
  case atStart => exact ⟨0, Nat.zero_le _, by simp [sumG], rfl, by rw [hz0.out]; exact H.out, Bt.refl _ _ _⟩
  case round =>
    obtain ⟨k, hk, rfl, rfl, hro, hbt⟩ := hrel
    have HR := hid hro; have HB := hid hbt
    clear hro hbt
    have hpl : (partG mk1Q wQ m qs k).length = qs.length := partG_len ..
    have HPL := hid hpl
    clear hpl
    by_cases hlt : k < qs.length
    · obtain ⟨mk, hmk⟩ : ∃ mk, mk = m + sumG wQ (qs.take k) := ⟨_, rfl⟩
      obtain ⟨x, hx⟩ : ∃ x, x = qs.getD k default := ⟨_, rfl⟩
      have hwx : wQ x = 5 + x.data.length + x.lanes.length := rfl
      have HNX := hid (show m + sumG wQ (qs.take (k + 1)) = mk + (5 + x.data.length + x.lanes.length) by rw [sumG_snoc wQ hlt default, hmk, ← hx, hwx]; omega)
      have hmb : mk + (5 + x.data.length + x.lanes.length) ≤ 1152921504606846976 := by
        have := sumG_take_le wQ qs (k + 1); have := HM.out; have := HNX.out; omega
      have hgx := partG_get mk1Q wQ m (Nat.le_refl k) hlt default
      rw [← hx] at hgx
      obtain ⟨p, hp⟩ : ∃ p, p = vs.getD k default := ⟨_, rfl⟩
      have hkp : k < (partG mk1Q wQ m qs k).length := by rw [HPL.out]; exact hlt
      have hrow := HR.out.rows
      rw [List.append_nil] at hrow
      have hkz : k < (zipQ (partG mk1Q wQ m qs k) vs).length := by rw [zipQ_len HR.out.len]; exact hkp
      have hgz : (zipQ (partG mk1Q wQ m qs k) vs).getD k zQ = (x, p) := by rw [zipQ_get HR.out.len hkp, hgx, hp]
      have c0 := hrow.cellAt rowQ_len k 0 zQ hkz (by omega)
      have c1 := hrow.cellAt rowQ_len k 1 zQ hkz (by omega)
      have c2 := hrow.cellAt rowQ_len k 2 zQ hkz (by omega)
      have c3 := hrow.cellAt rowQ_len k 3 zQ hkz (by omega)
      have c4 := hrow.cellAt rowQ_len k 4 zQ hkz (by omega)
      have c5 := hrow.cellAt rowQ_len k 5 zQ hkz (by omega)
      rw [hgz] at c0 c1 c2 c3 c4 c5
      simp only [rowQ, Nat.add_zero, Nat.zero_add, List.getElem?_cons_zero, List.getElem?_cons_succ] at c0 c1 c2 c3 c4 c5
      have f0 := hrow.frozenAt (o + k * 7); have f1 := hrow.frozenAt (o + k * 7 + 1); have f2 := hrow.frozenAt (o + k * 7 + 2); have f3 := hrow.frozenAt (o + k * 7 + 3); have f4 := hrow.frozenAt (o + k * 7 + 4)
      have hgl := (OwnR.lt hrow g rfl).2
      have hge := (OwnR.lt hrow g rfl).1
      have hk1 : ∀ y, k < ((zipQ (partG mk1Q wQ m qs k) vs).set k y).length := fun y => by simpa using hkz
      have hg1 : ∀ y, ((zipQ (partG mk1Q wQ m qs k) vs).set k y).getD k zQ = y := fun y => getD_set_eq hkz y zQ
      have r1 := hrow.putRow rowQ_len k 0 zQ (⟨(mk : Int), x.kind, x.addr, x.many, x.wrap, [], []⟩, p) (.int .i64 (mk : Int)) hkz (by omega) (by rw [hgz]; rfl)
      have r2 := r1.putRow rowQ_len k 1 zQ (⟨(mk : Int), ((mk + 1 : Nat) : Int), x.addr, x.many, x.wrap, [], []⟩, p) (.int .i64 ((mk + 1 : Nat) : Int)) (hk1 _) (by omega) (by rw [hg1]; rfl)
      rw [List.set_set] at r2
      have r3 := r2.putRow rowQ_len k 2 zQ (⟨(mk : Int), ((mk + 1 : Nat) : Int), ((mk + 2 : Nat) : Int), x.many, x.wrap, [], []⟩, p) (.int .i64 ((mk + 2 : Nat) : Int)) (hk1 _) (by omega) (by rw [hg1]; rfl)
      rw [List.set_set] at r3
      have r4 := r3.putRow rowQ_len k 3 zQ (⟨(mk : Int), ((mk + 1 : Nat) : Int), ((mk + 2 : Nat) : Int), ((mk + 3 : Nat) : Int), x.wrap, [], []⟩, p) (.int .i64 ((mk + 3 : Nat) : Int)) (hk1 _) (by omega) (by rw [hg1]; rfl)
      rw [List.set_set] at r4
      have r5 := r4.putRow rowQ_len k 4 zQ (mk1Q mk x, p) (.bool (((mk + 4 : Nat) : Int).tmod 3 == 0)) (hk1 _) (by omega) (by rw [hg1]; rfl)
      rw [List.set_set, hp, zipQ_set HR.out.len hkp] at r5
      have e3 : (partG mk1Q wQ m qs k).set k (mk1Q mk x) = partG mk1Q wQ m qs (k + 1) := by rw [hmk, hx]; exact partG_set mk1Q wQ m hlt default
      rw [e3] at r5
      simp only [Nat.add_zero, Nat.zero_add] at r5
      have HR5 := hid r5; have HE3 := hid e3
      have hne1 := HR.out.n1 k hkp; have hne2 := HR.out.n2 k hkp
      have hd0 := HR.out.d k hkp; have hl0 := HR.out.l k hkp
      rw [hgx, ← hp] at hd0 hl0
      rw [← hp] at hne1 hne2
      have hap := HR.out.a3 k k hkp hkp
      rw [← hp] at hap
      obtain ⟨W5, hW5⟩ : ∃ W5, W5 = ((((wr.setCell ⟨g, o + k * 7, none⟩ (.int .i64 (mk : Int))).setCell ⟨g, o + k * 7 + 1, none⟩ (.int .i64 ((mk + 1 : Nat) : Int))).setCell ⟨g, o + k * 7 + 2, none⟩ (.int .i64 ((mk + 2 : Nat) : Int))).setCell ⟨g, o + k * 7 + 3, none⟩ (.int .i64 ((mk + 3 : Nat) : Int))).setCell ⟨g, o + k * 7 + 4, none⟩ (.bool (((mk + 4 : Nat) : Int).tmod 3 == 0)) := ⟨_, rfl⟩
      have hset : ∀ i, i ≠ g → W5.heap[i]? = wr.heap[i]? := fun i hi => by
        rw [hW5, Below.heap_setCell _ _ _ _ hi, Below.heap_setCell _ _ _ _ hi, Below.heap_setCell _ _ _ _ hi, Below.heap_setCell _ _ _ _ hi, Below.heap_setCell _ _ _ _ hi]
      have HSET := hid hset
      have HB5 := hid (show Bt lo hi w W5 from by
        rw [hW5]
        exact ((((HB.out.set (p := ⟨g, o + k * 7, none⟩) hge HH.out.g _).set (p := ⟨g, o + k * 7 + 1, none⟩) hge HH.out.g _).set (p := ⟨g, o + k * 7 + 2, none⟩) hge HH.out.g _).set (p := ⟨g, o + k * 7 + 3, none⟩) hge HH.out.g _).set (p := ⟨g, o + k * 7 + 4, none⟩) hge HH.out.g _)
      rw [← hW5] at HR5
      have HD1 := hid (OwnR.kept hd0 fun i hi => hset i fun e => hne1 (e ▸ hi) : Owns W5 lo 3 1 rowI p.1 x.data)
      have HL1 := hid (OwnR.kept hl0 fun i hi => hset i fun e => hne2 (e ▸ hi) : Owns W5 lo 3 1 rowI p.2 x.lanes)
      obtain ⟨u, z⟩ := p
      simp only at HD1 HL1 hne1 hne2 hd0 hl0 hap c5
      obtain ⟨qa, qc, rfl, _, _⟩ := hd0.shape
      obtain ⟨la, lc, rfl, _, _⟩ := hl0.shape
      have HN1 := hid hne1; have HN2 := hid hne2; have HP := hid hp; have HAP := hid hap
      have hc5 : W5.cell? ⟨g, o + k * 7 + 5, none⟩ = some (.slice qa x.data.length qc) := by rw [hW5]; simp [go_sem, c5]
      have hg5 : g < W5.heap.size := (OwnR.lt HR5.out g rfl).2
      rw [← hmk]
      have HMK := hid hmk; have HXX := hid hx; have HW5 := hid hW5; have HGX := hid hgx
      clear r1 r2 r3 r4 r5 e3 hd0 hl0 hgx hwx hmk hx hne1 hne2 hp hset hrow hkz hgz hk1 hg1 hap hge hW5 hc5 hg5
      go_wp2_with fail
      refine at_world (fun W => W = W5) (by
        have ht : ((mk + 4 : Nat) : Int).tmod 3 = ((mk : Int) + 1 + 1 + 1 + 1) % 3 := by
          rw [Int.tmod_eq_emod_of_nonneg (by omega)]; congr 1
        have e1 : ((mk + 1 : Nat) : Int) = (mk : Int) + 1 := by omega
        have e2 : ((mk + 2 : Nat) : Int) = (mk : Int) + 1 + 1 := by omega
        have e3 : ((mk + 3 : Nat) : Int) = (mk : Int) + 1 + 1 + 1 := by omega
        rw [HW5.out, ht, e1, e2, e3]) ?_
      rintro W6 h6
      rw [h6]
      clear h6 W6
      refine (markI_any _ x.data (mk + 5) lo _ HD1.out (by omega)).mono ?_
      rintro e w2 ⟨rfl, hmk2⟩
      have HK2 := hid hmk2
      clear hmk2
      have HR6 := hid (HK2.out.other HR5.out (fun j hj1 hj2 => by simp only [Value.ownBlock, Option.some.injEq] at hj1; subst hj1; exact HN1.out hj2))
      have HL2 := hid (HK2.out.other HL1.out HAP.out.symm)
      have hkz : k < (zipQ (partG mk1Q wQ m qs (k + 1)) vs).length := by rw [zipQ_len (by rw [partG_len, ← HPL.out]; exact HR.out.len), partG_len]; exact hlt
      have c6 := HR6.out.cellAt rowQ_len k 6 zQ hkz (by omega)
      have hgz : (zipQ (partG mk1Q wQ m qs (k + 1)) vs).getD k zQ = (mk1Q mk x, (Value.slice qa x.data.length qc, Value.slice la x.lanes.length lc)) := by
        rw [zipQ_get (by rw [partG_len, ← HPL.out]; exact HR.out.len) (by rw [partG_len]; exact hlt), ← HP.out, ← HE3.out, getD_set_eq hkp]
      rw [hgz] at c6
      simp only [rowQ, Nat.zero_add, List.getElem?_cons_zero, List.getElem?_cons_succ] at c6
      have hgl2 : g < w2.heap.size := (OwnR.lt HR6.out g rfl).2
      clear hkz hgz c0 c1 c2 c3 c4 c5 f0 f1 f2 f3 f4
      go_wp2_with fail
      refine (markI_any _ x.lanes (mk + 5 + x.data.length) lo _ HL2.out (by omega)).mono ?_
      rintro e w3 ⟨rfl, hmk3⟩
      have HK3 := hid hmk3
      clear hmk3 c6
      have HBN := hid (show Bt lo hi w w3 from (HB5.out.trans (HK2.out.bt (fun j hj => ⟨(OwnR.lt HD1.out j hj).1, HH.out.d k hlt j (by rw [← HP.out]; exact hj)⟩))).trans (HK3.out.bt (fun j hj => ⟨(OwnR.lt HL2.out j hj).1, HH.out.l k hlt j (by rw [← HP.out]; exact hj)⟩)))
      have keep : ∀ (i : Nat), i ≠ g → (Value.slice qa x.data.length qc).ownBlock ≠ some i → (Value.slice la x.lanes.length lc).ownBlock ≠ some i → i < wr.heap.size → w3.heap[i]? = wr.heap[i]? := fun i h1 h2 h3 h4 => by
        have hs5 : W5.heap.size = wr.heap.size := by rw [HW5.out]; simp [World.setCell]
        rw [HK3.out.keep i (by rw [HK2.out.size, hs5]; exact h4) h3, HK2.out.keep i (by rw [hs5]; exact h4) h2, HSET.out i h1]
      have KEEP := hid keep
      have HRN := hid (show QcO w3 lo g o c qs.length (partG mk1Q wQ m qs (k + 1)) vs [] from by
        have hle := HR.out
        have el : (partG mk1Q wQ m qs (k + 1)).length = (partG mk1Q wQ m qs k).length := by rw [partG_len, HPL.out]
        refine ⟨by rw [el]; exact hle.len, by rw [partG_len]; rfl, ?_, fun j hj => ?_, fun j hj => ?_, by rw [el]; exact hle.n1, by rw [el]; exact hle.n2, by rw [el]; exact hle.a1, by rw [el]; exact hle.a2, by rw [el]; exact hle.a3⟩
        · rw [List.append_nil]
          exact HK3.out.other HR6.out (fun j hj1 hj2 => by simp only [Value.ownBlock, Option.some.injEq] at hj1; subst hj1; exact HN2.out hj2)
        · rw [el] at hj
          rw [← HE3.out]
          by_cases e : j = k
          · subst e
            rw [getD_set_eq hkp, ← HP.out]
            exact HK3.out.other HK2.out.own HAP.out
          · rw [getD_set_ne' e]
            refine OwnR.kept (hle.d j hj) fun i hi => KEEP.out i (fun e => hle.n1 j hj (e ▸ hi)) (fun e2 => ?_) (fun e2 => ?_) (OwnR.lt (hle.d j hj) i hi).2
            · have := hle.a1 j k hj hkp e; rw [← HP.out] at this; exact this i hi e2
            · have := hle.a3 j k hj hkp; rw [← HP.out] at this; exact this i hi e2
        · rw [el] at hj
          rw [← HE3.out]
          by_cases e : j = k
          · subst e
            rw [getD_set_eq hkp, ← HP.out]
            exact HK3.out.own
          · rw [getD_set_ne' e]
            refine OwnR.kept (hle.l j hj) fun i hi => KEEP.out i (fun e => hle.n2 j hj (e ▸ hi)) (fun e2 => ?_) (fun e2 => ?_) (OwnR.lt (hle.l j hj) i hi).2
            · have := hle.a3 k j hkp hj; rw [← HP.out] at this; exact this i e2 hi
            · have := hle.a2 j k hj hkp e; rw [← HP.out] at this; exact this i hi e2)
      go_wp2_with fail
      go_roundw
      case rel => exact ⟨k + 1, by omega, by rw [HNX.out]; go_num, by go_num, HRN.out, HBN.out⟩
      case measure => simp [intOf]; omega
    · obtain rfl : k = qs.length := by omega
      have he := hid (show sumG wQ (qs.take qs.length) = sumG wQ qs by rw [List.take_length])
      rw [partG_all] at HR
      rw [he.out]
      go_wp2_with fail
      go_ret
      exact ⟨rfl, HR.out, HB.out⟩


end Go.Proofs.Yteamebdehembgaa
