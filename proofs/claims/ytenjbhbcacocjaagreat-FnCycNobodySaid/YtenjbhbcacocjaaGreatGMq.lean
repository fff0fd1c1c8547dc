/- What the slices hold behind each change of a bus (printed by wip/gen_mq.py). -/
import Derived.Test.YtenjbhbcacocjaaGreatGMc
set_option linter.unusedVariables false
set_option linter.unusedSimpArgs false
namespace Go.Proofs.YtenjbhbcacocjaaGreat
open Go.RowKit
theorem Cont.queue {st:Cy} {ev:List Ev} {V:Nat → Value} {N:Nat → Nat} {C:Nat → List Value} {D:Nat → List TJV} (h:Cont st ev V N C D) {w:Nat} (hw:w < 3) (v:Value) (x:List Nat)  :
    Cont { st with ports:=upd st.ports w { st.ports w with queue:=x } } ev (upd V (5 + w) v) (upd N (5 + w) x.length) (upd (upd C (5 + w) (x.flatMap rowN)) 2 ((C 2).set (w * 4 + 1) v)) D:=by
  have uV:∀ i,i ≠ 5 + w → (upd V (5 + w) v) i = V i:=fun i hi => upd_other _ _ hi
  have uN:∀ i,i ≠ 5 + w → (upd N (5 + w) x.length) i = N i:=fun i hi => upd_other _ _ hi
  have uC:∀ i,i ≠ 5 + w → i ≠ 2 → (upd (upd C (5 + w) (x.flatMap rowN)) 2 ((C 2).set (w * 4 + 1) v)) i = C i:=fun i hi hj => by rw [upd_other _ _ hj,upd_other _ _ hi]
  exact {
    n0:=by rw [uN (0) (by omega)];exact h.n0
    c0:=by rw [uC (0) (by omega) (by omega)];exact h.c0
    n1:=by rw [uN (1) (by omega)];exact h.n1
    c1:=by rw [uC (1) (by omega) (by omega)];exact h.c1
    n2:=by rw [uN (2) (by omega)];exact h.n2
    c2:=by
      rw [upd_same,h.c2]
      rcases (show w = 0 ∨ w = 1 ∨ w = 2 by omega) with rfl | rfl | rfl <;> simp [upd,ptRow,svRow]
    n3:=by rw [uN (3) (by omega)];exact h.n3
    c3:=by rw [uC (3) (by omega) (by omega)];rw [h.c3];exact (by simp only [ptRow,svRow];repeat rw [uV _ (by omega)])
    n4:=by rw [uN (4) (by omega)];exact h.n4
    c4:=by rw [uC (4) (by omega) (by omega)];exact h.c4
    t4:=by exact h.t4
    nq:=fun i hi => by
      by_cases e:i = w
      · subst e;simp [upd]
      · rw [uN _ (by omega)];show _ = (upd st.ports w { st.ports w with queue:=x } i).queue.length;rw [upd_other _ _ e];exact h.nq i hi
    cq:=fun i hi => by
      by_cases e:i = w
      · subst e;rw [upd_other _ _ (show 5 + i ≠ 2 by omega),upd_same];simp [upd]
      · rw [uC _ (by omega) (by omega)];show _ = (upd st.ports w { st.ports w with queue:=x } i).queue.flatMap rowN;rw [upd_other _ _ e];exact h.cq i hi
    no:=fun i hi => by show _ = (upd st.ports w { st.ports w with queue:=x } i).out.length;rw [show (upd st.ports w { st.ports w with queue:=x } i).out = (st.ports i).out from by unfold upd;split <;> simp [*]];rw [uN (8 + i) (by omega)];exact h.no i hi
    co:=fun i hi => by show _ = (upd st.ports w { st.ports w with queue:=x } i).out.flatMap jbRow;rw [show (upd st.ports w { st.ports w with queue:=x } i).out = (st.ports i).out from by unfold upd;split <;> simp [*]];rw [uC (8 + i) (by omega) (by omega)];exact h.co i hi
    np:=fun i hi => by rw [uN (11 + i) (by omega)];exact h.np i hi
    cp:=fun i hi => by rw [uC (11 + i) (by omega) (by omega)];exact h.cp i hi
    nd:=fun i hi => by rw [uN (15 + i) (by omega)];exact h.nd i hi
    cd:=fun i hi => by rw [uC (15 + i) (by omega) (by omega)];exact h.cd i hi
    td:=fun i hi => by exact h.td i hi
    ne:=by rw [uN (19) (by omega)];exact h.ne
    ce:=by rw [uC (19) (by omega) (by omega)];exact h.ce }
theorem Cont.out {st:Cy} {ev:List Ev} {V:Nat → Value} {N:Nat → Nat} {C:Nat → List Value} {D:Nat → List TJV} (h:Cont st ev V N C D) {w:Nat} (hw:w < 3) (v:Value) (x:List Jb)  :
    Cont { st with ports:=upd st.ports w { st.ports w with out:=x } } ev (upd V (8 + w) v) (upd N (8 + w) x.length) (upd (upd C (8 + w) (x.flatMap jbRow)) 2 ((C 2).set (w * 4 + 2) v)) D:=by
  have uV:∀ i,i ≠ 8 + w → (upd V (8 + w) v) i = V i:=fun i hi => upd_other _ _ hi
  have uN:∀ i,i ≠ 8 + w → (upd N (8 + w) x.length) i = N i:=fun i hi => upd_other _ _ hi
  have uC:∀ i,i ≠ 8 + w → i ≠ 2 → (upd (upd C (8 + w) (x.flatMap jbRow)) 2 ((C 2).set (w * 4 + 2) v)) i = C i:=fun i hi hj => by rw [upd_other _ _ hj,upd_other _ _ hi]
  exact {
    n0:=by rw [uN (0) (by omega)];exact h.n0
    c0:=by rw [uC (0) (by omega) (by omega)];exact h.c0
    n1:=by rw [uN (1) (by omega)];exact h.n1
    c1:=by rw [uC (1) (by omega) (by omega)];exact h.c1
    n2:=by rw [uN (2) (by omega)];exact h.n2
    c2:=by
      rw [upd_same,h.c2]
      rcases (show w = 0 ∨ w = 1 ∨ w = 2 by omega) with rfl | rfl | rfl <;> simp [upd,ptRow,svRow]
    n3:=by rw [uN (3) (by omega)];exact h.n3
    c3:=by rw [uC (3) (by omega) (by omega)];rw [h.c3];exact (by simp only [ptRow,svRow];repeat rw [uV _ (by omega)])
    n4:=by rw [uN (4) (by omega)];exact h.n4
    c4:=by rw [uC (4) (by omega) (by omega)];exact h.c4
    t4:=by exact h.t4
    nq:=fun i hi => by show _ = (upd st.ports w { st.ports w with out:=x } i).queue.length;rw [show (upd st.ports w { st.ports w with out:=x } i).queue = (st.ports i).queue from by unfold upd;split <;> simp [*]];rw [uN (5 + i) (by omega)];exact h.nq i hi
    cq:=fun i hi => by show _ = (upd st.ports w { st.ports w with out:=x } i).queue.flatMap rowN;rw [show (upd st.ports w { st.ports w with out:=x } i).queue = (st.ports i).queue from by unfold upd;split <;> simp [*]];rw [uC (5 + i) (by omega) (by omega)];exact h.cq i hi
    no:=fun i hi => by
      by_cases e:i = w
      · subst e;simp [upd]
      · rw [uN _ (by omega)];show _ = (upd st.ports w { st.ports w with out:=x } i).out.length;rw [upd_other _ _ e];exact h.no i hi
    co:=fun i hi => by
      by_cases e:i = w
      · subst e;rw [upd_other _ _ (show 8 + i ≠ 2 by omega),upd_same];simp [upd]
      · rw [uC _ (by omega) (by omega)];show _ = (upd st.ports w { st.ports w with out:=x } i).out.flatMap jbRow;rw [upd_other _ _ e];exact h.co i hi
    np:=fun i hi => by rw [uN (11 + i) (by omega)];exact h.np i hi
    cp:=fun i hi => by rw [uC (11 + i) (by omega) (by omega)];exact h.cp i hi
    nd:=fun i hi => by rw [uN (15 + i) (by omega)];exact h.nd i hi
    cd:=fun i hi => by rw [uC (15 + i) (by omega) (by omega)];exact h.cd i hi
    td:=fun i hi => by exact h.td i hi
    ne:=by rw [uN (19) (by omega)];exact h.ne
    ce:=by rw [uC (19) (by omega) (by omega)];exact h.ce }
theorem Cont.pipe {st:Cy} {ev:List Ev} {V:Nat → Value} {N:Nat → Nat} {C:Nat → List Value} {D:Nat → List TJV} (h:Cont st ev V N C D) {s:Nat} (hs:s < 4) (v:Value) (x:List Jb)  :
    Cont { st with slaves:=upd st.slaves s { st.slaves s with pipe:=x } } ev (upd V (11 + s) v) (upd N (11 + s) x.length) (upd (upd C (11 + s) (x.flatMap jbRow)) 3 ((C 3).set (s * 3 + 0) v)) D:=by
  have uV:∀ i,i ≠ 11 + s → (upd V (11 + s) v) i = V i:=fun i hi => upd_other _ _ hi
  have uN:∀ i,i ≠ 11 + s → (upd N (11 + s) x.length) i = N i:=fun i hi => upd_other _ _ hi
  have uC:∀ i,i ≠ 11 + s → i ≠ 3 → (upd (upd C (11 + s) (x.flatMap jbRow)) 3 ((C 3).set (s * 3 + 0) v)) i = C i:=fun i hi hj => by rw [upd_other _ _ hj,upd_other _ _ hi]
  exact {
    n0:=by rw [uN (0) (by omega)];exact h.n0
    c0:=by rw [uC (0) (by omega) (by omega)];exact h.c0
    n1:=by rw [uN (1) (by omega)];exact h.n1
    c1:=by rw [uC (1) (by omega) (by omega)];exact h.c1
    n2:=by rw [uN (2) (by omega)];exact h.n2
    c2:=by rw [uC (2) (by omega) (by omega)];rw [h.c2];exact (by simp only [ptRow,svRow];repeat rw [uV _ (by omega)])
    n3:=by rw [uN (3) (by omega)];exact h.n3
    c3:=by
      rw [upd_same,h.c3]
      rcases (show s = 0 ∨ s = 1 ∨ s = 2 ∨ s = 3 by omega) with rfl | rfl | rfl | rfl <;> simp [upd,ptRow,svRow]
    n4:=by rw [uN (4) (by omega)];exact h.n4
    c4:=by rw [uC (4) (by omega) (by omega)];exact h.c4
    t4:=by exact h.t4
    nq:=fun i hi => by rw [uN (5 + i) (by omega)];exact h.nq i hi
    cq:=fun i hi => by rw [uC (5 + i) (by omega) (by omega)];exact h.cq i hi
    no:=fun i hi => by rw [uN (8 + i) (by omega)];exact h.no i hi
    co:=fun i hi => by rw [uC (8 + i) (by omega) (by omega)];exact h.co i hi
    np:=fun i hi => by
      by_cases e:i = s
      · subst e;simp [upd]
      · rw [uN _ (by omega)];show _ = (upd st.slaves s { st.slaves s with pipe:=x } i).pipe.length;rw [upd_other _ _ e];exact h.np i hi
    cp:=fun i hi => by
      by_cases e:i = s
      · subst e;rw [upd_other _ _ (show 11 + i ≠ 3 by omega),upd_same];simp [upd]
      · rw [uC _ (by omega) (by omega)];show _ = (upd st.slaves s { st.slaves s with pipe:=x } i).pipe.flatMap jbRow;rw [upd_other _ _ e];exact h.cp i hi
    nd:=fun i hi => by show _ = (upd st.slaves s { st.slaves s with pipe:=x } i).done.length;rw [show (upd st.slaves s { st.slaves s with pipe:=x } i).done = (st.slaves i).done from by unfold upd;split <;> simp [*]];rw [uN (15 + i) (by omega)];exact h.nd i hi
    cd:=fun i hi => by rw [uC (15 + i) (by omega) (by omega)];exact h.cd i hi
    td:=fun i hi => by show _ = (upd st.slaves s { st.slaves s with pipe:=x } i).done;rw [show (upd st.slaves s { st.slaves s with pipe:=x } i).done = (st.slaves i).done from by unfold upd;split <;> simp [*]];exact h.td i hi
    ne:=by rw [uN (19) (by omega)];exact h.ne
    ce:=by rw [uC (19) (by omega) (by omega)];exact h.ce }
theorem Cont.done {st:Cy} {ev:List Ev} {V:Nat → Value} {N:Nat → Nat} {C:Nat → List Value} {D:Nat → List TJV} (h:Cont st ev V N C D) {s:Nat} (hs:s < 4) (v:Value) (X:List TJV)  :
    Cont { st with slaves:=upd st.slaves s { st.slaves s with done:=X.map (·.1) } } ev (upd V (15 + s) v) (upd N (15 + s) X.length) (upd (upd C (15 + s) (X.flatMap tjRow)) 3 ((C 3).set (s * 3 + 1) v)) (upd D (15 + s) X):=by
  have uV:∀ i,i ≠ 15 + s → (upd V (15 + s) v) i = V i:=fun i hi => upd_other _ _ hi
  have uN:∀ i,i ≠ 15 + s → (upd N (15 + s) X.length) i = N i:=fun i hi => upd_other _ _ hi
  have uC:∀ i,i ≠ 15 + s → i ≠ 3 → (upd (upd C (15 + s) (X.flatMap tjRow)) 3 ((C 3).set (s * 3 + 1) v)) i = C i:=fun i hi hj => by rw [upd_other _ _ hj,upd_other _ _ hi]
  have uD:∀ i,i ≠ 15 + s → (upd D (15 + s) X) i = D i:=fun i hi => upd_other _ _ hi
  exact {
    n0:=by rw [uN (0) (by omega)];exact h.n0
    c0:=by rw [uC (0) (by omega) (by omega)];exact h.c0
    n1:=by rw [uN (1) (by omega)];exact h.n1
    c1:=by rw [uC (1) (by omega) (by omega)];exact h.c1
    n2:=by rw [uN (2) (by omega)];exact h.n2
    c2:=by rw [uC (2) (by omega) (by omega)];rw [h.c2];exact (by simp only [ptRow,svRow];repeat rw [uV _ (by omega)])
    n3:=by rw [uN (3) (by omega)];exact h.n3
    c3:=by
      rw [upd_same,h.c3]
      rcases (show s = 0 ∨ s = 1 ∨ s = 2 ∨ s = 3 by omega) with rfl | rfl | rfl | rfl <;> simp [upd,ptRow,svRow]
    n4:=by rw [uN (4) (by omega)];exact h.n4
    c4:=by rw [uD (4) (by omega)];rw [uC (4) (by omega) (by omega)];exact h.c4
    t4:=by rw [uD (4) (by omega)];exact h.t4
    nq:=fun i hi => by rw [uN (5 + i) (by omega)];exact h.nq i hi
    cq:=fun i hi => by rw [uC (5 + i) (by omega) (by omega)];exact h.cq i hi
    no:=fun i hi => by rw [uN (8 + i) (by omega)];exact h.no i hi
    co:=fun i hi => by rw [uC (8 + i) (by omega) (by omega)];exact h.co i hi
    np:=fun i hi => by show _ = (upd st.slaves s { st.slaves s with done:=X.map (·.1) } i).pipe.length;rw [show (upd st.slaves s { st.slaves s with done:=X.map (·.1) } i).pipe = (st.slaves i).pipe from by unfold upd;split <;> simp [*]];rw [uN (11 + i) (by omega)];exact h.np i hi
    cp:=fun i hi => by show _ = (upd st.slaves s { st.slaves s with done:=X.map (·.1) } i).pipe.flatMap jbRow;rw [show (upd st.slaves s { st.slaves s with done:=X.map (·.1) } i).pipe = (st.slaves i).pipe from by unfold upd;split <;> simp [*]];rw [uC (11 + i) (by omega) (by omega)];exact h.cp i hi
    nd:=fun i hi => by
      by_cases e:i = s
      · subst e;simp [upd]
      · rw [uN _ (by omega)];show _ = (upd st.slaves s { st.slaves s with done:=X.map (·.1) } i).done.length;rw [upd_other _ _ e];exact h.nd i hi
    cd:=fun i hi => by
      by_cases e:i = s
      · subst e;rw [upd_other _ _ (show 15 + i ≠ 3 by omega),upd_same,upd_same]
      · rw [uC _ (by omega) (by omega),uD _ (by omega)];exact h.cd i hi
    td:=fun i hi => by
      by_cases e:i = s
      · subst e;simp [upd]
      · rw [uD _ (by omega)];show _ = (upd st.slaves s { st.slaves s with done:=X.map (·.1) } i).done;rw [upd_other _ _ e];exact h.td i hi
    ne:=by rw [uN (19) (by omega)];exact h.ne
    ce:=by rw [uC (19) (by omega) (by omega)];exact h.ce }
theorem Cont.told {st:Cy} {ev:List Ev} {V:Nat → Value} {N:Nat → Nat} {C:Nat → List Value} {D:Nat → List TJV} (h:Cont st ev V N C D) (v:Value) (X:List TJV)  :
    Cont { st with told:=X.map (·.1) } ev (upd V (4) v) (upd N (4) X.length) (upd C (4) (X.flatMap tjRow)) (upd D 4 X):=by
  have uV:∀ i,i ≠ 4 → (upd V (4) v) i = V i:=fun i hi => upd_other _ _ hi
  have uN:∀ i,i ≠ 4 → (upd N (4) X.length) i = N i:=fun i hi => upd_other _ _ hi
  have uC:∀ i,i ≠ 4 → (upd C (4) (X.flatMap tjRow)) i = C i:=fun i hi => upd_other _ _ hi
  have uD:∀ i,i ≠ 4 → (upd D 4 X) i = D i:=fun i hi => upd_other _ _ hi
  exact {
    n0:=by rw [uN (0) (by omega)];exact h.n0
    c0:=by rw [uC (0) (by omega)];exact h.c0
    n1:=by rw [uN (1) (by omega)];exact h.n1
    c1:=by rw [uC (1) (by omega)];exact h.c1
    n2:=by rw [uN (2) (by omega)];exact h.n2
    c2:=by rw [uC (2) (by omega)];rw [h.c2];exact (by simp only [ptRow,svRow];repeat rw [uV _ (by omega)])
    n3:=by rw [uN (3) (by omega)];exact h.n3
    c3:=by rw [uC (3) (by omega)];rw [h.c3];exact (by simp only [ptRow,svRow];repeat rw [uV _ (by omega)])
    n4:=by simp [upd]
    c4:=by rw [upd_same,upd_same]
    t4:=by rw [upd_same]
    nq:=fun i hi => by rw [uN (5 + i) (by omega)];exact h.nq i hi
    cq:=fun i hi => by rw [uC (5 + i) (by omega)];exact h.cq i hi
    no:=fun i hi => by rw [uN (8 + i) (by omega)];exact h.no i hi
    co:=fun i hi => by rw [uC (8 + i) (by omega)];exact h.co i hi
    np:=fun i hi => by rw [uN (11 + i) (by omega)];exact h.np i hi
    cp:=fun i hi => by rw [uC (11 + i) (by omega)];exact h.cp i hi
    nd:=fun i hi => by rw [uN (15 + i) (by omega)];exact h.nd i hi
    cd:=fun i hi => by rw [uD (15 + i) (by omega)];rw [uC (15 + i) (by omega)];exact h.cd i hi
    td:=fun i hi => by rw [uD (15 + i) (by omega)];exact h.td i hi
    ne:=by rw [uN (19) (by omega)];exact h.ne
    ce:=by rw [uC (19) (by omega)];exact h.ce }
theorem Cont.evts {st:Cy} {ev:List Ev} {V:Nat → Value} {N:Nat → Nat} {C:Nat → List Value} {D:Nat → List TJV} (h:Cont st ev V N C D) (v:Value) (e:List Ev)  :
    Cont st e (upd V (19) v) (upd N (19) e.length) (upd C (19) (e.flatMap evRow)) D:=by
  have uV:∀ i,i ≠ 19 → (upd V (19) v) i = V i:=fun i hi => upd_other _ _ hi
  have uN:∀ i,i ≠ 19 → (upd N (19) e.length) i = N i:=fun i hi => upd_other _ _ hi
  have uC:∀ i,i ≠ 19 → (upd C (19) (e.flatMap evRow)) i = C i:=fun i hi => upd_other _ _ hi
  exact {
    n0:=by rw [uN (0) (by omega)];exact h.n0
    c0:=by rw [uC (0) (by omega)];exact h.c0
    n1:=by rw [uN (1) (by omega)];exact h.n1
    c1:=by rw [uC (1) (by omega)];exact h.c1
    n2:=by rw [uN (2) (by omega)];exact h.n2
    c2:=by rw [uC (2) (by omega)];rw [h.c2];exact (by simp only [ptRow,svRow];repeat rw [uV _ (by omega)])
    n3:=by rw [uN (3) (by omega)];exact h.n3
    c3:=by rw [uC (3) (by omega)];rw [h.c3];exact (by simp only [ptRow,svRow];repeat rw [uV _ (by omega)])
    n4:=by rw [uN (4) (by omega)];exact h.n4
    c4:=by rw [uC (4) (by omega)];exact h.c4
    t4:=by exact h.t4
    nq:=fun i hi => by rw [uN (5 + i) (by omega)];exact h.nq i hi
    cq:=fun i hi => by rw [uC (5 + i) (by omega)];exact h.cq i hi
    no:=fun i hi => by rw [uN (8 + i) (by omega)];exact h.no i hi
    co:=fun i hi => by rw [uC (8 + i) (by omega)];exact h.co i hi
    np:=fun i hi => by rw [uN (11 + i) (by omega)];exact h.np i hi
    cp:=fun i hi => by rw [uC (11 + i) (by omega)];exact h.cp i hi
    nd:=fun i hi => by rw [uN (15 + i) (by omega)];exact h.nd i hi
    cd:=fun i hi => by rw [uC (15 + i) (by omega)];exact h.cd i hi
    td:=fun i hi => by exact h.td i hi
    ne:=by rw [upd_same]
    ce:=by rw [upd_same] }
theorem Cont.next {st:Cy} {ev:List Ev} {V:Nat → Value} {N:Nat → Nat} {C:Nat → List Value} {D:Nat → List TJV} (h:Cont st ev V N C D) {w:Nat} (hw:w < 3) (x:Nat)  :
    Cont { st with ports:=upd st.ports w { st.ports w with next:=x } } ev V N (upd C 2 ((C 2).set (w * 4 + 0) (.int .i64 (x:Nat)))) D:=by
  have uC:∀ i,i ≠ 2 → (upd C 2 ((C 2).set (w * 4 + 0) (.int .i64 (x:Nat)))) i = C i:=fun i hi => upd_other _ _ hi
  exact {
    n0:=by exact h.n0
    c0:=by rw [uC (0) (by omega)];exact h.c0
    n1:=by exact h.n1
    c1:=by rw [uC (1) (by omega)];exact h.c1
    n2:=by exact h.n2
    c2:=by
      rw [upd_same,h.c2]
      rcases (show w = 0 ∨ w = 1 ∨ w = 2 by omega) with rfl | rfl | rfl <;> simp [upd,ptRow,svRow]
    n3:=by exact h.n3
    c3:=by rw [uC (3) (by omega)];rw [h.c3]
    n4:=by exact h.n4
    c4:=by rw [uC (4) (by omega)];exact h.c4
    t4:=by exact h.t4
    nq:=fun i hi => by show _ = (upd st.ports w { st.ports w with next:=x } i).queue.length;rw [show (upd st.ports w { st.ports w with next:=x } i).queue = (st.ports i).queue from by unfold upd;split <;> simp [*]];exact h.nq i hi
    cq:=fun i hi => by show _ = (upd st.ports w { st.ports w with next:=x } i).queue.flatMap rowN;rw [show (upd st.ports w { st.ports w with next:=x } i).queue = (st.ports i).queue from by unfold upd;split <;> simp [*]];rw [uC (5 + i) (by omega)];exact h.cq i hi
    no:=fun i hi => by show _ = (upd st.ports w { st.ports w with next:=x } i).out.length;rw [show (upd st.ports w { st.ports w with next:=x } i).out = (st.ports i).out from by unfold upd;split <;> simp [*]];exact h.no i hi
    co:=fun i hi => by show _ = (upd st.ports w { st.ports w with next:=x } i).out.flatMap jbRow;rw [show (upd st.ports w { st.ports w with next:=x } i).out = (st.ports i).out from by unfold upd;split <;> simp [*]];rw [uC (8 + i) (by omega)];exact h.co i hi
    np:=fun i hi => by exact h.np i hi
    cp:=fun i hi => by rw [uC (11 + i) (by omega)];exact h.cp i hi
    nd:=fun i hi => by exact h.nd i hi
    cd:=fun i hi => by rw [uC (15 + i) (by omega)];exact h.cd i hi
    td:=fun i hi => by exact h.td i hi
    ne:=by exact h.ne
    ce:=by rw [uC (19) (by omega)];exact h.ce }
theorem Cont.plast {st:Cy} {ev:List Ev} {V:Nat → Value} {N:Nat → Nat} {C:Nat → List Value} {D:Nat → List TJV} (h:Cont st ev V N C D) {w:Nat} (hw:w < 3) (x:Nat)  :
    Cont { st with ports:=upd st.ports w { st.ports w with last:=x } } ev V N (upd C 2 ((C 2).set (w * 4 + 3) (.int .i64 (x:Nat)))) D:=by
  have uC:∀ i,i ≠ 2 → (upd C 2 ((C 2).set (w * 4 + 3) (.int .i64 (x:Nat)))) i = C i:=fun i hi => upd_other _ _ hi
  exact {
    n0:=by exact h.n0
    c0:=by rw [uC (0) (by omega)];exact h.c0
    n1:=by exact h.n1
    c1:=by rw [uC (1) (by omega)];exact h.c1
    n2:=by exact h.n2
    c2:=by
      rw [upd_same,h.c2]
      rcases (show w = 0 ∨ w = 1 ∨ w = 2 by omega) with rfl | rfl | rfl <;> simp [upd,ptRow,svRow]
    n3:=by exact h.n3
    c3:=by rw [uC (3) (by omega)];rw [h.c3]
    n4:=by exact h.n4
    c4:=by rw [uC (4) (by omega)];exact h.c4
    t4:=by exact h.t4
    nq:=fun i hi => by show _ = (upd st.ports w { st.ports w with last:=x } i).queue.length;rw [show (upd st.ports w { st.ports w with last:=x } i).queue = (st.ports i).queue from by unfold upd;split <;> simp [*]];exact h.nq i hi
    cq:=fun i hi => by show _ = (upd st.ports w { st.ports w with last:=x } i).queue.flatMap rowN;rw [show (upd st.ports w { st.ports w with last:=x } i).queue = (st.ports i).queue from by unfold upd;split <;> simp [*]];rw [uC (5 + i) (by omega)];exact h.cq i hi
    no:=fun i hi => by show _ = (upd st.ports w { st.ports w with last:=x } i).out.length;rw [show (upd st.ports w { st.ports w with last:=x } i).out = (st.ports i).out from by unfold upd;split <;> simp [*]];exact h.no i hi
    co:=fun i hi => by show _ = (upd st.ports w { st.ports w with last:=x } i).out.flatMap jbRow;rw [show (upd st.ports w { st.ports w with last:=x } i).out = (st.ports i).out from by unfold upd;split <;> simp [*]];rw [uC (8 + i) (by omega)];exact h.co i hi
    np:=fun i hi => by exact h.np i hi
    cp:=fun i hi => by rw [uC (11 + i) (by omega)];exact h.cp i hi
    nd:=fun i hi => by exact h.nd i hi
    cd:=fun i hi => by rw [uC (15 + i) (by omega)];exact h.cd i hi
    td:=fun i hi => by exact h.td i hi
    ne:=by exact h.ne
    ce:=by rw [uC (19) (by omega)];exact h.ce }
theorem Cont.slast {st:Cy} {ev:List Ev} {V:Nat → Value} {N:Nat → Nat} {C:Nat → List Value} {D:Nat → List TJV} (h:Cont st ev V N C D) {s:Nat} (hs:s < 4) (x:Nat)  :
    Cont { st with slaves:=upd st.slaves s { st.slaves s with last:=x } } ev V N (upd C 3 ((C 3).set (s * 3 + 2) (.int .i64 (x:Nat)))) D:=by
  have uC:∀ i,i ≠ 3 → (upd C 3 ((C 3).set (s * 3 + 2) (.int .i64 (x:Nat)))) i = C i:=fun i hi => upd_other _ _ hi
  exact {
    n0:=by exact h.n0
    c0:=by rw [uC (0) (by omega)];exact h.c0
    n1:=by exact h.n1
    c1:=by rw [uC (1) (by omega)];exact h.c1
    n2:=by exact h.n2
    c2:=by rw [uC (2) (by omega)];rw [h.c2]
    n3:=by exact h.n3
    c3:=by
      rw [upd_same,h.c3]
      rcases (show s = 0 ∨ s = 1 ∨ s = 2 ∨ s = 3 by omega) with rfl | rfl | rfl | rfl <;> simp [upd,ptRow,svRow]
    n4:=by exact h.n4
    c4:=by rw [uC (4) (by omega)];exact h.c4
    t4:=by exact h.t4
    nq:=fun i hi => by exact h.nq i hi
    cq:=fun i hi => by rw [uC (5 + i) (by omega)];exact h.cq i hi
    no:=fun i hi => by exact h.no i hi
    co:=fun i hi => by rw [uC (8 + i) (by omega)];exact h.co i hi
    np:=fun i hi => by show _ = (upd st.slaves s { st.slaves s with last:=x } i).pipe.length;rw [show (upd st.slaves s { st.slaves s with last:=x } i).pipe = (st.slaves i).pipe from by unfold upd;split <;> simp [*]];exact h.np i hi
    cp:=fun i hi => by show _ = (upd st.slaves s { st.slaves s with last:=x } i).pipe.flatMap jbRow;rw [show (upd st.slaves s { st.slaves s with last:=x } i).pipe = (st.slaves i).pipe from by unfold upd;split <;> simp [*]];rw [uC (11 + i) (by omega)];exact h.cp i hi
    nd:=fun i hi => by show _ = (upd st.slaves s { st.slaves s with last:=x } i).done.length;rw [show (upd st.slaves s { st.slaves s with last:=x } i).done = (st.slaves i).done from by unfold upd;split <;> simp [*]];exact h.nd i hi
    cd:=fun i hi => by rw [uC (15 + i) (by omega)];exact h.cd i hi
    td:=fun i hi => by show _ = (upd st.slaves s { st.slaves s with last:=x } i).done;rw [show (upd st.slaves s { st.slaves s with last:=x } i).done = (st.slaves i).done from by unfold upd;split <;> simp [*]];exact h.td i hi
    ne:=by exact h.ne
    ce:=by rw [uC (19) (by omega)];exact h.ce }
theorem Cont.pleft {st:Cy} {ev:List Ev} {V:Nat → Value} {N:Nat → Nat} {C:Nat → List Value} {D:Nat → List TJV} (h:Cont st ev V N C D) {s:Nat} (hs:s < 4) {j:Jb} {rest:List Jb} (hp:(st.slaves s).pipe = j :: rest) (x:Nat)  :
    Cont { st with slaves:=upd st.slaves s { st.slaves s with pipe:=⟨j.who,j.n,x⟩ :: rest } } ev V N (upd C (11 + s) ((C (11 + s)).set 2 (.int .i64 (x:Nat)))) D:=by
  have uC:∀ i,i ≠ (11 + s) → (upd C (11 + s) ((C (11 + s)).set 2 (.int .i64 (x:Nat)))) i = C i:=fun i hi => upd_other _ _ hi
  exact {
    n0:=by exact h.n0
    c0:=by rw [uC (0) (by omega)];exact h.c0
    n1:=by exact h.n1
    c1:=by rw [uC (1) (by omega)];exact h.c1
    n2:=by exact h.n2
    c2:=by rw [uC (2) (by omega)];rw [h.c2]
    n3:=by exact h.n3
    c3:=by rw [uC (3) (by omega)];rw [h.c3];rcases (show s = 0 ∨ s = 1 ∨ s = 2 ∨ s = 3 by omega) with rfl | rfl | rfl | rfl <;> simp [upd,svRow]
    n4:=by exact h.n4
    c4:=by rw [uC (4) (by omega)];exact h.c4
    t4:=by exact h.t4
    nq:=fun i hi => by exact h.nq i hi
    cq:=fun i hi => by rw [uC (5 + i) (by omega)];exact h.cq i hi
    no:=fun i hi => by exact h.no i hi
    co:=fun i hi => by rw [uC (8 + i) (by omega)];exact h.co i hi
    np:=fun i hi => by
      show _ = (upd st.slaves s { st.slaves s with pipe:=⟨j.who,j.n,x⟩ :: rest } i).pipe.length
      by_cases e:i = s
      · subst e;rw [upd_same,h.np i hi,hp];rfl
      · rw [upd_other _ _ e];exact h.np i hi
    cp:=fun i hi => by
      show _ = (upd st.slaves s { st.slaves s with pipe:=⟨j.who,j.n,x⟩ :: rest } i).pipe.flatMap jbRow
      by_cases e:i = s
      · subst e;rw [upd_same,upd_same,h.cp i hi,hp];simp [jbRow]
      · rw [uC _ (by omega),upd_other _ _ e];exact h.cp i hi
    nd:=fun i hi => by show _ = (upd st.slaves s { st.slaves s with pipe:=⟨j.who,j.n,x⟩ :: rest } i).done.length;rw [show (upd st.slaves s { st.slaves s with pipe:=⟨j.who,j.n,x⟩ :: rest } i).done = (st.slaves i).done from by unfold upd;split <;> simp [*]];exact h.nd i hi
    cd:=fun i hi => by rw [uC (15 + i) (by omega)];exact h.cd i hi
    td:=fun i hi => by show _ = (upd st.slaves s { st.slaves s with pipe:=⟨j.who,j.n,x⟩ :: rest } i).done;rw [show (upd st.slaves s { st.slaves s with pipe:=⟨j.who,j.n,x⟩ :: rest } i).done = (st.slaves i).done from by unfold upd;split <;> simp [*]];exact h.td i hi
    ne:=by exact h.ne
    ce:=by rw [uC (19) (by omega)];exact h.ce }
end Go.Proofs.YtenjbhbcacocjaaGreat
