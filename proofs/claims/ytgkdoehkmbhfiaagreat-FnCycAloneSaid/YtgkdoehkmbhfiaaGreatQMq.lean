/- What is on its way, read; slices.IndexFunc and ContainsFunc over it; outAt. -/
import Derived.Test.YtgkdoehkmbhfiaaGreatQMc
import Derived.Test.YtgkdoehkmbhfiaaGreatQLib
import Derived.Outline
import Derived.Deep.Cut
import Derived.Deep.CutRange
set_option linter.unusedVariables false
set_option linter.unusedSimpArgs false
set_option maxHeartbeats 16000000
namespace Go.Proofs.YtgkdoehkmbhfiaaGreat
open Go.RowKit
theorem Cont.queue {st : Cy} {ev : List Ev} {V : Nat → Value} {N : Nat → Nat} {C : Nat → List Value} {D : Nat → List TJV} (h : Cont st ev V N C D) {w : Nat} (hw : w < 3) (v : Value) (x : List Nat)  :
    Cont { st with ports:=upd st.ports w { st.ports w with queue:=x } } ev (upd V (5+w) v) (upd N (5+w) x.length) (upd (upd C (5+w) (x.flatMap rowN)) 2 ((C 2).set (w * 4+1) v)) D:=by
  have uV:∀i,i≠5+w→(upd V (5+w) v) i=V i:=fun i hi=>zA0 _ _ hi
  have uN:∀i,i≠5+w→(upd N (5+w) x.length) i=N i:=fun i hi=>zA0 _ _ hi
  have uC:∀i,i≠5+w→i≠2→(upd (upd C (5+w) (x.flatMap rowN)) 2 ((C 2).set (w * 4+1) v)) i=C i:=fun i hi hj=>by rw[zA0 _ _ hj,zA0 _ _ hi]
  exact {
    n0:=by rw[uN (0) (by omega)];exact h.n0
    c0:=by rw[uC (0) (by omega) (by omega)];exact h.c0
    n1:=by rw[uN (1) (by omega)];exact h.n1
    c1:=by rw[uC (1) (by omega) (by omega)];exact h.c1
    n2:=by rw[uN (2) (by omega)];exact h.n2
    c2:=by
      rw[zA1,h.c2];rcases(show w=0∨w=1∨w=2 by omega)with rfl|rfl|rfl <;> simp[upd,ptRow,svRow]
    n3:=by rw[uN (3) (by omega)];exact h.n3
    c3:=by rw[uC (3) (by omega) (by omega)];rw[h.c3];exact(by simp only[ptRow,svRow];repeat rw[uV _ (by omega)])
    n4:=by rw[uN (4) (by omega)];exact h.n4
    c4:=by rw[uC (4) (by omega) (by omega)];exact h.c4
    t4:=by exact h.t4
    nq:=fun i hi=>by
      by_cases e:i=w
      · subst e;simp[upd]
      · rw[uN _ (by omega)];show _=(upd st.ports w { st.ports w with queue:=x } i).queue.length;rw[zA0 _ _ e];exact h.nq i hi
    cq:=fun i hi=>by
      by_cases e:i=w
      · subst e;rw[zA0 _ _ (show 5+i≠2 by omega),zA1];simp[upd]
      · rw[uC _ (by omega) (by omega)];show _=(upd st.ports w { st.ports w with queue:=x } i).queue.flatMap rowN;rw[zA0 _ _ e];exact h.cq i hi
    no:=fun i hi=>by show _=(upd st.ports w { st.ports w with queue:=x } i).out.length;rw[show(upd st.ports w { st.ports w with queue:=x } i).out=(st.ports i).out from by unfold upd;split <;> simp[*]];rw[uN (8+i) (by omega)];exact h.no i hi
    co:=fun i hi=>by show _=(upd st.ports w { st.ports w with queue:=x } i).out.flatMap jbRow;rw[show(upd st.ports w { st.ports w with queue:=x } i).out=(st.ports i).out from by unfold upd;split <;> simp[*]];rw[uC (8+i) (by omega) (by omega)];exact h.co i hi
    np:=fun i hi=>by rw[uN (11+i) (by omega)];exact h.np i hi
    cp:=fun i hi=>by rw[uC (11+i) (by omega) (by omega)];exact h.cp i hi
    nd:=fun i hi=>by rw[uN (15+i) (by omega)];exact h.nd i hi
    cd:=fun i hi=>by rw[uC (15+i) (by omega) (by omega)];exact h.cd i hi
    td:=fun i hi=>by exact h.td i hi
    ne:=by rw[uN (19) (by omega)];exact h.ne
    ce:=by rw[uC (19) (by omega) (by omega)];exact h.ce }
theorem Cont.out {st : Cy} {ev : List Ev} {V : Nat → Value} {N : Nat → Nat} {C : Nat → List Value} {D : Nat → List TJV} (h : Cont st ev V N C D) {w : Nat} (hw : w < 3) (v : Value) (x : List Jb)  :
    Cont { st with ports:=upd st.ports w { st.ports w with out:=x } } ev (upd V (8+w) v) (upd N (8+w) x.length) (upd (upd C (8+w) (x.flatMap jbRow)) 2 ((C 2).set (w * 4+2) v)) D:=by
  have uV:∀i,i≠8+w→(upd V (8+w) v) i=V i:=fun i hi=>zA0 _ _ hi
  have uN:∀i,i≠8+w→(upd N (8+w) x.length) i=N i:=fun i hi=>zA0 _ _ hi
  have uC:∀i,i≠8+w→i≠2→(upd (upd C (8+w) (x.flatMap jbRow)) 2 ((C 2).set (w * 4+2) v)) i=C i:=fun i hi hj=>by rw[zA0 _ _ hj,zA0 _ _ hi]
  exact {
    n0:=by rw[uN (0) (by omega)];exact h.n0
    c0:=by rw[uC (0) (by omega) (by omega)];exact h.c0
    n1:=by rw[uN (1) (by omega)];exact h.n1
    c1:=by rw[uC (1) (by omega) (by omega)];exact h.c1
    n2:=by rw[uN (2) (by omega)];exact h.n2
    c2:=by
      rw[zA1,h.c2];rcases(show w=0∨w=1∨w=2 by omega)with rfl|rfl|rfl <;> simp[upd,ptRow,svRow]
    n3:=by rw[uN (3) (by omega)];exact h.n3
    c3:=by rw[uC (3) (by omega) (by omega)];rw[h.c3];exact(by simp only[ptRow,svRow];repeat rw[uV _ (by omega)])
    n4:=by rw[uN (4) (by omega)];exact h.n4
    c4:=by rw[uC (4) (by omega) (by omega)];exact h.c4
    t4:=by exact h.t4
    nq:=fun i hi=>by show _=(upd st.ports w { st.ports w with out:=x } i).queue.length;rw[show(upd st.ports w { st.ports w with out:=x } i).queue=(st.ports i).queue from by unfold upd;split <;> simp[*]];rw[uN (5+i) (by omega)];exact h.nq i hi
    cq:=fun i hi=>by show _=(upd st.ports w { st.ports w with out:=x } i).queue.flatMap rowN;rw[show(upd st.ports w { st.ports w with out:=x } i).queue=(st.ports i).queue from by unfold upd;split <;> simp[*]];rw[uC (5+i) (by omega) (by omega)];exact h.cq i hi
    no:=fun i hi=>by
      by_cases e:i=w
      · subst e;simp[upd]
      · rw[uN _ (by omega)];show _=(upd st.ports w { st.ports w with out:=x } i).out.length;rw[zA0 _ _ e];exact h.no i hi
    co:=fun i hi=>by
      by_cases e:i=w
      · subst e;rw[zA0 _ _ (show 8+i≠2 by omega),zA1];simp[upd]
      · rw[uC _ (by omega) (by omega)];show _=(upd st.ports w { st.ports w with out:=x } i).out.flatMap jbRow;rw[zA0 _ _ e];exact h.co i hi
    np:=fun i hi=>by rw[uN (11+i) (by omega)];exact h.np i hi
    cp:=fun i hi=>by rw[uC (11+i) (by omega) (by omega)];exact h.cp i hi
    nd:=fun i hi=>by rw[uN (15+i) (by omega)];exact h.nd i hi
    cd:=fun i hi=>by rw[uC (15+i) (by omega) (by omega)];exact h.cd i hi
    td:=fun i hi=>by exact h.td i hi
    ne:=by rw[uN (19) (by omega)];exact h.ne
    ce:=by rw[uC (19) (by omega) (by omega)];exact h.ce }
theorem Cont.pipe {st : Cy} {ev : List Ev} {V : Nat → Value} {N : Nat → Nat} {C : Nat → List Value} {D : Nat → List TJV} (h : Cont st ev V N C D) {s : Nat} (hs : s < 4) (v : Value) (x : List Jb)  :
    Cont { st with slaves:=upd st.slaves s { st.slaves s with pipe:=x } } ev (upd V (11+s) v) (upd N (11+s) x.length) (upd (upd C (11+s) (x.flatMap jbRow)) 3 ((C 3).set (s * 3+0) v)) D:=by
  have uV:∀i,i≠11+s→(upd V (11+s) v) i=V i:=fun i hi=>zA0 _ _ hi
  have uN:∀i,i≠11+s→(upd N (11+s) x.length) i=N i:=fun i hi=>zA0 _ _ hi
  have uC:∀i,i≠11+s→i≠3→(upd (upd C (11+s) (x.flatMap jbRow)) 3 ((C 3).set (s * 3+0) v)) i=C i:=fun i hi hj=>by rw[zA0 _ _ hj,zA0 _ _ hi]
  exact {
    n0:=by rw[uN (0) (by omega)];exact h.n0
    c0:=by rw[uC (0) (by omega) (by omega)];exact h.c0
    n1:=by rw[uN (1) (by omega)];exact h.n1
    c1:=by rw[uC (1) (by omega) (by omega)];exact h.c1
    n2:=by rw[uN (2) (by omega)];exact h.n2
    c2:=by rw[uC (2) (by omega) (by omega)];rw[h.c2];exact(by simp only[ptRow,svRow];repeat rw[uV _ (by omega)])
    n3:=by rw[uN (3) (by omega)];exact h.n3
    c3:=by
      rw[zA1,h.c3];rcases(show s=0∨s=1∨s=2∨s=3 by omega)with rfl|rfl|rfl|rfl <;> simp[upd,ptRow,svRow]
    n4:=by rw[uN (4) (by omega)];exact h.n4
    c4:=by rw[uC (4) (by omega) (by omega)];exact h.c4
    t4:=by exact h.t4
    nq:=fun i hi=>by rw[uN (5+i) (by omega)];exact h.nq i hi
    cq:=fun i hi=>by rw[uC (5+i) (by omega) (by omega)];exact h.cq i hi
    no:=fun i hi=>by rw[uN (8+i) (by omega)];exact h.no i hi
    co:=fun i hi=>by rw[uC (8+i) (by omega) (by omega)];exact h.co i hi
    np:=fun i hi=>by
      by_cases e:i=s
      · subst e;simp[upd]
      · rw[uN _ (by omega)];show _=(upd st.slaves s { st.slaves s with pipe:=x } i).pipe.length;rw[zA0 _ _ e];exact h.np i hi
    cp:=fun i hi=>by
      by_cases e:i=s
      · subst e;rw[zA0 _ _ (show 11+i≠3 by omega),zA1];simp[upd]
      · rw[uC _ (by omega) (by omega)];show _=(upd st.slaves s { st.slaves s with pipe:=x } i).pipe.flatMap jbRow;rw[zA0 _ _ e];exact h.cp i hi
    nd:=fun i hi=>by show _=(upd st.slaves s { st.slaves s with pipe:=x } i).done.length;rw[show(upd st.slaves s { st.slaves s with pipe:=x } i).done=(st.slaves i).done from by unfold upd;split <;> simp[*]];rw[uN (15+i) (by omega)];exact h.nd i hi
    cd:=fun i hi=>by rw[uC (15+i) (by omega) (by omega)];exact h.cd i hi
    td:=fun i hi=>by show _=(upd st.slaves s { st.slaves s with pipe:=x } i).done;rw[show(upd st.slaves s { st.slaves s with pipe:=x } i).done=(st.slaves i).done from by unfold upd;split <;> simp[*]];exact h.td i hi
    ne:=by rw[uN (19) (by omega)];exact h.ne
    ce:=by rw[uC (19) (by omega) (by omega)];exact h.ce }
theorem Cont.done {st : Cy} {ev : List Ev} {V : Nat → Value} {N : Nat → Nat} {C : Nat → List Value} {D : Nat → List TJV} (h : Cont st ev V N C D) {s : Nat} (hs : s < 4) (v : Value) (X : List TJV)  :
    Cont { st with slaves:=upd st.slaves s { st.slaves s with done:=X.map (·.1) } } ev (upd V (15+s) v) (upd N (15+s) X.length) (upd (upd C (15+s) (X.flatMap tjRow)) 3 ((C 3).set (s * 3+1) v)) (upd D (15+s) X):=by
  have uV:∀i,i≠15+s→(upd V (15+s) v) i=V i:=fun i hi=>zA0 _ _ hi
  have uN:∀i,i≠15+s→(upd N (15+s) X.length) i=N i:=fun i hi=>zA0 _ _ hi
  have uC:∀i,i≠15+s→i≠3→(upd (upd C (15+s) (X.flatMap tjRow)) 3 ((C 3).set (s * 3+1) v)) i=C i:=fun i hi hj=>by rw[zA0 _ _ hj,zA0 _ _ hi]
  have uD:∀i,i≠15+s→(upd D (15+s) X) i=D i:=fun i hi=>zA0 _ _ hi
  exact {
    n0:=by rw[uN (0) (by omega)];exact h.n0
    c0:=by rw[uC (0) (by omega) (by omega)];exact h.c0
    n1:=by rw[uN (1) (by omega)];exact h.n1
    c1:=by rw[uC (1) (by omega) (by omega)];exact h.c1
    n2:=by rw[uN (2) (by omega)];exact h.n2
    c2:=by rw[uC (2) (by omega) (by omega)];rw[h.c2];exact(by simp only[ptRow,svRow];repeat rw[uV _ (by omega)])
    n3:=by rw[uN (3) (by omega)];exact h.n3
    c3:=by
      rw[zA1,h.c3];rcases(show s=0∨s=1∨s=2∨s=3 by omega)with rfl|rfl|rfl|rfl <;> simp[upd,ptRow,svRow]
    n4:=by rw[uN (4) (by omega)];exact h.n4
    c4:=by rw[uD (4) (by omega)];rw[uC (4) (by omega) (by omega)];exact h.c4
    t4:=by rw[uD (4) (by omega)];exact h.t4
    nq:=fun i hi=>by rw[uN (5+i) (by omega)];exact h.nq i hi
    cq:=fun i hi=>by rw[uC (5+i) (by omega) (by omega)];exact h.cq i hi
    no:=fun i hi=>by rw[uN (8+i) (by omega)];exact h.no i hi
    co:=fun i hi=>by rw[uC (8+i) (by omega) (by omega)];exact h.co i hi
    np:=fun i hi=>by show _=(upd st.slaves s { st.slaves s with done:=X.map (·.1) } i).pipe.length;rw[show(upd st.slaves s { st.slaves s with done:=X.map (·.1) } i).pipe=(st.slaves i).pipe from by unfold upd;split <;> simp[*]];rw[uN (11+i) (by omega)];exact h.np i hi
    cp:=fun i hi=>by show _=(upd st.slaves s { st.slaves s with done:=X.map (·.1) } i).pipe.flatMap jbRow;rw[show(upd st.slaves s { st.slaves s with done:=X.map (·.1) } i).pipe=(st.slaves i).pipe from by unfold upd;split <;> simp[*]];rw[uC (11+i) (by omega) (by omega)];exact h.cp i hi
    nd:=fun i hi=>by
      by_cases e:i=s
      · subst e;simp[upd]
      · rw[uN _ (by omega)];show _=(upd st.slaves s { st.slaves s with done:=X.map (·.1) } i).done.length;rw[zA0 _ _ e];exact h.nd i hi
    cd:=fun i hi=>by
      by_cases e:i=s
      · subst e;rw[zA0 _ _ (show 15+i≠3 by omega),zA1,zA1]
      · rw[uC _ (by omega) (by omega),uD _ (by omega)];exact h.cd i hi
    td:=fun i hi=>by
      by_cases e:i=s
      · subst e;simp[upd]
      · rw[uD _ (by omega)];show _=(upd st.slaves s { st.slaves s with done:=X.map (·.1) } i).done;rw[zA0 _ _ e];exact h.td i hi
    ne:=by rw[uN (19) (by omega)];exact h.ne
    ce:=by rw[uC (19) (by omega) (by omega)];exact h.ce }
theorem Cont.told {st : Cy} {ev : List Ev} {V : Nat → Value} {N : Nat → Nat} {C : Nat → List Value} {D : Nat → List TJV} (h : Cont st ev V N C D) (v : Value) (X : List TJV)  :
    Cont { st with told:=X.map (·.1) } ev (upd V (4) v) (upd N (4) X.length) (upd C (4) (X.flatMap tjRow)) (upd D 4 X):=by
  have uV:∀i,i≠4→(upd V (4) v) i=V i:=fun i hi=>zA0 _ _ hi
  have uN:∀i,i≠4→(upd N (4) X.length) i=N i:=fun i hi=>zA0 _ _ hi
  have uC:∀i,i≠4→(upd C (4) (X.flatMap tjRow)) i=C i:=fun i hi=>zA0 _ _ hi
  have uD:∀i,i≠4→(upd D 4 X) i=D i:=fun i hi=>zA0 _ _ hi
  exact {
    n0:=by rw[uN (0) (by omega)];exact h.n0
    c0:=by rw[uC (0) (by omega)];exact h.c0
    n1:=by rw[uN (1) (by omega)];exact h.n1
    c1:=by rw[uC (1) (by omega)];exact h.c1
    n2:=by rw[uN (2) (by omega)];exact h.n2
    c2:=by rw[uC (2) (by omega)];rw[h.c2];exact(by simp only[ptRow,svRow];repeat rw[uV _ (by omega)])
    n3:=by rw[uN (3) (by omega)];exact h.n3
    c3:=by rw[uC (3) (by omega)];rw[h.c3];exact(by simp only[ptRow,svRow];repeat rw[uV _ (by omega)])
    n4:=by simp[upd]
    c4:=by rw[zA1,zA1]
    t4:=by rw[zA1]
    nq:=fun i hi=>by rw[uN (5+i) (by omega)];exact h.nq i hi
    cq:=fun i hi=>by rw[uC (5+i) (by omega)];exact h.cq i hi
    no:=fun i hi=>by rw[uN (8+i) (by omega)];exact h.no i hi
    co:=fun i hi=>by rw[uC (8+i) (by omega)];exact h.co i hi
    np:=fun i hi=>by rw[uN (11+i) (by omega)];exact h.np i hi
    cp:=fun i hi=>by rw[uC (11+i) (by omega)];exact h.cp i hi
    nd:=fun i hi=>by rw[uN (15+i) (by omega)];exact h.nd i hi
    cd:=fun i hi=>by rw[uD (15+i) (by omega)];rw[uC (15+i) (by omega)];exact h.cd i hi
    td:=fun i hi=>by rw[uD (15+i) (by omega)];exact h.td i hi
    ne:=by rw[uN (19) (by omega)];exact h.ne
    ce:=by rw[uC (19) (by omega)];exact h.ce }
theorem Cont.evts {st : Cy} {ev : List Ev} {V : Nat → Value} {N : Nat → Nat} {C : Nat → List Value} {D : Nat → List TJV} (h : Cont st ev V N C D) (v : Value) (e : List Ev)  :
    Cont st e (upd V (19) v) (upd N (19) e.length) (upd C (19) (e.flatMap evRow)) D:=by
  have uV:∀i,i≠19→(upd V (19) v) i=V i:=fun i hi=>zA0 _ _ hi
  have uN:∀i,i≠19→(upd N (19) e.length) i=N i:=fun i hi=>zA0 _ _ hi
  have uC:∀i,i≠19→(upd C (19) (e.flatMap evRow)) i=C i:=fun i hi=>zA0 _ _ hi
  exact {
    n0:=by rw[uN (0) (by omega)];exact h.n0
    c0:=by rw[uC (0) (by omega)];exact h.c0
    n1:=by rw[uN (1) (by omega)];exact h.n1
    c1:=by rw[uC (1) (by omega)];exact h.c1
    n2:=by rw[uN (2) (by omega)];exact h.n2
    c2:=by rw[uC (2) (by omega)];rw[h.c2];exact(by simp only[ptRow,svRow];repeat rw[uV _ (by omega)])
    n3:=by rw[uN (3) (by omega)];exact h.n3
    c3:=by rw[uC (3) (by omega)];rw[h.c3];exact(by simp only[ptRow,svRow];repeat rw[uV _ (by omega)])
    n4:=by rw[uN (4) (by omega)];exact h.n4
    c4:=by rw[uC (4) (by omega)];exact h.c4
    t4:=by exact h.t4
    nq:=fun i hi=>by rw[uN (5+i) (by omega)];exact h.nq i hi
    cq:=fun i hi=>by rw[uC (5+i) (by omega)];exact h.cq i hi
    no:=fun i hi=>by rw[uN (8+i) (by omega)];exact h.no i hi
    co:=fun i hi=>by rw[uC (8+i) (by omega)];exact h.co i hi
    np:=fun i hi=>by rw[uN (11+i) (by omega)];exact h.np i hi
    cp:=fun i hi=>by rw[uC (11+i) (by omega)];exact h.cp i hi
    nd:=fun i hi=>by rw[uN (15+i) (by omega)];exact h.nd i hi
    cd:=fun i hi=>by rw[uC (15+i) (by omega)];exact h.cd i hi
    td:=fun i hi=>by exact h.td i hi
    ne:=by rw[zA1]
    ce:=by rw[zA1] }
theorem Cont.next {st : Cy} {ev : List Ev} {V : Nat → Value} {N : Nat → Nat} {C : Nat → List Value} {D : Nat → List TJV} (h : Cont st ev V N C D) {w : Nat} (hw : w < 3) (x : Nat)  :
    Cont { st with ports:=upd st.ports w { st.ports w with next:=x } } ev V N (upd C 2 ((C 2).set (w * 4+0) (.int .i64 (x:Nat)))) D:=by
  have uC:∀i,i≠2→(upd C 2 ((C 2).set (w * 4+0) (.int .i64 (x:Nat)))) i=C i:=fun i hi=>zA0 _ _ hi
  exact {
    n0:=by exact h.n0
    c0:=by rw[uC (0) (by omega)];exact h.c0
    n1:=by exact h.n1
    c1:=by rw[uC (1) (by omega)];exact h.c1
    n2:=by exact h.n2
    c2:=by
      rw[zA1,h.c2];rcases(show w=0∨w=1∨w=2 by omega)with rfl|rfl|rfl <;> simp[upd,ptRow,svRow]
    n3:=by exact h.n3
    c3:=by rw[uC (3) (by omega)];rw[h.c3]
    n4:=by exact h.n4
    c4:=by rw[uC (4) (by omega)];exact h.c4
    t4:=by exact h.t4
    nq:=fun i hi=>by show _=(upd st.ports w { st.ports w with next:=x } i).queue.length;rw[show(upd st.ports w { st.ports w with next:=x } i).queue=(st.ports i).queue from by unfold upd;split <;> simp[*]];exact h.nq i hi
    cq:=fun i hi=>by show _=(upd st.ports w { st.ports w with next:=x } i).queue.flatMap rowN;rw[show(upd st.ports w { st.ports w with next:=x } i).queue=(st.ports i).queue from by unfold upd;split <;> simp[*]];rw[uC (5+i) (by omega)];exact h.cq i hi
    no:=fun i hi=>by show _=(upd st.ports w { st.ports w with next:=x } i).out.length;rw[show(upd st.ports w { st.ports w with next:=x } i).out=(st.ports i).out from by unfold upd;split <;> simp[*]];exact h.no i hi
    co:=fun i hi=>by show _=(upd st.ports w { st.ports w with next:=x } i).out.flatMap jbRow;rw[show(upd st.ports w { st.ports w with next:=x } i).out=(st.ports i).out from by unfold upd;split <;> simp[*]];rw[uC (8+i) (by omega)];exact h.co i hi
    np:=fun i hi=>by exact h.np i hi
    cp:=fun i hi=>by rw[uC (11+i) (by omega)];exact h.cp i hi
    nd:=fun i hi=>by exact h.nd i hi
    cd:=fun i hi=>by rw[uC (15+i) (by omega)];exact h.cd i hi
    td:=fun i hi=>by exact h.td i hi
    ne:=by exact h.ne
    ce:=by rw[uC (19) (by omega)];exact h.ce }
theorem Cont.plast {st : Cy} {ev : List Ev} {V : Nat → Value} {N : Nat → Nat} {C : Nat → List Value} {D : Nat → List TJV} (h : Cont st ev V N C D) {w : Nat} (hw : w < 3) (x : Nat)  :
    Cont { st with ports:=upd st.ports w { st.ports w with last:=x } } ev V N (upd C 2 ((C 2).set (w * 4+3) (.int .i64 (x:Nat)))) D:=by
  have uC:∀i,i≠2→(upd C 2 ((C 2).set (w * 4+3) (.int .i64 (x:Nat)))) i=C i:=fun i hi=>zA0 _ _ hi
  exact {
    n0:=by exact h.n0
    c0:=by rw[uC (0) (by omega)];exact h.c0
    n1:=by exact h.n1
    c1:=by rw[uC (1) (by omega)];exact h.c1
    n2:=by exact h.n2
    c2:=by
      rw[zA1,h.c2];rcases(show w=0∨w=1∨w=2 by omega)with rfl|rfl|rfl <;> simp[upd,ptRow,svRow]
    n3:=by exact h.n3
    c3:=by rw[uC (3) (by omega)];rw[h.c3]
    n4:=by exact h.n4
    c4:=by rw[uC (4) (by omega)];exact h.c4
    t4:=by exact h.t4
    nq:=fun i hi=>by show _=(upd st.ports w { st.ports w with last:=x } i).queue.length;rw[show(upd st.ports w { st.ports w with last:=x } i).queue=(st.ports i).queue from by unfold upd;split <;> simp[*]];exact h.nq i hi
    cq:=fun i hi=>by show _=(upd st.ports w { st.ports w with last:=x } i).queue.flatMap rowN;rw[show(upd st.ports w { st.ports w with last:=x } i).queue=(st.ports i).queue from by unfold upd;split <;> simp[*]];rw[uC (5+i) (by omega)];exact h.cq i hi
    no:=fun i hi=>by show _=(upd st.ports w { st.ports w with last:=x } i).out.length;rw[show(upd st.ports w { st.ports w with last:=x } i).out=(st.ports i).out from by unfold upd;split <;> simp[*]];exact h.no i hi
    co:=fun i hi=>by show _=(upd st.ports w { st.ports w with last:=x } i).out.flatMap jbRow;rw[show(upd st.ports w { st.ports w with last:=x } i).out=(st.ports i).out from by unfold upd;split <;> simp[*]];rw[uC (8+i) (by omega)];exact h.co i hi
    np:=fun i hi=>by exact h.np i hi
    cp:=fun i hi=>by rw[uC (11+i) (by omega)];exact h.cp i hi
    nd:=fun i hi=>by exact h.nd i hi
    cd:=fun i hi=>by rw[uC (15+i) (by omega)];exact h.cd i hi
    td:=fun i hi=>by exact h.td i hi
    ne:=by exact h.ne
    ce:=by rw[uC (19) (by omega)];exact h.ce }
theorem Cont.slast {st : Cy} {ev : List Ev} {V : Nat → Value} {N : Nat → Nat} {C : Nat → List Value} {D : Nat → List TJV} (h : Cont st ev V N C D) {s : Nat} (hs : s < 4) (x : Nat)  :
    Cont { st with slaves:=upd st.slaves s { st.slaves s with last:=x } } ev V N (upd C 3 ((C 3).set (s * 3+2) (.int .i64 (x:Nat)))) D:=by
  have uC:∀i,i≠3→(upd C 3 ((C 3).set (s * 3+2) (.int .i64 (x:Nat)))) i=C i:=fun i hi=>zA0 _ _ hi
  exact {
    n0:=by exact h.n0
    c0:=by rw[uC (0) (by omega)];exact h.c0
    n1:=by exact h.n1
    c1:=by rw[uC (1) (by omega)];exact h.c1
    n2:=by exact h.n2
    c2:=by rw[uC (2) (by omega)];rw[h.c2]
    n3:=by exact h.n3
    c3:=by
      rw[zA1,h.c3];rcases(show s=0∨s=1∨s=2∨s=3 by omega)with rfl|rfl|rfl|rfl <;> simp[upd,ptRow,svRow]
    n4:=by exact h.n4
    c4:=by rw[uC (4) (by omega)];exact h.c4
    t4:=by exact h.t4
    nq:=fun i hi=>by exact h.nq i hi
    cq:=fun i hi=>by rw[uC (5+i) (by omega)];exact h.cq i hi
    no:=fun i hi=>by exact h.no i hi
    co:=fun i hi=>by rw[uC (8+i) (by omega)];exact h.co i hi
    np:=fun i hi=>by show _=(upd st.slaves s { st.slaves s with last:=x } i).pipe.length;rw[show(upd st.slaves s { st.slaves s with last:=x } i).pipe=(st.slaves i).pipe from by unfold upd;split <;> simp[*]];exact h.np i hi
    cp:=fun i hi=>by show _=(upd st.slaves s { st.slaves s with last:=x } i).pipe.flatMap jbRow;rw[show(upd st.slaves s { st.slaves s with last:=x } i).pipe=(st.slaves i).pipe from by unfold upd;split <;> simp[*]];rw[uC (11+i) (by omega)];exact h.cp i hi
    nd:=fun i hi=>by show _=(upd st.slaves s { st.slaves s with last:=x } i).done.length;rw[show(upd st.slaves s { st.slaves s with last:=x } i).done=(st.slaves i).done from by unfold upd;split <;> simp[*]];exact h.nd i hi
    cd:=fun i hi=>by rw[uC (15+i) (by omega)];exact h.cd i hi
    td:=fun i hi=>by show _=(upd st.slaves s { st.slaves s with last:=x } i).done;rw[show(upd st.slaves s { st.slaves s with last:=x } i).done=(st.slaves i).done from by unfold upd;split <;> simp[*]];exact h.td i hi
    ne:=by exact h.ne
    ce:=by rw[uC (19) (by omega)];exact h.ce }
theorem Cont.pleft {st : Cy} {ev : List Ev} {V : Nat → Value} {N : Nat → Nat} {C : Nat → List Value} {D : Nat → List TJV} (h : Cont st ev V N C D) {s : Nat} (hs : s < 4) {j : Jb} {rest : List Jb} (hp : (st.slaves s).pipe = j :: rest) (x : Nat)  :
    Cont { st with slaves:=upd st.slaves s { st.slaves s with pipe:=⟨j.who,j.n,x⟩::rest } } ev V N (upd C (11+s) ((C (11+s)).set 2 (.int .i64 (x:Nat)))) D:=by
  have uC:∀i,i≠(11+s)→(upd C (11+s) ((C (11+s)).set 2 (.int .i64 (x:Nat)))) i=C i:=fun i hi=>zA0 _ _ hi
  exact {
    n0:=by exact h.n0
    c0:=by rw[uC (0) (by omega)];exact h.c0
    n1:=by exact h.n1
    c1:=by rw[uC (1) (by omega)];exact h.c1
    n2:=by exact h.n2
    c2:=by rw[uC (2) (by omega)];rw[h.c2]
    n3:=by exact h.n3
    c3:=by rw[uC (3) (by omega)];rw[h.c3];rcases(show s=0∨s=1∨s=2∨s=3 by omega)with rfl|rfl|rfl|rfl <;> simp[upd,svRow]
    n4:=by exact h.n4
    c4:=by rw[uC (4) (by omega)];exact h.c4
    t4:=by exact h.t4
    nq:=fun i hi=>by exact h.nq i hi
    cq:=fun i hi=>by rw[uC (5+i) (by omega)];exact h.cq i hi
    no:=fun i hi=>by exact h.no i hi
    co:=fun i hi=>by rw[uC (8+i) (by omega)];exact h.co i hi
    np:=fun i hi=>by
      show _=(upd st.slaves s { st.slaves s with pipe:=⟨j.who,j.n,x⟩::rest } i).pipe.length;by_cases e:i=s
      · subst e;rw[zA1,h.np i hi,hp];rfl
      · rw[zA0 _ _ e];exact h.np i hi
    cp:=fun i hi=>by
      show _=(upd st.slaves s { st.slaves s with pipe:=⟨j.who,j.n,x⟩::rest } i).pipe.flatMap jbRow;by_cases e:i=s
      · subst e;rw[zA1,zA1,h.cp i hi,hp];simp[jbRow]
      · rw[uC _ (by omega),zA0 _ _ e];exact h.cp i hi
    nd:=fun i hi=>by show _=(upd st.slaves s { st.slaves s with pipe:=⟨j.who,j.n,x⟩::rest } i).done.length;rw[show(upd st.slaves s { st.slaves s with pipe:=⟨j.who,j.n,x⟩::rest } i).done=(st.slaves i).done from by unfold upd;split <;> simp[*]];exact h.nd i hi
    cd:=fun i hi=>by rw[uC (15+i) (by omega)];exact h.cd i hi
    td:=fun i hi=>by show _=(upd st.slaves s { st.slaves s with pipe:=⟨j.who,j.n,x⟩::rest } i).done;rw[show(upd st.slaves s { st.slaves s with pipe:=⟨j.who,j.n,x⟩::rest } i).done=(st.slaves i).done from by unfold upd;split <;> simp[*]];exact h.td i hi
    ne:=by exact h.ne
    ce:=by rw[uC (19) (by omega)];exact h.ce }
end Go.Proofs.YtgkdoehkmbhfiaaGreat
namespace Go.Proofs.YtgkdoehkmbhfiaaGreat
open Go.RowKit
def Kp (S Hb:Nat) (V:Nat→Value) (w:World) (V':Nat→Value) (w':World):Prop:=∀b,DFree V S Hb w b→w'.heap[b]? = w.heap[b]? ∧ DFree V' S Hb w' b
theorem Kp.refl (S Hb:Nat) (V:Nat→Value) (w:World):Kp S Hb V w V w:=fun _ h=>⟨rfl,h⟩
theorem Kp.trans {S Hb:Nat} {V V' V'':Nat→Value} {w w' w'':World} (h:Kp S Hb V w V' w') (k:Kp S Hb V' w' V'' w''):Kp S Hb V w V'' w'':=fun b hb=>⟨((k b (h b hb).2).1).trans (h b hb).1,(k b (h b hb).2).2⟩
theorem Kp.below {S Hb:Nat} {V:Nat→Value} {w w':World} (h:Below w.heap.size w w'):Kp S Hb V w V w':=fun b hb=>⟨h.block b hb.1,Nat.lt_of_lt_of_le hb.1 h.size,hb.2⟩
theorem Kp.chg {S Hb:Nat} {V:Nat→Value} {w w':World} {κ:Nat} {v:Value} (hκ:κ<20) (hk:∀b,b<w.heap.size→(V κ).ownBlock≠some b→w'.heap[b]? = w.heap[b]?) (hsz:w.heap.size≤w'.heap.size) (hv:∀k,v.ownBlock=some k→(V κ).ownBlock=some k∨w.heap.size≤k):Kp S Hb V w (upd V κ v) w' :=
 fun b hb=>⟨hk b hb.1 (hb.2.1 κ hκ),Nat.lt_of_lt_of_le hb.1 hsz,hb.2.1.chg (w:=w) hb.1 hv hκ,hb.2.2⟩
theorem Kp.cell {S Hb:Nat} {V:Nat→Value} {w:World} {g:Nat} (hg:g=S∨g=Hb∨∃μ,μ<20∧(V μ).ownBlock=some g) (o:Nat) (u:Value):Kp S Hb V w V (w.setCell ⟨g,o,none⟩ u):=fun b hb=>by
 have hne:b≠g:=by
  rcases hg with hg|hg|⟨μ,hμ,hg⟩
  ·rw[hg];exact hb.2.2.1
  ·rw[hg];exact hb.2.2.2
  ·intro e;exact hb.2.1 μ hμ (by rw[hg,e])
 exact⟨Below.heap_setCell _ _ _ _ hne,by simpa using hb.1,hb.2⟩
section
variable {w w1 : World} {base S Hb : Nat} {L : Nat → Value} {st : Cy} {ev : List Ev} {V : Nat → Value} {N : Nat → Nat} {C : Nat → List Value} {D : Nat → List TJV}
theorem ety_q {i:Nat} (hi:i<3):ety (5+i)=3∧esz (5+i)=1:=by rcases(show i=0∨i=1∨i=2 by omega)with rfl|rfl|rfl <;> exact⟨rfl,rfl⟩
theorem ety_o {i:Nat} (hi:i<3):ety (8+i)=101∧esz (8+i)=3:=by rcases(show i=0∨i=1∨i=2 by omega)with rfl|rfl|rfl <;> exact⟨rfl,rfl⟩
theorem ety_p {i:Nat} (hi:i<4):ety (11+i)=101∧esz (11+i)=3:=by rcases(show i=0∨i=1∨i=2∨i=3 by omega)with rfl|rfl|rfl|rfl <;> exact⟨rfl,rfl⟩
theorem ety_d {i:Nat} (hi:i<4):ety (15+i)=65∧esz (15+i)=5:=by rcases(show i=0∨i=1∨i=2∨i=3 by omega)with rfl|rfl|rfl|rfl <;> exact⟨rfl,rfl⟩
theorem CyM.oQueue (h:CyM w base S Hb L st ev V N C D) {i:Nat} (hi:i<3):Owns w base 3 1 rowN (V (5+i)) (st.ports i).queue:=by
 have:=h.raw.own (5+i) (by omega)
 rwa [h.con.nq i hi,h.con.cq i hi,(ety_q hi).1,(ety_q hi).2]at this
theorem CyM.oOut (h:CyM w base S Hb L st ev V N C D) {i:Nat} (hi:i<3):Owns w base 101 3 jbRow (V (8+i)) (st.ports i).out:=by
 have:=h.raw.own (8+i) (by omega)
 rwa [h.con.no i hi,h.con.co i hi,(ety_o hi).1,(ety_o hi).2]at this
theorem CyM.oPipe (h:CyM w base S Hb L st ev V N C D) {s:Nat} (hs:s<4):Owns w base 101 3 jbRow (V (11+s)) (st.slaves s).pipe:=by
 have:=h.raw.own (11+s) (by omega)
 rwa [h.con.np s hs,h.con.cp s hs,(ety_p hs).1,(ety_p hs).2]at this
theorem CyM.lDone (h:CyM w base S Hb L st ev V N C D) {s:Nat} (hs:s<4):(D (15+s)).length=(st.slaves s).done.length:=by rw[←h.con.td s hs];simp
theorem CyM.oDone (h:CyM w base S Hb L st ev V N C D) {s:Nat} (hs:s<4):Owns w base 65 5 tjRow (V (15+s)) (D (15+s)):=by
 have:=h.raw.own (15+s) (by omega);rw[h.con.nd s hs,h.con.cd s hs,(ety_d hs).1,(ety_d hs).2,←h.lDone hs]at this;exact this
theorem CyM.oTold (h:CyM w base S Hb L st ev V N C D):Owns w base 65 5 tjRow (V 4) (D 4):=by
 have:=h.raw.own 4 (by omega);rw[h.con.n4,h.con.c4,←h.con.t4,List.length_map]at this;exact this
theorem CyM.oEv (h:CyM w base S Hb L st ev V N C D):Owns w base 173 3 evRow (V 19) ev:=by
 have:=h.raw.own 19 (by omega);rw[h.con.ne,h.con.ce]at this;exact this
theorem CyM.ports (h:CyM w base S Hb L st ev V N C D):∃g off cap,V 2=.slice (some ⟨g,off,none⟩) 3 cap∧3≤cap∧cap≤9223372036854775807∧base≤g∧g<w.heap.size:=by
 obtain⟨g,off,cap,e,r⟩:=(h.raw.own 2 (by omega)).addr (by rw[h.con.n2];omega);rw[h.con.n2]at e r;exact⟨g,off,cap,e,r⟩
theorem CyM.stores (h:CyM w base S Hb L st ev V N C D):∃g off cap,V 3=.slice (some ⟨g,off,none⟩) 4 cap∧4≤cap∧cap≤9223372036854775807∧base≤g∧g<w.heap.size:=by
 obtain⟨g,off,cap,e,r⟩:=(h.raw.own 3 (by omega)).addr (by rw[h.con.n3];omega);rw[h.con.n3]at e r;exact⟨g,off,cap,e,r⟩
theorem CyM.port (h : CyM w base S Hb L st ev V N C D) {g off cap i : Nat} (hV : V 2 = .slice (some ⟨g, off, none⟩) 3 cap) (hi : i < 3) :
  w.cell? ⟨g,off+i * 4,none⟩=some (.int .i64 (st.ports i).next)∧w.cell? ⟨g,off+i * 4+1,none⟩=some (V (5+i))∧w.cell? ⟨g,off+i * 4+2,none⟩=some (V (8+i))∧w.cell? ⟨g,off+i * 4+3,none⟩=some (.int .i64 (st.ports i).last)∧∀o,w.frozen? ⟨g,o,none⟩=false:=by
 have ho:=h.raw.own 2 (by omega);rw[hV,h.con.n2,h.con.c2]at ho;have key:∀j,j<12→w.cell? ⟨g,off+j,none⟩=_:=fun j hj=>ho.get j (by exact hj)
 have fr:=ho.unfrozen;simp only[ptRow]at key;rcases(show i=0∨i=1∨i=2 by omega)with rfl|rfl|rfl
 ·exact⟨key 0 (by omega),key 1 (by omega),key 2 (by omega),key 3 (by omega),fr⟩
 ·exact⟨key 4 (by omega),key 5 (by omega),key 6 (by omega),key 7 (by omega),fr⟩
 ·exact⟨key 8 (by omega),key 9 (by omega),key 10 (by omega),key 11 (by omega),fr⟩
theorem CyM.store (h : CyM w base S Hb L st ev V N C D) {g off cap s : Nat} (hV : V 3 = .slice (some ⟨g, off, none⟩) 4 cap) (hs : s < 4) :
  w.cell? ⟨g,off+s * 3,none⟩=some (V (11+s))∧w.cell? ⟨g,off+s * 3+1,none⟩=some (V (15+s))∧w.cell? ⟨g,off+s * 3+2,none⟩=some (.int .i64 (st.slaves s).last)∧∀o,w.frozen? ⟨g,o,none⟩=false:=by
 have ho:=h.raw.own 3 (by omega);rw[hV,h.con.n3,h.con.c3]at ho;have key:∀j,j<12→w.cell? ⟨g,off+j,none⟩=_:=fun j hj=>ho.get j (by exact hj)
 have fr:=ho.unfrozen;simp only[svRow]at key;rcases(show s=0∨s=1∨s=2∨s=3 by omega)with rfl|rfl|rfl|rfl
 ·exact⟨key 0 (by omega),key 1 (by omega),key 2 (by omega),fr⟩
 ·exact⟨key 3 (by omega),key 4 (by omega),key 5 (by omega),fr⟩
 ·exact⟨key 6 (by omega),key 7 (by omega),key 8 (by omega),fr⟩
 ·exact⟨key 9 (by omega),key 10 (by omega),key 11 (by omega),fr⟩
theorem CyM.box (h:CyM w base S Hb L st ev V N C D):w.cell? ⟨S,0,none⟩=some (V 0)∧w.cell? ⟨S,1,none⟩=some (V 1)∧w.cell? ⟨S,2,none⟩=some (V 2)∧w.cell? ⟨S,3,none⟩=some (V 3)∧w.cell? ⟨S,4,none⟩=some (V 4)∧∀o,w.frozen? ⟨S,o,none⟩=false:=by
 have:=h.bs;refine⟨?_,?_,?_,?_,?_,fun o=>?_⟩ <;> simp[World.cell?,World.frozen?,this]
theorem CyM.hbox (h:CyM w base S Hb L st ev V N C D):w.cell? ⟨Hb,0,none⟩=some (V 19)∧w.cell? ⟨Hb,1,none⟩=some (L 0)∧w.cell? ⟨Hb,2,none⟩=some (L 1)∧w.cell? ⟨Hb,3,none⟩=some (L 2)∧w.cell? ⟨Hb,4,none⟩=some (L 3)∧∀o,w.frozen? ⟨Hb,o,none⟩=false:=by
 have:=h.bh;refine⟨?_,?_,?_,?_,?_,fun o=>?_⟩ <;> simp[World.cell?,World.frozen?,this]
theorem CyM.setTold (h : CyM w base S Hb L st ev V N C D) {v : Value} {X : List TJV} (hk : ∀ b, b < w.heap.size → (V 4).ownBlock ≠ some b → w1.heap[b]? = w.heap[b]?) (hsz : w.heap.size ≤ w1.heap.size) (ho : Owns w1 base 65 5 tjRow v X)
  (hv:∀k,v.ownBlock=some k→(V 4).ownBlock=some k∨w.heap.size≤k) (hd:∀x∈X,DatP L w1 (DFree (upd V 4 v) S Hb w1) x) :
  ∃N' C', CyM (w1.setCell ⟨S,4,none⟩ v) base S Hb L { st with told:=X.map (·.1) } ev (upd V 4 v) N' C' (upd D 4 X)∧Kp S Hb V w (upd V 4 v) (w1.setCell ⟨S,4,none⟩ v) :=
 ⟨_,_,h.toldPut hk hsz ho hv (fun i hi=>zA0 _ _ hi) (by rw[zA1];exact hd) (h.con.told v X),(Kp.chg (by omega) hk hsz hv).trans (Kp.cell (.inl rfl) _ _)⟩
theorem CyM.setEv (h : CyM w base S Hb L st ev V N C D) {v : Value} {e : List Ev} (hk : ∀ b, b < w.heap.size → (V 19).ownBlock ≠ some b → w1.heap[b]? = w.heap[b]?) (hsz : w.heap.size ≤ w1.heap.size) (ho : Owns w1 base 173 3 evRow v e)
  (hv:∀k,v.ownBlock=some k→(V 19).ownBlock=some k∨w.heap.size≤k) :
  ∃N' C', CyM (w1.setCell ⟨Hb,0,none⟩ v) base S Hb L st e (upd V 19 v) N' C' D∧Kp S Hb V w (upd V 19 v) (w1.setCell ⟨Hb,0,none⟩ v):=⟨_,_,h.evPut hk hsz ho hv (h.con.evts v e),(Kp.chg (by omega) hk hsz hv).trans (Kp.cell (.inr (.inl rfl)) _ _)⟩
theorem CyM.setDone (h : CyM w base S Hb L st ev V N C D) {s g off cap : Nat} (hs : s < 4) (hV : V 3 = .slice (some ⟨g, off, none⟩) 4 cap) {v : Value} {X : List TJV} (hk : ∀ b, b < w.heap.size → (V (15 + s)).ownBlock ≠ some b → w1.heap[b]? = w.heap[b]?) (hsz : w.heap.size ≤ w1.heap.size)
  (ho:Owns w1 base 65 5 tjRow v X) (hv:∀k,v.ownBlock=some k→(V (15+s)).ownBlock=some k∨w.heap.size≤k) (hd:∀x∈X,DatP L w1 (DFree (upd V (15+s) v) S Hb w1) x) :
  ∃N' C', CyM (w1.setCell ⟨g,off+s * 3+1,none⟩ v) base S Hb L { st with slaves:=upd st.slaves s { st.slaves s with done:=X.map (·.1) } } ev (upd V (15+s) v) N' C' (upd D (15+s) X)∧Kp S Hb V w (upd V (15+s) v) (w1.setCell ⟨g,off+s * 3+1,none⟩ v):=by
 have:=h.put (κ:=15+s) (μ:=3) (j:=s * 3+1) (v:=v) (n:=X.length) (c:=X.flatMap tjRow) (D':=upd D (15+s) X) (by omega) (.inr rfl) (by rw[h.con.n3];exact hV) (by rw[h.con.n3];show s * 3+1<12;omega) hk hsz (by rw[(ety_d hs).1,(ety_d hs).2];exact ho) hv (fun i hi=>zA0 _ _ hi) (by rw[zA1];exact hd) (h.con.done hs v X);exact⟨_,_,by rw[Nat.add_assoc];exact this,(Kp.chg (by omega) hk hsz hv).trans (Kp.cell (.inr (.inr ⟨3,by omega,by rw[zA0 _ _ (by omega),hV];rfl⟩)) _ _)⟩
theorem CyM.setPipe (h : CyM w base S Hb L st ev V N C D) {s g off cap : Nat} (hs : s < 4) (hV : V 3 = .slice (some ⟨g, off, none⟩) 4 cap) {v : Value} {x : List Jb} (hk : ∀ b, b < w.heap.size → (V (11 + s)).ownBlock ≠ some b → w1.heap[b]? = w.heap[b]?) (hsz : w.heap.size ≤ w1.heap.size)
  (ho:Owns w1 base 101 3 jbRow v x) (hv:∀k,v.ownBlock=some k→(V (11+s)).ownBlock=some k∨w.heap.size≤k) :
  ∃N' C', CyM (w1.setCell ⟨g,off+s * 3,none⟩ v) base S Hb L { st with slaves:=upd st.slaves s { st.slaves s with pipe:=x } } ev (upd V (11+s) v) N' C' D∧Kp S Hb V w (upd V (11+s) v) (w1.setCell ⟨g,off+s * 3,none⟩ v):=by
 have:=h.put (κ:=11+s) (μ:=3) (j:=s * 3+0) (v:=v) (n:=x.length) (c:=x.flatMap jbRow) (D':=D) (by omega) (.inr rfl) (by rw[h.con.n3];exact hV) (by rw[h.con.n3];show s * 3+0<12;omega) hk hsz (by rw[(ety_p hs).1,(ety_p hs).2];exact ho) hv (fun i _=>rfl) (fun y hy=>h.old (by omega) (by omega) hk hsz hv hy) (h.con.pipe hs v x);exact⟨_,_,this,(Kp.chg (by omega) hk hsz hv).trans (Kp.cell (.inr (.inr ⟨3,by omega,by rw[zA0 _ _ (by omega),hV];rfl⟩)) _ _)⟩
theorem CyM.setQueue (h : CyM w base S Hb L st ev V N C D) {i g off cap : Nat} (hi : i < 3) (hV : V 2 = .slice (some ⟨g, off, none⟩) 3 cap) {v : Value} {x : List Nat} (hk : ∀ b, b < w.heap.size → (V (5 + i)).ownBlock ≠ some b → w1.heap[b]? = w.heap[b]?) (hsz : w.heap.size ≤ w1.heap.size)
  (ho:Owns w1 base 3 1 rowN v x) (hv:∀k,v.ownBlock=some k→(V (5+i)).ownBlock=some k∨w.heap.size≤k) :
  ∃N' C', CyM (w1.setCell ⟨g,off+i * 4+1,none⟩ v) base S Hb L { st with ports:=upd st.ports i { st.ports i with queue:=x } } ev (upd V (5+i) v) N' C' D∧Kp S Hb V w (upd V (5+i) v) (w1.setCell ⟨g,off+i * 4+1,none⟩ v):=by
 have:=h.put (κ:=5+i) (μ:=2) (j:=i * 4+1) (v:=v) (n:=x.length) (c:=x.flatMap rowN) (D':=D) (by omega) (.inl rfl) (by rw[h.con.n2];exact hV) (by rw[h.con.n2];show i * 4+1<12;omega) hk hsz (by rw[(ety_q hi).1,(ety_q hi).2];exact ho) hv (fun i _=>rfl) (fun y hy=>h.old (by omega) (by omega) hk hsz hv hy) (h.con.queue hi v x);exact⟨_,_,by rw[Nat.add_assoc];exact this,(Kp.chg (by omega) hk hsz hv).trans (Kp.cell (.inr (.inr ⟨2,by omega,by rw[zA0 _ _ (by omega),hV];rfl⟩)) _ _)⟩
theorem CyM.setOut (h : CyM w base S Hb L st ev V N C D) {i g off cap : Nat} (hi : i < 3) (hV : V 2 = .slice (some ⟨g, off, none⟩) 3 cap) {v : Value} {x : List Jb} (hk : ∀ b, b < w.heap.size → (V (8 + i)).ownBlock ≠ some b → w1.heap[b]? = w.heap[b]?) (hsz : w.heap.size ≤ w1.heap.size)
  (ho:Owns w1 base 101 3 jbRow v x) (hv:∀k,v.ownBlock=some k→(V (8+i)).ownBlock=some k∨w.heap.size≤k) :
  ∃N' C', CyM (w1.setCell ⟨g,off+i * 4+2,none⟩ v) base S Hb L { st with ports:=upd st.ports i { st.ports i with out:=x } } ev (upd V (8+i) v) N' C' D∧Kp S Hb V w (upd V (8+i) v) (w1.setCell ⟨g,off+i * 4+2,none⟩ v):=by
 have:=h.put (κ:=8+i) (μ:=2) (j:=i * 4+2) (v:=v) (n:=x.length) (c:=x.flatMap jbRow) (D':=D) (by omega) (.inl rfl) (by rw[h.con.n2];exact hV) (by rw[h.con.n2];show i * 4+2<12;omega) hk hsz (by rw[(ety_o hi).1,(ety_o hi).2];exact ho) hv (fun i _=>rfl) (fun y hy=>h.old (by omega) (by omega) hk hsz hv hy) (h.con.out hi v x);exact⟨_,_,by rw[Nat.add_assoc];exact this,(Kp.chg (by omega) hk hsz hv).trans (Kp.cell (.inr (.inr ⟨2,by omega,by rw[zA0 _ _ (by omega),hV];rfl⟩)) _ _)⟩
theorem CyM.setNext (h : CyM w base S Hb L st ev V N C D) {i g off cap : Nat} (hi : i < 3) (hV : V 2 = .slice (some ⟨g, off, none⟩) 3 cap) (x : Nat) :
  ∃N' C', CyM (w.setCell ⟨g,off+i * 4,none⟩ (.int .i64 (x:Nat))) base S Hb L { st with ports:=upd st.ports i { st.ports i with next:=x } } ev V N' C' D∧Kp S Hb V w V (w.setCell ⟨g,off+i * 4,none⟩ (.int .i64 (x:Nat))):=by
 have:=h.cell (κ:=2) (j:=i * 4+0) (u:=.int .i64 (x:Nat)) (by omega) (by rw[h.con.n2];exact hV) (by rw[h.con.n2];show i * 4+0<12;omega) (h.con.next hi x);exact⟨_,_,this,Kp.cell (.inr (.inr ⟨2,by omega,by rw[hV];rfl⟩)) _ _⟩
theorem CyM.setLast (h : CyM w base S Hb L st ev V N C D) {i g off cap : Nat} (hi : i < 3) (hV : V 2 = .slice (some ⟨g, off, none⟩) 3 cap) (x : Nat) :
  ∃N' C', CyM (w.setCell ⟨g,off+i * 4+3,none⟩ (.int .i64 (x:Nat))) base S Hb L { st with ports:=upd st.ports i { st.ports i with last:=x } } ev V N' C' D∧Kp S Hb V w V (w.setCell ⟨g,off+i * 4+3,none⟩ (.int .i64 (x:Nat))):=by
 have:=h.cell (κ:=2) (j:=i * 4+3) (u:=.int .i64 (x:Nat)) (by omega) (by rw[h.con.n2];exact hV) (by rw[h.con.n2];show i * 4+3<12;omega) (h.con.plast hi x);exact⟨_,_,by rw[Nat.add_assoc];exact this,Kp.cell (.inr (.inr ⟨2,by omega,by rw[hV];rfl⟩)) _ _⟩
theorem CyM.setSlast (h : CyM w base S Hb L st ev V N C D) {s g off cap : Nat} (hs : s < 4) (hV : V 3 = .slice (some ⟨g, off, none⟩) 4 cap) (x : Nat) :
  ∃N' C', CyM (w.setCell ⟨g,off+s * 3+2,none⟩ (.int .i64 (x:Nat))) base S Hb L { st with slaves:=upd st.slaves s { st.slaves s with last:=x } } ev V N' C' D∧Kp S Hb V w V (w.setCell ⟨g,off+s * 3+2,none⟩ (.int .i64 (x:Nat))):=by
 have:=h.cell (κ:=3) (j:=s * 3+2) (u:=.int .i64 (x:Nat)) (by omega) (by rw[h.con.n3];exact hV) (by rw[h.con.n3];show s * 3+2<12;omega) (h.con.slast hs x);exact⟨_,_,by rw[Nat.add_assoc];exact this,Kp.cell (.inr (.inr ⟨3,by omega,by rw[hV];rfl⟩)) _ _⟩
theorem CyM.setLeft (h : CyM w base S Hb L st ev V N C D) {s g off n cap : Nat} (hs : s < 4) (hV : V (11 + s) = .slice (some ⟨g, off, none⟩) n cap) {j : Jb} {rest : List Jb} (hp : (st.slaves s).pipe = j :: rest) (x : Nat) :
  ∃N' C', CyM (w.setCell ⟨g,off+2,none⟩ (.int .i64 (x:Nat))) base S Hb L { st with slaves:=upd st.slaves s { st.slaves s with pipe:=⟨j.who,j.n,x⟩::rest } } ev V N' C' D∧Kp S Hb V w V (w.setCell ⟨g,off+2,none⟩ (.int .i64 (x:Nat))):=by
 have hn:N (11+s)=n:=by
  obtain⟨a,c,e,_⟩:=(h.raw.own (11+s) (by omega)).form;rw[hV]at e;simp only[Value.slice.injEq]at e;exact e.2.1.symm
 have:=h.cell (κ:=11+s) (j:=2) (u:=.int .i64 (x:Nat)) (by omega) (by rw[hn];exact hV) (by rw[h.con.np s hs,hp,(ety_p hs).2];simp;omega) (h.con.pleft hs hp x);exact⟨_,_,this,Kp.cell (.inr (.inr ⟨11+s,by omega,by rw[hV];rfl⟩)) _ _⟩
end
end Go.Proofs.YtgkdoehkmbhfiaaGreat
namespace Go.Proofs.YtgkdoehkmbhfiaaGreat
open Go.RowKit
theorem wpList_catL {α : Type} {ops : Array Oper} {rest : List Oper} {o : Oper} {a : Act} {Q : Exit → Act → World → Prop} {T e sz by_ : Nat} (E : Elem T e sz by_) (f : α → List Value) (hf : ∀ x, (f x).length = sz)
  (w:World) (hgd:o.guard=none) (s x:Operand) (ho:o.op=.call { callee:=.builtin .append,args:=#[s,x],argTypes:=#[T,T] })
  (base:Nat) (v:Value) (xs:List α) (hs:a.eval s=v) (hown:Owns w base e sz f v xs) (u:Value) (ys:List α) (B:Nat) (hx:a.eval x=u) (harr:Arr w B sz u (ys.map f)) (h1:∀y∈ys,∀u∈f y,u.oneCell' = true)
  (hlen:(xs.length+ys.length) * by_≤140737488355328) (hlen2:xs.length+ys.length≤9223372036854775807) (hbase:base≤w.heap.size)
  (h:∀v' w', Owns w' base e sz f v' (xs++ys)→Below base w w' → (∀k,k<w.heap.size→some k≠v.ownBlock→w'.heap[k]? = w.heap[k]?)→(∀k,v'.ownBlock=some k→v.ownBlock=some k∨w.heap.size≤k)→wpList Tryz.prog ops Q rest (a.put o.dst v') w') :
  wpList Tryz.prog ops Q (o::rest) a w:=by
 obtain⟨ht,i,z,hi,hz,hsize,hby,hzs,hsz⟩:=E;refine(?_:wpList Tryz.prog ops Q (o::rest) a w);obtain⟨ao,cap,rfl,g1,g2,g0,g9,g3⟩:=harr;simp only[List.length_map]at hx g1 g0 g3;cases ao with
 |none=>
  have hc:=g9 rfl;have hy:ys=[]:=by
   rcases ys with _|⟨y,ys⟩
   ·rfl
   ·simp at g1;omega
  subst hy hc;refine zF5 hgd s x T ho base e i sz ht hi v xs.length (xs.flatMap f) hs hown hx (h v w (by simpa using hown) (Below.refl _ _) (fun _ _ _=>rfl) (fun k hk=>.inl hk))
 |some ad=>
  refine zD7 hgd s x T ho base e i z sz by_ ht hi hz hsize hby hzs v xs.length (xs.flatMap f) hs hown ad ys.length cap (ys.flatMap f) hx (zC0 hf ys) ?_ ?_ (by unfold maxLen;omega) hlen hbase ?_
  ·intro j u hj;have hjl:j<ys.length * sz:=by rw[←zC0 hf ys];exact(List.getElem?_eq_some_iff.1 hj).1
   have hyn:ys.length≠0:=by intro h0;rw[h0]at hjl;omega
   obtain⟨b,off,had,_,hc⟩:=g3 hyn;obtain rfl:=Option.some.inj had;rw[Addr.add_lit,←hj,zL6 hf ys j hjl hsz,←hc (j / sz) (Nat.div_lt_of_lt_mul (by rw[Nat.mul_comm];exact hjl)) (j % sz) (Nat.mod_lt _ hsz)];have e:off+j / sz * sz+j % sz=off+j:=by
    have:=Nat.div_add_mod j sz;rw[Nat.mul_comm]at this;omega
   rw[e]
  ·intro u hu;obtain⟨y,hm,hy⟩:=List.mem_flatMap.1 hu;exact h1 y hm u hy
  ·intro v' w' ho' hg _ hb;refine h v' w' ?_ ((Below.refl _ _).grown hg hbase (fun k hk=>(OwnR.lt hown k hk).1)) (fun k hk hne=>hg.block k hk hne) (fun k hk=>?_)
   ·unfold Owns;simpa using ho'
   ·rcases hb with hb|hb
    ·exact .inl (by rw[←hb];exact hk)
    ·rw[hb]at hk;right;simp at hk;omega
theorem evRow_one (e:Ev):∀u∈evRow e,u.oneCell' = true:=by
 intro u hu;simp only[evRow,List.mem_cons,List.not_mem_nil,or_false]at hu;rcases hu with rfl|rfl|rfl <;> rfl
theorem jbRow_one (e:Jb):∀u∈jbRow e,u.oneCell' = true:=by
 intro u hu;simp only[jbRow,List.mem_cons,List.not_mem_nil,or_false]at hu;rcases hu with rfl|rfl|rfl <;> rfl
theorem elem_ev:Elem 95 173 3 24:=zF1 Tryz.underlying95 (z:=.agg #[.int .i64 0,.int .i64 0,.int .i64 0]) (by kernel_rfl) rfl (by omega)
theorem elem_jb:Elem 46 101 3 24:=zF1 Tryz.underlying46 (z:=.agg #[.int .i64 0,.int .i64 0,.int .i64 0]) (by kernel_rfl) rfl (by omega)
theorem elem_tj:Elem 37 65 5 56:=zF1 Tryz.underlying37 (z:=.agg #[.int .i64 0,.int .i64 0,.int .i64 0,.int .i64 0,.slice none 0 0]) (by kernel_rfl) rfl (by omega)
theorem cell_of {w w':World} {b:Nat} (h:w'.heap[b]? = w.heap[b]?) (o:Nat):w'.cell? ⟨b,o,none⟩=w.cell? ⟨b,o,none⟩∧w'.frozen? ⟨b,o,none⟩=w.frozen? ⟨b,o,none⟩:=by
 simp only[World.cell?,World.frozen?,h];exact⟨trivial,trivial⟩
theorem new_own {v v':Value} {w:World} (h:v'.ownBlock=v.ownBlock∨∃k,w.heap.size≤k∧v'.ownBlock=some k):∀k,v'.ownBlock=some k→v.ownBlock=some k∨w.heap.size≤k:=by
 intro k hk;rcases h with h|⟨j,hj,h⟩
 ·exact .inl (by rw[←h];exact hk)
 ·rw[h]at hk;obtain rfl:=Option.some.inj hk;exact .inr hj
def AddP (w:World) (base S Hb:Nat) (L:Nat→Value) (st:Cy) (ev:List Ev) (V:Nat→Value) (D:Nat→List TJV) (e:Ending) (w':World):Prop :=
 e=.returned (.tuple #[])∧∃v N' C', CyM w' base S Hb L st ev (upd V 19 v) N' C' D∧Below base w w' ∧ w.heap.size≤w'.heap.size∧Kp S Hb V w (upd V 19 v) w'
theorem add_any (kind who n : Nat) {w : World} {base S Hb : Nat} {L : Nat → Value} {st : Cy} {ev : List Ev} {V : Nat → Value} {N : Nat → Nat} {C : Nat → List Value} {D : Nat → List TJV} (h : CyM w base S Hb L st ev V N C D) (hl : ev.length ≤ 100000) :
  Calls Tryz.prog 144 #[.pointer (some ⟨Hb,0,none⟩),.int .i64 kind,.int .i64 who,.int .i64 n] w (AddP w base S Hb L st (ev++[⟨kind,who,n⟩]) V D):=by
 have HM:=hid h;obtain⟨e0,_,_,_,_,fr⟩:=h.hbox;have f0:=fr 0;have HH:=hid (zA3 h.bh);have HF:=hid (h.fh 19 (by omega));have HBS:=hid (show base≤w.heap.size from Nat.le_trans h.h0 (Nat.le_of_lt HH.out));clear h fr
 go_enter Tryz.func144,Tryz.ntmps144
 go_wp2_with (at_builtin;go_must (refine zC4 elem_ev evRow (fun _=>rfl) ⟨kind,who,n⟩ (evRow_one _) w rfl _ _ rfl base (V 19) ev (by rfl) HM.out.oEv _ (by rfl) (by rfl) (by omega) (by omega) HBS.out ?_;intro v' w' ho hz hk hown hb;obtain⟨va,vc,hv', _,_⟩:=ho.shape;simp only[List.length_append,List.length_cons,List.length_nil,Nat.zero_add]at hv';subst hv';obtain⟨g0,g1⟩:=cell_of (hk Hb HH.out HF.out) 0;rw[e0]at g0;rw[f0]at g1;have HO:=hid ho;have HZ:=hid hz;have HK:=hid hk;have HW:=hid hown;have HB:=hid hb;clear ho hz hk hown hb))
 obtain⟨N', C', hc,hkp⟩:=HM.out.setEv HK.out HZ.out HO.out (new_own HW.out);have hB:=HB.out.setCell (p:=⟨Hb,0,none⟩) HM.out.h0 (.slice va (ev.length+1) vc);refine bodyPost_end (v:=.tuple #[]) (by simp[results,Tryz.results144,go_sem]) rfl ⟨rfl,_,N', C', hc,hB,by simpa using HZ.out,hkp⟩
theorem add_ask (who n : Nat) {w : World} {base S Hb : Nat} {L : Nat → Value} {st : Cy} {ev : List Ev} {V : Nat → Value} {N : Nat → Nat} {C : Nat → List Value} {D : Nat → List TJV} (h : CyM w base S Hb L st ev V N C D) (hl : ev.length ≤ 100000) :
  Calls Tryz.prog 144 #[.pointer (some ⟨Hb,0,none⟩),.int .i64 1,.int .i64 who,.int .i64 n] w (AddP w base S Hb L st (ev++[⟨1,who,n⟩]) V D):=add_any 1 who n h hl
theorem add_do (who n : Nat) {w : World} {base S Hb : Nat} {L : Nat → Value} {st : Cy} {ev : List Ev} {V : Nat → Value} {N : Nat → Nat} {C : Nat → List Value} {D : Nat → List TJV} (h : CyM w base S Hb L st ev V N C D) (hl : ev.length ≤ 100000) :
  Calls Tryz.prog 144 #[.pointer (some ⟨Hb,0,none⟩),.int .i64 2,.int .i64 who,.int .i64 n] w (AddP w base S Hb L st (ev++[⟨2,who,n⟩]) V D):=add_any 2 who n h hl
theorem add_tell (who n : Nat) {w : World} {base S Hb : Nat} {L : Nat → Value} {st : Cy} {ev : List Ev} {V : Nat → Value} {N : Nat → Nat} {C : Nat → List Value} {D : Nat → List TJV} (h : CyM w base S Hb L st ev V N C D) (hl : ev.length ≤ 100000) :
  Calls Tryz.prog 144 #[.pointer (some ⟨Hb,0,none⟩),.int .i64 3,.int .i64 who,.int .i64 n] w (AddP w base S Hb L st (ev++[⟨3,who,n⟩]) V D):=add_any 3 who n h hl
def Jbs (w:World) (B:Nat) (v:Value) (xs:List Jb):Prop:=Arr w B 3 v (xs.map jbRow)
theorem Jbs.below {w w':World} {B:Nat} {v:Value} {xs:List Jb} (h:Jbs w B v xs) (hb:Below B w w'):Jbs w' B v xs:=Arr.below h hb
theorem Jbs.mono {w:World} {B B':Nat} {v:Value} {xs:List Jb} (h:Jbs w B v xs) (hb:B≤B'):Jbs w B' v xs:=Arr.mono h hb
theorem Jbs.opened {w : World} {B : Nat} {v : Value} {xs : List Jb} (h : Jbs w B v xs) :
  ∃ ao cap, v = .slice ao xs.length cap ∧ xs.length ≤ cap ∧ cap ≤ 9223372036854775807 ∧ xs.length ≤ 140737488351232 ∧ (ao = none → cap = 0) ∧
   (xs.length≠0→∃b off,ao=some ⟨b,off,none⟩∧b<B∧∀t,t<xs.length→w.cell? ⟨b,off+t * 3,none⟩=some (.int .i64 ((xs.getD t default).who:Nat))∧w.cell? ⟨b,off+t * 3+1,none⟩=some (.int .i64 ((xs.getD t default).n:Nat))∧w.cell? ⟨b,off+t * 3+2,none⟩=some (.int .i64 ((xs.getD t default).left:Nat))):=by
 obtain⟨ao,cap,hv,h1,h2,h0,h9,h3⟩:=h;simp only[List.length_map]at hv h1 h0 h3;refine⟨ao,cap,hv,h1,h2,h0,h9,fun hn=>?_⟩;obtain⟨b,off,ha,hlt,hc⟩:=h3 hn;refine⟨b,off,ha,hlt,fun t ht=>?_⟩;have e:(xs.map jbRow).getD t []=jbRow (xs.getD t default):=by simp[List.getD,ht]
 have c0:=hc t ht 0 (by omega);have c1:=hc t ht 1 (by omega);have c2:=hc t ht 2 (by omega);rw[e]at c0 c1 c2;exact⟨by simpa[jbRow]using c0,by simpa[jbRow]using c1,by simpa[jbRow]using c2⟩
theorem jbs_of {w:World} {base:Nat} {v:Value} {xs:List Jb} (h:Owns w base 101 3 jbRow v xs) (hn:xs.length≤140737488351232):Jbs w w.heap.size v xs:=h.arr (fun _=>rfl) hn
def IdxJP (p:Jb→Bool) (xs:List Jb) (w:World) (e:Ending) (w':World):Prop:=e=.returned (.int .i64 (idxP p xs))∧Below w.heap.size w w'
def HasJP (p:Jb→Bool) (xs:List Jb) (w:World) (e:Ending) (w':World):Prop:=e=.returned (.bool (xs.any p))∧Below w.heap.size w w'
theorem idxJb_any (K : FuncId) (cap : Array Value) (hK : zE4 K) (p : Jb → Bool) (v : Value) (xs : List Jb) (B : Nat) (w : World) (hv : Jbs w B v xs) (hB : B ≤ w.heap.size)
  (hf:∀(j:Jb) (w1:World),j∈xs→Below w.heap.size w w1→Calls Tryz.prog K (#[.agg #[.int .i64 j.who,.int .i64 j.n,.int .i64 j.left]]++cap) w1 fun e w' => e=.returned (.bool (p j))∧Below w1.heap.size w1 w') :
  Calls Tryz.prog 152 #[v,.func (.func K) #[] cap] w (IdxJP p xs w):=by
 obtain⟨ao,cap', rfl,hlc,hcap,hln,hni,hr⟩:=hv.opened;have HF:=hid hf;clear hf hv;have hK2:=fun args w=>hK args w
 go_enter Tryz.func152,Tryz.ntmps152
 go_wp2_with fail
 go_loopw [8] (fun i wr=>∃k:Nat,k≤xs.length∧i=.int .i64 k∧Below w.heap.size w wr∧∀j,j<k→p (xs.getD j default)=false) (fun i _=>xs.length - (intOf i).toNat)
 case atStart=>exact⟨0,Nat.zero_le _,rfl,Below.refl _ _,by simp⟩
 case round=>
  obtain⟨k,hk,rfl,hbl,hno⟩:=hrel;have HN:=hid hno;clear hno;by_cases hlt:k<xs.length
  ·obtain⟨b,off,rfl,hb,hc⟩:=hr (by omega);obtain⟨c0,c1,c2⟩:=hc k hlt;have HMEM:=hid (zB5 (d:=default) hlt);obtain⟨x,hx⟩:∃x,x=xs.getD k default:=⟨_,rfl⟩
   rw[←hx]at c0 c1 c2 HMEM;rw[←hbl.cell (p:=⟨b,_,none⟩) (Nat.lt_of_lt_of_le hb hB)]at c0 c1 c2;have HX:=hid hx;clear hx hc hr
   go_wp2_with fail
   refine(HF.out x _ HMEM.out hbl).mono ?_;rintro e w' ⟨rfl,hb'⟩;have hsz:=hbl.size;have HB:=hid (hbl.trans (hb'.mono hsz));clear hbl;rcases hp:p x with _|_
   ·have HQ:=hid (zK9 HN.out (show p (xs.getD k default)=false by rw[←HX.out];exact hp))
    go_wp2_with fail
    go_roundw
    case rel=>exact⟨k+1,by omega,by go_num,HB.out,HQ.out⟩
    case measure=>simp[intOf];omega
   ·have HQ:=hid (zM7 p xs k default hlt (by rw[←HX.out];exact hp) HN.out)
    go_wp2_with fail
    go_ret
    exact⟨by rw[HQ.out];rfl,HB.out⟩
  ·have HF2:=hid (zL8 p xs default (fun j hj=>HN.out j (by omega)))
   go_wp2_with fail
   go_ret
   exact⟨by rw[HF2.out];rfl,hbl⟩
theorem hasJb_any (K : FuncId) (cap : Array Value) (hK : zE4 K) (p : Jb → Bool) (v : Value) (xs : List Jb) (B : Nat) (w : World) (hv : Jbs w B v xs) (hB : B ≤ w.heap.size)
  (hf:∀(j:Jb) (w1:World),j∈xs→Below w.heap.size w w1→Calls Tryz.prog K (#[.agg #[.int .i64 j.who,.int .i64 j.n,.int .i64 j.left]]++cap) w1 fun e w' => e=.returned (.bool (p j))∧Below w1.heap.size w1 w') :
  Calls Tryz.prog 170 #[v,.func (.func K) #[] cap] w (HasJP p xs w):=by
 have HA:=hid (idxP_any p xs)
 go_enter Tryz.func170,Tryz.ntmps170
 go_wp2_with fail
 refine(idxJb_any K cap hK p v xs B _ hv hB hf).mono ?_;rintro e w' ⟨rfl,hb⟩
 go_wp2_with fail
 go_ret
 exact⟨by rw[←HA.out];rfl,hb⟩
theorem outTest_any (j : Jb) (n g : Nat) (w : World) (hc : w.cell? ⟨g, 0, none⟩ = some (.int .i64 (n : Nat))) (hg : g < w.heap.size) :
  Calls Tryz.prog 153 #[.agg #[.int .i64 j.who,.int .i64 j.n,.int .i64 j.left],.pointer (some ⟨g,0,none⟩)] w fun e w' => e=.returned (.bool (j.n==n))∧Below w.heap.size w w':=by
 have hq:((j.n:Int)==(n:Int))=(j.n==n):=by rw[Bool.eq_iff_iff];simp only[beq_iff_eq];omega
 have HQ:=hid hq;clear hq;have HB:=hid ((Below.refl w.heap.size w).alloc (Nat.le_refl _) (.cells #[.int .i64 j.who,.int .i64 j.n,.int .i64 j.left] 101))
 go_enter Tryz.func153,Tryz.ntmps153
 go_wp2_with fail
 go_ret
 exact⟨by rw[←HQ.out];rfl,HB.out⟩
def OutAtP (xs:List Jb) (n:Nat) (w:World) (e:Ending) (w':World):Prop:=e=.returned (.int .i64 (idxP (fun j=>j.n==n) xs))∧Below w.heap.size w w'
theorem outAt_any (next last : Int) (qa oa : Option Addr) (qn qc oc n : Nat) (xs : List Jb) (B : Nat) (w : World) (hv : Jbs w B (.slice oa xs.length oc) xs) (hB : B ≤ w.heap.size) :
  Calls Tryz.prog 109 #[.agg #[.int .i64 next,.slice qa qn qc,.slice oa xs.length oc,.int .i64 last],.int .i64 n] w (OutAtP xs n w):=by
 have HV:=hid hv;clear hv;have HB:=hid (fun(o p:Obj)=>(((Below.refl w.heap.size w).alloc (Nat.le_refl _) o).alloc (by simp) p))
 go_enter Tryz.func109,Tryz.ntmps109
 go_wp2_with (first
  |(go_at_call 152;go_loud (refine(idxJb_any 153 _ (zB3 Tryz.func153 (by kernel_rfl) (by kernel_rfl)) (fun j=>j.n==n) _ xs B _ (HV.out.below ((HB.out _ _).mono hB)) (by first|(simp;done)|(simp;omega)) (fun j w1 _ hb=>by simpa using outTest_any j n (w.heap.size+1) w1 (by rw[hb.cell (p:=⟨w.heap.size+1,0,none⟩) (by simp)];simp[go_sem]) (by have:=hb.size;simp at this;omega))).mono ?_;rintro e w2 ⟨rfl,hb2⟩)))
 go_ret
 exact⟨rfl,(HB.out _ _).trans (hb2.mono (by simp;omega))⟩
end Go.Proofs.YtgkdoehkmbhfiaaGreat
