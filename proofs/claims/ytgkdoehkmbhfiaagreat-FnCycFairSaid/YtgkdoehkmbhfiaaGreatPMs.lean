/- A cycle: what may reads: a bus by its parts, boxes, the id of what one asks. -/
import Derived.Test.YtgkdoehkmbhfiaaGreatPSo
import Derived.Test.YtgkdoehkmbhfiaaGreatPLib
import Derived.Test.YtgkdoehkmbhfiaaGreatPDat
import Derived.Test.YtgkdoehkmbhfiaaGreatPE1
import Derived.Test.YtgkdoehkmbhfiaaGreatPCloneP
import Derived.Outline
import Derived.Deep.Cut
import Derived.Deep.CutRange
import Derived.Lib.SliceRun
import Derived.Deep.RegionLaw
import Derived.BigGuardPart
import Derived.Deep.QuietTactic
import Derived.BigQuiet
import Derived.Deep.RegionHeld3
set_option linter.unusedVariables false
set_option linter.unusedSimpArgs false
set_option maxHeartbeats 16000000
namespace Go.Proofs.YtgkdoehkmbhfiaaGreat
open Go.RowKit
def Kp (S Hb:Nat) (V:Nat→Value) (w:World) (V':Nat→Value) (w':World):Prop:=∀b,DFree V S Hb w b→w'.heap[b]? = w.heap[b]? ∧ DFree V' S Hb w' b
theorem Kp.refl (S Hb:Nat) (V:Nat→Value) (w:World):Kp S Hb V w V w:=fun _ h=>⟨rfl,h⟩
theorem Kp.trans {S Hb:Nat} {V V' V'':Nat→Value} {w w' w'':World} (h:Kp S Hb V w V' w') (k:Kp S Hb V' w' V'' w''):Kp S Hb V w V'' w'':=fun b hb=>⟨((k b (h b hb).2).1).trans (h b hb).1,(k b (h b hb).2).2⟩
theorem Kp.below {S Hb:Nat} {V:Nat→Value} {w w':World} (h:Below w.heap.size w w'):Kp S Hb V w V w':=fun b hb=>⟨h.block b hb.1,Nat.lt_of_lt_of_le hb.1 h.size,hb.2⟩
theorem Kp.chg {S Hb:Nat} {V:Nat→Value} {w w':World} {κ:Nat} {v:Value} (hκ:κ<20) (hk:∀b,b<w.heap.size→(V κ).ownBlock≠some b→w'.heap[b]? = w.heap[b]?) (hsz:w.heap.size≤w'.heap.size) (hv:∀k,v.ownBlock=some k→(V κ).ownBlock=some k∨w.heap.size≤k):Kp S Hb V w (upd V κ v) w' :=
 fun b hb=>⟨hk b hb.1 (hb.2.1 κ hκ),Nat.lt_of_lt_of_le hb.1 hsz,hb.2.1.chg (w:=w) hb.1 hv hκ,hb.2.2⟩
theorem Kp.cell {S Hb:Nat} {V:Nat→Value} {w:World} {g:Nat} (hg:g=S∨g=Hb∨∃μ,μ<20∧(V μ).ownBlock=some g) (o:Nat) (u:Value):Kp S Hb V w V (w.setCell ⟨g,o,none⟩ u):=fun b hb=>by
 have hne:b≠g:=by
  rcases hg with hg|hg|⟨μ,hμ,hg⟩
  ·rw[hg];exact hb.2.2.1
  ·rw[hg];exact hb.2.2.2
  ·intro e;exact hb.2.1 μ hμ (by rw[hg,e])
 exact⟨Below.heap_setCell _ _ _ _ hne,by simpa using hb.1,hb.2⟩
section
variable {w w1 : World} {base S Hb : Nat} {L : Nat → Value} {st : Cy} {ev : List Ev} {V : Nat → Value} {N : Nat → Nat} {C : Nat → List Value} {D : Nat → List TJV}
theorem ety_q {i:Nat} (hi:i<3):ety (5+i)=3∧esz (5+i)=1:=by rcases(show i=0∨i=1∨i=2 by omega)with rfl|rfl|rfl <;> exact⟨rfl,rfl⟩
theorem ety_o {i:Nat} (hi:i<3):ety (8+i)=101∧esz (8+i)=3:=by rcases(show i=0∨i=1∨i=2 by omega)with rfl|rfl|rfl <;> exact⟨rfl,rfl⟩
theorem ety_p {i:Nat} (hi:i<4):ety (11+i)=101∧esz (11+i)=3:=by rcases(show i=0∨i=1∨i=2∨i=3 by omega)with rfl|rfl|rfl|rfl <;> exact⟨rfl,rfl⟩
theorem ety_d {i:Nat} (hi:i<4):ety (15+i)=65∧esz (15+i)=5:=by rcases(show i=0∨i=1∨i=2∨i=3 by omega)with rfl|rfl|rfl|rfl <;> exact⟨rfl,rfl⟩
theorem CyM.oQueue (h:CyM w base S Hb L st ev V N C D) {i:Nat} (hi:i<3):Owns w base 3 1 rowN (V (5+i)) (st.ports i).queue:=by
 have:=h.raw.own (5+i) (by omega)
 rwa [h.con.nq i hi,h.con.cq i hi,(ety_q hi).1,(ety_q hi).2]at this
theorem CyM.oOut (h:CyM w base S Hb L st ev V N C D) {i:Nat} (hi:i<3):Owns w base 101 3 jbRow (V (8+i)) (st.ports i).out:=by
 have:=h.raw.own (8+i) (by omega)
 rwa [h.con.no i hi,h.con.co i hi,(ety_o hi).1,(ety_o hi).2]at this
theorem CyM.oPipe (h:CyM w base S Hb L st ev V N C D) {s:Nat} (hs:s<4):Owns w base 101 3 jbRow (V (11+s)) (st.slaves s).pipe:=by
 have:=h.raw.own (11+s) (by omega)
 rwa [h.con.np s hs,h.con.cp s hs,(ety_p hs).1,(ety_p hs).2]at this
theorem CyM.lDone (h:CyM w base S Hb L st ev V N C D) {s:Nat} (hs:s<4):(D (15+s)).length=(st.slaves s).done.length:=by rw[←h.con.td s hs];simp
theorem CyM.oDone (h:CyM w base S Hb L st ev V N C D) {s:Nat} (hs:s<4):Owns w base 65 5 tjRow (V (15+s)) (D (15+s)):=by
 have:=h.raw.own (15+s) (by omega);rw[h.con.nd s hs,h.con.cd s hs,(ety_d hs).1,(ety_d hs).2,←h.lDone hs]at this;exact this
theorem CyM.oTold (h:CyM w base S Hb L st ev V N C D):Owns w base 65 5 tjRow (V 4) (D 4):=by
 have:=h.raw.own 4 (by omega);rw[h.con.n4,h.con.c4,←h.con.t4,List.length_map]at this;exact this
theorem CyM.oEv (h:CyM w base S Hb L st ev V N C D):Owns w base 173 3 evRow (V 19) ev:=by
 have:=h.raw.own 19 (by omega);rw[h.con.ne,h.con.ce]at this;exact this
theorem CyM.ports (h:CyM w base S Hb L st ev V N C D):∃g off cap,V 2=.slice (some ⟨g,off,none⟩) 3 cap∧3≤cap∧cap≤9223372036854775807∧base≤g∧g<w.heap.size:=by
 obtain⟨g,off,cap,e,r⟩:=(h.raw.own 2 (by omega)).addr (by rw[h.con.n2];omega);rw[h.con.n2]at e r;exact⟨g,off,cap,e,r⟩
theorem CyM.stores (h:CyM w base S Hb L st ev V N C D):∃g off cap,V 3=.slice (some ⟨g,off,none⟩) 4 cap∧4≤cap∧cap≤9223372036854775807∧base≤g∧g<w.heap.size:=by
 obtain⟨g,off,cap,e,r⟩:=(h.raw.own 3 (by omega)).addr (by rw[h.con.n3];omega);rw[h.con.n3]at e r;exact⟨g,off,cap,e,r⟩
theorem CyM.port (h : CyM w base S Hb L st ev V N C D) {g off cap i : Nat} (hV : V 2 = .slice (some ⟨g, off, none⟩) 3 cap) (hi : i < 3) :
  w.cell? ⟨g,off+i * 4,none⟩=some (.int .i64 (st.ports i).next)∧w.cell? ⟨g,off+i * 4+1,none⟩=some (V (5+i))∧w.cell? ⟨g,off+i * 4+2,none⟩=some (V (8+i))∧w.cell? ⟨g,off+i * 4+3,none⟩=some (.int .i64 (st.ports i).last)∧∀o,w.frozen? ⟨g,o,none⟩=false:=by
 have ho:=h.raw.own 2 (by omega);rw[hV,h.con.n2,h.con.c2]at ho;have key:∀j,j<12→w.cell? ⟨g,off+j,none⟩=_:=fun j hj=>ho.get j (by exact hj)
 have fr:=ho.unfrozen;simp only[ptRow]at key;rcases(show i=0∨i=1∨i=2 by omega)with rfl|rfl|rfl
 ·exact⟨key 0 (by omega),key 1 (by omega),key 2 (by omega),key 3 (by omega),fr⟩
 ·exact⟨key 4 (by omega),key 5 (by omega),key 6 (by omega),key 7 (by omega),fr⟩
 ·exact⟨key 8 (by omega),key 9 (by omega),key 10 (by omega),key 11 (by omega),fr⟩
theorem CyM.store (h : CyM w base S Hb L st ev V N C D) {g off cap s : Nat} (hV : V 3 = .slice (some ⟨g, off, none⟩) 4 cap) (hs : s < 4) :
  w.cell? ⟨g,off+s * 3,none⟩=some (V (11+s))∧w.cell? ⟨g,off+s * 3+1,none⟩=some (V (15+s))∧w.cell? ⟨g,off+s * 3+2,none⟩=some (.int .i64 (st.slaves s).last)∧∀o,w.frozen? ⟨g,o,none⟩=false:=by
 have ho:=h.raw.own 3 (by omega);rw[hV,h.con.n3,h.con.c3]at ho;have key:∀j,j<12→w.cell? ⟨g,off+j,none⟩=_:=fun j hj=>ho.get j (by exact hj)
 have fr:=ho.unfrozen;simp only[svRow]at key;rcases(show s=0∨s=1∨s=2∨s=3 by omega)with rfl|rfl|rfl|rfl
 ·exact⟨key 0 (by omega),key 1 (by omega),key 2 (by omega),fr⟩
 ·exact⟨key 3 (by omega),key 4 (by omega),key 5 (by omega),fr⟩
 ·exact⟨key 6 (by omega),key 7 (by omega),key 8 (by omega),fr⟩
 ·exact⟨key 9 (by omega),key 10 (by omega),key 11 (by omega),fr⟩
theorem CyM.box (h:CyM w base S Hb L st ev V N C D):w.cell? ⟨S,0,none⟩=some (V 0)∧w.cell? ⟨S,1,none⟩=some (V 1)∧w.cell? ⟨S,2,none⟩=some (V 2)∧w.cell? ⟨S,3,none⟩=some (V 3)∧w.cell? ⟨S,4,none⟩=some (V 4)∧∀o,w.frozen? ⟨S,o,none⟩=false:=by
 have:=h.bs;refine⟨?_,?_,?_,?_,?_,fun o=>?_⟩ <;> simp[World.cell?,World.frozen?,this]
theorem CyM.hbox (h:CyM w base S Hb L st ev V N C D):w.cell? ⟨Hb,0,none⟩=some (V 19)∧w.cell? ⟨Hb,1,none⟩=some (L 0)∧w.cell? ⟨Hb,2,none⟩=some (L 1)∧w.cell? ⟨Hb,3,none⟩=some (L 2)∧w.cell? ⟨Hb,4,none⟩=some (L 3)∧∀o,w.frozen? ⟨Hb,o,none⟩=false:=by
 have:=h.bh;refine⟨?_,?_,?_,?_,?_,fun o=>?_⟩ <;> simp[World.cell?,World.frozen?,this]
theorem CyM.setTold (h : CyM w base S Hb L st ev V N C D) {v : Value} {X : List TJV} (hk : ∀ b, b < w.heap.size → (V 4).ownBlock ≠ some b → w1.heap[b]? = w.heap[b]?) (hsz : w.heap.size ≤ w1.heap.size) (ho : Owns w1 base 65 5 tjRow v X)
  (hv:∀k,v.ownBlock=some k→(V 4).ownBlock=some k∨w.heap.size≤k) (hd:∀x∈X,DatP L w1 (DFree (upd V 4 v) S Hb w1) x) :
  ∃N' C', CyM (w1.setCell ⟨S,4,none⟩ v) base S Hb L { st with told:=X.map (·.1) } ev (upd V 4 v) N' C' (upd D 4 X)∧Kp S Hb V w (upd V 4 v) (w1.setCell ⟨S,4,none⟩ v) :=
 ⟨_,_,h.toldPut hk hsz ho hv (fun i hi=>zA0 _ _ hi) (by rw[zA1];exact hd) (h.con.told v X),(Kp.chg (by omega) hk hsz hv).trans (Kp.cell (.inl rfl) _ _)⟩
theorem CyM.setEv (h : CyM w base S Hb L st ev V N C D) {v : Value} {e : List Ev} (hk : ∀ b, b < w.heap.size → (V 19).ownBlock ≠ some b → w1.heap[b]? = w.heap[b]?) (hsz : w.heap.size ≤ w1.heap.size) (ho : Owns w1 base 173 3 evRow v e)
  (hv:∀k,v.ownBlock=some k→(V 19).ownBlock=some k∨w.heap.size≤k) :
  ∃N' C', CyM (w1.setCell ⟨Hb,0,none⟩ v) base S Hb L st e (upd V 19 v) N' C' D∧Kp S Hb V w (upd V 19 v) (w1.setCell ⟨Hb,0,none⟩ v):=⟨_,_,h.evPut hk hsz ho hv (h.con.evts v e),(Kp.chg (by omega) hk hsz hv).trans (Kp.cell (.inr (.inl rfl)) _ _)⟩
theorem CyM.setDone (h : CyM w base S Hb L st ev V N C D) {s g off cap : Nat} (hs : s < 4) (hV : V 3 = .slice (some ⟨g, off, none⟩) 4 cap) {v : Value} {X : List TJV} (hk : ∀ b, b < w.heap.size → (V (15 + s)).ownBlock ≠ some b → w1.heap[b]? = w.heap[b]?) (hsz : w.heap.size ≤ w1.heap.size)
  (ho:Owns w1 base 65 5 tjRow v X) (hv:∀k,v.ownBlock=some k→(V (15+s)).ownBlock=some k∨w.heap.size≤k) (hd:∀x∈X,DatP L w1 (DFree (upd V (15+s) v) S Hb w1) x) :
  ∃N' C', CyM (w1.setCell ⟨g,off+s * 3+1,none⟩ v) base S Hb L { st with slaves:=upd st.slaves s { st.slaves s with done:=X.map (·.1) } } ev (upd V (15+s) v) N' C' (upd D (15+s) X)∧Kp S Hb V w (upd V (15+s) v) (w1.setCell ⟨g,off+s * 3+1,none⟩ v):=by
 have:=h.put (κ:=15+s) (μ:=3) (j:=s * 3+1) (v:=v) (n:=X.length) (c:=X.flatMap tjRow) (D':=upd D (15+s) X) (by omega) (.inr rfl) (by rw[h.con.n3];exact hV) (by rw[h.con.n3];show s * 3+1<12;omega) hk hsz (by rw[(ety_d hs).1,(ety_d hs).2];exact ho) hv (fun i hi=>zA0 _ _ hi) (by rw[zA1];exact hd) (h.con.done hs v X);exact⟨_,_,by rw[Nat.add_assoc];exact this,(Kp.chg (by omega) hk hsz hv).trans (Kp.cell (.inr (.inr ⟨3,by omega,by rw[zA0 _ _ (by omega),hV];rfl⟩)) _ _)⟩
theorem CyM.setPipe (h : CyM w base S Hb L st ev V N C D) {s g off cap : Nat} (hs : s < 4) (hV : V 3 = .slice (some ⟨g, off, none⟩) 4 cap) {v : Value} {x : List Jb} (hk : ∀ b, b < w.heap.size → (V (11 + s)).ownBlock ≠ some b → w1.heap[b]? = w.heap[b]?) (hsz : w.heap.size ≤ w1.heap.size)
  (ho:Owns w1 base 101 3 jbRow v x) (hv:∀k,v.ownBlock=some k→(V (11+s)).ownBlock=some k∨w.heap.size≤k) :
  ∃N' C', CyM (w1.setCell ⟨g,off+s * 3,none⟩ v) base S Hb L { st with slaves:=upd st.slaves s { st.slaves s with pipe:=x } } ev (upd V (11+s) v) N' C' D∧Kp S Hb V w (upd V (11+s) v) (w1.setCell ⟨g,off+s * 3,none⟩ v):=by
 have:=h.put (κ:=11+s) (μ:=3) (j:=s * 3+0) (v:=v) (n:=x.length) (c:=x.flatMap jbRow) (D':=D) (by omega) (.inr rfl) (by rw[h.con.n3];exact hV) (by rw[h.con.n3];show s * 3+0<12;omega) hk hsz (by rw[(ety_p hs).1,(ety_p hs).2];exact ho) hv (fun i _=>rfl) (fun y hy=>h.old (by omega) (by omega) hk hsz hv hy) (h.con.pipe hs v x);exact⟨_,_,this,(Kp.chg (by omega) hk hsz hv).trans (Kp.cell (.inr (.inr ⟨3,by omega,by rw[zA0 _ _ (by omega),hV];rfl⟩)) _ _)⟩
theorem CyM.setQueue (h : CyM w base S Hb L st ev V N C D) {i g off cap : Nat} (hi : i < 3) (hV : V 2 = .slice (some ⟨g, off, none⟩) 3 cap) {v : Value} {x : List Nat} (hk : ∀ b, b < w.heap.size → (V (5 + i)).ownBlock ≠ some b → w1.heap[b]? = w.heap[b]?) (hsz : w.heap.size ≤ w1.heap.size)
  (ho:Owns w1 base 3 1 rowN v x) (hv:∀k,v.ownBlock=some k→(V (5+i)).ownBlock=some k∨w.heap.size≤k) :
  ∃N' C', CyM (w1.setCell ⟨g,off+i * 4+1,none⟩ v) base S Hb L { st with ports:=upd st.ports i { st.ports i with queue:=x } } ev (upd V (5+i) v) N' C' D∧Kp S Hb V w (upd V (5+i) v) (w1.setCell ⟨g,off+i * 4+1,none⟩ v):=by
 have:=h.put (κ:=5+i) (μ:=2) (j:=i * 4+1) (v:=v) (n:=x.length) (c:=x.flatMap rowN) (D':=D) (by omega) (.inl rfl) (by rw[h.con.n2];exact hV) (by rw[h.con.n2];show i * 4+1<12;omega) hk hsz (by rw[(ety_q hi).1,(ety_q hi).2];exact ho) hv (fun i _=>rfl) (fun y hy=>h.old (by omega) (by omega) hk hsz hv hy) (h.con.queue hi v x);exact⟨_,_,by rw[Nat.add_assoc];exact this,(Kp.chg (by omega) hk hsz hv).trans (Kp.cell (.inr (.inr ⟨2,by omega,by rw[zA0 _ _ (by omega),hV];rfl⟩)) _ _)⟩
theorem CyM.setOut (h : CyM w base S Hb L st ev V N C D) {i g off cap : Nat} (hi : i < 3) (hV : V 2 = .slice (some ⟨g, off, none⟩) 3 cap) {v : Value} {x : List Jb} (hk : ∀ b, b < w.heap.size → (V (8 + i)).ownBlock ≠ some b → w1.heap[b]? = w.heap[b]?) (hsz : w.heap.size ≤ w1.heap.size)
  (ho:Owns w1 base 101 3 jbRow v x) (hv:∀k,v.ownBlock=some k→(V (8+i)).ownBlock=some k∨w.heap.size≤k) :
  ∃N' C', CyM (w1.setCell ⟨g,off+i * 4+2,none⟩ v) base S Hb L { st with ports:=upd st.ports i { st.ports i with out:=x } } ev (upd V (8+i) v) N' C' D∧Kp S Hb V w (upd V (8+i) v) (w1.setCell ⟨g,off+i * 4+2,none⟩ v):=by
 have:=h.put (κ:=8+i) (μ:=2) (j:=i * 4+2) (v:=v) (n:=x.length) (c:=x.flatMap jbRow) (D':=D) (by omega) (.inl rfl) (by rw[h.con.n2];exact hV) (by rw[h.con.n2];show i * 4+2<12;omega) hk hsz (by rw[(ety_o hi).1,(ety_o hi).2];exact ho) hv (fun i _=>rfl) (fun y hy=>h.old (by omega) (by omega) hk hsz hv hy) (h.con.out hi v x);exact⟨_,_,by rw[Nat.add_assoc];exact this,(Kp.chg (by omega) hk hsz hv).trans (Kp.cell (.inr (.inr ⟨2,by omega,by rw[zA0 _ _ (by omega),hV];rfl⟩)) _ _)⟩
theorem CyM.setNext (h : CyM w base S Hb L st ev V N C D) {i g off cap : Nat} (hi : i < 3) (hV : V 2 = .slice (some ⟨g, off, none⟩) 3 cap) (x : Nat) :
  ∃N' C', CyM (w.setCell ⟨g,off+i * 4,none⟩ (.int .i64 (x:Nat))) base S Hb L { st with ports:=upd st.ports i { st.ports i with next:=x } } ev V N' C' D∧Kp S Hb V w V (w.setCell ⟨g,off+i * 4,none⟩ (.int .i64 (x:Nat))):=by
 have:=h.cell (κ:=2) (j:=i * 4+0) (u:=.int .i64 (x:Nat)) (by omega) (by rw[h.con.n2];exact hV) (by rw[h.con.n2];show i * 4+0<12;omega) (h.con.next hi x);exact⟨_,_,this,Kp.cell (.inr (.inr ⟨2,by omega,by rw[hV];rfl⟩)) _ _⟩
theorem CyM.setLast (h : CyM w base S Hb L st ev V N C D) {i g off cap : Nat} (hi : i < 3) (hV : V 2 = .slice (some ⟨g, off, none⟩) 3 cap) (x : Nat) :
  ∃N' C', CyM (w.setCell ⟨g,off+i * 4+3,none⟩ (.int .i64 (x:Nat))) base S Hb L { st with ports:=upd st.ports i { st.ports i with last:=x } } ev V N' C' D∧Kp S Hb V w V (w.setCell ⟨g,off+i * 4+3,none⟩ (.int .i64 (x:Nat))):=by
 have:=h.cell (κ:=2) (j:=i * 4+3) (u:=.int .i64 (x:Nat)) (by omega) (by rw[h.con.n2];exact hV) (by rw[h.con.n2];show i * 4+3<12;omega) (h.con.plast hi x);exact⟨_,_,by rw[Nat.add_assoc];exact this,Kp.cell (.inr (.inr ⟨2,by omega,by rw[hV];rfl⟩)) _ _⟩
theorem CyM.setSlast (h : CyM w base S Hb L st ev V N C D) {s g off cap : Nat} (hs : s < 4) (hV : V 3 = .slice (some ⟨g, off, none⟩) 4 cap) (x : Nat) :
  ∃N' C', CyM (w.setCell ⟨g,off+s * 3+2,none⟩ (.int .i64 (x:Nat))) base S Hb L { st with slaves:=upd st.slaves s { st.slaves s with last:=x } } ev V N' C' D∧Kp S Hb V w V (w.setCell ⟨g,off+s * 3+2,none⟩ (.int .i64 (x:Nat))):=by
 have:=h.cell (κ:=3) (j:=s * 3+2) (u:=.int .i64 (x:Nat)) (by omega) (by rw[h.con.n3];exact hV) (by rw[h.con.n3];show s * 3+2<12;omega) (h.con.slast hs x);exact⟨_,_,by rw[Nat.add_assoc];exact this,Kp.cell (.inr (.inr ⟨3,by omega,by rw[hV];rfl⟩)) _ _⟩
theorem CyM.setLeft (h : CyM w base S Hb L st ev V N C D) {s g off n cap : Nat} (hs : s < 4) (hV : V (11 + s) = .slice (some ⟨g, off, none⟩) n cap) {j : Jb} {rest : List Jb} (hp : (st.slaves s).pipe = j :: rest) (x : Nat) :
  ∃N' C', CyM (w.setCell ⟨g,off+2,none⟩ (.int .i64 (x:Nat))) base S Hb L { st with slaves:=upd st.slaves s { st.slaves s with pipe:=⟨j.who,j.n,x⟩::rest } } ev V N' C' D∧Kp S Hb V w V (w.setCell ⟨g,off+2,none⟩ (.int .i64 (x:Nat))):=by
 have hn:N (11+s)=n:=by
  obtain⟨a,c,e,_⟩:=(h.raw.own (11+s) (by omega)).form;rw[hV]at e;simp only[Value.slice.injEq]at e;exact e.2.1.symm
 have:=h.cell (κ:=11+s) (j:=2) (u:=.int .i64 (x:Nat)) (by omega) (by rw[hn];exact hV) (by rw[h.con.np s hs,hp,(ety_p hs).2];simp;omega) (h.con.pleft hs hp x);exact⟨_,_,this,Kp.cell (.inr (.inr ⟨11+s,by omega,by rw[hV];rfl⟩)) _ _⟩
end
end Go.Proofs.YtgkdoehkmbhfiaaGreat
namespace Go.Proofs.YtgkdoehkmbhfiaaGreat
open Go.RowKit
theorem wpList_catL {α : Type} {ops : Array Oper} {rest : List Oper} {o : Oper} {a : Act} {Q : Exit → Act → World → Prop} {T e sz by_ : Nat} (E : Elem T e sz by_) (f : α → List Value) (hf : ∀ x, (f x).length = sz)
  (w:World) (hgd:o.guard=none) (s x:Operand) (ho:o.op=.call { callee:=.builtin .append,args:=#[s,x],argTypes:=#[T,T] })
  (base:Nat) (v:Value) (xs:List α) (hs:a.eval s=v) (hown:Owns w base e sz f v xs) (u:Value) (ys:List α) (B:Nat) (hx:a.eval x=u) (harr:Arr w B sz u (ys.map f)) (h1:∀y∈ys,∀u∈f y,u.oneCell' = true)
  (hlen:(xs.length+ys.length) * by_≤140737488355328) (hlen2:xs.length+ys.length≤9223372036854775807) (hbase:base≤w.heap.size)
  (h:∀v' w', Owns w' base e sz f v' (xs++ys)→Below base w w' → (∀k,k<w.heap.size→some k≠v.ownBlock→w'.heap[k]? = w.heap[k]?)→(∀k,v'.ownBlock=some k→v.ownBlock=some k∨w.heap.size≤k)→wpList Tryz.prog ops Q rest (a.put o.dst v') w') :
  wpList Tryz.prog ops Q (o::rest) a w:=by
 obtain⟨ht,i,z,hi,hz,hsize,hby,hzs,hsz⟩:=E;refine(?_:wpList Tryz.prog ops Q (o::rest) a w);obtain⟨ao,cap,rfl,g1,g2,g0,g9,g3⟩:=harr;simp only[List.length_map]at hx g1 g0 g3;cases ao with
 |none=>
  have hc:=g9 rfl;have hy:ys=[]:=by
   rcases ys with _|⟨y,ys⟩
   ·rfl
   ·simp at g1;omega
  subst hy hc;refine zE6 hgd s x T ho base e i sz ht hi v xs.length (xs.flatMap f) hs hown hx (h v w (by simpa using hown) (Below.refl _ _) (fun _ _ _=>rfl) (fun k hk=>.inl hk))
 |some ad=>
  refine zD4 hgd s x T ho base e i z sz by_ ht hi hz hsize hby hzs v xs.length (xs.flatMap f) hs hown ad ys.length cap (ys.flatMap f) hx (zB8 hf ys) ?_ ?_ (by unfold maxLen;omega) hlen hbase ?_
  ·intro j u hj;have hjl:j<ys.length * sz:=by rw[←zB8 hf ys];exact(List.getElem?_eq_some_iff.1 hj).1
   have hyn:ys.length≠0:=by intro h0;rw[h0]at hjl;omega
   obtain⟨b,off,had,_,hc⟩:=g3 hyn;obtain rfl:=Option.some.inj had;rw[Addr.add_lit,←hj,zJ8 hf ys j hjl hsz,←hc (j / sz) (Nat.div_lt_of_lt_mul (by rw[Nat.mul_comm];exact hjl)) (j % sz) (Nat.mod_lt _ hsz)];have e:off+j / sz * sz+j % sz=off+j:=by
    have:=Nat.div_add_mod j sz;rw[Nat.mul_comm]at this;omega
   rw[e]
  ·intro u hu;obtain⟨y,hm,hy⟩:=List.mem_flatMap.1 hu;exact h1 y hm u hy
  ·intro v' w' ho' hg _ hb;refine h v' w' ?_ ((Below.refl _ _).grown hg hbase (fun k hk=>(OwnR.lt hown k hk).1)) (fun k hk hne=>hg.block k hk hne) (fun k hk=>?_)
   ·unfold Owns;simpa using ho'
   ·rcases hb with hb|hb
    ·exact .inl (by rw[←hb];exact hk)
    ·rw[hb]at hk;right;simp at hk;omega
theorem evRow_one (e:Ev):∀u∈evRow e,u.oneCell' = true:=by
 intro u hu;simp only[evRow,List.mem_cons,List.not_mem_nil,or_false]at hu;rcases hu with rfl|rfl|rfl <;> rfl
theorem jbRow_one (e:Jb):∀u∈jbRow e,u.oneCell' = true:=by
 intro u hu;simp only[jbRow,List.mem_cons,List.not_mem_nil,or_false]at hu;rcases hu with rfl|rfl|rfl <;> rfl
theorem elem_ev:Elem 95 173 3 24:=zE9 Tryz.underlying95 (z:=.agg #[.int .i64 0,.int .i64 0,.int .i64 0]) (by kernel_rfl) rfl (by omega)
theorem elem_jb:Elem 46 101 3 24:=zE9 Tryz.underlying46 (z:=.agg #[.int .i64 0,.int .i64 0,.int .i64 0]) (by kernel_rfl) rfl (by omega)
theorem elem_tj:Elem 37 65 5 56:=zE9 Tryz.underlying37 (z:=.agg #[.int .i64 0,.int .i64 0,.int .i64 0,.int .i64 0,.slice none 0 0]) (by kernel_rfl) rfl (by omega)
theorem cell_of {w w':World} {b:Nat} (h:w'.heap[b]? = w.heap[b]?) (o:Nat):w'.cell? ⟨b,o,none⟩=w.cell? ⟨b,o,none⟩∧w'.frozen? ⟨b,o,none⟩=w.frozen? ⟨b,o,none⟩:=by
 simp only[World.cell?,World.frozen?,h];exact⟨trivial,trivial⟩
theorem new_own {v v':Value} {w:World} (h:v'.ownBlock=v.ownBlock∨∃k,w.heap.size≤k∧v'.ownBlock=some k):∀k,v'.ownBlock=some k→v.ownBlock=some k∨w.heap.size≤k:=by
 intro k hk;rcases h with h|⟨j,hj,h⟩
 ·exact .inl (by rw[←h];exact hk)
 ·rw[h]at hk;obtain rfl:=Option.some.inj hk;exact .inr hj
def AddP (w:World) (base S Hb:Nat) (L:Nat→Value) (st:Cy) (ev:List Ev) (V:Nat→Value) (D:Nat→List TJV) (e:Ending) (w':World):Prop :=
 e=.returned (.tuple #[])∧∃v N' C', CyM w' base S Hb L st ev (upd V 19 v) N' C' D∧Below base w w' ∧ w.heap.size≤w'.heap.size∧Kp S Hb V w (upd V 19 v) w'
theorem add_any (kind who n : Nat) {w : World} {base S Hb : Nat} {L : Nat → Value} {st : Cy} {ev : List Ev} {V : Nat → Value} {N : Nat → Nat} {C : Nat → List Value} {D : Nat → List TJV} (h : CyM w base S Hb L st ev V N C D) (hl : ev.length ≤ 100000) :
  Calls Tryz.prog 144 #[.pointer (some ⟨Hb,0,none⟩),.int .i64 kind,.int .i64 who,.int .i64 n] w (AddP w base S Hb L st (ev++[⟨kind,who,n⟩]) V D):=by
 have HM:=hid h;obtain⟨e0,_,_,_,_,fr⟩:=h.hbox;have f0:=fr 0;have HH:=hid (zA2 h.bh);have HF:=hid (h.fh 19 (by omega));have HBS:=hid (show base≤w.heap.size from Nat.le_trans h.h0 (Nat.le_of_lt HH.out));clear h fr
 go_enter Tryz.func144,Tryz.ntmps144
 go_wp2_with (at_builtin;go_must (refine zB6 elem_ev evRow (fun _=>rfl) ⟨kind,who,n⟩ (evRow_one _) w rfl _ _ rfl base (V 19) ev (by rfl) HM.out.oEv _ (by rfl) (by rfl) (by omega) (by omega) HBS.out ?_;intro v' w' ho hz hk hown hb;obtain⟨va,vc,hv', _,_⟩:=ho.shape;simp only[List.length_append,List.length_cons,List.length_nil,Nat.zero_add]at hv';subst hv';obtain⟨g0,g1⟩:=cell_of (hk Hb HH.out HF.out) 0;rw[e0]at g0;rw[f0]at g1;have HO:=hid ho;have HZ:=hid hz;have HK:=hid hk;have HW:=hid hown;have HB:=hid hb;clear ho hz hk hown hb))
 obtain⟨N', C', hc,hkp⟩:=HM.out.setEv HK.out HZ.out HO.out (new_own HW.out);have hB:=HB.out.setCell (p:=⟨Hb,0,none⟩) HM.out.h0 (.slice va (ev.length+1) vc);refine bodyPost_end (v:=.tuple #[]) (by simp[results,Tryz.results144,go_sem]) rfl ⟨rfl,_,N', C', hc,hB,by simpa using HZ.out,hkp⟩
theorem add_ask (who n : Nat) {w : World} {base S Hb : Nat} {L : Nat → Value} {st : Cy} {ev : List Ev} {V : Nat → Value} {N : Nat → Nat} {C : Nat → List Value} {D : Nat → List TJV} (h : CyM w base S Hb L st ev V N C D) (hl : ev.length ≤ 100000) :
  Calls Tryz.prog 144 #[.pointer (some ⟨Hb,0,none⟩),.int .i64 1,.int .i64 who,.int .i64 n] w (AddP w base S Hb L st (ev++[⟨1,who,n⟩]) V D):=add_any 1 who n h hl
theorem add_do (who n : Nat) {w : World} {base S Hb : Nat} {L : Nat → Value} {st : Cy} {ev : List Ev} {V : Nat → Value} {N : Nat → Nat} {C : Nat → List Value} {D : Nat → List TJV} (h : CyM w base S Hb L st ev V N C D) (hl : ev.length ≤ 100000) :
  Calls Tryz.prog 144 #[.pointer (some ⟨Hb,0,none⟩),.int .i64 2,.int .i64 who,.int .i64 n] w (AddP w base S Hb L st (ev++[⟨2,who,n⟩]) V D):=add_any 2 who n h hl
theorem add_tell (who n : Nat) {w : World} {base S Hb : Nat} {L : Nat → Value} {st : Cy} {ev : List Ev} {V : Nat → Value} {N : Nat → Nat} {C : Nat → List Value} {D : Nat → List TJV} (h : CyM w base S Hb L st ev V N C D) (hl : ev.length ≤ 100000) :
  Calls Tryz.prog 144 #[.pointer (some ⟨Hb,0,none⟩),.int .i64 3,.int .i64 who,.int .i64 n] w (AddP w base S Hb L st (ev++[⟨3,who,n⟩]) V D):=add_any 3 who n h hl
def Jbs (w:World) (B:Nat) (v:Value) (xs:List Jb):Prop:=Arr w B 3 v (xs.map jbRow)
theorem Jbs.below {w w':World} {B:Nat} {v:Value} {xs:List Jb} (h:Jbs w B v xs) (hb:Below B w w'):Jbs w' B v xs:=Arr.below h hb
theorem Jbs.mono {w:World} {B B':Nat} {v:Value} {xs:List Jb} (h:Jbs w B v xs) (hb:B≤B'):Jbs w B' v xs:=Arr.mono h hb
theorem Jbs.opened {w : World} {B : Nat} {v : Value} {xs : List Jb} (h : Jbs w B v xs) :
  ∃ ao cap, v = .slice ao xs.length cap ∧ xs.length ≤ cap ∧ cap ≤ 9223372036854775807 ∧ xs.length ≤ 140737488351232 ∧ (ao = none → cap = 0) ∧
   (xs.length≠0→∃b off,ao=some ⟨b,off,none⟩∧b<B∧∀t,t<xs.length→w.cell? ⟨b,off+t * 3,none⟩=some (.int .i64 ((xs.getD t default).who:Nat))∧w.cell? ⟨b,off+t * 3+1,none⟩=some (.int .i64 ((xs.getD t default).n:Nat))∧w.cell? ⟨b,off+t * 3+2,none⟩=some (.int .i64 ((xs.getD t default).left:Nat))):=by
 obtain⟨ao,cap,hv,h1,h2,h0,h9,h3⟩:=h;simp only[List.length_map]at hv h1 h0 h3;refine⟨ao,cap,hv,h1,h2,h0,h9,fun hn=>?_⟩;obtain⟨b,off,ha,hlt,hc⟩:=h3 hn;refine⟨b,off,ha,hlt,fun t ht=>?_⟩;have e:(xs.map jbRow).getD t []=jbRow (xs.getD t default):=by simp[List.getD,ht]
 have c0:=hc t ht 0 (by omega);have c1:=hc t ht 1 (by omega);have c2:=hc t ht 2 (by omega);rw[e]at c0 c1 c2;exact⟨by simpa[jbRow]using c0,by simpa[jbRow]using c1,by simpa[jbRow]using c2⟩
theorem jbs_of {w:World} {base:Nat} {v:Value} {xs:List Jb} (h:Owns w base 101 3 jbRow v xs) (hn:xs.length≤140737488351232):Jbs w w.heap.size v xs:=h.arr (fun _=>rfl) hn
def IdxJP (p:Jb→Bool) (xs:List Jb) (w:World) (e:Ending) (w':World):Prop:=e=.returned (.int .i64 (idxP p xs))∧Below w.heap.size w w'
def HasJP (p:Jb→Bool) (xs:List Jb) (w:World) (e:Ending) (w':World):Prop:=e=.returned (.bool (xs.any p))∧Below w.heap.size w w'
theorem idxJb_any (K : FuncId) (cap : Array Value) (hK : zF0 K) (p : Jb → Bool) (v : Value) (xs : List Jb) (B : Nat) (w : World) (hv : Jbs w B v xs) (hB : B ≤ w.heap.size)
  (hf:∀(j:Jb) (w1:World),j∈xs→Below w.heap.size w w1→Calls Tryz.prog K (#[.agg #[.int .i64 j.who,.int .i64 j.n,.int .i64 j.left]]++cap) w1 fun e w' => e=.returned (.bool (p j))∧Below w1.heap.size w1 w') :
  Calls Tryz.prog 152 #[v,.func (.func K) #[] cap] w (IdxJP p xs w):=by
 obtain⟨ao,cap', rfl,hlc,hcap,hln,hni,hr⟩:=hv.opened;have HF:=hid hf;clear hf hv;have hK2:=fun args w=>hK args w
 go_enter Tryz.func152,Tryz.ntmps152
 go_wp2_with fail
 go_loopw [8] (fun i wr=>∃k:Nat,k≤xs.length∧i=.int .i64 k∧Below w.heap.size w wr∧∀j,j<k→p (xs.getD j default)=false) (fun i _=>xs.length - (intOf i).toNat)
 case atStart=>exact⟨0,Nat.zero_le _,rfl,Below.refl _ _,by simp⟩
 case round=>
  obtain⟨k,hk,rfl,hbl,hno⟩:=hrel;have HN:=hid hno;clear hno;by_cases hlt:k<xs.length
  ·obtain⟨b,off,rfl,hb,hc⟩:=hr (by omega);obtain⟨c0,c1,c2⟩:=hc k hlt;have HMEM:=hid (zC2 (d:=default) hlt);obtain⟨x,hx⟩:∃x,x=xs.getD k default:=⟨_,rfl⟩
   rw[←hx]at c0 c1 c2 HMEM;rw[←hbl.cell (p:=⟨b,_,none⟩) (Nat.lt_of_lt_of_le hb hB)]at c0 c1 c2;have HX:=hid hx;clear hx hc hr
   go_wp2_with fail
   refine(HF.out x _ HMEM.out hbl).mono ?_;rintro e w' ⟨rfl,hb'⟩;have hsz:=hbl.size;have HB:=hid (hbl.trans (hb'.mono hsz));clear hbl;rcases hp:p x with _|_
   ·have HQ:=hid (zH1 HN.out (show p (xs.getD k default)=false by rw[←HX.out];exact hp))
    go_wp2_with fail
    go_roundw
    case rel=>exact⟨k+1,by omega,by go_num,HB.out,HQ.out⟩
    case measure=>simp[intOf];omega
   ·have HQ:=hid (zL0 p xs k default hlt (by rw[←HX.out];exact hp) HN.out)
    go_wp2_with fail
    go_ret
    exact⟨by rw[HQ.out];rfl,HB.out⟩
  ·have HF2:=hid (zK0 p xs default (fun j hj=>HN.out j (by omega)))
   go_wp2_with fail
   go_ret
   exact⟨by rw[HF2.out];rfl,hbl⟩
theorem hasJb_any (K : FuncId) (cap : Array Value) (hK : zF0 K) (p : Jb → Bool) (v : Value) (xs : List Jb) (B : Nat) (w : World) (hv : Jbs w B v xs) (hB : B ≤ w.heap.size)
  (hf:∀(j:Jb) (w1:World),j∈xs→Below w.heap.size w w1→Calls Tryz.prog K (#[.agg #[.int .i64 j.who,.int .i64 j.n,.int .i64 j.left]]++cap) w1 fun e w' => e=.returned (.bool (p j))∧Below w1.heap.size w1 w') :
  Calls Tryz.prog 170 #[v,.func (.func K) #[] cap] w (HasJP p xs w):=by
 have HA:=hid (idxP_any p xs)
 go_enter Tryz.func170,Tryz.ntmps170
 go_wp2_with fail
 refine(idxJb_any K cap hK p v xs B _ hv hB hf).mono ?_;rintro e w' ⟨rfl,hb⟩
 go_wp2_with fail
 go_ret
 exact⟨by rw[←HA.out];rfl,hb⟩
theorem outTest_any (j : Jb) (n g : Nat) (w : World) (hc : w.cell? ⟨g, 0, none⟩ = some (.int .i64 (n : Nat))) (hg : g < w.heap.size) :
  Calls Tryz.prog 153 #[.agg #[.int .i64 j.who,.int .i64 j.n,.int .i64 j.left],.pointer (some ⟨g,0,none⟩)] w fun e w' => e=.returned (.bool (j.n==n))∧Below w.heap.size w w':=by
 have hq:((j.n:Int)==(n:Int))=(j.n==n):=by rw[Bool.eq_iff_iff];simp only[beq_iff_eq];omega
 have HQ:=hid hq;clear hq;have HB:=hid ((Below.refl w.heap.size w).alloc (Nat.le_refl _) (.cells #[.int .i64 j.who,.int .i64 j.n,.int .i64 j.left] 101))
 go_enter Tryz.func153,Tryz.ntmps153
 go_wp2_with fail
 go_ret
 exact⟨by rw[←HQ.out];rfl,HB.out⟩
def OutAtP (xs:List Jb) (n:Nat) (w:World) (e:Ending) (w':World):Prop:=e=.returned (.int .i64 (idxP (fun j=>j.n==n) xs))∧Below w.heap.size w w'
theorem outAt_any (next last : Int) (qa oa : Option Addr) (qn qc oc n : Nat) (xs : List Jb) (B : Nat) (w : World) (hv : Jbs w B (.slice oa xs.length oc) xs) (hB : B ≤ w.heap.size) :
  Calls Tryz.prog 109 #[.agg #[.int .i64 next,.slice qa qn qc,.slice oa xs.length oc,.int .i64 last],.int .i64 n] w (OutAtP xs n w):=by
 have HV:=hid hv;clear hv;have HB:=hid (fun(o p:Obj)=>(((Below.refl w.heap.size w).alloc (Nat.le_refl _) o).alloc (by simp) p))
 go_enter Tryz.func109,Tryz.ntmps109
 go_wp2_with (first
  |(go_at_call 152;go_loud (refine(idxJb_any 153 _ (zB5 Tryz.func153 (by kernel_rfl) (by kernel_rfl)) (fun j=>j.n==n) _ xs B _ (HV.out.below ((HB.out _ _).mono hB)) (by first|(simp;done)|(simp;omega)) (fun j w1 _ hb=>by simpa using outTest_any j n (w.heap.size+1) w1 (by rw[hb.cell (p:=⟨w.heap.size+1,0,none⟩) (by simp)];simp[go_sem]) (by have:=hb.size;simp at this;omega))).mono ?_;rintro e w2 ⟨rfl,hb2⟩)))
 go_ret
 exact⟨rfl,(HB.out _ _).trans (hb2.mono (by simp;omega))⟩
theorem zK4 (g : Nat) : ∀ (cs : List Value) (w : World) (o : Nat), (w.setCells g o cs).heap.size = w.heap.size
 |[],_,_=>rfl
 |c::cs,w,o=>by
  show((w.setCell ⟨g,o,none⟩ c).setCells g (o+1) cs).heap.size=_;rw[zK4 g cs];simp
theorem zJ3 (g : Nat) : ∀ (cs : List Value) (w : World) (o : Nat), Touch g w (w.setCells g o cs)
 |[],w,_=>Touch.refl g w
 |c::cs,w,o=>(Touch.setCell g o w c).trans (zJ3 g cs _ (o+1))
theorem zJ4 (g : Nat) {e : TypeId} : ∀ (cs : List Value) (w : World) (o : Nat) (cur : Array Value), w.heap[g]? = some (.cells cur e (0, 0)) → o + cs.length ≤ cur.size →
  ∃cur':Array Value,(w.setCells g o cs).heap[g]? = some (.cells cur' e (0,0))∧cur'.size=cur.size∧∀j,cur'[j]? = if o≤j∧j<o+cs.length then cs[j - o]? else cur[j]?
 |[],w,o,cur,h,_=>⟨cur,h,rfl,fun j=>by rw[if_neg (by simp only[List.length_nil];omega)]⟩
 |c::cs,w,o,cur,h,hf=>by
  simp only[List.length_cons]at hf;have h1:(w.setCell ⟨g,o,none⟩ c).heap[g]? = some (.cells (cur.set! o c) e (0,0)):=by simp[World.setCell,Array.getElem?_modify,h]
  obtain⟨cur', h2,h3,h4⟩:=zJ4 g cs _ (o+1) _ h1 (by simp;omega);refine⟨cur', h2,by rw[h3];simp,fun j=>?_⟩;rw[h4 j];simp only[List.length_cons];by_cases e1:j=o
  ·subst e1;rw[if_neg (by omega),if_pos (by omega)];simp[Array.set!_eq_setIfInBounds,Array.getElem?_setIfInBounds,show j<cur.size by omega]
  ·by_cases e2:o+1≤j∧j<o+1+cs.length
   ·rw[if_pos e2,if_pos (by omega),show j - o=(j - (o+1))+1 by omega,List.getElem?_cons_succ]
   ·rw[if_neg e2,if_neg (by omega)];simp only[Array.set!_eq_setIfInBounds,Array.getElem?_setIfInBounds];rw[if_neg (by omega)]
theorem run_clear_jb (w : World) (ty : TypeId) (b o n c : Nat) (hn : n = 1) (hc : ∀ j, j < 3 → (w.cell? ⟨b, o + j, none⟩).isSome = true) (hf : ∀ j, j < 3 → w.frozen? ⟨b, o + j, none⟩ = false) :
  (Builtin.clear_ #[46] ty #[.slice (some ⟨b,o,none⟩) n c]).run Tryz.prog w=.ok (.tuple #[]) (w.setCells b o [.int .i64 0,.int .i64 0,.int .i64 0]):=by
 subst hn;have hst:=run_storeCells_cells (P:=Tryz.prog) b o [.int .i64 0,.int .i64 0,.int .i64 0] 0 w (by simpa using hc) (by simpa using hf) (by intro v hv;simp at hv;rw[hv];rfl);have hz:(Builtin.zeroCells (Value.agg #[.int .i64 0,.int .i64 0,.int .i64 0]).cells 1).toList=[.int .i64 0,.int .i64 0,.int .i64 0]:=by kernel_rfl
 obtain⟨i0,hi0,hz0,hz1,hz2⟩:=info_parts (show(Tryz.prog.info? 101).map (fun i=>(i.zero,i.size,i.bytes))=some (some (.agg #[.int .i64 0,.int .i64 0,.int .i64 0]),3,24) by kernel_rfl);simp only[Nat.add_zero]at hst;simp[Builtin.clear_,run_underlying Tryz.underlying46,zeroValue,typeInfo,hi0,hz0,hz,hst]
theorem eraseIdx_eq {α:Type} (xs:List α) (i:Nat):xs.eraseIdx i=xs.take i++xs.drop (i+1):=List.eraseIdx_eq_take_drop_succ xs i
def DelP (base g off cap:Nat) (xs:List Jb) (i:Nat) (w:World) (e:Ending) (w':World):Prop :=
 e=.returned (.slice (some ⟨g,off,none⟩) (xs.length - 1) cap)∧Owns w' base 101 3 jbRow (.slice (some ⟨g,off,none⟩) (xs.length - 1) cap) (xs.eraseIdx i)∧Touch g w w' ∧ w'.heap.size=w.heap.size
set_option maxRecDepth 100000 in
theorem delJb_any (base g off cap i : Nat) (xs : List Jb) (w : World) (ho : Owns w base 101 3 jbRow (.slice (some ⟨g, off, none⟩) xs.length cap) xs) (hi : i < xs.length) :
    Calls Tryz.prog 143 #[.slice (some ⟨g, off, none⟩) xs.length cap, .int .i64 i, .int .i64 ((i + 1 : Nat) : Int)] w (DelP base g off cap xs i w) := by
  obtain ⟨n, hn⟩ : ∃ n, n = xs.length := ⟨_, rfl⟩
  have hrows : ∀ x : Jb, (jbRow x).length = 3 := fun _ => rfl
  have hfl : (xs.flatMap jbRow).length = n * 3 := by rw [zB8 hrows, hn]
  obtain ⟨news, hnews⟩ : ∃ news, news = (xs.drop (i + 1)).flatMap jbRow := ⟨_, rfl⟩
  have hlen : news.length = (n - (i + 1)) * 3 := by rw [hnews, zB8 hrows, List.length_drop, ← hn]
  have hspl : xs.flatMap jbRow = (xs.take (i + 1)).flatMap jbRow ++ news := by rw [hnews, ← List.flatMap_append, List.take_append_drop]
  have htk : ((xs.take (i + 1)).flatMap jbRow).length = (i + 1) * 3 := by rw [zB8 hrows, List.length_take]; congr 1; omega
  obtain ⟨_, h2⟩ := ho
  rcases h2 with ⟨h2, _⟩ | ⟨g', off', cap', cur, hv, hg, hh, hle, hmax, hsz, hc⟩
  · cases h2
  simp only [Value.slice.injEq, Option.some.injEq, Addr.mk.injEq, and_true] at hv
  obtain ⟨⟨rfl, rfl⟩, _, rfl⟩ := hv
  rw [← hn] at hle hc hi ⊢
  have hcs : n * 3 ≤ cap * 3 := Nat.mul_le_mul_right _ hle
  have hcm : cap ≤ 9223372036854775807 := by unfold maxLen at hmax; omega
  have hget : ∀ t u, news[t]? = some u → w.cell? ⟨g, off + ((i + 1) * 3 + t), none⟩ = some u := by
    intro t u hu
    have ht : t < news.length := (List.getElem?_eq_some_iff.1 hu).1
    simp only [World.cell?, hh]
    rw [hc _ (by omega), hspl, List.getElem?_append_right (by omega), htk, show (i + 1) * 3 + t - (i + 1) * 3 = t by omega, hu]; simp
  obtain ⟨A, hA, hsrc⟩ : ∃ A : Addr, (if cap = i + 1 then some (⟨g, off, none⟩ : Addr) else some ⟨g, off + (i + 1) * 3, none⟩) = some A ∧ Hid (∀ t u, news[t]? = some u → w.drew.cell? (A.add t) = some u) := by
    by_cases h : cap = i + 1
    · refine ⟨⟨g, off, none⟩, by simp [h], fun t u hu => ?_⟩
      have h0 : news.length = 0 := by rw [hlen]; have : n - (i + 1) = 0 := by omega
                                      rw [this]
      rw [List.length_eq_zero_iff.1 h0] at hu
      simp at hu
    · refine ⟨⟨g, off + (i + 1) * 3, none⟩, by simp [h], fun t u hu => ?_⟩
      rw [Addr.add_lit, Nat.add_assoc]
      exact hget t u hu
  have s1 := hid hlen
  have s2 : Hid (∀ u ∈ news, u.oneCell' = true) := by
    intro u hu
    rw [hnews] at hu
    obtain ⟨x, _, hx⟩ := List.mem_flatMap.1 hu
    exact jbRow_one x u hx
  have hdst : ∀ (W : World) (cur' : Array Value), W.heap[g]? = some (.cells cur' 101 (0, 0)) → cur'.size = cur.size → ∀ t, t < n * 3 → (W.cell? ⟨g, off + t, none⟩).isSome = true ∧ W.frozen? ⟨g, off + t, none⟩ = false := by
    intro W cur' hW hs t ht
    have : off + t < cur'.size := by omega
    simp [World.cell?, World.frozen?, hW, this]
  have s3 : Hid (∀ t, t < news.length → (w.drew.cell? ⟨g, off + i * 3 + t, none⟩).isSome = true ∧ w.drew.frozen? ⟨g, off + i * 3 + t, none⟩ = false) := by
    intro t ht
    rw [Nat.add_assoc]
    exact hdst w.drew cur hh rfl _ (by omega)
  obtain ⟨W1, hW1⟩ : ∃ W1, W1 = w.drew.setCells g (off + i * 3) news := ⟨_, rfl⟩
  obtain ⟨cur1, c1, c2, c3⟩ := zJ4 g news w.drew (off + i * 3) cur hh (by omega)
  rw [← hW1] at c1
  have hlow : i + (n - (i + 1)) = n - 1 := by omega
  have hcl : ∀ ty, (Builtin.clear_ #[46] ty #[.slice (some ⟨g, off + (n - 1) * 3, none⟩) (n - (n - 1)) (cap - (n - 1))]).run Tryz.prog W1 = .ok (.tuple #[]) (W1.setCells g (off + (n - 1) * 3) [.int .i64 0, .int .i64 0, .int .i64 0]) := by
    intro ty
    exact run_clear_jb W1 ty g _ _ _ (by omega) (fun j hj => by rw [Nat.add_assoc]; exact (hdst W1 cur1 c1 c2 _ (by omega)).1) (fun j hj => by rw [Nat.add_assoc]; exact (hdst W1 cur1 c1 c2 _ (by omega)).2)
  obtain ⟨cur2, d1, d2, d3⟩ := zJ4 g [.int .i64 0, .int .i64 0, .int .i64 0] W1 (off + (n - 1) * 3) cur1 c1 (by simp; omega)
  have HF := hid (show DelP base g off cap xs i w (.returned (.slice (some ⟨g, off, none⟩) (n - 1) cap)) (W1.setCells g (off + (n - 1) * 3) [.int .i64 0, .int .i64 0, .int .i64 0]) by
    have htch : Touch g w (W1.setCells g (off + (n - 1) * 3) [.int .i64 0, .int .i64 0, .int .i64 0]) := by
      rw [hW1]
      exact ((show Touch g w w.drew from ⟨rfl, rfl, rfl, Nat.le_refl _, fun _ _ _ => rfl⟩).trans (zJ3 g news _ _)).trans (zJ3 g _ _ _)
    have hel : (xs.eraseIdx i).length = n - 1 := by rw [List.length_eraseIdx, if_pos (by omega), hn]
    refine ⟨by rw [hn], ⟨zB8 hrows _, .inr ⟨g, off, cap, cur2, by rw [hel, ← hn], hg, d1, by omega, hmax, by omega, fun j hj => ?_⟩⟩, htch, by rw [zK4, hW1, zK4]; rfl⟩
    rw [hel] at hj
    rw [d3, if_neg (by omega), c3, eraseIdx_eq, List.flatMap_append, ← hnews]
    have ht2 : ((xs.take i).flatMap jbRow).length = i * 3 := by rw [zB8 hrows, List.length_take]; congr 1; omega
    by_cases hji : j < i * 3
    · rw [if_neg (by omega), hc j (by omega), List.getElem?_append_left (by omega)]
      have e1 : xs.flatMap jbRow = (xs.take i).flatMap jbRow ++ (xs.drop i).flatMap jbRow := by rw [← List.flatMap_append, List.take_append_drop]
      rw [e1, List.getElem?_append_left (by omega)]
    · rw [if_pos (by omega), List.getElem?_append_right (by omega), ht2, show off + j - (off + i * 3) = j - i * 3 by omega])
  have hW : Hid (W1 = w.drew.setCells g (off + i * 3) news) := hW1
  have hic : i ≤ cap := by omega
  have hjc : i + 1 ≤ cap := by omega
  have hq : ((i : Int) == (i : Int) + 1) = false := by rw [beq_eq_false_iff_ne]; omega
  have hq0 : 0 ≤ (i : Int) + 1 := by omega
  have hq1 : (i : Int) + 1 ≤ (n : Int) := by omega
  have HN := hid hn
  obtain ⟨i0, hi0, hz0, hz1, hz2⟩ := info_parts (show (Tryz.prog.info? 101).map (fun i => (i.zero, i.size, i.bytes)) = some (some (.agg #[.int .i64 0, .int .i64 0, .int .i64 0]), 3, 24) by kernel_rfl)
  have HI := hid hi0; have HZ := hid hz1
  clear hW1 c1 c2 c3 d1 d2 d3 hdst hget hnews hspl htk hfl hc hh hsz hlen hi0 hz0 hz1 hz2 hn hrows hcs hmax
  go_enter Tryz.func143, Tryz.ntmps143
  go_wp2_with fail
  go_region_law (refine step_append_room rfl (.tmp 22) (.tmp 25) 46 rfl 101 i0 3 Tryz.underlying46 HI.out HZ.out g off i cap (by simp [Act.eval, Act.put]) A (n - (i + 1)) (cap - (i + 1)) news (by simp [Act.eval, Act.put]) s1.out hsrc.out s2.out (by omega) s3.out ?_; rw [← hW.out])
  go_wp2_with fail
  go_ret
  exact HF.out
theorem step_push3 {α : Type} {ops : Array Oper} {o : Oper} {a : Act} {K : Act → World → Prop} {Q : Exit → Act → World → Prop} {Z : Prop} {T e sz by_ : Nat} (E : Elem T e sz by_) (f : α → List Value) (hf : ∀ x, (f x).length = sz)
  (X:World) (hgd:o.guard=none) (s x:Operand) (ho:o.op=.call { callee:=.builtin .append,args:=#[s,x],argTypes:=#[T,T] })
  (base:Nat) (v:Value) (xs:List α) (y:α) (h1:∀u∈f y,u.oneCell' = true) (hs:a.eval s=v) (hown:Owns X base e sz f v xs) (cs:Array Value) (hcs:cs.toList=f y) (G c:Nat) (hx:a.eval x=.slice (some ⟨G,0,none⟩) 1 c) (hG:G=X.heap.size)
  (hlen:(xs.length+1) * by_≤140737488355328) (hlen2:xs.length+1≤9223372036854775807) (hbase:base≤X.heap.size)
  (h:∀v' w', Owns w' base e sz f v' (xs++[y])→Below base X w' → (∀k,k<X.heap.size→some k≠v.ownBlock→w'.heap[k]? = X.heap[k]?)→(∀k,v'.ownBlock=some k→v.ownBlock=some k∨X.heap.size≤k)→K (a.put o.dst v') w') :
  if Region.wanted o (yielded ops a.tmps)=true then Oper.wp Tryz.prog o a (X.alloc (.cells cs e)) K Q else Z:=by
 have hw:Region.wanted o (yielded ops a.tmps)=true:=by simp[Region.wanted,hgd]
 rw[if_pos hw];obtain⟨ht,i,z,hi,hz,hsize,hby,hzs,hsz⟩:=E;refine zF7 s x T ho base e i z sz by_ ht hi hz hsize hby hzs v xs.length (xs.flatMap f) hs (OwnR.alloc hown _) ⟨G,0,none⟩ 1 c (f y) hx (by rw[hf];omega) ?_ h1 (by unfold maxLen;omega) hlen (by simp;omega) ?_
 ·intro j u hj;rw[Addr.add_lit,Nat.zero_add,hG];exact news_alloc (f y) hcs j u hj
 ·intro v' w' ho' hg _ hb;have hb0:Below base X (X.alloc (.cells cs e)):=(Below.refl _ _).alloc hbase _;refine h v' w' ?_ (hb0.trans ((Below.refl _ _).grown hg (by simp;omega) (fun k hk=>(OwnR.lt hown k hk).1))) (fun k hk hne=>?_) (fun k hk=>?_)
  ·unfold Owns;simpa using ho'
  ·rw[hg.block k (by simp;omega) hne];exact((Below.refl X.heap.size X).alloc (Nat.le_refl _) (.cells cs e)).block k hk
  ·rcases hb with hb|hb
   ·exact .inl (by rw[←hb];exact hk)
   ·rw[hb]at hk;right;simp at hk;omega
theorem zA8 (w:World) (o:Obj) {g:Nat} (h:g=w.heap.size):(w.alloc o).heap[g]? = some o:=by subst h;show(w.heap.push _)[w.heap.size]? = _;simp
theorem le_drew' {B:Nat} {w:World} (h:B≤w.heap.size):B≤w.drew.heap.size:=h
theorem tjRow_one (x:TJV) (h:∃a n c,x.2=.slice a n c):∀u∈tjRow x,u.oneCell' = true:=by
 obtain⟨a,n,c,e⟩:=h;intro u hu;simp only[tjRow,List.mem_cons,List.not_mem_nil,or_false]at hu;rcases hu with rfl|rfl|rfl|rfl|rfl <;> first|rfl|(rw[e];rfl)
theorem intsD_slice {w:World} {P:Nat→Prop} {v:Value} {xs:List Int} (h:IntsD w P v xs):∃a n c,v=.slice a n c:=by
 obtain⟨a,c,e,_⟩:=h.1;exact⟨a,_,c,e⟩
theorem len_three {l:List TJ} (h:∀j∈l,j.who<3):l.length=(l.filter (fun j=>j.who==0)).length+(l.filter (fun j=>j.who==1)).length+(l.filter (fun j=>j.who==2)).length:=by
 induction l with
 |nil=>rfl
 |cons x l ih=>
  have hx:=h x (by simp);have:=ih fun j hj=>h j (List.mem_cons_of_mem _ hj)
  simp only[List.filter_cons,List.length_cons];rcases(show x.who=0∨x.who=1∨x.who=2 by omega)with e|e|e <;> simp[e] <;> omega
theorem Good.told36 {c:Cfg} (hb:Bus c) {st:Cy} (h:Good c st):st.told.length≤36:=by
 rw[len_three fun j hj=>(h.t j hj).1];have key:∀w,w<3→(st.told.filter (fun j=>j.who==w)).length≤12:=fun w hw=>by
  have h1:=(h.part w hw).length_eq;simp only[List.length_append,List.length_map,List.length_range]at h1;have h2:=(h.p w hw).nx;have h3:=hb.twelve hw;omega
 have:=key 0 (by omega);have:=key 1 (by omega);have:=key 2 (by omega);omega
theorem tellM_eq {st:Cy} {who k s:Nat} (hs:((st.ports who).last+k) % 4=s):tellM st who k=match (st.slaves s).done with|[]=>false|j::_=>j.who==who:=by subst hs;rfl
theorem tell1_no {inp:Inp} {who:Nat} {x:Cy×List Ev} (h:inp.ready.getD who false=false):tell1 inp who x=x:=by unfold tell1;rw[if_neg (by rw[h];simp)]
theorem tell1_miss {inp:Inp} {who:Nat} {x:Cy×List Ev} (h:∀j,1≤j→j≤4→tellM x.1 who j=false):tell1 inp who x=x:=by unfold tell1;rw[firstK_miss h];split <;> rfl
theorem tell1_hit {inp : Inp} {who k s : Nat} {x : Cy × List Ev} {j : TJ} {rest : List TJ} (hr : inp.ready.getD who false = true) (h1 : 1 ≤ k) (h4 : k ≤ 4) (hb : ∀ i, 1 ≤ i → i < k → tellM x.1 who i = false) (hs : ((x.1.ports who).last + k) % 4 = s) (hd : (x.1.slaves s).done = j :: rest) (hj : j.who = who) :
  tell1 inp who x=zD6 who s j rest x:=by
 unfold tell1;rw[if_pos hr,firstK_hit h1 h4 (by rw[tellM_eq hs,hd];simpa using hj) hb];simp only[hs,hd]
theorem tell1_len (inp:Inp) (who:Nat) (x:Cy×List Ev):(tell1 inp who x).2.length≤x.2.length+1:=by
 unfold tell1
 split
 ·split
  ·omega
  ·split
   ·omega
   ·simp[zD6]
 ·omega
theorem upd_upd {α:Type} (f:Nat→α) (i:Nat) (a b:α):upd (upd f i a) i b=upd f i b:=by funext j;unfold upd;split <;> rfl
theorem Owns.pop {α : Type} {w : World} {base e sz g off n cap : Nat} {f : α → List Value} {y : α} {Y : List α} (hf : ∀ x, (f x).length = sz) (h : Owns w base e sz f (.slice (some ⟨g, off, none⟩) n cap) (y :: Y)) {A : Addr} (hA : (if cap = 1 then (some ⟨g, off, none⟩ : Option Addr) else some ⟨g, off + sz, none⟩) = some A) :
  Owns w base e sz f (.slice (some A) Y.length (cap - 1)) Y∧A.block=g:=by
 have h':=h;obtain⟨_,h2⟩:=h';have hn:n=Y.length+1:=by
  rcases h2 with⟨h2,_⟩|⟨_,_,_,_,h2,_⟩
  ·cases h2
  ·simp only[Value.slice.injEq]at h2;simpa using h2.2.1
 subst hn;have ht:=OwnR.tail1 (n:=Y.length+1) h (by omega);rw[hA]at ht;refine⟨?_,?_⟩
 ·have e1:((y::Y).flatMap f).drop sz=Y.flatMap f:=by rw[List.flatMap_cons,List.drop_left' (hf y)]
  rw[e1]at ht;exact ht
 ·split at hA <;> (simp only[Option.some.injEq]at hA;rw[←hA])
theorem pop_addr (g off sz cap:Nat):∃A:Addr,(if cap=1 then(some ⟨g,off,none⟩:Option Addr) else some ⟨g,off+sz,none⟩)=some A:=by
 by_cases h:cap=1
 ·exact⟨_,if_pos h⟩
 ·exact⟨_,if_neg h⟩
theorem CyM.popDone {w : World} {base S Hb : Nat} {L : Nat → Value} {st : Cy} {ev : List Ev} {V : Nat → Value} {N : Nat → Nat} {C : Nat → List Value} {D : Nat → List TJV} (h : CyM w base S Hb L st ev V N C D) {s g off cap dg dof dn dcp : Nat} (hs : s < 4) (hV : V 3 = .slice (some ⟨g, off, none⟩) 4 cap)
  {y:TJV} {Y:List TJV} (hD:D (15+s)=y::Y) (hv:V (15+s)=.slice (some ⟨dg,dof,none⟩) dn dcp) {A:Addr} (hA:(if dcp=1 then(some ⟨dg,dof,none⟩:Option Addr) else some ⟨dg,dof+5,none⟩)=some A) :
  ∃N' C', CyM (w.setCell ⟨g,off+s * 3+1,none⟩ (.slice (some A) Y.length (dcp - 1))) base S Hb L { st with slaves:=upd st.slaves s { st.slaves s with done:=Y.map (·.1) } } ev (upd V (15+s) (.slice (some A) Y.length (dcp - 1))) N' C' (upd D (15+s) Y)∧Kp S Hb V w (upd V (15+s) (.slice (some A) Y.length (dcp - 1))) (w.setCell ⟨g,off+s * 3+1,none⟩ (.slice (some A) Y.length (dcp - 1))):=by
 have ho:=h.oDone hs;rw[hD,hv]at ho;obtain⟨h1,h2⟩:=Owns.pop (f:=tjRow) (sz:=5) (fun _=>rfl) ho hA;have hk:∀b,b<w.heap.size→(V (15+s)).ownBlock≠some b→w.heap[b]? = w.heap[b]?:=fun _ _ _=>rfl
 have hvv:∀k,(Value.slice (some A) Y.length (dcp - 1)).ownBlock=some k→(V (15+s)).ownBlock=some k∨w.heap.size≤k:=fun k hk=>by
  left;rw[hv];simp only[Value.ownBlock]at hk ⊢;rw[←hk,h2]
 exact h.setDone hs hV hk (Nat.le_refl _) h1 hvv fun x hx=>h.old (κ:=15+s) (ν:=15+s) (by omega) (by omega) hk (Nat.le_refl _) hvv (by rw[hD];exact List.mem_cons_of_mem _ hx)
theorem CyM.fresh {w w':World} {base S Hb:Nat} {L:Nat→Value} {st:Cy} {ev:List Ev} {V:Nat→Value} {N:Nat→Nat} {C:Nat→List Value} {D:Nat→List TJV} (h:CyM w base S Hb L st ev V N C D) {b:Nat} (hb1:w.heap.size≤b) (hb2:b<w'.heap.size):DFree V S Hb w' b :=
 ⟨hb2,fun κ hκ e=>by have:=(h.raw.lt hκ e).2;omega,by have:=zA2 h.bs;omega,by have:=zA2 h.bh;omega⟩
theorem CyM.congr {w:World} {base S Hb:Nat} {L:Nat→Value} {st st':Cy} {ev ev':List Ev} {V:Nat→Value} {N:Nat→Nat} {C:Nat→List Value} {D:Nat→List TJV} (h:CyM w base S Hb L st ev V N C D) (h1:st=st') (h2:ev=ev'):CyM w base S Hb L st' ev' V N C D:=by subst h1 h2;exact h
theorem delJb_int (base g off cap i : Nat) (xs : List Jb) (w : World) (ho : Owns w base 101 3 jbRow (.slice (some ⟨g, off, none⟩) xs.length cap) xs) (hi : i < xs.length) :
  Calls Tryz.prog 143 #[.slice (some ⟨g,off,none⟩) xs.length cap,.int .i64 i,.int .i64 ((i:Int)+1)] w (DelP base g off cap xs i w):=by
 have h:=delJb_any base g off cap i xs w ho hi
 rwa [show((i+1:Nat):Int)=(i:Int)+1 from by omega]at h
theorem idxP_erase (xs:List Jb) (n:Nat) (h:∃o∈xs,o.n=n):∃i:Nat,idxP (fun j=>j.n==n) xs=(i:Int)∧i<xs.length∧xs.eraseIdx i=xs.eraseP (fun j=>j.n==n):=by
 obtain⟨o,ho,e⟩:=h;have hi:xs.findIdx (fun j=>j.n==n)<xs.length:=List.findIdx_lt_length_of_exists ⟨o,ho,by simp[e]⟩;refine⟨xs.findIdx (fun j=>j.n==n),?_,hi,?_⟩
 ·unfold idxP;rw[List.findIdx?_eq_some_of_exists ⟨o,ho,by simp[e]⟩]
 ·rw[List.eraseP_eq_eraseIdx];rw[List.findIdx?_eq_some_of_exists ⟨o,ho,by simp[e]⟩]
structure InV (w:World) (B:Nat) (v:Value) (inp:Inp):Prop where
 ex:∃ra rc ta tc sa sc,v=.agg #[.slice ra inp.ready.length rc,.slice ta inp.stall.length tc,.slice sa inp.send.length sc]∧Bools w B (.slice ra inp.ready.length rc) inp.ready∧Bools w B (.slice ta inp.stall.length tc) inp.stall∧Bools w B (.slice sa inp.send.length sc) inp.send
 l1:inp.ready.length=3
 l2:inp.stall.length=4
 l3:inp.send.length=3
theorem InV.below {w w':World} {B:Nat} {v:Value} {inp:Inp} (h:InV w B v inp) (hb:Below B w w'):InV w' B v inp:=by
 obtain⟨⟨ra,rc,ta,tc,sa,sc,e,h1,h2,h3⟩,l1,l2,l3⟩:=h;exact⟨⟨ra,rc,ta,tc,sa,sc,e,h1.below hb,h2.below hb,h3.below hb⟩,l1,l2,l3⟩
theorem InV.mono {w:World} {B B':Nat} {v:Value} {inp:Inp} (h:InV w B v inp) (hb:B≤B'):InV w B' v inp:=by
 obtain⟨⟨ra,rc,ta,tc,sa,sc,e,h1,h2,h3⟩,l1,l2,l3⟩:=h;exact⟨⟨ra,rc,ta,tc,sa,sc,e,h1.mono hb,h2.mono hb,h3.mono hb⟩,l1,l2,l3⟩
def PartP (base S Hb:Nat) (L:Nat→Value) (x:Cy×List Ev) (V:Nat→Value) (w:World) (e:Ending) (w':World):Prop:=e=.returned (.tuple #[])∧∃V' N' C' D', CyM w' base S Hb L x.1 x.2 V' N' C' D' ∧ Kp S Hb V w V' w' ∧ Below base w w'
def BusV (w:World) (B:Nat) (v:Value) (c:Cfg):Prop :=
 ∃ (ma la pa : Option Addr) (mc lc pc : Nat) (Q : Nat → Value), v = .agg #[.slice ma c.ms.length mc, .slice la c.lat.length lc, .slice pa c.progs.length pc] ∧ Maps w B (.slice ma c.ms.length mc) c.ms ∧ Arr w B 1 (.slice la c.lat.length lc) (c.lat.map rowN) ∧
  Arr w B 1 (.slice pa c.progs.length pc) ((List.range c.progs.length).map fun i=>[Q i])∧∀i,i<c.progs.length→Reqs w B (Q i) (c.prog i)
theorem BusV.below {w w':World} {B:Nat} {v:Value} {c:Cfg} (h:BusV w B v c) (hb:Below B w w'):BusV w' B v c:=by
 obtain⟨ma,la,pa,mc,lc,pc,Q,e,h1,h2,h3,h4⟩:=h;exact⟨ma,la,pa,mc,lc,pc,Q,e,h1.below hb,h2.below hb,h3.below hb,fun i hi=>(h4 i hi).below hb⟩
theorem BusV.mono {w:World} {B B':Nat} {v:Value} {c:Cfg} (h:BusV w B v c) (hb:B≤B'):BusV w B' v c:=by
 obtain⟨ma,la,pa,mc,lc,pc,Q,e,h1,h2,h3,h4⟩:=h;exact⟨ma,la,pa,mc,lc,pc,Q,e,h1.mono hb,h2.mono hb,h3.mono hb,fun i hi=>(h4 i hi).mono hb⟩
theorem BusV.opened {w : World} {B : Nat} {v : Value} {c : Cfg} (h : BusV w B v c) (hc : Bus c) : ∃ (mv : Value) (lb lo lc pb po pc : Nat) (Q : Nat → Option Addr) (K : Nat → Nat), v = .agg #[mv, .slice (some ⟨lb, lo, none⟩) 4 lc, .slice (some ⟨pb, po, none⟩) 3 pc] ∧ (∃ a n k, mv = .slice a n k) ∧ Maps w B mv c.ms ∧
  lb<B∧pb<B∧(∀s,s<4→w.cell? ⟨lb,lo+s,none⟩=some (.int .i64 (c.lt s:Nat)))∧(∀i,i<3→w.cell? ⟨pb,po+i,none⟩=some (.slice (Q i) (c.prog i).length (K i)))∧(∀i,i<3→Reqs w B (.slice (Q i) (c.prog i).length (K i)) (c.prog i)):=by
 obtain⟨ma,la,pa,mc,lc,pc,Q,rfl,h1,⟨_,_,e2,_,_,_,_,h2⟩,⟨_,_,e3,_,_,_,_,h3⟩,h4⟩:=h;simp only[Value.slice.injEq,List.length_map,List.length_range]at e2 e3 h2 h3;obtain⟨rfl,_,rfl⟩:=e2;obtain⟨rfl,_,rfl⟩:=e3;rw[hc.lat]at h2;rw[hc.progs]at h3 h4;obtain⟨lb,lo,rfl,hlb,hl⟩:=h2 (by omega);obtain⟨pb,po,rfl,hpb,hp⟩:=h3 (by omega);have sh:∀i,∃(a:Option Addr) (k:Nat),i<3→Q i=.slice a (c.prog i).length k:=fun i=>by
  by_cases hi:i<3
  ·obtain⟨a,k,e,_⟩:=(h4 i hi).shape;exact⟨a,k,fun _=>e⟩
  ·exact⟨none,0,fun h=>absurd h hi⟩
 refine⟨_,lb,lo,lc,pb,po,pc,fun i=>(sh i).choose,fun i=>(sh i).choose_spec.choose,by rw[hc.lat,hc.progs],⟨_,_,_,rfl⟩,h1,hlb,hpb,fun s hs=>?_,fun i hi=>?_,fun i hi=>?_⟩
 ·have:=hl s hs 0 (by omega);simp only[Nat.mul_one,Nat.add_zero]at this;rw[this];have hs':s<c.lat.length:=by rw[hc.lat];exact hs
  simp[List.getD,rowN,hs', Cfg.lt]
 ·have:=hp i hi 0 (by omega);simp only[Nat.mul_one,Nat.add_zero]at this;rw[this];have e:=(sh i).choose_spec.choose_spec hi;rw[←e];simp[List.getD,hi]
 ·have e:=(sh i).choose_spec.choose_spec hi;rw[←e];exact h4 i hi
structure BusO (w:World) (B:Nat) (c:Cfg) (ma:Option Addr) (mn mk lb lo lc pb po pc:Nat) (Q:Nat→Option Addr) (K:Nat→Nat):Prop where
 ms:Maps w B (.slice ma mn mk) c.ms
 hlb:lb<B
 hpb:pb<B
 lat:∀s,s<4→w.cell? ⟨lb,lo+s,none⟩=some (.int .i64 (c.lt s:Nat))
 prog:∀i,i<3→w.cell? ⟨pb,po+i,none⟩=some (.slice (Q i) (c.prog i).length (K i))
 req:∀i,i<3→Reqs w B (.slice (Q i) (c.prog i).length (K i)) (c.prog i)
theorem BusO.below {w w':World} {B:Nat} {c:Cfg} {ma:Option Addr} {mn mk lb lo lc pb po pc:Nat} {Q:Nat→Option Addr} {K:Nat→Nat} (h:BusO w B c ma mn mk lb lo lc pb po pc Q K) (hb:Below B w w'):BusO w' B c ma mn mk lb lo lc pb po pc Q K :=
 ⟨h.ms.below hb,h.hlb,h.hpb,fun s hs=>(hb.cell (p:=⟨lb,_,none⟩) h.hlb).trans (h.lat s hs),fun i hi=>(hb.cell (p:=⟨pb,_,none⟩) h.hpb).trans (h.prog i hi),fun i hi=>(h.req i hi).below hb⟩
theorem BusO.at {w : World} {B : Nat} {c : Cfg} {ma : Option Addr} {mn mk lb lo lc pb po pc : Nat} {Q : Nat → Option Addr} {K : Nat → Nat} (h : BusO w B c ma mn mk lb lo lc pb po pc Q K) {who n : Nat} (hw : who < 3) (hn : n < (c.prog who).length) :
  ∃ qb qo da dc la lc', Q who = some ⟨qb, qo, none⟩ ∧ qb < B ∧ ReqV w B (.agg #[.int .i64 (c.req who n).id, .int .i64 (c.req who n).kind, .int .i64 (c.req who n).addr, .int .i64 (c.req who n).many, .bool (c.req who n).wrap, .slice da (c.req who n).data.length dc, .slice la (c.req who n).lanes.length lc']) (c.req who n) ∧
   w.cell? ⟨qb,qo+n * 7,none⟩=some (.int .i64 (c.req who n).id)∧w.cell? ⟨qb,qo+n * 7+1,none⟩=some (.int .i64 (c.req who n).kind)∧w.cell? ⟨qb,qo+n * 7+2,none⟩=some (.int .i64 (c.req who n).addr)∧w.cell? ⟨qb,qo+n * 7+3,none⟩=some (.int .i64 (c.req who n).many) ∧
   w.cell? ⟨qb,qo+n * 7+4,none⟩=some (.bool (c.req who n).wrap)∧w.cell? ⟨qb,qo+n * 7+5,none⟩=some (.slice da (c.req who n).data.length dc)∧w.cell? ⟨qb,qo+n * 7+6,none⟩=some (.slice la (c.req who n).lanes.length lc'):=by
 obtain⟨ao,cap,e,_,_,_,_,ho⟩:=(h.req who hw).opened;simp only[Value.slice.injEq]at e;obtain⟨b,off,ha,hb,hc⟩:=ho (by omega);obtain⟨da,dc,la,lc', h1,h2⟩:=hc n hn;exact⟨b,off,da,dc,la,lc', e.1.trans ha,hb,h1,h2⟩
theorem id_any {c : Cfg} (hbus : Bus c) {w : World} {B : Nat} {ma : Option Addr} {mn mk lb lo lc pb po pc : Nat} {Q : Nat → Option Addr} {K : Nat → Nat} (h : BusO w B c ma mn mk lb lo lc pb po pc Q K) (hB : B ≤ w.heap.size) {who n : Nat} (hw : who < 3) (hn : n < (c.prog who).length) :
  Calls Tryz.prog 107 #[.agg #[.slice ma mn mk,.slice (some ⟨lb,lo,none⟩) 4 lc,.slice (some ⟨pb,po,none⟩) 3 pc],.int .i64 who,.int .i64 n] w fun e w' => e=.returned (.int .i64 (c.id who n))∧Below w.heap.size w w':=by
 obtain⟨qb,qo,da,dc,la,lc', hq,hqb,_,c0,_⟩:=h.at hw hn;have hp:=h.prog who hw;rw[hq]at hp;have hpb:pb<w.heap.size:=Nat.lt_of_lt_of_le h.hpb hB;have hqz:qb<w.heap.size:=Nat.lt_of_lt_of_le hqb hB;have hwi:(who:Int)<3:=by omega
 have hni:(n:Int)<((c.prog who).length:Int):=by omega
 obtain⟨y,hy⟩:∃y,y=(c.req who n).id:=⟨_,rfl⟩
 rw[←hy]at c0;have HY:=hid (show c.id who n=y by rw[hy];rfl);have HBX:=hid ((Below.refl w.heap.size w).alloc (Nat.le_refl _) (.cells #[.slice ma mn mk,.slice (some ⟨lb,lo,none⟩) 4 lc,.slice (some ⟨pb,po,none⟩) 3 pc] 27));clear hy hq
 go_enter Tryz.func107,Tryz.ntmps107
 go_wp2_with fail
 go_ret
 exact⟨by rw[HY.out];rfl,HBX.out⟩
def BusB (w:World) (g:Nat) (ma:Option Addr) (mn mk lb lo lc pb po pc:Nat):Prop:=w.heap[g]? = some (.cells #[.slice ma mn mk,.slice (some ⟨lb,lo,none⟩) 4 lc,.slice (some ⟨pb,po,none⟩) 3 pc] 27 (0,0))
theorem BusB.below {w w':World} {g C:Nat} {ma:Option Addr} {mn mk lb lo lc pb po pc:Nat} (h:BusB w g ma mn mk lb lo lc pb po pc) (hb:Below C w w') (hg:g<C):BusB w' g ma mn mk lb lo lc pb po pc:=(hb.block g hg).trans h
theorem BusB.cells {w:World} {g:Nat} {ma:Option Addr} {mn mk lb lo lc pb po pc:Nat} (h:BusB w g ma mn mk lb lo lc pb po pc):w.cell? ⟨g,0,none⟩=some (.slice ma mn mk)∧w.cell? ⟨g,1,none⟩=some (.slice (some ⟨lb,lo,none⟩) 4 lc)∧w.cell? ⟨g,2,none⟩=some (.slice (some ⟨pb,po,none⟩) 3 pc)∧g<w.heap.size:=by
 have:=zA2 h;unfold BusB at h;refine⟨?_,?_,?_,this⟩ <;> simp[World.cell?,h]
def IntB (w:World) (g:Nat) (n:Int):Prop:=w.heap[g]? = some (.cells #[.int .i64 n] 3 (0,0))
theorem IntB.below {w w':World} {g C:Nat} {n:Int} (h:IntB w g n) (hb:Below C w w') (hg:g<C):IntB w' g n:=(hb.block g hg).trans h
theorem IntB.cells {w:World} {g:Nat} {n:Int} (h:IntB w g n):w.cell? ⟨g,0,none⟩=some (.int .i64 n)∧g<w.heap.size:=by
 have:=zA2 h;unfold IntB at h;exact⟨by simp[World.cell?,h],this⟩
def mayB (c:Cfg) (who s:Nat) (id:Int) (j:Jb):Bool:=c.id who j.n==id&&j.left != s
end Go.Proofs.YtgkdoehkmbhfiaaGreat
