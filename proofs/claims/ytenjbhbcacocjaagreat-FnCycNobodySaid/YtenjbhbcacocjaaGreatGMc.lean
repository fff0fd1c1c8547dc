/- Appends at a step of a region that draws its order, onto what the call itself owns. -/
import Derived.Test.YtenjbhbcacocjaaGreatGD1
import Derived.Test.YtenjbhbcacocjaaGreatGPure
import Derived.Test.YtenjbhbcacocjaaGreatGDo5
import Derived.Deep.AppendLies
import Derived.Deep.RegionHeld3
import Derived.Deep.DrawnRows
set_option linter.unusedVariables false
set_option linter.unusedSimpArgs false
namespace Go.Proofs.YtenjbhbcacocjaaGreat
open Go.RowKit
def rowN (n:Nat):List Value:=[.int .i64 n]
def jbRow (j:Jb):List Value:=[.int .i64 j.who,.int .i64 j.n,.int .i64 j.left]
abbrev TJV:=TJ × Value
def tjRow (x:TJV):List Value:=[.int .i64 x.1.who,.int .i64 x.1.n,.int .i64 x.1.rsp.id,.int .i64 x.1.rsp.code,x.2]
def evRow (e:Ev):List Value:=[.int .i64 e.kind,.int .i64 e.who,.int .i64 e.n]
def ptRow (V:Nat → Value) (p:Pt) (i:Nat):List Value:=[.int .i64 p.next,V (5 + i),V (8 + i),.int .i64 p.last]
def svRow (V:Nat → Value) (v:Sv) (s:Nat):List Value:=[V (11 + s),V (15 + s),.int .i64 v.last]
structure Cont (st:Cy) (ev:List Ev) (V:Nat → Value) (N:Nat → Nat) (C:Nat → List Value) (D:Nat → List TJV):Prop where
 n0:N 0 = st.ws.length
 c0:C 0 = st.ws.flatMap rowI
 n1:N 1 = st.hs.length
 c1:C 1 = st.hs.flatMap rowI
 n2:N 2 = 3
 c2:C 2 = ptRow V (st.ports 0) 0 ++ ptRow V (st.ports 1) 1 ++ ptRow V (st.ports 2) 2
 n3:N 3 = 4
 c3:C 3 = svRow V (st.slaves 0) 0 ++ svRow V (st.slaves 1) 1 ++ svRow V (st.slaves 2) 2 ++ svRow V (st.slaves 3) 3
 n4:N 4 = st.told.length
 c4:C 4 = (D 4).flatMap tjRow
 t4:(D 4).map (·.1) = st.told
 nq:∀ i,i < 3 → N (5 + i) = (st.ports i).queue.length
 cq:∀ i,i < 3 → C (5 + i) = (st.ports i).queue.flatMap rowN
 no:∀ i,i < 3 → N (8 + i) = (st.ports i).out.length
 co:∀ i,i < 3 → C (8 + i) = (st.ports i).out.flatMap jbRow
 np:∀ s,s < 4 → N (11 + s) = (st.slaves s).pipe.length
 cp:∀ s,s < 4 → C (11 + s) = (st.slaves s).pipe.flatMap jbRow
 nd:∀ s,s < 4 → N (15 + s) = (st.slaves s).done.length
 cd:∀ s,s < 4 → C (15 + s) = (D (15 + s)).flatMap tjRow
 td:∀ s,s < 4 → (D (15 + s)).map (·.1) = (st.slaves s).done
 ne:N 19 = ev.length
 ce:C 19 = ev.flatMap evRow
def DFree (V:Nat → Value) (S Hb:Nat) (w:World) (b:Nat):Prop:=b < w.heap.size ∧ Free V b ∧ b ≠ S ∧ b ≠ Hb
def Clr (L:Nat → Value) (v:Value):Prop:=∀ i,4 ≤ i → ∀ b,(L i).ownBlock = some b → v.ownBlock ≠ some b
def DatP (L:Nat → Value) (w:World) (P:Nat → Prop) (x:TJV):Prop:=IntsD w P x.2 x.1.rsp.data ∧ (x.1.rsp.data ≠ [] → Clr L x.2)
theorem DatP.kept {L:Nat → Value} {w w':World} {P:Nat → Prop} {x:TJV} (h:DatP L w P x) (hk:Keeps P w w'):DatP L w' P x:=⟨h.1.kept hk,h.2⟩
theorem DatP.weak {L:Nat → Value} {w:World} {P Q:Nat → Prop} {x:TJV} (h:DatP L w P x) (hs:∀ b,P b → Q b):DatP L w Q x:=⟨h.1.weak hs,h.2⟩
theorem DatP.put {L:Nat → Value} {w:World} {P:Nat → Prop} {x:TJV} (h:DatP L w P x) {s:Nat} (hs:s < 4) (u:Value):DatP (upd L s u) w P x:=⟨h.1,fun hn i hi b hb => h.2 hn i hi b (by rwa [upd_other _ _ (by omega)] at hb)⟩
structure CyM (w:World) (base S Hb:Nat) (L:Nat → Value) (st:Cy) (ev:List Ev) (V:Nat → Value) (N:Nat → Nat) (C:Nat → List Value) (D:Nat → List TJV):Prop where
 raw:Raw w base V N C
 con:Cont st ev V N C D
 bs:w.heap[S]? = some (.cells #[V 0,V 1,V 2,V 3,V 4] 39 (0,0))
 bh:w.heap[Hb]? = some (.cells #[V 19,L 0,L 1,L 2,L 3] 98 (0,0))
 fs:Free V S
 fh:Free V Hb
 ne:S ≠ Hb
 s0:base ≤ S
 h0:base ≤ Hb
 lx:∀ i,4 ≤ i → ∀ b,(L i).ownBlock = some b → b < w.heap.size
 dat:∀ κ,κ < 20 → ∀ x ∈ D κ,DatP L w (DFree V S Hb w) x
theorem heap_lt' {w:World} {b:Nat} {o:Obj} (h:w.heap[b]? = some o):b < w.heap.size:=(Array.getElem?_eq_some_iff.1 h).1
theorem CyM.below {w w':World} {base S Hb:Nat} {L:Nat → Value} {st:Cy} {ev:List Ev} {V:Nat → Value} {N:Nat → Nat} {C:Nat → List Value} {D:Nat → List TJV} (h:CyM w base S Hb L st ev V N C D) (hb:Below w.heap.size w w'):CyM w' base S Hb L st ev V N C D :=
 ⟨h.raw.below hb,h.con,(hb.block S (heap_lt' h.bs)).trans h.bs,(hb.block Hb (heap_lt' h.bh)).trans h.bh,h.fs,h.fh,h.ne,h.s0,h.h0,fun i hi b hb2 => Nat.lt_of_lt_of_le (h.lx i hi b hb2) hb.size,fun κ hκ x hx => ((h.dat κ hκ x hx).kept fun b hb2 => hb.block b hb2.1).weak fun b hb2 => ⟨Nat.lt_of_lt_of_le hb2.1 hb.size,hb2.2⟩⟩
theorem CyM.put {w w1:World} {base S Hb:Nat} {L:Nat → Value} {st st':Cy} {ev:List Ev} {V:Nat → Value} {N:Nat → Nat} {C:Nat → List Value} {D D':Nat → List TJV} (h:CyM w base S Hb L st ev V N C D)
  {κ μ g off cap j n:Nat} {v:Value} {c:List Value} (hκ:5 ≤ κ ∧ κ < 19) (hμ:μ = 2 ∨ μ = 3) (hV:V μ = .slice (some ⟨g,off,none⟩) (N μ) cap) (hj:j < N μ * esz μ)
  (hk:∀ b,b < w.heap.size → (V κ).ownBlock ≠ some b → w1.heap[b]? = w.heap[b]?) (hsz:w.heap.size ≤ w1.heap.size) (ho:OwnR w1 base (ety κ) (esz κ) v n c) (hv:∀ k,v.ownBlock = some k → (V κ).ownBlock = some k ∨ w.heap.size ≤ k)
  (hD:∀ i,i ≠ κ → D' i = D i) (hd:∀ x ∈ D' κ,DatP L w1 (DFree (upd V κ v) S Hb w1) x)
  (hc:Cont st' ev (upd V κ v) (upd N κ n) (upd (upd C κ c) μ ((C μ).set j v)) D') :
  CyM (w1.setCell ⟨g,off + j,none⟩ v) base S Hb L st' ev (upd V κ v) (upd N κ n) (upd (upd C κ c) μ ((C μ).set j v)) D':=by
 have hκ2:κ < 20:=by omega
 have hμ2:μ < 20:=by omega
 have hne:μ ≠ κ:=by omega
 have hgo:(V μ).ownBlock = some g:=by rw [hV];rfl
 have r1:=h.raw.chg hκ2 hk ho hv
 have r2:=r1.set (κ:=μ) (g:=g) (off:=off) (cap:=cap) (j:=j) hμ2 (by rw [upd_other _ _ hne,upd_other _ _ hne];exact hV) (by rw [upd_other _ _ hne];exact hj) v
 rw [upd_other C _ hne] at r2
 have hgS:S ≠ g:=fun e => h.fs μ hμ2 (by rw [hgo,e])
 have hgH:Hb ≠ g:=fun e => h.fh μ hμ2 (by rw [hgo,e])
 have hset:∀ b,b ≠ g → (w1.setCell ⟨g,off + j,none⟩ v).heap[b]? = w1.heap[b]?:=fun b hb => Below.heap_setCell _ _ _ _ hb
 have hz:(w1.setCell ⟨g,off + j,none⟩ v).heap.size = w1.heap.size:=by simp
 have hS:=heap_lt' h.bs
 have hH:=heap_lt' h.bh
 have eV:∀ i,i ≠ κ → upd V κ v i = V i:=fun i hi => upd_other _ _ hi
 refine ⟨r2,hc,?_,?_,h.fs.chg (w:=w) hS hv hκ2,h.fh.chg (w:=w) hH hv hκ2,h.ne,h.s0,h.h0,fun i hi b hb => by rw [hz];exact Nat.lt_of_lt_of_le (h.lx i hi b hb) hsz,fun ν hν x hx => ?_⟩
 ·rw [hset S hgS,hk S hS (h.fs κ hκ2),h.bs,eV 0 (by omega),eV 1 (by omega),eV 2 (by omega),eV 3 (by omega),eV 4 (by omega)]
 ·rw [hset Hb hgH,hk Hb hH (h.fh κ hκ2),h.bh,eV 19 (by omega)]
 ·have hgn:∀ b,DFree (upd V κ v) S Hb w1 b → b ≠ g:=fun b hb e => hb.2.1 μ hμ2 (by rw [eV μ hne,hgo,e])
  have step:∀ {x:TJV},DatP L w1 (DFree (upd V κ v) S Hb w1) x → DatP L (w1.setCell ⟨g,off + j,none⟩ v) (DFree (upd V κ v) S Hb (w1.setCell ⟨g,off + j,none⟩ v)) x:=fun hi =>
   (hi.kept fun b hb => hset b (hgn b hb)).weak fun b hb => ⟨by rw [hz];exact hb.1,hb.2⟩
  by_cases e:ν = κ
  ·subst e;exact step (hd x hx)
  ·rw [hD ν e] at hx
   exact step (((h.dat ν hν x hx).kept fun b hb => hk b hb.1 (hb.2.1 κ hκ2)).weak fun b hb => ⟨Nat.lt_of_lt_of_le hb.1 hsz,hb.2.1.chg (w:=w) hb.1 hv hκ2,hb.2.2⟩)
theorem CyM.old {w w1:World} {base S Hb:Nat} {L:Nat → Value} {st:Cy} {ev:List Ev} {V:Nat → Value} {N:Nat → Nat} {C:Nat → List Value} {D:Nat → List TJV} (h:CyM w base S Hb L st ev V N C D) {κ ν:Nat} {v:Value} {x:TJV} (hκ:κ < 20) (hν:ν < 20)
  (hk:∀ b,b < w.heap.size → (V κ).ownBlock ≠ some b → w1.heap[b]? = w.heap[b]?) (hsz:w.heap.size ≤ w1.heap.size) (hv:∀ k,v.ownBlock = some k → (V κ).ownBlock = some k ∨ w.heap.size ≤ k) (hx:x ∈ D ν):DatP L w1 (DFree (upd V κ v) S Hb w1) x :=
 ((h.dat ν hν x hx).kept fun b hb => hk b hb.1 (hb.2.1 κ hκ)).weak fun b hb => ⟨Nat.lt_of_lt_of_le hb.1 hsz,hb.2.1.chg (w:=w) hb.1 hv hκ,hb.2.2⟩
theorem CyM.cell {w:World} {base S Hb:Nat} {L:Nat → Value} {st st':Cy} {ev:List Ev} {V:Nat → Value} {N:Nat → Nat} {C:Nat → List Value} {D:Nat → List TJV} (h:CyM w base S Hb L st ev V N C D)
  {κ g off cap j:Nat} {u:Value} (hκ:κ < 20) (hV:V κ = .slice (some ⟨g,off,none⟩) (N κ) cap) (hj:j < N κ * esz κ) (hc:Cont st' ev V N (upd C κ ((C κ).set j u)) D) :
  CyM (w.setCell ⟨g,off + j,none⟩ u) base S Hb L st' ev V N (upd C κ ((C κ).set j u)) D:=by
 have hgo:(V κ).ownBlock = some g:=by rw [hV];rfl
 have hset:∀ b,b ≠ g → (w.setCell ⟨g,off + j,none⟩ u).heap[b]? = w.heap[b]?:=fun b hb => Below.heap_setCell _ _ _ _ hb
 have hgS:S ≠ g:=fun e => h.fs κ hκ (by rw [hgo,e])
 have hgH:Hb ≠ g:=fun e => h.fh κ hκ (by rw [hgo,e])
 refine ⟨h.raw.set hκ hV hj u,hc,(hset S hgS).trans h.bs,(hset Hb hgH).trans h.bh,h.fs,h.fh,h.ne,h.s0,h.h0,fun i hi b hb => by simpa using h.lx i hi b hb,fun ν hν x hx => ?_⟩
 exact ((h.dat ν hν x hx).kept fun b hb => hset b (fun e => hb.2.1 κ hκ (by rw [hgo,e]))).weak fun b hb => ⟨by simpa using hb.1,hb.2⟩
theorem CyM.toldPut {w w1:World} {base S Hb:Nat} {L:Nat → Value} {st st':Cy} {ev:List Ev} {V:Nat → Value} {N:Nat → Nat} {C:Nat → List Value} {D D':Nat → List TJV} (h:CyM w base S Hb L st ev V N C D)
  {n:Nat} {v:Value} {c:List Value} (hk:∀ b,b < w.heap.size → (V 4).ownBlock ≠ some b → w1.heap[b]? = w.heap[b]?) (hsz:w.heap.size ≤ w1.heap.size) (ho:OwnR w1 base (ety 4) (esz 4) v n c) (hv:∀ k,v.ownBlock = some k → (V 4).ownBlock = some k ∨ w.heap.size ≤ k)
  (hD:∀ i,i ≠ 4 → D' i = D i) (hd:∀ x ∈ D' 4,DatP L w1 (DFree (upd V 4 v) S Hb w1) x)
  (hc:Cont st' ev (upd V 4 v) (upd N 4 n) (upd C 4 c) D') :
  CyM (w1.setCell ⟨S,4,none⟩ v) base S Hb L st' ev (upd V 4 v) (upd N 4 n) (upd C 4 c) D':=by
 have r1:=h.raw.chg (κ:=4) (by omega) hk ho hv
 have hset:∀ b,b ≠ S → (w1.setCell ⟨S,4,none⟩ v).heap[b]? = w1.heap[b]?:=fun b hb => Below.heap_setCell _ _ _ _ hb
 have hS:=heap_lt' h.bs
 have hH:=heap_lt' h.bh
 have f1:=h.fs.chg (w:=w) hS hv (κ:=4) (by omega)
 have f2:=h.fh.chg (w:=w) hH hv (κ:=4) (by omega)
 have eV:∀ i,i ≠ 4 → upd V 4 v i = V i:=fun i hi => upd_other _ _ hi
 refine ⟨r1.kept fun b _ hb => hset b (fun e => hb (by rw [e];exact f1)),hc,?_,?_,f1,f2,h.ne,h.s0,h.h0,fun i hi b hb => by simpa using Nat.lt_of_lt_of_le (h.lx i hi b hb) hsz,fun ν hν x hx => ?_⟩
 ·have hb1:=(hk S hS (h.fs 4 (by omega))).trans h.bs
  rw [eV 0 (by omega),eV 1 (by omega),eV 2 (by omega),eV 3 (by omega),upd_same]
  simp [World.setCell,Array.getElem?_modify,hb1]
 ·rw [hset Hb (Ne.symm h.ne),hk Hb hH (h.fh 4 (by omega)),h.bh,eV 19 (by omega)]
 ·have step:∀ {x:TJV},DatP L w1 (DFree (upd V 4 v) S Hb w1) x → DatP L (w1.setCell ⟨S,4,none⟩ v) (DFree (upd V 4 v) S Hb (w1.setCell ⟨S,4,none⟩ v)) x:=fun hi =>
   (hi.kept fun b hb => hset b hb.2.2.1).weak fun b hb => ⟨by simpa using hb.1,hb.2⟩
  by_cases e:ν = 4
  ·subst e;exact step (hd x hx)
  ·rw [hD ν e] at hx;exact step (h.old (by omega) hν hk hsz hv hx)
theorem CyM.evPut {w w1:World} {base S Hb:Nat} {L:Nat → Value} {st:Cy} {ev ev':List Ev} {V:Nat → Value} {N:Nat → Nat} {C:Nat → List Value} {D:Nat → List TJV} (h:CyM w base S Hb L st ev V N C D)
  {n:Nat} {v:Value} {c:List Value} (hk:∀ b,b < w.heap.size → (V 19).ownBlock ≠ some b → w1.heap[b]? = w.heap[b]?) (hsz:w.heap.size ≤ w1.heap.size) (ho:OwnR w1 base (ety 19) (esz 19) v n c) (hv:∀ k,v.ownBlock = some k → (V 19).ownBlock = some k ∨ w.heap.size ≤ k)
  (hc:Cont st ev' (upd V 19 v) (upd N 19 n) (upd C 19 c) D) :
  CyM (w1.setCell ⟨Hb,0,none⟩ v) base S Hb L st ev' (upd V 19 v) (upd N 19 n) (upd C 19 c) D:=by
 have r1:=h.raw.chg (κ:=19) (by omega) hk ho hv
 have hset:∀ b,b ≠ Hb → (w1.setCell ⟨Hb,0,none⟩ v).heap[b]? = w1.heap[b]?:=fun b hb => Below.heap_setCell _ _ _ _ hb
 have hS:=heap_lt' h.bs
 have hH:=heap_lt' h.bh
 have f1:=h.fs.chg (w:=w) hS hv (κ:=19) (by omega)
 have f2:=h.fh.chg (w:=w) hH hv (κ:=19) (by omega)
 have eV:∀ i,i ≠ 19 → upd V 19 v i = V i:=fun i hi => upd_other _ _ hi
 refine ⟨r1.kept fun b _ hb => hset b (fun e => hb (by rw [e];exact f2)),hc,?_,?_,f1,f2,h.ne,h.s0,h.h0,fun i hi b hb => by simpa using Nat.lt_of_lt_of_le (h.lx i hi b hb) hsz,fun ν hν x hx => ?_⟩
 ·rw [hset S h.ne,hk S hS (h.fs 19 (by omega)),h.bs,eV 0 (by omega),eV 1 (by omega),eV 2 (by omega),eV 3 (by omega),eV 4 (by omega)]
 ·have hb1:=(hk Hb hH (h.fh 19 (by omega))).trans h.bh
  rw [upd_same]
  simp [World.setCell,Array.getElem?_modify,hb1]
 ·exact ((h.old (ν:=ν) (κ:=19) (by omega) hν hk hsz hv hx).kept fun b hb => hset b hb.2.2.2).weak fun b hb => ⟨by simpa using hb.1,hb.2⟩
theorem CyM.letPut {w:World} {base S Hb:Nat} {L:Nat → Value} {st:Cy} {ev:List Ev} {V:Nat → Value} {N:Nat → Nat} {C:Nat → List Value} {D:Nat → List TJV} (h:CyM w base S Hb L st ev V N C D) {s:Nat} (hs:s < 4) (u:Value) :
  CyM (w.setCell ⟨Hb,1 + s,none⟩ u) base S Hb (upd L s u) st ev V N C D:=by
 have hset:∀ b,b ≠ Hb → (w.setCell ⟨Hb,1 + s,none⟩ u).heap[b]? = w.heap[b]?:=fun b hb => Below.heap_setCell _ _ _ _ hb
 refine ⟨h.raw.kept fun b _ hb => hset b (fun e => hb (by rw [e];exact h.fh)),h.con,(hset S h.ne).trans h.bs,?_,h.fs,h.fh,h.ne,h.s0,h.h0,fun i hi b hb => by rw [upd_other _ _ (by omega)] at hb;simpa using h.lx i hi b hb,fun ν hν x hx => ?_⟩
 ·have hb1:=h.bh
  rcases (show s = 0 ∨ s = 1 ∨ s = 2 ∨ s = 3 by omega) with rfl | rfl | rfl | rfl <;> simp [World.setCell,Array.getElem?_modify,hb1,upd]
 ·exact (((h.dat ν hν x hx).kept fun b hb => hset b hb.2.2.2).weak fun b hb => ⟨by simpa using hb.1,hb.2⟩).put hs u
theorem CyM.atm {w w1:World} {base S Hb:Nat} {L:Nat → Value} {st:Cy} {ev:List Ev} {V:Nat → Value} {N:Nat → Nat} {C:Nat → List Value} {D:Nat → List TJV} (h:CyM w base S Hb L st ev V N C D) {ws hs:List Int}
  (hk:∀ b,b < w.heap.size → (V 0).ownBlock ≠ some b → (V 1).ownBlock ≠ some b → w1.heap[b]? = w.heap[b]?) (hsz:w.heap.size ≤ w1.heap.size) (h0:Owns w1 base 3 1 rowI (V 0) ws) (h1:Owns w1 base 3 1 rowI (V 1) hs) :
  CyM w1 base S Hb L { st with ws:=ws,hs:=hs } ev V (upd (upd N 0 ws.length) 1 hs.length) (upd (upd C 0 (ws.flatMap rowI)) 1 (hs.flatMap rowI)) D:=by
 have hS:=heap_lt' h.bs
 have hH:=heap_lt' h.bh
 refine ⟨⟨fun κ hκ => ?_,h.raw.ap⟩,?_,(hk S hS (h.fs 0 (by omega)) (h.fs 1 (by omega))).trans h.bs,(hk Hb hH (h.fh 0 (by omega)) (h.fh 1 (by omega))).trans h.bh,h.fs,h.fh,h.ne,h.s0,h.h0,fun i hi b hb => Nat.lt_of_lt_of_le (h.lx i hi b hb) hsz,fun ν hν x hx => ?_⟩
 ·by_cases e1:κ = 1
  ·subst e1;simp only [upd_same];exact h1
  ·by_cases e0:κ = 0
   ·subst e0;simp only [upd_same,upd_other _ _ (show (0:Nat) ≠ 1 by omega)];exact h0
   ·simp only [upd_other _ _ e1,upd_other _ _ e0]
    exact (h.raw.own κ hκ).kept fun k hk2 => hk k (h.raw.lt hκ hk2).2 (fun hk3 => h.raw.ap κ 0 hκ (by omega) e0 k hk2 hk3) (fun hk3 => h.raw.ap κ 1 hκ (by omega) e1 k hk2 hk3)
 ·have c:=h.con
  have u:∀ {α:Type} {f:Nat → α} {a b:α} {i:Nat},2 ≤ i → upd (upd f 0 a) 1 b i = f i:=fun hi => by rw [upd_other _ _ (by omega),upd_other _ _ (by omega)]
  refine ⟨by simp [upd],by simp [upd],by simp [upd],by simp [upd],by rw [u (by omega)];exact c.n2,by rw [u (by omega)];exact c.c2,by rw [u (by omega)];exact c.n3,by rw [u (by omega)];exact c.c3,by rw [u (by omega)];exact c.n4,by rw [u (by omega)];exact c.c4,c.t4,?_,?_,?_,?_,?_,?_,?_,?_,c.td,by rw [u (by omega)];exact c.ne,by rw [u (by omega)];exact c.ce⟩
  ·intro i hi;rw [u (by omega)];exact c.nq i hi
  ·intro i hi;rw [u (by omega)];exact c.cq i hi
  ·intro i hi;rw [u (by omega)];exact c.no i hi
  ·intro i hi;rw [u (by omega)];exact c.co i hi
  ·intro i hi;rw [u (by omega)];exact c.np i hi
  ·intro i hi;rw [u (by omega)];exact c.cp i hi
  ·intro i hi;rw [u (by omega)];exact c.nd i hi
  ·intro i hi;rw [u (by omega)];exact c.cd i hi
 ·exact ((h.dat ν hν x hx).kept fun b hb => hk b hb.1 (hb.2.1 0 (by omega)) (hb.2.1 1 (by omega))).weak fun b hb => ⟨Nat.lt_of_lt_of_le hb.1 hsz,hb.2⟩
theorem elem_TlmJob:Elem 37 88 5 56:=elem_of Tryz.underlying37 (z:=.agg #[.int .i64 0,.int .i64 0,.int .i64 0,.int .i64 0,.slice none 0 0]) (by kernel_rfl) rfl (by omega)
set_option maxHeartbeats 1000000 in
theorem sClone_TlmJob {α:Type} (f:α → List Value) (hf:∀ x,(f x).length = 5) (h1:∀ x,∀ u ∈ f x,u.oneCell' = true) (v:Value) (ys:List α) (B:Nat) (w:World) (ha:Arr w B 5 v (ys.map f)) (hlen:ys.length * 56 ≤ 140737488355328) :
  Calls Tryz.prog 140 #[v] w (CloneP f 88 5 ys w):=by
 have ha0:=hid ha
 obtain ⟨ao,cap,rfl,g1,g2,g0,g9,g3⟩:=ha
 simp only [List.length_map] at g1 g2 g0 ⊢
 clear g3
 cases ao with
 | none =>
  obtain rfl:=g9 rfl
  have hy:ys = []:=by
   rcases ys with _ | ⟨y,ys⟩
   ·rfl
   ·simp at g1
  subst hy
  have he:=fun w => Lib.run_eql_slice_nil (P:=Tryz.prog) w 37 88 none 0 0 0 0 Tryz.underlying37
  go_enter Tryz.func140,Tryz.ntmps140
  go_wp2_with fail
  go_ret
  exact ⟨_,rfl,Owns.zero,Below.refl _ _⟩
 | some ad =>
  have he:=fun w => Lib.run_eql_slice_nil (P:=Tryz.prog) w 37 88 (some ad) ys.length cap 0 0 Tryz.underlying37
  clear g9
  go_enter Tryz.func140,Tryz.ntmps140
  go_wp2_with (at_builtin;go_must (refine wpList_cat elem_TlmJob f hf h1 _ rfl _ _ rfl w.heap.size _ [] (by rfl) (Owns.lit (Nat.le_refl _)) _ ys (min B w.heap.size) (by rfl) (by have:=(ha0.out).fit (by omega) (by intro r hr;obtain ⟨y,_,rfl⟩:=List.mem_map.1 hr;exact hf y);simp only [List.length_map] at this;exact this.below ((Below.refl _ _).alloc (Nat.min_le_right _ _) _)) (by simpa using hlen) (by simp;omega) (by simp) ?_);intro v' w1 hown1 hb1 _)
  go_ret
  exact ⟨v', rfl,by simpa using hown1,((Below.refl _ _).alloc (Nat.le_refl _) _).trans hb1⟩
set_option maxHeartbeats 1000000 in
theorem sClip_TlmJob (a:Option Addr) (n c:Nat) (w:World) (hc:n ≤ c) (hm:c ≤ 9223372036854775807):Calls Tryz.prog 139 #[.slice a n c] w fun e w' => e = .returned (.slice a n n) ∧ w = w':=by
 go_enter Tryz.func139,Tryz.ntmps139
 go_wp2_with fail
 go_ret
 exact ⟨rfl,rfl⟩
set_option maxHeartbeats 1000000 in
theorem clone_TlmJob {α:Type} (f:α → List Value) (hf:∀ x,(f x).length = 5) (h1:∀ x,∀ u ∈ f x,u.oneCell' = true) (v:Value) (ys:List α) (B:Nat) (w:World) (ha:Arr w B 5 v (ys.map f)) (hlen:ys.length * 56 ≤ 140737488355328) :
  Calls Tryz.prog 94 #[v] w (CloneP f 88 5 ys w):=by
 go_enter Tryz.func94,Tryz.ntmps94
 go_wp2_with fail
 refine (sClone_TlmJob f hf h1 v ys B w ha hlen).mono ?_
 rintro e w1 ⟨u,rfl,hown,hb⟩
 obtain ⟨a,c,rfl,hc1,hc2⟩:=hown.shape
 go_wp2_with fail
 refine (sClip_TlmJob a ys.length c _ hc1 hc2).mono ?_
 rintro e w2 ⟨rfl,rfl⟩
 go_wp2_with fail
 go_ret
 exact ⟨_,rfl,hown.clip,hb⟩
theorem wp_append_OwnR {P:Program} {w:World} {o:Oper} {a:Act} {K:Act → World → Prop} {Q:Exit → Act → World → Prop} (s x:Operand) (t:TypeId)
  (ho:o.op = .call { callee:=.builtin .append,args:=#[s,x],argTypes:=#[t,t] })
  (base:Nat) (e:TypeId) (i:TypeInfo) (z:Value) (size bytes:Nat) (ht:P.underlying t = some (.slice e)) (hi:P.info? e = some i) (hz:i.zero = some z)
  (hsize:i.size = size) (hby:i.bytes = bytes) (hzs:z.cells.size = size)
  (v:Value) (n:Nat) (xs:List Value) (hs:a.eval s = v) (hown:OwnR w base e size v n xs)
  (ad:Addr) (m c:Nat) (news:List Value) (hx:a.eval x = .slice (some ad) m c) (hl:news.length = m * size) (hnews:∀ j u,news[j]? = some u → w.cell? (ad.add j) = some u) (h1:∀ u ∈ news,u.oneCell' = true)
  (h63:n + m ≤ maxLen) (hbytes:(n + m) * bytes ≤ 140737488355328) (hbase:base ≤ w.heap.size)
  (h:∀ v' w', OwnR w' base e size v' (n + m) (xs ++ news) → w.grownBy w' v.ownBlock → (v' = .slice none 0 0 → v = .slice none 0 0 ∧ m = 0) → (v'.ownBlock = v.ownBlock ∨ v'.ownBlock = some w.heap.size) → K (a.put o.dst v') w'):Oper.wp P o a w K Q:=by
 obtain ⟨v', w', hr,h2,h3,h4,h5⟩:=run_append_OwnR (P:=P) w base t o.type e i z size bytes ht hi hz hsize hby hzs v n xs hown ad m c news hl hnews h1 h63 hbytes hbase
 unfold Oper.wp execOp
 simp only [ho,resolve,invoke,builtin,Sem.run_bind,Sem.run_pure,Result.andThen_ok,List.map_toArray,List.map_cons,List.map_nil,hs,hx,hr]
 exact h v' w' h2 h3 h4 h5
theorem Owns.allocd {α:Type} {w:World} {base e sz:Nat} {f:α → List Value} {v:Value} {xs:List α} (h:Owns w base e sz f v xs) (o:Obj):Owns (w.alloc o) base e sz f v xs:=OwnR.alloc h o
theorem Owns.drewd {α:Type} {w:World} {base e sz:Nat} {f:α → List Value} {v:Value} {xs:List α} (h:Owns w base e sz f v xs):Owns w.drew base e sz f v xs:=OwnR.kept h fun _ _ => rfl
theorem news_alloc {w:World} {cs:Array Value} {T:TypeId} (l:List Value) (hl:cs.toList = l):∀ j u,l[j]? = some u → (w.alloc (.cells cs T)).cell? ⟨w.heap.size,j,none⟩ = some u:=by
 intro j u hj
 rw [World.cell?_alloc_at _ _ _ _ rfl,← hj,← hl];simp
theorem Touch.setNew {r g o:Nat} {w w':World} (h:Touch r w w') (hg:w.heap.size ≤ g) (v:Value):Touch r w (w'.setCell ⟨g,o,none⟩ v) :=
 ⟨h.os,h.tape,h.output,by simpa [World.setCell] using h.size,fun k hk hr => by rw [Below.heap_setCell _ _ _ _ (show k ≠ g by omega)];exact h.block k hk hr⟩
theorem Touch.drewd {r:Nat} {a w:World} (h:Touch r a w):Touch r a w.drew:=h.trans ⟨rfl,rfl,rfl,Nat.le_refl _,fun _ _ _ => rfl⟩
theorem Touch.frozen {r:Nat} {w w':World} (h:Touch r w w') {p:Addr} (ha:p.block ≠ r) (hlt:p.block < w.heap.size):w'.frozen? p = w.frozen? p:=by
 simp only [World.frozen?,h.block _ hlt ha]
end Go.Proofs.YtenjbhbcacocjaaGreat
