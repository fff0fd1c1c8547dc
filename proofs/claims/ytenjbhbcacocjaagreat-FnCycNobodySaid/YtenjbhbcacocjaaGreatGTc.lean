/- CycAbs: its own box and lists while it runs; what waits, and was done, by what the bus holds. -/
import Derived.Test.YtenjbhbcacocjaaGreatGTm
import Derived.Test.YtenjbhbcacocjaaGreatGSo2
import Derived.Test.YtenjbhbcacocjaaGreatGCpy
import Derived.Test.YtenjbhbcacocjaaGreatGMs
set_option linter.unusedVariables false
set_option linter.unusedSimpArgs false
namespace Go.Proofs.YtenjbhbcacocjaaGreat
open Go.RowKit
theorem loadVar_tlm (w:World) (g:Nat) (a b c d e f:Value) (h0:w.cell? ⟨g,0,none⟩ = some a) (h1:w.cell? ⟨g,1,none⟩ = some b) (h2:w.cell? ⟨g,2,none⟩ = some c) (h3:w.cell? ⟨g,3,none⟩ = some d) (h4:w.cell? ⟨g,4,none⟩ = some e) (h5:w.cell? ⟨g,5,none⟩ = some f):(loadVar 106 ⟨g,0,none⟩).run Tryz.prog w = .ok (.agg #[a,b,c,d,e,f]) w:=by
 simp [loadVar,go_sem,h0,h1,h2,h3,h4,h5]
theorem Rd.low {lo lo':Nat} {w:World} (h:lo' ≤ lo):∀ b,Rd lo w b → Rd lo' w b:=fun _ hb => ⟨Nat.le_trans h hb.1,hb.2⟩
theorem JobsP.low {w:World} {lo lo':Nat} {u:Value} {js:List TJ} (h:JobsP w lo u js) (hl:lo' ≤ lo):JobsP w lo' u js:=let ⟨D,h1,h2,h3⟩:=h;⟨D,h1.weak (Rd.low hl),h2,fun x hx => (h3 x hx).weak (Rd.low hl)⟩
def TlCP (ws hs:List Int) (ks:List Nat) (j3 j4 j5:List TJ) (w:World) (en:Ending) (w':World):Prop :=
 ∃ y0 y1 y2 y3 y4 y5,en = .returned (.agg #[y0,y1,y2,y3,y4,y5]) ∧ IntsD w' (Rd w.heap.size w') y0 ws ∧ IntsD w' (Rd w.heap.size w') y1 hs ∧ ArrD w' (Rd w.heap.size w') 1 y2 (ks.map rowN) ∧ JobsP w' w.heap.size y3 j3 ∧ JobsP w' w.heap.size y4 j4 ∧ JobsP w' w.heap.size y5 j5 ∧ Below w.heap.size w w'
def ShortJ (js:List TJ):Prop:=js.length ≤ 1000 ∧ ∀ j ∈ js,j.rsp.data.length ≤ 1000
theorem ShortJ.of {js:List TJ} {D:List TJV} (hs:ShortJ js) (e:D.map (·.1) = js):D.length ≤ 1000 ∧ ∀ x ∈ D,x.1.rsp.data.length ≤ 1000:=⟨by have:=hs.1;rw [← e,List.length_map] at this;exact this,fun x hx => hs.2 x.1 (by rw [← e];exact List.mem_map.2 ⟨x,hx,rfl⟩)⟩
set_option maxRecDepth 8000 in
set_option maxHeartbeats 8000000 in
theorem tlmCopy_any {w:World} {B:Nat} {v0 v1 v2 v3 v4 v5:Value} {ws hs:List Int} {ks:List Nat} {j3 j4 j5:List TJ} (h0:Ints w B v0 ws) (h1:Ints w B v1 hs) (h2:Nats w B v2 ks) (h3:JobsV w B v3 j3) (h4:JobsV w B v4 j4) (h5:JobsV w B v5 j5) (hB:B ≤ w.heap.size)
  (l0:ws.length ≤ 1000) (l1:hs.length ≤ 1000) (l2:ks.length ≤ 1000) (l3:ShortJ j3) (l4:ShortJ j4) (l5:ShortJ j5) :
  Calls Tryz.prog 105 #[.agg #[v0,v1,v2,v3,v4,v5]] w (TlCP ws hs ks j3 j4 j5 w):=by
 have H0:=hid h0;have H1:=hid h1
 obtain ⟨a0,c0,rfl⟩:∃ a c,v0 = .slice a ws.length c:=by obtain ⟨a,c,e,_⟩:=h0.1;exact ⟨a,c,by simpa using e⟩
 obtain ⟨a1,c1,rfl⟩:∃ a c,v1 = .slice a hs.length c:=by obtain ⟨a,c,e,_⟩:=h1.1;exact ⟨a,c,by simpa using e⟩
 obtain ⟨a2,c2,rfl⟩:∃ a c,v2 = .slice a ks.length c:=by obtain ⟨a,c,e,_⟩:=h2;exact ⟨a,c,by simpa using e⟩
 have H2:=hid (show Arr w B 1 (.slice a2 ks.length c2) (ks.map rowN) from h2)
 obtain ⟨D3,k3,e3,i3⟩:=h3
 obtain ⟨D4,k4,e4,i4⟩:=h4
 obtain ⟨D5,k5,e5,i5⟩:=h5
 obtain ⟨a3,n3,c3,rfl⟩:∃ a n c,v3 = .slice a n c:=by obtain ⟨a,c,e,_⟩:=k3;exact ⟨a,_,c,e⟩
 obtain ⟨a4,n4,c4,rfl⟩:∃ a n c,v4 = .slice a n c:=by obtain ⟨a,c,e,_⟩:=k4;exact ⟨a,_,c,e⟩
 obtain ⟨a5,n5,c5,rfl⟩:∃ a n c,v5 = .slice a n c:=by obtain ⟨a,c,e,_⟩:=k5;exact ⟨a,_,c,e⟩
 have L3:=hid (l3.of e3);have L4:=hid (l4.of e4);have L5:=hid (l5.of e5)
 have K3:=hid k3;have K4:=hid k4;have K5:=hid k5
 have I3:=hid i3;have I4:=hid i4;have I5:=hid i5
 have E3:=hid e3;have E4:=hid e4;have E5:=hid e5
 clear h0 h1 h2 k3 k4 k5 i3 i4 i5 e3 e4 e5 l3 l4 l5
 obtain ⟨W2,hW2⟩:∃ W2,W2 = (w.alloc (.cells #[.slice a0 ws.length c0,.slice a1 hs.length c1,.slice a2 ks.length c2,.slice a3 n3 c3,.slice a4 n4 c4,.slice a5 n5 c5] 106)).alloc (.cells #[.slice none 0 0,.slice none 0 0,.slice none 0 0,.slice none 0 0,.slice none 0 0,.slice none 0 0] 106):=⟨_,rfl⟩
 have HW2:=hid (show Below w.heap.size w W2 by rw [hW2];exact (bx1 _ _).alloc (by simp) _)
 have HS:=hid (show Bx W2 w.heap.size [.slice a0 ws.length c0,.slice a1 hs.length c1,.slice a2 ks.length c2,.slice a3 n3 c3,.slice a4 n4 c4,.slice a5 n5 c5] by rw [hW2];exact (Bx.new w #[.slice a0 ws.length c0,.slice a1 hs.length c1,.slice a2 ks.length c2,.slice a3 n3 c3,.slice a4 n4 c4,.slice a5 n5 c5] _ (by simp)).below (bx1 _ _) (by simp))
 have HR:=hid (show Bx W2 (w.heap.size + 1) [vnil,vnil,vnil,vnil,vnil,vnil] by rw [hW2];have:=Bx.new (w.alloc (.cells #[.slice a0 ws.length c0,.slice a1 hs.length c1,.slice a2 ks.length c2,.slice a3 n3 c3,.slice a4 n4 c4,.slice a5 n5 c5] 106)) #[vnil,vnil,vnil,vnil,vnil,vnil] 106 (by simp);simpa using this)
 have HZ:=hid (show W2.heap.size = w.heap.size + 2 by rw [hW2];simp)
 have HBL:=hid (HW2.out.mono hB)
 go_enter Tryz.func105,Tryz.ntmps105
 go_upto_region 1 with fail
 rw [← hW2]
 clear hW2
 refine tm_region _ _ _ _ _ _ _ _ _ _ _ _ _ _ _ _ _ w.heap.size (w.heap.size + 1) B _ _ _ _ _ _ ws hs ks j3 j4 j5 D3 D4 D5 W2 HS.out HR.out (by omega) (by have:=HZ.out;omega) (by omega) (H0.out.below HBL.out) (H1.out.below HBL.out) (H2.out.below HBL.out) (K3.out.below HBL.out) E3.out (fun x hx => (I3.out x hx).below HBL.out) L3.out (K4.out.below HBL.out) E4.out (fun x hx => (I4.out x hx).below HBL.out) L4.out (K5.out.below HBL.out) E5.out (fun x hx => (I5.out x hx).below HBL.out) L5.out (by omega) (by omega) l2 ?_
 intro _ _ _ _ _ _ _ _ _ _ _ _ _ _ _ _ wz hP
 obtain ⟨b0,b1,b2,b3,b4,b5,hBx,o0,o1,o2,o3,o4,o5,ht⟩:=hP
 have hz:=HZ.out
 obtain ⟨⟨r0,r1,r2,r3,r4,r5⟩,_⟩:=hBx.six
 have OUT:=hid (show TlCP ws hs ks j3 j4 j5 w (.returned (.agg #[b0,b1,b2,b3,b4,b5])) wz from ⟨b0,b1,b2,b3,b4,b5,rfl,o0.weak (Rd.low HW2.out.size),o1.weak (Rd.low HW2.out.size),o2.weak (Rd.low HW2.out.size),o3.low HW2.out.size,o4.low HW2.out.size,o5.low HW2.out.size,HW2.out.trans (ht.below (by omega) (by omega))⟩)
 clear o0 o1 o2 o3 o4 o5 ht hBx
 unfold tmA
 go_wp2_with fail
 exact bodyPost_ret (results_c1 Tryz.results105 _ _ ⟨w.heap.size + 1,0,none⟩ (.agg #[b0,b1,b2,b3,b4,b5]) rfl (loadVar_tlm _ _ _ _ _ _ _ _ r0 r1 r2 r3 r4 r5)) rfl OUT.out
def noRsp:Rs:=⟨0,0,[]⟩
def qW (st:Cy) (i:Nat):List TJ:=(st.ports i).queue.map fun n => ⟨i,n,noRsp⟩
def pW (st:Cy) (s:Nat):List TJ:=(st.slaves s).pipe.map fun j => ⟨j.who,j.n,noRsp⟩
def qWs (st:Cy) (k:Nat):List TJ:=(List.range k).flatMap (qW st)
def pWs (st:Cy) (k:Nat):List TJ:=(List.range k).flatMap (pW st)
def dWs (st:Cy) (k:Nat):List TJ:=(List.range k).flatMap fun s => (st.slaves s).done
def nexts (st:Cy) (k:Nat):List Nat:=(List.range k).map fun i => (st.ports i).next
theorem range_succ_flat {α:Type} (f:Nat → List α) (k:Nat):(List.range (k + 1)).flatMap f = (List.range k).flatMap f ++ f k:=by rw [List.range_succ,List.flatMap_append];simp
theorem qWs_succ (st:Cy) (k:Nat):qWs st (k + 1) = qWs st k ++ qW st k:=range_succ_flat _ _
theorem pWs_succ (st:Cy) (k:Nat):pWs st (k + 1) = pWs st k ++ pW st k:=range_succ_flat _ _
theorem dWs_succ (st:Cy) (k:Nat):dWs st (k + 1) = dWs st k ++ (st.slaves k).done:=range_succ_flat _ _
theorem nexts_succ (st:Cy) (k:Nat):nexts st (k + 1) = nexts st k ++ [(st.ports k).next]:=by unfold nexts;rw [List.range_succ];simp
def waits (st:Cy):List TJ:=qWs st 3 ++ pWs st 4
def dones (st:Cy):List TJ:=dWs st 4
theorem waits_keys (st:Cy):(waits st).map kOf = kWait st:=by
 simp [waits,qWs,pWs,kWait,kQ,kP,qW,pW,List.range_succ,kOf,Function.comp_def]
theorem dones_keys (st:Cy):(dones st).map kOf = kDone st:=by
 simp [dones,dWs,kDone,kD,List.range_succ]
 rfl
theorem waits_none (st:Cy):∀ j ∈ waits st,j.rsp = noRsp:=by
 intro j hj
 simp only [waits,qWs,pWs,qW,pW,List.mem_append,List.mem_flatMap,List.mem_map] at hj
 rcases hj with ⟨_,_,_,_,rfl⟩ | ⟨_,_,_,_,rfl⟩ <;> rfl
theorem dones_mem {st:Cy} {j:TJ} (hj:j ∈ dones st):∃ s,s < 4 ∧ j ∈ (st.slaves s).done:=by
 simp only [dones,dWs,List.mem_flatMap,List.mem_range] at hj
 exact hj
theorem flat_len_le {α:Type} (f:Nat → List α) (b:Nat):∀ k,(∀ i,i < k → (f i).length ≤ b) → ((List.range k).flatMap f).length ≤ k * b
 | 0,_ => by simp
 | k + 1,h => by
  rw [range_succ_flat,List.length_append,Nat.add_mul,Nat.one_mul]
  have:=flat_len_le f b k fun i hi => h i (by omega)
  have:=h k (by omega)
  omega
theorem qWs_len {c:Cfg} {st:Cy} (hg:Good c st) {k:Nat} (hk:k ≤ 3):(qWs st k).length ≤ 6:=by
 have:=flat_len_le (qW st) 2 k fun i hi => by rw [qW,List.length_map];exact (hg.p i (by omega)).q2
 unfold qWs;omega
theorem pWs_len {c:Cfg} {st:Cy} (hg:Good c st) {k:Nat} (hk:k ≤ 4):(pWs st k).length ≤ 8:=by
 have:=flat_len_le (pW st) 2 k fun i hi => by rw [pW,List.length_map];exact (hg.s i (by omega)).p2
 unfold pWs;omega
theorem dWs_len {c:Cfg} {st:Cy} (hg:Good c st) {k:Nat} (hk:k ≤ 4):(dWs st k).length ≤ 8:=by
 have:=flat_len_le (fun s => (st.slaves s).done) 2 k fun i hi => (hg.s i (by omega)).d2
 unfold dWs;omega
def rowW (x:TJ):TJA:=(x,none,0,0)
structure AbM (w2 w:World) (gX:Nat) (a0 a1 a4 va vw vd:Value) (ks:List Nat) (W D:List TJA):Prop where
 box:w.heap[gX]? = some (.cells #[a0,a1,va,vw,vd,a4] 106 (0,0))
 oa:Owns w (gX + 1) 3 1 rowN va ks
 ow:Owns w (gX + 1) 88 5 rowA vw W
 od:Owns w (gX + 1) 88 5 rowA vd D
 ap:Apart vw vd
 bl:Below gX w2 w
theorem AbM.cells {w2 w:World} {gX:Nat} {a0 a1 a4 va vw vd:Value} {ks:List Nat} {W D:List TJA} (h:AbM w2 w gX a0 a1 a4 va vw vd ks W D):(w.cell? ⟨gX,0,none⟩ = some a0 ∧ w.cell? ⟨gX,1,none⟩ = some a1 ∧ w.cell? ⟨gX,2,none⟩ = some va ∧ w.cell? ⟨gX,3,none⟩ = some vw ∧ w.cell? ⟨gX,4,none⟩ = some vd ∧ w.cell? ⟨gX,5,none⟩ = some a4) ∧ (∀ o,w.frozen? ⟨gX,o,none⟩ = false) ∧ gX < w.heap.size:=by
 have:=h.box
 exact ⟨⟨by simp [World.cell?,this],by simp [World.cell?,this],by simp [World.cell?,this],by simp [World.cell?,this],by simp [World.cell?,this],by simp [World.cell?,this]⟩,fun o => by simp [World.frozen?,this],heap_lt' this⟩
theorem AbM.below {w2 w w':World} {gX:Nat} {a0 a1 a4 va vw vd:Value} {ks:List Nat} {W D:List TJA} (h:AbM w2 w gX a0 a1 a4 va vw vd ks W D) (hb:Below w.heap.size w w'):AbM w2 w' gX a0 a1 a4 va vw vd ks W D :=
 ⟨(hb.block gX h.cells.2.2).trans h.box,h.oa.below hb,h.ow.below hb,h.od.below hb,h.ap,h.bl.trans (hb.mono (Nat.le_of_lt h.cells.2.2))⟩
def OneB (v:Value) (v':Value) (w w':World):Prop:=w.heap.size ≤ w'.heap.size ∧ (∀ b,b < w.heap.size → v.ownBlock ≠ some b → w'.heap[b]? = w.heap[b]?) ∧ (∀ k,v'.ownBlock = some k → v.ownBlock = some k ∨ w.heap.size ≤ k)
theorem Owns.oneB {α:Type} {f:α → List Value} {w w':World} {base e sz:Nat} {v v' u:Value} {xs:List α} (h:Owns w base e sz f u xs) (ho:OneB v v' w w') (ha:Apart u v):Owns w' base e sz f u xs :=
 OwnR.kept h fun k hk => ho.2.1 k (OwnR.lt h k hk).2 fun e => ha k hk e
theorem oneB_apart {α:Type} {f:α → List Value} {w w':World} {base e sz:Nat} {v v' u:Value} {xs:List α} (h:Owns w base e sz f u xs) (ho:OneB v v' w w') (ha:Apart u v):Apart u v':=fun k hk hk' => by
 rcases ho.2.2 k hk' with h1 | h1
 ·exact ha k hk h1
 ·have:=(OwnR.lt h k hk).2;omega
theorem apartT' {α β:Type} {f:α → List Value} {f2:β → List Value} {w:World} {base base2 e e2 sz sz2:Nat} {v u:Value} {xs:List α} {ys:List β} (h:Owns w base e sz f v xs) (h2:Owns w base2 e2 sz2 f2 u ys) (hT:e ≠ e2):Apart v u:=by
 intro k hk hu
 obtain ⟨_,h1⟩:=h
 obtain ⟨_,h3⟩:=h2
 rcases h1 with ⟨rfl,_⟩ | ⟨g,off,cap,cur,rfl,_,hh,_⟩
 ·simp [Value.ownBlock] at hk
 rcases h3 with ⟨rfl,_⟩ | ⟨g2,off2,cap2,cur2,rfl,_,hh2,_⟩
 ·simp [Value.ownBlock] at hu
 simp [Value.ownBlock] at hk hu
 subst hk hu
 rw [hh] at hh2
 simp only [Option.some.injEq,Obj.cells.injEq] at hh2
 exact hT hh2.2.1
theorem AbM.gap {α:Type} {f:α → List Value} {w:World} {gX e sz:Nat} {v:Value} {xs:List α} (h:Owns w (gX + 1) e sz f v xs):v.ownBlock ≠ some gX:=fun hk => by have:=(OwnR.lt h gX hk).1;omega
theorem AbM.setA {w2 w w1:World} {gX:Nat} {a0 a1 a4 va vw vd va':Value} {ks ks':List Nat} {W D:List TJA} (h:AbM w2 w gX a0 a1 a4 va vw vd ks W D) (ho:Owns w1 (gX + 1) 3 1 rowN va' ks') (h1:OneB va va' w w1) (hb:Below (gX + 1) w w1):AbM w2 (w1.setCell ⟨gX,2,none⟩ va') gX a0 a1 a4 va' vw vd ks' W D:=by
 have hx:=(h1.2.1 gX h.cells.2.2 (AbM.gap h.oa)).trans h.box
 have hw:Apart vw va:=apartT' h.ow h.oa (by decide)
 have hd:Apart vd va:=apartT' h.od h.oa (by decide)
 exact ⟨by simp [World.setCell,Array.getElem?_modify,hx],Owns.set' ho _ _ _ (fun k hk => by have:=(OwnR.lt ho k hk).1;omega),Owns.set' (h.ow.oneB h1 hw) _ _ _ (fun k hk => by have:=(OwnR.lt h.ow k hk).1;omega),Owns.set' (h.od.oneB h1 hd) _ _ _ (fun k hk => by have:=(OwnR.lt h.od k hk).1;omega),h.ap,(h.bl.trans (hb.mono (Nat.le_succ _))).setCell (p:=⟨gX,_,none⟩) (Nat.le_refl _) _⟩
theorem AbM.setW {w2 w w1:World} {gX:Nat} {a0 a1 a4 va vw vd vw':Value} {ks:List Nat} {W W' D:List TJA} (h:AbM w2 w gX a0 a1 a4 va vw vd ks W D) (ho:Owns w1 (gX + 1) 88 5 rowA vw' W') (h1:OneB vw vw' w w1) (hb:Below (gX + 1) w w1):AbM w2 (w1.setCell ⟨gX,3,none⟩ vw') gX a0 a1 a4 va vw' vd ks W' D:=by
 have hx:=(h1.2.1 gX h.cells.2.2 (AbM.gap h.ow)).trans h.box
 have ha:Apart va vw:=apartT' h.oa h.ow (by decide)
 exact ⟨by simp [World.setCell,Array.getElem?_modify,hx],Owns.set' (h.oa.oneB h1 ha) _ _ _ (fun k hk => by have:=(OwnR.lt h.oa k hk).1;omega),Owns.set' ho _ _ _ (fun k hk => by have:=(OwnR.lt ho k hk).1;omega),Owns.set' (h.od.oneB h1 h.ap.symm) _ _ _ (fun k hk => by have:=(OwnR.lt h.od k hk).1;omega),(oneB_apart h.od h1 h.ap.symm).symm,(h.bl.trans (hb.mono (Nat.le_succ _))).setCell (p:=⟨gX,_,none⟩) (Nat.le_refl _) _⟩
theorem AbM.setD {w2 w w1:World} {gX:Nat} {a0 a1 a4 va vw vd vd':Value} {ks:List Nat} {W D D':List TJA} (h:AbM w2 w gX a0 a1 a4 va vw vd ks W D) (ho:Owns w1 (gX + 1) 88 5 rowA vd' D') (h1:OneB vd vd' w w1) (hb:Below (gX + 1) w w1):AbM w2 (w1.setCell ⟨gX,4,none⟩ vd') gX a0 a1 a4 va vw vd' ks W D':=by
 have hx:=(h1.2.1 gX h.cells.2.2 (AbM.gap h.od)).trans h.box
 have ha:Apart va vd:=apartT' h.oa h.od (by decide)
 exact ⟨by simp [World.setCell,Array.getElem?_modify,hx],Owns.set' (h.oa.oneB h1 ha) _ _ _ (fun k hk => by have:=(OwnR.lt h.oa k hk).1;omega),Owns.set' (h.ow.oneB h1 h.ap) _ _ _ (fun k hk => by have:=(OwnR.lt h.ow k hk).1;omega),Owns.set' ho _ _ _ (fun k hk => by have:=(OwnR.lt ho k hk).1;omega),oneB_apart h.ow h1 h.ap,(h.bl.trans (hb.mono (Nat.le_succ _))).setCell (p:=⟨gX,_,none⟩) (Nat.le_refl _) _⟩
theorem AbM.sortW {w2 w w1:World} {gX:Nat} {a0 a1 a4 va vw vd:Value} {ks:List Nat} {W W' D:List TJA} (h:AbM w2 w gX a0 a1 a4 va vw vd ks W D) (ho:Owns w1 (gX + 1) 88 5 rowA vw W') (hg:w.grownBy w1 vw.ownBlock):AbM w2 w1 gX a0 a1 a4 va vw vd ks W' D:=by
 have h1:OneB vw vw w w1:=⟨hg.size,fun b hb hne => hg.block b hb (fun e => hne e.symm),fun k hk => .inl hk⟩
 have hx:=(h1.2.1 gX h.cells.2.2 (AbM.gap h.ow)).trans h.box
 exact ⟨hx,h.oa.oneB h1 (apartT' h.oa h.ow (by decide)),ho,h.od.oneB h1 h.ap.symm,h.ap,h.bl.trans ((Below.refl _ _).grown hg (Nat.le_of_lt h.cells.2.2) (fun k hk => by have:=(OwnR.lt h.ow k hk).1;omega))⟩
theorem AbM.sortD {w2 w w1:World} {gX:Nat} {a0 a1 a4 va vw vd:Value} {ks:List Nat} {W D D':List TJA} (h:AbM w2 w gX a0 a1 a4 va vw vd ks W D) (ho:Owns w1 (gX + 1) 88 5 rowA vd D') (hg:w.grownBy w1 vd.ownBlock):AbM w2 w1 gX a0 a1 a4 va vw vd ks W D':=by
 have h1:OneB vd vd w w1:=⟨hg.size,fun b hb hne => hg.block b hb (fun e => hne e.symm),fun k hk => .inl hk⟩
 have hx:=(h1.2.1 gX h.cells.2.2 (AbM.gap h.od)).trans h.box
 exact ⟨hx,h.oa.oneB h1 (apartT' h.oa h.od (by decide)),h.ow.oneB h1 h.ap,ho,h.ap,h.bl.trans ((Below.refl _ _).grown hg (Nat.le_of_lt h.cells.2.2) (fun k hk => by have:=(OwnR.lt h.od k hk).1;omega))⟩
end Go.Proofs.YtenjbhbcacocjaaGreat
