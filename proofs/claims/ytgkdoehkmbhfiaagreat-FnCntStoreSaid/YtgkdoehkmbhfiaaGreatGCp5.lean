/- CycState.copyOf, of any bus that is read. -/
import Derived.Test.YtgkdoehkmbhfiaaGreatGIv3
import Derived.Test.YtgkdoehkmbhfiaaGreatGLib
import Derived.Test.YtgkdoehkmbhfiaaGreatGCp1
set_option linter.unusedVariables false
set_option linter.unusedSimpArgs false
set_option maxHeartbeats 16000000
namespace Go.Proofs.YtgkdoehkmbhfiaaGreat
open Go.RowKit
attribute [local go_sem ↓] Go.wp_at_zero Go.wp_at_succ
theorem Owns.tchC {α:Type} {w w':World} {base e sz g:Nat} {f:α→List Value} {v:Value} {xs:List α} (h:Owns w base e sz f v xs) (ht:Touch g w w') (hg:v.ownBlock≠some g):Owns w' base e sz f v xs :=
 OwnR.kept h fun k hk=>ht.block k (OwnR.lt h k hk).2 (fun e=>hg (by rw[hk,e]))
theorem rowN_len (x:Nat):(rowN x).length=1:=rfl
theorem rowN_oneC (x:Nat):∀u∈rowN x,u.oneCell' = true:=by
 intro u hu;simp only[rowN,List.mem_singleton]at hu;subst hu;rfl
theorem Nats.below {w w':World} {B:Nat} {v:Value} {xs:List Nat} (h:Nats w B v xs) (hb:Below B w w'):Nats w' B v xs:=Arr.below h hb
theorem Nats.mono {w:World} {B B':Nat} {v:Value} {xs:List Nat} (h:Nats w B v xs) (hb:B≤B'):Nats w B' v xs:=Arr.mono h hb
def cp5A (i0 i1 i2 i6 i7 i8 i9 i10 i11 i12 i13 i14 i15 i16 i17 i18 i19 i20 i21 i22 i23 i24 i25 i26 i27 i28 i45 i46 i47 i48 i49 i50 i51 i52 i53 i54 i55 i56 i57 i58 i59 i60 i61 i62 i63 i64 i65 i66 i67 i68 i69 i70 i71:Value) (g:Nat) (k:Nat) (gE:Nat) (u29 u30 u31 u32 u33 u34 u35 u36 u37 u38 u39 u40 u41 u42 u43 u44:Value):Act:={ tmps:=#[i0,i1,i2,.pointer (some ⟨g,0,none⟩),.int .i64 (k:Nat),.pointer (some ⟨gE,0,none⟩),i6,i7,i8,i9,i10,i11,i12,i13,i14,i15,i16,i17,i18,i19,i20,i21,i22,i23,i24,i25,i26,i27,i28,u29,u30,u31,u32,u33,u34,u35,u36,u37,u38,u39,u40,u41,u42,u43,u44,i45,i46,i47,i48,i49,i50,i51,i52,i53,i54,i55,i56,i57,i58,i59,i60,i61,i62,i63,i64,i65,i66,i67,i68,i69,i70,i71],defers:=[] }
noncomputable def cp5Code:Code:=(Tryz.f45.body.bind (zI8 5)).getD .skip
def CqP (lo pb po pc k:Nat) (C:List Value) (qs:List Nat) (os:List Jb) (wq w':World):Prop:=∃u v,Owns w' wq.heap.size 3 1 rowN u qs∧Owns w' wq.heap.size 101 3 jbRow v os∧Apart u v∧OwnR w' lo 48 4 (.slice (some ⟨pb,po,none⟩) 3 pc) 3 ((C.set (k * 4+1) u).set (k * 4+2) v)∧Touch pb wq w'
def cp5C (lo pb po pc k : Nat) (C : List Value) (qs : List Nat) (os : List Jb) (wq : World) (us : List Value) (W : World) : Prop := Touch pb wq W ∧ match us with
 |[]=>OwnR W lo 48 4 (.slice (some ⟨pb,po,none⟩) 3 pc) 3 C
 |[u]=>OwnR W lo 48 4 (.slice (some ⟨pb,po,none⟩) 3 pc) 3 C∧Owns W wq.heap.size 3 1 rowN u qs
 |[u,v]=>OwnR W lo 48 4 (.slice (some ⟨pb,po,none⟩) 3 pc) 3 C∧Owns W wq.heap.size 3 1 rowN u qs∧Owns W wq.heap.size 101 3 jbRow v os∧Apart u v
 |[u,v,_]=>OwnR W lo 48 4 (.slice (some ⟨pb,po,none⟩) 3 pc) 3 (C.set (k * 4+1) u)∧Owns W wq.heap.size 3 1 rowN u qs∧Owns W wq.heap.size 101 3 jbRow v os∧Apart u v
 |[_,_,_,_]=>CqP lo pb po pc k C qs os wq W
 |_=>False
set_option maxRecDepth 100000 in
theorem cp5_region (i0 i1 i2 i6 i7 i8 i9 i10 i11 i12 i13 i14 i15 i16 i17 i18 i19 i20 i21 i22 i23 i24 i25 i26 i27 i28 i45 i46 i47 i48 i49 i50 i51 i52 i53 i54 i55 i56 i57 i58 i59 i60 i61 i62 i63 i64 i65 i66 i67 i68 i69 i70 i71 j29 j30 j31 j32 j33 j34 j35 j36 j37 j38 j39 j40 j41 j42 j43 j44 : Value) (g : Nat) (k : Nat) (gE : Nat) (lo : Nat) (pb : Nat) (po : Nat) (pc : Nat) (B : Nat) (C : List Value) (c1 : Value) (c2 : Value) (qa : Option Addr) (qn : Nat) (qc : Nat) (oa : Option Addr) (on : Nat) (oc : Nat) (qs : List Nat) (os : List Jb) (wq : World)
    (hgp:g≠pb) (hgl:g<wq.heap.size) (hG:wq.cell? ⟨g,2,none⟩=some (.slice (some ⟨pb,po,none⟩) 3 pc)) (hpl:pb<wq.heap.size) (hB:B≤pb) (hBs:B≤wq.heap.size) (hkn:k<3) (hep:gE≠pb) (hel:gE<wq.heap.size) (hO:OwnR wq lo 48 4 (.slice (some ⟨pb,po,none⟩) 3 pc) 3 C) (hC1:C[k * 4+1]? = some c1) (hC2:C[k * 4+2]? = some c2) (hE1:wq.cell? ⟨gE,1,none⟩=some (.slice qa qn qc)) (hE2:wq.cell? ⟨gE,2,none⟩=some (.slice oa on oc)) (hQ:Nats wq B (.slice qa qn qc) qs) (hJ:Jbs wq B (.slice oa on oc) os) (hl1:qs.length≤1048576) (hl2:os.length≤1048576)
    {Q:Exit→Act→World→Prop}
    (hK:∀(u29 u30 u31 u32 u33 u34 u35 u36 u37 u38 u39 u40 u41 u42 u43 u44:Value) w', CqP lo pb po pc k C qs os wq w' → Q .normal (cp5A i0 i1 i2 i6 i7 i8 i9 i10 i11 i12 i13 i14 i15 i16 i17 i18 i19 i20 i21 i22 i23 i24 i25 i26 i27 i28 i45 i46 i47 i48 i49 i50 i51 i52 i53 i54 i55 i56 i57 i58 i59 i60 i61 i62 i63 i64 i65 i66 i67 i68 i69 i70 i71 g k gE u29 u30 u31 u32 u33 u34 u35 u36 u37 u38 u39 u40 u41 u42 u43 u44) w'):cp5Code.wp Tryz.prog Q (cp5A i0 i1 i2 i6 i7 i8 i9 i10 i11 i12 i13 i14 i15 i16 i17 i18 i19 i20 i21 i22 i23 i24 i25 i26 i27 i28 i45 i46 i47 i48 i49 i50 i51 i52 i53 i54 i55 i56 i57 i58 i59 i60 i61 i62 i63 i64 i65 i66 i67 i68 i69 i70 i71 g k gE j29 j30 j31 j32 j33 j34 j35 j36 j37 j38 j39 j40 j41 j42 j43 j44) wq:=by
  conv=>arg 2;whnf
  obtain⟨CC,hCC⟩:∃CC,CC=cp5C lo pb po pc k C qs os wq:=⟨_,rfl⟩
  have hC0:CC [] wq.drew:=by rw[hCC];exact⟨(Touch.refl _ _).drewd,hO⟩
  have hTC:∀us W,CC us W→Touch pb wq W:=by rw[hCC];exact fun us W h=>h.1
  have HCC:=hid hCC;have hne:Nonempty (Ph CC):=⟨⟨([],wq.drew),hC0⟩⟩
  have pc9:∀{p:Addr} {v:Value},p.block≠pb→wq.cell? p=some v→∀x:Ph CC,x.1.2.cell? p=some v:=fun hp hc x=>by
    rw[←hc];simp only[World.cell?,(hTC _ _ x.2).block _ (World.block_lt_of_cell? wq _ hc) hp]
  replace hG:=pc9 hgp hG;replace hE1:=pc9 hep hE1;replace hE2:=pc9 hep hE2;clear hCC pc9;have hki:(k:Int)<3:=by omega
  unfold cp5A;refine zC3 CC [(8,false),(11,false),(14,false),(17,false)] [] (by kernel_rfl) (by kernel_rfl) hC0 ?_
  iterate 4
    repeat (
      (with_reducible refine wq1_q ⟨rfl,rfl⟩ (fun K hK=>?_))
      go_simp
      first
        |((with_reducible refine hK _ ?_);clear hK K)
        |((with_reducible refine zB4 (by simp[undef]) (hK _ ?_));clear hK K)
        | (apply Exists.intro
           (with_reducible refine⟨fun _=>?_,hK _ ?_⟩)
           (fail)
           clear hK K))
    refine wq1_v rfl ?_
  refine zL1 ?_;clear hG hE1 hE2 hne;refine wq2_v _ rfl rfl ?_ ?_
  · intro W hW KA hKA
    rw[HCC.out]at hW;obtain⟨hT,own⟩:=hW;have hHB:=hT.below hB hBs;have hQx:Arr W B 1 (.slice qa qn qc) (qs.map rowN):=hQ.below hHB;go_simp
    (with_reducible refine(clone_int rowN rowN_len rowN_oneC _ qs B W hQx (by omega)).mono ?_)
    rintro e w'' ⟨q,rfl,o1,hb1⟩;go_simp;exact hKA _ _ _ (by rw[HCC.out];exact⟨hT.trans (Touch.of_below hb1 (Nat.le_refl _)),OwnR.below own hb1 (fun k hk=>(OwnR.lt own k hk).2),o1.rebase hT.size⟩) rfl
  intro v0 KA hKA;go_simp;refine hKA _ ?_;clear hKA KA;refine wq2_v _ rfl rfl ?_ ?_
  · intro W hW KA hKA
    rw[HCC.out]at hW;obtain⟨hT,own,o8⟩:=hW;have hHB:=hT.below hB hBs;have hJx:Arr W B 3 (.slice oa on oc) (os.map jbRow):=hJ.below hHB;go_simp
    (with_reducible refine(clone_CycJob jbRow (fun _=>rfl) jbRow_one _ os B W hJx (by omega)).mono ?_)
    rintro e w'' ⟨q,rfl,o1,hb1⟩;go_simp;exact hKA _ _ _ (by rw[HCC.out];exact⟨hT.trans (Touch.of_below hb1 (Nat.le_refl _)),OwnR.below own hb1 (fun k hk=>(OwnR.lt own k hk).2),OwnR.below o8 hb1 (fun k hk=>(OwnR.lt o8 k hk).2),o1.rebase hT.size,zM5 o8 o1⟩) rfl
  intro v1 KA hKA;go_simp;refine hKA _ ?_;clear hKA KA;refine wq2_v _ rfl rfl ?_ ?_
  · intro W hW KA hKA
    rw[HCC.out]at hW;obtain⟨hT,own,o8,o11,ap⟩:=hW;obtain⟨y1,y3,e1,_,_⟩:=o8.shape;subst e1;have q:=(OwnR.get own (k * 4+1) (by omega)).trans (hC1);have q2:=OwnR.unfrozen own (po+(k * 4+1));have hput:=OwnR.put own (k * 4+1) (by omega) (.slice y1 qs.length y3);rw[←Nat.add_assoc]at q q2 hput;have HPUT:=hid hput;clear hput;go_simp;exact hKA undef _ _ (by rw[HCC.out];exact⟨hT.trans (Touch.setCell ..),HPUT.out,Owns.tchC o8 (Touch.setCell ..) (fun e=>by have:=(OwnR.lt o8 pb e).1;omega),Owns.tchC o11 (Touch.setCell ..) (fun e=>by have:=(OwnR.lt o11 pb e).1;omega),ap⟩) rfl
  intro v2 KA hKA;go_simp;refine hKA _ ?_;clear hKA KA;refine wq2_v _ rfl rfl ?_ ?_
  · intro W hW KA hKA
    rw[HCC.out]at hW;obtain⟨hT,own,o8,o11,ap⟩:=hW;obtain⟨y1,y3,e1,_,_⟩:=o11.shape;subst e1;have q:=(OwnR.get own (k * 4+2) (by omega)).trans ((show(C.set (k * 4+1) _)[k * 4+2]? = some c2 by rw[List.getElem?_set,if_neg (by omega)];exact hC2));have q2:=OwnR.unfrozen own (po+(k * 4+2));have hput:=OwnR.put own (k * 4+2) (by omega) (.slice y1 os.length y3);rw[←Nat.add_assoc]at q q2 hput;have HPUT:=hid hput;clear hput;go_simp;exact hKA undef _ _ (by rw[HCC.out];exact⟨hT.trans (Touch.setCell ..),_,_,Owns.tchC o8 (Touch.setCell ..) (fun e=>by have:=(OwnR.lt o8 pb e).1;omega),Owns.tchC o11 (Touch.setCell ..) (fun e=>by have:=(OwnR.lt o11 pb e).1;omega),ap,HPUT.out,hT.trans (Touch.setCell ..)⟩) rfl
  intro v3 KA hKA;go_simp;refine hKA _ ?_;clear hKA KA;refine zL0 ?_;intro wz hwz;rw[HCC.out]at hwz;exact hK _ _ _ _ _ _ _ _ _ _ _ _ _ _ _ _ wz hwz.2
end Go.Proofs.YtgkdoehkmbhfiaaGreat
namespace Go.Proofs.YtgkdoehkmbhfiaaGreat
open Go.RowKit
attribute [local go_sem ↓] Go.wp_at_zero Go.wp_at_succ
def cp10A (i0 i1 i2 i4 i5 i8 i9 i10 i11 i12 i13 i14 i15 i16 i17 i18 i19 i20 i21 i22 i23 i24 i25 i26 i27 i28 i29 i30 i31 i32 i33 i34 i35 i36 i37 i38 i39 i40 i41 i42 i43 i44 i45 i46 i47 i48 i49 i50 i51 i52 i53 i70 i71:Value) (g:Nat) (k:Nat) (gE:Nat) (u54 u55 u56 u57 u58 u59 u60 u61 u62 u63 u64 u65 u66 u67 u68 u69:Value):Act:={ tmps:=#[i0,i1,i2,.pointer (some ⟨g,0,none⟩),i4,i5,.int .i64 (k:Nat),.pointer (some ⟨gE,0,none⟩),i8,i9,i10,i11,i12,i13,i14,i15,i16,i17,i18,i19,i20,i21,i22,i23,i24,i25,i26,i27,i28,i29,i30,i31,i32,i33,i34,i35,i36,i37,i38,i39,i40,i41,i42,i43,i44,i45,i46,i47,i48,i49,i50,i51,i52,i53,u54,u55,u56,u57,u58,u59,u60,u61,u62,u63,u64,u65,u66,u67,u68,u69,i70,i71],defers:=[] }
noncomputable def cp10Code:Code:=(Tryz.f45.body.bind (zI8 10)).getD .skip
def CrP (lo pb po pc k:Nat) (C:List Value) (qs:List Jb) (js:List TJ) (wq w':World):Prop:=∃u v m,∃D1:List TJV,Owns w' wq.heap.size 101 3 jbRow u qs∧wq.heap.size≤m∧Owns w' m 65 5 tjRow v D1∧D1.map (·.1)=js∧(∀x∈D1,IntsD w' (fun b=>m≤b∧b<w'.heap.size∧v.ownBlock≠some b) x.2 x.1.rsp.data)∧Low m u∧OwnR w' lo 94 3 (.slice (some ⟨pb,po,none⟩) 4 pc) 4 ((C.set (k * 3) u).set (k * 3+1) v)∧Touch pb wq w'
def cp10C (lo pb po pc k : Nat) (C : List Value) (qs : List Jb) (js : List TJ) (wq : World) (us : List Value) (W : World) : Prop := Touch pb wq W ∧ match us with
 |[]=>OwnR W lo 94 3 (.slice (some ⟨pb,po,none⟩) 4 pc) 4 C
 |[u]=>OwnR W lo 94 3 (.slice (some ⟨pb,po,none⟩) 4 pc) 4 C∧Owns W wq.heap.size 101 3 jbRow u qs
 |[u,v]=>OwnR W lo 94 3 (.slice (some ⟨pb,po,none⟩) 4 pc) 4 C∧Owns W wq.heap.size 101 3 jbRow u qs∧∃m,∃D1:List TJV,wq.heap.size≤m∧Owns W m 65 5 tjRow v D1∧D1.map (·.1)=js∧(∀x∈D1,IntsD W (fun b=>m≤b∧b<W.heap.size∧v.ownBlock≠some b) x.2 x.1.rsp.data)∧Low m u
 |[u,v,_]=>OwnR W lo 94 3 (.slice (some ⟨pb,po,none⟩) 4 pc) 4 (C.set (k * 3) u)∧Owns W wq.heap.size 101 3 jbRow u qs∧∃m,∃D1:List TJV,wq.heap.size≤m∧Owns W m 65 5 tjRow v D1∧D1.map (·.1)=js∧(∀x∈D1,IntsD W (fun b=>m≤b∧b<W.heap.size∧v.ownBlock≠some b) x.2 x.1.rsp.data)∧Low m u
 |[_,_,_,_]=>CrP lo pb po pc k C qs js wq W
 |_=>False
set_option maxRecDepth 100000 in
theorem cp10_region (i0 i1 i2 i4 i5 i8 i9 i10 i11 i12 i13 i14 i15 i16 i17 i18 i19 i20 i21 i22 i23 i24 i25 i26 i27 i28 i29 i30 i31 i32 i33 i34 i35 i36 i37 i38 i39 i40 i41 i42 i43 i44 i45 i46 i47 i48 i49 i50 i51 i52 i53 i70 i71 j54 j55 j56 j57 j58 j59 j60 j61 j62 j63 j64 j65 j66 j67 j68 j69 : Value) (g : Nat) (k : Nat) (gE : Nat) (lo : Nat) (pb : Nat) (po : Nat) (pc : Nat) (B : Nat) (C : List Value) (c1 : Value) (c2 : Value) (qa : Option Addr) (qn : Nat) (qc : Nat) (oa : Option Addr) (on : Nat) (oc : Nat) (qs : List Jb) (js : List TJ) (D0 : List TJV) (wq : World)
    (hgp:g≠pb) (hgl:g<wq.heap.size) (hG:wq.cell? ⟨g,3,none⟩=some (.slice (some ⟨pb,po,none⟩) 4 pc)) (hpl:pb<wq.heap.size) (hB:B≤pb) (hBs:B≤wq.heap.size) (hkn:k<4) (hep:gE≠pb) (hel:gE<wq.heap.size) (hO:OwnR wq lo 94 3 (.slice (some ⟨pb,po,none⟩) 4 pc) 4 C) (hC1:C[k * 3]? = some c1) (hC2:C[k * 3+1]? = some c2) (hE0:wq.cell? ⟨gE,0,none⟩=some (.slice qa qn qc)) (hE1:wq.cell? ⟨gE,1,none⟩=some (.slice oa on oc)) (hQ:Jbs wq B (.slice qa qn qc) qs) (hJ1:Arr wq B 5 (.slice oa on oc) (D0.map tjRow)) (hJ2:D0.map (·.1)=js) (hJ3:∀x∈D0,Ints wq B x.2 x.1.rsp.data) (hl1:qs.length≤1048576) (hl5:D0.length≤1000) (hl6:∀x∈D0,x.1.rsp.data.length≤1000)
    {Q:Exit→Act→World→Prop}
    (hK:∀(u54 u55 u56 u57 u58 u59 u60 u61 u62 u63 u64 u65 u66 u67 u68 u69:Value) w', CrP lo pb po pc k C qs js wq w' → Q .normal (cp10A i0 i1 i2 i4 i5 i8 i9 i10 i11 i12 i13 i14 i15 i16 i17 i18 i19 i20 i21 i22 i23 i24 i25 i26 i27 i28 i29 i30 i31 i32 i33 i34 i35 i36 i37 i38 i39 i40 i41 i42 i43 i44 i45 i46 i47 i48 i49 i50 i51 i52 i53 i70 i71 g k gE u54 u55 u56 u57 u58 u59 u60 u61 u62 u63 u64 u65 u66 u67 u68 u69) w'):cp10Code.wp Tryz.prog Q (cp10A i0 i1 i2 i4 i5 i8 i9 i10 i11 i12 i13 i14 i15 i16 i17 i18 i19 i20 i21 i22 i23 i24 i25 i26 i27 i28 i29 i30 i31 i32 i33 i34 i35 i36 i37 i38 i39 i40 i41 i42 i43 i44 i45 i46 i47 i48 i49 i50 i51 i52 i53 i70 i71 g k gE j54 j55 j56 j57 j58 j59 j60 j61 j62 j63 j64 j65 j66 j67 j68 j69) wq:=by
  conv=>arg 2;whnf
  obtain⟨CC,hCC⟩:∃CC,CC=cp10C lo pb po pc k C qs js wq:=⟨_,rfl⟩
  have hC0:CC [] wq.drew:=by rw[hCC];exact⟨(Touch.refl _ _).drewd,hO⟩
  have hTC:∀us W,CC us W→Touch pb wq W:=by rw[hCC];exact fun us W h=>h.1
  have HCC:=hid hCC;have hne:Nonempty (Ph CC):=⟨⟨([],wq.drew),hC0⟩⟩
  have pc9:∀{p:Addr} {v:Value},p.block≠pb→wq.cell? p=some v→∀x:Ph CC,x.1.2.cell? p=some v:=fun hp hc x=>by
    rw[←hc];simp only[World.cell?,(hTC _ _ x.2).block _ (World.block_lt_of_cell? wq _ hc) hp]
  replace hG:=pc9 hgp hG;replace hE0:=pc9 hep hE0;replace hE1:=pc9 hep hE1;clear hCC pc9;have hki:(k:Int)<4:=by omega
  unfold cp10A;refine zC3 CC [(8,false),(11,false),(14,false),(17,false)] [] (by kernel_rfl) (by kernel_rfl) hC0 ?_
  iterate 4
    repeat (
      (with_reducible refine wq1_q ⟨rfl,rfl⟩ (fun K hK=>?_))
      go_simp
      first
        |((with_reducible refine hK _ ?_);clear hK K)
        |((with_reducible refine zB4 (by simp[undef]) (hK _ ?_));clear hK K)
        | (apply Exists.intro
           (with_reducible refine⟨fun _=>?_,hK _ ?_⟩)
           (fail)
           clear hK K))
    refine wq1_v rfl ?_
  refine zL1 ?_;clear hG hE0 hE1 hne;refine wq2_v _ rfl rfl ?_ ?_
  · intro W hW KA hKA
    rw[HCC.out]at hW;obtain⟨hT,own⟩:=hW;have hHB:=hT.below hB hBs;have hQx:Arr W B 3 (.slice qa qn qc) (qs.map jbRow):=hQ.below hHB;go_simp
    (with_reducible refine(clone_CycJob jbRow (fun _=>rfl) jbRow_one _ qs B W hQx (by omega)).mono ?_)
    rintro e w'' ⟨q,rfl,o1,hb1⟩;go_simp;exact hKA _ _ _ (by rw[HCC.out];exact⟨hT.trans (Touch.of_below hb1 (Nat.le_refl _)),OwnR.below own hb1 (fun k hk=>(OwnR.lt own k hk).2),o1.rebase hT.size⟩) rfl
  intro v0 KA hKA;go_simp;refine hKA _ ?_;clear hKA KA;refine wq2_v _ rfl rfl ?_ ?_
  · intro W hW KA hKA
    rw[HCC.out]at hW;obtain⟨hT,own,o8⟩:=hW;have hHB:=hT.below hB hBs;have hqq:=Nat.le_trans hBs hT.size;go_simp
    (with_reducible refine(zG8 D0 _ B W (hJ1.below hHB) (fun x hx2=>(hJ3 x hx2).below hHB) hqq hl5 hl6).mono ?_)
    rintro e w'' ⟨q,D1,rfl,o1,hm1,hd1,hb1⟩;go_simp;exact hKA _ _ _ (by rw[HCC.out];exact⟨hT.trans (Touch.of_below hb1 (Nat.le_refl _)),OwnR.below own hb1 (fun k hk=>(OwnR.lt own k hk).2),OwnR.below o8 hb1 (fun k hk=>(OwnR.lt o8 k hk).2),W.heap.size,D1,hT.size,o1,hm1.trans hJ2,hd1,(fun k hk=>(OwnR.lt o8 k hk).2)⟩) rfl
  intro v1 KA hKA;go_simp;refine hKA _ ?_;clear hKA KA;refine wq2_v _ rfl rfl ?_ ?_
  · intro W hW KA hKA
    rw[HCC.out]at hW;obtain⟨hT,own,o8,m,D1,m1,o11,hm11,hd11,r11⟩:=hW;have HM11:=hid hm11;have HD11:=hid hd11;have R11:=hid r11;clear hm11 hd11 r11;obtain⟨y1,y3,e1,_,_⟩:=o8.shape;subst e1;have q:=(OwnR.get own (k * 3) (by omega)).trans (hC1);have q2:=OwnR.unfrozen own (po+(k * 3));have hput:=OwnR.put own (k * 3) (by omega) (.slice y1 qs.length y3);have HPUT:=hid hput;clear hput;go_simp;exact hKA undef _ _ (by rw[HCC.out];exact⟨hT.trans (Touch.setCell ..),HPUT.out,Owns.tchC o8 (Touch.setCell ..) (fun e=>by have:=(OwnR.lt o8 pb e).1;omega),m,D1,m1,Owns.tchC o11 (Touch.setCell ..) (fun e=>by have:=(OwnR.lt o11 pb e).1;omega),HM11.out,fun x hx2=>((HD11.out x hx2).kept fun b hb=>Below.heap_setCell _ _ _ _ (show b≠pb by have:=hb.1;omega)).weak fun b hb=>⟨hb.1,by simpa using hb.2.1,hb.2.2⟩,R11.out⟩) rfl
  intro v2 KA hKA;go_simp;refine hKA _ ?_;clear hKA KA;refine wq2_v _ rfl rfl ?_ ?_
  · intro W hW KA hKA
    rw[HCC.out]at hW;obtain⟨hT,own,o8,m,D1,m1,o11,hm11,hd11,r11⟩:=hW;have HM11:=hid hm11;have HD11:=hid hd11;have R11:=hid r11;clear hm11 hd11 r11;obtain⟨y1,y3,e1,_,_⟩:=o11.shape;subst e1;have q:=(OwnR.get own (k * 3+1) (by omega)).trans ((show(C.set (k * 3) _)[k * 3+1]? = some c2 by rw[List.getElem?_set,if_neg (by omega)];exact hC2));have q2:=OwnR.unfrozen own (po+(k * 3+1));have hput:=OwnR.put own (k * 3+1) (by omega) (.slice y1 D1.length y3);rw[←Nat.add_assoc]at q q2 hput;have HPUT:=hid hput;clear hput;go_simp;exact hKA undef _ _ (by rw[HCC.out];exact⟨hT.trans (Touch.setCell ..),_,_,m,D1,Owns.tchC o8 (Touch.setCell ..) (fun e=>by have:=(OwnR.lt o8 pb e).1;omega),m1,Owns.tchC o11 (Touch.setCell ..) (fun e=>by have:=(OwnR.lt o11 pb e).1;omega),HM11.out,fun x hx2=>((HD11.out x hx2).kept fun b hb=>Below.heap_setCell _ _ _ _ (show b≠pb by have:=hb.1;omega)).weak fun b hb=>⟨hb.1,by simpa using hb.2.1,hb.2.2⟩,R11.out,HPUT.out,hT.trans (Touch.setCell ..)⟩) rfl
  intro v3 KA hKA;go_simp;refine hKA _ ?_;clear hKA KA;refine zL0 ?_;intro wz hwz;rw[HCC.out]at hwz;exact hK _ _ _ _ _ _ _ _ _ _ _ _ _ _ _ _ wz hwz.2
end Go.Proofs.YtgkdoehkmbhfiaaGreat
namespace Go.Proofs.YtgkdoehkmbhfiaaGreat
open Go.RowKit
def prow (V:Nat→Value) (st:Cy) (P:List PS) (i k:Nat):List Value:=if k<i then ptRow V (st.ports k) k else rowPS (P.getD k default)
def srow (V:Nat→Value) (st:Cy) (Q:List SS) (j k:Nat):List Value:=if k<j then svRow V (st.slaves k) k else rowSS (Q.getD k default)
structure CpM (w:World) (base:Nat) (st:Cy) (P:List PS) (Q:List SS) (i j:Nat) (V:Nat→Value) (N:Nat→Nat) (C:Nat→List Value) (D:Nat→List TJV):Prop where
 raw:Raw w base V N C
 n0:N 0=st.ws.length
 c0:C 0=st.ws.flatMap rowI
 n1:N 1=st.hs.length
 c1:C 1=st.hs.flatMap rowI
 n2:N 2=3
 c2:C 2=prow V st P i 0++prow V st P i 1++prow V st P i 2
 n3:N 3=4
 c3:C 3=srow V st Q j 0++srow V st Q j 1++srow V st Q j 2++srow V st Q j 3
 n4:N 4=st.told.length
 c4:C 4=(D 4).flatMap tjRow
 t4:(D 4).map (·.1)=st.told
 q:∀k,k<i→N (5+k)=(st.ports k).queue.length∧C (5+k)=(st.ports k).queue.flatMap rowN∧N (8+k)=(st.ports k).out.length∧C (8+k)=(st.ports k).out.flatMap jbRow
 s:∀k,k<j→N (11+k)=(st.slaves k).pipe.length∧C (11+k)=(st.slaves k).pipe.flatMap jbRow∧N (15+k)=(st.slaves k).done.length∧C (15+k)=(D (15+k)).flatMap tjRow∧(D (15+k)).map (·.1)=(st.slaves k).done
 e:V 19=vnil∧N 19=0∧C 19=[]
 dat:∀κ,κ<20→∀x∈D κ,IntsD w (fun b=>base≤b∧b<w.heap.size∧Free V b) x.2 x.1.rsp.data
theorem CpM.fin {w:World} {base:Nat} {st:Cy} {P:List PS} {Q:List SS} {V:Nat→Value} {N:Nat→Nat} {C:Nat→List Value} {D:Nat→List TJV} (h:CpM w base st P Q 3 4 V N C D):CyR w base st V N C D :=
 ⟨h.raw,⟨h.n0,h.c0,h.n1,h.c1,h.n2,by rw[h.c2];simp[prow],h.n3,by rw[h.c3];simp[srow],h.n4,h.c4,h.t4,fun i hi=>(h.q i hi).1,fun i hi=>(h.q i hi).2.1,fun i hi=>(h.q i hi).2.2.1,fun i hi=>(h.q i hi).2.2.2,fun s hs=>(h.s s hs).1,fun s hs=>(h.s s hs).2.1,fun s hs=>(h.s s hs).2.2.1,fun s hs=>(h.s s hs).2.2.2.1,fun s hs=>(h.s s hs).2.2.2.2,h.e.2.1,h.e.2.2⟩,h.e.1,h.dat⟩
theorem CpM.below {w w':World} {base:Nat} {st:Cy} {P:List PS} {Q:List SS} {i j:Nat} {V:Nat→Value} {N:Nat→Nat} {C:Nat→List Value} {D:Nat→List TJV} (h:CpM w base st P Q i j V N C D) (hb:Below w.heap.size w w'):CpM w' base st P Q i j V N C D :=
 { h with raw:=h.raw.below hb,dat:=fun κ hκ x hx=>((h.dat κ hκ x hx).kept fun b hb2=>hb.block b hb2.2.1).weak fun b hb2=>⟨hb2.1,Nat.lt_of_lt_of_le hb2.2.1 hb.size,hb2.2.2⟩ }
theorem CpM.addr2 {w:World} {base:Nat} {st:Cy} {P:List PS} {Q:List SS} {i j:Nat} {V:Nat→Value} {N:Nat→Nat} {C:Nat→List Value} {D:Nat→List TJV} (h:CpM w base st P Q i j V N C D):∃g off cap,V 2=.slice (some ⟨g,off,none⟩) 3 cap∧base≤g∧g<w.heap.size:=by
 have:=h.raw.own 2 (by omega);rw[h.n2]at this;obtain⟨g,off,cap,e,_,_,hb,hz⟩:=OwnR.addr this (by omega);exact⟨g,off,cap,e,hb,hz⟩
theorem CpM.addr3 {w:World} {base:Nat} {st:Cy} {P:List PS} {Q:List SS} {i j:Nat} {V:Nat→Value} {N:Nat→Nat} {C:Nat→List Value} {D:Nat→List TJV} (h:CpM w base st P Q i j V N C D):∃g off cap,V 3=.slice (some ⟨g,off,none⟩) 4 cap∧base≤g∧g<w.heap.size:=by
 have:=h.raw.own 3 (by omega);rw[h.n3]at this;obtain⟨g,off,cap,e,_,_,hb,hz⟩:=OwnR.addr this (by omega);exact⟨g,off,cap,e,hb,hz⟩
theorem CpM.start {w' : World} {base m : Nat} {a b p s t : Value} {st : Cy} {P : List PS} {Q : List SS} {D1 : List TJV} (hO : CpO w' base a b p s st.ws st.hs P Q) (hP : P.length = 3) (hQ : Q.length = 4) (hm : base ≤ m) (ho : Owns w' m 65 5 tjRow t D1) (hD : D1.map (·.1) = st.told)
  (hd:∀x∈D1,IntsD w' (fun b=>m≤b∧b<w'.heap.size∧t.ownBlock≠some b) x.2 x.1.rsp.data) (hl:Low m a∧Low m b∧Low m p∧Low m s) :
  ∃V N C D,CpM w' base st P Q 0 0 V N C D∧V 0=a∧V 1=b∧V 2=p∧V 3=s∧V 4=t:=by
 obtain⟨P0,P1,P2,rfl⟩:∃x y z,P=[x,y,z]:=by
  rcases P with _|⟨x,_|⟨y,_|⟨z,_|⟨u,r⟩⟩⟩⟩ <;> simp at hP
  exact⟨x,y,z,rfl⟩
 obtain⟨Q0,Q1,Q2,Q3,rfl⟩:∃x y z u,Q=[x,y,z,u]:=by
  rcases Q with _|⟨x,_|⟨y,_|⟨z,_|⟨u,_|⟨v,r⟩⟩⟩⟩⟩ <;> simp at hQ
  exact⟨x,y,z,u,rfl⟩
 have lt:∀k,t.ownBlock=some k→m≤k:=fun k hk=>(OwnR.lt ho k hk).1
 have at1:∀{v:Value},Low m v→Apart v t:=fun h k h1 h2=>by have:=h k h1;have:=lt k h2;omega
 have dl:D1.length=st.told.length:=by rw[←hD,List.length_map]
 refine ⟨fun κ => match κ with | 0 => a | 1 => b | 2 => p | 3 => s | 4 => t | _ => vnil, fun κ => match κ with | 0 => st.ws.length | 1 => st.hs.length | 2 => 3 | 3 => 4 | 4 => st.told.length | _ => 0,
  fun κ=>match κ with|0=>st.ws.flatMap rowI|1=>st.hs.flatMap rowI|2=>rowPS P0++rowPS P1++rowPS P2|3=>rowSS Q0++rowSS Q1++rowSS Q2++rowSS Q3|4=>D1.flatMap tjRow|_=>[],fun κ=>if κ=4 then D1 else[],?_,rfl,rfl,rfl,rfl,rfl⟩
 refine⟨⟨fun κ hκ=>?_,fun κ μ hκ hμ hne=>?_⟩,rfl,rfl,rfl,rfl,rfl,by simp[prow,List.getD],rfl,by simp[srow,List.getD],rfl,by simp,by simp;exact hD,fun k hk=>by omega,fun k hk=>by omega,⟨rfl,rfl,rfl⟩,fun κ hκ x hx=>?_⟩
 ·rcases κ with _|_|_|_|_|κ
  ·exact hO.oa
  ·exact hO.ob
  ·have:=hO.op;unfold Owns at this;simpa[ety,esz]using this
  ·have:=hO.os;unfold Owns at this;simpa[ety,esz]using this
  ·have:=OwnR.rebase ho hm;rw[dl]at this;exact this
  ·exact⟨by simp,.inl ⟨rfl,rfl⟩⟩
 ·have hx:∀v:Value,Apart v vnil:=fun v k _ h2=>by simp[vnil,Value.ownBlock]at h2
  have hx':∀v:Value,Apart vnil v:=fun v k h2 _=>by simp[vnil,Value.ownBlock]at h2
  rcases κ with _|_|_|_|_|κ <;> rcases μ with _|_|_|_|_|μ <;> first|exact absurd rfl hne|exact hx _|exact hx' _|exact hO.ab|exact hO.ab.symm|exact hO.pq|exact hO.pq.symm|exact hO.ap|exact hO.ap.symm|exact hO.aq|exact hO.aq.symm|exact hO.bp|exact hO.bp.symm|exact hO.bq|exact hO.bq.symm|exact at1 hl.1|exact(at1 hl.1).symm|exact at1 hl.2.1|exact(at1 hl.2.1).symm|exact at1 hl.2.2.1|exact(at1 hl.2.2.1).symm|exact at1 hl.2.2.2|exact(at1 hl.2.2.2).symm
 ·by_cases e:κ=4
  ·rw[if_pos e]at hx;refine(hd x hx).weak fun b hb=>⟨by have:=hb.1;omega,hb.2.1,fun κ hκ=>?_⟩
   have hb1:=hb.1;rcases κ with _|_|_|_|_|κ
   ·exact fun e=>by have:=hl.1 b e;omega
   ·exact fun e=>by have:=hl.2.1 b e;omega
   ·exact fun e=>by have:=hl.2.2.1 b e;omega
   ·exact fun e=>by have:=hl.2.2.2 b e;omega
   ·exact hb.2.2
   ·exact fun e=>by simp[vnil,Value.ownBlock]at e
  ·rw[if_neg e]at hx;simp at hx
theorem CpM.port {w w' : World} {base : Nat} {st : Cy} {P : List PS} {Q : List SS} {k pb po pc : Nat} {V : Nat → Value} {N : Nat → Nat} {C : Nat → List Value} {D : Nat → List TJV} (h : CpM w base st P Q k 0 V N C D) (hk : k < 3) (hV : V 2 = .slice (some ⟨pb, po, none⟩) 3 pc)
  (hn:(P.getD k default).next=(st.ports k).next∧(P.getD k default).last=(st.ports k).last) (hc:CqP base pb po pc k (C 2) (st.ports k).queue (st.ports k).out w w') (hbase:base≤w.heap.size) :
  ∃V' N' C', CpM w' base st P Q (k+1) 0 V' N' C' D∧V' 0=V 0∧V' 1=V 1∧V' 2=V 2∧V' 3=V 3∧V' 4=V 4:=by
 obtain⟨u,v,o1,o2,ap,o3,ht⟩:=hc;have hg:(V 2).ownBlock=some pb:=by rw[hV];rfl
 have hkk:∀b,b<w.heap.size→b≠pb→w'.heap[b]? = w.heap[b]?:=fun b h1 h2=>ht.block b h1 h2
 have hr:=h.raw.two (κ:=5+k) (ρ:=8+k) (μ:=2) (g:=pb) (by omega) (by omega) (by omega) (by omega) (by omega) (by omega) hg hkk (by rw[hV,h.n2];exact o3) (by rw[(ety_q hk).1,(ety_q hk).2];exact OwnR.rebase o1 hbase) (by rw[(ety_o hk).1,(ety_o hk).2];exact OwnR.rebase o2 hbase) (fun b hb=>(OwnR.lt o1 b hb).1) (fun b hb=>(OwnR.lt o2 b hb).1) ap;have eV:∀i,i≠5+k→i≠8+k→upd (upd V (5+k) u) (8+k) v i=V i:=fun i h1 h2=>by rw[zA0 _ _ h2,zA0 _ _ h1]
 have eN:∀i,i≠5+k→i≠8+k→upd (upd N (5+k) (st.ports k).queue.length) (8+k) (st.ports k).out.length i=N i:=fun i h1 h2=>by rw[zA0 _ _ h2,zA0 _ _ h1]
 have eC:∀i,i≠5+k→i≠8+k→i≠2→upd (upd (upd C (5+k) ((st.ports k).queue.flatMap rowN)) (8+k) ((st.ports k).out.flatMap jbRow)) 2 (((C 2).set (k * 4+1) u).set (k * 4+2) v) i=C i:=fun i h1 h2 h3=>by rw[zA0 _ _ h3,zA0 _ _ h2,zA0 _ _ h1]
 have eq5:upd (upd V (5+k) u) (8+k) v (5+k)=u:=by rw[zA0 _ _ (by omega),zA1]
 have eq8:upd (upd V (5+k) u) (8+k) v (8+k)=v:=zA1 _ _ _;refine⟨_,_,_,⟨hr,?_,?_,?_,?_,?_,?_,?_,?_,?_,?_,h.t4,fun i hi=>?_,fun i hi=>by omega,?_,fun κ hκ x hx=>?_⟩,eV 0 (by omega) (by omega),eV 1 (by omega) (by omega),eV 2 (by omega) (by omega),eV 3 (by omega) (by omega),eV 4 (by omega) (by omega)⟩
 ·rw[eN 0 (by omega) (by omega)];exact h.n0
 ·rw[eC 0 (by omega) (by omega) (by omega)];exact h.c0
 ·rw[eN 1 (by omega) (by omega)];exact h.n1
 ·rw[eC 1 (by omega) (by omega) (by omega)];exact h.c1
 ·rw[eN 2 (by omega) (by omega)];exact h.n2
 ·rw[zA1,h.c2];have old:∀i,i<k→ptRow (upd (upd V (5+k) u) (8+k) v) (st.ports i) i=ptRow V (st.ports i) i:=fun i hi=>by
   simp only[ptRow,eV (5+i) (by omega) (by omega),eV (8+i) (by omega) (by omega)]
  rcases(show k=0∨k=1∨k=2 by omega)with rfl|rfl|rfl
  ·simp[prow,ptRow,rowPS,eq5,eq8,upd];exact⟨congrArg (fun n:Nat=>(n:Int)) hn.1,congrArg (fun n:Nat=>(n:Int)) hn.2⟩
  ·rw[show prow V st P 1 0=ptRow V (st.ports 0) 0 by simp[prow],show prow (upd (upd V (5+1) u) (8+1) v) st P (1+1) 0=ptRow V (st.ports 0) 0 by rw[←old 0 (by omega)];simp[prow]];simp[prow,ptRow,rowPS,upd];exact⟨congrArg (fun n:Nat=>(n:Int)) hn.1,congrArg (fun n:Nat=>(n:Int)) hn.2⟩
  ·rw[show prow V st P 2 0=ptRow V (st.ports 0) 0 by simp[prow],show prow V st P 2 1=ptRow V (st.ports 1) 1 by simp[prow],show prow (upd (upd V (5+2) u) (8+2) v) st P (2+1) 0=ptRow V (st.ports 0) 0 by rw[←old 0 (by omega)];simp[prow],show prow (upd (upd V (5+2) u) (8+2) v) st P (2+1) 1=ptRow V (st.ports 1) 1 by rw[←old 1 (by omega)];simp[prow]];simp[prow,ptRow,rowPS,upd];exact⟨congrArg (fun n:Nat=>(n:Int)) hn.1,congrArg (fun n:Nat=>(n:Int)) hn.2⟩
 ·rw[eN 3 (by omega) (by omega)];exact h.n3
 ·rw[eC 3 (by omega) (by omega) (by omega)];exact h.c3
 ·rw[eN 4 (by omega) (by omega)];exact h.n4
 ·rw[eC 4 (by omega) (by omega) (by omega)];exact h.c4
 ·by_cases e:i=k
  ·subst e;refine⟨?_,?_,zA1 _ _ _,?_⟩
   ·rw[zA0 _ _ (by omega),zA1]
   ·rw[zA0 _ _ (by omega),zA0 _ _ (by omega),zA1]
   ·rw[zA0 _ _ (by omega),zA1]
  ·obtain⟨h1,h2,h3,h4⟩:=h.q i (by omega);rw[eN (5+i) (by omega) (by omega),eN (8+i) (by omega) (by omega),eC (5+i) (by omega) (by omega) (by omega),eC (8+i) (by omega) (by omega) (by omega)];exact⟨h1,h2,h3,h4⟩
 ·rw[eV 19 (by omega) (by omega),eN 19 (by omega) (by omega),eC 19 (by omega) (by omega) (by omega)];exact h.e
 ·refine((h.dat κ hκ x hx).kept fun b hb=>hkk b hb.2.1 fun e=>hb.2.2 2 (by omega) (by rw[hg,e])).weak fun b hb=>⟨hb.1,Nat.lt_of_lt_of_le hb.2.1 ht.size,fun μ hμ=>?_⟩
  by_cases e2:μ=8+k
  ·subst e2;rw[eq8];exact fun e=>by have:=(OwnR.lt o2 b e).1;have:=hb.2.1;omega
  ·by_cases e1:μ=5+k
   ·subst e1;rw[eq5];exact fun e=>by have:=(OwnR.lt o1 b e).1;have:=hb.2.1;omega
   ·rw[eV μ e1 e2];exact hb.2.2 μ hμ
theorem CpM.store {w w' : World} {base : Nat} {st : Cy} {P : List PS} {Q : List SS} {k pb po pc : Nat} {V : Nat → Value} {N : Nat → Nat} {C : Nat → List Value} {D : Nat → List TJV} (h : CpM w base st P Q 3 k V N C D) (hk : k < 4) (hV : V 3 = .slice (some ⟨pb, po, none⟩) 4 pc)
  (hn:(Q.getD k default).last=(st.slaves k).last) (hc:CrP base pb po pc k (C 3) (st.slaves k).pipe (st.slaves k).done w w') (hbase:base≤w.heap.size) :
  ∃V' N' C' D', CpM w' base st P Q 3 (k+1) V' N' C' D' ∧ V' 0=V 0∧V' 1=V 1∧V' 2=V 2∧V' 3=V 3∧V' 4=V 4:=by
 obtain⟨u,v,m,D1,o1,hm,o2,hD1,hd1,hlu,o3,ht⟩:=hc;have hg:(V 3).ownBlock=some pb:=by rw[hV];rfl
 have hkk:∀b,b<w.heap.size→b≠pb→w'.heap[b]? = w.heap[b]?:=fun b h1 h2=>ht.block b h1 h2
 have dl:D1.length=(st.slaves k).done.length:=by rw[←hD1,List.length_map]
 have ap:Apart u v:=fun b h1 h2=>by have:=hlu b h1;have:=(OwnR.lt o2 b h2).1;omega
 have hr:=h.raw.two (κ:=11+k) (ρ:=15+k) (μ:=3) (g:=pb) (by omega) (by omega) (by omega) (by omega) (by omega) (by omega) hg hkk (by rw[hV,h.n3];exact o3) (by rw[(ety_p hk).1,(ety_p hk).2];exact OwnR.rebase o1 hbase) (by rw[(ety_d hk).1,(ety_d hk).2];exact OwnR.rebase o2 (Nat.le_trans hbase hm)) (fun b hb=>(OwnR.lt o1 b hb).1) (fun b hb=>Nat.le_trans hm (OwnR.lt o2 b hb).1) ap;have eV:∀i,i≠11+k→i≠15+k→upd (upd V (11+k) u) (15+k) v i=V i:=fun i h1 h2=>by rw[zA0 _ _ h2,zA0 _ _ h1]
 have eN:∀i,i≠11+k→i≠15+k→upd (upd N (11+k) (st.slaves k).pipe.length) (15+k) D1.length i=N i:=fun i h1 h2=>by rw[zA0 _ _ h2,zA0 _ _ h1]
 have eC:∀i,i≠11+k→i≠15+k→i≠3→upd (upd (upd C (11+k) ((st.slaves k).pipe.flatMap jbRow)) (15+k) (D1.flatMap tjRow)) 3 (((C 3).set (k * 3) u).set (k * 3+1) v) i=C i:=fun i h1 h2 h3=>by rw[zA0 _ _ h3,zA0 _ _ h2,zA0 _ _ h1]
 have eq5:upd (upd V (11+k) u) (15+k) v (11+k)=u:=by rw[zA0 _ _ (by omega),zA1]
 have eq8:upd (upd V (11+k) u) (15+k) v (15+k)=v:=zA1 _ _ _;refine⟨_,_,_,upd D (15+k) D1,⟨hr,?_,?_,?_,?_,?_,?_,?_,?_,?_,?_,?_,fun i hi=>?_,fun i hi=>?_,?_,fun κ hκ x hx=>?_⟩,eV 0 (by omega) (by omega),eV 1 (by omega) (by omega),eV 2 (by omega) (by omega),eV 3 (by omega) (by omega),eV 4 (by omega) (by omega)⟩
 ·rw[eN 0 (by omega) (by omega)];exact h.n0
 ·rw[eC 0 (by omega) (by omega) (by omega)];exact h.c0
 ·rw[eN 1 (by omega) (by omega)];exact h.n1
 ·rw[eC 1 (by omega) (by omega) (by omega)];exact h.c1
 ·rw[eN 2 (by omega) (by omega)];exact h.n2
 ·rw[eC 2 (by omega) (by omega) (by omega),h.c2];have old:∀i,i<3→ptRow (upd (upd V (11+k) u) (15+k) v) (st.ports i) i=ptRow V (st.ports i) i:=fun i hi=>by
   simp only[ptRow,eV (5+i) (by omega) (by omega),eV (8+i) (by omega) (by omega)]
  simp only[prow,if_pos (show(0:Nat)<3 by omega),if_pos (show(1:Nat)<3 by omega),if_pos (show(2:Nat)<3 by omega),old 0 (by omega),old 1 (by omega),old 2 (by omega)]
 ·rw[eN 3 (by omega) (by omega)];exact h.n3
 ·rw[zA1,h.c3];have old:∀i,i<k→srow (upd (upd V (11+k) u) (15+k) v) st Q (k+1) i=srow V st Q k i:=fun i hi=>by
   simp only[srow,if_pos (show i<k+1 by omega),if_pos hi,svRow,eV (11+i) (by omega) (by omega),eV (15+i) (by omega) (by omega)]
  have new:∀i,k<i→srow (upd (upd V (11+k) u) (15+k) v) st Q (k+1) i=rowSS (Q.getD i default):=fun i hi=>by
   simp only[srow,if_neg (show ¬i<k+1 by omega)]
  have new':∀i,k≤i→srow V st Q k i=rowSS (Q.getD i default):=fun i hi=>by
   simp only[srow,if_neg (show ¬i<k by omega)]
  have row:∀i,∃x y z,srow V st Q k i=[x,y,z]:=fun i=>by
   unfold srow;split
   ·exact⟨_,_,_,rfl⟩
   ·exact⟨_,_,_,rfl⟩
  have mid:srow (upd (upd V (11+k) u) (15+k) v) st Q (k+1) k=[u,v,.int .i64 (st.slaves k).last]:=by
   simp only[srow,if_pos (show k<k+1 by omega),svRow,eq5,eq8]
  have last:srow V st Q k k=[sl (Q.getD k default).p,sl (Q.getD k default).d,.int .i64 (st.slaves k).last]:=by
   rw[new' k (Nat.le_refl _),rowSS,hn]
  rcases(show k=0∨k=1∨k=2∨k=3 by omega)with rfl|rfl|rfl|rfl
  ·rw[mid,last,new 1 (by omega),new 2 (by omega),new 3 (by omega),new' 1 (by omega),new' 2 (by omega),new' 3 (by omega)];rfl
  ·obtain⟨x,y,z,e0⟩:=row 0;rw[mid,last,old 0 (by omega),new 2 (by omega),new 3 (by omega),new' 2 (by omega),new' 3 (by omega),e0];rfl
  ·obtain⟨x,y,z,e0⟩:=row 0;obtain⟨x1,y1,z1,e1⟩:=row 1;rw[mid,last,old 0 (by omega),old 1 (by omega),new 3 (by omega),new' 3 (by omega),e0,e1];rfl
  ·obtain⟨x,y,z,e0⟩:=row 0;obtain⟨x1,y1,z1,e1⟩:=row 1;obtain⟨x2,y2,z2,e2⟩:=row 2;rw[mid,last,old 0 (by omega),old 1 (by omega),old 2 (by omega),e0,e1,e2];rfl
 ·rw[eN 4 (by omega) (by omega)];exact h.n4
 ·rw[eC 4 (by omega) (by omega) (by omega),zA0 _ _ (by omega)];exact h.c4
 ·rw[zA0 _ _ (by omega)];exact h.t4
 ·obtain⟨h1,h2,h3,h4⟩:=h.q i hi;rw[eN (5+i) (by omega) (by omega),eN (8+i) (by omega) (by omega),eC (5+i) (by omega) (by omega) (by omega),eC (8+i) (by omega) (by omega) (by omega)];exact⟨h1,h2,h3,h4⟩
 ·by_cases e:i=k
  ·subst e;refine⟨?_,?_,?_,?_,?_⟩
   ·rw[zA0 _ _ (by omega),zA1]
   ·rw[zA0 _ _ (by omega),zA0 _ _ (by omega),zA1]
   ·rw[zA1,dl]
   ·rw[zA0 _ _ (by omega),zA1,zA1]
   ·rw[zA1];exact hD1
  ·obtain⟨h1,h2,h3,h4,h5⟩:=h.s i (by omega);rw[eN (11+i) (by omega) (by omega),eN (15+i) (by omega) (by omega),eC (11+i) (by omega) (by omega) (by omega),eC (15+i) (by omega) (by omega) (by omega),zA0 D D1 (by omega)];exact⟨h1,h2,h3,h4,h5⟩
 ·rw[eV 19 (by omega) (by omega),eN 19 (by omega) (by omega),eC 19 (by omega) (by omega) (by omega)];exact h.e
 ·by_cases eκ:κ=15+k
  ·subst eκ;rw[zA1]at hx;refine(hd1 x hx).weak fun b hb=>⟨by have:=hb.1;omega,hb.2.1,fun μ hμ=>?_⟩
   have hb1:=hb.1;by_cases e2:μ=15+k
   ·subst e2;rw[eq8];exact hb.2.2
   ·by_cases e1:μ=11+k
    ·subst e1;rw[eq5];exact fun e=>by have:=hlu b e;omega
    ·rw[eV μ e1 e2];exact fun e=>by have:=(h.raw.lt hμ e).2;omega
  ·rw[zA0 _ _ eκ]at hx;refine((h.dat κ hκ x hx).kept fun b hb=>hkk b hb.2.1 fun e=>hb.2.2 3 (by omega) (by rw[hg,e])).weak fun b hb=>⟨hb.1,Nat.lt_of_lt_of_le hb.2.1 ht.size,fun μ hμ=>?_⟩
   have hb2:=hb.2.1;by_cases e2:μ=15+k
   ·subst e2;rw[eq8];exact fun e=>by have:=(OwnR.lt o2 b e).1;omega
   ·by_cases e1:μ=11+k
    ·subst e1;rw[eq5];exact fun e=>by have:=(OwnR.lt o1 b e).1;omega
    ·rw[eV μ e1 e2];exact hb.2.2 μ hμ
structure SmallC (st:Cy):Prop where
 ws:st.ws.length≤1000
 hs:st.hs.length≤1000
 told:st.told.length≤1000∧∀j∈st.told,j.rsp.data.length≤1000
 q:∀i,i<3→(st.ports i).queue.length≤1000
 o:∀i,i<3→(st.ports i).out.length≤1000
 p:∀s,s<4→(st.slaves s).pipe.length≤1000
 d:∀s,s<4→(st.slaves s).done.length≤1000∧∀j∈(st.slaves s).done,j.rsp.data.length≤1000
theorem BoxC.ne {w:World} {g:Nat} {a b p d t:Value} (hB:BoxC w g a b p d t) {base e sz n:Nat} {v:Value} {xs:List Value} (ho:OwnR w base e sz v n xs) (hT:39≠e):v.ownBlock≠some g:=by
 intro hk;obtain⟨_,h2⟩:=ho;rcases h2 with⟨rfl,_⟩|⟨g', off,cap,cur,rfl,_,hh,_⟩
 ·simp[Value.ownBlock]at hk
 ·simp[Value.ownBlock]at hk;subst hk;unfold BoxC at hB;rw[hh]at hB;simp only[Option.some.injEq,Obj.cells.injEq]at hB;exact hT hB.2.1.symm
theorem Arr.at {w : World} {B sz : Nat} {v : Value} {α : Type} {f : α → List Value} {xs : List α} (h : Arr w B sz v (xs.map f)) (hn : xs.length ≠ 0) :
  ∃b off cap,v=.slice (some ⟨b,off,none⟩) xs.length cap∧xs.length≤cap∧cap≤9223372036854775807∧b<B∧∀t (d:α),t<xs.length→∀j,j<sz→w.cell? ⟨b,off+t * sz+j,none⟩=(f (xs.getD t d))[j]?:=by
 obtain⟨ao,cap,hv,h1,h2,h0,h9,h3⟩:=h;simp only[List.length_map]at hv h1 h0 h3;obtain⟨b,off,rfl,hlt,hc⟩:=h3 hn;refine⟨b,off,cap,hv,h1,h2,hlt,fun t d ht j hj=>?_⟩;rw[hc t ht j hj];simp[List.getD,ht]
theorem CyR.rebase {w:World} {base base':Nat} {st:Cy} {V:Nat→Value} {N:Nat→Nat} {C:Nat→List Value} {D:Nat→List TJV} (h:CyR w base st V N C D) (hb:base' ≤ base):CyR w base' st V N C D :=
 ⟨⟨fun κ hκ=>OwnR.rebase (h.raw.own κ hκ) hb,h.raw.ap⟩,h.con,h.v19,fun κ hκ x hx=>(h.dat κ hκ x hx).weak fun b h2=>⟨Nat.le_trans hb h2.1,h2.2⟩⟩
def CopP (st:Cy) (w:World) (e:Ending) (w':World):Prop:=∃V N C D,e=.returned (.agg #[V 0,V 1,V 2,V 3,V 4])∧CyR w' w.heap.size st V N C D∧Below w.heap.size w w'
set_option maxRecDepth 8000 in
theorem cycCopyV_any {w : World} {B : Nat} {a0 a1 a2 a3 a4 : Value} {st : Cy} {P : List PS} {Q : List SS} (h : CyV w B a0 a1 a2 a3 a4 st P Q) (hB : B ≤ w.heap.size) (hsm : SmallC st) :
  Calls Tryz.prog 45 #[.agg #[a0,a1,a2,a3,a4]] w (CopP st w):=by
 obtain⟨sg,so,sc,rfl,sc1,sc2,sg2,hsc⟩:=h.ps.at (by rw[h.lp];omega)
 obtain⟨tg,tp,tc,rfl,tc1,tc2,tg2,htc⟩:=h.ss.at (by rw[h.lq];omega)
 obtain⟨ya,yb,rfl⟩:∃a c,a0=.slice a st.ws.length c:=by obtain⟨a,c,e,_⟩:=h.ws.1;exact⟨a,c,by simpa using e⟩
 obtain⟨za,zb,rfl⟩:∃a c,a1=.slice a st.hs.length c:=by obtain⟨a,c,e,_⟩:=h.hs.1;exact⟨a,c,by simpa using e⟩
 obtain⟨ua,un,ub,rfl⟩:∃a n c,a4=.slice a n c:=by obtain⟨D,⟨a,c,e,_⟩,_⟩:=h.told;exact⟨a,_,c,e⟩
 rw[h.lp]at h sc1 hsc ⊢;rw[h.lq]at h tc1 htc ⊢;have HV:=hid h;have HSM:=hid hsm;have HSC:=hid hsc;have HTC:=hid htc;obtain⟨D0,hj1,hj2,hj3⟩:=h.told;have hd5:D0.length≤1000:=by have:=hsm.told.1;rw[←hj2,List.length_map]at this;exact this
 have hd6:∀x∈D0,x.1.rsp.data.length≤1000:=fun x hx=>hsm.told.2 x.1 (by rw[←hj2];exact List.mem_map.2 ⟨x,hx,rfl⟩)
 have HJ1:=hid hj1;have HJ2:=hid hj2;have HJ3:=hid hj3;have HD5:=hid hd5;have HD6:=hid hd6;clear h hsm hsc htc hj1 hj2 hj3 hd5 hd6
 go_enter Tryz.func45,Tryz.ntmps45
 go_upto_region 1 with fail
 obtain⟨W2,hW2⟩:∃W2,W2=(w.alloc (.cells #[.slice ya st.ws.length yb,.slice za st.hs.length zb,.slice (some ⟨sg,so,none⟩) 3 sc,.slice (some ⟨tg,tp,none⟩) 4 tc,.slice ua un ub] 39)).alloc (.cells #[.slice none 0 0,.slice none 0 0,.slice none 0 0,.slice none 0 0,.slice none 0 0] 39):=⟨_,rfl⟩
 have HB2:=hid (show Below w.heap.size w W2 by rw[hW2];exact(bx1 _ _).alloc (by simp) _);have HS:=hid (show Bx W2 w.heap.size [.slice ya st.ws.length yb,.slice za st.hs.length zb,.slice (some ⟨sg,so,none⟩) 3 sc,.slice (some ⟨tg,tp,none⟩) 4 tc,.slice ua un ub] by rw[hW2];exact(Bx.new w #[.slice ya st.ws.length yb,.slice za st.hs.length zb,.slice (some ⟨sg,so,none⟩) 3 sc,.slice (some ⟨tg,tp,none⟩) 4 tc,.slice ua un ub] _ (by simp)).below (bx1 _ _) (by simp));have HR:=hid (show Bx W2 (w.heap.size+1) [vnil,vnil,vnil,vnil,vnil] by rw[hW2];have:=Bx.new (w.alloc (.cells #[.slice ya st.ws.length yb,.slice za st.hs.length zb,.slice (some ⟨sg,so,none⟩) 3 sc,.slice (some ⟨tg,tp,none⟩) 4 tc,.slice ua un ub] 39)) #[vnil,vnil,vnil,vnil,vnil] 39 (by simp);simpa using this);rw[←hW2];have HZ:=hid (show W2.heap.size=w.heap.size+2 by rw[hW2];simp);clear hW2;have HV2:=hid ((HV.out.below (HB2.out.mono hB)).mono (show B≤W2.heap.size by have:=HB2.out.size;omega))
 go_cut [3] from 8 to 20 (fun u wd=>CpP u st.ws st.hs P Q st.told W2 wd)
 case first=>
  rename_i J K' hJ hK;exact cp1_region _ _ _ _ _ _ _ _ _ _ _ _ _ _ _ _ _ _ _ _ _ _ _ _ _ _ _ _ _ _ _ _ _ _ _ _ _ _ _ _ _ _ _ _ _ _ _ _ _ _ _ _ _ _ _ _ _ _ _ _ _ _ _ _ _ _ _ _ _ _ _ w.heap.size _ _ _ _ _ st.ws st.hs P Q st.told D0 W2 HS.out ⟨_,_,rfl,HV2.out.ws,HV2.out.hs⟩ HV2.out.ps HV2.out.ss ((HJ1.out.below (HB2.out.mono hB)).mono (by have:=HB2.out.size;omega)) HJ2.out (fun x hx=>((HJ3.out x hx).below (HB2.out.mono hB)).mono (by have:=HB2.out.size;omega)) (by have:=HSM.out.ws;omega) (by have:=HSM.out.hs;omega) (by rw[HV.out.lp];omega) (by rw[HV.out.lq];omega) HD5.out HD6.out (fun u3 u8 u9 u10 u11 u12 u13 u14 u15 u16 u17 u18 u19 u20 wd h=>hK _ _ (Met.intro (hJ _ _ ⟨u3,u8,u9,u10,u11,u12,u13,u14,u15,u16,u17,u18,u19,u20,h,rfl⟩)))
 case rest=>
  obtain⟨g,qa,qb,qp,qs,qt,m,D1,rfl,hg,hBx,hO,hm,ho,hD,hd,hl,hb⟩:=hcut;obtain⟨V,N,C,D,hC,rfl,rfl,rfl,rfl,rfl⟩:=CpM.start hO HV.out.lp HV.out.lq hm ho hD hd hl;obtain⟨ya2,yb2,e0⟩:∃a c,V 0=.slice a st.ws.length c:=by have:=(hC.raw.own 0 (by omega)).form;rw[hC.n0]at this;obtain⟨a,c,e,_⟩:=this;exact⟨a,c,e⟩
  obtain⟨za2,zb2,e1⟩:∃a c,V 1=.slice a st.hs.length c:=by have:=(hC.raw.own 1 (by omega)).form;rw[hC.n1]at this;obtain⟨a,c,e,_⟩:=this;exact⟨a,c,e⟩
  obtain⟨va2,vb2,e4⟩:∃a c,V 4=.slice a st.told.length c:=by have:=(hC.raw.own 4 (by omega)).form;rw[hC.n4]at this;obtain⟨a,c,e,_⟩:=this;exact⟨a,c,e⟩
  obtain⟨pg,po,pc,e2,pgb,pgz⟩:=hC.addr2;obtain⟨qg,qo,qc,e3,qgb,qgz⟩:=hC.addr3;have hgp:g≠pg:=fun e=>hBx.ne (hC.raw.own 2 (by omega)) (by decide) (by rw[e2,e];rfl)
  have hgq:g≠qg:=fun e=>hBx.ne (hC.raw.own 3 (by omega)) (by decide) (by rw[e3,e];rfl)
  rw[e0,e1,e2,e3,e4]at hBx;have HBx:=hid hBx;have HCx:=hid (show ∃V N C D,CpM wc W2.heap.size st P Q 0 0 V N C D∧V 0=.slice ya2 st.ws.length yb2∧V 1=.slice za2 st.hs.length zb2∧V 2=.slice (some ⟨pg,po,none⟩) 3 pc∧V 3=.slice (some ⟨qg,qo,none⟩) 4 qc∧V 4=.slice va2 st.told.length vb2 from⟨V,N,C,D,hC,e0,e1,e2,e3,e4⟩);have HBe:=hid (HB2.out.trans (hb.mono (by rw[HZ.out];omega)));have HSx:=hid (HS.out.below hb HS.out.lt);have HRx:=hid (HR.out.below hb HR.out.lt);have HGP:=hid hgp;have HGQ:=hid hgq;clear hBx hC hb e0 e1 e2 e3 e4 hO ho hD hd hl hgp hgq pgz qgz;obtain⟨⟨r0,r1,r2,r3,r4⟩,_⟩:=HSx.out.five
  go_wp2_with fail
  clear r0 r1 r2 r3 r4
  go_loopw [24] (fun i wr=>∃k:Nat,i=.int .i64 k∧k≤3∧BoxC wr g (.slice ya2 st.ws.length yb2) (.slice za2 st.hs.length zb2) (.slice (some ⟨pg,po,none⟩) 3 pc) (.slice (some ⟨qg,qo,none⟩) 4 qc) (.slice va2 st.told.length vb2)∧(∃V N C D,CpM wr W2.heap.size st P Q k 0 V N C D∧V 0=.slice ya2 st.ws.length yb2∧V 1=.slice za2 st.hs.length zb2∧V 2=.slice (some ⟨pg,po,none⟩) 3 pc∧V 3=.slice (some ⟨qg,qo,none⟩) 4 qc∧V 4=.slice va2 st.told.length vb2)∧Below w.heap.size w wr∧Bx wr w.heap.size [.slice ya st.ws.length yb,.slice za st.hs.length zb,.slice (some ⟨sg,so,none⟩) 3 sc,.slice (some ⟨tg,tp,none⟩) 4 tc,.slice ua un ub]∧Bx wr (w.heap.size+1) [vnil,vnil,vnil,vnil,vnil]) (fun i _=>3 - (intOf i).toNat)
  case atStart=>exact⟨0,rfl,by omega,HBx.out,HCx.out,HBe.out,HSx.out,HRx.out⟩
  case round=>
   clear HBx HCx HBe HSx HRx;obtain⟨k,rfl,hk3,hB1,⟨V,N,C,D,hC,e0,e1,e2,e3,e4⟩,hbl,hS,hR⟩:=hrel;have HBx:=hid hB1;have HCx:=hid hC;have HBe:=hid hbl;have HSx:=hid hS;have HRx:=hid hR;have HE:=hid (show V 0=.slice ya2 st.ws.length yb2∧V 1=.slice za2 st.hs.length zb2∧V 2=.slice (some ⟨pg,po,none⟩) 3 pc∧V 3=.slice (some ⟨qg,qo,none⟩) 4 qc∧V 4=.slice va2 st.told.length vb2 from⟨e0,e1,e2,e3,e4⟩);clear hB1 hC hbl hS hR e0 e1 e2 e3 e4;by_cases hlt:k<3
   ·obtain⟨x,hx⟩:∃x,x=P.getD k default:=⟨_,rfl⟩
    have hc:∀j,j<4→wr.cell? ⟨sg,so+k * 4+j,none⟩=(rowPS x)[j]?:=fun j hj=>by
     rw[hx,←HSC.out k default hlt j hj];exact HBe.out.cell (p:=⟨sg,_,none⟩) (Nat.lt_of_lt_of_le sg2 hB)
    have HX:=hid hx;clear hx;obtain⟨nx,⟨qa1,qn1,qc1⟩,⟨oa1,on1,oc1⟩,la⟩:=x;have c0:=hc 0 (by omega);have c1:=hc 1 (by omega);have c2:=hc 2 (by omega);have c3:=hc 3 (by omega);simp only[rowPS,sl,List.getElem?_cons_zero,List.getElem?_cons_succ,Nat.add_zero]at c0 c1 c2 c3;have hlti:(k:Int)<3:=by omega
    clear hc
    go_upto_region 5 with fail
    clear c0 c1 c2 c3;obtain⟨wo,hwo⟩:∃W,W=wr:=⟨_,rfl⟩
    subst hwo;obtain⟨W3,hW3⟩:∃W3,W3=wo.alloc (.cells #[.int .i64 (nx:Nat),.slice qa1 qn1 qc1,.slice oa1 on1 oc1,.int .i64 (la:Nat)] 48):=⟨_,rfl⟩
    rw[←hW3];have HB3:=hid (show Below wo.heap.size wo W3 by rw[hW3];exact bx1 _ _);have HE1:=hid (show W3.cell? ⟨wo.heap.size,1,none⟩=some (.slice qa1 qn1 qc1) by rw[hW3];simp[go_sem]);have HE2:=hid (show W3.cell? ⟨wo.heap.size,2,none⟩=some (.slice oa1 on1 oc1) by rw[hW3];simp[go_sem]);have HBy:=hid (HBx.out.below HB3.out HBx.out.lt);have HCy:=hid (HCx.out.below HB3.out);have HZ3:=hid (show W3.heap.size=wo.heap.size+1 by rw[hW3];simp);have HBl:=hid (HBe.out.trans (HB3.out.mono HBe.out.size));clear hW3;obtain⟨hv0,hv1,hv2,hv3,hv4⟩:=HE.out;obtain⟨pg', po', pc', e2', pgb', pgz'⟩:=HCx.out.addr2;rw[hv2]at e2';simp only[Value.slice.injEq,Option.some.injEq,Addr.mk.injEq]at e2';obtain⟨⟨rfl,rfl,_⟩,_,rfl⟩:=e2';have hO:=HCy.out.raw.own 2 (by omega);rw[HCy.out.n2,hv2]at hO;have hlen:(C 2).length=12:=hO.1;have hW2s:w.heap.size≤W2.heap.size:=HB2.out.size
    refine cp5_region _ _ _ _ _ _ _ _ _ _ _ _ _ _ _ _ _ _ _ _ _ _ _ _ _ _ _ _ _ _ _ _ _ _ _ _ _ _ _ _ _ _ _ _ _ _ _ _ _ _ _ _ _ _ _ _ _ _ _ _ _ _ _ _ _ _ _ _ _ g k wo.heap.size W2.heap.size pg po pc B (C 2) _ _ qa1 qn1 qc1 oa1 on1 oc1 (st.ports k).queue (st.ports k).out W3 HGP.out HBy.out.lt HBy.out.bx.five.1.2.2.1 (by have := HZ3.out; omega) (by omega) (by have := HBl.out.size; omega) hlt (by omega) (by have := HZ3.out; omega) hO (List.getElem?_eq_getElem (by rw [hlen]; omega)) (List.getElem?_eq_getElem (by rw [hlen]; omega)) HE1.out HE2.out
     (by have:=(HV.out.q k hlt).below (HBl.out.mono hB);rw[←HX.out]at this;exact this) (by have:=(HV.out.o k hlt).below (HBl.out.mono hB);rw[←HX.out]at this;exact this) (by have:=HSM.out.q k hlt;omega) (by have:=HSM.out.o k hlt;omega) ?_
    intro u29 u30 u31 u32 u33 u34 u35 u36 u37 u38 u39 u40 u41 u42 u43 u44 wc hcut;obtain⟨w5,hw5⟩:∃W,W=wc:=⟨_,rfl⟩
    subst hw5;obtain⟨V', N', C', hC', f0,f1,f2,f3,f4⟩:=HCy.out.port hlt hv2 (HV.out.pn k hlt) hcut (by have:=HBl.out.size;have:=HZ3.out;omega);obtain⟨uu,uv,_,_,_,_,hT⟩:=hcut;have HT:=hid hT;have HC':=hid hC';have HF:=hid (show V' 0=.slice ya2 st.ws.length yb2∧V' 1=.slice za2 st.hs.length zb2∧V' 2=.slice (some ⟨pg,po,none⟩) 3 pc∧V' 3=.slice (some ⟨qg,qo,none⟩) 4 qc∧V' 4=.slice va2 st.told.length vb2 from⟨f0.trans hv0,f1.trans hv1,f2.trans hv2,f3.trans hv3,f4.trans hv4⟩);clear hT hC' f0 f1 f2 f3 f4 hv0 hv1 hv2 hv3 hv4 hO hlen;unfold cp5A
    go_wp2_with fail
    go_roundw
    case rel=>
     have hs:=HZ3.out;have hw2:w.heap.size≤pg:=by omega
     refine⟨k+1,by go_num,by omega,HBy.out.touch HT.out HGP.out,⟨V', N', C', D,HC'.out,HF.out⟩,HBl.out.trans (HT.out.below hw2 HBl.out.size),?_,?_⟩
     ·exact(HSx.out.below HB3.out HSx.out.lt).kept (HT.out.block _ (by have:=HSx.out.lt;omega) (by have:=HZ.out;omega))
     ·exact(HRx.out.below HB3.out HRx.out.lt).kept (HT.out.block _ (by have:=HRx.out.lt;omega) (by have:=HZ.out;omega))
    case measure=>simp[intOf];omega
   ·obtain rfl:k=3:=by omega
    have HCx:=hid (show ∃V N C D,CpM wr W2.heap.size st P Q 3 0 V N C D∧V 0=.slice ya2 st.ws.length yb2∧V 1=.slice za2 st.hs.length zb2∧V 2=.slice (some ⟨pg,po,none⟩) 3 pc∧V 3=.slice (some ⟨qg,qo,none⟩) 4 qc∧V 4=.slice va2 st.told.length vb2 from⟨V,N,C,D,HCx.out,HE.out⟩);obtain⟨⟨r0,r1,r2,r3,r4⟩,_⟩:=HSx.out.five
    go_wp2_with fail
    clear r0 r1 r2 r3 r4
    go_loopw [49] (fun i wr=>∃k:Nat,i=.int .i64 k∧k≤4∧BoxC wr g (.slice ya2 st.ws.length yb2) (.slice za2 st.hs.length zb2) (.slice (some ⟨pg,po,none⟩) 3 pc) (.slice (some ⟨qg,qo,none⟩) 4 qc) (.slice va2 st.told.length vb2)∧(∃V N C D,CpM wr W2.heap.size st P Q 3 k V N C D∧V 0=.slice ya2 st.ws.length yb2∧V 1=.slice za2 st.hs.length zb2∧V 2=.slice (some ⟨pg,po,none⟩) 3 pc∧V 3=.slice (some ⟨qg,qo,none⟩) 4 qc∧V 4=.slice va2 st.told.length vb2)∧Below w.heap.size w wr∧Bx wr w.heap.size [.slice ya st.ws.length yb,.slice za st.hs.length zb,.slice (some ⟨sg,so,none⟩) 3 sc,.slice (some ⟨tg,tp,none⟩) 4 tc,.slice ua un ub]∧Bx wr (w.heap.size+1) [vnil,vnil,vnil,vnil,vnil]) (fun i _=>4 - (intOf i).toNat)
    case atStart=>exact⟨0,rfl,by omega,HBx.out,HCx.out,HBe.out,HSx.out,HRx.out⟩
    case round=>
     clear HBx HCx HBe HSx HRx HE;obtain⟨k,rfl,hk3,hB1,⟨V,N,C,D,hC,e0,e1,e2,e3,e4⟩,hbl,hS,hR⟩:=hrel;have HBx:=hid hB1;have HCx:=hid hC;have HBe:=hid hbl;have HSx:=hid hS;have HRx:=hid hR;have HE:=hid (show V 0=.slice ya2 st.ws.length yb2∧V 1=.slice za2 st.hs.length zb2∧V 2=.slice (some ⟨pg,po,none⟩) 3 pc∧V 3=.slice (some ⟨qg,qo,none⟩) 4 qc∧V 4=.slice va2 st.told.length vb2 from⟨e0,e1,e2,e3,e4⟩);clear hB1 hC hbl hS hR e0 e1 e2 e3 e4;by_cases hlt:k<4
     ·obtain⟨x,hx⟩:∃x,x=Q.getD k default:=⟨_,rfl⟩
      have hc:∀j,j<3→wr.cell? ⟨tg,tp+k * 3+j,none⟩=(rowSS x)[j]?:=fun j hj=>by
       rw[hx,←HTC.out k default hlt j hj];exact HBe.out.cell (p:=⟨tg,_,none⟩) (Nat.lt_of_lt_of_le tg2 hB)
      have HX:=hid hx;clear hx;obtain⟨⟨qa1,qn1,qc1⟩,⟨oa1,on1,oc1⟩,la⟩:=x;have c0:=hc 0 (by omega);have c1:=hc 1 (by omega);have c2:=hc 2 (by omega);simp only[rowSS,sl,List.getElem?_cons_zero,List.getElem?_cons_succ,Nat.add_zero]at c0 c1 c2;have hlti:(k:Int)<4:=by omega
      clear hc
      go_upto_region 10 with fail
      clear c0 c1 c2;obtain⟨wo,hwo⟩:∃W,W=wr:=⟨_,rfl⟩
      subst hwo;obtain⟨W3,hW3⟩:∃W3,W3=wo.alloc (.cells #[.slice qa1 qn1 qc1,.slice oa1 on1 oc1,.int .i64 (la:Nat)] 94):=⟨_,rfl⟩
      rw[←hW3];have HB3:=hid (show Below wo.heap.size wo W3 by rw[hW3];exact bx1 _ _);have HE1:=hid (show W3.cell? ⟨wo.heap.size,0,none⟩=some (.slice qa1 qn1 qc1) by rw[hW3];simp[go_sem]);have HE2:=hid (show W3.cell? ⟨wo.heap.size,1,none⟩=some (.slice oa1 on1 oc1) by rw[hW3];simp[go_sem]);have HBy:=hid (HBx.out.below HB3.out HBx.out.lt);have HCy:=hid (HCx.out.below HB3.out);have HZ3:=hid (show W3.heap.size=wo.heap.size+1 by rw[hW3];simp);have HBl:=hid (HBe.out.trans (HB3.out.mono HBe.out.size));clear hW3;obtain⟨hv0,hv1,hv2,hv3,hv4⟩:=HE.out;obtain⟨pg', po', pc', e2', pgb', pgz'⟩:=HCx.out.addr3;rw[hv3]at e2';simp only[Value.slice.injEq,Option.some.injEq,Addr.mk.injEq]at e2';obtain⟨⟨rfl,rfl,_⟩,_,rfl⟩:=e2';have hO:=HCy.out.raw.own 3 (by omega);rw[HCy.out.n3,hv3]at hO;have hlen:(C 3).length=12:=hO.1;have hW2s:w.heap.size≤W2.heap.size:=HB2.out.size;obtain⟨D5,hj1,hj2,hj3⟩:=HV.out.d k hlt;rw[←HX.out]at hj1
      refine cp10_region _ _ _ _ _ _ _ _ _ _ _ _ _ _ _ _ _ _ _ _ _ _ _ _ _ _ _ _ _ _ _ _ _ _ _ _ _ _ _ _ _ _ _ _ _ _ _ _ _ _ _ _ _ _ _ _ _ _ _ _ _ _ _ _ _ _ _ _ _ g k wo.heap.size W2.heap.size qg qo qc B (C 3) _ _ qa1 qn1 qc1 oa1 on1 oc1 (st.slaves k).pipe (st.slaves k).done D5 W3 HGQ.out HBy.out.lt HBy.out.bx.five.1.2.2.2.1 (by have := HZ3.out; omega) (by omega) (by have := HBl.out.size; omega) hlt (by omega) (by have := HZ3.out; omega) hO (List.getElem?_eq_getElem (by rw [hlen]; omega)) (List.getElem?_eq_getElem (by rw [hlen]; omega)) HE1.out HE2.out
       (by have:=(HV.out.p k hlt).below (HBl.out.mono hB);rw[←HX.out]at this;exact this) (hj1.below (HBl.out.mono hB)) hj2 (fun y hy=>(hj3 y hy).below (HBl.out.mono hB)) (by have:=HSM.out.p k hlt;omega) (by have:=(HSM.out.d k hlt).1;rw[←hj2,List.length_map]at this;exact this) (fun y hy=>(HSM.out.d k hlt).2 y.1 (by rw[←hj2];exact List.mem_map.2 ⟨y,hy,rfl⟩)) ?_
      intro u54 u55 u56 u57 u58 u59 u60 u61 u62 u63 u64 u65 u66 u67 u68 u69 wc hcut;obtain⟨w5,hw5⟩:∃W,W=wc:=⟨_,rfl⟩
      subst hw5;obtain⟨V', N', C', D', hC', f0,f1,f2,f3,f4⟩:=HCy.out.store hlt hv3 (HV.out.sn k hlt) hcut (by have:=HBl.out.size;have:=HZ3.out;omega);obtain⟨uu,uv,um,uD,_,_,_,_,_,_,_,hT⟩:=hcut;have HT:=hid hT;have HC':=hid hC';have HF:=hid (show V' 0=.slice ya2 st.ws.length yb2∧V' 1=.slice za2 st.hs.length zb2∧V' 2=.slice (some ⟨pg,po,none⟩) 3 pc∧V' 3=.slice (some ⟨qg,qo,none⟩) 4 qc∧V' 4=.slice va2 st.told.length vb2 from⟨f0.trans hv0,f1.trans hv1,f2.trans hv2,f3.trans hv3,f4.trans hv4⟩);clear hT hC' f0 f1 f2 f3 f4 hv0 hv1 hv2 hv3 hv4 hO hlen hj1 hj2 hj3;unfold cp10A
      go_wp2_with fail
      go_roundw
      case rel=>
       have hs:=HZ3.out;have hw2:w.heap.size≤qg:=by omega
       refine⟨k+1,by go_num,by omega,HBy.out.touch HT.out HGQ.out,⟨V', N', C', D', HC'.out,HF.out⟩,HBl.out.trans (HT.out.below hw2 HBl.out.size),?_,?_⟩
       ·exact(HSx.out.below HB3.out HSx.out.lt).kept (HT.out.block _ (by have:=HSx.out.lt;omega) (by have:=HZ.out;omega))
       ·exact(HRx.out.below HB3.out HRx.out.lt).kept (HT.out.block _ (by have:=HRx.out.lt;omega) (by have:=HZ.out;omega))
      case measure=>simp[intOf];omega
     ·obtain rfl:k=4:=by omega
      obtain⟨⟨r0,r1,r2,r3,r4⟩,_⟩:=HBx.out.bx.five;obtain⟨⟨q0,q1,q2,q3,q4⟩,f0,f1,f2,f3,f4⟩:=HRx.out.five;have hrl:=HRx.out.lt;obtain⟨hv0,hv1,hv2,hv3,hv4⟩:=HE.out;have HE0:=hid HE.out;clear hv0 hv1 hv2 hv3 hv4 HE
      go_wp2_with fail
      refine bodyPost_ret (zA5 Tryz.results45 _ _ ⟨w.heap.size+1,0,none⟩ (.agg #[.slice ya2 st.ws.length yb2,.slice za2 st.hs.length zb2,.slice (some ⟨pg,po,none⟩) 3 pc,.slice (some ⟨qg,qo,none⟩) 4 qc,.slice va2 st.told.length vb2]) rfl (loadVar_cyc _ _ _ _ _ _ _ (by simp[go_sem, *]) (by simp[go_sem, *]) (by simp[go_sem, *]) (by simp[go_sem, *]) (by simp[go_sem, *]))) rfl ⟨V,N,C,D,?_,?_,?_⟩
      ·rw[HE0.out.1,HE0.out.2.1,HE0.out.2.2.1,HE0.out.2.2.2.1,HE0.out.2.2.2.2]
      ·have hz:=HZ.out;exact(HCx.out.fin.kept (fun b h1 h2=>(touchC (w.heap.size+1) _ _ _ _ _ _).block b h2 (by omega)) (touchC (w.heap.size+1) _ _ _ _ _ _).size).rebase (by omega)
      ·exact((((HBe.out.setCell (by exact Nat.le_succ _) _).setCell (by exact Nat.le_succ _) _).setCell (by exact Nat.le_succ _) _).setCell (by exact Nat.le_succ _) _).setCell (by exact Nat.le_succ _) _
end Go.Proofs.YtgkdoehkmbhfiaaGreat
