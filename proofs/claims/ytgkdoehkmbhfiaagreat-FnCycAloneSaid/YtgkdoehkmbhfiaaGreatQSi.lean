/- Draws: what is asked: the end of l20Req (shortened for n of 9000 and more by hand out of what gen_req2.py printed). -/
import Derived.Test.YtgkdoehkmbhfiaaGreatQDp1
import Derived.Test.YtgkdoehkmbhfiaaGreatQAx
import Derived.Test.YtgkdoehkmbhfiaaGreatQYw
import Derived.Test.YtgkdoehkmbhfiaaGreatQDo4
import Derived.Test.YtgkdoehkmbhfiaaGreatQDr2
import Derived.Test.YtgkdoehkmbhfiaaGreatQMt
import Derived.Test.YtgkdoehkmbhfiaaGreatQRu2
import Derived.Test.YtgkdoehkmbhfiaaGreatQFl
import Derived.Test.YtgkdoehkmbhfiaaGreatQDr7
import Derived.Test.YtgkdoehkmbhfiaaGreatQDl
import Derived.Test.YtgkdoehkmbhfiaaGreatQLib
import Derived.Test.YtgkdoehkmbhfiaaGreatQQb9
import Derived.Test.YtgkdoehkmbhfiaaGreatQRp0
import Derived.Deep.Cut
import Derived.Deep.CutRange
import Derived.Deep.CutBlock
import Derived.Outline
import Derived.Deep.RegionHeld3
set_option linter.unusedVariables false
set_option linter.unusedSimpArgs false
set_option maxHeartbeats 16000000
namespace Go.Proofs.YtgkdoehkmbhfiaaGreat
open Go.RowKit
def vX (x:InX):Value:=.agg #[.slice (some ⟨x.2.1,0,none⟩) 3 3,.slice (some ⟨x.2.2.1,0,none⟩) 4 4,.slice (some ⟨x.2.2.2,0,none⟩) 3 3]
theorem InG.keep {w w':World} {lo g1 g2 g3:Nat} {v:Value} (h:InG w lo g1 g2 g3) (hn:v.ownBlock≠some g1∧v.ownBlock≠some g2∧v.ownBlock≠some g3) (hk:∀b,b<w.heap.size→v.ownBlock≠some b→w'.heap[b]? = w.heap[b]?) (hz:w.heap.size≤w'.heap.size):InG w' lo g1 g2 g3:=by
 refine⟨⟨h.b1.1,Nat.lt_of_lt_of_le h.b1.2 hz⟩,⟨h.b2.1,Nat.lt_of_lt_of_le h.b2.2 hz⟩,⟨h.b3.1,Nat.lt_of_lt_of_le h.b3.2 hz⟩,fun i hi=>?_,fun i hi=>?_,fun i hi=>?_⟩
 ·rw[←h.c1 i hi];simp only[World.cell?,hk g1 h.b1.2 hn.1]
 ·rw[←h.c2 i hi];simp only[World.cell?,hk g2 h.b2.2 hn.2.1]
 ·rw[←h.c3 i hi];simp only[World.cell?,hk g3 h.b3.2 hn.2.2]
theorem InG.below {w w':World} {lo g1 g2 g3:Nat} (h:InG w lo g1 g2 g3) (hb:Below w.heap.size w w'):InG w' lo g1 g2 g3 :=
 h.keep (v:=vnil) ⟨by simp[Value.ownBlock],by simp[Value.ownBlock],by simp[Value.ownBlock]⟩ (fun b hl _=>hb.block b hl) hb.size
theorem InG.stall {w:World} {lo g1 g2 g3 a:Nat} (h:InG w lo g1 g2 g3) (ha:a<4):InV (w.setCell ⟨g2,a,none⟩ (.bool true)) w.heap.size (vX (zJ3 a,g1,g2,g3)) (zJ3 a):=by
 have n1:g1≠g2:=fun e=>by have h1:=h.c1 0 (by omega);have h2:=h.c2 0 (by omega);rw[e,h2]at h1;simp at h1
 have n3:g3≠g2:=fun e=>by have h1:=h.c3 0 (by omega);have h2:=h.c2 0 (by omega);rw[e,h2]at h1;simp at h1
 obtain⟨w', hw⟩:∃W,W=w.setCell ⟨g2,a,none⟩ (.bool true):=⟨_,rfl⟩
 have hz:w'.heap.size=w.heap.size:=by rw[hw];simp
 have k1:∀(g i:Nat),g≠g2→w'.cell? ⟨g,i,none⟩=w.cell? ⟨g,i,none⟩:=fun g i hg=>by
  have:=Below.heap_setCell w ⟨g2,a,none⟩ (.bool true) g hg;rw[←hw]at this;simp only[World.cell?,this]
 have k2:∀i,i<4→w'.cell? ⟨g2,i,none⟩=some (.bool (decide (i=a))):=fun i hi=>by
  by_cases e:i=a
  ·subst e;rw[hw,World.cell?_setCell_same' _ _ _ (by rw[h.c2 i hi];rfl)];simp
  ·rw[hw,World.cell?_setCell_other _ _ _ _ (by intro e2;injection e2;omega),h.c2 i hi];simp[e]
 rw[←hw,←hz];refine⟨⟨some ⟨g1,0,none⟩,3,some ⟨g2,0,none⟩,4,some ⟨g3,0,none⟩,3,by simp[vX,zJ3],?_,?_,?_⟩,rfl,by simp[zJ3],rfl⟩
 ·exact bools_of (n:=3) (v:=true) (by rw[hz];exact h.b1.2) (by omega) fun i hi=>by rw[k1 _ _ n1];exact h.c1 i hi
 ·have hl:(zJ3 a).stall.length=4:=by simp[zJ3]
  rw[hl];refine⟨some ⟨g2,0,none⟩,4,by simp[hl],by simp[hl],by omega,by simp only[List.length_map,hl];omega,(fun h=>nomatch h),fun hn=>⟨g2,0,rfl,by rw[hz];exact h.b2.2,fun t ht j hj=>?_⟩⟩;have hj0:j=0:=by omega
  subst hj0;rw[List.length_map,hl]at ht;rw[Nat.zero_add,Nat.mul_one,Nat.add_zero,k2 t ht];have:=stall_at (a:=a) ht;have e3:((zJ3 a).stall.map rowB).getD t []=rowB ((zJ3 a).stall.getD t false):=by simp[List.getD,show t<(zJ3 a).stall.length by rw[hl];exact ht]
  rw[e3,this];rfl
 ·exact bools_of (n:=3) (v:=true) (by rw[hz];exact h.b3.2) (by omega) fun i hi=>by rw[k1 _ _ n3];exact h.c3 i hi
theorem aloneC_lone {c:Cfg} (hb:Bus c) {who:Nat} (hw:who<3):Lone (aloneC c who) who:=⟨hw,fun w hw2 hne=>by rw[aloneC_prog hb who hw2,if_neg hne];rfl⟩
theorem AtmV.shape {w:World} {B:Nat} {v:Value} {ws hs:List Int} (h:AtmV w B v ws hs):∃wa wc ha hc,v=.agg #[.slice wa ws.length wc,.slice ha hs.length hc]∧Ints w B (.slice wa ws.length wc) ws∧Ints w B (.slice ha hs.length hc) hs:=by
 obtain⟨wv,hv,rfl,h1,h2⟩:=h;obtain⟨a1,c1,e1,_⟩:=h1.1;obtain⟨a2,c2,e2,_⟩:=h2.1;simp only[List.length_map]at e1 e2;subst e1 e2;exact⟨_,_,_,_,rfl,h1,h2⟩
theorem ReqV.shape {w:World} {B:Nat} {v:Value} {r:Rq} (h:ReqV w B v r):∃da dc la lc,v=.agg #[.int .i64 r.id,.int .i64 r.kind,.int .i64 r.addr,.int .i64 r.many,.bool r.wrap,.slice da r.data.length dc,.slice la r.lanes.length lc]:=by
 obtain⟨dv,lv,rfl,h1,h2,_⟩:=h;obtain⟨a1,c1,e1,_⟩:=h1.1;obtain⟨a2,c2,e2,_⟩:=h2.1;simp only[List.length_map]at e1 e2;subst e1 e2;exact⟨_,_,_,_,rfl⟩
theorem atmV_of {w:World} {B:Nat} {wv hv:Value} {ws hs:List Int} (h1:Ints w B wv ws) (h2:Ints w B hv hs):AtmV w B (.agg #[wv,hv]) ws hs:=⟨_,_,rfl,h1,h2⟩
end Go.Proofs.YtgkdoehkmbhfiaaGreat
namespace Go.Proofs.YtgkdoehkmbhfiaaGreat
open Go.RowKit
attribute [local go_sem ↓] Go.wp_at_zero Go.wp_at_succ
def RFR (w0 w:World) (v:Value) (x:List Int×List Int×List Rs):Prop :=
 ∃a b d ds,v=.tuple #[.agg #[a,b],d]∧Owns w w0.heap.size 3 1 rowI a x.1∧Owns w w0.heap.size 3 1 rowI b x.2.1∧Owns w w0.heap.size 63 3 rowR d (zD1 x.2.2 ds)∧ds.length=x.2.2.length∧∀j,j<x.2.2.length→Owns w w0.heap.size 3 1 rowI (ds.getD j undef) (x.2.2.getD j default).data
theorem RFR.below {w0 w w':World} {v:Value} {x:List Int×List Int×List Rs} (h:RFR w0 w v x) (hb:Below w.heap.size w w'):RFR w0 w' v x:=by
 obtain⟨a,b,d,ds,e,o1,o2,o3,i,o5⟩:=h;exact⟨a,b,d,ds,e,o1.below hb,o2.below hb,o3.below hb,i,fun j hj=>(o5 j hj).below hb⟩
theorem RFR.boxA {w0 w w':World} {v:Value} {x:List Int×List Int×List Rs} {g:Nat} {p q:Value} (h:RFR w0 w v x) (hA:BoxA w g p q) (ht:Touch g w w'):RFR w0 w' v x:=by
 obtain⟨a,b,d,ds,e,o1,o2,o3,i,o5⟩:=h;refine⟨a,b,d,ds,e,o1.boxA hA ht,o2.boxA hA ht,?_,i,fun j hj=>(o5 j hj).boxA hA ht⟩;refine o3.kept fun k hk=>ht.block k (OwnR.lt o3 k hk).2 ?_
 intro e;subst e;obtain⟨_,h2⟩:=o3;rcases h2 with⟨rfl,_⟩|⟨g,off,cap,cur,rfl,hg,hh,_⟩
 ·simp[Value.ownBlock]at hk
 ·simp only[Value.ownBlock,Option.some.injEq]at hk;subst hk;unfold BoxA at hA;rw[hh]at hA;simp at hA
def RrP (u12 u13:Value) (x:List Int×List Int×List Rs) (wq w':World):Prop :=
 ∃ga a b ds,u12=.pointer (some ⟨ga,0,none⟩)∧wq.heap.size≤ga∧BoxA w' ga a b∧Owns w' wq.heap.size 3 1 rowI a x.1∧Owns w' wq.heap.size 3 1 rowI b x.2.1∧Owns w' wq.heap.size 63 3 rowR u13 (zD1 x.2.2 ds)∧ds.length=x.2.2.length∧(∀j,j<x.2.2.length→Owns w' wq.heap.size 3 1 rowI (ds.getD j undef) (x.2.2.getD j default).data)∧Below wq.heap.size wq w'
def ANR (w0 w:World) (v:Value):Prop:=∃a b,v=.agg #[a,b]∧Owns w w0.heap.size 3 1 rowI a (List.replicate 64 0)∧Owns w w0.heap.size 3 1 rowI b (List.replicate 6 (-1))
theorem ANR.below {w0 w w':World} {v:Value} (h:ANR w0 w v) (hb:Below w.heap.size w w'):ANR w0 w' v:=by
 obtain⟨a,b,e,o1,o2⟩:=h;exact⟨a,b,e,o1.below hb,o2.below hb⟩
theorem ANR.boxA {w0 w w':World} {v:Value} {g:Nat} {p q:Value} (h:ANR w0 w v) (hA:BoxA w g p q) (ht:Touch g w w'):ANR w0 w' v:=by
 obtain⟨a,b,e,o1,o2⟩:=h;exact⟨a,b,e,o1.boxA hA ht,o2.boxA hA ht⟩
def alA (i0 i1 i2 i3 i4 i7 i10 i11 i12 i13 i14 i15 i16 i17 i18 i19 i20 i21 i22 i23 i24 i25 i26 i27 i28 i29 i30 i31 i32 i33 i47 i48 i49 i50 i51 i52 i53 i54 i55 i56 i57 i58 i59 i60 i61 i62 i63 i64 i65 i66 i67 i68 i69 i70 i71 i72 i73 i74 i75 i76 i77 i78 i79 i80 i81 i82 i83 i84 i85 i86 i87 i88 i89 i90 i91 i92 i93 i94 i95 i96 i97 i98 i99 i100 i101 i102 i103 i104:Value) (mv:Value) (who:Nat) (px:Nat) (qa:Option Addr) (pl:Nat) (qc:Nat) (gx:Nat) (u8 u9 u34 u35 u36 u37 u38 u39 u40 u41 u42 u43 u44 u45 u46:Value):Act:={ tmps:=#[i0,i1,i2,i3,i4,.int .i64 (who:Nat),.pointer (some ⟨gx,0,none⟩),i7,u8,u9,i10,i11,i12,i13,i14,i15,i16,i17,i18,i19,i20,i21,i22,i23,i24,i25,i26,i27,i28,i29,i30,i31,i32,i33,u34,u35,u36,u37,u38,u39,u40,u41,u42,u43,u44,u45,u46,i47,i48,i49,i50,i51,i52,i53,i54,i55,i56,i57,i58,i59,i60,i61,i62,i63,i64,i65,i66,i67,i68,i69,i70,i71,i72,i73,i74,i75,i76,i77,i78,i79,i80,i81,i82,i83,i84,i85,i86,i87,i88,i89,i90,i91,i92,i93,i94,i95,i96,i97,i98,i99,i100,i101,i102,i103,i104],defers:=[] }
def alI (i0 i1 i2 i3 i4 i7 i10 i11 i12 i13 i14 i15 i16 i17 i18 i19 i20 i21 i22 i23 i24 i25 i26 i27 i28 i29 i30 i31 i32 i33 i47 i48 i49 i50 i51 i52 i53 i54 i55 i56 i57 i58 i59 i60 i61 i62 i63 i64 i65 i66 i67 i68 i69 i70 i71 i72 i73 i74 i75 i76 i77 i78 i79 i80 i81 i82 i83 i84 i85 i86 i87 i88 i89 i90 i91 i92 i93 i94 i95 i96 i97 i98 i99 i100 i101 i102 i103 i104:Value) (mv:Value) (who:Nat) (px:Nat) (qa:Option Addr) (pl:Nat) (qc:Nat) (gx:Nat) (lv:Value) (x:List Int×List Int×List Rs) (wq:World) (listed:Array Bool) (a:Act) (w':World):Prop :=
 ∃ u8 u9 u34 u35 u36 u37 u38 u39 u40 u41 u42 u43 u44 u45 u46 : Value, a = alA i0 i1 i2 i3 i4 i7 i10 i11 i12 i13 i14 i15 i16 i17 i18 i19 i20 i21 i22 i23 i24 i25 i26 i27 i28 i29 i30 i31 i32 i33 i47 i48 i49 i50 i51 i52 i53 i54 i55 i56 i57 i58 i59 i60 i61 i62 i63 i64 i65 i66 i67 i68 i69 i70 i71 i72 i73 i74 i75 i76 i77 i78 i79 i80 i81 i82 i83 i84 i85 i86 i87 i88 i89 i90 i91 i92 i93 i94 i95 i96 i97 i98 i99 i100 i101 i102 i103 i104 mv who px qa pl qc gx u8 u9 u34 u35 u36 u37 u38 u39 u40 u41 u42 u43 u44 u45 u46 ∧
   (listed.getD 0 false=true→u35=.pointer (some ⟨gx,0,none⟩)) ∧
   (listed.getD 1 false=true→u36=mv) ∧
   (listed.getD 2 false=true→listed.getD 9 false=false→ANR wq w' u37) ∧
   (listed.getD 3 false=true→u38=.int .i64 (who:Nat)) ∧
   (listed.getD 4 false=true→u39=.pointer (some ⟨gx,2,none⟩)) ∧
   (listed.getD 5 false=true→u40=.slice (some ⟨px,0,none⟩) 3 3) ∧
   (listed.getD 6 false=true→u41=.int .i64 (who:Nat)) ∧
   (listed.getD 7 false=true→u42=.pointer (some ⟨px,who,none⟩)) ∧
   (listed.getD 8 false=true→u43=.slice qa pl qc) ∧
   (listed.getD 9 false=true→RFR wq w' u44 x) ∧
   (listed.getD 10 false=true→RFR wq w' u34 x) ∧
   (listed.getD 11 false=true→∃y,u34=.tuple #[u45,y]) ∧
   (listed.getD 12 false=true→∃y,u34=.tuple #[y,u46]) ∧
   (listed.getD 13 false=true→listed.getD 14 false=false→∃g,u8=.pointer (some ⟨g,0,none⟩)∧wq.heap.size≤g∧BoxA w' g (.slice none 0 0) (.slice none 0 0)) ∧
   (listed.getD 14 false=true→∃g a b,u8=.pointer (some ⟨g,0,none⟩)∧wq.heap.size≤g∧BoxA w' g a b∧u45=.agg #[a,b]) ∧
   (listed.getD 15 false=true→∃y,u34=.tuple #[y,u9]) ∧
   Below wq.heap.size wq w'
noncomputable def alCode:Code:=(Tryz.f8.body.bind (zG8 9)).getD .skip
set_option maxRecDepth 100000 in
theorem al_region (i0 i1 i2 i3 i4 i7 i10 i11 i12 i13 i14 i15 i16 i17 i18 i19 i20 i21 i22 i23 i24 i25 i26 i27 i28 i29 i30 i31 i32 i33 i47 i48 i49 i50 i51 i52 i53 i54 i55 i56 i57 i58 i59 i60 i61 i62 i63 i64 i65 i66 i67 i68 i69 i70 i71 i72 i73 i74 i75 i76 i77 i78 i79 i80 i81 i82 i83 i84 i85 i86 i87 i88 i89 i90 i91 i92 i93 i94 i95 i96 i97 i98 i99 i100 i101 i102 i103 i104 j8 j9 j34 j35 j36 j37 j38 j39 j40 j41 j42 j43 j44 j45 j46 : Value) (mv : Value) (who : Nat) (px : Nat) (qa : Option Addr) (pl : Nat) (qc : Nat) (gx : Nat) (lv : Value) (x : List Int × List Int × List Rs) (wq : World)
  (ms:List MR) (rs:List Rq) (HX:Hid (x=atmRun ms cy0.ws cy0.hs (who:Nat) rs)) (hX:Bx wq gx [mv,lv,.slice (some ⟨px,0,none⟩) 3 3]) (hwi:(who:Int)<3) (hpc:wq.cell? ⟨px,who,none⟩=some (.slice qa pl qc)) (hpl:px<wq.heap.size) (hM:Maps wq wq.heap.size mv ms) (hQ:Reqs wq wq.heap.size (.slice qa pl qc) rs)
  {K:Act→World→Prop} {Q':Exit→Act→World→Prop}
  (hK:∀(u8 u9 u34 u35 u36 u37 u38 u39 u40 u41 u42 u43 u44 u45 u46:Value) w', RrP u8 u9 x wq w' → K (alA i0 i1 i2 i3 i4 i7 i10 i11 i12 i13 i14 i15 i16 i17 i18 i19 i20 i21 i22 i23 i24 i25 i26 i27 i28 i29 i30 i31 i32 i33 i47 i48 i49 i50 i51 i52 i53 i54 i55 i56 i57 i58 i59 i60 i61 i62 i63 i64 i65 i66 i67 i68 i69 i70 i71 i72 i73 i74 i75 i76 i77 i78 i79 i80 i81 i82 i83 i84 i85 i86 i87 i88 i89 i90 i91 i92 i93 i94 i95 i96 i97 i98 i99 i100 i101 i102 i103 i104 mv who px qa pl qc gx u8 u9 u34 u35 u36 u37 u38 u39 u40 u41 u42 u43 u44 u45 u46) w'):alCode.wp Tryz.prog (Exit.then K Q') (alA i0 i1 i2 i3 i4 i7 i10 i11 i12 i13 i14 i15 i16 i17 i18 i19 i20 i21 i22 i23 i24 i25 i26 i27 i28 i29 i30 i31 i32 i33 i47 i48 i49 i50 i51 i52 i53 i54 i55 i56 i57 i58 i59 i60 i61 i62 i63 i64 i65 i66 i67 i68 i69 i70 i71 i72 i73 i74 i75 i76 i77 i78 i79 i80 i81 i82 i83 i84 i85 i86 i87 i88 i89 i90 i91 i92 i93 i94 i95 i96 i97 i98 i99 i100 i101 i102 i103 i104 mv who px qa pl qc gx j8 j9 j34 j35 j36 j37 j38 j39 j40 j41 j42 j43 j44 j45 j46) wq:=by
 conv=>arg 2;whnf
 refine zE7 (alI i0 i1 i2 i3 i4 i7 i10 i11 i12 i13 i14 i15 i16 i17 i18 i19 i20 i21 i22 i23 i24 i25 i26 i27 i28 i29 i30 i31 i32 i33 i47 i48 i49 i50 i51 i52 i53 i54 i55 i56 i57 i58 i59 i60 i61 i62 i63 i64 i65 i66 i67 i68 i69 i70 i71 i72 i73 i74 i75 i76 i77 i78 i79 i80 i81 i82 i83 i84 i85 i86 i87 i88 i89 i90 i91 i92 i93 i94 i95 i96 i97 i98 i99 i100 i101 i102 i103 i104 mv who px qa pl qc gx lv x wq) (by kernel_rfl) (by kernel_rfl) ?_ ?_ ?_
 ·exact⟨_,_,_,_,_,_,_,_,_,_,_,_,_,_,_,rfl,nf,nf,(fun h _=>absurd h (by rw[getD_replicate_false];simp)),nf,nf,nf,nf,nf,nf,nf,nf,nf,nf,(fun h _=>absurd h (by rw[getD_replicate_false];simp)),nf,nf,(Below.refl _ _).drew⟩
 ·intro listed a w' i o hI hsz ho hl he hcl;obtain⟨u8,u9,u34,u35,u36,u37,u38,u39,u40,u41,u42,u43,u44,u45,u46,rfl,F0,F1,F2,F3,F4,F5,F6,F7,F8,F9,F10,F11,F12,F13,F14,F15,hx⟩:=hI;have hi:i<16:=(Array.getElem?_eq_some_iff.1 ho).1;have e:i=0∨i=1∨i=2∨i=3∨i=4∨i=5∨i=6∨i=7∨i=8∨i=9∨i=10∨i=11∨i=12∨i=13∨i=14∨i=15:=by omega
  clear hi;rcases e with rfl|rfl|rfl|rfl|rfl|rfl|rfl|rfl|rfl|rfl|rfl|rfl|rfl|rfl|rfl|rfl
  all_goals (have ho2:=ho;obtain rfl:=Option.some.inj ho2.symm;clear ho2)
  ·as_aux_lemma=>
    refine zA2 ho rfl (fun K hK=>?_);unfold alA;go_simp;refine hK _ _ ⟨_,_,_,_,_,_,_,_,_,_,_,_,_,_,_,rfl,?_,?_,?_,?_,?_,?_,?_,?_,?_,?_,?_,?_,?_,?_,?_,?_,hx⟩ <;> first|exact cy ‹_› rfl|exact fun _=>rfl|exact cyu ‹_› rfl rfl
  ·as_aux_lemma=>
    have l0:=he ⟨0,.data⟩ (by simp) rfl;have e:=F0 l0;subst e;obtain⟨k0,k1,k2⟩:=(hX.below hx hX.lt).three.1;refine zA2 ho rfl (fun K hK=>?_);unfold alA;go_simp;refine hK _ _ ⟨_,_,_,_,_,_,_,_,_,_,_,_,_,_,_,rfl,?_,?_,?_,?_,?_,?_,?_,?_,?_,?_,?_,?_,?_,?_,?_,?_,hx⟩ <;> first|exact cy ‹_› rfl|exact fun _=>rfl|exact cyu ‹_› rfl rfl
  ·as_aux_lemma=>
    refine zA2 ho rfl (fun K hK=>?_);unfold alA;go_simp
    (with_reducible refine(implAtmNewW_any w').mono ?_)
    rintro e w'' ⟨a1,b1,c1,d1,e1,f1,rfl,o1,o2,_,_,_,hb1⟩
    go_wp2_with fail
    refine⟨_,_,_,_,_,_,_,_,_,_,_,_,_,_,_,rfl,?_,?_,fun _ _=>⟨_,_,rfl,o1.rebase hx.size,o2.rebase hx.size⟩,?_,?_,?_,?_,?_,?_,fun hj=>absurd (hcl 9 _ rfl (by rwa [sgx (by decide)]at hj) ⟨2,.data⟩ (by simp) rfl) (by rw[getD_both hl];simp),fun hj=>(F10 (by rwa [sgx (by decide)]at hj)).below hb1,?_,?_,fun hj hu=>(let ⟨g,e1,e2,e3⟩:=(F13 (by rwa [sgx (by decide)]at hj) (by rwa [sgx (by decide)]at hu));⟨g,e1,e2,e3.below hb1 e3.lt⟩),fun hj=>(let ⟨g,a,b,e1,e2,e3,e4⟩:=(F14 (by rwa [sgx (by decide)]at hj));⟨g,a,b,e1,e2,e3.below hb1 e3.lt,e4⟩),?_,hx.trans (hb1.mono hx.size)⟩ <;> first|exact cy ‹_› rfl|exact fun _=>rfl
  ·as_aux_lemma=>
    refine zA2 ho rfl (fun K hK=>?_);unfold alA;go_simp;refine hK _ _ ⟨_,_,_,_,_,_,_,_,_,_,_,_,_,_,_,rfl,?_,?_,?_,?_,?_,?_,?_,?_,?_,?_,?_,?_,?_,?_,?_,?_,hx⟩ <;> first|exact cy ‹_› rfl|exact fun _=>rfl|exact cyu ‹_› rfl rfl
  ·as_aux_lemma=>
    refine zA2 ho rfl (fun K hK=>?_);unfold alA;go_simp;refine hK _ _ ⟨_,_,_,_,_,_,_,_,_,_,_,_,_,_,_,rfl,?_,?_,?_,?_,?_,?_,?_,?_,?_,?_,?_,?_,?_,?_,?_,?_,hx⟩ <;> first|exact cy ‹_› rfl|exact fun _=>rfl|exact cyu ‹_› rfl rfl
  ·as_aux_lemma=>
    have l4:=he ⟨4,.data⟩ (by simp) rfl;have e:=F4 l4;subst e;obtain⟨k0,k1,k2⟩:=(hX.below hx hX.lt).three.1;refine zA2 ho rfl (fun K hK=>?_);unfold alA;go_simp;refine hK _ _ ⟨_,_,_,_,_,_,_,_,_,_,_,_,_,_,_,rfl,?_,?_,?_,?_,?_,?_,?_,?_,?_,?_,?_,?_,?_,?_,?_,?_,hx⟩ <;> first|exact cy ‹_› rfl|exact fun _=>rfl|exact cyu ‹_› rfl rfl
  ·as_aux_lemma=>
    refine zA2 ho rfl (fun K hK=>?_);unfold alA;go_simp;refine hK _ _ ⟨_,_,_,_,_,_,_,_,_,_,_,_,_,_,_,rfl,?_,?_,?_,?_,?_,?_,?_,?_,?_,?_,?_,?_,?_,?_,?_,?_,hx⟩ <;> first|exact cy ‹_› rfl|exact fun _=>rfl|exact cyu ‹_› rfl rfl
  ·as_aux_lemma=>
    have l5:=he ⟨5,.data⟩ (by simp) rfl;have l6:=he ⟨6,.data⟩ (by simp) rfl;have e:=F5 l5;subst e;have e:=F6 l6;subst e;have hwx:=hwi;refine zA2 ho rfl (fun K hK=>?_);unfold alA;go_simp;refine hK _ _ ⟨_,_,_,_,_,_,_,_,_,_,_,_,_,_,_,rfl,?_,?_,?_,?_,?_,?_,?_,?_,?_,?_,?_,?_,?_,?_,?_,?_,hx⟩ <;> first|exact cy ‹_› rfl|exact fun _=>rfl|exact cyu ‹_› rfl rfl
  ·as_aux_lemma=>
    have l7:=he ⟨7,.data⟩ (by simp) rfl;have e:=F7 l7;subst e;have q0:=(hx.cell (p:=⟨px,who,none⟩) hpl).trans hpc;refine zA2 ho rfl (fun K hK=>?_);unfold alA;go_simp;refine hK _ _ ⟨_,_,_,_,_,_,_,_,_,_,_,_,_,_,_,rfl,?_,?_,?_,?_,?_,?_,?_,?_,?_,?_,?_,?_,?_,?_,?_,?_,hx⟩ <;> first|exact cy ‹_› rfl|exact fun _=>rfl|exact cyu ‹_› rfl rfl
  ·as_aux_lemma=>
    have l1:=he ⟨1,.data⟩ (by simp) rfl;have l2:=he ⟨2,.data⟩ (by simp) rfl;have l3:=he ⟨3,.data⟩ (by simp) rfl;have l8:=he ⟨8,.data⟩ (by simp) rfl;have e:=F1 l1;subst e;obtain⟨na,nb,e,na1,nb1⟩:=F2 l2 (getD_both hl);subst e;have e:=F3 l3;subst e;have e:=F8 l8;subst e;refine zA2 ho rfl (fun K hK=>?_);unfold alA;go_simp
    (with_reducible refine(implAtmRun_any _ _ _ ms w'.heap.size cy0.ws cy0.hs (who:Nat) rs w' ((hM.below hx).mono hx.size) (atmV_of (na1.ints (by simp) (fun z hz=>by rw[List.eq_of_mem_replicate hz];simp[I64])) (nb1.ints (by simp) (fun z hz=>by rw[List.eq_of_mem_replicate hz];simp[I64]))) ((hQ.below hx).mono hx.size) (Nat.le_refl _)).mono ?_)
    rw[←HX.out];rintro e w'' ⟨a1,b1,d1,ds,rfl,o1,o2,o3,ol,o5,_,hb1⟩
    go_wp2_with fail
    refine⟨_,_,_,_,_,_,_,_,_,_,_,_,_,_,_,rfl,?_,?_,fun _ hu=>absurd hu (by rw[sgix hl];simp),?_,?_,?_,?_,?_,?_,fun _=>⟨a1,b1,d1,ds,rfl,o1.rebase hx.size,o2.rebase hx.size,o3.rebase hx.size,ol,fun j hj=>(o5 j hj).rebase hx.size⟩,fun hj=>absurd (hcl 10 _ rfl (by rwa [sgx (by decide)]at hj) ⟨9,.data⟩ (by simp) rfl) (by rw[getD_both hl];simp),?_,?_,fun hj hu=>(let ⟨g,e1,e2,e3⟩:=(F13 (by rwa [sgx (by decide)]at hj) (by rwa [sgx (by decide)]at hu));⟨g,e1,e2,e3.below hb1 e3.lt⟩),fun hj=>absurd (hcl 14 _ rfl (by rwa [sgx (by decide)]at hj) ⟨9,.chain⟩ (by simp) rfl) (by rw[getD_both hl];simp),?_,hx.trans (hb1.mono hx.size)⟩ <;> first|exact cy ‹_› rfl|exact fun _=>rfl
  ·as_aux_lemma=>
    have l9:=he ⟨9,.data⟩ (by simp) rfl;have l:=F9 l9;refine zA2 ho rfl (fun K hK=>?_);unfold alA;go_simp;refine hK _ _ ⟨_,_,_,_,_,_,_,_,_,_,_,_,_,_,_,rfl,?_,?_,?_,?_,?_,?_,?_,?_,?_,?_,fun _=>l,fun hj=>absurd (hcl 11 _ rfl (by rwa [sgx (by decide)]at hj) ⟨10,.data⟩ (by simp) rfl) (by rw[getD_both hl];simp),fun hj=>absurd (hcl 12 _ rfl (by rwa [sgx (by decide)]at hj) ⟨10,.data⟩ (by simp) rfl) (by rw[getD_both hl];simp),?_,?_,fun hj=>absurd (hcl 12 _ rfl (hcl 15 _ rfl (by rwa [sgx (by decide)]at hj) ⟨12,.data⟩ (by simp) rfl) ⟨10,.data⟩ (by simp) rfl) (by rw[getD_both hl];simp),hx⟩ <;> first|exact cy ‹_› rfl|exact fun _=>rfl|exact cyu ‹_› rfl rfl
  ·as_aux_lemma=>
    have l10:=he ⟨10,.data⟩ (by simp) rfl;obtain⟨a,b,d,ds,rfl,o1,o2,o3,ol,o5⟩:=F10 l10;refine zA2 ho rfl (fun K hK=>?_);unfold alA;go_simp;refine hK _ _ ⟨_,_,_,_,_,_,_,_,_,_,_,_,_,_,_,rfl,?_,?_,?_,?_,?_,?_,?_,?_,?_,?_,fun hj=>⟨a,b,d,ds,rfl,o1,o2,o3,ol,o5⟩,fun _=>⟨_,rfl⟩,?_,?_,fun hj=>absurd (hcl 14 _ rfl (by rwa [sgx (by decide)]at hj) ⟨11,.data⟩ (by simp) rfl) (by rw[getD_both hl];simp),?_,hx⟩ <;> first|exact cy ‹_› rfl|exact fun _=>rfl|exact cyu ‹_› rfl rfl
  ·as_aux_lemma=>
    have l10:=he ⟨10,.data⟩ (by simp) rfl;obtain⟨a,b,d,ds,rfl,o1,o2,o3,ol,o5⟩:=F10 l10;refine zA2 ho rfl (fun K hK=>?_);unfold alA;go_simp;refine hK _ _ ⟨_,_,_,_,_,_,_,_,_,_,_,_,_,_,_,rfl,?_,?_,?_,?_,?_,?_,?_,?_,?_,?_,fun hj=>⟨a,b,d,ds,rfl,o1,o2,o3,ol,o5⟩,?_,fun _=>⟨_,rfl⟩,?_,?_,fun hj=>absurd (hcl 15 _ rfl (by rwa [sgx (by decide)]at hj) ⟨12,.data⟩ (by simp) rfl) (by rw[getD_both hl];simp),hx⟩ <;> first|exact cy ‹_› rfl|exact fun _=>rfl|exact cyu ‹_› rfl rfl
  ·as_aux_lemma=>
    refine zA2 ho rfl (fun K hK=>?_);unfold alA;have hb1:Below w'.heap.size w' (w'.alloc (.cells #[.slice none 0 0,.slice none 0 0] 34)):=(Below.refl _ _).alloc (Nat.le_refl _) _;go_simp;refine hK _ _ ⟨_,_,_,_,_,_,_,_,_,_,_,_,_,_,_,rfl,?_,?_,fun hj hu=>(cyu F2 rfl rfl hj hu).below hb1,?_,?_,?_,?_,?_,?_,fun hj=>(F9 (by rwa [sgx (by decide)]at hj)).below hb1,fun hj=>(F10 (by rwa [sgx (by decide)]at hj)).below hb1,?_,?_,fun _ _=>⟨_,rfl,hx.size,BoxA.new _ _ _⟩,fun hj=>absurd (hcl 14 _ rfl (by rwa [sgx (by decide)]at hj) ⟨13,.data⟩ (by simp) rfl) (by rw[getD_both hl];simp),?_,hx.trans (hb1.mono hx.size)⟩ <;> first|exact cy ‹_› rfl|exact fun _=>rfl|exact cyu ‹_› rfl rfl
  ·as_aux_lemma=>
    have l13:=he ⟨13,.data⟩ (by simp) rfl;have l11:=he ⟨11,.data⟩ (by simp) rfl;have l10:=he ⟨10,.phase⟩ (by simp) rfl;obtain⟨g,rfl,g1,hAA⟩:=F13 l13 (getD_both hl);obtain⟨y,hy⟩:=F11 l11;obtain⟨a,b,d,ds,rfl,o1,o2,o3,ol,o5⟩:=F10 l10;simp at hy;obtain⟨rfl,rfl⟩:=hy;obtain⟨qa2,qc2,rfl,_,_⟩:=o1.shape;obtain⟨ra,rc,rfl,_,_⟩:=o2.shape;obtain⟨k0,k1,m0,m1⟩:=hAA.cells;refine zA2 ho rfl (fun K hK=>?_);unfold alA;have ht:=touchA g w' (.slice qa2 x.1.length qc2) (.slice ra x.2.1.length rc);go_simp;refine hK _ _ ⟨_,_,_,_,_,_,_,_,_,_,_,_,_,_,_,rfl,?_,?_,fun hj hu=>(cyu F2 rfl rfl hj hu).boxA hAA ht,?_,?_,?_,?_,?_,?_,fun hj=>(F9 (by rwa [sgx (by decide)]at hj)).boxA hAA ht,fun hj=>RFR.boxA ⟨_,_,d,ds,rfl,o1,o2,o3,ol,o5⟩ hAA ht,?_,?_,fun _ hu=>absurd hu (by rw[sgix hl];simp),fun _=>⟨g,_,_,rfl,g1,hAA.put _ _,rfl⟩,fun hj=>absurd (hcl 15 _ rfl (by rwa [sgx (by decide)]at hj) ⟨14,.chain⟩ (by simp) rfl) (by rw[getD_both hl];simp),Below.touchN hx ht g1 (Nat.le_refl _)⟩ <;> first|exact cy ‹_› rfl|exact fun _=>rfl|exact cyu ‹_› rfl rfl
  ·as_aux_lemma=>
    have l12:=he ⟨12,.data⟩ (by simp) rfl;have l:=F12 l12;refine zA2 ho rfl (fun K hK=>?_);unfold alA;go_simp;refine hK _ _ ⟨_,_,_,_,_,_,_,_,_,_,_,_,_,_,_,rfl,?_,?_,?_,?_,?_,?_,?_,?_,?_,?_,?_,?_,?_,?_,?_,fun _=>l,hx⟩ <;> first|exact cy ‹_› rfl|exact fun _=>rfl|exact cyu ‹_› rfl rfl
 ·intro listed a w' hI hd;obtain⟨u8,u9,u34,u35,u36,u37,u38,u39,u40,u41,u42,u43,u44,u45,u46,rfl,F0,F1,F2,F3,F4,F5,F6,F7,F8,F9,F10,F11,F12,F13,F14,F15,hx⟩:=hI;obtain⟨a,b,d,ds,hr,o1,o2,o3,ol,o5⟩:=F10 (hd 10 (by show 10<16;omega));obtain⟨y1,hy1⟩:=F11 (hd 11 (by show 11<16;omega));obtain⟨y2,hy2⟩:=F15 (hd 15 (by show 15<16;omega));obtain⟨ga,a', b', hp1,ga1,hA0,ha⟩:=F14 (hd 14 (by show 14<16;omega));clear F0 F1 F2 F3 F4 F5 F6 F7 F8 F9 F10 F11 F12 F13 F14 F15 hd;subst hr;simp at hy1 hy2;obtain⟨hy1,hz1'⟩:=hy1;obtain⟨hz2', hy2⟩:=hy2;subst hy1 hy2 hz1' hz2';simp at ha;obtain⟨ha1,ha2⟩:=ha;subst ha1 ha2 hp1;exact hK _ _ _ _ _ _ _ _ _ _ _ _ _ _ _ w' ⟨ga,a,b,ds,rfl,ga1,hA0,o1,o2,o3,ol,o5,hx⟩
end Go.Proofs.YtgkdoehkmbhfiaaGreat
namespace Go.Proofs.YtgkdoehkmbhfiaaGreat
open Go.RowKit
theorem Arr.drop {w:World} {B sz n cap m b off:Nat} {rows:List (List Value)} (h:Arr w B sz (.slice (some ⟨b,off,none⟩) n cap) rows) (hm:m≤n):Arr w B sz (.slice (some ⟨b,off+m * sz,none⟩) (n - m) (cap - m)) (rows.drop m):=by
 obtain⟨ao,cap', hv,h1,h2,h0,h9,h3⟩:=h;simp only[Value.slice.injEq]at hv;obtain⟨rfl,rfl,rfl⟩:=hv;refine⟨_,_,by rw[List.length_drop],by rw[List.length_drop];omega,by omega,by rw[List.length_drop];omega,(fun h=>by cases h),fun hn=>?_⟩;rw[List.length_drop]at hn ⊢;obtain⟨b', off', ha,hlt,hc⟩:=h3 (by omega);simp only[Option.some.injEq,Addr.mk.injEq,and_true]at ha;obtain⟨rfl,rfl⟩:=ha;refine⟨_,_,rfl,hlt,fun t ht j hj=>?_⟩;have:=hc (m+t) (by omega) j hj;rw[show off+m * sz+t * sz+j=off+(m+t) * sz+j by rw[Nat.add_mul];omega,this];simp[List.getD,List.getElem?_drop]
theorem ArrV.drop {α:Type} {R:World→Nat→Value→α→Prop} {w:World} {B sz n cap m b off:Nat} {xs:List α} (h:ArrV R w B sz (.slice (some ⟨b,off,none⟩) n cap) xs) (hm:m≤n):ArrV R w B sz (.slice (some ⟨b,off+m * sz,none⟩) (n - m) (cap - m)) (xs.drop m):=by
 obtain⟨vs,h1,h2,h3⟩:=h;refine⟨vs.drop m,by rw[List.map_drop];exact h1.drop hm,by simp[h2],fun k hk d=>?_⟩;simp only[List.length_drop]at hk;have e1:(vs.drop m).getD k undef=vs.getD (m+k) undef:=by simp[List.getD,List.getElem?_drop]
 have e2:(xs.drop m).getD k d=xs.getD (m+k) d:=by simp[List.getD,List.getElem?_drop]
 rw[e1,e2];exact h3 (m+k) (by omega) d
theorem crPlayX {c:Cfg} (hbus:Bus c) {w w1:World} {u iv:Value} (hc:BusV w1 w1.heap.size u c) {ins:List Inp} (hi:Ins w1 w1.heap.size iv ins) (hl:ins.length≤300) (hb:Below w1.heap.size w1 w):Calls Tryz.prog 39 #[u,iv] w fun e w' => ∃v,e=.returned v∧CyX (runC c ins cy0) w' v∧Below w.heap.size w w' :=
 (crPlay_any hbus ((hc.below hb).mono hb.size) ((hi.below hb).mono hb.size) (Nat.le_refl _) hl).mono fun e w' h=>by
  obtain⟨z0,z1,z2,z3,z4,n0,n1,n2,n3,n4,k0,k1,k2,k3,k4,P,Q,rfl,hv,hb⟩:=h.view hbus (zM8 hbus _ (zJ4 c));exact⟨_,rfl,⟨_,_,_,_,_,_,_,_,_,_,_,_,_,_,_,_,_,rfl,hv⟩,hb⟩
theorem cycFlow300 {c:Cfg} (hbus:Bus c) {w w1:World} {u:Value} (hc:BusV w1 w1.heap.size u c) (hb:Below w1.heap.size w1 w) {v:Value} {st:Cy} (h:CyX st w v) (hg:Good c st):Calls Tryz.prog 19 #[u,v,.int .i64 300] w (CopP (flow c 300 st) w):=by
 obtain⟨b0,b1,b2,b3,b4,n0,n1,n2,n3,n4,k0,k1,k2,k3,k4,P,Q,rfl,h⟩:=h;exact cycFlow_any hbus ((hc.below hb).mono hb.size) h (Nat.le_refl _) hg (n:=300) (by omega)
theorem plen_lone {c:Cfg} {who:Nat} (h:Lone c who):plen c 3=(c.prog who).length:=by
 have hw:=h.w3;rw[plen_succ,plen_succ,plen_succ];obtain rfl|rfl|rfl:who=0∨who=1∨who=2:=by omega
 ·have:=h.none 1 (by omega) (by omega);have:=h.none 2 (by omega) (by omega);simp only[plen,List.range_zero,List.map_nil,List.sum_nil];omega
 ·have:=h.none 0 (by omega) (by omega);have:=h.none 2 (by omega) (by omega);simp only[plen,List.range_zero,List.map_nil,List.sum_nil];omega
 ·have:=h.none 0 (by omega) (by omega);have:=h.none 1 (by omega) (by omega);simp only[plen,List.range_zero,List.map_nil,List.sum_nil];omega
theorem alone_flow {c : Cfg} (hb : Bus c) {who : Nat} (hl : Lone c who) (ins : List Inp) : (flow c 300 (runC c ins cy0)).ws = (atmRun c.ms cy0.ws cy0.hs (who : Nat) (c.prog who)).1 ∧ (flow c 300 (runC c ins cy0)).hs = (atmRun c.ms cy0.ws cy0.hs (who : Nat) (c.prog who)).2.1 ∧ (flow c 300 (runC c ins cy0)).told.length = (c.prog who).length ∧ (atmRun c.ms cy0.ws cy0.hs (who : Nat) (c.prog who)).2.2.length = (c.prog who).length ∧
  ∀j∈(flow c 300 (runC c ins cy0)).told,j.who=who∧j.n<(c.prog who).length∧j.rsp=(atmRun c.ms cy0.ws cy0.hs (who:Nat) (c.prog who)).2.2.getD j.n default:=by
 have hg0:=zM8 hb ins (zJ4 c);have hg:=zM8 hb (List.replicate 300 inAll) hg0;have hms:=fun w n=>slvC_lt4 hb w n
 obtain⟨d0,h0⟩:=ser_run hb hl ins (zJ4 c) (ser_zero c who);obtain⟨d1,h1⟩:=ser_run hb hl (List.replicate 300 inAll) hg0 h0;have hz:=flow_all hb hms hg0 (by have:=todo_run hb ins (zJ4 c);have:=todo_first hb;omega);have hlaw:=alone_law hl hms hg h1 hz;have hok:runOk c.ms cy0.ws cy0.hs (who:Nat) (c.prog who)=true:=by
  rw[runOk_parts];refine⟨hb.ms,by decide +kernel,inB_who hl.w3,hb.twelve hl.w3,?_⟩;rw[List.all_eq_true];exact fun r hr=>hb.reqs _ (hb.prog hl.w3) r hr
 have e:atmRun c.ms cy0.ws cy0.hs (who:Nat) (c.prog who)=zB2 c.ms who cy0.ws cy0.hs (c.prog who):=if_pos hok;rw[e];exact⟨hlaw.1,hlaw.2.1,hlaw.2.2.1,run_len ..,hlaw.2.2.2⟩
theorem cells_ne {w:World} {g g' T T':Nat} {cs cs':Array Value} (h:w.heap[g]? = some (.cells cs T (0,0))) (h':w.heap[g']? = some (.cells cs' T' (0,0))) (hT:T≠T'):g≠g':=by
 intro e;subst e;rw[h]at h';simp only[Option.some.injEq,Obj.cells.injEq]at h';exact hT h'.2.1
set_option maxRecDepth 20000 in
theorem zG9 {ops : Array Oper} {rest : List Oper} {a : Act} {w : World} {Q : Exit → Act → World → Prop} (d : Option Nat) (ty : Nat) (pos : String) (aft : Array Edge) (t : Nat)
  {x0 x1 x2 x3 x4 x5 x6:Value} (hx:a.tmps.getD t undef=.agg #[x0,x1,x2,x3,x4,x5,x6]) (h1:(#[x0,x1,x2,x3,x4,x5,x6]:Array Value).all (·.oneCell')=true)
  (h:wpList Tryz.prog ops Q rest (a.put d (.slice (some ⟨w.heap.size,0,none⟩) 1 1)) (w.alloc (.cells #[x0,x1,x2,x3,x4,x5,x6] 52))) :
  wpList Tryz.prog ops Q ({ dst:=d,op:=.buildSlice 53 1 #[(0,.tmp t)],type:=ty,pos:=pos,after:=aft,guard:=none }::rest) a w:=by
 refine wpList_plain rfl fun K hK=>?_
 have h2:=hK _ _ h;obtain⟨tmps,defers⟩:=a;simp only[Array.getD_eq_getD_getElem?]at hx;go_simp;exact h2
theorem one7r (rq:Rq) (da la:Option Addr) (dn dc ln lc:Nat):∀u∈rowQ (rq,.slice da dn dc,.slice la ln lc),u.oneCell' = true:=by
 intro u hu;simp only[rowQ,List.mem_cons,List.not_mem_nil,or_false]at hu;rcases hu with rfl|rfl|rfl|rfl|rfl|rfl|rfl <;> rfl
theorem PsO.snoc {w w' : World} {lo pb n : Nat} {us : List Value} {pss : List (List Rq)} {L : Nat → Nat} {u : Value} {x : List Rq} (h : PsO w lo pb n us pss L) (hk : pss.length < n) (hb : Below w.heap.size w w') (hp : PgO w' w.heap.size w'.heap.size u x) :
  PsO (w'.setCell ⟨pb,pss.length,none⟩ u) lo pb n (us.set pss.length u) (pss++[x]) (fun j=>if j≤pss.length then L j else w'.heap.size):=by
 have h':=h.below hb;have hpb:=h.pb;have hs:(w'.setCell ⟨pb,pss.length,none⟩ u).heap.size=w'.heap.size:=by simp[World.setCell]
 have ho:=h'.outer.putRow zG7 pss.length 0 vnil u u (by rw[h.len];omega) (by omega) rfl;simp only[Nat.zero_add,Nat.mul_one,Nat.add_zero]at ho;have hset:∀i,i≠pb→(w'.setCell ⟨pb,pss.length,none⟩ u).heap[i]? = w'.heap[i]?:=fun i hi=>Below.heap_setCell _ _ _ _ hi
 have htop:=h.top;have hl0:=h.le0 pss.length (Nat.le_refl _);have hpl:=h.pbl;have hz:=hb.size;refine⟨ho,by rw[List.length_set];exact h.len,by simp;omega,fun j hj=>?_,fun j h1 h2=>?_,fun j hj=>?_,?_,?_⟩
 ·by_cases e:j=pss.length
  ·subst e;rw[zJ5 (by rw[h.len];exact hk),zC5];simp only[Nat.le_refl,if_true,show ¬pss.length+1≤pss.length by omega,if_false];exact(hp.kept fun i h1 _ _=>hset i (by omega)).rebase htop
  ·have hj2:j<pss.length:=by simp at hj;omega
   rw[zE3 e,zB7 hj2];simp only[show j≤pss.length by omega,if_true,show j+1≤pss.length by omega];exact(h'.pg j hj2).kept fun i h1 _ _=>hset i (by have:=h.le0 j (by omega);omega)
 ·have hj2:pss.length+1≤j:=by simp at h1;omega
  rw[zE3 (by omega)];exact h.nil j (by omega) h2
 ·by_cases e:j=pss.length
  ·subst e;simp only[Nat.le_refl,if_true,show ¬pss.length+1≤pss.length by omega,if_false];omega
  ·have hj2:j<pss.length:=by simp at hj;omega
   simp only[show j≤pss.length by omega,if_true,show j+1≤pss.length by omega];exact h.mono j hj2
 ·simp only[Nat.zero_le,if_true];exact hpl
 ·rw[hs];have:(pss++[x]).length=pss.length+1:=by simp
  rw[this];simp only[show ¬pss.length+1≤pss.length by omega,if_false];exact Nat.le_refl _
theorem PsO.le2 {w:World} {lo pb n:Nat} {us:List Value} {pss:List (List Rq)} {L:Nat→Nat} (h:PsO w lo pb n us pss L):∀d i,i+d≤pss.length→L i≤L (i+d):=by
 intro d
 induction d with
 |zero=>intro i _;exact Nat.le_refl _
 |succ d ih=>intro i hi;exact Nat.le_trans (ih i (by omega)) (h.mono (i+d) (by omega))
theorem PsO.leij {w:World} {lo pb n i j:Nat} {us:List Value} {pss:List (List Rq)} {L:Nat→Nat} (h:PsO w lo pb n us pss L) (h1:i≤j) (h2:j≤pss.length):L i≤L j:=by
 have:=h.le2 (j - i) i (by omega)
 rwa [show i+(j - i)=j by omega]at this
theorem PsO.keptB {w w':World} {lo pb n:Nat} {us:List Value} {pss:List (List Rq)} {L:Nat→Nat} (h:PsO w lo pb n us pss L) (hk:∀k,k=pb∨(L 0≤k∧k<L pss.length)→k<w.heap.size→w'.heap[k]? = w.heap[k]?) (hs:w.heap.size≤w'.heap.size):PsO w' lo pb n us pss L :=
  { h with outer := OwnR.kept h.outer fun k hk2 => hk k (.inl (by simp only [Value.ownBlock, Option.some.injEq] at hk2; exact hk2.symm)) (OwnR.lt h.outer k hk2).2
           pg:=fun j hj=>(h.pg j hj).kept fun k h1 h2 h3=>hk k (.inr ⟨Nat.le_trans (h.le0 j (by omega)) h1,Nat.lt_of_lt_of_le h2 (h.leij (by omega) (Nat.le_refl _))⟩) h3
           top:=Nat.le_trans h.top hs }
structure BFit (ms:List MR) (lat:List Int) (pss:List (List Rq)):Prop where
 m:ms.length≤1048576
 m6:∀r∈ms,MR64 r
 l:lat.length≤1048576
 l6:∀x∈lat,I64 x
 p:pss.length≤1048576
 q:∀p∈pss,p.length≤1048576∧∀q∈p,RqFit q
theorem BFit.nil:BFit [] [] []:=⟨by simp,by simp,by simp,by simp,by simp,by simp⟩
structure RdO (w:World) (lo:Nat) (v:Value) (qs:List Rq) (vs:List (Value×Value)):Prop where
 len:vs.length=qs.length
 rows:Owns w lo 52 7 rowQ v (zipQ qs vs)
 d:∀j,j<qs.length→Owns w lo 3 1 rowI (vs.getD j default).1 (qs.getD j default).data
 l:∀j,j<qs.length→Owns w lo 3 1 rowI (vs.getD j default).2 (qs.getD j default).lanes
theorem RdO.kept {w w':World} {lo:Nat} {v:Value} {qs:List Rq} {vs:List (Value×Value)} (h:RdO w lo v qs vs) (hk:∀k,lo≤k→k<w.heap.size→w'.heap[k]? = w.heap[k]?):RdO w' lo v qs vs :=
  { h with rows := OwnR.kept h.rows fun k hk2 => hk k (OwnR.lt h.rows k hk2).1 (OwnR.lt h.rows k hk2).2
           d:=fun j hj=>OwnR.kept (h.d j hj) fun k hk2=>hk k (OwnR.lt (h.d j hj) k hk2).1 (OwnR.lt (h.d j hj) k hk2).2
           l:=fun j hj=>OwnR.kept (h.l j hj) fun k hk2=>hk k (OwnR.lt (h.l j hj) k hk2).1 (OwnR.lt (h.l j hj) k hk2).2 }
theorem RdO.below {w w':World} {lo:Nat} {v:Value} {qs:List Rq} {vs:List (Value×Value)} (h:RdO w lo v qs vs) (hb:Below w.heap.size w w'):RdO w' lo v qs vs:=h.kept fun k _ hk=>hb.block k hk
theorem RdO.rebase {w:World} {lo lo':Nat} {v:Value} {qs:List Rq} {vs:List (Value×Value)} (h:RdO w lo v qs vs) (hl:lo' ≤ lo):RdO w lo' v qs vs :=
 { h with rows:=OwnR.rebase h.rows hl,d:=fun j hj=>OwnR.rebase (h.d j hj) hl,l:=fun j hj=>OwnR.rebase (h.l j hj) hl }
theorem RdO.keptT {w w':World} {lo:Nat} {v:Value} {qs:List Rq} {vs:List (Value×Value)} (h:RdO w lo v qs vs) (hk:∀(k:Nat) (cs:Array Value) (T:TypeId),w.heap[k]? = some (Obj.cells cs T (0,0))→(T=52∨T=3)→w'.heap[k]? = w.heap[k]?):RdO w' lo v qs vs:=by
 have key:∀{α:Type} {f:α→List Value} {e sz:Nat} {u:Value} {xs:List α},Owns w lo e sz f u xs→(e=52∨e=3)→Owns w' lo e sz f u xs:=by
  intro α f e sz u xs ho he;refine OwnR.kept ho fun k hk2=>?_
  obtain⟨_,h2⟩:=ho;rcases h2 with⟨rfl,_⟩|⟨g,off,cap,cur,rfl,_,hh,_⟩
  ·simp[Value.ownBlock]at hk2
  ·simp only[Value.ownBlock,Option.some.injEq]at hk2;subst hk2;exact hk _ _ _ hh he
 exact { h with rows:=key h.rows (.inl rfl),d:=fun j hj=>key (h.d j hj) (.inr rfl),l:=fun j hj=>key (h.l j hj) (.inr rfl) }
theorem RdO.reqs {w:World} {lo:Nat} {v:Value} {qs:List Rq} {vs:List (Value×Value)} (h:RdO w lo v qs vs) (hn:qs.length≤1048576) (hq:∀q∈qs,RqFit q):Reqs w w.heap.size v qs:=by
 have hr:=h.rows;have hl1:(zipQ qs vs).length=qs.length:=zC3 h.len;have key:=reqs_of (B:=w.heap.size) (P:=(·<w.heap.size)) (hr.arrD (P:=(·<w.heap.size)) (fun k hk=>(OwnR.lt hr k hk).2) zC8 (by omega)) (fun y hy=>?_) (fun b hb=>hb)
 ·have e:(zipQ qs vs).map (·.1)=qs:=by
   unfold zipQ;rw[List.map_zipWith];apply List.ext_getElem
   ·simp[h.len]
   ·intro i h1 h2;simp
  rw[e]at key;exact key
 ·obtain⟨k,hk,rfl⟩:=List.mem_iff_getElem.1 hy;have hk':k<qs.length:=by omega
  have e:(zipQ qs vs)[k]=(qs.getD k default,vs.getD k default):=by
   rw[←zipQ_get h.len hk' zQ];simp[List.getD,hk]
  rw[e];obtain⟨⟨b1,b2⟩,i1,i2,i3⟩:=hq _ (zB5 (d:=default) hk');exact⟨(h.d k hk').intsD (fun b hb=>(OwnR.lt (h.d k hk') b hb).2) (by omega) i1,(h.l k hk').intsD (fun b hb=>(OwnR.lt (h.l k hk') b hb).2) (by omega) i2,i3⟩
theorem RdO.snoc {w w':World} {lo:Nat} {v v' d l:Value} {qs:List Rq} {vs:List (Value×Value)} {r:Rq} (h:RdO w lo v qs vs) (hr:Owns w' lo 52 7 rowQ v' (zipQ qs vs++[(r,d,l)])) (hk:∀(k:Nat) (cs:Array Value) (T:TypeId),w.heap[k]? = some (Obj.cells cs T (0,0))→T=3→w'.heap[k]? = w.heap[k]?) (hd:Owns w' lo 3 1 rowI d r.data) (hl:Owns w' lo 3 1 rowI l r.lanes):RdO w' lo v' (qs++[r]) (vs++[(d,l)]):=by
 have key:∀{u:Value} {xs:List Int},Owns w lo 3 1 rowI u xs→Owns w' lo 3 1 rowI u xs:=by
  intro u xs ho;refine OwnR.kept ho fun k hk2=>?_
  obtain⟨_,h2⟩:=ho;rcases h2 with⟨rfl,_⟩|⟨g,off,cap,cur,rfl,_,hh,_⟩
  ·simp[Value.ownBlock]at hk2
  ·simp only[Value.ownBlock,Option.some.injEq]at hk2;subst hk2;exact hk _ _ _ hh rfl
 refine⟨by simp[h.len],?_,fun j hj=>?_,fun j hj=>?_⟩
 ·have e:zipQ (qs++[r]) (vs++[(d,l)])=zipQ qs vs++[(r,d,l)]:=by
   unfold zipQ;rw[List.zipWith_append h.len.symm];rfl
  rw[e];exact hr
 ·by_cases e:j<qs.length
  ·rw[zB7 e,zB7 (by rw[h.len];exact e)];exact key (h.d j e)
  ·obtain rfl:j=qs.length:=by simp at hj;omega
   rw[zC5,←h.len,zC5];exact hd
 ·by_cases e:j<qs.length
  ·rw[zB7 e,zB7 (by rw[h.len];exact e)];exact key (h.l j e)
  ·obtain rfl:j=qs.length:=by simp at hj;omega
   rw[zC5,←h.len,zC5];exact hl
theorem l20Map9_any (r B : Nat) (bs : List Nat) (p : Nat) (n : Int) (w : World) (h0 : RdAt w r B bs p) (hp : p ≤ 1000000000) (h1 : 1 ≤ n) (hn : n ≤ 1099511627776) (h9 : 9000 ≤ n) :
  Calls Tryz.prog 81 #[.pointer (some ⟨r,0,none⟩),.int .i64 n] w (MapP r B bs p n w):=by
 have hrw:=h0.lt
 go_enter Tryz.func81,Tryz.ntmps81
 go_upto_block 0 with (first
  |(go_at_call 82;(with_reducible refine(zC9 r B bs p 3 _ h0 (by omega) (by omega) (by omega)).mono ?_);rintro e wA ⟨x0,rfl,a0,a1,hA,htA⟩)
  |(go_at_call 82;(with_reducible refine(zC9 r B bs (p+1) 4 _ (hA.alloc _) (by omega) (by omega) (by omega)).mono ?_);rintro e wB ⟨x,rfl,b0,b1,h,htB⟩))
 have HO:=hid (show Owns wB w.heap.size 144 4 rowM (.slice (some ⟨wA.heap.size,0,none⟩) 3 3) (m0 (x0==0)) from(Owns.litOf (w:=wA) (base:=w.heap.size) (e:=144) (sz:=4) (f:=rowM) (m0 (x0==0)) _ htA.size rowM_len (by rfl) (by simp[m0,maxLen])).touch htB hrw);have HT:=hid ((htA.alloc _).trans htB);clear a0 a1 hA htA htB h0
 go_cut [5] from 16 to 34 (fun v wc=>MapC r B bs p w v wc)
 case first=>
  have hlt:=h.lt;rcases(show x=0∨x=1∨x=2∨x=3 by omega)with rfl|rfl|rfl|rfl
  ·go_wp2_with (first
    |(go_at_call 82;(with_reducible refine(zC9 r B bs (p+1+1) 3 _ h (by omega) (by omega) (by omega)).mono ?_);rintro e wC ⟨s,rfl,c0,c1,hC,htC⟩)
    |(go_at_call 82;(with_reducible refine(zC9 r B bs (p+1+1+1) 2 _ hC (by omega) (by omega) (by omega)).mono ?_);rintro e wD ⟨t,rfl,d0,d1,hD,htD⟩))
   have HT2:=hid ((HT.out.trans htC).trans htD);go_meet
   case rel=>exact⟨m1 s (t==0),_,Owns.litOf (m1 s (t==0)) _ HT2.out.size rowM_len (by rfl) (by simp[m1,maxLen]),m1_bd _ _ c0 c1,by simp[m1],by simp[m1],(m1_ok _ _ c0 c1).1,by omega,hD.alloc _,HT2.out.alloc _⟩
  ·go_wp2_with (first
    |(go_at_call 82;(with_reducible refine(zC9 r B bs (p+1+1) 3 _ h (by omega) (by omega) (by omega)).mono ?_);rintro e wC ⟨s,rfl,c0,c1,hC,htC⟩;obtain⟨k,rfl⟩:=Int.eq_ofNat_of_zero_le c0;have hk3:k≤2:=(by omega);have hkc:(0:Int)≤1+(k:Int):=(by omega);have hkd:1+(k:Int)≤3:=(by omega);have hkn:(1+(k:Int)).toNat=1+k:=(by omega)))
   have HT2:=hid (HT.out.trans htC);have HO2:=hid ((HO.out.touch htC hrw).take rowM_len (1+k) (by simp[m0];omega));go_meet
   case rel=>exact⟨(m0 (x0==0)).take (1+k),_,by simpa[hkn]using HO2.out,fun x hx=>m0_bd _ x (List.mem_of_mem_take hx),by simp[m0];try omega,by simp[m0];try omega,(m0_ok _ _).1,by omega,hC,HT2.out⟩
  ·go_wp2_with fail
   go_meet
   case rel=>exact⟨m0 (x0==0),_,HO.out,m0_bd _,by simp[m0],by simp[m0],by have:=(m0_ok (x0==0) 3).1;simpa[m0]using this,by omega,h,HT.out⟩
  ·go_wp2_with fail
   go_meet
   case rel=>exact⟨m0 (x0==0),_,HO.out,m0_bd _,by simp[m0],by simp[m0],by have:=(m0_ok (x0==0) 3).1;simpa[m0]using this,by omega,h,HT.out⟩
 case rest=>
  clear h HO HT b0 b1;obtain⟨ms,q,hown,hbd,hl1,hl4,hok,hq,hR,hT⟩:=hcut;obtain⟨g,off,c,rfl,hc1,hc2,hg1,hg2⟩:=hown.someR (by omega);have HO:=hid hown;have HBD:=hid hbd;have HOK:=hid hok;have HT:=hid hT;clear hown hbd hok hT
  go_wp2_with (go_at_call 122;refine(odd_any r B bs q n wc hR (by omega) h1 hn).mono ?_;rintro e w3 ⟨b,q2,rfl,hb9,hq2,h3,ht3⟩;have HO3:=hid (HO.out.touch ht3 hrw);have HT3:=hid (HT.out.trans ht3);have hs3:=ht3.size;obtain rfl:=hb9 h9;clear ht3)
  go_ret
  exact⟨_,ms,q2,rfl,HO3.out,fun x hx=>(HBD.out x hx).r64,by omega,fun _=>HOK.out,by omega,h3,HT3.out⟩
end Go.Proofs.YtgkdoehkmbhfiaaGreat
namespace Go.Proofs.YtgkdoehkmbhfiaaGreat
open Go.RowKit
attribute [local go_sem ↓] Go.wp_at_zero Go.wp_at_succ
def headReg : Code → Option Nat
 | .region id _ _=>some id
 | .seq a _=>headReg a
 |_=>none
def zK0 (n : Nat) : Code → Option Code
 | .seq a b => if headReg a = some n then some (.seq a b) else match zK0 n a with
  |some c=>some c
  |none=>zK0 n b
 | .loop c=>zK0 n c
 | .block _ c=>zK0 n c
 | .scope c=>zK0 n c
 | .cond _ a b => match zK0 n a with
  |some c=>some c
  |none=>zK0 n b
 |_=>none
noncomputable def reqTail:Code:=(Tryz.f83.body.bind (zK0 13)).getD .skip
set_option maxRecDepth 20000 in
def reqZ (r:Nat) (n:Int) (s g:Nat) (u6 u7 u8 u9 u10 u11 u12 u13 u14 u15 u16 u17 u18 u19 u20 u21 u22 u23 u24 u25 u26 u27 u28 u29 u30 u31 u32 u33 u34 u35 u36 u37 u38 u39 u40 u41 u42 u43 u44 u45 u46 u47 u48 u49 u50 u51 u52 u53 u54 u55 u56 u57 u58 u59 u60 u61 u62 u63 u64 u65 u66 u67 u68 u69 u70 u71 u72 u73 u74 u75 u76 u77 u78 u79 u80 u81 u82 u83 u84 u85 u86 u87 u88 u89 u90 u91 u92 u93 u94 u95 u96 u97 u98 u99 u100 u101 u102 u103 u104 u105 u106 u107 u108 u109 u110 u111 u112 u113 u114 u115 u116 u117 u118 u119 u120 u121 u122 u123 u124 u125 u126 u127 u128 u129 u130 u131 u132 u133 u134 u135 u136 u137 u138 u139 u140 u141 u142 u143 u144 u145 u146 u147 u148 u149 u150 u151 u152:Value):Act:={ tmps:=#[.pointer (some ⟨r,0,none⟩),.int .i64 n,undef,undef,.pointer (some ⟨s,0,none⟩),.pointer (some ⟨g,0,none⟩),u6,u7,u8,u9,u10,u11,u12,u13,u14,u15,u16,u17,u18,u19,u20,u21,u22,u23,u24,u25,u26,u27,u28,u29,u30,u31,u32,u33,u34,u35,u36,u37,u38,u39,u40,u41,u42,u43,u44,u45,u46,u47,u48,u49,u50,u51,u52,u53,u54,u55,u56,u57,u58,u59,u60,u61,u62,u63,u64,u65,u66,u67,u68,u69,u70,u71,u72,u73,u74,u75,u76,u77,u78,u79,u80,u81,u82,u83,u84,u85,u86,u87,u88,u89,u90,u91,u92,u93,u94,u95,u96,u97,u98,u99,u100,u101,u102,u103,u104,u105,u106,u107,u108,u109,u110,u111,u112,u113,u114,u115,u116,u117,u118,u119,u120,u121,u122,u123,u124,u125,u126,u127,u128,u129,u130,u131,u132,u133,u134,u135,u136,u137,u138,u139,u140,u141,u142,u143,u144,u145,u146,u147,u148,u149,u150,u151,u152],defers:=[] }
set_option maxRecDepth 100000 in
theorem req_tail9 (r B : Nat) (bs : List Nat) (p : Nat) (n : Int) (w : World) (hp : p ≤ 700000000) (h1n : 1 ≤ n) (hn : n ≤ 1099511627776) (h9 : 9000 ≤ n) (hrw : r < w.heap.size) (w0 : World) (s : Nat) (HS0 : Hid (qz w0 s)) (HT0 : Hid (Touch r w w0)) (hz0 : w0.heap.size = s + 1) (hrs : r < s) (HSW : Hid (w.heap.size = s))
  (g:Nat) (id kind addr many:Int) (wp:Bool) (hg:w0.heap.size≤g) (a0:0≤id) (a1:id<2) (b0:1≤kind) (b1:kind≤4) (hgr:g≠r) (hrg:r<g) (hsg:s<g) (hrw':r<w0.heap.size) (d1:many=1∨many=2∨many=4) (c0:0≤addr) (c1:addr≤63)
  (dv lv:Value) (ds ls:List Int) (q:Nat) (wc:World) (hok:reqOk ⟨id,kind,addr,many,wp,ds,ls⟩=true) (hdl:ds.length≤4) (hll:ls.length≤4) (hod:Owns wc (g+1) 3 1 rowI dv ds) (hol:Owns wc (g+1) 3 1 rowI lv ls) (hap:Apart dv lv) (hq:q≤p+60) (hQ:RQ r B bs w0 g id kind addr many wp dv lv q wc)
  (u6 u7 u8 u9 u10 u11 u12 u13 u14 u15 u16 u17 u18 u19 u20 u21 u22 u23 u24 u25 u26 u27 u28 u29 u30 u31 u32 u33 u34 u35 u36 u37 u38 u39 u40 u41 u42 u43 u44 u45 u46 u47 u48 u49 u50 u51 u52 u53 u54 u55 u56 u57 u58 u59 u60 u61 u62 u63 u64 u65 u66 u67 u68 u69 u70 u71 u72 u73 u74 u75 u76 u77 u78 u79 u80 u81 u82 u83 u84 u85 u86 u87 u88 u89 u90 u91 u92 u93 u94 u95 u96 u97 u98 u99 u100 u101 u102 u103 u104 u105 u106 u107 u108 u109 u110 u111 u112 u113 u114 u115 u116 u117 u118 u119 u120 u121 u122 u123 u124 u125 u126 u127 u128 u129 u130 u131 u132 u133 u134 u135 u136 u137 u138 u139 u140 u141 u142 u143 u144 u145 u146 u147 u148 u149 u150 u151 u152:Value):reqTail.wp Tryz.prog (bodyPost Tryz.prog Tryz.f83 (ReqP r B bs p n w)) (reqZ r n s g u6 u7 u8 u9 u10 u11 u12 u13 u14 u15 u16 u17 u18 u19 u20 u21 u22 u23 u24 u25 u26 u27 u28 u29 u30 u31 u32 u33 u34 u35 u36 u37 u38 u39 u40 u41 u42 u43 u44 u45 u46 u47 u48 u49 u50 u51 u52 u53 u54 u55 u56 u57 u58 u59 u60 u61 u62 u63 u64 u65 u66 u67 u68 u69 u70 u71 u72 u73 u74 u75 u76 u77 u78 u79 u80 u81 u82 u83 u84 u85 u86 u87 u88 u89 u90 u91 u92 u93 u94 u95 u96 u97 u98 u99 u100 u101 u102 u103 u104 u105 u106 u107 u108 u109 u110 u111 u112 u113 u114 u115 u116 u117 u118 u119 u120 u121 u122 u123 u124 u125 u126 u127 u128 u129 u130 u131 u132 u133 u134 u135 u136 u137 u138 u139 u140 u141 u142 u143 u144 u145 u146 u147 u148 u149 u150 u151 u152) wc:=by
 conv=>arg 2;whnf
 unfold reqZ;have hdc:=hod.shape;obtain⟨da,dc,rfl,_,_⟩:=hdc;have hlc:=hol.shape;obtain⟨la,lc,rfl,_,_⟩:=hlc;have HRO:=hid hok;have HOD:=hid hod;have HOL:=hid hol;have HAP:=hid hap;have I64D:=hid (req64 hok).1;have I64L:=hid (req64 hok).2;clear hok hod hol hap;have hsg':g≠s:=by omega
 have hsg2:s≠g:=by omega
 have hgs:w.heap.size≤g:=by have:=HSW.out;omega
 have hss:w.heap.size≤s:=by have:=HSW.out;omega
 have hm4:many≤4:=by omega
 have hm1:1≤many:=by omega
 have hR:=hQ.2.1;have hgl:=hQ.1.lt;obtain⟨k0,k1,k2,k3,k4,k5,k6⟩:=hQ.1.cells;obtain⟨m0,m1,m2,m3,m4,m5,m6⟩:=hQ.1.unfrozen;have HQ:=hid hQ;clear hQ
 go_wp2_with (go_at_call 122;(with_reducible refine(odd_any r B bs q n wc hR (by omega) h1n hn).mono ?_);rintro e w1 ⟨b,q1,rfl,hb9,hq1,h1,ht1⟩;have HQ1:=hid (HQ.out.touch hgr h1 ht1);have HOD1:=hid (HOD.out.touch ht1 (by omega));have HOL1:=hid (HOL.out.touch ht1 (by omega));obtain⟨k0,k1,k2,k3,k4,k5,k6⟩:=HQ1.out.1.cells;obtain⟨m0,m1,m2,m3,m4,m5,m6⟩:=HQ1.out.1.unfrozen;have gl1:=HQ1.out.1.lt;have hz1:=HS0.out.touch HQ1.out.2.2 (show s≠r by omega);obtain⟨n0,n1,n2,n3,n4,n5,n6⟩:=hz1.cells;obtain⟨o0,o1,o2,o3,o4,o5,o6⟩:=hz1.unfrozen;have hzl1:=hz1.lt;clear hz1;obtain rfl:=hb9 h9;clear ht1)
 refine bodyPost_ret (zB0 Tryz.results83 _ _ ⟨s,0,none⟩ (.agg #[.int .i64 id,.int .i64 kind,.int .i64 addr,.int .i64 many,.bool wp,.slice da ds.length dc,.slice la ls.length lc]) rfl (loadVar_req _ _ _ _ _ _ _ _ _ (by simp[go_sem, *]) (by simp[go_sem, *]) (by simp[go_sem, *]) (by simp[go_sem, *]) (by simp[go_sem, *]) (by simp[go_sem, *]) (by simp[go_sem, *]))) rfl ⟨_,_,⟨id,kind,addr,many,wp,ds,ls⟩,q1,rfl,?od,?ol,?i,?ld,?ll,fun _=>HRO.out,by omega,?r,?t⟩
 case od=>
  have X:=HOD1.out.rebase (show w.heap.size≤g+1 by omega);have L:=(fun j hj=>(OwnR.lt HOD1.out j hj).1:∀j,_→g+1≤j)
  repeat(first|with_reducible exact X|with_reducible refine Owns.drewd ?_|with_reducible refine Owns.allocd ?_ _|with_reducible refine Owns.set' ?_ _ _ _ (fun j hj=>by have:=L j hj;omega))
 case ol=>
  have X:=HOL1.out.rebase (show w.heap.size≤g+1 by omega);have L:=(fun j hj=>(OwnR.lt HOL1.out j hj).1:∀j,_→g+1≤j)
  repeat(first|with_reducible exact X|with_reducible refine Owns.drewd ?_|with_reducible refine Owns.allocd ?_ _|with_reducible refine Owns.set' ?_ _ _ _ (fun j hj=>by have:=L j hj;omega))
 case i=>exact⟨by simp only[I64];omega,by simp only[I64];omega,by simp only[I64];omega,by simp only[I64];omega,I64D.out,I64L.out⟩
 case ld=>simp;omega
 case ll=>simp;omega
 case r=>
  have X:=HQ1.out.2.1
  repeat(first|with_reducible exact X|with_reducible refine RdAt.drewd ?_|with_reducible refine RdAt.alloc ?_ _|with_reducible refine RdAt.setNew ?_ hrs (by omega) _ _)
 case t=>
  have X:=HT0.out.trans HQ1.out.2.2
  repeat(first|with_reducible exact X|with_reducible refine Touch.drewd ?_|with_reducible refine Touch.alloc ?_ _|with_reducible refine Touch.setNew ?_ (by omega) _)
end Go.Proofs.YtgkdoehkmbhfiaaGreat
