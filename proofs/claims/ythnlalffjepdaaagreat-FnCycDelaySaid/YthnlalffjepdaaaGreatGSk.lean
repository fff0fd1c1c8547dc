/- slaveOk of a store that stands as it may (printed by wip/gen_sk.py). -/
import Derived.Test.YthnlalffjepdaaaGreatGCpy
import Derived.Test.YthnlalffjepdaaaGreatGPk
import Derived.Test.YthnlalffjepdaaaGreatGFl
import Derived.Test.YthnlalffjepdaaaGreatGLib
set_option linter.unusedVariables false
set_option linter.unusedSimpArgs false
namespace Go.Proofs.YthnlalffjepdaaaGreat
open Go.RowKit
set_option maxRecDepth 4000 in
set_option maxHeartbeats 16000000 in
theorem slaveOk_any {c : Cfg} (hbus : Bus c) {w : World} {B : Nat} {u : Value} (hc : BusV w B u c) {a0 a1 a2 a3 a4 : Value} {st : Cy} {P : List PS} {Q : List SS} (h : CyV w B a0 a1 a2 a3 a4 st P Q) (hB : B ≤ w.heap.size) (hg : Good c st) {s : Nat} (hs : s < 4) :
    Calls Tryz.prog 81 #[u,.agg #[a0,a1,a2,a3,a4],.int .i64 s] w fun e w' => e=.returned (.bool true)∧Below w.heap.size w w':=by
  obtain⟨mv,lb,lo,lc,pb,po,pc,QQ,K,rfl,⟨ma,mn,mk,rfl⟩,hms,hlb,hpb,hlat,hprog,hreq⟩:=hc.opened hbus;have HO:=hid (show BusO w B c ma mn mk lb lo lc pb po pc QQ K from⟨hms,hlb,hpb,hlat,hprog,hreq⟩);obtain⟨pg,pgo,pgc,rfl,pc1,pc2,pgB,hpc⟩:=h.ps.at (by rw[h.lp];omega)
  obtain⟨tg,tp,tc,rfl,tc1,tc2,tgB,htc⟩:=h.ss.at (by rw[h.lq];omega)
  obtain⟨ya,yn,yb,rfl⟩:∃a n c,a0=.slice a n c:=by obtain⟨a,c,e,_⟩:=h.ws.1;exact⟨a,_,c,e⟩
  obtain⟨za,zn,zb,rfl⟩:∃a n c,a1=.slice a n c:=by obtain⟨a,c,e,_⟩:=h.hs.1;exact⟨a,_,c,e⟩
  obtain⟨ua,un,ub,rfl⟩:∃a n c,a4=.slice a n c:=by obtain⟨D,⟨a,c,e,_⟩,_⟩:=h.told;exact⟨a,_,c,e⟩
  rw[h.lp]at h pc1 hpc ⊢;rw[h.lq]at h tc1 htc ⊢;have HC:=hid h;have HG:=hid hg;have HPC:=hid hpc;have vrow:=htc s default hs;obtain⟨x,hx⟩:∃x,x=Q.getD s default:=⟨_,rfl⟩
  rw[←hx]at vrow;have HX:=hid hx;obtain⟨⟨qa,qn,qc⟩,⟨da,dn,dc⟩,la⟩:=x;have v0:=vrow 0 (by omega);have v1:=vrow 1 (by omega);have v2:=vrow 2 (by omega);simp only[rowSS,sl,List.getElem?_cons_zero,List.getElem?_cons_succ,Nat.add_zero]at v0 v1 v2;have hpv:Jbs w B (.slice qa qn qc) (st.slaves s).pipe:=by have:=h.p s hs;rw[←hx]at this;exact this
  obtain⟨DJ,dj1,dj2,dj3⟩:=h.d s hs;rw[←hx]at dj1;obtain⟨ao,cp,e,hcp1,hcp2,_,_,hjc⟩:=hpv.opened;simp only[Value.slice.injEq]at e;obtain⟨rfl,rfl,rfl⟩:=e;obtain⟨bo,ep,e,hdp1,hdp2,_,_,hdc⟩:=dj1;simp only[sl,Value.slice.injEq,List.length_map]at e hdp1 hdc;obtain⟨rfl,rfl,rfl⟩:=e;have hdl:DJ.length=(st.slaves s).done.length:=by rw[←dj2,List.length_map]
  obtain⟨pl,hpl⟩:∃x,x=(st.slaves s).pipe.length:=⟨_,rfl⟩
  obtain⟨dl,hdl2⟩:∃x,x=DJ.length:=⟨_,rfl⟩
  have hsg:=hg.s s hs;have p2:=hsg.p2;have d2:=hsg.d2;rw[←hpl]at p2 v0 hcp1 hjc;rw[←hdl,←hdl2]at d2;rw[←hdl2]at v1 hdp1 hdc;have hls:(la:Int)≤2:=by have:=h.sn s hs;rw[←hx]at this;simp only at this;have:=hsg.l;omega
  have HDC:=hid hdc;have HJC:=hid hjc;have DJ3:=hid dj3;have DJ2:=hid dj2;have HPL:=hid hpl;have HDL:=hid hdl2;have HDL0:=hid hdl;have gd1:decide ((2:Int)<(pl:Int))=false:=by rw[decide_eq_false_iff_not];omega
  have gd1':decide (2<pl)=false:=by rw[decide_eq_false_iff_not];omega
  have gd2:decide ((2:Int)<(dl:Int))=false:=by rw[decide_eq_false_iff_not];omega
  have gd2':decide (2<dl)=false:=by rw[decide_eq_false_iff_not];omega
  have i1:=hid (isMaster_any (la:Int));rw[show inB (la:Int) 0 2=true by simp[inB];omega]at i1;have hsi:(s:Int)<4:=by omega
  have HLAT:=hid (hlat s hs);obtain⟨lt,hlt0⟩:∃x,x=c.lt s:=⟨_,rfl⟩
  have HLT:=hid hlt0;rw[←hlt0]at HLAT;obtain⟨w0,hw0⟩:∃W,W=((w.alloc (.cells #[.slice ma mn mk,.slice (some ⟨lb,lo,none⟩) 4 lc,.slice (some ⟨pb,po,none⟩) 3 pc] 27)).alloc (.cells #[.slice ya yn yb,.slice za zn zb,.slice (some ⟨pg,pgo,none⟩) 3 pgc,.slice (some ⟨tg,tp,none⟩) 4 tc,.slice ua un ub] 46)).alloc (.cells #[.int .i64 (s:Nat)] 3):=⟨_,rfl⟩
  have hb0:Below w.heap.size w w0:=by rw[hw0];exact(((Below.refl _ _).alloc (Nat.le_refl _) _).alloc (by simp) _).alloc (by simp;omega) _
  have hz0:w0.heap.size=w.heap.size+3:=by rw[hw0];simp
  have B1 := hid (show BusB w0 w.heap.size ma mn mk lb lo lc pb po pc by
    unfold BusB;rw[hw0,((Below.refl _ _).alloc (Nat.le_refl _) _).block _ (by simp;omega),((Below.refl _ _).alloc (Nat.le_refl _) _).block _ (by simp)];exact alloc_at _ _ rfl)
  have B2 := hid (show w0.heap[w.heap.size + 1]? = some (.cells #[.slice ya yn yb, .slice za zn zb, .slice (some ⟨pg, pgo, none⟩) 3 pgc, .slice (some ⟨tg, tp, none⟩) 4 tc, .slice ua un ub] 46 (0, 0)) by
    rw[hw0,((Below.refl _ _).alloc (Nat.le_refl _) _).block _ (by simp)];exact alloc_at _ _ (by simp))
  have B3:=hid (show IntB w0 (w.heap.size+2) s by unfold IntB;rw[hw0];exact alloc_at _ _ (by simp));obtain⟨y0,y1,y2,y3,y4⟩:w0.cell? ⟨w.heap.size+1,0,none⟩=some (.slice ya yn yb)∧w0.cell? ⟨w.heap.size+1,1,none⟩=some (.slice za zn zb)∧w0.cell? ⟨w.heap.size+1,2,none⟩=some (.slice (some ⟨pg,pgo,none⟩) 3 pgc)∧w0.cell? ⟨w.heap.size+1,3,none⟩=some (.slice (some ⟨tg,tp,none⟩) 4 tc)∧w0.cell? ⟨w.heap.size+1,4,none⟩=some (.slice ua un ub):=by
    have:=B2.out;refine⟨?_,?_,?_,?_,?_⟩ <;> simp[World.cell?,this]
  obtain⟨n0,_⟩:=B3.out.cells;have htz:tg<w.heap.size:=Nat.lt_of_lt_of_le tgB hB;rw[←hb0.cell (p:=⟨tg,_,none⟩) htz]at v0 v1 v2;have hK2:=callable_of (K:=131) Tryz.func131 (by kernel_rfl) (by kernel_rfl);have HB0:=hid hb0;have HZ0:=hid hz0;obtain⟨g3,hg3⟩:∃g,g=w.heap.size+1+1:=⟨_,rfl⟩
  obtain⟨g2,hg2⟩:∃g,g=w.heap.size+1:=⟨_,rfl⟩
  rw[show w.heap.size+2=w.heap.size+1+1 from rfl,←hg3]at n0 B3;rw[←hg2]at y0 y1 y2 y3 y4 B2;clear hc hms hlb hlat hprog hreq h hg hpc htc vrow hx hpv hjc dj3 dj2 hdc hdl hsg hpl hdl2 hlt0 hz0 hb0
  go_enter Tryz.func81,Tryz.ntmps81
  go_upto_region 1 with fail
  rw[←hw0];clear hw0;rw[←hg3,←hg2];have HG3:=hid hg3;have HG2:=hid hg2;clear hg3 hg2
  go_upto_region 4 with (first
    |(go_at_call 83;refine(i1.out _).mono ?_;rintro e w9 ⟨rfl,rfl⟩))
  clear v0 v1 v2 y0 y1 y2 y3 y4 n0
  go_upto_region 6 with fail
  obtain⟨w5,hw5⟩:∃W,W=(w0.alloc (.cells #[.slice qa pl qc,.slice da dl dc,.int .i64 (la:Nat)] 50)).alloc (.cells #[.int .i64 (-1),.int .i64 (-1),.int .i64 (-1)] 169):=⟨_,rfl⟩
  rw[←hw5];obtain⟨g5,hg5⟩:∃g,g=w0.heap.size+1:=⟨_,rfl⟩
  obtain⟨g4,hg4⟩:∃g,g=w0.heap.size:=⟨_,rfl⟩
  rw[←hg5,←hg4];have hz0:=HZ0.out;have hg2:=HG2.out;have hg3:=HG3.out;have hb5:Below w0.heap.size w0 w5:=by rw[hw5];exact((Below.refl _ _).alloc (Nat.le_refl _) _).alloc (by simp) _
  have HB5:=hid (HB0.out.trans (hb5.mono HB0.out.size));have hv5:w5.heap[g4]? = some (.cells #[.slice qa pl qc,.slice da dl dc,.int .i64 (la:Nat)] 50 (0,0)):=by
    rw[hw5,((Below.refl _ _).alloc (Nat.le_refl _) _).block _ (by rw[hg4];simp)];exact alloc_at _ _ hg4
  have HT5:=hid (show TriB w5 g5 (lastK []) by unfold TriB;rw[hw5];exact alloc_at _ _ (by rw[hg5];simp));obtain⟨q0,q1⟩:w5.cell? ⟨g4,0,none⟩=some (.slice qa pl qc)∧w5.cell? ⟨g4,1,none⟩=some (.slice da dl dc):=by refine⟨?_,?_⟩ <;> simp[World.cell?,hv5]
  have B15:=hid (B1.out.below hb5 (by omega));have B25:=hid ((hb5.block g2 (by omega)).trans B2.out);have B35:=hid (B3.out.below hb5 (by omega));have n5:g5=w.heap.size+4:=by omega
  have n4:g4=w.heap.size+3:=by omega
  have N5:=hid n5;have N4:=hid n4;have Q0:=hid q0;have hz5:w5.heap.size=g5+1:=by rw[hw5,hg5];simp
  have HZ5:=hid hz5;clear hw5 hg5 hg4 hz0 hg2 hg3 hb5 hv5 n5 n4 hz5 q0
  go_wp2_with fail
  go_loopw [40] (fun i wr=>∃k:Nat,i=.int .i64 k∧k≤dl∧TriB wr g5 (lastK ((keysOf (st.slaves s)).take k))∧Below g5 w5 wr) (fun i _=>dl - (intOf i).toNat)
  case atStart=>exact⟨0,by go_num,Nat.zero_le _,HT5.out,Below.refl _ _⟩
  case round=>
    clear q1 HT5;obtain⟨k,rfl,hk,htri,hbl⟩:=hrel;have HTRI:=hid htri;have HBL:=hid hbl;have n5:=N5.out;have n4:=N4.out;have hg2:=HG2.out;have hg3:=HG3.out;have hz5:g5<wr.heap.size:=heap_lt' htri;have hBg:B≤g5:=by omega
    by_cases hlt:k<dl
    · have hki : (k : Int) < (dl : Int) := by omega
      obtain⟨db,doff,rfl,hdB,hdcell⟩:=HDC.out (by omega);obtain⟨x,hx⟩:∃x,x=DJ.getD k default:=⟨_,rfl⟩
      have hkl:k<DJ.length:=by rw[←HDL.out];exact hlt
      have hxm:x∈DJ:=by rw[hx];exact getD_mem hkl
      have hxe:DJ[k]? = some x:=by rw[hx];simp[List.getD,hkl]
      have cellx:∀j,j<5→wr.cell? ⟨db,doff+k * 5+j,none⟩=(tjRow x)[j]?:=fun j hj=>by
        rw[hbl.cell (p:=⟨db,_,none⟩) (by show db<g5;omega),HB5.out.cell (p:=⟨db,_,none⟩) (by show db<w.heap.size;omega),hdcell k hlt j hj,hx];simp[List.getD,hkl]
      have hdata:=DJ3.out x hxm;obtain⟨xa,xk,hxv,_⟩:=hdata.opened;obtain⟨⟨xw,xn,⟨xi,xc,xd⟩⟩,xv⟩:=x;simp only at hdata hxv;subst hxv;have x0:=cellx 0 (by omega);have x1:=cellx 1 (by omega);have x2:=cellx 2 (by omega);have x3:=cellx 3 (by omega);have x4:=cellx 4 (by omega);simp only[tjRow,List.getElem?_cons_zero,List.getElem?_cons_succ,Nat.add_zero]at x0 x1 x2 x3 x4;have hkey:(keysOf (st.slaves s))[k]? = some (xw,xn):=by
        unfold keysOf;rw[List.getElem?_append_left (by rw[List.length_map,←HDL0.out];exact hkl),List.getElem?_map,←DJ2.out,List.getElem?_map,hxe];rfl
      obtain⟨hxw,hxlast,hxin,hxp⟩:=lastK_lt HG.out hs hkey;have hxmd:(⟨xw,xn,⟨xi,xc,xd⟩⟩:TJ)∈(st.slaves s).done:=by rw[←DJ2.out];exact List.mem_map.2 ⟨_,hxm,rfl⟩
      obtain⟨hxok,hxid⟩:=(HG.out.s s hs).dr _ hxmd;have HXOK:=hid hxok;have HXID:=hid (show c.id xw xn=xi from hxid.symm);have HTK:=hid (take_snocK hkey);have HDATA:=hid hdata;have HXL:=hid hxlast;have HXI:=hid hxin;have HXP:=hid hxp;have HXW:=hid hxw;obtain⟨xl,hxl⟩:∃l,l=xd.length:=⟨_,rfl⟩
      rw[←hxl]at x4;have HXDL:=hid hxl;clear hdcell hx hkl hxm hxe cellx hdata hkey hxlast hxin hxmd hxok hxid hxp hxl htri hbl;obtain⟨wo,hwo⟩:∃W,W=wr:=⟨_,rfl⟩
      subst hwo;clear n5 n4 hg2 hg3
      go_upto_region 9 with fail
      clear x0 x1 x2 x3 x4;have n5:=N5.out;have n4:=N4.out;have hg2:=HG2.out;have hg3:=HG3.out;obtain⟨wj,hwj⟩:∃W,W=wo.alloc (.cells #[.int .i64 (xw:Nat),.int .i64 (xn:Nat),.int .i64 xi,.int .i64 xc,.slice xa xl xk] 85):=⟨_,rfl⟩
      rw[←hwj];obtain⟨gj,hgj⟩:∃g,g=wo.heap.size:=⟨_,rfl⟩
      have hbj:Below wo.heap.size wo wj:=by rw[hwj];exact(Below.refl _ _).alloc (Nat.le_refl _) _
      have hjt:wj.heap[gj]? = some (.cells #[.int .i64 (xw:Nat),.int .i64 (xn:Nat),.int .i64 xi,.int .i64 xc,.slice xa xl xk] 85 (0,0)):=by rw[hwj];exact alloc_at _ _ hgj
      rw[←hgj];have zj:=heap_lt' hjt;obtain⟨j0,j1,j2,j3,j4⟩:wj.cell? ⟨gj,0,none⟩=some (.int .i64 (xw:Nat))∧wj.cell? ⟨gj,1,none⟩=some (.int .i64 (xn:Nat))∧wj.cell? ⟨gj,2,none⟩=some (.int .i64 xi)∧wj.cell? ⟨gj,3,none⟩=some (.int .i64 xc)∧wj.cell? ⟨gj,4,none⟩=some (.slice xa xl xk):=by refine⟨?_,?_,?_,?_,?_⟩ <;> simp[World.cell?,hjt]
      have hgj5:gj≠g5:=by omega
      have nb5:w.heap.size≠g5:=by omega
      have n35:g3≠g5:=by omega
      have nl5:lb≠g5:=by have:=HO.out.hlb;omega
      have HBW:=hid (HBL.out.trans (hbj.mono (by omega)));obtain⟨b0,b1,b2,z1⟩:=(B15.out.below HBW.out (by omega)).cells;have hSt:=(HBW.out.block g2 (by omega)).trans B25.out;have hSn:=(B35.out.below HBW.out (by omega))
      have HTJ:=hid (HTRI.out.below hbj hz5);have HBB:=hid (HB5.out.trans (HBW.out.mono (by omega)));have hBj:B≤wj.heap.size:=by have:=hbj.size;omega
      have HF := hid (fits_any (w := wj.drew) (B := B) (g2 := g2) (g3 := g3) (pg := pg) (po := pgo) (pc := pgc) (s := s) (P := P) (st := st) (who := xw) (n := xn) HTJ.out
        (by show wj.cell? _=_;simp[World.cell?,hSt]) (by show wj.cell? _=_;exact hSn.cells.1) hBg (by omega) (by omega) pgB
        (fun t ht j hj=>by show wj.cell? _=_;rw[HBB.out.cell (p:=⟨pg,_,none⟩) (by show pg<w.heap.size;omega)];exact HPC.out t default ht j hj)
        (fun i hi=>((HC.out.o i hi).below (HBB.out.mono hB)).below (Below.refl _ _).drew) HXW.out HXL.out (HG.out.p xw HXW.out).os (HG.out.p xw HXW.out).o4 HXI.out)
      have HOJ:=hid (HO.out.below (HBB.out.mono hB));have HDJ:=hid (HDATA.out.below (HBB.out.mono hB));have HRO:=hid (fun(W:World) (hW:Below B wj W)=>rspOk_yes xa xl xk ⟨xi,xc,xd⟩ B W (by have:=(HDJ.out).below hW;rw[←HXDL.out]at this;exact this) (Nat.le_trans hBj hW.size) HXOK.out);have HBJ:=hid hbj;have HGJ:=hid hgj;have HSZ:=hid hz5;clear hwj hbj hgj hjt hSt hSn hz5 n5 n4 hg2 hg3
      go_region_held3 (fun w' => w'.cell? ⟨gj, 0, none⟩ = some (.int .i64 (xw : Nat)) ∧ w'.cell? ⟨gj, 1, none⟩ = some (.int .i64 (xn : Nat)) ∧ w'.cell? ⟨gj, 2, none⟩ = some (.int .i64 xi) ∧ w'.cell? ⟨gj, 3, none⟩ = some (.int .i64 xc) ∧ w'.cell? ⟨gj, 4, none⟩ = some (.slice xa xl xk) ∧ w'.cell? ⟨w.heap.size, 0, none⟩ = some (.slice ma mn mk) ∧ w'.cell? ⟨w.heap.size, 1, none⟩ = some (.slice (some ⟨lb, lo, none⟩) 4 lc) ∧ w'.cell? ⟨w.heap.size, 2, none⟩ = some (.slice (some ⟨pb, po, none⟩) 3 pc))
        (first|exact s8|exact s7|exact s6|go_keep)
        (first
          |(go_at_call 131;go_loud ((with_reducible refine(HF.out).mono ?_));rintro e w6 ⟨rfl,htr6,ht6⟩;have ht6':Touch g5 wj w6:=(show Touch g5 wj wj.drew from(Touch.refl _ _).drewd).trans ht6;have s6:w6.cell? ⟨gj,0,none⟩=some (.int .i64 (xw:Nat))∧w6.cell? ⟨gj,1,none⟩=some (.int .i64 (xn:Nat))∧w6.cell? ⟨gj,2,none⟩=some (.int .i64 xi)∧w6.cell? ⟨gj,3,none⟩=some (.int .i64 xc)∧w6.cell? ⟨gj,4,none⟩=some (.slice xa xl xk)∧w6.cell? ⟨w.heap.size,0,none⟩=some (.slice ma mn mk)∧w6.cell? ⟨w.heap.size,1,none⟩=some (.slice (some ⟨lb,lo,none⟩) 4 lc)∧w6.cell? ⟨w.heap.size,2,none⟩=some (.slice (some ⟨pb,po,none⟩) 3 pc):=⟨(ht6'.cell (p:=⟨gj,0,none⟩) hgj5 zj).trans j0,(ht6'.cell (p:=⟨gj,1,none⟩) hgj5 zj).trans j1,(ht6'.cell (p:=⟨gj,2,none⟩) hgj5 zj).trans j2,(ht6'.cell (p:=⟨gj,3,none⟩) hgj5 zj).trans j3,(ht6'.cell (p:=⟨gj,4,none⟩) hgj5 zj).trans j4,(ht6'.cell (p:=⟨w.heap.size,0,none⟩) nb5 z1).trans b0,(ht6'.cell (p:=⟨w.heap.size,1,none⟩) nb5 z1).trans b1,(ht6'.cell (p:=⟨w.heap.size,2,none⟩) nb5 z1).trans b2⟩;have zj6:=Nat.lt_of_lt_of_le zj ht6'.size;have z16:=Nat.lt_of_lt_of_le z1 ht6'.size;have HT6:=hid ht6';have HTR6:=hid htr6;have HG56:=hid (heap_lt' htr6);have HBT:=hid (ht6'.below hBg hBj);clear ht6 ht6' htr6)
          |(go_at_call 133;go_loud (with_reducible refine(HRO.out _ HBT.out).mono ?_);rintro e w7 ⟨rfl,hb7⟩;have s7:w7.cell? ⟨gj,0,none⟩=some (.int .i64 (xw:Nat))∧w7.cell? ⟨gj,1,none⟩=some (.int .i64 (xn:Nat))∧w7.cell? ⟨gj,2,none⟩=some (.int .i64 xi)∧w7.cell? ⟨gj,3,none⟩=some (.int .i64 xc)∧w7.cell? ⟨gj,4,none⟩=some (.slice xa xl xk)∧w7.cell? ⟨w.heap.size,0,none⟩=some (.slice ma mn mk)∧w7.cell? ⟨w.heap.size,1,none⟩=some (.slice (some ⟨lb,lo,none⟩) 4 lc)∧w7.cell? ⟨w.heap.size,2,none⟩=some (.slice (some ⟨pb,po,none⟩) 3 pc):=⟨(hb7.cell (p:=⟨gj,0,none⟩) zj6).trans s6.1,(hb7.cell (p:=⟨gj,1,none⟩) zj6).trans s6.2.1,(hb7.cell (p:=⟨gj,2,none⟩) zj6).trans s6.2.2.1,(hb7.cell (p:=⟨gj,3,none⟩) zj6).trans s6.2.2.2.1,(hb7.cell (p:=⟨gj,4,none⟩) zj6).trans s6.2.2.2.2.1,(hb7.cell (p:=⟨w.heap.size,0,none⟩) z16).trans s6.2.2.2.2.2.1,(hb7.cell (p:=⟨w.heap.size,1,none⟩) z16).trans s6.2.2.2.2.2.2.1,(hb7.cell (p:=⟨w.heap.size,2,none⟩) z16).trans s6.2.2.2.2.2.2.2⟩;have zj7:=Nat.lt_of_lt_of_le zj6 hb7.size;have z17:=Nat.lt_of_lt_of_le z16 hb7.size;have HB7:=hid hb7;clear hb7)
          |(go_at_call 130;go_loud (with_reducible refine(id_any hbus (B:=B) ((HOJ.out.below HBT.out).below (HB7.out.mono (Nat.le_trans hBj HT6.out.size))) (Nat.le_trans hBj (Nat.le_trans HT6.out.size HB7.out.size)) HXW.out HXP.out).mono ?_);rw[HXID.out];rintro e w8 ⟨rfl,hb8⟩;have s8:w8.cell? ⟨gj,0,none⟩=some (.int .i64 (xw:Nat))∧w8.cell? ⟨gj,1,none⟩=some (.int .i64 (xn:Nat))∧w8.cell? ⟨gj,2,none⟩=some (.int .i64 xi)∧w8.cell? ⟨gj,3,none⟩=some (.int .i64 xc)∧w8.cell? ⟨gj,4,none⟩=some (.slice xa xl xk)∧w8.cell? ⟨w.heap.size,0,none⟩=some (.slice ma mn mk)∧w8.cell? ⟨w.heap.size,1,none⟩=some (.slice (some ⟨lb,lo,none⟩) 4 lc)∧w8.cell? ⟨w.heap.size,2,none⟩=some (.slice (some ⟨pb,po,none⟩) 3 pc):=⟨(hb8.cell (p:=⟨gj,0,none⟩) zj7).trans s7.1,(hb8.cell (p:=⟨gj,1,none⟩) zj7).trans s7.2.1,(hb8.cell (p:=⟨gj,2,none⟩) zj7).trans s7.2.2.1,(hb8.cell (p:=⟨gj,3,none⟩) zj7).trans s7.2.2.2.1,(hb8.cell (p:=⟨gj,4,none⟩) zj7).trans s7.2.2.2.2.1,(hb8.cell (p:=⟨w.heap.size,0,none⟩) z17).trans s7.2.2.2.2.2.1,(hb8.cell (p:=⟨w.heap.size,1,none⟩) z17).trans s7.2.2.2.2.2.2.1,(hb8.cell (p:=⟨w.heap.size,2,none⟩) z17).trans s7.2.2.2.2.2.2.2⟩;have HB8:=hid hb8;clear hb8))
      clear s6 s7 s8
      go_wp2_with fail
      go_roundw
      case rel=>
        have n5:=N5.out;have n4:=N4.out;have hg2:=HG2.out;have hg3:=HG3.out;have hs:=HSZ.out;have h1:=HT6.out.size;have h2:=HG56.out;have h3:=HB7.out.size;have h4:=HBJ.out.size;refine⟨k+1,by go_num,by omega,?_,?_⟩
        · rw [HTK.out, lastK_snoc]
          exact(HTR6.out.below HB7.out h2).below HB8.out (by omega)
        · exact((HBW.out.trans (HT6.out.below (Nat.le_refl _) (by omega))).trans (HB7.out.mono (by omega))).trans (HB8.out.mono (by omega))
      case measure=>simp[intOf];omega
    · obtain rfl : k = dl := by omega
      have q0:=(hbl.cell (p:=⟨g4,0,none⟩) (by show g4<g5;omega)).trans Q0.out;clear n5 n4 hg2 hg3 hbl htri hz5
      go_wp2_with fail
      clear q0
      go_loopw [73] (fun i wr=>∃m:Nat,i=.int .i64 m∧m≤pl∧TriB wr g5 (lastK ((keysOf (st.slaves s)).take (k+m)))∧Below g5 w5 wr) (fun i _=>pl - (intOf i).toNat)
      case atStart=>exact⟨0,by go_num,Nat.zero_le _,HTRI.out,HBL.out⟩
      case round=>
        clear HTRI HBL;obtain⟨m,rfl,hm,htri,hbl⟩:=hrel;have HTRI:=hid htri;have HBL:=hid hbl;have n5:=N5.out;have n4:=N4.out;have hg2:=HG2.out;have hg3:=HG3.out;have hz5:g5<wr.heap.size:=heap_lt' htri;have hBg:B≤g5:=by omega
        by_cases hlt:m<pl
        · have hki : (m : Int) < (pl : Int) := by omega
          obtain⟨db,doff,rfl,hdB,hdcell⟩:=HJC.out (by omega);obtain⟨x,hx⟩:∃x,x=(st.slaves s).pipe.getD m default:=⟨_,rfl⟩
          have hml:m<(st.slaves s).pipe.length:=by rw[←HPL.out];exact hlt
          have hxm:x∈(st.slaves s).pipe:=by rw[hx];exact getD_mem hml
          have hxe:(st.slaves s).pipe[m]? = some x:=by rw[hx];simp[List.getD,hml]
          obtain⟨x0,x1,x2⟩:=hdcell m hlt;rw[←HB5.out.cell (p:=⟨db,_,none⟩) (by show db<w.heap.size;omega),←hbl.cell (p:=⟨db,_,none⟩) (by show db<g5;omega),←hx]at x0 x1 x2;obtain⟨xw,xn,xf⟩:=x;simp only at x0 x1 x2;have hkey:(keysOf (st.slaves s))[k+m]? = some (xw,xn):=by
            unfold keysOf;rw[List.getElem?_append_right (by rw[List.length_map,←HDL0.out,←HDL.out];omega),List.length_map,←HDL0.out,←HDL.out,show k+m - k=m by omega,List.getElem?_map,hxe];rfl
          obtain⟨hxw,hxlast,hxin,hxp⟩:=lastK_lt HG.out hs hkey;have hleft:(m=0→xf≤lt)∧(0<m→xf=lt):=by
            have hpl:=(HG.out.s s hs).pl;rw[←HLT.out]at hpl;rcases hp:(st.slaves s).pipe with _|⟨y,ys⟩
            · rw[hp]at hml;simp at hml
            · obtain ⟨h1, h2⟩ := hpl y ys hp
              rw[hp]at hxe;refine⟨fun e=>?_,fun e=>?_⟩
              · subst e;simp at hxe;rw[hxe]at h1;exact h1
              · obtain ⟨m', rfl⟩ : ∃ m', m = m' + 1 := ⟨m - 1, by omega⟩
                rw[List.getElem?_cons_succ]at hxe;exact h2 _ (List.mem_of_getElem? hxe)
          have HTK:=hid (take_snocK hkey);have HXL:=hid hxlast;have HXI:=hid hxin;have HXP:=hid hxp;have HXW:=hid hxw;have HLEFT:=hid hleft;clear hdcell hx hml hxm hxe hkey hxlast hxin hxp hxw hleft htri hbl n5 n4 hg2 hg3;obtain⟨wo,hwo⟩:∃W,W=wr:=⟨_,rfl⟩
          subst hwo
          go_upto_region 15 with fail
          clear x0 x1 x2;have n5:=N5.out;have n4:=N4.out;have hg2:=HG2.out;have hg3:=HG3.out;obtain⟨wj,hwj⟩:∃W,W=wo.alloc (.cells #[.int .i64 (xw:Nat),.int .i64 (xn:Nat),.int .i64 (xf:Nat)] 75):=⟨_,rfl⟩
          rw[←hwj];obtain⟨gj,hgj⟩:∃g,g=wo.heap.size:=⟨_,rfl⟩
          have hbj:Below wo.heap.size wo wj:=by rw[hwj];exact(Below.refl _ _).alloc (Nat.le_refl _) _
          have hjt:wj.heap[gj]? = some (.cells #[.int .i64 (xw:Nat),.int .i64 (xn:Nat),.int .i64 (xf:Nat)] 75 (0,0)):=by rw[hwj];exact alloc_at _ _ hgj
          rw[←hgj];have zj:=heap_lt' hjt;obtain⟨j0,j1,j2⟩:wj.cell? ⟨gj,0,none⟩=some (.int .i64 (xw:Nat))∧wj.cell? ⟨gj,1,none⟩=some (.int .i64 (xn:Nat))∧wj.cell? ⟨gj,2,none⟩=some (.int .i64 (xf:Nat)):=by refine⟨?_,?_,?_⟩ <;> simp[World.cell?,hjt]
          have hgj5:gj≠g5:=by omega
          have nb5:w.heap.size≠g5:=by omega
          have n35:g3≠g5:=by omega
          have nl5:lb≠g5:=by have:=HO.out.hlb;omega
          have HBW:=hid (HBL.out.trans (hbj.mono (by omega)));obtain⟨b0,b1,b2,z1⟩:=(B15.out.below HBW.out (by omega)).cells;have hSt:=(HBW.out.block g2 (by omega)).trans B25.out;have hSn:=(B35.out.below HBW.out (by omega))
          obtain⟨t0,z3⟩:=hSn.cells;have HTJ:=hid (HTRI.out.below hbj hz5);have HBB:=hid (HB5.out.trans (HBW.out.mono (by omega)));have hBj:B≤wj.heap.size:=by have:=hbj.size;omega
          have lc0:wj.cell? ⟨lb,lo+s,none⟩=some (.int .i64 (lt:Nat)):=by rw[HBB.out.cell (p:=⟨lb,_,none⟩) (by have:=HO.out.hlb;show lb<w.heap.size;omega)];exact HLAT.out
          have zl:lb<wj.heap.size:=World.block_lt_of_cell? wj _ lc0
          have HF := hid (show ∀ W, TriB W g5 (lastK ((keysOf (st.slaves s)).take (k + m))) → Touch g5 wj W → Calls Tryz.prog 131 #[.int .i64 (xw : Nat), .int .i64 (xn : Nat), .pointer (some ⟨g5, 0, none⟩), .pointer (some ⟨g2, 0, none⟩), .pointer (some ⟨g3, 0, none⟩)] W (FitP g5 (lastK ((keysOf (st.slaves s)).take (k + m))) xw xn W) from fun W hW hTW => by
            have hBW:Below g5 wj W:=hTW.below (Nat.le_refl _) (by have:=hbj.size;omega)
            exact fits_any (w := W) (B := B) (g2 := g2) (g3 := g3) (pg := pg) (po := pgo) (pc := pgc) (s := s) (P := P) (st := st) (who := xw) (n := xn) hW
              (by rw[hBW.cell (p:=⟨g2,2,none⟩) (by show g2<g5;omega)];simp[World.cell?,hSt]) ((hBW.cell (p:=⟨g3,0,none⟩) (by show g3<g5;omega)).trans t0) hBg (by omega) (by omega) pgB
              (fun t ht j hj=>by rw[hBW.cell (p:=⟨pg,_,none⟩) (by show pg<g5;omega),HBB.out.cell (p:=⟨pg,_,none⟩) (by show pg<w.heap.size;omega)];exact HPC.out t default ht j hj)
              (fun i hi=>((HC.out.o i hi).below (HBB.out.mono hB)).below (hBW.mono hBg)) HXW.out HXL.out (HG.out.p xw HXW.out).os (HG.out.p xw HXW.out).o4 HXI.out)
          have HBJ:=hid hbj;have HGJ:=hid hgj;have HSZ:=hid hz5;have HREL:Hid (∀(wd:World),TriB wd g5 (upd (lastK ((keysOf (st.slaves s)).take (k+m))) xw (xn:Nat))→Touch g5 wj wd→TriB wd g5 (lastK ((keysOf (st.slaves s)).take (k+(m+1))))∧Below g5 w5 wd):=by
            refine hid fun wd h1 h2=>⟨?_,?_⟩
            · rw[←Nat.add_assoc,HTK.out,lastK_snoc];exact h1
            · exact HBW.out.trans (h2.below (Nat.le_refl _) (by have:=hbj.size;omega))
          clear hwj hbj hgj hjt hSt hSn hz5 n5 n4 hg2 hg3;rcases Nat.eq_zero_or_pos m with hm0|hm0
          · have hlf := HLEFT.out.1 hm0
            subst hm0
            have HIN := hid (show ∀ w, Calls Tryz.prog 60 #[.int .i64 (xf : Nat), .int .i64 0, .int .i64 (lt : Nat)] w fun e w' => e = .returned (.bool true) ∧ w = w' from by
              have i5:=in_any (xf:Int) 0 (lt:Int);rw[show inB (xf:Int) 0 (lt:Int)=true by simp[inB];omega]at i5;exact i5)
            clear hlf;rw[show((0:Nat):Int)=0 from rfl];obtain⟨CC,hCC⟩:∃CC:List Value→World→Prop,CC=fun us W=>TriB W g5 (if us.length=0 then lastK ((keysOf (st.slaves s)).take (k+0)) else upd (lastK ((keysOf (st.slaves s)).take (k+0))) xw (xn:Nat))∧Touch g5 wj W:=⟨_,rfl⟩
            have hdr:Touch g5 wj wj.drew:=(Touch.refl _ _).drewd;have hC0:CC [] wj.drew:=by rw[hCC];exact⟨HTJ.out,hdr⟩
            have hTC:∀us W,CC us W→Touch g5 wj W:=by rw[hCC];exact fun us W h=>h.2
            have HC0:=hid (show ∀W,CC [] W→TriB W g5 (lastK ((keysOf (st.slaves s)).take (k+0))) by rw[hCC];exact fun W h=>h.1);have HC1:=hid (show ∀v W,TriB W g5 (upd (lastK ((keysOf (st.slaves s)).take (k+0))) xw (xn:Nat))→Touch g5 wj W→CC ([]++[v]) W by rw[hCC];exact fun v W h h2=>⟨h,h2⟩);have HC2:=hid (show ∀v W,CC ([]++[v]) W→TriB W g5 (upd (lastK ((keysOf (st.slaves s)).take (k+0))) xw (xn:Nat)) by rw[hCC];exact fun v W h=>h.1);have HTC:=hid hTC;clear hCC;have hne:Nonempty (Ph CC):=⟨⟨([],wj.drew),hC0⟩⟩
            have pc:∀{b o:Nat} {v:Value},b≠g5→wj.cell? ⟨b,o,none⟩=some v→∀x:Ph CC,x.1.2.cell? ⟨b,o,none⟩=some v:=fun hb hc x=>((hTC _ _ x.2).cell (p:=⟨_,_,none⟩) hb (World.block_lt_of_cell? wj _ hc)).trans hc
            have c0:=pc hgj5 j0;have c1:=pc hgj5 j1;have c2:=pc hgj5 j2;have c3:=pc nb5 b1;have c4:=pc n35 t0;have c5:=pc nl5 lc0;clear pc hTC hdr;refine wp_region_flow CC [(5,true)] [] (by kernel_rfl) (by kernel_rfl) hC0 ?_
            repeat (
              (with_reducible refine wq1_q ⟨rfl,rfl⟩ (fun K hK=>?_))
              go_simp
              first
                |((with_reducible refine hK _ ?_);clear hK K)
                |((with_reducible refine of_ite_neg (by simp[undef]) (hK _ ?_));clear hK K)
                | (apply Exists.intro
                   (with_reducible refine⟨fun _=>?_,hK _ ?_⟩)
                   (go_at_call 60;with_reducible exact callsF (HIN.out _))
                   clear hK K))
            refine wq1_x rfl (.bool true) (fun K hK=>?_);go_simp;refine hK _ ?_;clear hK K
            repeat (
              (with_reducible refine wq1_q ⟨rfl,rfl⟩ (fun K hK=>?_))
              go_simp
              first
                |((with_reducible refine hK _ ?_);clear hK K)
                |((with_reducible refine of_ite_neg (by simp[undef]) (hK _ ?_));clear hK K)
                | (apply Exists.intro
                   (with_reducible refine⟨fun _=>?_,hK _ ?_⟩)
                   (go_at_call 60;with_reducible exact callsF (HIN.out _))
                   clear hK K))
            refine wq1_nil ?_;refine wq2_x _ rfl rfl ?_ ?_
            · intro W hW K hK
              go_simp
              (with_reducible refine(HF.out W (HC0.out W hW) (HTC.out _ _ hW)).mono ?_)
              rintro e w'' ⟨rfl,h1,h2⟩;go_simp;exact hK (.bool true) _ _ (HC1.out _ _ h1 ((HTC.out _ _ hW).trans h2)) rfl rfl
            intro v;refine wq2_nil ?_;intro wd hwd;have hd1:=HC2.out _ _ hwd;have hd2:=HTC.out _ _ hwd;clear c0 c1 c2 c3 c4 c5 hwd hC0 HC0 HC1 HC2 HTC hne;have HR:=hid (HREL.out _ hd1 hd2);clear hd1 hd2 HREL j0 j1 j2 b0 b1 b2 t0 lc0
            go_wp2_with fail
            go_roundw
            case rel=>refine⟨0+1,?_,by omega,HR.out.1,HR.out.2⟩;first|rfl|go_num
            case measure=>simp[intOf];omega
          · obtain rfl := HLEFT.out.2 hm0
            have hm1:((m:Int)==0)=false:=by simp;omega
            obtain⟨CC,hCC⟩:∃CC:List Value→World→Prop,CC=fun us W=>TriB W g5 (if us.length=0 then lastK ((keysOf (st.slaves s)).take (k+m)) else upd (lastK ((keysOf (st.slaves s)).take (k+m))) xw (xn:Nat))∧Touch g5 wj W:=⟨_,rfl⟩
            have hdr:Touch g5 wj wj.drew:=(Touch.refl _ _).drewd;have hC0:CC [] wj.drew:=by rw[hCC];exact⟨HTJ.out,hdr⟩
            have hTC:∀us W,CC us W→Touch g5 wj W:=by rw[hCC];exact fun us W h=>h.2
            have HC0:=hid (show ∀W,CC [] W→TriB W g5 (lastK ((keysOf (st.slaves s)).take (k+m))) by rw[hCC];exact fun W h=>h.1);have HC1:=hid (show ∀v W,TriB W g5 (upd (lastK ((keysOf (st.slaves s)).take (k+m))) xw (xn:Nat))→Touch g5 wj W→CC ([]++[v]) W by rw[hCC];exact fun v W h h2=>⟨h,h2⟩);have HC2:=hid (show ∀v W,CC ([]++[v]) W→TriB W g5 (upd (lastK ((keysOf (st.slaves s)).take (k+m))) xw (xn:Nat)) by rw[hCC];exact fun v W h=>h.1);have HTC:=hid hTC;clear hCC;have hne:Nonempty (Ph CC):=⟨⟨([],wj.drew),hC0⟩⟩
            have pc:∀{b o:Nat} {v:Value},b≠g5→wj.cell? ⟨b,o,none⟩=some v→∀x:Ph CC,x.1.2.cell? ⟨b,o,none⟩=some v:=fun hb hc x=>((hTC _ _ x.2).cell (p:=⟨_,_,none⟩) hb (World.block_lt_of_cell? wj _ hc)).trans hc
            have c0:=pc hgj5 j0;have c1:=pc hgj5 j1;have c2:=pc hgj5 j2;have c3:=pc nb5 b1;have c4:=pc n35 t0;have c5:=pc nl5 lc0;clear pc hTC hdr;refine wp_region_flow CC [(5,true)] [] (by kernel_rfl) (by kernel_rfl) hC0 ?_
            repeat (
              (with_reducible refine wq1_q ⟨rfl,rfl⟩ (fun K hK=>?_))
              go_simp
              first
                |((with_reducible refine hK _ ?_);clear hK K)
                |((with_reducible refine of_ite_neg (by simp[undef]) (hK _ ?_));clear hK K)
                | (apply Exists.intro
                   (with_reducible refine⟨fun _=>?_,hK _ ?_⟩)
                   (fail)
                   clear hK K))
            refine wq1_x rfl (.bool true) (fun K hK=>?_);go_simp;refine hK _ ?_;clear hK K
            repeat (
              (with_reducible refine wq1_q ⟨rfl,rfl⟩ (fun K hK=>?_))
              go_simp
              first
                |((with_reducible refine hK _ ?_);clear hK K)
                |((with_reducible refine of_ite_neg (by simp[undef]) (hK _ ?_));clear hK K)
                | (apply Exists.intro
                   (with_reducible refine⟨fun _=>?_,hK _ ?_⟩)
                   (fail)
                   clear hK K))
            refine wq1_nil ?_;refine wq2_x _ rfl rfl ?_ ?_
            · intro W hW K hK
              go_simp
              (with_reducible refine(HF.out W (HC0.out W hW) (HTC.out _ _ hW)).mono ?_)
              rintro e w'' ⟨rfl,h1,h2⟩;go_simp;exact hK (.bool true) _ _ (HC1.out _ _ h1 ((HTC.out _ _ hW).trans h2)) rfl rfl
            intro v;refine wq2_nil ?_;intro wd hwd;have hd1:=HC2.out _ _ hwd;have hd2:=HTC.out _ _ hwd;clear c0 c1 c2 c3 c4 c5 hwd hC0 HC0 HC1 HC2 HTC hne;have HR:=hid (HREL.out _ hd1 hd2);clear hd1 hd2 HREL j0 j1 j2 b0 b1 b2 t0 lc0
            go_wp2_with fail
            go_roundw
            case rel=>refine⟨m+1,?_,by omega,HR.out.1,HR.out.2⟩;first|go_num|rfl
            case measure=>simp[intOf];omega
        · have hki : decide ((m : Int) < (pl : Int)) = false := by rw [decide_eq_false_iff_not]; omega
          go_wp2_with fail
          go_ret
          exact⟨rfl,HB5.out.trans (HBL.out.mono (by omega))⟩
end Go.Proofs.YthnlalffjepdaaaGreat
