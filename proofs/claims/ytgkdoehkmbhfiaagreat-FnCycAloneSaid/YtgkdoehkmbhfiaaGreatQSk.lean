/- CycAbs: how a bus stands by what happens. -/
import Derived.Test.YtgkdoehkmbhfiaaGreatQCpy
import Derived.Test.YtgkdoehkmbhfiaaGreatQMy
import Derived.Test.YtgkdoehkmbhfiaaGreatQFl
import Derived.Test.YtgkdoehkmbhfiaaGreatQRp0
import Derived.Test.YtgkdoehkmbhfiaaGreatQTc
import Derived.Test.YtgkdoehkmbhfiaaGreatQMq
set_option linter.unusedVariables false
set_option linter.unusedSimpArgs false
set_option maxHeartbeats 16000000
namespace Go.Proofs.YtgkdoehkmbhfiaaGreat
open Go.RowKit
set_option maxRecDepth 4000 in
theorem slaveOk_any {c : Cfg} (hbus : Bus c) {w : World} {B : Nat} {u : Value} (hc : BusV w B u c) {a0 a1 a2 a3 a4 : Value} {st : Cy} {P : List PS} {Q : List SS} (h : CyV w B a0 a1 a2 a3 a4 st P Q) (hB : B ≤ w.heap.size) (hg : Good c st) {s : Nat} (hs : s < 4) :
    Calls Tryz.prog 53 #[u,.agg #[a0,a1,a2,a3,a4],.int .i64 s] w fun e w' => e=.returned (.bool true)∧Below w.heap.size w w':=by
  obtain⟨mv,lb,lo,lc,pb,po,pc,QQ,K,rfl,⟨ma,mn,mk,rfl⟩,hms,hlb,hpb,hlat,hprog,hreq⟩:=hc.opened hbus;have HO:=hid (show BusO w B c ma mn mk lb lo lc pb po pc QQ K from⟨hms,hlb,hpb,hlat,hprog,hreq⟩);obtain⟨pg,pgo,pgc,rfl,pc1,pc2,pgB,hpc⟩:=h.ps.at (by rw[h.lp];omega)
  obtain⟨tg,tp,tc,rfl,tc1,tc2,tgB,htc⟩:=h.ss.at (by rw[h.lq];omega)
  obtain⟨ya,yn,yb,rfl⟩:∃a n c,a0=.slice a n c:=by obtain⟨a,c,e,_⟩:=h.ws.1;exact⟨a,_,c,e⟩
  obtain⟨za,zn,zb,rfl⟩:∃a n c,a1=.slice a n c:=by obtain⟨a,c,e,_⟩:=h.hs.1;exact⟨a,_,c,e⟩
  obtain⟨ua,un,ub,rfl⟩:∃a n c,a4=.slice a n c:=by obtain⟨D,⟨a,c,e,_⟩,_⟩:=h.told;exact⟨a,_,c,e⟩
  rw[h.lp]at h pc1 hpc ⊢;rw[h.lq]at h tc1 htc ⊢;have HC:=hid h;have HG:=hid hg;have HPC:=hid hpc;have vrow:=htc s default hs;obtain⟨x,hx⟩:∃x,x=Q.getD s default:=⟨_,rfl⟩
  rw[←hx]at vrow;have HX:=hid hx;obtain⟨⟨qa,qn,qc⟩,⟨da,dn,dc⟩,la⟩:=x;have v0:=vrow 0 (by omega);have v1:=vrow 1 (by omega);have v2:=vrow 2 (by omega);simp only[rowSS,sl,List.getElem?_cons_zero,List.getElem?_cons_succ,Nat.add_zero]at v0 v1 v2;have hpv:Jbs w B (.slice qa qn qc) (st.slaves s).pipe:=by have:=h.p s hs;rw[←hx]at this;exact this
  obtain⟨DJ,dj1,dj2,dj3⟩:=h.d s hs;rw[←hx]at dj1;obtain⟨ao,cp,e,hcp1,hcp2,_,_,hjc⟩:=hpv.opened;simp only[Value.slice.injEq]at e;obtain⟨rfl,rfl,rfl⟩:=e;obtain⟨bo,ep,e,hdp1,hdp2,_,_,hdc⟩:=dj1;simp only[sl,Value.slice.injEq,List.length_map]at e hdp1 hdc;obtain⟨rfl,rfl,rfl⟩:=e;have hdl:DJ.length=(st.slaves s).done.length:=by rw[←dj2,List.length_map]
  obtain⟨pl,hpl⟩:∃x,x=(st.slaves s).pipe.length:=⟨_,rfl⟩
  obtain⟨dl,hdl2⟩:∃x,x=DJ.length:=⟨_,rfl⟩
  have hsg:=hg.s s hs;have p2:=hsg.p2;have d2:=hsg.d2;rw[←hpl]at p2 v0 hcp1 hjc;rw[←hdl,←hdl2]at d2;rw[←hdl2]at v1 hdp1 hdc;have hls:(la:Int)≤2:=by have:=h.sn s hs;rw[←hx]at this;simp only at this;have:=hsg.l;omega
  have HDC:=hid hdc;have HJC:=hid hjc;have DJ3:=hid dj3;have DJ2:=hid dj2;have HPL:=hid hpl;have HDL:=hid hdl2;have HDL0:=hid hdl;have gd1:decide ((2:Int)<(pl:Int))=false:=by rw[decide_eq_false_iff_not];omega
  have gd1':decide (2<pl)=false:=by rw[decide_eq_false_iff_not];omega
  have gd2:decide ((2:Int)<(dl:Int))=false:=by rw[decide_eq_false_iff_not];omega
  have gd2':decide (2<dl)=false:=by rw[decide_eq_false_iff_not];omega
  have i1:=hid (zE2 (la:Int));rw[show inB (la:Int) 0 2=true by simp[inB];omega]at i1;have hsi:(s:Int)<4:=by omega
  have HLAT:=hid (hlat s hs);obtain⟨lt,hlt0⟩:∃x,x=c.lt s:=⟨_,rfl⟩
  have HLT:=hid hlt0;rw[←hlt0]at HLAT;obtain⟨w0,hw0⟩:∃W,W=((w.alloc (.cells #[.slice ma mn mk,.slice (some ⟨lb,lo,none⟩) 4 lc,.slice (some ⟨pb,po,none⟩) 3 pc] 27)).alloc (.cells #[.slice ya yn yb,.slice za zn zb,.slice (some ⟨pg,pgo,none⟩) 3 pgc,.slice (some ⟨tg,tp,none⟩) 4 tc,.slice ua un ub] 39)).alloc (.cells #[.int .i64 (s:Nat)] 3):=⟨_,rfl⟩
  have hb0:Below w.heap.size w w0:=by rw[hw0];exact(((Below.refl _ _).alloc (Nat.le_refl _) _).alloc (by simp) _).alloc (by simp;omega) _
  have hz0:w0.heap.size=w.heap.size+3:=by rw[hw0];simp
  have B1 := hid (show BusB w0 w.heap.size ma mn mk lb lo lc pb po pc by
    unfold BusB;rw[hw0,((Below.refl _ _).alloc (Nat.le_refl _) _).block _ (by simp;omega),((Below.refl _ _).alloc (Nat.le_refl _) _).block _ (by simp)];exact zA8 _ _ rfl)
  have B2 := hid (show w0.heap[w.heap.size + 1]? = some (.cells #[.slice ya yn yb, .slice za zn zb, .slice (some ⟨pg, pgo, none⟩) 3 pgc, .slice (some ⟨tg, tp, none⟩) 4 tc, .slice ua un ub] 39 (0, 0)) by
    rw[hw0,((Below.refl _ _).alloc (Nat.le_refl _) _).block _ (by simp)];exact zA8 _ _ (by simp))
  have B3:=hid (show IntB w0 (w.heap.size+2) s by unfold IntB;rw[hw0];exact zA8 _ _ (by simp));obtain⟨y0,y1,y2,y3,y4⟩:w0.cell? ⟨w.heap.size+1,0,none⟩=some (.slice ya yn yb)∧w0.cell? ⟨w.heap.size+1,1,none⟩=some (.slice za zn zb)∧w0.cell? ⟨w.heap.size+1,2,none⟩=some (.slice (some ⟨pg,pgo,none⟩) 3 pgc)∧w0.cell? ⟨w.heap.size+1,3,none⟩=some (.slice (some ⟨tg,tp,none⟩) 4 tc)∧w0.cell? ⟨w.heap.size+1,4,none⟩=some (.slice ua un ub):=by
    have:=B2.out;refine⟨?_,?_,?_,?_,?_⟩ <;> simp[World.cell?,this]
  obtain⟨n0,_⟩:=B3.out.cells;have htz:tg<w.heap.size:=Nat.lt_of_lt_of_le tgB hB;rw[←hb0.cell (p:=⟨tg,_,none⟩) htz]at v0 v1 v2;have hK2:=zB3 (K:=108) Tryz.func108 (by kernel_rfl) (by kernel_rfl);have HB0:=hid hb0;have HZ0:=hid hz0;obtain⟨g3,hg3⟩:∃g,g=w.heap.size+1+1:=⟨_,rfl⟩
  obtain⟨g2,hg2⟩:∃g,g=w.heap.size+1:=⟨_,rfl⟩
  rw[show w.heap.size+2=w.heap.size+1+1 from rfl,←hg3]at n0 B3;rw[←hg2]at y0 y1 y2 y3 y4 B2;clear hc hms hlb hlat hprog hreq h hg hpc htc vrow hx hpv hjc dj3 dj2 hdc hdl hsg hpl hdl2 hlt0 hz0 hb0
  go_enter Tryz.func53,Tryz.ntmps53
  go_upto_region 1 with fail
  rw[←hw0];clear hw0;rw[←hg3,←hg2];have HG3:=hid hg3;have HG2:=hid hg2;clear hg3 hg2
  go_upto_region 4 with (first
    |(go_at_call 56;refine(i1.out _).mono ?_;rintro e w9 ⟨rfl,rfl⟩))
  clear v0 v1 v2 y0 y1 y2 y3 y4 n0
  go_upto_region 6 with fail
  obtain⟨w5,hw5⟩:∃W,W=(w0.alloc (.cells #[.slice qa pl qc,.slice da dl dc,.int .i64 (la:Nat)] 94)).alloc (.cells #[.int .i64 (-1),.int .i64 (-1),.int .i64 (-1)] 154):=⟨_,rfl⟩
  rw[←hw5];obtain⟨g5,hg5⟩:∃g,g=w0.heap.size+1:=⟨_,rfl⟩
  obtain⟨g4,hg4⟩:∃g,g=w0.heap.size:=⟨_,rfl⟩
  rw[←hg5,←hg4];have hz0:=HZ0.out;have hg2:=HG2.out;have hg3:=HG3.out;have hb5:Below w0.heap.size w0 w5:=by rw[hw5];exact((Below.refl _ _).alloc (Nat.le_refl _) _).alloc (by simp) _
  have HB5:=hid (HB0.out.trans (hb5.mono HB0.out.size));have hv5:w5.heap[g4]? = some (.cells #[.slice qa pl qc,.slice da dl dc,.int .i64 (la:Nat)] 94 (0,0)):=by
    rw[hw5,((Below.refl _ _).alloc (Nat.le_refl _) _).block _ (by rw[hg4];simp)];exact zA8 _ _ hg4
  have HT5:=hid (show TriB w5 g5 (lastK []) by unfold TriB;rw[hw5];exact zA8 _ _ (by rw[hg5];simp));obtain⟨q0,q1⟩:w5.cell? ⟨g4,0,none⟩=some (.slice qa pl qc)∧w5.cell? ⟨g4,1,none⟩=some (.slice da dl dc):=by refine⟨?_,?_⟩ <;> simp[World.cell?,hv5]
  have B15:=hid (B1.out.below hb5 (by omega));have B25:=hid ((hb5.block g2 (by omega)).trans B2.out);have B35:=hid (B3.out.below hb5 (by omega));have n5:g5=w.heap.size+4:=by omega
  have n4:g4=w.heap.size+3:=by omega
  have N5:=hid n5;have N4:=hid n4;have Q0:=hid q0;have hz5:w5.heap.size=g5+1:=by rw[hw5,hg5];simp
  have HZ5:=hid hz5;clear hw5 hg5 hg4 hz0 hg2 hg3 hb5 hv5 n5 n4 hz5 q0
  go_wp2_with fail
  go_loopw [40] (fun i wr=>∃k:Nat,i=.int .i64 k∧k≤dl∧TriB wr g5 (lastK ((zA6 (st.slaves s)).take k))∧Below g5 w5 wr) (fun i _=>dl - (intOf i).toNat)
  case atStart=>exact⟨0,by go_num,Nat.zero_le _,HT5.out,Below.refl _ _⟩
  case round=>
    clear q1 HT5;obtain⟨k,rfl,hk,htri,hbl⟩:=hrel;have HTRI:=hid htri;have HBL:=hid hbl;have n5:=N5.out;have n4:=N4.out;have hg2:=HG2.out;have hg3:=HG3.out;have hz5:g5<wr.heap.size:=zA3 htri;have hBg:B≤g5:=by omega
    by_cases hlt:k<dl
    · have hki : (k : Int) < (dl : Int) := by omega
      obtain⟨db,doff,rfl,hdB,hdcell⟩:=HDC.out (by omega);obtain⟨x,hx⟩:∃x,x=DJ.getD k default:=⟨_,rfl⟩
      have hkl:k<DJ.length:=by rw[←HDL.out];exact hlt
      have hxm:x∈DJ:=by rw[hx];exact zB5 hkl
      have hxe:DJ[k]? = some x:=by rw[hx];simp[List.getD,hkl]
      have cellx:∀j,j<5→wr.cell? ⟨db,doff+k * 5+j,none⟩=(tjRow x)[j]?:=fun j hj=>by
        rw[hbl.cell (p:=⟨db,_,none⟩) (by show db<g5;omega),HB5.out.cell (p:=⟨db,_,none⟩) (by show db<w.heap.size;omega),hdcell k hlt j hj,hx];simp[List.getD,hkl]
      have hdata:=DJ3.out x hxm;obtain⟨xa,xk,hxv,_⟩:=hdata.opened;obtain⟨⟨xw,xn,⟨xi,xc,xd⟩⟩,xv⟩:=x;simp only at hdata hxv;subst hxv;have x0:=cellx 0 (by omega);have x1:=cellx 1 (by omega);have x2:=cellx 2 (by omega);have x3:=cellx 3 (by omega);have x4:=cellx 4 (by omega);simp only[tjRow,List.getElem?_cons_zero,List.getElem?_cons_succ,Nat.add_zero]at x0 x1 x2 x3 x4;have hkey:(zA6 (st.slaves s))[k]? = some (xw,xn):=by
        unfold zA6;rw[List.getElem?_append_left (by rw[List.length_map,←HDL0.out];exact hkl),List.getElem?_map,←DJ2.out,List.getElem?_map,hxe];rfl
      obtain⟨hxw,hxlast,hxin,hxp⟩:=lastK_lt HG.out hs hkey;have hxmd:(⟨xw,xn,⟨xi,xc,xd⟩⟩:TJ)∈(st.slaves s).done:=by rw[←DJ2.out];exact List.mem_map.2 ⟨_,hxm,rfl⟩
      obtain⟨hxok,hxid⟩:=(HG.out.s s hs).dr _ hxmd;have HXOK:=hid hxok;have HXID:=hid (show c.id xw xn=xi from hxid.symm);have HTK:=hid (take_snocK hkey);have HDATA:=hid hdata;have HXL:=hid hxlast;have HXI:=hid hxin;have HXP:=hid hxp;have HXW:=hid hxw;obtain⟨xl,hxl⟩:∃l,l=xd.length:=⟨_,rfl⟩
      rw[←hxl]at x4;have HXDL:=hid hxl;clear hdcell hx hkl hxm hxe cellx hdata hkey hxlast hxin hxmd hxok hxid hxp hxl htri hbl;obtain⟨wo,hwo⟩:∃W,W=wr:=⟨_,rfl⟩
      subst hwo;clear n5 n4 hg2 hg3
      go_upto_region 9 with fail
      clear x0 x1 x2 x3 x4;have n5:=N5.out;have n4:=N4.out;have hg2:=HG2.out;have hg3:=HG3.out;obtain⟨wj,hwj⟩:∃W,W=wo.alloc (.cells #[.int .i64 (xw:Nat),.int .i64 (xn:Nat),.int .i64 xi,.int .i64 xc,.slice xa xl xk] 65):=⟨_,rfl⟩
      rw[←hwj];obtain⟨gj,hgj⟩:∃g,g=wo.heap.size:=⟨_,rfl⟩
      have hbj:Below wo.heap.size wo wj:=by rw[hwj];exact(Below.refl _ _).alloc (Nat.le_refl _) _
      have hjt:wj.heap[gj]? = some (.cells #[.int .i64 (xw:Nat),.int .i64 (xn:Nat),.int .i64 xi,.int .i64 xc,.slice xa xl xk] 65 (0,0)):=by rw[hwj];exact zA8 _ _ hgj
      rw[←hgj];have zj:=zA3 hjt;obtain⟨j0,j1,j2,j3,j4⟩:wj.cell? ⟨gj,0,none⟩=some (.int .i64 (xw:Nat))∧wj.cell? ⟨gj,1,none⟩=some (.int .i64 (xn:Nat))∧wj.cell? ⟨gj,2,none⟩=some (.int .i64 xi)∧wj.cell? ⟨gj,3,none⟩=some (.int .i64 xc)∧wj.cell? ⟨gj,4,none⟩=some (.slice xa xl xk):=by refine⟨?_,?_,?_,?_,?_⟩ <;> simp[World.cell?,hjt]
      have hgj5:gj≠g5:=by omega
      have nb5:w.heap.size≠g5:=by omega
      have n35:g3≠g5:=by omega
      have nl5:lb≠g5:=by have:=HO.out.hlb;omega
      have HBW:=hid (HBL.out.trans (hbj.mono (by omega)));obtain⟨b0,b1,b2,z1⟩:=(B15.out.below HBW.out (by omega)).cells;have hSt:=(HBW.out.block g2 (by omega)).trans B25.out;have hSn:=(B35.out.below HBW.out (by omega))
      have HTJ:=hid (HTRI.out.below hbj hz5);have HBB:=hid (HB5.out.trans (HBW.out.mono (by omega)));have hBj:B≤wj.heap.size:=by have:=hbj.size;omega
      have HF := hid (fits_any (w := wj.drew) (B := B) (g2 := g2) (g3 := g3) (pg := pg) (po := pgo) (pc := pgc) (s := s) (P := P) (st := st) (who := xw) (n := xn) HTJ.out
        (by show wj.cell? _=_;simp[World.cell?,hSt]) (by show wj.cell? _=_;exact hSn.cells.1) hBg (by omega) (by omega) pgB
        (fun t ht j hj=>by show wj.cell? _=_;rw[HBB.out.cell (p:=⟨pg,_,none⟩) (by show pg<w.heap.size;omega)];exact HPC.out t default ht j hj)
        (fun i hi=>((HC.out.o i hi).below (HBB.out.mono hB)).below (Below.refl _ _).drew) HXW.out HXL.out (HG.out.p xw HXW.out).os (HG.out.p xw HXW.out).o4 HXI.out)
      have HOJ:=hid (HO.out.below (HBB.out.mono hB));have HDJ:=hid (HDATA.out.below (HBB.out.mono hB));have HRO:=hid (fun(W:World) (hW:Below B wj W)=>rspOk_yes xa xl xk ⟨xi,xc,xd⟩ B W (by have:=(HDJ.out).below hW;rw[←HXDL.out]at this;exact this) (Nat.le_trans hBj hW.size) HXOK.out);have HBJ:=hid hbj;have HGJ:=hid hgj;have HSZ:=hid hz5;clear hwj hbj hgj hjt hSt hSn hz5 n5 n4 hg2 hg3
      go_region_held3 (fun w' => w'.cell? ⟨gj, 0, none⟩ = some (.int .i64 (xw : Nat)) ∧ w'.cell? ⟨gj, 1, none⟩ = some (.int .i64 (xn : Nat)) ∧ w'.cell? ⟨gj, 2, none⟩ = some (.int .i64 xi) ∧ w'.cell? ⟨gj, 3, none⟩ = some (.int .i64 xc) ∧ w'.cell? ⟨gj, 4, none⟩ = some (.slice xa xl xk) ∧ w'.cell? ⟨w.heap.size, 0, none⟩ = some (.slice ma mn mk) ∧ w'.cell? ⟨w.heap.size, 1, none⟩ = some (.slice (some ⟨lb, lo, none⟩) 4 lc) ∧ w'.cell? ⟨w.heap.size, 2, none⟩ = some (.slice (some ⟨pb, po, none⟩) 3 pc))
        (first|exact s8|exact s7|exact s6|go_keep)
        (first
          |(go_at_call 108;go_loud ((with_reducible refine(HF.out).mono ?_));rintro e w6 ⟨rfl,htr6,ht6⟩;have ht6':Touch g5 wj w6:=(show Touch g5 wj wj.drew from(Touch.refl _ _).drewd).trans ht6;have s6:w6.cell? ⟨gj,0,none⟩=some (.int .i64 (xw:Nat))∧w6.cell? ⟨gj,1,none⟩=some (.int .i64 (xn:Nat))∧w6.cell? ⟨gj,2,none⟩=some (.int .i64 xi)∧w6.cell? ⟨gj,3,none⟩=some (.int .i64 xc)∧w6.cell? ⟨gj,4,none⟩=some (.slice xa xl xk)∧w6.cell? ⟨w.heap.size,0,none⟩=some (.slice ma mn mk)∧w6.cell? ⟨w.heap.size,1,none⟩=some (.slice (some ⟨lb,lo,none⟩) 4 lc)∧w6.cell? ⟨w.heap.size,2,none⟩=some (.slice (some ⟨pb,po,none⟩) 3 pc):=⟨(ht6'.cell (p:=⟨gj,0,none⟩) hgj5 zj).trans j0,(ht6'.cell (p:=⟨gj,1,none⟩) hgj5 zj).trans j1,(ht6'.cell (p:=⟨gj,2,none⟩) hgj5 zj).trans j2,(ht6'.cell (p:=⟨gj,3,none⟩) hgj5 zj).trans j3,(ht6'.cell (p:=⟨gj,4,none⟩) hgj5 zj).trans j4,(ht6'.cell (p:=⟨w.heap.size,0,none⟩) nb5 z1).trans b0,(ht6'.cell (p:=⟨w.heap.size,1,none⟩) nb5 z1).trans b1,(ht6'.cell (p:=⟨w.heap.size,2,none⟩) nb5 z1).trans b2⟩;have zj6:=Nat.lt_of_lt_of_le zj ht6'.size;have z16:=Nat.lt_of_lt_of_le z1 ht6'.size;have HT6:=hid ht6';have HTR6:=hid htr6;have HG56:=hid (zA3 htr6);have HBT:=hid (ht6'.below hBg hBj);clear ht6 ht6' htr6)
          |(go_at_call 110;go_loud (with_reducible refine(HRO.out _ HBT.out).mono ?_);rintro e w7 ⟨rfl,hb7⟩;have s7:w7.cell? ⟨gj,0,none⟩=some (.int .i64 (xw:Nat))∧w7.cell? ⟨gj,1,none⟩=some (.int .i64 (xn:Nat))∧w7.cell? ⟨gj,2,none⟩=some (.int .i64 xi)∧w7.cell? ⟨gj,3,none⟩=some (.int .i64 xc)∧w7.cell? ⟨gj,4,none⟩=some (.slice xa xl xk)∧w7.cell? ⟨w.heap.size,0,none⟩=some (.slice ma mn mk)∧w7.cell? ⟨w.heap.size,1,none⟩=some (.slice (some ⟨lb,lo,none⟩) 4 lc)∧w7.cell? ⟨w.heap.size,2,none⟩=some (.slice (some ⟨pb,po,none⟩) 3 pc):=⟨(hb7.cell (p:=⟨gj,0,none⟩) zj6).trans s6.1,(hb7.cell (p:=⟨gj,1,none⟩) zj6).trans s6.2.1,(hb7.cell (p:=⟨gj,2,none⟩) zj6).trans s6.2.2.1,(hb7.cell (p:=⟨gj,3,none⟩) zj6).trans s6.2.2.2.1,(hb7.cell (p:=⟨gj,4,none⟩) zj6).trans s6.2.2.2.2.1,(hb7.cell (p:=⟨w.heap.size,0,none⟩) z16).trans s6.2.2.2.2.2.1,(hb7.cell (p:=⟨w.heap.size,1,none⟩) z16).trans s6.2.2.2.2.2.2.1,(hb7.cell (p:=⟨w.heap.size,2,none⟩) z16).trans s6.2.2.2.2.2.2.2⟩;have zj7:=Nat.lt_of_lt_of_le zj6 hb7.size;have z17:=Nat.lt_of_lt_of_le z16 hb7.size;have HB7:=hid hb7;clear hb7)
          |(go_at_call 107;go_loud (with_reducible refine(id_any hbus (B:=B) ((HOJ.out.below HBT.out).below (HB7.out.mono (Nat.le_trans hBj HT6.out.size))) (Nat.le_trans hBj (Nat.le_trans HT6.out.size HB7.out.size)) HXW.out HXP.out).mono ?_);rw[HXID.out];rintro e w8 ⟨rfl,hb8⟩;have s8:w8.cell? ⟨gj,0,none⟩=some (.int .i64 (xw:Nat))∧w8.cell? ⟨gj,1,none⟩=some (.int .i64 (xn:Nat))∧w8.cell? ⟨gj,2,none⟩=some (.int .i64 xi)∧w8.cell? ⟨gj,3,none⟩=some (.int .i64 xc)∧w8.cell? ⟨gj,4,none⟩=some (.slice xa xl xk)∧w8.cell? ⟨w.heap.size,0,none⟩=some (.slice ma mn mk)∧w8.cell? ⟨w.heap.size,1,none⟩=some (.slice (some ⟨lb,lo,none⟩) 4 lc)∧w8.cell? ⟨w.heap.size,2,none⟩=some (.slice (some ⟨pb,po,none⟩) 3 pc):=⟨(hb8.cell (p:=⟨gj,0,none⟩) zj7).trans s7.1,(hb8.cell (p:=⟨gj,1,none⟩) zj7).trans s7.2.1,(hb8.cell (p:=⟨gj,2,none⟩) zj7).trans s7.2.2.1,(hb8.cell (p:=⟨gj,3,none⟩) zj7).trans s7.2.2.2.1,(hb8.cell (p:=⟨gj,4,none⟩) zj7).trans s7.2.2.2.2.1,(hb8.cell (p:=⟨w.heap.size,0,none⟩) z17).trans s7.2.2.2.2.2.1,(hb8.cell (p:=⟨w.heap.size,1,none⟩) z17).trans s7.2.2.2.2.2.2.1,(hb8.cell (p:=⟨w.heap.size,2,none⟩) z17).trans s7.2.2.2.2.2.2.2⟩;have HB8:=hid hb8;clear hb8))
      clear s6 s7 s8
      go_wp2_with fail
      go_roundw
      case rel=>
        have n5:=N5.out;have n4:=N4.out;have hg2:=HG2.out;have hg3:=HG3.out;have hs:=HSZ.out;have h1:=HT6.out.size;have h2:=HG56.out;have h3:=HB7.out.size;have h4:=HBJ.out.size;refine⟨k+1,by go_num,by omega,?_,?_⟩
        · rw [HTK.out, lastK_snoc]
          exact(HTR6.out.below HB7.out h2).below HB8.out (by omega)
        · exact((HBW.out.trans (HT6.out.below (Nat.le_refl _) (by omega))).trans (HB7.out.mono (by omega))).trans (HB8.out.mono (by omega))
      case measure=>simp[intOf];omega
    · obtain rfl : k = dl := by omega
      have q0:=(hbl.cell (p:=⟨g4,0,none⟩) (by show g4<g5;omega)).trans Q0.out;clear n5 n4 hg2 hg3 hbl htri hz5
      go_wp2_with fail
      clear q0
      go_loopw [73] (fun i wr=>∃m:Nat,i=.int .i64 m∧m≤pl∧TriB wr g5 (lastK ((zA6 (st.slaves s)).take (k+m)))∧Below g5 w5 wr) (fun i _=>pl - (intOf i).toNat)
      case atStart=>exact⟨0,by go_num,Nat.zero_le _,HTRI.out,HBL.out⟩
      case round=>
        clear HTRI HBL;obtain⟨m,rfl,hm,htri,hbl⟩:=hrel;have HTRI:=hid htri;have HBL:=hid hbl;have n5:=N5.out;have n4:=N4.out;have hg2:=HG2.out;have hg3:=HG3.out;have hz5:g5<wr.heap.size:=zA3 htri;have hBg:B≤g5:=by omega
        by_cases hlt:m<pl
        · have hki : (m : Int) < (pl : Int) := by omega
          obtain⟨db,doff,rfl,hdB,hdcell⟩:=HJC.out (by omega);obtain⟨x,hx⟩:∃x,x=(st.slaves s).pipe.getD m default:=⟨_,rfl⟩
          have hml:m<(st.slaves s).pipe.length:=by rw[←HPL.out];exact hlt
          have hxm:x∈(st.slaves s).pipe:=by rw[hx];exact zB5 hml
          have hxe:(st.slaves s).pipe[m]? = some x:=by rw[hx];simp[List.getD,hml]
          obtain⟨x0,x1,x2⟩:=hdcell m hlt;rw[←HB5.out.cell (p:=⟨db,_,none⟩) (by show db<w.heap.size;omega),←hbl.cell (p:=⟨db,_,none⟩) (by show db<g5;omega),←hx]at x0 x1 x2;obtain⟨xw,xn,xf⟩:=x;simp only at x0 x1 x2;have hkey:(zA6 (st.slaves s))[k+m]? = some (xw,xn):=by
            unfold zA6;rw[List.getElem?_append_right (by rw[List.length_map,←HDL0.out,←HDL.out];omega),List.length_map,←HDL0.out,←HDL.out,show k+m - k=m by omega,List.getElem?_map,hxe];rfl
          obtain⟨hxw,hxlast,hxin,hxp⟩:=lastK_lt HG.out hs hkey;have hleft:(m=0→xf≤lt)∧(0<m→xf=lt):=by
            have hpl:=(HG.out.s s hs).pl;rw[←HLT.out]at hpl;rcases hp:(st.slaves s).pipe with _|⟨y,ys⟩
            · rw[hp]at hml;simp at hml
            · obtain ⟨h1, h2⟩ := hpl y ys hp
              rw[hp]at hxe;refine⟨fun e=>?_,fun e=>?_⟩
              · subst e;simp at hxe;rw[hxe]at h1;exact h1
              · obtain ⟨m', rfl⟩ : ∃ m', m = m' + 1 := ⟨m - 1, by omega⟩
                rw[List.getElem?_cons_succ]at hxe;exact h2 _ (List.mem_of_getElem? hxe)
          have HTK:=hid (take_snocK hkey);have HXL:=hid hxlast;have HXI:=hid hxin;have HXP:=hid hxp;have HXW:=hid hxw;have HLEFT:=hid hleft;clear hdcell hx hml hxm hxe hkey hxlast hxin hxp hxw hleft htri hbl n5 n4 hg2 hg3;obtain⟨wo,hwo⟩:∃W,W=wr:=⟨_,rfl⟩
          subst hwo
          go_upto_region 15 with fail
          clear x0 x1 x2;have n5:=N5.out;have n4:=N4.out;have hg2:=HG2.out;have hg3:=HG3.out;obtain⟨wj,hwj⟩:∃W,W=wo.alloc (.cells #[.int .i64 (xw:Nat),.int .i64 (xn:Nat),.int .i64 (xf:Nat)] 101):=⟨_,rfl⟩
          rw[←hwj];obtain⟨gj,hgj⟩:∃g,g=wo.heap.size:=⟨_,rfl⟩
          have hbj:Below wo.heap.size wo wj:=by rw[hwj];exact(Below.refl _ _).alloc (Nat.le_refl _) _
          have hjt:wj.heap[gj]? = some (.cells #[.int .i64 (xw:Nat),.int .i64 (xn:Nat),.int .i64 (xf:Nat)] 101 (0,0)):=by rw[hwj];exact zA8 _ _ hgj
          rw[←hgj];have zj:=zA3 hjt;obtain⟨j0,j1,j2⟩:wj.cell? ⟨gj,0,none⟩=some (.int .i64 (xw:Nat))∧wj.cell? ⟨gj,1,none⟩=some (.int .i64 (xn:Nat))∧wj.cell? ⟨gj,2,none⟩=some (.int .i64 (xf:Nat)):=by refine⟨?_,?_,?_⟩ <;> simp[World.cell?,hjt]
          have hgj5:gj≠g5:=by omega
          have nb5:w.heap.size≠g5:=by omega
          have n35:g3≠g5:=by omega
          have nl5:lb≠g5:=by have:=HO.out.hlb;omega
          have HBW:=hid (HBL.out.trans (hbj.mono (by omega)));obtain⟨b0,b1,b2,z1⟩:=(B15.out.below HBW.out (by omega)).cells;have hSt:=(HBW.out.block g2 (by omega)).trans B25.out;have hSn:=(B35.out.below HBW.out (by omega))
          obtain⟨t0,z3⟩:=hSn.cells;have HTJ:=hid (HTRI.out.below hbj hz5);have HBB:=hid (HB5.out.trans (HBW.out.mono (by omega)));have hBj:B≤wj.heap.size:=by have:=hbj.size;omega
          have lc0:wj.cell? ⟨lb,lo+s,none⟩=some (.int .i64 (lt:Nat)):=by rw[HBB.out.cell (p:=⟨lb,_,none⟩) (by have:=HO.out.hlb;show lb<w.heap.size;omega)];exact HLAT.out
          have zl:lb<wj.heap.size:=World.block_lt_of_cell? wj _ lc0
          have HF := hid (show ∀ W, TriB W g5 (lastK ((zA6 (st.slaves s)).take (k + m))) → Touch g5 wj W → Calls Tryz.prog 108 #[.int .i64 (xw : Nat), .int .i64 (xn : Nat), .pointer (some ⟨g5, 0, none⟩), .pointer (some ⟨g2, 0, none⟩), .pointer (some ⟨g3, 0, none⟩)] W (FitP g5 (lastK ((zA6 (st.slaves s)).take (k + m))) xw xn W) from fun W hW hTW => by
            have hBW:Below g5 wj W:=hTW.below (Nat.le_refl _) (by have:=hbj.size;omega)
            exact fits_any (w := W) (B := B) (g2 := g2) (g3 := g3) (pg := pg) (po := pgo) (pc := pgc) (s := s) (P := P) (st := st) (who := xw) (n := xn) hW
              (by rw[hBW.cell (p:=⟨g2,2,none⟩) (by show g2<g5;omega)];simp[World.cell?,hSt]) ((hBW.cell (p:=⟨g3,0,none⟩) (by show g3<g5;omega)).trans t0) hBg (by omega) (by omega) pgB
              (fun t ht j hj=>by rw[hBW.cell (p:=⟨pg,_,none⟩) (by show pg<g5;omega),HBB.out.cell (p:=⟨pg,_,none⟩) (by show pg<w.heap.size;omega)];exact HPC.out t default ht j hj)
              (fun i hi=>((HC.out.o i hi).below (HBB.out.mono hB)).below (hBW.mono hBg)) HXW.out HXL.out (HG.out.p xw HXW.out).os (HG.out.p xw HXW.out).o4 HXI.out)
          have HBJ:=hid hbj;have HGJ:=hid hgj;have HSZ:=hid hz5;have HREL:Hid (∀(wd:World),TriB wd g5 (upd (lastK ((zA6 (st.slaves s)).take (k+m))) xw (xn:Nat))→Touch g5 wj wd→TriB wd g5 (lastK ((zA6 (st.slaves s)).take (k+(m+1))))∧Below g5 w5 wd):=by
            refine hid fun wd h1 h2=>⟨?_,?_⟩
            · rw[←Nat.add_assoc,HTK.out,lastK_snoc];exact h1
            · exact HBW.out.trans (h2.below (Nat.le_refl _) (by have:=hbj.size;omega))
          clear hwj hbj hgj hjt hSt hSn hz5 n5 n4 hg2 hg3;rcases Nat.eq_zero_or_pos m with hm0|hm0
          · have hlf := HLEFT.out.1 hm0
            subst hm0
            have HIN := hid (show ∀ w, Calls Tryz.prog 63 #[.int .i64 (xf : Nat), .int .i64 0, .int .i64 (lt : Nat)] w fun e w' => e = .returned (.bool true) ∧ w = w' from by
              have i5:=zH2 (xf:Int) 0 (lt:Int);rw[show inB (xf:Int) 0 (lt:Int)=true by simp[inB];omega]at i5;exact i5)
            clear hlf;rw[show((0:Nat):Int)=0 from rfl];obtain⟨CC,hCC⟩:∃CC:List Value→World→Prop,CC=fun us W=>TriB W g5 (if us.length=0 then lastK ((zA6 (st.slaves s)).take (k+0)) else upd (lastK ((zA6 (st.slaves s)).take (k+0))) xw (xn:Nat))∧Touch g5 wj W:=⟨_,rfl⟩
            have hdr:Touch g5 wj wj.drew:=(Touch.refl _ _).drewd;have hC0:CC [] wj.drew:=by rw[hCC];exact⟨HTJ.out,hdr⟩
            have hTC:∀us W,CC us W→Touch g5 wj W:=by rw[hCC];exact fun us W h=>h.2
            have HC0:=hid (show ∀W,CC [] W→TriB W g5 (lastK ((zA6 (st.slaves s)).take (k+0))) by rw[hCC];exact fun W h=>h.1);have HC1:=hid (show ∀v W,TriB W g5 (upd (lastK ((zA6 (st.slaves s)).take (k+0))) xw (xn:Nat))→Touch g5 wj W→CC ([]++[v]) W by rw[hCC];exact fun v W h h2=>⟨h,h2⟩);have HC2:=hid (show ∀v W,CC ([]++[v]) W→TriB W g5 (upd (lastK ((zA6 (st.slaves s)).take (k+0))) xw (xn:Nat)) by rw[hCC];exact fun v W h=>h.1);have HTC:=hid hTC;clear hCC;have hne:Nonempty (Ph CC):=⟨⟨([],wj.drew),hC0⟩⟩
            have pc:∀{b o:Nat} {v:Value},b≠g5→wj.cell? ⟨b,o,none⟩=some v→∀x:Ph CC,x.1.2.cell? ⟨b,o,none⟩=some v:=fun hb hc x=>((hTC _ _ x.2).cell (p:=⟨_,_,none⟩) hb (World.block_lt_of_cell? wj _ hc)).trans hc
            have c0:=pc hgj5 j0;have c1:=pc hgj5 j1;have c2:=pc hgj5 j2;have c3:=pc nb5 b1;have c4:=pc n35 t0;have c5:=pc nl5 lc0;clear pc hTC hdr;refine zA9 CC [(5,true)] [] (by kernel_rfl) (by kernel_rfl) hC0 ?_
            repeat (
              (with_reducible refine wq1_q ⟨rfl,rfl⟩ (fun K hK=>?_))
              go_simp
              first
                |((with_reducible refine hK _ ?_);clear hK K)
                |((with_reducible refine zA7 (by simp[undef]) (hK _ ?_));clear hK K)
                | (apply Exists.intro
                   (with_reducible refine⟨fun _=>?_,hK _ ?_⟩)
                   (go_at_call 63;with_reducible exact callsF (HIN.out _))
                   clear hK K))
            refine wq1_x rfl (.bool true) (fun K hK=>?_);go_simp;refine hK _ ?_;clear hK K
            repeat (
              (with_reducible refine wq1_q ⟨rfl,rfl⟩ (fun K hK=>?_))
              go_simp
              first
                |((with_reducible refine hK _ ?_);clear hK K)
                |((with_reducible refine zA7 (by simp[undef]) (hK _ ?_));clear hK K)
                | (apply Exists.intro
                   (with_reducible refine⟨fun _=>?_,hK _ ?_⟩)
                   (go_at_call 63;with_reducible exact callsF (HIN.out _))
                   clear hK K))
            refine zF4 ?_;refine wq2_x _ rfl rfl ?_ ?_
            · intro W hW K hK
              go_simp
              (with_reducible refine(HF.out W (HC0.out W hW) (HTC.out _ _ hW)).mono ?_)
              rintro e w'' ⟨rfl,h1,h2⟩;go_simp;exact hK (.bool true) _ _ (HC1.out _ _ h1 ((HTC.out _ _ hW).trans h2)) rfl rfl
            intro v;refine zF3 ?_;intro wd hwd;have hd1:=HC2.out _ _ hwd;have hd2:=HTC.out _ _ hwd;clear c0 c1 c2 c3 c4 c5 hwd hC0 HC0 HC1 HC2 HTC hne;have HR:=hid (HREL.out _ hd1 hd2);clear hd1 hd2 HREL j0 j1 j2 b0 b1 b2 t0 lc0
            go_wp2_with fail
            go_roundw
            case rel=>refine⟨0+1,?_,by omega,HR.out.1,HR.out.2⟩;first|rfl|go_num
            case measure=>simp[intOf];omega
          · obtain rfl := HLEFT.out.2 hm0
            have hm1:((m:Int)==0)=false:=by simp;omega
            obtain⟨CC,hCC⟩:∃CC:List Value→World→Prop,CC=fun us W=>TriB W g5 (if us.length=0 then lastK ((zA6 (st.slaves s)).take (k+m)) else upd (lastK ((zA6 (st.slaves s)).take (k+m))) xw (xn:Nat))∧Touch g5 wj W:=⟨_,rfl⟩
            have hdr:Touch g5 wj wj.drew:=(Touch.refl _ _).drewd;have hC0:CC [] wj.drew:=by rw[hCC];exact⟨HTJ.out,hdr⟩
            have hTC:∀us W,CC us W→Touch g5 wj W:=by rw[hCC];exact fun us W h=>h.2
            have HC0:=hid (show ∀W,CC [] W→TriB W g5 (lastK ((zA6 (st.slaves s)).take (k+m))) by rw[hCC];exact fun W h=>h.1);have HC1:=hid (show ∀v W,TriB W g5 (upd (lastK ((zA6 (st.slaves s)).take (k+m))) xw (xn:Nat))→Touch g5 wj W→CC ([]++[v]) W by rw[hCC];exact fun v W h h2=>⟨h,h2⟩);have HC2:=hid (show ∀v W,CC ([]++[v]) W→TriB W g5 (upd (lastK ((zA6 (st.slaves s)).take (k+m))) xw (xn:Nat)) by rw[hCC];exact fun v W h=>h.1);have HTC:=hid hTC;clear hCC;have hne:Nonempty (Ph CC):=⟨⟨([],wj.drew),hC0⟩⟩
            have pc:∀{b o:Nat} {v:Value},b≠g5→wj.cell? ⟨b,o,none⟩=some v→∀x:Ph CC,x.1.2.cell? ⟨b,o,none⟩=some v:=fun hb hc x=>((hTC _ _ x.2).cell (p:=⟨_,_,none⟩) hb (World.block_lt_of_cell? wj _ hc)).trans hc
            have c0:=pc hgj5 j0;have c1:=pc hgj5 j1;have c2:=pc hgj5 j2;have c3:=pc nb5 b1;have c4:=pc n35 t0;have c5:=pc nl5 lc0;clear pc hTC hdr;refine zA9 CC [(5,true)] [] (by kernel_rfl) (by kernel_rfl) hC0 ?_
            repeat (
              (with_reducible refine wq1_q ⟨rfl,rfl⟩ (fun K hK=>?_))
              go_simp
              first
                |((with_reducible refine hK _ ?_);clear hK K)
                |((with_reducible refine zA7 (by simp[undef]) (hK _ ?_));clear hK K)
                | (apply Exists.intro
                   (with_reducible refine⟨fun _=>?_,hK _ ?_⟩)
                   (fail)
                   clear hK K))
            refine wq1_x rfl (.bool true) (fun K hK=>?_);go_simp;refine hK _ ?_;clear hK K
            repeat (
              (with_reducible refine wq1_q ⟨rfl,rfl⟩ (fun K hK=>?_))
              go_simp
              first
                |((with_reducible refine hK _ ?_);clear hK K)
                |((with_reducible refine zA7 (by simp[undef]) (hK _ ?_));clear hK K)
                | (apply Exists.intro
                   (with_reducible refine⟨fun _=>?_,hK _ ?_⟩)
                   (fail)
                   clear hK K))
            refine zF4 ?_;refine wq2_x _ rfl rfl ?_ ?_
            · intro W hW K hK
              go_simp
              (with_reducible refine(HF.out W (HC0.out W hW) (HTC.out _ _ hW)).mono ?_)
              rintro e w'' ⟨rfl,h1,h2⟩;go_simp;exact hK (.bool true) _ _ (HC1.out _ _ h1 ((HTC.out _ _ hW).trans h2)) rfl rfl
            intro v;refine zF3 ?_;intro wd hwd;have hd1:=HC2.out _ _ hwd;have hd2:=HTC.out _ _ hwd;clear c0 c1 c2 c3 c4 c5 hwd hC0 HC0 HC1 HC2 HTC hne;have HR:=hid (HREL.out _ hd1 hd2);clear hd1 hd2 HREL j0 j1 j2 b0 b1 b2 t0 lc0
            go_wp2_with fail
            go_roundw
            case rel=>refine⟨m+1,?_,by omega,HR.out.1,HR.out.2⟩;first|go_num|rfl
            case measure=>simp[intOf];omega
        · have hki : decide ((m : Int) < (pl : Int)) = false := by rw [decide_eq_false_iff_not]; omega
          go_wp2_with fail
          go_ret
          exact⟨rfl,HB5.out.trans (HBL.out.mono (by omega))⟩
def AbsP (st : Cy) (w : World) (e : Ending) (w' : World) : Prop := ∃ (y0 y1 y2 y3 y4 y5 : Value) (wj dj : List TJ), wj.Perm (waits st) ∧ wj.Pairwise kLe ∧ dj.Perm (dones st) ∧ dj.Pairwise kLe ∧ e = .returned (.agg #[y0, y1, y2, y3, y4, y5]) ∧
 Ints w' w'.heap.size y0 st.ws∧Ints w' w'.heap.size y1 st.hs∧Nats w' w'.heap.size y2 (nexts st 3)∧JobsV w' w'.heap.size y3 wj∧JobsV w' w'.heap.size y4 dj∧JobsV w' w'.heap.size y5 st.told∧Below w.heap.size w w'
set_option maxRecDepth 8000 in
theorem cycAbs_any {c : Cfg} {w : World} {B : Nat} {a0 a1 a2 a3 a4 : Value} {st : Cy} {P : List PS} {Q : List SS} (h : CyV w B a0 a1 a2 a3 a4 st P Q) (hB : B ≤ w.heap.size) (hg : Good c st) (hsm : SmallC st) :
  Calls Tryz.prog 37 #[.agg #[a0,a1,a2,a3,a4]] w (AbsP st w):=by
 obtain⟨pg,pgo,pgc,rfl,pc1,pc2,pgB,hpc⟩:=h.ps.at (by rw[h.lp];omega)
 obtain⟨tg,tp,tc,rfl,tc1,tc2,tgB,htc⟩:=h.ss.at (by rw[h.lq];omega)
 obtain⟨ya,yn,yb,rfl⟩:∃a n c,a0=.slice a n c:=by obtain⟨a,c,e,_⟩:=h.ws.1;exact⟨a,_,c,e⟩
 obtain⟨za,zn,zb,rfl⟩:∃a n c,a1=.slice a n c:=by obtain⟨a,c,e,_⟩:=h.hs.1;exact⟨a,_,c,e⟩
 obtain⟨ua,un,ub,rfl⟩:∃a n c,a4=.slice a n c:=by obtain⟨D,⟨a,c,e,_⟩,_⟩:=h.told;exact⟨a,_,c,e⟩
 rw[h.lp]at h pc1 hpc ⊢;rw[h.lq]at h tc1 htc ⊢;have HC:=hid h;have HG:=hid hg;have HSM:=hid hsm;have HPC:=hid hpc;have HTC:=hid htc;obtain⟨w2,hw2⟩:∃W,W=((w.alloc (.cells #[.slice ya yn yb,.slice za zn zb,.slice (some ⟨pg,pgo,none⟩) 3 pgc,.slice (some ⟨tg,tp,none⟩) 4 tc,.slice ua un ub] 39)).alloc (.cells #[.slice none 0 0,.slice none 0 0,.slice none 0 0,.slice none 0 0,.slice none 0 0,.slice none 0 0] 77)).alloc (.cells #[.slice ya yn yb,.slice za zn zb,.slice none 0 0,.slice none 0 0,.slice none 0 0,.slice ua un ub] 77):=⟨_,rfl⟩
 have hb2:Below w.heap.size w w2:=by rw[hw2];exact(((Below.refl _ _).alloc (Nat.le_refl _) _).alloc (by simp) _).alloc (by simp;omega) _
 have hz2:w2.heap.size=w.heap.size+3:=by rw[hw2];simp
 obtain⟨gX,hgX⟩:∃g,g=w.heap.size+1+1:=⟨_,rfl⟩
 obtain⟨gR,hgR⟩:∃g,g=w.heap.size+1:=⟨_,rfl⟩
 have HM := hid (show AbM w2 w2 gX (.slice ya yn yb) (.slice za zn zb) (.slice ua un ub) (.slice none 0 0) (.slice none 0 0) (.slice none 0 0) (nexts st 0) ((qWs st 0).map rowW) [] from
  ⟨by rw[hw2];exact zA8 _ _ (by rw[hgX];simp),Owns.zero,Owns.zero,Owns.zero,fun k hk=>by simp[Value.ownBlock]at hk,Below.refl _ _⟩)
 have HSR := hid (show w2.heap[w.heap.size]? = some (.cells #[.slice ya yn yb, .slice za zn zb, .slice (some ⟨pg, pgo, none⟩) 3 pgc, .slice (some ⟨tg, tp, none⟩) 4 tc, .slice ua un ub] 39 (0, 0)) by
  rw[hw2,((Below.refl _ _).alloc (Nat.le_refl _) _).block _ (by simp;omega),((Below.refl _ _).alloc (Nat.le_refl _) _).block _ (by simp)];exact zA8 _ _ rfl)
 have HRS := hid (show w2.heap[gR]? = some (.cells #[.slice none 0 0, .slice none 0 0, .slice none 0 0, .slice none 0 0, .slice none 0 0, .slice none 0 0] 77 (0, 0)) by
  rw[hw2,((Below.refl _ _).alloc (Nat.le_refl _) _).block _ (by rw[hgR];simp)];exact zA8 _ _ (by rw[hgR];simp))
 have HB2:=hid hb2;have HZ2:=hid hz2;obtain⟨s1,s2⟩:w2.cell? ⟨w.heap.size,1,none⟩=w2.cell? ⟨w.heap.size,1,none⟩∧w2.cell? ⟨w.heap.size,2,none⟩=some (.slice (some ⟨pg,pgo,none⟩) 3 pgc):=⟨rfl,by simp[World.cell?,HSR.out]⟩
 clear h hg hsm hpc htc hb2 hz2 s1
 go_enter Tryz.func37,Tryz.ntmps37
 go_upto_region 2 with fail
 rw[←hw2,←hgX,←hgR];have HGX:=hid hgX;have HGR:=hid hgR;clear hw2 hgX hgR
 go_wp2_with fail
 clear s2
 go_loopw [20] (fun i wr=>∃k:Nat,i=.int .i64 k∧k≤3∧∃va vw W,AbM w2 wr gX (.slice ya yn yb) (.slice za zn zb) (.slice ua un ub) va vw (.slice none 0 0) (nexts st k) W []∧W=(qWs st k).map rowW) (fun i _=>3 - (intOf i).toNat)
 case atStart=>exact⟨0,by go_num,Nat.zero_le _,_,_,_,HM.out,rfl⟩
 case round=>
  clear HM;obtain⟨k,rfl,hk,va,vw,W,hm,hW⟩:=hrel;have HM:=hid hm;have HWE:=hid hW;have hgX:=HGX.out;have hgR:=HGR.out;have hz2:=HZ2.out;have hXz:=hm.cells.2.2;by_cases hlt:k<3
  ·have hki:(k:Int)<3:=by omega
   have hold:∀b,b<B→∀o,wr.cell? ⟨b,o,none⟩=w.cell? ⟨b,o,none⟩:=fun b hb o=>by
    rw[hm.bl.cell (p:=⟨b,o,none⟩) (by show b<gX;omega),HB2.out.cell (p:=⟨b,o,none⟩) (by show b<w.heap.size;omega)]
   have hp5:∀j,j<4→wr.cell? ⟨pg,pgo+k * 4+j,none⟩=(rowPS (P.getD k default))[j]?:=fun j hj=>by rw[hold pg pgB];exact HPC.out k default hlt j hj
   have hpn:=(HC.out.pn k hlt).1;have hq:=HC.out.q k hlt;obtain⟨x,hx⟩:∃x,x=P.getD k default:=⟨_,rfl⟩
   rw[←hx]at hp5 hpn hq;obtain⟨nx,⟨qa,qn,qc⟩,⟨oa,on,oc⟩,la⟩:=x;have p0:=hp5 0 (by omega);have p1:=hp5 1 (by omega);have p2:=hp5 2 (by omega);have p3:=hp5 3 (by omega);simp only[rowPS,sl,List.getElem?_cons_zero,List.getElem?_cons_succ,Nat.add_zero]at p0 p1 p2 p3;simp only[sl]at hq hpn;obtain⟨ql,hql⟩:∃l,l=(st.ports k).queue.length:=⟨_,rfl⟩
   obtain⟨ao,cp,e,hqc1,hqc2,_,_,hqcell⟩:=hq;simp only[Value.slice.injEq,List.length_map]at e hqc1 hqcell;obtain⟨rfl,rfl,rfl⟩:=e;rw[←hql]at p1 hqc1 hqcell;have HQC:=hid hqcell;have HQL:=hid hql;have HPN:=hid hpn;clear hp5 hx hqcell hql hpn hm hW hgX hgR hz2 hXz hold
   go_upto_region 5 with fail
   clear p0 p1 p2 p3;obtain⟨W3,hW3⟩:∃W,W=wr.alloc (.cells #[.int .i64 (nx:Nat),.slice qa ql qc,.slice oa on oc,.int .i64 (la:Nat)] 48):=⟨_,rfl⟩
   obtain⟨gp,hgp⟩:∃g,g=wr.heap.size:=⟨_,rfl⟩
   rw[←hW3,←hgp];have hb3:Below wr.heap.size wr W3:=by rw[hW3];exact(Below.refl _ _).alloc (Nat.le_refl _) _
   have hpt:W3.heap[gp]? = some (.cells #[.int .i64 (nx:Nat),.slice qa ql qc,.slice oa on oc,.int .i64 (la:Nat)] 48 (0,0)):=by rw[hW3];exact zA8 _ _ hgp
   have zp:=zA3 hpt;have n0:W3.cell? ⟨gp,0,none⟩=some (.int .i64 (nx:Nat)):=by simp[World.cell?,hpt]
   have HPT:=hid hpt;have HM3:=hid (HM.out.below hb3);have hgpo:va.ownBlock≠some gp:=fun e=>by have:=(OwnR.lt HM.out.oa gp e).2;omega
   have hgpX:gp≠gX:=by have:=HM.out.cells.2.2;omega
   have HGPO:=hid hgpo;have HGPX:=hid hgpX;obtain⟨⟨x0,x1,x2,x3,x4,x5⟩,xf,xz⟩:=HM3.out.cells;obtain⟨va1,va2,hvs,_,_⟩:=HM3.out.oa.shape;rw[show(nexts st k).length=k by simp[nexts]]at hvs;subst hvs;have HXF:=hid xf;have HLK:=hid (show(nexts st k).length=k by simp[nexts]);have HL2:=hid (show(nexts st k++[nx]).length=k+1 by simp[nexts]);clear hW3 hb3 hpt hgpo hgpX xf;have hgp':=hid hgp;clear hgp
   go_upto_region 6 with(at_builtin;go_must (refine zC4 elem_int rowN (fun _=>rfl) nx (rowN_one _) W3 rfl _ _ rfl (gX+1) _ _ (by rfl) HM3.out.oa _ (by rfl) (by rfl) (by rw[HLK.out];omega) (by rw[HLK.out];omega) (by have:=HM3.out.cells.2.2;omega) ?_);intro vn wn ho hsz hkeep hnew hbb;obtain⟨na,nc,hnv,_,_⟩:=ho.shape;rw[HL2.out]at hnv;subst hnv;have HO:=hid ho;have HBB:=hid hbb;have HON:=hid (show OneB _ _ W3 wn from⟨hsz,hkeep,fun k hk=>by rcases hnew with h1|⟨k2,h1,h2⟩;(· exact .inl (h1▸hk));(· rw[h2]at hk;cases hk;exact .inr h1)⟩);have HKP:=hid hkeep;have HSZ:=hid hsz;clear ho hsz hkeep hnew hbb;have x2:=(show wn.cell? ⟨gX,2,none⟩=_ from by have:=HKP.out gX HM3.out.cells.2.2 (AbM.gap HM3.out.oa);simp[World.cell?,this,HM3.out.box];rfl);have f2:wn.frozen? ⟨gX,2,none⟩=false:=(by have:=HKP.out gX HM3.out.cells.2.2 (AbM.gap HM3.out.oa);simp[World.frozen?,this,HM3.out.box]))
   clear x0 x1 x2 x3 x4 x5;have HM4:=hid (HM3.out.setA HO.out HON.out HBB.out);obtain⟨w4,hw4⟩:∃W,W=wn.setCell ⟨gX,2,none⟩ (.slice na (k+1) nc):=⟨_,rfl⟩
   rw[←hw4]at HM4;rw[←hw4];have m1:w4.cell? ⟨gp,1,none⟩=some (.slice qa ql qc):=by
    rw[hw4,World.cell?_setCell_far _ _ _ _ (by show gX≠gp;exact Ne.symm HGPX.out)];have:=HKP.out gp zp HGPO.out;simp[World.cell?,this,HPT.out]
   clear hw4
   go_wp2_with fail
   clear m1 f2 x2
   go_loopw [35] (fun i wr=>∃m:Nat,i=.int .i64 m∧m≤ql∧∃va vw W,AbM w2 wr gX (.slice ya yn yb) (.slice za zn zb) (.slice ua un ub) va vw (.slice none 0 0) (nexts st (k+1)) W []∧W=(qWs st k++(qW st k).take m).map rowW) (fun i _=>ql - (intOf i).toNat)
   case atStart=>exact⟨0,by go_num,Nat.zero_le _,_,_,W,by rw[nexts_succ,←HPN.out];exact HM4.out,by rw[HWE.out];simp⟩
   case round=>
    clear HM HM3 HM4 HO HBB HON HKP HSZ HPT HGPO HGPX HWE hgp' HLK HL2 HXF zp;obtain⟨m,rfl,hm,va,vw,W,hM,hW⟩:=hrel;have HM:=hid hM;have HWE:=hid hW;by_cases hlt2:m<ql
    ·have hmi:(m:Int)<(ql:Int):=by omega
     obtain⟨qb,qo,rfl,hqB,hqcell⟩:=HQC.out (by omega);have hgX:=HGX.out;have hml:m<(st.ports k).queue.length:=by rw[←HQL.out];exact hlt2
     obtain⟨n,hn⟩:∃n,n=(st.ports k).queue.getD m 0:=⟨_,rfl⟩
     have qk:wr.cell? ⟨qb,qo+m,none⟩=some (.int .i64 (n:Nat)):=by
      rw[hM.bl.cell (p:=⟨qb,_,none⟩) (by show qb<gX;omega),HB2.out.cell (p:=⟨qb,_,none⟩) (by show qb<w.heap.size;omega)];have:=hqcell m hlt2 0 (by omega);simp only[Nat.mul_one,Nat.add_zero]at this;rw[this,hn];simp[List.getD,hml,rowN]
     have HN:=hid hn
     have HTK := hid (show (qW st k).take (m + 1) = (qW st k).take m ++ [⟨k, n, noRsp⟩] by
      rw[List.take_add_one];have:(qW st k)[m]? = some ⟨k,n,noRsp⟩:=by unfold qW;rw[List.getElem?_map,List.getElem?_eq_getElem hml,hn];simp[List.getD,hml]
      rw[this];rfl)
     have HLW := hid (show W.length ≤ 20 by
      have h1:=qWs_len HG.out (k:=k) (by omega);have h2:(qW st k).length≤2:=by unfold qW;rw[List.length_map];exact(HG.out.p k hlt).q2
      rw[HWE.out];simp only[List.length_map,List.length_append,List.length_take];omega)
     obtain⟨⟨x0,x1,x2,x3,x4,x5⟩,xf,xz⟩:=hM.cells;obtain⟨vw1,vw2,hvs,_,_⟩:=hM.ow.shape;subst hvs;clear hM hW hqcell hn hgX hml x0 x1 x2 x4 x5 xf;obtain⟨wo,hwo⟩:∃W,W=wr:=⟨_,rfl⟩
     subst hwo
     go_wp2_with (at_builtin;go_must (refine zC4 elem_tj rowA (fun _=>rfl) (rowW ⟨k,n,noRsp⟩) (rowA_one _) wo rfl _ _ rfl (gX+1) _ _ (by rfl) HM.out.ow _ (by rfl) (by rfl) (by have:=HLW.out;omega) (by have:=HLW.out;omega) (by have:=HM.out.cells.2.2;omega) ?_);intro vn wn ho hsz hkeep hnew hbb;obtain⟨na,nc,hnv,_,_⟩:=ho.shape;rw[List.length_append,List.length_singleton]at hnv;subst hnv;have HO:=hid ho;have HBB:=hid hbb;have HON:=hid (show OneB _ _ wo wn from⟨hsz,hkeep,fun k hk=>by rcases hnew with h1|⟨k2,h1,h2⟩;(· exact .inl (h1▸hk));(· rw[h2]at hk;cases hk;exact .inr h1)⟩);have HKP:=hid hkeep;clear ho hsz hkeep hnew hbb;have x3:=(show wn.cell? ⟨gX,3,none⟩=_ from by have:=HKP.out gX HM.out.cells.2.2 (AbM.gap HM.out.ow);simp[World.cell?,this,HM.out.box];rfl);have f3:wn.frozen? ⟨gX,3,none⟩=false:=(by have:=HKP.out gX HM.out.cells.2.2 (AbM.gap HM.out.ow);simp[World.frozen?,this,HM.out.box]))
     have HM5:=hid (HM.out.setW HO.out HON.out HBB.out);obtain⟨w5,hw5⟩:∃W', W' = wn.setCell ⟨gX,3,none⟩ (.slice na (W.length+1) nc):=⟨_,rfl⟩
     rw[←hw5]at HM5;rw[←hw5];clear hw5
     go_roundw
     case rel=>exact⟨m+1,by go_num,by omega,_,_,_,HM5.out,by rw[HWE.out,HTK.out];simp[rowW]⟩
     case measure=>simp[intOf];omega
    ·obtain rfl:m=ql:=by omega
     go_wp2_with fail
     go_roundw
     case rel=>exact⟨k+1,by go_num,by omega,va,vw,W,HM.out,by rw[HWE.out,qWs_succ,List.take_of_length_le (by unfold qW;rw[List.length_map,←HQL.out];exact Nat.le_refl _)]⟩
     case measure=>simp[intOf];omega
  ·obtain rfl:k=3:=by omega
   rw[show(((3:Nat)):Int)=(3:Int) from rfl];have s2:wr.cell? ⟨w.heap.size,3,none⟩=some (.slice (some ⟨tg,tp,none⟩) 4 tc):=by
    rw[hm.bl.cell (p:=⟨w.heap.size,3,none⟩) (by show w.heap.size<gX;omega)];have:=HSR.out;simp[World.cell?,this]
   clear hm hW hgX hgR hz2
   go_wp2_with fail
   clear s2
   go_loopw [52] (fun i wr=>∃k:Nat,i=.int .i64 k∧k≤4∧∃va vw vd W D,AbM w2 wr gX (.slice ya yn yb) (.slice za zn zb) (.slice ua un ub) va vw vd (nexts st 3) W D∧W=(qWs st 3++pWs st k).map rowW∧D.map (·.1)=dWs st k∧∀x∈D,Ints w B (toA x).2 x.1.rsp.data) (fun i _=>4 - (intOf i).toNat)
   case atStart=>exact⟨0,by go_num,Nat.zero_le _,va,vw,_,W,[],HM.out,by rw[HWE.out];simp[pWs],rfl,fun x hx=>by cases hx⟩
   case round=>
    clear HM HWE;obtain⟨k,rfl,hk,va,vw,vd,W,D,hM,hW,hD,hDI⟩:=hrel;have HM:=hid hM;have HWE:=hid hW;have HDE:=hid hD;have HDI:=hid hDI;have hgX:=HGX.out;have hgR:=HGR.out;have hz2:=HZ2.out;have hXz:=hM.cells.2.2;by_cases hlt:k<4
    ·have hki:(k:Int)<4:=by omega
     have hold:∀b,b<B→∀o,wr.cell? ⟨b,o,none⟩=w.cell? ⟨b,o,none⟩:=fun b hb o=>by
      rw[hM.bl.cell (p:=⟨b,o,none⟩) (by show b<gX;omega),HB2.out.cell (p:=⟨b,o,none⟩) (by show b<w.heap.size;omega)]
     have hp5:∀j,j<3→wr.cell? ⟨tg,tp+k * 3+j,none⟩=(rowSS (Q.getD k default))[j]?:=fun j hj=>by rw[hold tg tgB];exact HTC.out k default hlt j hj
     have hpv:=HC.out.p k hlt;obtain⟨DJ,dj1,dj2,dj3⟩:=HC.out.d k hlt;obtain⟨x,hx⟩:∃x,x=Q.getD k default:=⟨_,rfl⟩
     rw[←hx]at hp5 hpv dj1;obtain⟨⟨qa,qn,qc⟩,⟨da,dn,dc⟩,la⟩:=x;have p0:=hp5 0 (by omega);have p1:=hp5 1 (by omega);have p2:=hp5 2 (by omega);simp only[rowSS,sl,List.getElem?_cons_zero,List.getElem?_cons_succ,Nat.add_zero]at p0 p1 p2;simp only[sl]at hpv dj1;obtain⟨ao,cp,e,hqc1,hqc2,_,_,hqcell⟩:=hpv.opened;simp only[Value.slice.injEq]at e;obtain⟨rfl,rfl,rfl⟩:=e;obtain⟨pl,hpl⟩:∃x,x=(st.slaves k).pipe.length:=⟨_,rfl⟩
     rw[←hpl]at p0 hqc1 hqcell;obtain⟨AD,hAD⟩:=exA DJ fun x hx=>by obtain⟨ao,cap,e,_⟩:=(dj3 x hx).1;exact⟨_,_,_,e⟩
     subst hAD;rw[List.map_map]at dj1 dj2;have hdn:dn=AD.length:=by obtain⟨_,_,e,_⟩:=dj1;simp only[Value.slice.injEq,List.length_map]at e;exact e.2.1
     subst hdn;obtain⟨dl,hdl⟩:∃x,x=AD.length:=⟨_,rfl⟩
     rw[←hdl]at p1 dj1;have HQC:=hid hqcell;have HPL:=hid hpl;have HDL:=hid hdl;have HAR:=hid (show Arr w B 5 (.slice da dl dc) (AD.map rowA) from dj1);have HDJ2:=hid (show AD.map (·.1)=(st.slaves k).done from dj2);have HDJ3:=hid (show ∀x∈AD,Ints w B (toA x).2 x.1.rsp.data from fun x hx=>dj3 (toA x) (List.mem_map.2 ⟨x,hx,rfl⟩));clear hp5 hx hqcell hpl hdl dj1 dj2 dj3 hM hW hD hDI hgX hgR hz2 hXz hold hpv
     go_upto_region 15 with fail
     clear p0 p1 p2;obtain⟨W3,hW3⟩:∃W,W=wr.alloc (.cells #[.slice qa pl qc,.slice da dl dc,.int .i64 (la:Nat)] 94):=⟨_,rfl⟩
     obtain⟨gv,hgv⟩:∃g,g=wr.heap.size:=⟨_,rfl⟩
     rw[←hW3,←hgv];have hb3:Below wr.heap.size wr W3:=by rw[hW3];exact(Below.refl _ _).alloc (Nat.le_refl _) _
     have hpt:W3.heap[gv]? = some (.cells #[.slice qa pl qc,.slice da dl dc,.int .i64 (la:Nat)] 94 (0,0)):=by rw[hW3];exact zA8 _ _ hgv
     have n0:W3.cell? ⟨gv,0,none⟩=some (.slice qa pl qc):=by simp[World.cell?,hpt]
     have HPT:=hid hpt;have HM3:=hid (HM.out.below hb3);have HGV:=hid (show vw.ownBlock≠some gv from fun e=>by have:=(OwnR.lt HM.out.ow gv e).2;omega);have HGD:=hid (show vd.ownBlock≠some gv from fun e=>by have:=(OwnR.lt HM.out.od gv e).2;omega);have HGVX:=hid (show gv≠gX by have:=HM.out.cells.2.2;omega);clear hW3 hb3 hpt hgv
     go_wp2_with fail
     clear n0
     go_loopw [59] (fun i wr=>∃m:Nat,i=.int .i64 m∧m≤pl∧∃vw W,AbM w2 wr gX (.slice ya yn yb) (.slice za zn zb) (.slice ua un ub) va vw vd (nexts st 3) W D∧W=(qWs st 3++(pWs st k++(pW st k).take m)).map rowW∧wr.heap[gv]? = some (.cells #[.slice qa pl qc,.slice da dl dc,.int .i64 (la:Nat)] 94 (0,0))∧vw.ownBlock≠some gv) (fun i _=>pl - (intOf i).toNat)
     case atStart=>exact⟨0,by go_num,Nat.zero_le _,_,W,HM3.out,by rw[HWE.out];simp,HPT.out,HGV.out⟩
     case round=>
      clear HM HM3 HWE HPT HGV;obtain⟨m,rfl,hm,vw,W,hM,hW,hgv,hvg⟩:=hrel;have HM:=hid hM;have HWE:=hid hW;have HGV:=hid hgv;have HVG:=hid hvg;by_cases hlt2:m<pl
      ·have hmi:(m:Int)<(pl:Int):=by omega
       obtain⟨qb,qo,rfl,hqB,hqcell⟩:=HQC.out (by omega);have hgX:=HGX.out;have hml:m<(st.slaves k).pipe.length:=by rw[←HPL.out];exact hlt2
       obtain⟨y,hy⟩:∃y,y=(st.slaves k).pipe.getD m default:=⟨_,rfl⟩
       obtain⟨k0,k1,k2⟩:=hqcell m hlt2;rw[←HB2.out.cell (p:=⟨qb,_,none⟩) (by show qb<w.heap.size;omega),←hM.bl.cell (p:=⟨qb,_,none⟩) (by show qb<gX;omega),←hy]at k0 k1 k2;obtain⟨yw,yn', yf⟩:=y;simp only at k0 k1 k2
       have HTK := hid (show (pW st k).take (m + 1) = (pW st k).take m ++ [⟨yw, yn', noRsp⟩] by
        rw[List.take_add_one];have:(pW st k)[m]? = some ⟨yw,yn', noRsp⟩:=by
         unfold pW;rw[List.getElem?_map,List.getElem?_eq_getElem hml];have:(st.slaves k).pipe[m]=⟨yw,yn', yf⟩:=by rw[hy];simp[List.getD,hml]
         rw[this];rfl
        rw[this];rfl)
       have HLW := hid (show W.length ≤ 40 by
        have h1:=qWs_len HG.out (k:=3) (by omega);have h3:=pWs_len HG.out (k:=k) (by omega);have h2:(pW st k).length≤2:=by unfold pW;rw[List.length_map];exact(HG.out.s k hlt).p2
        rw[HWE.out];simp only[List.length_map,List.length_append,List.length_take];omega)
       have hXz:=hM.cells.2.2;clear hM hW hqcell hy hgX hml hgv hvg
       go_upto_region 18 with fail
       clear k0 k1 k2;obtain⟨W4,hW4⟩:∃W,W=wr.alloc (.cells #[.int .i64 (yw:Nat),.int .i64 (yn':Nat),.int .i64 (yf:Nat)] 101):=⟨_,rfl⟩
       obtain⟨gj,hgj⟩:∃g,g=wr.heap.size:=⟨_,rfl⟩
       rw[←hW4,←hgj];have hb4:Below wr.heap.size wr W4:=by rw[hW4];exact(Below.refl _ _).alloc (Nat.le_refl _) _
       have hjt:W4.heap[gj]? = some (.cells #[.int .i64 (yw:Nat),.int .i64 (yn':Nat),.int .i64 (yf:Nat)] 101 (0,0)):=by rw[hW4];exact zA8 _ _ hgj
       obtain⟨j0,j1⟩:W4.cell? ⟨gj,0,none⟩=some (.int .i64 (yw:Nat))∧W4.cell? ⟨gj,1,none⟩=some (.int .i64 (yn':Nat)):=by refine⟨?_,?_⟩ <;> simp[World.cell?,hjt]
       have zj:=zA3 hjt;have HM4:=hid (HM.out.below hb4);have HGV4:=hid ((hb4.block gv (zA3 HGV.out)).trans HGV.out);obtain⟨⟨x0,x1,x2,x3,x4,x5⟩,xf,xz⟩:=HM4.out.cells;obtain⟨vw1,vw2,hvs,_,_⟩:=HM4.out.ow.shape;subst hvs;clear hW4 hb4 hjt hgj x0 x1 x2 x4 x5 xf
       go_wp2_with (at_builtin;go_must (refine zC4 elem_tj rowA (fun _=>rfl) (rowW ⟨yw,yn', noRsp⟩) (rowA_one _) W4 rfl _ _ rfl (gX+1) _ _ (by rfl) HM4.out.ow _ (by rfl) (by rfl) (by have:=HLW.out;omega) (by have:=HLW.out;omega) (by have:=HM4.out.cells.2.2;omega) ?_);intro vn wn ho hsz hkeep hnew hbb;obtain⟨na,nc,hnv,_,_⟩:=ho.shape;rw[List.length_append,List.length_singleton]at hnv;subst hnv;have HO:=hid ho;have HBB:=hid hbb;have HON:=hid (show OneB _ _ W4 wn from⟨hsz,hkeep,fun k hk=>by rcases hnew with h1|⟨k2,h1,h2⟩;(· exact .inl (h1▸hk));(· rw[h2]at hk;cases hk;exact .inr h1)⟩);have HKP:=hid hkeep;clear ho hsz hkeep hnew hbb;have x3:=(show wn.cell? ⟨gX,3,none⟩=_ from by have:=HKP.out gX HM4.out.cells.2.2 (AbM.gap HM4.out.ow);simp[World.cell?,this,HM4.out.box];rfl);have f3:wn.frozen? ⟨gX,3,none⟩=false:=(by have:=HKP.out gX HM4.out.cells.2.2 (AbM.gap HM4.out.ow);simp[World.frozen?,this,HM4.out.box]))
       have HM5:=hid (HM4.out.setW HO.out HON.out HBB.out);have HGV5:=hid (show(wn.setCell ⟨gX,3,none⟩ (.slice na (W.length+1) nc)).heap[gv]? = _ from((Below.heap_setCell _ _ _ _ (show gv≠gX from HGVX.out)).trans (HKP.out gv (zA3 HGV4.out) HVG.out)).trans HGV4.out)
       have HVG5 := hid (show (Value.slice na (W.length + 1) nc).ownBlock ≠ some gv from fun e => by
        rcases HON.out.2.2 gv e with h1|h1
        ·exact HVG.out h1
        ·have:=zA3 HGV4.out;omega)
       obtain⟨w5,hw5⟩:∃W', W' = wn.setCell ⟨gX,3,none⟩ (.slice na (W.length+1) nc):=⟨_,rfl⟩
       rw[←hw5]at HM5 HGV5;rw[←hw5];clear hw5
       go_roundw
       case rel=>exact⟨m+1,by go_num,by omega,_,_,HM5.out,by rw[HWE.out,HTK.out];simp[rowW],HGV5.out,HVG5.out⟩
       case measure=>simp[intOf];omega
      ·obtain rfl:m=pl:=by omega
       have HWE2:=hid (show W=(qWs st 3++pWs st (k+1)).map rowW by rw[HWE.out,pWs_succ,List.take_of_length_le (by unfold pW;rw[List.length_map,←HPL.out];exact Nat.le_refl _)]);obtain⟨⟨x0,x1,x2,x3,x4,x5⟩,xf,xz⟩:=hM.cells;obtain⟨vd1,vd2,hvs,_,_⟩:=hM.od.shape;subst hvs;have v1:wr.cell? ⟨gv,1,none⟩=some (.slice da dl dc):=by simp[World.cell?,hgv]
       have zgv:=zA3 hgv;have hgX:=HGX.out;have HARR:=hid (show Arr wr B 5 (.slice da dl dc) (AD.map rowA) from(HAR.out.below (HB2.out.mono hB)).below (hM.bl.mono (by omega)))
       have HLD := hid (show D.length + AD.length ≤ 40 by
        have h1:=dWs_len HG.out (k:=k) (by omega);have h2:=(HG.out.s k hlt).d2;have h3:D.length=(dWs st k).length:=by rw[←HDE.out,List.length_map]
        have h4:AD.length=(st.slaves k).done.length:=by rw[←HDJ2.out,List.length_map]
        omega)
       clear hM hW hgv hvg x0 x1 x2 x3 x5 xf hgX;obtain⟨wo,hwo⟩:∃W,W=wr:=⟨_,rfl⟩
       subst hwo
       go_wp2_with (at_builtin;go_must (refine wpList_catL elem_tj rowA (fun _=>rfl) _ rfl _ _ rfl (gX+1) _ _ (by rfl) HM.out.od (.slice da dl dc) AD B (by rfl) HARR.out (fun y _=>rowA_one y) (by have:=HLD.out;omega) (by have:=HLD.out;omega) (by have:=HM.out.cells.2.2;omega) ?_);intro vn wn ho hbb hkeep hnew;obtain⟨na,nc,hnv,_,_⟩:=ho.shape;rw[List.length_append]at hnv;subst hnv;have HO:=hid ho;have HBB:=hid hbb;have HON:=hid (show OneB _ _ wo wn from⟨hbb.size,fun b hb hne=>hkeep b hb (fun e=>hne e.symm),hnew⟩);clear ho hbb hnew;have x4:=(show wn.cell? ⟨gX,4,none⟩=_ from by have:=HON.out.2.1 gX HM.out.cells.2.2 (AbM.gap HM.out.od);simp[World.cell?,this,HM.out.box];rfl);have f4:wn.frozen? ⟨gX,4,none⟩=false:=(by have:=HON.out.2.1 gX HM.out.cells.2.2 (AbM.gap HM.out.od);simp[World.frozen?,this,HM.out.box]);clear hkeep)
       have HM5:=hid (HM.out.setD HO.out HON.out HBB.out);obtain⟨w5,hw5⟩:∃W', W' = wn.setCell ⟨gX,4,none⟩ (.slice na (D.length+AD.length) nc):=⟨_,rfl⟩
       rw[←hw5]at HM5;rw[←hw5];clear hw5
       go_roundw
       case rel=>
        refine⟨k+1,by go_num,by omega,va,vw,_,W,D++AD,HM5.out,HWE2.out,?_,fun x hx=>?_⟩
        ·rw[List.map_append,HDE.out,HDJ2.out,dWs_succ]
        ·rcases List.mem_append.1 hx with h1|h1
         ·exact HDI.out x h1
         ·exact HDJ3.out x h1
       case measure=>simp[intOf];omega
    ·obtain rfl:k=4:=by omega
     rw[show(((4:Nat)):Int)=(4:Int) from rfl];clear hgX hgR hz2 hXz hW hD hDI;obtain⟨⟨x0,x1,x2,x3,x4,x5⟩,xf,xz⟩:=hM.cells;obtain⟨vw1,vw2,hvs,_,_⟩:=hM.ow.shape;obtain⟨vd1,vd2,hvs2,_,_⟩:=hM.od.shape;obtain⟨va1,va2,hvs3,_,_⟩:=hM.oa.shape;rw[show(nexts st 3).length=3 by simp[nexts]]at hvs3;subst hvs hvs2 hvs3
     have HLW := hid (show W.length ≤ 19 by
      have h1:=qWs_len HG.out (k:=3) (by omega);have h3:=pWs_len HG.out (k:=4) (by omega);rw[HWE.out];simp only[List.length_map,List.length_append];omega)
     have HLD := hid (show D.length ≤ 19 by
      have h1:=dWs_len HG.out (k:=4) (by omega);have h3:D.length=(dWs st 4).length:=by rw[←HDE.out,List.length_map]
      omega)
     clear hM x0 x1 x2 x4 x5 xf;obtain⟨wo,hwo⟩:∃W,W=wr:=⟨_,rfl⟩
     subst hwo
     go_upto_region 23 with(go_at_call 74;go_loud ((with_reducible refine(sortJobs_any HM.out.ow HLW.out).mono ?_));rintro e w5 ⟨rfl,ho5,hg5⟩;have HM5:=hid (HM.out.sortW ho5 hg5);clear ho5 hg5;have x4:=HM5.out.cells.1.2.2.2.2.1)
     clear x3
     go_upto_region 24 with(go_at_call 74;go_loud ((with_reducible refine(sortJobs_any HM5.out.od HLD.out).mono ?_));rintro e w6 ⟨rfl,ho6,hg6⟩;have HM6:=hid (HM5.out.sortD ho6 hg6);clear ho6 hg6;obtain⟨y0,y1,y2,y3,y4,y5⟩:=HM6.out.cells.1)
     clear x4;have hgX:=HGX.out;have hgR:=HGR.out;have hz2:=HZ2.out;have hXz:=HM6.out.cells.2.2;have hB6:B≤w6.heap.size:=by omega
     have HBW:=hid (show Below B w w6 from(HB2.out.mono hB).trans (HM6.out.bl.mono (by omega)));obtain⟨wj,hwj⟩:∃l,l=(zL5 aLt W).map (·.1):=⟨_,rfl⟩
     obtain⟨dj,hdj⟩:∃l,l=(zL5 aLt D).map (·.1):=⟨_,rfl⟩
     have hWl:(zL5 aLt W).length=W.length:=(zF2 aLt W).length_eq;have hDl:(zL5 aLt D).length=D.length:=(zF2 aLt D).length_eq
     have HJ3 := hid (show JobsV w6 w6.heap.size (.slice vw1 W.length vw2) wj from ⟨(zL5 aLt W).map toA, by
       have:=Owns.arr HM6.out.ow zD8 (by have:=HLW.out;omega);rw[List.map_map];exact this,by rw[hwj,List.map_map];rfl,fun x hx=>by
       obtain⟨a,ha,rfl⟩:=List.mem_map.1 hx;have ha2:=(zF2 aLt W).mem_iff.1 ha;rw[HWE.out]at ha2;obtain⟨j,hj,rfl⟩:=List.mem_map.1 ha2
       rw [show (toA (rowW j)).1.rsp.data = [] from by
        have:j.rsp=noRsp:=waits_none st j (by unfold waits;exact hj);show j.rsp.data=[];rw[this];rfl]
       exact(IntsD.nil w6 (fun b=>b<w6.heap.size)).to fun _ h=>h⟩)
     have HJ4 := hid (show JobsV w6 w6.heap.size (.slice vd1 D.length vd2) dj from ⟨(zL5 aLt D).map toA, by
       have:=Owns.arr HM6.out.od zD8 (by have:=HLD.out;omega);rw[List.map_map];exact this,by rw[hdj,List.map_map];rfl,fun x hx=>by
       obtain⟨a,ha,rfl⟩:=List.mem_map.1 hx;exact((HDI.out a ((zF2 aLt D).mem_iff.1 ha)).below HBW.out).mono hB6⟩)
     have HJ5:=hid (show JobsV w6 w6.heap.size (.slice ua un ub) st.told from(HC.out.told.below HBW.out).mono hB6);have HN2:=hid (show Nats w6 w6.heap.size (.slice va1 3 va2) (nexts st 3) from Owns.arr HM6.out.oa (fun _=>rfl) (by simp[nexts]));have HI0:=hid ((HC.out.ws.below HBW.out).mono hB6);have HI1:=hid ((HC.out.hs.below HBW.out).mono hB6)
     have HPW := hid (show wj.Perm (waits st) ∧ wj.Pairwise kLe from ⟨by
       have h1:=(zF2 aLt W).map (fun x:TJA=>x.1);rw[←hwj,HWE.out,List.map_map]at h1;have h2:(qWs st 3++pWs st 4).map ((fun x:TJA=>x.1) ∘ rowW)=waits st:=by unfold waits;exact List.map_id' _
       rw[h2]at h1;exact h1,by rw[hwj,List.pairwise_map];exact sorted_sorted ordA W⟩)
     have HPD := hid (show dj.Perm (dones st) ∧ dj.Pairwise kLe from ⟨by
       have h1:=(zF2 aLt D).map (fun x:TJA=>x.1);rw[←hdj,HDE.out]at h1;exact h1,by rw[hdj,List.pairwise_map];exact sorted_sorted ordA D⟩)
     have HS3 := hid (show ShortJ wj from ⟨by rw [HPW.out.1.length_eq]; have := qWs_len HG.out (k := 3) (by omega); have := pWs_len HG.out (k := 4) (by omega); simp only [waits, List.length_append]; omega, fun j hj => by
       rw[waits_none st j (HPW.out.1.mem_iff.1 hj)];simp[noRsp]⟩)
     have HS4 := hid (show ShortJ dj from ⟨by rw [HPD.out.1.length_eq]; have := dWs_len HG.out (k := 4) (by omega); simp only [dones]; omega, fun j hj => by
       obtain⟨s,hs,hj2⟩:=dones_mem (HPD.out.1.mem_iff.1 hj);exact(HSM.out.d s hs).2 j hj2⟩)
     have HS5:=hid (show ShortJ st.told from HSM.out.told)
     have HRR := hid (show Bx w6 gR [vnil, vnil, vnil, vnil, vnil, vnil] from by
      have hh:=(HM6.out.bl.block gR (by omega)).trans HRS.out;exact⟨fun j hj=>by simp[World.cell?,hh],fun j hj=>by simp[World.frozen?,hh],by simp⟩)
     have hRz:gR<w6.heap.size:=by omega
     have HBF:=hid (HB2.out.trans (HM6.out.bl.mono (by omega)));have hRw:w.heap.size≤gR:=by omega
     clear hgX hgR hz2 hwj hdj hWl hDl
     go_wp2_with (go_at_call 76;go_loud ((with_reducible refine(tlmCopy_any HI0.out HI1.out HN2.out HJ3.out HJ4.out HJ5.out (Nat.le_refl _) HSM.out.ws HSM.out.hs (by simp[nexts]) HS3.out HS4.out HS5.out).mono ?_));rintro e w7 ⟨z0,z1,z2,z3,z4,z5,rfl,i0,i1,i2,i3,i4,i5,hb7⟩;obtain⟨c0,d0,e0,rfl⟩:=intsD_sl i0;obtain⟨c1,d1,e1,rfl⟩:=intsD_sl i1;obtain⟨c2,d2,e2,rfl⟩:=arrD_sl i2;obtain⟨c3,d3,e3,rfl⟩:=zI0 i3;obtain⟨c4,d4,e4,rfl⟩:=zI0 i4;obtain⟨c5,d5,e5,rfl⟩:=zI0 i5;obtain⟨⟨r0,r1,r2,r3,r4,r5⟩,f0,f1,f2,f3,f4,f5⟩:=(HRR.out.below hb7 hRz).six;have I0:=hid i0;have I1:=hid i1;have I2:=hid i2;have I3:=hid i3;have I4:=hid i4;have I5:=hid i5;have HB7:=hid hb7;clear i0 i1 i2 i3 i4 i5 hb7 y0 y1 y2 y3 y4 y5)
     have ht:=touch6 gR w7 (.slice c0 d0 e0) (.slice c1 d1 e1) (.slice c2 d2 e2) (.slice c3 d3 e3) (.slice c4 d4 e4) (.slice c5 d5 e5);refine bodyPost_ret (zB0 Tryz.results37 _ _ ⟨gR,0,none⟩ (.agg #[.slice c0 d0 e0,.slice c1 d1 e1,.slice c2 d2 e2,.slice c3 d3 e3,.slice c4 d4 e4,.slice c5 d5 e5]) rfl (loadVar_tlm _ _ _ _ _ _ _ _ (by simp[go_sem, *]) (by simp[go_sem, *]) (by simp[go_sem, *]) (by simp[go_sem, *]) (by simp[go_sem, *]) (by simp[go_sem, *]))) rfl ?_;exact⟨_,_,_,_,_,_,wj,dj,HPW.out.1,HPW.out.2,HPD.out.1,HPD.out.2,rfl,(I0.out.tcB ht hRz).to fun _ h=>h.2,(I1.out.tcB ht hRz).to fun _ h=>h.2,(I2.out.tcB ht hRz).to fun _ h=>h.2,(I3.out.tcB ht hRz).to,(I4.out.tcB ht hRz).to,(I5.out.tcB ht hRz).to,(HBF.out.trans (HB7.out.mono (by have:=HBF.out.size;omega))).trans (ht.below hRw (by have:=HBF.out.size;have:=HB7.out.size;omega))⟩
end Go.Proofs.YtgkdoehkmbhfiaaGreat
