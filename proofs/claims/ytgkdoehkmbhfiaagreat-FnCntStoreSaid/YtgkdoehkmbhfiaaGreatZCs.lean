/- For every code the law FnCntStore returns true, and its argument reads behind the call as it read before. -/
import Derived.Test.YtgkdoehkmbhfiaaGreatGOn0
import Derived.Test.YtgkdoehkmbhfiaaGreatGRow
import Derived.Test.YtgkdoehkmbhfiaaGreatGLb
set_option linter.unusedVariables false
set_option linter.unusedSimpArgs false
set_option maxHeartbeats 16000000
namespace Go.Proofs.YtgkdoehkmbhfiaaGreat
open Go.RowKit
theorem mk4w (w:World):(Instr.makeSlice 24 (.int .i64 4) (.int .i64 4)).run Tryz.prog w=.ok (.slice (some ⟨w.heap.size,0,none⟩) 4 4) (w.alloc (.cells #[.int .i64 0,.int .i64 0,.int .i64 0,.int .i64 0] 3)):=by kernel_rfl
attribute [local go_sem] mk4w
def fourV (f:Nat→Nat):List Value:=[.int .i64 (f 0:Nat),.int .i64 (f 1:Nat),.int .i64 (f 2:Nat),.int .i64 (f 3:Nat)]
theorem fourV_at (f:Nat→Nat) {s:Nat} (hs:s<4):(fourV f)[s]? = some (.int .i64 (f s:Nat)):=by
 obtain rfl|rfl|rfl|rfl:s=0∨s=1∨s=2∨s=3:=by omega
 all_goals rfl
theorem fourV_set {f f':Nat→Nat} {s x:Nat} (hs:s<4) (h:∀i,f' i=if i=s then x else f i):(fourV f).set s (.int .i64 (x:Nat))=fourV f':=by
 obtain rfl|rfl|rfl|rfl:s=0∨s=1∨s=2∨s=3:=by omega
 all_goals simp[fourV,h]
theorem four_ints {w:World} {g:Nat} {f:Nat→Nat} {l:Nat→Nat} (h:Bx w g (fourV f)) (he:∀s,s<4→f s=l s) (hb:∀s,s<4→f s≤1000):Ints w w.heap.size (.slice (some ⟨g,0,none⟩) 4 4) ((List.range 4).map fun j=>((l j:Nat):Int)):=by
 refine⟨⟨some ⟨g,0,none⟩,4,by simp,by simp,by omega,by simp,(fun h=>nomatch h),fun _=>⟨g,0,rfl,h.lt,fun t ht j hj=>?_⟩⟩,fun x hx=>?_⟩
 ·have ht4:t<4:=by simpa using ht
  obtain rfl:j=0:=by omega
  have:=h.c t (by simpa[fourV]using ht4);rw[fourV_at _ ht4]at this;rw[Nat.mul_one,Nat.zero_add,Nat.add_zero,this,he t ht4];simp[List.getD,ht4,rowI]
 ·simp only[List.mem_map,List.mem_range]at hx;obtain⟨j,hj,rfl⟩:=hx;have:=hb j hj;rw[he j hj]at this;simp only[I64];omega
theorem askS_le (c : Cfg) (w s : Nat) : ∀ k, askS c w s k ≤ k
 |0=>Nat.le_refl _
 |k+1=>by have:=askS_le c w s k;simp only[askS];split <;> omega
theorem askW_le {c : Cfg} (hb : Bus c) (s : Nat) : ∀ k, k ≤ 3 → askW c s k ≤ 12 * k
 |0,_=>Nat.le_refl _
 |k+1,hk=>by have h1:=askW_le hb s k (by omega);have h2:=askS_le c k s (c.prog k).length;have h3:=hb.twelve (w:=k) (by omega);simp only[askW];omega
set_option maxRecDepth 8000 in
theorem cntstore_any (hdraw : DrawPl) (v : Value) (bs : List Nat) (B : Nat) (w : World) (h : Bytes w B v bs) (hB : B ≤ w.heap.size) :
    Calls Tryz.prog 6 #[v] w fun e w' => e=.returned (.bool true)∧Below w.heap.size w w':=by
  obtain⟨ao,cap,rfl,hlc,hcap,hln,hni,hr⟩:=h.opened;clear hr;by_cases hbig:(1048576:Int)<(bs.length:Int)
  · go_enter Tryz.func6, Tryz.ntmps6
    go_wp2_with fail
    go_ret
    exact⟨rfl,Below.refl _ _⟩
  · go_enter Tryz.func6, Tryz.ntmps6
    go_wp2_with fail
    refine(hdraw _ bs B w h hB).mono ?_;rintro e w1 ⟨u,iv,c,ins,rfl,hbus,hbv,hins,hil,hb1⟩;obtain⟨mv,lb,lo,lc,pb,po,pc,QQ,K,rfl,⟨ma,mn,mk,rfl⟩,_,_,hpb,_,hpc,_⟩:=hbv.opened hbus;have HPB:=hid hpb;have HPC:=hid hpc;clear hpb hpc;obtain⟨ia,ic,rfl,ic1,ic2,ic3,_,_⟩:=hins.opened;have HBV:=hid hbv;have HB1:=hid hb1;clear hbv hins hb1 h hil
    go_upto_region 4 with fail
    obtain⟨w2,hw2⟩:∃W,W=w1.alloc (.cells #[.slice ma mn mk,.slice (some ⟨lb,lo,none⟩) 4 lc,.slice (some ⟨pb,po,none⟩) 3 pc] 27):=⟨_,rfl⟩
    obtain⟨gb,hgb⟩:∃g,g=w1.heap.size:=⟨_,rfl⟩
    have X0:=hid (show Bx w2 gb [.slice ma mn mk,.slice (some ⟨lb,lo,none⟩) 4 lc,.slice (some ⟨pb,po,none⟩) 3 pc] by rw[hw2,hgb];exact Bx.new w1 #[.slice ma mn mk,.slice (some ⟨lb,lo,none⟩) 4 lc,.slice (some ⟨pb,po,none⟩) 3 pc] 27 (by simp));have HB2:=hid (show Below w1.heap.size w1 w2 by rw[hw2];exact(Below.refl _ _).alloc (Nat.le_refl _) _);rw[←hw2,←hgb];clear hw2 hgb
    go_upto_region 5 with fail
    obtain⟨w3,hw3⟩:∃W,W=w2.alloc (.cells #[] 45):=⟨_,rfl⟩
    have HA0:=hid (show AllIn w3 w2.heap.size (.slice (some ⟨w2.heap.size,0,none⟩) 0 0) 0 by rw[hw3];exact⟨[],Owns.lit (Nat.le_refl _),rfl,by simp⟩);have HB23:=hid (show Below w2.heap.size w2 w3 by rw[hw3];exact(Below.refl _ _).alloc (Nat.le_refl _) _);rw[←hw3];clear hw3
    go_wp2_with fail
    go_loopw [5,6] (fun s i wr=>∃k:Nat,i=.int .i64 k∧k≤300∧AllIn wr w2.heap.size s k∧Below w2.heap.size w2 wr) (fun _ i _=>300 - (intOf i).toNat)
    case atStart=>exact⟨0,by go_num,by omega,HA0.out,HB23.out⟩
    case round=>
      clear HA0 HB23;obtain⟨k,rfl,hk,ha,hbr⟩:=hrel;have HBR:=hid hbr;by_cases hlt:k<300
      · have hki : (k : Int) < 300 := by omega
        obtain⟨xs,ho,hxl,hxs⟩:=ha;have HO:=hid ho;have HXL:=hid hxl;have HXS:=hid hxs;have h2r:w2.heap.size≤wr.heap.size:=hbr.size;clear ho hxl hxs hbr
        go_wp2_with (first
          |(go_at_call 22;(with_reducible refine(implInAllG_any _).mono ?_);rintro e wi ⟨g1,g2,g3,rfl,hig,_,hbi⟩;have HIG:=hid hig;have HBI:=hid hbi;have HOI:=hid (HO.out.below hbi);have h2i:w2.heap.size≤wi.heap.size:=Nat.le_trans h2r hbi.size;clear hig hbi)
          |(at_builtin;go_must (refine zB9 elem_in rowX rowX_len ((inAll,g1,g2,g3):InX) (rowX_one _) wi rfl _ _ rfl w2.heap.size _ xs (by rfl) HOI.out _ (by rfl) (by rfl) (by rw[HXL.out];omega) (by rw[HXL.out];omega) (by omega) ?_);intro v' w7 ho7 hz7 hk7 hv7 hb7;have HA7:=hid (AllIn.snoc h2r HO.out HXL.out HXS.out HBI.out HIG.out ho7 hz7 hk7 hv7);have HB7:=hid hb7;clear ho7 hz7 hk7 hv7 hb7))
        go_roundw
        case rel=>exact⟨k+1,by go_num,by omega,HA7.out,(HBR.out.trans (HBI.out.mono h2r)).trans HB7.out⟩
        case measure=>simp[intOf];omega
      · obtain rfl : k = 300 := by omega
        rw[show(((300:Nat)):Int)=(300:Int) from rfl];obtain⟨ins,hie⟩:∃x,x=List.replicate 300 inAll:=⟨_,rfl⟩
        have HIN:=hid hie;have HIL:=hid (show ins.length=300 by rw[hie];simp);have hins:Ins wr wr.heap.size u5 ins:=by rw[hie];exact ha.ins (by omega)
        have hbvr:=(HBV.out.below (HB2.out.trans (hbr.mono HB2.out.size))).mono (Nat.le_trans HB2.out.size hbr.size);have HBVR:=hid hbvr;have HCN:=hid (cntRun_any hbus hbvr hins (Nat.le_refl _) (by rw[HIL.out];omega));obtain⟨b0,b1,b2⟩:=(X0.out.below hbr X0.out.lt).three.1;clear hins hbvr hbr ha hie
        go_upto_region 10 with(go_at_call 24;go_loud ((with_reducible refine(HCN.out).mono ?_));rintro e w5 ⟨G,rfl,hsix,hb5,hcl,_⟩;have HSIX:=hid hsix;have HB5:=hid hb5;have HCL:=hid hcl;clear hsix hb5 hcl b0 b1 b2)
        have HCO := hid (show CnOk c 300 (runC c ins cy0) (cntR c ins cy0 cn0) from by
          have h:=cnOk_run hbus ins (zK5 c) (cnOk_zero c)
          rwa [Nat.zero_add,HIL.out]at h)
        have HLAW:=hid (show ∀s,s<4→(cntR c ins cy0 cn0).lt s=askW c s 3∧(cntR c ins cy0 cn0).done s=askW c s 3 from fun s hs=>by rw[HIN.out];exact store_law hbus (fun w n=>slvC_lt4 hbus w n) hs);obtain⟨n,hn⟩:∃n,n=cntR c ins cy0 cn0:=⟨_,rfl⟩
        rw[←hn]at HSIX HCL HCO HCN HLAW;rw[←hn,HCO.out.cy];clear hn;obtain⟨w6,hw6⟩:∃W,W=w5.alloc (.cells #[.int .i64 (300:Nat),.slice (some ⟨G 0,0,none⟩) 3 3,.slice (some ⟨G 1,0,none⟩) 3 3,.slice (some ⟨G 2,0,none⟩) 3 3,.slice (some ⟨G 3,0,none⟩) 4 4,.slice (some ⟨G 4,0,none⟩) 4 4,.slice (some ⟨G 5,0,none⟩) 4 4] 70):=⟨_,rfl⟩
        obtain⟨gc,hgc⟩:∃g,g=w5.heap.size:=⟨_,rfl⟩
        have hb6:Below w5.heap.size w5 w6:=by rw[hw6];exact(Below.refl _ _).alloc (Nat.le_refl _) _
        have XC:=hid (show Bx w6 gc [.int .i64 (300:Nat),.slice (some ⟨G 0,0,none⟩) 3 3,.slice (some ⟨G 1,0,none⟩) 3 3,.slice (some ⟨G 2,0,none⟩) 3 3,.slice (some ⟨G 3,0,none⟩) 4 4,.slice (some ⟨G 4,0,none⟩) 4 4,.slice (some ⟨G 5,0,none⟩) 4 4] by rw[hw6,hgc];exact Bx.new w5 #[.int .i64 (300:Nat),.slice (some ⟨G 0,0,none⟩) 3 3,.slice (some ⟨G 1,0,none⟩) 3 3,.slice (some ⟨G 2,0,none⟩) 3 3,.slice (some ⟨G 3,0,none⟩) 4 4,.slice (some ⟨G 4,0,none⟩) 4 4,.slice (some ⟨G 5,0,none⟩) 4 4] 70 (by simp));have HSIX6:=hid ((HSIX.out.below hb6).mono hb6.size);have HBR6:=hid (show Below wr.heap.size wr w6 from HB5.out.trans (hb6.mono HB5.out.size));have HOK:=hid (implCntOk_any (300:Int) _ _ _ _ _ _ _ _ _ _ _ _ w6.heap.size w6 HSIX6.out (Nat.le_refl _));rw[show cntOk (300:Int) (cnI n 0) (cnI n 1) (cnI n 2) (cnI n 3) (cnI n 4) (cnI n 5)=true from by have h:=cntOk_of HCO.out (by omega);rw[HCO.out.cy]at h;exact h]at HOK;rw[←hw6,←hgc];clear hw6 hgc hb6 HSIX HCN HCL HB5;obtain⟨⟨q0,q1,q2,q3,q4,q5,q6⟩,_⟩:=XC.out.seven
        go_upto_region 12 with(go_at_call 25;go_loud ((with_reducible refine(HOK.out).mono ?_));rintro e w7 ⟨rfl,hb7⟩;have HB7:=hid hb7;clear hb7 q0 q1 q2 q3 q4 q5 q6)
        go_upto_region 13 with fail
        obtain⟨w8,hw8⟩:∃W,W=w7.alloc (.cells #[.int .i64 0,.int .i64 0,.int .i64 0,.int .i64 0] 3):=⟨_,rfl⟩
        obtain⟨gw,hgw⟩:∃g,g=w7.heap.size:=⟨_,rfl⟩
        have hb8:Below w7.heap.size w7 w8:=by rw[hw8];exact(Below.refl _ _).alloc (Nat.le_refl _) _
        have XW:=hid (show Bx w8 gw (fourV fun s=>askW c s 0) by rw[hw8,hgw];exact Bx.new w7 #[.int .i64 0,.int .i64 0,.int .i64 0,.int .i64 0] 3 (by simp));have HB78:=hid (show Below gw w7 w8 by rw[hgw];exact hb8);have HGW:=hid hgw;have HB27:=hid (show Below w2.heap.size w2 w7 from HBR.out.trans ((HBR6.out.trans (HB7.out.mono HBR6.out.size)).mono HBR.out.size));have X7:=hid (X0.out.below HB27.out X0.out.lt);have HBV7:=hid ((HBV.out.below (HB2.out.trans (HB27.out.mono HB2.out.size))).mono (Nat.le_trans HB2.out.size HB27.out.size));rw[←hw8,←hgw];clear hw8 hgw hb8;obtain⟨mv', lb', lo', lc', pb', po', pc', QQ', K', hE,_,hmaps,_,_,_,hprc,hrq⟩:=HBV7.out.opened hbus;simp only[Value.agg.injEq,Array.mk.injEq,List.cons.injEq,Value.slice.injEq,Option.some.injEq,Addr.mk.injEq,and_true,true_and]at hE;obtain⟨rfl,⟨⟨rfl,rfl⟩,rfl⟩,⟨rfl,rfl⟩,rfl⟩:=hE;have HPRC:=hid hprc;have HRQ:=hid hrq;have HMP:=hid hmaps;have KC:=hid (show ∀W,Below gw w7 W→∀{p:Addr} {v:Value},w7.cell? p=some v→W.cell? p=some v from fun W hW {p v} hc=>(hW.cell (by have:=World.block_lt_of_cell? w7 _ hc;have:=HGW.out;omega)).trans hc);clear hprc hrq hmaps
        go_wp2_with fail
        go_loopw [9] (fun i wr=>∃k:Nat,i=.int .i64 k∧k≤3∧Bx wr gw (fourV fun s=>askW c s k)∧Below gw w7 wr) (fun i _=>3 - (intOf i).toNat)
        case atStart=>exact⟨0,by go_num,by omega,XW.out,HB78.out⟩
        case round=>
          clear XW HB78;obtain⟨k,rfl,hk,hx,hbr⟩:=hrel;have HX:=hid hx;have HBW:=hid hbr;obtain⟨wo,hwo⟩:∃W,W=wr:=⟨_,rfl⟩
          subst hwo;obtain⟨b0,b1,b2⟩:=X7.out.three.1;replace b0:=KC.out wo hbr b0;replace b1:=KC.out wo hbr b1;replace b2:=KC.out wo hbr b2;clear hx hbr;by_cases hlt:k<3
          · have hki : (k : Int) < 3 := by omega
            have h12:=hbus.twelve hlt
            go_wp2_with fail
            obtain⟨pl,hpl⟩:∃x,x=(c.prog k).length:=⟨_,rfl⟩
            have HPL:=hid hpl;rw[←hpl]at h12;clear hpl b0 b1 b2
            go_loopw [10] (fun i wr=>∃j:Nat,i=.int .i64 j∧j≤pl∧Bx wr gw (fourV fun s=>askW c s k+askS c k s j)∧Below gw w7 wr) (fun i _=>pl - (intOf i).toNat)
            case atStart=>exact⟨0,by go_num,Nat.zero_le _,HX.out,HBW.out⟩
            case round=>
              clear HX HBW;obtain⟨j,rfl,hj,hx,hbr⟩:=hrel;have HX:=hid hx;have HBW:=hid hbr;obtain⟨wp,hwp⟩:∃W,W=wr:=⟨_,rfl⟩
              subst hwp;obtain⟨b0,b1,b2⟩:=X7.out.three.1;have p0:=HPRC.out k hlt;have hrq:=HRQ.out k hlt;obtain⟨qa,qc,he,_,_,_,_,hq⟩:=hrq.opened;simp only[Value.slice.injEq]at he;obtain⟨he1,_,he3⟩:=he;rw[he1,he3,←HPL.out]at p0;replace b0:=KC.out wp hbr b0;replace b1:=KC.out wp hbr b1;replace b2:=KC.out wp hbr b2;replace p0:=KC.out wp hbr p0;clear hx hbr he1 he3;by_cases hlt2:j<pl
              · have hji : (j : Int) < (pl : Int) := by omega
                have hjl:j<(c.prog k).length:=by rw[←HPL.out];exact hlt2
                obtain⟨qb,qo,rfl,hqB,hqr⟩:=hq (by omega);obtain⟨da,dc,la,lc2,hrv,r0,r1,r2,r3,r4,r5,r6⟩:=hqr j hjl;have hgsz:=HGW.out;have HSV:=hid (fun(W:World) (hW:Below wp.heap.size wp W)=>reqSlave_nat hbus hlt hjl (implReqSlave_any _ _ c.ms ((c.prog k).getD j default) _ W (HMP.out.below (hgsz▸(HBW.out.trans (hW.mono (Nat.le_of_lt HX.out.lt))))) (hrv.below (hgsz▸(HBW.out.trans (hW.mono (Nat.le_of_lt HX.out.lt))))) (by have:=HBW.out.size;have:=hW.size;omega)));obtain⟨rqv,hrqe⟩:∃x,x=(c.prog k).getD j default:=⟨_,rfl⟩
                rw[←hrqe]at HSV r0 r1 r2 r3 r4 r5 r6;replace r0:=KC.out wp HBW.out r0;replace r1:=KC.out wp HBW.out r1;replace r2:=KC.out wp HBW.out r2;replace r3:=KC.out wp HBW.out r3;replace r4:=KC.out wp HBW.out r4;replace r5:=KC.out wp HBW.out r5;replace r6:=KC.out wp HBW.out r6;have hs4:=slvC_lt4 hbus k j;obtain⟨sv,hsve⟩:∃x,x=c.slv k j:=⟨_,rfl⟩
                rw[←hsve]at HSV hs4;have HSE:=hid hsve;have HS4:=hid hs4;clear hrv hrqe hsve hq hqr hqB hs4 hgsz hjl
                go_upto_region 19 with fail
                obtain⟨CC,hCC⟩:∃CC:List Value→World→Prop,CC=fun us W=>Below wp.heap.size wp W:=⟨_,rfl⟩
                have hC0:CC [] wp.drew:=by rw[hCC];exact(Below.refl _ _).drew
                have hTC:∀us W,CC us W→Below wp.heap.size wp W:=by rw[hCC];exact fun us W h=>h
                have HTC:=hid hTC;have HCL:=hid (show ∀us W W', CC us W→Below W.heap.size W W' → CC us W' by rw[hCC];exact fun us W W' h h2=>h.trans (h2.mono h.size));have hne:Nonempty (Ph CC):=⟨⟨([],wp.drew),hC0⟩⟩
                have pc:∀{p:Addr} {v:Value},wp.cell? p=some v→∀x:Ph CC,x.1.2.cell? p=some v:=fun hc x=>((hTC _ _ x.2).cell (World.block_lt_of_cell? wp _ hc)).trans hc
                replace b0:=pc b0;replace b1:=pc b1;replace b2:=pc b2;replace p0:=pc p0;replace r0:=pc r0;replace r1:=pc r1;replace r2:=pc r2;replace r3:=pc r3;replace r4:=pc r4;replace r5:=pc r5;replace r6:=pc r6;clear hCC hTC pc;refine zC3 CC [] [] (by kernel_rfl) (by kernel_rfl) hC0 ?_
                try simp only[List.append_eq,List.cons_append,List.nil_append]
                repeat (
                  (with_reducible refine wq1_q ⟨rfl,rfl⟩ (fun K hK=>?_))
                  go_simp
                  first
                    |((with_reducible refine hK _ ?_);clear hK K)
                    |((with_reducible refine zB4 (by simp[undef]) (hK _ ?_));clear hK K)
                    | (apply Exists.intro
                       (with_reducible refine⟨fun _=>?_,hK _ ?_⟩)
                       (go_at_call 13;rename_i x;exact(HSV.out _ (HTC.out _ _ x.2)).mono fun _ _ ⟨he,hb⟩=>⟨he,HCL.out _ _ _ x.2 hb⟩)
                       clear hK K))
                refine zL1 ?_;refine zL0 ?_;intro wz hwz;have HBZ:=hid (HTC.out _ _ hwz);clear hwz hC0 HTC HCL hne b0 b1 b2 p0 r0 r1 r2 r3 r4 r5 r6;obtain⟨wq,hwq⟩:∃W,W=wz:=⟨_,rfl⟩
                subst hwq;have HX9:=hid (HX.out.below HBZ.out HX.out.lt);have HB9:=hid (HBW.out.trans (HBZ.out.mono (Nat.le_of_lt HX.out.lt)));have c9:=HX9.out.c sv (by simpa[fourV]using HS4.out);rw[fourV_at _ HS4.out]at c9;have f9:=HX9.out.f sv (by simpa[fourV]using HS4.out);have hsi:(sv:Int)<4:=by have:=HS4.out;omega
                obtain⟨x,hx⟩:∃x,x=askW c sv k+askS c k sv j:=⟨_,rfl⟩
                have hx48:x≤48:=by rw[hx];have:=askW_le hbus sv k (by omega);have:=askS_le c k sv j;omega
                have HXE:=hid hx;rw[←hx]at c9;obtain⟨y,hy⟩:∃y,y=x+1:=⟨_,rfl⟩
                have ew:IntKind.i64.wrap ((x:Int)+1)=(y:Int):=by rw[IntKind.wrap_i64];omega
                have HYE:=hid hy;clear hx hx48 hy
                go_wp2_with fail
                go_roundw
                case rel => exact ⟨j + 1, by go_num, by omega, by
                  have h:=HX9.out.set sv (by simpa[fourV]using HS4.out) (.int .i64 (y:Nat))
                  rwa [fourV_set (f' := fun s => askW c s k + askS c k s (j + 1)) HS4.out fun i => by
                    simp only[askS];by_cases hi:i=sv
                    · subst hi;rw[if_pos rfl,if_pos HSE.out.symm,HYE.out,HXE.out];omega
                    · rw[if_neg hi,if_neg (fun e=>hi (by rw[HSE.out,e])),Nat.add_zero]]at h,HB9.out.setCell (p:=⟨gw,_,none⟩) (Nat.le_refl _) _⟩
                case measure=>simp[intOf];omega
              · obtain rfl : j = pl := by omega
                have hjj:decide ((j:Int)<(j:Int))=false:=by simp
                have HXN := hid (show Bx wp gw (fourV fun s => askW c s (k + 1)) from by
                  have h:=HX.out;rw[HPL.out]at h;exact h)
                clear hq
                go_wp2_with fail
                go_roundw
                case rel=>exact⟨k+1,by go_num,by omega,HXN.out,HBW.out⟩
                case measure=>simp[intOf];omega
          · obtain rfl : k = 3 := by omega
            rw[show(((3:Nat)):Int)=(3:Int) from rfl]
            have HWI := hid (fun (i : Nat) (hi : i = 3 ∨ i = 4) => show Ints wo wo.heap.size (.slice (some ⟨gw, 0, none⟩) 4 4) (cnI n i) from by
              rcases hi with rfl|rfl
              · exact four_ints HX.out (fun s hs=>((HLAW.out s hs).1).symm) fun s hs=>by have:=askW_le hbus s 3 (by omega);omega
              · exact four_ints HX.out (fun s hs=>((HLAW.out s hs).2).symm) fun s hs=>by have:=askW_le hbus s 3 (by omega);omega)
            have hb6o:Below w6.heap.size w6 wo:=(HB7.out.trans (HBW.out.mono (by have:=HB7.out.size;have:=HGW.out;omega)))
            have HB6O:=hid hb6o;obtain⟨⟨q0,q1,q2,q3,q4,q5,q6⟩,_⟩:=(XC.out.below hb6o XC.out.lt).seven;have HS6:=hid (SixI.mono (HSIX6.out.below hb6o) hb6o.size);have hl3:(cnI n 3).length=4:=by simp[cnI,cnL]
            have hl4:(cnI n 4).length=4:=by simp[cnI,cnL]
            have HC3 := hid (fun (W : World) (hW : Below wo.heap.size wo W) => by
              have h:=crInts_same (.slice (some ⟨G 3,0,none⟩) 4 4) (.slice (some ⟨gw,0,none⟩) 4 4) (cnI n 3) wo.heap.size wo.heap.size W (HS6.out.2.2.2.1.below hW) ((HWI.out 3 (.inl rfl)).below hW);exact h)
            have HC4 := hid (fun (W : World) (hW : Below wo.heap.size wo W) => by
              have h:=crInts_same (.slice (some ⟨G 4,0,none⟩) 4 4) (.slice (some ⟨gw,0,none⟩) 4 4) (cnI n 4) wo.heap.size wo.heap.size W (HS6.out.2.2.2.2.1.below hW) ((HWI.out 4 (.inr rfl)).below hW);exact h)
            have HEND:=hid (show Below w.heap.size w wo from HB1.out.trans ((HB2.out.trans ((HB27.out.trans (HBW.out.mono (by have:=HB27.out.size;have:=HGW.out;omega))).mono HB2.out.size)).mono HB1.out.size));clear hb6o hl3 hl4 q0 q1 q2 q3 q6
            go_wp2_with (first
              |(go_at_call 20;(with_reducible refine(HC3.out _ ?_).mono ?_);(first|exact Below.refl _ _|exact Below.draws (Below.refl _ _) _);rintro e wc ⟨rfl,nd,rfl⟩)
              |(go_at_call 20;(with_reducible refine(HC4.out _ ?_).mono ?_);(first|exact Below.refl _ _|exact Below.draws (Below.refl _ _) _);rintro e wc ⟨rfl,nd,rfl⟩))
            go_ret
            exact⟨rfl,Below.draws HEND.out _⟩
end Go.Proofs.YtgkdoehkmbhfiaaGreat
namespace Go.Proofs.YtgkdoehkmbhfiaaGreat
open Go.RowKit
open Go.ChangeShapes Go.WideShapes Go.ChangeAt
theorem cntstore_holds:Rows.FnCntStoreSaid :=
 OpenClaim.holds_of_wide 6 Tryz.f6 rfl rfl rfl rfl rfl rfl rfl ⟨rfl, rfl, rfl, rfl, rfl⟩ rfl rfl rfl rfl rfl (by kernel_rfl) Tryz.func6 (by kernel_rfl)
  (of_decide_eq_true (by kernel_rfl)) (by unfold Func.isWrapper;first|(rw[if_pos (by decide +kernel)];kernel_rfl)|(rw[if_neg (by decide +kernel)];exact⟨rfl,rfl⟩))
  (fun os started H enc _ => code_lifted started enc 6 Tryz.f6 Rows.fnCntStoreSpec rfl (by kernel_rfl) Tryz.func6
   (ChangeSpec.witness6 (enc:=enc) (C:=Tryz.checked) false ⟨#[],#[.slice none 0 0],[]⟩ 8 (by kernel_rfl) (by kernel_rfl) (by kernel_rfl) (by kernel_rfl)) Tryz.params6 rfl (fun _=>⟨rfl,rfl,rfl⟩) (cntstore_any drawPlay_any))
#print axioms cntstore_holds
end Go.Proofs.YtgkdoehkmbhfiaaGreat
