/- For every code the law FnCycFair returns true, and its argument reads behind the call as it read before. -/
import Derived.Test.YtgkdoehkmbhfiaaGreatPLc0
import Derived.Test.YtgkdoehkmbhfiaaGreatPFm
import Derived.Test.YtgkdoehkmbhfiaaGreatPLb17
set_option linter.unusedVariables false
set_option linter.unusedSimpArgs false
set_option maxHeartbeats 16000000
namespace Go.Proofs.YtgkdoehkmbhfiaaGreat
open Go.RowKit
theorem mk3w (w:World):(Instr.makeSlice 41 (.int .i64 3) (.int .i64 3)).run Tryz.prog w=.ok (.slice (some ⟨w.heap.size,0,none⟩) 3 3) (w.alloc (.cells #[.slice none 0 0,.slice none 0 0,.slice none 0 0] 24)):=by kernel_rfl
attribute [local go_sem] mk3w
theorem boxn_zero {w:World} {T e:Nat} (he:e=3):BoxL (w.alloc (.cells #[.slice none 0 0,.slice none 0 0,.slice none 0 0] T)) w.heap.size e 1 rowN w.heap.size 3 (fun _=>.slice none 0 0) (fun _=>([]:List Nat)) :=
 ⟨Bx.new w #[.slice none 0 0,.slice none 0 0,.slice none 0 0] T (by simp),fun _ _=>Owns.zero,fun _ _ _ _ _ k hk=>by simp[Value.ownBlock]at hk,fun _ _ hk=>by simp[Value.ownBlock]at hk,Nat.le_refl _⟩
def wtQ (c:Cfg) (st x:Cy) (wt:Nat→List Nat) (q w:Nat):List Nat:=if w<q then fairN c st x wt w else wt w
theorem wtQ_zero (c:Cfg) (st x:Cy) (wt:Nat→List Nat):wtQ c st x wt 0=wt:=by funext w;simp[wtQ]
theorem wtQ_three {c:Cfg} {st x:Cy} {wt:Nat→List Nat} {y:Cy} (h:FairI c (fairN c st x wt) y):FairI c (wtQ c st x wt 3) y:=by
 intro w hw;have e:wtQ c st x wt 3 w=fairN c st x wt w:=by unfold wtQ;rw[if_pos hw]
 rw[e];exact h w hw
theorem wtQ_len {c:Cfg} {st x:Cy} {wt:Nat→List Nat} {k:Nat} (h:∀s,(wt s).length≤k) (q w:Nat):(wtQ c st x wt q w).length≤k+3:=by
 unfold wtQ
 split
 ·have:=fairN_len c st x wt w;have:=h w;omega
 ·have:=h w;omega
theorem wtQ_next (c:Cfg) (st x:Cy) (wt:Nat→List Nat) (q:Nat):wtQ c st x wt (q+1)=upd (wtQ c st x wt q) q (fairN c st x wt q):=by
 funext w
 by_cases h:w=q
 ·subst h;rw[zA1];unfold wtQ;rw[if_pos (Nat.lt_succ_self _)]
 ·rw[zA0 _ _ h];unfold wtQ;by_cases h2:w<q
  ·rw[if_pos h2,if_pos (by omega)]
  ·rw[if_neg h2,if_neg (by omega)]
theorem wtQ_at (c:Cfg) (st x:Cy) (wt:Nat→List Nat) (q:Nat):wtQ c st x wt q q=wt q:=by unfold wtQ;rw[if_neg (Nat.lt_irrefl _)]
theorem upd_self0 {α:Type} {f:Nat→α} {i:Nat} {x:α} (h:x=f i):upd f i x=f:=by
 funext j;unfold upd;split
 ·rename_i e;rw[e,h]
 ·rfl
theorem fairJ_mem {c : Cfg} {st x : Cy} {w : Nat} {wt : List Nat} (h : ∀ n ∈ wt, n < 3) : ∀ k, k ≤ 3 → ∀ n ∈ fairJ c st x w wt k, n < 3
 |0,_,n,hn=>h n hn
 |k+1,hk,n,hn=>by
  simp only[fairJ]at hn;rcases List.mem_append.1 hn with hn|hn
  ·exact fairJ_mem h k (by omega) n hn
  ·split at hn
   ·rw[List.mem_singleton.1 hn];omega
   ·cases hn
theorem push_own {u v v':Value} {m k:Nat} (e:u=v) (h:v'.ownBlock=v.ownBlock∨∃k,m≤k∧v'.ownBlock=some k) (hk:v'.ownBlock=some k):u.ownBlock=some k∨m≤k:=by
 rcases h with h|⟨k2,h1,h2⟩
 ·left;rw[e,←h];exact hk
 ·right;rw[h2]at hk;simp only[Option.some.injEq]at hk;omega
set_option maxRecDepth 8000 in
theorem fair_any (hdraw : DrawPl) (v : Value) (bs : List Nat) (B : Nat) (w : World) (h : Bytes w B v bs) (hB : B ≤ w.heap.size) :
    Calls Tryz.prog 3 #[v] w fun e w' => e=.returned (.bool true)∧Below w.heap.size w w':=by
  obtain⟨ao,cap,rfl,hlc,hcap,hln,hni,hr⟩:=h.opened;clear hr;by_cases hbig:(1048576:Int)<(bs.length:Int)
  · go_enter Tryz.func3, Tryz.ntmps3
    go_wp2_with fail
    go_ret
    exact⟨rfl,Below.refl _ _⟩
  · go_enter Tryz.func3, Tryz.ntmps3
    go_wp2_with fail
    refine(hdraw _ bs B w h hB).mono ?_;rintro e w1 ⟨u,iv,c,ins,rfl,hbus,hbv,hins,hil,hb1⟩;obtain⟨mv,lb,lo,lc,pb,po,pc,QQ,K,rfl,⟨ma,mn,mk,rfl⟩,_,hlb,_,hlat,_,_⟩:=hbv.opened hbus;have HLB:=hid hlb;have HLAT:=hid hlat
    clear hlb hlat
    obtain⟨ia,ic,rfl,ic1,ic2,ic3,_,hcell⟩:=hins.opened;have HBV:=hid hbv;have HCELL:=hid hcell;have HB1:=hid hb1;obtain⟨il,hil2⟩:∃x,x=ins.length:=⟨_,rfl⟩
    rw[←hil2]at HCELL ic1 ic3 hil ⊢;have HIL:=hid hil2;clear hbv hins hcell hb1 hil2 h
    go_upto_region 4 with fail
    obtain⟨w2,hw2⟩:∃W,W=w1.alloc (.cells #[.slice ma mn mk,.slice (some ⟨lb,lo,none⟩) 4 lc,.slice (some ⟨pb,po,none⟩) 3 pc] 27):=⟨_,rfl⟩
    obtain⟨gb,hgb⟩:∃g,g=w1.heap.size:=⟨_,rfl⟩
    have X0:=hid (show Bx w2 gb [.slice ma mn mk,.slice (some ⟨lb,lo,none⟩) 4 lc,.slice (some ⟨pb,po,none⟩) 3 pc] by rw[hw2,hgb];exact Bx.new w1 #[.slice ma mn mk,.slice (some ⟨lb,lo,none⟩) 4 lc,.slice (some ⟨pb,po,none⟩) 3 pc] 27 (by simp));have HB2:=hid (show Below w1.heap.size w1 w2 by rw[hw2];exact(Below.refl _ _).alloc (Nat.le_refl _) _);rw[←hw2,←hgb];have HGB:=hid hgb;clear hw2 hgb
    go_upto_region 5 with(go_at_call 10;go_loud ((with_reducible refine(cycNew_any _).mono ?_));rintro e w3 hcop;obtain⟨V,N,C,D,y0,y1,y2,y3,y4,m0,m1,m2,m3,m4,j0,j1,j2,j3,j4,hE,rfl,hr,hb3⟩:=hcop.sl;have HE:=hid hE;have HR:=hid hr;have HB3:=hid hb3;clear hcop hE hr hb3)
    obtain⟨w4,hw4⟩:∃W,W=w3.alloc (.cells #[.slice y0 m0 j0,.slice y1 m1 j1,.slice y2 m2 j2,.slice y3 m3 j3,.slice y4 m4 j4] 39):=⟨_,rfl⟩
    obtain⟨gs,hgs⟩:∃g,g=w3.heap.size:=⟨_,rfl⟩
    have hb4:Below w3.heap.size w3 w4:=by rw[hw4];exact(Below.refl _ _).alloc (Nat.le_refl _) _
    have HS := hid (show CyBox w4 gs cy0 from CyBox.new HR.out hb4 (by omega) (by
      obtain⟨e0,e1,e2,e3,e4⟩:=HE.out;rw[e0,e1,e2,e3,e4,hw4,hgs];exact Bx.new w3 #[.slice y0 m0 j0,.slice y1 m1 j1,.slice y2 m2 j2,.slice y3 m3 j3,.slice y4 m4 j4] 39 (by simp)))
    have X04:=hid ((X0.out.below HB3.out X0.out.lt).below hb4 (by have:=X0.out.lt;have:=HB3.out.size;omega));have HB4:=hid ((HB2.out.trans (HB3.out.mono HB2.out.size)).trans (hb4.mono (Nat.le_trans HB2.out.size HB3.out.size)));have hgg:gb<gs:=by have:=X0.out.lt;have:=HB3.out.size;omega
    have h1s:w1.heap.size≤gs:=by have:=HB2.out.size;have:=HB3.out.size;omega
    rw[←hw4,←hgs];clear hw4 hgs hb4
    go_upto_region 6 with fail
    obtain⟨g4,hg4⟩:∃g,g=w4.heap.size:=⟨_,rfl⟩
    obtain⟨w5,hw5⟩:∃W,W=w4.alloc (.cells #[.slice none 0 0,.slice none 0 0,.slice none 0 0] 24):=⟨_,rfl⟩
    have HG4:=hid (show w1.heap.size≤g4∧gs<g4∧gb<g4 by rw[hg4];exact⟨HB4.out.size,HS.out.lt,X04.out.lt⟩);have hbl:BoxL w5 g4 3 1 rowN g4 3 (fun _=>.slice none 0 0) (fun _=>([]:List Nat)):=by rw[hw5,hg4];exact boxn_zero rfl
    have hb5:Below w4.heap.size w4 w5:=by rw[hw5];exact(Below.refl _ _).alloc (Nat.le_refl _) _
    rw[←hw5,←hg4];have HL0:=hid hbl;have HS5:=hid (HS.out.apart hb5 (X:=InL g4 3 (fun _=>.slice none 0 0)) fun b hb=>by rw[←hg4];exact(hbl.lt hb).1);have X05:=hid (X04.out.below hb5 X04.out.lt);have HB5:=hid (HB4.out.trans (hb5.mono HB4.out.size));clear hw5 hg4 hbl hb5
    go_wp2_with fail
    go_loopw [7] (fun i wr=>∃(k:Nat) (V:Nat→Value) (wt:Nat→List Nat),i=.int .i64 k∧k≤il∧CyBoxX wr gs (InL g4 3 V) (runC c (ins.take k) cy0)∧BoxL wr g4 3 1 rowN g4 3 V wt∧Bx wr gb [.slice ma mn mk,.slice (some ⟨lb,lo,none⟩) 4 lc,.slice (some ⟨pb,po,none⟩) 3 pc]∧Below w1.heap.size w1 wr∧FairI c wt (runC c (ins.take k) cy0)∧∀s,(wt s).length≤3 * k) (fun i _=>il - (intOf i).toNat)
    case atStart=>exact⟨0,_,fun _=>[],by go_num,Nat.zero_le _,by simpa[runC]using HS5.out,HL0.out,X05.out,HB5.out,fair_zero _ _,fun _=>Nat.zero_le _⟩
    case round=>
      clear HS X04 HB4 HE HR HL0 HS5 X05 HB5;obtain⟨k,V,wt,rfl,hk,hs,hl,hx0,hbr,hfi,hln⟩:=hrel;have HS:=hid hs;have HL:=hid hl;have XR:=hid hx0;have HBW:=hid hbr;have HFI:=hid hfi;have HLN:=hid hln;have HG:=hid (show Good c (runC c (ins.take k) cy0) from good_run hbus _ (good_zero c));obtain⟨wo,hwo⟩:∃W,W=wr:=⟨_,rfl⟩
      subst hwo;clear hs hl hx0 hbr hfi hln;by_cases hlt:k<il
      · have hki : (k : Int) < (il : Int) := by omega
        obtain⟨b,off,rfl,hbB,hrow⟩:=HCELL.out (by omega);obtain⟨st,hst⟩:∃s,s=runC c (ins.take k) cy0:=⟨_,rfl⟩
        have HSN:=hid (show runC c (ins.take (k+1)) cy0=cyc c (ins.getD k default) st by rw[hst];exact runC_snoc c ins k (by rw[←HIL.out];exact hlt) cy0);rw[←hst]at HS HG HFI;clear hst hrow hbB;obtain⟨b', off', hbe,hbB', hrow'⟩:=HCELL.out (by omega);simp only[Option.some.injEq,Addr.mk.injEq,and_true]at hbe;obtain⟨rfl,rfl⟩:=hbe;obtain⟨ra', rc', ta', tc', sa', sc', hiv', c0,c1,c2⟩:=hrow' k hlt;rw[←HBW.out.cell (p:=⟨b,_,none⟩) hbB']at c0 c1 c2;have hiv:=(hiv'.below HBW.out).mono HBW.out.size;obtain⟨z0,z1,z2,z3,z4,n0,n1,n2,n3,n4,k0,k1,k2,k3,k4,P,Q,hx,hv⟩:=HS.out.box.view hbus HG.out;obtain⟨t0,t1,t2,t3,t4⟩:=hx.five.1;obtain⟨b0,b1,b2⟩:=XR.out.three.1;obtain⟨st2,hst2⟩:∃s,s=cyc c (ins.getD k default) st:=⟨_,rfl⟩
        have HST2 := hid (show ∀ W, Below wo.heap.size wo W → Calls Tryz.prog 11 #[.agg #[.slice ma mn mk, .slice (some ⟨lb, lo, none⟩) 4 lc, .slice (some ⟨pb, po, none⟩) 3 pc], .agg #[.slice z0 n0 k0, .slice z1 n1 k1, .slice z2 n2 k2, .slice z3 n3 k3, .slice z4 n4 k4], .agg #[.slice ra' 3 rc', .slice ta' 4 tc', .slice sa' 3 sc']] W (CopP st2 W) from fun W hW => by
          rw[hst2];exact cycStep_any hbus (B:=wo.heap.size) (((HBV.out.below HBW.out).mono HBW.out.size).below hW) (hv.below hW) (hiv.below hW) hW.size HG.out)
        have HT2:=hid hst2;rw[←hst2]at HSN;have hgsl:=HS.out.box.lt;have HXL:=hid (show ∀b,InL g4 3 V b→b<wo.heap.size from fun b hb=>(HL.out.lt hb).2);clear hrow' hiv' hbB' hx hv hiv hst2
        go_upto_region 9 with fail
        go_cut [8] from 28 to 34 (fun s13 w9=>Below wo.heap.size wo w9∧∃g,s13=.pointer (some ⟨g,0,none⟩)∧wo.heap.size≤g∧CyX2 w9 g gs (InL g4 3 V) st2)
        case first=>
          as_aux_lemma=>
            obtain⟨CC,hCC⟩:∃CC:List Value→World→Prop,CC=boxC (CycR st2) wo [vnil,vnil,vnil,vnil,vnil] 6 7 8:=⟨_,rfl⟩
            have hC0:CC [] wo.drew:=by rw[hCC];exact boxC_start
            have hTC:∀us W,CC us W→Below wo.heap.size wo W:=by rw[hCC];exact fun us W h=>boxC_below h
            have HTC:=hid hTC;have HCC:=hid hCC;have hne:Nonempty (Ph CC):=⟨⟨([],wo.drew),hC0⟩⟩
            have pc:∀{p:Addr} {v:Value},wo.cell? p=some v→∀x:Ph CC,x.1.2.cell? p=some v:=fun hc x=>((hTC _ _ x.2).cell (World.block_lt_of_cell? wo _ hc)).trans hc
            replace t0:=pc t0;replace t1:=pc t1;replace t2:=pc t2;replace t3:=pc t3;replace t4:=pc t4;replace b0:=pc b0;replace b1:=pc b1;replace b2:=pc b2;replace c0:=pc c0;replace c1:=pc c1;replace c2:=pc c2;clear hCC hTC pc;refine wp_region_tree CC [(6,false),(7,false),(8,false)] (.alt 6 false (.alt 7 false (.alt 8 false .stop .stop) .stop) (.alt 7 false (.alt 6 false (.alt 8 false .stop .stop) .stop) .stop)) [] (by kernel_rfl) (by kernel_rfl) hC0 ?_
            repeat (
              (with_reducible refine wq1_q ⟨rfl,rfl⟩ (fun K hK=>?_))
              go_simp
              first
                |((with_reducible refine hK _ ?_);clear hK K)
                |((with_reducible refine zA7 (by simp[undef]) (hK _ ?_));clear hK K)
                | (apply Exists.intro
                   (with_reducible refine⟨fun _=>?_,hK _ ?_⟩)
                   (fail)
                   clear hK K))
            iterate 3 refine wq1_v rfl ?_
            refine zC7 ?_;clear hne t0 t1 t2 t3 t4 b0 b1 b2 c0 c1 c2;refine wqt_v _ rfl rfl ?_ ?_ (fun _=>?_)
            · intro W hW KA hKA
              go_simp
              (with_reducible refine(HST2.out W (HTC.out _ _ hW)).mono ?_)
              rintro e W' ⟨V9,N9,C9,D9,rfl,hr9,hb⟩;go_simp;exact hKA _ _ _ (by rw[HCC.out]at hW ⊢;exact boxC_call hW hb ⟨V9,N9,C9,D9,rfl,hr9⟩) rfl
            · intro v6 KA hKA
              go_simp;refine hKA _ ?_;clear hKA KA;refine wqt_v _ rfl rfl ?_ ?_ (fun h=>by cases h)
              · intro W hW KA hKA
                go_simp;exact hKA _ _ _ (by rw[HCC.out]at hW ⊢;exact boxC_box2 (by decide) hW (by simp)) rfl
              · intro v7 KA hKA
                go_simp;refine hKA _ ?_;clear hKA KA;refine wqt_v _ rfl rfl ?_ ?_ (fun h=>by cases h)
                · intro W hW KA hKA
                  rw[HCC.out]at hW;obtain⟨lo9,W0,g9,rfl,hy,hg9,hx,hs⟩:=boxC_at (by decide) (.inl ⟨rfl,rfl⟩) hW;obtain⟨y0,y1,y2,y3,y4,m0,m1,m2,m3,m4,j0,j1,j2,j3,j4,rfl⟩:=hy.r.five;obtain⟨⟨d0,d1,d2,d3,d4⟩,f0,f1,f2,f3,f4⟩:=hx.five;have hxl:=hx.lt;unfold ptr;go_simp;refine hKA undef _ _ ?_ rfl;rw[HCC.out];exact cyc_store (.inr rfl) hW.1 hy hg9 hs hx
                · intro u KA hKA
                  go_simp;refine hKA _ ?_;clear hKA KA;refine wqt_nil ?_;intro wd hwd;rw[HCC.out]at hwd;have hd:=cyc_done hgsl HXL.out (boxC_done (by decide) (.inl ⟨_,rfl,rfl⟩) hwd);clear hwd
                  go_wp2_with fail
                  go_meet;exact hd
            refine wqt_v _ rfl rfl ?_ ?_ (fun h=>by cases h)
            · intro W hW KA hKA
              go_simp;exact hKA _ _ _ (by rw[HCC.out]at hW ⊢;exact boxC_box hW (by simp)) rfl
            · intro v7 KA hKA
              go_simp;refine hKA _ ?_;clear hKA KA;refine wqt_v _ rfl rfl ?_ ?_ (fun h=>by cases h)
              · intro W hW KA hKA
                go_simp
                (with_reducible refine(HST2.out W (HTC.out _ _ hW)).mono ?_)
                rintro e W' ⟨V9,N9,C9,D9,rfl,hr9,hb⟩;go_simp;exact hKA _ _ _ (by rw[HCC.out]at hW ⊢;exact boxC_call2 (by decide) hW hb ⟨V9,N9,C9,D9,rfl,hr9⟩) rfl
              · intro v6 KA hKA
                go_simp;refine hKA _ ?_;clear hKA KA;refine wqt_v _ rfl rfl ?_ ?_ (fun h=>by cases h)
                · intro W hW KA hKA
                  rw[HCC.out]at hW;obtain⟨lo9,W0,g9,rfl,hy,hg9,hx,hs⟩:=boxC_at (by decide) (.inr ⟨rfl,rfl⟩) hW;obtain⟨y0,y1,y2,y3,y4,m0,m1,m2,m3,m4,j0,j1,j2,j3,j4,rfl⟩:=hy.r.five;obtain⟨⟨d0,d1,d2,d3,d4⟩,f0,f1,f2,f3,f4⟩:=hx.five;have hxl:=hx.lt;unfold ptr;go_simp;refine hKA undef _ _ ?_ rfl;rw[HCC.out];exact cyc_store (.inl rfl) hW.1 hy hg9 hs hx
                · intro u KA hKA
                  go_simp;refine hKA _ ?_;clear hKA KA;refine wqt_nil ?_;intro wd hwd;rw[HCC.out]at hwd;have hd:=cyc_done hgsl HXL.out (boxC_done (by decide) (.inr ⟨_,rfl,rfl⟩) hwd);clear hwd
                  go_wp2_with fail
                  go_meet;exact hd
        case rest=>
          obtain⟨hb9,gx,rfl,hgx,hx2⟩:=hcut;obtain⟨w9,hw9⟩:∃W,W=wc:=⟨_,rfl⟩
          subst hw9;have HB9:=hid hb9;have HX9:=hid hx2;have HS9:=hid (HS.out.keep (KeptX.of hb9) (fun b h=>.inl h));have HL9:=hid (HL.out.below hb9);have X9:=hid (XR.out.below hb9 XR.out.lt);have HBW9:=hid (HBW.out.trans (hb9.mono HBW.out.size));have HG2:=hid (show Good c st2 from by rw[HT2.out];exact good_step hbus HG.out);clear hb9 hx2 t0 t1 t2 t3 t4 b0 b1 b2 c0 c1 c2 HST2
          have HFN := hid (show (∀ w, w < 3 → keepB c st st2 w = true → ∀ j, j < 3 → condB c st st2 w j = true → j ∉ fairJ c st st2 w (wt w) j) ∧ FairI c (fairN c st st2 wt) st2 from by
            rw[HT2.out];exact fair_next hbus HG.out HFI.out)
          have HGX:=hid (show w1.heap.size≤gx∧wo.heap.size≤gx from⟨Nat.le_trans HBW.out.size hgx,hgx⟩);clear HS HL XR HBW hgx hgsl HXL HB9
          go_wp2_with fail
          go_loopw [9] (fun i wr=>∃(q:Nat) (V:Nat→Value),i=.int .i64 q∧q≤3∧CyBoxX wr gs (InL g4 3 V) st∧CyX2 wr gx gs (InL g4 3 V) st2∧BoxL wr g4 3 1 rowN g4 3 V (wtQ c st st2 wt q)∧Bx wr gb [.slice ma mn mk,.slice (some ⟨lb,lo,none⟩) 4 lc,.slice (some ⟨pb,po,none⟩) 3 pc]∧Below w1.heap.size w1 wr) (fun i _=>3 - (intOf i).toNat)
          case atStart=>exact⟨0,V,by go_num,Nat.zero_le _,HS9.out,HX9.out,by rw[wtQ_zero];exact HL9.out,X9.out,HBW9.out⟩
          case round=>
            clear HS9 HX9 HL9 X9 HBW9;obtain⟨q,V,rfl,hq,hs,hx2,hl,hx0,hbr⟩:=hrel;have HS:=hid hs;have HX:=hid hx2;have HL:=hid hl;have XR:=hid hx0;have HBW:=hid hbr;obtain⟨xo,hxo⟩:∃W,W=wr:=⟨_,rfl⟩
            subst hxo;clear hs hx2 hl hx0 hbr;by_cases hlt3:q<3
            · have hqi : (q : Int) < 3 := by omega
              obtain⟨y0,y1,y2,y3,y4,m0,m1,m2,m3,m4,j0,j1,j2,j3,j4,P', Q', hx3,hv3⟩:=HX.out.toX.box.view hbus HG2.out;obtain⟨_,_,_,_,_,_,pg,pq,pc,_,_,_,-,-,e2,-,-,-,-,hpr,-⟩:=hv3.rows;simp only[Value.slice.injEq]at e2;obtain⟨rfl,rfl,rfl⟩:=e2;obtain⟨u0,u1,u2,u3,u4⟩:=hx3.five.1;obtain⟨pa,pk,_,_,-,pr,-,-,pn,-⟩:=hpr q hlt3;obtain⟨z0,z1,z2,z3,z4,n0,n1,n2,n3,n4,k0,k1,k2,k3,k4,P,Q,hx,hv⟩:=HS.out.box.view hbus HG.out;obtain⟨_,_,_,_,_,_,sg,sq,sc,_,_,_,-,-,e3,-,-,-,-,hsr,-⟩:=hv.rows;simp only[Value.slice.injEq]at e3;obtain⟨rfl,rfl,rfl⟩:=e3;obtain⟨t0,t1,t2,t3,t4⟩:=hx.five.1;obtain⟨sa,sk,_,_,-,sr,-,-,sn,-⟩:=hsr q hlt3;obtain⟨b0,b1,b2⟩:=XR.out.three.1;obtain⟨xl,hxl⟩:∃l,l=(st2.ports q).queue.length:=⟨_,rfl⟩
              obtain⟨ql,hql⟩:∃l,l=(st.ports q).queue.length:=⟨_,rfl⟩
              obtain⟨mx,hmx⟩:∃b,b=mayQ c st2 q:=⟨_,rfl⟩
              obtain⟨ms,hms⟩:∃b,b=mayQ c st q:=⟨_,rfl⟩
              rw[←hxl]at pr pn;rw[←hql]at sr sn;have HXL:=hid hxl;have HQL:=hid hql;have HMXE:=hid hmx;have HMSE:=hid hms;have HBX:=hid ((HBV.out.below HBW.out).mono HBW.out.size)
              have HMX := hid (show ∀ W, Below xo.heap.size xo W → Calls Tryz.prog 12 #[.agg #[.slice ma mn mk, .slice (some ⟨lb, lo, none⟩) 4 lc, .slice (some ⟨pb, po, none⟩) 3 pc], .agg #[.slice y0 m0 j0, .slice y1 m1 j1, .slice (some ⟨pg, pq, none⟩) 3 j2, .slice y3 m3 j3, .slice y4 m4 j4], .int .i64 q] W fun e w' => e = .returned (.bool mx) ∧ Below W.heap.size W w' from fun W hW => by
                rw[hmx];exact crMay_any hbus HG2.out (HBX.out.below hW) (hv3.below hW) hW.size hlt3)
              have HMS := hid (show ∀ W, Below xo.heap.size xo W → Calls Tryz.prog 12 #[.agg #[.slice ma mn mk, .slice (some ⟨lb, lo, none⟩) 4 lc, .slice (some ⟨pb, po, none⟩) 3 pc], .agg #[.slice z0 n0 k0, .slice z1 n1 k1, .slice (some ⟨sg, sq, none⟩) 3 k2, .slice z3 n3 k3, .slice z4 n4 k4], .int .i64 q] W fun e w' => e = .returned (.bool ms) ∧ Below W.heap.size W w' from fun W hW => by
                rw[hms];exact crMay_any hbus HG.out (HBX.out.below hW) (hv.below hW) hW.size hlt3)
              have HLT:=hid (show ∀W,Below xo.heap.size xo W→∀(j s:Nat),j<3→s<4→Calls Tryz.prog 14 #[.agg #[.slice z0 n0 k0,.slice z1 n1 k1,.slice (some ⟨sg,sq,none⟩) 3 k2,.slice z3 n3 k3,.slice z4 n4 k4],.agg #[.slice y0 m0 j0,.slice y1 m1 j1,.slice (some ⟨pg,pq,none⟩) 3 j2,.slice y3 m3 j3,.slice y4 m4 j4],.int .i64 j,.int .i64 s] W fun e w' => e=.returned (.bool (letB st st2 j s))∧Below W.heap.size W w' from fun W hW j s hj hs=>crLet_any HG.out HG2.out (hv.below hW) (hv3.below hW) hW.size hj hs);clear hpr hsr hx3 hv3 hx hv hxl hql hmx hms;by_cases hq0:ql=0
              · have hqe : ((ql : Int) == 0) = true := by simp [hq0]
                have HKB := hid (show keepB c st st2 q = false from by
                  have:(st.ports q).queue=[]:=List.eq_nil_of_length_eq_zero (by rw[←HQL.out];exact hq0);unfold keepB;rw[this])
                clear hq0
                go_upto_region 13 with fail
                obtain⟨CC,hCC⟩:∃CC:List Value→World→Prop,CC=fun us W=>Below xo.heap.size xo W:=⟨_,rfl⟩
                have hC0:CC [] xo.drew:=by rw[hCC];exact(Below.refl _ _).drew
                have hTC:∀us W,CC us W→Below xo.heap.size xo W:=by rw[hCC];exact fun us W h=>h
                have HTC:=hid hTC;have HCL:=hid (show ∀us W W', CC us W→Below W.heap.size W W' → CC us W' by rw[hCC];exact fun us W W' h h2=>h.trans (h2.mono h.size));have hne:Nonempty (Ph CC):=⟨⟨([],xo.drew),hC0⟩⟩
                have pc:∀{p:Addr} {v:Value},xo.cell? p=some v→∀x:Ph CC,x.1.2.cell? p=some v:=fun hc x=>((hTC _ _ x.2).cell (World.block_lt_of_cell? xo _ hc)).trans hc
                replace t0:=pc t0;replace t1:=pc t1;replace t2:=pc t2;replace t3:=pc t3;replace t4:=pc t4;replace u0:=pc u0;replace u1:=pc u1;replace u2:=pc u2;replace u3:=pc u3;replace u4:=pc u4;replace b0:=pc b0;replace b1:=pc b1;replace b2:=pc b2;replace sr:=pc sr;replace pr:=pc pr;clear hCC hTC pc;refine zA6 CC [] [] (by kernel_rfl) (by kernel_rfl) hC0 ?_
                try simp only[List.append_eq,List.cons_append,List.nil_append]
                repeat (
                  (with_reducible refine wq1_q ⟨rfl,rfl⟩ (fun K hK=>?_))
                  go_simp
                  first
                    |((with_reducible refine hK _ ?_);clear hK K)
                    |((with_reducible refine zA7 (by simp[undef]) (hK _ ?_));clear hK K)
                    | (apply Exists.intro
                       (with_reducible refine⟨fun _=>?_,hK _ ?_⟩)
                       (go_at_call 12;rename_i x;exact(HMX.out _ (HTC.out _ _ x.2)).mono fun _ _ ⟨he,hb⟩=>⟨he,HCL.out _ _ _ x.2 hb⟩)
                       clear hK K))
                refine zC7 ?_;refine zD0 ?_;intro wz hwz;have HBZ:=hid (HTC.out _ _ hwz);clear hwz hC0 HTC HCL hne t0 t1 t2 t3 t4 u0 u1 u2 u3 u4 b0 b1 b2 sr pr;obtain⟨wq,hwq⟩:∃W,W=wz:=⟨_,rfl⟩
                subst hwq;have HSQ:=hid (HS.out.keep (KeptX.of HBZ.out) (fun b h=>.inl h));have HXQ:=hid (HX.out.keep (KeptX.of HBZ.out) (fun b h=>.inl h));have HLQ:=hid (HL.out.below HBZ.out);have XRQ:=hid (XR.out.below HBZ.out XR.out.lt);have HBWQ:=hid (HBW.out.trans (HBZ.out.mono HBW.out.size))
                go_upto_region 14 with fail
                have hr0:=zK6 (A:=wtQ c st st2 wt q) (i:=q) HLQ.out (show resetC wq g4 g4 3 V (wtQ c st st2 wt q) q [] wq from Below.refl _ _);obtain⟨d0,d1⟩:=reset_cell HLQ.out hlt3 hr0;have HR1:=hid (show ResetD wq g4 g4 3 V (wtQ c st st2 wt q) q ((wq.alloc (.cells #[] 3)).setCell ⟨g4,q,none⟩ (.slice (some ⟨wq.heap.size,0,none⟩) 0 0)) from zK5 (v1:=undef) HLQ.out hlt3 hr0);have hqi9:(q:Int)<3:=by omega
                clear hr0
                go_upto_region 12 with fail
                obtain⟨wd,hwd⟩:∃W,W=(wq.alloc (.cells #[] 3)).setCell ⟨g4,q,none⟩ (.slice (some ⟨wq.heap.size,0,none⟩) 0 0):=⟨_,rfl⟩
                rw[←hwd];rw[←hwd]at HR1;obtain⟨V', hB', hK', hbd,hX'⟩:=HR1.out;clear hwd d0 d1 HR1
                have HLD := hid (show BoxL wd g4 3 1 rowN g4 3 V' (wtQ c st st2 wt (q + 1)) from by
                  rw[wtQ_next,show fairN c st st2 wt q=[] from by unfold fairN;rw[HKB.out];rfl];exact hB')
                have HSD:=hid (HSQ.out.keep hK' hX');have HXD:=hid (HXQ.out.keep hK' hX');have XRD:=hid (XRQ.out.kept (hK'.block gb XRQ.out.lt fun e=>by have:=(HLQ.out.lt e).1;have:=HG4.out.2.2;omega));have HBWD:=hid (HBWQ.out.trans (hbd.mono HG4.out.1));clear hB' hK' hbd hX'
                go_wp2_with fail
                go_roundw
                case rel=>exact⟨q+1,V', by go_num,by omega,HSD.out,HXD.out,HLD.out,XRD.out,HBWD.out⟩
                case measure=>simp[intOf];omega
              · have hqe : ((ql : Int) == 0) = false := by simp; omega
                by_cases hx0:xl=0
                · have hxe : ((xl : Int) == 0) = true := by simp [hx0]
                  have HKB := hid (show keepB c st st2 q = false from by
                    have:(st2.ports q).queue=[]:=List.eq_nil_of_length_eq_zero (by rw[←HXL.out];exact hx0);unfold keepB;rw[this];cases (st.ports q).queue <;> rfl)
                  clear hx0
                  go_upto_region 13 with fail
                  obtain⟨CC,hCC⟩:∃CC:List Value→World→Prop,CC=fun us W=>Below xo.heap.size xo W:=⟨_,rfl⟩
                  have hC0:CC [] xo.drew:=by rw[hCC];exact(Below.refl _ _).drew
                  have hTC:∀us W,CC us W→Below xo.heap.size xo W:=by rw[hCC];exact fun us W h=>h
                  have HTC:=hid hTC;have HCL:=hid (show ∀us W W', CC us W→Below W.heap.size W W' → CC us W' by rw[hCC];exact fun us W W' h h2=>h.trans (h2.mono h.size));have hne:Nonempty (Ph CC):=⟨⟨([],xo.drew),hC0⟩⟩
                  have pc:∀{p:Addr} {v:Value},xo.cell? p=some v→∀x:Ph CC,x.1.2.cell? p=some v:=fun hc x=>((hTC _ _ x.2).cell (World.block_lt_of_cell? xo _ hc)).trans hc
                  replace t0:=pc t0;replace t1:=pc t1;replace t2:=pc t2;replace t3:=pc t3;replace t4:=pc t4;replace u0:=pc u0;replace u1:=pc u1;replace u2:=pc u2;replace u3:=pc u3;replace u4:=pc u4;replace b0:=pc b0;replace b1:=pc b1;replace b2:=pc b2;replace sr:=pc sr;replace pr:=pc pr;clear hCC hTC pc;refine zA6 CC [] [] (by kernel_rfl) (by kernel_rfl) hC0 ?_
                  try simp only[List.append_eq,List.cons_append,List.nil_append]
                  repeat (
                    (with_reducible refine wq1_q ⟨rfl,rfl⟩ (fun K hK=>?_))
                    go_simp
                    first
                      |((with_reducible refine hK _ ?_);clear hK K)
                      |((with_reducible refine zA7 (by simp[undef]) (hK _ ?_));clear hK K)
                      | (apply Exists.intro
                         (with_reducible refine⟨fun _=>?_,hK _ ?_⟩)
                         (go_at_call 12;rename_i x;exact(HMX.out _ (HTC.out _ _ x.2)).mono fun _ _ ⟨he,hb⟩=>⟨he,HCL.out _ _ _ x.2 hb⟩)
                         clear hK K))
                  refine zC7 ?_;refine zD0 ?_;intro wz hwz;have HBZ:=hid (HTC.out _ _ hwz);clear hwz hC0 HTC HCL hne t0 t1 t2 t3 t4 u0 u1 u2 u3 u4 b0 b1 b2 sr pr;obtain⟨wq,hwq⟩:∃W,W=wz:=⟨_,rfl⟩
                  subst hwq;have HSQ:=hid (HS.out.keep (KeptX.of HBZ.out) (fun b h=>.inl h));have HXQ:=hid (HX.out.keep (KeptX.of HBZ.out) (fun b h=>.inl h));have HLQ:=hid (HL.out.below HBZ.out);have XRQ:=hid (XR.out.below HBZ.out XR.out.lt);have HBWQ:=hid (HBW.out.trans (HBZ.out.mono HBW.out.size))
                  go_upto_region 14 with fail
                  have hr0:=zK6 (A:=wtQ c st st2 wt q) (i:=q) HLQ.out (show resetC wq g4 g4 3 V (wtQ c st st2 wt q) q [] wq from Below.refl _ _);obtain⟨d0,d1⟩:=reset_cell HLQ.out hlt3 hr0;have HR1:=hid (show ResetD wq g4 g4 3 V (wtQ c st st2 wt q) q ((wq.alloc (.cells #[] 3)).setCell ⟨g4,q,none⟩ (.slice (some ⟨wq.heap.size,0,none⟩) 0 0)) from zK5 (v1:=undef) HLQ.out hlt3 hr0);have hqi9:(q:Int)<3:=by omega
                  clear hr0
                  go_upto_region 12 with fail
                  obtain⟨wd,hwd⟩:∃W,W=(wq.alloc (.cells #[] 3)).setCell ⟨g4,q,none⟩ (.slice (some ⟨wq.heap.size,0,none⟩) 0 0):=⟨_,rfl⟩
                  rw[←hwd];rw[←hwd]at HR1;obtain⟨V', hB', hK', hbd,hX'⟩:=HR1.out;clear hwd d0 d1 HR1
                  have HLD := hid (show BoxL wd g4 3 1 rowN g4 3 V' (wtQ c st st2 wt (q + 1)) from by
                    rw[wtQ_next,show fairN c st st2 wt q=[] from by unfold fairN;rw[HKB.out];rfl];exact hB')
                  have HSD:=hid (HSQ.out.keep hK' hX');have HXD:=hid (HXQ.out.keep hK' hX');have XRD:=hid (XRQ.out.kept (hK'.block gb XRQ.out.lt fun e=>by have:=(HLQ.out.lt e).1;have:=HG4.out.2.2;omega));have HBWD:=hid (HBWQ.out.trans (hbd.mono HG4.out.1));clear hB' hK' hbd hX'
                  go_wp2_with fail
                  go_roundw
                  case rel=>exact⟨q+1,V', by go_num,by omega,HSD.out,HXD.out,HLD.out,XRD.out,HBWD.out⟩
                  case measure=>simp[intOf];omega
                · have hxe : ((xl : Int) == 0) = false := by simp; omega
                  obtain⟨n,rest,hqr⟩:∃n rest,(st.ports q).queue=n::rest:=by
                    cases hh:(st.ports q).queue with
                    |nil=>rw[hh]at HQL;exact absurd HQL.out (by simpa using hq0)
                    |cons a b=>exact⟨a,b,rfl⟩
                  obtain⟨m,rest', hxr⟩:∃n rest,(st2.ports q).queue=n::rest:=by
                    cases hh:(st2.ports q).queue with
                    |nil=>rw[hh]at HXL;exact absurd HXL.out (by simpa using hx0)
                    |cons a b=>exact⟨a,b,rfl⟩
                  obtain⟨sb,so,scap,he,-,-,-,hsc⟩:=Arr.at (f:=rowN) sn (by rw[hqr];simp);simp only[Value.slice.injEq]at he;obtain⟨h1,-,h3⟩:=he;subst h1 h3;have sn0:=hsc 0 default (by rw[hqr];simp) 0 (by omega);obtain⟨pb9,po9,pcap,he,-,-,-,hpc9⟩:=Arr.at (f:=rowN) pn (by rw[hxr];simp);simp only[Value.slice.injEq]at he;obtain⟨h1,-,h3⟩:=he;subst h1 h3;have pn0:=hpc9 0 default (by rw[hxr];simp) 0 (by omega);simp only[hqr,rowN,List.getElem?_cons_zero,List.getD_cons_zero,Nat.zero_mul,Nat.add_zero]at sn0;simp only[hxr,rowN,List.getElem?_cons_zero,List.getD_cons_zero,Nat.zero_mul,Nat.add_zero]at pn0;have HKC:=hid (show keepB c st st2 q=(n==m&&mx) from by unfold keepB;rw[hqr,hxr,HMXE.out]);have HQR:=hid hqr;have q1:0<ql:=by omega
                  have q2:decide (0<ql)=true:=by simp;omega
                  have q3:decide ((0:Int)<(ql:Int))=true:=by simp;omega
                  have x1:0<xl:=by omega
                  have x2:decide (0<xl)=true:=by simp;omega
                  have x3:decide ((0:Int)<(xl:Int))=true:=by simp;omega
                  clear hsc hpc9 hqr hxr sn pn;by_cases hnm:n=m
                  · subst hnm
                    have hnn:((n:Int) != (n:Int))=false:=by simp
                    rcases mx with _|_
                    · have HKB := hid (show keepB c st st2 q = false from by rw [HKC.out]; simp)
                      go_upto_region 13 with fail
                      obtain⟨CC,hCC⟩:∃CC:List Value→World→Prop,CC=fun us W=>Below xo.heap.size xo W:=⟨_,rfl⟩
                      have hC0:CC [] xo.drew:=by rw[hCC];exact(Below.refl _ _).drew
                      have hTC:∀us W,CC us W→Below xo.heap.size xo W:=by rw[hCC];exact fun us W h=>h
                      have HTC:=hid hTC;have HCL:=hid (show ∀us W W', CC us W→Below W.heap.size W W' → CC us W' by rw[hCC];exact fun us W W' h h2=>h.trans (h2.mono h.size));have hne:Nonempty (Ph CC):=⟨⟨([],xo.drew),hC0⟩⟩
                      have pc:∀{p:Addr} {v:Value},xo.cell? p=some v→∀x:Ph CC,x.1.2.cell? p=some v:=fun hc x=>((hTC _ _ x.2).cell (World.block_lt_of_cell? xo _ hc)).trans hc
                      replace t0:=pc t0;replace t1:=pc t1;replace t2:=pc t2;replace t3:=pc t3;replace t4:=pc t4;replace u0:=pc u0;replace u1:=pc u1;replace u2:=pc u2;replace u3:=pc u3;replace u4:=pc u4;replace b0:=pc b0;replace b1:=pc b1;replace b2:=pc b2;replace sr:=pc sr;replace pr:=pc pr;replace sn0:=pc sn0;replace pn0:=pc pn0;clear hCC hTC pc;refine zA6 CC [] [] (by kernel_rfl) (by kernel_rfl) hC0 ?_
                      try simp only[List.append_eq,List.cons_append,List.nil_append]
                      repeat (
                        (with_reducible refine wq1_q ⟨rfl,rfl⟩ (fun K hK=>?_))
                        go_simp
                        first
                          |((with_reducible refine hK _ ?_);clear hK K)
                          |((with_reducible refine zA7 (by simp[undef]) (hK _ ?_));clear hK K)
                          | (apply Exists.intro
                             (with_reducible refine⟨fun _=>?_,hK _ ?_⟩)
                             (go_at_call 12;rename_i x;exact(HMX.out _ (HTC.out _ _ x.2)).mono fun _ _ ⟨he,hb⟩=>⟨he,HCL.out _ _ _ x.2 hb⟩)
                             clear hK K))
                      refine zC7 ?_;refine zD0 ?_;intro wz hwz;have HBZ:=hid (HTC.out _ _ hwz);clear hwz hC0 HTC HCL hne t0 t1 t2 t3 t4 u0 u1 u2 u3 u4 b0 b1 b2 sr pr sn0 pn0;obtain⟨wq,hwq⟩:∃W,W=wz:=⟨_,rfl⟩
                      subst hwq;have HSQ:=hid (HS.out.keep (KeptX.of HBZ.out) (fun b h=>.inl h));have HXQ:=hid (HX.out.keep (KeptX.of HBZ.out) (fun b h=>.inl h));have HLQ:=hid (HL.out.below HBZ.out);have XRQ:=hid (XR.out.below HBZ.out XR.out.lt);have HBWQ:=hid (HBW.out.trans (HBZ.out.mono HBW.out.size))
                      go_upto_region 14 with fail
                      have hr0:=zK6 (A:=wtQ c st st2 wt q) (i:=q) HLQ.out (show resetC wq g4 g4 3 V (wtQ c st st2 wt q) q [] wq from Below.refl _ _);obtain⟨d0,d1⟩:=reset_cell HLQ.out hlt3 hr0;have HR1:=hid (show ResetD wq g4 g4 3 V (wtQ c st st2 wt q) q ((wq.alloc (.cells #[] 3)).setCell ⟨g4,q,none⟩ (.slice (some ⟨wq.heap.size,0,none⟩) 0 0)) from zK5 (v1:=undef) HLQ.out hlt3 hr0);have hqi9:(q:Int)<3:=by omega
                      clear hr0
                      go_upto_region 12 with fail
                      obtain⟨wd,hwd⟩:∃W,W=(wq.alloc (.cells #[] 3)).setCell ⟨g4,q,none⟩ (.slice (some ⟨wq.heap.size,0,none⟩) 0 0):=⟨_,rfl⟩
                      rw[←hwd];rw[←hwd]at HR1;obtain⟨V', hB', hK', hbd,hX'⟩:=HR1.out;clear hwd d0 d1 HR1
                      have HLD := hid (show BoxL wd g4 3 1 rowN g4 3 V' (wtQ c st st2 wt (q + 1)) from by
                        rw[wtQ_next,show fairN c st st2 wt q=[] from by unfold fairN;rw[HKB.out];rfl];exact hB')
                      have HSD:=hid (HSQ.out.keep hK' hX');have HXD:=hid (HXQ.out.keep hK' hX');have XRD:=hid (XRQ.out.kept (hK'.block gb XRQ.out.lt fun e=>by have:=(HLQ.out.lt e).1;have:=HG4.out.2.2;omega));have HBWD:=hid (HBWQ.out.trans (hbd.mono HG4.out.1));clear hB' hK' hbd hX'
                      go_wp2_with fail
                      go_roundw
                      case rel=>exact⟨q+1,V', by go_num,by omega,HSD.out,HXD.out,HLD.out,XRD.out,HBWD.out⟩
                      case measure=>simp[intOf];omega
                    · have HKB := hid (show keepB c st st2 q = true from by rw [HKC.out]; simp)
                      have KX:=hid (show ∀W,Below xo.heap.size xo W→∀{p:Addr} {v:Value},xo.cell? p=some v→W.cell? p=some v from fun W hW {_ _} h=>(hW.cell (World.block_lt_of_cell? xo _ h)).trans h);have B0:=hid b0;have B2:=hid b2;have T2:=hid t2;have SR:=hid sr;have SN0:=hid sn0
                      go_upto_region 13 with fail
                      obtain⟨CC,hCC⟩:∃CC:List Value→World→Prop,CC=fun us W=>Below xo.heap.size xo W:=⟨_,rfl⟩
                      have hC0:CC [] xo.drew:=by rw[hCC];exact(Below.refl _ _).drew
                      have hTC:∀us W,CC us W→Below xo.heap.size xo W:=by rw[hCC];exact fun us W h=>h
                      have HTC:=hid hTC;have HCL:=hid (show ∀us W W', CC us W→Below W.heap.size W W' → CC us W' by rw[hCC];exact fun us W W' h h2=>h.trans (h2.mono h.size));have hne:Nonempty (Ph CC):=⟨⟨([],xo.drew),hC0⟩⟩
                      have pc:∀{p:Addr} {v:Value},xo.cell? p=some v→∀x:Ph CC,x.1.2.cell? p=some v:=fun hc x=>((hTC _ _ x.2).cell (World.block_lt_of_cell? xo _ hc)).trans hc
                      replace t0:=pc t0;replace t1:=pc t1;replace t2:=pc t2;replace t3:=pc t3;replace t4:=pc t4;replace u0:=pc u0;replace u1:=pc u1;replace u2:=pc u2;replace u3:=pc u3;replace u4:=pc u4;replace b0:=pc b0;replace b1:=pc b1;replace b2:=pc b2;replace sr:=pc sr;replace pr:=pc pr;replace sn0:=pc sn0;replace pn0:=pc pn0;clear hCC hTC pc;refine zA6 CC [] [] (by kernel_rfl) (by kernel_rfl) hC0 ?_
                      try simp only[List.append_eq,List.cons_append,List.nil_append]
                      repeat (
                        (with_reducible refine wq1_q ⟨rfl,rfl⟩ (fun K hK=>?_))
                        go_simp
                        first
                          |((with_reducible refine hK _ ?_);clear hK K)
                          |((with_reducible refine zA7 (by simp[undef]) (hK _ ?_));clear hK K)
                          | (apply Exists.intro
                             (with_reducible refine⟨fun _=>?_,hK _ ?_⟩)
                             (go_at_call 12;rename_i x;exact(HMX.out _ (HTC.out _ _ x.2)).mono fun _ _ ⟨he,hb⟩=>⟨he,HCL.out _ _ _ x.2 hb⟩)
                             clear hK K))
                      refine zC7 ?_;refine zD0 ?_;intro wz hwz;have HBZ:=hid (HTC.out _ _ hwz);clear hwz hC0 HTC HCL hne t0 t1 t2 t3 t4 u0 u1 u2 u3 u4 b0 b1 b2 sr pr sn0 pn0;obtain⟨wq,hwq⟩:∃W,W=wz:=⟨_,rfl⟩
                      subst hwq;have HSQ:=hid (HS.out.keep (KeptX.of HBZ.out) (fun b h=>.inl h));have HXQ:=hid (HX.out.keep (KeptX.of HBZ.out) (fun b h=>.inl h));have HLQ:=hid (HL.out.below HBZ.out);have XRQ:=hid (XR.out.below HBZ.out XR.out.lt);have HBWQ:=hid (HBW.out.trans (HBZ.out.mono HBW.out.size));have hn:n<(c.prog q).length:=by
                        have h1:=(HG.out.p q hlt3).q;have h2:=(HG.out.p q hlt3).nx;have h3:=(HG.out.p q hlt3).qn;have h4:n∈(st.ports q).queue:=by rw[HQR.out];exact List.mem_cons_self ..
                        rw[h1,List.mem_range'_1]at h4;omega
                      obtain⟨mv', lb', lo', lc', pb', po', pc', QQ', K', hE,_,hmaps,_,_,_,hpc,hrq⟩:=HBX.out.opened hbus;simp only[Value.agg.injEq,Array.mk.injEq,List.cons.injEq,Value.slice.injEq,Option.some.injEq,Addr.mk.injEq,and_true,true_and]at hE;obtain⟨rfl,⟨⟨rfl,rfl⟩,rfl⟩,⟨rfl,rfl⟩,rfl⟩:=hE;have hpc:=hpc q hlt3;have hrq:=hrq q hlt3;obtain⟨qa9,qc9,he,_,_,_,_,hq9⟩:=hrq.opened;obtain⟨qb,qo,rfl,hqB,hqr9⟩:=hq9 (by omega);simp only[Value.slice.injEq]at he;obtain⟨he1,_,he3⟩:=he;rw[he1,he3]at hpc;obtain⟨da,dc,la,lc2,hrv,r0,r1,r2,r3,r4,r5,r6⟩:=hqr9 n hn;have i2:(n:Int)<((c.prog q).length:Int):=by omega
                      have HRS:=hid (fun(W:World) (hW:Below xo.heap.size xo W)=>reqSlave_nat hbus hlt3 hn (implReqSlave_any _ _ c.ms ((c.prog q).getD n default) _ W (hmaps.below hW) (hrv.below hW) hW.size));obtain⟨s,hs⟩:∃s,s=c.slv q n:=⟨_,rfl⟩
                      rw[←hs]at HRS;have hs4:s<4:=by rw[hs];exact slv_lt4 hbus.ms _
                      have HSS:=hid (show headS c st q=s from by unfold headS;rw[HQR.out,hs];rfl);obtain⟨rqv,hrqe⟩:∃x,x=(c.prog q).getD n default:=⟨_,rfl⟩
                      rw[←hrqe]at HRS r0 r1 r2 r3 r4 r5 r6;have k9:=fun {p:Addr} {v:Value} (h:xo.cell? p=some v)=>KX.out _ HBZ.out h
                      replace r0:=k9 r0;replace r1:=k9 r1;replace r2:=k9 r2;replace r3:=k9 r3;replace r4:=k9 r4;replace r5:=k9 r5;replace r6:=k9 r6;have hpc:=k9 hpc;have b0:=k9 B0.out;have b2:=k9 B2.out;have t2:=k9 T2.out;have sr:=k9 SR.out;have sn0:=k9 SN0.out;clear hrv hrqe hmaps he1 he3 hqr9 hq9 hs k9
                      go_upto_region 15 with fail
                      obtain⟨CC,hCC⟩:∃CC:List Value→World→Prop,CC=fun us W=>Below wq.heap.size wq W:=⟨_,rfl⟩
                      have hC0:CC [] wq.drew:=by rw[hCC];exact(Below.refl _ _).drew
                      have hTC:∀us W,CC us W→Below wq.heap.size wq W:=by rw[hCC];exact fun us W h=>h
                      have HTC:=hid hTC;have HCL:=hid (show ∀us W W', CC us W→Below W.heap.size W W' → CC us W' by rw[hCC];exact fun us W W' h h2=>h.trans (h2.mono h.size));have hne:Nonempty (Ph CC):=⟨⟨([],wq.drew),hC0⟩⟩
                      have pc:∀{p:Addr} {v:Value},wq.cell? p=some v→∀x:Ph CC,x.1.2.cell? p=some v:=fun hc x=>((hTC _ _ x.2).cell (World.block_lt_of_cell? wq _ hc)).trans hc
                      replace b0:=pc b0;replace b2:=pc b2;replace t2:=pc t2;replace sr:=pc sr;replace sn0:=pc sn0;replace hpc:=pc hpc;replace r0:=pc r0;replace r1:=pc r1;replace r2:=pc r2;replace r3:=pc r3;replace r4:=pc r4;replace r5:=pc r5;replace r6:=pc r6;clear hCC hTC pc;refine zA6 CC [] [] (by kernel_rfl) (by kernel_rfl) hC0 ?_
                      try simp only[List.append_eq,List.cons_append,List.nil_append]
                      repeat (
                        (with_reducible refine wq1_q ⟨rfl,rfl⟩ (fun K hK=>?_))
                        go_simp
                        first
                          |((with_reducible refine hK _ ?_);clear hK K)
                          |((with_reducible refine zA7 (by simp[undef]) (hK _ ?_));clear hK K)
                          | (apply Exists.intro
                             (with_reducible refine⟨fun _=>?_,hK _ ?_⟩)
                             (go_at_call 13;rename_i x;exact(HRS.out _ (HBZ.out.trans ((HTC.out _ _ x.2).mono HBZ.out.size))).mono fun _ _ ⟨he,hb⟩=>⟨he,HCL.out _ _ _ x.2 hb⟩)
                             clear hK K))
                      refine zC7 ?_;refine zD0 ?_;intro wy hwy;have HBZ2:=hid (HTC.out _ _ hwy);clear hwy hC0 HTC HCL hne b0 b2 t2 sr sn0 hpc r0 r1 r2 r3 r4 r5 r6;obtain⟨w8,hw8⟩:∃W,W=wy:=⟨_,rfl⟩
                      subst hw8;have HSJ:=hid (HSQ.out.keep (KeptX.of HBZ2.out) (fun b h=>.inl h));have HXJ:=hid (HXQ.out.keep (KeptX.of HBZ2.out) (fun b h=>.inl h));have HLJ:=hid (HLQ.out.below HBZ2.out);have XRJ:=hid (XRQ.out.below HBZ2.out XRQ.out.lt);have HBWJ:=hid (HBWQ.out.trans (HBZ2.out.mono HBWQ.out.size));clear HSQ HXQ HLQ XRQ HBWQ HS HX HL XR HBW
                      go_wp2_with fail
                      have HS4:=hid hs4;clear HRS i2
                      go_loopw [11] (fun i wr=>∃(j:Nat) (V:Nat→Value),i=.int .i64 j∧j≤3∧CyBoxX wr gs (InL g4 3 V) st∧CyX2 wr gx gs (InL g4 3 V) st2∧BoxL wr g4 3 1 rowN g4 3 V (upd (wtQ c st st2 wt q) q (fairJ c st st2 q (wt q) j))∧Bx wr gb [.slice ma mn mk,.slice (some ⟨lb,lo,none⟩) 4 lc,.slice (some ⟨pb,po,none⟩) 3 pc]∧Below w1.heap.size w1 wr) (fun i _=>3 - (intOf i).toNat)
                      case atStart=>exact⟨0,V,by go_num,Nat.zero_le _,HSJ.out,HXJ.out,by rw[upd_self0 (by show wt q=_;rw[wtQ_at])];exact HLJ.out,XRJ.out,HBWJ.out⟩
                      case round=>
                        clear HSJ HXJ HLJ XRJ HBWJ HMX HMS HLT HBX;obtain⟨j,V,rfl,hj,hs,hx2,hl,hx0,hbr⟩:=hrel;have HS:=hid hs;have HX:=hid hx2;have HL:=hid hl;have XR:=hid hx0;have HBW:=hid hbr;obtain⟨zo,hzo⟩:∃W,W=wr:=⟨_,rfl⟩
                        subst hzo;clear hs hx2 hl hx0 hbr;by_cases hlt4:j<3
                        · have hji : (j : Int) < 3 := by omega
                          obtain⟨y0,y1,y2,y3,y4,m0,m1,m2,m3,m4,j0,j1,j2,j3,j4,P', Q', hx3,hv3⟩:=HX.out.toX.box.view hbus HG2.out;obtain⟨u0,u1,u2,u3,u4⟩:=hx3.five.1;obtain⟨z0,z1,z2,z3,z4,n0,n1,n2,n3,n4,k0,k1,k2,k3,k4,P,Q,hx,hv⟩:=HS.out.box.view hbus HG.out;obtain⟨t0,t1,t2,t3,t4⟩:=hx.five.1;obtain⟨b0,b1,b2⟩:=XR.out.three.1;have HXS:=hid hx;have HBX:=hid ((HBV.out.below HBW.out).mono HBW.out.size);obtain⟨lb9,hlb⟩:∃b,b=letB st st2 j s:=⟨_,rfl⟩
                          obtain⟨ms,hms⟩:∃b,b=mayQ c st q:=⟨_,rfl⟩
                          have HCB:=hid (show condB c st st2 q j=(j != q&&lb9&&ms) from by unfold condB;rw[HSS.out,hlb,hms])
                          have HMS := hid (show ∀ W, Below zo.heap.size zo W → Calls Tryz.prog 12 #[.agg #[.slice ma mn mk, .slice (some ⟨lb, lo, none⟩) 4 lc, .slice (some ⟨pb, po, none⟩) 3 pc], .agg #[.slice z0 n0 k0, .slice z1 n1 k1, .slice z2 n2 k2, .slice z3 n3 k3, .slice z4 n4 k4], .int .i64 q] W fun e w' => e = .returned (.bool ms) ∧ Below W.heap.size W w' from fun W hW => by
                            rw[hms];exact crMay_any hbus HG.out (HBX.out.below hW) (hv.below hW) hW.size hlt3)
                          have HLT:=hid (show Calls Tryz.prog 14 #[.agg #[.slice z0 n0 k0,.slice z1 n1 k1,.slice z2 n2 k2,.slice z3 n3 k3,.slice z4 n4 k4],.agg #[.slice y0 m0 j0,.slice y1 m1 j1,.slice y2 m2 j2,.slice y3 m3 j3,.slice y4 m4 j4],.int .i64 j,.int .i64 s] zo fun e w' => e=.returned (.bool lb9)∧Below zo.heap.size zo w' from by rw[hlb];exact crLet_any HG.out HG2.out hv hv3 (Nat.le_refl _) hlt4 HS4.out);clear hx3 hv3 hx hv hlb hms;have HAQ:=hid (show ∀b,condB c st st2 q j=b→fairJ c st st2 q (wt q) (j+1)=fairJ c st st2 q (wt q) j++if b then[j] else[] from fun b hb=>by simp only[fairJ];rw[hb]);by_cases hjq:j=q
                          · subst hjq
                            have hne:((j:Int) != (j:Int))=false:=by simp
                            have HF:=hid (show fairJ c st st2 j (wt j) (j+1)=fairJ c st st2 j (wt j) j from by rw[HAQ.out false (by rw[HCB.out];simp)];simp)
                            go_wp2_with fail
                            go_roundw
                            case rel=>exact⟨j+1,V,by go_num,by omega,HS.out,HX.out,by rw[HF.out];exact HL.out,XR.out,HBW.out⟩
                            case measure=>simp[intOf];omega
                          · have hne : ((j : Int) != (q : Int)) = true := by simp; omega
                            have HJQ:=hid hjq;have hJB:(j != q)=true:=by simp[hjq]
                            rw[hJB,Bool.true_and]at HCB;clear hjq hJB;rcases lb9 with _|_
                            · have HF := hid (show fairJ c st st2 q (wt q) (j + 1) = fairJ c st st2 q (wt q) j from by rw [HAQ.out false (by rw [HCB.out]; rfl)]; simp)
                              go_wp2_with (go_at_call 14;(with_reducible refine(HLT.out).mono ?_);rintro e wl ⟨rfl,hbl⟩;have HBL:=hid hbl;clear hbl t0 t1 t2 t3 t4 u0 u1 u2 u3 u4 b0 b1 b2)
                              go_roundw
                              case rel=>exact⟨j+1,V,by go_num,by omega,HS.out.keep (KeptX.of HBL.out) (fun b h=>.inl h),HX.out.keep (KeptX.of HBL.out) (fun b h=>.inl h),by rw[HF.out];exact HL.out.below HBL.out,XR.out.below HBL.out XR.out.lt,HBW.out.trans (HBL.out.mono HBW.out.size)⟩
                              case measure=>simp[intOf];omega
                            · rw [Bool.true_and] at HCB
                              rcases ms with _|_
                              · have HF := hid (show fairJ c st st2 q (wt q) (j + 1) = fairJ c st st2 q (wt q) j from by rw [HAQ.out false HCB.out]; simp)
                                go_wp2_with (first
                                |(go_at_call 14;(with_reducible refine(HLT.out).mono ?_);rintro e wl ⟨rfl,hbl⟩;have HBL:=hid hbl;clear hbl t0 t1 t2 t3 t4 u0 u1 u2 u3 u4 b0 b1 b2;obtain⟨t0,t1,t2,t3,t4⟩:=(HXS.out.below HBL.out HXS.out.lt).five.1;obtain⟨b0,b1,b2⟩:=(XR.out.below HBL.out XR.out.lt).three.1)
                                |(go_at_call 12;(with_reducible refine(HMS.out wl HBL.out).mono ?_);rintro e wm ⟨rfl,hbm⟩;have HBM:=hid (HBL.out.trans (hbm.mono HBL.out.size));clear hbm t0 t1 t2 t3 t4 b0 b1 b2))
                                go_roundw
                                case rel=>exact⟨j+1,V,by go_num,by omega,HS.out.keep (KeptX.of HBM.out) (fun b h=>.inl h),HX.out.keep (KeptX.of HBM.out) (fun b h=>.inl h),by rw[HF.out];exact HL.out.below HBM.out,XR.out.below HBM.out XR.out.lt,HBW.out.trans (HBM.out.mono HBW.out.size)⟩
                                case measure=>simp[intOf];omega
                              · have HF := hid (show fairJ c st st2 q (wt q) (j + 1) = fairJ c st st2 q (wt q) j ++ [j] from by rw [HAQ.out true HCB.out]; rfl)
                                have HNI:=hid (show j ∉ fairJ c st st2 q (wt q) j from HFN.out.1 q hlt3 HKB.out j hlt4 HCB.out)
                                go_upto_region 20 with (first
                                |(go_at_call 14;(with_reducible refine(HLT.out).mono ?_);rintro e wl ⟨rfl,hbl⟩;have HBL:=hid hbl;clear hbl t0 t1 t2 t3 t4 u0 u1 u2 u3 u4 b0 b1 b2;obtain⟨t0,t1,t2,t3,t4⟩:=(HXS.out.below HBL.out HXS.out.lt).five.1;obtain⟨b0,b1,b2⟩:=(XR.out.below HBL.out XR.out.lt).three.1)
                                |(go_at_call 12;(with_reducible refine(HMS.out wl HBL.out).mono ?_);rintro e wm ⟨rfl,hbm⟩;have HBM:=hid (HBL.out.trans (hbm.mono HBL.out.size));clear hbm t0 t1 t2 t3 t4 b0 b1 b2))
                                have HSM:=hid (HS.out.keep (KeptX.of HBM.out) (fun b h=>.inl h));have HXM:=hid (HX.out.keep (KeptX.of HBM.out) (fun b h=>.inl h));have HLM:=hid (HL.out.below HBM.out);have XRM:=hid (XR.out.below HBM.out XR.out.lt);have HBWM:=hid (HBW.out.trans (HBM.out.mono HBW.out.size));clear HS HX HL XR HBW HXS HBX HLT HMS;obtain⟨AL,hAL⟩:∃A,A=upd (wtQ c st st2 wt q) q (fairJ c st st2 q (wt q) j):=⟨_,rfl⟩
                                have HALE:=hid hAL;have hALq:AL q=fairJ c st st2 q (wt q) j:=by rw[hAL,zA1]
                                rw[←hAL]at HLM;have HLEN:=hid (show(AL q).length≤4000 from by rw[hALq];have:=fairJ_len c st st2 q (wt q) j;have:=HLN.out q;omega);have HNI2:=hid (show j ∉ AL q from by rw[hALq];exact HNI.out);have HF2:=hid (show upd (wtQ c st st2 wt q) q (fairJ c st st2 q (wt q) (j+1))=upd AL q (AL q++[j]) from by rw[HF.out,hALq,hAL,upd_upd]);have ho:=HLM.out.own q hlt3;obtain⟨va,vc,hve,_,_⟩:=ho.shape;have HVE:=hid hve;have q0:=HLM.out.cell hlt3
                                have HIN := hid (show Calls Tryz.prog 15 #[V q, .int .i64 j] wm fun e w' => e = .returned (.bool false) ∧ wm = w' from by
                                  have h := crIn_any (V q) ((AL q).map fun (n : Nat) => (n : Int)) (j : Int) wm.heap.size wm ⟨by rw [List.map_map]; exact ho.arr (fun _ => rfl) (by have := HLEN.out; omega), fun x hx => by
                                    obtain⟨n,hn,rfl⟩:=List.mem_map.1 hx;have h3:n<3:=by
                                      rw[hALq]at hn
                                      exact fairJ_mem (fun n hn => by
                                        rcases HFI.out q hlt3 with h|⟨_,_,h⟩
                                        · rw[h]at hn;cases hn
                                        · exact(h n hn).1) j (by omega) n hn
                                    constructor <;> omega⟩
                                  rw [show inLst ((AL q).map fun (n : Nat) => (n : Int)) (j : Int) = false from by
                                    unfold inLst;rw[decide_eq_false_iff_not];intro hm;obtain⟨n,hn,e⟩:=List.mem_map.1 hm;have:n=j:=by omega
                                    exact HNI2.out (this▸hn)]at h
                                  exact h)
                                rw[hve]at q0 HIN ho;have HOWN:=hid ho;obtain⟨an,han⟩:∃x,x=(AL q).length:=⟨_,rfl⟩
                                rw[←han]at q0 HIN HLEN HOWN HVE;have HAN:=hid han;clear ho hve hAL hALq han
                                go_upto_region 22 with(go_at_call 15;(with_reducible refine(HIN.out).mono ?_);rintro e w9 ⟨rfl,rfl⟩)
                                have hqi9:(q:Int)<3:=by omega
                                have hbs:g4≤wm.heap.size:=Nat.le_of_lt HLM.out.bx.lt
                                go_upto_region 18 with(at_builtin;go_must (refine zB6 zL5 rowN (fun _=>rfl) j (rowN_one1 j) wm rfl _ _ rfl g4 _ (AL q) (by rfl) HOWN.out _ (by rfl) (by rfl) (by rw[←HAN.out];have:=HLEN.out;omega) (by rw[←HAN.out];have:=HLEN.out;omega) hbs ?_);intro v' w7 ho7 hz7 hk7 hv7 hb7;obtain⟨va', vc', hve', _,_⟩:=ho7.shape;rw[List.length_append,List.length_singleton]at hve';subst hve';have HPC:=hid (show pushC wm g4 3 1 rowN g4 3 V AL q j [undef,_] w7 from⟨wm,Below.refl _ _,ho7,fun b hb hn=>hk7 b hb (by rw[←HVE.out];exact hn),hz7,hb7,fun k hk=>by exact push_own HVE.out hv7 hk⟩);obtain⟨d0,d1⟩:=pushC_cell HLM.out hlt3 HPC.out;clear ho7 hz7 hk7 hv7 hb7 q0)
                                obtain⟨V', hB', hK', hbd,hX'⟩:=pushC_store (v2:=undef) HLM.out hlt3 HPC.out;have HLD:=hid (show BoxL _ g4 3 1 rowN g4 3 V' (upd (wtQ c st st2 wt q) q (fairJ c st st2 q (wt q) (j+1))) from by rw[HF2.out];exact hB');have HSD:=hid (HSM.out.keep hK' hX');have HXD:=hid (HXM.out.keep hK' hX');have XRD:=hid (XRM.out.kept (hK'.block gb XRM.out.lt fun e=>by have:=(HLM.out.lt e).1;have:=HG4.out.2.2;omega));have HBWD:=hid (HBWM.out.trans (hbd.mono HG4.out.1));clear hB' hK' hbd hX' d0 d1
                                go_wp2_with fail
                                go_roundw
                                case rel=>exact⟨j+1,V', by go_num,by omega,HSD.out,HXD.out,HLD.out,XRD.out,HBWD.out⟩
                                case measure=>simp[intOf];omega
                        · obtain rfl : j = 3 := by omega
                          rw[show(((3:Nat)):Int)=(3:Int) from rfl];have HEN:=hid (show upd (wtQ c st st2 wt q) q (fairJ c st st2 q (wt q) 3)=wtQ c st st2 wt (q+1) from by rw[wtQ_next];unfold fairN;rw[HKB.out];rfl)
                          go_wp2_with fail
                          go_roundw
                          case rel=>exact⟨q+1,V,by go_num,by omega,HS.out,HX.out,by rw[←HEN.out];exact HL.out,XR.out,HBW.out⟩
                          case measure=>simp[intOf];omega
                  · have hnn : ((n : Int) != (m : Int)) = true := by simp; omega
                    have HKB:=hid (show keepB c st st2 q=false from by rw[HKC.out,show(n==m)=false from by simpa using hnm];rfl);clear hnm
                    go_upto_region 13 with fail
                    obtain⟨CC,hCC⟩:∃CC:List Value→World→Prop,CC=fun us W=>Below xo.heap.size xo W:=⟨_,rfl⟩
                    have hC0:CC [] xo.drew:=by rw[hCC];exact(Below.refl _ _).drew
                    have hTC:∀us W,CC us W→Below xo.heap.size xo W:=by rw[hCC];exact fun us W h=>h
                    have HTC:=hid hTC;have HCL:=hid (show ∀us W W', CC us W→Below W.heap.size W W' → CC us W' by rw[hCC];exact fun us W W' h h2=>h.trans (h2.mono h.size));have hne:Nonempty (Ph CC):=⟨⟨([],xo.drew),hC0⟩⟩
                    have pc:∀{p:Addr} {v:Value},xo.cell? p=some v→∀x:Ph CC,x.1.2.cell? p=some v:=fun hc x=>((hTC _ _ x.2).cell (World.block_lt_of_cell? xo _ hc)).trans hc
                    replace t0:=pc t0;replace t1:=pc t1;replace t2:=pc t2;replace t3:=pc t3;replace t4:=pc t4;replace u0:=pc u0;replace u1:=pc u1;replace u2:=pc u2;replace u3:=pc u3;replace u4:=pc u4;replace b0:=pc b0;replace b1:=pc b1;replace b2:=pc b2;replace sr:=pc sr;replace pr:=pc pr;replace sn0:=pc sn0;replace pn0:=pc pn0;clear hCC hTC pc;refine zA6 CC [] [] (by kernel_rfl) (by kernel_rfl) hC0 ?_
                    try simp only[List.append_eq,List.cons_append,List.nil_append]
                    repeat (
                      (with_reducible refine wq1_q ⟨rfl,rfl⟩ (fun K hK=>?_))
                      go_simp
                      first
                        |((with_reducible refine hK _ ?_);clear hK K)
                        |((with_reducible refine zA7 (by simp[undef]) (hK _ ?_));clear hK K)
                        | (apply Exists.intro
                           (with_reducible refine⟨fun _=>?_,hK _ ?_⟩)
                           (go_at_call 12;rename_i x;exact(HMX.out _ (HTC.out _ _ x.2)).mono fun _ _ ⟨he,hb⟩=>⟨he,HCL.out _ _ _ x.2 hb⟩)
                           clear hK K))
                    refine zC7 ?_;refine zD0 ?_;intro wz hwz;have HBZ:=hid (HTC.out _ _ hwz);clear hwz hC0 HTC HCL hne t0 t1 t2 t3 t4 u0 u1 u2 u3 u4 b0 b1 b2 sr pr sn0 pn0;obtain⟨wq,hwq⟩:∃W,W=wz:=⟨_,rfl⟩
                    subst hwq;have HSQ:=hid (HS.out.keep (KeptX.of HBZ.out) (fun b h=>.inl h));have HXQ:=hid (HX.out.keep (KeptX.of HBZ.out) (fun b h=>.inl h));have HLQ:=hid (HL.out.below HBZ.out);have XRQ:=hid (XR.out.below HBZ.out XR.out.lt);have HBWQ:=hid (HBW.out.trans (HBZ.out.mono HBW.out.size))
                    go_upto_region 14 with fail
                    have hr0:=zK6 (A:=wtQ c st st2 wt q) (i:=q) HLQ.out (show resetC wq g4 g4 3 V (wtQ c st st2 wt q) q [] wq from Below.refl _ _);obtain⟨d0,d1⟩:=reset_cell HLQ.out hlt3 hr0;have HR1:=hid (show ResetD wq g4 g4 3 V (wtQ c st st2 wt q) q ((wq.alloc (.cells #[] 3)).setCell ⟨g4,q,none⟩ (.slice (some ⟨wq.heap.size,0,none⟩) 0 0)) from zK5 (v1:=undef) HLQ.out hlt3 hr0);have hqi9:(q:Int)<3:=by omega
                    clear hr0
                    go_upto_region 12 with fail
                    obtain⟨wd,hwd⟩:∃W,W=(wq.alloc (.cells #[] 3)).setCell ⟨g4,q,none⟩ (.slice (some ⟨wq.heap.size,0,none⟩) 0 0):=⟨_,rfl⟩
                    rw[←hwd];rw[←hwd]at HR1;obtain⟨V', hB', hK', hbd,hX'⟩:=HR1.out;clear hwd d0 d1 HR1
                    have HLD := hid (show BoxL wd g4 3 1 rowN g4 3 V' (wtQ c st st2 wt (q + 1)) from by
                      rw[wtQ_next,show fairN c st st2 wt q=[] from by unfold fairN;rw[HKB.out];rfl];exact hB')
                    have HSD:=hid (HSQ.out.keep hK' hX');have HXD:=hid (HXQ.out.keep hK' hX');have XRD:=hid (XRQ.out.kept (hK'.block gb XRQ.out.lt fun e=>by have:=(HLQ.out.lt e).1;have:=HG4.out.2.2;omega));have HBWD:=hid (HBWQ.out.trans (hbd.mono HG4.out.1));clear hB' hK' hbd hX'
                    go_wp2_with fail
                    go_roundw
                    case rel=>exact⟨q+1,V', by go_num,by omega,HSD.out,HXD.out,HLD.out,XRD.out,HBWD.out⟩
                    case measure=>simp[intOf];omega
            · obtain rfl : q = 3 := by omega
              rw[show(((3:Nat)):Int)=(3:Int) from rfl];obtain⟨y0,y1,y2,y3,y4,m0,m1,m2,m3,m4,j0,j1,j2,j3,j4,P', Q', hx3,hv3⟩:=HX.out.toX.box.view hbus HG2.out;obtain⟨u0,u1,u2,u3,u4⟩:=hx3.five.1;obtain⟨z0,z1,z2,z3,z4,n0,n1,n2,n3,n4,k0,k1,k2,k3,k4,P,Q,hx,_⟩:=HS.out.box.view hbus HG.out;obtain⟨⟨d0,d1,d2,d3,d4⟩,f0,f1,f2,f3,f4⟩:=hx.five;have HX3:=hid hx3;have HXS:=hid hx;clear hx3 hv3 hx
              go_upto_region 8 with fail
              obtain⟨wv,hwv⟩:∃W,W=((((xo.setCell ⟨gs,0,none⟩ (.slice y0 m0 j0)).setCell ⟨gs,1,none⟩ (.slice y1 m1 j1)).setCell ⟨gs,2,none⟩ (.slice y2 m2 j2)).setCell ⟨gs,3,none⟩ (.slice y3 m3 j3)).setCell ⟨gs,4,none⟩ (.slice y4 m4 j4):=⟨_,rfl⟩
              have HSV:=hid (show CyBoxX wv gs (InL g4 3 V) st2 from by rw[hwv];exact HX.out.move HXS.out HX3.out HS.out.ngs);have HBV9:=hid (show Below w1.heap.size w1 wv from by rw[hwv];exact((((HBW.out.setCell (p:=⟨gs,_,none⟩) h1s _).setCell (p:=⟨gs,_,none⟩) h1s _).setCell (p:=⟨gs,_,none⟩) h1s _).setCell (p:=⟨gs,_,none⟩) h1s _).setCell (p:=⟨gs,_,none⟩) h1s _);have hkv:∀b,b≠gs→wv.heap[b]? = xo.heap[b]?:=fun b hb=>by rw[hwv];exact zJ9 b hb
              have HLV:=hid (HL.out.kept fun b hb=>hkv b fun e=>HS.out.ngs (e▸hb));have XRV:=hid (XR.out.kept (hkv gb (by omega)));rw[←hwv];clear hwv hkv u0 u1 u2 u3 u4 d0 d1 d2 d3 d4 f0 f1 f2 f3 f4
              go_wp2_with fail
              go_roundw
              case rel=>exact⟨k+1,V,wtQ c st st2 wt 3,by go_num,by omega,by rw[HSN.out];exact HSV.out,HLV.out,XRV.out,HBV9.out,by rw[HSN.out];exact wtQ_three HFN.out.2,fun s=>by have:=wtQ_len (c:=c) (st:=st) (x:=st2) HLN.out 3 s;omega⟩
              case measure=>simp[intOf];omega
      · obtain rfl : k = il := by omega
        have hki2:decide ((k:Int)<(k:Int))=false:=by simp
        rw[show ins.take k=ins from List.take_of_length_le (by rw[HIL.out];exact Nat.le_refl _)]at HS HG;have X:=XR;have HBR:=HBW;obtain⟨z0,z1,z2,z3,z4,n0,n1,n2,n3,n4,k0,k1,k2,k3,k4,P,Q,hx,hv⟩:=HS.out.box.view hbus HG.out;obtain⟨t0,t1,t2,t3,t4⟩:=hx.five.1;obtain⟨b0,b1,b2⟩:=X.out.three.1;have HOK:=hid (cycOk_any hbus ((HBV.out.below HBR.out).mono HBR.out.size) hv (Nat.le_refl _) HG.out);clear hx hv
        go_wp2_with (first
          |(go_at_call 16;go_loud ((with_reducible refine(HOK.out).mono ?_));rintro e w8 ⟨rfl,hb8⟩;have HB8:=hid hb8;clear hb8 t0 t1 t2 t3 t4 b0 b1 b2)
          |(go_at_call 17;refine(crOk_any _).mono ?_;rintro e w9 ⟨rfl,rfl⟩))
        go_ret
        exact⟨rfl,(HB1.out.trans (HBR.out.mono HB1.out.size)).trans (HB8.out.mono (Nat.le_trans HB1.out.size HBR.out.size))⟩
end Go.Proofs.YtgkdoehkmbhfiaaGreat
namespace Go.Proofs.YtgkdoehkmbhfiaaGreat
open Go.RowKit
open Go.ChangeShapes Go.WideShapes Go.ChangeAt
theorem fair_holds:Rows.FnCycFairSaid :=
 OpenClaim.holds_of_wide 3 Tryz.f3 rfl rfl rfl rfl rfl rfl rfl ⟨rfl, rfl, rfl, rfl, rfl⟩ rfl rfl rfl rfl rfl (by kernel_rfl) Tryz.func3 (by kernel_rfl)
  (of_decide_eq_true (by kernel_rfl)) (by unfold Func.isWrapper;first|(rw[if_pos (by decide +kernel)];kernel_rfl)|(rw[if_neg (by decide +kernel)];exact⟨rfl,rfl⟩))
  (fun os started H enc _ => code_lifted started enc 3 Tryz.f3 Rows.fnCycFairSpec rfl (by kernel_rfl) Tryz.func3
   (ChangeSpec.witness6 (enc:=enc) (C:=Tryz.checked) false ⟨#[],#[.slice none 0 0],[]⟩ 8 (by kernel_rfl) (by kernel_rfl) (by kernel_rfl) (by kernel_rfl)) Tryz.params3 rfl (fun _=>⟨rfl,rfl,rfl⟩) (fair_any drawPlay_any))
#print axioms fair_holds
end Go.Proofs.YtgkdoehkmbhfiaaGreat
