/- Draws: odd, l20Addr. -/
import Derived.Test.YtgkdoehkmbhfiaaGreatQDo1
import Derived.Test.YtgkdoehkmbhfiaaGreatQWrd
import Derived.Test.YtgkdoehkmbhfiaaGreatQLib
import Derived.StillTailTactics
set_option linter.unusedVariables false
set_option linter.unusedSimpArgs false
set_option maxHeartbeats 16000000
namespace Go.Proofs.YtgkdoehkmbhfiaaGreat
open Go.RowKit
theorem Ints.heap {w w':World} {B:Nat} {v:Value} {xs:List Int} (h:Ints w B v xs) (hk:∀k,v.ownBlock=some k→k<B→w'.heap[k]? = w.heap[k]?):Ints w' B v xs:=by
 refine⟨?_,h.2⟩;obtain⟨ao,cap,he,k1,k2,k3,k4,k5⟩:=h.1;refine⟨ao,cap,he,k1,k2,k3,k4,fun hn=>?_⟩;obtain⟨b,off,ha,hb,hc⟩:=k5 hn;refine⟨b,off,ha,hb,fun t ht j hj=>?_⟩;rw[←hc t ht j hj];simp only[World.cell?,hk b (by rw[he,ha];rfl) hb]
set_option maxRecDepth 4000 in
theorem do_wt (v : Value) (ms : List MR) (B S gw ow cw gh oh ch : Nat) (ws hs : List Int) (who : Int) (id kind addr many : Int) (wp : Bool) (dv lv : Value) (w : World) (hv : Maps w B v ms) (h : AtmAt w B S gw ow cw gh oh ch ws hs)
    (hwho:inB who 0 2=true) (hid1:inB id 0 1=true) (hz:0≤zA5 ms (burst addr many wp)) (cd:Int) (hk1:(kind=2∧cd=1)∨(kind=4∧cd=2∧hs.getD (who * 2+id).toNat 0=addr)) (hon:(ms.getD (zA5 ms (burst addr many wp)).toNat default).only=false) (data lanes:List Int) (hdv:Ints w B dv data) (hlv:Ints w B lv lanes) (hdl:data.length=(burst addr many wp).length) (hll:lanes.length=(burst addr many wp).length) (hdo:data.all zB1=true) (hlo:lanes.all (fun l=>inB l 0 3)=true) (hws:ws.all zB1=true) :
    Calls Tryz.prog 80 #[.pointer (some ⟨S,0,none⟩),v,.int .i64 who,.agg #[.int .i64 id,.int .i64 kind,.int .i64 addr,.int .i64 many,.bool wp,dv,lv]] w (DoP B S gw ow cw gh oh ch (zB6 ws (burst addr many wp) data lanes) (zC6 hs (burst addr many wp)) ⟨id,cd,[]⟩ w):=by
  have hw:(kind==2 || kind==4)=true:=by rcases hk1 with⟨h,_⟩|⟨h,_⟩ <;> rw[h] <;> simp
  have HW:=hid hw;clear hw;have HK:=hid hk1;clear hk1;have HDV:=hid hdv;have HLV:=hid hlv;have HDL:=hid hdl;have HLL:=hid hll;have HDO:=hid hdo;have HLO:=hid hlo;have HWS:=hid hws;have hd1:∃a n c,dv=.slice a n c:=by obtain⟨a,c,h,_⟩:=hdv.1;exact⟨_,_,_,h⟩
  have hd2:∃a n c,lv=.slice a n c:=by obtain⟨a,c,h,_⟩:=hlv.1;exact⟨_,_,_,h⟩
  clear hdv hlv hdl hll hdo hlo hws;obtain⟨k,hk⟩:=Int.eq_ofNat_of_zero_le (show 0≤zA5 ms (burst addr many wp) by omega);have hkm:k<ms.length:=by have:=zI5 ms (burst addr many wp);omega
  obtain⟨mo,mcap,rfl,hm1,hm2,hm3,hm4,hmr⟩:=hv.opened;obtain⟨mb,moff,rfl,hmb,hmc⟩:=hmr (by omega);obtain⟨_,_,_,c3⟩:=hmc k hkm;have HC3:=hid c3;have HON:=hid (show(ms.getD k default).only=false by rw[hk]at hon;exact hon);clear hon c3 hmc hmr;have HD1:=hid hd1;have HD2:=hid hd2;have HV:=hid hv;have HH:=hid h;have hS:=h.sLt;have hB:B≤w.heap.size:=by have:=h.bs;omega
  obtain⟨da,dn,dc,rfl⟩:=hd1;obtain⟨la,ln,lc,rfl⟩:=hd2;simp only[inB,Bool.and_eq_true,decide_eq_true_eq]at hwho hid1;have s0:=h.s0;have s1:=h.s1;have HZ:=hid hk.symm;clear hv h hk hz
  go_enter Tryz.func80,Tryz.ntmps80
  go_wp2_with (first|(go_at_call 100;refine(zI9 _ ms _ _ _ _ _ _ _ HD1.out HD2.out B _ (HV.out.below (((Below.refl _ _).alloc hB _).alloc (by simp;omega) _)) (by simp;omega)).mono ?_;rw[←HZ.out];rintro e w1 ⟨rfl,hb1⟩;obtain⟨⟨f0,f1,f2,f3,f4,f5,f6⟩,⟨r0,r1,r2,r3,r4,r5⟩,hb01,hz1⟩:=do_open hb1;clear hb1;have hS1:S<w1.heap.size:=(by omega);have hg1:w.heap.size<w1.heap.size:=(by omega);have hg2:w.heap.size+1<w1.heap.size:=(by omega);have q0:w1.cell? ⟨S,0,none⟩=some (.slice (some ⟨gw,ow,none⟩) 64 cw):=(by rw[hb01.cell (p:=⟨S,0,none⟩) hS];exact s0);have q1:w1.cell? ⟨S,1,none⟩=some (.slice (some ⟨gh,oh,none⟩) 6 ch):=(by rw[hb01.cell (p:=⟨S,1,none⟩) hS];exact s1)))
  have hd0:(0:Int)≤who * 2+id:=by omega
  have hd6:who * 2+id<6:=by omega
  go_quiet (fail)
  obtain⟨a,ha6,hae,hat⟩:=do_at hwho hid1;rw[hat];obtain⟨w2,go,hw2,hgo,⟨o0,o1,o2,o3,o4,o5⟩,hb12,hz2⟩:=do_open2 (w1:=w1) (id:=id) (U:=63) nq;rw[←hw2,←hgo];clear hw2;obtain⟨f0', f1', f2', f3', f4', f5', f6'⟩:=ReqAt.below ⟨f0,f1,f2,f3,f4,f5,f6⟩ hb12 hg1;obtain⟨r0', r1', r2', r3', r4', r5'⟩:=RspAt.below ⟨r0,r1,r2,r3,r4,r5⟩ hb12 hg2;have HB:=hid (hb01.trans (hb12.mono (by omega)));have q0':w2.cell? ⟨S,0,none⟩=some (.slice (some ⟨gw,ow,none⟩) 64 cw):=by rw[HB.out.cell (p:=⟨S,0,none⟩) hS];exact s0
  have q1':w2.cell? ⟨S,1,none⟩=some (.slice (some ⟨gh,oh,none⟩) 6 ch):=by rw[HB.out.cell (p:=⟨S,1,none⟩) hS];exact s1
  have hgo2:w.heap.size+2≤go:=by omega
  have hSgo:S<go:=by omega
  clear f0 f1 f2 f3 f4 f5 f6 r0 r1 r2 r3 r4 r5 q0 q1 hb01 hb12 s0 s1 hgo hS1 hg1 hg2 hz1;obtain⟨y,hy⟩:∃y,y=hs.getD a 0:=⟨_,rfl⟩
  have HY:=hid hy;clear hy;have h0:w2.cell? ⟨gh,oh+a,none⟩=some (.int .i64 y):=by
    rw[HB.out.cell (p:=⟨gh,oh+a,none⟩) HH.out.hh.ltI.2,HY.out];exact HH.out.hh.cellI a (by rw[HH.out.lh];exact ha6)
  rcases HK.out with⟨hk9,hcd⟩|⟨hk9,hcd,hn9⟩
  all_goals
    have HCD:=hid hcd;clear hcd
    first
      | (have g4 : (kind == 4) = false := by rw [hk9]; rfl
         clear hk9)
      | (have g4 : (kind == 4) = true := by rw [hk9]; rfl
         have hne:(y != addr)=false:=by
           rw[hat,←HY.out]at hn9;simpa using hn9
         clear hk9 hn9)
    go_wp2_with (first|(go_at_call 96;refine(zG1 _ _ _ _ _ _ _ _).mono ?_;rw[HW.out];rintro e w3 ⟨rfl,hbx⟩;obtain⟨f0', f1', f2', f3', f4', f5', f6'⟩:=ReqAt.below ⟨f0', f1', f2', f3', f4', f5', f6'⟩ hbx (ReqAt.lt ⟨f0', f1', f2', f3', f4', f5', f6'⟩);obtain⟨r0', r1', r2', r3', r4', r5'⟩:=RspAt.below ⟨r0', r1', r2', r3', r4', r5'⟩ hbx (RspAt.lt ⟨r0', r1', r2', r3', r4', r5'⟩);obtain⟨o0,o1,o2,o3,o4,o5⟩:=RspAt.below ⟨o0,o1,o2,o3,o4,o5⟩ hbx (RspAt.lt ⟨o0,o1,o2,o3,o4,o5⟩);have HB:=hid (HB.out.trans (hbx.mono HB.out.size));have q0':w3.cell? ⟨S,0,none⟩=some (.slice (some ⟨gw,ow,none⟩) 64 cw):=(by rw[HB.out.cell (p:=⟨S,0,none⟩) hS];exact HH.out.s0);have q1':w3.cell? ⟨S,1,none⟩=some (.slice (some ⟨gh,oh,none⟩) 6 ch):=(by rw[HB.out.cell (p:=⟨S,1,none⟩) hS];exact HH.out.s1);have hz2:go<w3.heap.size:=(RspAt.lt ⟨o0,o1,o2,o3,o4,o5⟩);have c3:w3.cell? ⟨mb,moff+k * 4+3,none⟩=some (.bool false):=(by rw[HB.out.cell (p:=⟨mb,moff+k * 4+3,none⟩) (by show mb<_;omega)];rw[←HON.out];exact HC3.out);have h0:w3.cell? ⟨gh,oh+a,none⟩=some (.int .i64 y):=(by rw[HB.out.cell (p:=⟨gh,oh+a,none⟩) HH.out.hh.ltI.2,HY.out];exact HH.out.hh.cellI a (by rw[HH.out.lh];exact ha6));clear hbx))
    go_quiet (fail)
    obtain⟨xs,hxs⟩:∃xs,xs=burst addr many wp:=⟨_,rfl⟩
    have HXS:=hid hxs;have hl4:xs.length≤4:=by rw[hxs];exact burst_len
    have HIN:=hid (show ∀x∈xs,0≤x∧x≤63 by rw[hxs];exact burst_in);have hdl:data.length=xs.length:=by rw[hxs];exact HDL.out
    have hll:lanes.length=xs.length:=by rw[hxs];exact HLL.out
    have HDL2:=hid hdl;have HLL2:=hid hll;clear hdl hll;clear hxs;obtain⟨w4,hw4⟩:∃w4,w4=w3.drewN nq:=⟨_,rfl⟩
    rw[←hw4];have hbx:Below w3.heap.size w3 w4:=by rw[hw4];exact Below.draws (Below.refl _ _) _
    obtain⟨f0', f1', f2', f3', f4', f5', f6'⟩:=ReqAt.below ⟨f0', f1', f2', f3', f4', f5', f6'⟩ hbx (ReqAt.lt ⟨f0', f1', f2', f3', f4', f5', f6'⟩);obtain⟨r0', r1', r2', r3', r4', r5'⟩:=RspAt.below ⟨r0', r1', r2', r3', r4', r5'⟩ hbx (RspAt.lt ⟨r0', r1', r2', r3', r4', r5'⟩);obtain⟨o0,o1,o2,o3,o4,o5⟩:=RspAt.below ⟨o0,o1,o2,o3,o4,o5⟩ hbx (RspAt.lt ⟨o0,o1,o2,o3,o4,o5⟩);have HB:=hid (HB.out.trans (hbx.mono HB.out.size));have q0':w4.cell? ⟨S,0,none⟩=some (.slice (some ⟨gw,ow,none⟩) 64 cw):=(by rw[HB.out.cell (p:=⟨S,0,none⟩) hS];exact HH.out.s0);have q1':w4.cell? ⟨S,1,none⟩=some (.slice (some ⟨gh,oh,none⟩) 6 ch):=(by rw[HB.out.cell (p:=⟨S,1,none⟩) hS];exact HH.out.s1);have hz2:go<w4.heap.size:=(RspAt.lt ⟨o0,o1,o2,o3,o4,o5⟩)
    clear hbx hw4
    go_wp2_with (first
      |(go_at_call 129;refine(reqBurst_val _ _ _ _ _ _ _ _).mono ?_;rintro e w3 ⟨u,rfl,hu,hbx,hfr⟩;rw[←HXS.out]at hu;obtain⟨ao,cap,hue,hlc,hcap,hln,hni,hr⟩:=hu.opened;subst hue;obtain⟨cu,hcu⟩:∃cu,cu=w3.heap.size:=⟨_,rfl⟩;have HU:=hid (show Ints w3 cu _ xs by rw[hcu];exact hu);replace hcu:cu≤w3.heap.size:=(by omega);have HF:=hid (show ∀k,(Value.slice ao xs.length cap).ownBlock=some k→go<k from fun k hk=>Nat.lt_of_lt_of_le hz2 (hfr k hk));clear hu hr hfr;obtain⟨f0', f1', f2', f3', f4', f5', f6'⟩:=ReqAt.below ⟨f0', f1', f2', f3', f4', f5', f6'⟩ hbx (ReqAt.lt ⟨f0', f1', f2', f3', f4', f5', f6'⟩);obtain⟨r0', r1', r2', r3', r4', r5'⟩:=RspAt.below ⟨r0', r1', r2', r3', r4', r5'⟩ hbx (RspAt.lt ⟨r0', r1', r2', r3', r4', r5'⟩);obtain⟨o0,o1,o2,o3,o4,o5⟩:=RspAt.below ⟨o0,o1,o2,o3,o4,o5⟩ hbx (RspAt.lt ⟨o0,o1,o2,o3,o4,o5⟩);have HB:=hid (HB.out.trans (hbx.mono HB.out.size));have q0':w3.cell? ⟨S,0,none⟩=some (.slice (some ⟨gw,ow,none⟩) 64 cw):=(by rw[HB.out.cell (p:=⟨S,0,none⟩) hS];exact HH.out.s0);have q1':w3.cell? ⟨S,1,none⟩=some (.slice (some ⟨gh,oh,none⟩) 6 ch):=(by rw[HB.out.cell (p:=⟨S,1,none⟩) hS];exact HH.out.s1);have hz2:go<w3.heap.size:=(RspAt.lt ⟨o0,o1,o2,o3,o4,o5⟩);clear hbx)
      |(go_at_call 96;refine(zG1 _ _ _ _ _ _ _ _).mono ?_;rw[HW.out];rintro e w5 ⟨rfl,hbx⟩;have HU:=hid (HU.out.below (hbx.mono hcu));replace hcu:cu≤w5.heap.size:=(Nat.le_trans hcu hbx.size);obtain⟨f0', f1', f2', f3', f4', f5', f6'⟩:=ReqAt.below ⟨f0', f1', f2', f3', f4', f5', f6'⟩ hbx (ReqAt.lt ⟨f0', f1', f2', f3', f4', f5', f6'⟩);obtain⟨r0', r1', r2', r3', r4', r5'⟩:=RspAt.below ⟨r0', r1', r2', r3', r4', r5'⟩ hbx (RspAt.lt ⟨r0', r1', r2', r3', r4', r5'⟩);obtain⟨o0,o1,o2,o3,o4,o5⟩:=RspAt.below ⟨o0,o1,o2,o3,o4,o5⟩ hbx (RspAt.lt ⟨o0,o1,o2,o3,o4,o5⟩);have HB:=hid (HB.out.trans (hbx.mono HB.out.size));have q0':w5.cell? ⟨S,0,none⟩=some (.slice (some ⟨gw,ow,none⟩) 64 cw):=(by rw[HB.out.cell (p:=⟨S,0,none⟩) hS];exact HH.out.s0);have q1':w5.cell? ⟨S,1,none⟩=some (.slice (some ⟨gh,oh,none⟩) 6 ch):=(by rw[HB.out.cell (p:=⟨S,1,none⟩) hS];exact HH.out.s1);have hz2:go<w5.heap.size:=(RspAt.lt ⟨o0,o1,o2,o3,o4,o5⟩);clear hbx))
    first
      | (obtain ⟨w7, hw7⟩ : ∃ w7, w7 = w5.setCell ⟨go, 1, none⟩ (.int .i64 2) := ⟨_, rfl⟩
         rw[←hw7];have ht67:Touch go w5 w7:=by rw[hw7];exact Touch.setCell ..)
      | (obtain ⟨w7, hw7⟩ : ∃ w7, w7 = w5 := ⟨_, rfl⟩
         rw[←hw7];have ht67:Touch go w5 w7:=by rw[hw7];exact Touch.refl _ _)
    have O0:w7.cell? ⟨go,0,none⟩=some (.int .i64 id):=by rw[hw7];simp[go_sem,o0]
    have O1:w7.cell? ⟨go,1,none⟩=some (.int .i64 cd):=by rw[hw7,HCD.out];simp[go_sem,o1]
    have O2:w7.cell? ⟨go,2,none⟩=some (.slice none 0 0):=by rw[hw7];simp[go_sem,o2]
    have hgo7:go<w7.heap.size:=by have:=ht67.size;omega
    have HB7:=hid (HB.out.trans (ht67.below (show w.heap.size≤go by omega) HB.out.size));have ga:∀g,g≠go→g<w5.heap.size→w7.heap[g]? = w5.heap[g]?:=fun g h1 h2=>ht67.block g h2 h1
    obtain⟨f0,f1,f2,f3,f4,f5,f6⟩:=ReqAt.heap ⟨f0', f1', f2', f3', f4', f5', f6'⟩ (ga _ (by omega) (ReqAt.lt ⟨f0', f1', f2', f3', f4', f5', f6'⟩));obtain⟨r0,r1,r2,r3,r4,r5⟩:=RspAt.heap ⟨r0', r1', r2', r3', r4', r5'⟩ (ga _ (by omega) (RspAt.lt ⟨r0', r1', r2', r3', r4', r5'⟩));have hU7:Ints w7 cu (.slice ao xs.length cap) xs:=by
      refine⟨?_,HU.out.2⟩;obtain⟨ao', cap', he,k1,k2,k3,k4,k5⟩:=HU.out.1;refine⟨ao', cap', he,k1,k2,k3,k4,fun hn=>?_⟩;obtain⟨b,off,ha,hb,hc⟩:=k5 hn;refine⟨b,off,ha,hb,fun t ht j hj=>?_⟩;rw[←hc t ht j hj];simp only[Value.slice.injEq]at he;have hbgo:go<b:=HF.out b (by rw[he.1,ha];rfl);exact Touch.cell ht67 (by show b≠go;omega) (by show b<_;omega)
    have HU7:=hid hU7;have hg1:w.heap.size<go:=by omega
    have hg2:w.heap.size+1<go:=by omega
    have hn7:=HB7.out.size;have hcu7:cu≤w7.heap.size:=Nat.le_trans hcu ht67.size;have hgh:gh<w.heap.size:=HH.out.hh.ltI.2;have hgw:gw<w.heap.size:=HH.out.ww.ltI.2;have hBw:=HH.out.ww.ltI.1;have hBh:=HH.out.hh.ltI.1;have hA7:=HH.out.kept HB7.out (Nat.le_refl _);have HA7:=hid hA7;clear hU7 ga ht67 hw7 f0' f1' f2' f3' f4' f5' f6' r0' r1' r2' r3' r4' r5' o0 o1 o2 o3 o4 o5 q0' q1' HB HU hz2 hcu hA7;have hne1:=HH.out.ne;have hne2:=HH.out.n1;have hne3:=HH.out.n2
    go_loopw [15,16,109] (fun _ _ i wr=>∃k:Nat,k≤xs.length∧i=.int .i64 k∧AtmAt wr B S gw ow cw gh oh ch (putK ws xs data lanes k) hs∧Touch2 gw gh w7 wr) (fun _ _ i _=>xs.length - (intOf i).toNat)
    case atStart=>exact⟨0,Nat.zero_le _,rfl,by rw[putK_zero];exact HA7.out,Touch2.refl _ _ _⟩
    case round=>
      obtain⟨k,hk,rfl,hat2,ht⟩:=hrel;have hsz:=ht.size;have HAT:=hid hat2;clear hat2;have HTT:=hid ht;obtain⟨f0', f1', f2', f3', f4', f5', f6'⟩:=ReqAt.heap (w':=wr) ⟨f0,f1,f2,f3,f4,f5,f6⟩ (ht.block _ (by omega) (by omega) (by omega));by_cases hlt:k<xs.length
      · obtain ⟨_, _, hue, _, _, _, _, hur⟩ := HU7.out.opened
        obtain⟨rfl,_,rfl⟩:=Value.slice.inj hue;obtain⟨b,off,rfl,hb,hc⟩:=hur (by omega);have hbgo:go<b:=HF.out b rfl;have hck:=hc k hlt;rw[←Touch2.cell ht (p:=⟨b,off+k,none⟩) (by show b≠gw;omega) (by show b≠gh;omega) (by show b<_;omega)]at hck;have hin:=HIN.out (xs.getD k 0) (zB5 hlt);have hstep:=putK_succ ws (xs:=xs) (ds:=data) (ls:=lanes) (k:=k) HDL2.out HLL2.out hlt;have hdl:=HDL2.out;have hll:=HLL2.out;obtain⟨m,hm⟩:=Int.eq_ofNat_of_zero_le hin.1;rw[hm]at hck hin hstep;have HM:=hid hm;clear hm hc hur hue;have hm64:m<64:=by omega
        have hBr:Below B w wr:=(HB7.out.mono hB).trans (ht.below hBw hBh (Nat.le_trans hB hn7));obtain⟨_,_,hde,_,_,_,_,hdr⟩:=(HDV.out.below hBr).opened;obtain⟨_,_,hle,_,_,_,_,hlr⟩:=(HLV.out.below hBr).opened;obtain⟨rfl,hdn,rfl⟩:=Value.slice.inj hde;obtain⟨rfl,hln2,rfl⟩:=Value.slice.inj hle;obtain⟨b1,off1,rfl,hb1,hc1⟩:=hdr (by omega);obtain⟨b2,off2,rfl,hb2,hc2⟩:=hlr (by omega);have hd1:=hc1 k (by omega);have hl1:=hc2 k (by omega);have hwc:=HAT.out.ww.cellI m (by rw[putK_len,HH.out.lw];exact hm64);have hwf:=HAT.out.ww.frozenI m;obtain⟨x,hx⟩:∃x,x=(putK ws xs data lanes k).getD m 0:=⟨_,rfl⟩
        obtain⟨d,hd⟩:∃d,d=data.getD k 0:=⟨_,rfl⟩
        obtain⟨l,hl⟩:∃l,l=lanes.getD k 0:=⟨_,rfl⟩
        rw[←hx]at hwc;rw[←hd]at hd1;rw[←hl]at hl1;rw[Int.toNat_natCast,←hx,←hd,←hl]at hstep;have HPut:=hid (fun W=>put_any x d l W (by rw[hx];exact getD_ok (putK_ok HWS.out HDO.out) (by decide)) (by rw[hd];exact getD_ok HDO.out (by decide)) (by rw[hl];exact getD_ok (p:=fun l=>inB l 0 3) HLO.out (by decide)));have HST:=hid hstep;clear hx hd hl hdr hlr hc1 hc2 hde hle hstep hBr ht;have p3:=HAT.out.s0;have hdk:(k:Int)<(dn:Int):=by omega
        have hlk:(k:Int)<(ln:Int):=by omega
        clear hdn hln2 hdl hll
        go_wp2
        have hmi:(m:Int)<64:=by omega
        refine wp_region_still_tail 26 (by kernel_rfl) (by kernel_rfl) ?_;obtain⟨w9,hw9⟩:∃w9,w9=wr.drew:=⟨_,rfl⟩
        change wpStill Tryz.prog _ wr.drew (fun a' => wpList Tryz.prog _ _ _ a' wr.drew) _ _;have y0:w9.cell? ⟨S,0,none⟩=some (.slice (some ⟨gw,ow,none⟩) 64 cw):=by rw[hw9];exact p3
        have y1:w9.cell? ⟨gw,ow+m,none⟩=some (.int .i64 x):=by rw[hw9];exact hwc
        have y2:w9.frozen? ⟨gw,ow+m,none⟩=false:=by rw[hw9];exact hwf
        have y3:w9.cell? ⟨w.heap.size,5,none⟩=some (.slice (some ⟨b1,off1,none⟩) dn dc):=by rw[hw9];exact f5'
        have y4:w9.cell? ⟨w.heap.size,6,none⟩=some (.slice (some ⟨b2,off2,none⟩) ln lc):=by rw[hw9];exact f6'
        have y5:w9.cell? ⟨b1,off1+k,none⟩=some (.int .i64 d):=by rw[hw9];exact hd1
        have y6:w9.cell? ⟨b2,off2+k,none⟩=some (.int .i64 l):=by rw[hw9];exact hl1
        rw[←hw9];have HNext:=hid ((show AtmAt w9 B S gw ow cw gh oh ch (putK ws xs data lanes k) hs by rw[hw9];exact HAT.out.kept ((Below.refl _ _).drew) (Nat.le_refl _)).putW m (putW x d l) hm64);rw[←HST.out]at HNext;have HT9:=hid (HTT.out.trans (show Touch2 gw gh wr w9 by rw[hw9];exact Touch2.of_below ((Below.refl _ _).drew) (Nat.le_refl _)));clear hw9;simp only[List.take_succ_cons,List.take_zero,List.drop_succ_cons,List.drop_zero]
        repeat still_step
        still_call ((HPut.out _).mono (fun _ _ h=>⟨h.1,h.2.symm⟩))
        repeat still_step
        refine wpStill_nil ?_
        go_wp2
        go_roundw
        case rel=>exact⟨k+1,by omega,by go_num,HNext.out,HT9.out.trans (Touch2.left ..)⟩
        case measure=>simp[intOf];omega
      · obtain rfl : k = xs.length := by omega
        have HA2:=HAT.out;rw[putK_all _ _ _ _ HDL2.out HLL2.out]at HA2;obtain⟨ws2,hws2⟩:∃ws2,ws2=zB6 ws xs data lanes:=⟨_,rfl⟩
        rw[←hws2]at HA2;have HWS2:=hid hws2;clear hws2 ht;obtain⟨wo,rfl⟩:∃wo:World,wo=wr:=⟨_,rfl⟩
        have q1:=HA2.s1;have HA3:=hid HA2;clear HA2;have hlh:=HH.out.lh;have HLH:=hid hlh;clear hlh
        go_wp2
        clear q1
        go_loopw [17,18,146] (fun _ _ i wr=>∃j:Nat,j≤6∧i=.int .i64 j∧AtmAt wr B S gw ow cw gh oh ch ws2 (freeK hs xs j)∧Touch2 gw gh w7 wr) (fun _ _ i _=>6 - (intOf i).toNat)
        case atStart=>exact⟨0,Nat.zero_le _,rfl,by rw[freeK_zero];exact HA3.out,HTT.out⟩
        case round=>
          obtain⟨j,hj,rfl,hat3,ht⟩:=hrel;have HAT3:=hid hat3;have HT3:=hid ht;by_cases hj6:j<6
          · have hUr : Ints wr cu (.slice ao xs.length cap) xs := HU7.out.heap (fun k hk hkc => by
              have:=HF.out k hk;exact ht.block k (by omega) (by omega) (by omega))
            have HUr:=hid hUr;have hcell:=hat3.hh.cellI j (by rw[freeK_len,HLH.out];exact hj6);rw[freeK_get (by rw[HLH.out];exact hj6)]at hcell;have hfr:=hat3.hh.frozenI j;have p1:=hat3.s1;obtain⟨y,hy⟩:∃y,y=hs.getD j 0:=⟨_,rfl⟩
            rw[←hy]at hcell;have hstep:=freeK_succ (hs:=hs) (xs:=xs) (k:=j) (by rw[HLH.out];exact hj6);rw[←hy]at hstep;rcases hct:xs.contains y with _|_
            · have HSame := hid (show freeK hs xs (j + 1) = freeK hs xs j by
                rw[hstep,zH8,if_neg (by rw[hct];simp)];exact set_self (by rw[freeK_get (by rw[HLH.out];exact hj6),hy]) (by rw[freeK_len,HLH.out];exact hj6))
              clear hstep hy hUr hat3 ht
              go_wp2_with (first|(go_at_call 131;refine(sContains_any _ xs y cu _ HUr.out).mono ?_;rw[hct];rintro e w' ⟨rfl,rfl⟩))
              go_roundw
              case rel=>exact⟨j+1,by omega,by go_num,by rw[HSame.out];exact HAT3.out,HT3.out⟩
              case measure=>simp[intOf];omega
            · have HNew := hid (show freeK hs xs (j + 1) = (freeK hs xs j).set j (-1) by
                rw[hstep,zH8,if_pos hct])
              clear hstep hy hUr hat3 ht
              go_wp2_with (first|(go_at_call 131;refine(sContains_any _ xs y cu _ HUr.out).mono ?_;rw[hct];rintro e w' ⟨rfl,rfl⟩))
              go_roundw
              case rel=>exact⟨j+1,by omega,by go_num,by rw[HNew.out];exact HAT3.out.putH j (-1) hj6,HT3.out.trans (Touch2.right ..)⟩
              case measure=>simp[intOf];omega
          · obtain rfl : j = 6 := by omega
            have hfa:freeK hs xs 6=zC6 hs xs:=by rw[←HLH.out];exact freeK_all hs xs
            rw[hfa]at HAT3;clear hat3 hfa;obtain⟨r0', r1', r2', r3', r4', r5'⟩:=RspAt.heap (w':=wr) ⟨r0,r1,r2,r3,r4,r5⟩ (ht.block _ (by omega) (by omega) (by omega));have p0:wr.cell? ⟨go,0,none⟩=some (.int .i64 id):=by rw[Touch2.cell ht (p:=⟨go,0,none⟩) (by show go≠gw;omega) (by show go≠gh;omega) (by show go<_;omega)];exact O0
            have p1:wr.cell? ⟨go,1,none⟩=some (.int .i64 cd):=by rw[Touch2.cell ht (p:=⟨go,1,none⟩) (by show go≠gw;omega) (by show go≠gh;omega) (by show go<_;omega)];exact O1
            have p2:wr.cell? ⟨go,2,none⟩=some (.slice none 0 0):=by rw[Touch2.cell ht (p:=⟨go,2,none⟩) (by show go≠gw;omega) (by show go≠gh;omega) (by show go<_;omega)];exact O2
            clear ht r0 r1 r2 r3 r4 r5 O0 O1 O2
            go_wp2
            have hTE:=hid ((((Touch2.trans (Touch2.of_below HB7.out (Nat.le_refl _)) HT3.out:Touch2 gw gh w wr).fresh (g:=w.heap.size+1) (o:=0) (u:=.int .i64 id) (by omega)).fresh (g:=w.heap.size+1) (o:=1) (u:=.int .i64 cd) (by omega)).fresh (g:=w.heap.size+1) (o:=2) (u:=.slice none 0 0) (by omega));refine bodyPost_ret (zB0 Tryz.results80 _ _ ⟨w.heap.size+1,0,none⟩ (.agg #[.int .i64 id,.int .i64 cd,.slice none 0 0]) rfl ?_) rfl ?_
            · exact zG3 _ _ _ _ _ (by simp[go_sem,r0']) (by simp[go_sem,r1']) (by simp[go_sem,r2'])
            refine⟨_,rfl,Owns.zero,?_,hTE.out⟩;rw[←HXS.out,←HWS2.out];exact(((HAT3.out.other _ 0 _ (by omega) (by omega) (by omega)).other _ 1 _ (by omega) (by omega) (by omega)).other _ 2 _ (by omega) (by omega) (by omega))
theorem zD2 {r : Rq} (h : reqOk r = true) : inB r.id 0 1 = true ∧ inB r.kind 1 4 = true ∧ adrOk r.addr r.many r.wrap = true ∧
  ((r.kind==2 || r.kind==4)=true→r.data.length=(burst r.addr r.many r.wrap).length∧r.lanes.length=(burst r.addr r.many r.wrap).length∧r.data.all zB1=true∧r.lanes.all (fun l=>inB l 0 3)=true)∧(r.kind=3∨r.kind=4→r.many=1):=by
 have h':=h;simp only[reqOk,Bool.and_eq_true]at h';obtain⟨⟨⟨⟨h1,h2⟩,h3⟩,h4⟩,h5⟩:=h';refine⟨h1,h2,h3,fun hw=>?_,fun hk=>?_⟩
 ·unfold zB8 at h5;rw[if_pos hw]at h5;simp only[Bool.and_eq_true,beq_iff_eq]at h5;obtain⟨⟨⟨h6,h7⟩,h8⟩,h9⟩:=h5;have hl:(burst r.addr r.many r.wrap).length=r.many.toNat:=by rw[zH5 h3,burstK_len]
  exact⟨by omega,by omega,h8,h9⟩
 ·simp only[Bool.or_eq_true,beq_iff_eq]at h4;omega
theorem do_any (v u : Value) (ms : List MR) (B S gw ow cw gh oh ch : Nat) (ws hs : List Int) (who : Int) (r : Rq) (w : World) (hv : Maps w B v ms) (h : AtmAt w B S gw ow cw gh oh ch ws hs) (hu : ReqV w B u r) (hwho : inB who 0 2 = true) (hq : reqOk r = true) (hws : ws.all zB1 = true) :
  Calls Tryz.prog 80 #[.pointer (some ⟨S,0,none⟩),v,.int .i64 who,u] w (DoP B S gw ow cw gh oh ch (doReq ms ws hs who r).1 (doReq ms ws hs who r).2.1 (doReq ms ws hs who r).2.2 w):=by
 obtain⟨h1,h2,h3,h4,h5⟩:=zD2 hq;obtain⟨dv,lv,rfl,k1,k2,k3⟩:=hu;have hd1:∃a n c,dv=.slice a n c:=by obtain⟨a,c,h,_⟩:=k1.1;exact⟨_,_,_,h⟩
 have hd2:∃a n c,lv=.slice a n c:=by obtain⟨a,c,h,_⟩:=k2.1;exact⟨_,_,_,h⟩
 have haddr:inB r.addr 0 63=true:=by
  obtain⟨g0,g1,_⟩:=(zI4 r.addr r.many r.wrap).1 h3;simp[inB,g0,g1]
 have hkk:1≤r.kind∧r.kind≤4:=by simpa[inB]using h2
 by_cases hz:zA5 ms (burst r.addr r.many r.wrap)<0
 ·have e:doReq ms ws hs who r=(ws,hs,⟨r.id,4,[]⟩):=by simp[doReq,zA4,hz]
  rw[e];exact do_none v ms B S gw ow cw gh oh ch ws hs who _ _ _ _ _ dv lv w hv h hd1 hd2 hwho h1 hz
 ·have hz0:0≤zA5 ms (burst r.addr r.many r.wrap):=by omega
  rcases hw:zB8 r with _|_
  ·have hk:r.kind=1∨r.kind=3:=by simp[zB8]at hw;omega
   rcases hk with hk|hk
   ·have e:doReq ms ws hs who r=(ws,hs,⟨r.id,1,zC7 ws (burst r.addr r.many r.wrap)⟩):=by
     simp[doReq,zA4,hz,hw,hk]
    rw[e];exact do_rh v ms B S gw ow cw gh oh ch ws hs who _ _ _ _ _ dv lv w hv h hd1 hd2 hwho h1 hz0 _ _ (.inl ⟨hk,rfl,rfl⟩) haddr
   ·have e:doReq ms ws hs who r=(ws,hs.set (who * 2+r.id).toNat r.addr,⟨r.id,2,zC7 ws (burst r.addr r.many r.wrap)⟩):=by
     simp[doReq,zA4,hz,hw,hk]
    rw[e];exact do_rh v ms B S gw ow cw gh oh ch ws hs who _ _ _ _ _ dv lv w hv h hd1 hd2 hwho h1 hz0 _ _ (.inr ⟨hk,rfl,rfl⟩) haddr
  ·have hw':(r.kind==2 || r.kind==4)=true:=hw;obtain⟨d1,d2,d3,d4⟩:=h4 hw';rcases ho:(ms.getD (zA5 ms (burst r.addr r.many r.wrap)).toNat default).only with _|_
   ·have hk:r.kind=2∨r.kind=4:=by simpa using hw'
    rcases hk with hk|hk
    ·have e:doReq ms ws hs who r=(zB6 ws (burst r.addr r.many r.wrap) r.data r.lanes,zC6 hs (burst r.addr r.many r.wrap),⟨r.id,1,[]⟩):=by
      simp[doReq,zA4,hz,hw,ho,hk,-List.getD_eq_getElem?_getD]
     rw[e];exact do_wt v ms B S gw ow cw gh oh ch ws hs who _ _ _ _ _ dv lv w hv h hwho h1 hz0 _ (.inl ⟨hk,rfl⟩) ho _ _ k1 k2 d1 d2 d3 d4 hws
    ·by_cases hh:hs.getD (who * 2+r.id).toNat 0=r.addr
     ·have e:doReq ms ws hs who r=(zB6 ws (burst r.addr r.many r.wrap) r.data r.lanes,zC6 hs (burst r.addr r.many r.wrap),⟨r.id,2,[]⟩):=by
       simp[doReq,zA4,hz,hw,ho,hk,hh,-List.getD_eq_getElem?_getD]
      rw[e];exact do_wt v ms B S gw ow cw gh oh ch ws hs who _ _ _ _ _ dv lv w hv h hwho h1 hz0 _ (.inr ⟨hk,rfl,hh⟩) ho _ _ k1 k2 d1 d2 d3 d4 hws
     ·have e:doReq ms ws hs who r=(ws,hs,⟨r.id,1,[]⟩):=by
       simp[doReq,zA4,hz,hw,ho,hk,hh,-List.getD_eq_getElem?_getD]
      rw[e];exact do_tryno v ms B S gw ow cw gh oh ch ws hs who _ _ _ _ _ dv lv w hv h hd1 hd2 hwho h1 hz0 (by rw[hk];rfl) ho hh
   ·have e:doReq ms ws hs who r=(ws,hs,⟨r.id,3,[]⟩):=by
     simp[doReq,zA4,hz,hw,ho,-List.getD_eq_getElem?_getD]
    rw[e];exact do_deny v ms B S gw ow cw gh oh ch ws hs who _ _ _ _ _ dv lv w hv h hd1 hd2 hwho h1 hz0 hw' ho
theorem doReq_ok {ms:List MR} {ws hs:List Int} {who:Int} {r:Rq} (hwho:inB who 0 2=true) (hq:reqOk r=true) (ha:atmOk ws hs=true):atmOk (doReq ms ws hs who r).1 (doReq ms ws hs who r).2.1=true:=by
 obtain⟨h1,h2,h3,h4,h5⟩:=zD2 hq;have ha':=ha;simp only[atmOk,memOk,Bool.and_eq_true,beq_iff_eq]at ha';obtain⟨⟨⟨a1,a2⟩,a3⟩,a4⟩:=ha';have haddr:inB r.addr (-1) 63=true:=by
  obtain⟨g0,g1,_⟩:=(zI4 r.addr r.many r.wrap).1 h3;simp[inB];omega
 have hkk:1≤r.kind∧r.kind≤4:=by simpa[inB]using h2
 by_cases hz:zA5 ms (burst r.addr r.many r.wrap)<0
 ·have e:doReq ms ws hs who r=(ws,hs,⟨r.id,4,[]⟩):=by simp[doReq,zA4,hz]
  rw[e];exact ha
 ·rcases hw:zB8 r with _|_
  ·have hk:r.kind=1∨r.kind=3:=by simp[zB8]at hw;omega
   rcases hk with hk|hk
   ·have e:doReq ms ws hs who r=(ws,hs,⟨r.id,1,zC7 ws (burst r.addr r.many r.wrap)⟩):=by simp[doReq,zA4,hz,hw,hk]
    rw[e];exact ha
   ·have e:doReq ms ws hs who r=(ws,hs.set (who * 2+r.id).toNat r.addr,⟨r.id,2,zC7 ws (burst r.addr r.many r.wrap)⟩):=by simp[doReq,zA4,hz,hw,hk]
    rw[e];simp only[atmOk,memOk,Bool.and_eq_true,beq_iff_eq];exact⟨⟨⟨a1,a2⟩,by simpa using a3⟩,all_set (p:=fun h=>inB h (-1) 63) a4 haddr⟩
  ·have hw':(r.kind==2 || r.kind==4)=true:=hw;obtain⟨d1,d2,d3,d4⟩:=h4 hw';rcases ho:(ms.getD (zA5 ms (burst r.addr r.many r.wrap)).toNat default).only with _|_
   ·by_cases hh:(r.kind==4&&!(hs.getD (who * 2+r.id).toNat 0==r.addr))=true
    ·have e:(doReq ms ws hs who r).1=ws∧(doReq ms ws hs who r).2.1=hs:=by
      have hk:r.kind=4:=by simp at hh;exact hh.1
      have hn:¬hs.getD (who * 2+r.id).toNat 0=r.addr:=by simp only[Bool.and_eq_true,Bool.not_eq_true', beq_eq_false_iff_ne]at hh;exact hh.2
      simp[doReq,zA4,hz,hw,ho,hk,hn,-List.getD_eq_getElem?_getD]
     rw[e.1,e.2];exact ha
    ·have e:(doReq ms ws hs who r).1=zB6 ws (burst r.addr r.many r.wrap) r.data r.lanes∧(doReq ms ws hs who r).2.1=zC6 hs (burst r.addr r.many r.wrap):=by
      have hk:r.kind=2∨r.kind=4:=by simpa using hw'
      rcases hk with hk|hk
      ·simp[doReq,zA4,hz,hw,ho,hk,-List.getD_eq_getElem?_getD]
      ·have hn:hs.getD (who * 2+r.id).toNat 0=r.addr:=by
        simp only[hk,Bool.not_eq_true,Bool.and_eq_false_iff,Bool.not_eq_false', beq_iff_eq]at hh;rcases hh with hh|hh
        ·simp at hh
        ·exact hh
       simp[doReq,zA4,hz,hw,ho,hk,hn,-List.getD_eq_getElem?_getD]
     rw[e.1,e.2];simp only[atmOk,memOk,Bool.and_eq_true,beq_iff_eq];exact⟨⟨⟨by rw[zI6];exact a1,putAll_ok _ _ _ _ a2 d3⟩,by simpa[zC6]using a3⟩,freeAll_ok a4⟩
   ·have e:doReq ms ws hs who r=(ws,hs,⟨r.id,3,[]⟩):=by simp[doReq,zA4,hz,hw,ho,-List.getD_eq_getElem?_getD]
    rw[e];exact ha
def atmDo (ms:List MR) (ws hs:List Int) (who:Int) (r:Rq):List Int×List Int×Rs :=
 if(mapOk ms&&atmOk ws hs&&inB who 0 2&&reqOk r)=true then doReq ms ws hs who r else([],[],⟨0,0,[]⟩)
theorem Owns.someI {w:World} {base e:Nat} {v:Value} {xs:List Int} (h:Owns w base e 1 rowI v xs) (hn:xs.length≠0):∃g off c,v=.slice (some ⟨g,off,none⟩) xs.length c∧xs.length≤c∧base≤g∧g<w.heap.size:=by
 have hlt:=OwnR.lt h;obtain⟨hl,h2⟩:=h;rcases h2 with⟨_,h2⟩|⟨g,off,cap,cur,rfl,hg,hh,hle,hmax,hsz,hc⟩
 ·exact absurd h2 hn
 ·exact⟨g,off,cap,rfl,hle,hg,(hlt g rfl).2⟩
theorem ad_copy {w1 w2 : World} {base : Nat} {wv hv : Value} {ws hs : List Int} (T : TypeId) (h1 : Owns w2 w1.heap.size 3 1 rowI wv ws) (h2 : Owns w2 w1.heap.size 3 1 rowI hv hs) (ha : Apart wv hv) (lw : ws.length = 64) (lh : hs.length = 6) (hb : base ≤ w1.heap.size) (hs2 : w1.heap.size ≤ w2.heap.size) :
  ∃gw ow cw gh oh ch,wv=.slice (some ⟨gw,ow,none⟩) 64 cw∧hv=.slice (some ⟨gh,oh,none⟩) 6 ch∧w1.heap.size≤gw∧w1.heap.size≤gh∧gw<w2.heap.size∧gh<w2.heap.size∧AtmAt (w2.alloc (.cells #[wv,hv] T)) base w2.heap.size gw ow cw gh oh ch ws hs:=by
 obtain⟨gw,ow,cw,rfl,c1,g1,g2⟩:=h1.someI (by omega);obtain⟨gh,oh,ch,rfl,c2,k1,k2⟩:=h2.someI (by omega);rw[lw]at c1;rw[lh]at c2;have hne:gw≠gh:=by
  intro e;exact ha gw rfl (by rw[e];rfl)
 have a1:=(h1.rebase hb).below (((Below.refl _ _).alloc (Nat.le_refl _) (.cells #[Value.slice (some ⟨gw,ow,none⟩) ws.length cw,Value.slice (some ⟨gh,oh,none⟩) hs.length ch] T)));have a2:=(h2.rebase hb).below (((Below.refl _ _).alloc (Nat.le_refl _) (.cells #[Value.slice (some ⟨gw,ow,none⟩) ws.length cw,Value.slice (some ⟨gh,oh,none⟩) hs.length ch] T)));simp only[lw,lh]at a1 a2 ⊢;exact⟨gw,ow,cw,gh,oh,ch,rfl,rfl,g1,k1,g2,k2,⟨by simp[go_sem],by simp[go_sem],a1,a2,hne,by omega,by omega,by omega,lw,lh,c1,c2⟩⟩
end Go.Proofs.YtgkdoehkmbhfiaaGreat
namespace Go.Proofs.YtgkdoehkmbhfiaaGreat
theorem ext_getD {xs ys:List Int} (hl:xs.length=ys.length) (h:∀n,n<xs.length→xs.getD n 0=ys.getD n 0):xs=ys:=by
 apply List.ext_getElem hl;intro i h1 h2;have:=h i h1;simpa[List.getD,h1,h2]using this
theorem burst_mem {a m:Int} {wp:Bool} {x:Int} (h:x∈burst a m wp):0≤x∧x≤63:=by
 rcases hA:adrOk a m wp with _|_
 ·rw[burst_no hA]at h;simp at h
 ·rw[zH5 hA]at h;obtain⟨h0,h1,hm,hw⟩:=(zI4 a m wp).1 hA;obtain⟨j,hj,rfl⟩:=List.mem_map.1 h;rw[List.mem_range]at hj;cases wp
  ·simp at hw;simp;omega
  ·simp;rcases hm with rfl|rfl|rfl <;> omega
theorem burst_nodup (a m:Int) (wp:Bool):(burst a m wp).Nodup:=by
 rcases hA:adrOk a m wp with _|_
 ·rw[burst_no hA];exact List.nodup_nil
 ·rw[zH5 hA];obtain⟨h0,h1,hm,hw⟩:=(zI4 a m wp).1 hA;unfold zG0 List.Nodup;rw[List.pairwise_map];refine List.Pairwise.imp_of_mem ?_ (List.nodup_range (n:=m.toNat));intro i j hi hj hne;rw[List.mem_range]at hi hj;cases wp
  ·simp;omega
  ·simp;rcases hm with rfl|rfl|rfl <;> omega
theorem burst_lenA {a m:Int} {wp:Bool} (h:adrOk a m wp=true):(burst a m wp).length=m.toNat:=by rw[zH5 h,burstK_len]
theorem lget_set_ne {xs:List Int} {i j:Nat} {x:Int} (h:i≠j):(xs.set i x).getD j 0=xs.getD j 0:=by
 simp[List.getD,List.getElem?_set,h]
theorem lget_set_self {xs:List Int} {i:Nat} {x:Int} (h:i<xs.length):(xs.set i x).getD i 0=x:=by
 simp[List.getD,h]
theorem zD5 : ∀ (all ds ls ws : List Int) (n : Nat), (∀ a ∈ all, a.toNat ≠ n) → (zB6 ws all ds ls).getD n 0 = ws.getD n 0
 |[],_,_,ws,n,_=>by simp[zB6]
 |_::_,[],_,ws,n,_=>by simp[zB6]
 |_::_,_::_,[],ws,n,_=>by simp[zB6]
 |a::all,d::ds,l::ls,ws,n,h=>by
  rw[zB6,zD5 all ds ls _ n (fun b hb=>h b (List.mem_cons_of_mem _ hb))];exact lget_set_ne (h a (List.mem_cons_self ..))
theorem putAll_in : ∀ (all ds ls ws : List Int) (k : Nat), all.Nodup → (∀ a ∈ all, 0 ≤ a ∧ a.toNat < ws.length) → k < all.length → ds.length = all.length → ls.length = all.length →
    (zB6 ws all ds ls).getD (all.getD k 0).toNat 0=putW (ws.getD (all.getD k 0).toNat 0) (ds.getD k 0) (ls.getD k 0)
  |[],_,_,ws,k,_,_,hk,_,_=>by simp at hk
  |_::_,[],_,ws,k,_,_,hk,h1,_=>by simp at h1
  |_::_,_::_,[],ws,k,_,_,hk,_,h2=>by simp at h2
  |a::all,d::ds,l::ls,ws,0,hn,hr,hk,h1,h2=>by
    have ha:=hr a (List.mem_cons_self ..);rw[List.nodup_cons]at hn;rw[zB6];simp only[List.getD_cons_zero];rw[zD5 all ds ls _ _ (fun b hb e=>hn.1 (by have:=hr b (List.mem_cons_of_mem _ hb);have:b=a:=(by omega);rwa [←this])),lget_set_self ha.2]
  |a::all,d::ds,l::ls,ws,k+1,hn,hr,hk,h1,h2=>by
    have ha:=hr a (List.mem_cons_self ..);rw[List.nodup_cons]at hn;have hk':k<all.length:=by simpa using hk
    have hm:all.getD k 0∈all:=zB5 hk';have hb:=hr _ (List.mem_cons_of_mem _ hm);rw[zB6];simp only[List.getD_cons_succ];rw[putAll_in all ds ls _ k hn.2 (fun b hb=>by have:=hr b (List.mem_cons_of_mem _ hb);simpa using this) hk' (by simpa using h1) (by simpa using h2)]
    rw [lget_set_ne (fun e => hn.1 (by have : a = all.getD k 0 := by omega
                                       rw[this];exact hm))]
theorem freeOne_eq (xs:List Int) (h:Int):zH8 xs h=if h∈xs then -1 else h:=by simp[zH8]
theorem freeAll_get {hs xs:List Int} {k:Nat} (h:k<hs.length):(zC6 hs xs).getD k 0=zH8 xs (hs.getD k 0):=by
 simp[zC6,zH8,List.getD,h]
theorem wholeOf_iff {ms:List MR} {xs:List Int} {k:Int} (hk:0≤k):zA5 ms xs=k↔xs≠[]∧∀x∈xs,rngOf ms x=k:=by
 rcases xs with _|⟨a,rest⟩
 ·simp[zA5];omega
 ·simp only[zA5]
  constructor
  ·intro h;refine⟨by simp,?_⟩;rcases hc:rest.all (fun b=>rngOf ms b==rngOf ms a)with _|_
   ·rw[hc]at h;simp at h;omega
   ·rw[hc,if_pos rfl]at h;intro x hx;rw[List.all_eq_true]at hc;rcases List.mem_cons.1 hx with rfl|hx
    ·exact h
    ·have:=hc x hx;rw[beq_iff_eq]at this;omega
  ·rintro⟨_,h⟩;have ha:=h a (List.mem_cons_self ..);rw[if_pos ?_]
   ·exact ha
   ·rw[List.all_eq_true];intro x hx;rw[beq_iff_eq,ha];exact h x (List.mem_cons_of_mem _ hx)
theorem do_ways (ms : List MR) (ws hs : List Int) (who : Int) (r : Rq) :
  doReq ms ws hs who r = if zA5 ms (zA4 r) < 0 then (ws, hs, ⟨r.id, 4, []⟩)
   else if(zB8 r&&(ms.getD (zA5 ms (zA4 r)).toNat default).only)=true then(ws,hs,⟨r.id,3,[]⟩)
   else if(r.kind==1)=true then(ws,hs,⟨r.id,1,zC7 ws (zA4 r)⟩)
   else if(r.kind==3)=true then(ws,hs.set (who * 2+r.id).toNat r.addr,⟨r.id,2,zC7 ws (zA4 r)⟩)
   else if(r.kind==4&&!(hs.getD (who * 2+r.id).toNat 0==r.addr))=true then(ws,hs,⟨r.id,1,[]⟩)
   else(zB6 ws (zA4 r) r.data r.lanes,zC6 hs (zA4 r),⟨r.id,if r.kind==4 then 2 else 1,[]⟩):=rfl
inductive Way (ms : List MR) (ws hs : List Int) (who : Int) (r : Rq) : List Int × List Int × Rs → Prop
 |none (h:zA5 ms (zA4 r)<0):Way ms ws hs who r (ws,hs,⟨r.id,4,[]⟩)
 |deny (h:0≤zA5 ms (zA4 r)) (hk:r.kind=2∨r.kind=4) (ho:(ms.getD (zA5 ms (zA4 r)).toNat default).only=true):Way ms ws hs who r (ws,hs,⟨r.id,3,[]⟩)
 |read (h:0≤zA5 ms (zA4 r)) (hk:r.kind=1):Way ms ws hs who r (ws,hs,⟨r.id,1,zC7 ws (zA4 r)⟩)
 |hold (h:0≤zA5 ms (zA4 r)) (hk:r.kind=3):Way ms ws hs who r (ws,hs.set (who * 2+r.id).toNat r.addr,⟨r.id,2,zC7 ws (zA4 r)⟩)
 |tryno (h:0≤zA5 ms (zA4 r)) (hk:r.kind=4) (ho:(ms.getD (zA5 ms (zA4 r)).toNat default).only=false) (hh:hs.getD (who * 2+r.id).toNat 0≠r.addr):Way ms ws hs who r (ws,hs,⟨r.id,1,[]⟩)
 |write (h:0≤zA5 ms (zA4 r)) (hk:r.kind=2) (ho:(ms.getD (zA5 ms (zA4 r)).toNat default).only=false):Way ms ws hs who r (zB6 ws (zA4 r) r.data r.lanes,zC6 hs (zA4 r),⟨r.id,1,[]⟩)
 |tryyes (h:0≤zA5 ms (zA4 r)) (hk:r.kind=4) (ho:(ms.getD (zA5 ms (zA4 r)).toNat default).only=false) (hh:hs.getD (who * 2+r.id).toNat 0=r.addr):Way ms ws hs who r (zB6 ws (zA4 r) r.data r.lanes,zC6 hs (zA4 r),⟨r.id,2,[]⟩)
theorem way_of (ms:List MR) (ws hs:List Int) (who:Int) (r:Rq) (hk:1≤r.kind∧r.kind≤4):Way ms ws hs who r (doReq ms ws hs who r):=by
 rw[do_ways];by_cases h:zA5 ms (zA4 r)<0
 ·rw[if_pos h];exact .none h
 ·rw[if_neg h];have h0:0≤zA5 ms (zA4 r):=by omega
  have hkk:r.kind=1∨r.kind=2∨r.kind=3∨r.kind=4:=by omega
  rcases ho:(ms.getD (zA5 ms (zA4 r)).toNat default).only with _|_
  ·rw[if_neg (by simp)];rcases hkk with hk|hk|hk|hk
   ·rw[if_pos (by simp[hk])];exact .read h0 hk
   ·rw[if_neg (by simp[hk]),if_neg (by simp[hk]),if_neg (by simp[hk])];simp only[hk];exact .write h0 hk ho
   ·rw[if_neg (by simp[hk]),if_pos (by simp[hk])];exact .hold h0 hk
   ·rw[if_neg (by simp[hk]),if_neg (by simp[hk])];by_cases hh:hs.getD (who * 2+r.id).toNat 0=r.addr
    ·rw[if_neg (by simp only[hh];simp)];simp only[hk];exact .tryyes h0 hk ho hh
    ·rw[if_pos (by simp only[Bool.and_eq_true,beq_iff_eq,Bool.not_eq_true', beq_eq_false_iff_ne];exact⟨hk,hh⟩)];exact .tryno h0 hk ho hh
  ·rcases hkk with hk|hk|hk|hk
   ·rw[if_neg (by simp[zB8,hk]),if_pos (by simp[hk])];exact .read h0 hk
   ·rw[if_pos (by simp[zB8,hk])];exact .deny h0 (.inl hk) ho
   ·rw[if_neg (by simp[zB8,hk]),if_neg (by simp[hk]),if_pos (by simp[hk])];exact .hold h0 hk
   ·rw[if_pos (by simp[zB8,hk])];exact .deny h0 (.inr hk) ho
def atmOkk (ms:List MR) (ws hs:List Int) (who:Int) (r:Rq):Bool:=mapOk ms&&atmOk ws hs&&inB who 0 2&&reqOk r
theorem zM1 {ms:List MR} {ws hs:List Int} {who:Int} {r:Rq} (h:atmOkk ms ws hs who r=true):atmDo ms ws hs who r=doReq ms ws hs who r:=if_pos h
theorem atmDo_no {ms:List MR} {ws hs:List Int} {who:Int} {r:Rq} (h:atmOkk ms ws hs who r=false):atmDo ms ws hs who r=([],[],⟨0,0,[]⟩):=if_neg (by rw[show(mapOk ms&&atmOk ws hs&&inB who 0 2&&reqOk r)=atmOkk ms ws hs who r from rfl,h];simp)
theorem okk_parts {ms:List MR} {ws hs:List Int} {who:Int} {r:Rq}:atmOkk ms ws hs who r=true↔mapOk ms=true∧atmOk ws hs=true∧inB who 0 2=true∧reqOk r=true:=by
 simp[atmOkk,and_assoc]
theorem zJ9 {ws hs:List Int} (h:atmOk ws hs=true):ws.length=64∧hs.length=6∧ws.all zB1=true∧hs.all (fun h=>inB h (-1) 63)=true:=by
 simp only[atmOk,memOk,Bool.and_eq_true,beq_iff_eq]at h;exact⟨h.1.1.1,h.1.2,h.1.1.2,h.2⟩
theorem kind_of {r:Rq} (h:reqOk r=true):1≤r.kind∧r.kind≤4:=by
 have:=(zD2 h).2.1;simpa[inB]using this
theorem adr_of {r:Rq} (h:reqOk r=true):adrOk r.addr r.many r.wrap=true:=(zD2 h).2.2.1
theorem id_of {r:Rq} (h:reqOk r=true):0≤r.id∧r.id≤1:=by
 have:=(zD2 h).1;simpa[inB]using this
theorem spot_or (all:List Int) (n:Nat):(∃k,k<all.length∧(all.getD k 0).toNat=n)∨∀a∈all,a.toNat≠n:=by
 by_cases h:∃k,k<all.length∧(all.getD k 0).toNat=n
 ·exact .inl h
 ·refine .inr fun a ha e=>h ?_
  obtain⟨i,hi,rfl⟩:=List.mem_iff_getElem.1 ha;exact⟨i,hi,by simpa[List.getD,hi]using e⟩
structure Ok1 (ms:List MR) (ws hs:List Int) (who:Int) (r:Rq):Prop where
 m:mapOk ms=true
 a:atmOk ws hs=true
 w:inB who 0 2=true
 rok:reqOk r=true
 l:ws.length=64
 h:hs.length=6
 ww:ws.all zB1=true
 hh:hs.all (fun h=>inB h (-1) 63)=true
 k:1≤r.kind∧r.kind≤4
 i:0≤r.id∧r.id≤1
 ad:adrOk r.addr r.many r.wrap=true
 wh:0≤who∧who≤2
 rng:∀x∈zA4 r,0≤x∧x.toNat<ws.length
 nd:(zA4 r).Nodup
theorem ok1_of {ms:List MR} {ws hs:List Int} {who:Int} {r:Rq} (h:atmOkk ms ws hs who r=true):Ok1 ms ws hs who r:=by
 obtain⟨h1,h2,h3,h4⟩:=okk_parts.1 h;obtain⟨a1,a2,a3,a4⟩:=zJ9 h2;exact⟨h1,h2,h3,h4,a1,a2,a3,a4,kind_of h4,id_of h4,adr_of h4,by simpa[inB]using h3,fun x hx=>by have:=burst_mem hx;omega,burst_nodup _ _ _⟩
theorem Ok1.data {ms:List MR} {ws hs:List Int} {who:Int} {r:Rq} (h:Ok1 ms ws hs who r) (hk:r.kind=2∨r.kind=4):r.data.length=(zA4 r).length∧r.lanes.length=(zA4 r).length∧r.data.all zB1=true∧r.lanes.all (fun l=>inB l 0 3)=true :=
 (zD2 h.rok).2.2.2.1 (by rcases hk with hk|hk <;> simp[hk])
theorem hold_len {ms:List MR} {ws hs:List Int} {who:Int} {r:Rq} (hok:atmOkk ms ws hs who r=true):atmOk (atmDo ms ws hs who r).1 (atmDo ms ws hs who r).2.1=true:=by
 have o:=ok1_of hok;rw[zM1 hok];exact doReq_ok o.w o.rok o.a
theorem getAll_len (ws all:List Int):(zC7 ws all).length=all.length:=by simp[zC7]
def readB (r:Rq) (code:Int):Bool:=(r.kind==1&&code==1) || (r.kind==3&&code==2)
theorem data_law {ms : List MR} {ws hs : List Int} {who : Int} {r : Rq} (hok : atmOkk ms ws hs who r = true) :
  (atmDo ms ws hs who r).2.2.data=if readB r (atmDo ms ws hs who r).2.2.code=true then zC7 ws (zA4 r) else[]:=by
 have o:=ok1_of hok;rw[zM1 hok];have hw:=way_of ms ws hs who r o.k;generalize doReq ms ws hs who r=x at hw ⊢;cases hw with
 |none h=>simp[readB]
 |deny h hk ho=>simp[readB]
 |read h hk=>simp[readB,hk]
 |hold h hk=>simp[readB,hk]
 |tryno h hk ho hh=>simp[readB,hk]
 |write h hk ho=>simp[readB,hk]
 |tryyes h hk ho hh=>simp[readB,hk]
theorem rsp_law {ms:List MR} {ws hs:List Int} {who:Int} {r:Rq} (hok:atmOkk ms ws hs who r=true):rspOk (atmDo ms ws hs who r).2.2=true∧(atmDo ms ws hs who r).2.2.id=r.id:=by
 have o:=ok1_of hok;have hd:=data_law hok;rw[zM1 hok]at hd ⊢;have hw:=way_of ms ws hs who r o.k;have hi0:=o.i.1;have hi1:=o.i.2;have hdat:(zC7 ws (zA4 r)).all zB1=true∧(zC7 ws (zA4 r)).length≤4:=by
  refine⟨?_,?_⟩
  ·rw[List.all_eq_true];intro x hx;obtain⟨a,_,rfl⟩:=List.mem_map.1 hx;exact getD_ok o.ww (by decide)
  ·rw[getAll_len];have:=burst_lenA o.ad;have hm:=((zI4 _ _ _).1 o.ad).2.2.1;unfold zA4;omega
 generalize doReq ms ws hs who r=x at hw hd ⊢;cases hw with
 |none h=>simp[rspOk,hi0,hi1,inB]
 |deny h hk ho=>simp[rspOk,hi0,hi1,inB]
 |read h hk=>simp[rspOk,hi0,hi1,hdat.1,hdat.2,inB]
 |hold h hk=>simp[rspOk,hi0,hi1,hdat.1,hdat.2,inB]
 |tryno h hk ho hh=>simp[rspOk,hi0,hi1,inB]
 |write h hk ho=>simp[rspOk,hi0,hi1,inB]
 |tryyes h hk ho hh=>simp[rspOk,hi0,hi1,inB]
end Go.Proofs.YtgkdoehkmbhfiaaGreat
namespace Go.Proofs.YtgkdoehkmbhfiaaGreat
def doesW (ms:List MR) (hs:List Int) (who:Int) (r:Rq):Bool :=
 decide (0≤zA5 ms (zA4 r))&&!(ms.getD (zA5 ms (zA4 r)).toNat default).only&&(r.kind==2 || (r.kind==4&&hs.getD (who * 2+r.id).toNat 0==r.addr))
def doesH (ms:List MR) (r:Rq):Bool:=decide (0≤zA5 ms (zA4 r))&&r.kind==3
def newW (ms:List MR) (ws hs:List Int) (who:Int) (r:Rq):List Int:=if doesW ms hs who r=true then zB6 ws (zA4 r) r.data r.lanes else ws
def newH (ms:List MR) (hs:List Int) (who:Int) (r:Rq):List Int:=if doesW ms hs who r=true then zC6 hs (zA4 r) else if doesH ms r=true then hs.set (who * 2+r.id).toNat r.addr else hs
def newC (ms:List MR) (w:Bool) (r:Rq):Int :=
 if zA5 ms (zA4 r)<0 then 4 else if(zB8 r&&(ms.getD (zA5 ms (zA4 r)).toNat default).only)=true then 3 else if r.kind=3∨(r.kind=4∧w=true) then 2 else 1
def newD (ms:List MR) (ws:List Int) (r:Rq):List Int:=if 0≤zA5 ms (zA4 r)∧(r.kind=1∨r.kind=3) then zC7 ws (zA4 r) else[]
theorem do_new {ms : List MR} {ws hs : List Int} {who : Int} {r : Rq} (hk : 1 ≤ r.kind ∧ r.kind ≤ 4) :
  doReq ms ws hs who r=(newW ms ws hs who r,newH ms hs who r,⟨r.id,newC ms (doesW ms hs who r) r,newD ms ws r⟩):=by
 have hw:=way_of ms ws hs who r hk;generalize doReq ms ws hs who r=x at hw ⊢;cases hw with
 |none h=>
  have e:¬0≤zA5 ms (zA4 r):=by omega
  simp[newW,newH,newC,newD,doesW,doesH,h,e]
 |deny h hk2 ho=>
  have e:¬zA5 ms (zA4 r)<0:=by omega
  rcases hk2 with hk2|hk2 <;> simp[newW,newH,newC,newD,doesW,doesH,e,hk2,ho,zB8,-List.getD_eq_getElem?_getD]
 |read h hk2=>
  have e:¬zA5 ms (zA4 r)<0:=by omega
  simp[newW,newH,newC,newD,doesW,doesH,e,h,hk2,zB8]
 |hold h hk2=>
  have e:¬zA5 ms (zA4 r)<0:=by omega
  simp[newW,newH,newC,newD,doesW,doesH,e,h,hk2,zB8]
 |tryno h hk2 ho hh=>
  have e:¬zA5 ms (zA4 r)<0:=by omega
  simp[newW,newH,newC,newD,doesW,doesH,e,hk2,ho,hh,zB8,-List.getD_eq_getElem?_getD]
 |write h hk2 ho=>
  have e:¬zA5 ms (zA4 r)<0:=by omega
  simp[newW,newH,newC,newD,doesW,doesH,e,h,hk2,ho,zB8,-List.getD_eq_getElem?_getD]
 |tryyes h hk2 ho hh=>
  have e:¬zA5 ms (zA4 r)<0:=by omega
  simp[newW,newH,newC,newD,doesW,doesH,e,h,hk2,ho,hh,zB8,-List.getD_eq_getElem?_getD]
def Far (xs ys:List Int):Prop:=∀x∈xs,x ∉ ys
theorem Far.symm {xs ys:List Int} (h:Far xs ys):Far ys xs:=fun y hy hx=>h y hx hy
theorem burst_one {r:Rq} (h:reqOk r=true) (hk:r.kind=3∨r.kind=4):zA4 r=[r.addr]:=by
 have hm:=(zD2 h).2.2.2.2 hk;have ha:=adr_of h;unfold zA4;rw[zH5 ha,hm];simp[zG0,List.range_succ]
theorem freeOne_far {xs:List Int} {h a:Int} (ha:a ∉ xs) (h0:0≤a):(zH8 xs h==a)=(h==a):=by
 rw[freeOne_eq]
 split
 ·rename_i hm;have:h≠a:=fun e=>ha (e▸hm)
  have h1:((-1:Int)==a)=false:=by rw[beq_eq_false_iff_ne];omega
  rw[h1];simp[this]
 ·rfl
section
variable {ms : List MR} {ws hs : List Int} {who other : Int} {r q : Rq}
theorem putAll_comm {a b : List Int} {d l e m : List Int} (ha : a.Nodup) (hb : b.Nodup) (ra : ∀ x ∈ a, 0 ≤ x ∧ x.toNat < ws.length) (rb : ∀ x ∈ b, 0 ≤ x ∧ x.toNat < ws.length) (hf : Far a b)
  (h1:d.length=a.length) (h2:l.length=a.length) (h3:e.length=b.length) (h4:m.length=b.length):zB6 (zB6 ws a d l) b e m=zB6 (zB6 ws b e m) a d l:=by
 refine ext_getD (by simp[zI6]) fun n _=>?_
 have nota : ∀ x ∈ b, ∀ y ∈ a, y.toNat ≠ x.toNat := fun x hx y hy he => hf y hy (by
  have:=ra y hy;have:=rb x hx;have:y=x:=by omega
  rwa [this])
 rcases spot_or a n with⟨k,hk,rfl⟩|hna
 ·have hm:a.getD k 0∈a:=zB5 hk
  rw [zD5 b e m _ _ (fun x hx he => nota x hx _ hm he.symm), putAll_in a d l ws k ha ra hk h1 h2, putAll_in a d l _ k ha (by rw [zI6]; exact ra) hk h1 h2,
   zD5 b e m ws _ (fun x hx he=>nota x hx _ hm he.symm)]
 ·rw[zD5 a d l _ n hna];rcases spot_or b n with⟨k,hk,rfl⟩|hnb
  ·rw[putAll_in b e m _ k hb (by rw[zI6];exact rb) hk h3 h4,putAll_in b e m ws k hb rb hk h3 h4,zD5 a d l ws _ hna]
  ·rw[zD5 b e m _ n hnb,zD5 b e m _ n hnb,zD5 a d l _ n hna]
theorem getAll_far {a b d l:List Int} (ra:∀x∈a,0≤x) (rb:∀x∈b,0≤x) (hf:Far a b):zC7 (zB6 ws a d l) b=zC7 ws b:=by
 unfold zC7;apply List.map_congr_left;intro x hx
 exact zD5 _ _ _ _ _ fun y hy he => hf y hy (by
  have:=ra y hy;have:=rb x hx;have:y=x:=by omega
  rwa [this])
theorem freeAll_comm (a b:List Int):zC6 (zC6 hs a) b=zC6 (zC6 hs b) a:=by
 simp only[zC6,List.map_map];apply List.map_congr_left;intro h _;simp only[Function.comp];rcases ha:a.contains h with _|_ <;> rcases hb:b.contains h with _|_ <;> simp only[ha,hb,if_true,if_false,Bool.false_eq_true] <;> (try simp)
theorem zM9 {b:List Int} {i:Nat} {x:Int} (hx:x ∉ b):zC6 (hs.set i x) b=(zC6 hs b).set i x:=by
 simp only[zC6,List.map_set];have:b.contains x=false:=by simpa using hx
 rw[this];simp
theorem burst_rng {hl:ws.length=64}:∀x∈zA4 r,0≤x∧x.toNat<ws.length:=fun x hx=>by have:=burst_mem hx;omega
end
-- how it goes
end Go.Proofs.YtgkdoehkmbhfiaaGreat
namespace Go.Proofs.YtgkdoehkmbhfiaaGreat
-- round about
section
variable {ws hs : List Int} {who i a : Int}
end
def zB2 (ms : List MR) (who : Int) : List Int → List Int → List Rq → List Int × List Int × List Rs
 |ws,hs,[]=>(ws,hs,[])
 | ws, hs, r :: rs => ((zB2 ms who (doReq ms ws hs who r).1 (doReq ms ws hs who r).2.1 rs).1, (zB2 ms who (doReq ms ws hs who r).1 (doReq ms ws hs who r).2.1 rs).2.1,
   (doReq ms ws hs who r).2.2::(zB2 ms who (doReq ms ws hs who r).1 (doReq ms ws hs who r).2.1 rs).2.2)
theorem run_app (ms : List MR) (who : Int) : ∀ (a b : List Rq) (ws hs : List Int), zB2 ms who ws hs (a ++ b) =
  ((zB2 ms who (zB2 ms who ws hs a).1 (zB2 ms who ws hs a).2.1 b).1,(zB2 ms who (zB2 ms who ws hs a).1 (zB2 ms who ws hs a).2.1 b).2.1,(zB2 ms who ws hs a).2.2++(zB2 ms who (zB2 ms who ws hs a).1 (zB2 ms who ws hs a).2.1 b).2.2)
 |[],b,ws,hs=>by simp[zB2]
 |r::a,b,ws,hs=>by
  simp only[List.cons_append,zB2,run_app ms who a b]
theorem run_len (ms : List MR) (who : Int) : ∀ (a : List Rq) (ws hs : List Int), (zB2 ms who ws hs a).2.2.length = a.length
 |[],ws,hs=>by simp[zB2]
 |r::a,ws,hs=>by simp[zB2,run_len ms who a]
theorem run_ok {ms : List MR} {who : Int} (hw : inB who 0 2 = true) : ∀ (a : List Rq) (ws hs : List Int), atmOk ws hs = true → a.all reqOk = true → atmOk (zB2 ms who ws hs a).1 (zB2 ms who ws hs a).2.1 = true
 |[],ws,hs,h,_=>by simpa[zB2]using h
 |r::a,ws,hs,h,hr=>by
  simp only[List.all_cons,Bool.and_eq_true]at hr;simp only[zB2];exact run_ok hw a _ _ (doReq_ok hw hr.1 h) hr.2
def runOk (ms:List MR) (ws hs:List Int) (who:Int) (rs:List Rq):Bool:=mapOk ms&&atmOk ws hs&&inB who 0 2&&decide (rs.length≤12)&&rs.all reqOk
def atmRun (ms:List MR) (ws hs:List Int) (who:Int) (rs:List Rq):List Int×List Int×List Rs:=if runOk ms ws hs who rs=true then zB2 ms who ws hs rs else([],[],[])
theorem runOk_parts {ms:List MR} {ws hs:List Int} {who:Int} {rs:List Rq}:runOk ms ws hs who rs=true↔mapOk ms=true∧atmOk ws hs=true∧inB who 0 2=true∧rs.length≤12∧rs.all reqOk=true:=by
 simp[runOk,and_assoc]
end Go.Proofs.YtgkdoehkmbhfiaaGreat
namespace Go.Proofs.YtgkdoehkmbhfiaaGreat
open Go.RowKit
theorem crInts_same (v u : Value) (xs : List Int) (B C : Nat) (w : World) (hv : Ints w B v xs) (hu : Ints w C u xs) :
  Calls Tryz.prog 20 #[v,u] w fun e w' => e=.returned (.bool true)∧Drew w w':=by
 obtain⟨ao,cap,rfl,hlc,hcap,hln,hni,hr⟩:=hv.opened;obtain⟨bo,cbp,rfl,hlc2,hcap2,hln2,hni2,hr2⟩:=hu.opened;clear hv hu
 go_enter Tryz.func20,Tryz.ntmps20
 go_wp2_with fail
 go_loopw [5] (fun i wr=>∃k n:Nat,k≤xs.length∧i=.int .i64 k∧wr=w.drewN n) (fun i _=>xs.length - (intOf i).toNat)
 case atStart=>exact⟨0,0,Nat.zero_le _,rfl,rfl⟩
 case round=>
  obtain⟨k,n,hk,rfl,rfl⟩:=hrel;by_cases hlt:k<xs.length
  ·obtain⟨b,off,rfl,hb,hc⟩:=hr (by omega);obtain⟨b2,off2,rfl,hb2,hc2⟩:=hr2 (by omega);have hck:=hc k hlt;have hck2:=hc2 k hlt;obtain⟨x,hx⟩:∃x,x=xs.getD k 0:=⟨_,rfl⟩
   rw[←hx]at hck hck2;have hq2:(x != x)=false:=by simp
   clear hc hr hc2 hr2 hx
   go_wp2_with fail
   go_quiet (fail)
   go_wp2_with fail
   go_roundw
   case rel=>exact⟨k+1,_,by omega,by go_num,rfl⟩
   case measure=>simp[intOf];omega
  ·go_wp2_with fail
   go_ret
   exact⟨rfl,by first|exact Drew.one .. | exact Drew.two ..⟩
structure Small (x:List Int×List Int×Rs):Prop where
 w:∀y∈x.1,I64 y
 h:∀y∈x.2.1,I64 y
 d:∀y∈x.2.2.data,I64 y
 i:I64 x.2.2.id
 c:I64 x.2.2.code
 lw:x.1.length≤64
 lh:x.2.1.length≤6
 ld:x.2.2.data.length≤4
theorem word64 {n:Int} (h:zB1 n=true):I64 n:=by
 simp only[zB1,inB,Bool.and_eq_true,decide_eq_true_eq]at h;unfold I64;omega
theorem atmDo_small (ms:List MR) (ws hs:List Int) (who:Int) (r:Rq):Small (atmDo ms ws hs who r):=by
 rcases h:atmOkk ms ws hs who r with _|_
 ·rw[atmDo_no h];exact⟨by simp,by simp,by simp,by simp[I64],by simp[I64],by simp,by simp,by simp⟩
 ·have h1:=hold_len h;obtain⟨h2,h3⟩:=rsp_law h;obtain⟨a1,a2,a3,a4⟩:=zJ9 h1;simp only[rspOk,inB,Bool.and_eq_true,decide_eq_true_eq]at h2;rw[List.all_eq_true]at a3 a4;refine⟨fun y hy=>word64 (a3 y hy),fun y hy=>?_,fun y hy=>word64 (List.all_eq_true.1 h2.2 y hy),?_,?_,by omega,by omega,by omega⟩
  ·have:=a4 y hy;simp only[inB,Bool.and_eq_true,decide_eq_true_eq]at this;unfold I64;omega
  ·unfold I64;omega
  ·unfold I64;omega
theorem two_in (w:World) (o p:Obj):Below w.heap.size w ((w.alloc o).alloc p):=((Below.refl _ _).alloc (Nat.le_refl _) _).alloc (by simp) _
theorem crRsp_same (x : Rs) (da ea : Option Addr) (dc ec : Nat) (B : Nat) (w : World) (h1 : Ints w B (.slice da x.data.length dc) x.data) (h2 : Ints w B (.slice ea x.data.length ec) x.data) (hB : B ≤ w.heap.size) :
  Calls Tryz.prog 21 #[.agg #[.int .i64 x.id,.int .i64 x.code,.slice da x.data.length dc],.agg #[.int .i64 x.id,.int .i64 x.code,.slice ea x.data.length ec]] w fun e w' => e=.returned (.bool true)∧Below w.heap.size w w':=by
 have HB:=hid (fun o p=>two_in w o p);have H1:=hid h1;have H2:=hid h2;have e1:(x.id==x.id)=true:=by simp
 have e2:(x.code==x.code)=true:=by simp
 clear h1 h2
 go_enter Tryz.func21,Tryz.ntmps21
 go_wp2_with (first|(go_at_call 20;refine(crInts_same _ _ x.data B B _ (H1.out.below ((HB.out _ _).mono hB)) (H2.out.below ((HB.out _ _).mono hB))).mono ?_;rintro e w1 ⟨rfl,hd⟩))
 go_ret
 exact⟨rfl,(HB.out _ _).trans (hd.below _)⟩
theorem bx1 (w:World) (o:Obj):Below w.heap.size w (w.alloc o):=(Below.refl _ _).alloc (Nat.le_refl _) _
def Rq20 (q:Rq):Prop:=q.data.length≤1048576∧q.lanes.length≤1048576
theorem RdAt.fresh {w:World} {B:Nat} {bv:Value} {bs:List Nat} (h:Bytes w B bv bs) (hB:B≤w.heap.size) (hl:bs.length≤2000):RdAt (w.alloc (.cells #[bv,.int .i64 0] 129)) w.heap.size B bs 0 :=
 ⟨bv,by show(w.heap.push _)[w.heap.size]? = _;simp,h.below ((Below.refl _ _).alloc (by omega) _),hB,hl⟩
def OpenP (w:World) (B:Nat) (e:Ending) (w':World):Prop:=∃cs,e=.returned (.pointer (some ⟨w.heap.size,0,none⟩))∧RdAt w' w.heap.size B cs 0∧Below w.heap.size w w'
theorem open_any (v : Value) (bs : List Nat) (B : Nat) (w : World) (h : Bytes w B v bs) (hB : B ≤ w.heap.size) :
  Calls Tryz.prog 42 #[v] w (OpenP w B):=by
 obtain⟨ao,cap,rfl,hlc,hcap,hln,hni,hr⟩:=h.opened;by_cases hl:(2000:Int)<(bs.length:Int)
 ·go_enter Tryz.func42,Tryz.ntmps42
  go_wp2
  go_ret
  exact⟨bs.take 2000,rfl,by exact RdAt.fresh (h.take (by omega)) hB (by simp;omega),(Below.refl _ _).alloc (Nat.le_refl _) _⟩
 ·go_enter Tryz.func42,Tryz.ntmps42
  go_wp2
  go_ret
  exact⟨bs,rfl,by exact RdAt.fresh h hB (by omega),(Below.refl _ _).alloc (Nat.le_refl _) _⟩
def PickP (r B:Nat) (bs:List Nat) (p:Nat) (n:Int) (w:World) (e:Ending) (w':World):Prop :=
 ∃x:Int,e=.returned (.int .i64 x)∧0≤x∧x<n∧RdAt w' r B bs (p+1)∧Touch r w w'
theorem zC9 (r B : Nat) (bs : List Nat) (p : Nat) (n : Int) (w : World) (h : RdAt w r B bs p) (hp : p ≤ 1099511627776) (h1 : 1 ≤ n) (hn : n ≤ 1099511627776) :
  Calls Tryz.prog 82 #[.pointer (some ⟨r,0,none⟩),.int .i64 n] w (PickP r B bs p n w):=by
 refine(pick_any r B bs p n w h hp hn).mono ?_;rintro e w' ⟨x,rfl,h0,h2,h3,h4⟩;exact⟨x,rfl,h0,by omega,h3,h4⟩
def OddP (r B:Nat) (bs:List Nat) (p:Nat) (n:Int) (w:World) (e:Ending) (w':World):Prop :=
 ∃(b:Bool) (q:Nat),e=.returned (.bool b)∧(9000≤n→b=false)∧q≤p+1∧RdAt w' r B bs q∧Touch r w w'
theorem odd_any (r B : Nat) (bs : List Nat) (p : Nat) (n : Int) (w : World) (h : RdAt w r B bs p) (hp : p ≤ 1099511627776) (h1 : 1 ≤ n) (hn : n ≤ 1099511627776) :
  Calls Tryz.prog 122 #[.pointer (some ⟨r,0,none⟩),.int .i64 n] w (OddP r B bs p n w):=by
 by_cases h9:n<9000
 ·go_enter Tryz.func122,Tryz.ntmps122
  go_wp2_with (first|(go_at_call 82;refine(zC9 r B bs p n _ h hp h1 hn).mono ?_;rintro e w1 ⟨x,rfl,hx0,hx1,hr1,ht1⟩))
  go_ret
  exact⟨_,p+1,rfl,fun h=>by omega,by omega,hr1,ht1⟩
 ·have h9':decide (n<9000)=false:=by simpa using h9
  go_enter Tryz.func122,Tryz.ntmps122
  go_wp2_with fail
  go_ret
  exact⟨false,p,rfl,fun _=>rfl,by omega,h,Touch.refl _ _⟩
theorem RdAt.alloc {w:World} {r B:Nat} {bs:List Nat} {p:Nat} (h:RdAt w r B bs p) (o:Obj):RdAt (w.alloc o) r B bs p:=h.kept ((Below.refl _ _).alloc (Nat.le_refl _) o) h.lt
theorem Touch.tab {r:Nat} {w w':World} {xs:Array Value} {T:TypeId} (ht:Touch r (w.alloc (.cells xs T)) w') (hr:r<w.heap.size):∀i v,xs[i]? = some v→w'.cell? ⟨w.heap.size,i,none⟩=some v:=by
 intro i v hv;rw[Touch.cell ht (by show w.heap.size≠r;omega) (by simp)];simp[go_sem,hv]
theorem Touch.tab2 {r : Nat} {w w' : World} {xs ys : Array Value} {T U : TypeId} (ht : Touch r ((w.alloc (.cells xs T)).alloc (.cells ys U)) w') (hr : r < w.heap.size) :
  (∀i v,xs[i]? = some v→w'.cell? ⟨w.heap.size,i,none⟩=some v)∧(∀i v,ys[i]? = some v→w'.cell? ⟨w.heap.size+1,i,none⟩=some v):=by
 refine⟨fun i v hv=>?_,fun i v hv=>?_⟩
 ·rw[Touch.cell ht (by show w.heap.size≠r;omega) (by simp;omega)];simp[go_sem,hv]
 ·rw[Touch.cell ht (by show w.heap.size+1≠r;omega) (by simp)];simp[go_sem,hv]
def AddrP (r B:Nat) (bs:List Nat) (p:Nat) (w:World) (e:Ending) (w':World):Prop :=
 ∃x:Int,e=.returned (.int .i64 x)∧0≤x∧x≤63∧RdAt w' r B bs (p+7)∧Touch r w w'
theorem l20Addr_any (r B : Nat) (bs : List Nat) (p : Nat) (w : World) (h : RdAt w r B bs p) (hp : p ≤ 1000000000) :
  Calls Tryz.prog 132 #[.pointer (some ⟨r,0,none⟩)] w (AddrP r B bs p w):=by
 have HT:=hid (Touch.refl r w)
 go_enter Tryz.func132,Tryz.ntmps132
 go_wp2_with (first
  |(go_at_call 82;(with_reducible refine(zC9 r B bs _ 8 _ ((h.alloc _).alloc _) ?_ (by omega) (by omega)).mono ?_);(omega);have hlt:=h.lt;rintro e w1 ⟨x,rfl,a0,a1,h,ht⟩;obtain⟨tA,tB⟩:=Touch.tab2 ht hlt;have u0:=tA 0 _ rfl;have u1:=tA 1 _ rfl;have u2:=tA 2 _ rfl;have u3:=tA 3 _ rfl;have u4:=tA 4 _ rfl;have u5:=tA 5 _ rfl;have v0:=tB 0 _ rfl;have v1:=tB 1 _ rfl;have v2:=tB 2 _ rfl;have v3:=tB 3 _ rfl;have v4:=tB 4 _ rfl;have v5:=tB 5 _ rfl;have v6:=tB 6 _ rfl;have v7:=tB 7 _ rfl;clear tA tB;have HT:=hid (show Touch r w w1 from((HT.out.alloc _).alloc _).trans ht);rcases(show x=0∨x=1∨x=2∨x=3∨x=4∨x=5∨x=6∨x=7 by omega)with rfl|rfl|rfl|rfl|rfl|rfl|rfl|rfl)
  |(go_at_call 82;go_must (refine(zC9 r B bs _ _ _ (by first|exact h|exact h.alloc _|exact(h.alloc _).alloc _) (by omega) (by omega) (by omega)).mono ?_);rintro e w1 ⟨x,rfl,a0,a1,h,ht⟩;have HT:=hid (show Touch r w w1 by first|exact HT.out.trans ht|exact(HT.out.alloc _).trans ht|exact((HT.out.alloc _).alloc _).trans ht)))
 all_goals
  go_ret
  exact⟨_,rfl,by omega,by omega,h,HT.out⟩
end Go.Proofs.YtgkdoehkmbhfiaaGreat
