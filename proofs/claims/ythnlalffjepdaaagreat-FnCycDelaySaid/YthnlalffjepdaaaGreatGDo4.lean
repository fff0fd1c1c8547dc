/- do of the program: a try that is held (printed by wip/gen_do.py). -/
import Derived.Test.YthnlalffjepdaaaGreatGDo3
import Derived.StillTailTactics
set_option linter.unusedVariables false
set_option linter.unusedSimpArgs false
namespace Go.Proofs.YthnlalffjepdaaaGreat
open Go.RowKit
theorem Ints.heap {w w':World} {B:Nat} {v:Value} {xs:List Int} (h:Ints w B v xs) (hk:∀k,v.ownBlock=some k→k<B→w'.heap[k]? = w.heap[k]?):Ints w' B v xs:=by
 refine⟨?_,h.2⟩;obtain⟨ao,cap,he,k1,k2,k3,k4,k5⟩:=h.1;refine⟨ao,cap,he,k1,k2,k3,k4,fun hn=>?_⟩;obtain⟨b,off,ha,hb,hc⟩:=k5 hn;refine⟨b,off,ha,hb,fun t ht j hj=>?_⟩;rw[←hc t ht j hj];simp only[World.cell?,hk b (by rw[he,ha];rfl) hb]
set_option maxRecDepth 4000 in
set_option maxHeartbeats 8000000 in
theorem do_write (v : Value) (ms : List MR) (B S gw ow cw gh oh ch : Nat) (ws hs : List Int) (who : Int) (id kind addr many : Int) (wp : Bool) (dv lv : Value) (w : World) (hv : Maps w B v ms) (h : AtmAt w B S gw ow cw gh oh ch ws hs)
  (hwho:inB who 0 2=true) (hid1:inB id 0 1=true) (hz:0≤wholeOf ms (burst addr many wp)) (hk1:kind=2) (hon:(ms.getD (wholeOf ms (burst addr many wp)).toNat default).only=false) (data lanes:List Int) (hdv:Ints w B dv data) (hlv:Ints w B lv lanes) (hdl:data.length=(burst addr many wp).length) (hll:lanes.length=(burst addr many wp).length) (hdo:data.all wordOk=true) (hlo:lanes.all (fun l=>inB l 0 3)=true) (hws:ws.all wordOk=true) :
  Calls Tryz.prog 101 #[.pointer (some ⟨S,0,none⟩),v,.int .i64 who,.agg #[.int .i64 id,.int .i64 kind,.int .i64 addr,.int .i64 many,.bool wp,dv,lv]] w (DoP B S gw ow cw gh oh ch (putAll ws (burst addr many wp) data lanes) (freeAll hs (burst addr many wp)) ⟨id,1,[]⟩ w):=by
 have hw:(kind==2 || kind==4)=true:=by rw[hk1];simp
 have HW:=hid hw;clear hw;have g4:(kind==4)=false:=by rw[hk1];simp
 have HK:=hid hk1;clear hk1;have HDV:=hid hdv;have HLV:=hid hlv;have HDL:=hid hdl;have HLL:=hid hll;have HDO:=hid hdo;have HLO:=hid hlo;have HWS:=hid hws;have hd1:∃a n c,dv=.slice a n c:=by obtain⟨a,c,h,_⟩:=hdv.1;exact⟨_,_,_,h⟩
 have hd2:∃a n c,lv=.slice a n c:=by obtain⟨a,c,h,_⟩:=hlv.1;exact⟨_,_,_,h⟩
 clear hdv hlv hdl hll hdo hlo hws;obtain⟨k,hk⟩:=Int.eq_ofNat_of_zero_le (show 0≤wholeOf ms (burst addr many wp) by omega);have hkm:k<ms.length:=by have:=wholeOf_lt ms (burst addr many wp);omega
 obtain⟨mo,mcap,rfl,hm1,hm2,hm3,hm4,hmr⟩:=hv.opened;obtain⟨mb,moff,rfl,hmb,hmc⟩:=hmr (by omega);obtain⟨_,_,_,c3⟩:=hmc k hkm;have HC3:=hid c3;have HON:=hid (show(ms.getD k default).only=false by rw[hk]at hon;exact hon);clear hon c3 hmc hmr;have HD1:=hid hd1;have HD2:=hid hd2;have HV:=hid hv;have HH:=hid h;have hS:=h.sLt;have hB:B≤w.heap.size:=by have:=h.bs;omega
 obtain⟨da,dn,dc,rfl⟩:=hd1;obtain⟨la,ln,lc,rfl⟩:=hd2;simp only[inB,Bool.and_eq_true,decide_eq_true_eq]at hwho hid1;have s0:=h.s0;have s1:=h.s1;have HZ:=hid hk.symm;clear hv h hk hz
 go_enter Tryz.func101,Tryz.ntmps101
 go_wp2_with (first|(go_at_call 127;refine(whole_val _ ms _ _ _ _ _ _ _ HD1.out HD2.out B _ (HV.out.below (((Below.refl _ _).alloc hB _).alloc (by simp;omega) _)) (by simp;omega)).mono ?_;rw[←HZ.out];rintro e w1 ⟨rfl,hb1⟩;obtain⟨⟨f0,f1,f2,f3,f4,f5,f6⟩,⟨r0,r1,r2,r3,r4,r5⟩,hb01,hz1⟩:=do_open hb1;clear hb1;have hS1:S<w1.heap.size:=(by omega);have hg1:w.heap.size<w1.heap.size:=(by omega);have hg2:w.heap.size+1<w1.heap.size:=(by omega);have q0:w1.cell? ⟨S,0,none⟩=some (.slice (some ⟨gw,ow,none⟩) 64 cw):=(by rw[hb01.cell (p:=⟨S,0,none⟩) hS];exact s0);have q1:w1.cell? ⟨S,1,none⟩=some (.slice (some ⟨gh,oh,none⟩) 6 ch):=(by rw[hb01.cell (p:=⟨S,1,none⟩) hS];exact s1)))
 have hd0:(0:Int)≤who * 2+id:=by omega
 have hd6:who * 2+id<6:=by omega
 go_quiet (fail)
 obtain⟨a,ha6,hae,hat⟩:=do_at hwho hid1;rw[hat];obtain⟨w2,go,hw2,hgo,⟨o0,o1,o2,o3,o4,o5⟩,hb12,hz2⟩:=do_open2 (w1:=w1) (id:=id) (U:=83) nq;rw[←hw2,←hgo];clear hw2;obtain⟨f0', f1', f2', f3', f4', f5', f6'⟩:=ReqAt.below ⟨f0,f1,f2,f3,f4,f5,f6⟩ hb12 hg1;obtain⟨r0', r1', r2', r3', r4', r5'⟩:=RspAt.below ⟨r0,r1,r2,r3,r4,r5⟩ hb12 hg2;have HB:=hid (hb01.trans (hb12.mono (by omega)));have q0':w2.cell? ⟨S,0,none⟩=some (.slice (some ⟨gw,ow,none⟩) 64 cw):=by rw[HB.out.cell (p:=⟨S,0,none⟩) hS];exact s0
 have q1':w2.cell? ⟨S,1,none⟩=some (.slice (some ⟨gh,oh,none⟩) 6 ch):=by rw[HB.out.cell (p:=⟨S,1,none⟩) hS];exact s1
 have hgo2:w.heap.size+2≤go:=by omega
 have hSgo:S<go:=by omega
 clear f0 f1 f2 f3 f4 f5 f6 r0 r1 r2 r3 r4 r5 q0 q1 hb01 hb12 s0 s1 hgo hS1 hg1 hg2 hz1
 go_wp2_with (first|(go_at_call 123;refine(writes_val _ _ _ _ _ _ _ _).mono ?_;rw[HW.out];rintro e w3 ⟨rfl,hbx⟩;obtain⟨f0', f1', f2', f3', f4', f5', f6'⟩:=ReqAt.below ⟨f0', f1', f2', f3', f4', f5', f6'⟩ hbx (ReqAt.lt ⟨f0', f1', f2', f3', f4', f5', f6'⟩);obtain⟨r0', r1', r2', r3', r4', r5'⟩:=RspAt.below ⟨r0', r1', r2', r3', r4', r5'⟩ hbx (RspAt.lt ⟨r0', r1', r2', r3', r4', r5'⟩);obtain⟨o0,o1,o2,o3,o4,o5⟩:=RspAt.below ⟨o0,o1,o2,o3,o4,o5⟩ hbx (RspAt.lt ⟨o0,o1,o2,o3,o4,o5⟩);have HB:=hid (HB.out.trans (hbx.mono HB.out.size));have q0':w3.cell? ⟨S,0,none⟩=some (.slice (some ⟨gw,ow,none⟩) 64 cw):=(by rw[HB.out.cell (p:=⟨S,0,none⟩) hS];exact HH.out.s0);have q1':w3.cell? ⟨S,1,none⟩=some (.slice (some ⟨gh,oh,none⟩) 6 ch):=(by rw[HB.out.cell (p:=⟨S,1,none⟩) hS];exact HH.out.s1);have hz2:go<w3.heap.size:=(RspAt.lt ⟨o0,o1,o2,o3,o4,o5⟩);have c3:w3.cell? ⟨mb,moff+k * 4+3,none⟩=some (.bool false):=(by rw[HB.out.cell (p:=⟨mb,moff+k * 4+3,none⟩) (by show mb<_;omega)];rw[←HON.out];exact HC3.out);clear hbx))
 go_quiet (fail)
 obtain⟨xs,hxs⟩:∃xs,xs=burst addr many wp:=⟨_,rfl⟩
 have HXS:=hid hxs;have hl4:xs.length≤4:=by rw[hxs];exact burst_len
 have HIN:=hid (show ∀x∈xs,0≤x∧x≤63 by rw[hxs];exact burst_in);have hdl:data.length=xs.length:=by rw[hxs];exact HDL.out
 have hll:lanes.length=xs.length:=by rw[hxs];exact HLL.out
 have HDL2:=hid hdl;have HLL2:=hid hll;clear hdl hll;clear hxs;obtain⟨w4,hw4⟩:∃w4,w4=w3.drewN nq:=⟨_,rfl⟩
 rw[←hw4];have hbx:Below w3.heap.size w3 w4:=by rw[hw4];exact Below.draws (Below.refl _ _) _
 obtain⟨f0', f1', f2', f3', f4', f5', f6'⟩:=ReqAt.below ⟨f0', f1', f2', f3', f4', f5', f6'⟩ hbx (ReqAt.lt ⟨f0', f1', f2', f3', f4', f5', f6'⟩);obtain⟨r0', r1', r2', r3', r4', r5'⟩:=RspAt.below ⟨r0', r1', r2', r3', r4', r5'⟩ hbx (RspAt.lt ⟨r0', r1', r2', r3', r4', r5'⟩);obtain⟨o0,o1,o2,o3,o4,o5⟩:=RspAt.below ⟨o0,o1,o2,o3,o4,o5⟩ hbx (RspAt.lt ⟨o0,o1,o2,o3,o4,o5⟩);have HB:=hid (HB.out.trans (hbx.mono HB.out.size));have q0':w4.cell? ⟨S,0,none⟩=some (.slice (some ⟨gw,ow,none⟩) 64 cw):=(by rw[HB.out.cell (p:=⟨S,0,none⟩) hS];exact HH.out.s0);have q1':w4.cell? ⟨S,1,none⟩=some (.slice (some ⟨gh,oh,none⟩) 6 ch):=(by rw[HB.out.cell (p:=⟨S,1,none⟩) hS];exact HH.out.s1);have hz2:go<w4.heap.size:=(RspAt.lt ⟨o0,o1,o2,o3,o4,o5⟩)
 clear hbx hw4
 go_wp2_with (first
  |(go_at_call 146;refine(reqBurst_val _ _ _ _ _ _ _ _).mono ?_;rintro e w3 ⟨u,rfl,hu,hbx,hfr⟩;rw[←HXS.out]at hu;obtain⟨ao,cap,hue,hlc,hcap,hln,hni,hr⟩:=hu.opened;subst hue;obtain⟨cu,hcu⟩:∃cu,cu=w3.heap.size:=⟨_,rfl⟩;have HU:=hid (show Ints w3 cu _ xs by rw[hcu];exact hu);replace hcu:cu≤w3.heap.size:=(by omega);have HF:=hid (show ∀k,(Value.slice ao xs.length cap).ownBlock=some k→go<k from fun k hk=>Nat.lt_of_lt_of_le hz2 (hfr k hk));clear hu hr hfr;obtain⟨f0', f1', f2', f3', f4', f5', f6'⟩:=ReqAt.below ⟨f0', f1', f2', f3', f4', f5', f6'⟩ hbx (ReqAt.lt ⟨f0', f1', f2', f3', f4', f5', f6'⟩);obtain⟨r0', r1', r2', r3', r4', r5'⟩:=RspAt.below ⟨r0', r1', r2', r3', r4', r5'⟩ hbx (RspAt.lt ⟨r0', r1', r2', r3', r4', r5'⟩);obtain⟨o0,o1,o2,o3,o4,o5⟩:=RspAt.below ⟨o0,o1,o2,o3,o4,o5⟩ hbx (RspAt.lt ⟨o0,o1,o2,o3,o4,o5⟩);have HB:=hid (HB.out.trans (hbx.mono HB.out.size));have q0':w3.cell? ⟨S,0,none⟩=some (.slice (some ⟨gw,ow,none⟩) 64 cw):=(by rw[HB.out.cell (p:=⟨S,0,none⟩) hS];exact HH.out.s0);have q1':w3.cell? ⟨S,1,none⟩=some (.slice (some ⟨gh,oh,none⟩) 6 ch):=(by rw[HB.out.cell (p:=⟨S,1,none⟩) hS];exact HH.out.s1);have hz2:go<w3.heap.size:=(RspAt.lt ⟨o0,o1,o2,o3,o4,o5⟩);clear hbx)
  |(go_at_call 123;refine(writes_val _ _ _ _ _ _ _ _).mono ?_;rw[HW.out];rintro e w5 ⟨rfl,hbx⟩;have HU:=hid (HU.out.below (hbx.mono hcu));replace hcu:cu≤w5.heap.size:=(Nat.le_trans hcu hbx.size);obtain⟨f0', f1', f2', f3', f4', f5', f6'⟩:=ReqAt.below ⟨f0', f1', f2', f3', f4', f5', f6'⟩ hbx (ReqAt.lt ⟨f0', f1', f2', f3', f4', f5', f6'⟩);obtain⟨r0', r1', r2', r3', r4', r5'⟩:=RspAt.below ⟨r0', r1', r2', r3', r4', r5'⟩ hbx (RspAt.lt ⟨r0', r1', r2', r3', r4', r5'⟩);obtain⟨o0,o1,o2,o3,o4,o5⟩:=RspAt.below ⟨o0,o1,o2,o3,o4,o5⟩ hbx (RspAt.lt ⟨o0,o1,o2,o3,o4,o5⟩);have HB:=hid (HB.out.trans (hbx.mono HB.out.size));have q0':w5.cell? ⟨S,0,none⟩=some (.slice (some ⟨gw,ow,none⟩) 64 cw):=(by rw[HB.out.cell (p:=⟨S,0,none⟩) hS];exact HH.out.s0);have q1':w5.cell? ⟨S,1,none⟩=some (.slice (some ⟨gh,oh,none⟩) 6 ch):=(by rw[HB.out.cell (p:=⟨S,1,none⟩) hS];exact HH.out.s1);have hz2:go<w5.heap.size:=(RspAt.lt ⟨o0,o1,o2,o3,o4,o5⟩);clear hbx))
 obtain⟨w7,hw7⟩:∃w7,w7=w5:=⟨_,rfl⟩
 rw[←hw7];have ht67:Touch go w5 w7:=by rw[hw7];exact Touch.refl _ _
 have O0:w7.cell? ⟨go,0,none⟩=some (.int .i64 id):=by rw[hw7];simp[go_sem,o0]
 have O1:w7.cell? ⟨go,1,none⟩=some (.int .i64 1):=by rw[hw7];simp[go_sem,o1]
 have O2:w7.cell? ⟨go,2,none⟩=some (.slice none 0 0):=by rw[hw7];simp[go_sem,o2]
 have hgo7:go<w7.heap.size:=by have:=ht67.size;omega
 have HB7:=hid (HB.out.trans (ht67.below (show w.heap.size≤go by omega) HB.out.size));have ga:∀g,g≠go→g<w5.heap.size→w7.heap[g]? = w5.heap[g]?:=fun g h1 h2=>ht67.block g h2 h1
 obtain⟨f0,f1,f2,f3,f4,f5,f6⟩:=ReqAt.heap ⟨f0', f1', f2', f3', f4', f5', f6'⟩ (ga _ (by omega) (ReqAt.lt ⟨f0', f1', f2', f3', f4', f5', f6'⟩));obtain⟨r0,r1,r2,r3,r4,r5⟩:=RspAt.heap ⟨r0', r1', r2', r3', r4', r5'⟩ (ga _ (by omega) (RspAt.lt ⟨r0', r1', r2', r3', r4', r5'⟩));have hU7:Ints w7 cu (.slice ao xs.length cap) xs:=by
  refine⟨?_,HU.out.2⟩;obtain⟨ao', cap', he,k1,k2,k3,k4,k5⟩:=HU.out.1;refine⟨ao', cap', he,k1,k2,k3,k4,fun hn=>?_⟩;obtain⟨b,off,ha,hb,hc⟩:=k5 hn;refine⟨b,off,ha,hb,fun t ht j hj=>?_⟩;rw[←hc t ht j hj];simp only[Value.slice.injEq]at he;have hbgo:go<b:=HF.out b (by rw[he.1,ha];rfl);exact Touch.cell ht67 (by show b≠go;omega) (by show b<_;omega)
 have HU7:=hid hU7;have hg1:w.heap.size<go:=by omega
 have hg2:w.heap.size+1<go:=by omega
 have hn7:=HB7.out.size;have hcu7:cu≤w7.heap.size:=Nat.le_trans hcu ht67.size;have hgh:gh<w.heap.size:=HH.out.hh.ltI.2;have hgw:gw<w.heap.size:=HH.out.ww.ltI.2;have hBw:=HH.out.ww.ltI.1;have hBh:=HH.out.hh.ltI.1;have hA7:=HH.out.kept HB7.out (Nat.le_refl _);have HA7:=hid hA7;clear hU7 ga ht67 hw7 f0' f1' f2' f3' f4' f5' f6' r0' r1' r2' r3' r4' r5' o0 o1 o2 o3 o4 o5 q0' q1' HB HU hz2 hcu hA7;have hne1:=HH.out.ne;have hne2:=HH.out.n1;have hne3:=HH.out.n2
 go_loopw [15,16,109] (fun _ _ i wr=>∃k:Nat,k≤xs.length∧i=.int .i64 k∧AtmAt wr B S gw ow cw gh oh ch (putK ws xs data lanes k) hs∧Touch2 gw gh w7 wr) (fun _ _ i _=>xs.length - (intOf i).toNat)
 case atStart=>exact⟨0,Nat.zero_le _,rfl,by rw[putK_zero];exact HA7.out,Touch2.refl _ _ _⟩
 case round=>
  obtain⟨k,hk,rfl,hat2,ht⟩:=hrel;have hsz:=ht.size;have HAT:=hid hat2;clear hat2;have HTT:=hid ht;obtain⟨f0', f1', f2', f3', f4', f5', f6'⟩:=ReqAt.heap (w':=wr) ⟨f0,f1,f2,f3,f4,f5,f6⟩ (ht.block _ (by omega) (by omega) (by omega));by_cases hlt:k<xs.length
  ·obtain⟨_,_,hue,_,_,_,_,hur⟩:=HU7.out.opened;obtain⟨rfl,_,rfl⟩:=Value.slice.inj hue;obtain⟨b,off,rfl,hb,hc⟩:=hur (by omega);have hbgo:go<b:=HF.out b rfl;have hck:=hc k hlt;rw[←Touch2.cell ht (p:=⟨b,off+k,none⟩) (by show b≠gw;omega) (by show b≠gh;omega) (by show b<_;omega)]at hck;have hin:=HIN.out (xs.getD k 0) (getD_mem hlt);have hstep:=putK_succ ws (xs:=xs) (ds:=data) (ls:=lanes) (k:=k) HDL2.out HLL2.out hlt;have hdl:=HDL2.out;have hll:=HLL2.out;obtain⟨m,hm⟩:=Int.eq_ofNat_of_zero_le hin.1;rw[hm]at hck hin hstep;have HM:=hid hm;clear hm hc hur hue;have hm64:m<64:=by omega
   have hBr:Below B w wr:=(HB7.out.mono hB).trans (ht.below hBw hBh (Nat.le_trans hB hn7));obtain⟨_,_,hde,_,_,_,_,hdr⟩:=(HDV.out.below hBr).opened;obtain⟨_,_,hle,_,_,_,_,hlr⟩:=(HLV.out.below hBr).opened;obtain⟨rfl,hdn,rfl⟩:=Value.slice.inj hde;obtain⟨rfl,hln2,rfl⟩:=Value.slice.inj hle;obtain⟨b1,off1,rfl,hb1,hc1⟩:=hdr (by omega);obtain⟨b2,off2,rfl,hb2,hc2⟩:=hlr (by omega);have hd1:=hc1 k (by omega);have hl1:=hc2 k (by omega);have hwc:=HAT.out.ww.cellI m (by rw[putK_len,HH.out.lw];exact hm64);have hwf:=HAT.out.ww.frozenI m;obtain⟨x,hx⟩:∃x,x=(putK ws xs data lanes k).getD m 0:=⟨_,rfl⟩
   obtain⟨d,hd⟩:∃d,d=data.getD k 0:=⟨_,rfl⟩
   obtain⟨l,hl⟩:∃l,l=lanes.getD k 0:=⟨_,rfl⟩
   rw[←hx]at hwc;rw[←hd]at hd1;rw[←hl]at hl1;rw[Int.toNat_natCast,←hx,←hd,←hl]at hstep;have HPut:=hid (fun W=>put_any x d l W (by rw[hx];exact getD_ok (putK_ok HWS.out HDO.out) (by decide)) (by rw[hd];exact getD_ok HDO.out (by decide)) (by rw[hl];exact getD_ok (p:=fun l=>inB l 0 3) HLO.out (by decide)));have HST:=hid hstep;clear hx hd hl hdr hlr hc1 hc2 hde hle hstep hBr ht;have p3:=HAT.out.s0;have hdk:(k:Int)<(dn:Int):=by omega
   have hlk:(k:Int)<(ln:Int):=by omega
   clear hdn hln2 hdl hll
   go_wp2
   have hmi:(m:Int)<64:=by omega
   refine wp_region_still_tail 26 (by kernel_rfl) (by kernel_rfl) ?_;obtain⟨w9,hw9⟩:∃w9,w9=wr.drew:=⟨_,rfl⟩
   change wpStill Tryz.prog _ wr.drew (fun a' => wpList Tryz.prog _ _ _ a' wr.drew) _ _;have y0:w9.cell? ⟨S,0,none⟩=some (.slice (some ⟨gw,ow,none⟩) 64 cw):=by rw[hw9];exact p3
   have y1:w9.cell? ⟨gw,ow+m,none⟩=some (.int .i64 x):=by rw[hw9];exact hwc
   have y2:w9.frozen? ⟨gw,ow+m,none⟩=false:=by rw[hw9];exact hwf
   have y3:w9.cell? ⟨w.heap.size,5,none⟩=some (.slice (some ⟨b1,off1,none⟩) dn dc):=by rw[hw9];exact f5'
   have y4:w9.cell? ⟨w.heap.size,6,none⟩=some (.slice (some ⟨b2,off2,none⟩) ln lc):=by rw[hw9];exact f6'
   have y5:w9.cell? ⟨b1,off1+k,none⟩=some (.int .i64 d):=by rw[hw9];exact hd1
   have y6:w9.cell? ⟨b2,off2+k,none⟩=some (.int .i64 l):=by rw[hw9];exact hl1
   rw[←hw9];have HNext:=hid ((show AtmAt w9 B S gw ow cw gh oh ch (putK ws xs data lanes k) hs by rw[hw9];exact HAT.out.kept ((Below.refl _ _).drew) (Nat.le_refl _)).putW m (putW x d l) hm64);rw[←HST.out]at HNext;have HT9:=hid (HTT.out.trans (show Touch2 gw gh wr w9 by rw[hw9];exact Touch2.of_below ((Below.refl _ _).drew) (Nat.le_refl _)));clear hw9;simp only[List.take_succ_cons,List.take_zero,List.drop_succ_cons,List.drop_zero]
   repeat still_step
   still_call ((HPut.out _).mono (fun _ _ h=>⟨h.1,h.2.symm⟩))
   repeat still_step
   refine wpStill_nil ?_
   go_wp2
   go_roundw
   case rel=>exact⟨k+1,by omega,by go_num,HNext.out,HT9.out.trans (Touch2.left ..)⟩
   case measure=>simp[intOf];omega
  ·obtain rfl:k=xs.length:=by omega
   have HA2:=HAT.out;rw[putK_all _ _ _ _ HDL2.out HLL2.out]at HA2;obtain⟨ws2,hws2⟩:∃ws2,ws2=putAll ws xs data lanes:=⟨_,rfl⟩
   rw[←hws2]at HA2;have HWS2:=hid hws2;clear hws2 ht;obtain⟨wo,rfl⟩:∃wo:World,wo=wr:=⟨_,rfl⟩
   have q1:=HA2.s1;have HA3:=hid HA2;clear HA2;have hlh:=HH.out.lh;have HLH:=hid hlh;clear hlh
   go_wp2
   clear q1
   go_loopw [17,18,146] (fun _ _ i wr=>∃j:Nat,j≤6∧i=.int .i64 j∧AtmAt wr B S gw ow cw gh oh ch ws2 (freeK hs xs j)∧Touch2 gw gh w7 wr) (fun _ _ i _=>6 - (intOf i).toNat)
   case atStart=>exact⟨0,Nat.zero_le _,rfl,by rw[freeK_zero];exact HA3.out,HTT.out⟩
   case round=>
    obtain⟨j,hj,rfl,hat3,ht⟩:=hrel;have HAT3:=hid hat3;have HT3:=hid ht;by_cases hj6:j<6
    ·have hUr : Ints wr cu (.slice ao xs.length cap) xs := HU7.out.heap (fun k hk hkc => by
      have:=HF.out k hk;exact ht.block k (by omega) (by omega) (by omega))
     have HUr:=hid hUr;have hcell:=hat3.hh.cellI j (by rw[freeK_len,HLH.out];exact hj6);rw[freeK_get (by rw[HLH.out];exact hj6)]at hcell;have hfr:=hat3.hh.frozenI j;have p1:=hat3.s1;obtain⟨y,hy⟩:∃y,y=hs.getD j 0:=⟨_,rfl⟩
     rw[←hy]at hcell;have hstep:=freeK_succ (hs:=hs) (xs:=xs) (k:=j) (by rw[HLH.out];exact hj6);rw[←hy]at hstep;rcases hct:xs.contains y with _|_
     ·have HSame := hid (show freeK hs xs (j + 1) = freeK hs xs j by
       rw[hstep,freeOne,if_neg (by rw[hct];simp)];exact set_self (by rw[freeK_get (by rw[HLH.out];exact hj6),hy]) (by rw[freeK_len,HLH.out];exact hj6))
      clear hstep hy hUr hat3 ht
      go_wp2_with (first|(go_at_call 148;refine(sContains_any _ xs y cu _ HUr.out).mono ?_;rw[hct];rintro e w' ⟨rfl,rfl⟩))
      go_roundw
      case rel=>exact⟨j+1,by omega,by go_num,by rw[HSame.out];exact HAT3.out,HT3.out⟩
      case measure=>simp[intOf];omega
     ·have HNew := hid (show freeK hs xs (j + 1) = (freeK hs xs j).set j (-1) by
       rw[hstep,freeOne,if_pos hct])
      clear hstep hy hUr hat3 ht
      go_wp2_with (first|(go_at_call 148;refine(sContains_any _ xs y cu _ HUr.out).mono ?_;rw[hct];rintro e w' ⟨rfl,rfl⟩))
      go_roundw
      case rel=>exact⟨j+1,by omega,by go_num,by rw[HNew.out];exact HAT3.out.putH j (-1) hj6,HT3.out.trans (Touch2.right ..)⟩
      case measure=>simp[intOf];omega
    ·obtain rfl:j=6:=by omega
     have hfa:freeK hs xs 6=freeAll hs xs:=by rw[←HLH.out];exact freeK_all hs xs
     rw[hfa]at HAT3;clear hat3 hfa;obtain⟨r0', r1', r2', r3', r4', r5'⟩:=RspAt.heap (w':=wr) ⟨r0,r1,r2,r3,r4,r5⟩ (ht.block _ (by omega) (by omega) (by omega));have p0:wr.cell? ⟨go,0,none⟩=some (.int .i64 id):=by rw[Touch2.cell ht (p:=⟨go,0,none⟩) (by show go≠gw;omega) (by show go≠gh;omega) (by show go<_;omega)];exact O0
     have p1:wr.cell? ⟨go,1,none⟩=some (.int .i64 1):=by rw[Touch2.cell ht (p:=⟨go,1,none⟩) (by show go≠gw;omega) (by show go≠gh;omega) (by show go<_;omega)];exact O1
     have p2:wr.cell? ⟨go,2,none⟩=some (.slice none 0 0):=by rw[Touch2.cell ht (p:=⟨go,2,none⟩) (by show go≠gw;omega) (by show go≠gh;omega) (by show go<_;omega)];exact O2
     clear ht r0 r1 r2 r3 r4 r5 O0 O1 O2
     go_wp2
     have hTE:=hid ((((Touch2.trans (Touch2.of_below HB7.out (Nat.le_refl _)) HT3.out:Touch2 gw gh w wr).fresh (g:=w.heap.size+1) (o:=0) (u:=.int .i64 id) (by omega)).fresh (g:=w.heap.size+1) (o:=1) (u:=.int .i64 1) (by omega)).fresh (g:=w.heap.size+1) (o:=2) (u:=.slice none 0 0) (by omega));refine bodyPost_ret (results_c1 Tryz.results101 _ _ ⟨w.heap.size+1,0,none⟩ (.agg #[.int .i64 id,.int .i64 1,.slice none 0 0]) rfl ?_) rfl ?_
     ·exact loadVar_rsp _ _ _ _ _ (by simp[go_sem,r0']) (by simp[go_sem,r1']) (by simp[go_sem,r2'])
     refine⟨_,rfl,Owns.zero,?_,hTE.out⟩;rw[←HXS.out,←HWS2.out];exact(((HAT3.out.other _ 0 _ (by omega) (by omega) (by omega)).other _ 1 _ (by omega) (by omega) (by omega)).other _ 2 _ (by omega) (by omega) (by omega))
set_option maxRecDepth 4000 in
set_option maxHeartbeats 8000000 in
theorem do_try (v : Value) (ms : List MR) (B S gw ow cw gh oh ch : Nat) (ws hs : List Int) (who : Int) (id kind addr many : Int) (wp : Bool) (dv lv : Value) (w : World) (hv : Maps w B v ms) (h : AtmAt w B S gw ow cw gh oh ch ws hs)
  (hwho:inB who 0 2=true) (hid1:inB id 0 1=true) (hz:0≤wholeOf ms (burst addr many wp)) (hk1:kind=4) (hon:(ms.getD (wholeOf ms (burst addr many wp)).toNat default).only=false) (data lanes:List Int) (hdv:Ints w B dv data) (hlv:Ints w B lv lanes) (hdl:data.length=(burst addr many wp).length) (hll:lanes.length=(burst addr many wp).length) (hdo:data.all wordOk=true) (hlo:lanes.all (fun l=>inB l 0 3)=true) (hws:ws.all wordOk=true) (hne:hs.getD (who * 2+id).toNat 0=addr) :
  Calls Tryz.prog 101 #[.pointer (some ⟨S,0,none⟩),v,.int .i64 who,.agg #[.int .i64 id,.int .i64 kind,.int .i64 addr,.int .i64 many,.bool wp,dv,lv]] w (DoP B S gw ow cw gh oh ch (putAll ws (burst addr many wp) data lanes) (freeAll hs (burst addr many wp)) ⟨id,2,[]⟩ w):=by
 have hw:(kind==2 || kind==4)=true:=by rw[hk1];simp
 have HW:=hid hw;clear hw;have g4:(kind==4)=true:=by rw[hk1];simp
 have HK:=hid hk1;clear hk1;have HDV:=hid hdv;have HLV:=hid hlv;have HDL:=hid hdl;have HLL:=hid hll;have HDO:=hid hdo;have HLO:=hid hlo;have HWS:=hid hws;have hd1:∃a n c,dv=.slice a n c:=by obtain⟨a,c,h,_⟩:=hdv.1;exact⟨_,_,_,h⟩
 have hd2:∃a n c,lv=.slice a n c:=by obtain⟨a,c,h,_⟩:=hlv.1;exact⟨_,_,_,h⟩
 clear hdv hlv hdl hll hdo hlo hws;have HNE:=hid hne;clear hne;obtain⟨k,hk⟩:=Int.eq_ofNat_of_zero_le (show 0≤wholeOf ms (burst addr many wp) by omega);have hkm:k<ms.length:=by have:=wholeOf_lt ms (burst addr many wp);omega
 obtain⟨mo,mcap,rfl,hm1,hm2,hm3,hm4,hmr⟩:=hv.opened;obtain⟨mb,moff,rfl,hmb,hmc⟩:=hmr (by omega);obtain⟨_,_,_,c3⟩:=hmc k hkm;have HC3:=hid c3;have HON:=hid (show(ms.getD k default).only=false by rw[hk]at hon;exact hon);clear hon c3 hmc hmr;have HD1:=hid hd1;have HD2:=hid hd2;have HV:=hid hv;have HH:=hid h;have hS:=h.sLt;have hB:B≤w.heap.size:=by have:=h.bs;omega
 obtain⟨da,dn,dc,rfl⟩:=hd1;obtain⟨la,ln,lc,rfl⟩:=hd2;simp only[inB,Bool.and_eq_true,decide_eq_true_eq]at hwho hid1;have s0:=h.s0;have s1:=h.s1;have HZ:=hid hk.symm;clear hv h hk hz
 go_enter Tryz.func101,Tryz.ntmps101
 go_wp2_with (first|(go_at_call 127;refine(whole_val _ ms _ _ _ _ _ _ _ HD1.out HD2.out B _ (HV.out.below (((Below.refl _ _).alloc hB _).alloc (by simp;omega) _)) (by simp;omega)).mono ?_;rw[←HZ.out];rintro e w1 ⟨rfl,hb1⟩;obtain⟨⟨f0,f1,f2,f3,f4,f5,f6⟩,⟨r0,r1,r2,r3,r4,r5⟩,hb01,hz1⟩:=do_open hb1;clear hb1;have hS1:S<w1.heap.size:=(by omega);have hg1:w.heap.size<w1.heap.size:=(by omega);have hg2:w.heap.size+1<w1.heap.size:=(by omega);have q0:w1.cell? ⟨S,0,none⟩=some (.slice (some ⟨gw,ow,none⟩) 64 cw):=(by rw[hb01.cell (p:=⟨S,0,none⟩) hS];exact s0);have q1:w1.cell? ⟨S,1,none⟩=some (.slice (some ⟨gh,oh,none⟩) 6 ch):=(by rw[hb01.cell (p:=⟨S,1,none⟩) hS];exact s1)))
 have hd0:(0:Int)≤who * 2+id:=by omega
 have hd6:who * 2+id<6:=by omega
 go_quiet (fail)
 obtain⟨a,ha6,hae,hat⟩:=do_at hwho hid1;rw[hat];obtain⟨w2,go,hw2,hgo,⟨o0,o1,o2,o3,o4,o5⟩,hb12,hz2⟩:=do_open2 (w1:=w1) (id:=id) (U:=83) nq;rw[←hw2,←hgo];clear hw2;obtain⟨f0', f1', f2', f3', f4', f5', f6'⟩:=ReqAt.below ⟨f0,f1,f2,f3,f4,f5,f6⟩ hb12 hg1;obtain⟨r0', r1', r2', r3', r4', r5'⟩:=RspAt.below ⟨r0,r1,r2,r3,r4,r5⟩ hb12 hg2;have HB:=hid (hb01.trans (hb12.mono (by omega)));have q0':w2.cell? ⟨S,0,none⟩=some (.slice (some ⟨gw,ow,none⟩) 64 cw):=by rw[HB.out.cell (p:=⟨S,0,none⟩) hS];exact s0
 have q1':w2.cell? ⟨S,1,none⟩=some (.slice (some ⟨gh,oh,none⟩) 6 ch):=by rw[HB.out.cell (p:=⟨S,1,none⟩) hS];exact s1
 have hgo2:w.heap.size+2≤go:=by omega
 have hSgo:S<go:=by omega
 clear f0 f1 f2 f3 f4 f5 f6 r0 r1 r2 r3 r4 r5 q0 q1 hb01 hb12 s0 s1 hgo hS1 hg1 hg2 hz1;obtain⟨y,hy⟩:∃y,y=hs.getD a 0:=⟨_,rfl⟩
 have HY:=hid hy;clear hy;have h0:w2.cell? ⟨gh,oh+a,none⟩=some (.int .i64 y):=by
  rw[HB.out.cell (p:=⟨gh,oh+a,none⟩) HH.out.hh.ltI.2,HY.out];exact HH.out.hh.cellI a (by rw[HH.out.lh];exact ha6)
 have hne:(y != addr)=false:=by
  have:=HNE.out;rw[hat,←HY.out]at this;simpa using this
 go_wp2_with (first|(go_at_call 123;refine(writes_val _ _ _ _ _ _ _ _).mono ?_;rw[HW.out];rintro e w3 ⟨rfl,hbx⟩;obtain⟨f0', f1', f2', f3', f4', f5', f6'⟩:=ReqAt.below ⟨f0', f1', f2', f3', f4', f5', f6'⟩ hbx (ReqAt.lt ⟨f0', f1', f2', f3', f4', f5', f6'⟩);obtain⟨r0', r1', r2', r3', r4', r5'⟩:=RspAt.below ⟨r0', r1', r2', r3', r4', r5'⟩ hbx (RspAt.lt ⟨r0', r1', r2', r3', r4', r5'⟩);obtain⟨o0,o1,o2,o3,o4,o5⟩:=RspAt.below ⟨o0,o1,o2,o3,o4,o5⟩ hbx (RspAt.lt ⟨o0,o1,o2,o3,o4,o5⟩);have HB:=hid (HB.out.trans (hbx.mono HB.out.size));have q0':w3.cell? ⟨S,0,none⟩=some (.slice (some ⟨gw,ow,none⟩) 64 cw):=(by rw[HB.out.cell (p:=⟨S,0,none⟩) hS];exact HH.out.s0);have q1':w3.cell? ⟨S,1,none⟩=some (.slice (some ⟨gh,oh,none⟩) 6 ch):=(by rw[HB.out.cell (p:=⟨S,1,none⟩) hS];exact HH.out.s1);have hz2:go<w3.heap.size:=(RspAt.lt ⟨o0,o1,o2,o3,o4,o5⟩);have c3:w3.cell? ⟨mb,moff+k * 4+3,none⟩=some (.bool false):=(by rw[HB.out.cell (p:=⟨mb,moff+k * 4+3,none⟩) (by show mb<_;omega)];rw[←HON.out];exact HC3.out);have h0:w3.cell? ⟨gh,oh+a,none⟩=some (.int .i64 y):=(by rw[HB.out.cell (p:=⟨gh,oh+a,none⟩) HH.out.hh.ltI.2,HY.out];exact HH.out.hh.cellI a (by rw[HH.out.lh];exact ha6));clear hbx))
 go_quiet (fail)
 obtain⟨xs,hxs⟩:∃xs,xs=burst addr many wp:=⟨_,rfl⟩
 have HXS:=hid hxs;have hl4:xs.length≤4:=by rw[hxs];exact burst_len
 have HIN:=hid (show ∀x∈xs,0≤x∧x≤63 by rw[hxs];exact burst_in);have hdl:data.length=xs.length:=by rw[hxs];exact HDL.out
 have hll:lanes.length=xs.length:=by rw[hxs];exact HLL.out
 have HDL2:=hid hdl;have HLL2:=hid hll;clear hdl hll;clear hxs;obtain⟨w4,hw4⟩:∃w4,w4=w3.drewN nq:=⟨_,rfl⟩
 rw[←hw4];have hbx:Below w3.heap.size w3 w4:=by rw[hw4];exact Below.draws (Below.refl _ _) _
 obtain⟨f0', f1', f2', f3', f4', f5', f6'⟩:=ReqAt.below ⟨f0', f1', f2', f3', f4', f5', f6'⟩ hbx (ReqAt.lt ⟨f0', f1', f2', f3', f4', f5', f6'⟩);obtain⟨r0', r1', r2', r3', r4', r5'⟩:=RspAt.below ⟨r0', r1', r2', r3', r4', r5'⟩ hbx (RspAt.lt ⟨r0', r1', r2', r3', r4', r5'⟩);obtain⟨o0,o1,o2,o3,o4,o5⟩:=RspAt.below ⟨o0,o1,o2,o3,o4,o5⟩ hbx (RspAt.lt ⟨o0,o1,o2,o3,o4,o5⟩);have HB:=hid (HB.out.trans (hbx.mono HB.out.size));have q0':w4.cell? ⟨S,0,none⟩=some (.slice (some ⟨gw,ow,none⟩) 64 cw):=(by rw[HB.out.cell (p:=⟨S,0,none⟩) hS];exact HH.out.s0);have q1':w4.cell? ⟨S,1,none⟩=some (.slice (some ⟨gh,oh,none⟩) 6 ch):=(by rw[HB.out.cell (p:=⟨S,1,none⟩) hS];exact HH.out.s1);have hz2:go<w4.heap.size:=(RspAt.lt ⟨o0,o1,o2,o3,o4,o5⟩)
 clear hbx hw4
 go_wp2_with (first
  |(go_at_call 146;refine(reqBurst_val _ _ _ _ _ _ _ _).mono ?_;rintro e w3 ⟨u,rfl,hu,hbx,hfr⟩;rw[←HXS.out]at hu;obtain⟨ao,cap,hue,hlc,hcap,hln,hni,hr⟩:=hu.opened;subst hue;obtain⟨cu,hcu⟩:∃cu,cu=w3.heap.size:=⟨_,rfl⟩;have HU:=hid (show Ints w3 cu _ xs by rw[hcu];exact hu);replace hcu:cu≤w3.heap.size:=(by omega);have HF:=hid (show ∀k,(Value.slice ao xs.length cap).ownBlock=some k→go<k from fun k hk=>Nat.lt_of_lt_of_le hz2 (hfr k hk));clear hu hr hfr;obtain⟨f0', f1', f2', f3', f4', f5', f6'⟩:=ReqAt.below ⟨f0', f1', f2', f3', f4', f5', f6'⟩ hbx (ReqAt.lt ⟨f0', f1', f2', f3', f4', f5', f6'⟩);obtain⟨r0', r1', r2', r3', r4', r5'⟩:=RspAt.below ⟨r0', r1', r2', r3', r4', r5'⟩ hbx (RspAt.lt ⟨r0', r1', r2', r3', r4', r5'⟩);obtain⟨o0,o1,o2,o3,o4,o5⟩:=RspAt.below ⟨o0,o1,o2,o3,o4,o5⟩ hbx (RspAt.lt ⟨o0,o1,o2,o3,o4,o5⟩);have HB:=hid (HB.out.trans (hbx.mono HB.out.size));have q0':w3.cell? ⟨S,0,none⟩=some (.slice (some ⟨gw,ow,none⟩) 64 cw):=(by rw[HB.out.cell (p:=⟨S,0,none⟩) hS];exact HH.out.s0);have q1':w3.cell? ⟨S,1,none⟩=some (.slice (some ⟨gh,oh,none⟩) 6 ch):=(by rw[HB.out.cell (p:=⟨S,1,none⟩) hS];exact HH.out.s1);have hz2:go<w3.heap.size:=(RspAt.lt ⟨o0,o1,o2,o3,o4,o5⟩);clear hbx)
  |(go_at_call 123;refine(writes_val _ _ _ _ _ _ _ _).mono ?_;rw[HW.out];rintro e w5 ⟨rfl,hbx⟩;have HU:=hid (HU.out.below (hbx.mono hcu));replace hcu:cu≤w5.heap.size:=(Nat.le_trans hcu hbx.size);obtain⟨f0', f1', f2', f3', f4', f5', f6'⟩:=ReqAt.below ⟨f0', f1', f2', f3', f4', f5', f6'⟩ hbx (ReqAt.lt ⟨f0', f1', f2', f3', f4', f5', f6'⟩);obtain⟨r0', r1', r2', r3', r4', r5'⟩:=RspAt.below ⟨r0', r1', r2', r3', r4', r5'⟩ hbx (RspAt.lt ⟨r0', r1', r2', r3', r4', r5'⟩);obtain⟨o0,o1,o2,o3,o4,o5⟩:=RspAt.below ⟨o0,o1,o2,o3,o4,o5⟩ hbx (RspAt.lt ⟨o0,o1,o2,o3,o4,o5⟩);have HB:=hid (HB.out.trans (hbx.mono HB.out.size));have q0':w5.cell? ⟨S,0,none⟩=some (.slice (some ⟨gw,ow,none⟩) 64 cw):=(by rw[HB.out.cell (p:=⟨S,0,none⟩) hS];exact HH.out.s0);have q1':w5.cell? ⟨S,1,none⟩=some (.slice (some ⟨gh,oh,none⟩) 6 ch):=(by rw[HB.out.cell (p:=⟨S,1,none⟩) hS];exact HH.out.s1);have hz2:go<w5.heap.size:=(RspAt.lt ⟨o0,o1,o2,o3,o4,o5⟩);clear hbx))
 obtain⟨w7,hw7⟩:∃w7,w7=w5.setCell ⟨go,1,none⟩ (.int .i64 2):=⟨_,rfl⟩
 rw[←hw7];have ht67:Touch go w5 w7:=by rw[hw7];exact Touch.setCell ..
 have O0:w7.cell? ⟨go,0,none⟩=some (.int .i64 id):=by rw[hw7];simp[go_sem,o0]
 have O1:w7.cell? ⟨go,1,none⟩=some (.int .i64 2):=by rw[hw7];simp[go_sem,o1]
 have O2:w7.cell? ⟨go,2,none⟩=some (.slice none 0 0):=by rw[hw7];simp[go_sem,o2]
 have hgo7:go<w7.heap.size:=by have:=ht67.size;omega
 have HB7:=hid (HB.out.trans (ht67.below (show w.heap.size≤go by omega) HB.out.size));have ga:∀g,g≠go→g<w5.heap.size→w7.heap[g]? = w5.heap[g]?:=fun g h1 h2=>ht67.block g h2 h1
 obtain⟨f0,f1,f2,f3,f4,f5,f6⟩:=ReqAt.heap ⟨f0', f1', f2', f3', f4', f5', f6'⟩ (ga _ (by omega) (ReqAt.lt ⟨f0', f1', f2', f3', f4', f5', f6'⟩));obtain⟨r0,r1,r2,r3,r4,r5⟩:=RspAt.heap ⟨r0', r1', r2', r3', r4', r5'⟩ (ga _ (by omega) (RspAt.lt ⟨r0', r1', r2', r3', r4', r5'⟩));have hU7:Ints w7 cu (.slice ao xs.length cap) xs:=by
  refine⟨?_,HU.out.2⟩;obtain⟨ao', cap', he,k1,k2,k3,k4,k5⟩:=HU.out.1;refine⟨ao', cap', he,k1,k2,k3,k4,fun hn=>?_⟩;obtain⟨b,off,ha,hb,hc⟩:=k5 hn;refine⟨b,off,ha,hb,fun t ht j hj=>?_⟩;rw[←hc t ht j hj];simp only[Value.slice.injEq]at he;have hbgo:go<b:=HF.out b (by rw[he.1,ha];rfl);exact Touch.cell ht67 (by show b≠go;omega) (by show b<_;omega)
 have HU7:=hid hU7;have hg1:w.heap.size<go:=by omega
 have hg2:w.heap.size+1<go:=by omega
 have hn7:=HB7.out.size;have hcu7:cu≤w7.heap.size:=Nat.le_trans hcu ht67.size;have hgh:gh<w.heap.size:=HH.out.hh.ltI.2;have hgw:gw<w.heap.size:=HH.out.ww.ltI.2;have hBw:=HH.out.ww.ltI.1;have hBh:=HH.out.hh.ltI.1;have hA7:=HH.out.kept HB7.out (Nat.le_refl _);have HA7:=hid hA7;clear hU7 ga ht67 hw7 f0' f1' f2' f3' f4' f5' f6' r0' r1' r2' r3' r4' r5' o0 o1 o2 o3 o4 o5 q0' q1' HB HU hz2 hcu hA7;have hne1:=HH.out.ne;have hne2:=HH.out.n1;have hne3:=HH.out.n2
 go_loopw [15,16,109] (fun _ _ i wr=>∃k:Nat,k≤xs.length∧i=.int .i64 k∧AtmAt wr B S gw ow cw gh oh ch (putK ws xs data lanes k) hs∧Touch2 gw gh w7 wr) (fun _ _ i _=>xs.length - (intOf i).toNat)
 case atStart=>exact⟨0,Nat.zero_le _,rfl,by rw[putK_zero];exact HA7.out,Touch2.refl _ _ _⟩
 case round=>
  obtain⟨k,hk,rfl,hat2,ht⟩:=hrel;have hsz:=ht.size;have HAT:=hid hat2;clear hat2;have HTT:=hid ht;obtain⟨f0', f1', f2', f3', f4', f5', f6'⟩:=ReqAt.heap (w':=wr) ⟨f0,f1,f2,f3,f4,f5,f6⟩ (ht.block _ (by omega) (by omega) (by omega));by_cases hlt:k<xs.length
  ·obtain⟨_,_,hue,_,_,_,_,hur⟩:=HU7.out.opened;obtain⟨rfl,_,rfl⟩:=Value.slice.inj hue;obtain⟨b,off,rfl,hb,hc⟩:=hur (by omega);have hbgo:go<b:=HF.out b rfl;have hck:=hc k hlt;rw[←Touch2.cell ht (p:=⟨b,off+k,none⟩) (by show b≠gw;omega) (by show b≠gh;omega) (by show b<_;omega)]at hck;have hin:=HIN.out (xs.getD k 0) (getD_mem hlt);have hstep:=putK_succ ws (xs:=xs) (ds:=data) (ls:=lanes) (k:=k) HDL2.out HLL2.out hlt;have hdl:=HDL2.out;have hll:=HLL2.out;obtain⟨m,hm⟩:=Int.eq_ofNat_of_zero_le hin.1;rw[hm]at hck hin hstep;have HM:=hid hm;clear hm hc hur hue;have hm64:m<64:=by omega
   have hBr:Below B w wr:=(HB7.out.mono hB).trans (ht.below hBw hBh (Nat.le_trans hB hn7));obtain⟨_,_,hde,_,_,_,_,hdr⟩:=(HDV.out.below hBr).opened;obtain⟨_,_,hle,_,_,_,_,hlr⟩:=(HLV.out.below hBr).opened;obtain⟨rfl,hdn,rfl⟩:=Value.slice.inj hde;obtain⟨rfl,hln2,rfl⟩:=Value.slice.inj hle;obtain⟨b1,off1,rfl,hb1,hc1⟩:=hdr (by omega);obtain⟨b2,off2,rfl,hb2,hc2⟩:=hlr (by omega);have hd1:=hc1 k (by omega);have hl1:=hc2 k (by omega);have hwc:=HAT.out.ww.cellI m (by rw[putK_len,HH.out.lw];exact hm64);have hwf:=HAT.out.ww.frozenI m;obtain⟨x,hx⟩:∃x,x=(putK ws xs data lanes k).getD m 0:=⟨_,rfl⟩
   obtain⟨d,hd⟩:∃d,d=data.getD k 0:=⟨_,rfl⟩
   obtain⟨l,hl⟩:∃l,l=lanes.getD k 0:=⟨_,rfl⟩
   rw[←hx]at hwc;rw[←hd]at hd1;rw[←hl]at hl1;rw[Int.toNat_natCast,←hx,←hd,←hl]at hstep;have HPut:=hid (fun W=>put_any x d l W (by rw[hx];exact getD_ok (putK_ok HWS.out HDO.out) (by decide)) (by rw[hd];exact getD_ok HDO.out (by decide)) (by rw[hl];exact getD_ok (p:=fun l=>inB l 0 3) HLO.out (by decide)));have HST:=hid hstep;clear hx hd hl hdr hlr hc1 hc2 hde hle hstep hBr ht;have p3:=HAT.out.s0;have hdk:(k:Int)<(dn:Int):=by omega
   have hlk:(k:Int)<(ln:Int):=by omega
   clear hdn hln2 hdl hll
   go_wp2
   have hmi:(m:Int)<64:=by omega
   refine wp_region_still_tail 26 (by kernel_rfl) (by kernel_rfl) ?_;obtain⟨w9,hw9⟩:∃w9,w9=wr.drew:=⟨_,rfl⟩
   change wpStill Tryz.prog _ wr.drew (fun a' => wpList Tryz.prog _ _ _ a' wr.drew) _ _;have y0:w9.cell? ⟨S,0,none⟩=some (.slice (some ⟨gw,ow,none⟩) 64 cw):=by rw[hw9];exact p3
   have y1:w9.cell? ⟨gw,ow+m,none⟩=some (.int .i64 x):=by rw[hw9];exact hwc
   have y2:w9.frozen? ⟨gw,ow+m,none⟩=false:=by rw[hw9];exact hwf
   have y3:w9.cell? ⟨w.heap.size,5,none⟩=some (.slice (some ⟨b1,off1,none⟩) dn dc):=by rw[hw9];exact f5'
   have y4:w9.cell? ⟨w.heap.size,6,none⟩=some (.slice (some ⟨b2,off2,none⟩) ln lc):=by rw[hw9];exact f6'
   have y5:w9.cell? ⟨b1,off1+k,none⟩=some (.int .i64 d):=by rw[hw9];exact hd1
   have y6:w9.cell? ⟨b2,off2+k,none⟩=some (.int .i64 l):=by rw[hw9];exact hl1
   rw[←hw9];have HNext:=hid ((show AtmAt w9 B S gw ow cw gh oh ch (putK ws xs data lanes k) hs by rw[hw9];exact HAT.out.kept ((Below.refl _ _).drew) (Nat.le_refl _)).putW m (putW x d l) hm64);rw[←HST.out]at HNext;have HT9:=hid (HTT.out.trans (show Touch2 gw gh wr w9 by rw[hw9];exact Touch2.of_below ((Below.refl _ _).drew) (Nat.le_refl _)));clear hw9;simp only[List.take_succ_cons,List.take_zero,List.drop_succ_cons,List.drop_zero]
   repeat still_step
   still_call ((HPut.out _).mono (fun _ _ h=>⟨h.1,h.2.symm⟩))
   repeat still_step
   refine wpStill_nil ?_
   go_wp2
   go_roundw
   case rel=>exact⟨k+1,by omega,by go_num,HNext.out,HT9.out.trans (Touch2.left ..)⟩
   case measure=>simp[intOf];omega
  ·obtain rfl:k=xs.length:=by omega
   have HA2:=HAT.out;rw[putK_all _ _ _ _ HDL2.out HLL2.out]at HA2;obtain⟨ws2,hws2⟩:∃ws2,ws2=putAll ws xs data lanes:=⟨_,rfl⟩
   rw[←hws2]at HA2;have HWS2:=hid hws2;clear hws2 ht;obtain⟨wo,rfl⟩:∃wo:World,wo=wr:=⟨_,rfl⟩
   have q1:=HA2.s1;have HA3:=hid HA2;clear HA2;have hlh:=HH.out.lh;have HLH:=hid hlh;clear hlh
   go_wp2
   clear q1
   go_loopw [17,18,146] (fun _ _ i wr=>∃j:Nat,j≤6∧i=.int .i64 j∧AtmAt wr B S gw ow cw gh oh ch ws2 (freeK hs xs j)∧Touch2 gw gh w7 wr) (fun _ _ i _=>6 - (intOf i).toNat)
   case atStart=>exact⟨0,Nat.zero_le _,rfl,by rw[freeK_zero];exact HA3.out,HTT.out⟩
   case round=>
    obtain⟨j,hj,rfl,hat3,ht⟩:=hrel;have HAT3:=hid hat3;have HT3:=hid ht;by_cases hj6:j<6
    ·have hUr : Ints wr cu (.slice ao xs.length cap) xs := HU7.out.heap (fun k hk hkc => by
      have:=HF.out k hk;exact ht.block k (by omega) (by omega) (by omega))
     have HUr:=hid hUr;have hcell:=hat3.hh.cellI j (by rw[freeK_len,HLH.out];exact hj6);rw[freeK_get (by rw[HLH.out];exact hj6)]at hcell;have hfr:=hat3.hh.frozenI j;have p1:=hat3.s1;obtain⟨y,hy⟩:∃y,y=hs.getD j 0:=⟨_,rfl⟩
     rw[←hy]at hcell;have hstep:=freeK_succ (hs:=hs) (xs:=xs) (k:=j) (by rw[HLH.out];exact hj6);rw[←hy]at hstep;rcases hct:xs.contains y with _|_
     ·have HSame := hid (show freeK hs xs (j + 1) = freeK hs xs j by
       rw[hstep,freeOne,if_neg (by rw[hct];simp)];exact set_self (by rw[freeK_get (by rw[HLH.out];exact hj6),hy]) (by rw[freeK_len,HLH.out];exact hj6))
      clear hstep hy hUr hat3 ht
      go_wp2_with (first|(go_at_call 148;refine(sContains_any _ xs y cu _ HUr.out).mono ?_;rw[hct];rintro e w' ⟨rfl,rfl⟩))
      go_roundw
      case rel=>exact⟨j+1,by omega,by go_num,by rw[HSame.out];exact HAT3.out,HT3.out⟩
      case measure=>simp[intOf];omega
     ·have HNew := hid (show freeK hs xs (j + 1) = (freeK hs xs j).set j (-1) by
       rw[hstep,freeOne,if_pos hct])
      clear hstep hy hUr hat3 ht
      go_wp2_with (first|(go_at_call 148;refine(sContains_any _ xs y cu _ HUr.out).mono ?_;rw[hct];rintro e w' ⟨rfl,rfl⟩))
      go_roundw
      case rel=>exact⟨j+1,by omega,by go_num,by rw[HNew.out];exact HAT3.out.putH j (-1) hj6,HT3.out.trans (Touch2.right ..)⟩
      case measure=>simp[intOf];omega
    ·obtain rfl:j=6:=by omega
     have hfa:freeK hs xs 6=freeAll hs xs:=by rw[←HLH.out];exact freeK_all hs xs
     rw[hfa]at HAT3;clear hat3 hfa;obtain⟨r0', r1', r2', r3', r4', r5'⟩:=RspAt.heap (w':=wr) ⟨r0,r1,r2,r3,r4,r5⟩ (ht.block _ (by omega) (by omega) (by omega));have p0:wr.cell? ⟨go,0,none⟩=some (.int .i64 id):=by rw[Touch2.cell ht (p:=⟨go,0,none⟩) (by show go≠gw;omega) (by show go≠gh;omega) (by show go<_;omega)];exact O0
     have p1:wr.cell? ⟨go,1,none⟩=some (.int .i64 2):=by rw[Touch2.cell ht (p:=⟨go,1,none⟩) (by show go≠gw;omega) (by show go≠gh;omega) (by show go<_;omega)];exact O1
     have p2:wr.cell? ⟨go,2,none⟩=some (.slice none 0 0):=by rw[Touch2.cell ht (p:=⟨go,2,none⟩) (by show go≠gw;omega) (by show go≠gh;omega) (by show go<_;omega)];exact O2
     clear ht r0 r1 r2 r3 r4 r5 O0 O1 O2
     go_wp2
     have hTE:=hid ((((Touch2.trans (Touch2.of_below HB7.out (Nat.le_refl _)) HT3.out:Touch2 gw gh w wr).fresh (g:=w.heap.size+1) (o:=0) (u:=.int .i64 id) (by omega)).fresh (g:=w.heap.size+1) (o:=1) (u:=.int .i64 2) (by omega)).fresh (g:=w.heap.size+1) (o:=2) (u:=.slice none 0 0) (by omega));refine bodyPost_ret (results_c1 Tryz.results101 _ _ ⟨w.heap.size+1,0,none⟩ (.agg #[.int .i64 id,.int .i64 2,.slice none 0 0]) rfl ?_) rfl ?_
     ·exact loadVar_rsp _ _ _ _ _ (by simp[go_sem,r0']) (by simp[go_sem,r1']) (by simp[go_sem,r2'])
     refine⟨_,rfl,Owns.zero,?_,hTE.out⟩;rw[←HXS.out,←HWS2.out];exact(((HAT3.out.other _ 0 _ (by omega) (by omega) (by omega)).other _ 1 _ (by omega) (by omega) (by omega)).other _ 2 _ (by omega) (by omega) (by omega))
end Go.Proofs.YthnlalffjepdaaaGreat
