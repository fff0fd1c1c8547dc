/- do of the program: where the range can but be read; where a try is not held (printed by wip/gen_do.py). -/
import Derived.Test.YthnlalffjepdaaaGreatGReq
set_option linter.unusedVariables false
set_option linter.unusedSimpArgs false
namespace Go.Proofs.YthnlalffjepdaaaGreat
open Go.RowKit
theorem results_c1 {fn : Func} {t : Tmp} {T : TypeId} (h : fn.results = #[.cell t T]) (tmps : Array Value) (w : World) (p : Addr) (v : Value) (ht : tmps.getD t undef = .pointer (some p)) (hl : (loadVar T p).run Tryz.prog w = .ok v w) :
  (results fn tmps).run Tryz.prog w=.ok v w:=by
 simp only[Array.getD_eq_getD_getElem?]at ht;simp only[results,h];simp[ht,asAddr,hl]
theorem results_ct {fn : Func} {t u : Tmp} {T : TypeId} (h : fn.results = #[.cell t T, .tmp u]) (tmps : Array Value) (w : World) (p : Addr) (v : Value) (ht : tmps.getD t undef = .pointer (some p)) (hl : (loadVar T p).run Tryz.prog w = .ok v w) :
  (results fn tmps).run Tryz.prog w=.ok (.tuple #[v,tmps.getD u undef]) w:=by
 simp only[Array.getD_eq_getD_getElem?]at ht;simp only[results,h];simp[ht,asAddr,hl]
theorem loadVar_rsp (w:World) (g:Nat) (a b c:Value) (h0:w.cell? ⟨g,0,none⟩=some a) (h1:w.cell? ⟨g,1,none⟩=some b) (h2:w.cell? ⟨g,2,none⟩=some c):(loadVar 83 ⟨g,0,none⟩).run Tryz.prog w=.ok (.agg #[a,b,c]) w:=by
 simp[loadVar,go_sem,h0,h1,h2]
theorem loadVar_atm (w:World) (g:Nat) (a b:Value) (h0:w.cell? ⟨g,0,none⟩=some a) (h1:w.cell? ⟨g,1,none⟩=some b):(loadVar 41 ⟨g,0,none⟩).run Tryz.prog w=.ok (.agg #[a,b]) w:=by
 simp[loadVar,go_sem,h0,h1]
structure AtmAt (w:World) (B S gw ow cw gh oh ch:Nat) (ws hs:List Int):Prop where
 s0:w.cell? ⟨S,0,none⟩=some (.slice (some ⟨gw,ow,none⟩) 64 cw)
 s1:w.cell? ⟨S,1,none⟩=some (.slice (some ⟨gh,oh,none⟩) 6 ch)
 ww:Owns w B 3 1 rowI (.slice (some ⟨gw,ow,none⟩) 64 cw) ws
 hh:Owns w B 3 1 rowI (.slice (some ⟨gh,oh,none⟩) 6 ch) hs
 ne:gw≠gh
 n1:S≠gw
 n2:S≠gh
 bs:B≤S
 lw:ws.length=64
 lh:hs.length=6
 c1:64≤cw
 c2:6≤ch
theorem AtmAt.sLt {w:World} {B S gw ow cw gh oh ch:Nat} {ws hs:List Int} (h:AtmAt w B S gw ow cw gh oh ch ws hs):S<w.heap.size:=World.block_lt_of_cell? w _ h.s0
theorem AtmAt.kept {w w':World} {B S gw ow cw gh oh ch C:Nat} {ws hs:List Int} (h:AtmAt w B S gw ow cw gh oh ch ws hs) (hb:Below C w w') (hC:w.heap.size≤C):AtmAt w' B S gw ow cw gh oh ch ws hs:=by
  have h1:=h.ww.ltI;have h2:=h.hh.ltI;have h3:=h.sLt
  exact { h with s0 := by rw [hb.cell (by show S < C; omega)]; exact h.s0
                 s1:=by rw[hb.cell (by show S<C;omega)];exact h.s1
                 ww:=h.ww.below (hb.mono hC)
                 hh:=h.hh.below (hb.mono hC) }
def DoP (B S gw ow cw gh oh ch:Nat) (ws hs:List Int) (x:Rs) (w:World) (e:Ending) (w':World):Prop :=
 ∃dv,e=.returned (.agg #[.int .i64 x.id,.int .i64 x.code,dv])∧Owns w' w.heap.size 3 1 rowI dv x.data∧AtmAt w' B S gw ow cw gh oh ch ws hs∧Touch2 gw gh w w'
def RspAt (w:World) (g:Nat) (id code:Int) (dv:Value):Prop :=
 w.cell? ⟨g,0,none⟩=some (.int .i64 id)∧w.cell? ⟨g,1,none⟩=some (.int .i64 code)∧w.cell? ⟨g,2,none⟩=some dv∧w.frozen? ⟨g,0,none⟩=false∧w.frozen? ⟨g,1,none⟩=false∧w.frozen? ⟨g,2,none⟩=false
theorem RspAt.below {w w':World} {g C:Nat} {id code:Int} {dv:Value} (h:RspAt w g id code dv) (hb:Below C w w') (hg:g<C):RspAt w' g id code dv:=by
 obtain⟨f0,f1,f2,f3,f4,f5⟩:=h;refine⟨?_,?_,?_,?_,?_,?_⟩ <;> first|(rw[hb.cell (by exact hg)];assumption)|(rw[hb.frozen (by exact hg)];assumption)
theorem RspAt.lt {w:World} {g:Nat} {id code:Int} {dv:Value} (h:RspAt w g id code dv):g<w.heap.size:=World.block_lt_of_cell? w _ h.1
theorem do_open {w w1 : World} {id kind addr many : Int} {wp : Bool} {dv lv : Value} {T U : TypeId}
  (hb : Below ((w.alloc (.cells #[.int .i64 id, .int .i64 kind, .int .i64 addr, .int .i64 many, .bool wp, dv, lv] T)).alloc (.cells #[.int .i64 0, .int .i64 0, .slice none 0 0] U)).heap.size
   ((w.alloc (.cells #[.int .i64 id,.int .i64 kind,.int .i64 addr,.int .i64 many,.bool wp,dv,lv] T)).alloc (.cells #[.int .i64 0,.int .i64 0,.slice none 0 0] U)) w1) :
  ReqAt w1 w.heap.size id kind addr many wp dv lv∧RspAt w1 (w.heap.size+1) 0 0 (.slice none 0 0)∧Below w.heap.size w w1∧w.heap.size+2≤w1.heap.size:=by
 refine⟨⟨?_,?_,?_,?_,?_,?_,?_⟩,⟨?_,?_,?_,?_,?_,?_⟩,?_,?_⟩
 ·rw[hb.cell (by simp;omega)];simp
 ·rw[hb.cell (by simp;omega)];simp
 ·rw[hb.cell (by simp;omega)];simp
 ·rw[hb.cell (by simp;omega)];simp
 ·rw[hb.cell (by simp;omega)];simp
 ·rw[hb.cell (by simp;omega)];simp
 ·rw[hb.cell (by simp;omega)];simp
 ·rw[hb.cell (by simp)];simp
 ·rw[hb.cell (by simp)];simp
 ·rw[hb.cell (by simp)];simp
 ·rw[hb.frozen (by simp)];simp
 ·rw[hb.frozen (by simp)];simp
 ·rw[hb.frozen (by simp)];simp
 ·exact(((Below.refl _ _).alloc (Nat.le_refl _) _).alloc (by simp) _).trans (hb.mono (by simp;omega))
 ·have:=hb.size;simp at this;omega
theorem do_open2 {w1 : World} {id : Int} {U : TypeId} (n : Nat) :
  ∃w2 go,w2=(w1.alloc (.cells #[.int .i64 id,.int .i64 1,.slice none 0 0] U)).drewN n∧go=w1.heap.size∧RspAt w2 go id 1 (.slice none 0 0)∧Below w1.heap.size w1 w2∧go<w2.heap.size:=by
 refine⟨_,_,rfl,rfl,⟨?_,?_,?_,?_,?_,?_⟩,Below.draws ((Below.refl _ _).alloc (Nat.le_refl _) _) _,?_⟩ <;> simp
theorem do_at {who id:Int} (hwho:0≤who∧who≤2) (hid1:0≤id∧id≤1):∃a:Nat,a<6∧who * 2+id=a∧(who * 2+id).toNat=a:=⟨(who * 2+id).toNat,by omega,by omega,rfl⟩
set_option maxHeartbeats 4000000 in
theorem do_none (v : Value) (ms : List MR) (B S gw ow cw gh oh ch : Nat) (ws hs : List Int) (who : Int) (id kind addr many : Int) (wp : Bool) (dv lv : Value) (w : World) (hv : Maps w B v ms) (h : AtmAt w B S gw ow cw gh oh ch ws hs)
  (hd1:∃a n c,dv=.slice a n c) (hd2:∃a n c,lv=.slice a n c) (hwho:inB who 0 2=true) (hid1:inB id 0 1=true) (hz:wholeOf ms (burst addr many wp)<0) :
  Calls Tryz.prog 101 #[.pointer (some ⟨S,0,none⟩),v,.int .i64 who,.agg #[.int .i64 id,.int .i64 kind,.int .i64 addr,.int .i64 many,.bool wp,dv,lv]] w (DoP B S gw ow cw gh oh ch ws hs ⟨id,4,[]⟩ w):=by
 have HD1:=hid hd1;have HD2:=hid hd2;have HV:=hid hv;have HH:=hid h;have hS:=h.sLt;have hB:B≤w.heap.size:=by have:=h.bs;omega
 obtain⟨da,dn,dc,rfl⟩:=hd1;obtain⟨la,ln,lc,rfl⟩:=hd2;simp only[inB,Bool.and_eq_true,decide_eq_true_eq]at hwho hid1;have s0:=h.s0;have s1:=h.s1;obtain⟨z,hzz⟩:∃z,z=wholeOf ms (burst addr many wp):=⟨_,rfl⟩
 rw[←hzz]at hz;have HZ:=hid hzz;clear hv h hzz
 go_enter Tryz.func101,Tryz.ntmps101
 go_wp2_with (first|(go_at_call 127;refine(whole_val _ ms _ _ _ _ _ _ _ HD1.out HD2.out B _ (HV.out.below (((Below.refl _ _).alloc hB _).alloc (by simp;omega) _)) (by simp;omega)).mono ?_;rw[←HZ.out];rintro e w1 ⟨rfl,hb1⟩;obtain⟨⟨f0,f1,f2,f3,f4,f5,f6⟩,⟨r0,r1,r2,r3,r4,r5⟩,hb01,hz1⟩:=do_open hb1;clear hb1;have hS1:S<w1.heap.size:=(by omega);have hg1:w.heap.size<w1.heap.size:=(by omega);have hg2:w.heap.size+1<w1.heap.size:=(by omega);have q0:w1.cell? ⟨S,0,none⟩=some (.slice (some ⟨gw,ow,none⟩) 64 cw):=(by rw[hb01.cell (p:=⟨S,0,none⟩) hS];exact s0);have q1:w1.cell? ⟨S,1,none⟩=some (.slice (some ⟨gh,oh,none⟩) 6 ch):=(by rw[hb01.cell (p:=⟨S,1,none⟩) hS];exact s1)))
 have hd0:(0:Int)≤who * 2+id:=by omega
 have hd6:who * 2+id<6:=by omega
 go_quiet (fail)
 obtain⟨a,ha6,hae,hat⟩:=do_at hwho hid1;rw[hat];obtain⟨w2,go,hw2,hgo,⟨o0,o1,o2,o3,o4,o5⟩,hb12,hz2⟩:=do_open2 (w1:=w1) (id:=id) (U:=83) nq;rw[←hw2,←hgo];clear hw2;obtain⟨f0', f1', f2', f3', f4', f5', f6'⟩:=ReqAt.below ⟨f0,f1,f2,f3,f4,f5,f6⟩ hb12 hg1;obtain⟨r0', r1', r2', r3', r4', r5'⟩:=RspAt.below ⟨r0,r1,r2,r3,r4,r5⟩ hb12 hg2;have HB:=hid (hb01.trans (hb12.mono (by omega)));have q0':w2.cell? ⟨S,0,none⟩=some (.slice (some ⟨gw,ow,none⟩) 64 cw):=by rw[HB.out.cell (p:=⟨S,0,none⟩) hS];exact s0
 have q1':w2.cell? ⟨S,1,none⟩=some (.slice (some ⟨gh,oh,none⟩) 6 ch):=by rw[HB.out.cell (p:=⟨S,1,none⟩) hS];exact s1
 have hgo2:w.heap.size+2≤go:=by omega
 have hSgo:S<go:=by omega
 clear f0 f1 f2 f3 f4 f5 f6 r0 r1 r2 r3 r4 r5 q0 q1 hb01 hb12 s0 s1 hgo hS1 hg1 hg2 hz1
 go_wp2_with fail
 have hbE:=hid ((((HB.out.setCell (p:=⟨go,1,none⟩) (by show _≤go;omega) (.int .i64 4)).setCell (p:=⟨w.heap.size+1,0,none⟩) (by simp) (.int .i64 id)).setCell (p:=⟨w.heap.size+1,1,none⟩) (by simp) (.int .i64 4)).setCell (p:=⟨w.heap.size+1,2,none⟩) (by simp) (.slice none 0 0));refine bodyPost_ret (results_c1 Tryz.results101 _ _ ⟨w.heap.size+1,0,none⟩ (.agg #[.int .i64 id,.int .i64 4,.slice none 0 0]) rfl ?_) rfl ?_
 ·exact loadVar_rsp _ _ _ _ _ (by simp[go_sem,r0']) (by simp[go_sem,r1']) (by simp[go_sem,r2'])
 exact⟨_,rfl,Owns.zero,HH.out.kept hbE.out (Nat.le_refl _),Touch2.of_below hbE.out (Nat.le_refl _)⟩
set_option maxRecDepth 4000 in
set_option maxHeartbeats 8000000 in
theorem do_deny (v : Value) (ms : List MR) (B S gw ow cw gh oh ch : Nat) (ws hs : List Int) (who : Int) (id kind addr many : Int) (wp : Bool) (dv lv : Value) (w : World) (hv : Maps w B v ms) (h : AtmAt w B S gw ow cw gh oh ch ws hs)
  (hd1:∃a n c,dv=.slice a n c) (hd2:∃a n c,lv=.slice a n c) (hwho:inB who 0 2=true) (hid1:inB id 0 1=true) (hz:0≤wholeOf ms (burst addr many wp)) (hw:(kind==2 || kind==4)=true) (hon:(ms.getD (wholeOf ms (burst addr many wp)).toNat default).only=true) :
  Calls Tryz.prog 101 #[.pointer (some ⟨S,0,none⟩),v,.int .i64 who,.agg #[.int .i64 id,.int .i64 kind,.int .i64 addr,.int .i64 many,.bool wp,dv,lv]] w (DoP B S gw ow cw gh oh ch ws hs ⟨id,3,[]⟩ w):=by
 have HW:=hid hw;clear hw;obtain⟨k,hk⟩:=Int.eq_ofNat_of_zero_le (show 0≤wholeOf ms (burst addr many wp) by omega);have hkm:k<ms.length:=by have:=wholeOf_lt ms (burst addr many wp);omega
 obtain⟨mo,mcap,rfl,hm1,hm2,hm3,hm4,hmr⟩:=hv.opened;obtain⟨mb,moff,rfl,hmb,hmc⟩:=hmr (by omega);obtain⟨_,_,_,c3⟩:=hmc k hkm;have HC3:=hid c3;have HON:=hid (show(ms.getD k default).only=true by rw[hk]at hon;exact hon);clear hon c3 hmc hmr;have HD1:=hid hd1;have HD2:=hid hd2;have HV:=hid hv;have HH:=hid h;have hS:=h.sLt;have hB:B≤w.heap.size:=by have:=h.bs;omega
 obtain⟨da,dn,dc,rfl⟩:=hd1;obtain⟨la,ln,lc,rfl⟩:=hd2;simp only[inB,Bool.and_eq_true,decide_eq_true_eq]at hwho hid1;have s0:=h.s0;have s1:=h.s1;have HZ:=hid hk.symm;clear hv h hk hz
 go_enter Tryz.func101,Tryz.ntmps101
 go_wp2_with (first|(go_at_call 127;refine(whole_val _ ms _ _ _ _ _ _ _ HD1.out HD2.out B _ (HV.out.below (((Below.refl _ _).alloc hB _).alloc (by simp;omega) _)) (by simp;omega)).mono ?_;rw[←HZ.out];rintro e w1 ⟨rfl,hb1⟩;obtain⟨⟨f0,f1,f2,f3,f4,f5,f6⟩,⟨r0,r1,r2,r3,r4,r5⟩,hb01,hz1⟩:=do_open hb1;clear hb1;have hS1:S<w1.heap.size:=(by omega);have hg1:w.heap.size<w1.heap.size:=(by omega);have hg2:w.heap.size+1<w1.heap.size:=(by omega);have q0:w1.cell? ⟨S,0,none⟩=some (.slice (some ⟨gw,ow,none⟩) 64 cw):=(by rw[hb01.cell (p:=⟨S,0,none⟩) hS];exact s0);have q1:w1.cell? ⟨S,1,none⟩=some (.slice (some ⟨gh,oh,none⟩) 6 ch):=(by rw[hb01.cell (p:=⟨S,1,none⟩) hS];exact s1)))
 have hd0:(0:Int)≤who * 2+id:=by omega
 have hd6:who * 2+id<6:=by omega
 go_quiet (fail)
 obtain⟨a,ha6,hae,hat⟩:=do_at hwho hid1;rw[hat];obtain⟨w2,go,hw2,hgo,⟨o0,o1,o2,o3,o4,o5⟩,hb12,hz2⟩:=do_open2 (w1:=w1) (id:=id) (U:=83) nq;rw[←hw2,←hgo];clear hw2;obtain⟨f0', f1', f2', f3', f4', f5', f6'⟩:=ReqAt.below ⟨f0,f1,f2,f3,f4,f5,f6⟩ hb12 hg1;obtain⟨r0', r1', r2', r3', r4', r5'⟩:=RspAt.below ⟨r0,r1,r2,r3,r4,r5⟩ hb12 hg2;have HB:=hid (hb01.trans (hb12.mono (by omega)));have q0':w2.cell? ⟨S,0,none⟩=some (.slice (some ⟨gw,ow,none⟩) 64 cw):=by rw[HB.out.cell (p:=⟨S,0,none⟩) hS];exact s0
 have q1':w2.cell? ⟨S,1,none⟩=some (.slice (some ⟨gh,oh,none⟩) 6 ch):=by rw[HB.out.cell (p:=⟨S,1,none⟩) hS];exact s1
 have hgo2:w.heap.size+2≤go:=by omega
 have hSgo:S<go:=by omega
 clear f0 f1 f2 f3 f4 f5 f6 r0 r1 r2 r3 r4 r5 q0 q1 hb01 hb12 s0 s1 hgo hS1 hg1 hg2 hz1
 go_wp2_with (first|(go_at_call 123;refine(writes_val _ _ _ _ _ _ _ _).mono ?_;rw[HW.out];rintro e w3 ⟨rfl,hbx⟩;obtain⟨f0', f1', f2', f3', f4', f5', f6'⟩:=ReqAt.below ⟨f0', f1', f2', f3', f4', f5', f6'⟩ hbx (ReqAt.lt ⟨f0', f1', f2', f3', f4', f5', f6'⟩);obtain⟨r0', r1', r2', r3', r4', r5'⟩:=RspAt.below ⟨r0', r1', r2', r3', r4', r5'⟩ hbx (RspAt.lt ⟨r0', r1', r2', r3', r4', r5'⟩);obtain⟨o0,o1,o2,o3,o4,o5⟩:=RspAt.below ⟨o0,o1,o2,o3,o4,o5⟩ hbx (RspAt.lt ⟨o0,o1,o2,o3,o4,o5⟩);have HB:=hid (HB.out.trans (hbx.mono HB.out.size));have q0':w3.cell? ⟨S,0,none⟩=some (.slice (some ⟨gw,ow,none⟩) 64 cw):=(by rw[HB.out.cell (p:=⟨S,0,none⟩) hS];exact HH.out.s0);have q1':w3.cell? ⟨S,1,none⟩=some (.slice (some ⟨gh,oh,none⟩) 6 ch):=(by rw[HB.out.cell (p:=⟨S,1,none⟩) hS];exact HH.out.s1);have hz2:go<w3.heap.size:=(RspAt.lt ⟨o0,o1,o2,o3,o4,o5⟩);have c3:w3.cell? ⟨mb,moff+k * 4+3,none⟩=some (.bool true):=(by rw[HB.out.cell (p:=⟨mb,moff+k * 4+3,none⟩) (by show mb<_;omega)];rw[←HON.out];exact HC3.out);clear hbx))
 have hbE:=hid ((((HB.out.setCell (p:=⟨go,1,none⟩) (by show _≤go;omega) (.int .i64 3)).setCell (p:=⟨w.heap.size+1,0,none⟩) (by simp) (.int .i64 id)).setCell (p:=⟨w.heap.size+1,1,none⟩) (by simp) (.int .i64 3)).setCell (p:=⟨w.heap.size+1,2,none⟩) (by simp) (.slice none 0 0));refine bodyPost_ret (results_c1 Tryz.results101 _ _ ⟨w.heap.size+1,0,none⟩ (.agg #[.int .i64 id,.int .i64 3,.slice none 0 0]) rfl ?_) rfl ?_
 ·exact loadVar_rsp _ _ _ _ _ (by simp[go_sem,r0']) (by simp[go_sem,r1']) (by simp[go_sem,r2'])
 exact⟨_,rfl,Owns.zero,HH.out.kept hbE.out (Nat.le_refl _),Touch2.of_below hbE.out (Nat.le_refl _)⟩
set_option maxRecDepth 4000 in
set_option maxHeartbeats 8000000 in
theorem do_tryno (v : Value) (ms : List MR) (B S gw ow cw gh oh ch : Nat) (ws hs : List Int) (who : Int) (id kind addr many : Int) (wp : Bool) (dv lv : Value) (w : World) (hv : Maps w B v ms) (h : AtmAt w B S gw ow cw gh oh ch ws hs)
  (hd1:∃a n c,dv=.slice a n c) (hd2:∃a n c,lv=.slice a n c) (hwho:inB who 0 2=true) (hid1:inB id 0 1=true) (hz:0≤wholeOf ms (burst addr many wp)) (hk4:(kind==4)=true) (hon:(ms.getD (wholeOf ms (burst addr many wp)).toNat default).only=false) (hne:hs.getD (who * 2+id).toNat 0≠addr) :
  Calls Tryz.prog 101 #[.pointer (some ⟨S,0,none⟩),v,.int .i64 who,.agg #[.int .i64 id,.int .i64 kind,.int .i64 addr,.int .i64 many,.bool wp,dv,lv]] w (DoP B S gw ow cw gh oh ch ws hs ⟨id,1,[]⟩ w):=by
 have hw:(kind==2 || kind==4)=true:=by rw[hk4];simp
 have HW:=hid hw;clear hw;have HNE:=hid hne;clear hne;obtain⟨k,hk⟩:=Int.eq_ofNat_of_zero_le (show 0≤wholeOf ms (burst addr many wp) by omega);have hkm:k<ms.length:=by have:=wholeOf_lt ms (burst addr many wp);omega
 obtain⟨mo,mcap,rfl,hm1,hm2,hm3,hm4,hmr⟩:=hv.opened;obtain⟨mb,moff,rfl,hmb,hmc⟩:=hmr (by omega);obtain⟨_,_,_,c3⟩:=hmc k hkm;have HC3:=hid c3;have HON:=hid (show(ms.getD k default).only=false by rw[hk]at hon;exact hon);clear hon c3 hmc hmr;have HD1:=hid hd1;have HD2:=hid hd2;have HV:=hid hv;have HH:=hid h;have hS:=h.sLt;have hB:B≤w.heap.size:=by have:=h.bs;omega
 obtain⟨da,dn,dc,rfl⟩:=hd1;obtain⟨la,ln,lc,rfl⟩:=hd2;simp only[inB,Bool.and_eq_true,decide_eq_true_eq]at hwho hid1;have s0:=h.s0;have s1:=h.s1;have HZ:=hid hk.symm;clear hv h hk hz
 go_enter Tryz.func101,Tryz.ntmps101
 go_wp2_with (first|(go_at_call 127;refine(whole_val _ ms _ _ _ _ _ _ _ HD1.out HD2.out B _ (HV.out.below (((Below.refl _ _).alloc hB _).alloc (by simp;omega) _)) (by simp;omega)).mono ?_;rw[←HZ.out];rintro e w1 ⟨rfl,hb1⟩;obtain⟨⟨f0,f1,f2,f3,f4,f5,f6⟩,⟨r0,r1,r2,r3,r4,r5⟩,hb01,hz1⟩:=do_open hb1;clear hb1;have hS1:S<w1.heap.size:=(by omega);have hg1:w.heap.size<w1.heap.size:=(by omega);have hg2:w.heap.size+1<w1.heap.size:=(by omega);have q0:w1.cell? ⟨S,0,none⟩=some (.slice (some ⟨gw,ow,none⟩) 64 cw):=(by rw[hb01.cell (p:=⟨S,0,none⟩) hS];exact s0);have q1:w1.cell? ⟨S,1,none⟩=some (.slice (some ⟨gh,oh,none⟩) 6 ch):=(by rw[hb01.cell (p:=⟨S,1,none⟩) hS];exact s1)))
 have hd0:(0:Int)≤who * 2+id:=by omega
 have hd6:who * 2+id<6:=by omega
 go_quiet (fail)
 obtain⟨a,ha6,hae,hat⟩:=do_at hwho hid1;rw[hat];obtain⟨w2,go,hw2,hgo,⟨o0,o1,o2,o3,o4,o5⟩,hb12,hz2⟩:=do_open2 (w1:=w1) (id:=id) (U:=83) nq;rw[←hw2,←hgo];clear hw2;obtain⟨f0', f1', f2', f3', f4', f5', f6'⟩:=ReqAt.below ⟨f0,f1,f2,f3,f4,f5,f6⟩ hb12 hg1;obtain⟨r0', r1', r2', r3', r4', r5'⟩:=RspAt.below ⟨r0,r1,r2,r3,r4,r5⟩ hb12 hg2;have HB:=hid (hb01.trans (hb12.mono (by omega)));have q0':w2.cell? ⟨S,0,none⟩=some (.slice (some ⟨gw,ow,none⟩) 64 cw):=by rw[HB.out.cell (p:=⟨S,0,none⟩) hS];exact s0
 have q1':w2.cell? ⟨S,1,none⟩=some (.slice (some ⟨gh,oh,none⟩) 6 ch):=by rw[HB.out.cell (p:=⟨S,1,none⟩) hS];exact s1
 have hgo2:w.heap.size+2≤go:=by omega
 have hSgo:S<go:=by omega
 clear f0 f1 f2 f3 f4 f5 f6 r0 r1 r2 r3 r4 r5 q0 q1 hb01 hb12 s0 s1 hgo hS1 hg1 hg2 hz1;obtain⟨y,hy⟩:∃y,y=hs.getD a 0:=⟨_,rfl⟩
 have HY:=hid hy;clear hy;have h0:w2.cell? ⟨gh,oh+a,none⟩=some (.int .i64 y):=by
  rw[HB.out.cell (p:=⟨gh,oh+a,none⟩) HH.out.hh.ltI.2,HY.out];exact HH.out.hh.cellI a (by rw[HH.out.lh];exact ha6)
 have hne:(y != addr)=true:=by
  have:=HNE.out;rw[hat,←HY.out]at this;simpa using this
 go_wp2_with (first|(go_at_call 123;refine(writes_val _ _ _ _ _ _ _ _).mono ?_;rw[HW.out];rintro e w3 ⟨rfl,hbx⟩;obtain⟨f0', f1', f2', f3', f4', f5', f6'⟩:=ReqAt.below ⟨f0', f1', f2', f3', f4', f5', f6'⟩ hbx (ReqAt.lt ⟨f0', f1', f2', f3', f4', f5', f6'⟩);obtain⟨r0', r1', r2', r3', r4', r5'⟩:=RspAt.below ⟨r0', r1', r2', r3', r4', r5'⟩ hbx (RspAt.lt ⟨r0', r1', r2', r3', r4', r5'⟩);obtain⟨o0,o1,o2,o3,o4,o5⟩:=RspAt.below ⟨o0,o1,o2,o3,o4,o5⟩ hbx (RspAt.lt ⟨o0,o1,o2,o3,o4,o5⟩);have HB:=hid (HB.out.trans (hbx.mono HB.out.size));have q0':w3.cell? ⟨S,0,none⟩=some (.slice (some ⟨gw,ow,none⟩) 64 cw):=(by rw[HB.out.cell (p:=⟨S,0,none⟩) hS];exact HH.out.s0);have q1':w3.cell? ⟨S,1,none⟩=some (.slice (some ⟨gh,oh,none⟩) 6 ch):=(by rw[HB.out.cell (p:=⟨S,1,none⟩) hS];exact HH.out.s1);have hz2:go<w3.heap.size:=(RspAt.lt ⟨o0,o1,o2,o3,o4,o5⟩);have c3:w3.cell? ⟨mb,moff+k * 4+3,none⟩=some (.bool false):=(by rw[HB.out.cell (p:=⟨mb,moff+k * 4+3,none⟩) (by show mb<_;omega)];rw[←HON.out];exact HC3.out);have h0:w3.cell? ⟨gh,oh+a,none⟩=some (.int .i64 y):=(by rw[HB.out.cell (p:=⟨gh,oh+a,none⟩) HH.out.hh.ltI.2,HY.out];exact HH.out.hh.cellI a (by rw[HH.out.lh];exact ha6));clear hbx))
 go_quiet (fail)
 go_wp2_with fail
 have hbE:=hid ((((Below.draws HB.out nq).setCell (p:=⟨w.heap.size+1,0,none⟩) (by simp) (.int .i64 id)).setCell (p:=⟨w.heap.size+1,1,none⟩) (by simp) (.int .i64 1)).setCell (p:=⟨w.heap.size+1,2,none⟩) (by simp) (.slice none 0 0));refine bodyPost_ret (results_c1 Tryz.results101 _ _ ⟨w.heap.size+1,0,none⟩ (.agg #[.int .i64 id,.int .i64 1,.slice none 0 0]) rfl ?_) rfl ?_
 ·exact loadVar_rsp _ _ _ _ _ (by simp[go_sem,r0']) (by simp[go_sem,r1']) (by simp[go_sem,r2'])
 exact⟨_,rfl,Owns.zero,HH.out.kept hbE.out (Nat.le_refl _),Touch2.of_below hbE.out (Nat.le_refl _)⟩
end Go.Proofs.YthnlalffjepdaaaGreat
