/- The plain laws of zB6 and zC6, step by step. -/
import Derived.Test.YtgkdoehkmbhfiaaGreatQWrd
set_option linter.unusedVariables false
set_option linter.unusedSimpArgs false
set_option maxHeartbeats 16000000
namespace Go.Proofs.YtgkdoehkmbhfiaaGreat
open Go.RowKit
theorem zB0 {fn : Func} {t : Tmp} {T : TypeId} (h : fn.results = #[.cell t T]) (tmps : Array Value) (w : World) (p : Addr) (v : Value) (ht : tmps.getD t undef = .pointer (some p)) (hl : (loadVar T p).run Tryz.prog w = .ok v w) :
  (results fn tmps).run Tryz.prog w=.ok v w:=by
 simp only[Array.getD_eq_getD_getElem?]at ht;simp only[results,h];simp[ht,asAddr,hl]
theorem results_ct {fn : Func} {t u : Tmp} {T : TypeId} (h : fn.results = #[.cell t T, .tmp u]) (tmps : Array Value) (w : World) (p : Addr) (v : Value) (ht : tmps.getD t undef = .pointer (some p)) (hl : (loadVar T p).run Tryz.prog w = .ok v w) :
  (results fn tmps).run Tryz.prog w=.ok (.tuple #[v,tmps.getD u undef]) w:=by
 simp only[Array.getD_eq_getD_getElem?]at ht;simp only[results,h];simp[ht,asAddr,hl]
theorem zG3 (w:World) (g:Nat) (a b c:Value) (h0:w.cell? ⟨g,0,none⟩=some a) (h1:w.cell? ⟨g,1,none⟩=some b) (h2:w.cell? ⟨g,2,none⟩=some c):(loadVar 63 ⟨g,0,none⟩).run Tryz.prog w=.ok (.agg #[a,b,c]) w:=by
 simp[loadVar,go_sem,h0,h1,h2]
theorem loadVar_atm (w:World) (g:Nat) (a b:Value) (h0:w.cell? ⟨g,0,none⟩=some a) (h1:w.cell? ⟨g,1,none⟩=some b):(loadVar 34 ⟨g,0,none⟩).run Tryz.prog w=.ok (.agg #[a,b]) w:=by
 simp[loadVar,go_sem,h0,h1]
structure AtmAt (w:World) (B S gw ow cw gh oh ch:Nat) (ws hs:List Int):Prop where
 s0:w.cell? ⟨S,0,none⟩=some (.slice (some ⟨gw,ow,none⟩) 64 cw)
 s1:w.cell? ⟨S,1,none⟩=some (.slice (some ⟨gh,oh,none⟩) 6 ch)
 ww:Owns w B 3 1 rowI (.slice (some ⟨gw,ow,none⟩) 64 cw) ws
 hh:Owns w B 3 1 rowI (.slice (some ⟨gh,oh,none⟩) 6 ch) hs
 ne:gw≠gh
 n1:S≠gw
 n2:S≠gh
 bs:B≤S
 lw:ws.length=64
 lh:hs.length=6
 c1:64≤cw
 c2:6≤ch
theorem AtmAt.sLt {w:World} {B S gw ow cw gh oh ch:Nat} {ws hs:List Int} (h:AtmAt w B S gw ow cw gh oh ch ws hs):S<w.heap.size:=World.block_lt_of_cell? w _ h.s0
theorem AtmAt.kept {w w':World} {B S gw ow cw gh oh ch C:Nat} {ws hs:List Int} (h:AtmAt w B S gw ow cw gh oh ch ws hs) (hb:Below C w w') (hC:w.heap.size≤C):AtmAt w' B S gw ow cw gh oh ch ws hs:=by
  have h1:=h.ww.ltI;have h2:=h.hh.ltI;have h3:=h.sLt
  exact { h with s0 := by rw [hb.cell (by show S < C; omega)]; exact h.s0
                 s1:=by rw[hb.cell (by show S<C;omega)];exact h.s1
                 ww:=h.ww.below (hb.mono hC)
                 hh:=h.hh.below (hb.mono hC) }
def DoP (B S gw ow cw gh oh ch:Nat) (ws hs:List Int) (x:Rs) (w:World) (e:Ending) (w':World):Prop :=
 ∃dv,e=.returned (.agg #[.int .i64 x.id,.int .i64 x.code,dv])∧Owns w' w.heap.size 3 1 rowI dv x.data∧AtmAt w' B S gw ow cw gh oh ch ws hs∧Touch2 gw gh w w'
def RspAt (w:World) (g:Nat) (id code:Int) (dv:Value):Prop :=
 w.cell? ⟨g,0,none⟩=some (.int .i64 id)∧w.cell? ⟨g,1,none⟩=some (.int .i64 code)∧w.cell? ⟨g,2,none⟩=some dv∧w.frozen? ⟨g,0,none⟩=false∧w.frozen? ⟨g,1,none⟩=false∧w.frozen? ⟨g,2,none⟩=false
theorem RspAt.below {w w':World} {g C:Nat} {id code:Int} {dv:Value} (h:RspAt w g id code dv) (hb:Below C w w') (hg:g<C):RspAt w' g id code dv:=by
 obtain⟨f0,f1,f2,f3,f4,f5⟩:=h;refine⟨?_,?_,?_,?_,?_,?_⟩ <;> first|(rw[hb.cell (by exact hg)];assumption)|(rw[hb.frozen (by exact hg)];assumption)
theorem RspAt.lt {w:World} {g:Nat} {id code:Int} {dv:Value} (h:RspAt w g id code dv):g<w.heap.size:=World.block_lt_of_cell? w _ h.1
theorem do_open {w w1 : World} {id kind addr many : Int} {wp : Bool} {dv lv : Value} {T U : TypeId}
  (hb : Below ((w.alloc (.cells #[.int .i64 id, .int .i64 kind, .int .i64 addr, .int .i64 many, .bool wp, dv, lv] T)).alloc (.cells #[.int .i64 0, .int .i64 0, .slice none 0 0] U)).heap.size
   ((w.alloc (.cells #[.int .i64 id,.int .i64 kind,.int .i64 addr,.int .i64 many,.bool wp,dv,lv] T)).alloc (.cells #[.int .i64 0,.int .i64 0,.slice none 0 0] U)) w1) :
  ReqAt w1 w.heap.size id kind addr many wp dv lv∧RspAt w1 (w.heap.size+1) 0 0 (.slice none 0 0)∧Below w.heap.size w w1∧w.heap.size+2≤w1.heap.size:=by
 refine⟨⟨?_,?_,?_,?_,?_,?_,?_⟩,⟨?_,?_,?_,?_,?_,?_⟩,?_,?_⟩
 ·rw[hb.cell (by simp;omega)];simp
 ·rw[hb.cell (by simp;omega)];simp
 ·rw[hb.cell (by simp;omega)];simp
 ·rw[hb.cell (by simp;omega)];simp
 ·rw[hb.cell (by simp;omega)];simp
 ·rw[hb.cell (by simp;omega)];simp
 ·rw[hb.cell (by simp;omega)];simp
 ·rw[hb.cell (by simp)];simp
 ·rw[hb.cell (by simp)];simp
 ·rw[hb.cell (by simp)];simp
 ·rw[hb.frozen (by simp)];simp
 ·rw[hb.frozen (by simp)];simp
 ·rw[hb.frozen (by simp)];simp
 ·exact(((Below.refl _ _).alloc (Nat.le_refl _) _).alloc (by simp) _).trans (hb.mono (by simp;omega))
 ·have:=hb.size;simp at this;omega
theorem do_open2 {w1 : World} {id : Int} {U : TypeId} (n : Nat) :
  ∃w2 go,w2=(w1.alloc (.cells #[.int .i64 id,.int .i64 1,.slice none 0 0] U)).drewN n∧go=w1.heap.size∧RspAt w2 go id 1 (.slice none 0 0)∧Below w1.heap.size w1 w2∧go<w2.heap.size:=by
 refine⟨_,_,rfl,rfl,⟨?_,?_,?_,?_,?_,?_⟩,Below.draws ((Below.refl _ _).alloc (Nat.le_refl _) _) _,?_⟩ <;> simp
theorem do_at {who id:Int} (hwho:0≤who∧who≤2) (hid1:0≤id∧id≤1):∃a:Nat,a<6∧who * 2+id=a∧(who * 2+id).toNat=a:=⟨(who * 2+id).toNat,by omega,by omega,rfl⟩
theorem do_none (v : Value) (ms : List MR) (B S gw ow cw gh oh ch : Nat) (ws hs : List Int) (who : Int) (id kind addr many : Int) (wp : Bool) (dv lv : Value) (w : World) (hv : Maps w B v ms) (h : AtmAt w B S gw ow cw gh oh ch ws hs)
  (hd1:∃a n c,dv=.slice a n c) (hd2:∃a n c,lv=.slice a n c) (hwho:inB who 0 2=true) (hid1:inB id 0 1=true) (hz:zA5 ms (burst addr many wp)<0) :
  Calls Tryz.prog 80 #[.pointer (some ⟨S,0,none⟩),v,.int .i64 who,.agg #[.int .i64 id,.int .i64 kind,.int .i64 addr,.int .i64 many,.bool wp,dv,lv]] w (DoP B S gw ow cw gh oh ch ws hs ⟨id,4,[]⟩ w):=by
 have HD1:=hid hd1;have HD2:=hid hd2;have HV:=hid hv;have HH:=hid h;have hS:=h.sLt;have hB:B≤w.heap.size:=by have:=h.bs;omega
 obtain⟨da,dn,dc,rfl⟩:=hd1;obtain⟨la,ln,lc,rfl⟩:=hd2;simp only[inB,Bool.and_eq_true,decide_eq_true_eq]at hwho hid1;have s0:=h.s0;have s1:=h.s1;obtain⟨z,hzz⟩:∃z,z=zA5 ms (burst addr many wp):=⟨_,rfl⟩
 rw[←hzz]at hz;have HZ:=hid hzz;clear hv h hzz
 go_enter Tryz.func80,Tryz.ntmps80
 go_wp2_with (first|(go_at_call 100;refine(zI9 _ ms _ _ _ _ _ _ _ HD1.out HD2.out B _ (HV.out.below (((Below.refl _ _).alloc hB _).alloc (by simp;omega) _)) (by simp;omega)).mono ?_;rw[←HZ.out];rintro e w1 ⟨rfl,hb1⟩;obtain⟨⟨f0,f1,f2,f3,f4,f5,f6⟩,⟨r0,r1,r2,r3,r4,r5⟩,hb01,hz1⟩:=do_open hb1;clear hb1;have hS1:S<w1.heap.size:=(by omega);have hg1:w.heap.size<w1.heap.size:=(by omega);have hg2:w.heap.size+1<w1.heap.size:=(by omega);have q0:w1.cell? ⟨S,0,none⟩=some (.slice (some ⟨gw,ow,none⟩) 64 cw):=(by rw[hb01.cell (p:=⟨S,0,none⟩) hS];exact s0);have q1:w1.cell? ⟨S,1,none⟩=some (.slice (some ⟨gh,oh,none⟩) 6 ch):=(by rw[hb01.cell (p:=⟨S,1,none⟩) hS];exact s1)))
 have hd0:(0:Int)≤who * 2+id:=by omega
 have hd6:who * 2+id<6:=by omega
 go_quiet (fail)
 obtain⟨a,ha6,hae,hat⟩:=do_at hwho hid1;rw[hat];obtain⟨w2,go,hw2,hgo,⟨o0,o1,o2,o3,o4,o5⟩,hb12,hz2⟩:=do_open2 (w1:=w1) (id:=id) (U:=63) nq;rw[←hw2,←hgo];clear hw2;obtain⟨f0', f1', f2', f3', f4', f5', f6'⟩:=ReqAt.below ⟨f0,f1,f2,f3,f4,f5,f6⟩ hb12 hg1;obtain⟨r0', r1', r2', r3', r4', r5'⟩:=RspAt.below ⟨r0,r1,r2,r3,r4,r5⟩ hb12 hg2;have HB:=hid (hb01.trans (hb12.mono (by omega)));have q0':w2.cell? ⟨S,0,none⟩=some (.slice (some ⟨gw,ow,none⟩) 64 cw):=by rw[HB.out.cell (p:=⟨S,0,none⟩) hS];exact s0
 have q1':w2.cell? ⟨S,1,none⟩=some (.slice (some ⟨gh,oh,none⟩) 6 ch):=by rw[HB.out.cell (p:=⟨S,1,none⟩) hS];exact s1
 have hgo2:w.heap.size+2≤go:=by omega
 have hSgo:S<go:=by omega
 clear f0 f1 f2 f3 f4 f5 f6 r0 r1 r2 r3 r4 r5 q0 q1 hb01 hb12 s0 s1 hgo hS1 hg1 hg2 hz1
 go_wp2_with fail
 have hbE:=hid ((((HB.out.setCell (p:=⟨go,1,none⟩) (by show _≤go;omega) (.int .i64 4)).setCell (p:=⟨w.heap.size+1,0,none⟩) (by simp) (.int .i64 id)).setCell (p:=⟨w.heap.size+1,1,none⟩) (by simp) (.int .i64 4)).setCell (p:=⟨w.heap.size+1,2,none⟩) (by simp) (.slice none 0 0));refine bodyPost_ret (zB0 Tryz.results80 _ _ ⟨w.heap.size+1,0,none⟩ (.agg #[.int .i64 id,.int .i64 4,.slice none 0 0]) rfl ?_) rfl ?_
 ·exact zG3 _ _ _ _ _ (by simp[go_sem,r0']) (by simp[go_sem,r1']) (by simp[go_sem,r2'])
 exact⟨_,rfl,Owns.zero,HH.out.kept hbE.out (Nat.le_refl _),Touch2.of_below hbE.out (Nat.le_refl _)⟩
set_option maxRecDepth 4000 in
theorem do_deny (v : Value) (ms : List MR) (B S gw ow cw gh oh ch : Nat) (ws hs : List Int) (who : Int) (id kind addr many : Int) (wp : Bool) (dv lv : Value) (w : World) (hv : Maps w B v ms) (h : AtmAt w B S gw ow cw gh oh ch ws hs)
  (hd1:∃a n c,dv=.slice a n c) (hd2:∃a n c,lv=.slice a n c) (hwho:inB who 0 2=true) (hid1:inB id 0 1=true) (hz:0≤zA5 ms (burst addr many wp)) (hw:(kind==2 || kind==4)=true) (hon:(ms.getD (zA5 ms (burst addr many wp)).toNat default).only=true) :
  Calls Tryz.prog 80 #[.pointer (some ⟨S,0,none⟩),v,.int .i64 who,.agg #[.int .i64 id,.int .i64 kind,.int .i64 addr,.int .i64 many,.bool wp,dv,lv]] w (DoP B S gw ow cw gh oh ch ws hs ⟨id,3,[]⟩ w):=by
 have HW:=hid hw;clear hw;obtain⟨k,hk⟩:=Int.eq_ofNat_of_zero_le (show 0≤zA5 ms (burst addr many wp) by omega);have hkm:k<ms.length:=by have:=zI5 ms (burst addr many wp);omega
 obtain⟨mo,mcap,rfl,hm1,hm2,hm3,hm4,hmr⟩:=hv.opened;obtain⟨mb,moff,rfl,hmb,hmc⟩:=hmr (by omega);obtain⟨_,_,_,c3⟩:=hmc k hkm;have HC3:=hid c3;have HON:=hid (show(ms.getD k default).only=true by rw[hk]at hon;exact hon);clear hon c3 hmc hmr;have HD1:=hid hd1;have HD2:=hid hd2;have HV:=hid hv;have HH:=hid h;have hS:=h.sLt;have hB:B≤w.heap.size:=by have:=h.bs;omega
 obtain⟨da,dn,dc,rfl⟩:=hd1;obtain⟨la,ln,lc,rfl⟩:=hd2;simp only[inB,Bool.and_eq_true,decide_eq_true_eq]at hwho hid1;have s0:=h.s0;have s1:=h.s1;have HZ:=hid hk.symm;clear hv h hk hz
 go_enter Tryz.func80,Tryz.ntmps80
 go_wp2_with (first|(go_at_call 100;refine(zI9 _ ms _ _ _ _ _ _ _ HD1.out HD2.out B _ (HV.out.below (((Below.refl _ _).alloc hB _).alloc (by simp;omega) _)) (by simp;omega)).mono ?_;rw[←HZ.out];rintro e w1 ⟨rfl,hb1⟩;obtain⟨⟨f0,f1,f2,f3,f4,f5,f6⟩,⟨r0,r1,r2,r3,r4,r5⟩,hb01,hz1⟩:=do_open hb1;clear hb1;have hS1:S<w1.heap.size:=(by omega);have hg1:w.heap.size<w1.heap.size:=(by omega);have hg2:w.heap.size+1<w1.heap.size:=(by omega);have q0:w1.cell? ⟨S,0,none⟩=some (.slice (some ⟨gw,ow,none⟩) 64 cw):=(by rw[hb01.cell (p:=⟨S,0,none⟩) hS];exact s0);have q1:w1.cell? ⟨S,1,none⟩=some (.slice (some ⟨gh,oh,none⟩) 6 ch):=(by rw[hb01.cell (p:=⟨S,1,none⟩) hS];exact s1)))
 have hd0:(0:Int)≤who * 2+id:=by omega
 have hd6:who * 2+id<6:=by omega
 go_quiet (fail)
 obtain⟨a,ha6,hae,hat⟩:=do_at hwho hid1;rw[hat];obtain⟨w2,go,hw2,hgo,⟨o0,o1,o2,o3,o4,o5⟩,hb12,hz2⟩:=do_open2 (w1:=w1) (id:=id) (U:=63) nq;rw[←hw2,←hgo];clear hw2;obtain⟨f0', f1', f2', f3', f4', f5', f6'⟩:=ReqAt.below ⟨f0,f1,f2,f3,f4,f5,f6⟩ hb12 hg1;obtain⟨r0', r1', r2', r3', r4', r5'⟩:=RspAt.below ⟨r0,r1,r2,r3,r4,r5⟩ hb12 hg2;have HB:=hid (hb01.trans (hb12.mono (by omega)));have q0':w2.cell? ⟨S,0,none⟩=some (.slice (some ⟨gw,ow,none⟩) 64 cw):=by rw[HB.out.cell (p:=⟨S,0,none⟩) hS];exact s0
 have q1':w2.cell? ⟨S,1,none⟩=some (.slice (some ⟨gh,oh,none⟩) 6 ch):=by rw[HB.out.cell (p:=⟨S,1,none⟩) hS];exact s1
 have hgo2:w.heap.size+2≤go:=by omega
 have hSgo:S<go:=by omega
 clear f0 f1 f2 f3 f4 f5 f6 r0 r1 r2 r3 r4 r5 q0 q1 hb01 hb12 s0 s1 hgo hS1 hg1 hg2 hz1
 go_wp2_with (first|(go_at_call 96;refine(zG1 _ _ _ _ _ _ _ _).mono ?_;rw[HW.out];rintro e w3 ⟨rfl,hbx⟩;obtain⟨f0', f1', f2', f3', f4', f5', f6'⟩:=ReqAt.below ⟨f0', f1', f2', f3', f4', f5', f6'⟩ hbx (ReqAt.lt ⟨f0', f1', f2', f3', f4', f5', f6'⟩);obtain⟨r0', r1', r2', r3', r4', r5'⟩:=RspAt.below ⟨r0', r1', r2', r3', r4', r5'⟩ hbx (RspAt.lt ⟨r0', r1', r2', r3', r4', r5'⟩);obtain⟨o0,o1,o2,o3,o4,o5⟩:=RspAt.below ⟨o0,o1,o2,o3,o4,o5⟩ hbx (RspAt.lt ⟨o0,o1,o2,o3,o4,o5⟩);have HB:=hid (HB.out.trans (hbx.mono HB.out.size));have q0':w3.cell? ⟨S,0,none⟩=some (.slice (some ⟨gw,ow,none⟩) 64 cw):=(by rw[HB.out.cell (p:=⟨S,0,none⟩) hS];exact HH.out.s0);have q1':w3.cell? ⟨S,1,none⟩=some (.slice (some ⟨gh,oh,none⟩) 6 ch):=(by rw[HB.out.cell (p:=⟨S,1,none⟩) hS];exact HH.out.s1);have hz2:go<w3.heap.size:=(RspAt.lt ⟨o0,o1,o2,o3,o4,o5⟩);have c3:w3.cell? ⟨mb,moff+k * 4+3,none⟩=some (.bool true):=(by rw[HB.out.cell (p:=⟨mb,moff+k * 4+3,none⟩) (by show mb<_;omega)];rw[←HON.out];exact HC3.out);clear hbx))
 have hbE:=hid ((((HB.out.setCell (p:=⟨go,1,none⟩) (by show _≤go;omega) (.int .i64 3)).setCell (p:=⟨w.heap.size+1,0,none⟩) (by simp) (.int .i64 id)).setCell (p:=⟨w.heap.size+1,1,none⟩) (by simp) (.int .i64 3)).setCell (p:=⟨w.heap.size+1,2,none⟩) (by simp) (.slice none 0 0));refine bodyPost_ret (zB0 Tryz.results80 _ _ ⟨w.heap.size+1,0,none⟩ (.agg #[.int .i64 id,.int .i64 3,.slice none 0 0]) rfl ?_) rfl ?_
 ·exact zG3 _ _ _ _ _ (by simp[go_sem,r0']) (by simp[go_sem,r1']) (by simp[go_sem,r2'])
 exact⟨_,rfl,Owns.zero,HH.out.kept hbE.out (Nat.le_refl _),Touch2.of_below hbE.out (Nat.le_refl _)⟩
set_option maxRecDepth 4000 in
theorem do_tryno (v : Value) (ms : List MR) (B S gw ow cw gh oh ch : Nat) (ws hs : List Int) (who : Int) (id kind addr many : Int) (wp : Bool) (dv lv : Value) (w : World) (hv : Maps w B v ms) (h : AtmAt w B S gw ow cw gh oh ch ws hs)
  (hd1:∃a n c,dv=.slice a n c) (hd2:∃a n c,lv=.slice a n c) (hwho:inB who 0 2=true) (hid1:inB id 0 1=true) (hz:0≤zA5 ms (burst addr many wp)) (hk4:(kind==4)=true) (hon:(ms.getD (zA5 ms (burst addr many wp)).toNat default).only=false) (hne:hs.getD (who * 2+id).toNat 0≠addr) :
  Calls Tryz.prog 80 #[.pointer (some ⟨S,0,none⟩),v,.int .i64 who,.agg #[.int .i64 id,.int .i64 kind,.int .i64 addr,.int .i64 many,.bool wp,dv,lv]] w (DoP B S gw ow cw gh oh ch ws hs ⟨id,1,[]⟩ w):=by
 have hw:(kind==2 || kind==4)=true:=by rw[hk4];simp
 have HW:=hid hw;clear hw;have HNE:=hid hne;clear hne;obtain⟨k,hk⟩:=Int.eq_ofNat_of_zero_le (show 0≤zA5 ms (burst addr many wp) by omega);have hkm:k<ms.length:=by have:=zI5 ms (burst addr many wp);omega
 obtain⟨mo,mcap,rfl,hm1,hm2,hm3,hm4,hmr⟩:=hv.opened;obtain⟨mb,moff,rfl,hmb,hmc⟩:=hmr (by omega);obtain⟨_,_,_,c3⟩:=hmc k hkm;have HC3:=hid c3;have HON:=hid (show(ms.getD k default).only=false by rw[hk]at hon;exact hon);clear hon c3 hmc hmr;have HD1:=hid hd1;have HD2:=hid hd2;have HV:=hid hv;have HH:=hid h;have hS:=h.sLt;have hB:B≤w.heap.size:=by have:=h.bs;omega
 obtain⟨da,dn,dc,rfl⟩:=hd1;obtain⟨la,ln,lc,rfl⟩:=hd2;simp only[inB,Bool.and_eq_true,decide_eq_true_eq]at hwho hid1;have s0:=h.s0;have s1:=h.s1;have HZ:=hid hk.symm;clear hv h hk hz
 go_enter Tryz.func80,Tryz.ntmps80
 go_wp2_with (first|(go_at_call 100;refine(zI9 _ ms _ _ _ _ _ _ _ HD1.out HD2.out B _ (HV.out.below (((Below.refl _ _).alloc hB _).alloc (by simp;omega) _)) (by simp;omega)).mono ?_;rw[←HZ.out];rintro e w1 ⟨rfl,hb1⟩;obtain⟨⟨f0,f1,f2,f3,f4,f5,f6⟩,⟨r0,r1,r2,r3,r4,r5⟩,hb01,hz1⟩:=do_open hb1;clear hb1;have hS1:S<w1.heap.size:=(by omega);have hg1:w.heap.size<w1.heap.size:=(by omega);have hg2:w.heap.size+1<w1.heap.size:=(by omega);have q0:w1.cell? ⟨S,0,none⟩=some (.slice (some ⟨gw,ow,none⟩) 64 cw):=(by rw[hb01.cell (p:=⟨S,0,none⟩) hS];exact s0);have q1:w1.cell? ⟨S,1,none⟩=some (.slice (some ⟨gh,oh,none⟩) 6 ch):=(by rw[hb01.cell (p:=⟨S,1,none⟩) hS];exact s1)))
 have hd0:(0:Int)≤who * 2+id:=by omega
 have hd6:who * 2+id<6:=by omega
 go_quiet (fail)
 obtain⟨a,ha6,hae,hat⟩:=do_at hwho hid1;rw[hat];obtain⟨w2,go,hw2,hgo,⟨o0,o1,o2,o3,o4,o5⟩,hb12,hz2⟩:=do_open2 (w1:=w1) (id:=id) (U:=63) nq;rw[←hw2,←hgo];clear hw2;obtain⟨f0', f1', f2', f3', f4', f5', f6'⟩:=ReqAt.below ⟨f0,f1,f2,f3,f4,f5,f6⟩ hb12 hg1;obtain⟨r0', r1', r2', r3', r4', r5'⟩:=RspAt.below ⟨r0,r1,r2,r3,r4,r5⟩ hb12 hg2;have HB:=hid (hb01.trans (hb12.mono (by omega)));have q0':w2.cell? ⟨S,0,none⟩=some (.slice (some ⟨gw,ow,none⟩) 64 cw):=by rw[HB.out.cell (p:=⟨S,0,none⟩) hS];exact s0
 have q1':w2.cell? ⟨S,1,none⟩=some (.slice (some ⟨gh,oh,none⟩) 6 ch):=by rw[HB.out.cell (p:=⟨S,1,none⟩) hS];exact s1
 have hgo2:w.heap.size+2≤go:=by omega
 have hSgo:S<go:=by omega
 clear f0 f1 f2 f3 f4 f5 f6 r0 r1 r2 r3 r4 r5 q0 q1 hb01 hb12 s0 s1 hgo hS1 hg1 hg2 hz1;obtain⟨y,hy⟩:∃y,y=hs.getD a 0:=⟨_,rfl⟩
 have HY:=hid hy;clear hy;have h0:w2.cell? ⟨gh,oh+a,none⟩=some (.int .i64 y):=by
  rw[HB.out.cell (p:=⟨gh,oh+a,none⟩) HH.out.hh.ltI.2,HY.out];exact HH.out.hh.cellI a (by rw[HH.out.lh];exact ha6)
 have hne:(y != addr)=true:=by
  have:=HNE.out;rw[hat,←HY.out]at this;simpa using this
 go_wp2_with (first|(go_at_call 96;refine(zG1 _ _ _ _ _ _ _ _).mono ?_;rw[HW.out];rintro e w3 ⟨rfl,hbx⟩;obtain⟨f0', f1', f2', f3', f4', f5', f6'⟩:=ReqAt.below ⟨f0', f1', f2', f3', f4', f5', f6'⟩ hbx (ReqAt.lt ⟨f0', f1', f2', f3', f4', f5', f6'⟩);obtain⟨r0', r1', r2', r3', r4', r5'⟩:=RspAt.below ⟨r0', r1', r2', r3', r4', r5'⟩ hbx (RspAt.lt ⟨r0', r1', r2', r3', r4', r5'⟩);obtain⟨o0,o1,o2,o3,o4,o5⟩:=RspAt.below ⟨o0,o1,o2,o3,o4,o5⟩ hbx (RspAt.lt ⟨o0,o1,o2,o3,o4,o5⟩);have HB:=hid (HB.out.trans (hbx.mono HB.out.size));have q0':w3.cell? ⟨S,0,none⟩=some (.slice (some ⟨gw,ow,none⟩) 64 cw):=(by rw[HB.out.cell (p:=⟨S,0,none⟩) hS];exact HH.out.s0);have q1':w3.cell? ⟨S,1,none⟩=some (.slice (some ⟨gh,oh,none⟩) 6 ch):=(by rw[HB.out.cell (p:=⟨S,1,none⟩) hS];exact HH.out.s1);have hz2:go<w3.heap.size:=(RspAt.lt ⟨o0,o1,o2,o3,o4,o5⟩);have c3:w3.cell? ⟨mb,moff+k * 4+3,none⟩=some (.bool false):=(by rw[HB.out.cell (p:=⟨mb,moff+k * 4+3,none⟩) (by show mb<_;omega)];rw[←HON.out];exact HC3.out);have h0:w3.cell? ⟨gh,oh+a,none⟩=some (.int .i64 y):=(by rw[HB.out.cell (p:=⟨gh,oh+a,none⟩) HH.out.hh.ltI.2,HY.out];exact HH.out.hh.cellI a (by rw[HH.out.lh];exact ha6));clear hbx))
 go_quiet (fail)
 go_wp2_with fail
 have hbE:=hid ((((Below.draws HB.out nq).setCell (p:=⟨w.heap.size+1,0,none⟩) (by simp) (.int .i64 id)).setCell (p:=⟨w.heap.size+1,1,none⟩) (by simp) (.int .i64 1)).setCell (p:=⟨w.heap.size+1,2,none⟩) (by simp) (.slice none 0 0));refine bodyPost_ret (zB0 Tryz.results80 _ _ ⟨w.heap.size+1,0,none⟩ (.agg #[.int .i64 id,.int .i64 1,.slice none 0 0]) rfl ?_) rfl ?_
 ·exact zG3 _ _ _ _ _ (by simp[go_sem,r0']) (by simp[go_sem,r1']) (by simp[go_sem,r2'])
 exact⟨_,rfl,Owns.zero,HH.out.kept hbE.out (Nat.le_refl _),Touch2.of_below hbE.out (Nat.le_refl _)⟩
theorem burst_in {a m:Int} {wp:Bool}:∀x∈burst a m wp,0≤x∧x≤63:=by
 intro x hx;rcases h:adrOk a m wp with _|_
 ·rw[burst_no h]at hx;simp at hx
 ·obtain⟨h0,h1,hm,hw⟩:=(zI4 a m wp).1 h;rw[zH5 h]at hx;obtain⟨j,hj,rfl⟩:=List.mem_map.1 hx;rw[List.mem_range]at hj;cases wp
  ·simp at hw;simp only[Bool.false_eq_true,if_false];omega
  ·simp only[if_true];rcases hm with rfl|rfl|rfl <;> omega
theorem burst_len {a m:Int} {wp:Bool}:(burst a m wp).length≤4:=by
 rcases h:adrOk a m wp with _|_
 ·rw[burst_no h];simp
 ·obtain⟨h0,h1,hm,hw⟩:=(zI4 a m wp).1 h;rw[zH5 h,burstK_len];omega
theorem Touch.drew {r:Nat} {a w:World} (h:Touch r a w):Touch r a w.drew:=h.trans ⟨rfl,rfl,rfl,Nat.le_refl _,fun _ _ _=>rfl⟩
theorem ReqAt.heap {w w':World} {g:Nat} {id kind addr many:Int} {wp:Bool} {dv lv:Value} (h:ReqAt w g id kind addr many wp dv lv) (e:w'.heap[g]? = w.heap[g]?):ReqAt w' g id kind addr many wp dv lv:=by
 simpa only[ReqAt,World.cell?,e]using h
theorem RspAt.heap {w w':World} {g:Nat} {id code:Int} {dv:Value} (h:RspAt w g id code dv) (e:w'.heap[g]? = w.heap[g]?):RspAt w' g id code dv:=by
 simpa only[RspAt,World.cell?,World.frozen?,e]using h
theorem burstget (ws:List Int) {xs:List Int} {k:Nat} (h:k<xs.length):(zC7 ws xs).getD k 0=ws.getD (xs.getD k 0).toNat 0:=by simp[zC7,List.getD,h]
theorem AtmAt.other {w:World} {B S gw ow cw gh oh ch:Nat} {ws hs:List Int} (h:AtmAt w B S gw ow cw gh oh ch ws hs) (g o:Nat) (u:Value) (h1:g≠S) (h2:g≠gw) (h3:g≠gh):AtmAt (w.setCell ⟨g,o,none⟩ u) B S gw ow cw gh oh ch ws hs:=by
  have ht:=Touch.setCell g o w u
  exact { h with s0 := by rw [Touch.cell ht (by show S ≠ g; omega) h.sLt]; exact h.s0
                 s1:=by rw[Touch.cell ht (by show S≠g;omega) h.sLt];exact h.s1
                 ww:=h.ww.set' _ _ _ (fun k hk=>by simp[Value.ownBlock]at hk;omega)
                 hh:=h.hh.set' _ _ _ (fun k hk=>by simp[Value.ownBlock]at hk;omega) }
theorem AtmAt.putH {w:World} {B S gw ow cw gh oh ch:Nat} {ws hs:List Int} (h:AtmAt w B S gw ow cw gh oh ch ws hs) (a:Nat) (x:Int) (ha:a<6):AtmAt (w.setCell ⟨gh,oh+a,none⟩ (.int .i64 x)) B S gw ow cw gh oh ch ws (hs.set a x):=by
  have ht:=Touch.setCell gh (oh+a) w (.int .i64 x);have n2:=h.n2;have ne:=h.ne;have lh:=h.lh
  exact { h with s0 := by rw [Touch.cell ht (by show S ≠ gh; omega) h.sLt]; exact h.s0
                 s1:=by rw[Touch.cell ht (by show S≠gh;omega) h.sLt];exact h.s1
                 ww:=h.ww.set' _ _ _ (fun k hk=>by simp[Value.ownBlock]at hk;omega)
                 hh:=h.hh.putI a (by omega) x
                 lh:=by rw[List.length_set];exact lh }
theorem AtmAt.putW {w:World} {B S gw ow cw gh oh ch:Nat} {ws hs:List Int} (h:AtmAt w B S gw ow cw gh oh ch ws hs) (a:Nat) (x:Int) (ha:a<64):AtmAt (w.setCell ⟨gw,ow+a,none⟩ (.int .i64 x)) B S gw ow cw gh oh ch (ws.set a x) hs:=by
  have ht:=Touch.setCell gw (ow+a) w (.int .i64 x);have n1:=h.n1;have ne:=h.ne;have lw:=h.lw
  exact { h with s0 := by rw [Touch.cell ht (by show S ≠ gw; omega) h.sLt]; exact h.s0
                 s1:=by rw[Touch.cell ht (by show S≠gw;omega) h.sLt];exact h.s1
                 hh:=h.hh.set' _ _ _ (fun k hk=>by simp[Value.ownBlock]at hk;omega)
                 ww:=h.ww.putI a (by omega) x
                 lw:=by rw[List.length_set];exact lw }
theorem AtmAt.draws {w:World} {B S gw ow cw gh oh ch:Nat} {ws hs:List Int} (h:AtmAt w B S gw ow cw gh oh ch ws hs) (n:Nat):AtmAt (w.drewN n) B S gw ow cw gh oh ch ws hs:=h.kept (Below.draws (Below.refl _ _) n) (Nat.le_refl _)
theorem Touch2.fresh {a b g o:Nat} {w w':World} {u:Value} (h:Touch2 a b w w') (hg:w.heap.size≤g):Touch2 a b w (w'.setCell ⟨g,o,none⟩ u) :=
 ⟨h.os,h.tape,h.output,by simpa[World.setCell]using h.size,fun k hk ha hb=>by rw[Below.heap_setCell _ _ _ _ (by show k≠g;omega)];exact h.block k hk ha hb⟩
set_option maxRecDepth 4000 in
theorem do_rh (v : Value) (ms : List MR) (B S gw ow cw gh oh ch : Nat) (ws hs : List Int) (who : Int) (id kind addr many : Int) (wp : Bool) (dv lv : Value) (w : World) (hv : Maps w B v ms) (h : AtmAt w B S gw ow cw gh oh ch ws hs)
  (hd1:∃a n c,dv=.slice a n c) (hd2:∃a n c,lv=.slice a n c) (hwho:inB who 0 2=true) (hid1:inB id 0 1=true) (hz:0≤zA5 ms (burst addr many wp)) (hs':List Int) (cd:Int) (hk1:(kind=1∧hs' = hs∧cd=1)∨(kind=3∧hs' = hs.set (who * 2+id).toNat addr∧cd=2)) (haddr:inB addr 0 63=true) :
  Calls Tryz.prog 80 #[.pointer (some ⟨S,0,none⟩),v,.int .i64 who,.agg #[.int .i64 id,.int .i64 kind,.int .i64 addr,.int .i64 many,.bool wp,dv,lv]] w (DoP B S gw ow cw gh oh ch ws hs' ⟨id,cd,zC7 ws (burst addr many wp)⟩ w):=by
 have hw:(kind==2 || kind==4)=false:=by rcases hk1 with⟨h,_⟩|⟨h,_⟩ <;> rw[h] <;> simp
 have HW:=hid hw;clear hw;have g4:(kind==4)=false:=by rcases hk1 with⟨h,_⟩|⟨h,_⟩ <;> rw[h] <;> simp
 have HK:=hid hk1;clear hk1;obtain⟨k,hk⟩:=Int.eq_ofNat_of_zero_le (show 0≤zA5 ms (burst addr many wp) by omega);have HD1:=hid hd1;have HD2:=hid hd2;have HV:=hid hv;have HH:=hid h;have hS:=h.sLt;have hB:B≤w.heap.size:=by have:=h.bs;omega
 obtain⟨da,dn,dc,rfl⟩:=hd1;obtain⟨la,ln,lc,rfl⟩:=hd2;simp only[inB,Bool.and_eq_true,decide_eq_true_eq]at hwho hid1;have s0:=h.s0;have s1:=h.s1;have HZ:=hid hk.symm;clear hv h hk hz
 go_enter Tryz.func80,Tryz.ntmps80
 go_wp2_with (first|(go_at_call 100;refine(zI9 _ ms _ _ _ _ _ _ _ HD1.out HD2.out B _ (HV.out.below (((Below.refl _ _).alloc hB _).alloc (by simp;omega) _)) (by simp;omega)).mono ?_;rw[←HZ.out];rintro e w1 ⟨rfl,hb1⟩;obtain⟨⟨f0,f1,f2,f3,f4,f5,f6⟩,⟨r0,r1,r2,r3,r4,r5⟩,hb01,hz1⟩:=do_open hb1;clear hb1;have hS1:S<w1.heap.size:=(by omega);have hg1:w.heap.size<w1.heap.size:=(by omega);have hg2:w.heap.size+1<w1.heap.size:=(by omega);have q0:w1.cell? ⟨S,0,none⟩=some (.slice (some ⟨gw,ow,none⟩) 64 cw):=(by rw[hb01.cell (p:=⟨S,0,none⟩) hS];exact s0);have q1:w1.cell? ⟨S,1,none⟩=some (.slice (some ⟨gh,oh,none⟩) 6 ch):=(by rw[hb01.cell (p:=⟨S,1,none⟩) hS];exact s1)))
 have hd0:(0:Int)≤who * 2+id:=by omega
 have hd6:who * 2+id<6:=by omega
 go_quiet (fail)
 obtain⟨a,ha6,hae,hat⟩:=do_at hwho hid1;rw[hat];obtain⟨w2,go,hw2,hgo,⟨o0,o1,o2,o3,o4,o5⟩,hb12,hz2⟩:=do_open2 (w1:=w1) (id:=id) (U:=63) nq;rw[←hw2,←hgo];clear hw2;obtain⟨f0', f1', f2', f3', f4', f5', f6'⟩:=ReqAt.below ⟨f0,f1,f2,f3,f4,f5,f6⟩ hb12 hg1;obtain⟨r0', r1', r2', r3', r4', r5'⟩:=RspAt.below ⟨r0,r1,r2,r3,r4,r5⟩ hb12 hg2;have HB:=hid (hb01.trans (hb12.mono (by omega)));have q0':w2.cell? ⟨S,0,none⟩=some (.slice (some ⟨gw,ow,none⟩) 64 cw):=by rw[HB.out.cell (p:=⟨S,0,none⟩) hS];exact s0
 have q1':w2.cell? ⟨S,1,none⟩=some (.slice (some ⟨gh,oh,none⟩) 6 ch):=by rw[HB.out.cell (p:=⟨S,1,none⟩) hS];exact s1
 have hgo2:w.heap.size+2≤go:=by omega
 have hSgo:S<go:=by omega
 clear f0 f1 f2 f3 f4 f5 f6 r0 r1 r2 r3 r4 r5 q0 q1 hb01 hb12 s0 s1 hgo hS1 hg1 hg2 hz1;obtain⟨i1,hj,jz0,jz1,jz2⟩:=info_parts infoI
 go_wp2_with (first|(go_at_call 96;refine(zG1 _ _ _ _ _ _ _ _).mono ?_;rw[HW.out];rintro e w3 ⟨rfl,hbx⟩;obtain⟨f0', f1', f2', f3', f4', f5', f6'⟩:=ReqAt.below ⟨f0', f1', f2', f3', f4', f5', f6'⟩ hbx (ReqAt.lt ⟨f0', f1', f2', f3', f4', f5', f6'⟩);obtain⟨r0', r1', r2', r3', r4', r5'⟩:=RspAt.below ⟨r0', r1', r2', r3', r4', r5'⟩ hbx (RspAt.lt ⟨r0', r1', r2', r3', r4', r5'⟩);obtain⟨o0,o1,o2,o3,o4,o5⟩:=RspAt.below ⟨o0,o1,o2,o3,o4,o5⟩ hbx (RspAt.lt ⟨o0,o1,o2,o3,o4,o5⟩);have HB:=hid (HB.out.trans (hbx.mono HB.out.size));have q0':w3.cell? ⟨S,0,none⟩=some (.slice (some ⟨gw,ow,none⟩) 64 cw):=(by rw[HB.out.cell (p:=⟨S,0,none⟩) hS];exact HH.out.s0);have q1':w3.cell? ⟨S,1,none⟩=some (.slice (some ⟨gh,oh,none⟩) 6 ch):=(by rw[HB.out.cell (p:=⟨S,1,none⟩) hS];exact HH.out.s1);have hz2:go<w3.heap.size:=(RspAt.lt ⟨o0,o1,o2,o3,o4,o5⟩);clear hbx))
 go_quiet (fail)
 obtain⟨xs,hxs⟩:∃xs,xs=burst addr many wp:=⟨_,rfl⟩
 have HXS:=hid hxs;have hl4:xs.length≤4:=by rw[hxs];exact burst_len
 have HIN:=hid (show ∀x∈xs,0≤x∧x≤63 by rw[hxs];exact burst_in);clear hxs;obtain⟨w4,hw4⟩:∃w4,w4=w3.drewN nq:=⟨_,rfl⟩
 rw[←hw4];have hbx:Below w3.heap.size w3 w4:=by rw[hw4];exact Below.draws (Below.refl _ _) _
 obtain⟨f0', f1', f2', f3', f4', f5', f6'⟩:=ReqAt.below ⟨f0', f1', f2', f3', f4', f5', f6'⟩ hbx (ReqAt.lt ⟨f0', f1', f2', f3', f4', f5', f6'⟩);obtain⟨r0', r1', r2', r3', r4', r5'⟩:=RspAt.below ⟨r0', r1', r2', r3', r4', r5'⟩ hbx (RspAt.lt ⟨r0', r1', r2', r3', r4', r5'⟩);obtain⟨o0,o1,o2,o3,o4,o5⟩:=RspAt.below ⟨o0,o1,o2,o3,o4,o5⟩ hbx (RspAt.lt ⟨o0,o1,o2,o3,o4,o5⟩);have HB:=hid (HB.out.trans (hbx.mono HB.out.size));have q0':w4.cell? ⟨S,0,none⟩=some (.slice (some ⟨gw,ow,none⟩) 64 cw):=(by rw[HB.out.cell (p:=⟨S,0,none⟩) hS];exact HH.out.s0);have q1':w4.cell? ⟨S,1,none⟩=some (.slice (some ⟨gh,oh,none⟩) 6 ch):=(by rw[HB.out.cell (p:=⟨S,1,none⟩) hS];exact HH.out.s1);have hz2:go<w4.heap.size:=(RspAt.lt ⟨o0,o1,o2,o3,o4,o5⟩)
 clear hbx hw4
 go_wp2_with (first
  |(go_at_call 129;refine(reqBurst_val _ _ _ _ _ _ _ _).mono ?_;rintro e w3 ⟨u,rfl,hu,hbx,hfr⟩;rw[←HXS.out]at hu;obtain⟨ao,cap,hue,hlc,hcap,hln,hni,hr⟩:=hu.opened;subst hue;obtain⟨cu,hcu⟩:∃cu,cu=w3.heap.size:=⟨_,rfl⟩;have HU:=hid (show Ints w3 cu _ xs by rw[hcu];exact hu);replace hcu:cu≤w3.heap.size:=(by omega);have HF:=hid (show ∀k,(Value.slice ao xs.length cap).ownBlock=some k→go<k from fun k hk=>Nat.lt_of_lt_of_le hz2 (hfr k hk));clear hu hr hfr;obtain⟨f0', f1', f2', f3', f4', f5', f6'⟩:=ReqAt.below ⟨f0', f1', f2', f3', f4', f5', f6'⟩ hbx (ReqAt.lt ⟨f0', f1', f2', f3', f4', f5', f6'⟩);obtain⟨r0', r1', r2', r3', r4', r5'⟩:=RspAt.below ⟨r0', r1', r2', r3', r4', r5'⟩ hbx (RspAt.lt ⟨r0', r1', r2', r3', r4', r5'⟩);obtain⟨o0,o1,o2,o3,o4,o5⟩:=RspAt.below ⟨o0,o1,o2,o3,o4,o5⟩ hbx (RspAt.lt ⟨o0,o1,o2,o3,o4,o5⟩);have HB:=hid (HB.out.trans (hbx.mono HB.out.size));have q0':w3.cell? ⟨S,0,none⟩=some (.slice (some ⟨gw,ow,none⟩) 64 cw):=(by rw[HB.out.cell (p:=⟨S,0,none⟩) hS];exact HH.out.s0);have q1':w3.cell? ⟨S,1,none⟩=some (.slice (some ⟨gh,oh,none⟩) 6 ch):=(by rw[HB.out.cell (p:=⟨S,1,none⟩) hS];exact HH.out.s1);have hz2:go<w3.heap.size:=(RspAt.lt ⟨o0,o1,o2,o3,o4,o5⟩);clear hbx)
  |(go_at_call 96;refine(zG1 _ _ _ _ _ _ _ _).mono ?_;rw[HW.out];rintro e w5 ⟨rfl,hbx⟩;have HU:=hid (HU.out.below (hbx.mono hcu));replace hcu:cu≤w5.heap.size:=(Nat.le_trans hcu hbx.size);obtain⟨f0', f1', f2', f3', f4', f5', f6'⟩:=ReqAt.below ⟨f0', f1', f2', f3', f4', f5', f6'⟩ hbx (ReqAt.lt ⟨f0', f1', f2', f3', f4', f5', f6'⟩);obtain⟨r0', r1', r2', r3', r4', r5'⟩:=RspAt.below ⟨r0', r1', r2', r3', r4', r5'⟩ hbx (RspAt.lt ⟨r0', r1', r2', r3', r4', r5'⟩);obtain⟨o0,o1,o2,o3,o4,o5⟩:=RspAt.below ⟨o0,o1,o2,o3,o4,o5⟩ hbx (RspAt.lt ⟨o0,o1,o2,o3,o4,o5⟩);have HB:=hid (HB.out.trans (hbx.mono HB.out.size));have q0':w5.cell? ⟨S,0,none⟩=some (.slice (some ⟨gw,ow,none⟩) 64 cw):=(by rw[HB.out.cell (p:=⟨S,0,none⟩) hS];exact HH.out.s0);have q1':w5.cell? ⟨S,1,none⟩=some (.slice (some ⟨gh,oh,none⟩) 6 ch):=(by rw[HB.out.cell (p:=⟨S,1,none⟩) hS];exact HH.out.s1);have hz2:go<w5.heap.size:=(RspAt.lt ⟨o0,o1,o2,o3,o4,o5⟩);clear hbx)
  |(at_make;go_must (refine wpList_make_full _ rfl _ _ 24 rfl w.heap.size 3 i1 (.int .i64 0) 1 Tryz.underlying24 hj jz0 jz1 _ _ _ _ xs.length rfl rfl rfl rfl (by rw[jz2];omega) (by unfold maxLen;omega) HB.out.size ?_);intro w6 hown hgrow;have hbx:Below w5.heap.size w5 w6:=((Below.refl _ _).grown hgrow (Nat.le_refl _) (by simp));clear hgrow;have HU:=hid (HU.out.below (hbx.mono hcu));have hgd:w5.heap.size<w6.heap.size:=(by have:=(hown.lt _ rfl).2;exact this);have hz5:go<w5.heap.size:=hz2;obtain⟨f0', f1', f2', f3', f4', f5', f6'⟩:=ReqAt.below ⟨f0', f1', f2', f3', f4', f5', f6'⟩ hbx (ReqAt.lt ⟨f0', f1', f2', f3', f4', f5', f6'⟩);obtain⟨r0', r1', r2', r3', r4', r5'⟩:=RspAt.below ⟨r0', r1', r2', r3', r4', r5'⟩ hbx (RspAt.lt ⟨r0', r1', r2', r3', r4', r5'⟩);obtain⟨o0,o1,o2,o3,o4,o5⟩:=RspAt.below ⟨o0,o1,o2,o3,o4,o5⟩ hbx (RspAt.lt ⟨o0,o1,o2,o3,o4,o5⟩);have HB:=hid (HB.out.trans (hbx.mono HB.out.size));have q0':w6.cell? ⟨S,0,none⟩=some (.slice (some ⟨gw,ow,none⟩) 64 cw):=(by rw[HB.out.cell (p:=⟨S,0,none⟩) hS];exact HH.out.s0);have q1':w6.cell? ⟨S,1,none⟩=some (.slice (some ⟨gh,oh,none⟩) 6 ch):=(by rw[HB.out.cell (p:=⟨S,1,none⟩) hS];exact HH.out.s1);have hz2:go<w6.heap.size:=(RspAt.lt ⟨o0,o1,o2,o3,o4,o5⟩);clear hbx))
 obtain⟨w7,gd,hw7,hgde⟩:∃w7 gd,w7=w6.setCell ⟨go,2,none⟩ (.slice (some ⟨w5.heap.size,0,none⟩) xs.length xs.length)∧gd=w5.heap.size:=⟨_,_,rfl,rfl⟩
 rw[←hw7,←hgde];have ht67:Touch go w6 w7:=by rw[hw7];exact Touch.setCell ..
 have hown7:w7.ownsRow w.heap.size 3 1 (.slice (some ⟨gd,0,none⟩) xs.length xs.length) xs.length (zE6 (Value.int .i64) (.int .i64 0) (zC7 ws xs) 0):=by
  have e1:(zC7 ws xs).length=xs.length:=by simp[zC7]
  rw[fillRow_zero,e1,hgde];rw[show madeCells (Value.int .i64 0).cells (xs.length * 1)=madeCells #[.int .i64 0] xs.length by rw[Nat.mul_one];rfl,toList_madeCells_one]at hown;exact hown.kept ht67.grown (.inr (by simp[Value.ownBlock];omega))
 have O0:w7.cell? ⟨go,0,none⟩=some (.int .i64 id):=by rw[hw7];simp[go_sem,o0]
 have O1:w7.cell? ⟨go,1,none⟩=some (.int .i64 1):=by rw[hw7];simp[go_sem,o1]
 have O2:w7.cell? ⟨go,2,none⟩=some (.slice (some ⟨gd,0,none⟩) xs.length xs.length):=by rw[hw7,hgde];simp[go_sem,o2]
 have O3:w7.frozen? ⟨go,1,none⟩=false:=by rw[hw7];simp[go_sem,o4]
 have hgd7:gd<w7.heap.size:=by rw[hgde];exact Nat.lt_of_lt_of_le hgd ht67.size
 have hgo7:go<gd:=by omega
 have hcug:cu≤gd:=by omega
 have HB7:=hid (HB.out.trans (ht67.below (show w.heap.size≤go by omega) HB.out.size));have ga:∀g,g≠go→g<w6.heap.size→w7.heap[g]? = w6.heap[g]?:=fun g h1 h2=>ht67.block g h2 h1
 obtain⟨f0,f1,f2,f3,f4,f5,f6⟩:=ReqAt.heap ⟨f0', f1', f2', f3', f4', f5', f6'⟩ (ga _ (by omega) (ReqAt.lt ⟨f0', f1', f2', f3', f4', f5', f6'⟩));obtain⟨r0,r1,r2,r3,r4,r5⟩:=RspAt.heap ⟨r0', r1', r2', r3', r4', r5'⟩ (ga _ (by omega) (RspAt.lt ⟨r0', r1', r2', r3', r4', r5'⟩));have hU7:Ints w7 cu (.slice ao xs.length cap) xs:=by
  refine⟨?_,HU.out.2⟩;obtain⟨ao', cap', he,k1,k2,k3,k4,k5⟩:=HU.out.1;refine⟨ao', cap', he,k1,k2,k3,k4,fun hn=>?_⟩;obtain⟨b,off,ha,hb,hc⟩:=k5 hn;refine⟨b,off,ha,hb,fun t ht j hj=>?_⟩;rw[←hc t ht j hj];simp only[Value.slice.injEq]at he;have hbgo:go<b:=HF.out b (by rw[he.1,ha];rfl);exact Touch.cell ht67 (by show b≠go;omega) (by show b<_;omega)
 have HU7:=hid hU7;have HO7:=hid hown7;have hg1:w.heap.size<go:=by omega
 have hg2:w.heap.size+1<go:=by omega
 have hn7:=HB7.out.size;clear hown7 hU7 ga ht67 hw7 hown hgde f0' f1' f2' f3' f4' f5' f6' r0' r1' r2' r3' r4' r5' o0 o1 o2 o3 o4 o5 q0' q1' HB HU hz2 hgd hz5;have HYL:=hid (show(zC7 ws xs).length=xs.length by simp[zC7])
 go_loopw [13,14,76] (fun _ _ i wr=>∃k:Nat,k≤xs.length∧i=.int .i64 k∧wr.ownsRow w.heap.size 3 1 (.slice (some ⟨gd,0,none⟩) xs.length xs.length) xs.length (zE6 (Value.int .i64) (.int .i64 0) (zC7 ws xs) k)∧Touch gd w7 wr) (fun _ _ i _=>xs.length - (intOf i).toNat)
 case atStart=>exact⟨0,Nat.zero_le _,rfl,HO7.out,Touch.refl _ _⟩
 case round=>
  obtain⟨k,hk,rfl,hown,ht⟩:=hrel;have hsz:=ht.size;have HBr:=hid (HB7.out.trans (ht.below (show w.heap.size≤gd by omega) hn7));by_cases hlt:k<xs.length
  ·obtain⟨_,_,hue,_,_,_,_,hur⟩:=HU7.out.opened;obtain⟨rfl,_,rfl⟩:=Value.slice.inj hue;obtain⟨b,off,rfl,hb,hc⟩:=hur (by omega);have hck:=hc k hlt;rw[←Touch.cell ht (p:=⟨b,off+k,none⟩) (by show b≠gd;omega) (by show b<_;omega)]at hck;have hin:=HIN.out (xs.getD k 0) (zB5 hlt);have hval:=burstget ws hlt;obtain⟨m,hm⟩:=Int.eq_ofNat_of_zero_le hin.1;rw[hm]at hck hval hin;have HM:=hid hm;clear hm hc hur hue;have hm64:m<64:=by omega
   have hwc:wr.cell? ⟨gw,ow+m,none⟩=some (.int .i64 (ws.getD m 0)):=by
    rw[HBr.out.cell (p:=⟨gw,ow+m,none⟩) HH.out.ww.ltI.2];exact HH.out.ww.cellI m (by rw[HH.out.lw];exact hm64)
   obtain⟨x,hx⟩:∃x,x=ws.getD m 0:=⟨_,rfl⟩
   rw[←hx]at hwc;have hval':(zC7 ws xs).getD k 0=x:=by rw[hval,hx];simp
   have hst:=(hown.stored k (.int .i64 x)).1;have hcell:=hown.cellAt k (by omega);rw[fillRow_get _ _ _ _ (by rw[HYL.out];exact hlt)]at hcell;have hfr:=hown.frozenAt k;rw[show Value.int .i64 x=Value.int .i64 ((zC7 ws xs).getD k 0) by rw[hval'],fillRow_set _ _ _ _ _ (by rw[HYL.out];exact hlt),hval']at hst;have HS:=hid hst;clear hst hown hx hval hval';have p2:wr.cell? ⟨go,2,none⟩=some (.slice (some ⟨gd,0,none⟩) xs.length xs.length):=by rw[Touch.cell ht (p:=⟨go,2,none⟩) (by show go≠gd;omega) (by show go<_;omega)];exact O2
   have p3:wr.cell? ⟨S,0,none⟩=some (.slice (some ⟨gw,ow,none⟩) 64 cw):=by rw[HBr.out.cell (p:=⟨S,0,none⟩) hS];exact HH.out.s0
   go_wp2
   go_region
   go_wp2
   go_roundw
   case rel=>exact⟨k+1,by omega,by go_num,by exact HS.out,(ht.trans (Touch.setCell gd k wr (.int .i64 x))).drew⟩
   case measure=>simp[intOf];omega
  ·obtain rfl:k=xs.length:=by omega
   have hown':wr.ownsRow w.heap.size 3 1 (.slice (some ⟨gd,0,none⟩) xs.length xs.length) xs.length ((zC7 ws xs).map (Value.int .i64)):=by
    have:=fillRow_all (Value.int .i64) (.int .i64 0) (zC7 ws xs);rw[HYL.out]at this;rw[←this];exact hown
   have HD := hid (show Owns wr w.heap.size 3 1 rowI (.slice (some ⟨gd, 0, none⟩) xs.length xs.length) (zC7 ws xs) by
    unfold Owns;rw[HYL.out,zJ6];exact OwnR.of_row hown')
   clear hown hown';obtain⟨f0', f1', f2', f3', f4', f5', f6'⟩:=ReqAt.heap (w':=wr) ⟨f0,f1,f2,f3,f4,f5,f6⟩ (ht.block _ (by omega) (by omega));obtain⟨r0', r1', r2', r3', r4', r5'⟩:=RspAt.heap (w':=wr) ⟨r0,r1,r2,r3,r4,r5⟩ (ht.block _ (by omega) (by omega));have p0:wr.cell? ⟨go,0,none⟩=some (.int .i64 id):=by rw[Touch.cell ht (p:=⟨go,0,none⟩) (by show go≠gd;omega) (by show go<_;omega)];exact O0
   have p1:wr.cell? ⟨go,1,none⟩=some (.int .i64 1):=by rw[Touch.cell ht (p:=⟨go,1,none⟩) (by show go≠gd;omega) (by show go<_;omega)];exact O1
   have p2:wr.cell? ⟨go,2,none⟩=some (.slice (some ⟨gd,0,none⟩) xs.length xs.length):=by rw[Touch.cell ht (p:=⟨go,2,none⟩) (by show go≠gd;omega) (by show go<_;omega)];exact O2
   have p4:wr.frozen? ⟨go,1,none⟩=false:=by simp only[World.frozen?,ht.block go (by omega) (by omega)];simpa only[World.frozen?]using O3
   clear f0 f1 f2 f3 f4 f5 f6 r0 r1 r2 r3 r4 r5 O0 O1 O2 O3;rcases HK.out with⟨hk3,rfl,rfl⟩|⟨hk3,rfl,rfl⟩
   ·have g3:(kind==3)=false:=by rw[hk3];rfl
    go_wp2
    have hbE:=hid (((HBr.out.setCell (p:=⟨w.heap.size+1,0,none⟩) (by simp) (.int .i64 id)).setCell (p:=⟨w.heap.size+1,1,none⟩) (by simp) (.int .i64 1)).setCell (p:=⟨w.heap.size+1,2,none⟩) (by simp) (.slice (some ⟨gd,0,none⟩) xs.length xs.length));refine bodyPost_ret (zB0 Tryz.results80 _ _ ⟨w.heap.size+1,0,none⟩ (.agg #[.int .i64 id,.int .i64 1,.slice (some ⟨gd,0,none⟩) xs.length xs.length]) rfl ?_) rfl ?_
    ·exact zG3 _ _ _ _ _ (by simp[go_sem,r0']) (by simp[go_sem,r1']) (by simp[go_sem,r2'])
    refine⟨_,rfl,?_,HH.out.kept hbE.out (Nat.le_refl _),Touch2.of_below hbE.out (Nat.le_refl _)⟩;rw[←HXS.out];exact((HD.out.set' _ _ _ (fun k hk=>by simp[Value.ownBlock]at hk;omega)).set' _ _ _ (fun k hk=>by simp[Value.ownBlock]at hk;omega)).set' _ _ _ (fun k hk=>by simp[Value.ownBlock]at hk;omega)
   ·have g3:(kind==3)=true:=by rw[hk3];rfl
    have AT:=HH.out.kept HBr.out (Nat.le_refl _);have h0:∃y,wr.cell? ⟨gh,oh+a,none⟩=some (.int .i64 y):=⟨_,AT.hh.cellI a (by rw[AT.lh];exact ha6)⟩
    obtain⟨y,h0⟩:=h0;have h1:wr.frozen? ⟨gh,oh+a,none⟩=false:=AT.hh.frozenI a;have hgh:gh<w.heap.size:=HH.out.hh.ltI.2;have hgw:gw<w.heap.size:=HH.out.ww.ltI.2;have HAT:=hid AT;clear AT
    go_wp2
    have hT:=hid ((((((Touch2.of_below HBr.out (Nat.le_refl _):Touch2 gw gh w wr).fresh (g:=go) (o:=1) (u:=.int .i64 2) (by omega)).trans (Touch2.right gw gh (oh+a) _ (.int .i64 addr))).fresh (g:=w.heap.size+1) (o:=0) (u:=.int .i64 id) (by omega)).fresh (g:=w.heap.size+1) (o:=1) (u:=.int .i64 2) (by omega)).fresh (g:=w.heap.size+1) (o:=2) (u:=.slice (some ⟨gd,0,none⟩) xs.length xs.length) (by omega));refine bodyPost_ret (zB0 Tryz.results80 _ _ ⟨w.heap.size+1,0,none⟩ (.agg #[.int .i64 id,.int .i64 2,.slice (some ⟨gd,0,none⟩) xs.length xs.length]) rfl ?_) rfl ?_
    ·exact zG3 _ _ _ _ _ (by simp[go_sem,r0']) (by simp[go_sem,r1']) (by simp[go_sem,r2'])
    refine⟨_,rfl,?_,?_,hT.out⟩
    ·rw[←HXS.out];exact((((HD.out.set' _ _ _ (fun k hk=>by simp[Value.ownBlock]at hk;omega)).set' _ _ _ (fun k hk=>by simp[Value.ownBlock]at hk;omega)).set' _ _ _ (fun k hk=>by simp[Value.ownBlock]at hk;omega)).set' _ _ _ (fun k hk=>by simp[Value.ownBlock]at hk;omega)).set' _ _ _ (fun k hk=>by simp[Value.ownBlock]at hk;omega)
    ·exact(((((HAT.out.other go 1 _ (by omega) (by omega) (by omega)).putH a addr ha6).other _ 0 _ (by omega) (by omega) (by omega)).other _ 1 _ (by omega) (by omega) (by omega)).other _ 2 _ (by omega) (by omega) (by omega))
theorem putAll_snoc : ∀ (ws : List Int) (a b c : List Int) (x d l : Int), a.length = b.length → a.length = c.length →
  zB6 ws (a++[x]) (b++[d]) (c++[l])=(zB6 ws a b c).set x.toNat (putW ((zB6 ws a b c).getD x.toNat 0) d l)
 |ws,[],[],[],x,d,l,_,_=>rfl
 |ws,y::a,e::b,m::c,x,d,l,h1,h2=>by
  simp only[List.cons_append,zB6];exact putAll_snoc _ a b c x d l (by simpa using h1) (by simpa using h2)
theorem take_snoc {α:Type} {xs:List α} {k:Nat} {d:α} (h:k<xs.length):xs.take (k+1)=xs.take k++[xs.getD k d]:=by
 rw[List.take_succ_eq_append_getElem h];simp[List.getD,h]
def putK (ws xs ds ls:List Int) (k:Nat):List Int:=zB6 ws (xs.take k) (ds.take k) (ls.take k)
theorem putK_zero (ws xs ds ls:List Int):putK ws xs ds ls 0=ws:=by simp[putK,zB6]
theorem putK_all (ws xs ds ls:List Int) (h1:ds.length=xs.length) (h2:ls.length=xs.length):putK ws xs ds ls xs.length=zB6 ws xs ds ls:=by
 unfold putK;rw[List.take_length,←h1,List.take_length,h1,←h2,List.take_length]
theorem putK_succ (ws : List Int) {xs ds ls : List Int} {k : Nat} (h1 : ds.length = xs.length) (h2 : ls.length = xs.length) (hk : k < xs.length) :
  putK ws xs ds ls (k+1)=(putK ws xs ds ls k).set (xs.getD k 0).toNat (putW ((putK ws xs ds ls k).getD (xs.getD k 0).toNat 0) (ds.getD k 0) (ls.getD k 0)):=by
 unfold putK;rw[take_snoc (d:=0) hk,take_snoc (d:=0) (xs:=ds) (by omega),take_snoc (d:=0) (xs:=ls) (by omega),putAll_snoc _ _ _ _ _ _ _ (by simp;omega) (by simp;omega)]
theorem putW_ok {o n l:Int} (ho:zB1 o=true) (hn:zB1 n=true):zB1 (putW o n l)=true:=by
 simp only[zB1,inB,Bool.and_eq_true,decide_eq_true_eq]at *;unfold putW
 split <;> split <;> omega
theorem zI6 : ∀ (ws a b c : List Int), (zB6 ws a b c).length = ws.length
 |ws,[],_,_=>by simp[zB6]
 |ws,_::_,[],_=>by simp[zB6]
 |ws,_::_,_::_,[]=>by simp[zB6]
 |ws,x::a,d::b,l::c=>by simp only[zB6];rw[zI6];simp
theorem all_set {p:Int→Bool} {ws:List Int} {k:Nat} {x:Int} (h:ws.all p=true) (hx:p x=true):(ws.set k x).all p=true:=by
 rw[List.all_eq_true]at *;intro y hy;rcases List.mem_or_eq_of_mem_set hy with h1|h1
 ·exact h y h1
 ·rw[h1];exact hx
theorem getD_ok {p:Int→Bool} {ws:List Int} {k:Nat} {d:Int} (h:ws.all p=true) (hd:p d=true):p (ws.getD k d)=true:=by
 rcases Nat.lt_or_ge k ws.length with h1|h1
 ·rw[List.all_eq_true]at h;exact h _ (zB5 h1)
 ·simpa[List.getD,List.getElem?_eq_none h1]using hd
theorem putAll_ok : ∀ (ws a b c : List Int), ws.all zB1 = true → b.all zB1 = true → (zB6 ws a b c).all zB1 = true
 |ws,[],_,_,h,_=>by simpa[zB6]using h
 |ws,_::_,[],_,h,_=>by simpa[zB6]using h
 |ws,_::_,_::_,[],h,_=>by simpa[zB6]using h
 |ws,x::a,d::b,l::c,h,hb=>by
  simp only[List.all_cons,Bool.and_eq_true]at hb;simp only[zB6];exact putAll_ok _ a b c (all_set h (putW_ok (getD_ok h (by decide)) hb.1)) hb.2
theorem putK_len (ws xs ds ls:List Int) (k:Nat):(putK ws xs ds ls k).length=ws.length:=zI6 ..
theorem all_take {p:Int→Bool} {xs:List Int} {k:Nat} (h:xs.all p=true):(xs.take k).all p=true:=by
 rw[List.all_eq_true]at *;exact fun x hx=>h x (List.mem_of_mem_take hx)
theorem putK_ok {ws xs ds ls:List Int} {k:Nat} (h:ws.all zB1=true) (hd:ds.all zB1=true):(putK ws xs ds ls k).all zB1=true:=putAll_ok _ _ _ _ h (all_take hd)
def zH8 (xs:List Int) (h:Int):Int:=if xs.contains h then -1 else h
def freeK (hs xs:List Int) (k:Nat):List Int:=(hs.take k).map (zH8 xs)++hs.drop k
theorem freeK_zero (hs xs:List Int):freeK hs xs 0=hs:=by simp[freeK]
theorem freeK_all (hs xs:List Int):freeK hs xs hs.length=zC6 hs xs:=by simp only[freeK,zC6,List.take_length,List.drop_length,List.append_nil];rfl
theorem freeK_len (hs xs:List Int) (k:Nat):(freeK hs xs k).length=hs.length:=by simp[freeK];omega
theorem freeK_get {hs xs:List Int} {k:Nat} (h:k<hs.length):(freeK hs xs k).getD k 0=hs.getD k 0:=by
 have hl:((hs.take k).map (zH8 xs)).length=k:=by simp;omega
 simp only[freeK,List.getD,List.getElem?_append_right (show((hs.take k).map (zH8 xs)).length≤k by omega),hl,Nat.sub_self,List.getElem?_drop,Nat.add_zero]
theorem freeK_succ {hs xs:List Int} {k:Nat} (h:k<hs.length):freeK hs xs (k+1)=(freeK hs xs k).set k (zH8 xs (hs.getD k 0)):=by
 have hl:((hs.take k).map (zH8 xs)).length=k:=by simp;omega
 unfold freeK;rw[List.set_append_right _ _ (by omega),hl,Nat.sub_self,take_snoc (d:=0) h,List.map_append,List.append_assoc,List.drop_eq_getElem_cons h,List.set_cons_zero]
 rfl
theorem set_self {hs:List Int} {k:Nat} {x:Int} (h:hs.getD k 0=x) (hk:k<hs.length):hs.set k x=hs:=by
 apply List.ext_getElem (by simp);intro i h1 h2;rw[List.getElem_set]
 split
 ·rename_i e;subst e;rw[←h];simp[List.getD,hk]
 ·rfl
theorem freeAll_ok {hs xs:List Int} (h:hs.all (fun h=>inB h (-1) 63)=true):(zC6 hs xs).all (fun h=>inB h (-1) 63)=true:=by
 rw[List.all_eq_true]at *;intro x hx;obtain⟨y,hy,rfl⟩:=List.mem_map.1 hx
 split
 ·decide
 ·exact h y hy
end Go.Proofs.YtgkdoehkmbhfiaaGreat
