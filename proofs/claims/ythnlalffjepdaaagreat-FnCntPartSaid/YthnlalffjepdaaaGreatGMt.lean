/- Draws: what is asked: the block in which it lies. -/
import Derived.Test.YthnlalffjepdaaaGreatGTl
import Derived.Test.YthnlalffjepdaaaGreatGDr2
import Derived.Test.YthnlalffjepdaaaGreatGMs
import Derived.Deep.RegionWith
import Derived.Deep.Cut
import Derived.Deep.CutRange
import Derived.Deep.CutBlock
import Derived.Deep.RegionHeld3
set_option linter.unusedVariables false
set_option linter.unusedSimpArgs false
set_option maxHeartbeats 16000000
namespace Go.Proofs.YthnlalffjepdaaaGreat
open Go.RowKit
theorem mayTest_any {c : Cfg} (hbus : Bus c) {w : World} {B : Nat} {ma : Option Addr} {mn mk lb lo lc pb po pc : Nat} {Q : Nat → Option Addr} {K : Nat → Nat} (h : BusO w B c ma mn mk lb lo lc pb po pc Q K) (hB : B ≤ w.heap.size) {who s : Nat} {id : Int} {j : Jb} (hw : who < 3) (hn : j.n < (c.prog who).length)
  {g1 g2 g3 g4:Nat} (b1:BusB w g1 ma mn mk lb lo lc pb po pc) (b2:IntB w g2 who) (b3:IntB w g3 id) (b4:IntB w g4 s) :
  Calls Tryz.prog 185 #[.agg #[.int .i64 j.who,.int .i64 j.n,.int .i64 j.left],.pointer (some ⟨g1,0,none⟩),.pointer (some ⟨g2,0,none⟩),.pointer (some ⟨g3,0,none⟩),.pointer (some ⟨g4,0,none⟩)] w fun e w' => e=.returned (.bool (mayB c who s id j))∧Below w.heap.size w w':=by
 obtain⟨w0,hw0⟩:∃W,W=w.alloc (.cells #[.int .i64 j.who,.int .i64 j.n,.int .i64 j.left] 75):=⟨_,rfl⟩
 have hb0:Below w.heap.size w w0:=by rw[hw0];exact(Below.refl _ _).alloc (Nat.le_refl _) _
 have hj:w0.heap[w.heap.size]? = some (.cells #[.int .i64 j.who,.int .i64 j.n,.int .i64 j.left] 75 (0,0)):=by rw[hw0];exact zA8 _ _ rfl
 have hz0:w.heap.size<w0.heap.size:=zA2 hj;have HO:=hid (h.below (hb0.mono hB));have B1:=hid (b1.below hb0 (zA2 b1));have B2:=hid (b2.below hb0 (zA2 b2));have B3:=hid (b3.below hb0 (zA2 b3));have B4:=hid (b4.below hb0 (zA2 b4));obtain⟨x0,x1,x2,x3⟩:=B1.out.cells;obtain⟨y0,y1⟩:=B2.out.cells;obtain⟨z0,z1⟩:=B3.out.cells;obtain⟨u0,u1⟩:=B4.out.cells;obtain⟨j0,j1,j2⟩:w0.cell? ⟨w.heap.size,0,none⟩=some (.int .i64 j.who)∧w0.cell? ⟨w.heap.size,1,none⟩=some (.int .i64 j.n)∧w0.cell? ⟨w.heap.size,2,none⟩=some (.int .i64 j.left):=by refine⟨?_,?_,?_⟩ <;> simp[World.cell?,hj]
 have HB0:=hid hb0;have HBZ:=hid hB;have HJ:=hid hj;obtain⟨y,hy⟩:∃y,y=c.id who j.n:=⟨_,rfl⟩
 have HY:=hid hy;have hwi:=hid hw;have hni:=hid hn;by_cases hq:y=id
 ·have e1:(y==id)=true:=by simpa using hq
  have HM:=hid (show mayB c who s id j=(j.left != s) by unfold mayB;rw[←hy,e1];rfl);have e2:((j.left:Int) != (s:Int))=(j.left != s):=by rw[Bool.eq_iff_iff];simp only[bne_iff_ne];omega
  clear hy hq hj hb0
  go_enter Tryz.func185,Tryz.ntmps185
  go_upto_region 1 with fail
  rw[←hw0];clear hw0
  go_region_held3 (fun w' => (w'.cell? ⟨g1, 0, none⟩ = some (.slice ma mn mk) ∧ w'.cell? ⟨g1, 1, none⟩ = some (.slice (some ⟨lb, lo, none⟩) 4 lc) ∧ w'.cell? ⟨g1, 2, none⟩ = some (.slice (some ⟨pb, po, none⟩) 3 pc)) ∧ w'.cell? ⟨g2, 0, none⟩ = some (.int .i64 who) ∧ w'.cell? ⟨g3, 0, none⟩ = some (.int .i64 id) ∧ w'.cell? ⟨g4, 0, none⟩ = some (.int .i64 s) ∧ w'.cell? ⟨w.heap.size, 1, none⟩ = some (.int .i64 j.n) ∧ w'.cell? ⟨w.heap.size, 2, none⟩ = some (.int .i64 j.left))
   (first|exact s6|go_keep)
   (first
    |(go_at_call 130;(with_reducible refine(id_any hbus (B:=B) (HO.out.below (Below.refl _ _).drew) (le_drew' (Nat.le_trans HBZ.out HB0.out.size)) hwi.out hni.out).mono ?_);rw[←HY.out];rintro e w5 ⟨rfl,hb5⟩;have hb5':=(show Below w0.heap.size w0 w0.drew from(Below.refl _ _).drew).trans hb5;have HB5:=hid hb5';have s6:=And.intro (And.intro ((hb5'.cell (p:=⟨g1,_,none⟩) x3).trans x0) (And.intro ((hb5'.cell (p:=⟨g1,_,none⟩) x3).trans x1) ((hb5'.cell (p:=⟨g1,_,none⟩) x3).trans x2))) (And.intro ((hb5'.cell (p:=⟨g2,_,none⟩) y1).trans y0) (And.intro ((hb5'.cell (p:=⟨g3,_,none⟩) z1).trans z0) (And.intro ((hb5'.cell (p:=⟨g4,_,none⟩) u1).trans u0) (And.intro ((hb5'.cell (p:=⟨w.heap.size,_,none⟩) hz0).trans j1) ((hb5'.cell (p:=⟨w.heap.size,_,none⟩) hz0).trans j2)))));clear hb5 hb5'))
  go_wp2_with fail
  go_ret
  exact⟨by rw[HM.out];rfl,HB0.out.trans (HB5.out.mono HB0.out.size)⟩
 ·have e1:(y==id)=false:=by simpa using hq
  have HM:=hid (show mayB c who s id j=false by unfold mayB;rw[←hy,e1];rfl);exact mayTestF_any hbus HO.out HB0.out (Nat.le_trans hB hb0.size) HJ.out x0 x1 x2 x3 y0 y1 z0 z1 hwi.out hni.out hy e1 HM hw0
def m0 (a:Bool):List MR:=[⟨0,15,0,false⟩,⟨16,31,1,false⟩,⟨32,47,2,a⟩]
def m1 (s:Int) (b:Bool):List MR:=[⟨0,7,0,false⟩,⟨8,15,1,false⟩,⟨20,40,s,false⟩,⟨41,63,2,b⟩]
theorem m0_ok (a:Bool) (k:Nat):mapOk ((m0 a).take k)=true∧∀x∈(m0 a).take k,MR64 x:=by
 have h3:∀k,k≤3→mapOk ((m0 a).take k)=true:=by
  intro k hk;have:k=0∨k=1∨k=2∨k=3:=by omega
  cases a <;> rcases this with rfl|rfl|rfl|rfl <;> decide
 refine⟨?_,fun x hx=>?_⟩
 ·by_cases hk:k≤3
  ·exact h3 k hk
  ·rw[List.take_of_length_le (by simp[m0];omega)];have:=h3 3 (by omega)
   rwa [List.take_of_length_le (by simp[m0])]at this
 ·have hx:=List.mem_of_mem_take hx;simp only[m0,List.mem_cons,List.not_mem_nil,or_false]at hx;rcases hx with rfl|rfl|rfl <;> simp[MR64,I64]
theorem m1_ok (s:Int) (b:Bool) (h0:0≤s) (h1:s<3):mapOk (m1 s b)=true∧∀x∈m1 s b,MR64 x:=by
 refine⟨?_,fun x hx=>?_⟩
 ·have:s=0∨s=1∨s=2:=by omega
  cases b <;> rcases this with rfl|rfl|rfl <;> decide
 ·simp only[m1,List.mem_cons,List.not_mem_nil,or_false]at hx;rcases hx with rfl|rfl|rfl|rfl <;> simp[MR64,I64] <;> omega
theorem zE5 (x:MR):(rowM x).length=4:=rfl
theorem RdAt.drewd {w:World} {r B:Nat} {bs:List Nat} {p:Nat} (h:RdAt w r B bs p):RdAt w.drew r B bs p:=h.draws 1
theorem Elem.map:Elem 23 158 4 32:=zF9 Tryz.underlying23 (z:=.agg #[.int .i64 0,.int .i64 0,.int .i64 0,.bool false]) (by kernel_rfl) rfl (by omega)
theorem rowM_one (x:MR):∀u∈rowM x,u.oneCell' = true:=by
 intro u hu;simp only[rowM,List.mem_cons,List.not_mem_nil,or_false]at hu;rcases hu with rfl|rfl|rfl|rfl <;> rfl
def MBd (x:MR):Prop:=0≤x.fr∧x.fr≤63∧0≤x.to∧x.to≤63∧0≤x.sl∧x.sl≤2
theorem m0_bd (a:Bool):∀x∈m0 a,MBd x:=by
 intro x hx;simp only[m0,List.mem_cons,List.not_mem_nil,or_false]at hx;rcases hx with rfl|rfl|rfl <;> simp[MBd]
theorem m1_bd (s:Int) (b:Bool) (h0:0≤s) (h1:s<3):∀x∈m1 s b,MBd x:=by
 intro x hx;simp only[m1,List.mem_cons,List.not_mem_nil,or_false]at hx;rcases hx with rfl|rfl|rfl|rfl <;> simp[MBd] <;> omega
theorem MBd.r64 {x:MR} (h:MBd x):MR64 x:=by unfold MBd at h;unfold MR64 I64;omega
theorem set64 {ms:List MR} {k:Nat} {y:MR} (h:∀x∈ms,MBd x) (hy:MR64 y):∀x∈ms.set k y,MR64 x:=by
 intro x hx;rcases List.mem_or_eq_of_mem_set hx with h1|h1
 ·exact(h x h1).r64
 ·rw[h1];exact hy
theorem Owns.someR {α:Type} {w:World} {base e sz:Nat} {f:α→List Value} {v:Value} {xs:List α} (h:Owns w base e sz f v xs) (hn:xs.length≠0):∃g off c,v=.slice (some ⟨g,off,none⟩) xs.length c∧xs.length≤c∧c≤9223372036854775807∧base≤g∧g<w.heap.size:=by
 have hlt:=OwnR.lt h;obtain⟨hl,h2⟩:=h;rcases h2 with⟨_,h2⟩|⟨g,off,cap,cur,rfl,hg,hh,hle,hmax,hsz,hc⟩
 ·exact absurd h2 hn
 ·exact⟨g,off,cap,rfl,hle,by unfold maxLen at hmax;omega,hg,(hlt g rfl).2⟩
def MapP (r B:Nat) (bs:List Nat) (p:Nat) (n:Int) (w:World) (e:Ending) (w':World):Prop :=
 ∃v ms q,e=.returned v∧Owns w' w.heap.size 158 4 rowM v ms∧(∀x∈ms,MR64 x)∧ms.length≤7∧(9000≤n→mapOk ms=true)∧q≤p+9∧RdAt w' r B bs q∧Touch r w w'
def MapC (r B:Nat) (bs:List Nat) (p:Nat) (w:World) (v:Value) (wc:World):Prop :=
 ∃ms q,Owns wc w.heap.size 158 4 rowM v ms∧(∀x∈ms,MBd x)∧1≤ms.length∧ms.length≤4∧mapOk ms=true∧q≤p+4∧RdAt wc r B bs q∧Touch r w wc
theorem Touch.bel {r C:Nat} {w w1 w2:World} (h:Touch r w w1) (hb:Below C w1 w2) (hC:w.heap.size≤C):Touch r w w2 :=
 ⟨hb.os.trans h.os,hb.tape.trans h.tape,hb.output.trans h.output,Nat.le_trans h.size hb.size,fun k hk hr=>by rw[hb.block k (by omega)];exact h.block k hk hr⟩
theorem Touch.ofDrew {r:Nat} {w w':World} (h:Touch r w.drew w'):Touch r w w':=(Touch.refl r w).drewd.trans h
theorem RdAt.setNew {w:World} {r B C:Nat} {bs:List Nat} {p:Nat} (h:RdAt w r B bs p) (hr:r<C) {g:Nat} (hg:C≤g) (o:Nat) (v:Value):RdAt (w.setCell ⟨g,o,none⟩ v) r B bs p :=
 h.kept ((Below.refl C w).setCell (by exact hg) v) hr
theorem putFr {w : World} {base g off n c b : Nat} {ms : List MR} (h : Owns w base 158 4 rowM (.slice (some ⟨g, off, none⟩) n c) ms) (k : Nat) (hk : k < ms.length) (x : Int) (hb : b = off + k * 4) :
  Owns (w.setCell ⟨g,b,none⟩ (.int .i64 x)) base 158 4 rowM (.slice (some ⟨g,off,none⟩) n c) (ms.set k ⟨x,(ms.getD k default).to,(ms.getD k default).sl,(ms.getD k default).only⟩):=by
 subst hb;exact h.putRow zE5 k 0 default _ _ hk (by omega) rfl
theorem putTo {w : World} {base g off n c b : Nat} {ms : List MR} (h : Owns w base 158 4 rowM (.slice (some ⟨g, off, none⟩) n c) ms) (k : Nat) (hk : k < ms.length) (x : Int) (hb : b = off + k * 4 + 1) :
  Owns (w.setCell ⟨g,b,none⟩ (.int .i64 x)) base 158 4 rowM (.slice (some ⟨g,off,none⟩) n c) (ms.set k ⟨(ms.getD k default).fr,x,(ms.getD k default).sl,(ms.getD k default).only⟩):=by
 subst hb;exact h.putRow zE5 k 1 default _ _ hk (by omega) rfl
theorem putSl {w : World} {base g off n c b : Nat} {ms : List MR} (h : Owns w base 158 4 rowM (.slice (some ⟨g, off, none⟩) n c) ms) (k : Nat) (hk : k < ms.length) (x : Int) (hb : b = off + k * 4 + 2) :
  Owns (w.setCell ⟨g,b,none⟩ (.int .i64 x)) base 158 4 rowM (.slice (some ⟨g,off,none⟩) n c) (ms.set k ⟨(ms.getD k default).fr,(ms.getD k default).to,x,(ms.getD k default).only⟩):=by
 subst hb;exact h.putRow zE5 k 2 default _ _ hk (by omega) rfl
theorem cellsM {w : World} {base g off n c : Nat} {ms : List MR} (h : Owns w base 158 4 rowM (.slice (some ⟨g, off, none⟩) n c) ms) (k : Nat) (hk : k < ms.length) :
  w.cell? ⟨g,off+k * 4,none⟩=some (.int .i64 (ms.getD k default).fr)∧w.cell? ⟨g,off+k * 4+1,none⟩=some (.int .i64 (ms.getD k default).to)∧w.cell? ⟨g,off+k * 4+2,none⟩=some (.int .i64 (ms.getD k default).sl)∧w.frozen? ⟨g,off+k * 4,none⟩=false∧w.frozen? ⟨g,off+k * 4+1,none⟩=false∧w.frozen? ⟨g,off+k * 4+2,none⟩=false :=
 ⟨h.cellAt zE5 k 0 default hk (by omega),h.cellAt zE5 k 1 default hk (by omega),h.cellAt zE5 k 2 default hk (by omega),h.frozenAt _,h.frozenAt _,h.frozenAt _⟩
theorem tab2 (a b:Int) {n:Nat} (h:n<2):∃y:Int,([Value.int .i64 a,.int .i64 b]:List Value)[n]? = some (.int .i64 y)∧(y=a∨y=b):=by
 rcases(show n=0∨n=1 by omega)with rfl|rfl
 ·exact⟨a,rfl,.inl rfl⟩
 ·exact⟨b,rfl,.inr rfl⟩
theorem tab3 (a b c:Int) {n:Nat} (h:n<3):∃y:Int,([Value.int .i64 a,.int .i64 b,.int .i64 c]:List Value)[n]? = some (.int .i64 y)∧(y=a∨y=b∨y=c):=by
 rcases(show n=0∨n=1∨n=2 by omega)with rfl|rfl|rfl
 ·exact⟨a,rfl,.inl rfl⟩
 ·exact⟨b,rfl,.inr (.inl rfl)⟩
 ·exact⟨c,rfl,.inr (.inr rfl)⟩
theorem zF3 {xs:List Value} {n:Nat} {v:Value} (h:xs[n]? = some v):xs.toArray[n]? = some v:=by simpa using h
theorem getD64 {ms:List MR} (h:∀x∈ms,MBd x) {k:Nat} (hk:k<ms.length):MBd (ms.getD k default):=by
 simp only[List.getD,List.getElem?_eq_getElem hk,Option.getD_some];exact h _ (List.getElem_mem hk)
theorem l20Map_any (r B : Nat) (bs : List Nat) (p : Nat) (n : Int) (w : World) (h0 : RdAt w r B bs p) (hp : p ≤ 1000000000) (h1 : 1 ≤ n) (hn : n ≤ 1099511627776) :
  Calls Tryz.prog 102 #[.pointer (some ⟨r,0,none⟩),.int .i64 n] w (MapP r B bs p n w):=by
 have hrw:=h0.lt
 go_enter Tryz.func102,Tryz.ntmps102
 go_upto_block 0 with (first
  |(go_at_call 103;(with_reducible refine(zC0 r B bs p 3 _ h0 (by omega) (by omega) (by omega)).mono ?_);rintro e wA ⟨x0,rfl,a0,a1,hA,htA⟩)
  |(go_at_call 103;(with_reducible refine(zC0 r B bs (p+1) 4 _ (hA.alloc _) (by omega) (by omega) (by omega)).mono ?_);rintro e wB ⟨x,rfl,b0,b1,h,htB⟩))
 have HO:=hid (show Owns wB w.heap.size 158 4 rowM (.slice (some ⟨wA.heap.size,0,none⟩) 3 3) (m0 (x0==0)) from(Owns.litOf (w:=wA) (base:=w.heap.size) (e:=158) (sz:=4) (f:=rowM) (m0 (x0==0)) _ htA.size zE5 (by rfl) (by simp[m0,maxLen])).touch htB hrw);have HT:=hid ((htA.alloc _).trans htB);clear a0 a1 hA htA htB h0
 go_cut [5] from 16 to 34 (fun v wc=>MapC r B bs p w v wc)
 case first=>
  have hlt:=h.lt;rcases(show x=0∨x=1∨x=2∨x=3 by omega)with rfl|rfl|rfl|rfl
  ·go_wp2_with (first
    |(go_at_call 103;(with_reducible refine(zC0 r B bs (p+1+1) 3 _ h (by omega) (by omega) (by omega)).mono ?_);rintro e wC ⟨s,rfl,c0,c1,hC,htC⟩)
    |(go_at_call 103;(with_reducible refine(zC0 r B bs (p+1+1+1) 2 _ hC (by omega) (by omega) (by omega)).mono ?_);rintro e wD ⟨t,rfl,d0,d1,hD,htD⟩))
   have HT2:=hid ((HT.out.trans htC).trans htD);go_meet
   case rel=>exact⟨m1 s (t==0),_,Owns.litOf (m1 s (t==0)) _ HT2.out.size zE5 (by rfl) (by simp[m1,maxLen]),m1_bd _ _ c0 c1,by simp[m1],by simp[m1],(m1_ok _ _ c0 c1).1,by omega,hD.alloc _,HT2.out.alloc _⟩
  ·go_wp2_with (first
    |(go_at_call 103;(with_reducible refine(zC0 r B bs (p+1+1) 3 _ h (by omega) (by omega) (by omega)).mono ?_);rintro e wC ⟨s,rfl,c0,c1,hC,htC⟩;obtain⟨k,rfl⟩:=Int.eq_ofNat_of_zero_le c0;have hk3:k≤2:=(by omega);have hkc:(0:Int)≤1+(k:Int):=(by omega);have hkd:1+(k:Int)≤3:=(by omega);have hkn:(1+(k:Int)).toNat=1+k:=(by omega)))
   have HT2:=hid (HT.out.trans htC);have HO2:=hid ((HO.out.touch htC hrw).take zE5 (1+k) (by simp[m0];omega));go_meet
   case rel=>exact⟨(m0 (x0==0)).take (1+k),_,by simpa[hkn]using HO2.out,fun x hx=>m0_bd _ x (List.mem_of_mem_take hx),by simp[m0];try omega,by simp[m0];try omega,(m0_ok _ _).1,by omega,hC,HT2.out⟩
  ·go_wp2_with fail
   go_meet
   case rel=>exact⟨m0 (x0==0),_,HO.out,m0_bd _,by simp[m0],by simp[m0],by have:=(m0_ok (x0==0) 3).1;simpa[m0]using this,by omega,h,HT.out⟩
  ·go_wp2_with fail
   go_meet
   case rel=>exact⟨m0 (x0==0),_,HO.out,m0_bd _,by simp[m0],by simp[m0],by have:=(m0_ok (x0==0) 3).1;simpa[m0]using this,by omega,h,HT.out⟩
 case rest=>
  clear h HO HT b0 b1;obtain⟨ms,q,hown,hbd,hl1,hl4,hok,hq,hR,hT⟩:=hcut;obtain⟨g,off,c,rfl,hc1,hc2,hg1,hg2⟩:=hown.someR (by omega);have HO:=hid hown;have HBD:=hid hbd;have HOK:=hid hok;have HT:=hid hT;clear hown hbd hok hT
  go_wp2_with (first
   |(go_at_call 140;refine(odd_any r B bs q n wc hR (by omega) h1 hn).mono ?_;rintro e w3 ⟨b,q2,rfl,hb9,hq2,h3,ht3⟩;have HO3:=hid (HO.out.touch ht3 hrw);have HT3:=hid (HT.out.trans ht3);have hs3:=ht3.size;have HB9:=hid hb9;clear hb9 ht3;cases b)
   |(go_at_call 103;(with_reducible refine(zC0 r B bs q2 (ms.length:Int) _ h3 (by omega) (by omega) (by omega)).mono ?_);rintro e w4 ⟨k', rfl,k0,k1,h4,ht4⟩;obtain⟨k,rfl⟩:=Int.eq_ofNat_of_zero_le k0;have hkl:k<ms.length:=(by omega);have HO4:=hid (HO3.out.touch ht4 hrw);have HT4:=hid (HT3.out.trans ht4);have hs4:=ht4.size;clear ht4)
   |(go_at_call 103;(with_reducible refine(zC0 r B bs (q2+1) 4 _ h4 (by omega) (by omega) (by omega)).mono ?_);rintro e w5 ⟨y,rfl,y0,y1,h5,ht5⟩;have HO5:=hid (HO4.out.touch ht5 hrw);have HT5:=hid (HT4.out.trans ht5);have hs5:=ht5.size;clear ht5;rcases(show y=0∨y=1∨y=2∨y=3 by omega)with rfl|rfl|rfl|rfl)
   |(go_at_call 103;have g5:g<w5.heap.size:=(by omega);(with_reducible refine(zC0 r B bs (q2+1+1) 2 (w5.alloc _) (h5.alloc _) (by omega) (by omega) (by omega)).mono ?_);rintro e w6 ⟨z', rfl,z0,z1,h6,ht6⟩;have HO6:=hid ((HO5.out.allocd _).touch ht6 hrw);have HT6:=hid ((HT5.out.alloc _).trans ht6);have hs6:w5.heap.size+1≤w6.heap.size:=(by have:=ht6.size;simpa using this);obtain⟨t0,t1,t2,f0,f1,f2⟩:=cellsM HO6.out k hkl;obtain⟨z,rfl⟩:=Int.eq_ofNat_of_zero_le z0;have hz:z<2:=(by omega);obtain⟨y,hl1,hy⟩:=tab2 (-1) 3 hz;have hl2:=zF3 hl1;clear hz;have hg6:g<w6.heap.size:=(by omega);have hzi:(z:Int)<2:=z1;clear z1;have tB:=Touch.tab ht6 h5.lt z _ hl2)
   |(at_builtin;have HO6:=hid ((Owns.litOf (w:=w5) (base:=w5.heap.size) (e:=158) (sz:=4) (f:=rowM) [⟨60,61,0,false⟩,⟨62,62,0,false⟩,⟨63,63,0,false⟩] #[.int .i64 60,.int .i64 61,.int .i64 0,.bool false,.int .i64 62,.int .i64 62,.int .i64 0,.bool false,.int .i64 63,.int .i64 63,.int .i64 0,.bool false] (Nat.le_refl _) zE5 (by rfl) (by simp[maxLen])).arr zE5 (by simp));have hl7:ms.length+3≤7:=(by omega);have hw5:w.heap.size≤w5.heap.size:=(by omega);go_must (refine zH7 Elem.map rowM zE5 rowM_one _ rfl _ _ rfl w.heap.size _ ms (by rfl) (HO5.out.allocd _) _ [⟨60,61,0,false⟩,⟨62,62,0,false⟩,⟨63,63,0,false⟩] _ (by rfl) HO6.out (by simp;omega) (by simp;omega) (by simp;omega) ?_);intro v' w6 ho6 hb6 _;have HB6:=hid hb6;clear hb6)
   |fail)
  ·go_ret
   exact⟨_,ms,q2,rfl,HO3.out,fun x hx=>(HBD.out x hx).r64,by omega,fun _=>HOK.out,by omega,h3,HT3.out⟩
  ·obtain⟨t0,t1,t2,f0,f1,f2⟩:=cellsM HO5.out k hkl;have hmb:=getD64 HBD.out hkl;obtain⟨m,hm⟩:∃m,m=ms.getD k default:=⟨_,rfl⟩
   rw[←hm]at t0 t1 t2 hmb;obtain⟨b1,b2,b3,b4,b5,b6⟩:=hmb;have HM:=hid hm;clear hm;have hgr:g≠r:=by omega
   have e1:IntKind.i64.wrap (m.to+1)=m.to+1:=by rw[IntKind.wrap_i64];omega
   have e2:IntKind.i64.wrap (m.fr - 1)=m.fr - 1:=by rw[IntKind.wrap_i64];omega
   have hg5:g<w5.heap.size:=by omega
   go_region_with (first
    |(go_at_call 103;(with_reducible refine(zC0 r B bs (q2+1+1) 3 w5.drew h5.drewd (by omega) (by omega) (by omega)).mono ?_);rintro e w6 ⟨z', rfl,z0,z1,h6,ht6⟩;have HO6:=hid (HO5.out.drewd.touch ht6 hrw);have HT6:=hid (HT5.out.drewd.trans ht6);have hs6:w5.heap.size≤w6.heap.size:=ht6.size;obtain⟨t0,t1,t2,f0,f1,f2⟩:=cellsM HO6.out k hkl;rw[←HM.out]at t0 t1 t2;obtain⟨z,rfl⟩:=Int.eq_ofNat_of_zero_le z0;have hz:z<3:=(by omega);obtain⟨y,hl1,hy⟩:=tab3 (-1) (m.to+1) 5 hz;have hl2:=zF3 hl1;clear hz;have hg6:g<w6.heap.size:=(by omega);have hzi:(z:Int)<3:=z1;clear z1)
    |(go_at_call 103;(with_reducible refine(zC0 r B bs (q2+1+1) 3 (w5.alloc _).drew (h5.alloc _).drewd (by omega) (by omega) (by omega)).mono ?_);rintro e w6 ⟨z', rfl,z0,z1,h6,ht6⟩;have HO6:=hid ((HO5.out.allocd _).drewd.touch ht6 hrw);have HT6:=hid ((HT5.out.alloc _).drewd.trans ht6);have hs6:w5.heap.size+1≤w6.heap.size:=(by have:=ht6.size;simpa using this);obtain⟨t0,t1,t2,f0,f1,f2⟩:=cellsM HO6.out k hkl;rw[←HM.out]at t0 t1 t2;obtain⟨z,rfl⟩:=Int.eq_ofNat_of_zero_le z0;have hz:z<3:=(by omega);obtain⟨y,hl1,hy⟩:=tab3 (-1) (m.to+1) 5 hz;have hl2:=zF3 hl1;clear hz;have hg6:g<w6.heap.size:=(by omega);have hzi:(z:Int)<3:=z1;clear z1;have tB:=Touch.tab ht6.ofDrew h5.lt z _ hl2))
   all_goals
    go_wp2_with fail
    go_ret
    refine⟨.slice (some ⟨g,off,none⟩) ms.length c,ms.set k ⟨y,(ms.getD k default).to,(ms.getD k default).sl,(ms.getD k default).only⟩,q2+1+1+1,rfl,?o,?m,by simp;omega,fun h9=>absurd (HB9.out h9) (by simp),by omega,?r,?t⟩
    case o=>repeat(first|with_reducible exact HO6.out|with_reducible refine Owns.drewd ?_|with_reducible refine Owns.allocd ?_ _|with_reducible refine putFr ?_ k hkl _ rfl)
    case m=>exact set64 HBD.out (by have:=HM.out;simp only[←this,MR64,I64];omega)
    case r=>repeat(first|with_reducible exact h6|with_reducible refine RdAt.drewd ?_|with_reducible refine RdAt.alloc ?_ _|with_reducible refine RdAt.setNew ?_ hrw hg1 _ _)
    case t=>repeat(first|with_reducible exact HT6.out|with_reducible refine Touch.drewd ?_|with_reducible refine Touch.alloc ?_ _|with_reducible refine Touch.setNew ?_ hg1 _)
  ·obtain⟨t0,t1,t2,f0,f1,f2⟩:=cellsM HO5.out k hkl;have hmb:=getD64 HBD.out hkl;obtain⟨m,hm⟩:∃m,m=ms.getD k default:=⟨_,rfl⟩
   rw[←hm]at t0 t1 t2 hmb;obtain⟨b1,b2,b3,b4,b5,b6⟩:=hmb;have HM:=hid hm;clear hm;have hgr:g≠r:=by omega
   have e1:IntKind.i64.wrap (m.to+1)=m.to+1:=by rw[IntKind.wrap_i64];omega
   have e2:IntKind.i64.wrap (m.fr - 1)=m.fr - 1:=by rw[IntKind.wrap_i64];omega
   have hg5:g<w5.heap.size:=by omega
   go_region_with (first
    |(go_at_call 103;(with_reducible refine(zC0 r B bs (q2+1+1) 3 w5.drew h5.drewd (by omega) (by omega) (by omega)).mono ?_);rintro e w6 ⟨z', rfl,z0,z1,h6,ht6⟩;have HO6:=hid (HO5.out.drewd.touch ht6 hrw);have HT6:=hid (HT5.out.drewd.trans ht6);have hs6:w5.heap.size≤w6.heap.size:=ht6.size;obtain⟨t0,t1,t2,f0,f1,f2⟩:=cellsM HO6.out k hkl;rw[←HM.out]at t0 t1 t2;obtain⟨z,rfl⟩:=Int.eq_ofNat_of_zero_le z0;have hz:z<3:=(by omega);obtain⟨y,hl1,hy⟩:=tab3 64 (m.fr - 1) 40 hz;have hl2:=zF3 hl1;clear hz;have hg6:g<w6.heap.size:=(by omega);have hzi:(z:Int)<3:=z1;clear z1)
    |(go_at_call 103;(with_reducible refine(zC0 r B bs (q2+1+1) 3 (w5.alloc _).drew (h5.alloc _).drewd (by omega) (by omega) (by omega)).mono ?_);rintro e w6 ⟨z', rfl,z0,z1,h6,ht6⟩;have HO6:=hid ((HO5.out.allocd _).drewd.touch ht6 hrw);have HT6:=hid ((HT5.out.alloc _).drewd.trans ht6);have hs6:w5.heap.size+1≤w6.heap.size:=(by have:=ht6.size;simpa using this);obtain⟨t0,t1,t2,f0,f1,f2⟩:=cellsM HO6.out k hkl;rw[←HM.out]at t0 t1 t2;obtain⟨z,rfl⟩:=Int.eq_ofNat_of_zero_le z0;have hz:z<3:=(by omega);obtain⟨y,hl1,hy⟩:=tab3 64 (m.fr - 1) 40 hz;have hl2:=zF3 hl1;clear hz;have hg6:g<w6.heap.size:=(by omega);have hzi:(z:Int)<3:=z1;clear z1;have tB:=Touch.tab ht6.ofDrew h5.lt z _ hl2))
   all_goals
    go_wp2_with fail
    go_ret
    refine⟨.slice (some ⟨g,off,none⟩) ms.length c,ms.set k ⟨(ms.getD k default).fr,y,(ms.getD k default).sl,(ms.getD k default).only⟩,q2+1+1+1,rfl,?o,?m,by simp;omega,fun h9=>absurd (HB9.out h9) (by simp),by omega,?r,?t⟩
    case o=>repeat(first|with_reducible exact HO6.out|with_reducible refine Owns.drewd ?_|with_reducible refine Owns.allocd ?_ _|with_reducible refine putTo ?_ k hkl _ rfl)
    case m=>exact set64 HBD.out (by have:=HM.out;simp only[←this,MR64,I64];omega)
    case r=>repeat(first|with_reducible exact h6|with_reducible refine RdAt.drewd ?_|with_reducible refine RdAt.alloc ?_ _|with_reducible refine RdAt.setNew ?_ hrw hg1 _ _)
    case t=>repeat(first|with_reducible exact HT6.out|with_reducible refine Touch.drewd ?_|with_reducible refine Touch.alloc ?_ _|with_reducible refine Touch.setNew ?_ hg1 _)
  ·go_ret
   refine⟨.slice (some ⟨g,off,none⟩) ms.length c,ms.set k ⟨(ms.getD k default).fr,(ms.getD k default).to,y,(ms.getD k default).only⟩,q2+1+1+1,rfl,?o,?m,by simp;omega,fun h9=>absurd (HB9.out h9) (by simp),by omega,?r,?t⟩
   case o=>repeat(first|with_reducible exact HO6.out|with_reducible refine Owns.drewd ?_|with_reducible refine Owns.allocd ?_ _|with_reducible refine putSl ?_ k hkl _ rfl)
   case m=>exact set64 HBD.out (by obtain⟨b1,b2,b3,b4,b5,b6⟩:=getD64 HBD.out hkl;simp only[MR64,I64];omega)
   case r=>repeat(first|with_reducible exact h6|with_reducible refine RdAt.drewd ?_|with_reducible refine RdAt.alloc ?_ _|with_reducible refine RdAt.setNew ?_ hrw hg1 _ _)
   case t=>repeat(first|with_reducible exact HT6.out|with_reducible refine Touch.drewd ?_|with_reducible refine Touch.alloc ?_ _|with_reducible refine Touch.setNew ?_ hg1 _)
  ·go_ret
   refine⟨_,_,q2+1+1,rfl,ho6,?_,by simp;omega,fun h9=>absurd (HB9.out h9) (by simp),by omega,(h5.alloc _).kept HB6.out hrw,Touch.bel (HT5.out.alloc _) HB6.out (Nat.le_refl _)⟩;intro x hx;rcases List.mem_append.1 hx with hx|hx
   ·exact(HBD.out x hx).r64
   ·simp only[List.mem_cons,List.not_mem_nil,or_false]at hx;rcases hx with rfl|rfl|rfl <;> simp[MR64,I64]
end Go.Proofs.YthnlalffjepdaaaGreat
namespace Go.Proofs.YthnlalffjepdaaaGreat
open Go.RowKit
attribute [local go_sem ↓] Go.wp_at_zero Go.wp_at_succ
theorem rep_rows (n:Nat):(List.replicate n (0:Int)).flatMap rowI=List.replicate n (Value.int .i64 0):=by rw[zF8,List.map_replicate]
theorem owns_made {w:World} {base n:Nat} {v:Value} (h:w.ownsRow base 3 1 v n (List.replicate n (Value.int .i64 0))):Owns w base 3 1 rowI v (List.replicate n (0:Int)):=by
 unfold Owns;rw[rep_rows,List.length_replicate];exact OwnR.of_row h
theorem Owns.putRow1' {w:World} {base e g off n c:Nat} {xs:List Int} (h:Owns w base e 1 rowI (.slice (some ⟨g,off,none⟩) n c) xs) (k:Nat) (hk:k<xs.length) (x:Int) {b:Nat} (hb:b=off+k):Owns (w.setCell ⟨g,b,none⟩ (.int .i64 x)) base e 1 rowI (.slice (some ⟨g,off,none⟩) n c) (xs.set k x):=by
 subst hb;exact h.putI k hk x
theorem app64I {ws:List Int} {y:Int} (h:∀x∈ws,I64 x) (hy:I64 y):∀x∈ws++[y],I64 x:=by
 intro x hx;rcases List.mem_append.1 hx with hx|hx
 ·exact h x hx
 ·simp only[List.mem_singleton]at hx;rw[hx];exact hy
theorem set64I {ws:List Int} {k:Nat} {y:Int} (h:∀x∈ws,I64 x) (hy:I64 y):∀x∈ws.set k y,I64 x:=by
 intro x hx;rcases List.mem_or_eq_of_mem_set hx with h1|h1
 ·exact h x h1
 ·rw[h1];exact hy
end Go.Proofs.YthnlalffjepdaaaGreat
namespace Go.Proofs.YthnlalffjepdaaaGreat
open Go.RowKit
attribute [local go_sem ↓] Go.wp_at_zero Go.wp_at_succ
theorem tab5 (a b c d e:Int) {n:Nat} (h:n<5):∃y:Int,([Value.int .i64 a,.int .i64 b,.int .i64 c,.int .i64 d,.int .i64 e]:List Value)[n]? = some (.int .i64 y)∧(y=a∨y=b∨y=c∨y=d∨y=e):=by
 rcases(show n=0∨n=1∨n=2∨n=3∨n=4 by omega)with rfl|rfl|rfl|rfl|rfl
 ·exact⟨a,rfl,.inl rfl⟩
 ·exact⟨b,rfl,.inr (.inl rfl)⟩
 ·exact⟨c,rfl,.inr (.inr (.inl rfl))⟩
 ·exact⟨d,rfl,.inr (.inr (.inr (.inl rfl)))⟩
 ·exact⟨e,rfl,.inr (.inr (.inr (.inr rfl)))⟩
end Go.Proofs.YthnlalffjepdaaaGreat
namespace Go.Proofs.YthnlalffjepdaaaGreat
open Go.RowKit
def QW (w:World) (g:Nat) (id kind addr many:Int) (wp:Bool) (dv lv:Value):Prop :=
 w.heap[g]? = some (.cells #[.int .i64 id,.int .i64 kind,.int .i64 addr,.int .i64 many,.bool wp,dv,lv] 69 (0,0))
theorem QW.lt {w:World} {g:Nat} {id kind addr many:Int} {wp:Bool} {dv lv:Value} (h:QW w g id kind addr many wp dv lv):g<w.heap.size:=lt_of_heap h
theorem QW.cells {w : World} {g : Nat} {id kind addr many : Int} {wp : Bool} {dv lv : Value} (h : QW w g id kind addr many wp dv lv) :
  w.cell? ⟨g,0,none⟩=some (.int .i64 id)∧w.cell? ⟨g,1,none⟩=some (.int .i64 kind)∧w.cell? ⟨g,2,none⟩=some (.int .i64 addr)∧w.cell? ⟨g,3,none⟩=some (.int .i64 many)∧w.cell? ⟨g,4,none⟩=some (.bool wp)∧w.cell? ⟨g,5,none⟩=some dv∧w.cell? ⟨g,6,none⟩=some lv:=by
 unfold QW at h;refine⟨?_,?_,?_,?_,?_,?_,?_⟩ <;> simp[World.cell?,h]
theorem QW.unfrozen {w : World} {g : Nat} {id kind addr many : Int} {wp : Bool} {dv lv : Value} (h : QW w g id kind addr many wp dv lv) :
  w.frozen? ⟨g,0,none⟩=false∧w.frozen? ⟨g,1,none⟩=false∧w.frozen? ⟨g,2,none⟩=false∧w.frozen? ⟨g,3,none⟩=false∧w.frozen? ⟨g,4,none⟩=false∧w.frozen? ⟨g,5,none⟩=false∧w.frozen? ⟨g,6,none⟩=false:=by
 unfold QW at h;refine⟨?_,?_,?_,?_,?_,?_,?_⟩ <;> simp[World.frozen?,h]
theorem QW.keep {w w':World} {g:Nat} {id kind addr many:Int} {wp:Bool} {dv lv:Value} (h:QW w g id kind addr many wp dv lv) (e:w'.heap[g]? = w.heap[g]?):QW w' g id kind addr many wp dv lv:=by
 unfold QW at h ⊢;rw[e];exact h
theorem QW.touch {w w':World} {r g:Nat} {id kind addr many:Int} {wp:Bool} {dv lv:Value} (h:QW w g id kind addr many wp dv lv) (ht:Touch r w w') (hr:g≠r):QW w' g id kind addr many wp dv lv:=h.keep (ht.block g h.lt hr)
theorem QW.below {w w':World} {C g:Nat} {id kind addr many:Int} {wp:Bool} {dv lv:Value} (h:QW w g id kind addr many wp dv lv) (hb:Below C w w') (hr:g<C):QW w' g id kind addr many wp dv lv:=h.keep (hb.block g hr)
theorem QW.alloc {w:World} {g:Nat} {id kind addr many:Int} {wp:Bool} {dv lv:Value} (h:QW w g id kind addr many wp dv lv) (o:Obj):QW (w.alloc o) g id kind addr many wp dv lv:=h.below ((Below.refl w.heap.size w).alloc (Nat.le_refl _) o) h.lt
theorem QW.drewd {w:World} {g:Nat} {id kind addr many:Int} {wp:Bool} {dv lv:Value} (h:QW w g id kind addr many wp dv lv):QW w.drew g id kind addr many wp dv lv:=h
theorem QW.setc {w:World} {g:Nat} {id kind addr many:Int} {wp:Bool} {dv lv:Value} (h:QW w g id kind addr many wp dv lv) (b o:Nat) (u:Value) (hr:g≠b):QW (w.setCell ⟨b,o,none⟩ u) g id kind addr many wp dv lv:=h.keep (Below.heap_setCell _ _ _ _ hr)
theorem QW.new (w:World) {id kind addr many:Int} {wp:Bool} {dv lv:Value}:QW (w.alloc (.cells #[.int .i64 id,.int .i64 kind,.int .i64 addr,.int .i64 many,.bool wp,dv,lv] 69)) w.heap.size id kind addr many wp dv lv:=by
 show(w.heap.push _)[w.heap.size]? = _;simp
theorem QW.set0 {w:World} {g:Nat} {id kind addr many:Int} {wp:Bool} {dv lv:Value} (h:QW w g id kind addr many wp dv lv) (x:Int):QW (w.setCell ⟨g,0,none⟩ (.int .i64 x)) g x kind addr many wp dv lv:=by
 unfold QW at h ⊢;simp[World.setCell,Array.getElem?_modify,h]
theorem QW.set1 {w:World} {g:Nat} {id kind addr many:Int} {wp:Bool} {dv lv:Value} (h:QW w g id kind addr many wp dv lv) (x:Int):QW (w.setCell ⟨g,1,none⟩ (.int .i64 x)) g id x addr many wp dv lv:=by
 unfold QW at h ⊢;simp[World.setCell,Array.getElem?_modify,h]
theorem QW.set2 {w:World} {g:Nat} {id kind addr many:Int} {wp:Bool} {dv lv:Value} (h:QW w g id kind addr many wp dv lv) (x:Int):QW (w.setCell ⟨g,2,none⟩ (.int .i64 x)) g id kind x many wp dv lv:=by
 unfold QW at h ⊢;simp[World.setCell,Array.getElem?_modify,h]
theorem QW.set3 {w:World} {g:Nat} {id kind addr many:Int} {wp:Bool} {dv lv:Value} (h:QW w g id kind addr many wp dv lv) (x:Int):QW (w.setCell ⟨g,3,none⟩ (.int .i64 x)) g id kind addr x wp dv lv:=by
 unfold QW at h ⊢;simp[World.setCell,Array.getElem?_modify,h]
theorem QW.set4 {w:World} {g:Nat} {id kind addr many:Int} {wp:Bool} {dv lv:Value} (h:QW w g id kind addr many wp dv lv) (x:Bool):QW (w.setCell ⟨g,4,none⟩ (.bool x)) g id kind addr many x dv lv:=by
 unfold QW at h ⊢;simp[World.setCell,Array.getElem?_modify,h]
theorem QW.set5 {w:World} {g:Nat} {id kind addr many:Int} {wp:Bool} {dv lv:Value} (h:QW w g id kind addr many wp dv lv) (x:Value):QW (w.setCell ⟨g,5,none⟩ x) g id kind addr many wp x lv:=by
 unfold QW at h ⊢;simp[World.setCell,Array.getElem?_modify,h]
theorem QW.set6 {w:World} {g:Nat} {id kind addr many:Int} {wp:Bool} {dv lv:Value} (h:QW w g id kind addr many wp dv lv) (x:Value):QW (w.setCell ⟨g,6,none⟩ x) g id kind addr many wp dv x:=by
 unfold QW at h ⊢;simp[World.setCell,Array.getElem?_modify,h]
theorem QW.ofNew {r:Nat} {w w':World} {id kind addr many:Int} {wp:Bool} {dv lv:Value} (ht:Touch r (w.alloc (.cells #[.int .i64 id,.int .i64 kind,.int .i64 addr,.int .i64 many,.bool wp,dv,lv] 69)) w') (hr:r<w.heap.size):QW w' w.heap.size id kind addr many wp dv lv:=(QW.new w).touch ht (by omega)
def TW (w:World) (g:Nat) (xs:Array Value):Prop:=w.heap[g]? = some (.cells xs 3 (0,0))
theorem TW.at_ {w:World} {g:Nat} {xs:Array Value} (h:TW w g xs) (i:Nat) (v:Value) (hv:xs[i]? = some v):w.cell? ⟨g,i,none⟩=some v:=by
 unfold TW at h;simp[World.cell?,h,hv]
theorem TW.touch {w w':World} {r g:Nat} {xs:Array Value} (h:TW w g xs) (ht:Touch r w w') (hr:g≠r):TW w' g xs:=by
 unfold TW at h ⊢;rw[ht.block g (lt_of_heap h) hr];exact h
theorem TW.ofNew {r:Nat} {w w':World} {xs:Array Value} (ht:Touch r (w.alloc (.cells xs 3)) w') (hr:r<w.heap.size):TW w' w.heap.size xs :=
 TW.touch (w:=w.alloc (.cells xs 3)) (by show(w.heap.push _)[w.heap.size]? = _;simp) ht (by omega)
theorem TW.alloc {w:World} {g:Nat} {xs:Array Value} (h:TW w g xs) (o:Obj):TW (w.alloc o) g xs:=by
 have hl:=lt_of_heap h;unfold TW at h ⊢;rw[((Below.refl w.heap.size w).alloc (Nat.le_refl _) o).block g hl];exact h
theorem tab4 (a b c d:Int) {n:Nat} (h:n<4):∃y:Int,([Value.int .i64 a,.int .i64 b,.int .i64 c,.int .i64 d]:List Value)[n]? = some (.int .i64 y)∧(y=a∨y=b∨y=c∨y=d):=by
 rcases(show n=0∨n=1∨n=2∨n=3 by omega)with rfl|rfl|rfl|rfl
 ·exact⟨a,rfl,.inl rfl⟩
 ·exact⟨b,rfl,.inr (.inl rfl)⟩
 ·exact⟨c,rfl,.inr (.inr (.inl rfl))⟩
 ·exact⟨d,rfl,.inr (.inr (.inr rfl))⟩
theorem zB6 (w : World) (g : Nat) (a b c d e f k : Value) (h0 : w.cell? ⟨g, 0, none⟩ = some a) (h1 : w.cell? ⟨g, 1, none⟩ = some b) (h2 : w.cell? ⟨g, 2, none⟩ = some c) (h3 : w.cell? ⟨g, 3, none⟩ = some d) (h4 : w.cell? ⟨g, 4, none⟩ = some e) (h5 : w.cell? ⟨g, 5, none⟩ = some f) (h6 : w.cell? ⟨g, 6, none⟩ = some k) :
  (loadVar 69 ⟨g,0,none⟩).run Tryz.prog w=.ok (.agg #[a,b,c,d,e,f,k]) w:=by
 simp[loadVar,go_sem,h0,h1,h2,h3,h4,h5,h6]
abbrev qz (w:World) (g:Nat):Prop:=QW w g 0 0 0 0 false (.slice none 0 0) (.slice none 0 0)
end Go.Proofs.YthnlalffjepdaaaGreat
