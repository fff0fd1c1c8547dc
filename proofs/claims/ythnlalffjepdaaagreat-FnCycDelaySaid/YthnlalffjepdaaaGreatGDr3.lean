/- One thing at once of the reference, in a copy: where nothing is written (printed by wip/gen_sdo.py). -/
import Derived.Test.YthnlalffjepdaaaGreatGAb0
import Derived.Test.YthnlalffjepdaaaGreatGDat
import Derived.Test.YthnlalffjepdaaaGreatGDo6
import Derived.Test.YthnlalffjepdaaaGreatGReq
import Derived.Deep.RegionWith
import Derived.Deep.Cut
import Derived.Deep.CutRange
import Derived.Deep.CutBlock
import Derived.Deep.RegionHeld3
import Derived.Orders
import Derived.StillTail
import Derived.Deep.MidRow
import Derived.Laws.CopyOwn
import Derived.Deep.OwnRows
import Derived.StillTailTactics
set_option linter.unusedVariables false
set_option linter.unusedSimpArgs false
namespace Go.Proofs.YthnlalffjepdaaaGreat
open Go.RowKit
def m0 (a:Bool):List MR:=[⟨0,15,0,false⟩,⟨16,31,1,false⟩,⟨32,47,2,a⟩]
def m1 (s:Int) (b:Bool):List MR:=[⟨0,7,0,false⟩,⟨8,15,1,false⟩,⟨20,40,s,false⟩,⟨41,63,2,b⟩]
theorem m0_ok (a:Bool) (k:Nat):mapOk ((m0 a).take k)=true∧∀x∈(m0 a).take k,MR64 x:=by
 have h3:∀k,k≤3→mapOk ((m0 a).take k)=true:=by
  intro k hk;have:k=0∨k=1∨k=2∨k=3:=by omega
  cases a <;> rcases this with rfl|rfl|rfl|rfl <;> decide
 refine⟨?_,fun x hx=>?_⟩
 ·by_cases hk:k≤3
  ·exact h3 k hk
  ·rw[List.take_of_length_le (by simp[m0];omega)];have:=h3 3 (by omega)
   rwa [List.take_of_length_le (by simp[m0])]at this
 ·have hx:=List.mem_of_mem_take hx;simp only[m0,List.mem_cons,List.not_mem_nil,or_false]at hx;rcases hx with rfl|rfl|rfl <;> simp[MR64,I64]
theorem m1_ok (s:Int) (b:Bool) (h0:0≤s) (h1:s<3):mapOk (m1 s b)=true∧∀x∈m1 s b,MR64 x:=by
 refine⟨?_,fun x hx=>?_⟩
 ·have:s=0∨s=1∨s=2:=by omega
  cases b <;> rcases this with rfl|rfl|rfl <;> decide
 ·simp only[m1,List.mem_cons,List.not_mem_nil,or_false]at hx;rcases hx with rfl|rfl|rfl|rfl <;> simp[MR64,I64] <;> omega
theorem rowM_len (x:MR):(rowM x).length=4:=rfl
theorem RdAt.drewd {w:World} {r B:Nat} {bs:List Nat} {p:Nat} (h:RdAt w r B bs p):RdAt w.drew r B bs p:=h.draws 1
theorem Elem.map:Elem 23 158 4 32:=elem_of Tryz.underlying23 (z:=.agg #[.int .i64 0,.int .i64 0,.int .i64 0,.bool false]) (by kernel_rfl) rfl (by omega)
theorem rowM_one (x:MR):∀u∈rowM x,u.oneCell' = true:=by
 intro u hu;simp only[rowM,List.mem_cons,List.not_mem_nil,or_false]at hu;rcases hu with rfl|rfl|rfl|rfl <;> rfl
def MBd (x:MR):Prop:=0≤x.fr∧x.fr≤63∧0≤x.to∧x.to≤63∧0≤x.sl∧x.sl≤2
theorem m0_bd (a:Bool):∀x∈m0 a,MBd x:=by
 intro x hx;simp only[m0,List.mem_cons,List.not_mem_nil,or_false]at hx;rcases hx with rfl|rfl|rfl <;> simp[MBd]
theorem m1_bd (s:Int) (b:Bool) (h0:0≤s) (h1:s<3):∀x∈m1 s b,MBd x:=by
 intro x hx;simp only[m1,List.mem_cons,List.not_mem_nil,or_false]at hx;rcases hx with rfl|rfl|rfl|rfl <;> simp[MBd] <;> omega
theorem MBd.r64 {x:MR} (h:MBd x):MR64 x:=by unfold MBd at h;unfold MR64 I64;omega
theorem set64 {ms:List MR} {k:Nat} {y:MR} (h:∀x∈ms,MBd x) (hy:MR64 y):∀x∈ms.set k y,MR64 x:=by
 intro x hx;rcases List.mem_or_eq_of_mem_set hx with h1|h1
 ·exact(h x h1).r64
 ·rw[h1];exact hy
theorem Owns.someR {α:Type} {w:World} {base e sz:Nat} {f:α→List Value} {v:Value} {xs:List α} (h:Owns w base e sz f v xs) (hn:xs.length≠0):∃g off c,v=.slice (some ⟨g,off,none⟩) xs.length c∧xs.length≤c∧c≤9223372036854775807∧base≤g∧g<w.heap.size:=by
 have hlt:=OwnR.lt h;obtain⟨hl,h2⟩:=h;rcases h2 with⟨_,h2⟩|⟨g,off,cap,cur,rfl,hg,hh,hle,hmax,hsz,hc⟩
 ·exact absurd h2 hn
 ·exact⟨g,off,cap,rfl,hle,by unfold maxLen at hmax;omega,hg,(hlt g rfl).2⟩
def MapP (r B:Nat) (bs:List Nat) (p:Nat) (n:Int) (w:World) (e:Ending) (w':World):Prop :=
 ∃v ms q,e=.returned v∧Owns w' w.heap.size 158 4 rowM v ms∧(∀x∈ms,MR64 x)∧ms.length≤7∧(9000≤n→mapOk ms=true)∧q≤p+9∧RdAt w' r B bs q∧Touch r w w'
def MapC (r B:Nat) (bs:List Nat) (p:Nat) (w:World) (v:Value) (wc:World):Prop :=
 ∃ms q,Owns wc w.heap.size 158 4 rowM v ms∧(∀x∈ms,MBd x)∧1≤ms.length∧ms.length≤4∧mapOk ms=true∧q≤p+4∧RdAt wc r B bs q∧Touch r w wc
theorem Touch.bel {r C:Nat} {w w1 w2:World} (h:Touch r w w1) (hb:Below C w1 w2) (hC:w.heap.size≤C):Touch r w w2 :=
 ⟨hb.os.trans h.os,hb.tape.trans h.tape,hb.output.trans h.output,Nat.le_trans h.size hb.size,fun k hk hr=>by rw[hb.block k (by omega)];exact h.block k hk hr⟩
theorem Touch.ofDrew {r:Nat} {w w':World} (h:Touch r w.drew w'):Touch r w w':=(Touch.refl r w).drewd.trans h
theorem RdAt.setNew {w:World} {r B C:Nat} {bs:List Nat} {p:Nat} (h:RdAt w r B bs p) (hr:r<C) {g:Nat} (hg:C≤g) (o:Nat) (v:Value):RdAt (w.setCell ⟨g,o,none⟩ v) r B bs p :=
 h.kept ((Below.refl C w).setCell (by exact hg) v) hr
theorem putFr {w : World} {base g off n c b : Nat} {ms : List MR} (h : Owns w base 158 4 rowM (.slice (some ⟨g, off, none⟩) n c) ms) (k : Nat) (hk : k < ms.length) (x : Int) (hb : b = off + k * 4) :
  Owns (w.setCell ⟨g,b,none⟩ (.int .i64 x)) base 158 4 rowM (.slice (some ⟨g,off,none⟩) n c) (ms.set k ⟨x,(ms.getD k default).to,(ms.getD k default).sl,(ms.getD k default).only⟩):=by
 subst hb;exact h.putRow rowM_len k 0 default _ _ hk (by omega) rfl
theorem putTo {w : World} {base g off n c b : Nat} {ms : List MR} (h : Owns w base 158 4 rowM (.slice (some ⟨g, off, none⟩) n c) ms) (k : Nat) (hk : k < ms.length) (x : Int) (hb : b = off + k * 4 + 1) :
  Owns (w.setCell ⟨g,b,none⟩ (.int .i64 x)) base 158 4 rowM (.slice (some ⟨g,off,none⟩) n c) (ms.set k ⟨(ms.getD k default).fr,x,(ms.getD k default).sl,(ms.getD k default).only⟩):=by
 subst hb;exact h.putRow rowM_len k 1 default _ _ hk (by omega) rfl
theorem putSl {w : World} {base g off n c b : Nat} {ms : List MR} (h : Owns w base 158 4 rowM (.slice (some ⟨g, off, none⟩) n c) ms) (k : Nat) (hk : k < ms.length) (x : Int) (hb : b = off + k * 4 + 2) :
  Owns (w.setCell ⟨g,b,none⟩ (.int .i64 x)) base 158 4 rowM (.slice (some ⟨g,off,none⟩) n c) (ms.set k ⟨(ms.getD k default).fr,(ms.getD k default).to,x,(ms.getD k default).only⟩):=by
 subst hb;exact h.putRow rowM_len k 2 default _ _ hk (by omega) rfl
theorem cellsM {w : World} {base g off n c : Nat} {ms : List MR} (h : Owns w base 158 4 rowM (.slice (some ⟨g, off, none⟩) n c) ms) (k : Nat) (hk : k < ms.length) :
  w.cell? ⟨g,off+k * 4,none⟩=some (.int .i64 (ms.getD k default).fr)∧w.cell? ⟨g,off+k * 4+1,none⟩=some (.int .i64 (ms.getD k default).to)∧w.cell? ⟨g,off+k * 4+2,none⟩=some (.int .i64 (ms.getD k default).sl)∧w.frozen? ⟨g,off+k * 4,none⟩=false∧w.frozen? ⟨g,off+k * 4+1,none⟩=false∧w.frozen? ⟨g,off+k * 4+2,none⟩=false :=
 ⟨h.cellAt rowM_len k 0 default hk (by omega),h.cellAt rowM_len k 1 default hk (by omega),h.cellAt rowM_len k 2 default hk (by omega),h.frozenAt _,h.frozenAt _,h.frozenAt _⟩
theorem tab2 (a b:Int) {n:Nat} (h:n<2):∃y:Int,([Value.int .i64 a,.int .i64 b]:List Value)[n]? = some (.int .i64 y)∧(y=a∨y=b):=by
 rcases(show n=0∨n=1 by omega)with rfl|rfl
 ·exact⟨a,rfl,.inl rfl⟩
 ·exact⟨b,rfl,.inr rfl⟩
theorem tab3 (a b c:Int) {n:Nat} (h:n<3):∃y:Int,([Value.int .i64 a,.int .i64 b,.int .i64 c]:List Value)[n]? = some (.int .i64 y)∧(y=a∨y=b∨y=c):=by
 rcases(show n=0∨n=1∨n=2 by omega)with rfl|rfl|rfl
 ·exact⟨a,rfl,.inl rfl⟩
 ·exact⟨b,rfl,.inr (.inl rfl)⟩
 ·exact⟨c,rfl,.inr (.inr rfl)⟩
theorem tab_arr {xs:List Value} {n:Nat} {v:Value} (h:xs[n]? = some v):xs.toArray[n]? = some v:=by simpa using h
theorem getD64 {ms:List MR} (h:∀x∈ms,MBd x) {k:Nat} (hk:k<ms.length):MBd (ms.getD k default):=by
 simp only[List.getD,List.getElem?_eq_getElem hk,Option.getD_some];exact h _ (List.getElem_mem hk)
set_option maxHeartbeats 8000000 in
theorem l20Map_any (r B : Nat) (bs : List Nat) (p : Nat) (n : Int) (w : World) (h0 : RdAt w r B bs p) (hp : p ≤ 1000000000) (h1 : 1 ≤ n) (hn : n ≤ 1099511627776) :
  Calls Tryz.prog 102 #[.pointer (some ⟨r,0,none⟩),.int .i64 n] w (MapP r B bs p n w):=by
 have hrw:=h0.lt
 go_enter Tryz.func102,Tryz.ntmps102
 go_upto_block 0 with (first
  |(go_at_call 103;(with_reducible refine(pick_p r B bs p 3 _ h0 (by omega) (by omega) (by omega)).mono ?_);rintro e wA ⟨x0,rfl,a0,a1,hA,htA⟩)
  |(go_at_call 103;(with_reducible refine(pick_p r B bs (p+1) 4 _ (hA.alloc _) (by omega) (by omega) (by omega)).mono ?_);rintro e wB ⟨x,rfl,b0,b1,h,htB⟩))
 have HO:=hid (show Owns wB w.heap.size 158 4 rowM (.slice (some ⟨wA.heap.size,0,none⟩) 3 3) (m0 (x0==0)) from(Owns.litOf (w:=wA) (base:=w.heap.size) (e:=158) (sz:=4) (f:=rowM) (m0 (x0==0)) _ htA.size rowM_len (by rfl) (by simp[m0,maxLen])).touch htB hrw);have HT:=hid ((htA.alloc _).trans htB);clear a0 a1 hA htA htB h0
 go_cut [5] from 16 to 34 (fun v wc=>MapC r B bs p w v wc)
 case first=>
  have hlt:=h.lt;rcases(show x=0∨x=1∨x=2∨x=3 by omega)with rfl|rfl|rfl|rfl
  ·go_wp2_with (first
    |(go_at_call 103;(with_reducible refine(pick_p r B bs (p+1+1) 3 _ h (by omega) (by omega) (by omega)).mono ?_);rintro e wC ⟨s,rfl,c0,c1,hC,htC⟩)
    |(go_at_call 103;(with_reducible refine(pick_p r B bs (p+1+1+1) 2 _ hC (by omega) (by omega) (by omega)).mono ?_);rintro e wD ⟨t,rfl,d0,d1,hD,htD⟩))
   have HT2:=hid ((HT.out.trans htC).trans htD);go_meet
   case rel=>exact⟨m1 s (t==0),_,Owns.litOf (m1 s (t==0)) _ HT2.out.size rowM_len (by rfl) (by simp[m1,maxLen]),m1_bd _ _ c0 c1,by simp[m1],by simp[m1],(m1_ok _ _ c0 c1).1,by omega,hD.alloc _,HT2.out.alloc _⟩
  ·go_wp2_with (first
    |(go_at_call 103;(with_reducible refine(pick_p r B bs (p+1+1) 3 _ h (by omega) (by omega) (by omega)).mono ?_);rintro e wC ⟨s,rfl,c0,c1,hC,htC⟩;obtain⟨k,rfl⟩:=Int.eq_ofNat_of_zero_le c0;have hk3:k≤2:=(by omega);have hkc:(0:Int)≤1+(k:Int):=(by omega);have hkd:1+(k:Int)≤3:=(by omega);have hkn:(1+(k:Int)).toNat=1+k:=(by omega)))
   have HT2:=hid (HT.out.trans htC);have HO2:=hid ((HO.out.touch htC hrw).take rowM_len (1+k) (by simp[m0];omega));go_meet
   case rel=>exact⟨(m0 (x0==0)).take (1+k),_,by simpa[hkn]using HO2.out,fun x hx=>m0_bd _ x (List.mem_of_mem_take hx),by simp[m0];try omega,by simp[m0];try omega,(m0_ok _ _).1,by omega,hC,HT2.out⟩
  ·go_wp2_with fail
   go_meet
   case rel=>exact⟨m0 (x0==0),_,HO.out,m0_bd _,by simp[m0],by simp[m0],by have:=(m0_ok (x0==0) 3).1;simpa[m0]using this,by omega,h,HT.out⟩
  ·go_wp2_with fail
   go_meet
   case rel=>exact⟨m0 (x0==0),_,HO.out,m0_bd _,by simp[m0],by simp[m0],by have:=(m0_ok (x0==0) 3).1;simpa[m0]using this,by omega,h,HT.out⟩
 case rest=>
  clear h HO HT b0 b1;obtain⟨ms,q,hown,hbd,hl1,hl4,hok,hq,hR,hT⟩:=hcut;obtain⟨g,off,c,rfl,hc1,hc2,hg1,hg2⟩:=hown.someR (by omega);have HO:=hid hown;have HBD:=hid hbd;have HOK:=hid hok;have HT:=hid hT;clear hown hbd hok hT
  go_wp2_with (first
   |(go_at_call 140;refine(odd_any r B bs q n wc hR (by omega) h1 hn).mono ?_;rintro e w3 ⟨b,q2,rfl,hb9,hq2,h3,ht3⟩;have HO3:=hid (HO.out.touch ht3 hrw);have HT3:=hid (HT.out.trans ht3);have hs3:=ht3.size;have HB9:=hid hb9;clear hb9 ht3;cases b)
   |(go_at_call 103;(with_reducible refine(pick_p r B bs q2 (ms.length:Int) _ h3 (by omega) (by omega) (by omega)).mono ?_);rintro e w4 ⟨k', rfl,k0,k1,h4,ht4⟩;obtain⟨k,rfl⟩:=Int.eq_ofNat_of_zero_le k0;have hkl:k<ms.length:=(by omega);have HO4:=hid (HO3.out.touch ht4 hrw);have HT4:=hid (HT3.out.trans ht4);have hs4:=ht4.size;clear ht4)
   |(go_at_call 103;(with_reducible refine(pick_p r B bs (q2+1) 4 _ h4 (by omega) (by omega) (by omega)).mono ?_);rintro e w5 ⟨y,rfl,y0,y1,h5,ht5⟩;have HO5:=hid (HO4.out.touch ht5 hrw);have HT5:=hid (HT4.out.trans ht5);have hs5:=ht5.size;clear ht5;rcases(show y=0∨y=1∨y=2∨y=3 by omega)with rfl|rfl|rfl|rfl)
   |(go_at_call 103;have g5:g<w5.heap.size:=(by omega);(with_reducible refine(pick_p r B bs (q2+1+1) 2 (w5.alloc _) (h5.alloc _) (by omega) (by omega) (by omega)).mono ?_);rintro e w6 ⟨z', rfl,z0,z1,h6,ht6⟩;have HO6:=hid ((HO5.out.allocd _).touch ht6 hrw);have HT6:=hid ((HT5.out.alloc _).trans ht6);have hs6:w5.heap.size+1≤w6.heap.size:=(by have:=ht6.size;simpa using this);obtain⟨t0,t1,t2,f0,f1,f2⟩:=cellsM HO6.out k hkl;obtain⟨z,rfl⟩:=Int.eq_ofNat_of_zero_le z0;have hz:z<2:=(by omega);obtain⟨y,hl1,hy⟩:=tab2 (-1) 3 hz;have hl2:=tab_arr hl1;clear hz;have hg6:g<w6.heap.size:=(by omega);have hzi:(z:Int)<2:=z1;clear z1;have tB:=Touch.tab ht6 h5.lt z _ hl2)
   |(at_builtin;have HO6:=hid ((Owns.litOf (w:=w5) (base:=w5.heap.size) (e:=158) (sz:=4) (f:=rowM) [⟨60,61,0,false⟩,⟨62,62,0,false⟩,⟨63,63,0,false⟩] #[.int .i64 60,.int .i64 61,.int .i64 0,.bool false,.int .i64 62,.int .i64 62,.int .i64 0,.bool false,.int .i64 63,.int .i64 63,.int .i64 0,.bool false] (Nat.le_refl _) rowM_len (by rfl) (by simp[maxLen])).arr rowM_len (by simp));have hl7:ms.length+3≤7:=(by omega);have hw5:w.heap.size≤w5.heap.size:=(by omega);go_must (refine wpList_cat Elem.map rowM rowM_len rowM_one _ rfl _ _ rfl w.heap.size _ ms (by rfl) (HO5.out.allocd _) _ [⟨60,61,0,false⟩,⟨62,62,0,false⟩,⟨63,63,0,false⟩] _ (by rfl) HO6.out (by simp;omega) (by simp;omega) (by simp;omega) ?_);intro v' w6 ho6 hb6 _;have HB6:=hid hb6;clear hb6)
   |fail)
  ·go_ret
   exact⟨_,ms,q2,rfl,HO3.out,fun x hx=>(HBD.out x hx).r64,by omega,fun _=>HOK.out,by omega,h3,HT3.out⟩
  ·obtain⟨t0,t1,t2,f0,f1,f2⟩:=cellsM HO5.out k hkl;have hmb:=getD64 HBD.out hkl;obtain⟨m,hm⟩:∃m,m=ms.getD k default:=⟨_,rfl⟩
   rw[←hm]at t0 t1 t2 hmb;obtain⟨b1,b2,b3,b4,b5,b6⟩:=hmb;have HM:=hid hm;clear hm;have hgr:g≠r:=by omega
   have e1:IntKind.i64.wrap (m.to+1)=m.to+1:=by rw[IntKind.wrap_i64];omega
   have e2:IntKind.i64.wrap (m.fr - 1)=m.fr - 1:=by rw[IntKind.wrap_i64];omega
   have hg5:g<w5.heap.size:=by omega
   go_region_with (first
    |(go_at_call 103;(with_reducible refine(pick_p r B bs (q2+1+1) 3 w5.drew h5.drewd (by omega) (by omega) (by omega)).mono ?_);rintro e w6 ⟨z', rfl,z0,z1,h6,ht6⟩;have HO6:=hid (HO5.out.drewd.touch ht6 hrw);have HT6:=hid (HT5.out.drewd.trans ht6);have hs6:w5.heap.size≤w6.heap.size:=ht6.size;obtain⟨t0,t1,t2,f0,f1,f2⟩:=cellsM HO6.out k hkl;rw[←HM.out]at t0 t1 t2;obtain⟨z,rfl⟩:=Int.eq_ofNat_of_zero_le z0;have hz:z<3:=(by omega);obtain⟨y,hl1,hy⟩:=tab3 (-1) (m.to+1) 5 hz;have hl2:=tab_arr hl1;clear hz;have hg6:g<w6.heap.size:=(by omega);have hzi:(z:Int)<3:=z1;clear z1)
    |(go_at_call 103;(with_reducible refine(pick_p r B bs (q2+1+1) 3 (w5.alloc _).drew (h5.alloc _).drewd (by omega) (by omega) (by omega)).mono ?_);rintro e w6 ⟨z', rfl,z0,z1,h6,ht6⟩;have HO6:=hid ((HO5.out.allocd _).drewd.touch ht6 hrw);have HT6:=hid ((HT5.out.alloc _).drewd.trans ht6);have hs6:w5.heap.size+1≤w6.heap.size:=(by have:=ht6.size;simpa using this);obtain⟨t0,t1,t2,f0,f1,f2⟩:=cellsM HO6.out k hkl;rw[←HM.out]at t0 t1 t2;obtain⟨z,rfl⟩:=Int.eq_ofNat_of_zero_le z0;have hz:z<3:=(by omega);obtain⟨y,hl1,hy⟩:=tab3 (-1) (m.to+1) 5 hz;have hl2:=tab_arr hl1;clear hz;have hg6:g<w6.heap.size:=(by omega);have hzi:(z:Int)<3:=z1;clear z1;have tB:=Touch.tab ht6.ofDrew h5.lt z _ hl2))
   all_goals
    go_wp2_with fail
    go_ret
    refine⟨.slice (some ⟨g,off,none⟩) ms.length c,ms.set k ⟨y,(ms.getD k default).to,(ms.getD k default).sl,(ms.getD k default).only⟩,q2+1+1+1,rfl,?o,?m,by simp;omega,fun h9=>absurd (HB9.out h9) (by simp),by omega,?r,?t⟩
    case o=>repeat(first|with_reducible exact HO6.out|with_reducible refine Owns.drewd ?_|with_reducible refine Owns.allocd ?_ _|with_reducible refine putFr ?_ k hkl _ rfl)
    case m=>exact set64 HBD.out (by have:=HM.out;simp only[←this,MR64,I64];omega)
    case r=>repeat(first|with_reducible exact h6|with_reducible refine RdAt.drewd ?_|with_reducible refine RdAt.alloc ?_ _|with_reducible refine RdAt.setNew ?_ hrw hg1 _ _)
    case t=>repeat(first|with_reducible exact HT6.out|with_reducible refine Touch.drewd ?_|with_reducible refine Touch.alloc ?_ _|with_reducible refine Touch.setNew ?_ hg1 _)
  ·obtain⟨t0,t1,t2,f0,f1,f2⟩:=cellsM HO5.out k hkl;have hmb:=getD64 HBD.out hkl;obtain⟨m,hm⟩:∃m,m=ms.getD k default:=⟨_,rfl⟩
   rw[←hm]at t0 t1 t2 hmb;obtain⟨b1,b2,b3,b4,b5,b6⟩:=hmb;have HM:=hid hm;clear hm;have hgr:g≠r:=by omega
   have e1:IntKind.i64.wrap (m.to+1)=m.to+1:=by rw[IntKind.wrap_i64];omega
   have e2:IntKind.i64.wrap (m.fr - 1)=m.fr - 1:=by rw[IntKind.wrap_i64];omega
   have hg5:g<w5.heap.size:=by omega
   go_region_with (first
    |(go_at_call 103;(with_reducible refine(pick_p r B bs (q2+1+1) 3 w5.drew h5.drewd (by omega) (by omega) (by omega)).mono ?_);rintro e w6 ⟨z', rfl,z0,z1,h6,ht6⟩;have HO6:=hid (HO5.out.drewd.touch ht6 hrw);have HT6:=hid (HT5.out.drewd.trans ht6);have hs6:w5.heap.size≤w6.heap.size:=ht6.size;obtain⟨t0,t1,t2,f0,f1,f2⟩:=cellsM HO6.out k hkl;rw[←HM.out]at t0 t1 t2;obtain⟨z,rfl⟩:=Int.eq_ofNat_of_zero_le z0;have hz:z<3:=(by omega);obtain⟨y,hl1,hy⟩:=tab3 64 (m.fr - 1) 40 hz;have hl2:=tab_arr hl1;clear hz;have hg6:g<w6.heap.size:=(by omega);have hzi:(z:Int)<3:=z1;clear z1)
    |(go_at_call 103;(with_reducible refine(pick_p r B bs (q2+1+1) 3 (w5.alloc _).drew (h5.alloc _).drewd (by omega) (by omega) (by omega)).mono ?_);rintro e w6 ⟨z', rfl,z0,z1,h6,ht6⟩;have HO6:=hid ((HO5.out.allocd _).drewd.touch ht6 hrw);have HT6:=hid ((HT5.out.alloc _).drewd.trans ht6);have hs6:w5.heap.size+1≤w6.heap.size:=(by have:=ht6.size;simpa using this);obtain⟨t0,t1,t2,f0,f1,f2⟩:=cellsM HO6.out k hkl;rw[←HM.out]at t0 t1 t2;obtain⟨z,rfl⟩:=Int.eq_ofNat_of_zero_le z0;have hz:z<3:=(by omega);obtain⟨y,hl1,hy⟩:=tab3 64 (m.fr - 1) 40 hz;have hl2:=tab_arr hl1;clear hz;have hg6:g<w6.heap.size:=(by omega);have hzi:(z:Int)<3:=z1;clear z1;have tB:=Touch.tab ht6.ofDrew h5.lt z _ hl2))
   all_goals
    go_wp2_with fail
    go_ret
    refine⟨.slice (some ⟨g,off,none⟩) ms.length c,ms.set k ⟨(ms.getD k default).fr,y,(ms.getD k default).sl,(ms.getD k default).only⟩,q2+1+1+1,rfl,?o,?m,by simp;omega,fun h9=>absurd (HB9.out h9) (by simp),by omega,?r,?t⟩
    case o=>repeat(first|with_reducible exact HO6.out|with_reducible refine Owns.drewd ?_|with_reducible refine Owns.allocd ?_ _|with_reducible refine putTo ?_ k hkl _ rfl)
    case m=>exact set64 HBD.out (by have:=HM.out;simp only[←this,MR64,I64];omega)
    case r=>repeat(first|with_reducible exact h6|with_reducible refine RdAt.drewd ?_|with_reducible refine RdAt.alloc ?_ _|with_reducible refine RdAt.setNew ?_ hrw hg1 _ _)
    case t=>repeat(first|with_reducible exact HT6.out|with_reducible refine Touch.drewd ?_|with_reducible refine Touch.alloc ?_ _|with_reducible refine Touch.setNew ?_ hg1 _)
  ·go_ret
   refine⟨.slice (some ⟨g,off,none⟩) ms.length c,ms.set k ⟨(ms.getD k default).fr,(ms.getD k default).to,y,(ms.getD k default).only⟩,q2+1+1+1,rfl,?o,?m,by simp;omega,fun h9=>absurd (HB9.out h9) (by simp),by omega,?r,?t⟩
   case o=>repeat(first|with_reducible exact HO6.out|with_reducible refine Owns.drewd ?_|with_reducible refine Owns.allocd ?_ _|with_reducible refine putSl ?_ k hkl _ rfl)
   case m=>exact set64 HBD.out (by obtain⟨b1,b2,b3,b4,b5,b6⟩:=getD64 HBD.out hkl;simp only[MR64,I64];omega)
   case r=>repeat(first|with_reducible exact h6|with_reducible refine RdAt.drewd ?_|with_reducible refine RdAt.alloc ?_ _|with_reducible refine RdAt.setNew ?_ hrw hg1 _ _)
   case t=>repeat(first|with_reducible exact HT6.out|with_reducible refine Touch.drewd ?_|with_reducible refine Touch.alloc ?_ _|with_reducible refine Touch.setNew ?_ hg1 _)
  ·go_ret
   refine⟨_,_,q2+1+1,rfl,ho6,?_,by simp;omega,fun h9=>absurd (HB9.out h9) (by simp),by omega,(h5.alloc _).kept HB6.out hrw,Touch.bel (HT5.out.alloc _) HB6.out (Nat.le_refl _)⟩;intro x hx;rcases List.mem_append.1 hx with hx|hx
   ·exact(HBD.out x hx).r64
   ·simp only[List.mem_cons,List.not_mem_nil,or_false]at hx;rcases hx with rfl|rfl|rfl <;> simp[MR64,I64]
end Go.Proofs.YthnlalffjepdaaaGreat
namespace Go.Proofs.YthnlalffjepdaaaGreat
open Go.RowKit
attribute [local go_sem ↓] Go.wp_at_zero Go.wp_at_succ
theorem rep_rows (n:Nat):(List.replicate n (0:Int)).flatMap rowI=List.replicate n (Value.int .i64 0):=by rw[flat_rowI,List.map_replicate]
theorem owns_made {w:World} {base n:Nat} {v:Value} (h:w.ownsRow base 3 1 v n (List.replicate n (Value.int .i64 0))):Owns w base 3 1 rowI v (List.replicate n (0:Int)):=by
 unfold Owns;rw[rep_rows,List.length_replicate];exact OwnR.of_row h
theorem Owns.putRow1' {w:World} {base e g off n c:Nat} {xs:List Int} (h:Owns w base e 1 rowI (.slice (some ⟨g,off,none⟩) n c) xs) (k:Nat) (hk:k<xs.length) (x:Int) {b:Nat} (hb:b=off+k):Owns (w.setCell ⟨g,b,none⟩ (.int .i64 x)) base e 1 rowI (.slice (some ⟨g,off,none⟩) n c) (xs.set k x):=by
 subst hb;exact h.putI k hk x
theorem app64I {ws:List Int} {y:Int} (h:∀x∈ws,I64 x) (hy:I64 y):∀x∈ws++[y],I64 x:=by
 intro x hx;rcases List.mem_append.1 hx with hx|hx
 ·exact h x hx
 ·simp only[List.mem_singleton]at hx;rw[hx];exact hy
theorem set64I {ws:List Int} {k:Nat} {y:Int} (h:∀x∈ws,I64 x) (hy:I64 y):∀x∈ws.set k y,I64 x:=by
 intro x hx;rcases List.mem_or_eq_of_mem_set hx with h1|h1
 ·exact h x h1
 ·rw[h1];exact hy
end Go.Proofs.YthnlalffjepdaaaGreat
namespace Go.Proofs.YthnlalffjepdaaaGreat
open Go.RowKit
attribute [local go_sem ↓] Go.wp_at_zero Go.wp_at_succ
def AB (w:World) (s0 gs:Nat) (a0 a1 wv hv:Value):Prop :=
 w.cell? ⟨gs,0,none⟩=some wv∧w.cell? ⟨gs,1,none⟩=some hv∧w.frozen? ⟨gs,0,none⟩=false∧w.frozen? ⟨gs,1,none⟩=false ∧
 w.cell? ⟨s0,0,none⟩=some a0∧w.cell? ⟨s0,1,none⟩=some a1∧w.frozen? ⟨s0,0,none⟩=false∧w.frozen? ⟨s0,1,none⟩=false∧gs<w.heap.size∧s0<w.heap.size
theorem AB.touch {w w':World} {r s0 gs:Nat} {a0 a1 wv hv:Value} (h:AB w s0 gs a0 a1 wv hv) (ht:Touch r w w') (h1:gs≠r) (h2:s0≠r):AB w' s0 gs a0 a1 wv hv:=by
 obtain⟨a,b,c,d,a', b', c', d', e,f⟩:=h
 exact ⟨(ht.cell (p := ⟨gs, 0, none⟩) h1 e).trans a, (ht.cell (p := ⟨gs, 1, none⟩) h1 e).trans b, (ht.frozen (p := ⟨gs, 0, none⟩) h1 e).trans c, (ht.frozen (p := ⟨gs, 1, none⟩) h1 e).trans d,
  (ht.cell (p:=⟨s0,0,none⟩) h2 f).trans a', (ht.cell (p:=⟨s0,1,none⟩) h2 f).trans b', (ht.frozen (p:=⟨s0,0,none⟩) h2 f).trans c', (ht.frozen (p:=⟨s0,1,none⟩) h2 f).trans d', Nat.lt_of_lt_of_le e ht.size,Nat.lt_of_lt_of_le f ht.size⟩
theorem AB.setc {w:World} {s0 gs:Nat} {a0 a1 wv hv:Value} (h:AB w s0 gs a0 a1 wv hv) (g o:Nat) (u:Value) (h1:gs≠g) (h2:s0≠g):AB (w.setCell ⟨g,o,none⟩ u) s0 gs a0 a1 wv hv:=h.touch (Touch.setCell g o w u) h1 h2
theorem AB.drewd {w:World} {s0 gs:Nat} {a0 a1 wv hv:Value} (h:AB w s0 gs a0 a1 wv hv):AB w.drew s0 gs a0 a1 wv hv:=h
theorem AB.below {w w':World} {s0 gs C:Nat} {a0 a1 wv hv:Value} (h:AB w s0 gs a0 a1 wv hv) (hb:Below C w w') (h1:gs<C) (h2:s0<C):AB w' s0 gs a0 a1 wv hv:=by
 obtain⟨a,b,c,d,a', b', c', d', e,f⟩:=h
 exact ⟨(hb.cell (p := ⟨gs, 0, none⟩) h1).trans a, (hb.cell (p := ⟨gs, 1, none⟩) h1).trans b, (hb.frozen (p := ⟨gs, 0, none⟩) h1).trans c, (hb.frozen (p := ⟨gs, 1, none⟩) h1).trans d,
  (hb.cell (p:=⟨s0,0,none⟩) h2).trans a', (hb.cell (p:=⟨s0,1,none⟩) h2).trans b', (hb.frozen (p:=⟨s0,0,none⟩) h2).trans c', (hb.frozen (p:=⟨s0,1,none⟩) h2).trans d', Nat.lt_of_lt_of_le e hb.size,Nat.lt_of_lt_of_le f hb.size⟩
theorem AB.alloc {w:World} {s0 gs:Nat} {a0 a1 wv hv:Value} (h:AB w s0 gs a0 a1 wv hv) (o:Obj):AB (w.alloc o) s0 gs a0 a1 wv hv:=h.below ((Below.refl w.heap.size w).alloc (Nat.le_refl _) o) h.2.2.2.2.2.2.2.2.1 h.2.2.2.2.2.2.2.2.2
theorem AB.setA {w:World} {s0 gs:Nat} {a0 a1 wv hv:Value} (h:AB w s0 gs a0 a1 wv hv) (u:Value) (hne:s0≠gs):AB (w.setCell ⟨gs,0,none⟩ u) s0 gs a0 a1 u hv:=by
 have ht:=Touch.setCell gs 0 w u;obtain⟨a,b,c,d,a', b', c', d', e,f⟩:=h;exact⟨by simp[go_sem,a],by simp[go_sem,b],by simp[go_sem,c],by simp[go_sem,d],(ht.cell (p:=⟨s0,0,none⟩) hne f).trans a', (ht.cell (p:=⟨s0,1,none⟩) hne f).trans b', (ht.frozen (p:=⟨s0,0,none⟩) hne f).trans c', (ht.frozen (p:=⟨s0,1,none⟩) hne f).trans d', by simpa[World.setCell]using e,by simpa[World.setCell]using f⟩
theorem AB.fresh {w : World} {s0 : Nat} {a0 a1 : Value} (hc : w.cell? ⟨s0, 0, none⟩ = some a0) (hd : w.cell? ⟨s0, 1, none⟩ = some a1) (hf : w.frozen? ⟨s0, 0, none⟩ = false) (hg : w.frozen? ⟨s0, 1, none⟩ = false) (hl : s0 < w.heap.size) (wv hv : Value) (T : TypeId) :
  AB (w.alloc (.cells #[wv,hv] T)) s0 w.heap.size a0 a1 wv hv:=by
 refine⟨by simp[go_sem],by simp[go_sem],by simp[go_sem],by simp[go_sem],?_,?_,?_,?_,by simp,by simp;omega⟩
 ·rw[World.cell?_alloc_past _ _ _ hl];exact hc
 ·rw[World.cell?_alloc_past _ _ _ hl];exact hd
 ·rw[World.frozen?_alloc_past _ _ _ hl];exact hf
 ·rw[World.frozen?_alloc_past _ _ _ hl];exact hg
end Go.Proofs.YthnlalffjepdaaaGreat
namespace Go.Proofs.YthnlalffjepdaaaGreat
open Go
def restOf (listed:Array Bool):List Nat:=(List.range listed.size).filter fun j=>!listed.getD j true
theorem restOf_set {listed:Array Bool} {i:Nat} (hi:listed.getD i true=false):(restOf (listed.setIfInBounds i true)).length<(restOf listed).length:=by
 have hlt:i<listed.size:=by
  rcases Nat.lt_or_ge i listed.size with h|h
  ·exact h
  ·simp[Array.getElem?_eq_none h]at hi
 have e:restOf (listed.setIfInBounds i true)=(restOf listed).filter (fun j=>j != i):=by
  unfold restOf;rw[Array.size_setIfInBounds,List.filter_filter];apply List.filter_congr;intro j hj;by_cases hij:i=j
  ·subst hij;simp[hlt]
  ·have:(j != i)=true:=by simpa using Ne.symm hij
   rw[Go.getD_set_ne true hij,this];simp
 rw[e];apply List.length_filter_lt_length_iff_exists.2;exact⟨i,by simp[restOf,hlt];simpa[hlt]using hi,by simp⟩
theorem wpAny_inv {P : Program} {md : Region.Mode} {ops : Array Oper} {Q : Exit → Act → World → Prop} (I : Array Bool → Act → World → Prop)
  (step:∀listed a w i,I listed a w→i∈Region.ready md ops listed→wpOp P ops Q i (fun a' w' => I (listed.setIfInBounds i true) a' w') a w)
  (done:∀listed a w,I listed a w→Region.ready md ops listed=[]→Q .normal a w) :
  ∀(fuel:Nat) (listed:Array Bool) (a:Act) (w:World),(restOf listed).length≤fuel→I listed a w→wpAny P md ops Q fuel listed a w
 |0,listed,a,w,hf,h=>by
  have hr:Region.ready md ops listed=[]:=by
   rcases hr:Region.ready md ops listed with _|⟨i,l⟩
   ·rfl
   ·have hi:i∈Region.ready md ops listed:=by rw[hr];simp
    have hlt:=restOf_set (mem_ready.1 hi).1;omega
  exact⟨hr,done _ _ _ h hr⟩
 |fuel+1,listed,a,w,hf,h=>by
  refine⟨fun hr=>done _ _ _ h hr,fun i hi=>?_⟩;exact wpOp_mono (fun a' w' h' => wpAny_inv I step done fuel _ a' w' (by have:=restOf_set (mem_ready.1 hi).1;omega) h') (step listed a w i h hi)
def backB (md : Region.Mode) (ops : Array Oper) : Bool := (List.range ops.size).all fun i => match ops[i]? with
 |some o=>o.after.all fun e=>!Region.binds md e || decide (e.on<i)
 |none=>true
theorem backB_spec {md:Region.Mode} {ops:Array Oper} (h:backB md ops=true) {i:Nat} {o:Oper} (ho:ops[i]? = some o):∀e∈o.after,Region.binds md e=true→e.on<i:=by
 intro e he hb;have h1:=List.all_eq_true.1 h i (List.mem_range.2 (Array.getElem?_eq_some_iff.1 ho).1);simp only[ho]at h1;have h2:=Array.all_eq_true'.1 h1 e he;simpa[hb]using h2
theorem all_done {md:Region.Mode} {ops:Array Oper} (hb:backB md ops=true) {listed:Array Bool} (hs:listed.size=ops.size) (hr:Region.ready md ops listed=[]):∀i,i<ops.size→listed.getD i false=true:=by
 intro i
 induction i using Nat.strongRecOn with
 |_ i ih=>
  intro hi;rcases hl:listed.getD i false with _|_
  ·exfalso
   have hm:i∈Region.ready md ops listed:=by
    refine mem_ready.2 ⟨getD_in (by omega) hl,ops[i],by simp[hi],fun e he hbd=>?_⟩;have hlt:=backB_spec hb (i:=i) (o:=ops[i]) (by simp[hi]) e he hbd;exact ih e.on hlt (by omega)
   rw[hr]at hm;cases hm
  ·rfl
theorem wp_region_inv {P : Program} {ops : Array Oper} {Q : Exit → Act → World → Prop} {id : Nat} {a : Act} {w : World} (I : Array Bool → Act → World → Prop) (hm : P.follows .mixedOrders = true) (hb : backB .any ops = true)
  (start:I (Array.replicate ops.size false) a { w with drawn:=w.drawn+1 })
  (step:∀listed a w i o,I listed a w→listed.size=ops.size→ops[i]? = some o→listed.getD i true=false→(∀e∈o.after,Region.binds .any e=true→listed.getD e.on false=true)→wpOp P ops Q i (fun a' w' => I (listed.setIfInBounds i true) a' w') a w)
  (done:∀listed a w,I listed a w→(∀i,i<ops.size→listed.getD i false=true)→Q .normal a w):(Code.region id ops true).wp P Q a w:=by
 refine wp_region_any hm (wpAny_inv (fun listed a w=>listed.size=ops.size∧I listed a w) ?_ ?_ _ _ _ _ ?_ ⟨by simp,start⟩)
 ·rintro listed a w i ⟨hs,h⟩ hi;obtain⟨h1,o,ho,h2⟩:=mem_ready.1 hi;exact wpOp_mono (fun a' w' h' => ⟨by simpa using hs,h'⟩) (step listed a w i o h hs ho h1 h2)
 ·rintro listed a w ⟨hs,h⟩ hr;exact done listed a w h (all_done hb hs hr)
 ·unfold restOf;refine Nat.le_trans (List.length_filter_le _ _) ?_;simp
theorem wpOp_wp {P:Program} {ops:Array Oper} {Q:Exit→Act→World→Prop} {i:Nat} {o:Oper} {K:Act→World→Prop} {a:Act} {w:World} (ho:ops[i]? = some o) (hg:o.guard=none) (h:o.wp P a w K Q):wpOp P ops Q i K a w:=by
 unfold wpOp;simp only[ho];rw[if_pos (by simp[Region.wanted,hg])];exact .inl h
end Go.Proofs.YthnlalffjepdaaaGreat
namespace Go.Proofs.YthnlalffjepdaaaGreat
open Go.RowKit
theorem crOk_any (w:World):Calls Tryz.prog 26 #[] w fun e w' => e=.returned (.bool true)∧w=w':=by
 go_enter Tryz.func26,Tryz.ntmps26
 go_wp2_with (first|(go_at_call 76;refine(implAdrOk_any _ _ _ _).mono ?_;rw[show adrOk 5 1 false=true by decide];rintro e w' ⟨rfl,rfl⟩))
 go_ret
 exact⟨rfl,rfl⟩
theorem bx1 (w:World) (o:Obj):Below w.heap.size w (w.alloc o):=(Below.refl _ _).alloc (Nat.le_refl _) _
def Rq20 (q:Rq):Prop:=q.data.length≤1048576∧q.lanes.length≤1048576
theorem at_world {P:Program} {f:FuncId} {args:Array Value} {w:World} {Q:Ending→World→Prop} (Z:World→Prop) (hZ:Z w) (h:∀W,Z W→Calls P f args W Q):Calls P f args w Q:=h w hZ
structure Bx (W:World) (H:Nat) (cs:List Value):Prop where
 c:∀j,j<cs.length→W.cell? ⟨H,j,none⟩=cs[j]?
 f:∀j,j<cs.length→W.frozen? ⟨H,j,none⟩=false
 n:0<cs.length
theorem Bx.lt {W:World} {H:Nat} {cs:List Value} (h:Bx W H cs):H<W.heap.size:=by
 have h0:=h.c 0 h.n;have hn:=h.n;rw[List.getElem?_eq_getElem hn]at h0;exact World.block_lt_of_cell? W _ h0
theorem Bx.kept {W W':World} {H:Nat} {cs:List Value} (h:Bx W H cs) (hk:W'.heap[H]? = W.heap[H]?):Bx W' H cs :=
 ⟨fun j hj=>by rw[←h.c j hj];simp only[World.cell?,hk],fun j hj=>by rw[←h.f j hj];simp only[World.frozen?,hk],h.n⟩
theorem Bx.below {W W':World} {H C:Nat} {cs:List Value} (h:Bx W H cs) (hb:Below C W W') (hH:H<C):Bx W' H cs:=h.kept (hb.block H hH)
theorem Bx.set {W:World} {H:Nat} {cs:List Value} (h:Bx W H cs) (j:Nat) (hj:j<cs.length) (u:Value):Bx (W.setCell ⟨H,j,none⟩ u) H (cs.set j u):=by
 refine⟨fun i hi=>?_,fun i hi=>?_,by simpa using h.n⟩
 ·have hi':i<cs.length:=by simpa using hi
  have hci:=h.c i hi';by_cases hij:i=j
  ·subst hij;rw[List.getElem?_set_self hj];have hs:(W.cell? ⟨H,i,none⟩).isSome:=by rw[hci];simp[hj]
   simp[go_sem,hs]
  ·rw[List.getElem?_set_ne (Ne.symm hij),←hci];simp[go_sem,hij,Ne.symm hij]
 ·have:=h.f i (by simpa using hi);simpa[go_sem]using this
theorem Bx.new (w:World) (cs:Array Value) (T:TypeId) (hn:0<cs.size):Bx (w.alloc (.cells cs T)) w.heap.size cs.toList :=
 ⟨fun j hj=>by rw[World.cell?_alloc_at _ _ _ _ rfl];simp,fun j hj=>by simp[go_sem],by simpa using hn⟩
theorem Bx.two {W:World} {H:Nat} {a b:Value} (h:Bx W H [a,b]):(W.cell? ⟨H,0,none⟩=some a∧W.cell? ⟨H,1,none⟩=some b)∧W.frozen? ⟨H,0,none⟩=false∧W.frozen? ⟨H,1,none⟩=false :=
 ⟨⟨h.c 0 (by simp),h.c 1 (by simp)⟩,h.f 0 (by simp),h.f 1 (by simp)⟩
theorem Bx.three {W:World} {H:Nat} {a b c:Value} (h:Bx W H [a,b,c]):(W.cell? ⟨H,0,none⟩=some a∧W.cell? ⟨H,1,none⟩=some b∧W.cell? ⟨H,2,none⟩=some c)∧W.frozen? ⟨H,0,none⟩=false∧W.frozen? ⟨H,1,none⟩=false∧W.frozen? ⟨H,2,none⟩=false :=
 ⟨⟨h.c 0 (by simp),h.c 1 (by simp),h.c 2 (by simp)⟩,h.f 0 (by simp),h.f 1 (by simp),h.f 2 (by simp)⟩
theorem Bx.seven {W : World} {H : Nat} {a b c d e f g : Value} (h : Bx W H [a, b, c, d, e, f, g]) :
  (W.cell? ⟨H,0,none⟩=some a∧W.cell? ⟨H,1,none⟩=some b∧W.cell? ⟨H,2,none⟩=some c∧W.cell? ⟨H,3,none⟩=some d∧W.cell? ⟨H,4,none⟩=some e∧W.cell? ⟨H,5,none⟩=some f∧W.cell? ⟨H,6,none⟩=some g) ∧
  W.frozen? ⟨H,0,none⟩=false∧W.frozen? ⟨H,1,none⟩=false∧W.frozen? ⟨H,2,none⟩=false∧W.frozen? ⟨H,3,none⟩=false∧W.frozen? ⟨H,4,none⟩=false∧W.frozen? ⟨H,5,none⟩=false∧W.frozen? ⟨H,6,none⟩=false :=
 ⟨⟨h.c 0 (by simp),h.c 1 (by simp),h.c 2 (by simp),h.c 3 (by simp),h.c 4 (by simp),h.c 5 (by simp),h.c 6 (by simp)⟩,h.f 0 (by simp),h.f 1 (by simp),h.f 2 (by simp),h.f 3 (by simp),h.f 4 (by simp),h.f 5 (by simp),h.f 6 (by simp)⟩
theorem rowM4 (r:MR):(rowM r).length=4:=rfl
theorem Owns.maps {w:World} {base:Nat} {v:Value} {ms:List MR} (h:Owns w base 158 4 rowM v ms) (hn:ms.length≤1048576) (hx:∀r∈ms,MR64 r):Maps w w.heap.size v ms:=⟨h.arr rowM4 (by omega),hx⟩
set_option maxHeartbeats 2000000 in
theorem mul16 (w:World):Calls Tryz.prog 139 #[.int .u64 1,.int .u64 6] w fun e w' => e=.returned (.tuple #[.int .u64 0,.int .u64 6])∧w=w':=by
 go_enter Tryz.func139,Tryz.ntmps139
 go_wp2
 refine bodyPost_ret (v:=.tuple #[.int .u64 0,.int .u64 6]) (by simp[results,Tryz.results139];first|rfl|decide|exact⟨by rfl,by rfl⟩) rfl ⟨rfl,rfl⟩
def repC (x:Int) (n:Nat):List Value:=List.replicate n (.int .i64 x)++List.replicate (6 - n) (.int .i64 0)
theorem repC_len (x:Int) {n:Nat} (h:n≤6):(repC x n).length=6:=by simp[repC];omega
theorem one_of {cs:List Value} (h:∀v∈cs,∃k:Int,v=.int .i64 k):∀v∈cs,v.oneCell' = true:=fun v hv=>by obtain⟨k,rfl⟩:=h v hv;rfl
def RepP (x:Int) (w:World) (e:Ending) (w':World):Prop:=e=.returned (.slice (some ⟨w.heap.size,0,none⟩) 6 6)∧Owns w' w.heap.size 3 1 rowI (.slice (some ⟨w.heap.size,0,none⟩) 6 6) (List.replicate 6 x)∧Below w.heap.size w w'
theorem infoIs:(Tryz.prog.info? 3).map (·.size)=some 1:=by kernel_rfl
theorem rep_src {w:World} {g n:Nat} {x:Int} (hh:w.heap[g]? = some (.cells (repC x n).toArray 3 (0,0))) (cs:List Value) (hcs:∀(j:Nat) (v:Value),cs[j]? = some v→(repC x n)[j]? = some v):∀(j:Nat) (v:Value),cs[j]? = some v→w.cell? ((⟨g,0,none⟩:Addr).add j)=some v:=fun j v hv=>by
 rw[Addr.add_lit,Nat.zero_add];simp only[World.cell?,hh];simpa using hcs j v hv
def repM (n:Nat):Nat:=if n=1 then 1 else 2
theorem setCells_touchX (g : Nat) : ∀ (cs : List Value) (w : World) (o : Nat), Touch g w (w.setCells g o cs)
 |[],w,_=>Touch.refl g w
 |c::cs,w,o=>(Touch.setCell g o w c).trans (setCells_touchX g cs _ (o+1))
theorem rep_copy {w : World} {g n : Nat} {x : Int} (hn : n = 1 ∨ n = 2 ∨ n = 4) (hh : w.heap[g]? = some (.cells (repC x n).toArray 3 (0, 0))) :
  ∃w2,(∀ty,(Builtin.copy_ #[24,24] ty #[.slice (some ⟨g,n,none⟩) (6 - n) (6 - n),.slice (some ⟨g,0,none⟩) n 6]).run Tryz.prog w=.ok (goInt (repM n)) w2)∧w2.heap[g]? = some (.cells (repC x (n+repM n)).toArray 3 (0,0))∧Touch g w w2:=by
 have hc:∀j,j<6→(w.cell? ⟨g,j,none⟩).isSome=true:=fun j hj=>by
  simp only[World.cell?,hh];have:j<(repC x n).length:=by rw[repC_len x (by omega)];exact hj
  simp[this]
 have hf:∀j,w.frozen? ⟨g,j,none⟩=false:=fun j=>by simp only[World.frozen?,hh];simp
 have key:∀(m:Nat),m≤n→n+m≤6→m=Nat.min n (6 - n)→repM n=m→∃w2,(∀ty,(Builtin.copy_ #[24,24] ty #[.slice (some ⟨g,n,none⟩) (6 - n) (6 - n),.slice (some ⟨g,0,none⟩) n 6]).run Tryz.prog w=.ok (goInt (repM n)) w2)∧w2=w.setCells g n (List.replicate m (.int .i64 x)):=fun m h1 h2 h3 h4=>by
  refine⟨_,fun ty=>?_,rfl⟩
  have := run_copy_cells (P := Tryz.prog) w 24 24 ty 3 g n (6 - n) (6 - n) ⟨g, 0, none⟩ n 6 (List.replicate m (.int .i64 x)) Tryz.underlying24 infoIs (by simpa using h3) (rep_src hh _ (fun j v hv => by
   have hj:=(List.getElem?_eq_some_iff.1 hv).1;simp only[List.length_replicate]at hj;rw[←hv];simp only[repC];rw[List.getElem?_append_left (by simp;omega)];simp[List.getElem?_replicate,hj,show j<n by omega])) (fun j hj=>by simp only[List.length_replicate]at hj;exact hc _ (by omega)) (fun j _=>hf _) (one_of (by intro v hv;exact⟨x,(List.mem_replicate.1 hv).2⟩))
  rw[h4];simpa using this
 rcases hn with rfl|rfl|rfl
 ·obtain⟨w2,h1,h2⟩:=key 1 (by omega) (by omega) (by decide) rfl;refine⟨w2,h1,?_,by rw[h2];exact setCells_touchX _ _ _ _⟩;rw[h2];show(w.setCell ⟨g,1,none⟩ _).heap[g]? = _;simp only[World.setCell,Array.getElem?_modify,hh]
  rfl
 ·obtain⟨w2,h1,h2⟩:=key 2 (by omega) (by omega) (by decide) rfl;refine⟨w2,h1,?_,by rw[h2];exact setCells_touchX _ _ _ _⟩;rw[h2];show((w.setCell ⟨g,2,none⟩ _).setCell ⟨g,3,none⟩ _).heap[g]? = _;simp only[World.setCell,Array.getElem?_modify,hh]
  rfl
 ·obtain⟨w2,h1,h2⟩:=key 2 (by omega) (by omega) (by decide) rfl;refine⟨w2,h1,?_,by rw[h2];exact setCells_touchX _ _ _ _⟩;rw[h2];show((w.setCell ⟨g,4,none⟩ _).setCell ⟨g,5,none⟩ _).heap[g]? = _;simp only[World.setCell,Array.getElem?_modify,hh]
  rfl
theorem sgy {l:Array Bool} {i j:Nat} (h:i≠j):(l.setIfInBounds i true).getD j false=l.getD j false:=Go.getD_set_ne false h
theorem sgiy {l:Array Bool} {i:Nat} (h:l.getD i true=false):(l.setIfInBounds i true).getD i false=true:=by
 have hlt:i<l.size:=by
  rcases Nat.lt_or_ge i l.size with h1|h1
  ·exact h1
  ·simp[Array.getElem?_eq_none h1]at h
 simp[hlt]
theorem wpOp_stepy {P : Program} {ops : Array Oper} {Q : Exit → Act → World → Prop} {i : Nat} {o : Oper} {I : Act → World → Prop} {a : Act} {w : World} (ho : ops[i]? = some o) (hg : o.guard = none)
  (h:∀K:Act→World→Prop,(∀a' w', I a' w' → K a' w')→o.wp P a w K Q):wpOp P ops Q i I a w:=wpOp_wp ho hg (h _ fun _ _ h=>h)
def ClosedY (ops:Array Oper) (listed:Array Bool):Prop:=∀i o,ops[i]? = some o→listed.getD i false=true→∀e∈o.after,Region.binds .any e=true→listed.getD e.on false=true
theorem wp_region_inv3 {P : Program} {ops : Array Oper} {Q : Exit → Act → World → Prop} {id : Nat} {a : Act} {w : World} (I : Array Bool → Act → World → Prop) (hm : P.follows .mixedOrders = true) (hb : backB .any ops = true)
  (start:I (Array.replicate ops.size false) a { w with drawn:=w.drawn+1 })
  (step:∀listed a w i o,I listed a w→listed.size=ops.size→ops[i]? = some o→listed.getD i true=false→(∀e∈o.after,Region.binds .any e=true→listed.getD e.on false=true)→ClosedY ops listed→wpOp P ops Q i (fun a' w' => I (listed.setIfInBounds i true) a' w') a w)
  (done:∀listed a w,I listed a w→(∀i,i<ops.size→listed.getD i false=true)→Q .normal a w):(Code.region id ops true).wp P Q a w:=by
 refine wp_region_inv (fun listed a w=>ClosedY ops listed∧I listed a w) hm hb ⟨fun i o _ hl=>?_,start⟩ ?_ (fun listed a w h hd=>done listed a w h.2 hd)
 ·rw[getD_replicate_false]at hl;cases hl
 ·rintro listed a w i o ⟨hc,hI⟩ hs ho hl he;refine wpOp_mono (fun a' w' h' => ⟨?_,h'⟩) (step listed a w i o hI hs ho hl he hc);intro j o' ho' hj e hem heb;have hset:∀k,listed.getD k false=true→(listed.setIfInBounds i true).getD k false=true:=fun k hk=>by
   by_cases hik:i=k
   ·subst hik;exact sgiy hl
   ·rw[sgy hik];exact hk
  by_cases hij:i=j
  ·subst hij;rw[ho]at ho';obtain rfl:=Option.some.inj ho';exact hset _ (he e hem heb)
  ·rw[sgy hij]at hj;exact hset _ (hc j o' ho' hj e hem heb)
theorem cy {l:Array Bool} {i j:Nat} {b:Bool} {P:Prop} (F:l.getD j false=b→P) (h:Nat.beq i j=false):(l.setIfInBounds i true).getD j false=b→P:=fun hj=>F (by rwa [sgy (Nat.ne_of_beq_eq_false h)]at hj)
theorem cyu {l:Array Bool} {i j k:Nat} {P:Prop} (F:l.getD j false=true→l.getD k false=false→P) (h:Nat.beq i j=false) (h2:Nat.beq i k=false):(l.setIfInBounds i true).getD j false=true→(l.setIfInBounds i true).getD k false=false→P :=
 fun hj hk=>F (by rwa [sgy (Nat.ne_of_beq_eq_false h)]at hj) (by rwa [sgy (Nat.ne_of_beq_eq_false h2)]at hk)
end Go.Proofs.YthnlalffjepdaaaGreat
namespace Go.Proofs.YthnlalffjepdaaaGreat
open Go.RowKit
attribute [local go_sem ↓] Go.wp_at_zero Go.wp_at_succ
theorem four {g n:Nat} (h:g+3<n):g<n∧g+1<n∧g+1+1<n∧g+1+1+1<n:=by omega
theorem Touch2.drewd {a b:Nat} {w w':World} (h:Touch2 a b w w'):Touch2 a b w w'.drew:=h.trans ⟨rfl,rfl,rfl,Nat.le_refl _,fun _ _ _ _=>rfl⟩
theorem Touch2.allocd {a b:Nat} {w w':World} (h:Touch2 a b w w') (o:Obj):Touch2 a b w (w'.alloc o):=h.trans (Touch2.of_below ((Below.refl _ _).alloc (Nat.le_refl _) o) (Nat.le_refl _))
theorem Touch2.bel {a b:Nat} {w w' w'':World} (h:Touch2 a b w w') (hb:Below w'.heap.size w' w''):Touch2 a b w w'':=h.trans (Touch2.of_below hb (Nat.le_refl _))
end Go.Proofs.YthnlalffjepdaaaGreat
