/- slices.Repeat at bool (printed out of Rp1's). -/
import Derived.Test.YtgkdoehkmbhfiaaGreatQKo
import Derived.Test.YtgkdoehkmbhfiaaGreatQCpy
import Derived.Test.YtgkdoehkmbhfiaaGreatQLt
import Derived.Test.YtgkdoehkmbhfiaaGreatQFl
import Derived.Test.YtgkdoehkmbhfiaaGreatQRp0
import Derived.Laws.Bits64b
import Derived.Lib.Mul64
set_option linter.unusedVariables false
set_option linter.unusedSimpArgs false
set_option maxHeartbeats 16000000
namespace Go.Proofs.YtgkdoehkmbhfiaaGreat
open Go.RowKit
theorem zI8 (w:World) (o:Obj) {k:Nat} (h:k<w.heap.size):(w.alloc o).heap[k]? = w.heap[k]?:=((Below.refl w.heap.size w).alloc (Nat.le_refl _) o).block k h
def DFreeS (V:Nat→Value) (S:Nat) (w:World) (b:Nat):Prop:=b<w.heap.size∧Free V b∧b≠S
structure CyB (w:World) (base S:Nat) (X:Nat→Prop) (st:Cy) (V:Nat→Value) (N:Nat→Nat) (C:Nat→List Value) (D:Nat→List TJV):Prop where
 raw:Raw w base V N C
 con:Cont st [] V N C D
 v19:V 19=vnil
 bs:w.heap[S]? = some (.cells #[V 0,V 1,V 2,V 3,V 4] 39 (0,0))
 fs:Free V S
 s0:base≤S
 lx:∀b,¬X b→b<w.heap.size
 dat:∀κ,κ<20→∀x∈D κ,IntsD w (fun b=>DFreeS V S w b∧X b) x.2 x.1.rsp.data
theorem IntsD.own {w:World} {P:Nat→Prop} {v:Value} {xs:List Int} (h:IntsD w P v xs) (hn:xs≠[]) {b:Nat} (hb:v.ownBlock=some b):P b:=by
 obtain⟨⟨ao,cap,rfl,h1,h2,h0,h9,h3⟩,hx⟩:=h;obtain⟨b2,off,rfl,hP,hc⟩:=h3 (by simpa using hn);simp only[Value.ownBlock,Option.some.injEq]at hb
 rwa [←hb]
theorem IntsD.more {w:World} {P Q:Nat→Prop} {v:Value} {xs:List Int} (h:IntsD w P v xs) (hq:xs≠[]→∀b,v.ownBlock=some b→P b→Q b):IntsD w Q v xs:=by
 obtain⟨⟨ao,cap,rfl,h1,h2,h0,h9,h3⟩,hx⟩:=h;refine⟨⟨ao,cap,rfl,h1,h2,h0,h9,fun hn=>?_⟩,hx⟩;obtain⟨b2,off,rfl,hP,hc⟩:=h3 hn;exact⟨b2,off,rfl,hq (by simpa using hn) b2 rfl hP,hc⟩
open Classical in
noncomputable def LX (X:Nat→Prop) (q:Nat):Nat→Value:=fun i=>if 4≤i∧(¬X (i - 4)∨i - 4=q) then .slice (some ⟨i - 4,0,none⟩) 0 0 else .int .i64 0
theorem LX_own {X:Nat→Prop} {q i b:Nat} (h:(LX X q i).ownBlock=some b):¬X b∨b=q:=by
 unfold LX at h
 split at h
 ·rename_i h2;simp only[Value.ownBlock,Option.some.injEq]at h;subst h;exact h2.2
 ·simp[Value.ownBlock]at h
theorem LX_at {X:Nat→Prop} {q b:Nat} (h:¬X b∨b=q):(LX X q (b+4)).ownBlock=some b:=by
 unfold LX;rw[if_pos ⟨by omega,by simpa using h⟩];simp[Value.ownBlock]
theorem LX_low {X:Nat→Prop} {q i:Nat} (h:i<4):LX X q i=.int .i64 0:=by unfold LX;rw[if_neg (by omega)]
theorem letsLX (X:Nat→Prop) (q:Nat) (l:Nat→Nat) {s:Nat} (hs:s<4):letsV (LX X q) l s=.int .i64 (l s:Nat):=by unfold letsV;rw[LX_low hs];split <;> simp_all
theorem lets_hi (c:Cfg) (inp:Inp) (st:Cy) {i:Nat} (hi:4≤i):lets c inp st i=0:=by
 unfold lets zL7;refine zD6 (P:=fun y:Lt=>y.lets i=0) 4 _ rfl fun s y hs hy=>?_
 unfold let1
 repeat' split
 all_goals first|exact hy|(simp only[letDo,zA0 _ _ (show i≠s by omega)];exact hy)
theorem CyB.openH {w w' : World} {base S : Nat} {X : Nat → Prop} {st : Cy} {V : Nat → Value} {N : Nat → Nat} {C : Nat → List Value} {D : Nat → List TJV} (h : CyB w base S X st V N C D) (hb : Below w.heap.size w w') {Hb q : Nat} (hH : w.heap.size ≤ Hb) (hq : w.heap.size ≤ q) (hq2 : q < w'.heap.size)
  (hbh:w'.heap[Hb]? = some (.cells #[vnil,.int .i64 0,.int .i64 0,.int .i64 0,.int .i64 0] 98 (0,0))):CyM w' base S Hb (LX X q) st [] V N C D:=by
 have hS:=zA3 h.bs;refine⟨h.raw.below hb,h.con,(hb.block S hS).trans h.bs,by rw[h.v19,LX_low (by omega),LX_low (by omega),LX_low (by omega),LX_low (by omega)];exact hbh,h.fs,fun κ hκ e=>by have:=(h.raw.lt hκ e).2;omega,by omega,h.s0,Nat.le_trans h.s0 (by omega),fun i hi b hb2=>?_,fun κ hκ x hx=>⟨?_,fun hn i hi b hb1 hb2=>?_⟩⟩
 ·rcases LX_own hb2 with h1|rfl
  ·exact Nat.lt_of_lt_of_le (h.lx b h1) hb.size
  ·exact hq2
 ·exact((h.dat κ hκ x hx).kept fun b hb2=>hb.block b hb2.1.1).weak fun b hb2=>⟨Nat.lt_of_lt_of_le hb2.1.1 hb.size,hb2.1.2.1,hb2.1.2.2,by have:=hb2.1.1;omega⟩
 ·have h1:=(h.dat κ hκ x hx).own hn hb2;rcases LX_own hb1 with h2|rfl
  ·exact h2 h1.2
  ·have:=h1.1.1;omega
theorem CyM.dropH {w : World} {base S Hb : Nat} {L : Nat → Value} {st : Cy} {ev : List Ev} {V : Nat → Value} {N : Nat → Nat} {C : Nat → List Value} {D : Nat → List TJV} (h : CyM w base S Hb L st ev V N C D) (X : Nat → Prop) (hX : ∀ b, ¬ X b → b < w.heap.size ∧ ∃ i, 4 ≤ i ∧ (L i).ownBlock = some b) :
  CyB w base S X st (upd V 19 vnil) (upd N 19 0) (upd C 19 []) D∧∀b,(V 19).ownBlock=some b→DFreeS (upd V 19 vnil) S w b:=by
 have hf:∀b,Free V b→Free (upd V 19 vnil) b:=fun b hb κ hκ=>by
  by_cases e:κ=19
  ·subst e;rw[zA1];simp[vnil,Value.ownBlock]
  ·rw[zA0 _ _ e];exact hb κ hκ
 refine⟨⟨h.raw.chg (κ:=19) (by omega) (fun _ _ _=>rfl) ⟨by simp,.inl ⟨rfl,rfl⟩⟩ (fun k hk=>by simp[vnil,Value.ownBlock]at hk),h.con.evts vnil [],zA1 _ _ _,?_,hf _ h.fs,h.s0,fun b hb=>(hX b hb).1,fun κ hκ x hx=>(h.dat κ hκ x hx).1.more fun hn b hb1 hb=>⟨⟨hb.1,hf b hb.2.1,hb.2.2.1⟩,Classical.byContradiction fun hnx=>?_⟩⟩,fun b hb=>⟨(h.raw.lt (by omega) hb).2,fun κ hκ=>?_,fun e=>h.fs 19 (by omega) (by rw[hb,e])⟩⟩
 ·simp only[zA0 V vnil (show(0:Nat)≠19 by omega),zA0 V vnil (show(1:Nat)≠19 by omega),zA0 V vnil (show(2:Nat)≠19 by omega),zA0 V vnil (show(3:Nat)≠19 by omega),zA0 V vnil (show(4:Nat)≠19 by omega)];exact h.bs
 ·obtain⟨_,i,hi,e⟩:=hX b hnx;exact(h.dat κ hκ x hx).2 hn i hi b e hb1
 ·by_cases e:κ=19
  ·subst e;rw[zA1];simp[vnil,Value.ownBlock]
  ·rw[zA0 _ _ e];exact fun hk=>h.raw.ap κ 19 hκ (by omega) e b hk hb
theorem CyM.clear {w w' : World} {base S Hb : Nat} {L : Nat → Value} {st : Cy} {ev : List Ev} {V : Nat → Value} {N : Nat → Nat} {C : Nat → List Value} {D : Nat → List TJV} (h : CyM w base S Hb L st ev V N C D) {g i : Nat} (hi : 4 ≤ i) (hg : (L i).ownBlock = some g) (hf : Free V g) (hS : g ≠ S) (hH : g ≠ Hb)
  (hk:∀b,b≠g→w'.heap[b]? = w.heap[b]?) (hz:w'.heap.size=w.heap.size):CyM w' base S Hb L st ev V N C D :=
 ⟨h.raw.kept fun b _ hb => hk b (fun e => hb (by rw [e]; exact hf)), h.con, (hk S (Ne.symm hS)).trans h.bs, (hk Hb (Ne.symm hH)).trans h.bh, h.fs, h.fh, h.ne, h.s0, h.h0, fun j hj b hb => by rw [hz]; exact h.lx j hj b hb, fun κ hκ x hx =>
  ⟨(((h.dat κ hκ x hx).1.more (Q:=fun b=>DFree V S Hb w b∧b≠g) fun hn b hb1 hb=>⟨hb,fun e=>(h.dat κ hκ x hx).2 hn i hi g hg (by rw[←e];exact hb1)⟩).kept fun b hb=>hk b hb.2).weak fun b hb=>⟨by rw[hz];exact hb.1.1,hb.1.2⟩,(h.dat κ hκ x hx).2⟩⟩
theorem CyB.keep {w w':World} {base S:Nat} {X:Nat→Prop} {st:Cy} {V:Nat→Value} {N:Nat→Nat} {C:Nat→List Value} {D:Nat→List TJV} (h:CyB w base S X st V N C D) (hk:∀b,b<w.heap.size→X b∨¬Free V b∨b=S→w'.heap[b]? = w.heap[b]?) (hz:w.heap.size≤w'.heap.size):CyB w' base S X st V N C D :=
 ⟨h.raw.kept fun b hb hf=>hk b hb (.inr (.inl hf)),h.con,h.v19,(hk S (zA3 h.bs) (.inr (.inr rfl))).trans h.bs,h.fs,h.s0,fun b hb=>Nat.lt_of_lt_of_le (h.lx b hb) hz,fun κ hκ x hx=>((h.dat κ hκ x hx).kept fun b hb=>hk b hb.1.1 (.inl hb.2)).weak fun b hb=>⟨⟨Nat.lt_of_lt_of_le hb.1.1 hz,hb.1.2⟩,hb.2⟩⟩
theorem CyB.below {w w':World} {base S:Nat} {X:Nat→Prop} {st:Cy} {V:Nat→Value} {N:Nat→Nat} {C:Nat→List Value} {D:Nat→List TJV} (h:CyB w base S X st V N C D) (hb:Below w.heap.size w w'):CyB w' base S X st V N C D:=h.keep (fun b hlt _=>hb.block b hlt) hb.size
def StepP (base S:Nat) (X:Nat→Prop) (c:Cfg) (inp:Inp) (st:Cy) (V:Nat→Value) (w:World) (e:Ending) (w':World):Prop :=
 ∃ V' N' C' D' ve, e = .returned (.agg #[ve, .int .i64 (lets c inp st 0 : Nat), .int .i64 (lets c inp st 1 : Nat), .int .i64 (lets c inp st 2 : Nat), .int .i64 (lets c inp st 3 : Nat)]) ∧
  CyB w' base S X (cyc c inp st) V' N' C' D' ∧ (∀b,DFreeS V S w b→w'.heap[b]? = w.heap[b]? ∧ DFreeS V' S w' b∧ve.ownBlock≠some b)∧Below base w w' ∧
  Owns w' base 173 3 evRow ve (evs c inp st)∧(∀b,ve.ownBlock=some b→DFreeS V' S w' b)
theorem tellAll_len (inp:Inp) (x:Cy×List Ev):(zE0 inp x).2.length≤x.2.length+3:=by
 have h0:=tell1_len inp 0 x;have h1:=tell1_len inp 1 (tell1 inp 0 x);have h2:=tell1_len inp 2 (tell1 inp 1 (tell1 inp 0 x));show(tell1 inp 2 (tell1 inp 1 (tell1 inp 0 x))).2.length≤_;omega
theorem workAll_len (c:Cfg) (inp:Inp) (x:Cy×List Ev):(zF0 c inp x).2.length≤x.2.length+4:=by
 have h0:=work1_len c inp 0 x;have h1:=work1_len c inp 1 (work1 c inp 0 x);have h2:=work1_len c inp 2 (work1 c inp 1 (work1 c inp 0 x));have h3:=work1_len c inp 3 (work1 c inp 2 (work1 c inp 1 (work1 c inp 0 x)));show(work1 c inp 3 (work1 c inp 2 (work1 c inp 1 (work1 c inp 0 x)))).2.length≤_;omega
set_option maxRecDepth 8000 in
theorem step_any {c : Cfg} (hbus : Bus c) {w : World} {base S : Nat} {X : Nat → Prop} {st : Cy} {V : Nat → Value} {N : Nat → Nat} {C : Nat → List Value} {D : Nat → List TJV} (hm : CyB w base S X st V N C D) (hg : Good c st) {inp : Inp} {v u : Value} {B : Nat} (hc : BusV w B u c) (hin : InV w B v inp) (hB : B ≤ base) :
  Calls Tryz.prog 46 #[.pointer (some ⟨S,0,none⟩),u,v] w (StepP base S X c inp st V w):=by
 have HIN:=hid hin;have HC:=hid hc;have HM:=hid hm;obtain⟨⟨ra,rc,ta,tc,sa,sc,rfl,hr1,hr2,hr3⟩,hl1,hl2,hl3⟩:=hin;obtain⟨mv,lb,lo,lc,pb,po', pc', Q,K,rfl,⟨ma,mn,mk,rfl⟩,hms,hlb,hpb', hlat,hprog,hreq⟩:=hc.opened hbus;have hS:=zA3 hm.bs;have hbw:base≤w.heap.size:=Nat.le_trans hm.s0 (Nat.le_of_lt hS);clear hr1 hr2 hr3 hl1 hl2 hl3 hms hlat hprog hreq hlb hc hm;obtain⟨w1,hw1⟩:∃W,W=(((w.alloc (.cells #[.slice ma mn mk,.slice (some ⟨lb,lo,none⟩) 4 lc,.slice (some ⟨pb,po', none⟩) 3 pc'] 27)).alloc (.cells #[.slice ra inp.ready.length rc,.slice ta inp.stall.length tc,.slice sa inp.send.length sc] 45)).alloc (.cells #[.slice none 0 0,.int .i64 0,.int .i64 0,.int .i64 0,.int .i64 0] 98)).alloc (.cells #[.slice none 0 0,.int .i64 0,.int .i64 0,.int .i64 0,.int .i64 0] 98):=⟨_,rfl⟩
 have hb1:Below w.heap.size w w1:=by rw[hw1];exact((((Below.refl _ _).alloc (Nat.le_refl _) _).alloc (by simp) _).alloc (by simp;omega) _).alloc (by simp;omega) _
 have hz1:w1.heap.size=w.heap.size+4:=by rw[hw1];simp
 have hh0:w1.heap[w.heap.size]? = some (.cells #[.slice ma mn mk,.slice (some ⟨lb,lo,none⟩) 4 lc,.slice (some ⟨pb,po', none⟩) 3 pc'] 27 (0,0)):=by
  rw[hw1,zI8 _ _ (by simp;omega),zI8 _ _ (by simp;omega),zI8 _ _ (by simp)];exact zA8 _ _ rfl
 have hh1:w1.heap[w.heap.size+1]? = some (.cells #[.slice ra inp.ready.length rc,.slice ta inp.stall.length tc,.slice sa inp.send.length sc] 45 (0,0)):=by
  rw[hw1,zI8 _ _ (by simp),zI8 _ _ (by simp)];exact zA8 _ _ (by simp)
 have hh2:w1.heap[w.heap.size+2]? = some (.cells #[.slice none 0 0,.int .i64 0,.int .i64 0,.int .i64 0,.int .i64 0] 98 (0,0)):=by
  rw[hw1,zI8 _ _ (by simp)];exact zA8 _ _ (by simp)
 have hh3:w1.heap[w.heap.size+3]? = some (.cells #[.slice none 0 0,.int .i64 0,.int .i64 0,.int .i64 0,.int .i64 0] 98 (0,0)):=by
  rw[hw1];exact zA8 _ _ (by simp)
 have hfr:∀b,w.heap.size≤b→b<w.heap.size+3→DFree V S (w.heap.size+3) w1 b:=fun b h1 h2=>⟨by omega,fun κ hκ e=>by have:=(HM.out.raw.lt hκ e).2;omega,by omega,by omega⟩
 have hm1:=HM.out.openH hb1 (Hb:=w.heap.size+3) (q:=w.heap.size+2) (by omega) (by omega) (by omega) hh3;have HM1:=hid hm1;have HI1:=hid (HIN.out.below (hb1.mono (Nat.le_trans hB hbw)));have HC1:=hid (HC.out.below (hb1.mono (Nat.le_trans hB hbw)));have HW1:=hid (show Below base w w1 from hb1.mono hbw);have H0:=hid hh0;have H1:=hid hh1;have H2:=hid hh2;have F0:=hid (hfr w.heap.size (by omega) (by omega));have F1:=hid (hfr (w.heap.size+1) (by omega) (by omega));have F2:=hid (hfr (w.heap.size+2) (by omega) (by omega));have HOLD:=hid (show ∀b,DFreeS V S w b→w1.heap[b]? = w.heap[b]? ∧ DFree V S (w.heap.size+3) w1 b from fun b hb=>⟨hb1.block b hb.1,by have:=hb.1;omega,hb.2.1,hb.2.2,by have:=hb.1;omega⟩);have hwz:w.heap.size<w1.heap.size∧w.heap.size+1<w1.heap.size:=by omega
 clear hh2 hh3 hfr hm1 hb1;have G1:=hid (good_tellAll (inp:=inp) (x:=(st,[])) hg);have G2:=hid (good_workAll hbus (inp:=inp) G1.out);have G3:=hid (good_letAll G2.out);have L1:=hid (tellAll_len inp (st,[]));have L2:=hid (workAll_len c inp (zE0 inp (st,[])));have L3:=hid (show(zE0 inp (st,[])).2.length≤500 by have h1:=L1.out;have h2:([]:List Ev).length=0:=rfl;simp only at h1;omega);have L4:=hid (show(zF0 c inp (zE0 inp (st,[]))).2.length≤500 by have h1:=L1.out;have h3:=L2.out;have h2:([]:List Ev).length=0:=rfl;simp only at h1;omega);have hgg:=hid hg;clear hg;obtain⟨i0,i1,i2⟩:w1.cell? ⟨w.heap.size+1,0,none⟩=some (.slice ra inp.ready.length rc)∧w1.cell? ⟨w.heap.size+1,1,none⟩=some (.slice ta inp.stall.length tc)∧w1.cell? ⟨w.heap.size+1,2,none⟩=some (.slice sa inp.send.length sc):=by refine⟨?_,?_,?_⟩ <;> simp[World.cell?,hh1]
 clear hh0 hh1
 go_enter Tryz.func46,Tryz.ntmps46
 go_upto_region 2 with fail
 rw[←hw1];clear hw1
 go_upto_region 3 with (first
  |(go_at_call 90;(with_reducible refine(tell_any hbus HM1.out hgg.out (by simp) HI1.out hB).mono ?_);rintro e w2 ⟨rfl,V2,N2,C2,D2,hm2,hk2,hb2⟩;have HM2:=hid hm2;have HK2:=hid hk2;have HB2:=hid hb2;clear hm2 hk2 hb2))
 have HI2:=hid (HI1.out.below (HB2.out.mono hB));have HC2:=hid (HC1.out.below (HB2.out.mono hB));clear i0 i1 i2;have hi2:w2.heap[w.heap.size+1]? = some (.cells #[.slice ra inp.ready.length rc,.slice ta inp.stall.length tc,.slice sa inp.send.length sc] 45 (0,0)):=((HK2.out _ F1.out).1).trans H1.out;obtain⟨i0,i1,i2⟩:w2.cell? ⟨w.heap.size+1,0,none⟩=some (.slice ra inp.ready.length rc)∧w2.cell? ⟨w.heap.size+1,1,none⟩=some (.slice ta inp.stall.length tc)∧w2.cell? ⟨w.heap.size+1,2,none⟩=some (.slice sa inp.send.length sc):=by refine⟨?_,?_,?_⟩ <;> simp[World.cell?,hi2]
 have hc2:BusB w2 w.heap.size ma mn mk lb lo lc pb po' pc':=((HK2.out _ F0.out).1).trans H0.out;obtain⟨b0,b1,b2,hbz2⟩:=hc2.cells;have hiz2:=zA3 hi2;clear hi2 hc2
 go_upto_region 4 with (first
  |(go_at_call 91;(with_reducible refine(work_any hbus HM2.out G1.out L3.out HC2.out HI2.out hB).mono ?_);rintro e w3 ⟨rfl,V3,N3,C3,D3,hm3,hk3,hb3⟩;have HM3:=hid hm3;have HK3:=hid hk3;have HB3:=hid hb3;clear hm3 hk3 hb3))
 have HC3:=hid (HC2.out.below (HB3.out.mono hB));have HI3:=hid (HI2.out.below (HB3.out.mono hB));have K3:=hid (HK2.out.trans HK3.out);clear b0 b1 b2 i0 i1 i2 hbz2 hiz2;have hc3:BusB w3 w.heap.size ma mn mk lb lo lc pb po' pc':=((K3.out _ F0.out).1).trans H0.out;obtain⟨b0,b1,b2,hbz3⟩:=hc3.cells;clear hc3
 go_upto_region 5 with (first
  |(go_at_call 92;(with_reducible refine(let_any hbus HM3.out G2.out HC3.out hB).mono ?_);rintro e w4 ⟨rfl,V4,N4,C4,D4,hm4,hk4,hb4⟩;have HM4:=hid hm4;have HK4:=hid hk4;have HB4:=hid hb4;clear hm4 hk4 hb4))
 have HC4:=hid (HC3.out.below (HB4.out.mono hB));have HI4:=hid (HI3.out.below (HB4.out.mono hB));have K4:=hid (K3.out.trans HK4.out);clear b0 b1 b2 hbz3;have hi4:w4.heap[w.heap.size+1]? = some (.cells #[.slice ra inp.ready.length rc,.slice ta inp.stall.length tc,.slice sa inp.send.length sc] 45 (0,0)):=((K4.out _ F1.out).1).trans H1.out;obtain⟨i0,i1,i2⟩:w4.cell? ⟨w.heap.size+1,0,none⟩=some (.slice ra inp.ready.length rc)∧w4.cell? ⟨w.heap.size+1,1,none⟩=some (.slice ta inp.stall.length tc)∧w4.cell? ⟨w.heap.size+1,2,none⟩=some (.slice sa inp.send.length sc):=by refine⟨?_,?_,?_⟩ <;> simp[World.cell?,hi4]
 have hc4:BusB w4 w.heap.size ma mn mk lb lo lc pb po' pc':=((K4.out _ F0.out).1).trans H0.out;obtain⟨b0,b1,b2,hbz4⟩:=hc4.cells;have hiz4:=zA3 hi4;clear hi4 hc4
 go_upto_region 6 with (first
  |(go_at_call 93;(with_reducible refine(ask_any hbus HM4.out G3.out L4.out HC4.out HI4.out hB).mono ?_);rintro e w5 ⟨rfl,V5,N5,C5,D5,hm5,hk5,hb5⟩;have HM5:Hid (CyM w5 base S (w.heap.size+3) (letsV (LX X (w.heap.size+2)) (lets c inp st)) (cyc c inp st) (evs c inp st) V5 N5 C5 D5):=hid hm5;have HK5:=hid hk5;have HB5:=hid hb5;clear hm5 hk5 hb5))
 have K5:=hid (K4.out.trans HK5.out);clear b0 b1 b2 i0 i1 i2 hbz4 hiz4;obtain⟨h0,h1,h2,h3,h4,hf⟩:=HM5.out.hbox;have hr5:w5.heap[w.heap.size+2]? = some (.cells #[.slice none 0 0,.int .i64 0,.int .i64 0,.int .i64 0,.int .i64 0] 98 (0,0)):=((K5.out _ F2.out).1).trans H2.out;obtain⟨r0,r1,r2,r3,r4⟩:w5.cell? ⟨w.heap.size+1+1,0,none⟩=some (.slice none 0 0)∧w5.cell? ⟨w.heap.size+1+1,1,none⟩=some (.int .i64 0)∧w5.cell? ⟨w.heap.size+1+1,2,none⟩=some (.int .i64 0)∧w5.cell? ⟨w.heap.size+1+1,3,none⟩=some (.int .i64 0)∧w5.cell? ⟨w.heap.size+1+1,4,none⟩=some (.int .i64 0):=by refine⟨?_,?_,?_,?_,?_⟩ <;> simp[World.cell?,hr5]
 have rf:∀o,w5.frozen? ⟨w.heap.size+1+1,o,none⟩=false:=fun o=>by simp[World.frozen?,hr5]
 have hrz:w.heap.size+1+1<w5.heap.size:=zA3 hr5;obtain⟨va,vc,hv5,_,_⟩:=HM5.out.oEv.shape;rw[hv5]at h0;rw[letsLX _ _ _ (by omega)]at h1 h2 h3 h4;have HV5:=hid hv5;have HR5:=hid hr5;clear hf hr5 hv5
 go_wp2_with fail
 obtain⟨w6,hw6⟩:∃W,W=((((w5.setCell ⟨w.heap.size+1+1,0,none⟩ (.slice va (evs c inp st).length vc)).setCell ⟨w.heap.size+1+1,1,none⟩ (.int .i64 (lets c inp st 0:Nat))).setCell ⟨w.heap.size+1+1,2,none⟩ (.int .i64 (lets c inp st 1:Nat))).setCell ⟨w.heap.size+1+1,3,none⟩ (.int .i64 (lets c inp st 2:Nat))).setCell ⟨w.heap.size+1+1,4,none⟩ (.int .i64 (lets c inp st 3:Nat)):=⟨_,rfl⟩
 rw[←hw6];have h6:w6.heap[w.heap.size+1+1]? = some (.cells #[.slice va (evs c inp st).length vc,.int .i64 (lets c inp st 0:Nat),.int .i64 (lets c inp st 1:Nat),.int .i64 (lets c inp st 2:Nat),.int .i64 (lets c inp st 3:Nat)] 98 (0,0)):=by
  have:=HR5.out;rw[hw6];simp[World.setCell,Array.getElem?_modify,this]
 have hk6:∀b,b≠w.heap.size+2→w6.heap[b]? = w5.heap[b]?:=fun b hb=>by
  rw[hw6,Below.heap_setCell _ _ _ _ hb,Below.heap_setCell _ _ _ _ hb,Below.heap_setCell _ _ _ _ hb,Below.heap_setCell _ _ _ _ hb,Below.heap_setCell _ _ _ _ hb]
 have hz6:w6.heap.size=w5.heap.size:=by rw[hw6];simp
 have hb6:Below base w5 w6:=by
  rw[hw6];have hb:base≤w.heap.size+1+1:=by omega
  exact(((((Below.refl _ _).setCell (p:=⟨w.heap.size+1+1,_,none⟩) hb _).setCell (p:=⟨w.heap.size+1+1,_,none⟩) hb _).setCell (p:=⟨w.heap.size+1+1,_,none⟩) hb _).setCell (p:=⟨w.heap.size+1+1,_,none⟩) hb _).setCell (p:=⟨w.heap.size+1+1,_,none⟩) hb _
 have FR:=hid (K5.out _ F2.out).2;have hm6:CyM w6 base S (w.heap.size+3) (letsV (LX X (w.heap.size+2)) (lets c inp st)) (cyc c inp st) (evs c inp st) V5 N5 C5 D5:=by
  refine HM5.out.clear (g:=w.heap.size+2) (i:=w.heap.size+2+4) (by omega) ?_ FR.out.2.1 FR.out.2.2.1 FR.out.2.2.2 hk6 hz6;unfold letsV;rw[if_pos (lets_hi _ _ _ (by omega))];exact LX_at (.inr rfl)
 obtain⟨c60,c61,c62,c63,c64⟩:w6.cell? ⟨w.heap.size+1+1,0,none⟩=some (.slice va (evs c inp st).length vc)∧w6.cell? ⟨w.heap.size+1+1,1,none⟩=some (.int .i64 (lets c inp st 0:Nat))∧w6.cell? ⟨w.heap.size+1+1,2,none⟩=some (.int .i64 (lets c inp st 1:Nat))∧w6.cell? ⟨w.heap.size+1+1,3,none⟩=some (.int .i64 (lets c inp st 2:Nat))∧w6.cell? ⟨w.heap.size+1+1,4,none⟩=some (.int .i64 (lets c inp st 3:Nat)):=by refine⟨?_,?_,?_,?_,?_⟩ <;> simp[World.cell?,h6]
 have hzz:w.heap.size≤w6.heap.size:=by
  rw[hz6];exact Nat.le_trans (show w.heap.size≤w1.heap.size by omega) (Nat.le_trans HB2.out.size (Nat.le_trans HB3.out.size (Nat.le_trans HB4.out.size HB5.out.size)))
 obtain ⟨hd1, hd2⟩ := hm6.dropH X fun b hb => ⟨Nat.lt_of_lt_of_le (HM.out.lx b hb) hzz, b + 4, by omega, by
  unfold letsV;rw[if_pos (lets_hi _ _ _ (by omega))];exact LX_at (.inl hb)⟩
 have hev:=hm6.oEv;rw[HV5.out]at hev hd2;refine bodyPost_end (v:=.agg #[.slice va (evs c inp st).length vc,.int .i64 (lets c inp st 0:Nat),.int .i64 (lets c inp st 1:Nat),.int .i64 (lets c inp st 2:Nat),.int .i64 (lets c inp st 3:Nat)]) (by simp[results,Tryz.results46,go_sem,c60,c61,c62,c63,c64]) rfl ⟨_,_,_,_,_,rfl,hd1,?_,((((HW1.out.trans HB2.out).trans HB3.out).trans HB4.out).trans HB5.out).trans hb6,hev,hd2⟩;intro b hb;obtain⟨o1,o2⟩:=HOLD.out b hb;obtain⟨q1,q2⟩:=K5.out b o2;have hne:b≠w.heap.size+2:=by have:=hb.1;omega
 refine⟨((hk6 b hne).trans q1).trans o1,⟨by rw[hz6];exact q2.1,fun κ hκ=>?_,hb.2.2⟩,by rw[←HV5.out];exact q2.2.1 19 (by omega)⟩;by_cases e:κ=19
 ·subst e;rw[zA1];simp[vnil,Value.ownBlock]
 ·rw[zA0 _ _ e];exact q2.2.1 κ hκ
end Go.Proofs.YtgkdoehkmbhfiaaGreat
namespace Go.Proofs.YtgkdoehkmbhfiaaGreat
open Go.RowKit
theorem wordOk_i64 {x:Int} (h:zB1 x=true):I64 x:=by
 simp only[zB1,inB,Bool.and_eq_true,decide_eq_true_eq]at h
 constructor <;> omega
theorem atm_i64 {ws hs:List Int} (h:atmOk ws hs=true):(∀x∈ws,I64 x)∧∀x∈hs,I64 x:=by
 simp only[atmOk,memOk,Bool.and_eq_true,beq_iff_eq,List.all_eq_true]at h;refine⟨fun x hx=>wordOk_i64 (h.1.1.2 x hx),fun x hx=>?_⟩;have:=h.2 x hx;simp only[inB,Bool.and_eq_true,decide_eq_true_eq]at this
 constructor <;> omega
theorem cyV_raw {w : World} {base : Nat} {st : Cy} {ev : List Ev} {V : Nat → Value} {N : Nat → Nat} {C : Nat → List Value} {D : Nat → List TJV} (hr : Raw w base V N C) (hc : Cont st ev V N C D) (hd : ∀ κ, κ < 20 → ∀ x ∈ D κ, Ints w w.heap.size x.2 x.1.rsp.data) (hsm : SmallC st) (hws : ∀ x ∈ st.ws, I64 x) (hhs : ∀ x ∈ st.hs, I64 x) :
  ∃P Q,CyV w w.heap.size (V 0) (V 1) (V 2) (V 3) (V 4) st P Q:=by
 have hS:∃(A:Nat→Option Addr) (K:Nat→Nat),∀κ,κ<20→V κ=.slice (A κ) (N κ) (K κ):=by
  have:∀κ,∃(a:Option Addr) (k:Nat),κ<20→V κ=.slice a (N κ) k:=fun κ=>by
   by_cases h:κ<20
   ·obtain⟨a,k,e,_⟩:=(hr.own κ h).form;exact⟨a,k,fun _=>e⟩
   ·exact⟨none,0,fun h2=>absurd h2 h⟩
  exact⟨fun κ=>(this κ).choose,fun κ=>(this κ).choose_spec.choose,fun κ hκ=>(this κ).choose_spec.choose_spec hκ⟩
 obtain⟨A,K,hS⟩:=hS;have gP:∀i,i<3→((List.range 3).map fun i=>(⟨(st.ports i).next,(A (5+i),N (5+i),K (5+i)),(A (8+i),N (8+i),K (8+i)),(st.ports i).last⟩:PS)).getD i default=⟨(st.ports i).next,(A (5+i),N (5+i),K (5+i)),(A (8+i),N (8+i),K (8+i)),(st.ports i).last⟩:=fun i hi=>by simp[List.getD,hi]
 have gQ:∀i,i<4→((List.range 4).map fun i=>(⟨(A (11+i),N (11+i),K (11+i)),(A (15+i),N (15+i),K (15+i)),(st.slaves i).last⟩:SS)).getD i default=⟨(A (11+i),N (11+i),K (11+i)),(A (15+i),N (15+i),K (15+i)),(st.slaves i).last⟩:=fun i hi=>by simp[List.getD,hi]
 refine⟨(List.range 3).map fun i=>⟨(st.ports i).next,(A (5+i),N (5+i),K (5+i)),(A (8+i),N (8+i),K (8+i)),(st.ports i).last⟩,(List.range 4).map fun i=>⟨(A (11+i),N (11+i),K (11+i)),(A (15+i),N (15+i),K (15+i)),(st.slaves i).last⟩,?_,?_,?_,?_,?_,by simp,by simp,fun i hi=>?_,fun i hi=>?_,fun i hi=>?_,fun i hi=>?_,fun i hi=>?_,fun i hi=>?_⟩
 ·have h:=hr.own 0 (by omega);rw[hc.n0,hc.c0]at h;exact Owns.ints (e:=3) (base:=base) h (by have:=hsm.ws;omega) hws
 ·have h:=hr.own 1 (by omega);rw[hc.n1,hc.c1]at h;exact Owns.ints (e:=3) (base:=base) h (by have:=hsm.hs;omega) hhs
 ·have h:=hr.own 2 (by omega);rw[hc.n2]at h;refine OwnR.arr (sz:=4) h (by simp) (by omega) fun t ht j hj=>?_
  rw[hc.c2];have e:∀i,i<3→ptRow V (st.ports i) i=rowPS ⟨(st.ports i).next,(A (5+i),N (5+i),K (5+i)),(A (8+i),N (8+i),K (8+i)),(st.ports i).last⟩:=fun i hi=>by
   simp only[ptRow,rowPS,sl,hS (5+i) (by omega),hS (8+i) (by omega)]
  rw[e 0 (by omega),e 1 (by omega),e 2 (by omega)];rcases(show t=0∨t=1∨t=2 by omega)with rfl|rfl|rfl <;> rcases(show j=0∨j=1∨j=2∨j=3 by omega)with rfl|rfl|rfl|rfl <;> simp[rowPS,List.range_succ]
 ·have h:=hr.own 3 (by omega);rw[hc.n3]at h;refine OwnR.arr (sz:=3) h (by simp) (by omega) fun t ht j hj=>?_
  rw[hc.c3];have e:∀i,i<4→svRow V (st.slaves i) i=rowSS ⟨(A (11+i),N (11+i),K (11+i)),(A (15+i),N (15+i),K (15+i)),(st.slaves i).last⟩:=fun i hi=>by
   simp only[svRow,rowSS,sl,hS (11+i) (by omega),hS (15+i) (by omega)]
  rw[e 0 (by omega),e 1 (by omega),e 2 (by omega),e 3 (by omega)];rcases(show t=0∨t=1∨t=2∨t=3 by omega)with rfl|rfl|rfl|rfl <;> rcases(show j=0∨j=1∨j=2 by omega)with rfl|rfl|rfl <;> simp[rowSS,List.range_succ]
 ·have h:=hr.own 4 (by omega);have hl:(D 4).length=st.told.length:=by rw[←hc.t4,List.length_map]
  rw[hc.n4,hc.c4,←hl]at h;exact⟨D 4,Owns.arr (f:=tjRow) (e:=65) (base:=base) h (fun _=>rfl) (by have:=hsm.told.1;omega),hc.t4,hd 4 (by omega)⟩
 ·rw[gP i hi];exact⟨rfl,rfl⟩
 ·rw[gP i hi];have h:=hr.own (5+i) (by omega);rw[(ety_q hi).1,(ety_q hi).2,hc.nq i hi,hc.cq i hi]at h;have e:=hS (5+i) (by omega);show Nats w w.heap.size (.slice (A (5+i)) (N (5+i)) (K (5+i))) _;rw[←e];exact Owns.arr (f:=rowN) (e:=3) (base:=base) h (fun _=>rfl) (by have:=hsm.q i hi;omega)
 ·rw[gP i hi];have h:=hr.own (8+i) (by omega);rw[(ety_o hi).1,(ety_o hi).2,hc.no i hi,hc.co i hi]at h;have e:=hS (8+i) (by omega);show Jbs w w.heap.size (.slice (A (8+i)) (N (8+i)) (K (8+i))) _;rw[←e];exact Owns.arr (f:=jbRow) (e:=101) (base:=base) h (fun _=>rfl) (by have:=hsm.o i hi;omega)
 ·rw[gQ i hi]
 ·rw[gQ i hi];have h:=hr.own (11+i) (by omega);rw[(ety_p hi).1,(ety_p hi).2,hc.np i hi,hc.cp i hi]at h;have e:=hS (11+i) (by omega);show Jbs w w.heap.size (.slice (A (11+i)) (N (11+i)) (K (11+i))) _;rw[←e];exact Owns.arr (f:=jbRow) (e:=101) (base:=base) h (fun _=>rfl) (by have:=hsm.p i hi;omega)
 ·rw[gQ i hi];have h:=hr.own (15+i) (by omega);have hl:(D (15+i)).length=(st.slaves i).done.length:=by rw[←hc.td i hi,List.length_map]
  rw[(ety_d hi).1,(ety_d hi).2,hc.nd i hi,hc.cd i hi,←hl]at h;have e:=hS (15+i) (by omega);show JobsV w w.heap.size (.slice (A (15+i)) (N (15+i)) (K (15+i))) _;rw[←e];exact⟨D (15+i),Owns.arr (f:=tjRow) (e:=65) (base:=base) h (fun _=>rfl) (by have:=(hsm.d i hi).1;omega),hc.td i hi,hd (15+i) (by omega)⟩
theorem CyR.toV {c:Cfg} (hb:Bus c) {w:World} {base:Nat} {st:Cy} {V:Nat→Value} {N:Nat→Nat} {C:Nat→List Value} {D:Nat→List TJV} (h:CyR w base st V N C D) (hg:Good c st):∃P Q,CyV w w.heap.size (V 0) (V 1) (V 2) (V 3) (V 4) st P Q :=
 cyV_raw h.raw h.con (fun κ hκ x hx=>(h.dat κ hκ x hx).to fun b hb=>hb.2.1) (zJ0 hb hg) (atm_i64 hg.atm).1 (atm_i64 hg.atm).2
theorem CyB.toV {c:Cfg} (hb:Bus c) {w:World} {base S:Nat} {X:Nat→Prop} {st:Cy} {V:Nat→Value} {N:Nat→Nat} {C:Nat→List Value} {D:Nat→List TJV} (h:CyB w base S X st V N C D) (hg:Good c st):∃P Q,CyV w w.heap.size (V 0) (V 1) (V 2) (V 3) (V 4) st P Q :=
 cyV_raw h.raw h.con (fun κ hκ x hx=>(h.dat κ hκ x hx).to fun b hb=>hb.1.1) (zJ0 hb hg) (atm_i64 hg.atm).1 (atm_i64 hg.atm).2
theorem CyR.box {w w':World} {base S:Nat} {st:Cy} {V:Nat→Value} {N:Nat→Nat} {C:Nat→List Value} {D:Nat→List TJV} (h:CyR w base st V N C D) (hb:Below w.heap.size w w') (hS:w.heap.size≤S) (hs:w'.heap[S]? = some (.cells #[V 0,V 1,V 2,V 3,V 4] 39 (0,0))) (hbase:base≤w.heap.size):CyB w' base S (fun b=>base≤b) st V N C D:=by
 have h2:=h.below hb;refine⟨h2.raw,h2.con,h2.v19,hs,fun κ hκ e=>by have:=(h.raw.lt hκ e).2;omega,by omega,fun b hb2=>by have:=hb.size;omega,fun κ hκ x hx=>?_⟩;exact((h.dat κ hκ x hx).kept fun b hb2=>hb.block b hb2.2.1).weak fun b hb2=>⟨⟨Nat.lt_of_lt_of_le hb2.2.1 hb.size,hb2.2.2,by have:=hb2.2.1;omega⟩,hb2.1⟩
theorem CyB.cells {w:World} {base S:Nat} {X:Nat→Prop} {st:Cy} {V:Nat→Value} {N:Nat→Nat} {C:Nat→List Value} {D:Nat→List TJV} (h:CyB w base S X st V N C D):w.cell? ⟨S,0,none⟩=some (V 0)∧w.cell? ⟨S,1,none⟩=some (V 1)∧w.cell? ⟨S,2,none⟩=some (V 2)∧w.cell? ⟨S,3,none⟩=some (V 3)∧w.cell? ⟨S,4,none⟩=some (V 4)∧S<w.heap.size:=by
 refine⟨?_,?_,?_,?_,?_,zA3 h.bs⟩ <;> simp[World.cell?,h.bs]
instance:Inhabited Inp:=⟨⟨[],[],[]⟩⟩
def Ins (w:World) (B:Nat) (v:Value) (ins:List Inp):Prop:=ArrV InV w B 3 v ins
theorem Ins.below {w w':World} {B:Nat} {v:Value} {ins:List Inp} (h:Ins w B v ins) (hb:Below B w w'):Ins w' B v ins:=ArrV.below h hb fun _ _ h=>h.below hb
theorem Ins.mono {w:World} {B B':Nat} {v:Value} {ins:List Inp} (h:Ins w B v ins) (hb:B≤B'):Ins w B' v ins:=ArrV.mono h hb fun _ _ h=>h.mono hb
theorem Ins.opened {w : World} {B : Nat} {v : Value} {ins : List Inp} (h : Ins w B v ins) :
  ∃ ao cap, v = .slice ao ins.length cap ∧ ins.length ≤ cap ∧ cap ≤ 9223372036854775807 ∧ ins.length ≤ 140737488351232 ∧ (ao = none → cap = 0) ∧
   (ins.length ≠ 0 → ∃ b off, ao = some ⟨b, off, none⟩ ∧ b < B ∧ ∀ t, t < ins.length → ∃ ra rc ta tc sa sc, InV w B (.agg #[.slice ra 3 rc, .slice ta 4 tc, .slice sa 3 sc]) (ins.getD t default) ∧
    w.cell? ⟨b,off+t * 3,none⟩=some (.slice ra 3 rc)∧w.cell? ⟨b,off+t * 3+1,none⟩=some (.slice ta 4 tc)∧w.cell? ⟨b,off+t * 3+2,none⟩=some (.slice sa 3 sc)):=by
 obtain⟨ao,cap,rfl,h1,h2,h0,h9⟩:=ArrV.shape h;refine⟨ao,cap,rfl,h1,h2,h0,h9,fun hn=>?_⟩;obtain⟨b,off,ha,hlt,hc⟩:=ArrV.at h hn;refine⟨b,off,ha,hlt,fun t ht=>?_⟩;obtain⟨u,hu,hcell⟩:=hc t ht;have hu':=hu default;have hu2:=hu';obtain⟨⟨ra,rc,ta,tc,sa,sc,rfl,k1,k2,k3⟩,l1,l2,l3⟩:=hu';rw[l1,l2,l3]at hu2 hcell;refine⟨_,_,_,_,_,_,hu2,?_,?_,?_⟩
 ·have:=hcell 0 (by omega);simpa[Value.cells]using this
 ·have:=hcell 1 (by omega);simpa[Value.cells]using this
 ·have:=hcell 2 (by omega);simpa[Value.cells]using this
theorem InV.three {w:World} {B:Nat} {v:Value} {inp:Inp} (h:InV w B v inp):∃ra rc ta tc sa sc,v=.agg #[.slice ra 3 rc,.slice ta 4 tc,.slice sa 3 sc]:=by
 obtain⟨⟨ra,rc,ta,tc,sa,sc,rfl,k1,k2,k3⟩,l1,l2,l3⟩:=h;rw[l1,l2,l3];exact⟨_,_,_,_,_,_,rfl⟩
theorem inOk_any {w:World} (ra ta sa:Option Addr) (rc tc sc:Nat):Calls Tryz.prog 38 #[.agg #[.slice ra 3 rc,.slice ta 4 tc,.slice sa 3 sc]] w fun e w' => e=.returned (.bool true)∧Below w.heap.size w w':=by
 go_enter Tryz.func38,Tryz.ntmps38
 go_wp2_with fail
 go_ret
 exact⟨rfl,(Below.refl _ _).alloc (Nat.le_refl _) _⟩
theorem runsIn_any {w:World} (ra ta sa:Option Addr) (rc tc sc:Nat):Calls Tryz.prog 118 #[.agg #[.slice ra 3 rc,.slice ta 4 tc,.slice sa 3 sc]] w fun e w' => e=.returned (.bool false)∧Below w.heap.size w w':=by
 go_enter Tryz.func118,Tryz.ntmps118
 go_wp2_with (go_at_call 38;go_loud ((with_reducible refine(inOk_any _ _ _ _ _ _).mono ?_));rintro e w1 ⟨rfl,hb1⟩)
 go_ret
 exact⟨rfl,((Below.refl _ _).alloc (Nat.le_refl _) _).trans (hb1.mono (by simp))⟩
theorem idxIn_any (K : FuncId) (cap : Array Value) (hK : zE4 K) (v : Value) (rs : List Inp) (B : Nat) (w : World) (hv : Ins w B v rs) (hB : B ≤ w.heap.size)
  (hf:∀(ra ta sa:Option Addr) (rc tc sc:Nat) (w1:World),Calls Tryz.prog K (#[.agg #[.slice ra 3 rc,.slice ta 4 tc,.slice sa 3 sc]]++cap) w1 fun e w' => e=.returned (.bool false)∧Below w1.heap.size w1 w') :
  Calls Tryz.prog 160 #[v,.func (.func K) #[] cap] w fun e w' => e=.returned (.int .i64 (-1))∧Below w.heap.size w w':=by
 obtain⟨ao,cap', rfl,hlc,hcap,hln,hni,hr⟩:=hv.opened;have HF:=hid hf;clear hf hv;have hK2:=fun args w=>hK args w
 go_enter Tryz.func160,Tryz.ntmps160
 go_wp2_with fail
 go_loopw [8] (fun i wr=>∃k:Nat,k≤rs.length∧i=.int .i64 k∧Below w.heap.size w wr) (fun i _=>rs.length - (intOf i).toNat)
 case atStart=>exact⟨0,Nat.zero_le _,rfl,Below.refl _ _⟩
 case round=>
  obtain⟨k,hk,rfl,hbl⟩:=hrel;by_cases hlt:k<rs.length
  ·obtain⟨b,off,rfl,hb,hc⟩:=hr (by omega);obtain⟨ra,rc,ta,tc,sa,sc,_,c0,c1,c2⟩:=hc k hlt;rw[←hbl.cell (p:=⟨b,_,none⟩) (Nat.lt_of_lt_of_le hb hB)]at c0 c1 c2;clear hc hr
   go_wp2_with fail
   refine(HF.out ra ta sa rc tc sc _).mono ?_;rintro e w' ⟨rfl,hb'⟩;have hsz:=hbl.size;have HB:=hid (hbl.trans (hb'.mono hsz));clear hbl
   go_wp2_with fail
   go_roundw
   case rel=>exact⟨k+1,by omega,by go_num,HB.out⟩
   case measure=>simp[intOf];omega
  ·go_wp2_with fail
   go_ret
   exact⟨rfl,hbl⟩
theorem hasIn_any (K : FuncId) (cap : Array Value) (hK : zE4 K) (v : Value) (rs : List Inp) (B : Nat) (w : World) (hv : Ins w B v rs) (hB : B ≤ w.heap.size)
  (hf:∀(ra ta sa:Option Addr) (rc tc sc:Nat) (w1:World),Calls Tryz.prog K (#[.agg #[.slice ra 3 rc,.slice ta 4 tc,.slice sa 3 sc]]++cap) w1 fun e w' => e=.returned (.bool false)∧Below w1.heap.size w1 w') :
  Calls Tryz.prog 117 #[v,.func (.func K) #[] cap] w fun e w' => e=.returned (.bool false)∧Below w.heap.size w w':=by
 go_enter Tryz.func117,Tryz.ntmps117
 go_wp2_with fail
 refine(idxIn_any K cap hK v rs B _ hv hB hf).mono ?_;rintro e w' ⟨rfl,hb⟩
 go_wp2_with fail
 go_ret
 exact⟨rfl,hb⟩
theorem Raw.sl {w:World} {base:Nat} {V:Nat→Value} {N:Nat→Nat} {C:Nat→List Value} (h:Raw w base V N C):∃(A:Nat→Option Addr) (n K:Nat→Nat),V 0=.slice (A 0) (n 0) (K 0)∧V 1=.slice (A 1) (n 1) (K 1)∧V 2=.slice (A 2) (n 2) (K 2)∧V 3=.slice (A 3) (n 3) (K 3)∧V 4=.slice (A 4) (n 4) (K 4):=by
 have:∀κ,∃(a:Option Addr) (k:Nat),κ<20→V κ=.slice a (N κ) k:=fun κ=>by
  by_cases hκ:κ<20
  ·obtain⟨a,k,e,_⟩:=(h.own κ hκ).form;exact⟨a,k,fun _=>e⟩
  ·exact⟨none,0,fun h2=>absurd h2 hκ⟩
 exact⟨fun κ=>(this κ).choose,N,fun κ=>(this κ).choose_spec.choose,(this 0).choose_spec.choose_spec (by omega),(this 1).choose_spec.choose_spec (by omega),(this 2).choose_spec.choose_spec (by omega),(this 3).choose_spec.choose_spec (by omega),(this 4).choose_spec.choose_spec (by omega)⟩
theorem CyV.sl {w:World} {B:Nat} {a0 a1 a2 a3 a4:Value} {st:Cy} {P:List PS} {Q:List SS} (h:CyV w B a0 a1 a2 a3 a4 st P Q):∃(b0 b1 b2 b3 b4:Option Addr) (n0 n1 n2 n3 n4 k0 k1 k2 k3 k4:Nat),a0=.slice b0 n0 k0∧a1=.slice b1 n1 k1∧a2=.slice b2 n2 k2∧a3=.slice b3 n3 k3∧a4=.slice b4 n4 k4:=by
 obtain⟨x0,y0,e0,_⟩:=h.ws.1;obtain⟨x1,y1,e1,_⟩:=h.hs.1;obtain⟨x2,y2,e2,_⟩:=h.ps;obtain⟨x3,y3,e3,_⟩:=h.ss;obtain⟨D,⟨x4,y4,e4,_⟩,_⟩:=h.told;exact⟨_,_,_,_,_,_,_,_,_,_,_,_,_,_,_,e0,e1,e2,e3,e4⟩
set_option maxRecDepth 8000 in
theorem runs_any {c : Cfg} (hbus : Bus c) {w : World} {B : Nat} {u v : Value} (hc : BusV w B u c) {a0 a1 a2 a3 a4 : Value} {st : Cy} {P : List PS} {Q : List SS} (h : CyV w B a0 a1 a2 a3 a4 st P Q) {ins : List Inp} (hi : Ins w B v ins) (hB : B ≤ w.heap.size) (hg : Good c st) (hl : ins.length ≤ 300) :
  Calls Tryz.prog 60 #[u,.agg #[a0,a1,a2,a3,a4],v] w fun e w' => e=.returned (.bool true)∧Below w.heap.size w w':=by
 obtain⟨mv,lb,lo,lc,pb,po,pc,QQ,K,rfl,⟨ma,mn,mk,rfl⟩,_,_,_,_,_,_⟩:=hc.opened hbus;obtain⟨z0,z1,z2,z3,z4,n0,n1,n2,n3,n4,k0,k1,k2,k3,k4,rfl,rfl,rfl,rfl,rfl⟩:=h.sl;obtain⟨ia,ic,rfl,ic1,ic2,_,_,_⟩:=hi.opened;have HOK:=hid (fun(W:World) (hW:Below w.heap.size w W)=>cycOk_any hbus (hc.below (hW.mono hB)) (h.below (hW.mono hB)) (Nat.le_trans hB hW.size) hg);have HIN:=hid (fun(W:World) (hW:Below w.heap.size w W)=>(hasIn_any 118 #[] (zB3 Tryz.func118 (by kernel_rfl) (by kernel_rfl)) (.slice ia ins.length ic) ins B W (hi.below (hW.mono hB)) (Nat.le_trans hB hW.size) (fun ra ta sa rc tc sc w1=>by simpa using runsIn_any ra ta sa rc tc sc)));obtain⟨w0,hw0⟩:∃W,W=(w.alloc (.cells #[.slice ma mn mk,.slice (some ⟨lb,lo,none⟩) 4 lc,.slice (some ⟨pb,po,none⟩) 3 pc] 27)).alloc (.cells #[.slice z0 n0 k0,.slice z1 n1 k1,.slice z2 n2 k2,.slice z3 n3 k3,.slice z4 n4 k4] 39):=⟨_,rfl⟩
 have hb0:Below w.heap.size w w0:=by rw[hw0];exact((Below.refl _ _).alloc (Nat.le_refl _) _).alloc (by simp) _
 have hli:(ins.length:Int)≤300:=by omega
 clear hc h hi
 go_enter Tryz.func60,Tryz.ntmps60
 go_upto_region 1 with fail
 have HB0:=hid hb0;have HW0:=hid hw0;clear hb0 hw0
 go_wp2_with (first
  |(go_at_call 16;rw[←HW0.out];go_loud ((with_reducible refine(HOK.out _ HB0.out).mono ?_));rintro e w1 ⟨rfl,hb1⟩;have HB1:=hid (HB0.out.trans (hb1.mono HB0.out.size));clear hb1)
  |(go_at_call 117;go_loud ((with_reducible refine(HIN.out _ HB1.out).mono ?_));rintro e w2 ⟨rfl,hb2⟩;have HB2:=hid (HB1.out.trans (hb2.mono HB1.out.size));clear hb2))
 go_ret
 exact⟨rfl,HB2.out⟩
end Go.Proofs.YtgkdoehkmbhfiaaGreat
namespace Go.Proofs.YtgkdoehkmbhfiaaGreat
def inAll:Inp:=⟨[true,true,true],[false,false,false,false],[true,true,true]⟩
def flow (c:Cfg) (n:Nat) (st:Cy):Cy:=runC c (List.replicate n inAll) st
theorem Bus.none {c:Cfg} (h:Bus c):Bus ⟨c.ms,c.lat,[[],[],[]]⟩ :=
 ⟨h.ms,h.lat,h.lat3,rfl,by simp,by simp⟩
end Go.Proofs.YtgkdoehkmbhfiaaGreat
namespace Go.Proofs.YtgkdoehkmbhfiaaGreat
open Go.RowKit
theorem mul64_one (n:Nat) (hn:n≤300) (w:World):Calls Tryz.prog 159 #[.int .u64 1,.int .u64 n] w fun e w' => e=.returned (.tuple #[.int .u64 0,.int .u64 n])∧w=w':=by
 have h1:bits .and .u64 (n:Int) 4294967295=(n:Int):=by
  have h:=bits_and_u64_nat n 4294967295 (by omega) (by omega);have e:n &&& 4294967295=n % 4294967296:=Nat.and_two_pow_sub_one_eq_mod n 32;rw[e,Nat.mod_eq_of_lt (by omega)]at h;exact h
 have h2:(n:Int) / 4294967296=0:=by omega
 have h3:IntKind.u64.wrap (n:Int)=(n:Int):=by rw[IntKind.wrap_u64];omega
 have h4:bits .and .u64 1 4294967295=1:=by decide +kernel
 have h5:bits .and .u64 0 4294967295=0:=by decide +kernel
 go_enter Tryz.func159,Tryz.ntmps159
 go_wp2
 refine bodyPost_ret (v:=.tuple #[.int .u64 0,.int .u64 n]) (by simp[results,Tryz.results159]) rfl ⟨rfl,rfl⟩
theorem mul_one (n:Nat) (hn:n≤300) (w:World):Calls Tryz.prog 116 #[.int .u64 1,.int .u64 n] w fun e w' => e=.returned (.tuple #[.int .u64 0,.int .u64 n])∧w=w':=by
 go_enter Tryz.func116,Tryz.ntmps116
 go_wp2_with (go_at_call 159;refine(mul64_one n hn _).mono ?_;rintro e w' ⟨rfl,rfl⟩)
 refine bodyPost_ret (v:=.tuple #[.int .u64 0,.int .u64 n]) (by simp[results,Tryz.results116]) rfl ⟨rfl,rfl⟩
theorem zF7 (b : Nat) : ∀ (vs : List Value) (o : Nat) (w : World), (w.setCells b o vs).heap.size = w.heap.size
 |[],_,_=>rfl
 |v::vs,o,w=>by rw[World.setCells,zF7 b vs (o+1)];simp
theorem infoIn:(Tryz.prog.info? 45).map (fun i=>(i.zero,i.size,i.bytes))=some (some (.agg #[.slice none 0 0,.slice none 0 0,.slice none 0 0]),3,72):=by kernel_rfl
theorem infoInS:(Tryz.prog.info? 45).map (·.size)=some 3:=by kernel_rfl
theorem repNew {w w1:World} {N:Nat} {xs:List Value} (h:w1.ownsRow w.heap.size 45 3 (.slice (some ⟨w.heap.size,0,none⟩) N N) N (madeCells (Value.agg #[.slice none 0 0,.slice none 0 0,.slice none 0 0]).cells (N * 3)).toList) (hb:Below w.heap.size w w1) (hl:xs.length=3):RepI w w.heap.size N xs 0 w1∧w.heap.size<w1.heap.size:=by
 have e:(madeCells (Value.agg #[.slice none 0 0,.slice none 0 0,.slice none 0 0]).cells (N * 3)).toList=(List.replicate N ()).flatMap fun _=>[vnil,vnil,vnil]:=by
  have:=zE8 (fun _:Unit=>[vnil,vnil,vnil]) () (Value.agg #[.slice none 0 0,.slice none 0 0,.slice none 0 0]).cells (by decide) rfl N;exact this
 rw[e]at h;have hO:Owns w1 w.heap.size 45 3 (fun _:Unit=>[vnil,vnil,vnil]) (.slice (some ⟨w.heap.size,0,none⟩) N N) (List.replicate N ()):=by
  unfold Owns;rw[List.length_replicate];exact OwnR.of_row h
 rw[←hl]at hO;exact⟨RepI.new hO (by rw[hl];rfl) hb,(OwnR.lt hO _ rfl).2⟩
set_option maxRecDepth 8000 in
theorem repeatIn_any (N : Nat) (hN : N ≤ 300) (b : Nat) (a0 a1 a2 : Option Addr) (n0 n1 n2 k0 k1 k2 : Nat) (w : World) (hb : b < w.heap.size) (hc0 : w.cell? ⟨b, 0, none⟩ = some (.slice a0 n0 k0)) (hc1 : w.cell? ⟨b, 1, none⟩ = some (.slice a1 n1 k1)) (hc2 : w.cell? ⟨b, 2, none⟩ = some (.slice a2 n2 k2)) :
    Calls Tryz.prog 58 #[.slice (some ⟨b,0,none⟩) 1 1,.int .i64 N] w fun e w' => ∃g,e=.returned (.slice (some ⟨g,0,none⟩) N N)∧RepI w g N [.slice a0 n0 k0,.slice a1 n1 k1,.slice a2 n2 k2] N w' ∧ w.heap.size≤g∧g<w'.heap.size:=by
  obtain⟨xs,hxs⟩:∃xs:List Value,xs=[.slice a0 n0 k0,.slice a1 n1 k1,.slice a2 n2 k2]:=⟨_,rfl⟩
  have HXS:=hid hxs;have HL:=hid (show xs.length=3 by rw[hxs];rfl)
  have H1 := hid (show ∀ v ∈ xs, v.oneCell' = true by
    rw[hxs];intro v hv;simp only[List.mem_cons,List.not_mem_nil,or_false]at hv;rcases hv with rfl|rfl|rfl <;> rfl)
  have HC := hid (show ∀ j, j < xs.length → w.cell? ⟨b, 0 + j, none⟩ = xs[j]? by
    rw[hxs];intro j hj;obtain rfl|rfl|rfl:j=0∨j=1∨j=2:=by have:j<3:=hj;omega
    · exact hc0
    · exact hc1
    · exact hc2)
  rw[←hxs];clear hc0 hc1 hc2 hxs;have HM:=hid (mul_one N hN);have i1:decide ((N:Int)<0)=false:=by simp
  have i2:decide ((9223372036854775807:Int)<(N:Int))=false:=by simp;omega
  have i3:IntKind.u64.wrap (N:Int)=(N:Int):=by rw[IntKind.wrap_u64];omega
  have i4:IntKind.i64.wrap (N:Int)=(N:Int):=by rw[IntKind.wrap_i64];omega
  obtain⟨ii,q1,q2,q3,q4⟩:=info_parts infoIn;obtain⟨k,hk⟩:∃k,k=min 1 N:=⟨_,rfl⟩
  have HK:=hid hk;clear hk
  go_enter Tryz.func58,Tryz.ntmps58
  go_wp2_with (first
    |(go_at_call 116;refine(HM.out _).mono ?_;rintro e w' ⟨rfl,rfl⟩)
    |(at_make;go_must (refine wpList_make_full _ rfl _ _ 28 rfl w.heap.size 45 ii (.agg #[.slice none 0 0,.slice none 0 0,.slice none 0 0]) 3 Tryz.underlying28 q1 q2 q3 _ _ _ _ N rfl rfl rfl rfl (by rw[q4];omega) (by unfold maxLen;omega) (Nat.le_refl _) ?_);intro w1 hown hgrow;have hbx:=(show Below w.heap.size w w1 from(Below.refl _ _).grown hgrow (Nat.le_refl _) (by simp));have HR0:=repNew hown hbx HL.out;clear hown hgrow;obtain⟨W2,hW2⟩:∃W,W=w1.setCells w.heap.size (0 * xs.length) (List.replicate k xs).flatten:=⟨_,rfl⟩;have hcp:∀ty,(Builtin.copy_ #[28,28] ty #[.slice (some ⟨w.heap.size,0,none⟩) N N,.slice (some ⟨b,0,none⟩) 1 1]).run Tryz.prog w1=.ok (goInt k) W2:=(fun ty=>by rw[hW2];exact HR0.1.first Tryz.underlying28 (by rw[HL.out];exact infoInS) H1.out HK.out (fun j hj=>by rw[hbx.cell (p:=⟨b,_,none⟩) hb];exact HC.out j hj) ty N 1);have HW2:=hid (show RepI w w.heap.size N xs k W2∧w.heap.size<W2.heap.size from⟨by have:=HR0.1.more (k:=k) (by have:=HK.out;omega) (Nat.le_refl _);rw[Nat.zero_add]at this;rw[hW2];exact this,by rw[hW2,zF7];exact HR0.2⟩);clear hW2 HR0 hbx)
    |fail)
  clear hb
  go_loopw [8] (fun n' wr=>∃n:Nat,n' = .int .i64 n∧n≤N∧(n=0→N=0)∧RepI w w.heap.size N xs n wr∧w.heap.size<wr.heap.size) (fun n' _=>N - (intOf n').toNat)
  case atStart=>exact⟨k,rfl,by have:=HK.out;omega,by have:=HK.out;omega,HW2.out.1,HW2.out.2⟩
  case round=>
    obtain⟨n,rfl,hn,hn0,hr,hg⟩:=hrel;have HR:=hid hr;have HG:=hid hg;clear hr hg HW2;by_cases h6:n=N
    · subst h6
      have hlt:decide ((n:Int)<(n:Int))=false:=by simp
      go_wp2_with fail
      go_ret
      exact⟨_,rfl,HR.out,Nat.le_refl _,HG.out⟩
    · have hlt : (n : Int) < (N : Int) := by omega
      obtain⟨m,hm⟩:∃m,m=min n (N - n):=⟨_,rfl⟩
      have ho:n≤N:=hn;obtain⟨CC,hCC⟩:∃CC:List Value→World→Prop,CC=fun us W=>w.heap.size<W.heap.size∧RepI w w.heap.size N xs (n+us.length * m) W:=⟨_,rfl⟩
      have hC0:CC [] wr.drew:=by rw[hCC];refine⟨HG.out,?_⟩;rw[List.length_nil,Nat.zero_mul,Nat.add_zero];exact⟨HR.out.rws,HR.out.sm,HR.out.fz,HR.out.bel.drew⟩
      have HCC:=hid hCC;have hne:Nonempty (Ph CC):=⟨⟨([],wr.drew),hC0⟩⟩
      have HM2:=hid hm;have i5:IntKind.i64.wrap ((n:Int)+(m:Int))=((n+m:Nat):Int):=by rw[IntKind.wrap_i64];omega
      have hNn:¬N=n:=fun e=>h6 e.symm
      clear hCC hm h6
      go_upto_region 9 with fail
      refine zA9 CC [(7,true)] [] (by kernel_rfl) (by kernel_rfl) hC0 ?_
      repeat (
        (with_reducible refine wq1_q ⟨rfl,rfl⟩ (fun K hK=>?_))
        go_simp
        first
          |((with_reducible refine hK _ ?_);clear hK K)
          |((with_reducible refine zA7 (by simp[undef]) (hK _ ?_));clear hK K)
          | (apply Exists.intro
             (with_reducible refine⟨fun _=>?_,hK _ ?_⟩)
             (fail)
             clear hK K))
      refine wq1_x rfl (.int .i64 m) (fun KA hKA=>?_);go_simp;refine hKA _ ?_;clear hKA KA
      repeat (
        (with_reducible refine wq1_q ⟨rfl,rfl⟩ (fun K hK=>?_))
        go_simp
        first
          |((with_reducible refine hK _ ?_);clear hK K)
          |((with_reducible refine zA7 (by simp[undef]) (hK _ ?_));clear hK K)
          | (apply Exists.intro
             (with_reducible refine⟨fun _=>?_,hK _ ?_⟩)
             (fail)
             clear hK K))
      refine zF4 ?_;clear hne;refine wq2_x _ rfl rfl ?_ ?_
      · intro W hW KA hKA
        rw[HCC.out]at hW;have h1:=hW.2;rw[List.length_nil,Nat.zero_mul,Nat.add_zero]at h1;have hcp:∀ty,(Builtin.copy_ #[28,28] ty #[.slice (some ⟨w.heap.size,n * 3,none⟩) (N - n) (N - n),.slice (some ⟨w.heap.size,0,none⟩) n N]).run Tryz.prog W=.ok (goInt m) (W.setCells w.heap.size (n * 3) (List.replicate m xs).flatten):=fun ty=>by
          have:=h1.copy Tryz.underlying28 (by rw[HL.out];exact infoInS) H1.out HM2.out ho ty (N - n) N;rw[HL.out]at this;exact this
        go_simp
        exact hKA (.int .i64 m) _ (W.setCells w.heap.size (n * 3) (List.replicate m xs).flatten) (by
          rw[HCC.out];refine⟨by rw[zF7];exact hW.1,?_⟩;have:=h1.more (k:=m) (by have:=HM2.out;omega) (Nat.le_refl _);rw[HL.out]at this;simpa using this) rfl rfl
      intro _;refine zF3 ?_;intro wd hwd;rw[HCC.out]at hwd;have HD:=hid hwd;clear hwd hC0
      go_wp2_with fail
      go_roundw
      case rel=>exact⟨n+m,by go_num,by have:=HM2.out;omega,by have:=HM2.out;omega,by simpa using HD.out.2,HD.out.1⟩
      case measure=>have:=HM2.out;simp[intOf];omega
theorem infoBo:(Tryz.prog.info? 4).map (fun i=>(i.zero,i.size,i.bytes))=some (some (.bool false),1,1):=by kernel_rfl
theorem infoBoS:(Tryz.prog.info? 4).map (·.size)=some 1:=by kernel_rfl
theorem repNewB {w w1:World} {N:Nat} {xs:List Value} (h:w1.ownsRow w.heap.size 4 1 (.slice (some ⟨w.heap.size,0,none⟩) N N) N (madeCells (Value.bool false).cells (N * 1)).toList) (hb:Below w.heap.size w w1) (hl:xs.length=1):RepI w w.heap.size N xs 0 w1∧w.heap.size<w1.heap.size:=by
 have e:(madeCells (Value.bool false).cells (N * 1)).toList=(List.replicate N ()).flatMap fun _=>[.bool false]:=by
  have:=zE8 (fun _:Unit=>[Value.bool false]) () (Value.bool false).cells (by decide) rfl N;exact this
 rw[e]at h;have hO:Owns w1 w.heap.size 4 1 (fun _:Unit=>[Value.bool false]) (.slice (some ⟨w.heap.size,0,none⟩) N N) (List.replicate N ()):=by
  unfold Owns;rw[List.length_replicate];exact OwnR.of_row h
 rw[←hl]at hO;exact⟨RepI.new hO (by rw[hl];rfl) hb,(OwnR.lt hO _ rfl).2⟩
set_option maxRecDepth 8000 in
theorem repeatB_any (N : Nat) (hN : N ≤ 300) (b : Nat) (v : Bool) (w : World) (hb : b < w.heap.size) (hc0 : w.cell? ⟨b, 0, none⟩ = some (.bool v)) :
    Calls Tryz.prog 59 #[.slice (some ⟨b,0,none⟩) 1 1,.int .i64 N] w fun e w' => ∃g,e=.returned (.slice (some ⟨g,0,none⟩) N N)∧RepI w g N [.bool v] N w' ∧ w.heap.size≤g∧g<w'.heap.size:=by
  obtain⟨xs,hxs⟩:∃xs:List Value,xs=[.bool v]:=⟨_,rfl⟩
  have HXS:=hid hxs;have HL:=hid (show xs.length=1 by rw[hxs];rfl)
  have H1 := hid (show ∀ v ∈ xs, v.oneCell' = true by
    rw[hxs];intro x hv;simp only[List.mem_cons,List.not_mem_nil,or_false]at hv;subst hv;rfl)
  have HC := hid (show ∀ j, j < xs.length → w.cell? ⟨b, 0 + j, none⟩ = xs[j]? by
    rw[hxs];intro j hj;obtain rfl:j=0:=by have:j<1:=hj;omega
    exact hc0)
  rw[←hxs];clear hc0 hxs;have HM:=hid (mul_one N hN);have i1:decide ((N:Int)<0)=false:=by simp
  have i2:decide ((9223372036854775807:Int)<(N:Int))=false:=by simp;omega
  have i3:IntKind.u64.wrap (N:Int)=(N:Int):=by rw[IntKind.wrap_u64];omega
  have i4:IntKind.i64.wrap (N:Int)=(N:Int):=by rw[IntKind.wrap_i64];omega
  obtain⟨ii,q1,q2,q3,q4⟩:=info_parts infoBo;obtain⟨k,hk⟩:∃k,k=min 1 N:=⟨_,rfl⟩
  have HK:=hid hk;clear hk
  go_enter Tryz.func59,Tryz.ntmps59
  go_wp2_with (first
    |(go_at_call 116;refine(HM.out _).mono ?_;rintro e w' ⟨rfl,rfl⟩)
    |(at_make;go_must (refine wpList_make_full _ rfl _ _ 43 rfl w.heap.size 4 ii (.bool false) 1 Tryz.underlying43 q1 q2 q3 _ _ _ _ N rfl rfl rfl rfl (by rw[q4];omega) (by unfold maxLen;omega) (Nat.le_refl _) ?_);intro w1 hown hgrow;have hbx:=(show Below w.heap.size w w1 from(Below.refl _ _).grown hgrow (Nat.le_refl _) (by simp));have HR0:=repNewB hown hbx HL.out;clear hown hgrow;obtain⟨W2,hW2⟩:∃W,W=w1.setCells w.heap.size (0 * xs.length) (List.replicate k xs).flatten:=⟨_,rfl⟩;have hcp:∀ty,(Builtin.copy_ #[43,43] ty #[.slice (some ⟨w.heap.size,0,none⟩) N N,.slice (some ⟨b,0,none⟩) 1 1]).run Tryz.prog w1=.ok (goInt k) W2:=(fun ty=>by rw[hW2];exact HR0.1.first Tryz.underlying43 (by rw[HL.out];exact infoBoS) H1.out HK.out (fun j hj=>by rw[hbx.cell (p:=⟨b,_,none⟩) hb];exact HC.out j hj) ty N 1);have HW2:=hid (show RepI w w.heap.size N xs k W2∧w.heap.size<W2.heap.size from⟨by have:=HR0.1.more (k:=k) (by have:=HK.out;omega) (Nat.le_refl _);rw[Nat.zero_add]at this;rw[hW2];exact this,by rw[hW2,zF7];exact HR0.2⟩);clear hW2 HR0 hbx)
    |fail)
  clear hb
  go_loopw [8] (fun n' wr=>∃n:Nat,n' = .int .i64 n∧n≤N∧(n=0→N=0)∧RepI w w.heap.size N xs n wr∧w.heap.size<wr.heap.size) (fun n' _=>N - (intOf n').toNat)
  case atStart=>exact⟨k,rfl,by have:=HK.out;omega,by have:=HK.out;omega,HW2.out.1,HW2.out.2⟩
  case round=>
    obtain⟨n,rfl,hn,hn0,hr,hg⟩:=hrel;have HR:=hid hr;have HG:=hid hg;clear hr hg HW2;by_cases h6:n=N
    · subst h6
      have hlt:decide ((n:Int)<(n:Int))=false:=by simp
      go_wp2_with fail
      go_ret
      exact⟨_,rfl,HR.out,Nat.le_refl _,HG.out⟩
    · have hlt : (n : Int) < (N : Int) := by omega
      obtain⟨m,hm⟩:∃m,m=min n (N - n):=⟨_,rfl⟩
      have ho:n≤N:=hn;obtain⟨CC,hCC⟩:∃CC:List Value→World→Prop,CC=fun us W=>w.heap.size<W.heap.size∧RepI w w.heap.size N xs (n+us.length * m) W:=⟨_,rfl⟩
      have hC0:CC [] wr.drew:=by rw[hCC];refine⟨HG.out,?_⟩;rw[List.length_nil,Nat.zero_mul,Nat.add_zero];exact⟨HR.out.rws,HR.out.sm,HR.out.fz,HR.out.bel.drew⟩
      have HCC:=hid hCC;have hne:Nonempty (Ph CC):=⟨⟨([],wr.drew),hC0⟩⟩
      have HM2:=hid hm;have i5:IntKind.i64.wrap ((n:Int)+(m:Int))=((n+m:Nat):Int):=by rw[IntKind.wrap_i64];omega
      have hNn:¬N=n:=fun e=>h6 e.symm
      clear hCC hm h6
      go_upto_region 9 with fail
      refine zA9 CC [(7,true)] [] (by kernel_rfl) (by kernel_rfl) hC0 ?_
      repeat (
        (with_reducible refine wq1_q ⟨rfl,rfl⟩ (fun K hK=>?_))
        go_simp
        first
          |((with_reducible refine hK _ ?_);clear hK K)
          |((with_reducible refine zA7 (by simp[undef]) (hK _ ?_));clear hK K)
          | (apply Exists.intro
             (with_reducible refine⟨fun _=>?_,hK _ ?_⟩)
             (fail)
             clear hK K))
      refine wq1_x rfl (.int .i64 m) (fun KA hKA=>?_);go_simp;refine hKA _ ?_;clear hKA KA
      repeat (
        (with_reducible refine wq1_q ⟨rfl,rfl⟩ (fun K hK=>?_))
        go_simp
        first
          |((with_reducible refine hK _ ?_);clear hK K)
          |((with_reducible refine zA7 (by simp[undef]) (hK _ ?_));clear hK K)
          | (apply Exists.intro
             (with_reducible refine⟨fun _=>?_,hK _ ?_⟩)
             (fail)
             clear hK K))
      refine zF4 ?_;clear hne;refine wq2_x _ rfl rfl ?_ ?_
      · intro W hW KA hKA
        rw[HCC.out]at hW;have h1:=hW.2;rw[List.length_nil,Nat.zero_mul,Nat.add_zero]at h1;have hcp:∀ty,(Builtin.copy_ #[43,43] ty #[.slice (some ⟨w.heap.size,n,none⟩) (N - n) (N - n),.slice (some ⟨w.heap.size,0,none⟩) n N]).run Tryz.prog W=.ok (goInt m) (W.setCells w.heap.size (n) (List.replicate m xs).flatten):=fun ty=>by
          have:=h1.copy Tryz.underlying43 (by rw[HL.out];exact infoBoS) H1.out HM2.out ho ty (N - n) N;rw[HL.out]at this;simpa using this
        go_simp
        exact hKA (.int .i64 m) _ (W.setCells w.heap.size (n) (List.replicate m xs).flatten) (by
          rw[HCC.out];refine⟨by rw[zF7];exact hW.1,?_⟩;have:=h1.more (k:=m) (by have:=HM2.out;omega) (Nat.le_refl _);rw[HL.out]at this;simpa using this) rfl rfl
      intro _;refine zF3 ?_;intro wd hwd;rw[HCC.out]at hwd;have HD:=hid hwd;clear hwd hC0
      go_wp2_with fail
      go_roundw
      case rel=>exact⟨n+m,by go_num,by have:=HM2.out;omega,by have:=HM2.out;omega,by simpa using HD.out.2,HD.out.1⟩
      case measure=>have:=HM2.out;simp[intOf];omega
end Go.Proofs.YtgkdoehkmbhfiaaGreat
