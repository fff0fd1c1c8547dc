/- What DrawPlay draws, as a statement. -/
import Derived.Test.YtgkdoehkmbhfiaaGreatPKo
import Derived.Test.YtgkdoehkmbhfiaaGreatPCpm
import Derived.Test.YtgkdoehkmbhfiaaGreatPLt
import Derived.Test.YtgkdoehkmbhfiaaGreatPCr1
set_option linter.unusedVariables false
set_option linter.unusedSimpArgs false
set_option maxHeartbeats 16000000
namespace Go.Proofs.YtgkdoehkmbhfiaaGreat
open Go.RowKit
theorem zH4 (w:World) (o:Obj) {k:Nat} (h:k<w.heap.size):(w.alloc o).heap[k]? = w.heap[k]?:=((Below.refl w.heap.size w).alloc (Nat.le_refl _) o).block k h
def DFreeS (V:Nat→Value) (S:Nat) (w:World) (b:Nat):Prop:=b<w.heap.size∧Free V b∧b≠S
structure CyB (w:World) (base S:Nat) (X:Nat→Prop) (st:Cy) (V:Nat→Value) (N:Nat→Nat) (C:Nat→List Value) (D:Nat→List TJV):Prop where
 raw:Raw w base V N C
 con:Cont st [] V N C D
 v19:V 19=vnil
 bs:w.heap[S]? = some (.cells #[V 0,V 1,V 2,V 3,V 4] 39 (0,0))
 fs:Free V S
 s0:base≤S
 lx:∀b,¬X b→b<w.heap.size
 dat:∀κ,κ<20→∀x∈D κ,IntsD w (fun b=>DFreeS V S w b∧X b) x.2 x.1.rsp.data
theorem IntsD.own {w:World} {P:Nat→Prop} {v:Value} {xs:List Int} (h:IntsD w P v xs) (hn:xs≠[]) {b:Nat} (hb:v.ownBlock=some b):P b:=by
 obtain⟨⟨ao,cap,rfl,h1,h2,h0,h9,h3⟩,hx⟩:=h;obtain⟨b2,off,rfl,hP,hc⟩:=h3 (by simpa using hn);simp only[Value.ownBlock,Option.some.injEq]at hb
 rwa [←hb]
theorem IntsD.more {w:World} {P Q:Nat→Prop} {v:Value} {xs:List Int} (h:IntsD w P v xs) (hq:xs≠[]→∀b,v.ownBlock=some b→P b→Q b):IntsD w Q v xs:=by
 obtain⟨⟨ao,cap,rfl,h1,h2,h0,h9,h3⟩,hx⟩:=h;refine⟨⟨ao,cap,rfl,h1,h2,h0,h9,fun hn=>?_⟩,hx⟩;obtain⟨b2,off,rfl,hP,hc⟩:=h3 hn;exact⟨b2,off,rfl,hq (by simpa using hn) b2 rfl hP,hc⟩
open Classical in
noncomputable def LX (X:Nat→Prop) (q:Nat):Nat→Value:=fun i=>if 4≤i∧(¬X (i - 4)∨i - 4=q) then .slice (some ⟨i - 4,0,none⟩) 0 0 else .int .i64 0
theorem LX_own {X:Nat→Prop} {q i b:Nat} (h:(LX X q i).ownBlock=some b):¬X b∨b=q:=by
 unfold LX at h
 split at h
 ·rename_i h2;simp only[Value.ownBlock,Option.some.injEq]at h;subst h;exact h2.2
 ·simp[Value.ownBlock]at h
theorem LX_at {X:Nat→Prop} {q b:Nat} (h:¬X b∨b=q):(LX X q (b+4)).ownBlock=some b:=by
 unfold LX;rw[if_pos ⟨by omega,by simpa using h⟩];simp[Value.ownBlock]
theorem LX_low {X:Nat→Prop} {q i:Nat} (h:i<4):LX X q i=.int .i64 0:=by unfold LX;rw[if_neg (by omega)]
theorem letsLX (X:Nat→Prop) (q:Nat) (l:Nat→Nat) {s:Nat} (hs:s<4):letsV (LX X q) l s=.int .i64 (l s:Nat):=by unfold letsV;rw[LX_low hs];split <;> simp_all
theorem lets_hi (c:Cfg) (inp:Inp) (st:Cy) {i:Nat} (hi:4≤i):lets c inp st i=0:=by
 unfold lets letAll;refine zC9 (P:=fun y:Lt=>y.lets i=0) 4 _ rfl fun s y hs hy=>?_
 unfold let1
 repeat' split
 all_goals first|exact hy|(simp only[letDo,zA0 _ _ (show i≠s by omega)];exact hy)
theorem CyB.openH {w w' : World} {base S : Nat} {X : Nat → Prop} {st : Cy} {V : Nat → Value} {N : Nat → Nat} {C : Nat → List Value} {D : Nat → List TJV} (h : CyB w base S X st V N C D) (hb : Below w.heap.size w w') {Hb q : Nat} (hH : w.heap.size ≤ Hb) (hq : w.heap.size ≤ q) (hq2 : q < w'.heap.size)
  (hbh:w'.heap[Hb]? = some (.cells #[vnil,.int .i64 0,.int .i64 0,.int .i64 0,.int .i64 0] 98 (0,0))):CyM w' base S Hb (LX X q) st [] V N C D:=by
 have hS:=zA2 h.bs;refine⟨h.raw.below hb,h.con,(hb.block S hS).trans h.bs,by rw[h.v19,LX_low (by omega),LX_low (by omega),LX_low (by omega),LX_low (by omega)];exact hbh,h.fs,fun κ hκ e=>by have:=(h.raw.lt hκ e).2;omega,by omega,h.s0,Nat.le_trans h.s0 (by omega),fun i hi b hb2=>?_,fun κ hκ x hx=>⟨?_,fun hn i hi b hb1 hb2=>?_⟩⟩
 ·rcases LX_own hb2 with h1|rfl
  ·exact Nat.lt_of_lt_of_le (h.lx b h1) hb.size
  ·exact hq2
 ·exact((h.dat κ hκ x hx).kept fun b hb2=>hb.block b hb2.1.1).weak fun b hb2=>⟨Nat.lt_of_lt_of_le hb2.1.1 hb.size,hb2.1.2.1,hb2.1.2.2,by have:=hb2.1.1;omega⟩
 ·have h1:=(h.dat κ hκ x hx).own hn hb2;rcases LX_own hb1 with h2|rfl
  ·exact h2 h1.2
  ·have:=h1.1.1;omega
theorem CyM.dropH {w : World} {base S Hb : Nat} {L : Nat → Value} {st : Cy} {ev : List Ev} {V : Nat → Value} {N : Nat → Nat} {C : Nat → List Value} {D : Nat → List TJV} (h : CyM w base S Hb L st ev V N C D) (X : Nat → Prop) (hX : ∀ b, ¬ X b → b < w.heap.size ∧ ∃ i, 4 ≤ i ∧ (L i).ownBlock = some b) :
  CyB w base S X st (upd V 19 vnil) (upd N 19 0) (upd C 19 []) D∧∀b,(V 19).ownBlock=some b→DFreeS (upd V 19 vnil) S w b:=by
 have hf:∀b,Free V b→Free (upd V 19 vnil) b:=fun b hb κ hκ=>by
  by_cases e:κ=19
  ·subst e;rw[zA1];simp[vnil,Value.ownBlock]
  ·rw[zA0 _ _ e];exact hb κ hκ
 refine⟨⟨h.raw.chg (κ:=19) (by omega) (fun _ _ _=>rfl) ⟨by simp,.inl ⟨rfl,rfl⟩⟩ (fun k hk=>by simp[vnil,Value.ownBlock]at hk),h.con.evts vnil [],zA1 _ _ _,?_,hf _ h.fs,h.s0,fun b hb=>(hX b hb).1,fun κ hκ x hx=>(h.dat κ hκ x hx).1.more fun hn b hb1 hb=>⟨⟨hb.1,hf b hb.2.1,hb.2.2.1⟩,Classical.byContradiction fun hnx=>?_⟩⟩,fun b hb=>⟨(h.raw.lt (by omega) hb).2,fun κ hκ=>?_,fun e=>h.fs 19 (by omega) (by rw[hb,e])⟩⟩
 ·simp only[zA0 V vnil (show(0:Nat)≠19 by omega),zA0 V vnil (show(1:Nat)≠19 by omega),zA0 V vnil (show(2:Nat)≠19 by omega),zA0 V vnil (show(3:Nat)≠19 by omega),zA0 V vnil (show(4:Nat)≠19 by omega)];exact h.bs
 ·obtain⟨_,i,hi,e⟩:=hX b hnx;exact(h.dat κ hκ x hx).2 hn i hi b e hb1
 ·by_cases e:κ=19
  ·subst e;rw[zA1];simp[vnil,Value.ownBlock]
  ·rw[zA0 _ _ e];exact fun hk=>h.raw.ap κ 19 hκ (by omega) e b hk hb
theorem CyM.clear {w w' : World} {base S Hb : Nat} {L : Nat → Value} {st : Cy} {ev : List Ev} {V : Nat → Value} {N : Nat → Nat} {C : Nat → List Value} {D : Nat → List TJV} (h : CyM w base S Hb L st ev V N C D) {g i : Nat} (hi : 4 ≤ i) (hg : (L i).ownBlock = some g) (hf : Free V g) (hS : g ≠ S) (hH : g ≠ Hb)
  (hk:∀b,b≠g→w'.heap[b]? = w.heap[b]?) (hz:w'.heap.size=w.heap.size):CyM w' base S Hb L st ev V N C D :=
 ⟨h.raw.kept fun b _ hb => hk b (fun e => hb (by rw [e]; exact hf)), h.con, (hk S (Ne.symm hS)).trans h.bs, (hk Hb (Ne.symm hH)).trans h.bh, h.fs, h.fh, h.ne, h.s0, h.h0, fun j hj b hb => by rw [hz]; exact h.lx j hj b hb, fun κ hκ x hx =>
  ⟨(((h.dat κ hκ x hx).1.more (Q:=fun b=>DFree V S Hb w b∧b≠g) fun hn b hb1 hb=>⟨hb,fun e=>(h.dat κ hκ x hx).2 hn i hi g hg (by rw[←e];exact hb1)⟩).kept fun b hb=>hk b hb.2).weak fun b hb=>⟨by rw[hz];exact hb.1.1,hb.1.2⟩,(h.dat κ hκ x hx).2⟩⟩
theorem CyB.keep {w w':World} {base S:Nat} {X:Nat→Prop} {st:Cy} {V:Nat→Value} {N:Nat→Nat} {C:Nat→List Value} {D:Nat→List TJV} (h:CyB w base S X st V N C D) (hk:∀b,b<w.heap.size→X b∨¬Free V b∨b=S→w'.heap[b]? = w.heap[b]?) (hz:w.heap.size≤w'.heap.size):CyB w' base S X st V N C D :=
 ⟨h.raw.kept fun b hb hf=>hk b hb (.inr (.inl hf)),h.con,h.v19,(hk S (zA2 h.bs) (.inr (.inr rfl))).trans h.bs,h.fs,h.s0,fun b hb=>Nat.lt_of_lt_of_le (h.lx b hb) hz,fun κ hκ x hx=>((h.dat κ hκ x hx).kept fun b hb=>hk b hb.1.1 (.inl hb.2)).weak fun b hb=>⟨⟨Nat.lt_of_lt_of_le hb.1.1 hz,hb.1.2⟩,hb.2⟩⟩
theorem CyB.below {w w':World} {base S:Nat} {X:Nat→Prop} {st:Cy} {V:Nat→Value} {N:Nat→Nat} {C:Nat→List Value} {D:Nat→List TJV} (h:CyB w base S X st V N C D) (hb:Below w.heap.size w w'):CyB w' base S X st V N C D:=h.keep (fun b hlt _=>hb.block b hlt) hb.size
def StepP (base S:Nat) (X:Nat→Prop) (c:Cfg) (inp:Inp) (st:Cy) (V:Nat→Value) (w:World) (e:Ending) (w':World):Prop :=
 ∃ V' N' C' D' ve, e = .returned (.agg #[ve, .int .i64 (lets c inp st 0 : Nat), .int .i64 (lets c inp st 1 : Nat), .int .i64 (lets c inp st 2 : Nat), .int .i64 (lets c inp st 3 : Nat)]) ∧
  CyB w' base S X (cyc c inp st) V' N' C' D' ∧ (∀b,DFreeS V S w b→w'.heap[b]? = w.heap[b]? ∧ DFreeS V' S w' b∧ve.ownBlock≠some b)∧Below base w w' ∧
  Owns w' base 173 3 evRow ve (evs c inp st)∧(∀b,ve.ownBlock=some b→DFreeS V' S w' b)
theorem tellAll_len (inp:Inp) (x:Cy×List Ev):(zD9 inp x).2.length≤x.2.length+3:=by
 have h0:=tell1_len inp 0 x;have h1:=tell1_len inp 1 (tell1 inp 0 x);have h2:=tell1_len inp 2 (tell1 inp 1 (tell1 inp 0 x));show(tell1 inp 2 (tell1 inp 1 (tell1 inp 0 x))).2.length≤_;omega
theorem workAll_len (c:Cfg) (inp:Inp) (x:Cy×List Ev):(zF2 c inp x).2.length≤x.2.length+4:=by
 have h0:=work1_len c inp 0 x;have h1:=work1_len c inp 1 (work1 c inp 0 x);have h2:=work1_len c inp 2 (work1 c inp 1 (work1 c inp 0 x));have h3:=work1_len c inp 3 (work1 c inp 2 (work1 c inp 1 (work1 c inp 0 x)));show(work1 c inp 3 (work1 c inp 2 (work1 c inp 1 (work1 c inp 0 x)))).2.length≤_;omega
set_option maxRecDepth 8000 in
theorem step_any {c : Cfg} (hbus : Bus c) {w : World} {base S : Nat} {X : Nat → Prop} {st : Cy} {V : Nat → Value} {N : Nat → Nat} {C : Nat → List Value} {D : Nat → List TJV} (hm : CyB w base S X st V N C D) (hg : Good c st) {inp : Inp} {v u : Value} {B : Nat} (hc : BusV w B u c) (hin : InV w B v inp) (hB : B ≤ base) :
  Calls Tryz.prog 46 #[.pointer (some ⟨S,0,none⟩),u,v] w (StepP base S X c inp st V w):=by
 have HIN:=hid hin;have HC:=hid hc;have HM:=hid hm;obtain⟨⟨ra,rc,ta,tc,sa,sc,rfl,hr1,hr2,hr3⟩,hl1,hl2,hl3⟩:=hin;obtain⟨mv,lb,lo,lc,pb,po', pc', Q,K,rfl,⟨ma,mn,mk,rfl⟩,hms,hlb,hpb', hlat,hprog,hreq⟩:=hc.opened hbus;have hS:=zA2 hm.bs;have hbw:base≤w.heap.size:=Nat.le_trans hm.s0 (Nat.le_of_lt hS);clear hr1 hr2 hr3 hl1 hl2 hl3 hms hlat hprog hreq hlb hc hm;obtain⟨w1,hw1⟩:∃W,W=(((w.alloc (.cells #[.slice ma mn mk,.slice (some ⟨lb,lo,none⟩) 4 lc,.slice (some ⟨pb,po', none⟩) 3 pc'] 27)).alloc (.cells #[.slice ra inp.ready.length rc,.slice ta inp.stall.length tc,.slice sa inp.send.length sc] 45)).alloc (.cells #[.slice none 0 0,.int .i64 0,.int .i64 0,.int .i64 0,.int .i64 0] 98)).alloc (.cells #[.slice none 0 0,.int .i64 0,.int .i64 0,.int .i64 0,.int .i64 0] 98):=⟨_,rfl⟩
 have hb1:Below w.heap.size w w1:=by rw[hw1];exact((((Below.refl _ _).alloc (Nat.le_refl _) _).alloc (by simp) _).alloc (by simp;omega) _).alloc (by simp;omega) _
 have hz1:w1.heap.size=w.heap.size+4:=by rw[hw1];simp
 have hh0:w1.heap[w.heap.size]? = some (.cells #[.slice ma mn mk,.slice (some ⟨lb,lo,none⟩) 4 lc,.slice (some ⟨pb,po', none⟩) 3 pc'] 27 (0,0)):=by
  rw[hw1,zH4 _ _ (by simp;omega),zH4 _ _ (by simp;omega),zH4 _ _ (by simp)];exact zA8 _ _ rfl
 have hh1:w1.heap[w.heap.size+1]? = some (.cells #[.slice ra inp.ready.length rc,.slice ta inp.stall.length tc,.slice sa inp.send.length sc] 45 (0,0)):=by
  rw[hw1,zH4 _ _ (by simp),zH4 _ _ (by simp)];exact zA8 _ _ (by simp)
 have hh2:w1.heap[w.heap.size+2]? = some (.cells #[.slice none 0 0,.int .i64 0,.int .i64 0,.int .i64 0,.int .i64 0] 98 (0,0)):=by
  rw[hw1,zH4 _ _ (by simp)];exact zA8 _ _ (by simp)
 have hh3:w1.heap[w.heap.size+3]? = some (.cells #[.slice none 0 0,.int .i64 0,.int .i64 0,.int .i64 0,.int .i64 0] 98 (0,0)):=by
  rw[hw1];exact zA8 _ _ (by simp)
 have hfr:∀b,w.heap.size≤b→b<w.heap.size+3→DFree V S (w.heap.size+3) w1 b:=fun b h1 h2=>⟨by omega,fun κ hκ e=>by have:=(HM.out.raw.lt hκ e).2;omega,by omega,by omega⟩
 have hm1:=HM.out.openH hb1 (Hb:=w.heap.size+3) (q:=w.heap.size+2) (by omega) (by omega) (by omega) hh3;have HM1:=hid hm1;have HI1:=hid (HIN.out.below (hb1.mono (Nat.le_trans hB hbw)));have HC1:=hid (HC.out.below (hb1.mono (Nat.le_trans hB hbw)));have HW1:=hid (show Below base w w1 from hb1.mono hbw);have H0:=hid hh0;have H1:=hid hh1;have H2:=hid hh2;have F0:=hid (hfr w.heap.size (by omega) (by omega));have F1:=hid (hfr (w.heap.size+1) (by omega) (by omega));have F2:=hid (hfr (w.heap.size+2) (by omega) (by omega));have HOLD:=hid (show ∀b,DFreeS V S w b→w1.heap[b]? = w.heap[b]? ∧ DFree V S (w.heap.size+3) w1 b from fun b hb=>⟨hb1.block b hb.1,by have:=hb.1;omega,hb.2.1,hb.2.2,by have:=hb.1;omega⟩);have hwz:w.heap.size<w1.heap.size∧w.heap.size+1<w1.heap.size:=by omega
 clear hh2 hh3 hfr hm1 hb1;have G1:=hid (good_tellAll (inp:=inp) (x:=(st,[])) hg);have G2:=hid (good_workAll hbus (inp:=inp) G1.out);have G3:=hid (good_letAll G2.out);have L1:=hid (tellAll_len inp (st,[]));have L2:=hid (workAll_len c inp (zD9 inp (st,[])));have L3:=hid (show(zD9 inp (st,[])).2.length≤500 by have h1:=L1.out;have h2:([]:List Ev).length=0:=rfl;simp only at h1;omega);have L4:=hid (show(zF2 c inp (zD9 inp (st,[]))).2.length≤500 by have h1:=L1.out;have h3:=L2.out;have h2:([]:List Ev).length=0:=rfl;simp only at h1;omega);have hgg:=hid hg;clear hg;obtain⟨i0,i1,i2⟩:w1.cell? ⟨w.heap.size+1,0,none⟩=some (.slice ra inp.ready.length rc)∧w1.cell? ⟨w.heap.size+1,1,none⟩=some (.slice ta inp.stall.length tc)∧w1.cell? ⟨w.heap.size+1,2,none⟩=some (.slice sa inp.send.length sc):=by refine⟨?_,?_,?_⟩ <;> simp[World.cell?,hh1]
 clear hh0 hh1
 go_enter Tryz.func46,Tryz.ntmps46
 go_upto_region 2 with fail
 rw[←hw1];clear hw1
 go_upto_region 3 with (first
  |(go_at_call 90;(with_reducible refine(tell_any hbus HM1.out hgg.out (by simp) HI1.out hB).mono ?_);rintro e w2 ⟨rfl,V2,N2,C2,D2,hm2,hk2,hb2⟩;have HM2:=hid hm2;have HK2:=hid hk2;have HB2:=hid hb2;clear hm2 hk2 hb2))
 have HI2:=hid (HI1.out.below (HB2.out.mono hB));have HC2:=hid (HC1.out.below (HB2.out.mono hB));clear i0 i1 i2;have hi2:w2.heap[w.heap.size+1]? = some (.cells #[.slice ra inp.ready.length rc,.slice ta inp.stall.length tc,.slice sa inp.send.length sc] 45 (0,0)):=((HK2.out _ F1.out).1).trans H1.out;obtain⟨i0,i1,i2⟩:w2.cell? ⟨w.heap.size+1,0,none⟩=some (.slice ra inp.ready.length rc)∧w2.cell? ⟨w.heap.size+1,1,none⟩=some (.slice ta inp.stall.length tc)∧w2.cell? ⟨w.heap.size+1,2,none⟩=some (.slice sa inp.send.length sc):=by refine⟨?_,?_,?_⟩ <;> simp[World.cell?,hi2]
 have hc2:BusB w2 w.heap.size ma mn mk lb lo lc pb po' pc':=((HK2.out _ F0.out).1).trans H0.out;obtain⟨b0,b1,b2,hbz2⟩:=hc2.cells;have hiz2:=zA2 hi2;clear hi2 hc2
 go_upto_region 4 with (first
  |(go_at_call 91;(with_reducible refine(work_any hbus HM2.out G1.out L3.out HC2.out HI2.out hB).mono ?_);rintro e w3 ⟨rfl,V3,N3,C3,D3,hm3,hk3,hb3⟩;have HM3:=hid hm3;have HK3:=hid hk3;have HB3:=hid hb3;clear hm3 hk3 hb3))
 have HC3:=hid (HC2.out.below (HB3.out.mono hB));have HI3:=hid (HI2.out.below (HB3.out.mono hB));have K3:=hid (HK2.out.trans HK3.out);clear b0 b1 b2 i0 i1 i2 hbz2 hiz2;have hc3:BusB w3 w.heap.size ma mn mk lb lo lc pb po' pc':=((K3.out _ F0.out).1).trans H0.out;obtain⟨b0,b1,b2,hbz3⟩:=hc3.cells;clear hc3
 go_upto_region 5 with (first
  |(go_at_call 92;(with_reducible refine(let_any hbus HM3.out G2.out HC3.out hB).mono ?_);rintro e w4 ⟨rfl,V4,N4,C4,D4,hm4,hk4,hb4⟩;have HM4:=hid hm4;have HK4:=hid hk4;have HB4:=hid hb4;clear hm4 hk4 hb4))
 have HC4:=hid (HC3.out.below (HB4.out.mono hB));have HI4:=hid (HI3.out.below (HB4.out.mono hB));have K4:=hid (K3.out.trans HK4.out);clear b0 b1 b2 hbz3;have hi4:w4.heap[w.heap.size+1]? = some (.cells #[.slice ra inp.ready.length rc,.slice ta inp.stall.length tc,.slice sa inp.send.length sc] 45 (0,0)):=((K4.out _ F1.out).1).trans H1.out;obtain⟨i0,i1,i2⟩:w4.cell? ⟨w.heap.size+1,0,none⟩=some (.slice ra inp.ready.length rc)∧w4.cell? ⟨w.heap.size+1,1,none⟩=some (.slice ta inp.stall.length tc)∧w4.cell? ⟨w.heap.size+1,2,none⟩=some (.slice sa inp.send.length sc):=by refine⟨?_,?_,?_⟩ <;> simp[World.cell?,hi4]
 have hc4:BusB w4 w.heap.size ma mn mk lb lo lc pb po' pc':=((K4.out _ F0.out).1).trans H0.out;obtain⟨b0,b1,b2,hbz4⟩:=hc4.cells;have hiz4:=zA2 hi4;clear hi4 hc4
 go_upto_region 6 with (first
  |(go_at_call 93;(with_reducible refine(ask_any hbus HM4.out G3.out L4.out HC4.out HI4.out hB).mono ?_);rintro e w5 ⟨rfl,V5,N5,C5,D5,hm5,hk5,hb5⟩;have HM5:Hid (CyM w5 base S (w.heap.size+3) (letsV (LX X (w.heap.size+2)) (lets c inp st)) (cyc c inp st) (evs c inp st) V5 N5 C5 D5):=hid hm5;have HK5:=hid hk5;have HB5:=hid hb5;clear hm5 hk5 hb5))
 have K5:=hid (K4.out.trans HK5.out);clear b0 b1 b2 i0 i1 i2 hbz4 hiz4;obtain⟨h0,h1,h2,h3,h4,hf⟩:=HM5.out.hbox;have hr5:w5.heap[w.heap.size+2]? = some (.cells #[.slice none 0 0,.int .i64 0,.int .i64 0,.int .i64 0,.int .i64 0] 98 (0,0)):=((K5.out _ F2.out).1).trans H2.out;obtain⟨r0,r1,r2,r3,r4⟩:w5.cell? ⟨w.heap.size+1+1,0,none⟩=some (.slice none 0 0)∧w5.cell? ⟨w.heap.size+1+1,1,none⟩=some (.int .i64 0)∧w5.cell? ⟨w.heap.size+1+1,2,none⟩=some (.int .i64 0)∧w5.cell? ⟨w.heap.size+1+1,3,none⟩=some (.int .i64 0)∧w5.cell? ⟨w.heap.size+1+1,4,none⟩=some (.int .i64 0):=by refine⟨?_,?_,?_,?_,?_⟩ <;> simp[World.cell?,hr5]
 have rf:∀o,w5.frozen? ⟨w.heap.size+1+1,o,none⟩=false:=fun o=>by simp[World.frozen?,hr5]
 have hrz:w.heap.size+1+1<w5.heap.size:=zA2 hr5;obtain⟨va,vc,hv5,_,_⟩:=HM5.out.oEv.shape;rw[hv5]at h0;rw[letsLX _ _ _ (by omega)]at h1 h2 h3 h4;have HV5:=hid hv5;have HR5:=hid hr5;clear hf hr5 hv5
 go_wp2_with fail
 obtain⟨w6,hw6⟩:∃W,W=((((w5.setCell ⟨w.heap.size+1+1,0,none⟩ (.slice va (evs c inp st).length vc)).setCell ⟨w.heap.size+1+1,1,none⟩ (.int .i64 (lets c inp st 0:Nat))).setCell ⟨w.heap.size+1+1,2,none⟩ (.int .i64 (lets c inp st 1:Nat))).setCell ⟨w.heap.size+1+1,3,none⟩ (.int .i64 (lets c inp st 2:Nat))).setCell ⟨w.heap.size+1+1,4,none⟩ (.int .i64 (lets c inp st 3:Nat)):=⟨_,rfl⟩
 rw[←hw6];have h6:w6.heap[w.heap.size+1+1]? = some (.cells #[.slice va (evs c inp st).length vc,.int .i64 (lets c inp st 0:Nat),.int .i64 (lets c inp st 1:Nat),.int .i64 (lets c inp st 2:Nat),.int .i64 (lets c inp st 3:Nat)] 98 (0,0)):=by
  have:=HR5.out;rw[hw6];simp[World.setCell,Array.getElem?_modify,this]
 have hk6:∀b,b≠w.heap.size+2→w6.heap[b]? = w5.heap[b]?:=fun b hb=>by
  rw[hw6,Below.heap_setCell _ _ _ _ hb,Below.heap_setCell _ _ _ _ hb,Below.heap_setCell _ _ _ _ hb,Below.heap_setCell _ _ _ _ hb,Below.heap_setCell _ _ _ _ hb]
 have hz6:w6.heap.size=w5.heap.size:=by rw[hw6];simp
 have hb6:Below base w5 w6:=by
  rw[hw6];have hb:base≤w.heap.size+1+1:=by omega
  exact(((((Below.refl _ _).setCell (p:=⟨w.heap.size+1+1,_,none⟩) hb _).setCell (p:=⟨w.heap.size+1+1,_,none⟩) hb _).setCell (p:=⟨w.heap.size+1+1,_,none⟩) hb _).setCell (p:=⟨w.heap.size+1+1,_,none⟩) hb _).setCell (p:=⟨w.heap.size+1+1,_,none⟩) hb _
 have FR:=hid (K5.out _ F2.out).2;have hm6:CyM w6 base S (w.heap.size+3) (letsV (LX X (w.heap.size+2)) (lets c inp st)) (cyc c inp st) (evs c inp st) V5 N5 C5 D5:=by
  refine HM5.out.clear (g:=w.heap.size+2) (i:=w.heap.size+2+4) (by omega) ?_ FR.out.2.1 FR.out.2.2.1 FR.out.2.2.2 hk6 hz6;unfold letsV;rw[if_pos (lets_hi _ _ _ (by omega))];exact LX_at (.inr rfl)
 obtain⟨c60,c61,c62,c63,c64⟩:w6.cell? ⟨w.heap.size+1+1,0,none⟩=some (.slice va (evs c inp st).length vc)∧w6.cell? ⟨w.heap.size+1+1,1,none⟩=some (.int .i64 (lets c inp st 0:Nat))∧w6.cell? ⟨w.heap.size+1+1,2,none⟩=some (.int .i64 (lets c inp st 1:Nat))∧w6.cell? ⟨w.heap.size+1+1,3,none⟩=some (.int .i64 (lets c inp st 2:Nat))∧w6.cell? ⟨w.heap.size+1+1,4,none⟩=some (.int .i64 (lets c inp st 3:Nat)):=by refine⟨?_,?_,?_,?_,?_⟩ <;> simp[World.cell?,h6]
 have hzz:w.heap.size≤w6.heap.size:=by
  rw[hz6];exact Nat.le_trans (show w.heap.size≤w1.heap.size by omega) (Nat.le_trans HB2.out.size (Nat.le_trans HB3.out.size (Nat.le_trans HB4.out.size HB5.out.size)))
 obtain ⟨hd1, hd2⟩ := hm6.dropH X fun b hb => ⟨Nat.lt_of_lt_of_le (HM.out.lx b hb) hzz, b + 4, by omega, by
  unfold letsV;rw[if_pos (lets_hi _ _ _ (by omega))];exact LX_at (.inl hb)⟩
 have hev:=hm6.oEv;rw[HV5.out]at hev hd2;refine bodyPost_end (v:=.agg #[.slice va (evs c inp st).length vc,.int .i64 (lets c inp st 0:Nat),.int .i64 (lets c inp st 1:Nat),.int .i64 (lets c inp st 2:Nat),.int .i64 (lets c inp st 3:Nat)]) (by simp[results,Tryz.results46,go_sem,c60,c61,c62,c63,c64]) rfl ⟨_,_,_,_,_,rfl,hd1,?_,((((HW1.out.trans HB2.out).trans HB3.out).trans HB4.out).trans HB5.out).trans hb6,hev,hd2⟩;intro b hb;obtain⟨o1,o2⟩:=HOLD.out b hb;obtain⟨q1,q2⟩:=K5.out b o2;have hne:b≠w.heap.size+2:=by have:=hb.1;omega
 refine⟨((hk6 b hne).trans q1).trans o1,⟨by rw[hz6];exact q2.1,fun κ hκ=>?_,hb.2.2⟩,by rw[←HV5.out];exact q2.2.1 19 (by omega)⟩;by_cases e:κ=19
 ·subst e;rw[zA1];simp[vnil,Value.ownBlock]
 ·rw[zA0 _ _ e];exact q2.2.1 κ hκ
end Go.Proofs.YtgkdoehkmbhfiaaGreat
namespace Go.Proofs.YtgkdoehkmbhfiaaGreat
open Go.RowKit
theorem wordOk_i64 {x:Int} (h:zB1 x=true):I64 x:=by
 simp only[zB1,inB,Bool.and_eq_true,decide_eq_true_eq]at h
 constructor <;> omega
theorem atm_i64 {ws hs:List Int} (h:atmOk ws hs=true):(∀x∈ws,I64 x)∧∀x∈hs,I64 x:=by
 simp only[atmOk,memOk,Bool.and_eq_true,beq_iff_eq,List.all_eq_true]at h;refine⟨fun x hx=>wordOk_i64 (h.1.1.2 x hx),fun x hx=>?_⟩;have:=h.2 x hx;simp only[inB,Bool.and_eq_true,decide_eq_true_eq]at this
 constructor <;> omega
theorem cyV_raw {w : World} {base : Nat} {st : Cy} {ev : List Ev} {V : Nat → Value} {N : Nat → Nat} {C : Nat → List Value} {D : Nat → List TJV} (hr : Raw w base V N C) (hc : Cont st ev V N C D) (hd : ∀ κ, κ < 20 → ∀ x ∈ D κ, Ints w w.heap.size x.2 x.1.rsp.data) (hsm : SmallC st) (hws : ∀ x ∈ st.ws, I64 x) (hhs : ∀ x ∈ st.hs, I64 x) :
  ∃P Q,CyV w w.heap.size (V 0) (V 1) (V 2) (V 3) (V 4) st P Q:=by
 have hS:∃(A:Nat→Option Addr) (K:Nat→Nat),∀κ,κ<20→V κ=.slice (A κ) (N κ) (K κ):=by
  have:∀κ,∃(a:Option Addr) (k:Nat),κ<20→V κ=.slice a (N κ) k:=fun κ=>by
   by_cases h:κ<20
   ·obtain⟨a,k,e,_⟩:=(hr.own κ h).form;exact⟨a,k,fun _=>e⟩
   ·exact⟨none,0,fun h2=>absurd h2 h⟩
  exact⟨fun κ=>(this κ).choose,fun κ=>(this κ).choose_spec.choose,fun κ hκ=>(this κ).choose_spec.choose_spec hκ⟩
 obtain⟨A,K,hS⟩:=hS;have gP:∀i,i<3→((List.range 3).map fun i=>(⟨(st.ports i).next,(A (5+i),N (5+i),K (5+i)),(A (8+i),N (8+i),K (8+i)),(st.ports i).last⟩:PS)).getD i default=⟨(st.ports i).next,(A (5+i),N (5+i),K (5+i)),(A (8+i),N (8+i),K (8+i)),(st.ports i).last⟩:=fun i hi=>by simp[List.getD,hi]
 have gQ:∀i,i<4→((List.range 4).map fun i=>(⟨(A (11+i),N (11+i),K (11+i)),(A (15+i),N (15+i),K (15+i)),(st.slaves i).last⟩:SS)).getD i default=⟨(A (11+i),N (11+i),K (11+i)),(A (15+i),N (15+i),K (15+i)),(st.slaves i).last⟩:=fun i hi=>by simp[List.getD,hi]
 refine⟨(List.range 3).map fun i=>⟨(st.ports i).next,(A (5+i),N (5+i),K (5+i)),(A (8+i),N (8+i),K (8+i)),(st.ports i).last⟩,(List.range 4).map fun i=>⟨(A (11+i),N (11+i),K (11+i)),(A (15+i),N (15+i),K (15+i)),(st.slaves i).last⟩,?_,?_,?_,?_,?_,by simp,by simp,fun i hi=>?_,fun i hi=>?_,fun i hi=>?_,fun i hi=>?_,fun i hi=>?_,fun i hi=>?_⟩
 ·have h:=hr.own 0 (by omega);rw[hc.n0,hc.c0]at h;exact Owns.ints (e:=3) (base:=base) h (by have:=hsm.ws;omega) hws
 ·have h:=hr.own 1 (by omega);rw[hc.n1,hc.c1]at h;exact Owns.ints (e:=3) (base:=base) h (by have:=hsm.hs;omega) hhs
 ·have h:=hr.own 2 (by omega);rw[hc.n2]at h;refine OwnR.arr (sz:=4) h (by simp) (by omega) fun t ht j hj=>?_
  rw[hc.c2];have e:∀i,i<3→ptRow V (st.ports i) i=rowPS ⟨(st.ports i).next,(A (5+i),N (5+i),K (5+i)),(A (8+i),N (8+i),K (8+i)),(st.ports i).last⟩:=fun i hi=>by
   simp only[ptRow,rowPS,sl,hS (5+i) (by omega),hS (8+i) (by omega)]
  rw[e 0 (by omega),e 1 (by omega),e 2 (by omega)];rcases(show t=0∨t=1∨t=2 by omega)with rfl|rfl|rfl <;> rcases(show j=0∨j=1∨j=2∨j=3 by omega)with rfl|rfl|rfl|rfl <;> simp[rowPS,List.range_succ]
 ·have h:=hr.own 3 (by omega);rw[hc.n3]at h;refine OwnR.arr (sz:=3) h (by simp) (by omega) fun t ht j hj=>?_
  rw[hc.c3];have e:∀i,i<4→svRow V (st.slaves i) i=rowSS ⟨(A (11+i),N (11+i),K (11+i)),(A (15+i),N (15+i),K (15+i)),(st.slaves i).last⟩:=fun i hi=>by
   simp only[svRow,rowSS,sl,hS (11+i) (by omega),hS (15+i) (by omega)]
  rw[e 0 (by omega),e 1 (by omega),e 2 (by omega),e 3 (by omega)];rcases(show t=0∨t=1∨t=2∨t=3 by omega)with rfl|rfl|rfl|rfl <;> rcases(show j=0∨j=1∨j=2 by omega)with rfl|rfl|rfl <;> simp[rowSS,List.range_succ]
 ·have h:=hr.own 4 (by omega);have hl:(D 4).length=st.told.length:=by rw[←hc.t4,List.length_map]
  rw[hc.n4,hc.c4,←hl]at h;exact⟨D 4,Owns.arr (f:=tjRow) (e:=65) (base:=base) h (fun _=>rfl) (by have:=hsm.told.1;omega),hc.t4,hd 4 (by omega)⟩
 ·rw[gP i hi];exact⟨rfl,rfl⟩
 ·rw[gP i hi];have h:=hr.own (5+i) (by omega);rw[(ety_q hi).1,(ety_q hi).2,hc.nq i hi,hc.cq i hi]at h;have e:=hS (5+i) (by omega);show Nats w w.heap.size (.slice (A (5+i)) (N (5+i)) (K (5+i))) _;rw[←e];exact Owns.arr (f:=rowN) (e:=3) (base:=base) h (fun _=>rfl) (by have:=hsm.q i hi;omega)
 ·rw[gP i hi];have h:=hr.own (8+i) (by omega);rw[(ety_o hi).1,(ety_o hi).2,hc.no i hi,hc.co i hi]at h;have e:=hS (8+i) (by omega);show Jbs w w.heap.size (.slice (A (8+i)) (N (8+i)) (K (8+i))) _;rw[←e];exact Owns.arr (f:=jbRow) (e:=101) (base:=base) h (fun _=>rfl) (by have:=hsm.o i hi;omega)
 ·rw[gQ i hi]
 ·rw[gQ i hi];have h:=hr.own (11+i) (by omega);rw[(ety_p hi).1,(ety_p hi).2,hc.np i hi,hc.cp i hi]at h;have e:=hS (11+i) (by omega);show Jbs w w.heap.size (.slice (A (11+i)) (N (11+i)) (K (11+i))) _;rw[←e];exact Owns.arr (f:=jbRow) (e:=101) (base:=base) h (fun _=>rfl) (by have:=hsm.p i hi;omega)
 ·rw[gQ i hi];have h:=hr.own (15+i) (by omega);have hl:(D (15+i)).length=(st.slaves i).done.length:=by rw[←hc.td i hi,List.length_map]
  rw[(ety_d hi).1,(ety_d hi).2,hc.nd i hi,hc.cd i hi,←hl]at h;have e:=hS (15+i) (by omega);show JobsV w w.heap.size (.slice (A (15+i)) (N (15+i)) (K (15+i))) _;rw[←e];exact⟨D (15+i),Owns.arr (f:=tjRow) (e:=65) (base:=base) h (fun _=>rfl) (by have:=(hsm.d i hi).1;omega),hc.td i hi,hd (15+i) (by omega)⟩
theorem CyR.toV {c:Cfg} (hb:Bus c) {w:World} {base:Nat} {st:Cy} {V:Nat→Value} {N:Nat→Nat} {C:Nat→List Value} {D:Nat→List TJV} (h:CyR w base st V N C D) (hg:Good c st):∃P Q,CyV w w.heap.size (V 0) (V 1) (V 2) (V 3) (V 4) st P Q :=
 cyV_raw h.raw h.con (fun κ hκ x hx=>(h.dat κ hκ x hx).to fun b hb=>hb.2.1) (zJ7 hb hg) (atm_i64 hg.atm).1 (atm_i64 hg.atm).2
theorem CyB.toV {c:Cfg} (hb:Bus c) {w:World} {base S:Nat} {X:Nat→Prop} {st:Cy} {V:Nat→Value} {N:Nat→Nat} {C:Nat→List Value} {D:Nat→List TJV} (h:CyB w base S X st V N C D) (hg:Good c st):∃P Q,CyV w w.heap.size (V 0) (V 1) (V 2) (V 3) (V 4) st P Q :=
 cyV_raw h.raw h.con (fun κ hκ x hx=>(h.dat κ hκ x hx).to fun b hb=>hb.1.1) (zJ7 hb hg) (atm_i64 hg.atm).1 (atm_i64 hg.atm).2
theorem CyR.box {w w':World} {base S:Nat} {st:Cy} {V:Nat→Value} {N:Nat→Nat} {C:Nat→List Value} {D:Nat→List TJV} (h:CyR w base st V N C D) (hb:Below w.heap.size w w') (hS:w.heap.size≤S) (hs:w'.heap[S]? = some (.cells #[V 0,V 1,V 2,V 3,V 4] 39 (0,0))) (hbase:base≤w.heap.size):CyB w' base S (fun b=>base≤b) st V N C D:=by
 have h2:=h.below hb;refine⟨h2.raw,h2.con,h2.v19,hs,fun κ hκ e=>by have:=(h.raw.lt hκ e).2;omega,by omega,fun b hb2=>by have:=hb.size;omega,fun κ hκ x hx=>?_⟩;exact((h.dat κ hκ x hx).kept fun b hb2=>hb.block b hb2.2.1).weak fun b hb2=>⟨⟨Nat.lt_of_lt_of_le hb2.2.1 hb.size,hb2.2.2,by have:=hb2.2.1;omega⟩,hb2.1⟩
theorem CyB.cells {w:World} {base S:Nat} {X:Nat→Prop} {st:Cy} {V:Nat→Value} {N:Nat→Nat} {C:Nat→List Value} {D:Nat→List TJV} (h:CyB w base S X st V N C D):w.cell? ⟨S,0,none⟩=some (V 0)∧w.cell? ⟨S,1,none⟩=some (V 1)∧w.cell? ⟨S,2,none⟩=some (V 2)∧w.cell? ⟨S,3,none⟩=some (V 3)∧w.cell? ⟨S,4,none⟩=some (V 4)∧S<w.heap.size:=by
 refine⟨?_,?_,?_,?_,?_,zA2 h.bs⟩ <;> simp[World.cell?,h.bs]
instance:Inhabited Inp:=⟨⟨[],[],[]⟩⟩
def Ins (w:World) (B:Nat) (v:Value) (ins:List Inp):Prop:=ArrV InV w B 3 v ins
theorem Ins.below {w w':World} {B:Nat} {v:Value} {ins:List Inp} (h:Ins w B v ins) (hb:Below B w w'):Ins w' B v ins:=ArrV.below h hb fun _ _ h=>h.below hb
theorem Ins.mono {w:World} {B B':Nat} {v:Value} {ins:List Inp} (h:Ins w B v ins) (hb:B≤B'):Ins w B' v ins:=ArrV.mono h hb fun _ _ h=>h.mono hb
theorem Ins.opened {w : World} {B : Nat} {v : Value} {ins : List Inp} (h : Ins w B v ins) :
  ∃ ao cap, v = .slice ao ins.length cap ∧ ins.length ≤ cap ∧ cap ≤ 9223372036854775807 ∧ ins.length ≤ 140737488351232 ∧ (ao = none → cap = 0) ∧
   (ins.length ≠ 0 → ∃ b off, ao = some ⟨b, off, none⟩ ∧ b < B ∧ ∀ t, t < ins.length → ∃ ra rc ta tc sa sc, InV w B (.agg #[.slice ra 3 rc, .slice ta 4 tc, .slice sa 3 sc]) (ins.getD t default) ∧
    w.cell? ⟨b,off+t * 3,none⟩=some (.slice ra 3 rc)∧w.cell? ⟨b,off+t * 3+1,none⟩=some (.slice ta 4 tc)∧w.cell? ⟨b,off+t * 3+2,none⟩=some (.slice sa 3 sc)):=by
 obtain⟨ao,cap,rfl,h1,h2,h0,h9⟩:=ArrV.shape h;refine⟨ao,cap,rfl,h1,h2,h0,h9,fun hn=>?_⟩;obtain⟨b,off,ha,hlt,hc⟩:=ArrV.at h hn;refine⟨b,off,ha,hlt,fun t ht=>?_⟩;obtain⟨u,hu,hcell⟩:=hc t ht;have hu':=hu default;have hu2:=hu';obtain⟨⟨ra,rc,ta,tc,sa,sc,rfl,k1,k2,k3⟩,l1,l2,l3⟩:=hu';rw[l1,l2,l3]at hu2 hcell;refine⟨_,_,_,_,_,_,hu2,?_,?_,?_⟩
 ·have:=hcell 0 (by omega);simpa[Value.cells]using this
 ·have:=hcell 1 (by omega);simpa[Value.cells]using this
 ·have:=hcell 2 (by omega);simpa[Value.cells]using this
theorem InV.three {w:World} {B:Nat} {v:Value} {inp:Inp} (h:InV w B v inp):∃ra rc ta tc sa sc,v=.agg #[.slice ra 3 rc,.slice ta 4 tc,.slice sa 3 sc]:=by
 obtain⟨⟨ra,rc,ta,tc,sa,sc,rfl,k1,k2,k3⟩,l1,l2,l3⟩:=h;rw[l1,l2,l3];exact⟨_,_,_,_,_,_,rfl⟩
theorem inOk_any {w:World} (ra ta sa:Option Addr) (rc tc sc:Nat):Calls Tryz.prog 38 #[.agg #[.slice ra 3 rc,.slice ta 4 tc,.slice sa 3 sc]] w fun e w' => e=.returned (.bool true)∧Below w.heap.size w w':=by
 go_enter Tryz.func38,Tryz.ntmps38
 go_wp2_with fail
 go_ret
 exact⟨rfl,(Below.refl _ _).alloc (Nat.le_refl _) _⟩
theorem Raw.sl {w:World} {base:Nat} {V:Nat→Value} {N:Nat→Nat} {C:Nat→List Value} (h:Raw w base V N C):∃(A:Nat→Option Addr) (n K:Nat→Nat),V 0=.slice (A 0) (n 0) (K 0)∧V 1=.slice (A 1) (n 1) (K 1)∧V 2=.slice (A 2) (n 2) (K 2)∧V 3=.slice (A 3) (n 3) (K 3)∧V 4=.slice (A 4) (n 4) (K 4):=by
 have:∀κ,∃(a:Option Addr) (k:Nat),κ<20→V κ=.slice a (N κ) k:=fun κ=>by
  by_cases hκ:κ<20
  ·obtain⟨a,k,e,_⟩:=(h.own κ hκ).form;exact⟨a,k,fun _=>e⟩
  ·exact⟨none,0,fun h2=>absurd h2 hκ⟩
 exact⟨fun κ=>(this κ).choose,N,fun κ=>(this κ).choose_spec.choose,(this 0).choose_spec.choose_spec (by omega),(this 1).choose_spec.choose_spec (by omega),(this 2).choose_spec.choose_spec (by omega),(this 3).choose_spec.choose_spec (by omega),(this 4).choose_spec.choose_spec (by omega)⟩
theorem CyV.sl {w:World} {B:Nat} {a0 a1 a2 a3 a4:Value} {st:Cy} {P:List PS} {Q:List SS} (h:CyV w B a0 a1 a2 a3 a4 st P Q):∃(b0 b1 b2 b3 b4:Option Addr) (n0 n1 n2 n3 n4 k0 k1 k2 k3 k4:Nat),a0=.slice b0 n0 k0∧a1=.slice b1 n1 k1∧a2=.slice b2 n2 k2∧a3=.slice b3 n3 k3∧a4=.slice b4 n4 k4:=by
 obtain⟨x0,y0,e0,_⟩:=h.ws.1;obtain⟨x1,y1,e1,_⟩:=h.hs.1;obtain⟨x2,y2,e2,_⟩:=h.ps;obtain⟨x3,y3,e3,_⟩:=h.ss;obtain⟨D,⟨x4,y4,e4,_⟩,_⟩:=h.told;exact⟨_,_,_,_,_,_,_,_,_,_,_,_,_,_,_,e0,e1,e2,e3,e4⟩
theorem CopP.below {st:Cy} {w w0:World} {e:Ending} {w':World} (h:CopP st w0 e w') (hb:Below w.heap.size w w0):CopP st w e w':=by
 obtain⟨V,N,C,D,he,hr,h3⟩:=h;exact⟨V,N,C,D,he,hr.rebase hb.size,hb.trans (h3.mono hb.size)⟩
set_option maxRecDepth 8000 in
theorem cycStep_any {c : Cfg} (hbus : Bus c) {w : World} {B : Nat} {u v : Value} (hc : BusV w B u c) {a0 a1 a2 a3 a4 : Value} {st : Cy} {P : List PS} {Q : List SS} (h : CyV w B a0 a1 a2 a3 a4 st P Q) {inp : Inp} (hi : InV w B v inp) (hB : B ≤ w.heap.size) (hg : Good c st) :
  Calls Tryz.prog 11 #[u,.agg #[a0,a1,a2,a3,a4],v] w (CopP (cyc c inp st) w):=by
 obtain⟨mv,lb,lo,lc,pb,po,pc,QQ,K,rfl,⟨ma,mn,mk,rfl⟩,_,_,_,_,_,_⟩:=hc.opened hbus;obtain⟨z0,z1,z2,z3,z4,n0,n1,n2,n3,n4,k0,k1,k2,k3,k4,rfl,rfl,rfl,rfl,rfl⟩:=h.sl;obtain⟨ra,rc,ta,tc,sa,sc,rfl⟩:=hi.three;have HOK:=hid (fun(W:World) (hW:Below w.heap.size w W)=>cycOk_any hbus (hc.below (hW.mono hB)) (h.below (hW.mono hB)) (Nat.le_trans hB hW.size) hg);have HCP:=hid (fun(W:World) (hW:Below w.heap.size w W)=>cycCopyV_any (h.below (hW.mono hB)) (Nat.le_trans hB hW.size) (zJ7 hbus hg));have HBV:=hid hc;have HIV:=hid hi;obtain⟨w0,hw0⟩:∃W,W=(((w.alloc (.cells #[.slice ma mn mk,.slice (some ⟨lb,lo,none⟩) 4 lc,.slice (some ⟨pb,po,none⟩) 3 pc] 27)).alloc (.cells #[.slice z0 n0 k0,.slice z1 n1 k1,.slice z2 n2 k2,.slice z3 n3 k3,.slice z4 n4 k4] 39)).alloc (.cells #[.slice ra 3 rc,.slice ta 4 tc,.slice sa 3 sc] 45)).alloc (.cells #[.slice none 0 0,.slice none 0 0,.slice none 0 0,.slice none 0 0,.slice none 0 0] 39):=⟨_,rfl⟩
 have hb0:Below w.heap.size w w0:=by rw[hw0];exact((((Below.refl _ _).alloc (Nat.le_refl _) _).alloc (by simp) _).alloc (by simp <;> omega) _).alloc (by simp <;> omega) _
 obtain⟨g1,hg1⟩:∃g,g=w.heap.size+1:=⟨_,rfl⟩
 obtain⟨g2,hg2⟩:∃g,g=w.heap.size+1+1:=⟨_,rfl⟩
 obtain⟨g3,hg3⟩:∃g,g=w.heap.size+1+1+1:=⟨_,rfl⟩
 have X0 := hid (show Bx w0 w.heap.size [.slice ma mn mk, .slice (some ⟨lb, lo, none⟩) 4 lc, .slice (some ⟨pb, po, none⟩) 3 pc] by
  rw[hw0];exact(((Bx.new w #[.slice ma mn mk,.slice (some ⟨lb,lo,none⟩) 4 lc,.slice (some ⟨pb,po,none⟩) 3 pc] 27 (by simp)).below ((Below.refl _ _).alloc (Nat.le_refl _) _) (by simp)).below ((Below.refl _ _).alloc (Nat.le_refl _) _) (by simp <;> omega)).below ((Below.refl _ _).alloc (Nat.le_refl _) _) (by simp <;> omega))
 have X1 := hid (show Bx w0 g1 [.slice z0 n0 k0, .slice z1 n1 k1, .slice z2 n2 k2, .slice z3 n3 k3, .slice z4 n4 k4] by
  rw[hw0,hg1];have:=((Bx.new (w.alloc (.cells #[.slice ma mn mk,.slice (some ⟨lb,lo,none⟩) 4 lc,.slice (some ⟨pb,po,none⟩) 3 pc] 27)) #[.slice z0 n0 k0,.slice z1 n1 k1,.slice z2 n2 k2,.slice z3 n3 k3,.slice z4 n4 k4] 39 (by simp)).below ((Below.refl _ _).alloc (Nat.le_refl _) (.cells #[.slice ra 3 rc,.slice ta 4 tc,.slice sa 3 sc] 45)) (by simp)).below ((Below.refl _ _).alloc (Nat.le_refl _) (.cells #[.slice none 0 0,.slice none 0 0,.slice none 0 0,.slice none 0 0,.slice none 0 0] 39)) (by simp <;> omega);simpa using this)
 have X2 := hid (show Bx w0 g2 [.slice ra 3 rc, .slice ta 4 tc, .slice sa 3 sc] by
  rw[hw0,hg2];have:=(Bx.new ((w.alloc (.cells #[.slice ma mn mk,.slice (some ⟨lb,lo,none⟩) 4 lc,.slice (some ⟨pb,po,none⟩) 3 pc] 27)).alloc (.cells #[.slice z0 n0 k0,.slice z1 n1 k1,.slice z2 n2 k2,.slice z3 n3 k3,.slice z4 n4 k4] 39)) #[.slice ra 3 rc,.slice ta 4 tc,.slice sa 3 sc] 45 (by simp)).below ((Below.refl _ _).alloc (Nat.le_refl _) (.cells #[.slice none 0 0,.slice none 0 0,.slice none 0 0,.slice none 0 0,.slice none 0 0] 39)) (by simp);simpa using this)
 have X3 := hid (show Bx w0 g3 [vnil, vnil, vnil, vnil, vnil] by
  rw[hw0,hg3];have:=Bx.new (((w.alloc (.cells #[.slice ma mn mk,.slice (some ⟨lb,lo,none⟩) 4 lc,.slice (some ⟨pb,po,none⟩) 3 pc] 27)).alloc (.cells #[.slice z0 n0 k0,.slice z1 n1 k1,.slice z2 n2 k2,.slice z3 n3 k3,.slice z4 n4 k4] 39)).alloc (.cells #[.slice ra 3 rc,.slice ta 4 tc,.slice sa 3 sc] 45)) #[vnil,vnil,vnil,vnil,vnil] 39 (by simp);simpa using this)
 have HB0:=hid hb0;have HSZ:=hid (show w0.heap.size=w.heap.size+4 by rw[hw0];simp);obtain⟨b0,b1,b2⟩:=X0.out.three.1;obtain⟨t0,t1,t2,t3,t4⟩:=X1.out.five.1;obtain⟨i0,i1,i2⟩:=X2.out.three.1;clear hc h hi hb0
 go_enter Tryz.func11,Tryz.ntmps11
 go_upto_region 1 with fail
 rw[←hw0,←hg3,←hg2,←hg1];have HG1:=hid hg1;have HG2:=hid hg2;have HG3:=hid hg3;clear hw0 hg1 hg2 hg3
 go_upto_region 3 with (first
  |(go_at_call 16;go_loud ((with_reducible refine(HOK.out _ HB0.out).mono ?_));rintro e w1 ⟨rfl,hb1⟩;have HQ1:=hid hb1;have HB1:=hid (HB0.out.trans (hb1.mono HB0.out.size));clear t0 t1 t2 t3 t4 b0 b1 b2 i0 i1 i2;obtain⟨i0,i1,i2⟩:=(X2.out.below hb1 X2.out.lt).three.1;clear hb1)
  |(go_at_call 38;go_loud ((with_reducible refine(inOk_any _ _ _ _ _ _).mono ?_));rintro e w2 ⟨rfl,hb2⟩;have HQ2:=hid (HQ1.out.trans (hb2.mono HQ1.out.size));have HB2:=hid (HB1.out.trans (hb2.mono HB1.out.size));clear hb2 i0 i1 i2))
 obtain⟨t0,t1,t2,t3,t4⟩:=(X1.out.below HQ2.out X1.out.lt).five.1
 go_upto_region 4 with(go_at_call 45;go_loud ((with_reducible refine(HCP.out _ HB2.out).mono ?_));rintro e w3 ⟨V,N,C,D,rfl,hcr,hb3⟩;have HQ3:=hid (HQ2.out.trans (hb3.mono HQ2.out.size));have HB3:=hid (HB2.out.trans (hb3.mono HB2.out.size));have HQ23:=hid hb3;obtain⟨A,m,KK,e0,e1,e2,e3,e4⟩:=hcr.raw.sl;have HE:=hid (show V 0=.slice (A 0) (m 0) (KK 0)∧V 1=.slice (A 1) (m 1) (KK 1)∧V 2=.slice (A 2) (m 2) (KK 2)∧V 3=.slice (A 3) (m 3) (KK 3)∧V 4=.slice (A 4) (m 4) (KK 4) from⟨e0,e1,e2,e3,e4⟩);rw[e0,e1,e2,e3,e4];have HCR:=hid hcr;clear hcr hb3 e0 e1 e2 e3 e4 t0 t1 t2 t3 t4)
 obtain⟨w4,hw4⟩:∃W,W=w3.alloc (.cells #[.slice (A 0) (m 0) (KK 0),.slice (A 1) (m 1) (KK 1),.slice (A 2) (m 2) (KK 2),.slice (A 3) (m 3) (KK 3),.slice (A 4) (m 4) (KK 4)] 39):=⟨_,rfl⟩
 obtain⟨S,hS⟩:∃g,g=w3.heap.size:=⟨_,rfl⟩
 rw[←hw4,←hS];have hb4:Below w3.heap.size w3 w4:=by rw[hw4];exact(Below.refl _ _).alloc (Nat.le_refl _) _
 have HCB:=hid (HCR.out.box (S:=S) hb4 (by omega) (by rw[HE.out.1,HE.out.2.1,HE.out.2.2.1,HE.out.2.2.2.1,HE.out.2.2.2.2,hw4];exact zA8 _ _ hS) HQ23.out.size);have HQ4:=hid (HQ3.out.trans (hb4.mono HQ3.out.size));have HB4:=hid (HB3.out.trans (hb4.mono HB3.out.size));obtain⟨b0,b1,b2⟩:=(X0.out.below HQ4.out X0.out.lt).three.1;obtain⟨i0,i1,i2⟩:=(X2.out.below HQ4.out X2.out.lt).three.1;have HST:=hid (step_any hbus HCB.out hg (HBV.out.below (HB4.out.mono hB)) (HIV.out.below (HB4.out.mono hB)) (Nat.le_trans hB HB2.out.size));clear hw4 hS hb4
 go_upto_region 5 with(go_at_call 46;go_loud ((with_reducible refine(HST.out).mono ?_));rintro e w5 ⟨V', N', C', D', ve,rfl,hcb,_,hb5,_,_⟩;have HCB5:=hid hcb;have HQ5:=hid hb5;clear hcb hb5 b0 b1 b2 i0 i1 i2)
 obtain⟨A', m', KK', e0,e1,e2,e3,e4⟩:=HCB5.out.raw.sl;obtain⟨c0,c1,c2,c3,c4,_⟩:=HCB5.out.cells;rw[e0]at c0;rw[e1]at c1;rw[e2]at c2;rw[e3]at c3;rw[e4]at c4
 have HCP5 := hid (show Calls Tryz.prog 45 #[.agg #[.slice (A' 0) (m' 0) (KK' 0), .slice (A' 1) (m' 1) (KK' 1), .slice (A' 2) (m' 2) (KK' 2), .slice (A' 3) (m' 3) (KK' 3), .slice (A' 4) (m' 4) (KK' 4)]] w5 (CopP (cyc c inp st) w5) from by
  obtain⟨P', Q', hv⟩:=HCB5.out.toV hbus (good_step hbus hg);rw[e0,e1,e2,e3,e4]at hv;exact cycCopyV_any hv (Nat.le_refl _) (zJ7 hbus (good_step hbus hg)))
 clear e0 e1 e2 e3 e4;have HB5:=hid (HB4.out.trans (HQ5.out.mono HB2.out.size));have HX35:=hid (show Bx w5 g3 [vnil,vnil,vnil,vnil,vnil] from(X3.out.below HQ4.out X3.out.lt).below HQ5.out (by have:=X3.out.lt;have:=HQ2.out.size;omega))
 go_wp2_with (go_at_call 45;go_loud ((with_reducible refine(HCP5.out).mono ?_));rintro e w6 ⟨V6,N6,C6,D6,rfl,hcr,hb6⟩;obtain⟨A6,m6,K6,e0,e1,e2,e3,e4⟩:=hcr.raw.sl;have HE6:=hid (show V6 0=.slice (A6 0) (m6 0) (K6 0)∧V6 1=.slice (A6 1) (m6 1) (K6 1)∧V6 2=.slice (A6 2) (m6 2) (K6 2)∧V6 3=.slice (A6 3) (m6 3) (K6 3)∧V6 4=.slice (A6 4) (m6 4) (K6 4) from⟨e0,e1,e2,e3,e4⟩);rw[e0,e1,e2,e3,e4];have HCR6:=hid hcr;have HQ6:=hid hb6;have HX6:=hid (HX35.out.below hb6 HX35.out.lt);clear hcr hb6 e0 e1 e2 e3 e4 c0 c1 c2 c3 c4;obtain⟨⟨q0,q1,q2,q3,q4⟩,f0,f1,f2,f3,f4⟩:=HX6.out.five;have hrl:=HX6.out.lt)
 refine bodyPost_ret (zB3 Tryz.results11 _ _ ⟨g3,0,none⟩ (.agg #[.slice (A6 0) (m6 0) (K6 0),.slice (A6 1) (m6 1) (K6 1),.slice (A6 2) (m6 2) (K6 2),.slice (A6 3) (m6 3) (K6 3),.slice (A6 4) (m6 4) (K6 4)]) rfl (loadVar_cyc _ _ _ _ _ _ _ (by simp[go_sem, *]) (by simp[go_sem, *]) (by simp[go_sem, *]) (by simp[go_sem, *]) (by simp[go_sem, *]))) rfl ⟨V6,N6,C6,D6,?_,?_,?_⟩
 ·rw[HE6.out.1,HE6.out.2.1,HE6.out.2.2.1,HE6.out.2.2.2.1,HE6.out.2.2.2.2]
 ·have h35:=HX35.out.lt;exact(HCR6.out.kept (fun b h1 h2=>(touchC g3 _ _ _ _ _ _).block b h2 (by omega)) (touchC g3 _ _ _ _ _ _).size).rebase HB5.out.size
 ·have hg3:=HG3.out;have h5:w.heap.size≤g3:=by omega
  exact((((((HB5.out.trans (HQ6.out.mono HB5.out.size)).setCell (p:=⟨g3,_,none⟩) h5 _).setCell (p:=⟨g3,_,none⟩) h5 _).setCell (p:=⟨g3,_,none⟩) h5 _).setCell (p:=⟨g3,_,none⟩) h5 _).setCell (p:=⟨g3,_,none⟩) h5 _)
theorem runC_app (c : Cfg) : ∀ (a b : List Inp) (st : Cy), runC c (a ++ b) st = runC c b (runC c a st)
 |[],_,_=>rfl
 |_::a,b,_=>runC_app c a b _
theorem runC_snoc (c:Cfg) (ins:List Inp) (k:Nat) (hk:k<ins.length) (st:Cy):runC c (ins.take (k+1)) st=cyc c (ins.getD k default) (runC c (ins.take k) st):=by
 rw[List.take_succ_eq_append_getElem hk,runC_app];simp[runC,List.getD,hk]
theorem CyO.toR {w:World} {lo:Nat} {a b p s:Value} (h:CyO w lo a b p s z64 z6 z3 z4):∃V N C D,CyR w lo cy0 V N C D∧V 0=a∧V 1=b∧V 2=p∧V 3=s∧V 4=vnil:=by
 have nil:∀(e sz:Nat),OwnR w lo e sz vnil 0 []:=fun e sz=>⟨by simp,.inl ⟨rfl,rfl⟩⟩
 have an:∀v:Value,Apart v vnil:=fun v k _ h2=>by simp[vnil,Value.ownBlock]at h2
 have na:∀v:Value,Apart vnil v:=fun v k h2=>by simp[vnil,Value.ownBlock]at h2
 refine ⟨fun κ => if κ = 0 then a else if κ = 1 then b else if κ = 2 then p else if κ = 3 then s else vnil, fun κ => if κ = 0 then 64 else if κ = 1 then 6 else if κ = 2 then 3 else if κ = 3 then 4 else 0,
  fun κ=>if κ=0 then z64.flatMap rowI else if κ=1 then z6.flatMap rowI else if κ=2 then z3.flatMap rowP else if κ=3 then z4.flatMap rowS else[],fun _=>[],⟨⟨fun κ hκ=>?_,fun κ μ hκ hμ hne=>?_⟩,?_,rfl,fun κ hκ x hx=>by cases hx⟩,rfl,rfl,rfl,rfl,rfl⟩
 ·rcases κ with _|_|_|_|κ
  ·exact h.oa
  ·exact h.ob
  ·exact h.op
  ·exact h.os
  ·exact nil _ _
 ·rcases κ with _|_|_|_|κ <;> rcases μ with _|_|_|_|μ <;> first|exact absurd rfl hne|exact an _|exact na _|exact h.dab|exact h.dab.symm|exact h.dap|exact h.dap.symm|exact h.das|exact h.das.symm|exact h.dbp|exact h.dbp.symm|exact h.dbs|exact h.dbs.symm|exact h.dps|exact h.dps.symm
 ·have q:∀i:Nat,((5+i=0)=False∧(5+i=1)=False∧(5+i=2)=False∧(5+i=3)=False)∧((8+i=0)=False∧(8+i=1)=False∧(8+i=2)=False∧(8+i=3)=False)∧((11+i=0)=False∧(11+i=1)=False∧(11+i=2)=False∧(11+i=3)=False)∧((15+i=0)=False∧(15+i=1)=False∧(15+i=2)=False∧(15+i=3)=False):=fun i=>by
   refine⟨⟨?_,?_,?_,?_⟩,⟨?_,?_,?_,?_⟩,⟨?_,?_,?_,?_⟩,⟨?_,?_,?_,?_⟩⟩ <;> exact eq_false (by omega)
  refine⟨rfl,rfl,rfl,rfl,rfl,rfl,rfl,rfl,rfl,rfl,rfl,fun i hi=>?_,fun i hi=>?_,fun i hi=>?_,fun i hi=>?_,fun i hi=>?_,fun i hi=>?_,fun i hi=>?_,fun i hi=>?_,fun i hi=>rfl,rfl,rfl⟩ <;> simp[q i,cy0]
theorem i64_z64:∀x∈z64,I64 x:=by intro x hx;obtain⟨_,rfl⟩:=List.mem_replicate.1 hx;exact⟨by omega,by omega⟩
theorem i64_z6:∀x∈z6,I64 x:=by intro x hx;obtain⟨_,rfl⟩:=List.mem_replicate.1 hx;exact⟨by omega,by omega⟩
theorem small_zero:SmallC cy0:=⟨by simp[cy0],by simp[cy0],⟨by simp[cy0],by simp[cy0]⟩,fun i _=>by simp[cy0],fun i _=>by simp[cy0],fun s _=>by simp[cy0],fun s _=>⟨by simp[cy0],by simp[cy0]⟩⟩
theorem CyO.toV {w:World} {lo:Nat} {a b p s:Value} (h:CyO w lo a b p s z64 z6 z3 z4):∃P Q,CyV w w.heap.size a b p s vnil cy0 P Q:=by
 obtain⟨V,N,C,D,hr,rfl,rfl,rfl,rfl,e4⟩:=h.toR;rw[←e4];exact cyV_raw hr.raw hr.con (fun κ hκ x hx=>(hr.dat κ hκ x hx).to fun b hb=>hb.2.1) small_zero i64_z64 i64_z6
theorem CopP.sl {st:Cy} {w:World} {e:Ending} {w':World} (h:CopP st w e w'):∃V N C D b0 b1 b2 b3 b4 n0 n1 n2 n3 n4 k0 k1 k2 k3 k4,(V 0=.slice b0 n0 k0∧V 1=.slice b1 n1 k1∧V 2=.slice b2 n2 k2∧V 3=.slice b3 n3 k3∧V 4=.slice b4 n4 k4)∧e=.returned (.agg #[.slice b0 n0 k0,.slice b1 n1 k1,.slice b2 n2 k2,.slice b3 n3 k3,.slice b4 n4 k4])∧CyR w' w.heap.size st V N C D∧Below w.heap.size w w':=by
 obtain⟨V,N,C,D,rfl,hr,hbl⟩:=h;obtain⟨A,n,K,e0,e1,e2,e3,e4⟩:=hr.raw.sl;exact⟨V,N,C,D,_,_,_,_,_,_,_,_,_,_,_,_,_,_,_,⟨e0,e1,e2,e3,e4⟩,by rw[e0,e1,e2,e3,e4],hr,hbl⟩
theorem CopP.out {st : Cy} {w wa : World} {V : Nat → Value} {N : Nat → Nat} {C : Nat → List Value} {D : Nat → List TJV} {b0 b1 b2 b3 b4 : Option Addr} {n0 n1 n2 n3 n4 k0 k1 k2 k3 k4 base : Nat} (hE : V 0 = .slice b0 n0 k0 ∧ V 1 = .slice b1 n1 k1 ∧ V 2 = .slice b2 n2 k2 ∧ V 3 = .slice b3 n3 k3 ∧ V 4 = .slice b4 n4 k4) (hr : CyR wa base st V N C D) (hw : Below w.heap.size w wa) (g : Nat) (hg : g < base) (hg2 : w.heap.size ≤ g) :
  CopP st w (.returned (.agg #[.slice b0 n0 k0,.slice b1 n1 k1,.slice b2 n2 k2,.slice b3 n3 k3,.slice b4 n4 k4])) (((((wa.setCell ⟨g,0,none⟩ (.slice b0 n0 k0)).setCell ⟨g,1,none⟩ (.slice b1 n1 k1)).setCell ⟨g,2,none⟩ (.slice b2 n2 k2)).setCell ⟨g,3,none⟩ (.slice b3 n3 k3)).setCell ⟨g,4,none⟩ (.slice b4 n4 k4)):=by
 obtain⟨e0,e1,e2,e3,e4⟩:=hE;refine⟨V,N,C,D,by rw[e0,e1,e2,e3,e4],(hr.kept (fun b h1 h2=>(touchC g _ _ _ _ _ _).block b h2 (by omega)) (touchC g _ _ _ _ _ _).size).rebase (by omega),?_⟩;exact((((hw.setCell (p:=⟨g,_,none⟩) hg2 _).setCell (p:=⟨g,_,none⟩) hg2 _).setCell (p:=⟨g,_,none⟩) hg2 _).setCell (p:=⟨g,_,none⟩) hg2 _).setCell (p:=⟨g,_,none⟩) hg2 _
set_option maxRecDepth 8000 in
theorem cycNew_any (w:World):Calls Tryz.prog 10 #[] w (CopP cy0 w):=by
 go_enter Tryz.func10,Tryz.ntmps10
 go_wp2_with fail
 refine(implAtmNewW_any _).mono ?_;rintro e w1 ⟨wa,wc,g,ga,go,gc,rfl,o1,o2,_,_,hap,hb⟩;have HR:=hid ((Bx.new w #[vnil,vnil,vnil,vnil,vnil] 39 (by simp)).below hb (by simp));have HB1:=hid ((bx1 w _).trans (hb.mono (by simp)));have O1:=hid o1;have O2:=hid o2;have AP:=hid hap;clear o1 o2 hap hb;obtain⟨⟨r0,r1,r2,r3,r4⟩,f0,f1,f2,f3,f4⟩:=HR.out.five;have hz1:=HR.out.lt
 go_wp2_with fail
 clear r0 r1 r2 r3 r4 f0 f1 f2 f3 f4;obtain⟨W2,hW2⟩:∃W2,W2=w1.alloc (.cells #[.slice (some ⟨g,wa,none⟩) 64 wc,.slice (some ⟨ga,go,none⟩) 6 gc,.slice none 0 0,.slice none 0 0,.slice none 0 0] 39):=⟨_,rfl⟩
 rw[←hW2];have hb2:Below w1.heap.size w1 W2:=by rw[hW2];exact bx1 _ _
 have hz2:W2.heap.size=w1.heap.size+1:=by rw[hW2];simp
 have HS:=hid (show Bx W2 w1.heap.size [.slice (some ⟨g,wa,none⟩) 64 wc,.slice (some ⟨ga,go,none⟩) 6 gc,vnil,vnil,vnil] by rw[hW2];exact Bx.new w1 #[.slice (some ⟨g,wa,none⟩) 64 wc,.slice (some ⟨ga,go,none⟩) 6 gc,vnil,vnil,vnil] _ (by simp));have HR2:=hid (HR.out.below hb2 hz1);have HB2:=hid hb2;have HZ2:=hid hz2;clear hW2 hb2 HR hz2
 go_loopw [4] (fun i wr=>∃(k:Nat) (u:Value),i=.int .i64 k∧k≤3∧Owns wr (w1.heap.size+1) 48 4 rowP u (List.replicate k ((0,3):Int×Int))∧Below w1.heap.size W2 wr∧Bx wr w.heap.size [vnil,vnil,vnil,vnil,vnil]∧Bx wr w1.heap.size [.slice (some ⟨g,wa,none⟩) 64 wc,.slice (some ⟨ga,go,none⟩) 6 gc,u,vnil,vnil]∧w1.heap.size+1≤wr.heap.size) (fun i _=>3 - (intOf i).toNat)
 case atStart=>exact⟨0,_,rfl,by omega,Owns.zero,Below.refl _ _,HR2.out,HS.out,by have:=HZ2.out;omega⟩
 case round=>
  clear HS HR2;obtain⟨k,u,rfl,hk3,hown,hbl,hr,hs,hsz⟩:=hrel;have HOW:=hid hown;have HBL:=hid hbl;have HR:=hid hr;have HS:=hid hs;have HSZ:=hid hsz;clear hown hbl hr hs hsz;have hrep:=hid (show List.replicate k ((0,3):Int×Int)++[(0,3)]=List.replicate (k+1) (0,3) from by rw[List.replicate_succ']);have hlr:=hid (show(List.replicate k ((0,3):Int×Int)).length=k from by simp);obtain⟨⟨s0,s1,s2,s3,s4⟩,e0,e1,e2,e3,e4⟩:=HS.out.five;have hsl:=HS.out.lt;by_cases hlt:k<3
  ·go_wp2_with (at_builtin;go_must (refine wpList_push elem_portY rowP rowP_len rowP_one wr rfl _ _ rfl (w1.heap.size+1) _ _ (0,3) (by rfl) HOW.out _ (by rfl) (by rfl) (by rw[hlr.out];omega) (by rw[hlr.out];omega) HSZ.out ?_);intro v' w3 hown1 hb1;rw[hrep.out]at hown1;obtain⟨va,vc,hv', hvc1,hvc2⟩:=hown1.shape;rw[List.length_replicate]at hv';subst hv';have HS3:=hid (HS.out.below hb1 (by omega));have HR3:=hid (HR.out.below hb1 (by omega));obtain⟨⟨s0,s1,s2,s3,s4⟩,e0,e1,e2,e3,e4⟩:=HS3.out.five;have hsl3:=HS3.out.lt;have HO1:=hid hown1;have HB1':=hid hb1;clear hown1 hb1)
   go_roundw
   case rel=>exact⟨k+1,_,by go_num,by omega,HO1.out.set' _ _ _ (fun j hj=>by have:=(OwnR.lt HO1.out j hj).1;omega),(HBL.out.trans (HB1'.out.mono (by omega))).setCell (by exact Nat.le_refl _) _,HR3.out.kept (Below.heap_setCell _ _ _ _ (by show w.heap.size≠w1.heap.size;omega)),HS3.out.set 2 (by simp) _,by have:=HB1'.out.size;have:=HSZ.out;simp[World.setCell];omega⟩
   case measure=>simp[intOf];omega
  ·obtain rfl:k=3:=by omega
   go_wp2_with fail
   obtain⟨wo,hwo⟩:∃W,W=wr:=⟨_,rfl⟩
   subst hwo;have hz3:w1.heap.size<wo.heap.size:=hsl;clear s0 s1 s2 s3 s4 e0 e1 e2 e3 e4;have hc3:((3:Nat):Int)=3:=rfl;simp only[hc3];clear hc3
   go_loopw [13] (fun i wx=>∃(k:Nat) (v:Value),i=.int .i64 k∧k≤4∧Owns wx wo.heap.size 94 3 rowS v (List.replicate k (2:Int))∧Owns wx (w1.heap.size+1) 48 4 rowP u (List.replicate 3 ((0,3):Int×Int))∧Below w1.heap.size W2 wx∧Bx wx w.heap.size [vnil,vnil,vnil,vnil,vnil]∧Bx wx w1.heap.size [.slice (some ⟨g,wa,none⟩) 64 wc,.slice (some ⟨ga,go,none⟩) 6 gc,u,v,vnil]∧wo.heap.size≤wx.heap.size) (fun i _=>4 - (intOf i).toNat)
   case atStart=>exact⟨0,_,rfl,by omega,Owns.zero,HOW.out,HBL.out,HR.out,HS.out,Nat.le_refl _⟩
   case round=>
    have hul:=hid (fun j hj=>(OwnR.lt HOW.out j hj).2);clear HBL HR HS;obtain⟨k,v,rfl,hk4,hown,hop,hbl,hr,hs,hsz⟩:=hrel;have HOS:=hid hown;have HOP:=hid hop;have HBL:=hid hbl;have HR:=hid hr;have HS:=hid hs;have HSZ2:=hid hsz;clear hown hop hbl hr hs hsz;have hrep:=hid (show List.replicate k (2:Int)++[2]=List.replicate (k+1) 2 from by rw[List.replicate_succ']);have hlr:=hid (show(List.replicate k (2:Int)).length=k from by simp);obtain⟨⟨s0,s1,s2,s3,s4⟩,e0,e1,e2,e3,e4⟩:=HS.out.five;have hsl:=HS.out.lt;by_cases hlt4:k<4
    ·have hle3:(k:Int)≤3:=by omega
     go_wp2_with (at_builtin;go_must (refine wpList_push elem_slaveY rowS rowS_len rowS_one _ rfl _ _ rfl wo.heap.size _ _ 2 (by rfl) HOS.out _ (by rfl) (by rfl) (by rw[hlr.out];omega) (by rw[hlr.out];omega) HSZ2.out ?_);intro v' w3 hown1 hb1;rw[hrep.out]at hown1;obtain⟨va,vc,hv', hvc1,hvc2⟩:=hown1.shape;rw[List.length_replicate]at hv';subst hv';have HS3:=hid (HS.out.below hb1 (by omega));have HR3:=hid (HR.out.below hb1 (by omega));have HOP3:=hid (OwnR.below HOP.out hb1 (fun j hj=>hul.out j hj));obtain⟨⟨s0,s1,s2,s3,s4⟩,e0,e1,e2,e3,e4⟩:=HS3.out.five;have hsl3:=HS3.out.lt;have HO1:=hid hown1;have HB1':=hid hb1;clear hown1 hb1)
     go_roundw
     case rel=>exact⟨k+1,_,by go_num,by omega,HO1.out.set' _ _ _ (fun j hj=>by have:=(OwnR.lt HO1.out j hj).1;omega),Owns.set' HOP3.out _ _ _ (fun j hj=>by have:=(OwnR.lt HOP3.out j hj).1;omega),(HBL.out.trans (HB1'.out.mono (by omega))).setCell (by exact Nat.le_refl _) _,HR3.out.kept (Below.heap_setCell _ _ _ _ (by show w.heap.size≠w1.heap.size;omega)),HS3.out.set 3 (by simp) _,by have:=HB1'.out.size;have:=HSZ2.out;simp[World.setCell];omega⟩
     case measure=>simp[intOf];omega
    ·obtain rfl:k=4:=by omega
     obtain⟨pa,pc,rfl,_,_⟩:=HOP.out.shape;obtain⟨sa,sc,rfl,_,_⟩:=HOS.out.shape;simp only[List.length_replicate]at *;have O1W:=hid (OwnR.below (O1.out.below HB2.out) HBL.out (fun j hj=>(OwnR.lt O1.out j hj).2));have O2W:=hid (OwnR.below (O2.out.below HB2.out) HBL.out (fun j hj=>(OwnR.lt O2.out j hj).2));have hg1:∀j,(Value.slice (some ⟨g,wa,none⟩) 64 wc).ownBlock=some j→w.heap.size+1≤j∧j<w1.heap.size:=fun j hj=>by have:=OwnR.lt O1.out j hj;simpa using this
     have hg2:∀j,(Value.slice (some ⟨ga,go,none⟩) 6 gc).ownBlock=some j→w.heap.size+1≤j∧j<w1.heap.size:=fun j hj=>by have:=OwnR.lt O2.out j hj;simpa using this
     have hg3:∀j,(Value.slice pa 3 pc).ownBlock=some j→w1.heap.size+1≤j∧j<wo.heap.size:=fun j hj=>⟨(OwnR.lt HOP.out j hj).1,hul.out j hj⟩
     have hg4:∀j,(Value.slice sa 4 sc).ownBlock=some j→wo.heap.size≤j:=fun j hj=>(OwnR.lt HOS.out j hj).1
     have HCY := hid (show CyO _ w.heap.size (.slice (some ⟨g, wa, none⟩) 64 wc) (.slice (some ⟨ga, go, none⟩) 6 gc) (.slice pa 3 pc) (.slice sa 4 sc) z64 z6 z3 z4 from
      ⟨OwnR.rebase O1W.out (show w.heap.size ≤ _ by simp), OwnR.rebase O2W.out (show w.heap.size ≤ _ by simp), OwnR.rebase HOP.out (show w.heap.size ≤ w1.heap.size + 1 by omega), OwnR.rebase HOS.out (show w.heap.size ≤ wo.heap.size by omega),
       AP.out,Apart.of_lt (m:=w1.heap.size) (fun j hj=>(hg1 j hj).2) (fun j hj=>by have:=hg3 j hj;omega),Apart.of_lt (m:=w1.heap.size) (fun j hj=>(hg1 j hj).2) (fun j hj=>by have:=hg4 j hj;omega),
       Apart.of_lt (m:=w1.heap.size) (fun j hj=>(hg2 j hj).2) (fun j hj=>by have:=hg3 j hj;omega),Apart.of_lt (m:=w1.heap.size) (fun j hj=>(hg2 j hj).2) (fun j hj=>by have:=hg4 j hj;omega),Apart.of_lt (m:=wo.heap.size) (fun j hj=>(hg3 j hj).2) (fun j hj=>hg4 j hj)⟩)
     clear hg1 hg2 hg3 hg4;obtain⟨⟨s0,s1,s2,s3,s4⟩,_⟩:=HS.out.five
     go_wp2_with fail
     clear s0 s1 s2 s3 s4;obtain⟨PP,QQ,hvv⟩:=HCY.out.toV;refine(cycCopyV_any hvv (Nat.le_refl _) small_zero).mono ?_;rintro e w5 hcop;obtain⟨V,N,C,D,y0,y1,y2,y3,y4,m0,m1,m2,m3,m4,j0,j1,j2,j3,j4,hE,rfl,hC,hb5⟩:=hcop.sl;have HC5:=hid hC;have HB5:=hid hb5;have HE:=hid hE;clear hC hb5 hcop hE hvv;have HR5:=hid (HR.out.below HB5.out HR.out.lt);obtain⟨⟨r0,r1,r2,r3,r4⟩,f0,f1,f2,f3,f4⟩:=HR5.out.five;have hrl:=HR.out.lt;have hr5:=HR5.out.lt;have hbE:Below w.heap.size w w5:=((HB1.out.trans (HB2.out.mono (by omega))).trans (HBL.out.mono (by omega))).trans (HB5.out.mono (by omega));have HBE:=hid hbE;clear hbE
     go_wp2_with fail
     refine bodyPost_ret (zB3 Tryz.results10 _ _ ⟨w.heap.size,0,none⟩ (.agg #[.slice y0 m0 j0,.slice y1 m1 j1,.slice y2 m2 j2,.slice y3 m3 j3,.slice y4 m4 j4]) rfl (loadVar_cyc _ _ _ _ _ _ _ (by simp[go_sem, *]) (by simp[go_sem, *]) (by simp[go_sem, *]) (by simp[go_sem, *]) (by simp[go_sem, *]))) rfl ?_;exact CopP.out HE.out HC5.out HBE.out w.heap.size (by omega) (Nat.le_refl _)
theorem CopP.view {c:Cfg} (hb:Bus c) {st:Cy} (hg:Good c st) {w:World} {e:Ending} {w':World} (h:CopP st w e w'):∃b0 b1 b2 b3 b4 n0 n1 n2 n3 n4 k0 k1 k2 k3 k4 P Q,e=.returned (.agg #[.slice b0 n0 k0,.slice b1 n1 k1,.slice b2 n2 k2,.slice b3 n3 k3,.slice b4 n4 k4])∧CyV w' w'.heap.size (.slice b0 n0 k0) (.slice b1 n1 k1) (.slice b2 n2 k2) (.slice b3 n3 k3) (.slice b4 n4 k4) st P Q∧Below w.heap.size w w':=by
 obtain⟨V,N,C,D,rfl,hr,hbl⟩:=h;obtain⟨P,Q,hv⟩:=hr.toV hb hg;obtain⟨b0,b1,b2,b3,b4,n0,n1,n2,n3,n4,k0,k1,k2,k3,k4,e0,e1,e2,e3,e4⟩:=hv.sl;rw[e0,e1,e2,e3,e4]at hv;exact⟨b0,b1,b2,b3,b4,n0,n1,n2,n3,n4,k0,k1,k2,k3,k4,P,Q,by rw[e0,e1,e2,e3,e4],hv,hbl⟩
def PlayP (w:World) (e:Ending) (w':World):Prop:=∃u v c ins,e=.returned (.tuple #[u,v])∧Bus c∧BusV w' w'.heap.size u c∧Ins w' w'.heap.size v ins∧ins.length≤89∧Below w.heap.size w w'
def DrawPl:Prop:=∀(v:Value) (bs:List Nat) (B:Nat) (w:World),Bytes w B v bs→B≤w.heap.size→Calls Tryz.prog 9 #[v] w (PlayP w)
end Go.Proofs.YtgkdoehkmbhfiaaGreat
