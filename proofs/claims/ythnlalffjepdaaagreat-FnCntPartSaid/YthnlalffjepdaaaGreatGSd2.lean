/- copyJobs: jobs with what was told, copied. -/
import Derived.Test.YthnlalffjepdaaaGreatGWk
import Derived.Test.YthnlalffjepdaaaGreatGTl
import Derived.Test.YthnlalffjepdaaaGreatGMy
import Derived.Test.YthnlalffjepdaaaGreatGE1
import Derived.Test.YthnlalffjepdaaaGreatGLib
import Derived.Test.YthnlalffjepdaaaGreatGClInt
import Derived.Test.YthnlalffjepdaaaGreatGDr2
import Derived.Outline
import Derived.Maps.OwnSet
import Derived.DeepKeys4
import Derived.BigGuardPart
import Derived.Deep.QuietTactic
import Derived.BigQuiet
import Derived.Deep.Cut
import Derived.Deep.CutRange
import Derived.Deep.RegionHeld3
import Derived.Deep.RegionWith
import Derived.StillTailTactics
set_option linter.unusedVariables false
set_option linter.unusedSimpArgs false
set_option maxHeartbeats 16000000
namespace Go.Proofs.YthnlalffjepdaaaGreat
open Go.RowKit
attribute [local go_sem ↓] Go.wp_at_zero Go.wp_at_succ
theorem Ints.touch {w w':World} {r:Nat} {v:Value} {xs:List Int} (h:Ints w w.heap.size v xs) (ht:Touch r w w') (hr:∀k,v.ownBlock=some k→k≠r):Ints w' w'.heap.size v xs :=
 (h.heap fun k hk hlt=>ht.block k hlt (hr k hk)).mono ht.size
theorem Ints.setc {w:World} {B:Nat} {v:Value} {xs:List Int} (h:Ints w B v xs) (g o:Nat) (u:Value) (hr:∀k,v.ownBlock=some k→k≠g):Ints (w.setCell ⟨g,o,none⟩ u) B v xs :=
 h.heap fun k hk _=>Below.heap_setCell _ _ _ _ (hr k hk)
end Go.Proofs.YthnlalffjepdaaaGreat
namespace Go.Proofs.YthnlalffjepdaaaGreat
open Go.RowKit
abbrev vnil:Value:=.slice none 0 0
def rowP (x:Int×Int):List Value:=[.int .i64 x.1,vnil,vnil,.int .i64 x.2]
def rowS (x:Int):List Value:=[vnil,vnil,.int .i64 x]
theorem rowP_len (x:Int×Int):(rowP x).length=4:=rfl
theorem rowS_len (x:Int):(rowS x).length=3:=rfl
theorem rowP_one (x:Int×Int):∀u∈rowP x,u.oneCell' = true:=by
 intro u hu;simp only[rowP,List.mem_cons,List.not_mem_nil,or_false]at hu;rcases hu with rfl|rfl|rfl|rfl <;> rfl
theorem rowS_one (x:Int):∀u∈rowS x,u.oneCell' = true:=by
 intro u hu;simp only[rowS,List.mem_cons,List.not_mem_nil,or_false]at hu;rcases hu with rfl|rfl|rfl <;> rfl
theorem elem_portY:Elem 42 52 4 64:=zF9 Tryz.underlying42 (z:=.agg #[.int .i64 0,.slice none 0 0,.slice none 0 0,.int .i64 0]) (by kernel_rfl) rfl (by omega)
theorem elem_slaveY:Elem 43 50 3 56:=zF9 Tryz.underlying43 (z:=.agg #[.slice none 0 0,.slice none 0 0,.int .i64 0]) (by kernel_rfl) rfl (by omega)
structure CyO (W:World) (lo:Nat) (a b p s:Value) (xs ys:List Int) (ps:List (Int×Int)) (ss:List Int):Prop where
 oa:Owns W lo 3 1 rowI a xs
 ob:Owns W lo 3 1 rowI b ys
 op:Owns W lo 52 4 rowP p ps
 os:Owns W lo 50 3 rowS s ss
 dab:Apart a b
 dap:Apart a p
 das:Apart a s
 dbp:Apart b p
 dbs:Apart b s
 dps:Apart p s
theorem CyO.kept {W W':World} {lo:Nat} {a b p s:Value} {xs ys:List Int} {ps:List (Int×Int)} {ss:List Int} (h:CyO W lo a b p s xs ys ps ss) (hk:∀k,lo≤k→k<W.heap.size→W'.heap[k]? = W.heap[k]?):CyO W' lo a b p s xs ys ps ss :=
  { h with oa := OwnR.kept h.oa fun k hk2 => hk k (OwnR.lt h.oa k hk2).1 (OwnR.lt h.oa k hk2).2
           ob:=OwnR.kept h.ob fun k hk2=>hk k (OwnR.lt h.ob k hk2).1 (OwnR.lt h.ob k hk2).2
           op:=OwnR.kept h.op fun k hk2=>hk k (OwnR.lt h.op k hk2).1 (OwnR.lt h.op k hk2).2
           os:=OwnR.kept h.os fun k hk2=>hk k (OwnR.lt h.os k hk2).1 (OwnR.lt h.os k hk2).2 }
theorem CyO.below {W W':World} {lo:Nat} {a b p s:Value} {xs ys:List Int} {ps:List (Int×Int)} {ss:List Int} (h:CyO W lo a b p s xs ys ps ss) (hb:Below W.heap.size W W'):CyO W' lo a b p s xs ys ps ss:=h.kept fun k _ hk=>hb.block k hk
theorem CyO.rebase {W:World} {lo lo':Nat} {a b p s:Value} {xs ys:List Int} {ps:List (Int×Int)} {ss:List Int} (h:CyO W lo a b p s xs ys ps ss) (hl:lo' ≤ lo):CyO W lo' a b p s xs ys ps ss :=
 { h with oa:=OwnR.rebase h.oa hl,ob:=OwnR.rebase h.ob hl,op:=OwnR.rebase h.op hl,os:=OwnR.rebase h.os hl }
abbrev z64:List Int:=List.replicate 64 0
abbrev z6:List Int:=List.replicate 6 (-1)
abbrev z3:List (Int×Int):=List.replicate 3 (0,3)
abbrev z4:List Int:=List.replicate 4 2
theorem Bx.five {W:World} {H:Nat} {a b c d e:Value} (h:Bx W H [a,b,c,d,e]):(W.cell? ⟨H,0,none⟩=some a∧W.cell? ⟨H,1,none⟩=some b∧W.cell? ⟨H,2,none⟩=some c∧W.cell? ⟨H,3,none⟩=some d∧W.cell? ⟨H,4,none⟩=some e)∧W.frozen? ⟨H,0,none⟩=false∧W.frozen? ⟨H,1,none⟩=false∧W.frozen? ⟨H,2,none⟩=false∧W.frozen? ⟨H,3,none⟩=false∧W.frozen? ⟨H,4,none⟩=false :=
 ⟨⟨h.c 0 (by simp),h.c 1 (by simp),h.c 2 (by simp),h.c 3 (by simp),h.c 4 (by simp)⟩,h.f 0 (by simp),h.f 1 (by simp),h.f 2 (by simp),h.f 3 (by simp),h.f 4 (by simp)⟩
theorem zL5 (w:World) (g:Nat) (a b c d e:Value) (h0:w.cell? ⟨g,0,none⟩=some a) (h1:w.cell? ⟨g,1,none⟩=some b) (h2:w.cell? ⟨g,2,none⟩=some c) (h3:w.cell? ⟨g,3,none⟩=some d) (h4:w.cell? ⟨g,4,none⟩=some e):(loadVar 46 ⟨g,0,none⟩).run Tryz.prog w=.ok (.agg #[a,b,c,d,e]) w:=by
 simp[loadVar,go_sem,h0,h1,h2,h3,h4]
end Go.Proofs.YthnlalffjepdaaaGreat
namespace Go.Proofs.YthnlalffjepdaaaGreat
open Go.RowKit
theorem zH8 (w:World) (o:Obj) {k:Nat} (h:k<w.heap.size):(w.alloc o).heap[k]? = w.heap[k]?:=((Below.refl w.heap.size w).alloc (Nat.le_refl _) o).block k h
def DFreeS (V:Nat→Value) (S:Nat) (w:World) (b:Nat):Prop:=b<w.heap.size∧Free V b∧b≠S
structure CyB (w:World) (base S:Nat) (X:Nat→Prop) (st:Cy) (V:Nat→Value) (N:Nat→Nat) (C:Nat→List Value) (D:Nat→List TJV):Prop where
 raw:Raw w base V N C
 con:Cont st [] V N C D
 v19:V 19=vnil
 bs:w.heap[S]? = some (.cells #[V 0,V 1,V 2,V 3,V 4] 46 (0,0))
 fs:Free V S
 s0:base≤S
 lx:∀b,¬X b→b<w.heap.size
 dat:∀κ,κ<20→∀x∈D κ,IntsD w (fun b=>DFreeS V S w b∧X b) x.2 x.1.rsp.data
theorem IntsD.own {w:World} {P:Nat→Prop} {v:Value} {xs:List Int} (h:IntsD w P v xs) (hn:xs≠[]) {b:Nat} (hb:v.ownBlock=some b):P b:=by
 obtain⟨⟨ao,cap,rfl,h1,h2,h0,h9,h3⟩,hx⟩:=h;obtain⟨b2,off,rfl,hP,hc⟩:=h3 (by simpa using hn);simp only[Value.ownBlock,Option.some.injEq]at hb
 rwa [←hb]
theorem IntsD.more {w:World} {P Q:Nat→Prop} {v:Value} {xs:List Int} (h:IntsD w P v xs) (hq:xs≠[]→∀b,v.ownBlock=some b→P b→Q b):IntsD w Q v xs:=by
 obtain⟨⟨ao,cap,rfl,h1,h2,h0,h9,h3⟩,hx⟩:=h;refine⟨⟨ao,cap,rfl,h1,h2,h0,h9,fun hn=>?_⟩,hx⟩;obtain⟨b2,off,rfl,hP,hc⟩:=h3 hn;exact⟨b2,off,rfl,hq (by simpa using hn) b2 rfl hP,hc⟩
open Classical in
noncomputable def LX (X:Nat→Prop) (q:Nat):Nat→Value:=fun i=>if 4≤i∧(¬X (i - 4)∨i - 4=q) then .slice (some ⟨i - 4,0,none⟩) 0 0 else .int .i64 0
theorem LX_own {X:Nat→Prop} {q i b:Nat} (h:(LX X q i).ownBlock=some b):¬X b∨b=q:=by
 unfold LX at h
 split at h
 ·rename_i h2;simp only[Value.ownBlock,Option.some.injEq]at h;subst h;exact h2.2
 ·simp[Value.ownBlock]at h
theorem LX_at {X:Nat→Prop} {q b:Nat} (h:¬X b∨b=q):(LX X q (b+4)).ownBlock=some b:=by
 unfold LX;rw[if_pos ⟨by omega,by simpa using h⟩];simp[Value.ownBlock]
theorem LX_low {X:Nat→Prop} {q i:Nat} (h:i<4):LX X q i=.int .i64 0:=by unfold LX;rw[if_neg (by omega)]
theorem letsLX (X:Nat→Prop) (q:Nat) (l:Nat→Nat) {s:Nat} (hs:s<4):letsV (LX X q) l s=.int .i64 (l s:Nat):=by unfold letsV;rw[LX_low hs];split <;> simp_all
theorem lets_hi (c:Cfg) (inp:Inp) (st:Cy) {i:Nat} (hi:4≤i):lets c inp st i=0:=by
 unfold lets zD2;refine zB5 (P:=fun y:Lt=>y.lets i=0) 4 _ rfl fun s y hs hy=>?_
 unfold let1
 repeat' split
 all_goals first|exact hy|(simp only[letDo,zA0 _ _ (show i≠s by omega)];exact hy)
theorem CyB.openH {w w' : World} {base S : Nat} {X : Nat → Prop} {st : Cy} {V : Nat → Value} {N : Nat → Nat} {C : Nat → List Value} {D : Nat → List TJV} (h : CyB w base S X st V N C D) (hb : Below w.heap.size w w') {Hb q : Nat} (hH : w.heap.size ≤ Hb) (hq : w.heap.size ≤ q) (hq2 : q < w'.heap.size)
  (hbh:w'.heap[Hb]? = some (.cells #[vnil,.int .i64 0,.int .i64 0,.int .i64 0,.int .i64 0] 116 (0,0))):CyM w' base S Hb (LX X q) st [] V N C D:=by
 have hS:=zA2 h.bs;refine⟨h.raw.below hb,h.con,(hb.block S hS).trans h.bs,by rw[h.v19,LX_low (by omega),LX_low (by omega),LX_low (by omega),LX_low (by omega)];exact hbh,h.fs,fun κ hκ e=>by have:=(h.raw.lt hκ e).2;omega,by omega,h.s0,Nat.le_trans h.s0 (by omega),fun i hi b hb2=>?_,fun κ hκ x hx=>⟨?_,fun hn i hi b hb1 hb2=>?_⟩⟩
 ·rcases LX_own hb2 with h1|rfl
  ·exact Nat.lt_of_lt_of_le (h.lx b h1) hb.size
  ·exact hq2
 ·exact((h.dat κ hκ x hx).kept fun b hb2=>hb.block b hb2.1.1).weak fun b hb2=>⟨Nat.lt_of_lt_of_le hb2.1.1 hb.size,hb2.1.2.1,hb2.1.2.2,by have:=hb2.1.1;omega⟩
 ·have h1:=(h.dat κ hκ x hx).own hn hb2;rcases LX_own hb1 with h2|rfl
  ·exact h2 h1.2
  ·have:=h1.1.1;omega
theorem CyM.dropH {w : World} {base S Hb : Nat} {L : Nat → Value} {st : Cy} {ev : List Ev} {V : Nat → Value} {N : Nat → Nat} {C : Nat → List Value} {D : Nat → List TJV} (h : CyM w base S Hb L st ev V N C D) (X : Nat → Prop) (hX : ∀ b, ¬ X b → b < w.heap.size ∧ ∃ i, 4 ≤ i ∧ (L i).ownBlock = some b) :
  CyB w base S X st (upd V 19 vnil) (upd N 19 0) (upd C 19 []) D∧∀b,(V 19).ownBlock=some b→DFreeS (upd V 19 vnil) S w b:=by
 have hf:∀b,Free V b→Free (upd V 19 vnil) b:=fun b hb κ hκ=>by
  by_cases e:κ=19
  ·subst e;rw[zA1];simp[vnil,Value.ownBlock]
  ·rw[zA0 _ _ e];exact hb κ hκ
 refine⟨⟨h.raw.chg (κ:=19) (by omega) (fun _ _ _=>rfl) ⟨by simp,.inl ⟨rfl,rfl⟩⟩ (fun k hk=>by simp[vnil,Value.ownBlock]at hk),h.con.evts vnil [],zA1 _ _ _,?_,hf _ h.fs,h.s0,fun b hb=>(hX b hb).1,fun κ hκ x hx=>(h.dat κ hκ x hx).1.more fun hn b hb1 hb=>⟨⟨hb.1,hf b hb.2.1,hb.2.2.1⟩,Classical.byContradiction fun hnx=>?_⟩⟩,fun b hb=>⟨(h.raw.lt (by omega) hb).2,fun κ hκ=>?_,fun e=>h.fs 19 (by omega) (by rw[hb,e])⟩⟩
 ·simp only[zA0 V vnil (show(0:Nat)≠19 by omega),zA0 V vnil (show(1:Nat)≠19 by omega),zA0 V vnil (show(2:Nat)≠19 by omega),zA0 V vnil (show(3:Nat)≠19 by omega),zA0 V vnil (show(4:Nat)≠19 by omega)];exact h.bs
 ·obtain⟨_,i,hi,e⟩:=hX b hnx;exact(h.dat κ hκ x hx).2 hn i hi b e hb1
 ·by_cases e:κ=19
  ·subst e;rw[zA1];simp[vnil,Value.ownBlock]
  ·rw[zA0 _ _ e];exact fun hk=>h.raw.ap κ 19 hκ (by omega) e b hk hb
theorem CyM.clear {w w' : World} {base S Hb : Nat} {L : Nat → Value} {st : Cy} {ev : List Ev} {V : Nat → Value} {N : Nat → Nat} {C : Nat → List Value} {D : Nat → List TJV} (h : CyM w base S Hb L st ev V N C D) {g i : Nat} (hi : 4 ≤ i) (hg : (L i).ownBlock = some g) (hf : Free V g) (hS : g ≠ S) (hH : g ≠ Hb)
  (hk:∀b,b≠g→w'.heap[b]? = w.heap[b]?) (hz:w'.heap.size=w.heap.size):CyM w' base S Hb L st ev V N C D :=
 ⟨h.raw.kept fun b _ hb => hk b (fun e => hb (by rw [e]; exact hf)), h.con, (hk S (Ne.symm hS)).trans h.bs, (hk Hb (Ne.symm hH)).trans h.bh, h.fs, h.fh, h.ne, h.s0, h.h0, fun j hj b hb => by rw [hz]; exact h.lx j hj b hb, fun κ hκ x hx =>
  ⟨(((h.dat κ hκ x hx).1.more (Q:=fun b=>DFree V S Hb w b∧b≠g) fun hn b hb1 hb=>⟨hb,fun e=>(h.dat κ hκ x hx).2 hn i hi g hg (by rw[←e];exact hb1)⟩).kept fun b hb=>hk b hb.2).weak fun b hb=>⟨by rw[hz];exact hb.1.1,hb.1.2⟩,(h.dat κ hκ x hx).2⟩⟩
theorem CyB.keep {w w':World} {base S:Nat} {X:Nat→Prop} {st:Cy} {V:Nat→Value} {N:Nat→Nat} {C:Nat→List Value} {D:Nat→List TJV} (h:CyB w base S X st V N C D) (hk:∀b,b<w.heap.size→X b∨¬Free V b∨b=S→w'.heap[b]? = w.heap[b]?) (hz:w.heap.size≤w'.heap.size):CyB w' base S X st V N C D :=
 ⟨h.raw.kept fun b hb hf=>hk b hb (.inr (.inl hf)),h.con,h.v19,(hk S (zA2 h.bs) (.inr (.inr rfl))).trans h.bs,h.fs,h.s0,fun b hb=>Nat.lt_of_lt_of_le (h.lx b hb) hz,fun κ hκ x hx=>((h.dat κ hκ x hx).kept fun b hb=>hk b hb.1.1 (.inl hb.2)).weak fun b hb=>⟨⟨Nat.lt_of_lt_of_le hb.1.1 hz,hb.1.2⟩,hb.2⟩⟩
theorem CyB.below {w w':World} {base S:Nat} {X:Nat→Prop} {st:Cy} {V:Nat→Value} {N:Nat→Nat} {C:Nat→List Value} {D:Nat→List TJV} (h:CyB w base S X st V N C D) (hb:Below w.heap.size w w'):CyB w' base S X st V N C D:=h.keep (fun b hlt _=>hb.block b hlt) hb.size
def StepP (base S:Nat) (X:Nat→Prop) (c:Cfg) (inp:Inp) (st:Cy) (V:Nat→Value) (w:World) (e:Ending) (w':World):Prop :=
 ∃ V' N' C' D' ve, e = .returned (.agg #[ve, .int .i64 (lets c inp st 0 : Nat), .int .i64 (lets c inp st 1 : Nat), .int .i64 (lets c inp st 2 : Nat), .int .i64 (lets c inp st 3 : Nat)]) ∧
  CyB w' base S X (cyc c inp st) V' N' C' D' ∧ (∀b,DFreeS V S w b→w'.heap[b]? = w.heap[b]? ∧ DFreeS V' S w' b∧ve.ownBlock≠some b)∧Below base w w' ∧
  Owns w' base 66 3 evRow ve (evs c inp st)∧(∀b,ve.ownBlock=some b→DFreeS V' S w' b)
theorem tellAll_len (inp:Inp) (x:Cy×List Ev):(zB2 inp x).2.length≤x.2.length+3:=by
 have h0:=tell1_len inp 0 x;have h1:=tell1_len inp 1 (tell1 inp 0 x);have h2:=tell1_len inp 2 (tell1 inp 1 (tell1 inp 0 x));show(tell1 inp 2 (tell1 inp 1 (tell1 inp 0 x))).2.length≤_;omega
theorem workAll_len (c:Cfg) (inp:Inp) (x:Cy×List Ev):(zA9 c inp x).2.length≤x.2.length+4:=by
 have h0:=work1_len c inp 0 x;have h1:=work1_len c inp 1 (work1 c inp 0 x);have h2:=work1_len c inp 2 (work1 c inp 1 (work1 c inp 0 x));have h3:=work1_len c inp 3 (work1 c inp 2 (work1 c inp 1 (work1 c inp 0 x)));show(work1 c inp 3 (work1 c inp 2 (work1 c inp 1 (work1 c inp 0 x)))).2.length≤_;omega
set_option maxRecDepth 8000 in
theorem step_any {c : Cfg} (hbus : Bus c) {w : World} {base S : Nat} {X : Nat → Prop} {st : Cy} {V : Nat → Value} {N : Nat → Nat} {C : Nat → List Value} {D : Nat → List TJV} (hm : CyB w base S X st V N C D) (hg : Good c st) {inp : Inp} {v u : Value} {B : Nat} (hc : BusV w B u c) (hin : InV w B v inp) (hB : B ≤ base) :
  Calls Tryz.prog 66 #[.pointer (some ⟨S,0,none⟩),u,v] w (StepP base S X c inp st V w):=by
 have HIN:=hid hin;have HC:=hid hc;have HM:=hid hm;obtain⟨⟨ra,rc,ta,tc,sa,sc,rfl,hr1,hr2,hr3⟩,hl1,hl2,hl3⟩:=hin;obtain⟨mv,lb,lo,lc,pb,po', pc', Q,K,rfl,⟨ma,mn,mk,rfl⟩,hms,hlb,hpb', hlat,hprog,hreq⟩:=hc.opened hbus;have hS:=zA2 hm.bs;have hbw:base≤w.heap.size:=Nat.le_trans hm.s0 (Nat.le_of_lt hS);clear hr1 hr2 hr3 hl1 hl2 hl3 hms hlat hprog hreq hlb hc hm;obtain⟨w1,hw1⟩:∃W,W=(((w.alloc (.cells #[.slice ma mn mk,.slice (some ⟨lb,lo,none⟩) 4 lc,.slice (some ⟨pb,po', none⟩) 3 pc'] 27)).alloc (.cells #[.slice ra inp.ready.length rc,.slice ta inp.stall.length tc,.slice sa inp.send.length sc] 64)).alloc (.cells #[.slice none 0 0,.int .i64 0,.int .i64 0,.int .i64 0,.int .i64 0] 116)).alloc (.cells #[.slice none 0 0,.int .i64 0,.int .i64 0,.int .i64 0,.int .i64 0] 116):=⟨_,rfl⟩
 have hb1:Below w.heap.size w w1:=by rw[hw1];exact((((Below.refl _ _).alloc (Nat.le_refl _) _).alloc (by simp) _).alloc (by simp;omega) _).alloc (by simp;omega) _
 have hz1:w1.heap.size=w.heap.size+4:=by rw[hw1];simp
 have hh0:w1.heap[w.heap.size]? = some (.cells #[.slice ma mn mk,.slice (some ⟨lb,lo,none⟩) 4 lc,.slice (some ⟨pb,po', none⟩) 3 pc'] 27 (0,0)):=by
  rw[hw1,zH8 _ _ (by simp;omega),zH8 _ _ (by simp;omega),zH8 _ _ (by simp)];exact zA8 _ _ rfl
 have hh1:w1.heap[w.heap.size+1]? = some (.cells #[.slice ra inp.ready.length rc,.slice ta inp.stall.length tc,.slice sa inp.send.length sc] 64 (0,0)):=by
  rw[hw1,zH8 _ _ (by simp),zH8 _ _ (by simp)];exact zA8 _ _ (by simp)
 have hh2:w1.heap[w.heap.size+2]? = some (.cells #[.slice none 0 0,.int .i64 0,.int .i64 0,.int .i64 0,.int .i64 0] 116 (0,0)):=by
  rw[hw1,zH8 _ _ (by simp)];exact zA8 _ _ (by simp)
 have hh3:w1.heap[w.heap.size+3]? = some (.cells #[.slice none 0 0,.int .i64 0,.int .i64 0,.int .i64 0,.int .i64 0] 116 (0,0)):=by
  rw[hw1];exact zA8 _ _ (by simp)
 have hfr:∀b,w.heap.size≤b→b<w.heap.size+3→DFree V S (w.heap.size+3) w1 b:=fun b h1 h2=>⟨by omega,fun κ hκ e=>by have:=(HM.out.raw.lt hκ e).2;omega,by omega,by omega⟩
 have hm1:=HM.out.openH hb1 (Hb:=w.heap.size+3) (q:=w.heap.size+2) (by omega) (by omega) (by omega) hh3;have HM1:=hid hm1;have HI1:=hid (HIN.out.below (hb1.mono (Nat.le_trans hB hbw)));have HC1:=hid (HC.out.below (hb1.mono (Nat.le_trans hB hbw)));have HW1:=hid (show Below base w w1 from hb1.mono hbw);have H0:=hid hh0;have H1:=hid hh1;have H2:=hid hh2;have F0:=hid (hfr w.heap.size (by omega) (by omega));have F1:=hid (hfr (w.heap.size+1) (by omega) (by omega));have F2:=hid (hfr (w.heap.size+2) (by omega) (by omega));have HOLD:=hid (show ∀b,DFreeS V S w b→w1.heap[b]? = w.heap[b]? ∧ DFree V S (w.heap.size+3) w1 b from fun b hb=>⟨hb1.block b hb.1,by have:=hb.1;omega,hb.2.1,hb.2.2,by have:=hb.1;omega⟩);have hwz:w.heap.size<w1.heap.size∧w.heap.size+1<w1.heap.size:=by omega
 clear hh2 hh3 hfr hm1 hb1;have G1:=hid (good_tellAll (inp:=inp) (x:=(st,[])) hg);have G2:=hid (good_workAll hbus (inp:=inp) G1.out);have G3:=hid (good_letAll G2.out);have L1:=hid (tellAll_len inp (st,[]));have L2:=hid (workAll_len c inp (zB2 inp (st,[])));have L3:=hid (show(zB2 inp (st,[])).2.length≤500 by have h1:=L1.out;have h2:([]:List Ev).length=0:=rfl;simp only at h1;omega);have L4:=hid (show(zA9 c inp (zB2 inp (st,[]))).2.length≤500 by have h1:=L1.out;have h3:=L2.out;have h2:([]:List Ev).length=0:=rfl;simp only at h1;omega);have hgg:=hid hg;clear hg;obtain⟨i0,i1,i2⟩:w1.cell? ⟨w.heap.size+1,0,none⟩=some (.slice ra inp.ready.length rc)∧w1.cell? ⟨w.heap.size+1,1,none⟩=some (.slice ta inp.stall.length tc)∧w1.cell? ⟨w.heap.size+1,2,none⟩=some (.slice sa inp.send.length sc):=by refine⟨?_,?_,?_⟩ <;> simp[World.cell?,hh1]
 clear hh0 hh1
 go_enter Tryz.func66,Tryz.ntmps66
 go_upto_region 2 with fail
 rw[←hw1];clear hw1
 go_upto_region 3 with (first
  |(go_at_call 114;(with_reducible refine(tell_any hbus HM1.out hgg.out (by simp) HI1.out hB).mono ?_);rintro e w2 ⟨rfl,V2,N2,C2,D2,hm2,hk2,hb2⟩;have HM2:=hid hm2;have HK2:=hid hk2;have HB2:=hid hb2;clear hm2 hk2 hb2))
 have HI2:=hid (HI1.out.below (HB2.out.mono hB));have HC2:=hid (HC1.out.below (HB2.out.mono hB));clear i0 i1 i2;have hi2:w2.heap[w.heap.size+1]? = some (.cells #[.slice ra inp.ready.length rc,.slice ta inp.stall.length tc,.slice sa inp.send.length sc] 64 (0,0)):=((HK2.out _ F1.out).1).trans H1.out;obtain⟨i0,i1,i2⟩:w2.cell? ⟨w.heap.size+1,0,none⟩=some (.slice ra inp.ready.length rc)∧w2.cell? ⟨w.heap.size+1,1,none⟩=some (.slice ta inp.stall.length tc)∧w2.cell? ⟨w.heap.size+1,2,none⟩=some (.slice sa inp.send.length sc):=by refine⟨?_,?_,?_⟩ <;> simp[World.cell?,hi2]
 have hc2:BusB w2 w.heap.size ma mn mk lb lo lc pb po' pc':=((HK2.out _ F0.out).1).trans H0.out;obtain⟨b0,b1,b2,hbz2⟩:=hc2.cells;have hiz2:=zA2 hi2;clear hi2 hc2
 go_upto_region 4 with (first
  |(go_at_call 115;(with_reducible refine(work_any hbus HM2.out G1.out L3.out HC2.out HI2.out hB).mono ?_);rintro e w3 ⟨rfl,V3,N3,C3,D3,hm3,hk3,hb3⟩;have HM3:=hid hm3;have HK3:=hid hk3;have HB3:=hid hb3;clear hm3 hk3 hb3))
 have HC3:=hid (HC2.out.below (HB3.out.mono hB));have HI3:=hid (HI2.out.below (HB3.out.mono hB));have K3:=hid (HK2.out.trans HK3.out);clear b0 b1 b2 i0 i1 i2 hbz2 hiz2;have hc3:BusB w3 w.heap.size ma mn mk lb lo lc pb po' pc':=((K3.out _ F0.out).1).trans H0.out;obtain⟨b0,b1,b2,hbz3⟩:=hc3.cells;clear hc3
 go_upto_region 5 with (first
  |(go_at_call 116;(with_reducible refine(let_any hbus HM3.out G2.out HC3.out hB).mono ?_);rintro e w4 ⟨rfl,V4,N4,C4,D4,hm4,hk4,hb4⟩;have HM4:=hid hm4;have HK4:=hid hk4;have HB4:=hid hb4;clear hm4 hk4 hb4))
 have HC4:=hid (HC3.out.below (HB4.out.mono hB));have HI4:=hid (HI3.out.below (HB4.out.mono hB));have K4:=hid (K3.out.trans HK4.out);clear b0 b1 b2 hbz3;have hi4:w4.heap[w.heap.size+1]? = some (.cells #[.slice ra inp.ready.length rc,.slice ta inp.stall.length tc,.slice sa inp.send.length sc] 64 (0,0)):=((K4.out _ F1.out).1).trans H1.out;obtain⟨i0,i1,i2⟩:w4.cell? ⟨w.heap.size+1,0,none⟩=some (.slice ra inp.ready.length rc)∧w4.cell? ⟨w.heap.size+1,1,none⟩=some (.slice ta inp.stall.length tc)∧w4.cell? ⟨w.heap.size+1,2,none⟩=some (.slice sa inp.send.length sc):=by refine⟨?_,?_,?_⟩ <;> simp[World.cell?,hi4]
 have hc4:BusB w4 w.heap.size ma mn mk lb lo lc pb po' pc':=((K4.out _ F0.out).1).trans H0.out;obtain⟨b0,b1,b2,hbz4⟩:=hc4.cells;have hiz4:=zA2 hi4;clear hi4 hc4
 go_upto_region 6 with (first
  |(go_at_call 117;(with_reducible refine(ask_any hbus HM4.out G3.out L4.out HC4.out HI4.out hB).mono ?_);rintro e w5 ⟨rfl,V5,N5,C5,D5,hm5,hk5,hb5⟩;have HM5:Hid (CyM w5 base S (w.heap.size+3) (letsV (LX X (w.heap.size+2)) (lets c inp st)) (cyc c inp st) (evs c inp st) V5 N5 C5 D5):=hid hm5;have HK5:=hid hk5;have HB5:=hid hb5;clear hm5 hk5 hb5))
 have K5:=hid (K4.out.trans HK5.out);clear b0 b1 b2 i0 i1 i2 hbz4 hiz4;obtain⟨h0,h1,h2,h3,h4,hf⟩:=HM5.out.hbox;have hr5:w5.heap[w.heap.size+2]? = some (.cells #[.slice none 0 0,.int .i64 0,.int .i64 0,.int .i64 0,.int .i64 0] 116 (0,0)):=((K5.out _ F2.out).1).trans H2.out;obtain⟨r0,r1,r2,r3,r4⟩:w5.cell? ⟨w.heap.size+1+1,0,none⟩=some (.slice none 0 0)∧w5.cell? ⟨w.heap.size+1+1,1,none⟩=some (.int .i64 0)∧w5.cell? ⟨w.heap.size+1+1,2,none⟩=some (.int .i64 0)∧w5.cell? ⟨w.heap.size+1+1,3,none⟩=some (.int .i64 0)∧w5.cell? ⟨w.heap.size+1+1,4,none⟩=some (.int .i64 0):=by refine⟨?_,?_,?_,?_,?_⟩ <;> simp[World.cell?,hr5]
 have rf:∀o,w5.frozen? ⟨w.heap.size+1+1,o,none⟩=false:=fun o=>by simp[World.frozen?,hr5]
 have hrz:w.heap.size+1+1<w5.heap.size:=zA2 hr5;obtain⟨va,vc,hv5,_,_⟩:=HM5.out.oEv.shape;rw[hv5]at h0;rw[letsLX _ _ _ (by omega)]at h1 h2 h3 h4;have HV5:=hid hv5;have HR5:=hid hr5;clear hf hr5 hv5
 go_wp2_with fail
 obtain⟨w6,hw6⟩:∃W,W=((((w5.setCell ⟨w.heap.size+1+1,0,none⟩ (.slice va (evs c inp st).length vc)).setCell ⟨w.heap.size+1+1,1,none⟩ (.int .i64 (lets c inp st 0:Nat))).setCell ⟨w.heap.size+1+1,2,none⟩ (.int .i64 (lets c inp st 1:Nat))).setCell ⟨w.heap.size+1+1,3,none⟩ (.int .i64 (lets c inp st 2:Nat))).setCell ⟨w.heap.size+1+1,4,none⟩ (.int .i64 (lets c inp st 3:Nat)):=⟨_,rfl⟩
 rw[←hw6];have h6:w6.heap[w.heap.size+1+1]? = some (.cells #[.slice va (evs c inp st).length vc,.int .i64 (lets c inp st 0:Nat),.int .i64 (lets c inp st 1:Nat),.int .i64 (lets c inp st 2:Nat),.int .i64 (lets c inp st 3:Nat)] 116 (0,0)):=by
  have:=HR5.out;rw[hw6];simp[World.setCell,Array.getElem?_modify,this]
 have hk6:∀b,b≠w.heap.size+2→w6.heap[b]? = w5.heap[b]?:=fun b hb=>by
  rw[hw6,Below.heap_setCell _ _ _ _ hb,Below.heap_setCell _ _ _ _ hb,Below.heap_setCell _ _ _ _ hb,Below.heap_setCell _ _ _ _ hb,Below.heap_setCell _ _ _ _ hb]
 have hz6:w6.heap.size=w5.heap.size:=by rw[hw6];simp
 have hb6:Below base w5 w6:=by
  rw[hw6];have hb:base≤w.heap.size+1+1:=by omega
  exact(((((Below.refl _ _).setCell (p:=⟨w.heap.size+1+1,_,none⟩) hb _).setCell (p:=⟨w.heap.size+1+1,_,none⟩) hb _).setCell (p:=⟨w.heap.size+1+1,_,none⟩) hb _).setCell (p:=⟨w.heap.size+1+1,_,none⟩) hb _).setCell (p:=⟨w.heap.size+1+1,_,none⟩) hb _
 have FR:=hid (K5.out _ F2.out).2;have hm6:CyM w6 base S (w.heap.size+3) (letsV (LX X (w.heap.size+2)) (lets c inp st)) (cyc c inp st) (evs c inp st) V5 N5 C5 D5:=by
  refine HM5.out.clear (g:=w.heap.size+2) (i:=w.heap.size+2+4) (by omega) ?_ FR.out.2.1 FR.out.2.2.1 FR.out.2.2.2 hk6 hz6;unfold letsV;rw[if_pos (lets_hi _ _ _ (by omega))];exact LX_at (.inr rfl)
 obtain⟨c60,c61,c62,c63,c64⟩:w6.cell? ⟨w.heap.size+1+1,0,none⟩=some (.slice va (evs c inp st).length vc)∧w6.cell? ⟨w.heap.size+1+1,1,none⟩=some (.int .i64 (lets c inp st 0:Nat))∧w6.cell? ⟨w.heap.size+1+1,2,none⟩=some (.int .i64 (lets c inp st 1:Nat))∧w6.cell? ⟨w.heap.size+1+1,3,none⟩=some (.int .i64 (lets c inp st 2:Nat))∧w6.cell? ⟨w.heap.size+1+1,4,none⟩=some (.int .i64 (lets c inp st 3:Nat)):=by refine⟨?_,?_,?_,?_,?_⟩ <;> simp[World.cell?,h6]
 have hzz:w.heap.size≤w6.heap.size:=by
  rw[hz6];exact Nat.le_trans (show w.heap.size≤w1.heap.size by omega) (Nat.le_trans HB2.out.size (Nat.le_trans HB3.out.size (Nat.le_trans HB4.out.size HB5.out.size)))
 obtain ⟨hd1, hd2⟩ := hm6.dropH X fun b hb => ⟨Nat.lt_of_lt_of_le (HM.out.lx b hb) hzz, b + 4, by omega, by
  unfold letsV;rw[if_pos (lets_hi _ _ _ (by omega))];exact LX_at (.inl hb)⟩
 have hev:=hm6.oEv;rw[HV5.out]at hev hd2;refine bodyPost_end (v:=.agg #[.slice va (evs c inp st).length vc,.int .i64 (lets c inp st 0:Nat),.int .i64 (lets c inp st 1:Nat),.int .i64 (lets c inp st 2:Nat),.int .i64 (lets c inp st 3:Nat)]) (by simp[results,Tryz.results66,go_sem,c60,c61,c62,c63,c64]) rfl ⟨_,_,_,_,_,rfl,hd1,?_,((((HW1.out.trans HB2.out).trans HB3.out).trans HB4.out).trans HB5.out).trans hb6,hev,hd2⟩;intro b hb;obtain⟨o1,o2⟩:=HOLD.out b hb;obtain⟨q1,q2⟩:=K5.out b o2;have hne:b≠w.heap.size+2:=by have:=hb.1;omega
 refine⟨((hk6 b hne).trans q1).trans o1,⟨by rw[hz6];exact q2.1,fun κ hκ=>?_,hb.2.2⟩,by rw[←HV5.out];exact q2.2.1 19 (by omega)⟩;by_cases e:κ=19
 ·subst e;rw[zA1];simp[vnil,Value.ownBlock]
 ·rw[zA0 _ _ e];exact q2.2.1 κ hκ
end Go.Proofs.YthnlalffjepdaaaGreat
namespace Go.Proofs.YthnlalffjepdaaaGreat
def down {α : Type} [Inhabited α] (lt : α → α → Bool) : Nat → List α → List α
 |0,l=>l
 |j+1,l=>if lt (l.getD (j+1) default) (l.getD j default)=true then down lt j ((l.set (j+1) (l.getD j default)).set j (l.getD (j+1) default)) else l
def isort {α : Type} [Inhabited α] (lt : α → α → Bool) : Nat → List α → List α
 |0,l=>l
 |i+1,l=>down lt (i+1) (isort lt i l)
theorem down_less {α:Type} [Inhabited α] (lt:α→α→Bool) (j:Nat) (l:List α) (h:lt (l.getD (j+1) default) (l.getD j default)=true):down lt (j+1) l=down lt j ((l.set (j+1) (l.getD j default)).set j (l.getD (j+1) default)):=by
 show(if _ then _ else _)=_;rw[if_pos h]
theorem down_stop {α:Type} [Inhabited α] (lt:α→α→Bool) (j:Nat) (l:List α) (h:lt (l.getD (j+1) default) (l.getD j default)=false):down lt (j+1) l=l:=by
 show(if _ then _ else _)=_;rw[if_neg (by rw[h];simp)]
theorem down_len {α : Type} [Inhabited α] (lt : α → α → Bool) : ∀ (j : Nat) (l : List α), (down lt j l).length = l.length
 |0,_=>rfl
 |j+1,l=>by
  show(if _ then _ else _:List α).length=_
  split
  ·rw[down_len lt j];simp
  ·rfl
theorem isort_len {α : Type} [Inhabited α] (lt : α → α → Bool) : ∀ (i : Nat) (l : List α), (isort lt i l).length = l.length
 |0,_=>rfl
 |i+1,l=>by show(down lt (i+1) (isort lt i l)).length=_;rw[down_len,isort_len lt i l]
def insR {α : Type} (lt : α → α → Bool) (x : α) : List α → List α
 |[]=>[x]
 |y::r=>if lt x y=true then y::insR lt x r else x::y::r
theorem insR_perm {α : Type} (lt : α → α → Bool) (x : α) : ∀ r : List α, (insR lt x r).Perm (x :: r)
 |[]=>List.Perm.refl _
 |y::r=>by
  unfold insR
  split
  ·exact((insR_perm lt x r).cons y).trans (List.Perm.swap x y r)
  ·exact List.Perm.refl _
theorem down_ins {α : Type} [Inhabited α] (lt : α → α → Bool) (x : α) : ∀ (r s : List α), down lt r.length (r.reverse ++ x :: s) = (insR lt x r).reverse ++ s
 |[],s=>by simp[down,insR]
 |y::r,s=>by
  have e1:((y::r).reverse++x::s)=r.reverse++y::x::s:=by simp
  have g1:(r.reverse++y::x::s).getD (r.length+1) default=x:=by simp[List.getD,List.getElem?_append_right]
  have g0:(r.reverse++y::x::s).getD r.length default=y:=by simp[List.getD,List.getElem?_append_right]
  rw[e1];show down lt (r.length+1) _=_;rcases h:lt x y with _|_
  ·rw[down_stop lt _ _ (by rw[g1,g0];exact h)];simp[insR,h]
  ·rw[down_less lt _ _ (by rw[g1,g0];exact h),g1,g0];have e2:((r.reverse++y::x::s).set (r.length+1) y).set r.length x=r.reverse++x::y::s:=by
    rw[List.set_append_right _ _ (by simp),List.set_append_right _ _ (by simp)];simp
   rw[e2,down_ins lt x r (y::s)];simp[insR,h]
theorem down_perm {α:Type} [Inhabited α] (lt:α→α→Bool) (j:Nat) (l:List α) (h:j<l.length):(down lt j l).Perm l:=by
 have e:l=(l.take j).reverse.reverse++l.getD j default::l.drop (j+1):=by
  simp only[List.reverse_reverse];rw[List.getD_eq_getElem?_getD,List.getElem?_eq_getElem h,Option.getD_some,List.getElem_cons_drop,List.take_append_drop]
 have hj:j=(l.take j).reverse.length:=by simp;omega
 have:=down_ins lt (l.getD j default) (l.take j).reverse (l.drop (j+1));rw[←hj,←e]at this;rw[this];refine((List.reverse_perm _).append_right _).trans ?_;refine((insR_perm lt _ _).append_right _).trans ?_
 conv=>rhs;rw[e]
 simp only[List.reverse_reverse,List.cons_append];exact(((List.reverse_perm (l.take j)).append_right _).cons _).trans (List.perm_middle.symm)
theorem isort_perm {α : Type} [Inhabited α] (lt : α → α → Bool) : ∀ (i : Nat) (l : List α), i < l.length → (isort lt i l).Perm l
 |0,_,_=>List.Perm.refl _
 |i+1,l,h=>(down_perm lt (i+1) (isort lt i l) (by rw[isort_len];exact h)).trans (isort_perm lt i l (by omega))
structure Ord3 {α:Type} (lt:α→α→Bool) (le:α→α→Prop):Prop where
 t:∀a b,lt a b=true→le a b
 f:∀a b,lt a b=false→le b a
 tr:∀a b c,le a b→le b c→le a c
theorem insR_sorted {α : Type} {lt : α → α → Bool} {le : α → α → Prop} (O : Ord3 lt le) (x : α) : ∀ r : List α, r.reverse.Pairwise le → (insR lt x r).reverse.Pairwise le
 |[],_=>by simp[insR]
 |y::r,h=>by
  rw[List.reverse_cons,List.pairwise_append]at h;unfold insR
  split
  ·rename_i hl;rw[List.reverse_cons,List.pairwise_append];refine⟨insR_sorted O x r h.1,by simp,fun a ha b hb=>?_⟩;rw[List.mem_singleton]at hb;subst hb;rw[List.mem_reverse]at ha;rcases List.mem_cons.1 ((insR_perm lt x r).mem_iff.1 ha)with rfl|h2
   ·exact O.t _ _ hl
   ·exact h.2.2 a (List.mem_reverse.2 h2) b (by simp)
  ·rename_i hl;have hxy:=O.f x y (by simpa using hl);rw[List.reverse_cons,List.pairwise_append];refine⟨by rw[List.reverse_cons,List.pairwise_append];exact h,by simp,fun a ha b hb=>?_⟩;rw[List.mem_singleton]at hb;subst hb;rw[List.reverse_cons,List.mem_append,List.mem_singleton]at ha;rcases ha with ha|rfl
   ·exact O.tr _ _ _ (h.2.2 a ha y (by simp)) hxy
   ·exact hxy
theorem isort_sorted {α : Type} [Inhabited α] {lt : α → α → Bool} {le : α → α → Prop} (O : Ord3 lt le) : ∀ (i : Nat) (l : List α), i < l.length → ((isort lt i l).take (i + 1)).Pairwise le
 |0,l,h=>by
  show(l.take 1).Pairwise le;rcases l with _|⟨a,l⟩ <;> simp
 |i+1,l,h=>by
  obtain⟨m,hm⟩:∃m,m=isort lt i l:=⟨_,rfl⟩
  have hlen:i+1<m.length:=by rw[hm,isort_len];exact h
  have ih:=isort_sorted O i l (by omega);rw[←hm]at ih;show((down lt (i+1) (isort lt i l)).take (i+1+1)).Pairwise le;rw[←hm];have e:m=(m.take (i+1)).reverse.reverse++m.getD (i+1) default::m.drop (i+1+1):=by
   simp only[List.reverse_reverse];rw[List.getD_eq_getElem?_getD,List.getElem?_eq_getElem hlen,Option.getD_some,List.getElem_cons_drop,List.take_append_drop]
  have hj:i+1=(m.take (i+1)).reverse.length:=by simp;omega
  have h2:=down_ins lt (m.getD (i+1) default) (m.take (i+1)).reverse (m.drop (i+1+1));rw[←hj,←e]at h2;rw[h2,List.take_append_of_le_length (by rw[List.length_reverse,(insR_perm lt _ _).length_eq];simp;omega),List.take_of_length_le (by rw[List.length_reverse,(insR_perm lt _ _).length_eq];simp;omega)];exact insR_sorted O _ _ (by rw[List.reverse_reverse];exact ih)
def zK3 {α:Type} [Inhabited α] (lt:α→α→Bool) (l:List α):List α:=isort lt (l.length - 1) l
theorem zE9 {α:Type} [Inhabited α] (lt:α→α→Bool) (l:List α):(zK3 lt l).Perm l:=by
 unfold zK3;rcases l with _|⟨a,l⟩
 ·exact List.Perm.refl _
 ·exact isort_perm lt _ _ (by simp)
theorem sorted_sorted {α:Type} [Inhabited α] {lt:α→α→Bool} {le:α→α→Prop} (O:Ord3 lt le) (l:List α):(zK3 lt l).Pairwise le:=by
 unfold zK3;rcases l with _|⟨a,l⟩
 ·simp[isort]
 ·have:=isort_sorted O ((a::l).length - 1) (a::l) (by simp)
  rwa [List.take_of_length_le (by rw[isort_len];simp)]at this
def kOf (j:TJ):Nat×Nat:=(j.who,j.n)
def kLt (a b:TJ):Bool:=decide (a.who<b.who) || (a.who==b.who&&decide (a.n<b.n))
def kLe (a b:TJ):Prop:=a.who<b.who∨(a.who=b.who∧a.n≤b.n)
theorem kLt_iff (a b:TJ):kLt a b=true↔a.who<b.who∨(a.who=b.who∧a.n<b.n):=by simp[kLt]
theorem ordK:Ord3 kLt kLe:=by
 refine⟨fun a b h=>?_,fun a b h=>?_,fun a b c h1 h2=>?_⟩
 ·rw[kLt_iff]at h;unfold kLe;omega
 ·have:¬(kLt a b=true):=by rw[h];simp
  rw[kLt_iff]at this;unfold kLe;omega
 ·unfold kLe at *;omega
def kQ (st:Cy) (w:Nat):List (Nat×Nat):=(st.ports w).queue.map fun n=>(w,n)
def kP (st:Cy) (s:Nat):List (Nat×Nat):=(st.slaves s).pipe.map fun j=>(j.who,j.n)
def kD (st:Cy) (s:Nat):List (Nat×Nat):=(st.slaves s).done.map fun j=>(j.who,j.n)
def kWait (st:Cy):List (Nat×Nat):=kQ st 0++kQ st 1++kQ st 2++kP st 0++kP st 1++kP st 2++kP st 3
def kDone (st:Cy):List (Nat×Nat):=kD st 0++kD st 1++kD st 2++kD st 3
def kTold (st:Cy):List (Nat×Nat):=st.told.map fun j=>(j.who,j.n)
def kAll (st:Cy):List (Nat×Nat):=kWait st++kDone st++kTold st
theorem nsOf_q (st:Cy) (w v:Nat):nsOf w (kQ st v)=if v=w then(st.ports w).queue else[]:=by
 unfold nsOf kQ;by_cases h:v=w
 ·subst h;simp[List.filter_map,Function.comp_def]
 ·simp[h,List.filter_map,Function.comp_def]
theorem nsOf_told (st:Cy) (w:Nat):nsOf w (kTold st)=(st.told.filter (fun j=>j.who==w)).map (·.n):=by
 unfold nsOf kTold;simp[List.filter_map,Function.comp_def]
theorem filter4 (l:List Jb) (h:∀j∈l,j.left<4):((l.filter (fun j=>j.left==0))++(l.filter (fun j=>j.left==1))++(l.filter (fun j=>j.left==2))++(l.filter (fun j=>j.left==3))).Perm l:=by
 induction l with
 |nil=>exact List.Perm.refl _
 |cons x l ih=>
  have ih:=ih fun j hj=>h j (List.mem_cons_of_mem _ hj)
  have hx:=h x (by simp);rcases(show x.left=0∨x.left=1∨x.left=2∨x.left=3 by omega)with e|e|e|e
  ·simp only[List.filter_cons,e];simpa using ih
  ·simp only[List.filter_cons,e];simp only[show((1:Nat)==0)=false from rfl,show((1:Nat)==2)=false from rfl,show((1:Nat)==3)=false from rfl,beq_self_eq_true,if_true,Bool.false_eq_true,if_false];refine List.Perm.trans ?_ (ih.cons x);simp only[List.append_assoc,List.cons_append];exact List.perm_middle
  ·simp only[List.filter_cons,e];simp only[show((2:Nat)==0)=false from rfl,show((2:Nat)==1)=false from rfl,show((2:Nat)==3)=false from rfl,beq_self_eq_true,if_true,Bool.false_eq_true,if_false];refine List.Perm.trans ?_ (ih.cons x);simp only[List.append_assoc,List.cons_append];rw[←List.append_assoc,←List.append_assoc];exact List.perm_middle
  ·simp only[List.filter_cons,e];simp only[show((3:Nat)==0)=false from rfl,show((3:Nat)==1)=false from rfl,show((3:Nat)==2)=false from rfl,beq_self_eq_true,if_true,Bool.false_eq_true,if_false];exact List.Perm.trans List.perm_middle (ih.cons x)
theorem slv_lt4 {ms:List MR} (h:mapOk ms=true) (r:Rq):(slaveOf ms r).toNat<4:=by
 unfold slaveOf
 split
 ·simp
 ·rename_i hh;have hlt:=zG1 ms (zA6 r);have hk:(zA5 ms (zA6 r)).toNat<ms.length:=by omega
  simp only[mapOk,Bool.and_eq_true,List.all_eq_true]at h;have h2:=h.2 _ (List.mem_range.2 hk);simp only[zK2,Bool.and_eq_true,inB,decide_eq_true_eq]at h2;omega
theorem Good.all {c:Cfg} (hb:Bus c) {st:Cy} (h:Good c st) {w:Nat} (hw:w<3):(nsOf w (kAll st)).Perm (List.range (st.ports w).next):=by
 have hp:=h.p w hw;have hkeys:∀s,(nsOf w (kD st s)++nsOf w (kP st s))=nsOf w (zA7 (st.slaves s)):=fun s=>by rw[←zL4];rfl
 have hl:=fun s hs=>h.link s w hs hw
 have h4:=(filter4 (st.ports w).out (fun j hj=>by rw[(hp.o j hj).2.1];exact slv_lt4 hb.ms _)).map (·.n);simp only[List.map_append]at h4;rw[←hl 0 (by omega),←hl 1 (by omega),←hl 2 (by omega),←hl 3 (by omega)]at h4;have hq:nsOf w (kQ st 0++kQ st 1++kQ st 2)=(st.ports w).queue:=by
  simp only[zL4,nsOf_q];rcases(show w=0∨w=1∨w=2 by omega)with rfl|rfl|rfl <;> simp
 have hr:(List.range (st.ports w).next)=List.range ((st.ports w).next - (st.ports w).queue.length)++(st.ports w).queue:=by
  rw[List.range_eq_range', List.range_eq_range'];have:=hp.qn
  conv=>lhs;rw[show(st.ports w).next=((st.ports w).next - (st.ports w).queue.length)+(st.ports w).queue.length by omega,←List.range'_append_1]
  rw[Nat.zero_add,←hp.q]
 rw[hr];refine List.Perm.trans ?_ ((h.part w hw).append_right _);have e:nsOf w (kAll st)=(st.ports w).queue++nsOf w (kP st 0)++nsOf w (kP st 1)++nsOf w (kP st 2)++nsOf w (kP st 3)++nsOf w (kD st 0)++nsOf w (kD st 1)++nsOf w (kD st 2)++nsOf w (kD st 3)++nsOf w (kTold st):=by
  rw[←hq];simp only[kAll,kWait,kDone,zL4,List.append_assoc]
 rw[e,nsOf_told];simp only[←hkeys]at h4;obtain⟨Q,hQ⟩:∃Q,Q=(st.ports w).queue:=⟨_,rfl⟩
 rw[←hQ];generalize nsOf w (kP st 0)=a0 at *;generalize nsOf w (kP st 1)=a1 at *;generalize nsOf w (kP st 2)=a2 at *;generalize nsOf w (kP st 3)=a3 at *;generalize nsOf w (kD st 0)=b0 at *;generalize nsOf w (kD st 1)=b1 at *;generalize nsOf w (kD st 2)=b2 at *;generalize nsOf w (kD st 3)=b3 at *;generalize (st.told.filter (fun j=>j.who==w)).map (·.n)=T at *;have hc:∀a:Nat,List.count a ((st.ports w).out.map (·.n))=List.count a (b0++a0++(b1++a1)++(b2++a2)++(b3++a3)):=fun a=>(h4.count_eq a).symm
 rw[List.perm_iff_count];intro a;have:=hc a;simp only[List.count_append]at this ⊢;omega
theorem Good.kin {c:Cfg} (hb:Bus c) {st:Cy} (h:Good c st) {k:Nat×Nat} (hk:k∈kAll st):k.1<3∧k.2<(st.ports k.1).next:=by
 have hw:k.1<3:=by
  simp only[kAll,kWait,kDone,kTold,kQ,kP,kD,List.mem_append,List.mem_map]at hk;have hs:∀s,s<4→k∈zA7 (st.slaves s)→k.1<3:=fun s hs hk=>(h.s s hs).w3 k hk
  simp only[zA7,List.mem_append,List.mem_map]at hs;rcases hk with((((((((⟨n,_,rfl⟩|⟨n,_,rfl⟩)|⟨n,_,rfl⟩)|hk)|hk)|hk)|hk))|(((hk|hk)|hk)|hk))|⟨j,hj,rfl⟩
  ·simp
  ·simp
  ·simp
  ·exact hs 0 (by omega) (.inr hk)
  ·exact hs 1 (by omega) (.inr hk)
  ·exact hs 2 (by omega) (.inr hk)
  ·exact hs 3 (by omega) (.inr hk)
  ·exact hs 0 (by omega) (.inl hk)
  ·exact hs 1 (by omega) (.inl hk)
  ·exact hs 2 (by omega) (.inl hk)
  ·exact hs 3 (by omega) (.inl hk)
  ·exact(h.t j hj).1
 refine⟨hw,?_⟩;have:=(h.all hb hw).mem_iff.1 (mem_nsOf.2 (show(k.1,k.2)∈kAll st from hk));exact List.mem_range.1 this
theorem nodup_of_ns {l:List (Nat×Nat)} (h:∀w,(nsOf w l).Nodup):l.Nodup:=by
 induction l with
 |nil=>exact List.nodup_nil
 |cons k l ih=>
  rw[List.nodup_cons]
  constructor
  ·intro hk;have:=h k.1;have e:nsOf k.1 (k::l)=k.2::nsOf k.1 l:=zL3 k.1 k.2 l;rw[e,List.nodup_cons]at this;exact this.1 (mem_nsOf.2 hk)
  ·refine ih fun w=>?_
   have:=h w;by_cases e:k.1=w
   ·subst e;rw[show nsOf k.1 (k::l)=k.2::nsOf k.1 l from zL3 k.1 k.2 l,List.nodup_cons]at this;exact this.2
   ·rwa [show nsOf w (k::l)=nsOf w l from zH1 k.2 l e]at this
theorem Good.nodup {c:Cfg} (hb:Bus c) {st:Cy} (h:Good c st):(kAll st).Nodup:=by
 refine nodup_of_ns fun w=>?_
 by_cases hw:w<3
 ·exact(h.all hb hw).nodup_iff.2 List.nodup_range
 ·have:nsOf w (kAll st)=[]:=by
   rw[List.eq_nil_iff_forall_not_mem];intro n hn;have:=(h.kin hb (mem_nsOf.1 hn)).1;omega
  rw[this];exact List.nodup_nil
theorem len_of_ns (l:List (Nat×Nat)) (h:∀k∈l,k.1<3):l.length=(nsOf 0 l).length+(nsOf 1 l).length+(nsOf 2 l).length:=by
 induction l with
 |nil=>rfl
 |cons k l ih=>
  have ih:=ih fun x hx=>h x (List.mem_cons_of_mem _ hx)
  have hk:=h k (by simp);obtain⟨a,b⟩:=k;simp only at hk;rcases(show a=0∨a=1∨a=2 by omega)with rfl|rfl|rfl
  ·rw[zL3,zH1 _ _ (by omega),zH1 _ _ (by omega)];simp only[List.length_cons];omega
  ·rw[zL3,zH1 _ _ (by omega),zH1 _ _ (by omega)];simp only[List.length_cons];omega
  ·rw[zL3,zH1 _ _ (by omega),zH1 _ _ (by omega)];simp only[List.length_cons];omega
theorem Good.many {c:Cfg} (hb:Bus c) {st:Cy} (h:Good c st):(kAll st).length=(st.ports 0).next+(st.ports 1).next+(st.ports 2).next:=by
 rw[len_of_ns _ fun k hk=>(h.kin hb hk).1];have e:=fun w (hw:w<3)=>(h.all hb hw).length_eq
 simp only[List.length_range]at e;rw[e 0 (by omega),e 1 (by omega),e 2 (by omega)]
end Go.Proofs.YthnlalffjepdaaaGreat
namespace Go.Proofs.YthnlalffjepdaaaGreat
open Go.RowKit
abbrev KEY:TypeId:=177
def kv (a b:Nat):Value:=.agg #[.int .i64 a,.int .i64 b]
theorem keys_some:((List.range 3).all fun a=>(List.range 12).all fun b=>(keyOf Tryz.prog KEY (kv a b)).isSome)=true:=by kernel_rfl
noncomputable def kl (a b:Nat):Lit:=(keyOf Tryz.prog KEY (kv a b)).getD (.bool false)
theorem keyOf_kv {a b:Nat} (ha:a<3) (hb:b<12):keyOf Tryz.prog KEY (kv a b)=some (kl a b):=by
 have h:=keys_some;rw[List.all_eq_true]at h;have h1:=h a (List.mem_range.2 ha);rw[List.all_eq_true]at h1;have h2:=h1 b (List.mem_range.2 hb);unfold kl;rcases e:keyOf Tryz.prog KEY (kv a b)with _|l
 ·rw[e]at h2;cases h2
 ·rfl
theorem laidP:laidOutB Tryz.prog=true:=by kernel_rfl
theorem law_key:Maps.Keyed Tryz.prog KEY:=Maps.Keyed.of_law (deep_law_laid laidP (m:=2) (by omega) (of_decide_eq_true (by kernel_rfl)) (by kernel_rfl) (by kernel_rfl))
theorem kl_inj {a b a' b':Nat} (ha:a<3) (hb:b<12) (ha':a' < 3) (hb':b' < 12) (h:kl a b=kl a' b'):a=a' ∧ b=b':=by
 have h1:=keyOf_kv ha hb;have h2:=keyOf_kv ha' hb';rw[←h]at h2;have:=law_key.inj h1 h2;simp only[kv,Value.agg.injEq,Array.mk.injEq,List.cons.injEq,Value.int.injEq,true_and,and_true]at this;omega
theorem mapKB_under:Tryz.prog.underlying 174=some (.map KEY 4):=by kernel_rfl
theorem zero_bool (w:World):(zeroValue 4).run Tryz.prog w=.ok (.bool false) w:=by kernel_rfl
def SetM (w : World) (b : Nat) (L : List (Nat × Nat)) : Prop := ∃ D : DataW Unit, w.ownsMap Tryz.prog KEY (plainElem Tryz.prog 4) b L.length D ∧ Maps.size D = L.length ∧
 ∀x y,x<3→y<12→D.atKey (kl x y) (.lit (.bool false))=.lit (.bool (decide ((x,y)∈L)))  ∧ Maps.has D (kl x y)=decide ((x,y)∈L)
theorem SetM.below {w w':World} {b:Nat} {L:List (Nat×Nat)} (h:SetM w b L) (hb:Below w.heap.size w w'):SetM w' b L:=by
 obtain⟨D,h1,h2⟩:=h;have hlt:=h1.lt;obtain⟨es,clock,e1,e2⟩:=h1;exact⟨D,⟨es,clock,(hb.block b hlt).trans e1,e2⟩,h2⟩
theorem SetM.lt {w:World} {b:Nat} {L:List (Nat×Nat)} (h:SetM w b L):b<w.heap.size:=h.choose_spec.1.lt
theorem SetM.new (w:World):SetM (w.alloc (.map #[] 0)) w.heap.size []:=⟨.map [],World.ownsMap_made _ _ _ _,rfl,fun x y _ _=>⟨by simp[DataW.atKey],by simp[Maps.has]⟩⟩
set_option maxRecDepth 20000 in
theorem SetM.look {w:World} {b:Nat} {L:List (Nat×Nat)} (h:SetM w b L) {x y:Nat} (hx:x<3) (hy:y<12) (hn:(x,y) ∉ L):(Instr.lookup 174 (.map (some b)) (.agg #[.int .i64 x,.int .i64 y]) false).run Tryz.prog w=.ok (.bool false) w:=by
 obtain⟨D,h1,h2,h3⟩:=h;obtain⟨v,ps,hr,hv⟩:=h1.lookup law_key mapKB_under (zero_bool w) (plainElem_bool Tryz.underlying4 false) (keyOf_kv hx hy);rw[(h3 x y hx hy).1,decide_eq_false hn]at hv;have:v=.bool false:=by
  unfold plainElem at hv;rw[Tryz.underlying4]at hv;cases v <;> simp at hv;simpa using hv.1
 rw[this]at hr;exact hr
set_option maxRecDepth 20000 in
theorem SetM.put {w w' : World} {b : Nat} {L : List (Nat × Nat)} {D : DataW Unit} (h1 : w.ownsMap Tryz.prog KEY (plainElem Tryz.prog 4) b L.length D) (h2 : Maps.size D = L.length)
  (h3:∀x y,x<3→y<12→D.atKey (kl x y) (.lit (.bool false))=.lit (.bool (decide ((x,y)∈L)))  ∧ Maps.has D (kl x y)=decide ((x,y)∈L)) {x y:Nat} (hx:x<3) (hy:y<12) (hn:(x,y) ∉ L)
  (h:w'.ownsMap Tryz.prog KEY (plainElem Tryz.prog 4) b (L.length+1) (D.put (kl x y) (.lit (.bool true)))):SetM w' b (L++[(x,y)]):=by
 have hk:=law_key.key (keyOf_kv hx hy);refine⟨_,by rw[List.length_append];exact h,?_,fun a c ha hc=>?_⟩
 ·rw[Maps.size_put (h1.tidy law_key),(h3 x y hx hy).2,decide_eq_false hn];simp[h2]
 ·by_cases e:a=x∧c=y
  ·obtain⟨rfl,rfl⟩:=e;exact⟨by rw[Maps.atKey_put_same h1.isMap hk];simp,by rw[Maps.has_put_same h1.isMap hk];simp⟩
  ·have hne:kl a c≠kl x y:=fun h=>e (kl_inj ha hc hx hy h)
   rw[Maps.atKey_put_other hne,Maps.has_put_other hne,(h3 a c ha hc).1,(h3 a c ha hc).2];have:decide ((a,c)∈L)=decide ((a,c)∈L++[(x,y)]):=by
    rw[decide_eq_decide];simp only[List.mem_append,List.mem_singleton,Prod.mk.injEq];exact⟨fun h=>.inl h,fun h=>h.resolve_right e⟩
   exact⟨by rw[this],this⟩
def icmp (a b:Int):Int:=if a<b then -1 else if b<a then 1 else 0
theorem isNaN_any (a:Int) (w:World):Calls Tryz.prog 181 #[.int .i64 a] w fun e w' => e=.returned (.bool false)∧w=w':=by
 go_enter Tryz.func181,Tryz.ntmps181
 go_wp2
 go_ret
 exact⟨by simp,rfl⟩
theorem cmpInt_any (a b:Int) (w:World):Calls Tryz.prog 145 #[.int .i64 a,.int .i64 b] w fun e w' => e=.returned (.int .i64 (icmp a b))∧w=w':=by
 rcases Int.lt_trichotomy a b with h|h|h
 ·have HI:=hid (show icmp a b = -1 by unfold icmp;rw[if_pos h])
  go_enter Tryz.func145,Tryz.ntmps145
  go_wp2_with (go_at_call 181;refine(isNaN_any _ _).mono ?_;rintro e w' ⟨rfl,rfl⟩)
  go_ret
  exact⟨by rw[HI.out];rfl,rfl⟩
 ·subst h;have HI:=hid (show icmp a a=0 by unfold icmp;simp);have h1:decide (a<a)=false:=by simp
  go_enter Tryz.func145,Tryz.ntmps145
  go_wp2_with (go_at_call 181;refine(isNaN_any _ _).mono ?_;rintro e w' ⟨rfl,rfl⟩)
  go_ret
  exact⟨by rw[HI.out];rfl,rfl⟩
 ·have HI:=hid (show icmp a b=1 by unfold icmp;rw[if_neg (by omega),if_pos h]);have h1:decide (a<b)=false:=by rw[decide_eq_false_iff_not];omega
  go_enter Tryz.func145,Tryz.ntmps145
  go_wp2_with (go_at_call 181;refine(isNaN_any _ _).mono ?_;rintro e w' ⟨rfl,rfl⟩)
  go_ret
  exact⟨by rw[HI.out];rfl,rfl⟩
theorem or_any (a b : Int) (g c : Nat) (w : World) (h0 : w.cell? ⟨g, 0, none⟩ = some (.int .i64 a)) (h1 : w.cell? ⟨g, 1, none⟩ = some (.int .i64 b)) :
  Calls Tryz.prog 144 #[.slice (some ⟨g,0,none⟩) 2 c] w fun e w' => e=.returned (.int .i64 (if a=0 then b else a))∧w=w':=by
 by_cases ha:a=0
 ·subst ha;by_cases hb:b=0
  ·subst hb
   go_enter Tryz.func144,Tryz.ntmps144
   go_wp2_with fail
   refine wp_loop_rounds 3 ?_
   iterate 3 (first|(rw[rounds_succ];go_wp2_with fail))
   go_ret
   exact⟨by simp,rfl⟩
  ·have hb':(b != 0)=true:=by simpa using hb
   go_enter Tryz.func144,Tryz.ntmps144
   go_wp2_with fail
   refine wp_loop_rounds 3 ?_;rw[rounds_succ];go_wp2_with fail;rw[rounds_succ];go_wp2_with fail
   go_ret
   exact⟨by simp,rfl⟩
 ·have ha':(a != 0)=true:=by simpa using ha
  go_enter Tryz.func144,Tryz.ntmps144
  go_wp2_with fail
  refine wp_loop_rounds 3 ?_;rw[rounds_succ];go_wp2_with fail
  go_ret
  exact⟨by simp[ha],rfl⟩
def kcmp (a b:TJ):Int:=if icmp a.who b.who=0 then icmp a.n b.n else icmp a.who b.who
theorem kcmp_lt (a b:TJ):decide (kcmp a b<0)=kLt a b:=by
 rw[Bool.eq_iff_iff,decide_eq_true_eq,kLt_iff];unfold kcmp icmp
 split <;> (try split) <;> (try split) <;> omega
theorem kcmp_ge (a b:TJ):decide (0≤kcmp a b)=!kLt a b:=by
 rw[←kcmp_lt];by_cases h:0≤kcmp a b
 ·rw[decide_eq_true h,decide_eq_false (by omega)];rfl
 ·rw[decide_eq_false h,decide_eq_true (by omega)];rfl
def CmpP (a b:TJ) (w:World) (e:Ending) (w':World):Prop:=e=.returned (.int .i64 (kcmp a b))∧Below w.heap.size w w'
set_option maxRecDepth 8000 in
theorem cmpJobs_any (a b : TJ) (x1 x2 : Option Addr) (n1 c1 n2 c2 : Nat) (w : World) :
  Calls Tryz.prog 97 #[.agg #[.int .i64 a.who,.int .i64 a.n,.int .i64 a.rsp.id,.int .i64 a.rsp.code,.slice x1 n1 c1],.agg #[.int .i64 b.who,.int .i64 b.n,.int .i64 b.rsp.id,.int .i64 b.rsp.code,.slice x2 n2 c2]] w (CmpP a b w):=by
 obtain⟨aw,an,ar⟩:=a;obtain⟨bw,bn,br⟩:=b;obtain⟨w0,hw0⟩:∃W,W=((w.alloc (.cells #[.int .i64 aw,.int .i64 an,.int .i64 ar.id,.int .i64 ar.code,.slice x1 n1 c1] 85)).alloc (.cells #[.int .i64 bw,.int .i64 bn,.int .i64 br.id,.int .i64 br.code,.slice x2 n2 c2] 85)):=⟨_,rfl⟩
 have HB0:=hid (show Below w.heap.size w w0 by rw[hw0];exact((Below.refl _ _).alloc (Nat.le_refl _) _).alloc (by simp) _);have HP:=hid (show kcmp ⟨aw,an,ar⟩ ⟨bw,bn,br⟩=if icmp aw bw=0 then icmp an bn else icmp aw bw from rfl);have p0:w0.cell? ⟨w.heap.size,0,none⟩=some (.int .i64 aw):=by rw[hw0];simp[go_sem]
 have p1:w0.cell? ⟨w.heap.size,1,none⟩=some (.int .i64 an):=by rw[hw0];simp[go_sem]
 have q0:w0.cell? ⟨w.heap.size+1,0,none⟩=some (.int .i64 bw):=by rw[hw0];simp[go_sem]
 have q1:w0.cell? ⟨w.heap.size+1,1,none⟩=some (.int .i64 bn):=by rw[hw0];simp[go_sem]
 obtain⟨i1,hi1⟩:∃x,x=icmp aw bw:=⟨_,rfl⟩
 obtain⟨i2,hi2⟩:∃x,x=icmp an bn:=⟨_,rfl⟩
 rw[←hi1,←hi2]at HP;have HI1:=hid hi1;have HI2:=hid hi2;clear hi1 hi2
 go_enter Tryz.func97,Tryz.ntmps97
 go_upto_region 1 with fail
 rw[←hw0];clear hw0;refine wp_region_still_tail 10 (by kernel_rfl) (by kernel_rfl) ?_;obtain⟨w9,hw9⟩:∃w9,w9=w0.drew:=⟨_,rfl⟩
 change wpStill Tryz.prog _ w0.drew (fun a' => wpList Tryz.prog _ _ _ a' w0.drew) _ _;have r0:w9.cell? ⟨w.heap.size,0,none⟩=some (.int .i64 aw):=by rw[hw9];exact p0
 have r1:w9.cell? ⟨w.heap.size,1,none⟩=some (.int .i64 an):=by rw[hw9];exact p1
 have s0:w9.cell? ⟨w.heap.size+1,0,none⟩=some (.int .i64 bw):=by rw[hw9];exact q0
 have s1:w9.cell? ⟨w.heap.size+1,1,none⟩=some (.int .i64 bn):=by rw[hw9];exact q1
 have HB9:=hid (show Below w.heap.size w w9 by rw[hw9];exact HB0.out.drew);rw[←hw9];clear hw9 p0 p1 q0 q1;simp only[List.take_succ_cons,List.take_zero,List.drop_succ_cons,List.drop_zero]
 repeat still_step
 have HC1:=hid (cmpInt_any (aw:Nat) (bw:Nat) w9);rw[←HI1.out]at HC1;have HC2:=hid (cmpInt_any (an:Nat) (bn:Nat) w9);rw[←HI2.out]at HC2
 still_call ((HC1.out).mono (fun _ _ h=>⟨h.1,h.2.symm⟩))
 repeat still_step
 still_call ((HC2.out).mono (fun _ _ h=>⟨h.1,h.2.symm⟩))
 repeat still_step
 refine wpStill_nil ?_
 go_wp2_with (go_at_call 144;(with_reducible refine(or_any i1 i2 _ _ _ (by simp[go_sem]) (by simp[go_sem])).mono ?_);rw[←HP.out];rintro e w8 ⟨rfl,rfl⟩)
 go_ret
 exact⟨rfl,HB9.out.alloc HB9.out.size _⟩
theorem elem_TlmJob:Elem 44 85 5 56:=zF9 Tryz.underlying44 (z:=.agg #[.int .i64 0,.int .i64 0,.int .i64 0,.int .i64 0,.slice none 0 0]) (by kernel_rfl) rfl (by omega)
theorem sClone_TlmJob {α : Type} (f : α → List Value) (hf : ∀ x, (f x).length = 5) (h1 : ∀ x, ∀ u ∈ f x, u.oneCell' = true) (v : Value) (ys : List α) (B : Nat) (w : World) (ha : Arr w B 5 v (ys.map f)) (hlen : ys.length * 56 ≤ 140737488355328) :
  Calls Tryz.prog 153 #[v] w (CloneP f 85 5 ys w):=by
 have ha0:=hid ha;obtain⟨ao,cap,rfl,g1,g2,g0,g9,g3⟩:=ha;simp only[List.length_map]at g1 g2 g0 ⊢;clear g3;cases ao with
 |none=>
  obtain rfl:=g9 rfl;have hy:ys=[]:=by
   rcases ys with _|⟨y,ys⟩
   ·rfl
   ·simp at g1
  subst hy;have he:=fun w=>Lib.run_eql_slice_nil (P:=Tryz.prog) w 44 85 none 0 0 0 0 Tryz.underlying44
  go_enter Tryz.func153,Tryz.ntmps153
  go_wp2_with fail
  go_ret
  exact⟨_,rfl,Owns.zero,Below.refl _ _⟩
 |some ad=>
  have he:=fun w=>Lib.run_eql_slice_nil (P:=Tryz.prog) w 44 85 (some ad) ys.length cap 0 0 Tryz.underlying44
  clear g9
  go_enter Tryz.func153,Tryz.ntmps153
  go_wp2_with (at_builtin;go_must (refine zH7 elem_TlmJob f hf h1 _ rfl _ _ rfl w.heap.size _ [] (by rfl) (Owns.lit (Nat.le_refl _)) _ ys (min B w.heap.size) (by rfl) (by have:=(ha0.out).fit (by omega) (by intro r hr;obtain⟨y,_,rfl⟩:=List.mem_map.1 hr;exact hf y);simp only[List.length_map]at this;exact this.below ((Below.refl _ _).alloc (Nat.min_le_right _ _) _)) (by simpa using hlen) (by simp;omega) (by simp) ?_);intro v' w1 hown1 hb1 _)
  go_ret
  exact⟨v', rfl,by simpa using hown1,((Below.refl _ _).alloc (Nat.le_refl _) _).trans hb1⟩
theorem sClip_TlmJob (a:Option Addr) (n c:Nat) (w:World) (hc:n≤c) (hm:c≤9223372036854775807):Calls Tryz.prog 152 #[.slice a n c] w fun e w' => e=.returned (.slice a n n)∧w=w':=by
 go_enter Tryz.func152,Tryz.ntmps152
 go_wp2_with fail
 go_ret
 exact⟨rfl,rfl⟩
theorem clone_TlmJob {α : Type} (f : α → List Value) (hf : ∀ x, (f x).length = 5) (h1 : ∀ x, ∀ u ∈ f x, u.oneCell' = true) (v : Value) (ys : List α) (B : Nat) (w : World) (ha : Arr w B 5 v (ys.map f)) (hlen : ys.length * 56 ≤ 140737488355328) :
  Calls Tryz.prog 109 #[v] w (CloneP f 85 5 ys w):=by
 go_enter Tryz.func109,Tryz.ntmps109
 go_wp2_with fail
 refine(sClone_TlmJob f hf h1 v ys B w ha hlen).mono ?_;rintro e w1 ⟨u,rfl,hown,hb⟩;obtain⟨a,c,rfl,hc1,hc2⟩:=hown.shape
 go_wp2_with fail
 refine(sClip_TlmJob a ys.length c _ hc1 hc2).mono ?_;rintro e w2 ⟨rfl,rfl⟩
 go_wp2_with fail
 go_ret
 exact⟨_,rfl,hown.clip,hb⟩
abbrev TJA:=TJ×(Option Addr×Nat×Nat)
def toA (x:TJA):TJV:=(x.1,.slice x.2.1 x.2.2.1 x.2.2.2)
def rowA (x:TJA):List Value:=tjRow (toA x)
theorem zD8 (x:TJA):(rowA x).length=5:=rfl
theorem rowA_one (x:TJA):∀u∈rowA x,u.oneCell' = true:=by
 intro u hu;simp only[rowA,toA,tjRow,List.mem_cons,List.not_mem_nil,or_false]at hu;rcases hu with rfl|rfl|rfl|rfl|rfl <;> rfl
theorem exA : ∀ (D : List TJV), (∀ x ∈ D, ∃ a n c, x.2 = .slice a n c) → ∃ A : List TJA, A.map toA = D
 |[],_=>⟨[],rfl⟩
 |x::D,h=>by
  obtain⟨A,hA⟩:=exA D fun y hy=>h y (by simp[hy])
  obtain⟨a,n,c,e⟩:=h x (by simp);exact⟨(x.1,a,n,c)::A,by simp only[List.map_cons,hA,toA,←e]⟩
theorem owns_map {α β:Type} {w:World} {base e sz:Nat} {f:β→List Value} {g:α→β} {v:Value} {xs:List α} (h:Owns w base e sz (fun x=>f (g x)) v xs):Owns w base e sz f v (xs.map g):=by
 unfold Owns at h ⊢;rw[List.length_map,List.flatMap_map];exact h
def CjP (D:List TJV) (w:World) (e:Ending) (w':World):Prop :=
 ∃u D', e=.returned u∧Owns w' w.heap.size 85 5 tjRow u D' ∧ D'.map (·.1)=D.map (·.1)∧(∀x∈D', IntsD w' (fun b=>w.heap.size≤b∧b<w'.heap.size∧u.ownBlock≠some b) x.2 x.1.rsp.data)∧Below w.heap.size w w'
theorem zF0 (D : List TJV) (v : Value) (B : Nat) (w : World) (hv : Arr w B 5 v (D.map tjRow)) (hd : ∀ x ∈ D, Ints w B x.2 x.1.rsp.data) (hB : B ≤ w.heap.size) (hl : D.length ≤ 1000) (hdl : ∀ x ∈ D, x.1.rsp.data.length ≤ 1000) :
  Calls Tryz.prog 64 #[v] w (CjP D w):=by
 obtain⟨A,rfl⟩:=exA D fun x hx=>by obtain⟨ao,cap,e,_⟩:=(hd x hx).1;exact⟨_,_,_,e⟩
 rw[List.map_map]at hv;have HV:=hid hv;have HD:=hid hd;have HDL:=hid hdl;rw[List.length_map]at hl;clear hv hd hdl
 go_enter Tryz.func64,Tryz.ntmps64
 go_wp2_with fail
 refine(clone_TlmJob rowA zD8 rowA_one _ A B w HV.out (by omega)).mono ?_;rintro e w1 ⟨u,rfl,ho,hb⟩;obtain⟨ua,uc,rfl,huc,huc2⟩:=ho.shape;have HO:=hid ho;have HB:=hid hb;clear ho hb
 go_wp2_with fail
 go_loopw [10] (fun i wr=>∃k:Nat,k≤A.length∧i=.int .i64 k∧(∃A', A'.length=A.length∧Owns wr w.heap.size 85 5 rowA (.slice ua A.length uc) A' ∧ A'.map (·.1)=A.map (·.1)∧(∀j,j<k→∀x,A'[j]? = some x→IntsD wr (fun b=>w.heap.size≤b∧b<wr.heap.size∧(Value.slice ua A.length uc).ownBlock≠some b) (toA x).2 x.1.rsp.data)∧(∀j,k≤j→A'[j]? = A[j]?))∧Below w.heap.size w wr) (fun i _=>A.length - (intOf i).toNat)
 case atStart=>exact⟨0,by omega,rfl,⟨A,rfl,HO.out,rfl,fun j hj=>by omega,fun _ _=>rfl⟩,HB.out⟩
 case round=>
  obtain⟨k,hk,rfl,⟨A', hl', ho', hm', hn', hs'⟩,hbl⟩:=hrel;by_cases hlt:k<A.length
  ·have hlti:(k:Int)<(A.length:Int):=by omega
   obtain⟨g,off,cap,hvs,hcap,hcap2,hgb,hgz⟩:=OwnR.addr ho' (by omega);simp only[Value.slice.injEq]at hvs;obtain⟨rfl,hll,rfl⟩:=hvs;clear hll;obtain⟨x,hx⟩:∃x,A'[k]? = some x:=⟨A'[k]'(by omega),List.getElem?_eq_getElem _⟩
   have hgd:A'.getD k default=x:=by simp[List.getD,hx]
   have hc:∀i,i<5→wr.cell? ⟨g,off+k * 5+i,none⟩=(rowA x)[i]?:=fun i hi=>by rw[←hgd];exact Owns.cellAt ho' zD8 k i default (by omega) hi
   obtain⟨⟨wh,n,ri,rc,rd⟩,da,dn,dc⟩:=x;have c0:=hc 0 (by omega);have c1:=hc 1 (by omega);have c2:=hc 2 (by omega);have c3:=hc 3 (by omega);have c4:=hc 4 (by omega);simp only[rowA,toA,tjRow,List.getElem?_cons_zero,List.getElem?_cons_succ,Nat.add_zero]at c0 c1 c2 c3 c4;have hfz:=Owns.frozenAt ho';have hxm:((⟨wh,n,ri,rc,rd⟩,da,dn,dc):TJA)∈A:=List.mem_of_getElem? (by rw[←hs' k (by omega)];exact hx);have hxd:Ints w B (.slice da dn dc) rd:=HD.out _ (List.mem_map.2 ⟨_,hxm,rfl⟩);have hxl:rd.length≤1000:=HDL.out _ (List.mem_map.2 ⟨_,hxm,rfl⟩);have hsz:=ho'.1;have hbl2:Below w.heap.size w (wr.alloc (.cells #[.int .i64 (wh:Nat),.int .i64 (n:Nat),.int .i64 ri,.int .i64 rc,.slice da dn dc] 85)):=hbl.alloc hbl.size _;have hbl1:Below wr.heap.size wr (wr.alloc (.cells #[.int .i64 (wh:Nat),.int .i64 (n:Nat),.int .i64 ri,.int .i64 rc,.slice da dn dc] 85)):=(Below.refl _ _).alloc (Nat.le_refl _) _;have HL:=hid hl';have HO':=hid ho';have HM:=hid hm';have HN:=hid hn';have HS:=hid hs';have HBL:=hid hbl;have HX:=hid hx;have HFZ:=hid hfz;have HB2:=hid hbl2;have HB1:=hid hbl1;have HXD:=hid hxd;have HXL:=hid hxl;clear hl' ho' hm' hn' hs' hbl hx hgd hc hfz hbl2 hbl1 hxm hxd hsz
   go_upto_region 5 with fail
   obtain⟨w2,hw2⟩:∃W,W=wr.alloc (.cells #[.int .i64 (wh:Nat),.int .i64 (n:Nat),.int .i64 ri,.int .i64 rc,.slice da dn dc] 85):=⟨_,rfl⟩
   rw[←hw2]at HB2 HB1;rw[←hw2];have d4:w2.cell? ⟨wr.heap.size,4,none⟩=some (.slice da dn dc):=by rw[hw2,World.cell?_alloc_at _ _ _ _ rfl];rfl
   have hz2:w2.heap.size=wr.heap.size+1:=by rw[hw2];simp
   clear hw2 c0 c1 c2 c3 c4;have hfz2:w2.frozen? ⟨g,off+k * 5+4,none⟩=false:=(HB1.out.frozen (p:=⟨g,_,none⟩) hgz).trans (HFZ.out _);have c42:w2.cell? ⟨g,off+k * 5+4,none⟩=some (.slice da dn dc):=by
    rw[HB1.out.cell (p:=⟨g,_,none⟩) hgz];have:=Owns.cellAt HO'.out zD8 k 4 default (by rw[HL.out];exact hlt) (by omega);rw[this,show A'.getD k default=((⟨wh,n,ri,rc,rd⟩,da,dn,dc):TJA) by simp[List.getD,HX.out]];rfl
   have hg2:g<w2.heap.size:=by omega
   have HXA:=hid (show Arr w2 B 1 (.slice da dn dc) (rd.map rowI) from(HXD.out.below (HB2.out.mono hB)).1)
   go_wp2_with (first
    |(go_at_call 110;(with_reducible refine(clone_int rowI zF5 zI9 _ rd B w2 HXA.out (by omega)).mono ?_);rintro e w3 ⟨u2,rfl,ho2,hb2⟩;obtain⟨ba,bc,rfl,_,_⟩:=ho2.shape;have hfz3:=(hb2.frozen (p:=⟨g,off+k * 5+4,none⟩) hg2).trans hfz2;have c43:=(hb2.cell (p:=⟨g,off+k * 5+4,none⟩) hg2).trans c42;have HO2:=hid ho2;have HB3:=hid hb2;clear ho2 hb2))
   have hw:=HB1.out.trans (HB3.out.mono HB1.out.size);have hbw:Below w.heap.size w w3:=HB2.out.trans (HB3.out.mono HB2.out.size);have hsz3:=HB3.out.size;obtain⟨y,hy⟩:∃y:TJA,y=(⟨wh,n,ri,rc,rd⟩,ba,rd.length,bc):=⟨_,rfl⟩
   have ho4:=Owns.putRow (OwnR.kept HO'.out (fun b hb=>hw.block b (OwnR.lt HO'.out b hb).2)) zD8 k 4 default y (.slice ba rd.length bc) (by rw[HL.out];exact hlt) (by omega) (by rw[show A'.getD k default=((⟨wh,n,ri,rc,rd⟩,da,dn,dc):TJA) by simp[List.getD,HX.out],hy];rfl);have hset:∀b,b≠g→(w3.setCell ⟨g,off+k * 5+4,none⟩ (.slice ba rd.length bc)).heap[b]? = w3.heap[b]?:=fun b hb=>Below.heap_setCell _ _ _ _ hb
   have hz4:(w3.setCell ⟨g,off+k * 5+4,none⟩ (.slice ba rd.length bc)).heap.size=w3.heap.size:=by simp
   have hyd:IntsD (w3.setCell ⟨g,off+k * 5+4,none⟩ (.slice ba rd.length bc)) (fun b=>w.heap.size≤b∧b<(w3.setCell ⟨g,off+k * 5+4,none⟩ (.slice ba rd.length bc)).heap.size∧(Value.slice (some ⟨g,off,none⟩) A.length uc).ownBlock≠some b) (toA y).2 y.1.rsp.data:=by
    rw[hy];refine Owns.intsD (xs:=rd) (OwnR.kept HO2.out (fun b hb=>hset b (by have:=(OwnR.lt HO2.out b hb).1;omega))) (fun b hb=>?_) (by omega) HXD.out.2;have h1:=OwnR.lt HO2.out b hb;have h2:=HB2.out.size;refine⟨by omega,by rw[hz4];exact h1.2,?_⟩;simp only[Value.ownBlock,ne_eq,Option.some.injEq];omega
   go_roundw
   case rel=>
    refine⟨k+1,by omega,by go_num,⟨A'.set k y,by rw[List.length_set];exact HL.out,ho4,?_,fun j hj z hz=>?_,fun j hj=>?_⟩,hbw.setCell (p:=⟨g,_,none⟩) hgb _⟩
    ·rw[←HM.out];apply List.ext_getElem?;intro i;rw[List.getElem?_map,List.getElem?_map,List.getElem?_set]
     split
     ·rename_i e;subst e;rw[HX.out,if_pos (by rw[HL.out];exact hlt),hy];rfl
     ·rfl
    ·rw[List.getElem?_set]at hz
     split at hz
     ·rename_i e;subst e;rw[if_pos (by rw[HL.out];exact hlt)]at hz;obtain rfl:=Option.some.inj hz;exact hyd
     ·exact((HN.out j (by omega) z hz).kept fun b hb=>(hset b (fun e=>hb.2.2 (by rw[e];rfl))).trans (hw.block b hb.2.1)).weak fun b hb=>⟨hb.1,by rw[hz4];exact Nat.lt_of_lt_of_le hb.2.1 hw.size,hb.2.2⟩
    ·rw[List.getElem?_set,if_neg (by omega)];exact HS.out j (by omega)
   case measure=>simp[intOf];omega
  ·obtain rfl:k=A.length:=by omega
   have hkf:decide ((A.length:Int)<(A.length:Int))=false:=by simp
   go_wp2_with fail
   go_ret
   refine⟨_,A'.map toA,rfl,owns_map ho', by rw[List.map_map,List.map_map];exact hm', fun x hx=>?_,hbl⟩;obtain⟨y,hy,rfl⟩:=List.mem_map.1 hx;obtain⟨j,hj,e⟩:=List.getElem_of_mem hy;exact hn' j (by omega) y (by rw[List.getElem?_eq_getElem hj,e])
end Go.Proofs.YthnlalffjepdaaaGreat
