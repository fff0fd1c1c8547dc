/- For every code the law FnCycLine returns true, and its argument reads behind the call as it read before. -/
import Derived.Test.YthnlalffjepdaaaGreatPLc0
import Derived.Test.YthnlalffjepdaaaGreatPFt
import Derived.Test.YthnlalffjepdaaaGreatPLb
import Derived.StillTail
import Derived.StillTailTactics
set_option linter.unusedVariables false
set_option linter.unusedSimpArgs false
set_option maxHeartbeats 16000000
namespace Go.Proofs.YthnlalffjepdaaaGreat
open Go.RowKit
theorem mk4e (w:World):(Instr.makeSlice 73 (.int .i64 4) (.int .i64 4)).run Tryz.prog w=.ok (.slice (some ⟨w.heap.size,0,none⟩) 4 4) (w.alloc (.cells #[.slice none 0 0,.slice none 0 0,.slice none 0 0,.slice none 0 0] 54)):=by kernel_rfl
theorem mk4i (w:World):(Instr.makeSlice 24 (.int .i64 4) (.int .i64 4)).run Tryz.prog w=.ok (.slice (some ⟨w.heap.size,0,none⟩) 4 4) (w.alloc (.cells #[.int .i64 0,.int .i64 0,.int .i64 0,.int .i64 0] 3)):=by kernel_rfl
attribute [local go_sem] mk4e mk4i
def dnV (dn:Nat→Nat):List Value:=[.int .i64 (dn 0:Nat),.int .i64 (dn 1:Nat),.int .i64 (dn 2:Nat),.int .i64 (dn 3:Nat)]
theorem dnV_at (dn:Nat→Nat) {s:Nat} (hs:s<4):(dnV dn)[s]? = some (.int .i64 (dn s:Nat)):=by
 obtain rfl|rfl|rfl|rfl:s=0∨s=1∨s=2∨s=3:=by omega
 all_goals rfl
theorem dnV_set {dn dn':Nat→Nat} {s:Nat} (hs:s<4) (h:∀i,dn' i=if i=s then dn s+1 else dn i) {x:Nat} (hx:x=dn s+1):(dnV dn).set s (.int .i64 (x:Nat))=dnV dn':=by
 subst hx;obtain rfl|rfl|rfl|rfl:s=0∨s=1∨s=2∨s=3:=by omega
 all_goals simp[dnV,h]
theorem KeptX.more {X X':Nat→Prop} {w w':World} (h:KeptX X w w') (hx:∀b,X b→X' b):KeptX X' w w':=⟨h.size,fun b hb hn=>h.block b hb fun e=>hn (hx b e)⟩
def XX (ga gd:Nat) (V:Nat→Value) (b:Nat):Prop:=InL ga 4 V b∨b=gd
theorem box_zero {w:World} {T e:Nat} (he:e=66):BoxL (w.alloc (.cells #[.slice none 0 0,.slice none 0 0,.slice none 0 0,.slice none 0 0] T)) w.heap.size e 3 evRow w.heap.size 4 (fun _=>.slice none 0 0) (fun _=>([]:List Ev)) :=
 ⟨Bx.new w #[.slice none 0 0,.slice none 0 0,.slice none 0 0,.slice none 0 0] T (by simp),fun _ _=>Owns.zero,fun _ _ _ _ _ k hk=>by simp[Value.ownBlock]at hk,fun _ _ hk=>by simp[Value.ownBlock]at hk,Nat.le_refl _⟩
theorem BoxL.evs {w:World} {base e g n:Nat} {V:Nat→Value} {A:Nat→List Ev} (h:BoxL w base e 3 evRow g n V A) {i:Nat} (hi:i<n) (hl:(A i).length≤100000):∃a k,V i=.slice a (A i).length k∧(∀(m:Nat) (x:Ev),(A i)[m]? = some x→∃b o,a=some ⟨b,o,none⟩∧w.cell? ⟨b,o+m * 3+1,none⟩=some (.int .i64 x.who)∧w.cell? ⟨b,o+m * 3+2,none⟩=some (.int .i64 x.n)∧(m:Int)<((A i).length:Int)):=by
 obtain⟨a,k,e,h1,_,_,_,h3⟩:=(h.own i hi).arr (fun _=>rfl) (by omega);simp only[List.length_map]at e h1 h3;refine⟨a,k,e,fun m x hx=>?_⟩;have hm:=(List.getElem?_eq_some_iff.1 hx).1;obtain⟨b,o,rfl,hb,hc⟩:=h3 (by omega);have e2:(List.map evRow (A i)).getD m []=evRow x:=by simp[List.getD,hx]
 have c1:=hc m (by simpa using hm) 1 (by omega);have c2:=hc m (by simpa using hm) 2 (by omega);rw[e2]at c1 c2;exact⟨b,o,rfl,c1,c2,by omega⟩
theorem lineN_len {c:Cfg} {st st':Cy} (h:Good c st') (s:Nat):(lineN st st' s).length≤12:=by
 have key:∀w,w<3→(pick w s (lineL st st' w)).length≤4:=fun w hw=>by
  unfold pick lineL;rw[List.length_map];exact Nat.le_trans (List.length_filter_le ..) (Nat.le_trans (List.length_filter_le ..) (h.p w hw).o4)
 have h0:=key 0 (by omega);have h1:=key 1 (by omega);have h2:=key 2 (by omega);unfold lineN;simp only[List.length_append];omega
theorem lineR_len {c:Cfg} {st st':Cy} (h:Good c st') {q j s:Nat} (hq:q<3):(lineR st st' q j s).length≤16:=by
 have key:∀w,w<3→∀l:List Jb,l.length≤4→(pick w s l).length≤4:=fun w _ l hl=>by
  unfold pick;rw[List.length_map];exact Nat.le_trans (List.length_filter_le ..) hl
 have hL:∀w,w<3→(lineL st st' w).length≤4:=fun w hw=>Nat.le_trans (List.length_filter_le ..) (h.p w hw).o4
 have hQ:∀k,k≤3→(lineQ st st' k s).length≤4 * k:=fun k=>by
  induction k with
  |zero=>intro _;simp[lineQ]
  |succ k ih=>
   intro hk;have h1:=ih (by omega);have h2:=key k (by omega) _ (hL k (by omega));simp only[lineQ,List.length_append];omega
 have h1:=hQ q (by omega);have h2:=key q hq (((st'.ports q).out.take j).filter (isNew st q)) (Nat.le_trans (List.length_filter_le ..) (Nat.le_trans (by rw[List.length_take];omega) (h.p q hq).o4));simp only[lineR,List.length_append];omega
set_option maxRecDepth 8000 in
theorem line_any (hdraw : DrawPl) (v : Value) (bs : List Nat) (B : Nat) (w : World) (h : Bytes w B v bs) (hB : B ≤ w.heap.size) :
    Calls Tryz.prog 7 #[v] w fun e w' => e=.returned (.bool true)∧Below w.heap.size w w':=by
  obtain⟨ao,cap,rfl,hlc,hcap,hln,hni,hr⟩:=h.opened;clear hr;by_cases hbig:(1048576:Int)<(bs.length:Int)
  · go_enter Tryz.func7, Tryz.ntmps7
    go_wp2_with fail
    go_ret
    exact⟨rfl,Below.refl _ _⟩
  · go_enter Tryz.func7, Tryz.ntmps7
    go_wp2_with fail
    refine(hdraw _ bs B w h hB).mono ?_;rintro e w1 ⟨u,iv,c,ins,rfl,hbus,hbv,hins,hil,hb1⟩;obtain⟨mv,lb,lo,lc,pb,po,pc,QQ,K,rfl,⟨ma,mn,mk,rfl⟩,_,hlb,_,hlat,_,_⟩:=hbv.opened hbus;have HLB:=hid hlb;have HLAT:=hid hlat
    clear hlb hlat
    obtain⟨ia,ic,rfl,ic1,ic2,ic3,_,hcell⟩:=hins.opened;have HBV:=hid hbv;have HCELL:=hid hcell;have HB1:=hid hb1;obtain⟨il,hil2⟩:∃x,x=ins.length:=⟨_,rfl⟩
    rw[←hil2]at HCELL ic1 ic3 hil ⊢;have HIL:=hid hil2;clear hbv hins hcell hb1 hil2 h
    go_upto_region 4 with fail
    obtain⟨w2,hw2⟩:∃W,W=w1.alloc (.cells #[.slice ma mn mk,.slice (some ⟨lb,lo,none⟩) 4 lc,.slice (some ⟨pb,po,none⟩) 3 pc] 27):=⟨_,rfl⟩
    obtain⟨gb,hgb⟩:∃g,g=w1.heap.size:=⟨_,rfl⟩
    have X0:=hid (show Bx w2 gb [.slice ma mn mk,.slice (some ⟨lb,lo,none⟩) 4 lc,.slice (some ⟨pb,po,none⟩) 3 pc] by rw[hw2,hgb];exact Bx.new w1 #[.slice ma mn mk,.slice (some ⟨lb,lo,none⟩) 4 lc,.slice (some ⟨pb,po,none⟩) 3 pc] 27 (by simp));have HB2:=hid (show Below w1.heap.size w1 w2 by rw[hw2];exact(Below.refl _ _).alloc (Nat.le_refl _) _);rw[←hw2,←hgb];have HGB:=hid hgb;clear hw2 hgb
    go_upto_region 5 with(go_at_call 23;go_loud ((with_reducible refine(cycNew_any _).mono ?_));rintro e w3 hcop;obtain⟨V,N,C,D,y0,y1,y2,y3,y4,m0,m1,m2,m3,m4,j0,j1,j2,j3,j4,hE,rfl,hr,hb3⟩:=hcop.sl;have HE:=hid hE;have HR:=hid hr;have HB3:=hid hb3;clear hcop hE hr hb3)
    obtain⟨w4,hw4⟩:∃W,W=w3.alloc (.cells #[.slice y0 m0 j0,.slice y1 m1 j1,.slice y2 m2 j2,.slice y3 m3 j3,.slice y4 m4 j4] 46):=⟨_,rfl⟩
    obtain⟨gs,hgs⟩:∃g,g=w3.heap.size:=⟨_,rfl⟩
    have hb4:Below w3.heap.size w3 w4:=by rw[hw4];exact(Below.refl _ _).alloc (Nat.le_refl _) _
    have HS := hid (show CyBox w4 gs cy0 from CyBox.new HR.out hb4 (by omega) (by
      obtain⟨e0,e1,e2,e3,e4⟩:=HE.out;rw[e0,e1,e2,e3,e4,hw4,hgs];exact Bx.new w3 #[.slice y0 m0 j0,.slice y1 m1 j1,.slice y2 m2 j2,.slice y3 m3 j3,.slice y4 m4 j4] 46 (by simp)))
    have X04:=hid ((X0.out.below HB3.out X0.out.lt).below hb4 (by have:=X0.out.lt;have:=HB3.out.size;omega));have HB4:=hid ((HB2.out.trans (HB3.out.mono HB2.out.size)).trans (hb4.mono (Nat.le_trans HB2.out.size HB3.out.size)));have hgg:gb<gs:=by have:=X0.out.lt;have:=HB3.out.size;omega
    have h1s:w1.heap.size≤gs:=by have:=HB2.out.size;have:=HB3.out.size;omega
    rw[←hw4,←hgs];clear hw4 hgs hb4
    go_upto_region 6 with fail
    obtain⟨g4,hg4⟩:∃g,g=w4.heap.size:=⟨_,rfl⟩
    obtain⟨w5,hw5⟩:∃W,W=w4.alloc (.cells #[.slice none 0 0,.slice none 0 0,.slice none 0 0,.slice none 0 0] 54):=⟨_,rfl⟩
    have HG4:=hid (show w1.heap.size≤g4∧gs<g4∧gb<g4 by rw[hg4];exact⟨HB4.out.size,HS.out.lt,X04.out.lt⟩);have hbl:BoxL w5 g4 66 3 evRow g4 4 (fun _=>.slice none 0 0) (fun _=>([]:List Ev)):=by rw[hw5,hg4];exact box_zero rfl
    have hb5:Below w4.heap.size w4 w5:=by rw[hw5];exact(Below.refl _ _).alloc (Nat.le_refl _) _
    have hz5:w5.heap.size=g4+1:=by rw[hw5,hg4];simp
    rw[←hw5,←hg4];have HZ5:=hid hz5;have HG4E:=hid hg4;have HBL:=hid hbl;have HB5:=hid hb5;clear hw5 hz5 hg4 hbl hb5
    go_upto_region 7 with fail
    obtain⟨gd,hgd⟩:∃g,g=w5.heap.size:=⟨_,rfl⟩
    obtain⟨w6,hw6⟩:∃W,W=w5.alloc (.cells #[.int .i64 0,.int .i64 0,.int .i64 0,.int .i64 0] 3):=⟨_,rfl⟩
    have hb6:Below w5.heap.size w5 w6:=by rw[hw6];exact(Below.refl _ _).alloc (Nat.le_refl _) _
    have XD0:=hid (show Bx w6 gd (dnV fun _=>0) by rw[hw6,hgd];exact Bx.new w5 #[.int .i64 0,.int .i64 0,.int .i64 0,.int .i64 0] 3 (by simp));rw[←hw6,←hgd];have hz5:=HZ5.out;have hg4:=HG4E.out;have hbl:=HBL.out;have hb5:=HB5.out;have HND0:=hid (show ¬InL g4 4 (fun _=>.slice none 0 0) gd from fun e=>by have:=(hbl.lt e).2;omega);have HL0:=hid (hbl.below hb6)
    have HS6 := hid (show CyBoxX w6 gs (XX g4 gd (fun _ => .slice none 0 0)) cy0 from HS.out.apart (hb5.trans (hb6.mono hb5.size)) (X := XX g4 gd (fun _ => .slice none 0 0)) fun b hb => by
      rcases hb with hb|hb
      · rw[←hg4];exact(hbl.lt hb).1
      · rw[hb,hgd];exact hb5.size)
    have X06:=hid ((X04.out.below hb5 X04.out.lt).below hb6 (Nat.lt_of_lt_of_le X04.out.lt hb5.size));have HB6:=hid ((HB4.out.trans (hb5.mono HB4.out.size)).trans (hb6.mono (Nat.le_trans HB4.out.size hb5.size)));have HGD:=hid (show g4<gd by omega);obtain⟨ga,hga⟩:∃g,g=g4:=⟨_,rfl⟩
    clear hbl hb5 hb6 hw6 hgd hg4 hz5
    go_wp2_with fail
    go_loopw [8] (fun i wr=>∃(k:Nat) (V:Nat→Value) (lt:Nat→List (Nat×Nat)) (dn:Nat→Nat),i=.int .i64 k∧k≤il∧CyBoxX wr gs (XX g4 gd V) (runC c (ins.take k) cy0)∧BoxL wr g4 66 3 evRow g4 4 V (fun s=>(lt s).map lnE)∧Bx wr gd (dnV dn)∧¬InL g4 4 V gd∧Bx wr gb [.slice ma mn mk,.slice (some ⟨lb,lo,none⟩) 4 lc,.slice (some ⟨pb,po,none⟩) 3 pc]∧Below w1.heap.size w1 wr∧LineI lt dn (runC c (ins.take k) cy0)∧∀s,(lt s).length≤12 * k) (fun i _=>il - (intOf i).toNat)
    case atStart=>exact⟨0,_,fun _=>[],fun _=>0,by go_num,Nat.zero_le _,by simpa[runC]using HS6.out,HL0.out,XD0.out,HND0.out,X06.out,HB6.out,by simpa[runC]using line_zero,fun _=>Nat.zero_le _⟩
    case round=>
      clear HS X04 HB4 HE HR HL0 HS6 X06 HB6 XD0 HND0;obtain⟨k,V,lt,dn,rfl,hk,hs,hl,hd,hnd,hx0,hbr,hli,hln⟩:=hrel;have HS:=hid hs;have HL:=hid hl;have X:=hid hx0;have HBR:=hid hbr;have HD:=hid hd;have HND:=hid hnd;have HLI:=hid hli;have HLN:=hid hln;have HG:=hid (show Good c (runC c (ins.take k) cy0) from good_run hbus _ (good_zero c));obtain⟨wo,hwo⟩:∃W,W=wr:=⟨_,rfl⟩
      subst hwo;clear hs hl hx0 hbr hd hnd hli hln;by_cases hlt:k<il
      · have hki : (k : Int) < (il : Int) := by omega
        obtain⟨b,off,rfl,hbB,hrow⟩:=HCELL.out (by omega);obtain⟨ra,rc,ta,tc,sa,sc,hiv,c0,c1,c2⟩:=hrow k hlt;obtain⟨st,hst⟩:∃s,s=runC c (ins.take k) cy0:=⟨_,rfl⟩
        have HSN:=hid (show runC c (ins.take (k+1)) cy0=cyc c (ins.getD k default) st by rw[hst];exact runC_snoc c ins k (by rw[←HIL.out];exact hlt) cy0);rw[←hst]at HS HG HLI;obtain⟨z0,z1,z2,z3,z4,n0,n1,n2,n3,n4,k0,k1,k2,k3,k4,P,Q,hx,hv⟩:=HS.out.box.view hbus HG.out;obtain⟨t0,t1,t2,t3,t4⟩:=hx.five.1;obtain⟨b0,b1,b2⟩:=X.out.three.1;rw[←HBR.out.cell (p:=⟨b,_,none⟩) hbB]at c0 c1 c2;have HSTQ:=hid hst;obtain⟨es,hes⟩:∃l,l=evs c (ins.getD k default) st:=⟨_,rfl⟩
        have HES:=hid hes;clear hst
        go_upto_region 10 with fail
        obtain⟨w9,hw9⟩:∃w9,w9=wo.drew:=⟨_,rfl⟩
        have hb9:Below wo.heap.size wo w9:=by rw[hw9];exact(Below.refl _ _).drew
        have hz9:w9.heap.size=wo.heap.size:=by rw[hw9];rfl
        have HST := hid (show Calls Tryz.prog 27 #[.agg #[.slice ma mn mk, .slice (some ⟨lb, lo, none⟩) 4 lc, .slice (some ⟨pb, po, none⟩) 3 pc], .agg #[.slice z0 n0 k0, .slice z1 n1 k1, .slice z2 n2 k2, .slice z3 n3 k3, .slice z4 n4 k4], .agg #[.slice ra 3 rc, .slice ta 4 tc, .slice sa 3 sc]] w9 (EvP es w9) from by
          rw[hes];exact cycEvents_any hbus (B:=wo.heap.size) (((HBV.out.below HBR.out).mono HBR.out.size).below hb9) (hv.below hb9) (((hiv.below HBR.out).mono HBR.out.size).below hb9) (by omega) HG.out)
        have HS9:=hid (HS.out.keep (KeptX.of hb9) (fun b h=>.inl h));have HL9:=hid (HL.out.below hb9);have HB9:=hid hb9;have HZ9:=hid hz9;have HIV:=hid ((hiv.below HBR.out).mono HBR.out.size);have HC0:=hid c0;have HC1:=hid c1;have HC2:=hid c2;have HBO:=hid (Nat.lt_of_lt_of_le hbB HBR.out.size);have KO:=hid (show ∀W,Below wo.heap.size wo W→∀{p:Addr} {v:Value},wo.cell? p=some v→W.cell? p=some v from fun W hW {_ _} h=>(hW.cell (World.block_lt_of_cell? wo _ h)).trans h);have X9:=hid (X.out.below hb9 X.out.lt);refine wp_region_still_tail 6 (by kernel_rfl) (by kernel_rfl) ?_;change wpStill Tryz.prog _ wo.drew (fun a' => wpList Tryz.prog _ _ _ a' wo.drew) _ _;rw[←hw9];have kc:∀{p:Addr} {v:Value},wo.cell? p=some v→w9.cell? p=some v:=fun h=>by rw[hw9];exact h
        replace t0:=kc t0;replace t1:=kc t1;replace t2:=kc t2;replace t3:=kc t3;replace t4:=kc t4;replace b0:=kc b0;replace b1:=kc b1;replace b2:=kc b2;replace c0:=kc c0;replace c1:=kc c1;replace c2:=kc c2;clear hes hw9 kc hb9 hx hv hiv hz9 hrow;simp only[List.take_succ_cons,List.take_zero,List.drop_succ_cons,List.drop_zero]
        repeat still_step
        refine wpStill_nil ?_;clear t0 t1 t2 t3 t4 b0 b1 b2 c0 c1 c2
        go_upto_region 11 with(go_at_call 27;go_loud ((with_reducible refine(HST.out).mono ?_));rintro e wa ⟨ve,rfl,hev,hba⟩;obtain⟨ea,ec,rfl,_⟩:=hev.shape;have HEV:=hid hev;have HBA:=hid hba;clear hev hba)
        have HD9:=hid (HD.out.below HB9.out HD.out.lt);have HEN:=hid (show es.length≤10 from by rw[HES.out];exact evs_len _ _ _);obtain⟨el,hel⟩:∃x,x=es.length:=⟨_,rfl⟩
        have HEL:=hid hel;have hel10:el≤10:=by rw[hel];exact HEN.out
        rw[←hel];clear hel;have HLA:=hid (HL9.out.below HBA.out);have HSA:=hid (HS9.out.keep (KeptX.of HBA.out) (fun b h=>.inl h));have HDA:=hid (HD9.out.below HBA.out HD9.out.lt)
        have HED := hid (show ArrD wa (fun b => b < wa.heap.size ∧ ¬ XX g4 gd V b) 3 (.slice ea el ec) (es.map evRow) from by
          have h := HEV.out.arrD (P := fun b => b < wa.heap.size ∧ ¬ XX g4 gd V b) (fun b hb => ⟨(OwnR.lt HEV.out b hb).2, fun e => by
            have h1:=(OwnR.lt HEV.out b hb).1;rcases e with e|e
            · have:=(HL9.out.lt e).2;omega
            · have:=HD9.out.lt;omega⟩) (fun _=>rfl) (by have:=HEN.out;omega)
          rwa [←HEL.out]at h)
        have HXA:=hid (X9.out.below HBA.out X9.out.lt);have HBWA:=hid ((HBR.out.trans (HB9.out.mono HBR.out.size)).trans (HBA.out.mono (by have:=HBR.out.size;have:=HZ9.out;omega)));clear HS9 HL9 X9 HEV HS HL HD HD9 X
        go_wp2_with fail
        go_loopw [10] (fun i wr=>∃m:Nat,i=.int .i64 m∧m≤el∧CyBoxX wr gs (XX g4 gd V) st∧BoxL wr g4 66 3 evRow g4 4 V (fun s=>(lt s).map lnE)∧Bx wr gd (dnV fun s=>dn s+doneN c s (es.take m))∧Bx wr gb [.slice ma mn mk,.slice (some ⟨lb,lo,none⟩) 4 lc,.slice (some ⟨pb,po,none⟩) 3 pc]∧Below w1.heap.size w1 wr∧ArrD wr (fun b=>b<wr.heap.size∧¬XX g4 gd V b) 3 (.slice ea el ec) (es.map evRow)) (fun i _=>el - (intOf i).toNat)
        case atStart=>exact⟨0,by go_num,Nat.zero_le _,HSA.out,HLA.out,by simpa[doneN]using HDA.out,HXA.out,HBWA.out,HED.out⟩
        case round=>
          clear HSA HLA HXA HBWA HED HDA;obtain⟨m,rfl,hm,hs,hl,hd,hx0,hbr,hed⟩:=hrel;have HS:=hid hs;have HL:=hid hl;have XR:=hid hx0;have HBW:=hid hbr;have HED:=hid hed;have HD:=hid hd;obtain⟨wo,hwo⟩:∃W,W=wr:=⟨_,rfl⟩
          subst hwo;clear hs hl hx0 hbr hd;by_cases hlt2:m<el
          · have hmi : (m : Int) < (el : Int) := by omega
            have hml:m<es.length:=by rw[←HEL.out];exact hlt2
            obtain⟨eb,eo,ecap,he1,_,_,hebw,hec⟩:=(hed.to (B:=wo.heap.size) fun b h=>h.1).at (by omega)
            simp only[Value.slice.injEq]at he1;obtain⟨rfl,-,rfl⟩:=he1;have e0:=hec m default hml 0 (by omega);have e1:=hec m default hml 1 (by omega);have e2:=hec m default hml 2 (by omega);obtain⟨ev,hev⟩:∃e,e=es.getD m default:=⟨_,rfl⟩
            rw[←hev]at e0 e1 e2;simp only[evRow,List.getElem?_cons_zero,List.getElem?_cons_succ,Nat.add_zero]at e0 e1 e2
            have HTS := hid (show es.take (m + 1) = es.take m ++ [ev] by
              rw[List.take_add_one,hev];have:es[m]?.toList=[es.getD m default]:=by simp[List.getD,hml]
              rw[this])
            obtain⟨kd,hkd⟩:∃x,x=ev.kind:=⟨_,rfl⟩
            obtain⟨eu,heu⟩:∃x,x=ev.who:=⟨_,rfl⟩
            obtain⟨en,hen⟩:∃x,x=ev.n:=⟨_,rfl⟩
            rw[←hkd]at e0;rw[←heu]at e1;rw[←hen]at e2;have HKD:=hid hkd;have HEU:=hid heu;have HENN:=hid hen;have HAT:=hid (show kd=2→_ from fun hk2=>line_at hbus (inp:=ins.getD k default) HG.out HLI.out (m:=m) (by rw[←HES.out];exact hml) (by rw[←HES.out,←hev,←hkd];exact hk2));rw[←HES.out,←hev,←heu,←hen]at HAT
            have HWK := hid (show kd = 2 → ev.who < 3 ∧ ev.n < (c.prog ev.who).length from fun hk2 => by
              obtain⟨h1,_⟩:=evs_at hbus (inp:=ins.getD k default) HG.out (m:=m) (by rw[←HES.out];exact hml) (by rw[←HES.out,←hev,←hkd];exact hk2);rw[←HES.out,←hev]at h1;exact⟨h1.2.1,h1.2.2.1⟩)
            clear hec hev hed hkd heu hen
            go_upto_region 15 with fail
            obtain⟨wq,hwq⟩:∃W,W=wo.alloc (.cells #[.int .i64 kd,.int .i64 eu,.int .i64 en] 66):=⟨_,rfl⟩
            obtain⟨gE,hgE⟩:∃g,g=wo.heap.size:=⟨_,rfl⟩
            have HBQ:=hid (show Below wo.heap.size wo wq by rw[hwq];exact(Below.refl _ _).alloc (Nat.le_refl _) _);have XE:=hid (show Bx wq gE [.int .i64 kd,.int .i64 eu,.int .i64 en] by rw[hwq,hgE];exact Bx.new wo #[.int .i64 kd,.int .i64 eu,.int .i64 en] 66 (by simp));rw[←hwq,←hgE];have HLQ:=hid (HL.out.below HBQ.out);have HSQ:=hid (HS.out.keep (KeptX.of HBQ.out) (fun b h=>.inl h));have HDQ:=hid (HD.out.below HBQ.out HD.out.lt);have XRQ:=hid (XR.out.below HBQ.out XR.out.lt);have HBWQ:=hid (HBW.out.trans (HBQ.out.mono HBW.out.size));have HEDQ:=hid ((HED.out.kept (fun b hb=>HBQ.out.block b hb.1)).weak (Q:=fun b=>b<wq.heap.size∧¬XX g4 gd V b) fun b hb=>⟨Nat.lt_of_lt_of_le hb.1 HBQ.out.size,hb.2⟩);clear hwq hgE HS HL XR HBW HED HD e0 e1 e2;obtain⟨e0,e1,e2⟩:=XE.out.three.1;by_cases hk2:kd=2
            · subst hk2
              as_aux_lemma=>
                have q1:(((2:Nat):Int) != 2)=false:=by simp
                obtain⟨s,hs9,hs4,hz,hlk⟩:=HAT.out rfl;obtain⟨hw3,hnl⟩:=HWK.out rfl;rw[←HEU.out]at hw3;rw[←HEU.out,←HENN.out]at hnl;obtain⟨va,vk,hve,hvc⟩:=HLQ.out.evs hs4 (by rw[List.length_map];have:=HLN.out s;omega);rw[List.length_map]at hve hvc;obtain⟨vb,vo,rfl,q2,q3,i3⟩:=hvc (dn s) ⟨2,eu,en⟩ (by rw[List.getElem?_map,hlk];rfl);have q0:=HLQ.out.cell hs4;rw[hve]at q0;obtain⟨ll,hll⟩:∃x,x=(lt s).length:=⟨_,rfl⟩
                rw[←hll]at q0 i3;simp only at q2 q3;have q4:=HDQ.out.c s (by simpa[dnV]using hs4);rw[dnV_at _ hs4]at q4;rw[hz,Nat.add_zero]at q4;have q5:=HDQ.out.f s (by simpa[dnV]using hs4);obtain⟨dx,hdx⟩:∃x,x=dn s:=⟨_,rfl⟩
                rw[←hdx]at q2 q3 q4 i3;have HDX:=hid hdx;have hbv:=((HBV.out.below HBWQ.out).mono HBWQ.out.size)
                obtain⟨b0,b1,b2⟩:=XRQ.out.three.1;obtain⟨mv', lb', lo', lc', pb', po', pc', QQ', K', hE,_,hmaps,_,_,_,hpc,hrq⟩:=hbv.opened hbus;simp only[Value.agg.injEq,Array.mk.injEq,List.cons.injEq,Value.slice.injEq,Option.some.injEq,Addr.mk.injEq,and_true,true_and]at hE;obtain⟨rfl,⟨⟨rfl,rfl⟩,rfl⟩,⟨rfl,rfl⟩,rfl⟩:=hE;have hpc:=hpc eu hw3;have hrq:=hrq eu hw3;obtain⟨qa,qc,he,_,_,_,_,hq⟩:=hrq.opened;obtain⟨qb,qo,rfl,hqB,hqr⟩:=hq (by omega);simp only[Value.slice.injEq]at he;obtain⟨he1,_,he3⟩:=he;rw[he1,he3]at hpc;obtain⟨da,dc,la,lc2,hrv,r0,r1,r2,r3,r4,r5,r6⟩:=hqr en hnl;have i1:(eu:Int)<3:=by omega
                have i2:(en:Int)<((c.prog eu).length:Int):=by omega
                have HRS:=hid (fun(W:World) (hW:Below wq.heap.size wq W)=>reqSlave_nat hbus hw3 hnl (implReqSlave_any _ _ c.ms ((c.prog eu).getD en default) _ W (hmaps.below hW) (hrv.below hW) hW.size));rw[←hs9]at HRS;have is4:(s:Int)<4:=by omega
                obtain⟨rqv,hrqe⟩:∃x,x=(c.prog eu).getD en default:=⟨_,rfl⟩
                rw[←hrqe]at HRS r0 r1 r2 r3 r4 r5 r6;have hge:decide (ll≤dx)=false:=by simp;omega
                have hne1:((eu:Int) != (eu:Int))=false:=by simp
                have hne2:((en:Int) != (en:Int))=false:=by simp
                have hdb:dx≤4000:=by rw[hdx];have:=(HLI.out s).1;have:=HLN.out s;omega
                have HS9:=hid hs9;have HS4:=hid hs4;have H1:=hid e1;have H2:=hid e2;have Q0:=hid q0;have Q2:=hid q2;have Q3:=hid q3;have Q4:=hid q4;have Q5:=hid q5;have HB2:=hid (World.block_lt_of_cell? wq _ q0);have HB3:=hid (World.block_lt_of_cell? wq _ q2);have HB4:=hid HDQ.out.lt;have HB5:=hid XE.out.lt;clear hrv hrqe hvc hve hll hmaps he1 he3 hqr hq hs9 hlk hz hdx q0 q2 q3 q4 q5
                go_upto_region 16 with fail
                obtain⟨CC,hCC⟩:∃CC:List Value→World→Prop,CC=fun us W=>Below wq.heap.size wq W:=⟨_,rfl⟩
                have hC0:CC [] wq.drew:=by rw[hCC];exact(Below.refl _ _).drew
                have hTC:∀us W,CC us W→Below wq.heap.size wq W:=by rw[hCC];exact fun us W h=>h
                have HTC:=hid hTC;have HCL:=hid (show ∀us W W', CC us W→Below W.heap.size W W' → CC us W' by rw[hCC];exact fun us W W' h h2=>h.trans (h2.mono h.size));have hne:Nonempty (Ph CC):=⟨⟨([],wq.drew),hC0⟩⟩
                have pc:∀{p:Addr} {v:Value},wq.cell? p=some v→∀x:Ph CC,x.1.2.cell? p=some v:=fun hc x=>((hTC _ _ x.2).cell (World.block_lt_of_cell? wq _ hc)).trans hc
                replace e1:=pc e1;replace e2:=pc e2;replace b0:=pc b0;replace b2:=pc b2;replace hpc:=pc hpc;replace r0:=pc r0;replace r1:=pc r1;replace r2:=pc r2;replace r3:=pc r3;replace r4:=pc r4;replace r5:=pc r5;replace r6:=pc r6;clear hCC hTC pc;refine zB2 CC [] [] (by kernel_rfl) (by kernel_rfl) hC0 ?_
                try simp only[List.append_eq,List.cons_append,List.nil_append]
                repeat (
                  (with_reducible refine wq1_q ⟨rfl,rfl⟩ (fun K hK=>?_))
                  go_simp
                  first
                    |((with_reducible refine hK _ ?_);clear hK K)
                    |((with_reducible refine zB0 (by simp[undef]) (hK _ ?_));clear hK K)
                    | (apply Exists.intro
                       (with_reducible refine⟨fun _=>?_,hK _ ?_⟩)
                       (go_at_call 28;rename_i x;exact(HRS.out _ (HTC.out _ _ x.2)).mono fun _ _ ⟨he,hb⟩=>⟨he,HCL.out _ _ _ x.2 hb⟩)
                       clear hK K))
                refine zF5 ?_;refine zG9 ?_;intro wz hwz;have HBZ:=hid (HTC.out _ _ hwz);clear hwz hC0 HTC HCL hne e1 e2 b0 b2 hpc r0 r1 r2 r3 r4 r5 r6;obtain⟨w8,hw8⟩:∃W,W=wz:=⟨_,rfl⟩
                subst hw8;have e1:=(HBZ.out.cell (p:=⟨gE,1,none⟩) HB5.out).trans H1.out;have e2:=(HBZ.out.cell (p:=⟨gE,2,none⟩) HB5.out).trans H2.out;have q0:=(HBZ.out.cell (p:=⟨g4,_,none⟩) HB2.out).trans Q0.out;have q2:=(HBZ.out.cell (p:=⟨vb,vo+dx * 3+1,none⟩) HB3.out).trans Q2.out;have q3:=(HBZ.out.cell (p:=⟨vb,vo+dx * 3+2,none⟩) HB3.out).trans Q3.out;have q4:=(HBZ.out.cell (p:=⟨gd,_,none⟩) HB4.out).trans Q4.out
                go_upto_region 17 with fail
                obtain⟨CC,hCC⟩:∃CC:List Value→World→Prop,CC=fun us W=>Below w8.heap.size w8 W:=⟨_,rfl⟩
                have hC0:CC [] w8.drew:=by rw[hCC];exact(Below.refl _ _).drew
                have hTC:∀us W,CC us W→Below w8.heap.size w8 W:=by rw[hCC];exact fun us W h=>h
                have HTC:=hid hTC;have HCL:=hid (show ∀us W W', CC us W→Below W.heap.size W W' → CC us W' by rw[hCC];exact fun us W W' h h2=>h.trans (h2.mono h.size));have hne:Nonempty (Ph CC):=⟨⟨([],w8.drew),hC0⟩⟩
                have pc:∀{p:Addr} {v:Value},w8.cell? p=some v→∀x:Ph CC,x.1.2.cell? p=some v:=fun hc x=>((hTC _ _ x.2).cell (World.block_lt_of_cell? w8 _ hc)).trans hc
                replace q4:=pc q4;replace q0:=pc q0;replace q2:=pc q2;replace q3:=pc q3;replace e1:=pc e1;replace e2:=pc e2;clear hCC hTC pc;refine zB2 CC [] [] (by kernel_rfl) (by kernel_rfl) hC0 ?_
                try simp only[List.append_eq,List.cons_append,List.nil_append]
                repeat (
                  (with_reducible refine wq1_q ⟨rfl,rfl⟩ (fun K hK=>?_))
                  go_simp
                  first
                    |((with_reducible refine hK _ ?_);clear hK K)
                    |((with_reducible refine zB0 (by simp[undef]) (hK _ ?_));clear hK K)
                    | (apply Exists.intro
                       (with_reducible refine⟨fun _=>?_,hK _ ?_⟩)
                       (fail)
                       clear hK K))
                refine zF5 ?_;refine zG9 ?_;intro wy hwy;have HBZ2:=hid (HTC.out _ _ hwy);clear hwy hC0 HTC HCL hne q4 q0 q2 q3 e1 e2;have HB8:=hid (HBZ.out.trans (HBZ2.out.mono HBZ.out.size));obtain⟨w7,hw7⟩:∃W,W=wy:=⟨_,rfl⟩
                subst hw7;have HD7:=hid (HDQ.out.below HB8.out HDQ.out.lt);have q4:=(HB8.out.cell (p:=⟨gd,_,none⟩) HB4.out).trans Q4.out;have q5:w7.frozen? ⟨gd,s,none⟩=false:=HD7.out.f s (by simpa[dnV]using HS4.out);obtain⟨d1,hd1⟩:∃x,x=dx+1:=⟨_,rfl⟩
                have HD1:=hid hd1;have ew:IntKind.i64.wrap ((dx:Int)+1)=(d1:Int):=by rw[IntKind.wrap_i64];omega
                clear hd1
                go_upto_region 13 with fail
                obtain⟨wv,hwv⟩:∃W,W=w7.setCell ⟨gd,s,none⟩ (.int .i64 (d1:Nat)):=⟨_,rfl⟩
                have hkv:∀b,b≠gd→wv.heap[b]? = w7.heap[b]?:=fun b hb=>by rw[hwv];exact Below.heap_setCell _ _ _ _ (fun e=>hb e)
                have hzv:wv.heap.size=w7.heap.size:=by rw[hwv];simp
                have HKV:=hid (show KeptX (XX g4 gd V) wq wv from⟨by rw[hzv];exact HB8.out.size,fun b hb hn=>(hkv b fun e=>hn (.inr e)).trans (HB8.out.block b hb)⟩)
                have HDV := hid (show Bx wv gd (dnV fun s => dn s + doneN c s (es.take (m + 1))) from by
                  have h:=HD7.out.set s (by simpa[dnV]using HS4.out) (.int .i64 (d1:Nat));rw[hwv]
                  rwa [dnV_set (dn' := fun s => dn s + doneN c s (es.take (m + 1))) HS4.out (fun i => by
                    rw[HTS.out,doneN_one1];by_cases hi:i=s
                    · subst hi;rw[if_pos ⟨HKD.out.symm,by rw[←HEU.out,←HENN.out];exact HS9.out.symm⟩,if_pos rfl];omega
                    · rw [if_neg (fun h => hi (by rw [← h.2, ← HEU.out, ← HENN.out]; exact HS9.out.symm)), if_neg hi, Nat.add_zero]) (by
                    have hzz:=(HAT.out rfl)
                    obtain⟨s', h1,_,h3,_⟩:=hzz;have:s' = s:=by rw[h1,HS9.out]
                    rw[HD1.out,HDX.out,←this,h3,Nat.add_zero])]at h)
                have HLV:=hid (HLQ.out.kept fun b hb=>(hkv b fun e=>HND.out (e▸hb)).trans (HB8.out.block b (HLQ.out.lt hb).2));have HSV:=hid (HSQ.out.keep HKV.out (fun b h=>.inl h));have XRV:=hid (show Bx wv gb [.slice ma mn mk,.slice (some ⟨lb,lo,none⟩) 4 lc,.slice (some ⟨pb,po,none⟩) 3 pc] from(XRQ.out.below HB8.out XRQ.out.lt).kept (hkv gb (by have:=HGD.out;have:=HG4.out.2.2;omega)))
                have HBV2 := hid (show Below w1.heap.size w1 wv from by
                  rw[hwv];exact(HBWQ.out.trans (HB8.out.mono HBWQ.out.size)).setCell (p:=⟨gd,_,none⟩) (show w1.heap.size≤gd by have:=HGD.out;have:=HG4.out.1;omega) _)
                have HEDV:=hid ((HEDQ.out.kept (fun b hb=>(hkv b fun e=>hb.2 (.inr e)).trans (HB8.out.block b hb.1))).weak (Q:=fun b=>b<wv.heap.size∧¬XX g4 gd V b) fun b hb=>⟨by rw[hzv];exact Nat.lt_of_lt_of_le hb.1 HB8.out.size,hb.2⟩);rw[←hwv];clear hwv hkv hzv q4 q5 ew hdb
                go_wp2_with fail
                go_roundw
                case rel=>exact⟨m+1,by go_num,by omega,HSV.out,HLV.out,HDV.out,XRV.out,HBV2.out,HEDV.out⟩
                case measure=>simp[intOf];omega
            · have q1 : ((kd : Int) != 2) = true := by simp; omega
              have HDN := hid (show (fun s => dn s + doneN c s (es.take (m + 1))) = (fun s => dn s + doneN c s (es.take m)) by
                funext s
                rw[HTS.out,doneN_one1,if_neg (fun h=>hk2 (by rw[HKD.out];exact h.1)),Nat.add_zero])
              clear hk2
              go_wp2_with fail
              go_roundw
              case rel=>exact⟨m+1,by go_num,by omega,HSQ.out,HLQ.out,by rw[HDN.out];exact HDQ.out,XRQ.out,HBWQ.out,HEDQ.out⟩
              case measure=>simp[intOf];omega
          · obtain rfl : m = el := by omega
            have hmm:decide ((m:Int)<(m:Int))=false:=by simp
            rw[show es.take m=es from List.take_of_length_le (by rw[HEL.out];exact Nat.le_refl _)]at HD
            go_wp2_with fail
            obtain⟨b', off', hbe,hbB', hrow'⟩:=HCELL.out (by omega);simp only[Option.some.injEq,Addr.mk.injEq,and_true]at hbe;obtain⟨rfl,rfl⟩:=hbe;obtain⟨ra', rc', ta', tc', sa', sc', hiv', c0,c1,c2⟩:=hrow' k hlt;rw[←HBW.out.cell (p:=⟨b,_,none⟩) hbB']at c0 c1 c2;have hiv:=(hiv'.below HBW.out).mono HBW.out.size;obtain⟨z0,z1,z2,z3,z4,n0,n1,n2,n3,n4,k0,k1,k2,k3,k4,P,Q,hx,hv⟩:=HS.out.box.view hbus HG.out;obtain⟨t0,t1,t2,t3,t4⟩:=hx.five.1;obtain⟨b0,b1,b2⟩:=XR.out.three.1;obtain⟨st2,hst2⟩:∃s,s=cyc c (ins.getD k default) st:=⟨_,rfl⟩
            have HST2 := hid (show ∀ W, Below wo.heap.size wo W → Calls Tryz.prog 29 #[.agg #[.slice ma mn mk, .slice (some ⟨lb, lo, none⟩) 4 lc, .slice (some ⟨pb, po, none⟩) 3 pc], .agg #[.slice z0 n0 k0, .slice z1 n1 k1, .slice z2 n2 k2, .slice z3 n3 k3, .slice z4 n4 k4], .agg #[.slice ra' 3 rc', .slice ta' 4 tc', .slice sa' 3 sc']] W (CopP st2 W) from fun W hW => by
              rw[hst2];exact cycStep_any hbus (B:=wo.heap.size) (((HBV.out.below HBW.out).mono HBW.out.size).below hW) (hv.below hW) (hiv.below hW) hW.size HG.out)
            have HT2:=hid hst2;rw[←hst2]at HSN;have hgsl:=HS.out.box.lt
            have HXL := hid (show ∀ b, XX g4 gd V b → b < wo.heap.size from fun b hb => by
              rcases hb with hb|hb
              · exact(HL.out.lt hb).2
              · rw[hb];exact HD.out.lt)
            clear hrow' hiv' hbB' hx hv hiv hst2
            go_upto_region 20 with fail
            go_cut [13] from 119 to 125 (fun s13 w9=>Below wo.heap.size wo w9∧∃g,s13=.pointer (some ⟨g,0,none⟩)∧wo.heap.size≤g∧CyX2 w9 g gs (XX g4 gd V) st2)
            case first=>
              as_aux_lemma=>
                obtain⟨CC,hCC⟩:∃CC:List Value→World→Prop,CC=boxC (CycR st2) wo [vnil,vnil,vnil,vnil,vnil] 6 7 8:=⟨_,rfl⟩
                have hC0:CC [] wo.drew:=by rw[hCC];exact boxC_start
                have hTC:∀us W,CC us W→Below wo.heap.size wo W:=by rw[hCC];exact fun us W h=>boxC_below h
                have HTC:=hid hTC;have HCC:=hid hCC;have hne:Nonempty (Ph CC):=⟨⟨([],wo.drew),hC0⟩⟩
                have pc:∀{p:Addr} {v:Value},wo.cell? p=some v→∀x:Ph CC,x.1.2.cell? p=some v:=fun hc x=>((hTC _ _ x.2).cell (World.block_lt_of_cell? wo _ hc)).trans hc
                replace t0:=pc t0;replace t1:=pc t1;replace t2:=pc t2;replace t3:=pc t3;replace t4:=pc t4;replace b0:=pc b0;replace b1:=pc b1;replace b2:=pc b2;replace c0:=pc c0;replace c1:=pc c1;replace c2:=pc c2;clear hCC hTC pc;refine wp_region_tree CC [(6,false),(7,false),(8,false)] (.alt 6 false (.alt 7 false (.alt 8 false .stop .stop) .stop) (.alt 7 false (.alt 6 false (.alt 8 false .stop .stop) .stop) .stop)) [] (by kernel_rfl) (by kernel_rfl) hC0 ?_
                repeat (
                  (with_reducible refine wq1_q ⟨rfl,rfl⟩ (fun K hK=>?_))
                  go_simp
                  first
                    |((with_reducible refine hK _ ?_);clear hK K)
                    |((with_reducible refine zB0 (by simp[undef]) (hK _ ?_));clear hK K)
                    | (apply Exists.intro
                       (with_reducible refine⟨fun _=>?_,hK _ ?_⟩)
                       (fail)
                       clear hK K))
                iterate 3 refine wq1_v rfl ?_
                refine zF5 ?_;clear hne t0 t1 t2 t3 t4 b0 b1 b2 c0 c1 c2;refine wqt_v _ rfl rfl ?_ ?_ (fun _=>?_)
                · intro W hW KA hKA
                  go_simp
                  (with_reducible refine(HST2.out W (HTC.out _ _ hW)).mono ?_)
                  rintro e W' ⟨V9,N9,C9,D9,rfl,hr9,hb⟩;go_simp;exact hKA _ _ _ (by rw[HCC.out]at hW ⊢;exact boxC_call hW hb ⟨V9,N9,C9,D9,rfl,hr9⟩) rfl
                · intro v6 KA hKA
                  go_simp;refine hKA _ ?_;clear hKA KA;refine wqt_v _ rfl rfl ?_ ?_ (fun h=>by cases h)
                  · intro W hW KA hKA
                    go_simp;exact hKA _ _ _ (by rw[HCC.out]at hW ⊢;exact boxC_box2 (by decide) hW (by simp)) rfl
                  · intro v7 KA hKA
                    go_simp;refine hKA _ ?_;clear hKA KA;refine wqt_v _ rfl rfl ?_ ?_ (fun h=>by cases h)
                    · intro W hW KA hKA
                      rw[HCC.out]at hW;obtain⟨lo9,W0,g9,rfl,hy,hg9,hx,hs⟩:=boxC_at (by decide) (.inl ⟨rfl,rfl⟩) hW;obtain⟨y0,y1,y2,y3,y4,m0,m1,m2,m3,m4,j0,j1,j2,j3,j4,rfl⟩:=hy.r.five;obtain⟨⟨d0,d1,d2,d3,d4⟩,f0,f1,f2,f3,f4⟩:=hx.five;have hxl:=hx.lt;unfold ptr;go_simp;refine hKA undef _ _ ?_ rfl;rw[HCC.out];exact cyc_store (.inr rfl) hW.1 hy hg9 hs hx
                    · intro u KA hKA
                      go_simp;refine hKA _ ?_;clear hKA KA;refine wqt_nil ?_;intro wd hwd;rw[HCC.out]at hwd;have hd:=cyc_done hgsl HXL.out (boxC_done (by decide) (.inl ⟨_,rfl,rfl⟩) hwd);clear hwd
                      go_wp2_with fail
                      go_meet;exact hd
                refine wqt_v _ rfl rfl ?_ ?_ (fun h=>by cases h)
                · intro W hW KA hKA
                  go_simp;exact hKA _ _ _ (by rw[HCC.out]at hW ⊢;exact boxC_box hW (by simp)) rfl
                · intro v7 KA hKA
                  go_simp;refine hKA _ ?_;clear hKA KA;refine wqt_v _ rfl rfl ?_ ?_ (fun h=>by cases h)
                  · intro W hW KA hKA
                    go_simp
                    (with_reducible refine(HST2.out W (HTC.out _ _ hW)).mono ?_)
                    rintro e W' ⟨V9,N9,C9,D9,rfl,hr9,hb⟩;go_simp;exact hKA _ _ _ (by rw[HCC.out]at hW ⊢;exact boxC_call2 (by decide) hW hb ⟨V9,N9,C9,D9,rfl,hr9⟩) rfl
                  · intro v6 KA hKA
                    go_simp;refine hKA _ ?_;clear hKA KA;refine wqt_v _ rfl rfl ?_ ?_ (fun h=>by cases h)
                    · intro W hW KA hKA
                      rw[HCC.out]at hW;obtain⟨lo9,W0,g9,rfl,hy,hg9,hx,hs⟩:=boxC_at (by decide) (.inr ⟨rfl,rfl⟩) hW;obtain⟨y0,y1,y2,y3,y4,m0,m1,m2,m3,m4,j0,j1,j2,j3,j4,rfl⟩:=hy.r.five;obtain⟨⟨d0,d1,d2,d3,d4⟩,f0,f1,f2,f3,f4⟩:=hx.five;have hxl:=hx.lt;unfold ptr;go_simp;refine hKA undef _ _ ?_ rfl;rw[HCC.out];exact cyc_store (.inl rfl) hW.1 hy hg9 hs hx
                    · intro u KA hKA
                      go_simp;refine hKA _ ?_;clear hKA KA;refine wqt_nil ?_;intro wd hwd;rw[HCC.out]at hwd;have hd:=cyc_done hgsl HXL.out (boxC_done (by decide) (.inr ⟨_,rfl,rfl⟩) hwd);clear hwd
                      go_wp2_with fail
                      go_meet;exact hd
            case rest=>
              obtain⟨hb9,gx,rfl,hgx,hx2⟩:=hcut;obtain⟨w9,hw9⟩:∃W,W=wc:=⟨_,rfl⟩
              subst hw9;have HB9:=hid hb9;have HX9:=hid hx2;have HS9:=hid (HS.out.keep (KeptX.of hb9) (fun b h=>.inl h));have HL9:=hid (HL.out.below hb9);have X9:=hid (XR.out.below hb9 XR.out.lt);have HBW9:=hid (HBW.out.trans (hb9.mono HBW.out.size));have HG2:=hid (show Good c st2 from by rw[HT2.out];exact good_step hbus HG.out);clear hb9 hx2 t0 t1 t2 t3 t4 b0 b1 b2 c0 c1 c2 HST2;have HD9:=hid (HD.out.below HB9.out HD.out.lt)
              have HLI2 := hid (show LineI (fun s => lt s ++ lineN st st2 s) (fun s => dn s + doneN c s es) st2 from by
                have h:=line_next hbus (inp:=ins.getD k default) HG.out HLI.out
                rwa [←HT2.out,←HES.out]at h)
              have HGX:=hid (show w1.heap.size≤gx∧wo.heap.size≤gx from⟨Nat.le_trans HBW.out.size hgx,hgx⟩);clear HS HL HD XR HBW hgx hgsl HXL HB9 hed HED
              go_wp2_with fail
              go_loopw [14] (fun i wr=>∃(q:Nat) (V:Nat→Value),i=.int .i64 q∧q≤3∧CyBoxX wr gs (XX g4 gd V) st∧CyX2 wr gx gs (XX g4 gd V) st2∧BoxL wr g4 66 3 evRow g4 4 V (fun s=>(lt s++lineQ st st2 q s).map lnE)∧Bx wr gd (dnV fun s=>dn s+doneN c s es)∧¬InL g4 4 V gd∧Bx wr gb [.slice ma mn mk,.slice (some ⟨lb,lo,none⟩) 4 lc,.slice (some ⟨pb,po,none⟩) 3 pc]∧Below w1.heap.size w1 wr) (fun i _=>3 - (intOf i).toNat)
              case atStart=>exact⟨0,V,by go_num,Nat.zero_le _,HS9.out,HX9.out,by simpa[lineQ]using HL9.out,HD9.out,HND.out,X9.out,HBW9.out⟩
              case round=>
                as_aux_lemma=>
                  clear HS9 HX9 HL9 HD9 HND X9 HBW9;obtain⟨q,V,rfl,hq,hs,hx2,hl,hd,hnd,hx0,hbr⟩:=hrel;have HS:=hid hs;have HX:=hid hx2;have HL:=hid hl;have HD:=hid hd;have HND:=hid hnd;have XR:=hid hx0;have HBW:=hid hbr;obtain⟨xo,hxo⟩:∃W,W=wr:=⟨_,rfl⟩
                  subst hxo;clear hs hx2 hl hd hnd hx0 hbr;by_cases hlt3:q<3
                  · have hqi : (q : Int) < 3 := by omega
                    obtain⟨y0,y1,y2,y3,y4,m0,m1,m2,m3,m4,j0,j1,j2,j3,j4,P', Q', hx3,hv3⟩:=HX.out.toX.box.view hbus HG2.out;obtain⟨_,_,_,_,_,_,pg,pq,pc,_,_,_,_,_,e2,_,_,_,_,hpr,_⟩:=hv3.rows;simp only[Value.slice.injEq]at e2;obtain⟨rfl,rfl,rfl⟩:=e2;have p2:=hx3.five.1.2.2.1;obtain⟨_,_,pa,pk,_,_,pr,_,_,pj⟩:=hpr q hlt3;clear pr pj hx3 hv3 hpr;obtain⟨on,hon⟩:∃x,x=(st2.ports q).out.length:=⟨_,rfl⟩
                    have HON:=hid hon;have ho4:on≤4:=by rw[hon];exact(HG2.out.p q hlt3).o4
                    clear hon
                    go_wp2_with fail
                    clear p2
                    go_loopw [15] (fun i wr=>∃(j:Nat) (V:Nat→Value),i=.int .i64 j∧j≤on∧CyBoxX wr gs (XX g4 gd V) st∧CyX2 wr gx gs (XX g4 gd V) st2∧BoxL wr g4 66 3 evRow g4 4 V (fun s=>(lt s++lineR st st2 q j s).map lnE)∧Bx wr gd (dnV fun s=>dn s+doneN c s es)∧¬InL g4 4 V gd∧Bx wr gb [.slice ma mn mk,.slice (some ⟨lb,lo,none⟩) 4 lc,.slice (some ⟨pb,po,none⟩) 3 pc]∧Below w1.heap.size w1 wr) (fun i _=>on - (intOf i).toNat)
                    case atStart=>exact⟨0,V,by go_num,Nat.zero_le _,HS.out,HX.out,by simpa only[lineR_zero]using HL.out,HD.out,HND.out,XR.out,HBW.out⟩
                    case round=>
                      clear HS HX HL HD HND XR HBW;obtain⟨j,V,rfl,hj,hs,hx2,hl,hd,hnd,hx0,hbr⟩:=hrel;have HS:=hid hs;have HX:=hid hx2;have HL:=hid hl;have HD:=hid hd;have HND:=hid hnd;have XR:=hid hx0;have HBW:=hid hbr;obtain⟨yo,hyo⟩:∃W,W=wr:=⟨_,rfl⟩
                      subst hyo;clear hs hx2 hl hd hnd hx0 hbr;obtain⟨y0,y1,y2,y3,y4,m0,m1,m2,m3,m4,j0,j1,j2,j3,j4,P', Q', hx3,hv3⟩:=HX.out.toX.box.view hbus HG2.out;obtain⟨_,_,_,_,_,_,pg,pq,pc,_,_,_,_,_,e2,_,_,_,_,hpr,_⟩:=hv3.rows;simp only[Value.slice.injEq]at e2;obtain⟨rfl,rfl,rfl⟩:=e2;have p2:=hx3.five.1.2.2.1;obtain⟨_,_,pa,pk,_,_,pr,_,_,pj⟩:=hpr q hlt3;rw[←HON.out]at pr pj;clear hx3 hv3 hpr;by_cases hlt4:j<on
                      · have hji : (j : Int) < (on : Int) := by omega
                        have hjl:j<(st2.ports q).out.length:=by rw[←HON.out];exact hlt4
                        obtain⟨ob,oo,ocap,he,_,_,_,hoc⟩:=Arr.at (f:=jbRow) pj (by omega);simp only[Value.slice.injEq]at he;obtain⟨rfl,-,rfl⟩:=he;have o0:=hoc j default hjl 0 (by omega);have o1:=hoc j default hjl 1 (by omega);have o2:=hoc j default hjl 2 (by omega);obtain⟨o,ho⟩:∃o,o=(st2.ports q).out.getD j default:=⟨_,rfl⟩
                        rw[←ho]at o0 o1 o2;have HOJ:=hid (show(st2.ports q).out[j]? = some o from by rw[ho];simp[List.getD,hjl]);have HOM:=hid (show o∈(st2.ports q).out from by rw[ho];exact zC4 hjl);obtain⟨ow,how⟩:∃x,x=o.who:=⟨_,rfl⟩
                        obtain⟨onn,honn⟩:∃x,x=o.n:=⟨_,rfl⟩
                        obtain⟨ol,hol⟩:∃x,x=o.left:=⟨_,rfl⟩
                        simp only[jbRow,List.getElem?_cons_zero,List.getElem?_cons_succ,Nat.add_zero]at o0 o1 o2;rw[←how]at o0;rw[←honn]at o1;rw[←hol]at o2;have HONN:=hid honn;have HOL:=hid hol;clear hoc pj ho how honn hol
                        go_upto_region 28 with fail
                        obtain⟨zq,hzq⟩:∃W,W=yo.alloc (.cells #[.int .i64 ow,.int .i64 onn,.int .i64 ol] 75):=⟨_,rfl⟩
                        obtain⟨gO,hgO⟩:∃g,g=yo.heap.size:=⟨_,rfl⟩
                        have hbz:Below yo.heap.size yo zq:=by rw[hzq];exact(Below.refl _ _).alloc (Nat.le_refl _) _
                        have XO:=hid (show Bx zq gO [.int .i64 ow,.int .i64 onn,.int .i64 ol] by rw[hzq,hgO];exact Bx.new yo #[.int .i64 ow,.int .i64 onn,.int .i64 ol] 75 (by simp));have HNO0:=hid (show ¬InL g4 4 V gO from fun e=>by have:=(HL.out.lt e).2;omega);rw[←hzq,←hgO];have HSq:=hid (HS.out.keep (KeptX.of hbz) (fun b h=>.inl h));have HXq:=hid (HX.out.keep (KeptX.of hbz) (fun b h=>.inl h));have HLq:=hid (HL.out.below hbz);have HDq:=hid (HD.out.below hbz HD.out.lt);have XRq:=hid (XR.out.below hbz XR.out.lt);have HBq:=hid (HBW.out.trans (hbz.mono HBW.out.size));clear hzq hgO hbz HS HX HL HD XR HBW p2 pr o0 o1 o2;obtain⟨y0,y1,y2,y3,y4,m0,m1,m2,m3,m4,j0,j1,j2,j3,j4,P', Q', hx3,hv3⟩:=HSq.out.box.view hbus HG.out;obtain⟨_,_,_,_,_,_,sg,sq,sc,_,_,_,_,_,e2,_,_,_,_,hpr,_⟩:=hv3.rows;simp only[Value.slice.injEq]at e2;obtain⟨rfl,rfl,rfl⟩:=e2;have s2:=hx3.five.1.2.2.1;obtain⟨_,_,sa,sk,_,_,sr,_,_,sj⟩:=hpr q hlt3;obtain⟨sn,hsn⟩:∃x,x=(st.ports q).out.length:=⟨_,rfl⟩
                        have HSN2:=hid hsn;rw[←hsn]at sr sj;have hsn4:sn≤4:=by rw[hsn];exact(HG.out.p q hlt3).o4
                        have KV:=hid (show ∀W,Below zq.heap.size zq W→∀{p:Addr} {v:Value},zq.cell? p=some v→W.cell? p=some v from fun W hW {_ _} h=>(hW.cell (World.block_lt_of_cell? zq _ h)).trans h);have S2:=hid s2;have SR:=hid sr;have SJ:=hid sj;clear hx3 hv3 hpr s2 sr sj hsn
                        go_wp2_with fail
                        go_loopw [17,18] (fun u i wr=>∃t:Nat,i=.int .i64 t∧t≤sn∧u=.bool (((st.ports q).out.take t).any fun p=>p.n==onn)∧Below zq.heap.size zq wr) (fun _ i _=>sn - (intOf i).toNat)
                        case atStart=>exact⟨0,by go_num,Nat.zero_le _,by simp,Below.refl _ _⟩
                        case round=>
                          obtain⟨t,rfl,ht,rfl,hbt⟩:=hrel;have HBT:=hid hbt;obtain⟨zo,hzo⟩:∃W,W=wr:=⟨_,rfl⟩
                          subst hzo;clear hbt;have s2:=KV.out _ HBT.out S2.out;have sr:=KV.out _ HBT.out SR.out;by_cases hlt5:t<sn
                          · have hti : (t : Int) < (sn : Int) := by omega
                            have htl:t<(st.ports q).out.length:=by rw[←HSN2.out];exact hlt5
                            obtain⟨pb9,po9,pcap,he,_,_,_,hpc9⟩:=Arr.at (f:=jbRow) SJ.out (by omega);simp only[Value.slice.injEq]at he;obtain⟨he1,-,he3⟩:=he;subst he1 he3;have p1:=hpc9 t default htl 1 (by omega);obtain⟨pn,hpn⟩:∃x,x=((st.ports q).out.getD t default).n:=⟨_,rfl⟩
                            simp only[jbRow,List.getElem?_cons_zero,List.getElem?_cons_succ]at p1;rw[←hpn]at p1;have p1:=KV.out _ HBT.out p1;have o1:=KV.out _ HBT.out XO.out.three.1.2.1
                            have HNX := hid (show ((st.ports q).out.take (t + 1)).any (fun p => p.n == onn) = ((((st.ports q).out.take t).any fun p => p.n == onn) || pn == onn) from by
                              rw[List.take_add_one,List.any_append,hpn];have:(st.ports q).out[t]?.toList=[(st.ports q).out.getD t default]:=by simp[List.getD,htl]
                              rw[this];simp)
                            obtain⟨ub,hub⟩:∃b,b=((st.ports q).out.take t).any fun p=>p.n==onn:=⟨_,rfl⟩
                            rw[←hub]at HNX ⊢;clear hub hpn hpc9
                            go_upto_region 32 with fail
                            rcases ub with _|_
                            · by_cases hpe : pn = onn
                              · subst hpe
                                have hpe2:((pn:Int)==(pn:Int))=true:=by simp
                                obtain⟨CC,hCC⟩:∃CC:List Value→World→Prop,CC=fun us W=>Below zo.heap.size zo W:=⟨_,rfl⟩
                                have hC0:CC [] zo.drew:=by rw[hCC];exact(Below.refl _ _).drew
                                have hTC:∀us W,CC us W→Below zo.heap.size zo W:=by rw[hCC];exact fun us W h=>h
                                have HTC:=hid hTC;have HCL:=hid (show ∀us W W', CC us W→Below W.heap.size W W' → CC us W' by rw[hCC];exact fun us W W' h h2=>h.trans (h2.mono h.size));have hne:Nonempty (Ph CC):=⟨⟨([],zo.drew),hC0⟩⟩
                                have pc:∀{p:Addr} {v:Value},zo.cell? p=some v→∀x:Ph CC,x.1.2.cell? p=some v:=fun hc x=>((hTC _ _ x.2).cell (World.block_lt_of_cell? zo _ hc)).trans hc
                                replace s2:=pc s2;replace sr:=pc sr;replace p1:=pc p1;replace o1:=pc o1;clear hCC hTC pc;refine zB2 CC [] [] (by kernel_rfl) (by kernel_rfl) hC0 ?_
                                try simp only[List.append_eq,List.cons_append,List.nil_append]
                                repeat (
                                  (with_reducible refine wq1_q ⟨rfl,rfl⟩ (fun K hK=>?_))
                                  go_simp
                                  first
                                    |((with_reducible refine hK _ ?_);clear hK K)
                                    |((with_reducible refine zB0 (by simp[undef]) (hK _ ?_));clear hK K)
                                    | (apply Exists.intro
                                       (with_reducible refine⟨fun _=>?_,hK _ ?_⟩)
                                       (fail)
                                       clear hK K))
                                refine zF5 ?_;refine zG9 ?_;intro wz hwz;have HBZ:=hid (HTC.out _ _ hwz);clear hwz hC0 HTC HCL hne s2 sr p1 o1
                                go_wp2_with fail
                                go_roundw
                                case rel=>exact⟨t+1,by go_num,by omega,by rw[HNX.out];simp,HBT.out.trans (HBZ.out.mono HBT.out.size)⟩
                                case measure=>simp[intOf];omega
                              · have hpe2 : ((pn : Int) == (onn : Int)) = false := by simp; omega
                                have HPE:=hid hpe;clear hpe;obtain⟨CC,hCC⟩:∃CC:List Value→World→Prop,CC=fun us W=>Below zo.heap.size zo W:=⟨_,rfl⟩
                                have hC0:CC [] zo.drew:=by rw[hCC];exact(Below.refl _ _).drew
                                have hTC:∀us W,CC us W→Below zo.heap.size zo W:=by rw[hCC];exact fun us W h=>h
                                have HTC:=hid hTC;have HCL:=hid (show ∀us W W', CC us W→Below W.heap.size W W' → CC us W' by rw[hCC];exact fun us W W' h h2=>h.trans (h2.mono h.size));have hne:Nonempty (Ph CC):=⟨⟨([],zo.drew),hC0⟩⟩
                                have pc:∀{p:Addr} {v:Value},zo.cell? p=some v→∀x:Ph CC,x.1.2.cell? p=some v:=fun hc x=>((hTC _ _ x.2).cell (World.block_lt_of_cell? zo _ hc)).trans hc
                                replace s2:=pc s2;replace sr:=pc sr;replace p1:=pc p1;replace o1:=pc o1;clear hCC hTC pc;refine zB2 CC [] [] (by kernel_rfl) (by kernel_rfl) hC0 ?_
                                try simp only[List.append_eq,List.cons_append,List.nil_append]
                                repeat (
                                  (with_reducible refine wq1_q ⟨rfl,rfl⟩ (fun K hK=>?_))
                                  go_simp
                                  first
                                    |((with_reducible refine hK _ ?_);clear hK K)
                                    |((with_reducible refine zB0 (by simp[undef]) (hK _ ?_));clear hK K)
                                    | (apply Exists.intro
                                       (with_reducible refine⟨fun _=>?_,hK _ ?_⟩)
                                       (fail)
                                       clear hK K))
                                refine zF5 ?_;refine zG9 ?_;intro wz hwz;have HBZ:=hid (HTC.out _ _ hwz);clear hwz hC0 HTC HCL hne s2 sr p1 o1
                                go_wp2_with fail
                                go_roundw
                                case rel=>exact⟨t+1,by go_num,by omega,by rw[HNX.out,show(pn==onn)=false from by simpa using HPE.out];rfl,HBT.out.trans (HBZ.out.mono HBT.out.size)⟩
                                case measure=>simp[intOf];omega
                            · skip
                              obtain⟨CC,hCC⟩:∃CC:List Value→World→Prop,CC=fun us W=>Below zo.heap.size zo W:=⟨_,rfl⟩
                              have hC0:CC [] zo.drew:=by rw[hCC];exact(Below.refl _ _).drew
                              have hTC:∀us W,CC us W→Below zo.heap.size zo W:=by rw[hCC];exact fun us W h=>h
                              have HTC:=hid hTC;have HCL:=hid (show ∀us W W', CC us W→Below W.heap.size W W' → CC us W' by rw[hCC];exact fun us W W' h h2=>h.trans (h2.mono h.size));have hne:Nonempty (Ph CC):=⟨⟨([],zo.drew),hC0⟩⟩
                              have pc:∀{p:Addr} {v:Value},zo.cell? p=some v→∀x:Ph CC,x.1.2.cell? p=some v:=fun hc x=>((hTC _ _ x.2).cell (World.block_lt_of_cell? zo _ hc)).trans hc
                              replace s2:=pc s2;replace sr:=pc sr;replace p1:=pc p1;replace o1:=pc o1;clear hCC hTC pc;refine zB2 CC [] [] (by kernel_rfl) (by kernel_rfl) hC0 ?_
                              try simp only[List.append_eq,List.cons_append,List.nil_append]
                              repeat (
                                (with_reducible refine wq1_q ⟨rfl,rfl⟩ (fun K hK=>?_))
                                go_simp
                                first
                                  |((with_reducible refine hK _ ?_);clear hK K)
                                  |((with_reducible refine zB0 (by simp[undef]) (hK _ ?_));clear hK K)
                                  | (apply Exists.intro
                                     (with_reducible refine⟨fun _=>?_,hK _ ?_⟩)
                                     (fail)
                                     clear hK K))
                              refine zF5 ?_;refine zG9 ?_;intro wz hwz;have HBZ:=hid (HTC.out _ _ hwz);clear hwz hC0 HTC HCL hne s2 sr p1 o1
                              go_wp2_with fail
                              go_roundw
                              case rel=>exact⟨t+1,by go_num,by omega,by rw[HNX.out];simp,HBT.out.trans (HBZ.out.mono HBT.out.size)⟩
                              case measure=>simp[intOf];omega
                          · obtain rfl : t = sn := by omega
                            have htt:decide ((t:Int)<(t:Int))=false:=by simp
                            rw[show(st.ports q).out.take t=(st.ports q).out from List.take_of_length_le (by rw[HSN2.out];exact Nat.le_refl _)];have HNW:=hid (show isNew st q o=!((st.ports q).out.any fun p=>p.n==onn) from by rw[HONN.out];rfl);obtain⟨ub,hub⟩:∃b,b=(st.ports q).out.any fun p=>p.n==onn:=⟨_,rfl⟩
                            rw[←hub]at HNW ⊢;obtain⟨wq,hwq⟩:∃W,W=zo:=⟨_,rfl⟩
                            subst hwq;have HSQ:=hid (HSq.out.keep (KeptX.of HBT.out) (fun b h=>.inl h));have HXQ:=hid (HXq.out.keep (KeptX.of HBT.out) (fun b h=>.inl h));have HLQ:=hid (HLq.out.below HBT.out);have HDQ:=hid (HDq.out.below HBT.out HDq.out.lt);have XRQ:=hid (XRq.out.below HBT.out XRq.out.lt);have HBWQ:=hid (HBq.out.trans (HBT.out.mono HBq.out.size));have XOQ:=hid (XO.out.below HBT.out XO.out.lt);clear hub HSq HXq HLq HDq XRq HBq XO;rcases ub with _|_
                            · have HAL := hid (show ((lt ol ++ lineR st st2 q j ol).map lnE).length ≤ 5000 from by rw [List.length_map, List.length_append]; have := HLN.out ol; have := lineR_len HG2.out hlt3 (st := st) (j := j) (s := ol); omega)
                              have I3:=(show ol<4 by rw[HOL.out,((HG2.out.p q hlt3).o o HOM.out).2.1];exact slv_lt4 hbus.ms _)
                              have i1:(ol:Int)<4:=by omega
                              have HNO:=hid (show ¬InL g4 4 V gO from HNO0.out);obtain⟨AB,hAB⟩:∃x,x=fun s=>(lt s++lineR st st2 q j s).map lnE:=⟨_,rfl⟩
                              rw[←hAB]at HLQ;rw[show((lt ol++lineR st st2 q j ol).map lnE)=AB ol from by rw[hAB]]at HAL;have HAB:=hid hAB;obtain⟨o0,o1,o2⟩:=XOQ.out.three.1;clear hAB o0
                              go_upto_region 34 with fail
                              clear s2 sr;obtain⟨CC,hCC⟩:∃CC:List Value→World→Prop,CC=pushC wq g4 66 3 evRow g4 4 V AB ol (lnE (q,onn)):=⟨_,rfl⟩
                              have hC0:CC [] wq.drew:=by rw[hCC];exact(Below.refl _ _).drew
                              have hTC:∀us W,CC us W→KeptX (InL g4 4 V) wq W:=by rw[hCC];exact fun us W h=>pushC_kept I3 h
                              have HCC:=hid hCC;have hne:Nonempty (Ph CC):=⟨⟨([],wq.drew),hC0⟩⟩
                              have hne2:Nonempty (Ph (lims CC (some 2))):=⟨⟨([],wq.drew),hC0,by simp⟩⟩
                              have pc:∀{p:Addr} {v:Value},¬InL g4 4 V p.block→wq.cell? p=some v→∀x:Ph CC,x.1.2.cell? p=some v:=fun hp hc x=>(hTC _ _ x.2).cell hp hc
                              have hld:∀x:Ph (lims CC (some 2)),x.1.2.cell? ⟨g4,ol,none⟩=some (V ol):=by rw[hCC];exact fun x=>pushC_load HLQ.out I3 x.2.1 x.2.2
                              replace o1:=pc HNO.out o1;replace o2:=pc HNO.out o2;clear hCC hTC pc;refine zB2 CC [(12,false),(13,false),(15,false)] [(7,2)] (by kernel_rfl) (by kernel_rfl) hC0 ?_
                              repeat (
                                (with_reducible refine wq1_q ⟨rfl,rfl⟩ (fun K hK=>?_))
                                go_simp
                                first
                                  |((with_reducible refine hK _ ?_);clear hK K)
                                  |((with_reducible refine zB0 (by simp[undef]) (hK _ ?_));clear hK K)
                                  | (apply Exists.intro
                                     (with_reducible refine⟨fun _=>?_,hK _ ?_⟩)
                                     (fail)
                                     clear hK K))
                              refine wq1_b ⟨rfl,rfl⟩ (fun KA hKA=>?_);go_simp;refine hKA _ ?_;clear hKA KA
                              repeat (
                                (with_reducible refine wq1_q ⟨rfl,rfl⟩ (fun K hK=>?_))
                                go_simp
                                first
                                  |((with_reducible refine hK _ ?_);clear hK K)
                                  |((with_reducible refine zB0 (by simp[undef]) (hK _ ?_));clear hK K)
                                  | (apply Exists.intro
                                     (with_reducible refine⟨fun _=>?_,hK _ ?_⟩)
                                     (fail)
                                     clear hK K))
                              iterate 2 refine wq1_v rfl ?_
                              repeat (
                                (with_reducible refine wq1_q ⟨rfl,rfl⟩ (fun K hK=>?_))
                                go_simp
                                first
                                  |((with_reducible refine hK _ ?_);clear hK K)
                                  |((with_reducible refine zB0 (by simp[undef]) (hK _ ?_));clear hK K)
                                  | (apply Exists.intro
                                     (with_reducible refine⟨fun _=>?_,hK _ ?_⟩)
                                     (fail)
                                     clear hK K))
                              refine wq1_v rfl ?_;refine zF5 ?_;clear hne hne2 hld o1 o2;refine wq2_v _ rfl rfl ?_ ?_
                              · intro W hW KA hKA
                                rw[HCC.out]at hW hKA;have hbW:Below wq.heap.size wq W:=hW;go_simp
                                exact hKA _ _ _ ⟨hbW.alloc hbW.size _, W.heap.size, rfl, fun j u hj => by match j, hj with
                                  |0,hj=>simp only[evRow,lnE,List.getElem?_cons_zero,Option.some.injEq]at hj;subst hj;simp[go_sem]
                                  |1,hj=>simp only[evRow,lnE,List.getElem?_cons_zero,List.getElem?_cons_succ,Option.some.injEq]at hj;subst hj;simp[go_sem]
                                  |2,hj=>simp only[evRow,lnE,List.getElem?_cons_zero,List.getElem?_cons_succ,Option.some.injEq]at hj;subst hj;simp[go_sem]
                                  |j+3,hj=>simp[evRow]at hj⟩ rfl
                              intro v0 KA hKA;go_simp;refine hKA _ ?_;clear hKA KA;refine wq2_v _ rfl rfl ?_ ?_
                              · intro W hW KA hKA
                                rw[HCC.out]at hW hKA;obtain⟨hb,h,rfl,hnew⟩:=hW;refine wp_pushH elem_evT evRow (fun _=>rfl) (lnE (q,onn)) (evRow_one (lnE (q,onn))) W _ _ rfl g4 _ (AB ol) rfl ((HLQ.out.below hb).own ol I3) h 1 rfl hnew (by have:=HAL.out;omega) (by have:=HAL.out;omega) (Nat.le_trans HLQ.out.lb (Nat.le_of_lt (HLQ.out.below hb).bx.lt)) ?_;intro v' w' ho hkp hz hbb hv';exact hKA _ _ _ ⟨W,hb,ho,hkp,hz,hbb,hv'⟩ rfl
                              intro v1 KA hKA;go_simp;refine hKA _ ?_;clear hKA KA;refine wq2_v _ rfl rfl ?_ ?_
                              · intro W hW KA hKA
                                rw[HCC.out]at hW hKA;obtain⟨d0,d1⟩:=pushC_cell HLQ.out I3 hW;obtain⟨oa,on,oc,rfl⟩:=pushC_sl hW;go_simp;exact hKA undef _ _ (pushC_store HLQ.out I3 hW) rfl
                              intro v2 KA hKA;go_simp;refine hKA _ ?_;clear hKA KA;refine zG9 ?_;intro wd hwd;rw[HCC.out]at hwd;obtain⟨V', hB', hK', hbd,hX'⟩:=(show PushD wq g4 66 3 evRow g4 4 V AB ol (lnE (q,onn)) wd from hwd)
                              clear hwd hC0 HCC
                              have HLD := hid (show BoxL wd g4 66 3 evRow g4 4 V' (fun s => (lt s ++ lineR st st2 q (j + 1) s).map lnE) from by
                                have e9:upd AB ol (AB ol++[lnE (q,onn)])=fun s=>(lt s++lineR st st2 q (j+1) s).map lnE:=by
                                  funext s
                                  rw[lineR_next st st2 HOJ.out,HAB.out];by_cases hs:s=ol
                                  · subst hs
                                    rw[zA1,if_pos ⟨HNW.out,HOL.out.symm⟩,←HONN.out];simp
                                  · rw[zA0 _ _ hs,if_neg (fun h=>hs (by rw[HOL.out];exact h.2.symm)),List.append_nil]
                                rwa [e9]at hB')
                              have hKX:=hK'.more (X':=XX g4 gd V) (fun b h=>.inl h);have hXX:∀b,XX g4 gd V' b→XX g4 gd V b∨wq.heap.size≤b:=fun b h=>by
                                rcases h with h|h
                                · exact(hX' b h).imp .inl id
                                · exact .inl (.inr h)
                              have HSD:=hid (HSQ.out.keep hKX hXX);have HXD:=hid (HXQ.out.keep hKX hXX);have HDD:=hid (HDQ.out.kept (hK'.block gd HDQ.out.lt HND.out));have HNDD:=hid (show ¬InL g4 4 V' gd from fun e=>(hX' gd e).elim HND.out fun h=>by have:=HDQ.out.lt;omega);have XRD:=hid (XRQ.out.kept (hK'.block gb XRQ.out.lt fun e=>by have:=(HLQ.out.lt e).1;have:=HG4.out.2.2;omega));have HBWD:=hid (HBWQ.out.trans (hbd.mono HG4.out.1));clear hB' hK' hbd hX' hKX hXX
                              go_wp2_with fail
                              go_roundw
                              case rel=>exact⟨j+1,V', by go_num,by omega,HSD.out,HXD.out,HLD.out,HDD.out,HNDD.out,XRD.out,HBWD.out⟩
                              case measure=>simp[intOf];omega
                            · have HLD := hid (show BoxL wq g4 66 3 evRow g4 4 V (fun s => (lt s ++ lineR st st2 q (j + 1) s).map lnE) from by
                                have e9:(fun s=>(lt s++lineR st st2 q (j+1) s).map lnE)=fun s=>(lt s++lineR st st2 q j s).map lnE:=by
                                  funext s
                                  rw[lineR_next st st2 HOJ.out,if_neg (fun h=>by rw[HNW.out]at h;exact absurd h.1 (by simp)),List.append_nil]
                                rw[e9];exact HLQ.out)
                              go_wp2_with fail
                              go_roundw
                              case rel=>exact⟨j+1,V,by go_num,by omega,HSQ.out,HXQ.out,HLD.out,HDQ.out,HND.out,XRQ.out,HBWQ.out⟩
                              case measure=>simp[intOf];omega
                      · obtain rfl : j = on := by omega
                        have hjj:decide ((j:Int)<(j:Int))=false:=by simp
                        go_wp2_with fail
                        go_roundw
                        case rel=>exact⟨q+1,V,by go_num,by omega,HS.out,HX.out,by rw[←(funext fun s=>congrArg (fun l=>(lt s++l).map lnE) (by rw[HON.out];exact lineR_full st st2 q s):(fun s=>(lt s++lineR st st2 q j s).map lnE)=fun s=>(lt s++lineQ st st2 (q+1) s).map lnE)];exact HL.out,HD.out,HND.out,XR.out,HBW.out⟩
                        case measure=>simp[intOf];omega
                  · obtain rfl : q = 3 := by omega
                    rw[show(((3:Nat)):Int)=(3:Int) from rfl];obtain⟨y0,y1,y2,y3,y4,m0,m1,m2,m3,m4,j0,j1,j2,j3,j4,P', Q', hx3,hv3⟩:=HX.out.toX.box.view hbus HG2.out;obtain⟨_,_,_,_,_,_,pg,pq,pc,_,_,_,-,-,e2,-,-,-,-,-,-⟩:=hv3.rows;simp only[Value.slice.injEq]at e2;obtain⟨rfl,rfl,rfl⟩:=e2;obtain⟨u0,u1,u2,u3,u4⟩:=hx3.five.1;obtain⟨z0,z1,z2,z3,z4,n0,n1,n2,n3,n4,k0,k1,k2,k3,k4,P,Q,hx,_⟩:=HS.out.box.view hbus HG.out;obtain⟨⟨d0,d1,d2,d3,d4⟩,f0,f1,f2,f3,f4⟩:=hx.five;have hxl:=hx.lt;have HX3:=hid hx3;have HXS:=hid hx;clear hx3 hv3 hx
                    go_upto_region 9 with fail
                    obtain⟨wv,hwv⟩:∃W,W=((((xo.setCell ⟨gs,0,none⟩ (.slice y0 m0 j0)).setCell ⟨gs,1,none⟩ (.slice y1 m1 j1)).setCell ⟨gs,2,none⟩ (.slice (some ⟨pg,pq,none⟩) 3 j2)).setCell ⟨gs,3,none⟩ (.slice y3 m3 j3)).setCell ⟨gs,4,none⟩ (.slice y4 m4 j4):=⟨_,rfl⟩
                    have HSV:=hid (show CyBoxX wv gs (XX g4 gd V) st2 from by rw[hwv];exact HX.out.move HXS.out HX3.out HS.out.ngs);have HBV9:=hid (show Below w1.heap.size w1 wv from by rw[hwv];exact((((HBW.out.setCell (p:=⟨gs,_,none⟩) h1s _).setCell (p:=⟨gs,_,none⟩) h1s _).setCell (p:=⟨gs,_,none⟩) h1s _).setCell (p:=⟨gs,_,none⟩) h1s _).setCell (p:=⟨gs,_,none⟩) h1s _);have hkv:∀b,b≠gs→wv.heap[b]? = xo.heap[b]?:=fun b hb=>by rw[hwv];exact zK3 b hb
                    have HLV:=hid (HL.out.kept fun b hb=>hkv b fun e=>HS.out.ngs (.inl (e▸hb)));have HDV:=hid (HD.out.kept (hkv gd fun e=>HS.out.ngs (.inr e.symm)));have XRV:=hid (XR.out.kept (hkv gb (by omega)))
                    have HLV2 := hid (show BoxL wv g4 66 3 evRow g4 4 V (fun s => (lt s ++ lineN st st2 s).map lnE) from by
                      have h:=HLV.out;simp only[lineQ_three]at h;exact h)
                    rw[←hwv];clear hwv hkv u0 u1 u2 u3 u4 d0 d1 d2 d3 d4 f0 f1 f2 f3 f4
                    go_wp2_with fail
                    go_roundw
                    case rel => exact ⟨k + 1, V, fun s => lt s ++ lineN st st2 s, fun s => dn s + doneN c s es, by go_num, by omega, by rw [HSN.out]; exact HSV.out, HLV2.out, HDV.out, HND.out, XRV.out, HBV9.out, by rw [HSN.out]; exact HLI2.out, fun s => by
                      have h1:=HLN.out s;have h2:=lineN_len (st:=st) HG2.out s;show(lt s++lineN st st2 s).length≤_;rw[List.length_append];omega⟩
                    case measure=>simp[intOf];omega
      · obtain rfl : k = il := by omega
        have hki2:decide ((k:Int)<(k:Int))=false:=by simp
        rw[show ins.take k=ins from List.take_of_length_le (by rw[HIL.out];exact Nat.le_refl _)]at HS HG;obtain⟨z0,z1,z2,z3,z4,n0,n1,n2,n3,n4,k0,k1,k2,k3,k4,P,Q,hx,hv⟩:=HS.out.box.view hbus HG.out;obtain⟨t0,t1,t2,t3,t4⟩:=hx.five.1;obtain⟨b0,b1,b2⟩:=X.out.three.1;have HOK:=hid (cycOk_any hbus ((HBV.out.below HBR.out).mono HBR.out.size) hv (Nat.le_refl _) HG.out);clear hx hv
        go_wp2_with (first
          |(go_at_call 30;go_loud ((with_reducible refine(HOK.out).mono ?_));rintro e w8 ⟨rfl,hb8⟩;have HB8:=hid hb8;clear hb8 t0 t1 t2 t3 t4 b0 b1 b2)
          |(go_at_call 26;refine(crOk_any _).mono ?_;rintro e w9 ⟨rfl,rfl⟩))
        go_ret
        exact⟨rfl,(HB1.out.trans (HBR.out.mono HB1.out.size)).trans (HB8.out.mono (Nat.le_trans HB1.out.size HBR.out.size))⟩
end Go.Proofs.YthnlalffjepdaaaGreat
namespace Go.Proofs.YthnlalffjepdaaaGreat
open Go.RowKit
open Go.ChangeShapes Go.WideShapes Go.ChangeAt
theorem line_holds:Rows.FnCycLineSaid :=
 OpenClaim.holds_of_wide 7 Tryz.f7 rfl rfl rfl rfl rfl rfl rfl ⟨rfl, rfl, rfl, rfl, rfl⟩ rfl rfl rfl rfl rfl (by kernel_rfl) Tryz.func7 (by kernel_rfl)
  (of_decide_eq_true (by kernel_rfl)) (by unfold Func.isWrapper;first|(rw[if_pos (by decide +kernel)];kernel_rfl)|(rw[if_neg (by decide +kernel)];exact⟨rfl,rfl⟩))
  (fun os started H enc _ => code_lifted started enc 7 Tryz.f7 Rows.fnCycLineSpec rfl (by kernel_rfl) Tryz.func7
   (ChangeSpec.witness6 (enc:=enc) (C:=Tryz.checked) false ⟨#[],#[.slice none 0 0],[]⟩ 8 (by kernel_rfl) (by kernel_rfl) (by kernel_rfl) (by kernel_rfl)) Tryz.params7 rfl (fun _=>⟨rfl,rfl,rfl⟩) (line_any drawPlay_any))
#print axioms line_holds
end Go.Proofs.YthnlalffjepdaaaGreat
