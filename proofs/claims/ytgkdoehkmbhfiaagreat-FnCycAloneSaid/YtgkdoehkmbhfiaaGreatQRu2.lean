/- Regions that draw, by an invariant with what is listed closed (as in Sa0, without the stores of things). -/
import Derived.Test.YtgkdoehkmbhfiaaGreatQDr2
import Derived.Test.YtgkdoehkmbhfiaaGreatQDo4
import Derived.Test.YtgkdoehkmbhfiaaGreatQWrd
import Derived.Outline
import Derived.Deep.RegionWith
import Derived.Deep.Cut
import Derived.Deep.CutRange
import Derived.Deep.CutBlock
import Derived.Deep.RegionHeld3
import Derived.Laws.CopyOwn
import Derived.Deep.OwnRows
set_option linter.unusedVariables false
set_option linter.unusedSimpArgs false
set_option maxHeartbeats 16000000
namespace Go.Proofs.YtgkdoehkmbhfiaaGreat
open Go.RowKit
theorem sizeReq:(Tryz.prog.info? 52).map (·.size)=some 7:=by kernel_rfl
theorem infoRsp:(Tryz.prog.info? 63).map (fun i=>(i.zero,i.size,i.bytes))=some (some (.agg #[.int .i64 0,.int .i64 0,.slice none 0 0]),3,40):=by kernel_rfl
theorem RunI.start {w : World} {base S gw ow cw gh oh ch g n : Nat} {ws hs : List Int} (ha : AtmAt w base S gw ow cw gh oh ch ws hs) (hr : Owns w base 63 3 rowR (.slice (some ⟨g, 0, none⟩) n n) (List.replicate n zR)) (h1 : gw < g) (h2 : gh < g) (h3 : S < g) :
  RunI w base S gw ow cw gh oh ch g n ws hs [] []:=by
 refine⟨ha,by simpa[zD1]using hr,rfl,by simp,fun j hj=>absurd hj (by simp),⟨by omega,by omega,by omega⟩,?_⟩;simp only[List.pairwise_cons,List.mem_cons,List.not_mem_nil,or_false];refine⟨?_,?_,?_,List.Pairwise.nil⟩
 ·rintro v (rfl|rfl)
  ·intro k hk hk2;simp only[Value.ownBlock,Option.some.injEq]at hk hk2;exact ha.ne (by omega)
  ·intro k hk hk2;simp only[Value.ownBlock,Option.some.injEq]at hk hk2;omega
 ·rintro v rfl k hk hk2;simp only[Value.ownBlock,Option.some.injEq]at hk hk2;omega
 ·simp
set_option maxRecDepth 4000 in
theorem implAtmRun_yes (v sv u : Value) (ms : List MR) (B : Nat) (ws hs : List Int) (who : Int) (rs : List Rq) (w : World) (hv : Maps w B v ms) (hs1 : AtmV w B sv ws hs) (hu : Reqs w B u rs) (hB : B ≤ w.heap.size)
  (hok:runOk ms ws hs who rs=true) :
  Calls Tryz.prog 41 #[v,sv,.int .i64 who,u] w (AtmRunP (zB2 ms who ws hs rs) w):=by
 have HV:=hid hv;have HS:=hid hs1;have HU:=hid hu;obtain⟨wv,hv2,rfl,s1,s2⟩:=hs1;obtain⟨h1,h2,h3,h4,h5⟩:=runOk_parts.1 hok;have hl:ws.length=64∧hs.length=6∧ws.all zB1=true:=by
  have h2':=h2;simp only[atmOk,memOk,Bool.and_eq_true,beq_iff_eq]at h2';exact⟨h2'.1.1.1,h2'.1.2,h2'.1.1.2⟩
 have HL:=hid hl;obtain⟨uo,uc,rfl,hlc,hcap,hln,hni,hr⟩:=hu.opened;clear hv s1 s2 hl hu;have HWHO:=hid h3;have HALL:=hid h5;have HOK2:=hid h2;have H12:=hid h4;have hle:(rs.length:Int)≤12:=by omega
 have h12:decide ((12:Int)<(rs.length:Int))=false:=by simpa using hle
 have HNO:=hid (show rs.any (fun r=>!reqOk r)=false by rw[List.any_eq_false];intro r hr;simp[List.all_eq_true.1 h5 r hr]);have HAB:=hid (fun T V=>rn_open w wv hv2 T V);have HP:=hid (fun(T V:TypeId)=>show Below w.heap.size w ((w.alloc (.cells #[wv,hv2] T)).alloc (.cells #[.slice none 0 0,.slice none 0 0] V)) from((Below.refl _ _).alloc (Nat.le_refl _) _).alloc (by simp) _);clear h5 h4 hok hle hlc
 go_enter Tryz.func41,Tryz.ntmps41
 go_wp2_with (first
   |(go_at_call 47;refine(zD3 _ ms B _ (HV.out.below ((HP.out _ _).mono hB)) (by first|(simp;done)|(simp;omega))).mono ?_;rw[h1];rintro e w1 ⟨rfl,hb1⟩;have HAB1:=hid ((HAB.out _ _).below hb1 (by first|(simp;done)|(simp;omega)));obtain⟨⟨a0,a1⟩,⟨g0,g1,g2,g3⟩⟩:=HAB1.out;have HB:=hid ((HP.out _ _).trans (hb1.mono (by first|(simp;done)|(simp;omega))));clear hb1)
   |(go_at_call 51;refine(zI2 _ ws hs B _ (HS.out.below (HB.out.mono hB)) (Nat.le_trans hB HB.out.size)).mono ?_;rw[h2];rintro e w1 ⟨rfl,hb1⟩;have HAB1:=hid (HAB1.out.below hb1 HAB1.out.lt);obtain⟨⟨a0,a1⟩,⟨g0,g1,g2,g3⟩⟩:=HAB1.out;have HB:=hid (HB.out.trans (hb1.mono HB.out.size));clear hb1)
   |(go_at_call 56;refine(zE2 _ _).mono ?_;rw[h3];rintro e w' ⟨rfl,rfl⟩)
   |(go_at_call 77;refine(hasReq_any 78 _ (zB3 Tryz.func78 (by kernel_rfl) (by kernel_rfl)) (fun r=>!reqOk r) _ rs B _ (HU.out.below (HB.out.mono hB)) (Nat.le_trans hB HB.out.size) (fun r u' w1 hb hu' => by simpa using runTest_any r u' B w1 hu' (Nat.le_trans (Nat.le_trans hB HB.out.size) hb.size))).mono ?_;unfold HasRP;rw[HNO.out];rintro e w1 ⟨rfl,hb1⟩;have HAB1:=hid (HAB1.out.below hb1 HAB1.out.lt);obtain⟨⟨a0,a1⟩,⟨g0,g1,g2,g3⟩⟩:=HAB1.out;have HB:=hid (HB.out.trans (hb1.mono HB.out.size));clear hb1)
   |(go_at_call 79;refine(atmCopy_any _ ws hs B _ (HS.out.below (HB.out.mono hB)) (Nat.le_trans hB HB.out.size) (by rw[HL.out.1];omega) (by rw[HL.out.2.1];omega)).mono ?_;rintro e w2 ⟨wv', hv', rfl,ho1,ho2,hap,hb1⟩;have hbs:=HB.out.size;have hlt1:=HAB1.out.lt;have HAB1:=hid (HAB1.out.below hb1 HAB1.out.lt);obtain⟨⟨a0,a1⟩,⟨g0,g1,g2,g3⟩⟩:=HAB1.out;have HB:=hid (HB.out.trans (hb1.mono HB.out.size));obtain⟨gw,ow,cw,gh,oh,ch,rfl,rfl,e1,e2,e3,e4,hat⟩:=ad_copy (base:=w.heap.size+2) 34 ho1 ho2 hap HL.out.1 HL.out.2.1 (by omega) hb1.size;have HAT:=hid hat;clear hat hap;have hlt2:=HAB1.out.lt;have HB3:=hid ((HB.out.trans ((Below.refl _ _).alloc HB.out.size (.cells #[Value.slice (some ⟨gw,ow,none⟩) 64 cw,Value.slice (some ⟨gh,oh,none⟩) 6 ch] 34))));have HAB3:=hid (HAB1.out.below ((Below.refl w2.heap.size w2).alloc (Nat.le_refl _) (.cells #[Value.slice (some ⟨gw,ow,none⟩) 64 cw,Value.slice (some ⟨gh,oh,none⟩) 6 ch] 34)) hlt2))
   |(at_make;go_must (refine wpList_mk rowR zR (.agg #[.int .i64 0,.int .i64 0,.slice none 0 0]) Tryz.underlying86 infoRsp rfl (by omega) rfl _ rfl _ _ rfl _ _ _ _ rs.length rfl rfl rfl rfl (by have:=H12.out;omega) (by have:=H12.out;unfold maxLen;omega) ?_);intro w5 hown hb5 hlt5))
 simp only[World.size_alloc]at hown hb5 hlt5;have HB4:=hid (HB3.out.trans (hb5.mono (by have:=HB3.out.size;simp at this;omega)));have hrb0:=HAB3.out.below hb5 (by omega);have hri0:=RunI.start (HAT.out.kept hb5 (by simp)) (hown.rebase (by omega)) (by omega) (by omega) (by omega);have HRB0:=hid hrb0;have HRI0:=hid hri0;clear hown hb5 hrb0 hri0 a0 a1 g0 g1 g2 g3
 go_loopw [44] (fun i wr=>∃(k:Nat) (ds:List Value),k≤rs.length∧i=.int .i64 k∧RunI wr (w.heap.size+2) w2.heap.size gw ow cw gh oh ch (w2.heap.size+1) rs.length (zB2 ms who ws hs (rs.take k)).1 (zB2 ms who ws hs (rs.take k)).2.1 (zB2 ms who ws hs (rs.take k)).2.2 ds∧Below w.heap.size w wr∧RnBox wr w.heap.size wv hv2) (fun i _=>rs.length - (intOf i).toNat)
 case atStart=>exact⟨0,[],Nat.zero_le _,rfl,by simpa[zB2]using HRI0.out,HB4.out,HRB0.out⟩
 case round=>
  obtain⟨k,ds,hk,rfl,hri,hbw,hrb⟩:=hrel;have HRI:=hid hri;have HBW:=hid hbw;have HRB:=hid hrb;have hsz:=hbw.size;have hylen:=run_len ms who (rs.take k) ws hs;rw[List.length_take,Nat.min_eq_left hk]at hylen;have HYL:=hid hylen;clear hri hrb hylen;by_cases hlt:k<rs.length
  ·obtain⟨b,off,rfl,hb,hc⟩:=hr (by omega);obtain⟨da0,dc0,la0,lc0,hu,c0,c1,c2,c3,c4,c5,c6⟩:=hc k hlt;obtain⟨x,hx⟩:∃x,x=rs.getD k default:=⟨_,rfl⟩
   rw[←hx]at c0 c1 c2 c3 c4 c5 c6 hu;rw[←hbw.cell (p:=⟨b,_,none⟩) (Nat.lt_of_lt_of_le hb hB)]at c0 c1 c2 c3 c4 c5 c6;have HU1:=hid (hu.below (hbw.mono hB));have HXOK:=hid (show reqOk x=true by rw[hx];exact List.all_eq_true.1 HALL.out _ (zB5 hlt));have HNEXT:=hid (run_take (ms:=ms) (who:=who) (ws:=ws) (hs:=hs) hlt);rw[←hx]at HNEXT;have HYOK:=hid (run_ok (ms:=ms) HWHO.out (rs.take k) ws hs HOK2.out (by rw[List.all_eq_true];exact fun r hr=>List.all_eq_true.1 HALL.out r (List.mem_of_mem_take hr)));obtain⟨y,hy⟩:∃y,y=zB2 ms who ws hs (rs.take k):=⟨_,rfl⟩
   rw[←hy]at HNEXT HYOK HRI HYL;clear hx hc hr hu hbw hy;obtain⟨z,hz⟩:∃z,z=doReq ms y.1 y.2.1 who x:=⟨_,rfl⟩
   rw[←hz]at HNEXT;have HZ:=hid hz;clear hz
   go_wp2_with (first
    |((with_reducible refine wpList_store_new rfl 52 _ _ rfl rfl _ _ _ _ rfl rfl rfl sizeReq rfl ?_))
    |(go_at_call 80;go_loud ((with_reducible refine(do_any _ _ ms (w.heap.size+2) w2.heap.size gw ow cw gh oh ch _ _ who x _ ((HV.out.below ((HBW.out.trans ((Below.refl _ _).alloc hsz _)).mono hB)).mono (by omega)) (HRI.out.below ((Below.refl _ _).alloc (Nat.le_refl _) _)).at_ ((HU1.out.below ((Below.refl B _).alloc (by omega) _)).mono (by omega)) HWHO.out HXOK.out (zJ9 HYOK.out).2.2.1).mono ?_);rw[←HZ.out];rintro e w4 ⟨dv', rfl,hod,hat4,ht4⟩;have HOD:=hid hod;have HAT4:=hid hat4;have HT4:=hid ht4;obtain⟨da,dc,rfl,hdc1,hdc2⟩:=hod.shape;obtain⟨q0,q1,q2,q3,q4,q5,q6⟩:=(HRI.out.below ((Below.refl _ _).alloc (Nat.le_refl _) _)).room HYL.out hlt ht4;clear hod hat4 ht4))
    |fail)
   have hgw:w.heap.size+2≤gw:=HRI.out.at_.ww.ltI.1;have hgh:w.heap.size+2≤gh:=HRI.out.at_.hh.ltI.1;have HBN:=hid (((((HBW.out.trans ((Below.refl _ _).alloc hsz _)).trans (HT4.out.below (by omega) (by omega) (by simp;omega))).setCell (p:=⟨w2.heap.size+1,k * 3,none⟩) (by show _≤_+1;omega) (.int .i64 z.2.2.id)).setCell (p:=⟨w2.heap.size+1,k * 3+1,none⟩) (by show _≤_+1;omega) (.int .i64 z.2.2.code)).setCell (p:=⟨w2.heap.size+1,k * 3+2,none⟩) (by show _≤_+1;omega) (.slice da z.2.2.data.length dc));have HRN:=hid ((HRI.out.below ((Below.refl _ _).alloc (Nat.le_refl _) _)).step HYL.out hlt HT4.out HAT4.out HOD.out);have hrl:=HRB.out.lt
   have HRBN := hid (HRB.out.kept (w' := ((w4.setCell ⟨w2.heap.size + 1, k * 3, none⟩ (.int .i64 z.2.2.id)).setCell ⟨w2.heap.size + 1, k * 3 + 1, none⟩ (.int .i64 z.2.2.code)).setCell ⟨w2.heap.size + 1, k * 3 + 2, none⟩ (.slice da z.2.2.data.length dc)) fun k' hk' => by
    rw[Below.heap_setCell _ ⟨w2.heap.size+1,k * 3+2,none⟩ _ _ (by show k' ≠ _+1;omega),Below.heap_setCell _ ⟨w2.heap.size+1,k * 3+1,none⟩ _ _ (by show k' ≠ _+1;omega),Below.heap_setCell _ ⟨w2.heap.size+1,k * 3,none⟩ _ _ (by show k' ≠ _+1;omega),HT4.out.block k' (by simp;omega) (by omega) (by omega)];exact((Below.refl wr.heap.size wr).alloc (Nat.le_refl _) _).block k' (by omega))
   go_roundw
   case rel=>exact⟨k+1,_,by omega,by go_num,by rw[HNEXT.out];exact HRN.out,HBN.out,HRBN.out⟩
   case measure=>simp[intOf];omega
  ·have hkn:k=rs.length:=by omega
   subst hkn;have HYT:=hid (show rs.take rs.length=rs from List.take_length);rw[HYT.out]at HRI HYL;have t0:=HRI.out.at_.s0;have t1:=HRI.out.at_.s1;obtain⟨⟨a0,a1⟩,⟨g0,g1,g2,g3⟩⟩:=HRB.out;have hlt9:=HRB.out.lt;have hlt8:=Nat.lt_of_succ_lt hlt9;clear hbw
   go_wp2_with fail
   obtain⟨o1,o2,o3,o4,o5,o6⟩:=HRI.out.done (w':=(wr.setCell ⟨w.heap.size+1,0,none⟩ (.slice (some ⟨gw,ow,none⟩) 64 cw)).setCell ⟨w.heap.size+1,1,none⟩ (.slice (some ⟨gh,oh,none⟩) 6 ch)) HYL.out (fun k' hk' => by rw[Below.heap_setCell _ _ _ _ (by show k' ≠ _+1;omega),Below.heap_setCell _ _ _ _ (by show k' ≠ _+1;omega)]);refine bodyPost_ret (results_ct Tryz.results41 _ _ ⟨w.heap.size+1,0,none⟩ (.agg #[.slice (some ⟨gw,ow,none⟩) 64 cw,.slice (some ⟨gh,oh,none⟩) 6 ch]) rfl ?_) rfl ?_
   ·exact loadVar_atm _ _ _ _ (by simp[go_sem,g0,hlt9]) (by simp[go_sem,g1,hlt9])
   exact⟨_,_,_,ds,rfl,o1,o2,o3,o4,o5,o6,(HBW.out.setCell (p:=⟨w.heap.size+1,0,none⟩) (by show _≤_+1;omega) _).setCell (p:=⟨w.heap.size+1,1,none⟩) (by show _≤_+1;omega) _⟩
set_option maxRecDepth 4000 in
theorem implAtmRun_no (v sv u : Value) (ms : List MR) (B : Nat) (ws hs : List Int) (who : Int) (rs : List Rq) (w : World) (hv : Maps w B v ms) (hs1 : AtmV w B sv ws hs) (hu : Reqs w B u rs) (hB : B ≤ w.heap.size)
  (hno:runOk ms ws hs who rs=false) :
  Calls Tryz.prog 41 #[v,sv,.int .i64 who,u] w (AtmRunP ([],[],[]) w):=by
 have HV:=hid hv;have HS:=hid hs1;have HU:=hid hu;obtain⟨wv,hv2,rfl,s1,s2⟩:=hs1;obtain⟨uo,uc,rfl,hlc,hcap,hln,hni,hr⟩:=hu.opened
 have hc : mapOk ms = false ∨ (mapOk ms = true ∧ atmOk ws hs = false) ∨ (mapOk ms = true ∧ atmOk ws hs = true ∧ inB who 0 2 = false) ∨ (mapOk ms = true ∧ atmOk ws hs = true ∧ inB who 0 2 = true ∧ (12 : Int) < (rs.length : Int)) ∨
   (mapOk ms=true∧atmOk ws hs=true∧inB who 0 2=true∧decide ((12:Int)<(rs.length:Int))=false∧rs.any (fun r=>!reqOk r)=true):=by
  unfold runOk at hno;rcases h1:mapOk ms with _|_ <;> rcases h2:atmOk ws hs with _|_ <;> rcases h3:inB who 0 2 with _|_ <;> simp_all
  by_cases h4:rs.length≤12
  ·have:=hno h4
   right;exact⟨by omega,this⟩
  ·left;omega
 clear hv hno s1 s2 hu hr hlc hcap hni;have HAB:=hid (fun T V=>rn_open w wv hv2 T V);have HP:=hid (fun(T V:TypeId)=>show Below w.heap.size w ((w.alloc (.cells #[wv,hv2] T)).alloc (.cells #[.slice none 0 0,.slice none 0 0] V)) from((Below.refl _ _).alloc (Nat.le_refl _) _).alloc (by simp) _)
 go_enter Tryz.func41,Tryz.ntmps41
 rcases hc with h1|⟨h1,h2⟩|⟨h1,h2,h3⟩|⟨h1,h2,h3,h4⟩|⟨h1,h2,h3,h4,h5⟩
 all_goals
  go_wp2_with (first
   |(go_at_call 47;refine(zD3 _ ms B _ (HV.out.below ((HP.out _ _).mono hB)) (by first|(simp;done)|(simp;omega))).mono ?_;rw[h1];rintro e w1 ⟨rfl,hb1⟩;have HAB1:=hid ((HAB.out _ _).below hb1 (by first|(simp;done)|(simp;omega)));obtain⟨⟨a0,a1⟩,⟨g0,g1,g2,g3⟩⟩:=HAB1.out;have HB:=hid ((HP.out _ _).trans (hb1.mono (by first|(simp;done)|(simp;omega))));clear hb1)
   |(go_at_call 51;refine(zI2 _ ws hs B _ (HS.out.below (HB.out.mono hB)) (Nat.le_trans hB HB.out.size)).mono ?_;rw[h2];rintro e w1 ⟨rfl,hb1⟩;have HAB1:=hid (HAB1.out.below hb1 HAB1.out.lt);obtain⟨⟨a0,a1⟩,⟨g0,g1,g2,g3⟩⟩:=HAB1.out;have HB:=hid (HB.out.trans (hb1.mono HB.out.size));clear hb1)
   |(go_at_call 56;refine(zE2 _ _).mono ?_;rw[h3];rintro e w' ⟨rfl,rfl⟩)
   |(go_at_call 77;refine(hasReq_any 78 _ (zB3 Tryz.func78 (by kernel_rfl) (by kernel_rfl)) (fun r=>!reqOk r) _ rs B _ (HU.out.below (HB.out.mono hB)) (Nat.le_trans hB HB.out.size) (fun r u' w1 hb hu' => by simpa using runTest_any r u' B w1 hu' (Nat.le_trans (Nat.le_trans hB HB.out.size) hb.size))).mono ?_;unfold HasRP;rw[h5];rintro e w1 ⟨rfl,hb1⟩;have HAB1:=hid (HAB1.out.below hb1 HAB1.out.lt);obtain⟨⟨a0,a1⟩,⟨g0,g1,g2,g3⟩⟩:=HAB1.out;have HB:=hid (HB.out.trans (hb1.mono HB.out.size));clear hb1))
  have hbE:=hid ((HB.out.setCell (p:=⟨w.heap.size+1,0,none⟩) (by simp;try omega) (.slice none 0 0)).setCell (p:=⟨w.heap.size+1,1,none⟩) (by simp;try omega) (.slice none 0 0));refine bodyPost_ret (results_ct Tryz.results41 _ _ ⟨w.heap.size+1,0,none⟩ (.agg #[.slice none 0 0,.slice none 0 0]) rfl ?_) rfl ?_
  ·exact loadVar_atm _ _ _ _ (by simp[go_sem,g0]) (by simp[go_sem,g1])
  exact⟨_,_,_,[],rfl,Owns.zero,Owns.zero,Owns.zero,rfl,fun j hj=>absurd hj (by simp),by simp[Apart,Value.ownBlock],hbE.out⟩
theorem implAtmRun_any (v sv u : Value) (ms : List MR) (B : Nat) (ws hs : List Int) (who : Int) (rs : List Rq) (w : World) (hv : Maps w B v ms) (hs1 : AtmV w B sv ws hs) (hu : Reqs w B u rs) (hB : B ≤ w.heap.size) :
  Calls Tryz.prog 41 #[v,sv,.int .i64 who,u] w (AtmRunP (atmRun ms ws hs who rs) w):=by
 unfold atmRun;rcases hc:runOk ms ws hs who rs with _|_
 ·rw[if_neg (by simp)];exact implAtmRun_no v sv u ms B ws hs who rs w hv hs1 hu hB hc
 ·rw[if_pos rfl];exact implAtmRun_yes v sv u ms B ws hs who rs w hv hs1 hu hB hc
def Rsps (w:World) (B:Nat) (v:Value) (xs:List Rs):Prop:=ArrV RspV w B 3 v xs
theorem Rsps.below {w w':World} {B:Nat} {v:Value} {rs:List Rs} (h:Rsps w B v rs) (hb:Below B w w'):Rsps w' B v rs:=ArrV.below h hb fun _ _ h=>h.below hb
theorem Rsps.mono {w:World} {B B':Nat} {v:Value} {rs:List Rs} (h:Rsps w B v rs) (hb:B≤B'):Rsps w B' v rs:=ArrV.mono h hb fun _ _ h=>h.mono hb
theorem Rsps.opened {w : World} {B : Nat} {v : Value} {xs : List Rs} (h : Rsps w B v xs) :
  ∃ ao cap, v = .slice ao xs.length cap ∧ xs.length ≤ cap ∧ cap ≤ 9223372036854775807 ∧ xs.length ≤ 140737488351232 ∧ (ao = none → cap = 0) ∧
   (xs.length ≠ 0 → ∃ b off, ao = some ⟨b, off, none⟩ ∧ b < B ∧ ∀ t, t < xs.length → ∃ da dc, Ints w B (.slice da (xs.getD t default).data.length dc) (xs.getD t default).data ∧ I64 (xs.getD t default).id ∧ I64 (xs.getD t default).code ∧
    w.cell? ⟨b,off+t * 3,none⟩=some (.int .i64 (xs.getD t default).id)∧w.cell? ⟨b,off+t * 3+1,none⟩=some (.int .i64 (xs.getD t default).code)∧w.cell? ⟨b,off+t * 3+2,none⟩=some (.slice da (xs.getD t default).data.length dc)):=by
 obtain⟨ao,cap,rfl,h1,h2,h0,h9⟩:=ArrV.shape h;refine⟨ao,cap,rfl,h1,h2,h0,h9,fun hn=>?_⟩;obtain⟨b,off,ha,hlt,hc⟩:=ArrV.at h hn;refine⟨b,off,ha,hlt,fun t ht=>?_⟩;obtain⟨u,hu,hcell⟩:=hc t ht;obtain⟨dv,rfl,k1,k2,k3⟩:=hu default;have k1':=k1;obtain⟨da,dc,rfl,_⟩:=k1'.opened;refine⟨_,_,k1,k2,k3,?_,?_,?_⟩
 ·have:=hcell 0 (by omega);simpa[Value.cells]using this
 ·have:=hcell 1 (by omega);simpa[Value.cells]using this
 ·have:=hcell 2 (by omega);simpa[Value.cells]using this
theorem doReq_small {ms:List MR} {ws hs:List Int} {who:Int} {r:Rq} (hok:atmOkk ms ws hs who r=true):(∀y∈(doReq ms ws hs who r).2.2.data,I64 y)∧I64 (doReq ms ws hs who r).2.2.id∧I64 (doReq ms ws hs who r).2.2.code∧(doReq ms ws hs who r).2.2.data.length≤4:=by
 have h:=atmDo_small ms ws hs who r;rw[zM1 hok]at h;exact⟨h.d,h.i,h.c,h.ld⟩
theorem run_small {ms : List MR} {who : Int} (hm : mapOk ms = true) (hw : inB who 0 2 = true) : ∀ (a : List Rq) (ws hs : List Int), atmOk ws hs = true → a.all reqOk = true → ∀ x ∈ (zB2 ms who ws hs a).2.2, (∀ y ∈ x.data, I64 y) ∧ I64 x.id ∧ I64 x.code ∧ x.data.length ≤ 4
 |[],ws,hs,_,_=>by simp[zB2]
 |r::a,ws,hs,h,hr=>by
  simp only[List.all_cons,Bool.and_eq_true]at hr;simp only[zB2,List.mem_cons];rintro x (rfl|hx)
  ·exact doReq_small (okk_parts.2 ⟨hm,h,hw,hr.1⟩)
  ·exact run_small hm hw a _ _ (doReq_ok hw hr.1 h) hr.2 x hx
structure SmallR (x:List Int×List Int×List Rs):Prop where
 w:∀y∈x.1,I64 y
 h:∀y∈x.2.1,I64 y
 d:∀r∈x.2.2,(∀y∈r.data,I64 y)∧I64 r.id∧I64 r.code∧r.data.length≤4
 lw:x.1.length≤64
 lh:x.2.1.length≤6
 ld:x.2.2.length≤12
theorem atmRun_small (ms:List MR) (ws hs:List Int) (who:Int) (rs:List Rq):SmallR (atmRun ms ws hs who rs):=by
 unfold atmRun;rcases hc:runOk ms ws hs who rs with _|_
 ·rw[if_neg (by simp)];exact⟨by simp,by simp,by simp,by simp,by simp,by simp⟩
 ·rw[if_pos rfl];obtain⟨h1,h2,h3,h4,h5⟩:=runOk_parts.1 hc;obtain⟨a1,a2,a3,a4⟩:=zJ9 (run_ok (ms:=ms) h3 rs ws hs h2 h5);rw[List.all_eq_true]at a3 a4;refine⟨fun y hy=>word64 (a3 y hy),fun y hy=>?_,run_small h1 h3 rs ws hs h2 h5,by omega,by omega,by rw[run_len];omega⟩;have:=a4 y hy;simp only[inB,Bool.and_eq_true,decide_eq_true_eq]at this;unfold I64;omega
theorem rsps_of {w' : World} {H : Nat} {v : Value} {xs : List Rs} {ds : List Value} (h : Owns w' H 63 3 rowR v (zD1 xs ds)) (hl : ds.length = xs.length) (hd : ∀ j, j < xs.length → Owns w' H 3 1 rowI (ds.getD j undef) (xs.getD j default).data)
  (hs:∀r∈xs,(∀y∈r.data,I64 y)∧I64 r.id∧I64 r.code∧r.data.length≤4) (hn:xs.length≤140737488351232):Rsps w' w'.heap.size v xs:=by
 have hr:=h.arr zM4 (by rw[mkRows_len _ _ hl];exact hn);refine⟨(zD1 xs ds).map fun y=>.agg #[.int .i64 y.1,.int .i64 y.2.1,y.2.2],?_,by simp[mkRows_len _ _ hl],fun k hk d=>?_⟩
 ·rw[List.map_map];exact hr
 ·have hkd:k<ds.length:=by omega
  have e:(((zD1 xs ds).map fun y:Int×Int×Value=>Value.agg #[.int .i64 y.1,.int .i64 y.2.1,y.2.2]).getD k undef)=.agg #[.int .i64 (xs.getD k default).id,.int .i64 (xs.getD k default).code,ds.getD k undef]:=by
   simp[zD1,List.getD,List.getElem?_zipWith,hk,hkd]
  have e2:xs.getD k d=xs.getD k default:=by simp[List.getD,hk]
  rw[e,e2];obtain⟨q1,q2,q3,q4⟩:=hs _ (zB5 (d:=default) hk);exact⟨_,rfl,(hd k hk).ints (by omega) q1,q2,q3⟩
theorem zJ5 {α:Type} {xs:List α} {k:Nat} (h:k<xs.length) (y d:α):(xs.set k y).getD k d=y:=by simp[List.getD,List.getElem?_set_self h]
theorem zE3 {α:Type} {xs:List α} {k j:Nat} (h:j≠k) (y d:α):(xs.set k y).getD j d=xs.getD j d:=by simp[List.getD,List.getElem?_set_ne (Ne.symm h)]
structure QsB (hi g n:Nat) (vs:List (Value×Value)):Prop where
 g:g<hi
 d:∀j,j<n→∀k,(vs.getD j default).1.ownBlock=some k→k<hi
 l:∀j,j<n→∀k,(vs.getD j default).2.ownBlock=some k→k<hi
def m0 (a:Bool):List MR:=[⟨0,15,0,false⟩,⟨16,31,1,false⟩,⟨32,47,2,a⟩]
def m1 (s:Int) (b:Bool):List MR:=[⟨0,7,0,false⟩,⟨8,15,1,false⟩,⟨20,40,s,false⟩,⟨41,63,2,b⟩]
theorem m0_ok (a:Bool) (k:Nat):mapOk ((m0 a).take k)=true∧∀x∈(m0 a).take k,MR64 x:=by
 have h3:∀k,k≤3→mapOk ((m0 a).take k)=true:=by
  intro k hk;have:k=0∨k=1∨k=2∨k=3:=by omega
  cases a <;> rcases this with rfl|rfl|rfl|rfl <;> decide
 refine⟨?_,fun x hx=>?_⟩
 ·by_cases hk:k≤3
  ·exact h3 k hk
  ·rw[List.take_of_length_le (by simp[m0];omega)];have:=h3 3 (by omega)
   rwa [List.take_of_length_le (by simp[m0])]at this
 ·have hx:=List.mem_of_mem_take hx;simp only[m0,List.mem_cons,List.not_mem_nil,or_false]at hx;rcases hx with rfl|rfl|rfl <;> simp[MR64,I64]
theorem m1_ok (s:Int) (b:Bool) (h0:0≤s) (h1:s<3):mapOk (m1 s b)=true∧∀x∈m1 s b,MR64 x:=by
 refine⟨?_,fun x hx=>?_⟩
 ·have:s=0∨s=1∨s=2:=by omega
  cases b <;> rcases this with rfl|rfl|rfl <;> decide
 ·simp only[m1,List.mem_cons,List.not_mem_nil,or_false]at hx;rcases hx with rfl|rfl|rfl|rfl <;> simp[MR64,I64] <;> omega
theorem rowM_len (x:MR):(rowM x).length=4:=rfl
theorem RdAt.drewd {w:World} {r B:Nat} {bs:List Nat} {p:Nat} (h:RdAt w r B bs p):RdAt w.drew r B bs p:=h.draws 1
theorem Elem.map:Elem 23 144 4 32:=zF1 Tryz.underlying23 (z:=.agg #[.int .i64 0,.int .i64 0,.int .i64 0,.bool false]) (by kernel_rfl) rfl (by omega)
theorem rowM_one (x:MR):∀u∈rowM x,u.oneCell' = true:=by
 intro u hu;simp only[rowM,List.mem_cons,List.not_mem_nil,or_false]at hu;rcases hu with rfl|rfl|rfl|rfl <;> rfl
def MBd (x:MR):Prop:=0≤x.fr∧x.fr≤63∧0≤x.to∧x.to≤63∧0≤x.sl∧x.sl≤2
theorem m0_bd (a:Bool):∀x∈m0 a,MBd x:=by
 intro x hx;simp only[m0,List.mem_cons,List.not_mem_nil,or_false]at hx;rcases hx with rfl|rfl|rfl <;> simp[MBd]
theorem m1_bd (s:Int) (b:Bool) (h0:0≤s) (h1:s<3):∀x∈m1 s b,MBd x:=by
 intro x hx;simp only[m1,List.mem_cons,List.not_mem_nil,or_false]at hx;rcases hx with rfl|rfl|rfl|rfl <;> simp[MBd] <;> omega
theorem MBd.r64 {x:MR} (h:MBd x):MR64 x:=by unfold MBd at h;unfold MR64 I64;omega
theorem Owns.someR {α:Type} {w:World} {base e sz:Nat} {f:α→List Value} {v:Value} {xs:List α} (h:Owns w base e sz f v xs) (hn:xs.length≠0):∃g off c,v=.slice (some ⟨g,off,none⟩) xs.length c∧xs.length≤c∧c≤9223372036854775807∧base≤g∧g<w.heap.size:=by
 have hlt:=OwnR.lt h;obtain⟨hl,h2⟩:=h;rcases h2 with⟨_,h2⟩|⟨g,off,cap,cur,rfl,hg,hh,hle,hmax,hsz,hc⟩
 ·exact absurd h2 hn
 ·exact⟨g,off,cap,rfl,hle,by unfold maxLen at hmax;omega,hg,(hlt g rfl).2⟩
def MapP (r B:Nat) (bs:List Nat) (p:Nat) (n:Int) (w:World) (e:Ending) (w':World):Prop :=
 ∃v ms q,e=.returned v∧Owns w' w.heap.size 144 4 rowM v ms∧(∀x∈ms,MR64 x)∧ms.length≤7∧(9000≤n→mapOk ms=true)∧q≤p+9∧RdAt w' r B bs q∧Touch r w w'
def MapC (r B:Nat) (bs:List Nat) (p:Nat) (w:World) (v:Value) (wc:World):Prop :=
 ∃ms q,Owns wc w.heap.size 144 4 rowM v ms∧(∀x∈ms,MBd x)∧1≤ms.length∧ms.length≤4∧mapOk ms=true∧q≤p+4∧RdAt wc r B bs q∧Touch r w wc
theorem Touch.bel {r C:Nat} {w w1 w2:World} (h:Touch r w w1) (hb:Below C w1 w2) (hC:w.heap.size≤C):Touch r w w2 :=
 ⟨hb.os.trans h.os,hb.tape.trans h.tape,hb.output.trans h.output,Nat.le_trans h.size hb.size,fun k hk hr=>by rw[hb.block k (by omega)];exact h.block k hk hr⟩
theorem Touch.ofDrew {r:Nat} {w w':World} (h:Touch r w.drew w'):Touch r w w':=(Touch.refl r w).drewd.trans h
theorem RdAt.setNew {w:World} {r B C:Nat} {bs:List Nat} {p:Nat} (h:RdAt w r B bs p) (hr:r<C) {g:Nat} (hg:C≤g) (o:Nat) (v:Value):RdAt (w.setCell ⟨g,o,none⟩ v) r B bs p :=
 h.kept ((Below.refl C w).setCell (by exact hg) v) hr
theorem tab2 (a b:Int) {n:Nat} (h:n<2):∃y:Int,([Value.int .i64 a,.int .i64 b]:List Value)[n]? = some (.int .i64 y)∧(y=a∨y=b):=by
 rcases(show n=0∨n=1 by omega)with rfl|rfl
 ·exact⟨a,rfl,.inl rfl⟩
 ·exact⟨b,rfl,.inr rfl⟩
theorem tab_arr {xs:List Value} {n:Nat} {v:Value} (h:xs[n]? = some v):xs.toArray[n]? = some v:=by simpa using h
end Go.Proofs.YtgkdoehkmbhfiaaGreat
namespace Go.Proofs.YtgkdoehkmbhfiaaGreat
open Go.RowKit
attribute [local go_sem ↓] Go.wp_at_zero Go.wp_at_succ
theorem rep_rows (n:Nat):(List.replicate n (0:Int)).flatMap rowI=List.replicate n (Value.int .i64 0):=by rw[zJ6,List.map_replicate]
theorem owns_made {w:World} {base n:Nat} {v:Value} (h:w.ownsRow base 3 1 v n (List.replicate n (Value.int .i64 0))):Owns w base 3 1 rowI v (List.replicate n (0:Int)):=by
 unfold Owns;rw[rep_rows,List.length_replicate];exact OwnR.of_row h
end Go.Proofs.YtgkdoehkmbhfiaaGreat
namespace Go.Proofs.YtgkdoehkmbhfiaaGreat
open Go.RowKit
theorem mul16 (w:World):Calls Tryz.prog 116 #[.int .u64 1,.int .u64 6] w fun e w' => e=.returned (.tuple #[.int .u64 0,.int .u64 6])∧w=w':=by
 go_enter Tryz.func116,Tryz.ntmps116
 go_wp2
 refine bodyPost_ret (v:=.tuple #[.int .u64 0,.int .u64 6]) (by simp[results,Tryz.results116];first|rfl|decide|exact⟨by rfl,by rfl⟩) rfl ⟨rfl,rfl⟩
def repC (x:Int) (n:Nat):List Value:=List.replicate n (.int .i64 x)++List.replicate (6 - n) (.int .i64 0)
theorem repC_len (x:Int) {n:Nat} (h:n≤6):(repC x n).length=6:=by simp[repC];omega
theorem one_of {cs:List Value} (h:∀v∈cs,∃k:Int,v=.int .i64 k):∀v∈cs,v.oneCell' = true:=fun v hv=>by obtain⟨k,rfl⟩:=h v hv;rfl
def RepP (x:Int) (w:World) (e:Ending) (w':World):Prop:=e=.returned (.slice (some ⟨w.heap.size,0,none⟩) 6 6)∧Owns w' w.heap.size 3 1 rowI (.slice (some ⟨w.heap.size,0,none⟩) 6 6) (List.replicate 6 x)∧Below w.heap.size w w'
theorem infoIs:(Tryz.prog.info? 3).map (·.size)=some 1:=by kernel_rfl
theorem rep_src {w:World} {g n:Nat} {x:Int} (hh:w.heap[g]? = some (.cells (repC x n).toArray 3 (0,0))) (cs:List Value) (hcs:∀(j:Nat) (v:Value),cs[j]? = some v→(repC x n)[j]? = some v):∀(j:Nat) (v:Value),cs[j]? = some v→w.cell? ((⟨g,0,none⟩:Addr).add j)=some v:=fun j v hv=>by
 rw[Addr.add_lit,Nat.zero_add];simp only[World.cell?,hh];simpa using hcs j v hv
def repM (n:Nat):Nat:=if n=1 then 1 else 2
theorem zF8 (g : Nat) : ∀ (cs : List Value) (w : World) (o : Nat), Touch g w (w.setCells g o cs)
 |[],w,_=>Touch.refl g w
 |c::cs,w,o=>(Touch.setCell g o w c).trans (zF8 g cs _ (o+1))
theorem rep_copy {w : World} {g n : Nat} {x : Int} (hn : n = 1 ∨ n = 2 ∨ n = 4) (hh : w.heap[g]? = some (.cells (repC x n).toArray 3 (0, 0))) :
  ∃w2,(∀ty,(Builtin.copy_ #[24,24] ty #[.slice (some ⟨g,n,none⟩) (6 - n) (6 - n),.slice (some ⟨g,0,none⟩) n 6]).run Tryz.prog w=.ok (goInt (repM n)) w2)∧w2.heap[g]? = some (.cells (repC x (n+repM n)).toArray 3 (0,0))∧Touch g w w2:=by
 have hc:∀j,j<6→(w.cell? ⟨g,j,none⟩).isSome=true:=fun j hj=>by
  simp only[World.cell?,hh];have:j<(repC x n).length:=by rw[repC_len x (by omega)];exact hj
  simp[this]
 have hf:∀j,w.frozen? ⟨g,j,none⟩=false:=fun j=>by simp only[World.frozen?,hh];simp
 have key:∀(m:Nat),m≤n→n+m≤6→m=Nat.min n (6 - n)→repM n=m→∃w2,(∀ty,(Builtin.copy_ #[24,24] ty #[.slice (some ⟨g,n,none⟩) (6 - n) (6 - n),.slice (some ⟨g,0,none⟩) n 6]).run Tryz.prog w=.ok (goInt (repM n)) w2)∧w2=w.setCells g n (List.replicate m (.int .i64 x)):=fun m h1 h2 h3 h4=>by
  refine⟨_,fun ty=>?_,rfl⟩
  have := run_copy_cells (P := Tryz.prog) w 24 24 ty 3 g n (6 - n) (6 - n) ⟨g, 0, none⟩ n 6 (List.replicate m (.int .i64 x)) Tryz.underlying24 infoIs (by simpa using h3) (rep_src hh _ (fun j v hv => by
   have hj:=(List.getElem?_eq_some_iff.1 hv).1;simp only[List.length_replicate]at hj;rw[←hv];simp only[repC];rw[List.getElem?_append_left (by simp;omega)];simp[List.getElem?_replicate,hj,show j<n by omega])) (fun j hj=>by simp only[List.length_replicate]at hj;exact hc _ (by omega)) (fun j _=>hf _) (one_of (by intro v hv;exact⟨x,(List.mem_replicate.1 hv).2⟩))
  rw[h4];simpa using this
 rcases hn with rfl|rfl|rfl
 ·obtain⟨w2,h1,h2⟩:=key 1 (by omega) (by omega) (by decide) rfl;refine⟨w2,h1,?_,by rw[h2];exact zF8 _ _ _ _⟩;rw[h2];show(w.setCell ⟨g,1,none⟩ _).heap[g]? = _;simp only[World.setCell,Array.getElem?_modify,hh]
  rfl
 ·obtain⟨w2,h1,h2⟩:=key 2 (by omega) (by omega) (by decide) rfl;refine⟨w2,h1,?_,by rw[h2];exact zF8 _ _ _ _⟩;rw[h2];show((w.setCell ⟨g,2,none⟩ _).setCell ⟨g,3,none⟩ _).heap[g]? = _;simp only[World.setCell,Array.getElem?_modify,hh]
  rfl
 ·obtain⟨w2,h1,h2⟩:=key 2 (by omega) (by omega) (by decide) rfl;refine⟨w2,h1,?_,by rw[h2];exact zF8 _ _ _ _⟩;rw[h2];show((w.setCell ⟨g,4,none⟩ _).setCell ⟨g,5,none⟩ _).heap[g]? = _;simp only[World.setCell,Array.getElem?_modify,hh]
  rfl
theorem sgy {l:Array Bool} {i j:Nat} (h:i≠j):(l.setIfInBounds i true).getD j false=l.getD j false:=Go.getD_set_ne false h
theorem sgiy {l:Array Bool} {i:Nat} (h:l.getD i true=false):(l.setIfInBounds i true).getD i false=true:=by
 have hlt:i<l.size:=by
  rcases Nat.lt_or_ge i l.size with h1|h1
  ·exact h1
  ·simp[Array.getElem?_eq_none h1]at h
 simp[hlt]
theorem zB4 {P : Program} {ops : Array Oper} {Q : Exit → Act → World → Prop} {i : Nat} {o : Oper} {I : Act → World → Prop} {a : Act} {w : World} (ho : ops[i]? = some o) (hg : o.guard = none)
  (h:∀K:Act→World→Prop,(∀a' w', I a' w' → K a' w')→o.wp P a w K Q):wpOp P ops Q i I a w:=wpOp_wp ho hg (h _ fun _ _ h=>h)
def ClosedY (ops:Array Oper) (listed:Array Bool):Prop:=∀i o,ops[i]? = some o→listed.getD i false=true→∀e∈o.after,Region.binds .any e=true→listed.getD e.on false=true
theorem zL1 {P : Program} {ops : Array Oper} {Q : Exit → Act → World → Prop} {id : Nat} {a : Act} {w : World} (I : Array Bool → Act → World → Prop) (hm : P.follows .mixedOrders = true) (hb : backB .any ops = true)
  (start:I (Array.replicate ops.size false) a { w with drawn:=w.drawn+1 })
  (step:∀listed a w i o,I listed a w→listed.size=ops.size→ops[i]? = some o→listed.getD i true=false→(∀e∈o.after,Region.binds .any e=true→listed.getD e.on false=true)→ClosedY ops listed→wpOp P ops Q i (fun a' w' => I (listed.setIfInBounds i true) a' w') a w)
  (done:∀listed a w,I listed a w→(∀i,i<ops.size→listed.getD i false=true)→Q .normal a w):(Code.region id ops true).wp P Q a w:=by
 refine zM2 (fun listed a w=>ClosedY ops listed∧I listed a w) hm hb ⟨fun i o _ hl=>?_,start⟩ ?_ (fun listed a w h hd=>done listed a w h.2 hd)
 ·rw[getD_replicate_false]at hl;cases hl
 ·rintro listed a w i o ⟨hc,hI⟩ hs ho hl he;refine wpOp_mono (fun a' w' h' => ⟨?_,h'⟩) (step listed a w i o hI hs ho hl he hc);intro j o' ho' hj e hem heb;have hset:∀k,listed.getD k false=true→(listed.setIfInBounds i true).getD k false=true:=fun k hk=>by
   by_cases hik:i=k
   ·subst hik;exact sgiy hl
   ·rw[sgy hik];exact hk
  by_cases hij:i=j
  ·subst hij;rw[ho]at ho';obtain rfl:=Option.some.inj ho';exact hset _ (he e hem heb)
  ·rw[sgy hij]at hj;exact hset _ (hc j o' ho' hj e hem heb)
end Go.Proofs.YtgkdoehkmbhfiaaGreat
