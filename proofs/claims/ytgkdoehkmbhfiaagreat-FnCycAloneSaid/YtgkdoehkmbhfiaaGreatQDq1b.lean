/- l20Bus: its drawn region 17 (printed by wip/gen_lb.py). -/
import Derived.Test.YtgkdoehkmbhfiaaGreatQSi
import Derived.Test.YtgkdoehkmbhfiaaGreatQDr7
import Derived.Test.YtgkdoehkmbhfiaaGreatQFl
import Derived.Test.YtgkdoehkmbhfiaaGreatQLib
import Derived.Test.YtgkdoehkmbhfiaaGreatQDl
set_option linter.unusedVariables false
set_option linter.unusedSimpArgs false
set_option maxHeartbeats 16000000
namespace Go.Proofs.YtgkdoehkmbhfiaaGreat
open Go.RowKit
attribute [local go_sem ↓] Go.wp_at_zero Go.wp_at_succ
set_option maxRecDepth 20000 in
theorem l20Req9_any (r B : Nat) (bs : List Nat) (p : Nat) (n : Int) (w : World) (hr0 : RdAt w r B bs p) (hp : p ≤ 700000000) (h1n : 1 ≤ n) (hn : n ≤ 1099511627776) (h9 : 9000 ≤ n) :
  Calls Tryz.prog 83 #[.pointer (some ⟨r,0,none⟩),.int .i64 n] w (ReqP r B bs p n w):=by
 have hrw:=hr0.lt
 go_enter Tryz.func83,Tryz.ntmps83
 go_upto_region 1 with fail
 obtain⟨w0,hw0⟩:∃w0,w0=w.alloc (.cells #[.int .i64 0,.int .i64 0,.int .i64 0,.int .i64 0,.bool false,.slice none 0 0,.slice none 0 0] 52):=⟨_,rfl⟩
 obtain⟨s,hs⟩:∃s,s=w.heap.size:=⟨_,rfl⟩
 rw[←hw0,←hs];have HS0:=hid (show qz w0 s by rw[hw0,hs];exact QW.new w);have h0:RdAt w0 r B bs p:=by rw[hw0];exact hr0.alloc _
 have HT0:=hid (show Touch r w w0 by rw[hw0];exact(Touch.refl r w).alloc _);have hz0:w0.heap.size=s+1:=by rw[hw0,hs];simp
 have hrs:r<s:=by omega
 have HSW:=hid hs.symm;clear hw0 hr0 hs
 go_cut [5] from 7 to 22 (fun v wc=>Req1 r B bs p w0 v wc)
 case first=>
  rename_i J K' hJ hK;exact req1_region r B bs p n s w0 h0 hp (by omega) _ _ _ _ _ _ _ _ _ _ _ _ _ _ _ _ _ (fun u5 u7 u8 u9 u10 u11 u12 u13 u14 u15 u16 u17 u18 u19 u20 u21 u22 wc h=>hK _ _ (Met.intro (hJ _ _ ⟨u5,u7,u8,u9,u10,u11,u12,u13,u14,u15,u16,u17,u18,u19,u20,u21,u22,h,rfl⟩)))
 case rest=>
  obtain⟨g,id,kind,addr,many,wp,q,rfl,hg,hQ', a0,a1,b0,b1,c0,c1,d1,hq,hR', hT'⟩:=hcut;have hgr:g≠r:=by omega
  have hrg:r<g:=by omega
  have hsg:s<g:=by omega
  have hrw':r<w0.heap.size:=by omega
  have hQ:RQ r B bs w0 g id kind addr many wp (.slice none 0 0) (.slice none 0 0) q wc:=⟨hQ', hR', hT'⟩
  clear hQ' hR' hT';have hR:=hQ.2.1;have hgl:=hQ.1.lt;obtain⟨k0,k1,k2,k3,k4,k5,k6⟩:=hQ.1.cells;obtain⟨m0,m1,m2,m3,m4,m5,m6⟩:=hQ.1.unfrozen;have HQ:=hid hQ;clear hQ
  go_upto_if 25 with fail
  go_cut [] from 23 (fun wd=>Req2 r B bs p g w0 id kind wp wd)
  case first=>
   by_cases hk:3≤kind
   ·go_wp2_with (first|(go_at_call 82;(with_reducible refine(zC9 r B bs q 4 ((wc.setCell _ _).alloc _) ((hR.setNew hrw' hg _ _).alloc _) (by omega) (by omega) (by omega)).mono ?_);rintro e w2 ⟨z', rfl,z0,z1,h2,ht2⟩;obtain⟨z,rfl⟩:=Int.eq_ofNat_of_zero_le z0;have hz:z<4:=(by omega);obtain⟨y,hl1,hy⟩:=tab4 0 1 16 32 hz;have hl2:=tab_arr hl1;clear hz;have hzi:(z:Int)<4:=z1;clear z1;have tB:w2.cell? ⟨wc.heap.size,z,none⟩=some (.int .i64 y):=(by have:=(TW.ofNew ht2 (by simp[World.setCell];omega)).at_ z _ hl2;simpa[World.setCell]using this);have HQ2:=hid (((HQ.out.set3 hrw' hg 1).alloc _).touch hgr h2 ht2);obtain⟨k0,k1,k2,k3,k4,k5,k6⟩:=HQ2.out.1.cells;obtain⟨m0,m1,m2,m3,m4,m5,m6⟩:=HQ2.out.1.unfrozen))
    go_meet
    case rel=>exact⟨y,1,q+1,by omega,by omega,.inl rfl,fun _=>rfl,by omega,HQ2.out.set2 hrw' hg y⟩
   ·have hk2:decide (3≤kind)=false:=by simpa using hk
    go_wp2_with fail
    go_meet
    case rel=>exact⟨addr,many,q,c0,c1,d1,fun h=>by omega,by omega,HQ.out⟩
  clear k0 k1 k2 k3 k4 k5 k6 m0 m1 m2 m3 m4 m5 m6 hgl hR HQ hq c0 c1 d1 addr many q;obtain⟨addr,many,q,c0,c1,d1,d2,hq,hQ⟩:=hcut;have hR:=hQ.2.1;have hgl:=hQ.1.lt;obtain⟨k0,k1,k2,k3,k4,k5,k6⟩:=hQ.1.cells;obtain⟨m0,m1,m2,m3,m4,m5,m6⟩:=hQ.1.unfrozen;have HQ:=hid hQ;clear hQ
  go_upto_region 5 with fail
  go_cut [44] from 33 (fun v wd=>v=.bool (!wp&&decide (63<addr+many - 1))∧RQ r B bs w0 g id kind addr many wp (.slice none 0 0) (.slice none 0 0) q wd)
  case first=>
   have hm4:many≤4:=by omega
   have hm1:1≤many:=by omega
   rcases(show wp=false∨wp=true by cases wp <;> simp)with rfl|rfl
   ·by_cases hb:63<addr+many - 1
    ·go_wp2_with fail
     go_meet
     case rel=>exact⟨by simp[hb],HQ.out⟩
    ·have hb2:decide (63<addr+many - 1)=false:=by simpa using hb
     go_wp2_with fail
     go_meet
     case rel=>exact⟨by simp[hb2],HQ.out⟩
   ·go_wp2_with fail
    go_meet
    case rel=>exact⟨by simp,HQ.out⟩
  clear k0 k1 k2 k3 k4 k5 k6 m0 m1 m2 m3 m4 m5 m6 hgl hR HQ;obtain⟨rfl,hQ⟩:=hcut;have hR:=hQ.2.1;have hgl:=hQ.1.lt;obtain⟨k0,k1,k2,k3,k4,k5,k6⟩:=hQ.1.cells;obtain⟨m0,m1,m2,m3,m4,m5,m6⟩:=hQ.1.unfrozen;have HQ:=hid hQ;clear hQ
  go_upto_if 44 with fail
  go_cut [] from 44 (fun wd=>∃addr', 0≤addr' ∧ addr' ≤ 63∧(wp=false→addr' + many - 1≤63)∧RQ r B bs w0 g id kind addr' many wp (.slice none 0 0) (.slice none 0 0) q wd)
  case first=>
   have hm4:many≤4:=by omega
   have hm1:1≤many:=by omega
   rcases hb:(!wp&&decide (63<addr+many - 1))with _|_
   ·go_wp2_with fail
    go_meet
    case rel=>exact⟨addr,c0,c1,fun h=>by subst h;simp at hb;omega,HQ.out⟩
   ·go_wp2_with fail
    go_meet
    case rel=>exact⟨63 - many+1,by omega,by omega,fun _=>by omega,HQ.out.set2 hrw' hg _⟩
  clear k0 k1 k2 k3 k4 k5 k6 m0 m1 m2 m3 m4 m5 m6 hgl hR HQ c0 c1 addr;obtain⟨addr,c0,c1,hwn,hQ⟩:=hcut;have HOK:=hid (adr_ok3 c0 c1 d1 hwn);clear hwn;have hR:=hQ.2.1;have hgl:=hQ.1.lt;obtain⟨k0,k1,k2,k3,k4,k5,k6⟩:=hQ.1.cells;obtain⟨m0,m1,m2,m3,m4,m5,m6⟩:=hQ.1.unfrozen;have HQ:=hid hQ;clear hQ
  go_upto_region 7 with fail
  go_cut [57] from 50 (fun v wd=>v=.bool (kind==2 || kind==4)∧RQ r B bs w0 g id kind addr many wp (.slice none 0 0) (.slice none 0 0) q wd)
  case first=>
   rcases(show kind=1∨kind=2∨kind=3∨kind=4 by omega)with rfl|rfl|rfl|rfl
   all_goals
    go_wp2_with fail
    go_meet
    case rel=>exact⟨by simp,HQ.out⟩
  clear k0 k1 k2 k3 k4 k5 k6 m0 m1 m2 m3 m4 m5 m6 hgl hR HQ;obtain⟨rfl,hQ⟩:=hcut;have hR:=hQ.2.1;have hgl:=hQ.1.lt;obtain⟨k0,k1,k2,k3,k4,k5,k6⟩:=hQ.1.cells;obtain⟨m0,m1,m2,m3,m4,m5,m6⟩:=hQ.1.unfrozen;have HQ:=hid hQ;clear hQ
  go_upto_if 57 with fail
  go_cut [] from 57 (fun wd=>Req4 r B bs p g w0 id kind addr many wp wd)
  case first=>
   rcases hb:(kind==2 || kind==4)with _|_
   ·go_wp2_with fail
    go_meet
    case rel=>exact⟨_,_,[],[],q,req_ok3 a0 a1 b0 b1 HOK.out d2 (fun h=>by rw[hb]at h;cases h) (fun _=>⟨rfl,rfl⟩),by simp,by simp,Owns.zero,Owns.zero,fun j hj=>by simp[Value.ownBlock]at hj,by omega,HQ.out⟩
   ·have hb':(kind==2 || kind==4)=true:=hb;have HB:=hid hb';clear hb hb';obtain⟨m,rfl⟩:=Int.eq_ofNat_of_zero_le (show 0≤many by omega);have hm4:m≤4:=by omega
    go_wp2_with fail
    go_loopw [6] (fun i wr => ∃ (k : Nat) (ds ls : List Int) (da la : Option Addr) (dc lc q' : Nat), i = .int .i64 k ∧ k ≤ m ∧ q' ≤ q + 4 * k ∧ ds.length = k ∧ ls.length = k ∧ ds.all zB1 = true ∧ ls.all (fun l => inB l 0 3) = true ∧
      Owns wr (g+1) 3 1 rowI (.slice da k dc) ds∧Owns wr (g+1) 3 1 rowI (.slice la k lc) ls∧Apart (.slice da k dc) (.slice la k lc)∧RQ r B bs w0 g id kind addr m wp (.slice da k dc) (.slice la k lc) q' wr) (fun i _=>m - (intOf i).toNat)
    case atStart=>exact⟨0,[],[],none,none,0,0,q,rfl,by omega,by omega,rfl,rfl,rfl,rfl,Owns.zero,Owns.zero,fun j hj=>by simp[Value.ownBlock]at hj,HQ.out⟩
    case round=>
     clear k0 k1 k2 k3 k4 k5 k6 m0 m1 m2 m3 m4 m5 m6 hgl hR HQ;obtain⟨k,ds,ls,da,la,dc,lc,q', rfl,hkm,hq', hdl,hll,hdo,hlo,hod,hol,hap,hQ⟩:=hrel;have hR:=hQ.2.1;have hgl:=hQ.1.lt;obtain⟨k0,k1,k2,k3,k4,k5,k6⟩:=hQ.1.cells;obtain⟨m0,m1,m2,m3,m4,m5,m6⟩:=hQ.1.unfrozen;have HQ:=hid hQ;have HDL:=hid hdl;have HLL:=hid hll;have HDO:=hid hdo;have HLO:=hid hlo;have HOD:=hid hod;have HOL:=hid hol;have HAP:=hid hap;clear hQ hdl hll hdo hlo hod hol hap;by_cases hlt:k<m
     ·go_upto_region 11 with fail
      go_cut [] from 58 to 88 (fun wd=>∃(y:Int) (va:Option Addr) (vc:Nat),zB1 y=true∧Owns wd (g+1) 3 1 rowI (.slice va (k+1) vc) (ds++[y])∧Owns wd (g+1) 3 1 rowI (.slice la k lc) ls∧Apart (.slice va (k+1) vc) (.slice la k lc)∧RQ r B bs w0 g id kind addr m wp (.slice va (k+1) vc) (.slice la k lc) (q' + 3) wd)
      case first=>
       go_region_law (first
        |(refine step_pushN elem_int rowI zE9 zH9 _ rfl (.tmp 65) (.tmp 76) rfl (g+1) _ ds y (by rfl) (by first|exact HOD3.out.allocd _|exact HOD3.out) _ (by rfl) _ _ (by rfl) (by first|rfl|(simp;done)) (by rw[HDL.out];omega) (by rw[HDL.out];omega) (by first|omega|(simp;omega)) ?_;intro v' w5 ho5 hb5 hg5 hv5;obtain⟨va,vc,hv', _,_⟩:=ho5.shape;rw[List.length_append,HDL.out]at hv';simp only[List.length_cons,List.length_nil,Nat.zero_add]at hv';subst hv';have HOD5:=hid ho5;have HQ5:=hid (show RQ r B bs w0 g id kind addr m wp (.slice da k dc) (.slice la k lc) (q' + 3) w5 from(by first|exact HQ3.out.below hb5 hrg hg|exact(HQ3.out.alloc _).below hb5 hrg hg));have HOL5:=hid (show Owns w5 (g+1) 3 1 rowI (.slice la k lc) ls from(by first|exact OwnR.kept HOL3.out (fun j hj=>hg5 j (OwnR.lt HOL3.out j hj).2 (fun e=>HAP.out j e.symm hj))|exact OwnR.kept (HOL3.out.allocd _) (fun j hj=>hg5 j (OwnR.lt (HOL3.out.allocd _) j hj).2 (fun e=>HAP.out j e.symm hj))));have HAP5:=hid (show Apart (.slice va (k+1) vc) (.slice la k lc) from(fun j hj e=>by rcases hv5 j hj with h|h;exact HAP.out j h e;have:=(OwnR.lt HOL3.out j e).2;first|omega|(simp at h;omega)));obtain⟨k0,k1,k2,k3,k4,k5,k6⟩:=HQ5.out.1.cells;obtain⟨m0,m1,m2,m3,m4,m5,m6⟩:=HQ5.out.1.unfrozen;clear ho5 hb5 hg5 hv5)
        | (go_simp; first
          |(go_at_call 82;(with_reducible refine(zC9 r B bs q' 256 wr.drew hR.drewd (by omega) (by omega) (by omega)).mono ?_);rintro e w1 ⟨x1,rfl,x10,x11,h1,ht1⟩;have HQ1:=hid (HQ.out.drewd.touch hgr h1 ht1);have HOD1:=hid (HOD.out.drewd.touch ht1 (by omega));have HOL1:=hid (HOL.out.drewd.touch ht1 (by omega));obtain⟨k0,k1,k2,k3,k4,k5,k6⟩:=HQ1.out.1.cells;obtain⟨m0,m1,m2,m3,m4,m5,m6⟩:=HQ1.out.1.unfrozen;have gl1:=HQ1.out.1.lt;have ew:IntKind.i64.wrap (x1 * 257)=x1 * 257:=(by rw[IntKind.wrap_i64];omega))
          |(go_at_call 82;(with_reducible refine(zC9 r B bs (q' + 1) 10 w1 h1 (by omega) (by omega) (by omega)).mono ?_);rintro e w2 ⟨x2,rfl,x20,x21,h2,ht2⟩;have HQ2:=hid (HQ1.out.touch hgr h2 ht2);have HOD2:=hid (HOD1.out.touch ht2 (by omega));have HOL2:=hid (HOL1.out.touch ht2 (by omega));obtain⟨k0,k1,k2,k3,k4,k5,k6⟩:=HQ2.out.1.cells;obtain⟨m0,m1,m2,m3,m4,m5,m6⟩:=HQ2.out.1.unfrozen;have gl2:=HQ2.out.1.lt)
          |(go_at_call 82;(with_reducible refine(zC9 r B bs (q' + 1+1) 4 w2 h2 (by omega) (by omega) (by omega)).mono ?_);rintro e w3 ⟨z', rfl,z0,z1,h3,ht3⟩;obtain⟨z,rfl⟩:=Int.eq_ofNat_of_zero_le z0;have hz:z<4:=(by omega);obtain⟨y,hl1,hy⟩:=tab4 (x1 * 257) x2 65535 0 hz;have hl2:=tab_arr hl1;clear hz;have hzi:(z:Int)<4:=z1;clear z1;have HQ3:=hid (HQ2.out.touch hgr h3 ht3);have HOD3:=hid (HOD2.out.touch ht3 (by omega));have HOL3:=hid (HOL2.out.touch ht3 (by omega));obtain⟨k0,k1,k2,k3,k4,k5,k6⟩:=HQ3.out.1.cells;obtain⟨m0,m1,m2,m3,m4,m5,m6⟩:=HQ3.out.1.unfrozen;have gl3:=HQ3.out.1.lt)
          |(go_at_call 82;(with_reducible refine(zC9 r B bs (q' + 1+1) 4 (w2.alloc _) (h2.alloc _) (by omega) (by omega) (by omega)).mono ?_);rintro e w3 ⟨z', rfl,z0,z1,h3,ht3⟩;obtain⟨z,rfl⟩:=Int.eq_ofNat_of_zero_le z0;have hz:z<4:=(by omega);obtain⟨y,hl1,hy⟩:=tab4 (x1 * 257) x2 65535 0 hz;have hl2:=tab_arr hl1;clear hz;have hzi:(z:Int)<4:=z1;clear z1;have tB:=Touch.tab ht3 h2.lt z _ hl2;have tl:=World.block_lt_of_cell? w3 _ tB;have HQ3:=hid ((HQ2.out.alloc _).touch hgr h3 ht3);have HOD3:=hid ((HOD2.out.allocd _).touch ht3 (by omega));have HOL3:=hid ((HOL2.out.allocd _).touch ht3 (by omega));obtain⟨k0,k1,k2,k3,k4,k5,k6⟩:=HQ3.out.1.cells;obtain⟨m0,m1,m2,m3,m4,m5,m6⟩:=HQ3.out.1.unfrozen;have gl3:=HQ3.out.1.lt)))
       all_goals
        go_wp2_with fail
        go_meet
        case rel=>exact⟨y,va,vc,by simp[zB1,inB];omega,HOD5.out.set' g 5 _ (fun j hj=>by have:=(OwnR.lt HOD5.out j hj).1;omega),HOL5.out.set' g 5 _ (fun j hj=>by have:=(OwnR.lt HOL5.out j hj).1;omega),HAP5.out,HQ5.out.set5 hrw' hg _⟩
      case rest=>
       clear k0 k1 k2 k3 k4 k5 k6 m0 m1 m2 m3 m4 m5 m6 hgl hR HQ HOD HOL HAP;obtain⟨y,va,vc,hwy,hod,hol,hap,hQ⟩:=hcut;have hR:=hQ.2.1;have hgl:=hQ.1.lt;obtain⟨k0,k1,k2,k3,k4,k5,k6⟩:=hQ.1.cells;obtain⟨m0,m1,m2,m3,m4,m5,m6⟩:=hQ.1.unfrozen;have HQ:=hid hQ;have HWY:=hid hwy;have HOD:=hid hod;have HOL:=hid hol;have HAP:=hid hap;clear hQ hwy hod hol hap
       go_upto_region 12 with fail
       go_region_law (first
        |(refine step_pushN elem_int rowI zE9 zH9 _ rfl (.tmp 80) (.tmp 86) rfl (g+1) _ ls x (by rfl) (by first|exact HOL3.out.allocd _|exact HOL3.out) _ (by rfl) _ _ (by rfl) (by first|rfl|(simp;done)) (by rw[HLL.out];omega) (by rw[HLL.out];omega) (by first|omega|(simp;omega)) ?_;intro v' w5 ho5 hb5 hg5 hv5;obtain⟨ua,uc,hv', _,_⟩:=ho5.shape;rw[List.length_append,HLL.out]at hv';simp only[List.length_cons,List.length_nil,Nat.zero_add]at hv';subst hv';have HOL5:=hid ho5;have HQ5:=hid (show RQ r B bs w0 g id kind addr m wp (.slice va (k+1) vc) (.slice la k lc) (q' + 4) w5 from(by first|exact HQ3.out.below hb5 hrg hg|exact(HQ3.out.alloc _).below hb5 hrg hg));have HOD5:=hid (show Owns w5 (g+1) 3 1 rowI (.slice va (k+1) vc) (ds++[y]) from(by first|exact OwnR.kept HOD3.out (fun j hj=>hg5 j (OwnR.lt HOD3.out j hj).2 (fun e=>HAP.out j hj e.symm))|exact OwnR.kept (HOD3.out.allocd _) (fun j hj=>hg5 j (OwnR.lt (HOD3.out.allocd _) j hj).2 (fun e=>HAP.out j hj e.symm))));have HAP5:=hid (show Apart (.slice va (k+1) vc) (.slice ua (k+1) uc) from(fun j hj e=>by rcases hv5 j e with h|h;exact HAP.out j hj h;have:=(OwnR.lt HOD3.out j hj).2;first|omega|(simp at h;omega)));obtain⟨k0,k1,k2,k3,k4,k5,k6⟩:=HQ5.out.1.cells;obtain⟨m0,m1,m2,m3,m4,m5,m6⟩:=HQ5.out.1.unfrozen;clear ho5 hb5 hg5 hv5)
        | (go_simp; first
          |(go_at_call 82;(with_reducible refine(zC9 r B bs (q' + 3) 5 wc.drew hR.drewd (by omega) (by omega) (by omega)).mono ?_);rintro e w3 ⟨z', rfl,z0,z1,h3,ht3⟩;obtain⟨z,rfl⟩:=Int.eq_ofNat_of_zero_le z0;have hz:z<5:=(by omega);obtain⟨x,hl1,hx⟩:=tab5 3 3 1 2 0 hz;have hl2:=tab_arr hl1;clear hz;have hzi:(z:Int)<5:=z1;clear z1;have HQ3:=hid (HQ.out.drewd.touch hgr h3 ht3);have HOD3:=hid (HOD.out.drewd.touch ht3 (by omega));have HOL3:=hid (HOL.out.drewd.touch ht3 (by omega));obtain⟨k0,k1,k2,k3,k4,k5,k6⟩:=HQ3.out.1.cells;obtain⟨m0,m1,m2,m3,m4,m5,m6⟩:=HQ3.out.1.unfrozen;have gl3:=HQ3.out.1.lt)
          |(go_at_call 82;(with_reducible refine(zC9 r B bs (q' + 3) 5 (wc.alloc _).drew (hR.alloc _).drewd (by omega) (by omega) (by omega)).mono ?_);rintro e w3 ⟨z', rfl,z0,z1,h3,ht3⟩;obtain⟨z,rfl⟩:=Int.eq_ofNat_of_zero_le z0;have hz:z<5:=(by omega);obtain⟨x,hl1,hx⟩:=tab5 3 3 1 2 0 hz;have hl2:=tab_arr hl1;clear hz;have hzi:(z:Int)<5:=z1;clear z1;have tB:=Touch.tab ht3.ofDrew hR.lt z _ hl2;have tl:=World.block_lt_of_cell? w3 _ tB;have HQ3:=hid ((HQ.out.alloc _).drewd.touch hgr h3 ht3);have HOD3:=hid ((HOD.out.allocd _).drewd.touch ht3 (by omega));have HOL3:=hid ((HOL.out.allocd _).drewd.touch ht3 (by omega));obtain⟨k0,k1,k2,k3,k4,k5,k6⟩:=HQ3.out.1.cells;obtain⟨m0,m1,m2,m3,m4,m5,m6⟩:=HQ3.out.1.unfrozen;have gl3:=HQ3.out.1.lt)))
       all_goals
        go_wp2_with fail
        go_roundw
        case rel=>exact⟨k+1,ds++[y],ls++[x],va,ua,vc,uc,q' + 4,by go_num,by omega,by omega,by simp[HDL.out],by simp[HLL.out],all_app HDO.out HWY.out,all_app HLO.out (by simp[inB];omega),HOD5.out.set' g 6 _ (fun j hj=>by have:=(OwnR.lt HOD5.out j hj).1;omega),HOL5.out.set' g 6 _ (fun j hj=>by have:=(OwnR.lt HOL5.out j hj).1;omega),HAP5.out,HQ5.out.set6 hrw' hg _⟩
        case measure=>simp[intOf];omega
     ·obtain rfl:k=m:=by omega
      go_wp2_with fail
      go_meet
      case rel=>exact⟨_,_,ds,ls,q', req_ok3 a0 a1 b0 b1 HOK.out d2 (fun _=>⟨by rw[HDL.out],by rw[HLL.out],HDO.out,HLO.out⟩) (fun h=>by rw[HB.out]at h;cases h),by rw[HDL.out];omega,by rw[HLL.out];omega,HOD.out,HOL.out,HAP.out,by omega,HQ.out⟩
  clear k0 k1 k2 k3 k4 k5 k6 m0 m1 m2 m3 m4 m5 m6 hgl hR HQ hq;obtain⟨dv,lv,ds,ls,q,hok,hdl,hll,hod,hol,hap,hq,hQ⟩:=hcut
  apply_assumption
  exact req_tail9 r B bs p n w hp h1n hn h9 hrw w0 s HS0 HT0 hz0 hrs HSW g id kind addr many wp hg a0 a1 b0 b1 hgr hrg hsg hrw' d1 c0 c1 dv lv ds ls q wc hok hdl hll hod hol hap hq hQ _ _ _ _ _ _ _ _ _ _ _ _ _ _ _ _ _ _ _ _ _ _ _ _ _ _ _ _ _ _ _ _ _ _ _ _ _ _ _ _ _ _ _ _ _ _ _ _ _ _ _ _ _ _ _ _ _ _ _ _ _ _ _ _ _ _ _ _ _ _ _ _ _ _ _ _ _ _ _ _ _ _ _ _ _ _ _ _ _ _ _ _ _ _ _ _ _ _ _ _ _ _ _ _ _ _ _ _ _ _ _ _ _ _ _ _ _ _ _ _ _ _ _ _ _ _ _ _ _ _ _ _ _ _ _ _ _ _ _ _ _ _ _ _ _ _ _
end Go.Proofs.YtgkdoehkmbhfiaaGreat
namespace Go.Proofs.YtgkdoehkmbhfiaaGreat
open Go.RowKit
structure LbS (w0:World) (lo mid g r B:Nat) (bs:List Nat) (a bx bo px po:Value) (us:List Value) (ls:List (List Rq)) (ms:List MR) (lat:List Int) (q:Nat) (w:World):Prop where
 box:BoxB w g a bx px
 oa:Owns w lo 144 4 rowM a ms
 ob:Owns w lo 3 1 rowI bo lat
 op:Owns w lo 53 1 row1 po us
 len:us.length=ls.length
 pg:∀j,j<ls.length→∃qs vs n c x,RdO w mid (.slice x n c) qs vs∧us.getD j vnil=.slice x (ls.getD j []).length c∧(ls.getD j [])=qs.take (ls.getD j []).length
 ap:∀i j,i<j→j<ls.length→Apart (us.getD i vnil) (us.getD j vnil)
 bm:∀k,bo.ownBlock=some k→k<mid
 rd:RdAt w r B bs q
 t:Touch r w0 w
 res:Bx w w0.heap.size [vnil,vnil,vnil]
 r0:r<w0.heap.size
 l0:w0.heap.size<lo
 lg:lo≤g
 ml:lo≤mid
 mle:mid≤w.heap.size
theorem Owns.keptT {α:Type} {w w':World} {lo e sz:Nat} {f:α→List Value} {u:Value} {xs:List α} (ho:Owns w lo e sz f u xs) (hk:∀(k:Nat) (cs:Array Value),lo≤k→w.heap[k]? = some (Obj.cells cs e (0,0))→w'.heap[k]? = w.heap[k]?):Owns w' lo e sz f u xs:=by
 refine OwnR.kept ho fun k hk2=>?_
 have h1:=(OwnR.lt ho k hk2).1;obtain⟨_,h2⟩:=ho;rcases h2 with⟨rfl,_⟩|⟨g,off,cap,cur,rfl,_,hh,_⟩
 ·simp[Value.ownBlock]at hk2
 ·simp only[Value.ownBlock,Option.some.injEq]at hk2;subst hk2;exact hk _ _ h1 hh
theorem RdO.keptU {w w':World} {lo:Nat} {v:Value} {qs:List Rq} {vs:List (Value×Value)} (h:RdO w lo v qs vs) (hk:∀(k:Nat) (cs:Array Value) (T:TypeId),lo≤k→w.heap[k]? = some (Obj.cells cs T (0,0))→(T=52∨T=3)→w'.heap[k]? = w.heap[k]?):RdO w' lo v qs vs :=
 { h with rows:=h.rows.keptT fun k cs hl hc=>hk k cs _ hl hc (.inl rfl),d:=fun j hj=>(h.d j hj).keptT fun k cs hl hc=>hk k cs _ hl hc (.inr rfl),l:=fun j hj=>(h.l j hj).keptT fun k cs hl hc=>hk k cs _ hl hc (.inr rfl) }
section
variable {w0 w w' : World} {lo mid g r B : Nat} {bs : List Nat} {a bx bo px po : Value} {us : List Value} {ls : List (List Rq)} {ms : List MR} {lat : List Int} {q : Nat}
theorem LbS.keep (h:LbS w0 lo mid g r B bs a bx bo px po us ls ms lat q w) {q':Nat} (hr:RdAt w' r B bs q') (ht:Touch r w0 w') (hz:w.heap.size≤w'.heap.size) (hk:∀k,k≠r→k<w.heap.size→w'.heap[k]? = w.heap[k]?):LbS w0 lo mid g r B bs a bx bo px po us ls ms lat q' w':=by
  have h0:=h.r0;have h1:=h.l0;have h2:=h.lg;have h3:=h.ml;have key:∀k,lo≤k→k<w.heap.size→w'.heap[k]? = w.heap[k]?:=fun k h4 h5=>hk k (by omega) h5
  exact { h with
    box:=h.box.keep (key g h2 h.box.lt)
    oa:=OwnR.kept h.oa fun k hk2=>key k (OwnR.lt h.oa k hk2).1 (OwnR.lt h.oa k hk2).2
    ob:=OwnR.kept h.ob fun k hk2=>key k (OwnR.lt h.ob k hk2).1 (OwnR.lt h.ob k hk2).2
    op:=OwnR.kept h.op fun k hk2=>key k (OwnR.lt h.op k hk2).1 (OwnR.lt h.op k hk2).2
    pg:=fun j hj=>let ⟨qs,vs,n,c,x,k1,k2⟩:=h.pg j hj;⟨qs,vs,n,c,x,k1.kept fun k h4 h5=>key k (by omega) h5,k2⟩
    rd:=hr
    t:=ht
    res:=h.res.kept (hk _ (by omega) h.res.lt)
    mle:=Nat.le_trans h.mle hz }
theorem LbS.touch (h:LbS w0 lo mid g r B bs a bx bo px po us ls ms lat q w) {q':Nat} (ht:Touch r w w') (hr:RdAt w' r B bs q'):LbS w0 lo mid g r B bs a bx bo px po us ls ms lat q' w' :=
 h.keep hr (h.t.trans ht) ht.size fun k h1 h2=>ht.block k h2 h1
theorem LbS.below (h:LbS w0 lo mid g r B bs a bx bo px po us ls ms lat q w) (hb:Below w.heap.size w w'):LbS w0 lo mid g r B bs a bx bo px po us ls ms lat q w' :=
 h.keep (h.rd.kept hb h.rd.lt) (h.t.bel hb h.t.size) hb.size fun k _ h2=>hb.block k h2
theorem LbS.addLat {bo':Value} {x:Int} (h:LbS w0 lo mid g r B bs a bx bo px po [] [] ms lat q w) (ho:Owns w' lo 3 1 rowI bo' (lat++[x])) (hz:w.heap.size≤w'.heap.size) (hk:∀k,k<w.heap.size→bo.ownBlock≠some k→w'.heap[k]? = w.heap[k]?) (hb:Below lo w w'):LbS w0 lo w'.heap.size g r B bs a bx bo' px po [] [] ms (lat++[x]) q w':=by
 have h0:=h.r0;have h1:=h.l0;have h2:=h.lg;have h3:=h.ml;refine { h with box:=?_,oa:=?_,ob:=ho,op:=?_,pg:=fun j hj=>absurd hj (by simp),ap:=fun i j _ hj=>absurd hj (by simp),bm:=fun k hk2=>(OwnR.lt ho k hk2).2,rd:=h.rd.kept hb (by omega),t:=h.t.bel hb (by omega),res:=h.res.below hb h1,ml:=?_,mle:=Nat.le_refl _ }
 ·exact h.box.keep (hk g h.box.lt (h.ob.notB h.box (by decide)))
 ·exact OwnR.kept h.oa fun k hk2=>hk k (OwnR.lt h.oa k hk2).2 (fun e=>Owns.apartT h.ob h.oa (by decide) k e hk2)
 ·exact OwnR.kept h.op fun k hk2=>hk k (OwnR.lt h.op k hk2).2 (fun e=>Owns.apartT h.ob h.op (by decide) k e hk2)
 ·have:=h.box.lt;omega
theorem LbS.box1 (h:LbS w0 lo mid g r B bs a bx bo px po us ls ms lat q w) (i:Nat) (u a' bx' px':Value) (hb:BoxB (w.setCell ⟨g,i,none⟩ u) g a' bx' px') (ha:a' = a):LbS w0 lo mid g r B bs a' bx' bo px' po us ls ms lat q (w.setCell ⟨g,i,none⟩ u):=by
  subst ha;have h0:=h.r0;have h1:=h.l0;have h2:=h.lg;have hs:∀k,k≠g→(w.setCell ⟨g,i,none⟩ u).heap[k]? = w.heap[k]?:=fun k hk=>Below.heap_setCell _ _ _ _ hk
  have key:∀(k:Nat) (cs:Array Value) (T:TypeId),w.heap[k]? = some (Obj.cells cs T (0,0))→T≠27→(w.setCell ⟨g,i,none⟩ u).heap[k]? = w.heap[k]?:=fun k cs T hc hT=>hs k fun e=>by subst e;exact cells_ne hc h.box hT rfl
  exact { h with
    box:=hb
    oa:=h.oa.keptT fun k cs _ hc=>key k cs _ hc (by decide)
    ob:=h.ob.keptT fun k cs _ hc=>key k cs _ hc (by decide)
    op:=h.op.keptT fun k cs _ hc=>key k cs _ hc (by decide)
    pg:=fun j hj=>let ⟨qs,vs,n,c,x,k1,k2⟩:=h.pg j hj;⟨qs,vs,n,c,x,k1.keptU fun k cs T _ hc hT=>key k cs T hc (by rcases hT with rfl|rfl <;> decide),k2⟩
    rd:=h.rd.setNew h.r0 (show w0.heap.size≤g by omega) i u
    t:=h.t.setNew (show w0.heap.size≤g by omega) u
    res:=h.res.kept (hs _ (by omega))
    mle:=by simpa using h.mle }
theorem LbS.put1 (h:LbS w0 lo mid g r B bs a bx bo px po us ls ms lat q w) (u:Value):LbS w0 lo mid g r B bs a u bo px po us ls ms lat q (w.setCell ⟨g,1,none⟩ u) :=
 h.box1 1 u a u px (by have:=h.box;unfold BoxB at this ⊢;simp[World.setCell,Array.getElem?_modify,this]) rfl
theorem LbS.put2 (h:LbS w0 lo mid g r B bs a bx bo px po us ls ms lat q w) (u:Value):LbS w0 lo mid g r B bs a bx bo u po us ls ms lat q (w.setCell ⟨g,2,none⟩ u) :=
 h.box1 2 u a bx u (by have:=h.box;unfold BoxB at this ⊢;simp[World.setCell,Array.getElem?_modify,this]) rfl
theorem LbS.list {po' : Value} {n c m : Nat} {x : Option Addr} {qs : List Rq} {vs : List (Value × Value)} (h : LbS w0 lo mid g r B bs a bx bo px po us ls ms lat q w) (hv : RdO w mid (.slice x n c) qs vs) (hm : m ≤ qs.length) (hap : ∀ i, i < ls.length → Apart (us.getD i vnil) (.slice x m c))
  (ho:Owns w' lo 53 1 row1 po' (us++[.slice x m c])) (hk:∀k,k<w.heap.size→po.ownBlock≠some k→w'.heap[k]? = w.heap[k]?) (hb:Below lo w w'):LbS w0 lo mid g r B bs a bx bo px po' (us++[.slice x m c]) (ls++[qs.take m]) ms lat q w':=by
 have h0:=h.r0;have h1:=h.l0;have h2:=h.lg;have h3:=h.ml;have key:∀(k:Nat) (cs:Array Value) (T:TypeId),w.heap[k]? = some (Obj.cells cs T (0,0))→T≠53→w'.heap[k]? = w.heap[k]?:=fun k cs T hc hT=>hk k (heap_lt hc) (h.op.notB hc hT)
 refine { h with box:=?_,oa:=?_,ob:=?_,op:=ho,len:=by simp[h.len],pg:=fun j hj=>?_,ap:=fun i j hij hj=>?_,rd:=h.rd.kept hb (by omega),t:=h.t.bel hb (by omega),res:=h.res.below hb h1,mle:=Nat.le_trans h.mle hb.size }
 ·exact h.box.keep (key _ _ _ h.box (by decide))
 ·exact h.oa.keptT fun k cs _ hc=>key k cs _ hc (by decide)
 ·exact h.ob.keptT fun k cs _ hc=>key k cs _ hc (by decide)
 ·by_cases e:j<ls.length
  ·obtain⟨qs', vs', n', c', x', k1,k2,k3⟩:=h.pg j e;rw[zB7 e,zB7 (by rw[h.len];exact e)];exact⟨qs', vs', n', c', x', k1.keptU fun k cs T _ hc hT=>key k cs T hc (by rcases hT with rfl|rfl <;> decide),k2,k3⟩
  ·obtain rfl:j=ls.length:=by simp at hj;omega
   have hl:(qs.take m).length=m:=by simp;omega
   rw[zC5,←h.len,zC5,hl];exact⟨qs,vs,n,c,x,hv.keptU fun k cs T _ hc hT=>key k cs T hc (by rcases hT with rfl|rfl <;> decide),rfl,rfl⟩
 ·by_cases e:j<ls.length
  ·rw[zB7 (by rw[h.len];omega),zB7 (by rw[h.len];exact e)];exact h.ap i j hij e
  ·obtain rfl:j=ls.length:=by simp at hj;omega
   rw[zB7 (by rw[h.len];omega),←h.len,zC5];exact hap i (by omega)
theorem LbS.own (h:LbS w0 lo mid g r B bs a bx bo px po us ls ms lat q w) (i:Nat) (hi:i<ls.length):∀k,(us.getD i vnil).ownBlock=some k→k<w.heap.size:=by
 obtain⟨qs,vs,n,c,x,k1,k2,_⟩:=h.pg i hi;intro k hk;rw[k2]at hk;exact(OwnR.lt k1.rows k (show(Value.slice x n c).ownBlock=some k from(show(Value.slice x n c).ownBlock=(Value.slice x (ls.getD i []).length c).ownBlock by cases x <;> rfl).trans hk)).2
theorem LbS.busI {W:World} (h:LbS w0 lo mid g r B bs a bx bo px po us ls ms lat q w) (hf:BFit ms lat ls) (hkw:∀k,lo≤k→W.heap[k]? = w.heap[k]?):BusI W W.heap.size (.agg #[a,bo,po]) ms lat ls:=by
 have oa:Owns W lo 144 4 rowM a ms:=OwnR.kept h.oa fun k hk2=>hkw k (OwnR.lt h.oa k hk2).1
 have ob:Owns W lo 3 1 rowI bo lat:=OwnR.kept h.ob fun k hk2=>hkw k (OwnR.lt h.ob k hk2).1
 have op:Owns W lo 53 1 row1 po us:=OwnR.kept h.op fun k hk2=>hkw k (OwnR.lt h.op k hk2).1
 refine⟨a,bo,po,rfl,oa.maps hf.m hf.m6,ob.ints (by have:=hf.l;omega) hf.l6,us,?_,h.len,fun k hk d=>?_⟩
 ·have e:us.map (fun u=>u.cells.toList)=us.map row1:=by
   apply List.map_congr_left;intro u hu;obtain⟨i,hi,rfl⟩:=List.mem_iff_getElem.1 hu;obtain⟨qs,vs,n,c,x,_,e,_⟩:=h.pg i (by have:=h.len;omega);have e2:us.getD i vnil=us[i]:=by simp[List.getD,hi]
   rw[e2]at e;rw[e];rfl
  rw[e];exact op.arr zG7 (by have:=hf.p;have:=h.len;omega)
 ·obtain⟨qs,vs,n,c,x,hv,e1,e2⟩:=h.pg k hk;obtain⟨q1,q2⟩:=hf.q _ (zB5 (d:=[]) hk);have hk2:k<us.length:=by have:=h.len;omega
  rw[show us.getD k undef=us.getD k vnil by simp[List.getD,hk2],show ls.getD k d=ls.getD k [] by simp[List.getD,hk],e1];have hle:(ls.getD k []).length≤qs.length:=by have:=congrArg List.length e2;rw[List.length_take]at this;omega
  have hvv:=hv.kept (w':=W) fun k h1 _=>hkw k (by have:=h.ml;omega)
  have hz:(zipQ qs vs).length=qs.length:=zC3 hv.len;have ht:RdO W mid (.slice x (ls.getD k []).length c) (qs.take (ls.getD k []).length) (vs.take (ls.getD k []).length):=by
   refine⟨by simp[hv.len],?_,fun j hj=>?_,fun j hj=>?_⟩
   ·have:=hvv.rows.take zC8 (ls.getD k []).length (by rw[hz];exact hle);have e3:(zipQ qs vs).take (ls.getD k []).length=zipQ (qs.take (ls.getD k []).length) (vs.take (ls.getD k []).length):=by
     unfold zipQ;rw[List.take_zipWith]
    rwa [e3]at this
   ·have hj2:j<(ls.getD k []).length∧j<qs.length:=by rw[List.length_take]at hj;omega
    rw[zD0 hj2.1,zD0 hj2.1];exact hvv.d j hj2.2
   ·have hj2:j<(ls.getD k []).length∧j<qs.length:=by rw[List.length_take]at hj;omega
    rw[zD0 hj2.1,zD0 hj2.1];exact hvv.l j hj2.2
  have:=ht.reqs (by rw[List.length_take];omega) (by rw[←e2];exact q2)
  rwa [←e2]at this
end
end Go.Proofs.YtgkdoehkmbhfiaaGreat
namespace Go.Proofs.YtgkdoehkmbhfiaaGreat
open Go.RowKit
theorem elem_PP:Elem 25 53 1 24:=zF1 Tryz.underlying25 (z:=.slice none 0 0) infoPQ rfl (by omega)
theorem one1 (a:Option Addr) (n c:Nat):∀u∈row1 (.slice a n c),u.oneCell' = true:=by
 intro u hu;simp only[row1,List.mem_singleton]at hu;subst hu;rfl
theorem Owns.cases2 {α:Type} {w:World} {base e sz:Nat} {f:α→List Value} {v:Value} {xs:List α} (h:Owns w base e sz f v xs):(v=vnil∧xs=[])∨∃g o c,v=.slice (some ⟨g,o,none⟩) xs.length c:=by
 rcases h.2 with⟨h1,h2⟩|⟨g,o,c,_,h1,_⟩
 ·exact .inl ⟨h1,List.eq_nil_of_length_eq_zero h2⟩
 ·exact .inr ⟨g,o,c,h1⟩
theorem wp_pushG {α : Type} {o : Oper} {a : Act} {K : Act → World → Prop} {Q : Exit → Act → World → Prop} {T e sz by_ : Nat} (E : Elem T e sz by_) (f : α → List Value) (hf : ∀ x, (f x).length = sz) (y : α) (h1 : ∀ u ∈ f y, u.oneCell' = true)
  (w:World) (s x:Operand) (ho:o.op=.call { callee:=.builtin .append,args:=#[s,x],argTypes:=#[T,T] })
  (base:Nat) (v:Value) (xs:List α) (hs:a.eval s=v) (hown:Owns w base e sz f v xs) (g c:Nat) (hx:a.eval x=.slice (some ⟨g,0,none⟩) 1 c) (hnews:∀j u,(f y)[j]? = some u→w.cell? ⟨g,j,none⟩=some u)
  (hlen:(xs.length+1) * by_≤140737488355328) (hlen2:xs.length+1≤9223372036854775807) (hbase:base≤w.heap.size)
  (h:∀v' w', Owns w' base e sz f v' (xs++[y])→(∀k,k<w.heap.size→v.ownBlock≠some k→w'.heap[k]? = w.heap[k]?)→w.heap.size≤w'.heap.size→Below base w w' → K (a.put o.dst v') w'):Oper.wp Tryz.prog o a w K Q:=by
 obtain⟨ht,i,z,hi,hz,hsize,hby,hzs,hsz⟩:=E;refine zG6 s x T ho base e i z sz by_ ht hi hz hsize hby hzs v xs.length (xs.flatMap f) hs hown ⟨g,0,none⟩ 1 c (f y) hx (by rw[hf];omega) ?_ h1 (by unfold maxLen;omega) hlen hbase ?_
 ·intro j u hj;rw[Addr.add_lit,Nat.zero_add];exact hnews j u hj
 ·intro v' w' ho' hg _ _;refine h v' w' (by unfold Owns;simpa using ho') (fun k hk hne=>hg.block k hk (fun e=>hne e.symm)) hg.size ((Below.refl _ _).grown hg hbase (fun k hk=>(OwnR.lt hown k hk).1))
theorem news1 {w:World} {g:Nat} {u:Value} (h:w.cell? ⟨g,0,none⟩=some u):∀j v,(row1 u)[j]? = some v→w.cell? ⟨g,j,none⟩=some v:=by
 intro j v hj;obtain⟨hl,hv⟩:=List.getElem?_eq_some_iff.1 hj;simp only[row1,List.length_singleton]at hl;obtain rfl:j=0:=by omega
 simp only[row1,List.getElem_cons_zero]at hv;rw[←hv];exact h
end Go.Proofs.YtgkdoehkmbhfiaaGreat
namespace Go.Proofs.YtgkdoehkmbhfiaaGreat
open Go.RowKit
attribute [local go_sem ↓] Go.wp_at_zero Go.wp_at_succ
def lb5A (i1 i2 i3 i4 i6 i7 i8 i9 i10 i11 i12 i13 i14 i15 i16 i17 i25 i26 i27 i28 i29 i30 i31 i32 i33 i34 i35 i36 i37 i38 i39 i40 i41 i42 i43 i44 i45 i46 i47 i48 i49 i50 i51 i52 i53 i54 i55 i56 i57 i58 i59 i60 i61 i62 i63 i64 i65 i66 i67 i68 i69 i70 i71 i72 i73 i74 i75:Value) (g:Nat) (r:Nat) (u18 u19 u20 u21 u22 u23 u24:Value):Act:={ tmps:=#[.pointer (some ⟨r,0,none⟩),i1,i2,i3,i4,.pointer (some ⟨g,0,none⟩),i6,i7,i8,i9,i10,i11,i12,i13,i14,i15,i16,i17,u18,u19,u20,u21,u22,u23,u24,i25,i26,i27,i28,i29,i30,i31,i32,i33,i34,i35,i36,i37,i38,i39,i40,i41,i42,i43,i44,i45,i46,i47,i48,i49,i50,i51,i52,i53,i54,i55,i56,i57,i58,i59,i60,i61,i62,i63,i64,i65,i66,i67,i68,i69,i70,i71,i72,i73,i74,i75],defers:=[] }
def lb5I (i1 i2 i3 i4 i6 i7 i8 i9 i10 i11 i12 i13 i14 i15 i16 i17 i25 i26 i27 i28 i29 i30 i31 i32 i33 i34 i35 i36 i37 i38 i39 i40 i41 i42 i43 i44 i45 i46 i47 i48 i49 i50 i51 i52 i53 i54 i55 i56 i57 i58 i59 i60 i61 i62 i63 i64 i65 i66 i67 i68 i69 i70 i71 i72 i73 i74 i75:Value) (g:Nat) (r:Nat) (w0:World) (lo:Nat) (mid:Nat) (B:Nat) (bs:List Nat) (av:Value) (bv:Value) (pv:Value) (ms:List MR) (lat:List Int) (q:Nat) (wq:World) (listed:Array Bool) (a:Act) (w':World):Prop :=
 ∃ u18 u19 u20 u21 u22 u23 u24 : Value, a = lb5A i1 i2 i3 i4 i6 i7 i8 i9 i10 i11 i12 i13 i14 i15 i16 i17 i25 i26 i27 i28 i29 i30 i31 i32 i33 i34 i35 i36 i37 i38 i39 i40 i41 i42 i43 i44 i45 i46 i47 i48 i49 i50 i51 i52 i53 i54 i55 i56 i57 i58 i59 i60 i61 i62 i63 i64 i65 i66 i67 i68 i69 i70 i71 i72 i73 i74 i75 g r u18 u19 u20 u21 u22 u23 u24 ∧
   (listed.getD 0 false=true→u18=.pointer (some ⟨g,1,none⟩)) ∧
   (listed.getD 1 false=true→u19=bv) ∧
   (listed.getD 2 false=true→u20=.pointer (some ⟨r,0,none⟩)) ∧
   (listed.getD 3 false=true→listed.getD 5 false=false→∃x:Int,u21=.int .i64 x∧0≤x∧x<4∧LbS w0 lo mid g r B bs av bv bv pv pv [] [] ms lat (q+1) w') ∧
   (listed.getD 4 false=true→listed.getD 5 false=false→∃x:Int,u21=.int .i64 x∧∃g2,u22=.slice (some ⟨g2,0,none⟩) 1 1∧w'.cell? ⟨g2,0,none⟩=some (.int .i64 x)) ∧
   (listed.getD 5 false=true→listed.getD 7 false=false→∃(x:Int) (m':Nat),0≤x∧x<4∧LbS w0 lo m' g r B bs av bv u23 pv pv [] [] ms (lat++[x]) (q+1) w') ∧
   (listed.getD 6 false=true→u24=.pointer (some ⟨g,1,none⟩)) ∧
   (listed.getD 7 false=true→∃(x:Int) (m':Nat),0≤x∧x<4∧LbS w0 lo m' g r B bs av u23 u23 pv pv [] [] ms (lat++[x]) (q+1) w') ∧
   (listed.getD 3 false=false→LbS w0 lo mid g r B bs av bv bv pv pv [] [] ms lat q w') ∧
   (listed.getD 7 false=false→BoxB w' g av bv pv) ∧
   True
noncomputable def lb5Code:Code:=(Tryz.f43.body.bind (zH0 5)).getD .skip
def LaP (w0:World) (lo g r B:Nat) (bs:List Nat) (av pv:Value) (ms:List MR) (lat:List Int) (q:Nat) (w':World):Prop:=∃(x:Int) (m':Nat) (u:Value),0≤x∧x<4∧LbS w0 lo m' g r B bs av u u pv pv [] [] ms (lat++[x]) (q+1) w'
set_option maxRecDepth 100000 in
theorem lb5_region (i1 i2 i3 i4 i6 i7 i8 i9 i10 i11 i12 i13 i14 i15 i16 i17 i25 i26 i27 i28 i29 i30 i31 i32 i33 i34 i35 i36 i37 i38 i39 i40 i41 i42 i43 i44 i45 i46 i47 i48 i49 i50 i51 i52 i53 i54 i55 i56 i57 i58 i59 i60 i61 i62 i63 i64 i65 i66 i67 i68 i69 i70 i71 i72 i73 i74 i75 j18 j19 j20 j21 j22 j23 j24 : Value) (g : Nat) (r : Nat) (w0 : World) (lo : Nat) (mid : Nat) (B : Nat) (bs : List Nat) (av : Value) (bv : Value) (pv : Value) (ms : List MR) (lat : List Int) (q : Nat) (wq : World)
  (hS:LbS w0 lo mid g r B bs av bv bv pv pv [] [] ms lat q wq) (hq:q≤1000000) (hl4:lat.length≤100)
  {Q:Exit→Act→World→Prop}
  (hK:∀(u18 u19 u20 u21 u22 u23 u24:Value) w', LaP w0 lo g r B bs av pv ms lat q w' → Q .normal (lb5A i1 i2 i3 i4 i6 i7 i8 i9 i10 i11 i12 i13 i14 i15 i16 i17 i25 i26 i27 i28 i29 i30 i31 i32 i33 i34 i35 i36 i37 i38 i39 i40 i41 i42 i43 i44 i45 i46 i47 i48 i49 i50 i51 i52 i53 i54 i55 i56 i57 i58 i59 i60 i61 i62 i63 i64 i65 i66 i67 i68 i69 i70 i71 i72 i73 i74 i75 g r u18 u19 u20 u21 u22 u23 u24) w'):lb5Code.wp Tryz.prog Q (lb5A i1 i2 i3 i4 i6 i7 i8 i9 i10 i11 i12 i13 i14 i15 i16 i17 i25 i26 i27 i28 i29 i30 i31 i32 i33 i34 i35 i36 i37 i38 i39 i40 i41 i42 i43 i44 i45 i46 i47 i48 i49 i50 i51 i52 i53 i54 i55 i56 i57 i58 i59 i60 i61 i62 i63 i64 i65 i66 i67 i68 i69 i70 i71 i72 i73 i74 i75 g r j18 j19 j20 j21 j22 j23 j24) wq:=by
 conv=>arg 2;whnf
 refine zE7 (lb5I i1 i2 i3 i4 i6 i7 i8 i9 i10 i11 i12 i13 i14 i15 i16 i17 i25 i26 i27 i28 i29 i30 i31 i32 i33 i34 i35 i36 i37 i38 i39 i40 i41 i42 i43 i44 i45 i46 i47 i48 i49 i50 i51 i52 i53 i54 i55 i56 i57 i58 i59 i60 i61 i62 i63 i64 i65 i66 i67 i68 i69 i70 i71 i72 i73 i74 i75 g r w0 lo mid B bs av bv pv ms lat q wq) (by kernel_rfl) (by kernel_rfl) ?_ ?_ ?_
 ·exact⟨_,_,_,_,_,_,_,rfl,nf,nf,nf,(fun h _=>absurd h (by rw[getD_replicate_false];simp)),(fun h _=>absurd h (by rw[getD_replicate_false];simp)),(fun h _=>absurd h (by rw[getD_replicate_false];simp)),nf,nf,(fun _=>hS.touch (Touch.refl _ _).drewd hS.rd.drewd),(fun _=>hS.box),trivial⟩
 ·intro listed a w' i o hI hsz ho hl he hcl;obtain⟨u18,u19,u20,u21,u22,u23,u24,rfl,F0,F1,F2,F3,F4,F5,F6,F7,N3,N7,hx⟩:=hI;have hi:i<8:=(Array.getElem?_eq_some_iff.1 ho).1;have e:i=0∨i=1∨i=2∨i=3∨i=4∨i=5∨i=6∨i=7:=by omega
  clear hi;rcases e with rfl|rfl|rfl|rfl|rfl|rfl|rfl|rfl
  all_goals (have ho2:=ho;obtain rfl:=Option.some.inj ho2.symm;clear ho2)
  ·as_aux_lemma=>
    refine zA2 ho rfl (fun K hK=>?_);unfold lb5A;go_simp;exact hK _ _ ⟨_,_,_,_,_,_,_,rfl,fun _=>rfl,cy F1 rfl,cy F2 rfl,cyu F3 rfl rfl,cyu F4 rfl rfl,cyu F5 rfl rfl,cy F6 rfl,cy F7 rfl,cy N3 rfl,cy N7 rfl,hx⟩
  ·as_aux_lemma=>
    have l0:=he ⟨0,.data⟩ (by simp) rfl;have e:=F0 l0;subst e;obtain⟨⟨c0,c1,c2⟩,_⟩:=(N7 (Bool.eq_false_iff.2 fun hk=>absurd (hcl 7 _ rfl hk ⟨1,.phase⟩ (by simp) rfl) (by rw[getD_both hl];simp))).bx.three;refine zA2 ho rfl (fun K hK=>?_);unfold lb5A;go_simp;exact hK _ _ ⟨_,_,_,_,_,_,_,rfl,cy F0 rfl,fun _=>rfl,cy F2 rfl,cyu F3 rfl rfl,cyu F4 rfl rfl,cyu F5 rfl rfl,cy F6 rfl,cy F7 rfl,cy N3 rfl,cy N7 rfl,hx⟩
  ·as_aux_lemma=>
    refine zA2 ho rfl (fun K hK=>?_);unfold lb5A;go_simp;exact hK _ _ ⟨_,_,_,_,_,_,_,rfl,cy F0 rfl,cy F1 rfl,fun _=>rfl,cyu F3 rfl rfl,cyu F4 rfl rfl,cyu F5 rfl rfl,cy F6 rfl,cy F7 rfl,cy N3 rfl,cy N7 rfl,hx⟩
  ·as_aux_lemma=>
    have l2:=he ⟨2,.data⟩ (by simp) rfl;have e:=F2 l2;subst e;have n3:=N3 (getD_both hl);refine zA2 ho rfl (fun K hK=>?_);unfold lb5A;go_simp
    (with_reducible refine(zC9 r B bs q 4 w' n3.rd (by omega) (by omega) (by omega)).mono ?_)
    rintro e w'' ⟨x,rfl,x0,x4,hrd,ht⟩
    go_wp2_with fail
    exact⟨_,_,_,_,_,_,_,rfl,cy F0 rfl,cy F1 rfl,fun _=>rfl,fun _ _=>⟨x,rfl,x0,x4,n3.touch ht hrd⟩,fun hj hu=>absurd (hcl 4 _ rfl (by rwa [sgx (by decide)]at hj) ⟨3,.data⟩ (by simp) rfl) (by rw[getD_both hl];simp),fun hj hu=>absurd (hcl 5 _ rfl (by rwa [sgx (by decide)]at hj) ⟨3,.chain⟩ (by simp) rfl) (by rw[getD_both hl];simp),cy F6 rfl,fun hj=>absurd (hcl 7 _ rfl (by rwa [sgx (by decide)]at hj) ⟨3,.phase⟩ (by simp) rfl) (by rw[getD_both hl];simp),fun hj=>absurd hj (by rw[sgix hl];simp),fun hj=>(cy N7 rfl hj).keep (ht.block g (cy N7 rfl hj).lt (by have:=n3.r0;have:=n3.l0;have:=n3.lg;omega)),trivial⟩
  ·as_aux_lemma=>
    have l3:=he ⟨3,.data⟩ (by simp) rfl;obtain⟨x,e,x0,x4,hS⟩:=F3 l3 (Bool.eq_false_iff.2 fun hk=>absurd (hcl 5 _ rfl hk ⟨4,.data⟩ (by simp) rfl) (by rw[getD_both hl];simp));subst e;refine zA2 ho rfl (fun K hK=>?_);unfold lb5A;have hb1:Below w'.heap.size w' (w'.alloc (.cells #[.int .i64 x] 3)):=(Below.refl _ _).alloc (Nat.le_refl _) _;go_simp;exact hK _ _ ⟨_,_,_,_,_,_,_,rfl,cy F0 rfl,cy F1 rfl,cy F2 rfl,fun hj hu=>⟨x,rfl,x0,x4,hS.below hb1⟩,fun _ _=>⟨x,rfl,_,rfl,by rw[World.cell?_alloc_at _ _ _ _ rfl];rfl⟩,fun hj hu=>absurd (hcl 5 _ rfl (by rwa [sgx (by decide)]at hj) ⟨4,.data⟩ (by simp) rfl) (by rw[getD_both hl];simp),cy F6 rfl,fun hj=>absurd (hcl 7 _ rfl (by rwa [sgx (by decide)]at hj) ⟨4,.phase⟩ (by simp) rfl) (by rw[getD_both hl];simp),fun hj=>(cy N3 rfl hj).below hb1,fun hj=>(cy N7 rfl hj).below hb1 (cy N7 rfl hj).lt,trivial⟩
  ·as_aux_lemma=>
    have l1:=he ⟨1,.data⟩ (by simp) rfl;have l4:=he ⟨4,.data⟩ (by simp) rfl;have l3:=he ⟨3,.chain⟩ (by simp) rfl;have e:=F1 l1;subst e;obtain⟨x,e,g2,e2,hc⟩:=F4 l4 (getD_both hl);obtain⟨x', e', x0,x4,hS⟩:=F3 l3 (getD_both hl);rw[e]at e';simp only[Value.int.injEq,true_and]at e';subst e' e e2;have n7:=N7 (Bool.eq_false_iff.2 fun hk=>absurd (hcl 7 _ rfl hk ⟨5,.data⟩ (by simp) rfl) (by rw[getD_both hl];simp));refine zA2 ho rfl (fun K hK=>?_);unfold lb5A;refine wp_pushG elem_int rowI zE9 x (zH9 x) w' _ _ rfl lo _ lat rfl hS.ob g2 1 rfl (news1 hc) (by omega) (by omega) (by have:=hS.lg;have:=hS.box.lt;omega) ?_;intro v' w'' o1 hk hz hb;exact hK _ _ ⟨_,_,_,_,_,_,_,rfl,cy F0 rfl,cy F1 rfl,cy F2 rfl,fun _ hu=>absurd hu (by rw[sgix hl];simp),fun _ hu=>absurd hu (by rw[sgix hl];simp),fun _ _=>⟨x,_,x0,x4,hS.addLat o1 hz hk hb⟩,cy F6 rfl,fun hj=>absurd (hcl 7 _ rfl (by rwa [sgx (by decide)]at hj) ⟨5,.data⟩ (by simp) rfl) (by rw[getD_both hl];simp),fun hj=>absurd l3 (by rw[sgx (by decide)]at hj;rw[hj];simp),fun hj=>(cy N7 rfl hj).keep (hk g (cy N7 rfl hj).lt (hS.ob.notB hS.box (by decide))),trivial⟩
  ·as_aux_lemma=>
    refine zA2 ho rfl (fun K hK=>?_);unfold lb5A;go_simp;exact hK _ _ ⟨_,_,_,_,_,_,_,rfl,cy F0 rfl,cy F1 rfl,cy F2 rfl,cyu F3 rfl rfl,cyu F4 rfl rfl,cyu F5 rfl rfl,fun _=>rfl,cy F7 rfl,cy N3 rfl,cy N7 rfl,hx⟩
  ·as_aux_lemma=>
    have l6:=he ⟨6,.data⟩ (by simp) rfl;have l5:=he ⟨5,.data⟩ (by simp) rfl;have e:=F6 l6;subst e;obtain⟨x,m', x0,x4,hS⟩:=F5 l5 (getD_both hl);obtain⟨y1,y2,e1,_,_⟩:=hS.ob.shape;rw[List.length_append,List.length_singleton]at e1;subst e1;obtain⟨⟨k0,k1,k2⟩,m0,m1,m2⟩:=hS.box.bx.three;refine zA2 ho rfl (fun K hK=>?_);unfold lb5A;go_simp;exact hK _ _ ⟨_,_,_,_,_,_,_,rfl,cy F0 rfl,cy F1 rfl,cy F2 rfl,fun hj hu=>absurd l5 (by rw[sgx (by decide)]at hu;rw[hu];simp),fun hj hu=>absurd l5 (by rw[sgx (by decide)]at hu;rw[hu];simp),fun _ hu=>absurd hu (by rw[sgix hl];simp),cy F6 rfl,fun _=>⟨x,m', x0,x4,hS.put1 _⟩,fun hj=>absurd (hcl 5 _ rfl l5 ⟨3,.chain⟩ (by simp) rfl) (by rw[sgx (by decide)]at hj;rw[hj];simp),fun hj=>absurd hj (by rw[sgix hl];simp),trivial⟩
 ·intro listed a w' hI hd;obtain⟨u18,u19,u20,u21,u22,u23,u24,rfl,F0,F1,F2,F3,F4,F5,F6,F7,N3,N7,hx⟩:=hI;obtain⟨x,m', x0,x4,hS'⟩:=F7 (hd 7 (by show 7<8;omega));exact hK _ _ _ _ _ _ _ w' ⟨x,m', _,x0,x4,hS'⟩
end Go.Proofs.YtgkdoehkmbhfiaaGreat
namespace Go.Proofs.YtgkdoehkmbhfiaaGreat
open Go.RowKit
attribute [local go_sem ↓] Go.wp_at_zero Go.wp_at_succ
def lb17A (i1 i2 i3 i4 i6 i7 i9 i10 i11 i12 i13 i14 i15 i16 i17 i18 i19 i20 i21 i22 i23 i24 i25 i26 i27 i28 i29 i30 i31 i32 i33 i34 i35 i36 i37 i38 i39 i40 i41 i42 i43 i44 i45 i46 i47 i48 i49 i50 i51 i52 i53 i54 i55 i56 i57 i58 i59 i60 i61 i62 i63 i64 i75:Value) (g:Nat) (r:Nat) (vb:Nat) (vo:Nat) (n:Nat) (vc:Nat) (u65 u66 u67 u68 u69 u70 u71 u72 u73 u74:Value):Act:={ tmps:=#[.pointer (some ⟨r,0,none⟩),i1,i2,i3,i4,.pointer (some ⟨g,0,none⟩),i6,i7,.slice (some ⟨vb,vo,none⟩) n vc,i9,i10,i11,i12,i13,i14,i15,i16,i17,i18,i19,i20,i21,i22,i23,i24,i25,i26,i27,i28,i29,i30,i31,i32,i33,i34,i35,i36,i37,i38,i39,i40,i41,i42,i43,i44,i45,i46,i47,i48,i49,i50,i51,i52,i53,i54,i55,i56,i57,i58,i59,i60,i61,i62,i63,i64,u65,u66,u67,u68,u69,u70,u71,u72,u73,u74,i75],defers:=[] }
def lb17I (i1 i2 i3 i4 i6 i7 i9 i10 i11 i12 i13 i14 i15 i16 i17 i18 i19 i20 i21 i22 i23 i24 i25 i26 i27 i28 i29 i30 i31 i32 i33 i34 i35 i36 i37 i38 i39 i40 i41 i42 i43 i44 i45 i46 i47 i48 i49 i50 i51 i52 i53 i54 i55 i56 i57 i58 i59 i60 i61 i62 i63 i64 i75:Value) (g:Nat) (r:Nat) (vb:Nat) (vo:Nat) (n:Nat) (vc:Nat) (w0:World) (lo:Nat) (mid:Nat) (B:Nat) (bs:List Nat) (av:Value) (bv:Value) (pv:Value) (us:List Value) (ls:List (List Rq)) (ms:List MR) (lat:List Int) (q:Nat) (mn:Nat) (qs:List Rq) (vs:List (Value×Value)) (wq:World) (listed:Array Bool) (a:Act) (w':World):Prop :=
 ∃ u65 u66 u67 u68 u69 u70 u71 u72 u73 u74 : Value, a = lb17A i1 i2 i3 i4 i6 i7 i9 i10 i11 i12 i13 i14 i15 i16 i17 i18 i19 i20 i21 i22 i23 i24 i25 i26 i27 i28 i29 i30 i31 i32 i33 i34 i35 i36 i37 i38 i39 i40 i41 i42 i43 i44 i45 i46 i47 i48 i49 i50 i51 i52 i53 i54 i55 i56 i57 i58 i59 i60 i61 i62 i63 i64 i75 g r vb vo n vc u65 u66 u67 u68 u69 u70 u71 u72 u73 u74 ∧
   (listed.getD 0 false=true→u65=.pointer (some ⟨g,2,none⟩)) ∧
   (listed.getD 1 false=true→u66=pv) ∧
   (listed.getD 2 false=true→u67=.slice (some ⟨vb,vo,none⟩) n vc) ∧
   (listed.getD 3 false=true→u68=.slice (some ⟨vb,vo,none⟩) n vc) ∧
   (listed.getD 4 false=true→u69=.int .i64 (n:Nat)) ∧
   (listed.getD 5 false=true→u70=.int .i64 (mn:Nat)) ∧
   (listed.getD 6 false=true→u71=.slice (some ⟨vb,vo,none⟩) mn vc) ∧
   (listed.getD 7 false=true→listed.getD 8 false=false→∃g2,u72=.slice (some ⟨g2,0,none⟩) 1 1∧w'.cell? ⟨g2,0,none⟩=some (.slice (some ⟨vb,vo,none⟩) mn vc)) ∧
   (listed.getD 8 false=true→listed.getD 10 false=false→LbS w0 lo mid g r B bs av bv bv pv u73 (us++[.slice (some ⟨vb,vo,none⟩) mn vc]) (ls++[qs.take mn]) ms lat q w') ∧
   (listed.getD 9 false=true→u74=.pointer (some ⟨g,2,none⟩)) ∧
   (listed.getD 10 false=true→LbS w0 lo mid g r B bs av bv bv u73 u73 (us++[.slice (some ⟨vb,vo,none⟩) mn vc]) (ls++[qs.take mn]) ms lat q w') ∧
   (listed.getD 8 false=false→(LbS w0 lo mid g r B bs av bv bv pv pv us ls ms lat q w' ∧ RdO w' mid (.slice (some ⟨vb,vo,none⟩) n vc) qs vs)) ∧
   (listed.getD 10 false=false→BoxB w' g av bv pv) ∧
   True
noncomputable def lb17Code:Code:=(Tryz.f43.body.bind (zH0 17)).getD .skip
def LcP (w0:World) (lo mid g r B:Nat) (bs:List Nat) (av bv:Value) (us:List Value) (ls:List (List Rq)) (ms:List MR) (lat:List Int) (q:Nat) (v:Value) (x:List Rq) (w':World):Prop:=∃u:Value,LbS w0 lo mid g r B bs av bv bv u u (us++[v]) (ls++[x]) ms lat q w'
set_option maxRecDepth 100000 in
theorem lb17_region (i1 i2 i3 i4 i6 i7 i9 i10 i11 i12 i13 i14 i15 i16 i17 i18 i19 i20 i21 i22 i23 i24 i25 i26 i27 i28 i29 i30 i31 i32 i33 i34 i35 i36 i37 i38 i39 i40 i41 i42 i43 i44 i45 i46 i47 i48 i49 i50 i51 i52 i53 i54 i55 i56 i57 i58 i59 i60 i61 i62 i63 i64 i75 j65 j66 j67 j68 j69 j70 j71 j72 j73 j74 : Value) (g : Nat) (r : Nat) (vb : Nat) (vo : Nat) (n : Nat) (vc : Nat) (w0 : World) (lo : Nat) (mid : Nat) (B : Nat) (bs : List Nat) (av : Value) (bv : Value) (pv : Value) (us : List Value) (ls : List (List Rq)) (ms : List MR) (lat : List Int) (q : Nat) (mn : Nat) (qs : List Rq) (vs : List (Value × Value)) (wq : World)
  (hS:LbS w0 lo mid g r B bs av bv bv pv pv us ls ms lat q wq) (hR:RdO wq mid (.slice (some ⟨vb,vo,none⟩) n vc) qs vs) (hmi:(if(12:Int)<(n:Int) then(12:Int) else(n:Int))=(mn:Int)) (hmc:mn≤vc) (hmq:mn≤qs.length) (hap:∀i,i<ls.length→Apart (us.getD i vnil) (.slice (some ⟨vb,vo,none⟩) mn vc)) (hll:ls.length≤100)
  {Q:Exit→Act→World→Prop}
  (hK:∀(u65 u66 u67 u68 u69 u70 u71 u72 u73 u74:Value) w', LcP w0 lo mid g r B bs av bv us ls ms lat q (.slice (some ⟨vb,vo,none⟩) mn vc) (qs.take mn) w' → Q .normal (lb17A i1 i2 i3 i4 i6 i7 i9 i10 i11 i12 i13 i14 i15 i16 i17 i18 i19 i20 i21 i22 i23 i24 i25 i26 i27 i28 i29 i30 i31 i32 i33 i34 i35 i36 i37 i38 i39 i40 i41 i42 i43 i44 i45 i46 i47 i48 i49 i50 i51 i52 i53 i54 i55 i56 i57 i58 i59 i60 i61 i62 i63 i64 i75 g r vb vo n vc u65 u66 u67 u68 u69 u70 u71 u72 u73 u74) w'):lb17Code.wp Tryz.prog Q (lb17A i1 i2 i3 i4 i6 i7 i9 i10 i11 i12 i13 i14 i15 i16 i17 i18 i19 i20 i21 i22 i23 i24 i25 i26 i27 i28 i29 i30 i31 i32 i33 i34 i35 i36 i37 i38 i39 i40 i41 i42 i43 i44 i45 i46 i47 i48 i49 i50 i51 i52 i53 i54 i55 i56 i57 i58 i59 i60 i61 i62 i63 i64 i75 g r vb vo n vc j65 j66 j67 j68 j69 j70 j71 j72 j73 j74) wq:=by
 conv=>arg 2;whnf
 refine zE7 (lb17I i1 i2 i3 i4 i6 i7 i9 i10 i11 i12 i13 i14 i15 i16 i17 i18 i19 i20 i21 i22 i23 i24 i25 i26 i27 i28 i29 i30 i31 i32 i33 i34 i35 i36 i37 i38 i39 i40 i41 i42 i43 i44 i45 i46 i47 i48 i49 i50 i51 i52 i53 i54 i55 i56 i57 i58 i59 i60 i61 i62 i63 i64 i75 g r vb vo n vc w0 lo mid B bs av bv pv us ls ms lat q mn qs vs wq) (by kernel_rfl) (by kernel_rfl) ?_ ?_ ?_
 ·exact⟨_,_,_,_,_,_,_,_,_,_,rfl,nf,nf,nf,nf,nf,nf,nf,(fun h _=>absurd h (by rw[getD_replicate_false];simp)),(fun h _=>absurd h (by rw[getD_replicate_false];simp)),nf,nf,(fun _=>⟨hS.touch (Touch.refl _ _).drewd hS.rd.drewd,hR.kept fun _ _ _=>rfl⟩),(fun _=>hS.box),trivial⟩
 ·intro listed a w' i o hI hsz ho hl he hcl;obtain⟨u65,u66,u67,u68,u69,u70,u71,u72,u73,u74,rfl,F0,F1,F2,F3,F4,F5,F6,F7,F8,F9,F10,N8,N10,hx⟩:=hI;have hi:i<11:=(Array.getElem?_eq_some_iff.1 ho).1;have e:i=0∨i=1∨i=2∨i=3∨i=4∨i=5∨i=6∨i=7∨i=8∨i=9∨i=10:=by omega
  clear hi;rcases e with rfl|rfl|rfl|rfl|rfl|rfl|rfl|rfl|rfl|rfl|rfl
  all_goals (have ho2:=ho;obtain rfl:=Option.some.inj ho2.symm;clear ho2)
  ·as_aux_lemma=>
    refine zA2 ho rfl (fun K hK=>?_);unfold lb17A;go_simp;refine hK _ _ ⟨_,_,_,_,_,_,_,_,_,_,rfl,?_,?_,?_,?_,?_,?_,?_,?_,?_,?_,?_,cy N8 rfl,cy N10 rfl,hx⟩ <;> first|exact cy ‹_› rfl|exact fun _=>rfl|exact cyu ‹_› rfl rfl
  ·as_aux_lemma=>
    have l0:=he ⟨0,.data⟩ (by simp) rfl;have e:=F0 l0;subst e;obtain⟨⟨c0,c1,c2⟩,_⟩:=(N10 (Bool.eq_false_iff.2 fun hk=>absurd (hcl 10 _ rfl hk ⟨1,.phase⟩ (by simp) rfl) (by rw[getD_both hl];simp))).bx.three;refine zA2 ho rfl (fun K hK=>?_);unfold lb17A;go_simp;refine hK _ _ ⟨_,_,_,_,_,_,_,_,_,_,rfl,?_,?_,?_,?_,?_,?_,?_,?_,?_,?_,?_,cy N8 rfl,cy N10 rfl,hx⟩ <;> first|exact cy ‹_› rfl|exact fun _=>rfl|exact cyu ‹_› rfl rfl
  ·as_aux_lemma=>
    refine zA2 ho rfl (fun K hK=>?_);unfold lb17A;go_simp;refine hK _ _ ⟨_,_,_,_,_,_,_,_,_,_,rfl,?_,?_,?_,?_,?_,?_,?_,?_,?_,?_,?_,cy N8 rfl,cy N10 rfl,hx⟩ <;> first|exact cy ‹_› rfl|exact fun _=>rfl|exact cyu ‹_› rfl rfl
  ·as_aux_lemma=>
    refine zA2 ho rfl (fun K hK=>?_);unfold lb17A;go_simp;refine hK _ _ ⟨_,_,_,_,_,_,_,_,_,_,rfl,?_,?_,?_,?_,?_,?_,?_,?_,?_,?_,?_,cy N8 rfl,cy N10 rfl,hx⟩ <;> first|exact cy ‹_› rfl|exact fun _=>rfl|exact cyu ‹_› rfl rfl
  ·as_aux_lemma=>
    have l3:=he ⟨3,.data⟩ (by simp) rfl;have e:=F3 l3;subst e;refine zA2 ho rfl (fun K hK=>?_);unfold lb17A;go_simp;refine hK _ _ ⟨_,_,_,_,_,_,_,_,_,_,rfl,?_,?_,?_,?_,?_,?_,?_,?_,?_,?_,?_,cy N8 rfl,cy N10 rfl,hx⟩ <;> first|exact cy ‹_› rfl|exact fun _=>rfl|exact cyu ‹_› rfl rfl
  ·as_aux_lemma=>
    have l4:=he ⟨4,.data⟩ (by simp) rfl;have e:=F4 l4;subst e;refine zA2 ho rfl (fun K hK=>?_);unfold lb17A;go_simp;refine hK _ _ ⟨_,_,_,_,_,_,_,_,_,_,rfl,?_,?_,?_,?_,?_,fun _=>by first|rfl|rw[hmi],?_,?_,?_,?_,?_,cy N8 rfl,cy N10 rfl,hx⟩ <;> first|exact cy ‹_› rfl|exact fun _=>rfl|exact cyu ‹_› rfl rfl
  ·as_aux_lemma=>
    have l2:=he ⟨2,.data⟩ (by simp) rfl;have l5:=he ⟨5,.data⟩ (by simp) rfl;have e:=F2 l2;subst e;have e:=F5 l5;subst e;have h1:mn≤vc:=hmc;refine zA2 ho rfl (fun K hK=>?_);unfold lb17A;go_simp;refine hK _ _ ⟨_,_,_,_,_,_,_,_,_,_,rfl,?_,?_,?_,?_,?_,?_,?_,?_,?_,?_,?_,cy N8 rfl,cy N10 rfl,hx⟩ <;> first|exact cy ‹_› rfl|exact fun _=>rfl|exact cyu ‹_› rfl rfl
  ·as_aux_lemma=>
    have l6:=he ⟨6,.data⟩ (by simp) rfl;have e:=F6 l6;subst e;refine zA2 ho rfl (fun K hK=>?_);unfold lb17A;have hb1:Below w'.heap.size w' (w'.alloc (.cells #[.slice (some ⟨vb,vo,none⟩) mn vc] 53)):=(Below.refl _ _).alloc (Nat.le_refl _) _;go_simp;refine hK _ _ ⟨_,_,_,_,_,_,_,_,_,_,rfl,?_,?_,?_,?_,?_,?_,?_,fun _ _=>⟨_,rfl,by rw[World.cell?_alloc_at _ _ _ _ rfl];rfl⟩,fun hj hu=>absurd (hcl 8 _ rfl (by rwa [sgx (by decide)]at hj) ⟨7,.data⟩ (by simp) rfl) (by rw[getD_both hl];simp),?_,fun hj=>absurd (hcl 10 _ rfl (by rwa [sgx (by decide)]at hj) ⟨7,.phase⟩ (by simp) rfl) (by rw[getD_both hl];simp),fun hj=>⟨(cy N8 rfl hj).1.below hb1,(cy N8 rfl hj).2.below hb1⟩,fun hj=>(cy N10 rfl hj).below hb1 (cy N10 rfl hj).lt,trivial⟩ <;> first|exact cy ‹_› rfl|exact fun _=>rfl
  ·as_aux_lemma=>
    have l1:=he ⟨1,.data⟩ (by simp) rfl;have l7:=he ⟨7,.data⟩ (by simp) rfl;have e:=F1 l1;subst e;obtain⟨g2,e2,hc⟩:=F7 l7 (getD_both hl);subst e2;obtain⟨hS', hR⟩:=N8 (getD_both hl);refine zA2 ho rfl (fun K hK=>?_);unfold lb17A;refine wp_pushG elem_PP row1 zG7 (.slice (some ⟨vb,vo,none⟩) mn vc) (one1 _ _ _) w' _ _ rfl lo _ us rfl hS'.op g2 1 rfl (news1 hc) (by have:=hS'.len;omega) (by have:=hS'.len;omega) (by have:=hS'.lg;have:=hS'.box.lt;omega) ?_;intro v' w'' o1 hk hz hb;refine hK _ _ ⟨_,_,_,_,_,_,_,_,_,_,rfl,?_,?_,?_,?_,?_,?_,?_,fun _ hu=>absurd hu (by rw[sgix hl];simp),fun _ _=>hS'.list hR hmq hap o1 hk hb,?_,fun hj=>absurd (hcl 10 _ rfl (by rwa [sgx (by decide)]at hj) ⟨8,.data⟩ (by simp) rfl) (by rw[getD_both hl];simp),fun hj=>absurd hj (by rw[sgix hl];simp),fun hj=>(cy N10 rfl hj).keep (hk g (cy N10 rfl hj).lt (hS'.op.notB hS'.box (by decide))),trivial⟩ <;> first|exact cy ‹_› rfl|exact fun _=>rfl
  ·as_aux_lemma=>
    refine zA2 ho rfl (fun K hK=>?_);unfold lb17A;go_simp;refine hK _ _ ⟨_,_,_,_,_,_,_,_,_,_,rfl,?_,?_,?_,?_,?_,?_,?_,?_,?_,?_,?_,cy N8 rfl,cy N10 rfl,hx⟩ <;> first|exact cy ‹_› rfl|exact fun _=>rfl|exact cyu ‹_› rfl rfl
  ·as_aux_lemma=>
    have l9:=he ⟨9,.data⟩ (by simp) rfl;have l8:=he ⟨8,.data⟩ (by simp) rfl;have e:=F9 l9;subst e;have hS':=F8 l8 (getD_both hl);obtain⟨y1,y2,e1,_,_⟩:=hS'.op.shape;rw[List.length_append,List.length_singleton]at e1;subst e1;obtain⟨⟨k0,k1,k2⟩,m0,m1,m2⟩:=hS'.box.bx.three;refine zA2 ho rfl (fun K hK=>?_);unfold lb17A;go_simp;refine hK _ _ ⟨_,_,_,_,_,_,_,_,_,_,rfl,?_,?_,?_,?_,?_,?_,?_,fun hj hu=>absurd l8 (by rw[sgx (by decide)]at hu;rw[hu];simp),fun _ hu=>absurd hu (by rw[sgix hl];simp),?_,fun _=>hS'.put2 _,fun hj=>absurd l8 (by rw[sgx (by decide)]at hj;rw[hj];simp),fun hj=>absurd hj (by rw[sgix hl];simp),trivial⟩ <;> first|exact cy ‹_› rfl|exact fun _=>rfl
 ·intro listed a w' hI hd;obtain⟨u65,u66,u67,u68,u69,u70,u71,u72,u73,u74,rfl,F0,F1,F2,F3,F4,F5,F6,F7,F8,F9,F10,N8,N10,hx⟩:=hI;have h:=F10 (hd 10 (by show 10<11;omega));exact hK _ _ _ _ _ _ _ _ _ _ w' ⟨_,h⟩
end Go.Proofs.YtgkdoehkmbhfiaaGreat
