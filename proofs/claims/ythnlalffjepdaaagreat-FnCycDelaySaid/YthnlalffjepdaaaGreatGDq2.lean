/- Draws: what is asked: the end of l20Req (printed by wip/gen_req2.py). -/
import Derived.Test.YthnlalffjepdaaaGreatGDq0
set_option linter.unusedVariables false
set_option linter.unusedSimpArgs false
namespace Go.Proofs.YthnlalffjepdaaaGreat
open Go.RowKit
attribute [local go_sem ↓] Go.wp_at_zero Go.wp_at_succ
def headReg : Code → Option Nat
 | .region id _ _=>some id
 | .seq a _=>headReg a
 |_=>none
def tailFrom (n : Nat) : Code → Option Code
 | .seq a b => if headReg a = some n then some (.seq a b) else match tailFrom n a with
  |some c=>some c
  |none=>tailFrom n b
 | .loop c=>tailFrom n c
 | .block _ c=>tailFrom n c
 | .scope c=>tailFrom n c
 | .cond _ a b => match tailFrom n a with
  |some c=>some c
  |none=>tailFrom n b
 |_=>none
noncomputable def reqTail:Code:=(Tryz.f104.body.bind (tailFrom 13)).getD .skip
set_option maxRecDepth 20000 in
def reqZ (r:Nat) (n:Int) (s g:Nat) (u6 u7 u8 u9 u10 u11 u12 u13 u14 u15 u16 u17 u18 u19 u20 u21 u22 u23 u24 u25 u26 u27 u28 u29 u30 u31 u32 u33 u34 u35 u36 u37 u38 u39 u40 u41 u42 u43 u44 u45 u46 u47 u48 u49 u50 u51 u52 u53 u54 u55 u56 u57 u58 u59 u60 u61 u62 u63 u64 u65 u66 u67 u68 u69 u70 u71 u72 u73 u74 u75 u76 u77 u78 u79 u80 u81 u82 u83 u84 u85 u86 u87 u88 u89 u90 u91 u92 u93 u94 u95 u96 u97 u98 u99 u100 u101 u102 u103 u104 u105 u106 u107 u108 u109 u110 u111 u112 u113 u114 u115 u116 u117 u118 u119 u120 u121 u122 u123 u124 u125 u126 u127 u128 u129 u130 u131 u132 u133 u134 u135 u136 u137 u138 u139 u140 u141 u142 u143 u144 u145 u146 u147 u148 u149 u150 u151 u152:Value):Act:={ tmps:=#[.pointer (some ⟨r,0,none⟩),.int .i64 n,undef,undef,.pointer (some ⟨s,0,none⟩),.pointer (some ⟨g,0,none⟩),u6,u7,u8,u9,u10,u11,u12,u13,u14,u15,u16,u17,u18,u19,u20,u21,u22,u23,u24,u25,u26,u27,u28,u29,u30,u31,u32,u33,u34,u35,u36,u37,u38,u39,u40,u41,u42,u43,u44,u45,u46,u47,u48,u49,u50,u51,u52,u53,u54,u55,u56,u57,u58,u59,u60,u61,u62,u63,u64,u65,u66,u67,u68,u69,u70,u71,u72,u73,u74,u75,u76,u77,u78,u79,u80,u81,u82,u83,u84,u85,u86,u87,u88,u89,u90,u91,u92,u93,u94,u95,u96,u97,u98,u99,u100,u101,u102,u103,u104,u105,u106,u107,u108,u109,u110,u111,u112,u113,u114,u115,u116,u117,u118,u119,u120,u121,u122,u123,u124,u125,u126,u127,u128,u129,u130,u131,u132,u133,u134,u135,u136,u137,u138,u139,u140,u141,u142,u143,u144,u145,u146,u147,u148,u149,u150,u151,u152],defers:=[] }
set_option maxRecDepth 100000 in
set_option maxHeartbeats 16000000 in
theorem req_tail (r B : Nat) (bs : List Nat) (p : Nat) (n : Int) (w : World) (hp : p ≤ 700000000) (h1n : 1 ≤ n) (hn : n ≤ 1099511627776) (hrw : r < w.heap.size) (w0 : World) (s : Nat) (HS0 : Hid (qz w0 s)) (HT0 : Hid (Touch r w w0)) (hz0 : w0.heap.size = s + 1) (hrs : r < s) (HSW : Hid (w.heap.size = s))
  (g:Nat) (id kind addr many:Int) (wp:Bool) (hg:w0.heap.size≤g) (a0:0≤id) (a1:id<2) (b0:1≤kind) (b1:kind≤4) (hgr:g≠r) (hrg:r<g) (hsg:s<g) (hrw':r<w0.heap.size) (d1:many=1∨many=2∨many=4) (c0:0≤addr) (c1:addr≤63)
  (dv lv:Value) (ds ls:List Int) (q:Nat) (wc:World) (hok:reqOk ⟨id,kind,addr,many,wp,ds,ls⟩=true) (hdl:ds.length≤4) (hll:ls.length≤4) (hod:Owns wc (g+1) 3 1 rowI dv ds) (hol:Owns wc (g+1) 3 1 rowI lv ls) (hap:Apart dv lv) (hq:q≤p+60) (hQ:RQ r B bs w0 g id kind addr many wp dv lv q wc)
  (u6 u7 u8 u9 u10 u11 u12 u13 u14 u15 u16 u17 u18 u19 u20 u21 u22 u23 u24 u25 u26 u27 u28 u29 u30 u31 u32 u33 u34 u35 u36 u37 u38 u39 u40 u41 u42 u43 u44 u45 u46 u47 u48 u49 u50 u51 u52 u53 u54 u55 u56 u57 u58 u59 u60 u61 u62 u63 u64 u65 u66 u67 u68 u69 u70 u71 u72 u73 u74 u75 u76 u77 u78 u79 u80 u81 u82 u83 u84 u85 u86 u87 u88 u89 u90 u91 u92 u93 u94 u95 u96 u97 u98 u99 u100 u101 u102 u103 u104 u105 u106 u107 u108 u109 u110 u111 u112 u113 u114 u115 u116 u117 u118 u119 u120 u121 u122 u123 u124 u125 u126 u127 u128 u129 u130 u131 u132 u133 u134 u135 u136 u137 u138 u139 u140 u141 u142 u143 u144 u145 u146 u147 u148 u149 u150 u151 u152:Value):reqTail.wp Tryz.prog (bodyPost Tryz.prog Tryz.f104 (ReqP r B bs p n w)) (reqZ r n s g u6 u7 u8 u9 u10 u11 u12 u13 u14 u15 u16 u17 u18 u19 u20 u21 u22 u23 u24 u25 u26 u27 u28 u29 u30 u31 u32 u33 u34 u35 u36 u37 u38 u39 u40 u41 u42 u43 u44 u45 u46 u47 u48 u49 u50 u51 u52 u53 u54 u55 u56 u57 u58 u59 u60 u61 u62 u63 u64 u65 u66 u67 u68 u69 u70 u71 u72 u73 u74 u75 u76 u77 u78 u79 u80 u81 u82 u83 u84 u85 u86 u87 u88 u89 u90 u91 u92 u93 u94 u95 u96 u97 u98 u99 u100 u101 u102 u103 u104 u105 u106 u107 u108 u109 u110 u111 u112 u113 u114 u115 u116 u117 u118 u119 u120 u121 u122 u123 u124 u125 u126 u127 u128 u129 u130 u131 u132 u133 u134 u135 u136 u137 u138 u139 u140 u141 u142 u143 u144 u145 u146 u147 u148 u149 u150 u151 u152) wc:=by
 conv=>arg 2;whnf
 unfold reqZ;have hdc:=hod.shape;obtain⟨da,dc,rfl,_,_⟩:=hdc;have hlc:=hol.shape;obtain⟨la,lc,rfl,_,_⟩:=hlc;have HRO:=hid hok;have HOD:=hid hod;have HOL:=hid hol;have HAP:=hid hap;have I64D:=hid (req64 hok).1;have I64L:=hid (req64 hok).2;clear hok hod hol hap;have hsg':g≠s:=by omega
 have hsg2:s≠g:=by omega
 have hgs:w.heap.size≤g:=by have:=HSW.out;omega
 have hss:w.heap.size≤s:=by have:=HSW.out;omega
 have hm4:many≤4:=by omega
 have hm1:1≤many:=by omega
 have hR:=hQ.2.1;have hgl:=hQ.1.lt;obtain⟨k0,k1,k2,k3,k4,k5,k6⟩:=hQ.1.cells;obtain⟨m0,m1,m2,m3,m4,m5,m6⟩:=hQ.1.unfrozen;have HQ:=hid hQ;clear hQ
 go_wp2_with (first
  |(go_at_call 140;(with_reducible refine(odd_any r B bs q n wc hR (by omega) h1n hn).mono ?_);rintro e w1 ⟨b,q1,rfl,hb9,hq1,h1,ht1⟩;have HQ1:=hid (HQ.out.touch hgr h1 ht1);have HOD1:=hid (HOD.out.touch ht1 (by omega));have HOL1:=hid (HOL.out.touch ht1 (by omega));obtain⟨k0,k1,k2,k3,k4,k5,k6⟩:=HQ1.out.1.cells;obtain⟨m0,m1,m2,m3,m4,m5,m6⟩:=HQ1.out.1.unfrozen;have gl1:=HQ1.out.1.lt;have hz1:=HS0.out.touch HQ1.out.2.2 (show s≠r by omega);obtain⟨n0,n1,n2,n3,n4,n5,n6⟩:=hz1.cells;obtain⟨o0,o1,o2,o3,o4,o5,o6⟩:=hz1.unfrozen;have hzl1:=hz1.lt;clear hz1;have HB9:=hid hb9;clear hb9 ht1;cases b)
  |(go_at_call 103;(with_reducible refine(pick_p r B bs q1 7 w1 h1 (by omega) (by omega) (by omega)).mono ?_);rintro e w2 ⟨yy,rfl,y0,y1,h2,ht2⟩;have HQ2:=hid (HQ1.out.touch hgr h2 ht2);have HOD2:=hid (HOD1.out.touch ht2 (by omega));have HOL2:=hid (HOL1.out.touch ht2 (by omega));obtain⟨k0,k1,k2,k3,k4,k5,k6⟩:=HQ2.out.1.cells;obtain⟨m0,m1,m2,m3,m4,m5,m6⟩:=HQ2.out.1.unfrozen;have gl2:=HQ2.out.1.lt;have hz2:=HS0.out.touch HQ2.out.2.2 (show s≠r by omega);obtain⟨n0,n1,n2,n3,n4,n5,n6⟩:=hz2.cells;obtain⟨o0,o1,o2,o3,o4,o5,o6⟩:=hz2.unfrozen;have hzl2:=hz2.lt;clear hz2;clear ht2;rcases(show yy=0∨yy=1∨yy=2∨yy=3∨yy=4∨yy=5∨yy=6 by omega)with rfl|rfl|rfl|rfl|rfl|rfl|rfl)
  |(go_at_call 103;(with_reducible refine(pick_p r B bs (q1+1) 2 (w2.alloc _) (h2.alloc _) (by omega) (by omega) (by omega)).mono ?_);rintro e w3 ⟨z,rfl,z0,z1,h3,ht3⟩;have tw:=TW.ofNew ht3 h2.lt;have u0:=tw.at_ 0 _ rfl;have u1:=tw.at_ 1 _ rfl;clear tw;have HQ3:=hid ((HQ2.out.alloc _).touch hgr h3 ht3);have HOD3:=hid ((HOD2.out.allocd _).touch ht3 (by omega));have HOL3:=hid ((HOL2.out.allocd _).touch ht3 (by omega));obtain⟨k0,k1,k2,k3,k4,k5,k6⟩:=HQ3.out.1.cells;obtain⟨m0,m1,m2,m3,m4,m5,m6⟩:=HQ3.out.1.unfrozen;have gl3:=HQ3.out.1.lt;have hz3:=HS0.out.touch HQ3.out.2.2 (show s≠r by omega);obtain⟨n0,n1,n2,n3,n4,n5,n6⟩:=hz3.cells;obtain⟨o0,o1,o2,o3,o4,o5,o6⟩:=hz3.unfrozen;have hzl3:=hz3.lt;clear hz3;clear ht3;rcases(show z=0∨z=1 by omega)with rfl|rfl)
  |(go_at_call 103;(with_reducible refine(pick_p r B bs (q1+1) 3 (w2.alloc _) (h2.alloc _) (by omega) (by omega) (by omega)).mono ?_);rintro e w3 ⟨z,rfl,z0,z1,h3,ht3⟩;have tw:=TW.ofNew ht3 h2.lt;have u0:=tw.at_ 0 _ rfl;have u1:=tw.at_ 1 _ rfl;have u2:=tw.at_ 2 _ rfl;clear tw;have HQ3:=hid ((HQ2.out.alloc _).touch hgr h3 ht3);have HOD3:=hid ((HOD2.out.allocd _).touch ht3 (by omega));have HOL3:=hid ((HOL2.out.allocd _).touch ht3 (by omega));obtain⟨k0,k1,k2,k3,k4,k5,k6⟩:=HQ3.out.1.cells;obtain⟨m0,m1,m2,m3,m4,m5,m6⟩:=HQ3.out.1.unfrozen;have gl3:=HQ3.out.1.lt;have hz3:=HS0.out.touch HQ3.out.2.2 (show s≠r by omega);obtain⟨n0,n1,n2,n3,n4,n5,n6⟩:=hz3.cells;obtain⟨o0,o1,o2,o3,o4,o5,o6⟩:=hz3.unfrozen;have hzl3:=hz3.lt;clear hz3;clear ht3;rcases(show z=0∨z=1∨z=2 by omega)with rfl|rfl|rfl)
  |(go_at_call 103;(with_reducible refine(pick_p r B bs (q1+1) 4 (w2.alloc _) (h2.alloc _) (by omega) (by omega) (by omega)).mono ?_);rintro e w3 ⟨z,rfl,z0,z1,h3,ht3⟩;have tw:=TW.ofNew ht3 h2.lt;have u0:=tw.at_ 0 _ rfl;have u1:=tw.at_ 1 _ rfl;have u2:=tw.at_ 2 _ rfl;have u3:=tw.at_ 3 _ rfl;clear tw;have HQ3:=hid ((HQ2.out.alloc _).touch hgr h3 ht3);have HOD3:=hid ((HOD2.out.allocd _).touch ht3 (by omega));have HOL3:=hid ((HOL2.out.allocd _).touch ht3 (by omega));obtain⟨k0,k1,k2,k3,k4,k5,k6⟩:=HQ3.out.1.cells;obtain⟨m0,m1,m2,m3,m4,m5,m6⟩:=HQ3.out.1.unfrozen;have gl3:=HQ3.out.1.lt;have hz3:=HS0.out.touch HQ3.out.2.2 (show s≠r by omega);obtain⟨n0,n1,n2,n3,n4,n5,n6⟩:=hz3.cells;obtain⟨o0,o1,o2,o3,o4,o5,o6⟩:=hz3.unfrozen;have hzl3:=hz3.lt;clear hz3;clear ht3;rcases(show z=0∨z=1∨z=2∨z=3 by omega)with rfl|rfl|rfl|rfl)
  |(at_builtin;refine wpList_pushN elem_int rowI rowI_len rowI_one w2 rfl (.tmp 141) (.tmp 142) rfl (g+1) _ ds 5 (by rfl) HOD2.out _ (by rfl) (by rfl) (by omega) (by omega) (by omega) ?_;intro v' w3 ho5 hb5 hg5;obtain⟨va,vc,hv', _,_⟩:=ho5.shape;rw[List.length_append]at hv';simp only[List.length_cons,List.length_nil,Nat.zero_add]at hv';subst hv';have HOD3:=hid ho5;have HOL3:=hid (show Owns w3 (g+1) 3 1 rowI (.slice la ls.length lc) ls from OwnR.kept HOL2.out (fun j hj=>hg5 j (OwnR.lt HOL2.out j hj).2 (fun e=>HAP.out j e.symm hj)));have HQ3:=hid (HQ2.out.below hb5 hrg hg);obtain⟨k0,k1,k2,k3,k4,k5,k6⟩:=HQ3.out.1.cells;obtain⟨m0,m1,m2,m3,m4,m5,m6⟩:=HQ3.out.1.unfrozen;have gl3:=HQ3.out.1.lt;have hz3:=HS0.out.touch HQ3.out.2.2 (show s≠r by omega);obtain⟨n0,n1,n2,n3,n4,n5,n6⟩:=hz3.cells;obtain⟨o0,o1,o2,o3,o4,o5,o6⟩:=hz3.unfrozen;have hzl3:=hz3.lt;clear hz3;clear ho5 hb5 hg5)
  |(at_builtin;refine wpList_pushN elem_int rowI rowI_len rowI_one w2 rfl (.tmp 148) (.tmp 149) rfl (g+1) _ ls 1 (by rfl) HOL2.out _ (by rfl) (by rfl) (by omega) (by omega) (by omega) ?_;intro v' w3 ho5 hb5 hg5;obtain⟨va,vc,hv', _,_⟩:=ho5.shape;rw[List.length_append]at hv';simp only[List.length_cons,List.length_nil,Nat.zero_add]at hv';subst hv';have HOL3:=hid ho5;have HOD3:=hid (show Owns w3 (g+1) 3 1 rowI (.slice da ds.length dc) ds from OwnR.kept HOD2.out (fun j hj=>hg5 j (OwnR.lt HOD2.out j hj).2 (fun e=>HAP.out j hj e.symm)));have HQ3:=hid (HQ2.out.below hb5 hrg hg);obtain⟨k0,k1,k2,k3,k4,k5,k6⟩:=HQ3.out.1.cells;obtain⟨m0,m1,m2,m3,m4,m5,m6⟩:=HQ3.out.1.unfrozen;have gl3:=HQ3.out.1.lt;have hz3:=HS0.out.touch HQ3.out.2.2 (show s≠r by omega);obtain⟨n0,n1,n2,n3,n4,n5,n6⟩:=hz3.cells;obtain⟨o0,o1,o2,o3,o4,o5,o6⟩:=hz3.unfrozen;have hzl3:=hz3.lt;clear hz3;clear ho5 hb5 hg5)
  |fail)
 ·refine bodyPost_ret (results_c1 Tryz.results104 _ _ ⟨s,0,none⟩ (.agg #[.int .i64 id,.int .i64 kind,.int .i64 addr,.int .i64 many,.bool wp,.slice da ds.length dc,.slice la ls.length lc]) rfl (loadVar_req _ _ _ _ _ _ _ _ _ (by simp[go_sem, *]) (by simp[go_sem, *]) (by simp[go_sem, *]) (by simp[go_sem, *]) (by simp[go_sem, *]) (by simp[go_sem, *]) (by simp[go_sem, *]))) rfl ⟨_,_,⟨id,kind,addr,many,wp,ds,ls⟩,q1,rfl,?od,?ol,?i,?ld,?ll,fun _=>HRO.out,by omega,?r,?t⟩
  case od=>
   have X:=HOD1.out.rebase (show w.heap.size≤g+1 by omega);have L:=(fun j hj=>(OwnR.lt HOD1.out j hj).1:∀j,_→g+1≤j)
   repeat(first|with_reducible exact X|with_reducible refine Owns.drewd ?_|with_reducible refine Owns.allocd ?_ _|with_reducible refine Owns.set' ?_ _ _ _ (fun j hj=>by have:=L j hj;omega))
  case ol=>
   have X:=HOL1.out.rebase (show w.heap.size≤g+1 by omega);have L:=(fun j hj=>(OwnR.lt HOL1.out j hj).1:∀j,_→g+1≤j)
   repeat(first|with_reducible exact X|with_reducible refine Owns.drewd ?_|with_reducible refine Owns.allocd ?_ _|with_reducible refine Owns.set' ?_ _ _ _ (fun j hj=>by have:=L j hj;omega))
  case i=>exact⟨by simp only[I64];omega,by simp only[I64];omega,by simp only[I64];omega,by simp only[I64];omega,I64D.out,I64L.out⟩
  case ld=>simp;omega
  case ll=>simp;omega
  case r=>
   have X:=HQ1.out.2.1
   repeat(first|with_reducible exact X|with_reducible refine RdAt.drewd ?_|with_reducible refine RdAt.alloc ?_ _|with_reducible refine RdAt.setNew ?_ hrs (by omega) _ _)
  case t=>
   have X:=HT0.out.trans HQ1.out.2.2
   repeat(first|with_reducible exact X|with_reducible refine Touch.drewd ?_|with_reducible refine Touch.alloc ?_ _|with_reducible refine Touch.setNew ?_ (by omega) _)
 ·refine bodyPost_ret (results_c1 Tryz.results104 _ _ ⟨s,0,none⟩ (.agg #[.int .i64 (-1),.int .i64 kind,.int .i64 addr,.int .i64 many,.bool wp,.slice da ds.length dc,.slice la ls.length lc]) rfl (loadVar_req _ _ _ _ _ _ _ _ _ (by simp[go_sem, *]) (by simp[go_sem, *]) (by simp[go_sem, *]) (by simp[go_sem, *]) (by simp[go_sem, *]) (by simp[go_sem, *]) (by simp[go_sem, *]))) rfl ⟨_,_,⟨(-1),kind,addr,many,wp,ds,ls⟩,q1+1+1,rfl,?od,?ol,?i,?ld,?ll,fun h9=>absurd (HB9.out h9) (by simp),by omega,?r,?t⟩
  case od=>
   have X:=HOD3.out.rebase (show w.heap.size≤g+1 by omega);have L:=(fun j hj=>(OwnR.lt HOD3.out j hj).1:∀j,_→g+1≤j)
   repeat(first|with_reducible exact X|with_reducible refine Owns.drewd ?_|with_reducible refine Owns.allocd ?_ _|with_reducible refine Owns.set' ?_ _ _ _ (fun j hj=>by have:=L j hj;omega))
  case ol=>
   have X:=HOL3.out.rebase (show w.heap.size≤g+1 by omega);have L:=(fun j hj=>(OwnR.lt HOL3.out j hj).1:∀j,_→g+1≤j)
   repeat(first|with_reducible exact X|with_reducible refine Owns.drewd ?_|with_reducible refine Owns.allocd ?_ _|with_reducible refine Owns.set' ?_ _ _ _ (fun j hj=>by have:=L j hj;omega))
  case i=>exact⟨by simp only[I64];omega,by simp only[I64];omega,by simp only[I64];omega,by simp only[I64];omega,I64D.out,I64L.out⟩
  case ld=>simp;omega
  case ll=>simp;omega
  case r=>
   have X:=HQ3.out.2.1
   repeat(first|with_reducible exact X|with_reducible refine RdAt.drewd ?_|with_reducible refine RdAt.alloc ?_ _|with_reducible refine RdAt.setNew ?_ hrs (by omega) _ _)
  case t=>
   have X:=HT0.out.trans HQ3.out.2.2
   repeat(first|with_reducible exact X|with_reducible refine Touch.drewd ?_|with_reducible refine Touch.alloc ?_ _|with_reducible refine Touch.setNew ?_ (by omega) _)
 ·refine bodyPost_ret (results_c1 Tryz.results104 _ _ ⟨s,0,none⟩ (.agg #[.int .i64 2,.int .i64 kind,.int .i64 addr,.int .i64 many,.bool wp,.slice da ds.length dc,.slice la ls.length lc]) rfl (loadVar_req _ _ _ _ _ _ _ _ _ (by simp[go_sem, *]) (by simp[go_sem, *]) (by simp[go_sem, *]) (by simp[go_sem, *]) (by simp[go_sem, *]) (by simp[go_sem, *]) (by simp[go_sem, *]))) rfl ⟨_,_,⟨2,kind,addr,many,wp,ds,ls⟩,q1+1+1,rfl,?od,?ol,?i,?ld,?ll,fun h9=>absurd (HB9.out h9) (by simp),by omega,?r,?t⟩
  case od=>
   have X:=HOD3.out.rebase (show w.heap.size≤g+1 by omega);have L:=(fun j hj=>(OwnR.lt HOD3.out j hj).1:∀j,_→g+1≤j)
   repeat(first|with_reducible exact X|with_reducible refine Owns.drewd ?_|with_reducible refine Owns.allocd ?_ _|with_reducible refine Owns.set' ?_ _ _ _ (fun j hj=>by have:=L j hj;omega))
  case ol=>
   have X:=HOL3.out.rebase (show w.heap.size≤g+1 by omega);have L:=(fun j hj=>(OwnR.lt HOL3.out j hj).1:∀j,_→g+1≤j)
   repeat(first|with_reducible exact X|with_reducible refine Owns.drewd ?_|with_reducible refine Owns.allocd ?_ _|with_reducible refine Owns.set' ?_ _ _ _ (fun j hj=>by have:=L j hj;omega))
  case i=>exact⟨by simp only[I64];omega,by simp only[I64];omega,by simp only[I64];omega,by simp only[I64];omega,I64D.out,I64L.out⟩
  case ld=>simp;omega
  case ll=>simp;omega
  case r=>
   have X:=HQ3.out.2.1
   repeat(first|with_reducible exact X|with_reducible refine RdAt.drewd ?_|with_reducible refine RdAt.alloc ?_ _|with_reducible refine RdAt.setNew ?_ hrs (by omega) _ _)
  case t=>
   have X:=HT0.out.trans HQ3.out.2.2
   repeat(first|with_reducible exact X|with_reducible refine Touch.drewd ?_|with_reducible refine Touch.alloc ?_ _|with_reducible refine Touch.setNew ?_ (by omega) _)
 ·refine bodyPost_ret (results_c1 Tryz.results104 _ _ ⟨s,0,none⟩ (.agg #[.int .i64 id,.int .i64 0,.int .i64 addr,.int .i64 many,.bool wp,.slice da ds.length dc,.slice la ls.length lc]) rfl (loadVar_req _ _ _ _ _ _ _ _ _ (by simp[go_sem, *]) (by simp[go_sem, *]) (by simp[go_sem, *]) (by simp[go_sem, *]) (by simp[go_sem, *]) (by simp[go_sem, *]) (by simp[go_sem, *]))) rfl ⟨_,_,⟨id,0,addr,many,wp,ds,ls⟩,q1+1+1,rfl,?od,?ol,?i,?ld,?ll,fun h9=>absurd (HB9.out h9) (by simp),by omega,?r,?t⟩
  case od=>
   have X:=HOD3.out.rebase (show w.heap.size≤g+1 by omega);have L:=(fun j hj=>(OwnR.lt HOD3.out j hj).1:∀j,_→g+1≤j)
   repeat(first|with_reducible exact X|with_reducible refine Owns.drewd ?_|with_reducible refine Owns.allocd ?_ _|with_reducible refine Owns.set' ?_ _ _ _ (fun j hj=>by have:=L j hj;omega))
  case ol=>
   have X:=HOL3.out.rebase (show w.heap.size≤g+1 by omega);have L:=(fun j hj=>(OwnR.lt HOL3.out j hj).1:∀j,_→g+1≤j)
   repeat(first|with_reducible exact X|with_reducible refine Owns.drewd ?_|with_reducible refine Owns.allocd ?_ _|with_reducible refine Owns.set' ?_ _ _ _ (fun j hj=>by have:=L j hj;omega))
  case i=>exact⟨by simp only[I64];omega,by simp only[I64];omega,by simp only[I64];omega,by simp only[I64];omega,I64D.out,I64L.out⟩
  case ld=>simp;omega
  case ll=>simp;omega
  case r=>
   have X:=HQ3.out.2.1
   repeat(first|with_reducible exact X|with_reducible refine RdAt.drewd ?_|with_reducible refine RdAt.alloc ?_ _|with_reducible refine RdAt.setNew ?_ hrs (by omega) _ _)
  case t=>
   have X:=HT0.out.trans HQ3.out.2.2
   repeat(first|with_reducible exact X|with_reducible refine Touch.drewd ?_|with_reducible refine Touch.alloc ?_ _|with_reducible refine Touch.setNew ?_ (by omega) _)
 ·refine bodyPost_ret (results_c1 Tryz.results104 _ _ ⟨s,0,none⟩ (.agg #[.int .i64 id,.int .i64 5,.int .i64 addr,.int .i64 many,.bool wp,.slice da ds.length dc,.slice la ls.length lc]) rfl (loadVar_req _ _ _ _ _ _ _ _ _ (by simp[go_sem, *]) (by simp[go_sem, *]) (by simp[go_sem, *]) (by simp[go_sem, *]) (by simp[go_sem, *]) (by simp[go_sem, *]) (by simp[go_sem, *]))) rfl ⟨_,_,⟨id,5,addr,many,wp,ds,ls⟩,q1+1+1,rfl,?od,?ol,?i,?ld,?ll,fun h9=>absurd (HB9.out h9) (by simp),by omega,?r,?t⟩
  case od=>
   have X:=HOD3.out.rebase (show w.heap.size≤g+1 by omega);have L:=(fun j hj=>(OwnR.lt HOD3.out j hj).1:∀j,_→g+1≤j)
   repeat(first|with_reducible exact X|with_reducible refine Owns.drewd ?_|with_reducible refine Owns.allocd ?_ _|with_reducible refine Owns.set' ?_ _ _ _ (fun j hj=>by have:=L j hj;omega))
  case ol=>
   have X:=HOL3.out.rebase (show w.heap.size≤g+1 by omega);have L:=(fun j hj=>(OwnR.lt HOL3.out j hj).1:∀j,_→g+1≤j)
   repeat(first|with_reducible exact X|with_reducible refine Owns.drewd ?_|with_reducible refine Owns.allocd ?_ _|with_reducible refine Owns.set' ?_ _ _ _ (fun j hj=>by have:=L j hj;omega))
  case i=>exact⟨by simp only[I64];omega,by simp only[I64];omega,by simp only[I64];omega,by simp only[I64];omega,I64D.out,I64L.out⟩
  case ld=>simp;omega
  case ll=>simp;omega
  case r=>
   have X:=HQ3.out.2.1
   repeat(first|with_reducible exact X|with_reducible refine RdAt.drewd ?_|with_reducible refine RdAt.alloc ?_ _|with_reducible refine RdAt.setNew ?_ hrs (by omega) _ _)
  case t=>
   have X:=HT0.out.trans HQ3.out.2.2
   repeat(first|with_reducible exact X|with_reducible refine Touch.drewd ?_|with_reducible refine Touch.alloc ?_ _|with_reducible refine Touch.setNew ?_ (by omega) _)
 ·refine bodyPost_ret (results_c1 Tryz.results104 _ _ ⟨s,0,none⟩ (.agg #[.int .i64 id,.int .i64 kind,.int .i64 (-1),.int .i64 many,.bool wp,.slice da ds.length dc,.slice la ls.length lc]) rfl (loadVar_req _ _ _ _ _ _ _ _ _ (by simp[go_sem, *]) (by simp[go_sem, *]) (by simp[go_sem, *]) (by simp[go_sem, *]) (by simp[go_sem, *]) (by simp[go_sem, *]) (by simp[go_sem, *]))) rfl ⟨_,_,⟨id,kind,(-1),many,wp,ds,ls⟩,q1+1+1,rfl,?od,?ol,?i,?ld,?ll,fun h9=>absurd (HB9.out h9) (by simp),by omega,?r,?t⟩
  case od=>
   have X:=HOD3.out.rebase (show w.heap.size≤g+1 by omega);have L:=(fun j hj=>(OwnR.lt HOD3.out j hj).1:∀j,_→g+1≤j)
   repeat(first|with_reducible exact X|with_reducible refine Owns.drewd ?_|with_reducible refine Owns.allocd ?_ _|with_reducible refine Owns.set' ?_ _ _ _ (fun j hj=>by have:=L j hj;omega))
  case ol=>
   have X:=HOL3.out.rebase (show w.heap.size≤g+1 by omega);have L:=(fun j hj=>(OwnR.lt HOL3.out j hj).1:∀j,_→g+1≤j)
   repeat(first|with_reducible exact X|with_reducible refine Owns.drewd ?_|with_reducible refine Owns.allocd ?_ _|with_reducible refine Owns.set' ?_ _ _ _ (fun j hj=>by have:=L j hj;omega))
  case i=>exact⟨by simp only[I64];omega,by simp only[I64];omega,by simp only[I64];omega,by simp only[I64];omega,I64D.out,I64L.out⟩
  case ld=>simp;omega
  case ll=>simp;omega
  case r=>
   have X:=HQ3.out.2.1
   repeat(first|with_reducible exact X|with_reducible refine RdAt.drewd ?_|with_reducible refine RdAt.alloc ?_ _|with_reducible refine RdAt.setNew ?_ hrs (by omega) _ _)
  case t=>
   have X:=HT0.out.trans HQ3.out.2.2
   repeat(first|with_reducible exact X|with_reducible refine Touch.drewd ?_|with_reducible refine Touch.alloc ?_ _|with_reducible refine Touch.setNew ?_ (by omega) _)
 ·refine bodyPost_ret (results_c1 Tryz.results104 _ _ ⟨s,0,none⟩ (.agg #[.int .i64 id,.int .i64 kind,.int .i64 64,.int .i64 many,.bool wp,.slice da ds.length dc,.slice la ls.length lc]) rfl (loadVar_req _ _ _ _ _ _ _ _ _ (by simp[go_sem, *]) (by simp[go_sem, *]) (by simp[go_sem, *]) (by simp[go_sem, *]) (by simp[go_sem, *]) (by simp[go_sem, *]) (by simp[go_sem, *]))) rfl ⟨_,_,⟨id,kind,64,many,wp,ds,ls⟩,q1+1+1,rfl,?od,?ol,?i,?ld,?ll,fun h9=>absurd (HB9.out h9) (by simp),by omega,?r,?t⟩
  case od=>
   have X:=HOD3.out.rebase (show w.heap.size≤g+1 by omega);have L:=(fun j hj=>(OwnR.lt HOD3.out j hj).1:∀j,_→g+1≤j)
   repeat(first|with_reducible exact X|with_reducible refine Owns.drewd ?_|with_reducible refine Owns.allocd ?_ _|with_reducible refine Owns.set' ?_ _ _ _ (fun j hj=>by have:=L j hj;omega))
  case ol=>
   have X:=HOL3.out.rebase (show w.heap.size≤g+1 by omega);have L:=(fun j hj=>(OwnR.lt HOL3.out j hj).1:∀j,_→g+1≤j)
   repeat(first|with_reducible exact X|with_reducible refine Owns.drewd ?_|with_reducible refine Owns.allocd ?_ _|with_reducible refine Owns.set' ?_ _ _ _ (fun j hj=>by have:=L j hj;omega))
  case i=>exact⟨by simp only[I64];omega,by simp only[I64];omega,by simp only[I64];omega,by simp only[I64];omega,I64D.out,I64L.out⟩
  case ld=>simp;omega
  case ll=>simp;omega
  case r=>
   have X:=HQ3.out.2.1
   repeat(first|with_reducible exact X|with_reducible refine RdAt.drewd ?_|with_reducible refine RdAt.alloc ?_ _|with_reducible refine RdAt.setNew ?_ hrs (by omega) _ _)
  case t=>
   have X:=HT0.out.trans HQ3.out.2.2
   repeat(first|with_reducible exact X|with_reducible refine Touch.drewd ?_|with_reducible refine Touch.alloc ?_ _|with_reducible refine Touch.setNew ?_ (by omega) _)
 ·refine bodyPost_ret (results_c1 Tryz.results104 _ _ ⟨s,0,none⟩ (.agg #[.int .i64 id,.int .i64 kind,.int .i64 63,.int .i64 many,.bool wp,.slice da ds.length dc,.slice la ls.length lc]) rfl (loadVar_req _ _ _ _ _ _ _ _ _ (by simp[go_sem, *]) (by simp[go_sem, *]) (by simp[go_sem, *]) (by simp[go_sem, *]) (by simp[go_sem, *]) (by simp[go_sem, *]) (by simp[go_sem, *]))) rfl ⟨_,_,⟨id,kind,63,many,wp,ds,ls⟩,q1+1+1,rfl,?od,?ol,?i,?ld,?ll,fun h9=>absurd (HB9.out h9) (by simp),by omega,?r,?t⟩
  case od=>
   have X:=HOD3.out.rebase (show w.heap.size≤g+1 by omega);have L:=(fun j hj=>(OwnR.lt HOD3.out j hj).1:∀j,_→g+1≤j)
   repeat(first|with_reducible exact X|with_reducible refine Owns.drewd ?_|with_reducible refine Owns.allocd ?_ _|with_reducible refine Owns.set' ?_ _ _ _ (fun j hj=>by have:=L j hj;omega))
  case ol=>
   have X:=HOL3.out.rebase (show w.heap.size≤g+1 by omega);have L:=(fun j hj=>(OwnR.lt HOL3.out j hj).1:∀j,_→g+1≤j)
   repeat(first|with_reducible exact X|with_reducible refine Owns.drewd ?_|with_reducible refine Owns.allocd ?_ _|with_reducible refine Owns.set' ?_ _ _ _ (fun j hj=>by have:=L j hj;omega))
  case i=>exact⟨by simp only[I64];omega,by simp only[I64];omega,by simp only[I64];omega,by simp only[I64];omega,I64D.out,I64L.out⟩
  case ld=>simp;omega
  case ll=>simp;omega
  case r=>
   have X:=HQ3.out.2.1
   repeat(first|with_reducible exact X|with_reducible refine RdAt.drewd ?_|with_reducible refine RdAt.alloc ?_ _|with_reducible refine RdAt.setNew ?_ hrs (by omega) _ _)
  case t=>
   have X:=HT0.out.trans HQ3.out.2.2
   repeat(first|with_reducible exact X|with_reducible refine Touch.drewd ?_|with_reducible refine Touch.alloc ?_ _|with_reducible refine Touch.setNew ?_ (by omega) _)
 ·refine bodyPost_ret (results_c1 Tryz.results104 _ _ ⟨s,0,none⟩ (.agg #[.int .i64 id,.int .i64 kind,.int .i64 addr,.int .i64 0,.bool wp,.slice da ds.length dc,.slice la ls.length lc]) rfl (loadVar_req _ _ _ _ _ _ _ _ _ (by simp[go_sem, *]) (by simp[go_sem, *]) (by simp[go_sem, *]) (by simp[go_sem, *]) (by simp[go_sem, *]) (by simp[go_sem, *]) (by simp[go_sem, *]))) rfl ⟨_,_,⟨id,kind,addr,0,wp,ds,ls⟩,q1+1+1,rfl,?od,?ol,?i,?ld,?ll,fun h9=>absurd (HB9.out h9) (by simp),by omega,?r,?t⟩
  case od=>
   have X:=HOD3.out.rebase (show w.heap.size≤g+1 by omega);have L:=(fun j hj=>(OwnR.lt HOD3.out j hj).1:∀j,_→g+1≤j)
   repeat(first|with_reducible exact X|with_reducible refine Owns.drewd ?_|with_reducible refine Owns.allocd ?_ _|with_reducible refine Owns.set' ?_ _ _ _ (fun j hj=>by have:=L j hj;omega))
  case ol=>
   have X:=HOL3.out.rebase (show w.heap.size≤g+1 by omega);have L:=(fun j hj=>(OwnR.lt HOL3.out j hj).1:∀j,_→g+1≤j)
   repeat(first|with_reducible exact X|with_reducible refine Owns.drewd ?_|with_reducible refine Owns.allocd ?_ _|with_reducible refine Owns.set' ?_ _ _ _ (fun j hj=>by have:=L j hj;omega))
  case i=>exact⟨by simp only[I64];omega,by simp only[I64];omega,by simp only[I64];omega,by simp only[I64];omega,I64D.out,I64L.out⟩
  case ld=>simp;omega
  case ll=>simp;omega
  case r=>
   have X:=HQ3.out.2.1
   repeat(first|with_reducible exact X|with_reducible refine RdAt.drewd ?_|with_reducible refine RdAt.alloc ?_ _|with_reducible refine RdAt.setNew ?_ hrs (by omega) _ _)
  case t=>
   have X:=HT0.out.trans HQ3.out.2.2
   repeat(first|with_reducible exact X|with_reducible refine Touch.drewd ?_|with_reducible refine Touch.alloc ?_ _|with_reducible refine Touch.setNew ?_ (by omega) _)
 ·refine bodyPost_ret (results_c1 Tryz.results104 _ _ ⟨s,0,none⟩ (.agg #[.int .i64 id,.int .i64 kind,.int .i64 addr,.int .i64 3,.bool wp,.slice da ds.length dc,.slice la ls.length lc]) rfl (loadVar_req _ _ _ _ _ _ _ _ _ (by simp[go_sem, *]) (by simp[go_sem, *]) (by simp[go_sem, *]) (by simp[go_sem, *]) (by simp[go_sem, *]) (by simp[go_sem, *]) (by simp[go_sem, *]))) rfl ⟨_,_,⟨id,kind,addr,3,wp,ds,ls⟩,q1+1+1,rfl,?od,?ol,?i,?ld,?ll,fun h9=>absurd (HB9.out h9) (by simp),by omega,?r,?t⟩
  case od=>
   have X:=HOD3.out.rebase (show w.heap.size≤g+1 by omega);have L:=(fun j hj=>(OwnR.lt HOD3.out j hj).1:∀j,_→g+1≤j)
   repeat(first|with_reducible exact X|with_reducible refine Owns.drewd ?_|with_reducible refine Owns.allocd ?_ _|with_reducible refine Owns.set' ?_ _ _ _ (fun j hj=>by have:=L j hj;omega))
  case ol=>
   have X:=HOL3.out.rebase (show w.heap.size≤g+1 by omega);have L:=(fun j hj=>(OwnR.lt HOL3.out j hj).1:∀j,_→g+1≤j)
   repeat(first|with_reducible exact X|with_reducible refine Owns.drewd ?_|with_reducible refine Owns.allocd ?_ _|with_reducible refine Owns.set' ?_ _ _ _ (fun j hj=>by have:=L j hj;omega))
  case i=>exact⟨by simp only[I64];omega,by simp only[I64];omega,by simp only[I64];omega,by simp only[I64];omega,I64D.out,I64L.out⟩
  case ld=>simp;omega
  case ll=>simp;omega
  case r=>
   have X:=HQ3.out.2.1
   repeat(first|with_reducible exact X|with_reducible refine RdAt.drewd ?_|with_reducible refine RdAt.alloc ?_ _|with_reducible refine RdAt.setNew ?_ hrs (by omega) _ _)
  case t=>
   have X:=HT0.out.trans HQ3.out.2.2
   repeat(first|with_reducible exact X|with_reducible refine Touch.drewd ?_|with_reducible refine Touch.alloc ?_ _|with_reducible refine Touch.setNew ?_ (by omega) _)
 ·refine bodyPost_ret (results_c1 Tryz.results104 _ _ ⟨s,0,none⟩ (.agg #[.int .i64 id,.int .i64 kind,.int .i64 addr,.int .i64 8,.bool wp,.slice da ds.length dc,.slice la ls.length lc]) rfl (loadVar_req _ _ _ _ _ _ _ _ _ (by simp[go_sem, *]) (by simp[go_sem, *]) (by simp[go_sem, *]) (by simp[go_sem, *]) (by simp[go_sem, *]) (by simp[go_sem, *]) (by simp[go_sem, *]))) rfl ⟨_,_,⟨id,kind,addr,8,wp,ds,ls⟩,q1+1+1,rfl,?od,?ol,?i,?ld,?ll,fun h9=>absurd (HB9.out h9) (by simp),by omega,?r,?t⟩
  case od=>
   have X:=HOD3.out.rebase (show w.heap.size≤g+1 by omega);have L:=(fun j hj=>(OwnR.lt HOD3.out j hj).1:∀j,_→g+1≤j)
   repeat(first|with_reducible exact X|with_reducible refine Owns.drewd ?_|with_reducible refine Owns.allocd ?_ _|with_reducible refine Owns.set' ?_ _ _ _ (fun j hj=>by have:=L j hj;omega))
  case ol=>
   have X:=HOL3.out.rebase (show w.heap.size≤g+1 by omega);have L:=(fun j hj=>(OwnR.lt HOL3.out j hj).1:∀j,_→g+1≤j)
   repeat(first|with_reducible exact X|with_reducible refine Owns.drewd ?_|with_reducible refine Owns.allocd ?_ _|with_reducible refine Owns.set' ?_ _ _ _ (fun j hj=>by have:=L j hj;omega))
  case i=>exact⟨by simp only[I64];omega,by simp only[I64];omega,by simp only[I64];omega,by simp only[I64];omega,I64D.out,I64L.out⟩
  case ld=>simp;omega
  case ll=>simp;omega
  case r=>
   have X:=HQ3.out.2.1
   repeat(first|with_reducible exact X|with_reducible refine RdAt.drewd ?_|with_reducible refine RdAt.alloc ?_ _|with_reducible refine RdAt.setNew ?_ hrs (by omega) _ _)
  case t=>
   have X:=HT0.out.trans HQ3.out.2.2
   repeat(first|with_reducible exact X|with_reducible refine Touch.drewd ?_|with_reducible refine Touch.alloc ?_ _|with_reducible refine Touch.setNew ?_ (by omega) _)
 ·refine bodyPost_ret (results_c1 Tryz.results104 _ _ ⟨s,0,none⟩ (.agg #[.int .i64 id,.int .i64 kind,.int .i64 addr,.int .i64 4,.bool wp,.slice da ds.length dc,.slice la ls.length lc]) rfl (loadVar_req _ _ _ _ _ _ _ _ _ (by simp[go_sem, *]) (by simp[go_sem, *]) (by simp[go_sem, *]) (by simp[go_sem, *]) (by simp[go_sem, *]) (by simp[go_sem, *]) (by simp[go_sem, *]))) rfl ⟨_,_,⟨id,kind,addr,4,wp,ds,ls⟩,q1+1+1,rfl,?od,?ol,?i,?ld,?ll,fun h9=>absurd (HB9.out h9) (by simp),by omega,?r,?t⟩
  case od=>
   have X:=HOD3.out.rebase (show w.heap.size≤g+1 by omega);have L:=(fun j hj=>(OwnR.lt HOD3.out j hj).1:∀j,_→g+1≤j)
   repeat(first|with_reducible exact X|with_reducible refine Owns.drewd ?_|with_reducible refine Owns.allocd ?_ _|with_reducible refine Owns.set' ?_ _ _ _ (fun j hj=>by have:=L j hj;omega))
  case ol=>
   have X:=HOL3.out.rebase (show w.heap.size≤g+1 by omega);have L:=(fun j hj=>(OwnR.lt HOL3.out j hj).1:∀j,_→g+1≤j)
   repeat(first|with_reducible exact X|with_reducible refine Owns.drewd ?_|with_reducible refine Owns.allocd ?_ _|with_reducible refine Owns.set' ?_ _ _ _ (fun j hj=>by have:=L j hj;omega))
  case i=>exact⟨by simp only[I64];omega,by simp only[I64];omega,by simp only[I64];omega,by simp only[I64];omega,I64D.out,I64L.out⟩
  case ld=>simp;omega
  case ll=>simp;omega
  case r=>
   have X:=HQ3.out.2.1
   repeat(first|with_reducible exact X|with_reducible refine RdAt.drewd ?_|with_reducible refine RdAt.alloc ?_ _|with_reducible refine RdAt.setNew ?_ hrs (by omega) _ _)
  case t=>
   have X:=HT0.out.trans HQ3.out.2.2
   repeat(first|with_reducible exact X|with_reducible refine Touch.drewd ?_|with_reducible refine Touch.alloc ?_ _|with_reducible refine Touch.setNew ?_ (by omega) _)
 ·refine bodyPost_ret (results_c1 Tryz.results104 _ _ ⟨s,0,none⟩ (.agg #[.int .i64 id,.int .i64 kind,.int .i64 addr,.int .i64 many,.bool wp,.slice va (ds.length+1) vc,.slice la ls.length lc]) rfl (loadVar_req _ _ _ _ _ _ _ _ _ (by simp[go_sem, *]) (by simp[go_sem, *]) (by simp[go_sem, *]) (by simp[go_sem, *]) (by simp[go_sem, *]) (by simp[go_sem, *]) (by simp[go_sem, *]))) rfl ⟨_,_,⟨id,kind,addr,many,wp,ds++[5],ls⟩,q1+1,rfl,?od,?ol,?i,?ld,?ll,fun h9=>absurd (HB9.out h9) (by simp),by omega,?r,?t⟩
  case od=>
   have X:=HOD3.out.rebase (show w.heap.size≤g+1 by omega);have L:=(fun j hj=>(OwnR.lt HOD3.out j hj).1:∀j,_→g+1≤j)
   repeat(first|with_reducible exact X|with_reducible refine Owns.drewd ?_|with_reducible refine Owns.allocd ?_ _|with_reducible refine Owns.set' ?_ _ _ _ (fun j hj=>by have:=L j hj;omega))
  case ol=>
   have X:=HOL3.out.rebase (show w.heap.size≤g+1 by omega);have L:=(fun j hj=>(OwnR.lt HOL3.out j hj).1:∀j,_→g+1≤j)
   repeat(first|with_reducible exact X|with_reducible refine Owns.drewd ?_|with_reducible refine Owns.allocd ?_ _|with_reducible refine Owns.set' ?_ _ _ _ (fun j hj=>by have:=L j hj;omega))
  case i=>exact⟨by simp only[I64];omega,by simp only[I64];omega,by simp only[I64];omega,by simp only[I64];omega,app64I I64D.out (by simp only[I64];omega),I64L.out⟩
  case ld=>simp;omega
  case ll=>simp;omega
  case r=>
   have X:=HQ3.out.2.1
   repeat(first|with_reducible exact X|with_reducible refine RdAt.drewd ?_|with_reducible refine RdAt.alloc ?_ _|with_reducible refine RdAt.setNew ?_ hrs (by omega) _ _)
  case t=>
   have X:=HT0.out.trans HQ3.out.2.2
   repeat(first|with_reducible exact X|with_reducible refine Touch.drewd ?_|with_reducible refine Touch.alloc ?_ _|with_reducible refine Touch.setNew ?_ (by omega) _)
 ·refine bodyPost_ret (results_c1 Tryz.results104 _ _ ⟨s,0,none⟩ (.agg #[.int .i64 id,.int .i64 kind,.int .i64 addr,.int .i64 many,.bool wp,.slice da ds.length dc,.slice va (ls.length+1) vc]) rfl (loadVar_req _ _ _ _ _ _ _ _ _ (by simp[go_sem, *]) (by simp[go_sem, *]) (by simp[go_sem, *]) (by simp[go_sem, *]) (by simp[go_sem, *]) (by simp[go_sem, *]) (by simp[go_sem, *]))) rfl ⟨_,_,⟨id,kind,addr,many,wp,ds,ls++[1]⟩,q1+1,rfl,?od,?ol,?i,?ld,?ll,fun h9=>absurd (HB9.out h9) (by simp),by omega,?r,?t⟩
  case od=>
   have X:=HOD3.out.rebase (show w.heap.size≤g+1 by omega);have L:=(fun j hj=>(OwnR.lt HOD3.out j hj).1:∀j,_→g+1≤j)
   repeat(first|with_reducible exact X|with_reducible refine Owns.drewd ?_|with_reducible refine Owns.allocd ?_ _|with_reducible refine Owns.set' ?_ _ _ _ (fun j hj=>by have:=L j hj;omega))
  case ol=>
   have X:=HOL3.out.rebase (show w.heap.size≤g+1 by omega);have L:=(fun j hj=>(OwnR.lt HOL3.out j hj).1:∀j,_→g+1≤j)
   repeat(first|with_reducible exact X|with_reducible refine Owns.drewd ?_|with_reducible refine Owns.allocd ?_ _|with_reducible refine Owns.set' ?_ _ _ _ (fun j hj=>by have:=L j hj;omega))
  case i=>exact⟨by simp only[I64];omega,by simp only[I64];omega,by simp only[I64];omega,by simp only[I64];omega,I64D.out,app64I I64L.out (by simp only[I64];omega)⟩
  case ld=>simp;omega
  case ll=>simp;omega
  case r=>
   have X:=HQ3.out.2.1
   repeat(first|with_reducible exact X|with_reducible refine RdAt.drewd ?_|with_reducible refine RdAt.alloc ?_ _|with_reducible refine RdAt.setNew ?_ hrs (by omega) _ _)
  case t=>
   have X:=HT0.out.trans HQ3.out.2.2
   repeat(first|with_reducible exact X|with_reducible refine Touch.drewd ?_|with_reducible refine Touch.alloc ?_ _|with_reducible refine Touch.setNew ?_ (by omega) _)
 ·have hd0:0<ds.length:=by first|assumption|omega|(simp at *;omega)
  have hsr:=HOD2.out.someR (by omega);obtain⟨gd,go,c', e', hc1', hc2', hgd1,hgd2⟩:=hsr;simp only[Value.slice.injEq,true_and]at e';obtain⟨rfl,rfl⟩:=e';have HAG:=hid (HAP.out gd rfl)
  go_wp2_with fail
  go_region_with (first
   |(go_at_call 103;(with_reducible refine(pick_p r B bs (q1+1) 2 w2.drew h2.drewd (by omega) (by omega) (by omega)).mono ?_);rintro e w3 ⟨z', rfl,z0,z1,h3,ht3⟩;obtain⟨z,rfl⟩:=Int.eq_ofNat_of_zero_le z0;have hz:z<2:=(by omega);obtain⟨y,hl1,hy⟩:=tab2 (-1) 65536 hz;have hl2:=tab_arr hl1;clear hz;have hzi:(z:Int)<2:=z1;clear z1;have HQ3:=hid (HQ2.out.drewd.touch hgr h3 ht3);have HOD3:=hid (HOD2.out.drewd.touch ht3 (by omega));have HOL3:=hid (HOL2.out.drewd.touch ht3 (by omega));obtain⟨k0,k1,k2,k3,k4,k5,k6⟩:=HQ3.out.1.cells;obtain⟨m0,m1,m2,m3,m4,m5,m6⟩:=HQ3.out.1.unfrozen;have gl3:=HQ3.out.1.lt;have hz3:=HS0.out.touch HQ3.out.2.2 (show s≠r by omega);obtain⟨n0,n1,n2,n3,n4,n5,n6⟩:=hz3.cells;obtain⟨o0,o1,o2,o3,o4,o5,o6⟩:=hz3.unfrozen;have hzl3:=hz3.lt;clear hz3;have zc:w3.cell? ⟨gd,go,none⟩=_:=HOD3.out.cellI 0 hd0;have zf:w3.frozen? ⟨gd,go,none⟩=false:=HOD3.out.frozenI 0;have zl:gd<w3.heap.size:=HOD3.out.ltI.2)
   |(go_at_call 103;(with_reducible refine(pick_p r B bs (q1+1) 2 (w2.alloc _).drew (h2.alloc _).drewd (by omega) (by omega) (by omega)).mono ?_);rintro e w3 ⟨z', rfl,z0,z1,h3,ht3⟩;obtain⟨z,rfl⟩:=Int.eq_ofNat_of_zero_le z0;have hz:z<2:=(by omega);obtain⟨y,hl1,hy⟩:=tab2 (-1) 65536 hz;have hl2:=tab_arr hl1;clear hz;have hzi:(z:Int)<2:=z1;clear z1;have tB:=Touch.tab ht3.ofDrew h2.lt z _ hl2;have tl:=World.block_lt_of_cell? w3 _ tB;have HQ3:=hid ((HQ2.out.alloc _).drewd.touch hgr h3 ht3);have HOD3:=hid ((HOD2.out.allocd _).drewd.touch ht3 (by omega));have HOL3:=hid ((HOL2.out.allocd _).drewd.touch ht3 (by omega));obtain⟨k0,k1,k2,k3,k4,k5,k6⟩:=HQ3.out.1.cells;obtain⟨m0,m1,m2,m3,m4,m5,m6⟩:=HQ3.out.1.unfrozen;have gl3:=HQ3.out.1.lt;have hz3:=HS0.out.touch HQ3.out.2.2 (show s≠r by omega);obtain⟨n0,n1,n2,n3,n4,n5,n6⟩:=hz3.cells;obtain⟨o0,o1,o2,o3,o4,o5,o6⟩:=hz3.unfrozen;have hzl3:=hz3.lt;clear hz3;have zc:w3.cell? ⟨gd,go,none⟩=_:=HOD3.out.cellI 0 hd0;have zf:w3.frozen? ⟨gd,go,none⟩=false:=HOD3.out.frozenI 0;have zl:gd<w3.heap.size:=HOD3.out.ltI.2))
  all_goals
   go_wp2_with fail
   refine bodyPost_ret (results_c1 Tryz.results104 _ _ ⟨s,0,none⟩ (.agg #[.int .i64 id,.int .i64 kind,.int .i64 addr,.int .i64 many,.bool wp,.slice (some ⟨gd,go,none⟩) ds.length dc,.slice la ls.length lc]) rfl (loadVar_req _ _ _ _ _ _ _ _ _ (by simp[go_sem, *]) (by simp[go_sem, *]) (by simp[go_sem, *]) (by simp[go_sem, *]) (by simp[go_sem, *]) (by simp[go_sem, *]) (by simp[go_sem, *]))) rfl ⟨_,_,⟨id,kind,addr,many,wp,ds.set 0 y,ls⟩,q1+1+1,rfl,?od,?ol,?i,?ld,?ll,fun h9=>absurd (HB9.out h9) (by simp),by omega,?r,?t⟩
   case od=>
    have X:=HOD3.out.rebase (show w.heap.size≤g+1 by omega);have L:=(fun j hj=>(OwnR.lt HOD3.out j hj).1:∀j,_→g+1≤j)
    repeat(first|with_reducible exact X|with_reducible refine Owns.drewd ?_|with_reducible refine Owns.allocd ?_ _|with_reducible refine Owns.putRow1' ?_ 0 hd0 _ rfl|with_reducible refine Owns.set' ?_ _ _ _ (fun j hj=>by have:=L j hj;omega))
   case ol=>
    have X:=HOL3.out.rebase (show w.heap.size≤g+1 by omega);have L:=(fun j hj=>(OwnR.lt HOL3.out j hj).1:∀j,_→g+1≤j)
    repeat(first|with_reducible exact X|with_reducible refine Owns.drewd ?_|with_reducible refine Owns.allocd ?_ _|with_reducible refine Owns.set' ?_ _ _ _ (fun j hj=>by first|(have:=L j hj;omega)|exact fun e=>HAG.out (hj.trans (congrArg some e))))
    try exact Owns.set' X _ _ _ (fun j hj e=>HAG.out (hj.trans (congrArg some e)))
   case i=>exact⟨by simp only[I64];omega,by simp only[I64];omega,by simp only[I64];omega,by simp only[I64];omega,set64I I64D.out (by simp only[I64];omega),I64L.out⟩
   case ld=>simp;omega
   case ll=>simp;omega
   case r=>
    have X:=HQ3.out.2.1
    repeat(first|with_reducible exact X|with_reducible refine RdAt.drewd ?_|with_reducible refine RdAt.alloc ?_ _|with_reducible refine RdAt.setNew ?_ hrs (by omega) _ _)
   case t=>
    have X:=HT0.out.trans HQ3.out.2.2
    repeat(first|with_reducible exact X|with_reducible refine Touch.drewd ?_|with_reducible refine Touch.alloc ?_ _|with_reducible refine Touch.setNew ?_ (by omega) _)
 ·refine bodyPost_ret (results_c1 Tryz.results104 _ _ ⟨s,0,none⟩ (.agg #[.int .i64 id,.int .i64 kind,.int .i64 addr,.int .i64 many,.bool wp,.slice da ds.length dc,.slice la ls.length lc]) rfl (loadVar_req _ _ _ _ _ _ _ _ _ (by simp[go_sem, *]) (by simp[go_sem, *]) (by simp[go_sem, *]) (by simp[go_sem, *]) (by simp[go_sem, *]) (by simp[go_sem, *]) (by simp[go_sem, *]))) rfl ⟨_,_,⟨id,kind,addr,many,wp,ds,ls⟩,q1+1,rfl,?od,?ol,?i,?ld,?ll,fun h9=>absurd (HB9.out h9) (by simp),by omega,?r,?t⟩
  case od=>
   have X:=HOD2.out.rebase (show w.heap.size≤g+1 by omega);have L:=(fun j hj=>(OwnR.lt HOD2.out j hj).1:∀j,_→g+1≤j)
   repeat(first|with_reducible exact X|with_reducible refine Owns.drewd ?_|with_reducible refine Owns.allocd ?_ _|with_reducible refine Owns.set' ?_ _ _ _ (fun j hj=>by have:=L j hj;omega))
  case ol=>
   have X:=HOL2.out.rebase (show w.heap.size≤g+1 by omega);have L:=(fun j hj=>(OwnR.lt HOL2.out j hj).1:∀j,_→g+1≤j)
   repeat(first|with_reducible exact X|with_reducible refine Owns.drewd ?_|with_reducible refine Owns.allocd ?_ _|with_reducible refine Owns.set' ?_ _ _ _ (fun j hj=>by have:=L j hj;omega))
  case i=>exact⟨by simp only[I64];omega,by simp only[I64];omega,by simp only[I64];omega,by simp only[I64];omega,I64D.out,I64L.out⟩
  case ld=>simp;omega
  case ll=>simp;omega
  case r=>
   have X:=HQ2.out.2.1
   repeat(first|with_reducible exact X|with_reducible refine RdAt.drewd ?_|with_reducible refine RdAt.alloc ?_ _|with_reducible refine RdAt.setNew ?_ hrs (by omega) _ _)
  case t=>
   have X:=HT0.out.trans HQ2.out.2.2
   repeat(first|with_reducible exact X|with_reducible refine Touch.drewd ?_|with_reducible refine Touch.alloc ?_ _|with_reducible refine Touch.setNew ?_ (by omega) _)
end Go.Proofs.YthnlalffjepdaaaGreat
