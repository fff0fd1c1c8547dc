/- Draws: what is asked: l20Req (printed by wip/gen_req2.py). -/
import Derived.Test.YtgkdoehkmbhfiaaGreatGDq0
set_option linter.unusedVariables false
set_option linter.unusedSimpArgs false
set_option maxHeartbeats 16000000
namespace Go.Proofs.YtgkdoehkmbhfiaaGreat
open Go.RowKit
attribute [local go_sem ↓] Go.wp_at_zero Go.wp_at_succ
def headReg : Code → Option Nat
 | .region id _ _=>some id
 | .seq a _=>headReg a
 |_=>none
def zI4 (n : Nat) : Code → Option Code
 | .seq a b => if headReg a = some n then some (.seq a b) else match zI4 n a with
  |some c=>some c
  |none=>zI4 n b
 | .loop c=>zI4 n c
 | .block _ c=>zI4 n c
 | .scope c=>zI4 n c
 | .cond _ a b => match zI4 n a with
  |some c=>some c
  |none=>zI4 n b
 |_=>none
noncomputable def reqTail:Code:=(Tryz.f83.body.bind (zI4 13)).getD .skip
set_option maxRecDepth 20000 in
def reqZ (r:Nat) (n:Int) (s g:Nat) (u6 u7 u8 u9 u10 u11 u12 u13 u14 u15 u16 u17 u18 u19 u20 u21 u22 u23 u24 u25 u26 u27 u28 u29 u30 u31 u32 u33 u34 u35 u36 u37 u38 u39 u40 u41 u42 u43 u44 u45 u46 u47 u48 u49 u50 u51 u52 u53 u54 u55 u56 u57 u58 u59 u60 u61 u62 u63 u64 u65 u66 u67 u68 u69 u70 u71 u72 u73 u74 u75 u76 u77 u78 u79 u80 u81 u82 u83 u84 u85 u86 u87 u88 u89 u90 u91 u92 u93 u94 u95 u96 u97 u98 u99 u100 u101 u102 u103 u104 u105 u106 u107 u108 u109 u110 u111 u112 u113 u114 u115 u116 u117 u118 u119 u120 u121 u122 u123 u124 u125 u126 u127 u128 u129 u130 u131 u132 u133 u134 u135 u136 u137 u138 u139 u140 u141 u142 u143 u144 u145 u146 u147 u148 u149 u150 u151 u152:Value):Act:={ tmps:=#[.pointer (some ⟨r,0,none⟩),.int .i64 n,undef,undef,.pointer (some ⟨s,0,none⟩),.pointer (some ⟨g,0,none⟩),u6,u7,u8,u9,u10,u11,u12,u13,u14,u15,u16,u17,u18,u19,u20,u21,u22,u23,u24,u25,u26,u27,u28,u29,u30,u31,u32,u33,u34,u35,u36,u37,u38,u39,u40,u41,u42,u43,u44,u45,u46,u47,u48,u49,u50,u51,u52,u53,u54,u55,u56,u57,u58,u59,u60,u61,u62,u63,u64,u65,u66,u67,u68,u69,u70,u71,u72,u73,u74,u75,u76,u77,u78,u79,u80,u81,u82,u83,u84,u85,u86,u87,u88,u89,u90,u91,u92,u93,u94,u95,u96,u97,u98,u99,u100,u101,u102,u103,u104,u105,u106,u107,u108,u109,u110,u111,u112,u113,u114,u115,u116,u117,u118,u119,u120,u121,u122,u123,u124,u125,u126,u127,u128,u129,u130,u131,u132,u133,u134,u135,u136,u137,u138,u139,u140,u141,u142,u143,u144,u145,u146,u147,u148,u149,u150,u151,u152],defers:=[] }
set_option maxRecDepth 100000 in
theorem req_tail (r B : Nat) (bs : List Nat) (p : Nat) (n : Int) (w : World) (hp : p ≤ 700000000) (h1n : 1 ≤ n) (hn : n ≤ 1099511627776) (hrw : r < w.heap.size) (w0 : World) (s : Nat) (HS0 : Hid (qz w0 s)) (HT0 : Hid (Touch r w w0)) (hz0 : w0.heap.size = s + 1) (hrs : r < s) (HSW : Hid (w.heap.size = s))
  (g:Nat) (id kind addr many:Int) (wp:Bool) (hg:w0.heap.size≤g) (a0:0≤id) (a1:id<2) (b0:1≤kind) (b1:kind≤4) (hgr:g≠r) (hrg:r<g) (hsg:s<g) (hrw':r<w0.heap.size) (d1:many=1∨many=2∨many=4) (c0:0≤addr) (c1:addr≤63)
  (dv lv:Value) (ds ls:List Int) (q:Nat) (wc:World) (hok:reqOk ⟨id,kind,addr,many,wp,ds,ls⟩=true) (hdl:ds.length≤4) (hll:ls.length≤4) (hod:Owns wc (g+1) 3 1 rowI dv ds) (hol:Owns wc (g+1) 3 1 rowI lv ls) (hap:Apart dv lv) (hq:q≤p+60) (hQ:RQ r B bs w0 g id kind addr many wp dv lv q wc)
  (u6 u7 u8 u9 u10 u11 u12 u13 u14 u15 u16 u17 u18 u19 u20 u21 u22 u23 u24 u25 u26 u27 u28 u29 u30 u31 u32 u33 u34 u35 u36 u37 u38 u39 u40 u41 u42 u43 u44 u45 u46 u47 u48 u49 u50 u51 u52 u53 u54 u55 u56 u57 u58 u59 u60 u61 u62 u63 u64 u65 u66 u67 u68 u69 u70 u71 u72 u73 u74 u75 u76 u77 u78 u79 u80 u81 u82 u83 u84 u85 u86 u87 u88 u89 u90 u91 u92 u93 u94 u95 u96 u97 u98 u99 u100 u101 u102 u103 u104 u105 u106 u107 u108 u109 u110 u111 u112 u113 u114 u115 u116 u117 u118 u119 u120 u121 u122 u123 u124 u125 u126 u127 u128 u129 u130 u131 u132 u133 u134 u135 u136 u137 u138 u139 u140 u141 u142 u143 u144 u145 u146 u147 u148 u149 u150 u151 u152:Value):reqTail.wp Tryz.prog (bodyPost Tryz.prog Tryz.f83 (ReqP r B bs p n w)) (reqZ r n s g u6 u7 u8 u9 u10 u11 u12 u13 u14 u15 u16 u17 u18 u19 u20 u21 u22 u23 u24 u25 u26 u27 u28 u29 u30 u31 u32 u33 u34 u35 u36 u37 u38 u39 u40 u41 u42 u43 u44 u45 u46 u47 u48 u49 u50 u51 u52 u53 u54 u55 u56 u57 u58 u59 u60 u61 u62 u63 u64 u65 u66 u67 u68 u69 u70 u71 u72 u73 u74 u75 u76 u77 u78 u79 u80 u81 u82 u83 u84 u85 u86 u87 u88 u89 u90 u91 u92 u93 u94 u95 u96 u97 u98 u99 u100 u101 u102 u103 u104 u105 u106 u107 u108 u109 u110 u111 u112 u113 u114 u115 u116 u117 u118 u119 u120 u121 u122 u123 u124 u125 u126 u127 u128 u129 u130 u131 u132 u133 u134 u135 u136 u137 u138 u139 u140 u141 u142 u143 u144 u145 u146 u147 u148 u149 u150 u151 u152) wc:=by
 conv=>arg 2;whnf
 unfold reqZ;have hdc:=hod.shape;obtain⟨da,dc,rfl,_,_⟩:=hdc;have hlc:=hol.shape;obtain⟨la,lc,rfl,_,_⟩:=hlc;have HRO:=hid hok;have HOD:=hid hod;have HOL:=hid hol;have HAP:=hid hap;have I64D:=hid (req64 hok).1;have I64L:=hid (req64 hok).2;clear hok hod hol hap;have hsg':g≠s:=by omega
 have hsg2:s≠g:=by omega
 have hgs:w.heap.size≤g:=by have:=HSW.out;omega
 have hss:w.heap.size≤s:=by have:=HSW.out;omega
 have hm4:many≤4:=by omega
 have hm1:1≤many:=by omega
 have hR:=hQ.2.1;have hgl:=hQ.1.lt;obtain⟨k0,k1,k2,k3,k4,k5,k6⟩:=hQ.1.cells;obtain⟨m0,m1,m2,m3,m4,m5,m6⟩:=hQ.1.unfrozen;have HQ:=hid hQ;clear hQ
 go_wp2_with (first
  |(go_at_call 122;(with_reducible refine(odd_any r B bs q n wc hR (by omega) h1n hn).mono ?_);rintro e w1 ⟨b,q1,rfl,hb9,hq1,h1,ht1⟩;have HQ1:=hid (HQ.out.touch hgr h1 ht1);have HOD1:=hid (HOD.out.touch ht1 (by omega));have HOL1:=hid (HOL.out.touch ht1 (by omega));obtain⟨k0,k1,k2,k3,k4,k5,k6⟩:=HQ1.out.1.cells;obtain⟨m0,m1,m2,m3,m4,m5,m6⟩:=HQ1.out.1.unfrozen;have gl1:=HQ1.out.1.lt;have hz1:=HS0.out.touch HQ1.out.2.2 (show s≠r by omega);obtain⟨n0,n1,n2,n3,n4,n5,n6⟩:=hz1.cells;obtain⟨o0,o1,o2,o3,o4,o5,o6⟩:=hz1.unfrozen;have hzl1:=hz1.lt;clear hz1;have HB9:=hid hb9;clear hb9 ht1;cases b)
  |(go_at_call 82;(with_reducible refine(zB8 r B bs q1 7 w1 h1 (by omega) (by omega) (by omega)).mono ?_);rintro e w2 ⟨yy,rfl,y0,y1,h2,ht2⟩;have HQ2:=hid (HQ1.out.touch hgr h2 ht2);have HOD2:=hid (HOD1.out.touch ht2 (by omega));have HOL2:=hid (HOL1.out.touch ht2 (by omega));obtain⟨k0,k1,k2,k3,k4,k5,k6⟩:=HQ2.out.1.cells;obtain⟨m0,m1,m2,m3,m4,m5,m6⟩:=HQ2.out.1.unfrozen;have gl2:=HQ2.out.1.lt;have hz2:=HS0.out.touch HQ2.out.2.2 (show s≠r by omega);obtain⟨n0,n1,n2,n3,n4,n5,n6⟩:=hz2.cells;obtain⟨o0,o1,o2,o3,o4,o5,o6⟩:=hz2.unfrozen;have hzl2:=hz2.lt;clear hz2;clear ht2;rcases(show yy=0∨yy=1∨yy=2∨yy=3∨yy=4∨yy=5∨yy=6 by omega)with rfl|rfl|rfl|rfl|rfl|rfl|rfl)
  |(go_at_call 82;(with_reducible refine(zB8 r B bs (q1+1) 2 (w2.alloc _) (h2.alloc _) (by omega) (by omega) (by omega)).mono ?_);rintro e w3 ⟨z,rfl,z0,z1,h3,ht3⟩;have tw:=TW.ofNew ht3 h2.lt;have u0:=tw.at_ 0 _ rfl;have u1:=tw.at_ 1 _ rfl;clear tw;have HQ3:=hid ((HQ2.out.alloc _).touch hgr h3 ht3);have HOD3:=hid ((HOD2.out.allocd _).touch ht3 (by omega));have HOL3:=hid ((HOL2.out.allocd _).touch ht3 (by omega));obtain⟨k0,k1,k2,k3,k4,k5,k6⟩:=HQ3.out.1.cells;obtain⟨m0,m1,m2,m3,m4,m5,m6⟩:=HQ3.out.1.unfrozen;have gl3:=HQ3.out.1.lt;have hz3:=HS0.out.touch HQ3.out.2.2 (show s≠r by omega);obtain⟨n0,n1,n2,n3,n4,n5,n6⟩:=hz3.cells;obtain⟨o0,o1,o2,o3,o4,o5,o6⟩:=hz3.unfrozen;have hzl3:=hz3.lt;clear hz3;clear ht3;rcases(show z=0∨z=1 by omega)with rfl|rfl)
  |(go_at_call 82;(with_reducible refine(zB8 r B bs (q1+1) 3 (w2.alloc _) (h2.alloc _) (by omega) (by omega) (by omega)).mono ?_);rintro e w3 ⟨z,rfl,z0,z1,h3,ht3⟩;have tw:=TW.ofNew ht3 h2.lt;have u0:=tw.at_ 0 _ rfl;have u1:=tw.at_ 1 _ rfl;have u2:=tw.at_ 2 _ rfl;clear tw;have HQ3:=hid ((HQ2.out.alloc _).touch hgr h3 ht3);have HOD3:=hid ((HOD2.out.allocd _).touch ht3 (by omega));have HOL3:=hid ((HOL2.out.allocd _).touch ht3 (by omega));obtain⟨k0,k1,k2,k3,k4,k5,k6⟩:=HQ3.out.1.cells;obtain⟨m0,m1,m2,m3,m4,m5,m6⟩:=HQ3.out.1.unfrozen;have gl3:=HQ3.out.1.lt;have hz3:=HS0.out.touch HQ3.out.2.2 (show s≠r by omega);obtain⟨n0,n1,n2,n3,n4,n5,n6⟩:=hz3.cells;obtain⟨o0,o1,o2,o3,o4,o5,o6⟩:=hz3.unfrozen;have hzl3:=hz3.lt;clear hz3;clear ht3;rcases(show z=0∨z=1∨z=2 by omega)with rfl|rfl|rfl)
  |(go_at_call 82;(with_reducible refine(zB8 r B bs (q1+1) 4 (w2.alloc _) (h2.alloc _) (by omega) (by omega) (by omega)).mono ?_);rintro e w3 ⟨z,rfl,z0,z1,h3,ht3⟩;have tw:=TW.ofNew ht3 h2.lt;have u0:=tw.at_ 0 _ rfl;have u1:=tw.at_ 1 _ rfl;have u2:=tw.at_ 2 _ rfl;have u3:=tw.at_ 3 _ rfl;clear tw;have HQ3:=hid ((HQ2.out.alloc _).touch hgr h3 ht3);have HOD3:=hid ((HOD2.out.allocd _).touch ht3 (by omega));have HOL3:=hid ((HOL2.out.allocd _).touch ht3 (by omega));obtain⟨k0,k1,k2,k3,k4,k5,k6⟩:=HQ3.out.1.cells;obtain⟨m0,m1,m2,m3,m4,m5,m6⟩:=HQ3.out.1.unfrozen;have gl3:=HQ3.out.1.lt;have hz3:=HS0.out.touch HQ3.out.2.2 (show s≠r by omega);obtain⟨n0,n1,n2,n3,n4,n5,n6⟩:=hz3.cells;obtain⟨o0,o1,o2,o3,o4,o5,o6⟩:=hz3.unfrozen;have hzl3:=hz3.lt;clear hz3;clear ht3;rcases(show z=0∨z=1∨z=2∨z=3 by omega)with rfl|rfl|rfl|rfl)
  |(at_builtin;refine wpList_pushN zJ2 rowI zF3 zI6 w2 rfl (.tmp 141) (.tmp 142) rfl (g+1) _ ds 5 (by rfl) HOD2.out _ (by rfl) (by rfl) (by omega) (by omega) (by omega) ?_;intro v' w3 ho5 hb5 hg5;obtain⟨va,vc,hv', _,_⟩:=ho5.shape;rw[List.length_append]at hv';simp only[List.length_cons,List.length_nil,Nat.zero_add]at hv';subst hv';have HOD3:=hid ho5;have HOL3:=hid (show Owns w3 (g+1) 3 1 rowI (.slice la ls.length lc) ls from OwnR.kept HOL2.out (fun j hj=>hg5 j (OwnR.lt HOL2.out j hj).2 (fun e=>HAP.out j e.symm hj)));have HQ3:=hid (HQ2.out.below hb5 hrg hg);obtain⟨k0,k1,k2,k3,k4,k5,k6⟩:=HQ3.out.1.cells;obtain⟨m0,m1,m2,m3,m4,m5,m6⟩:=HQ3.out.1.unfrozen;have gl3:=HQ3.out.1.lt;have hz3:=HS0.out.touch HQ3.out.2.2 (show s≠r by omega);obtain⟨n0,n1,n2,n3,n4,n5,n6⟩:=hz3.cells;obtain⟨o0,o1,o2,o3,o4,o5,o6⟩:=hz3.unfrozen;have hzl3:=hz3.lt;clear hz3;clear ho5 hb5 hg5)
  |(at_builtin;refine wpList_pushN zJ2 rowI zF3 zI6 w2 rfl (.tmp 148) (.tmp 149) rfl (g+1) _ ls 1 (by rfl) HOL2.out _ (by rfl) (by rfl) (by omega) (by omega) (by omega) ?_;intro v' w3 ho5 hb5 hg5;obtain⟨va,vc,hv', _,_⟩:=ho5.shape;rw[List.length_append]at hv';simp only[List.length_cons,List.length_nil,Nat.zero_add]at hv';subst hv';have HOL3:=hid ho5;have HOD3:=hid (show Owns w3 (g+1) 3 1 rowI (.slice da ds.length dc) ds from OwnR.kept HOD2.out (fun j hj=>hg5 j (OwnR.lt HOD2.out j hj).2 (fun e=>HAP.out j hj e.symm)));have HQ3:=hid (HQ2.out.below hb5 hrg hg);obtain⟨k0,k1,k2,k3,k4,k5,k6⟩:=HQ3.out.1.cells;obtain⟨m0,m1,m2,m3,m4,m5,m6⟩:=HQ3.out.1.unfrozen;have gl3:=HQ3.out.1.lt;have hz3:=HS0.out.touch HQ3.out.2.2 (show s≠r by omega);obtain⟨n0,n1,n2,n3,n4,n5,n6⟩:=hz3.cells;obtain⟨o0,o1,o2,o3,o4,o5,o6⟩:=hz3.unfrozen;have hzl3:=hz3.lt;clear hz3;clear ho5 hb5 hg5)
  |fail)
 ·refine bodyPost_ret (zA5 Tryz.results83 _ _ ⟨s,0,none⟩ (.agg #[.int .i64 id,.int .i64 kind,.int .i64 addr,.int .i64 many,.bool wp,.slice da ds.length dc,.slice la ls.length lc]) rfl (zB5 _ _ _ _ _ _ _ _ _ (by simp[go_sem, *]) (by simp[go_sem, *]) (by simp[go_sem, *]) (by simp[go_sem, *]) (by simp[go_sem, *]) (by simp[go_sem, *]) (by simp[go_sem, *]))) rfl ⟨_,_,⟨id,kind,addr,many,wp,ds,ls⟩,q1,rfl,?od,?ol,?i,?ld,?ll,fun _=>HRO.out,by omega,?r,?t⟩
  case od=>
   have X:=HOD1.out.rebase (show w.heap.size≤g+1 by omega);have L:=(fun j hj=>(OwnR.lt HOD1.out j hj).1:∀j,_→g+1≤j)
   repeat(first|with_reducible exact X|with_reducible refine Owns.drewd ?_|with_reducible refine Owns.allocd ?_ _|with_reducible refine Owns.set' ?_ _ _ _ (fun j hj=>by have:=L j hj;omega))
  case ol=>
   have X:=HOL1.out.rebase (show w.heap.size≤g+1 by omega);have L:=(fun j hj=>(OwnR.lt HOL1.out j hj).1:∀j,_→g+1≤j)
   repeat(first|with_reducible exact X|with_reducible refine Owns.drewd ?_|with_reducible refine Owns.allocd ?_ _|with_reducible refine Owns.set' ?_ _ _ _ (fun j hj=>by have:=L j hj;omega))
  case i=>exact⟨by simp only[I64];omega,by simp only[I64];omega,by simp only[I64];omega,by simp only[I64];omega,I64D.out,I64L.out⟩
  case ld=>simp;omega
  case ll=>simp;omega
  case r=>
   have X:=HQ1.out.2.1
   repeat(first|with_reducible exact X|with_reducible refine RdAt.drewd ?_|with_reducible refine RdAt.alloc ?_ _|with_reducible refine RdAt.setNew ?_ hrs (by omega) _ _)
  case t=>
   have X:=HT0.out.trans HQ1.out.2.2
   repeat(first|with_reducible exact X|with_reducible refine Touch.drewd ?_|with_reducible refine Touch.alloc ?_ _|with_reducible refine Touch.setNew ?_ (by omega) _)
 ·refine bodyPost_ret (zA5 Tryz.results83 _ _ ⟨s,0,none⟩ (.agg #[.int .i64 (-1),.int .i64 kind,.int .i64 addr,.int .i64 many,.bool wp,.slice da ds.length dc,.slice la ls.length lc]) rfl (zB5 _ _ _ _ _ _ _ _ _ (by simp[go_sem, *]) (by simp[go_sem, *]) (by simp[go_sem, *]) (by simp[go_sem, *]) (by simp[go_sem, *]) (by simp[go_sem, *]) (by simp[go_sem, *]))) rfl ⟨_,_,⟨(-1),kind,addr,many,wp,ds,ls⟩,q1+1+1,rfl,?od,?ol,?i,?ld,?ll,fun h9=>absurd (HB9.out h9) (by simp),by omega,?r,?t⟩
  case od=>
   have X:=HOD3.out.rebase (show w.heap.size≤g+1 by omega);have L:=(fun j hj=>(OwnR.lt HOD3.out j hj).1:∀j,_→g+1≤j)
   repeat(first|with_reducible exact X|with_reducible refine Owns.drewd ?_|with_reducible refine Owns.allocd ?_ _|with_reducible refine Owns.set' ?_ _ _ _ (fun j hj=>by have:=L j hj;omega))
  case ol=>
   have X:=HOL3.out.rebase (show w.heap.size≤g+1 by omega);have L:=(fun j hj=>(OwnR.lt HOL3.out j hj).1:∀j,_→g+1≤j)
   repeat(first|with_reducible exact X|with_reducible refine Owns.drewd ?_|with_reducible refine Owns.allocd ?_ _|with_reducible refine Owns.set' ?_ _ _ _ (fun j hj=>by have:=L j hj;omega))
  case i=>exact⟨by simp only[I64];omega,by simp only[I64];omega,by simp only[I64];omega,by simp only[I64];omega,I64D.out,I64L.out⟩
  case ld=>simp;omega
  case ll=>simp;omega
  case r=>
   have X:=HQ3.out.2.1
   repeat(first|with_reducible exact X|with_reducible refine RdAt.drewd ?_|with_reducible refine RdAt.alloc ?_ _|with_reducible refine RdAt.setNew ?_ hrs (by omega) _ _)
  case t=>
   have X:=HT0.out.trans HQ3.out.2.2
   repeat(first|with_reducible exact X|with_reducible refine Touch.drewd ?_|with_reducible refine Touch.alloc ?_ _|with_reducible refine Touch.setNew ?_ (by omega) _)
 ·refine bodyPost_ret (zA5 Tryz.results83 _ _ ⟨s,0,none⟩ (.agg #[.int .i64 2,.int .i64 kind,.int .i64 addr,.int .i64 many,.bool wp,.slice da ds.length dc,.slice la ls.length lc]) rfl (zB5 _ _ _ _ _ _ _ _ _ (by simp[go_sem, *]) (by simp[go_sem, *]) (by simp[go_sem, *]) (by simp[go_sem, *]) (by simp[go_sem, *]) (by simp[go_sem, *]) (by simp[go_sem, *]))) rfl ⟨_,_,⟨2,kind,addr,many,wp,ds,ls⟩,q1+1+1,rfl,?od,?ol,?i,?ld,?ll,fun h9=>absurd (HB9.out h9) (by simp),by omega,?r,?t⟩
  case od=>
   have X:=HOD3.out.rebase (show w.heap.size≤g+1 by omega);have L:=(fun j hj=>(OwnR.lt HOD3.out j hj).1:∀j,_→g+1≤j)
   repeat(first|with_reducible exact X|with_reducible refine Owns.drewd ?_|with_reducible refine Owns.allocd ?_ _|with_reducible refine Owns.set' ?_ _ _ _ (fun j hj=>by have:=L j hj;omega))
  case ol=>
   have X:=HOL3.out.rebase (show w.heap.size≤g+1 by omega);have L:=(fun j hj=>(OwnR.lt HOL3.out j hj).1:∀j,_→g+1≤j)
   repeat(first|with_reducible exact X|with_reducible refine Owns.drewd ?_|with_reducible refine Owns.allocd ?_ _|with_reducible refine Owns.set' ?_ _ _ _ (fun j hj=>by have:=L j hj;omega))
  case i=>exact⟨by simp only[I64];omega,by simp only[I64];omega,by simp only[I64];omega,by simp only[I64];omega,I64D.out,I64L.out⟩
  case ld=>simp;omega
  case ll=>simp;omega
  case r=>
   have X:=HQ3.out.2.1
   repeat(first|with_reducible exact X|with_reducible refine RdAt.drewd ?_|with_reducible refine RdAt.alloc ?_ _|with_reducible refine RdAt.setNew ?_ hrs (by omega) _ _)
  case t=>
   have X:=HT0.out.trans HQ3.out.2.2
   repeat(first|with_reducible exact X|with_reducible refine Touch.drewd ?_|with_reducible refine Touch.alloc ?_ _|with_reducible refine Touch.setNew ?_ (by omega) _)
 ·refine bodyPost_ret (zA5 Tryz.results83 _ _ ⟨s,0,none⟩ (.agg #[.int .i64 id,.int .i64 0,.int .i64 addr,.int .i64 many,.bool wp,.slice da ds.length dc,.slice la ls.length lc]) rfl (zB5 _ _ _ _ _ _ _ _ _ (by simp[go_sem, *]) (by simp[go_sem, *]) (by simp[go_sem, *]) (by simp[go_sem, *]) (by simp[go_sem, *]) (by simp[go_sem, *]) (by simp[go_sem, *]))) rfl ⟨_,_,⟨id,0,addr,many,wp,ds,ls⟩,q1+1+1,rfl,?od,?ol,?i,?ld,?ll,fun h9=>absurd (HB9.out h9) (by simp),by omega,?r,?t⟩
  case od=>
   have X:=HOD3.out.rebase (show w.heap.size≤g+1 by omega);have L:=(fun j hj=>(OwnR.lt HOD3.out j hj).1:∀j,_→g+1≤j)
   repeat(first|with_reducible exact X|with_reducible refine Owns.drewd ?_|with_reducible refine Owns.allocd ?_ _|with_reducible refine Owns.set' ?_ _ _ _ (fun j hj=>by have:=L j hj;omega))
  case ol=>
   have X:=HOL3.out.rebase (show w.heap.size≤g+1 by omega);have L:=(fun j hj=>(OwnR.lt HOL3.out j hj).1:∀j,_→g+1≤j)
   repeat(first|with_reducible exact X|with_reducible refine Owns.drewd ?_|with_reducible refine Owns.allocd ?_ _|with_reducible refine Owns.set' ?_ _ _ _ (fun j hj=>by have:=L j hj;omega))
  case i=>exact⟨by simp only[I64];omega,by simp only[I64];omega,by simp only[I64];omega,by simp only[I64];omega,I64D.out,I64L.out⟩
  case ld=>simp;omega
  case ll=>simp;omega
  case r=>
   have X:=HQ3.out.2.1
   repeat(first|with_reducible exact X|with_reducible refine RdAt.drewd ?_|with_reducible refine RdAt.alloc ?_ _|with_reducible refine RdAt.setNew ?_ hrs (by omega) _ _)
  case t=>
   have X:=HT0.out.trans HQ3.out.2.2
   repeat(first|with_reducible exact X|with_reducible refine Touch.drewd ?_|with_reducible refine Touch.alloc ?_ _|with_reducible refine Touch.setNew ?_ (by omega) _)
 ·refine bodyPost_ret (zA5 Tryz.results83 _ _ ⟨s,0,none⟩ (.agg #[.int .i64 id,.int .i64 5,.int .i64 addr,.int .i64 many,.bool wp,.slice da ds.length dc,.slice la ls.length lc]) rfl (zB5 _ _ _ _ _ _ _ _ _ (by simp[go_sem, *]) (by simp[go_sem, *]) (by simp[go_sem, *]) (by simp[go_sem, *]) (by simp[go_sem, *]) (by simp[go_sem, *]) (by simp[go_sem, *]))) rfl ⟨_,_,⟨id,5,addr,many,wp,ds,ls⟩,q1+1+1,rfl,?od,?ol,?i,?ld,?ll,fun h9=>absurd (HB9.out h9) (by simp),by omega,?r,?t⟩
  case od=>
   have X:=HOD3.out.rebase (show w.heap.size≤g+1 by omega);have L:=(fun j hj=>(OwnR.lt HOD3.out j hj).1:∀j,_→g+1≤j)
   repeat(first|with_reducible exact X|with_reducible refine Owns.drewd ?_|with_reducible refine Owns.allocd ?_ _|with_reducible refine Owns.set' ?_ _ _ _ (fun j hj=>by have:=L j hj;omega))
  case ol=>
   have X:=HOL3.out.rebase (show w.heap.size≤g+1 by omega);have L:=(fun j hj=>(OwnR.lt HOL3.out j hj).1:∀j,_→g+1≤j)
   repeat(first|with_reducible exact X|with_reducible refine Owns.drewd ?_|with_reducible refine Owns.allocd ?_ _|with_reducible refine Owns.set' ?_ _ _ _ (fun j hj=>by have:=L j hj;omega))
  case i=>exact⟨by simp only[I64];omega,by simp only[I64];omega,by simp only[I64];omega,by simp only[I64];omega,I64D.out,I64L.out⟩
  case ld=>simp;omega
  case ll=>simp;omega
  case r=>
   have X:=HQ3.out.2.1
   repeat(first|with_reducible exact X|with_reducible refine RdAt.drewd ?_|with_reducible refine RdAt.alloc ?_ _|with_reducible refine RdAt.setNew ?_ hrs (by omega) _ _)
  case t=>
   have X:=HT0.out.trans HQ3.out.2.2
   repeat(first|with_reducible exact X|with_reducible refine Touch.drewd ?_|with_reducible refine Touch.alloc ?_ _|with_reducible refine Touch.setNew ?_ (by omega) _)
 ·refine bodyPost_ret (zA5 Tryz.results83 _ _ ⟨s,0,none⟩ (.agg #[.int .i64 id,.int .i64 kind,.int .i64 (-1),.int .i64 many,.bool wp,.slice da ds.length dc,.slice la ls.length lc]) rfl (zB5 _ _ _ _ _ _ _ _ _ (by simp[go_sem, *]) (by simp[go_sem, *]) (by simp[go_sem, *]) (by simp[go_sem, *]) (by simp[go_sem, *]) (by simp[go_sem, *]) (by simp[go_sem, *]))) rfl ⟨_,_,⟨id,kind,(-1),many,wp,ds,ls⟩,q1+1+1,rfl,?od,?ol,?i,?ld,?ll,fun h9=>absurd (HB9.out h9) (by simp),by omega,?r,?t⟩
  case od=>
   have X:=HOD3.out.rebase (show w.heap.size≤g+1 by omega);have L:=(fun j hj=>(OwnR.lt HOD3.out j hj).1:∀j,_→g+1≤j)
   repeat(first|with_reducible exact X|with_reducible refine Owns.drewd ?_|with_reducible refine Owns.allocd ?_ _|with_reducible refine Owns.set' ?_ _ _ _ (fun j hj=>by have:=L j hj;omega))
  case ol=>
   have X:=HOL3.out.rebase (show w.heap.size≤g+1 by omega);have L:=(fun j hj=>(OwnR.lt HOL3.out j hj).1:∀j,_→g+1≤j)
   repeat(first|with_reducible exact X|with_reducible refine Owns.drewd ?_|with_reducible refine Owns.allocd ?_ _|with_reducible refine Owns.set' ?_ _ _ _ (fun j hj=>by have:=L j hj;omega))
  case i=>exact⟨by simp only[I64];omega,by simp only[I64];omega,by simp only[I64];omega,by simp only[I64];omega,I64D.out,I64L.out⟩
  case ld=>simp;omega
  case ll=>simp;omega
  case r=>
   have X:=HQ3.out.2.1
   repeat(first|with_reducible exact X|with_reducible refine RdAt.drewd ?_|with_reducible refine RdAt.alloc ?_ _|with_reducible refine RdAt.setNew ?_ hrs (by omega) _ _)
  case t=>
   have X:=HT0.out.trans HQ3.out.2.2
   repeat(first|with_reducible exact X|with_reducible refine Touch.drewd ?_|with_reducible refine Touch.alloc ?_ _|with_reducible refine Touch.setNew ?_ (by omega) _)
 ·refine bodyPost_ret (zA5 Tryz.results83 _ _ ⟨s,0,none⟩ (.agg #[.int .i64 id,.int .i64 kind,.int .i64 64,.int .i64 many,.bool wp,.slice da ds.length dc,.slice la ls.length lc]) rfl (zB5 _ _ _ _ _ _ _ _ _ (by simp[go_sem, *]) (by simp[go_sem, *]) (by simp[go_sem, *]) (by simp[go_sem, *]) (by simp[go_sem, *]) (by simp[go_sem, *]) (by simp[go_sem, *]))) rfl ⟨_,_,⟨id,kind,64,many,wp,ds,ls⟩,q1+1+1,rfl,?od,?ol,?i,?ld,?ll,fun h9=>absurd (HB9.out h9) (by simp),by omega,?r,?t⟩
  case od=>
   have X:=HOD3.out.rebase (show w.heap.size≤g+1 by omega);have L:=(fun j hj=>(OwnR.lt HOD3.out j hj).1:∀j,_→g+1≤j)
   repeat(first|with_reducible exact X|with_reducible refine Owns.drewd ?_|with_reducible refine Owns.allocd ?_ _|with_reducible refine Owns.set' ?_ _ _ _ (fun j hj=>by have:=L j hj;omega))
  case ol=>
   have X:=HOL3.out.rebase (show w.heap.size≤g+1 by omega);have L:=(fun j hj=>(OwnR.lt HOL3.out j hj).1:∀j,_→g+1≤j)
   repeat(first|with_reducible exact X|with_reducible refine Owns.drewd ?_|with_reducible refine Owns.allocd ?_ _|with_reducible refine Owns.set' ?_ _ _ _ (fun j hj=>by have:=L j hj;omega))
  case i=>exact⟨by simp only[I64];omega,by simp only[I64];omega,by simp only[I64];omega,by simp only[I64];omega,I64D.out,I64L.out⟩
  case ld=>simp;omega
  case ll=>simp;omega
  case r=>
   have X:=HQ3.out.2.1
   repeat(first|with_reducible exact X|with_reducible refine RdAt.drewd ?_|with_reducible refine RdAt.alloc ?_ _|with_reducible refine RdAt.setNew ?_ hrs (by omega) _ _)
  case t=>
   have X:=HT0.out.trans HQ3.out.2.2
   repeat(first|with_reducible exact X|with_reducible refine Touch.drewd ?_|with_reducible refine Touch.alloc ?_ _|with_reducible refine Touch.setNew ?_ (by omega) _)
 ·refine bodyPost_ret (zA5 Tryz.results83 _ _ ⟨s,0,none⟩ (.agg #[.int .i64 id,.int .i64 kind,.int .i64 63,.int .i64 many,.bool wp,.slice da ds.length dc,.slice la ls.length lc]) rfl (zB5 _ _ _ _ _ _ _ _ _ (by simp[go_sem, *]) (by simp[go_sem, *]) (by simp[go_sem, *]) (by simp[go_sem, *]) (by simp[go_sem, *]) (by simp[go_sem, *]) (by simp[go_sem, *]))) rfl ⟨_,_,⟨id,kind,63,many,wp,ds,ls⟩,q1+1+1,rfl,?od,?ol,?i,?ld,?ll,fun h9=>absurd (HB9.out h9) (by simp),by omega,?r,?t⟩
  case od=>
   have X:=HOD3.out.rebase (show w.heap.size≤g+1 by omega);have L:=(fun j hj=>(OwnR.lt HOD3.out j hj).1:∀j,_→g+1≤j)
   repeat(first|with_reducible exact X|with_reducible refine Owns.drewd ?_|with_reducible refine Owns.allocd ?_ _|with_reducible refine Owns.set' ?_ _ _ _ (fun j hj=>by have:=L j hj;omega))
  case ol=>
   have X:=HOL3.out.rebase (show w.heap.size≤g+1 by omega);have L:=(fun j hj=>(OwnR.lt HOL3.out j hj).1:∀j,_→g+1≤j)
   repeat(first|with_reducible exact X|with_reducible refine Owns.drewd ?_|with_reducible refine Owns.allocd ?_ _|with_reducible refine Owns.set' ?_ _ _ _ (fun j hj=>by have:=L j hj;omega))
  case i=>exact⟨by simp only[I64];omega,by simp only[I64];omega,by simp only[I64];omega,by simp only[I64];omega,I64D.out,I64L.out⟩
  case ld=>simp;omega
  case ll=>simp;omega
  case r=>
   have X:=HQ3.out.2.1
   repeat(first|with_reducible exact X|with_reducible refine RdAt.drewd ?_|with_reducible refine RdAt.alloc ?_ _|with_reducible refine RdAt.setNew ?_ hrs (by omega) _ _)
  case t=>
   have X:=HT0.out.trans HQ3.out.2.2
   repeat(first|with_reducible exact X|with_reducible refine Touch.drewd ?_|with_reducible refine Touch.alloc ?_ _|with_reducible refine Touch.setNew ?_ (by omega) _)
 ·refine bodyPost_ret (zA5 Tryz.results83 _ _ ⟨s,0,none⟩ (.agg #[.int .i64 id,.int .i64 kind,.int .i64 addr,.int .i64 0,.bool wp,.slice da ds.length dc,.slice la ls.length lc]) rfl (zB5 _ _ _ _ _ _ _ _ _ (by simp[go_sem, *]) (by simp[go_sem, *]) (by simp[go_sem, *]) (by simp[go_sem, *]) (by simp[go_sem, *]) (by simp[go_sem, *]) (by simp[go_sem, *]))) rfl ⟨_,_,⟨id,kind,addr,0,wp,ds,ls⟩,q1+1+1,rfl,?od,?ol,?i,?ld,?ll,fun h9=>absurd (HB9.out h9) (by simp),by omega,?r,?t⟩
  case od=>
   have X:=HOD3.out.rebase (show w.heap.size≤g+1 by omega);have L:=(fun j hj=>(OwnR.lt HOD3.out j hj).1:∀j,_→g+1≤j)
   repeat(first|with_reducible exact X|with_reducible refine Owns.drewd ?_|with_reducible refine Owns.allocd ?_ _|with_reducible refine Owns.set' ?_ _ _ _ (fun j hj=>by have:=L j hj;omega))
  case ol=>
   have X:=HOL3.out.rebase (show w.heap.size≤g+1 by omega);have L:=(fun j hj=>(OwnR.lt HOL3.out j hj).1:∀j,_→g+1≤j)
   repeat(first|with_reducible exact X|with_reducible refine Owns.drewd ?_|with_reducible refine Owns.allocd ?_ _|with_reducible refine Owns.set' ?_ _ _ _ (fun j hj=>by have:=L j hj;omega))
  case i=>exact⟨by simp only[I64];omega,by simp only[I64];omega,by simp only[I64];omega,by simp only[I64];omega,I64D.out,I64L.out⟩
  case ld=>simp;omega
  case ll=>simp;omega
  case r=>
   have X:=HQ3.out.2.1
   repeat(first|with_reducible exact X|with_reducible refine RdAt.drewd ?_|with_reducible refine RdAt.alloc ?_ _|with_reducible refine RdAt.setNew ?_ hrs (by omega) _ _)
  case t=>
   have X:=HT0.out.trans HQ3.out.2.2
   repeat(first|with_reducible exact X|with_reducible refine Touch.drewd ?_|with_reducible refine Touch.alloc ?_ _|with_reducible refine Touch.setNew ?_ (by omega) _)
 ·refine bodyPost_ret (zA5 Tryz.results83 _ _ ⟨s,0,none⟩ (.agg #[.int .i64 id,.int .i64 kind,.int .i64 addr,.int .i64 3,.bool wp,.slice da ds.length dc,.slice la ls.length lc]) rfl (zB5 _ _ _ _ _ _ _ _ _ (by simp[go_sem, *]) (by simp[go_sem, *]) (by simp[go_sem, *]) (by simp[go_sem, *]) (by simp[go_sem, *]) (by simp[go_sem, *]) (by simp[go_sem, *]))) rfl ⟨_,_,⟨id,kind,addr,3,wp,ds,ls⟩,q1+1+1,rfl,?od,?ol,?i,?ld,?ll,fun h9=>absurd (HB9.out h9) (by simp),by omega,?r,?t⟩
  case od=>
   have X:=HOD3.out.rebase (show w.heap.size≤g+1 by omega);have L:=(fun j hj=>(OwnR.lt HOD3.out j hj).1:∀j,_→g+1≤j)
   repeat(first|with_reducible exact X|with_reducible refine Owns.drewd ?_|with_reducible refine Owns.allocd ?_ _|with_reducible refine Owns.set' ?_ _ _ _ (fun j hj=>by have:=L j hj;omega))
  case ol=>
   have X:=HOL3.out.rebase (show w.heap.size≤g+1 by omega);have L:=(fun j hj=>(OwnR.lt HOL3.out j hj).1:∀j,_→g+1≤j)
   repeat(first|with_reducible exact X|with_reducible refine Owns.drewd ?_|with_reducible refine Owns.allocd ?_ _|with_reducible refine Owns.set' ?_ _ _ _ (fun j hj=>by have:=L j hj;omega))
  case i=>exact⟨by simp only[I64];omega,by simp only[I64];omega,by simp only[I64];omega,by simp only[I64];omega,I64D.out,I64L.out⟩
  case ld=>simp;omega
  case ll=>simp;omega
  case r=>
   have X:=HQ3.out.2.1
   repeat(first|with_reducible exact X|with_reducible refine RdAt.drewd ?_|with_reducible refine RdAt.alloc ?_ _|with_reducible refine RdAt.setNew ?_ hrs (by omega) _ _)
  case t=>
   have X:=HT0.out.trans HQ3.out.2.2
   repeat(first|with_reducible exact X|with_reducible refine Touch.drewd ?_|with_reducible refine Touch.alloc ?_ _|with_reducible refine Touch.setNew ?_ (by omega) _)
 ·refine bodyPost_ret (zA5 Tryz.results83 _ _ ⟨s,0,none⟩ (.agg #[.int .i64 id,.int .i64 kind,.int .i64 addr,.int .i64 8,.bool wp,.slice da ds.length dc,.slice la ls.length lc]) rfl (zB5 _ _ _ _ _ _ _ _ _ (by simp[go_sem, *]) (by simp[go_sem, *]) (by simp[go_sem, *]) (by simp[go_sem, *]) (by simp[go_sem, *]) (by simp[go_sem, *]) (by simp[go_sem, *]))) rfl ⟨_,_,⟨id,kind,addr,8,wp,ds,ls⟩,q1+1+1,rfl,?od,?ol,?i,?ld,?ll,fun h9=>absurd (HB9.out h9) (by simp),by omega,?r,?t⟩
  case od=>
   have X:=HOD3.out.rebase (show w.heap.size≤g+1 by omega);have L:=(fun j hj=>(OwnR.lt HOD3.out j hj).1:∀j,_→g+1≤j)
   repeat(first|with_reducible exact X|with_reducible refine Owns.drewd ?_|with_reducible refine Owns.allocd ?_ _|with_reducible refine Owns.set' ?_ _ _ _ (fun j hj=>by have:=L j hj;omega))
  case ol=>
   have X:=HOL3.out.rebase (show w.heap.size≤g+1 by omega);have L:=(fun j hj=>(OwnR.lt HOL3.out j hj).1:∀j,_→g+1≤j)
   repeat(first|with_reducible exact X|with_reducible refine Owns.drewd ?_|with_reducible refine Owns.allocd ?_ _|with_reducible refine Owns.set' ?_ _ _ _ (fun j hj=>by have:=L j hj;omega))
  case i=>exact⟨by simp only[I64];omega,by simp only[I64];omega,by simp only[I64];omega,by simp only[I64];omega,I64D.out,I64L.out⟩
  case ld=>simp;omega
  case ll=>simp;omega
  case r=>
   have X:=HQ3.out.2.1
   repeat(first|with_reducible exact X|with_reducible refine RdAt.drewd ?_|with_reducible refine RdAt.alloc ?_ _|with_reducible refine RdAt.setNew ?_ hrs (by omega) _ _)
  case t=>
   have X:=HT0.out.trans HQ3.out.2.2
   repeat(first|with_reducible exact X|with_reducible refine Touch.drewd ?_|with_reducible refine Touch.alloc ?_ _|with_reducible refine Touch.setNew ?_ (by omega) _)
 ·refine bodyPost_ret (zA5 Tryz.results83 _ _ ⟨s,0,none⟩ (.agg #[.int .i64 id,.int .i64 kind,.int .i64 addr,.int .i64 4,.bool wp,.slice da ds.length dc,.slice la ls.length lc]) rfl (zB5 _ _ _ _ _ _ _ _ _ (by simp[go_sem, *]) (by simp[go_sem, *]) (by simp[go_sem, *]) (by simp[go_sem, *]) (by simp[go_sem, *]) (by simp[go_sem, *]) (by simp[go_sem, *]))) rfl ⟨_,_,⟨id,kind,addr,4,wp,ds,ls⟩,q1+1+1,rfl,?od,?ol,?i,?ld,?ll,fun h9=>absurd (HB9.out h9) (by simp),by omega,?r,?t⟩
  case od=>
   have X:=HOD3.out.rebase (show w.heap.size≤g+1 by omega);have L:=(fun j hj=>(OwnR.lt HOD3.out j hj).1:∀j,_→g+1≤j)
   repeat(first|with_reducible exact X|with_reducible refine Owns.drewd ?_|with_reducible refine Owns.allocd ?_ _|with_reducible refine Owns.set' ?_ _ _ _ (fun j hj=>by have:=L j hj;omega))
  case ol=>
   have X:=HOL3.out.rebase (show w.heap.size≤g+1 by omega);have L:=(fun j hj=>(OwnR.lt HOL3.out j hj).1:∀j,_→g+1≤j)
   repeat(first|with_reducible exact X|with_reducible refine Owns.drewd ?_|with_reducible refine Owns.allocd ?_ _|with_reducible refine Owns.set' ?_ _ _ _ (fun j hj=>by have:=L j hj;omega))
  case i=>exact⟨by simp only[I64];omega,by simp only[I64];omega,by simp only[I64];omega,by simp only[I64];omega,I64D.out,I64L.out⟩
  case ld=>simp;omega
  case ll=>simp;omega
  case r=>
   have X:=HQ3.out.2.1
   repeat(first|with_reducible exact X|with_reducible refine RdAt.drewd ?_|with_reducible refine RdAt.alloc ?_ _|with_reducible refine RdAt.setNew ?_ hrs (by omega) _ _)
  case t=>
   have X:=HT0.out.trans HQ3.out.2.2
   repeat(first|with_reducible exact X|with_reducible refine Touch.drewd ?_|with_reducible refine Touch.alloc ?_ _|with_reducible refine Touch.setNew ?_ (by omega) _)
 ·refine bodyPost_ret (zA5 Tryz.results83 _ _ ⟨s,0,none⟩ (.agg #[.int .i64 id,.int .i64 kind,.int .i64 addr,.int .i64 many,.bool wp,.slice va (ds.length+1) vc,.slice la ls.length lc]) rfl (zB5 _ _ _ _ _ _ _ _ _ (by simp[go_sem, *]) (by simp[go_sem, *]) (by simp[go_sem, *]) (by simp[go_sem, *]) (by simp[go_sem, *]) (by simp[go_sem, *]) (by simp[go_sem, *]))) rfl ⟨_,_,⟨id,kind,addr,many,wp,ds++[5],ls⟩,q1+1,rfl,?od,?ol,?i,?ld,?ll,fun h9=>absurd (HB9.out h9) (by simp),by omega,?r,?t⟩
  case od=>
   have X:=HOD3.out.rebase (show w.heap.size≤g+1 by omega);have L:=(fun j hj=>(OwnR.lt HOD3.out j hj).1:∀j,_→g+1≤j)
   repeat(first|with_reducible exact X|with_reducible refine Owns.drewd ?_|with_reducible refine Owns.allocd ?_ _|with_reducible refine Owns.set' ?_ _ _ _ (fun j hj=>by have:=L j hj;omega))
  case ol=>
   have X:=HOL3.out.rebase (show w.heap.size≤g+1 by omega);have L:=(fun j hj=>(OwnR.lt HOL3.out j hj).1:∀j,_→g+1≤j)
   repeat(first|with_reducible exact X|with_reducible refine Owns.drewd ?_|with_reducible refine Owns.allocd ?_ _|with_reducible refine Owns.set' ?_ _ _ _ (fun j hj=>by have:=L j hj;omega))
  case i=>exact⟨by simp only[I64];omega,by simp only[I64];omega,by simp only[I64];omega,by simp only[I64];omega,app64I I64D.out (by simp only[I64];omega),I64L.out⟩
  case ld=>simp;omega
  case ll=>simp;omega
  case r=>
   have X:=HQ3.out.2.1
   repeat(first|with_reducible exact X|with_reducible refine RdAt.drewd ?_|with_reducible refine RdAt.alloc ?_ _|with_reducible refine RdAt.setNew ?_ hrs (by omega) _ _)
  case t=>
   have X:=HT0.out.trans HQ3.out.2.2
   repeat(first|with_reducible exact X|with_reducible refine Touch.drewd ?_|with_reducible refine Touch.alloc ?_ _|with_reducible refine Touch.setNew ?_ (by omega) _)
 ·refine bodyPost_ret (zA5 Tryz.results83 _ _ ⟨s,0,none⟩ (.agg #[.int .i64 id,.int .i64 kind,.int .i64 addr,.int .i64 many,.bool wp,.slice da ds.length dc,.slice va (ls.length+1) vc]) rfl (zB5 _ _ _ _ _ _ _ _ _ (by simp[go_sem, *]) (by simp[go_sem, *]) (by simp[go_sem, *]) (by simp[go_sem, *]) (by simp[go_sem, *]) (by simp[go_sem, *]) (by simp[go_sem, *]))) rfl ⟨_,_,⟨id,kind,addr,many,wp,ds,ls++[1]⟩,q1+1,rfl,?od,?ol,?i,?ld,?ll,fun h9=>absurd (HB9.out h9) (by simp),by omega,?r,?t⟩
  case od=>
   have X:=HOD3.out.rebase (show w.heap.size≤g+1 by omega);have L:=(fun j hj=>(OwnR.lt HOD3.out j hj).1:∀j,_→g+1≤j)
   repeat(first|with_reducible exact X|with_reducible refine Owns.drewd ?_|with_reducible refine Owns.allocd ?_ _|with_reducible refine Owns.set' ?_ _ _ _ (fun j hj=>by have:=L j hj;omega))
  case ol=>
   have X:=HOL3.out.rebase (show w.heap.size≤g+1 by omega);have L:=(fun j hj=>(OwnR.lt HOL3.out j hj).1:∀j,_→g+1≤j)
   repeat(first|with_reducible exact X|with_reducible refine Owns.drewd ?_|with_reducible refine Owns.allocd ?_ _|with_reducible refine Owns.set' ?_ _ _ _ (fun j hj=>by have:=L j hj;omega))
  case i=>exact⟨by simp only[I64];omega,by simp only[I64];omega,by simp only[I64];omega,by simp only[I64];omega,I64D.out,app64I I64L.out (by simp only[I64];omega)⟩
  case ld=>simp;omega
  case ll=>simp;omega
  case r=>
   have X:=HQ3.out.2.1
   repeat(first|with_reducible exact X|with_reducible refine RdAt.drewd ?_|with_reducible refine RdAt.alloc ?_ _|with_reducible refine RdAt.setNew ?_ hrs (by omega) _ _)
  case t=>
   have X:=HT0.out.trans HQ3.out.2.2
   repeat(first|with_reducible exact X|with_reducible refine Touch.drewd ?_|with_reducible refine Touch.alloc ?_ _|with_reducible refine Touch.setNew ?_ (by omega) _)
 ·have hd0:0<ds.length:=by first|assumption|omega|(simp at *;omega)
  have hsr:=HOD2.out.someR (by omega);obtain⟨gd,go,c', e', hc1', hc2', hgd1,hgd2⟩:=hsr;simp only[Value.slice.injEq,true_and]at e';obtain⟨rfl,rfl⟩:=e';have HAG:=hid (HAP.out gd rfl)
  go_wp2_with fail
  go_region_with (first
   |(go_at_call 82;(with_reducible refine(zB8 r B bs (q1+1) 2 w2.drew h2.drewd (by omega) (by omega) (by omega)).mono ?_);rintro e w3 ⟨z', rfl,z0,z1,h3,ht3⟩;obtain⟨z,rfl⟩:=Int.eq_ofNat_of_zero_le z0;have hz:z<2:=(by omega);obtain⟨y,hl1,hy⟩:=tab2 (-1) 65536 hz;have hl2:=zF1 hl1;clear hz;have hzi:(z:Int)<2:=z1;clear z1;have HQ3:=hid (HQ2.out.drewd.touch hgr h3 ht3);have HOD3:=hid (HOD2.out.drewd.touch ht3 (by omega));have HOL3:=hid (HOL2.out.drewd.touch ht3 (by omega));obtain⟨k0,k1,k2,k3,k4,k5,k6⟩:=HQ3.out.1.cells;obtain⟨m0,m1,m2,m3,m4,m5,m6⟩:=HQ3.out.1.unfrozen;have gl3:=HQ3.out.1.lt;have hz3:=HS0.out.touch HQ3.out.2.2 (show s≠r by omega);obtain⟨n0,n1,n2,n3,n4,n5,n6⟩:=hz3.cells;obtain⟨o0,o1,o2,o3,o4,o5,o6⟩:=hz3.unfrozen;have hzl3:=hz3.lt;clear hz3;have zc:w3.cell? ⟨gd,go,none⟩=_:=HOD3.out.cellI 0 hd0;have zf:w3.frozen? ⟨gd,go,none⟩=false:=HOD3.out.frozenI 0;have zl:gd<w3.heap.size:=HOD3.out.ltI.2)
   |(go_at_call 82;(with_reducible refine(zB8 r B bs (q1+1) 2 (w2.alloc _).drew (h2.alloc _).drewd (by omega) (by omega) (by omega)).mono ?_);rintro e w3 ⟨z', rfl,z0,z1,h3,ht3⟩;obtain⟨z,rfl⟩:=Int.eq_ofNat_of_zero_le z0;have hz:z<2:=(by omega);obtain⟨y,hl1,hy⟩:=tab2 (-1) 65536 hz;have hl2:=zF1 hl1;clear hz;have hzi:(z:Int)<2:=z1;clear z1;have tB:=Touch.tab ht3.ofDrew h2.lt z _ hl2;have tl:=World.block_lt_of_cell? w3 _ tB;have HQ3:=hid ((HQ2.out.alloc _).drewd.touch hgr h3 ht3);have HOD3:=hid ((HOD2.out.allocd _).drewd.touch ht3 (by omega));have HOL3:=hid ((HOL2.out.allocd _).drewd.touch ht3 (by omega));obtain⟨k0,k1,k2,k3,k4,k5,k6⟩:=HQ3.out.1.cells;obtain⟨m0,m1,m2,m3,m4,m5,m6⟩:=HQ3.out.1.unfrozen;have gl3:=HQ3.out.1.lt;have hz3:=HS0.out.touch HQ3.out.2.2 (show s≠r by omega);obtain⟨n0,n1,n2,n3,n4,n5,n6⟩:=hz3.cells;obtain⟨o0,o1,o2,o3,o4,o5,o6⟩:=hz3.unfrozen;have hzl3:=hz3.lt;clear hz3;have zc:w3.cell? ⟨gd,go,none⟩=_:=HOD3.out.cellI 0 hd0;have zf:w3.frozen? ⟨gd,go,none⟩=false:=HOD3.out.frozenI 0;have zl:gd<w3.heap.size:=HOD3.out.ltI.2))
  all_goals
   go_wp2_with fail
   refine bodyPost_ret (zA5 Tryz.results83 _ _ ⟨s,0,none⟩ (.agg #[.int .i64 id,.int .i64 kind,.int .i64 addr,.int .i64 many,.bool wp,.slice (some ⟨gd,go,none⟩) ds.length dc,.slice la ls.length lc]) rfl (zB5 _ _ _ _ _ _ _ _ _ (by simp[go_sem, *]) (by simp[go_sem, *]) (by simp[go_sem, *]) (by simp[go_sem, *]) (by simp[go_sem, *]) (by simp[go_sem, *]) (by simp[go_sem, *]))) rfl ⟨_,_,⟨id,kind,addr,many,wp,ds.set 0 y,ls⟩,q1+1+1,rfl,?od,?ol,?i,?ld,?ll,fun h9=>absurd (HB9.out h9) (by simp),by omega,?r,?t⟩
   case od=>
    have X:=HOD3.out.rebase (show w.heap.size≤g+1 by omega);have L:=(fun j hj=>(OwnR.lt HOD3.out j hj).1:∀j,_→g+1≤j)
    repeat(first|with_reducible exact X|with_reducible refine Owns.drewd ?_|with_reducible refine Owns.allocd ?_ _|with_reducible refine Owns.putRow1' ?_ 0 hd0 _ rfl|with_reducible refine Owns.set' ?_ _ _ _ (fun j hj=>by have:=L j hj;omega))
   case ol=>
    have X:=HOL3.out.rebase (show w.heap.size≤g+1 by omega);have L:=(fun j hj=>(OwnR.lt HOL3.out j hj).1:∀j,_→g+1≤j)
    repeat(first|with_reducible exact X|with_reducible refine Owns.drewd ?_|with_reducible refine Owns.allocd ?_ _|with_reducible refine Owns.set' ?_ _ _ _ (fun j hj=>by first|(have:=L j hj;omega)|exact fun e=>HAG.out (hj.trans (congrArg some e))))
    try exact Owns.set' X _ _ _ (fun j hj e=>HAG.out (hj.trans (congrArg some e)))
   case i=>exact⟨by simp only[I64];omega,by simp only[I64];omega,by simp only[I64];omega,by simp only[I64];omega,set64I I64D.out (by simp only[I64];omega),I64L.out⟩
   case ld=>simp;omega
   case ll=>simp;omega
   case r=>
    have X:=HQ3.out.2.1
    repeat(first|with_reducible exact X|with_reducible refine RdAt.drewd ?_|with_reducible refine RdAt.alloc ?_ _|with_reducible refine RdAt.setNew ?_ hrs (by omega) _ _)
   case t=>
    have X:=HT0.out.trans HQ3.out.2.2
    repeat(first|with_reducible exact X|with_reducible refine Touch.drewd ?_|with_reducible refine Touch.alloc ?_ _|with_reducible refine Touch.setNew ?_ (by omega) _)
 ·refine bodyPost_ret (zA5 Tryz.results83 _ _ ⟨s,0,none⟩ (.agg #[.int .i64 id,.int .i64 kind,.int .i64 addr,.int .i64 many,.bool wp,.slice da ds.length dc,.slice la ls.length lc]) rfl (zB5 _ _ _ _ _ _ _ _ _ (by simp[go_sem, *]) (by simp[go_sem, *]) (by simp[go_sem, *]) (by simp[go_sem, *]) (by simp[go_sem, *]) (by simp[go_sem, *]) (by simp[go_sem, *]))) rfl ⟨_,_,⟨id,kind,addr,many,wp,ds,ls⟩,q1+1,rfl,?od,?ol,?i,?ld,?ll,fun h9=>absurd (HB9.out h9) (by simp),by omega,?r,?t⟩
  case od=>
   have X:=HOD2.out.rebase (show w.heap.size≤g+1 by omega);have L:=(fun j hj=>(OwnR.lt HOD2.out j hj).1:∀j,_→g+1≤j)
   repeat(first|with_reducible exact X|with_reducible refine Owns.drewd ?_|with_reducible refine Owns.allocd ?_ _|with_reducible refine Owns.set' ?_ _ _ _ (fun j hj=>by have:=L j hj;omega))
  case ol=>
   have X:=HOL2.out.rebase (show w.heap.size≤g+1 by omega);have L:=(fun j hj=>(OwnR.lt HOL2.out j hj).1:∀j,_→g+1≤j)
   repeat(first|with_reducible exact X|with_reducible refine Owns.drewd ?_|with_reducible refine Owns.allocd ?_ _|with_reducible refine Owns.set' ?_ _ _ _ (fun j hj=>by have:=L j hj;omega))
  case i=>exact⟨by simp only[I64];omega,by simp only[I64];omega,by simp only[I64];omega,by simp only[I64];omega,I64D.out,I64L.out⟩
  case ld=>simp;omega
  case ll=>simp;omega
  case r=>
   have X:=HQ2.out.2.1
   repeat(first|with_reducible exact X|with_reducible refine RdAt.drewd ?_|with_reducible refine RdAt.alloc ?_ _|with_reducible refine RdAt.setNew ?_ hrs (by omega) _ _)
  case t=>
   have X:=HT0.out.trans HQ2.out.2.2
   repeat(first|with_reducible exact X|with_reducible refine Touch.drewd ?_|with_reducible refine Touch.alloc ?_ _|with_reducible refine Touch.setNew ?_ (by omega) _)
end Go.Proofs.YtgkdoehkmbhfiaaGreat
namespace Go.Proofs.YtgkdoehkmbhfiaaGreat
open Go.RowKit
attribute [local go_sem ↓] Go.wp_at_zero Go.wp_at_succ
set_option maxRecDepth 20000 in
theorem l20Req_any (r B : Nat) (bs : List Nat) (p : Nat) (n : Int) (w : World) (hr0 : RdAt w r B bs p) (hp : p ≤ 700000000) (h1n : 1 ≤ n) (hn : n ≤ 1099511627776) :
  Calls Tryz.prog 83 #[.pointer (some ⟨r,0,none⟩),.int .i64 n] w (ReqP r B bs p n w):=by
 have hrw:=hr0.lt
 go_enter Tryz.func83,Tryz.ntmps83
 go_upto_region 1 with fail
 obtain⟨w0,hw0⟩:∃w0,w0=w.alloc (.cells #[.int .i64 0,.int .i64 0,.int .i64 0,.int .i64 0,.bool false,.slice none 0 0,.slice none 0 0] 52):=⟨_,rfl⟩
 obtain⟨s,hs⟩:∃s,s=w.heap.size:=⟨_,rfl⟩
 rw[←hw0,←hs];have HS0:=hid (show qz w0 s by rw[hw0,hs];exact QW.new w);have h0:RdAt w0 r B bs p:=by rw[hw0];exact hr0.alloc _
 have HT0:=hid (show Touch r w w0 by rw[hw0];exact(Touch.refl r w).alloc _);have hz0:w0.heap.size=s+1:=by rw[hw0,hs];simp
 have hrs:r<s:=by omega
 have HSW:=hid hs.symm;clear hw0 hr0 hs
 go_cut [5] from 7 to 22 (fun v wc=>Req1 r B bs p w0 v wc)
 case first=>
  rename_i J K' hJ hK;exact req1_region r B bs p n s w0 h0 hp (by omega) _ _ _ _ _ _ _ _ _ _ _ _ _ _ _ _ _ (fun u5 u7 u8 u9 u10 u11 u12 u13 u14 u15 u16 u17 u18 u19 u20 u21 u22 wc h=>hK _ _ (Met.intro (hJ _ _ ⟨u5,u7,u8,u9,u10,u11,u12,u13,u14,u15,u16,u17,u18,u19,u20,u21,u22,h,rfl⟩)))
 case rest=>
  obtain⟨g,id,kind,addr,many,wp,q,rfl,hg,hQ', a0,a1,b0,b1,c0,c1,d1,hq,hR', hT'⟩:=hcut;have hgr:g≠r:=by omega
  have hrg:r<g:=by omega
  have hsg:s<g:=by omega
  have hrw':r<w0.heap.size:=by omega
  have hQ:RQ r B bs w0 g id kind addr many wp (.slice none 0 0) (.slice none 0 0) q wc:=⟨hQ', hR', hT'⟩
  clear hQ' hR' hT';have hR:=hQ.2.1;have hgl:=hQ.1.lt;obtain⟨k0,k1,k2,k3,k4,k5,k6⟩:=hQ.1.cells;obtain⟨m0,m1,m2,m3,m4,m5,m6⟩:=hQ.1.unfrozen;have HQ:=hid hQ;clear hQ
  go_upto_if 25 with fail
  go_cut [] from 23 (fun wd=>Req2 r B bs p g w0 id kind wp wd)
  case first=>
   by_cases hk:3≤kind
   ·go_wp2_with (first|(go_at_call 82;(with_reducible refine(zB8 r B bs q 4 ((wc.setCell _ _).alloc _) ((hR.setNew hrw' hg _ _).alloc _) (by omega) (by omega) (by omega)).mono ?_);rintro e w2 ⟨z', rfl,z0,z1,h2,ht2⟩;obtain⟨z,rfl⟩:=Int.eq_ofNat_of_zero_le z0;have hz:z<4:=(by omega);obtain⟨y,hl1,hy⟩:=tab4 0 1 16 32 hz;have hl2:=zF1 hl1;clear hz;have hzi:(z:Int)<4:=z1;clear z1;have tB:w2.cell? ⟨wc.heap.size,z,none⟩=some (.int .i64 y):=(by have:=(TW.ofNew ht2 (by simp[World.setCell];omega)).at_ z _ hl2;simpa[World.setCell]using this);have HQ2:=hid (((HQ.out.set3 hrw' hg 1).alloc _).touch hgr h2 ht2);obtain⟨k0,k1,k2,k3,k4,k5,k6⟩:=HQ2.out.1.cells;obtain⟨m0,m1,m2,m3,m4,m5,m6⟩:=HQ2.out.1.unfrozen))
    go_meet
    case rel=>exact⟨y,1,q+1,by omega,by omega,.inl rfl,fun _=>rfl,by omega,HQ2.out.set2 hrw' hg y⟩
   ·have hk2:decide (3≤kind)=false:=by simpa using hk
    go_wp2_with fail
    go_meet
    case rel=>exact⟨addr,many,q,c0,c1,d1,fun h=>by omega,by omega,HQ.out⟩
  clear k0 k1 k2 k3 k4 k5 k6 m0 m1 m2 m3 m4 m5 m6 hgl hR HQ hq c0 c1 d1 addr many q;obtain⟨addr,many,q,c0,c1,d1,d2,hq,hQ⟩:=hcut;have hR:=hQ.2.1;have hgl:=hQ.1.lt;obtain⟨k0,k1,k2,k3,k4,k5,k6⟩:=hQ.1.cells;obtain⟨m0,m1,m2,m3,m4,m5,m6⟩:=hQ.1.unfrozen;have HQ:=hid hQ;clear hQ
  go_upto_region 5 with fail
  go_cut [44] from 33 (fun v wd=>v=.bool (!wp&&decide (63<addr+many - 1))∧RQ r B bs w0 g id kind addr many wp (.slice none 0 0) (.slice none 0 0) q wd)
  case first=>
   have hm4:many≤4:=by omega
   have hm1:1≤many:=by omega
   rcases(show wp=false∨wp=true by cases wp <;> simp)with rfl|rfl
   ·by_cases hb:63<addr+many - 1
    ·go_wp2_with fail
     go_meet
     case rel=>exact⟨by simp[hb],HQ.out⟩
    ·have hb2:decide (63<addr+many - 1)=false:=by simpa using hb
     go_wp2_with fail
     go_meet
     case rel=>exact⟨by simp[hb2],HQ.out⟩
   ·go_wp2_with fail
    go_meet
    case rel=>exact⟨by simp,HQ.out⟩
  clear k0 k1 k2 k3 k4 k5 k6 m0 m1 m2 m3 m4 m5 m6 hgl hR HQ;obtain⟨rfl,hQ⟩:=hcut;have hR:=hQ.2.1;have hgl:=hQ.1.lt;obtain⟨k0,k1,k2,k3,k4,k5,k6⟩:=hQ.1.cells;obtain⟨m0,m1,m2,m3,m4,m5,m6⟩:=hQ.1.unfrozen;have HQ:=hid hQ;clear hQ
  go_upto_if 44 with fail
  go_cut [] from 44 (fun wd=>∃addr', 0≤addr' ∧ addr' ≤ 63∧(wp=false→addr' + many - 1≤63)∧RQ r B bs w0 g id kind addr' many wp (.slice none 0 0) (.slice none 0 0) q wd)
  case first=>
   have hm4:many≤4:=by omega
   have hm1:1≤many:=by omega
   rcases hb:(!wp&&decide (63<addr+many - 1))with _|_
   ·go_wp2_with fail
    go_meet
    case rel=>exact⟨addr,c0,c1,fun h=>by subst h;simp at hb;omega,HQ.out⟩
   ·go_wp2_with fail
    go_meet
    case rel=>exact⟨63 - many+1,by omega,by omega,fun _=>by omega,HQ.out.set2 hrw' hg _⟩
  clear k0 k1 k2 k3 k4 k5 k6 m0 m1 m2 m3 m4 m5 m6 hgl hR HQ c0 c1 addr;obtain⟨addr,c0,c1,hwn,hQ⟩:=hcut;have HOK:=hid (adr_ok3 c0 c1 d1 hwn);clear hwn;have hR:=hQ.2.1;have hgl:=hQ.1.lt;obtain⟨k0,k1,k2,k3,k4,k5,k6⟩:=hQ.1.cells;obtain⟨m0,m1,m2,m3,m4,m5,m6⟩:=hQ.1.unfrozen;have HQ:=hid hQ;clear hQ
  go_upto_region 7 with fail
  go_cut [57] from 50 (fun v wd=>v=.bool (kind==2 || kind==4)∧RQ r B bs w0 g id kind addr many wp (.slice none 0 0) (.slice none 0 0) q wd)
  case first=>
   rcases(show kind=1∨kind=2∨kind=3∨kind=4 by omega)with rfl|rfl|rfl|rfl
   all_goals
    go_wp2_with fail
    go_meet
    case rel=>exact⟨by simp,HQ.out⟩
  clear k0 k1 k2 k3 k4 k5 k6 m0 m1 m2 m3 m4 m5 m6 hgl hR HQ;obtain⟨rfl,hQ⟩:=hcut;have hR:=hQ.2.1;have hgl:=hQ.1.lt;obtain⟨k0,k1,k2,k3,k4,k5,k6⟩:=hQ.1.cells;obtain⟨m0,m1,m2,m3,m4,m5,m6⟩:=hQ.1.unfrozen;have HQ:=hid hQ;clear hQ
  go_upto_if 57 with fail
  go_cut [] from 57 (fun wd=>Req4 r B bs p g w0 id kind addr many wp wd)
  case first=>
   rcases hb:(kind==2 || kind==4)with _|_
   ·go_wp2_with fail
    go_meet
    case rel=>exact⟨_,_,[],[],q,req_ok3 a0 a1 b0 b1 HOK.out d2 (fun h=>by rw[hb]at h;cases h) (fun _=>⟨rfl,rfl⟩),by simp,by simp,Owns.zero,Owns.zero,fun j hj=>by simp[Value.ownBlock]at hj,by omega,HQ.out⟩
   ·have hb':(kind==2 || kind==4)=true:=hb;have HB:=hid hb';clear hb hb';obtain⟨m,rfl⟩:=Int.eq_ofNat_of_zero_le (show 0≤many by omega);have hm4:m≤4:=by omega
    go_wp2_with fail
    go_loopw [6] (fun i wr => ∃ (k : Nat) (ds ls : List Int) (da la : Option Addr) (dc lc q' : Nat), i = .int .i64 k ∧ k ≤ m ∧ q' ≤ q + 4 * k ∧ ds.length = k ∧ ls.length = k ∧ ds.all zB2 = true ∧ ls.all (fun l => inB l 0 3) = true ∧
      Owns wr (g+1) 3 1 rowI (.slice da k dc) ds∧Owns wr (g+1) 3 1 rowI (.slice la k lc) ls∧Apart (.slice da k dc) (.slice la k lc)∧RQ r B bs w0 g id kind addr m wp (.slice da k dc) (.slice la k lc) q' wr) (fun i _=>m - (intOf i).toNat)
    case atStart=>exact⟨0,[],[],none,none,0,0,q,rfl,by omega,by omega,rfl,rfl,rfl,rfl,Owns.zero,Owns.zero,fun j hj=>by simp[Value.ownBlock]at hj,HQ.out⟩
    case round=>
     clear k0 k1 k2 k3 k4 k5 k6 m0 m1 m2 m3 m4 m5 m6 hgl hR HQ;obtain⟨k,ds,ls,da,la,dc,lc,q', rfl,hkm,hq', hdl,hll,hdo,hlo,hod,hol,hap,hQ⟩:=hrel;have hR:=hQ.2.1;have hgl:=hQ.1.lt;obtain⟨k0,k1,k2,k3,k4,k5,k6⟩:=hQ.1.cells;obtain⟨m0,m1,m2,m3,m4,m5,m6⟩:=hQ.1.unfrozen;have HQ:=hid hQ;have HDL:=hid hdl;have HLL:=hid hll;have HDO:=hid hdo;have HLO:=hid hlo;have HOD:=hid hod;have HOL:=hid hol;have HAP:=hid hap;clear hQ hdl hll hdo hlo hod hol hap;by_cases hlt:k<m
     ·go_upto_region 11 with fail
      go_cut [] from 58 to 88 (fun wd=>∃(y:Int) (va:Option Addr) (vc:Nat),zB2 y=true∧Owns wd (g+1) 3 1 rowI (.slice va (k+1) vc) (ds++[y])∧Owns wd (g+1) 3 1 rowI (.slice la k lc) ls∧Apart (.slice va (k+1) vc) (.slice la k lc)∧RQ r B bs w0 g id kind addr m wp (.slice va (k+1) vc) (.slice la k lc) (q' + 3) wd)
      case first=>
       go_region_law (first
        |(refine step_pushN zJ2 rowI zF3 zI6 _ rfl (.tmp 65) (.tmp 76) rfl (g+1) _ ds y (by rfl) (by first|exact HOD3.out.allocd _|exact HOD3.out) _ (by rfl) _ _ (by rfl) (by first|rfl|(simp;done)) (by rw[HDL.out];omega) (by rw[HDL.out];omega) (by first|omega|(simp;omega)) ?_;intro v' w5 ho5 hb5 hg5 hv5;obtain⟨va,vc,hv', _,_⟩:=ho5.shape;rw[List.length_append,HDL.out]at hv';simp only[List.length_cons,List.length_nil,Nat.zero_add]at hv';subst hv';have HOD5:=hid ho5;have HQ5:=hid (show RQ r B bs w0 g id kind addr m wp (.slice da k dc) (.slice la k lc) (q' + 3) w5 from(by first|exact HQ3.out.below hb5 hrg hg|exact(HQ3.out.alloc _).below hb5 hrg hg));have HOL5:=hid (show Owns w5 (g+1) 3 1 rowI (.slice la k lc) ls from(by first|exact OwnR.kept HOL3.out (fun j hj=>hg5 j (OwnR.lt HOL3.out j hj).2 (fun e=>HAP.out j e.symm hj))|exact OwnR.kept (HOL3.out.allocd _) (fun j hj=>hg5 j (OwnR.lt (HOL3.out.allocd _) j hj).2 (fun e=>HAP.out j e.symm hj))));have HAP5:=hid (show Apart (.slice va (k+1) vc) (.slice la k lc) from(fun j hj e=>by rcases hv5 j hj with h|h;exact HAP.out j h e;have:=(OwnR.lt HOL3.out j e).2;first|omega|(simp at h;omega)));obtain⟨k0,k1,k2,k3,k4,k5,k6⟩:=HQ5.out.1.cells;obtain⟨m0,m1,m2,m3,m4,m5,m6⟩:=HQ5.out.1.unfrozen;clear ho5 hb5 hg5 hv5)
        | (go_simp; first
          |(go_at_call 82;(with_reducible refine(zB8 r B bs q' 256 wr.drew hR.drewd (by omega) (by omega) (by omega)).mono ?_);rintro e w1 ⟨x1,rfl,x10,x11,h1,ht1⟩;have HQ1:=hid (HQ.out.drewd.touch hgr h1 ht1);have HOD1:=hid (HOD.out.drewd.touch ht1 (by omega));have HOL1:=hid (HOL.out.drewd.touch ht1 (by omega));obtain⟨k0,k1,k2,k3,k4,k5,k6⟩:=HQ1.out.1.cells;obtain⟨m0,m1,m2,m3,m4,m5,m6⟩:=HQ1.out.1.unfrozen;have gl1:=HQ1.out.1.lt;have ew:IntKind.i64.wrap (x1 * 257)=x1 * 257:=(by rw[IntKind.wrap_i64];omega))
          |(go_at_call 82;(with_reducible refine(zB8 r B bs (q' + 1) 10 w1 h1 (by omega) (by omega) (by omega)).mono ?_);rintro e w2 ⟨x2,rfl,x20,x21,h2,ht2⟩;have HQ2:=hid (HQ1.out.touch hgr h2 ht2);have HOD2:=hid (HOD1.out.touch ht2 (by omega));have HOL2:=hid (HOL1.out.touch ht2 (by omega));obtain⟨k0,k1,k2,k3,k4,k5,k6⟩:=HQ2.out.1.cells;obtain⟨m0,m1,m2,m3,m4,m5,m6⟩:=HQ2.out.1.unfrozen;have gl2:=HQ2.out.1.lt)
          |(go_at_call 82;(with_reducible refine(zB8 r B bs (q' + 1+1) 4 w2 h2 (by omega) (by omega) (by omega)).mono ?_);rintro e w3 ⟨z', rfl,z0,z1,h3,ht3⟩;obtain⟨z,rfl⟩:=Int.eq_ofNat_of_zero_le z0;have hz:z<4:=(by omega);obtain⟨y,hl1,hy⟩:=tab4 (x1 * 257) x2 65535 0 hz;have hl2:=zF1 hl1;clear hz;have hzi:(z:Int)<4:=z1;clear z1;have HQ3:=hid (HQ2.out.touch hgr h3 ht3);have HOD3:=hid (HOD2.out.touch ht3 (by omega));have HOL3:=hid (HOL2.out.touch ht3 (by omega));obtain⟨k0,k1,k2,k3,k4,k5,k6⟩:=HQ3.out.1.cells;obtain⟨m0,m1,m2,m3,m4,m5,m6⟩:=HQ3.out.1.unfrozen;have gl3:=HQ3.out.1.lt)
          |(go_at_call 82;(with_reducible refine(zB8 r B bs (q' + 1+1) 4 (w2.alloc _) (h2.alloc _) (by omega) (by omega) (by omega)).mono ?_);rintro e w3 ⟨z', rfl,z0,z1,h3,ht3⟩;obtain⟨z,rfl⟩:=Int.eq_ofNat_of_zero_le z0;have hz:z<4:=(by omega);obtain⟨y,hl1,hy⟩:=tab4 (x1 * 257) x2 65535 0 hz;have hl2:=zF1 hl1;clear hz;have hzi:(z:Int)<4:=z1;clear z1;have tB:=Touch.tab ht3 h2.lt z _ hl2;have tl:=World.block_lt_of_cell? w3 _ tB;have HQ3:=hid ((HQ2.out.alloc _).touch hgr h3 ht3);have HOD3:=hid ((HOD2.out.allocd _).touch ht3 (by omega));have HOL3:=hid ((HOL2.out.allocd _).touch ht3 (by omega));obtain⟨k0,k1,k2,k3,k4,k5,k6⟩:=HQ3.out.1.cells;obtain⟨m0,m1,m2,m3,m4,m5,m6⟩:=HQ3.out.1.unfrozen;have gl3:=HQ3.out.1.lt)))
       all_goals
        go_wp2_with fail
        go_meet
        case rel=>exact⟨y,va,vc,by simp[zB2,inB];omega,HOD5.out.set' g 5 _ (fun j hj=>by have:=(OwnR.lt HOD5.out j hj).1;omega),HOL5.out.set' g 5 _ (fun j hj=>by have:=(OwnR.lt HOL5.out j hj).1;omega),HAP5.out,HQ5.out.set5 hrw' hg _⟩
      case rest=>
       clear k0 k1 k2 k3 k4 k5 k6 m0 m1 m2 m3 m4 m5 m6 hgl hR HQ HOD HOL HAP;obtain⟨y,va,vc,hwy,hod,hol,hap,hQ⟩:=hcut;have hR:=hQ.2.1;have hgl:=hQ.1.lt;obtain⟨k0,k1,k2,k3,k4,k5,k6⟩:=hQ.1.cells;obtain⟨m0,m1,m2,m3,m4,m5,m6⟩:=hQ.1.unfrozen;have HQ:=hid hQ;have HWY:=hid hwy;have HOD:=hid hod;have HOL:=hid hol;have HAP:=hid hap;clear hQ hwy hod hol hap
       go_upto_region 12 with fail
       go_region_law (first
        |(refine step_pushN zJ2 rowI zF3 zI6 _ rfl (.tmp 80) (.tmp 86) rfl (g+1) _ ls x (by rfl) (by first|exact HOL3.out.allocd _|exact HOL3.out) _ (by rfl) _ _ (by rfl) (by first|rfl|(simp;done)) (by rw[HLL.out];omega) (by rw[HLL.out];omega) (by first|omega|(simp;omega)) ?_;intro v' w5 ho5 hb5 hg5 hv5;obtain⟨ua,uc,hv', _,_⟩:=ho5.shape;rw[List.length_append,HLL.out]at hv';simp only[List.length_cons,List.length_nil,Nat.zero_add]at hv';subst hv';have HOL5:=hid ho5;have HQ5:=hid (show RQ r B bs w0 g id kind addr m wp (.slice va (k+1) vc) (.slice la k lc) (q' + 4) w5 from(by first|exact HQ3.out.below hb5 hrg hg|exact(HQ3.out.alloc _).below hb5 hrg hg));have HOD5:=hid (show Owns w5 (g+1) 3 1 rowI (.slice va (k+1) vc) (ds++[y]) from(by first|exact OwnR.kept HOD3.out (fun j hj=>hg5 j (OwnR.lt HOD3.out j hj).2 (fun e=>HAP.out j hj e.symm))|exact OwnR.kept (HOD3.out.allocd _) (fun j hj=>hg5 j (OwnR.lt (HOD3.out.allocd _) j hj).2 (fun e=>HAP.out j hj e.symm))));have HAP5:=hid (show Apart (.slice va (k+1) vc) (.slice ua (k+1) uc) from(fun j hj e=>by rcases hv5 j e with h|h;exact HAP.out j hj h;have:=(OwnR.lt HOD3.out j hj).2;first|omega|(simp at h;omega)));obtain⟨k0,k1,k2,k3,k4,k5,k6⟩:=HQ5.out.1.cells;obtain⟨m0,m1,m2,m3,m4,m5,m6⟩:=HQ5.out.1.unfrozen;clear ho5 hb5 hg5 hv5)
        | (go_simp; first
          |(go_at_call 82;(with_reducible refine(zB8 r B bs (q' + 3) 5 wc.drew hR.drewd (by omega) (by omega) (by omega)).mono ?_);rintro e w3 ⟨z', rfl,z0,z1,h3,ht3⟩;obtain⟨z,rfl⟩:=Int.eq_ofNat_of_zero_le z0;have hz:z<5:=(by omega);obtain⟨x,hl1,hx⟩:=tab5 3 3 1 2 0 hz;have hl2:=zF1 hl1;clear hz;have hzi:(z:Int)<5:=z1;clear z1;have HQ3:=hid (HQ.out.drewd.touch hgr h3 ht3);have HOD3:=hid (HOD.out.drewd.touch ht3 (by omega));have HOL3:=hid (HOL.out.drewd.touch ht3 (by omega));obtain⟨k0,k1,k2,k3,k4,k5,k6⟩:=HQ3.out.1.cells;obtain⟨m0,m1,m2,m3,m4,m5,m6⟩:=HQ3.out.1.unfrozen;have gl3:=HQ3.out.1.lt)
          |(go_at_call 82;(with_reducible refine(zB8 r B bs (q' + 3) 5 (wc.alloc _).drew (hR.alloc _).drewd (by omega) (by omega) (by omega)).mono ?_);rintro e w3 ⟨z', rfl,z0,z1,h3,ht3⟩;obtain⟨z,rfl⟩:=Int.eq_ofNat_of_zero_le z0;have hz:z<5:=(by omega);obtain⟨x,hl1,hx⟩:=tab5 3 3 1 2 0 hz;have hl2:=zF1 hl1;clear hz;have hzi:(z:Int)<5:=z1;clear z1;have tB:=Touch.tab ht3.ofDrew hR.lt z _ hl2;have tl:=World.block_lt_of_cell? w3 _ tB;have HQ3:=hid ((HQ.out.alloc _).drewd.touch hgr h3 ht3);have HOD3:=hid ((HOD.out.allocd _).drewd.touch ht3 (by omega));have HOL3:=hid ((HOL.out.allocd _).drewd.touch ht3 (by omega));obtain⟨k0,k1,k2,k3,k4,k5,k6⟩:=HQ3.out.1.cells;obtain⟨m0,m1,m2,m3,m4,m5,m6⟩:=HQ3.out.1.unfrozen;have gl3:=HQ3.out.1.lt)))
       all_goals
        go_wp2_with fail
        go_roundw
        case rel=>exact⟨k+1,ds++[y],ls++[x],va,ua,vc,uc,q' + 4,by go_num,by omega,by omega,by simp[HDL.out],by simp[HLL.out],all_app HDO.out HWY.out,all_app HLO.out (by simp[inB];omega),HOD5.out.set' g 6 _ (fun j hj=>by have:=(OwnR.lt HOD5.out j hj).1;omega),HOL5.out.set' g 6 _ (fun j hj=>by have:=(OwnR.lt HOL5.out j hj).1;omega),HAP5.out,HQ5.out.set6 hrw' hg _⟩
        case measure=>simp[intOf];omega
     ·obtain rfl:k=m:=by omega
      go_wp2_with fail
      go_meet
      case rel=>exact⟨_,_,ds,ls,q', req_ok3 a0 a1 b0 b1 HOK.out d2 (fun _=>⟨by rw[HDL.out],by rw[HLL.out],HDO.out,HLO.out⟩) (fun h=>by rw[HB.out]at h;cases h),by rw[HDL.out];omega,by rw[HLL.out];omega,HOD.out,HOL.out,HAP.out,by omega,HQ.out⟩
  clear k0 k1 k2 k3 k4 k5 k6 m0 m1 m2 m3 m4 m5 m6 hgl hR HQ hq;obtain⟨dv,lv,ds,ls,q,hok,hdl,hll,hod,hol,hap,hq,hQ⟩:=hcut
  apply_assumption
  exact req_tail r B bs p n w hp h1n hn hrw w0 s HS0 HT0 hz0 hrs HSW g id kind addr many wp hg a0 a1 b0 b1 hgr hrg hsg hrw' d1 c0 c1 dv lv ds ls q wc hok hdl hll hod hol hap hq hQ _ _ _ _ _ _ _ _ _ _ _ _ _ _ _ _ _ _ _ _ _ _ _ _ _ _ _ _ _ _ _ _ _ _ _ _ _ _ _ _ _ _ _ _ _ _ _ _ _ _ _ _ _ _ _ _ _ _ _ _ _ _ _ _ _ _ _ _ _ _ _ _ _ _ _ _ _ _ _ _ _ _ _ _ _ _ _ _ _ _ _ _ _ _ _ _ _ _ _ _ _ _ _ _ _ _ _ _ _ _ _ _ _ _ _ _ _ _ _ _ _ _ _ _ _ _ _ _ _ _ _ _ _ _ _ _ _ _ _ _ _ _ _ _ _ _ _
end Go.Proofs.YtgkdoehkmbhfiaaGreat
