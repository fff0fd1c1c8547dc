/- Draws: what is asked: the end of l20Req (printed by wip/gen_req2.py). -/
import Derived.Test.YthnlalffjepdaaaGreatGQb5
import Derived.Test.YthnlalffjepdaaaGreatGDo4
import Derived.Test.YthnlalffjepdaaaGreatGQ5
import Derived.Test.YthnlalffjepdaaaGreatGIa
import Derived.Test.YthnlalffjepdaaaGreatGLib
import Derived.Test.YthnlalffjepdaaaGreatGY1
import Derived.Test.YthnlalffjepdaaaGreatGDq0
set_option linter.unusedVariables false
set_option linter.unusedSimpArgs false
set_option maxHeartbeats 16000000
namespace Go.Proofs.YthnlalffjepdaaaGreat
open Go.RowKit
theorem PsO.snoc {w w' : World} {lo pb n : Nat} {us : List Value} {pss : List (List Rq)} {L : Nat → Nat} {u : Value} {x : List Rq} (h : PsO w lo pb n us pss L) (hk : pss.length < n) (hb : Below w.heap.size w w') (hp : PgO w' w.heap.size w'.heap.size u x) :
  PsO (w'.setCell ⟨pb,pss.length,none⟩ u) lo pb n (us.set pss.length u) (pss++[x]) (fun j=>if j≤pss.length then L j else w'.heap.size):=by
 have h':=h.below hb;have hpb:=h.pb;have hs:(w'.setCell ⟨pb,pss.length,none⟩ u).heap.size=w'.heap.size:=by simp[World.setCell]
 have ho:=h'.outer.putRow zE3 pss.length 0 vnil u u (by rw[h.len];omega) (by omega) rfl;simp only[Nat.zero_add,Nat.mul_one,Nat.add_zero]at ho;have hset:∀i,i≠pb→(w'.setCell ⟨pb,pss.length,none⟩ u).heap[i]? = w'.heap[i]?:=fun i hi=>Below.heap_setCell _ _ _ _ hi
 have htop:=h.top;have hl0:=h.le0 pss.length (Nat.le_refl _);have hpl:=h.pbl;have hz:=hb.size;refine⟨ho,by rw[List.length_set];exact h.len,by simp;omega,fun j hj=>?_,fun j h1 h2=>?_,fun j hj=>?_,?_,?_⟩
 ·by_cases e:j=pss.length
  ·subst e;rw[zJ0 (by rw[h.len];exact hk),zC5];simp only[Nat.le_refl,if_true,show ¬pss.length+1≤pss.length by omega,if_false];exact(hp.kept fun i h1 _ _=>hset i (by omega)).rebase htop
  ·have hj2:j<pss.length:=by simp at hj;omega
   rw[zE0 e,zB5 hj2];simp only[show j≤pss.length by omega,if_true,show j+1≤pss.length by omega];exact(h'.pg j hj2).kept fun i h1 _ _=>hset i (by have:=h.le0 j (by omega);omega)
 ·have hj2:pss.length+1≤j:=by simp at h1;omega
  rw[zE0 (by omega)];exact h.nil j (by omega) h2
 ·by_cases e:j=pss.length
  ·subst e;simp only[Nat.le_refl,if_true,show ¬pss.length+1≤pss.length by omega,if_false];omega
  ·have hj2:j<pss.length:=by simp at hj;omega
   simp only[show j≤pss.length by omega,if_true,show j+1≤pss.length by omega];exact h.mono j hj2
 ·simp only[Nat.zero_le,if_true];exact hpl
 ·rw[hs];have:(pss++[x]).length=pss.length+1:=by simp
  rw[this];simp only[show ¬pss.length+1≤pss.length by omega,if_false];exact Nat.le_refl _
theorem PsO.le2 {w:World} {lo pb n:Nat} {us:List Value} {pss:List (List Rq)} {L:Nat→Nat} (h:PsO w lo pb n us pss L):∀d i,i+d≤pss.length→L i≤L (i+d):=by
 intro d
 induction d with
 |zero=>intro i _;exact Nat.le_refl _
 |succ d ih=>intro i hi;exact Nat.le_trans (ih i (by omega)) (h.mono (i+d) (by omega))
theorem PsO.leij {w:World} {lo pb n i j:Nat} {us:List Value} {pss:List (List Rq)} {L:Nat→Nat} (h:PsO w lo pb n us pss L) (h1:i≤j) (h2:j≤pss.length):L i≤L j:=by
 have:=h.le2 (j - i) i (by omega)
 rwa [show i+(j - i)=j by omega]at this
theorem PsO.keptB {w w':World} {lo pb n:Nat} {us:List Value} {pss:List (List Rq)} {L:Nat→Nat} (h:PsO w lo pb n us pss L) (hk:∀k,k=pb∨(L 0≤k∧k<L pss.length)→k<w.heap.size→w'.heap[k]? = w.heap[k]?) (hs:w.heap.size≤w'.heap.size):PsO w' lo pb n us pss L :=
  { h with outer := OwnR.kept h.outer fun k hk2 => hk k (.inl (by simp only [Value.ownBlock, Option.some.injEq] at hk2; exact hk2.symm)) (OwnR.lt h.outer k hk2).2
           pg:=fun j hj=>(h.pg j hj).kept fun k h1 h2 h3=>hk k (.inr ⟨Nat.le_trans (h.le0 j (by omega)) h1,Nat.lt_of_lt_of_le h2 (h.leij (by omega) (Nat.le_refl _))⟩) h3
           top:=Nat.le_trans h.top hs }
structure BFit (ms:List MR) (lat:List Int) (pss:List (List Rq)):Prop where
 m:ms.length≤1048576
 m6:∀r∈ms,MR64 r
 l:lat.length≤1048576
 l6:∀x∈lat,I64 x
 p:pss.length≤1048576
 q:∀p∈pss,p.length≤1048576∧∀q∈p,RqFit q
theorem BFit.nil:BFit [] [] []:=⟨by simp,by simp,by simp,by simp,by simp,by simp⟩
structure RdO (w:World) (lo:Nat) (v:Value) (qs:List Rq) (vs:List (Value×Value)):Prop where
 len:vs.length=qs.length
 rows:Owns w lo 69 7 rowQ v (zipQ qs vs)
 d:∀j,j<qs.length→Owns w lo 3 1 rowI (vs.getD j default).1 (qs.getD j default).data
 l:∀j,j<qs.length→Owns w lo 3 1 rowI (vs.getD j default).2 (qs.getD j default).lanes
theorem RdO.kept {w w':World} {lo:Nat} {v:Value} {qs:List Rq} {vs:List (Value×Value)} (h:RdO w lo v qs vs) (hk:∀k,lo≤k→k<w.heap.size→w'.heap[k]? = w.heap[k]?):RdO w' lo v qs vs :=
  { h with rows := OwnR.kept h.rows fun k hk2 => hk k (OwnR.lt h.rows k hk2).1 (OwnR.lt h.rows k hk2).2
           d:=fun j hj=>OwnR.kept (h.d j hj) fun k hk2=>hk k (OwnR.lt (h.d j hj) k hk2).1 (OwnR.lt (h.d j hj) k hk2).2
           l:=fun j hj=>OwnR.kept (h.l j hj) fun k hk2=>hk k (OwnR.lt (h.l j hj) k hk2).1 (OwnR.lt (h.l j hj) k hk2).2 }
theorem RdO.below {w w':World} {lo:Nat} {v:Value} {qs:List Rq} {vs:List (Value×Value)} (h:RdO w lo v qs vs) (hb:Below w.heap.size w w'):RdO w' lo v qs vs:=h.kept fun k _ hk=>hb.block k hk
theorem RdO.rebase {w:World} {lo lo':Nat} {v:Value} {qs:List Rq} {vs:List (Value×Value)} (h:RdO w lo v qs vs) (hl:lo' ≤ lo):RdO w lo' v qs vs :=
 { h with rows:=OwnR.rebase h.rows hl,d:=fun j hj=>OwnR.rebase (h.d j hj) hl,l:=fun j hj=>OwnR.rebase (h.l j hj) hl }
theorem RdO.keptT {w w':World} {lo:Nat} {v:Value} {qs:List Rq} {vs:List (Value×Value)} (h:RdO w lo v qs vs) (hk:∀(k:Nat) (cs:Array Value) (T:TypeId),w.heap[k]? = some (Obj.cells cs T (0,0))→(T=69∨T=3)→w'.heap[k]? = w.heap[k]?):RdO w' lo v qs vs:=by
 have key:∀{α:Type} {f:α→List Value} {e sz:Nat} {u:Value} {xs:List α},Owns w lo e sz f u xs→(e=69∨e=3)→Owns w' lo e sz f u xs:=by
  intro α f e sz u xs ho he;refine OwnR.kept ho fun k hk2=>?_
  obtain⟨_,h2⟩:=ho;rcases h2 with⟨rfl,_⟩|⟨g,off,cap,cur,rfl,_,hh,_⟩
  ·simp[Value.ownBlock]at hk2
  ·simp only[Value.ownBlock,Option.some.injEq]at hk2;subst hk2;exact hk _ _ _ hh he
 exact { h with rows:=key h.rows (.inl rfl),d:=fun j hj=>key (h.d j hj) (.inr rfl),l:=fun j hj=>key (h.l j hj) (.inr rfl) }
theorem RdO.reqs {w:World} {lo:Nat} {v:Value} {qs:List Rq} {vs:List (Value×Value)} (h:RdO w lo v qs vs) (hn:qs.length≤1048576) (hq:∀q∈qs,RqFit q):Reqs w w.heap.size v qs:=by
 have hr:=h.rows;have hl1:(zipQ qs vs).length=qs.length:=zC3 h.len;have key:=reqs_of (B:=w.heap.size) (P:=(·<w.heap.size)) (hr.arrD (P:=(·<w.heap.size)) (fun k hk=>(OwnR.lt hr k hk).2) zD0 (by omega)) (fun y hy=>?_) (fun b hb=>hb)
 ·have e:(zipQ qs vs).map (·.1)=qs:=by
   unfold zipQ;rw[List.map_zipWith];apply List.ext_getElem
   ·simp[h.len]
   ·intro i h1 h2;simp
  rw[e]at key;exact key
 ·obtain⟨k,hk,rfl⟩:=List.mem_iff_getElem.1 hy;have hk':k<qs.length:=by omega
  have e:(zipQ qs vs)[k]=(qs.getD k default,vs.getD k default):=by
   rw[←zipQ_get h.len hk' zQ];simp[List.getD,hk]
  rw[e];obtain⟨⟨b1,b2⟩,i1,i2,i3⟩:=hq _ (zB8 (d:=default) hk');exact⟨(h.d k hk').intsD (fun b hb=>(OwnR.lt (h.d k hk') b hb).2) (by omega) i1,(h.l k hk').intsD (fun b hb=>(OwnR.lt (h.l k hk') b hb).2) (by omega) i2,i3⟩
theorem RdO.snoc {w w':World} {lo:Nat} {v v' d l:Value} {qs:List Rq} {vs:List (Value×Value)} {r:Rq} (h:RdO w lo v qs vs) (hr:Owns w' lo 69 7 rowQ v' (zipQ qs vs++[(r,d,l)])) (hk:∀(k:Nat) (cs:Array Value) (T:TypeId),w.heap[k]? = some (Obj.cells cs T (0,0))→T=3→w'.heap[k]? = w.heap[k]?) (hd:Owns w' lo 3 1 rowI d r.data) (hl:Owns w' lo 3 1 rowI l r.lanes):RdO w' lo v' (qs++[r]) (vs++[(d,l)]):=by
 have key:∀{u:Value} {xs:List Int},Owns w lo 3 1 rowI u xs→Owns w' lo 3 1 rowI u xs:=by
  intro u xs ho;refine OwnR.kept ho fun k hk2=>?_
  obtain⟨_,h2⟩:=ho;rcases h2 with⟨rfl,_⟩|⟨g,off,cap,cur,rfl,_,hh,_⟩
  ·simp[Value.ownBlock]at hk2
  ·simp only[Value.ownBlock,Option.some.injEq]at hk2;subst hk2;exact hk _ _ _ hh rfl
 refine⟨by simp[h.len],?_,fun j hj=>?_,fun j hj=>?_⟩
 ·have e:zipQ (qs++[r]) (vs++[(d,l)])=zipQ qs vs++[(r,d,l)]:=by
   unfold zipQ;rw[List.zipWith_append h.len.symm];rfl
  rw[e];exact hr
 ·by_cases e:j<qs.length
  ·rw[zB5 e,zB5 (by rw[h.len];exact e)];exact key (h.d j e)
  ·obtain rfl:j=qs.length:=by simp at hj;omega
   rw[zC5,←h.len,zC5];exact hd
 ·by_cases e:j<qs.length
  ·rw[zB5 e,zB5 (by rw[h.len];exact e)];exact key (h.l j e)
  ·obtain rfl:j=qs.length:=by simp at hj;omega
   rw[zC5,←h.len,zC5];exact hl
end Go.Proofs.YthnlalffjepdaaaGreat
namespace Go.Proofs.YthnlalffjepdaaaGreat
open Go.RowKit
attribute [local go_sem ↓] Go.wp_at_zero Go.wp_at_succ
def headReg : Code → Option Nat
 | .region id _ _=>some id
 | .seq a _=>headReg a
 |_=>none
def zJ4 (n : Nat) : Code → Option Code
 | .seq a b => if headReg a = some n then some (.seq a b) else match zJ4 n a with
  |some c=>some c
  |none=>zJ4 n b
 | .loop c=>zJ4 n c
 | .block _ c=>zJ4 n c
 | .scope c=>zJ4 n c
 | .cond _ a b => match zJ4 n a with
  |some c=>some c
  |none=>zJ4 n b
 |_=>none
noncomputable def reqTail:Code:=(Tryz.f104.body.bind (zJ4 13)).getD .skip
set_option maxRecDepth 20000 in
def reqZ (r:Nat) (n:Int) (s g:Nat) (u6 u7 u8 u9 u10 u11 u12 u13 u14 u15 u16 u17 u18 u19 u20 u21 u22 u23 u24 u25 u26 u27 u28 u29 u30 u31 u32 u33 u34 u35 u36 u37 u38 u39 u40 u41 u42 u43 u44 u45 u46 u47 u48 u49 u50 u51 u52 u53 u54 u55 u56 u57 u58 u59 u60 u61 u62 u63 u64 u65 u66 u67 u68 u69 u70 u71 u72 u73 u74 u75 u76 u77 u78 u79 u80 u81 u82 u83 u84 u85 u86 u87 u88 u89 u90 u91 u92 u93 u94 u95 u96 u97 u98 u99 u100 u101 u102 u103 u104 u105 u106 u107 u108 u109 u110 u111 u112 u113 u114 u115 u116 u117 u118 u119 u120 u121 u122 u123 u124 u125 u126 u127 u128 u129 u130 u131 u132 u133 u134 u135 u136 u137 u138 u139 u140 u141 u142 u143 u144 u145 u146 u147 u148 u149 u150 u151 u152:Value):Act:={ tmps:=#[.pointer (some ⟨r,0,none⟩),.int .i64 n,undef,undef,.pointer (some ⟨s,0,none⟩),.pointer (some ⟨g,0,none⟩),u6,u7,u8,u9,u10,u11,u12,u13,u14,u15,u16,u17,u18,u19,u20,u21,u22,u23,u24,u25,u26,u27,u28,u29,u30,u31,u32,u33,u34,u35,u36,u37,u38,u39,u40,u41,u42,u43,u44,u45,u46,u47,u48,u49,u50,u51,u52,u53,u54,u55,u56,u57,u58,u59,u60,u61,u62,u63,u64,u65,u66,u67,u68,u69,u70,u71,u72,u73,u74,u75,u76,u77,u78,u79,u80,u81,u82,u83,u84,u85,u86,u87,u88,u89,u90,u91,u92,u93,u94,u95,u96,u97,u98,u99,u100,u101,u102,u103,u104,u105,u106,u107,u108,u109,u110,u111,u112,u113,u114,u115,u116,u117,u118,u119,u120,u121,u122,u123,u124,u125,u126,u127,u128,u129,u130,u131,u132,u133,u134,u135,u136,u137,u138,u139,u140,u141,u142,u143,u144,u145,u146,u147,u148,u149,u150,u151,u152],defers:=[] }
set_option maxRecDepth 100000 in
theorem req_tail (r B : Nat) (bs : List Nat) (p : Nat) (n : Int) (w : World) (hp : p ≤ 700000000) (h1n : 1 ≤ n) (hn : n ≤ 1099511627776) (hrw : r < w.heap.size) (w0 : World) (s : Nat) (HS0 : Hid (qz w0 s)) (HT0 : Hid (Touch r w w0)) (hz0 : w0.heap.size = s + 1) (hrs : r < s) (HSW : Hid (w.heap.size = s))
  (g:Nat) (id kind addr many:Int) (wp:Bool) (hg:w0.heap.size≤g) (a0:0≤id) (a1:id<2) (b0:1≤kind) (b1:kind≤4) (hgr:g≠r) (hrg:r<g) (hsg:s<g) (hrw':r<w0.heap.size) (d1:many=1∨many=2∨many=4) (c0:0≤addr) (c1:addr≤63)
  (dv lv:Value) (ds ls:List Int) (q:Nat) (wc:World) (hok:reqOk ⟨id,kind,addr,many,wp,ds,ls⟩=true) (hdl:ds.length≤4) (hll:ls.length≤4) (hod:Owns wc (g+1) 3 1 rowI dv ds) (hol:Owns wc (g+1) 3 1 rowI lv ls) (hap:Apart dv lv) (hq:q≤p+60) (hQ:RQ r B bs w0 g id kind addr many wp dv lv q wc)
  (u6 u7 u8 u9 u10 u11 u12 u13 u14 u15 u16 u17 u18 u19 u20 u21 u22 u23 u24 u25 u26 u27 u28 u29 u30 u31 u32 u33 u34 u35 u36 u37 u38 u39 u40 u41 u42 u43 u44 u45 u46 u47 u48 u49 u50 u51 u52 u53 u54 u55 u56 u57 u58 u59 u60 u61 u62 u63 u64 u65 u66 u67 u68 u69 u70 u71 u72 u73 u74 u75 u76 u77 u78 u79 u80 u81 u82 u83 u84 u85 u86 u87 u88 u89 u90 u91 u92 u93 u94 u95 u96 u97 u98 u99 u100 u101 u102 u103 u104 u105 u106 u107 u108 u109 u110 u111 u112 u113 u114 u115 u116 u117 u118 u119 u120 u121 u122 u123 u124 u125 u126 u127 u128 u129 u130 u131 u132 u133 u134 u135 u136 u137 u138 u139 u140 u141 u142 u143 u144 u145 u146 u147 u148 u149 u150 u151 u152:Value):reqTail.wp Tryz.prog (bodyPost Tryz.prog Tryz.f104 (ReqP r B bs p n w)) (reqZ r n s g u6 u7 u8 u9 u10 u11 u12 u13 u14 u15 u16 u17 u18 u19 u20 u21 u22 u23 u24 u25 u26 u27 u28 u29 u30 u31 u32 u33 u34 u35 u36 u37 u38 u39 u40 u41 u42 u43 u44 u45 u46 u47 u48 u49 u50 u51 u52 u53 u54 u55 u56 u57 u58 u59 u60 u61 u62 u63 u64 u65 u66 u67 u68 u69 u70 u71 u72 u73 u74 u75 u76 u77 u78 u79 u80 u81 u82 u83 u84 u85 u86 u87 u88 u89 u90 u91 u92 u93 u94 u95 u96 u97 u98 u99 u100 u101 u102 u103 u104 u105 u106 u107 u108 u109 u110 u111 u112 u113 u114 u115 u116 u117 u118 u119 u120 u121 u122 u123 u124 u125 u126 u127 u128 u129 u130 u131 u132 u133 u134 u135 u136 u137 u138 u139 u140 u141 u142 u143 u144 u145 u146 u147 u148 u149 u150 u151 u152) wc:=by
 conv=>arg 2;whnf
 unfold reqZ;have hdc:=hod.shape;obtain⟨da,dc,rfl,_,_⟩:=hdc;have hlc:=hol.shape;obtain⟨la,lc,rfl,_,_⟩:=hlc;have HRO:=hid hok;have HOD:=hid hod;have HOL:=hid hol;have HAP:=hid hap;have I64D:=hid (req64 hok).1;have I64L:=hid (req64 hok).2;clear hok hod hol hap;have hsg':g≠s:=by omega
 have hsg2:s≠g:=by omega
 have hgs:w.heap.size≤g:=by have:=HSW.out;omega
 have hss:w.heap.size≤s:=by have:=HSW.out;omega
 have hm4:many≤4:=by omega
 have hm1:1≤many:=by omega
 have hR:=hQ.2.1;have hgl:=hQ.1.lt;obtain⟨k0,k1,k2,k3,k4,k5,k6⟩:=hQ.1.cells;obtain⟨m0,m1,m2,m3,m4,m5,m6⟩:=hQ.1.unfrozen;have HQ:=hid hQ;clear hQ
 go_wp2_with (first
  |(go_at_call 140;(with_reducible refine(odd_any r B bs q n wc hR (by omega) h1n hn).mono ?_);rintro e w1 ⟨b,q1,rfl,hb9,hq1,h1,ht1⟩;have HQ1:=hid (HQ.out.touch hgr h1 ht1);have HOD1:=hid (HOD.out.touch ht1 (by omega));have HOL1:=hid (HOL.out.touch ht1 (by omega));obtain⟨k0,k1,k2,k3,k4,k5,k6⟩:=HQ1.out.1.cells;obtain⟨m0,m1,m2,m3,m4,m5,m6⟩:=HQ1.out.1.unfrozen;have gl1:=HQ1.out.1.lt;have hz1:=HS0.out.touch HQ1.out.2.2 (show s≠r by omega);obtain⟨n0,n1,n2,n3,n4,n5,n6⟩:=hz1.cells;obtain⟨o0,o1,o2,o3,o4,o5,o6⟩:=hz1.unfrozen;have hzl1:=hz1.lt;clear hz1;have HB9:=hid hb9;clear hb9 ht1;cases b)
  |(go_at_call 103;(with_reducible refine(zB7 r B bs q1 7 w1 h1 (by omega) (by omega) (by omega)).mono ?_);rintro e w2 ⟨yy,rfl,y0,y1,h2,ht2⟩;have HQ2:=hid (HQ1.out.touch hgr h2 ht2);have HOD2:=hid (HOD1.out.touch ht2 (by omega));have HOL2:=hid (HOL1.out.touch ht2 (by omega));obtain⟨k0,k1,k2,k3,k4,k5,k6⟩:=HQ2.out.1.cells;obtain⟨m0,m1,m2,m3,m4,m5,m6⟩:=HQ2.out.1.unfrozen;have gl2:=HQ2.out.1.lt;have hz2:=HS0.out.touch HQ2.out.2.2 (show s≠r by omega);obtain⟨n0,n1,n2,n3,n4,n5,n6⟩:=hz2.cells;obtain⟨o0,o1,o2,o3,o4,o5,o6⟩:=hz2.unfrozen;have hzl2:=hz2.lt;clear hz2;clear ht2;rcases(show yy=0∨yy=1∨yy=2∨yy=3∨yy=4∨yy=5∨yy=6 by omega)with rfl|rfl|rfl|rfl|rfl|rfl|rfl)
  |(go_at_call 103;(with_reducible refine(zB7 r B bs (q1+1) 2 (w2.alloc _) (h2.alloc _) (by omega) (by omega) (by omega)).mono ?_);rintro e w3 ⟨z,rfl,z0,z1,h3,ht3⟩;have tw:=TW.ofNew ht3 h2.lt;have u0:=tw.at_ 0 _ rfl;have u1:=tw.at_ 1 _ rfl;clear tw;have HQ3:=hid ((HQ2.out.alloc _).touch hgr h3 ht3);have HOD3:=hid ((HOD2.out.allocd _).touch ht3 (by omega));have HOL3:=hid ((HOL2.out.allocd _).touch ht3 (by omega));obtain⟨k0,k1,k2,k3,k4,k5,k6⟩:=HQ3.out.1.cells;obtain⟨m0,m1,m2,m3,m4,m5,m6⟩:=HQ3.out.1.unfrozen;have gl3:=HQ3.out.1.lt;have hz3:=HS0.out.touch HQ3.out.2.2 (show s≠r by omega);obtain⟨n0,n1,n2,n3,n4,n5,n6⟩:=hz3.cells;obtain⟨o0,o1,o2,o3,o4,o5,o6⟩:=hz3.unfrozen;have hzl3:=hz3.lt;clear hz3;clear ht3;rcases(show z=0∨z=1 by omega)with rfl|rfl)
  |(go_at_call 103;(with_reducible refine(zB7 r B bs (q1+1) 3 (w2.alloc _) (h2.alloc _) (by omega) (by omega) (by omega)).mono ?_);rintro e w3 ⟨z,rfl,z0,z1,h3,ht3⟩;have tw:=TW.ofNew ht3 h2.lt;have u0:=tw.at_ 0 _ rfl;have u1:=tw.at_ 1 _ rfl;have u2:=tw.at_ 2 _ rfl;clear tw;have HQ3:=hid ((HQ2.out.alloc _).touch hgr h3 ht3);have HOD3:=hid ((HOD2.out.allocd _).touch ht3 (by omega));have HOL3:=hid ((HOL2.out.allocd _).touch ht3 (by omega));obtain⟨k0,k1,k2,k3,k4,k5,k6⟩:=HQ3.out.1.cells;obtain⟨m0,m1,m2,m3,m4,m5,m6⟩:=HQ3.out.1.unfrozen;have gl3:=HQ3.out.1.lt;have hz3:=HS0.out.touch HQ3.out.2.2 (show s≠r by omega);obtain⟨n0,n1,n2,n3,n4,n5,n6⟩:=hz3.cells;obtain⟨o0,o1,o2,o3,o4,o5,o6⟩:=hz3.unfrozen;have hzl3:=hz3.lt;clear hz3;clear ht3;rcases(show z=0∨z=1∨z=2 by omega)with rfl|rfl|rfl)
  |(go_at_call 103;(with_reducible refine(zB7 r B bs (q1+1) 4 (w2.alloc _) (h2.alloc _) (by omega) (by omega) (by omega)).mono ?_);rintro e w3 ⟨z,rfl,z0,z1,h3,ht3⟩;have tw:=TW.ofNew ht3 h2.lt;have u0:=tw.at_ 0 _ rfl;have u1:=tw.at_ 1 _ rfl;have u2:=tw.at_ 2 _ rfl;have u3:=tw.at_ 3 _ rfl;clear tw;have HQ3:=hid ((HQ2.out.alloc _).touch hgr h3 ht3);have HOD3:=hid ((HOD2.out.allocd _).touch ht3 (by omega));have HOL3:=hid ((HOL2.out.allocd _).touch ht3 (by omega));obtain⟨k0,k1,k2,k3,k4,k5,k6⟩:=HQ3.out.1.cells;obtain⟨m0,m1,m2,m3,m4,m5,m6⟩:=HQ3.out.1.unfrozen;have gl3:=HQ3.out.1.lt;have hz3:=HS0.out.touch HQ3.out.2.2 (show s≠r by omega);obtain⟨n0,n1,n2,n3,n4,n5,n6⟩:=hz3.cells;obtain⟨o0,o1,o2,o3,o4,o5,o6⟩:=hz3.unfrozen;have hzl3:=hz3.lt;clear hz3;clear ht3;rcases(show z=0∨z=1∨z=2∨z=3 by omega)with rfl|rfl|rfl|rfl)
  |(at_builtin;refine wpList_pushN zJ8 rowI zD7 zF7 w2 rfl (.tmp 141) (.tmp 142) rfl (g+1) _ ds 5 (by rfl) HOD2.out _ (by rfl) (by rfl) (by omega) (by omega) (by omega) ?_;intro v' w3 ho5 hb5 hg5;obtain⟨va,vc,hv', _,_⟩:=ho5.shape;rw[List.length_append]at hv';simp only[List.length_cons,List.length_nil,Nat.zero_add]at hv';subst hv';have HOD3:=hid ho5;have HOL3:=hid (show Owns w3 (g+1) 3 1 rowI (.slice la ls.length lc) ls from OwnR.kept HOL2.out (fun j hj=>hg5 j (OwnR.lt HOL2.out j hj).2 (fun e=>HAP.out j e.symm hj)));have HQ3:=hid (HQ2.out.below hb5 hrg hg);obtain⟨k0,k1,k2,k3,k4,k5,k6⟩:=HQ3.out.1.cells;obtain⟨m0,m1,m2,m3,m4,m5,m6⟩:=HQ3.out.1.unfrozen;have gl3:=HQ3.out.1.lt;have hz3:=HS0.out.touch HQ3.out.2.2 (show s≠r by omega);obtain⟨n0,n1,n2,n3,n4,n5,n6⟩:=hz3.cells;obtain⟨o0,o1,o2,o3,o4,o5,o6⟩:=hz3.unfrozen;have hzl3:=hz3.lt;clear hz3;clear ho5 hb5 hg5)
  |(at_builtin;refine wpList_pushN zJ8 rowI zD7 zF7 w2 rfl (.tmp 148) (.tmp 149) rfl (g+1) _ ls 1 (by rfl) HOL2.out _ (by rfl) (by rfl) (by omega) (by omega) (by omega) ?_;intro v' w3 ho5 hb5 hg5;obtain⟨va,vc,hv', _,_⟩:=ho5.shape;rw[List.length_append]at hv';simp only[List.length_cons,List.length_nil,Nat.zero_add]at hv';subst hv';have HOL3:=hid ho5;have HOD3:=hid (show Owns w3 (g+1) 3 1 rowI (.slice da ds.length dc) ds from OwnR.kept HOD2.out (fun j hj=>hg5 j (OwnR.lt HOD2.out j hj).2 (fun e=>HAP.out j hj e.symm)));have HQ3:=hid (HQ2.out.below hb5 hrg hg);obtain⟨k0,k1,k2,k3,k4,k5,k6⟩:=HQ3.out.1.cells;obtain⟨m0,m1,m2,m3,m4,m5,m6⟩:=HQ3.out.1.unfrozen;have gl3:=HQ3.out.1.lt;have hz3:=HS0.out.touch HQ3.out.2.2 (show s≠r by omega);obtain⟨n0,n1,n2,n3,n4,n5,n6⟩:=hz3.cells;obtain⟨o0,o1,o2,o3,o4,o5,o6⟩:=hz3.unfrozen;have hzl3:=hz3.lt;clear hz3;clear ho5 hb5 hg5)
  |fail)
 ·refine bodyPost_ret (zA4 Tryz.results104 _ _ ⟨s,0,none⟩ (.agg #[.int .i64 id,.int .i64 kind,.int .i64 addr,.int .i64 many,.bool wp,.slice da ds.length dc,.slice la ls.length lc]) rfl (zB1 _ _ _ _ _ _ _ _ _ (by simp[go_sem, *]) (by simp[go_sem, *]) (by simp[go_sem, *]) (by simp[go_sem, *]) (by simp[go_sem, *]) (by simp[go_sem, *]) (by simp[go_sem, *]))) rfl ⟨_,_,⟨id,kind,addr,many,wp,ds,ls⟩,q1,rfl,?od,?ol,?i,?ld,?ll,fun _=>HRO.out,by omega,?r,?t⟩
  case od=>
   have X:=HOD1.out.rebase (show w.heap.size≤g+1 by omega);have L:=(fun j hj=>(OwnR.lt HOD1.out j hj).1:∀j,_→g+1≤j)
   repeat(first|with_reducible exact X|with_reducible refine Owns.drewd ?_|with_reducible refine Owns.allocd ?_ _|with_reducible refine Owns.set' ?_ _ _ _ (fun j hj=>by have:=L j hj;omega))
  case ol=>
   have X:=HOL1.out.rebase (show w.heap.size≤g+1 by omega);have L:=(fun j hj=>(OwnR.lt HOL1.out j hj).1:∀j,_→g+1≤j)
   repeat(first|with_reducible exact X|with_reducible refine Owns.drewd ?_|with_reducible refine Owns.allocd ?_ _|with_reducible refine Owns.set' ?_ _ _ _ (fun j hj=>by have:=L j hj;omega))
  case i=>exact⟨by simp only[I64];omega,by simp only[I64];omega,by simp only[I64];omega,by simp only[I64];omega,I64D.out,I64L.out⟩
  case ld=>simp;omega
  case ll=>simp;omega
  case r=>
   have X:=HQ1.out.2.1
   repeat(first|with_reducible exact X|with_reducible refine RdAt.drewd ?_|with_reducible refine RdAt.alloc ?_ _|with_reducible refine RdAt.setNew ?_ hrs (by omega) _ _)
  case t=>
   have X:=HT0.out.trans HQ1.out.2.2
   repeat(first|with_reducible exact X|with_reducible refine Touch.drewd ?_|with_reducible refine Touch.alloc ?_ _|with_reducible refine Touch.setNew ?_ (by omega) _)
 ·refine bodyPost_ret (zA4 Tryz.results104 _ _ ⟨s,0,none⟩ (.agg #[.int .i64 (-1),.int .i64 kind,.int .i64 addr,.int .i64 many,.bool wp,.slice da ds.length dc,.slice la ls.length lc]) rfl (zB1 _ _ _ _ _ _ _ _ _ (by simp[go_sem, *]) (by simp[go_sem, *]) (by simp[go_sem, *]) (by simp[go_sem, *]) (by simp[go_sem, *]) (by simp[go_sem, *]) (by simp[go_sem, *]))) rfl ⟨_,_,⟨(-1),kind,addr,many,wp,ds,ls⟩,q1+1+1,rfl,?od,?ol,?i,?ld,?ll,fun h9=>absurd (HB9.out h9) (by simp),by omega,?r,?t⟩
  case od=>
   have X:=HOD3.out.rebase (show w.heap.size≤g+1 by omega);have L:=(fun j hj=>(OwnR.lt HOD3.out j hj).1:∀j,_→g+1≤j)
   repeat(first|with_reducible exact X|with_reducible refine Owns.drewd ?_|with_reducible refine Owns.allocd ?_ _|with_reducible refine Owns.set' ?_ _ _ _ (fun j hj=>by have:=L j hj;omega))
  case ol=>
   have X:=HOL3.out.rebase (show w.heap.size≤g+1 by omega);have L:=(fun j hj=>(OwnR.lt HOL3.out j hj).1:∀j,_→g+1≤j)
   repeat(first|with_reducible exact X|with_reducible refine Owns.drewd ?_|with_reducible refine Owns.allocd ?_ _|with_reducible refine Owns.set' ?_ _ _ _ (fun j hj=>by have:=L j hj;omega))
  case i=>exact⟨by simp only[I64];omega,by simp only[I64];omega,by simp only[I64];omega,by simp only[I64];omega,I64D.out,I64L.out⟩
  case ld=>simp;omega
  case ll=>simp;omega
  case r=>
   have X:=HQ3.out.2.1
   repeat(first|with_reducible exact X|with_reducible refine RdAt.drewd ?_|with_reducible refine RdAt.alloc ?_ _|with_reducible refine RdAt.setNew ?_ hrs (by omega) _ _)
  case t=>
   have X:=HT0.out.trans HQ3.out.2.2
   repeat(first|with_reducible exact X|with_reducible refine Touch.drewd ?_|with_reducible refine Touch.alloc ?_ _|with_reducible refine Touch.setNew ?_ (by omega) _)
 ·refine bodyPost_ret (zA4 Tryz.results104 _ _ ⟨s,0,none⟩ (.agg #[.int .i64 2,.int .i64 kind,.int .i64 addr,.int .i64 many,.bool wp,.slice da ds.length dc,.slice la ls.length lc]) rfl (zB1 _ _ _ _ _ _ _ _ _ (by simp[go_sem, *]) (by simp[go_sem, *]) (by simp[go_sem, *]) (by simp[go_sem, *]) (by simp[go_sem, *]) (by simp[go_sem, *]) (by simp[go_sem, *]))) rfl ⟨_,_,⟨2,kind,addr,many,wp,ds,ls⟩,q1+1+1,rfl,?od,?ol,?i,?ld,?ll,fun h9=>absurd (HB9.out h9) (by simp),by omega,?r,?t⟩
  case od=>
   have X:=HOD3.out.rebase (show w.heap.size≤g+1 by omega);have L:=(fun j hj=>(OwnR.lt HOD3.out j hj).1:∀j,_→g+1≤j)
   repeat(first|with_reducible exact X|with_reducible refine Owns.drewd ?_|with_reducible refine Owns.allocd ?_ _|with_reducible refine Owns.set' ?_ _ _ _ (fun j hj=>by have:=L j hj;omega))
  case ol=>
   have X:=HOL3.out.rebase (show w.heap.size≤g+1 by omega);have L:=(fun j hj=>(OwnR.lt HOL3.out j hj).1:∀j,_→g+1≤j)
   repeat(first|with_reducible exact X|with_reducible refine Owns.drewd ?_|with_reducible refine Owns.allocd ?_ _|with_reducible refine Owns.set' ?_ _ _ _ (fun j hj=>by have:=L j hj;omega))
  case i=>exact⟨by simp only[I64];omega,by simp only[I64];omega,by simp only[I64];omega,by simp only[I64];omega,I64D.out,I64L.out⟩
  case ld=>simp;omega
  case ll=>simp;omega
  case r=>
   have X:=HQ3.out.2.1
   repeat(first|with_reducible exact X|with_reducible refine RdAt.drewd ?_|with_reducible refine RdAt.alloc ?_ _|with_reducible refine RdAt.setNew ?_ hrs (by omega) _ _)
  case t=>
   have X:=HT0.out.trans HQ3.out.2.2
   repeat(first|with_reducible exact X|with_reducible refine Touch.drewd ?_|with_reducible refine Touch.alloc ?_ _|with_reducible refine Touch.setNew ?_ (by omega) _)
 ·refine bodyPost_ret (zA4 Tryz.results104 _ _ ⟨s,0,none⟩ (.agg #[.int .i64 id,.int .i64 0,.int .i64 addr,.int .i64 many,.bool wp,.slice da ds.length dc,.slice la ls.length lc]) rfl (zB1 _ _ _ _ _ _ _ _ _ (by simp[go_sem, *]) (by simp[go_sem, *]) (by simp[go_sem, *]) (by simp[go_sem, *]) (by simp[go_sem, *]) (by simp[go_sem, *]) (by simp[go_sem, *]))) rfl ⟨_,_,⟨id,0,addr,many,wp,ds,ls⟩,q1+1+1,rfl,?od,?ol,?i,?ld,?ll,fun h9=>absurd (HB9.out h9) (by simp),by omega,?r,?t⟩
  case od=>
   have X:=HOD3.out.rebase (show w.heap.size≤g+1 by omega);have L:=(fun j hj=>(OwnR.lt HOD3.out j hj).1:∀j,_→g+1≤j)
   repeat(first|with_reducible exact X|with_reducible refine Owns.drewd ?_|with_reducible refine Owns.allocd ?_ _|with_reducible refine Owns.set' ?_ _ _ _ (fun j hj=>by have:=L j hj;omega))
  case ol=>
   have X:=HOL3.out.rebase (show w.heap.size≤g+1 by omega);have L:=(fun j hj=>(OwnR.lt HOL3.out j hj).1:∀j,_→g+1≤j)
   repeat(first|with_reducible exact X|with_reducible refine Owns.drewd ?_|with_reducible refine Owns.allocd ?_ _|with_reducible refine Owns.set' ?_ _ _ _ (fun j hj=>by have:=L j hj;omega))
  case i=>exact⟨by simp only[I64];omega,by simp only[I64];omega,by simp only[I64];omega,by simp only[I64];omega,I64D.out,I64L.out⟩
  case ld=>simp;omega
  case ll=>simp;omega
  case r=>
   have X:=HQ3.out.2.1
   repeat(first|with_reducible exact X|with_reducible refine RdAt.drewd ?_|with_reducible refine RdAt.alloc ?_ _|with_reducible refine RdAt.setNew ?_ hrs (by omega) _ _)
  case t=>
   have X:=HT0.out.trans HQ3.out.2.2
   repeat(first|with_reducible exact X|with_reducible refine Touch.drewd ?_|with_reducible refine Touch.alloc ?_ _|with_reducible refine Touch.setNew ?_ (by omega) _)
 ·refine bodyPost_ret (zA4 Tryz.results104 _ _ ⟨s,0,none⟩ (.agg #[.int .i64 id,.int .i64 5,.int .i64 addr,.int .i64 many,.bool wp,.slice da ds.length dc,.slice la ls.length lc]) rfl (zB1 _ _ _ _ _ _ _ _ _ (by simp[go_sem, *]) (by simp[go_sem, *]) (by simp[go_sem, *]) (by simp[go_sem, *]) (by simp[go_sem, *]) (by simp[go_sem, *]) (by simp[go_sem, *]))) rfl ⟨_,_,⟨id,5,addr,many,wp,ds,ls⟩,q1+1+1,rfl,?od,?ol,?i,?ld,?ll,fun h9=>absurd (HB9.out h9) (by simp),by omega,?r,?t⟩
  case od=>
   have X:=HOD3.out.rebase (show w.heap.size≤g+1 by omega);have L:=(fun j hj=>(OwnR.lt HOD3.out j hj).1:∀j,_→g+1≤j)
   repeat(first|with_reducible exact X|with_reducible refine Owns.drewd ?_|with_reducible refine Owns.allocd ?_ _|with_reducible refine Owns.set' ?_ _ _ _ (fun j hj=>by have:=L j hj;omega))
  case ol=>
   have X:=HOL3.out.rebase (show w.heap.size≤g+1 by omega);have L:=(fun j hj=>(OwnR.lt HOL3.out j hj).1:∀j,_→g+1≤j)
   repeat(first|with_reducible exact X|with_reducible refine Owns.drewd ?_|with_reducible refine Owns.allocd ?_ _|with_reducible refine Owns.set' ?_ _ _ _ (fun j hj=>by have:=L j hj;omega))
  case i=>exact⟨by simp only[I64];omega,by simp only[I64];omega,by simp only[I64];omega,by simp only[I64];omega,I64D.out,I64L.out⟩
  case ld=>simp;omega
  case ll=>simp;omega
  case r=>
   have X:=HQ3.out.2.1
   repeat(first|with_reducible exact X|with_reducible refine RdAt.drewd ?_|with_reducible refine RdAt.alloc ?_ _|with_reducible refine RdAt.setNew ?_ hrs (by omega) _ _)
  case t=>
   have X:=HT0.out.trans HQ3.out.2.2
   repeat(first|with_reducible exact X|with_reducible refine Touch.drewd ?_|with_reducible refine Touch.alloc ?_ _|with_reducible refine Touch.setNew ?_ (by omega) _)
 ·refine bodyPost_ret (zA4 Tryz.results104 _ _ ⟨s,0,none⟩ (.agg #[.int .i64 id,.int .i64 kind,.int .i64 (-1),.int .i64 many,.bool wp,.slice da ds.length dc,.slice la ls.length lc]) rfl (zB1 _ _ _ _ _ _ _ _ _ (by simp[go_sem, *]) (by simp[go_sem, *]) (by simp[go_sem, *]) (by simp[go_sem, *]) (by simp[go_sem, *]) (by simp[go_sem, *]) (by simp[go_sem, *]))) rfl ⟨_,_,⟨id,kind,(-1),many,wp,ds,ls⟩,q1+1+1,rfl,?od,?ol,?i,?ld,?ll,fun h9=>absurd (HB9.out h9) (by simp),by omega,?r,?t⟩
  case od=>
   have X:=HOD3.out.rebase (show w.heap.size≤g+1 by omega);have L:=(fun j hj=>(OwnR.lt HOD3.out j hj).1:∀j,_→g+1≤j)
   repeat(first|with_reducible exact X|with_reducible refine Owns.drewd ?_|with_reducible refine Owns.allocd ?_ _|with_reducible refine Owns.set' ?_ _ _ _ (fun j hj=>by have:=L j hj;omega))
  case ol=>
   have X:=HOL3.out.rebase (show w.heap.size≤g+1 by omega);have L:=(fun j hj=>(OwnR.lt HOL3.out j hj).1:∀j,_→g+1≤j)
   repeat(first|with_reducible exact X|with_reducible refine Owns.drewd ?_|with_reducible refine Owns.allocd ?_ _|with_reducible refine Owns.set' ?_ _ _ _ (fun j hj=>by have:=L j hj;omega))
  case i=>exact⟨by simp only[I64];omega,by simp only[I64];omega,by simp only[I64];omega,by simp only[I64];omega,I64D.out,I64L.out⟩
  case ld=>simp;omega
  case ll=>simp;omega
  case r=>
   have X:=HQ3.out.2.1
   repeat(first|with_reducible exact X|with_reducible refine RdAt.drewd ?_|with_reducible refine RdAt.alloc ?_ _|with_reducible refine RdAt.setNew ?_ hrs (by omega) _ _)
  case t=>
   have X:=HT0.out.trans HQ3.out.2.2
   repeat(first|with_reducible exact X|with_reducible refine Touch.drewd ?_|with_reducible refine Touch.alloc ?_ _|with_reducible refine Touch.setNew ?_ (by omega) _)
 ·refine bodyPost_ret (zA4 Tryz.results104 _ _ ⟨s,0,none⟩ (.agg #[.int .i64 id,.int .i64 kind,.int .i64 64,.int .i64 many,.bool wp,.slice da ds.length dc,.slice la ls.length lc]) rfl (zB1 _ _ _ _ _ _ _ _ _ (by simp[go_sem, *]) (by simp[go_sem, *]) (by simp[go_sem, *]) (by simp[go_sem, *]) (by simp[go_sem, *]) (by simp[go_sem, *]) (by simp[go_sem, *]))) rfl ⟨_,_,⟨id,kind,64,many,wp,ds,ls⟩,q1+1+1,rfl,?od,?ol,?i,?ld,?ll,fun h9=>absurd (HB9.out h9) (by simp),by omega,?r,?t⟩
  case od=>
   have X:=HOD3.out.rebase (show w.heap.size≤g+1 by omega);have L:=(fun j hj=>(OwnR.lt HOD3.out j hj).1:∀j,_→g+1≤j)
   repeat(first|with_reducible exact X|with_reducible refine Owns.drewd ?_|with_reducible refine Owns.allocd ?_ _|with_reducible refine Owns.set' ?_ _ _ _ (fun j hj=>by have:=L j hj;omega))
  case ol=>
   have X:=HOL3.out.rebase (show w.heap.size≤g+1 by omega);have L:=(fun j hj=>(OwnR.lt HOL3.out j hj).1:∀j,_→g+1≤j)
   repeat(first|with_reducible exact X|with_reducible refine Owns.drewd ?_|with_reducible refine Owns.allocd ?_ _|with_reducible refine Owns.set' ?_ _ _ _ (fun j hj=>by have:=L j hj;omega))
  case i=>exact⟨by simp only[I64];omega,by simp only[I64];omega,by simp only[I64];omega,by simp only[I64];omega,I64D.out,I64L.out⟩
  case ld=>simp;omega
  case ll=>simp;omega
  case r=>
   have X:=HQ3.out.2.1
   repeat(first|with_reducible exact X|with_reducible refine RdAt.drewd ?_|with_reducible refine RdAt.alloc ?_ _|with_reducible refine RdAt.setNew ?_ hrs (by omega) _ _)
  case t=>
   have X:=HT0.out.trans HQ3.out.2.2
   repeat(first|with_reducible exact X|with_reducible refine Touch.drewd ?_|with_reducible refine Touch.alloc ?_ _|with_reducible refine Touch.setNew ?_ (by omega) _)
 ·refine bodyPost_ret (zA4 Tryz.results104 _ _ ⟨s,0,none⟩ (.agg #[.int .i64 id,.int .i64 kind,.int .i64 63,.int .i64 many,.bool wp,.slice da ds.length dc,.slice la ls.length lc]) rfl (zB1 _ _ _ _ _ _ _ _ _ (by simp[go_sem, *]) (by simp[go_sem, *]) (by simp[go_sem, *]) (by simp[go_sem, *]) (by simp[go_sem, *]) (by simp[go_sem, *]) (by simp[go_sem, *]))) rfl ⟨_,_,⟨id,kind,63,many,wp,ds,ls⟩,q1+1+1,rfl,?od,?ol,?i,?ld,?ll,fun h9=>absurd (HB9.out h9) (by simp),by omega,?r,?t⟩
  case od=>
   have X:=HOD3.out.rebase (show w.heap.size≤g+1 by omega);have L:=(fun j hj=>(OwnR.lt HOD3.out j hj).1:∀j,_→g+1≤j)
   repeat(first|with_reducible exact X|with_reducible refine Owns.drewd ?_|with_reducible refine Owns.allocd ?_ _|with_reducible refine Owns.set' ?_ _ _ _ (fun j hj=>by have:=L j hj;omega))
  case ol=>
   have X:=HOL3.out.rebase (show w.heap.size≤g+1 by omega);have L:=(fun j hj=>(OwnR.lt HOL3.out j hj).1:∀j,_→g+1≤j)
   repeat(first|with_reducible exact X|with_reducible refine Owns.drewd ?_|with_reducible refine Owns.allocd ?_ _|with_reducible refine Owns.set' ?_ _ _ _ (fun j hj=>by have:=L j hj;omega))
  case i=>exact⟨by simp only[I64];omega,by simp only[I64];omega,by simp only[I64];omega,by simp only[I64];omega,I64D.out,I64L.out⟩
  case ld=>simp;omega
  case ll=>simp;omega
  case r=>
   have X:=HQ3.out.2.1
   repeat(first|with_reducible exact X|with_reducible refine RdAt.drewd ?_|with_reducible refine RdAt.alloc ?_ _|with_reducible refine RdAt.setNew ?_ hrs (by omega) _ _)
  case t=>
   have X:=HT0.out.trans HQ3.out.2.2
   repeat(first|with_reducible exact X|with_reducible refine Touch.drewd ?_|with_reducible refine Touch.alloc ?_ _|with_reducible refine Touch.setNew ?_ (by omega) _)
 ·refine bodyPost_ret (zA4 Tryz.results104 _ _ ⟨s,0,none⟩ (.agg #[.int .i64 id,.int .i64 kind,.int .i64 addr,.int .i64 0,.bool wp,.slice da ds.length dc,.slice la ls.length lc]) rfl (zB1 _ _ _ _ _ _ _ _ _ (by simp[go_sem, *]) (by simp[go_sem, *]) (by simp[go_sem, *]) (by simp[go_sem, *]) (by simp[go_sem, *]) (by simp[go_sem, *]) (by simp[go_sem, *]))) rfl ⟨_,_,⟨id,kind,addr,0,wp,ds,ls⟩,q1+1+1,rfl,?od,?ol,?i,?ld,?ll,fun h9=>absurd (HB9.out h9) (by simp),by omega,?r,?t⟩
  case od=>
   have X:=HOD3.out.rebase (show w.heap.size≤g+1 by omega);have L:=(fun j hj=>(OwnR.lt HOD3.out j hj).1:∀j,_→g+1≤j)
   repeat(first|with_reducible exact X|with_reducible refine Owns.drewd ?_|with_reducible refine Owns.allocd ?_ _|with_reducible refine Owns.set' ?_ _ _ _ (fun j hj=>by have:=L j hj;omega))
  case ol=>
   have X:=HOL3.out.rebase (show w.heap.size≤g+1 by omega);have L:=(fun j hj=>(OwnR.lt HOL3.out j hj).1:∀j,_→g+1≤j)
   repeat(first|with_reducible exact X|with_reducible refine Owns.drewd ?_|with_reducible refine Owns.allocd ?_ _|with_reducible refine Owns.set' ?_ _ _ _ (fun j hj=>by have:=L j hj;omega))
  case i=>exact⟨by simp only[I64];omega,by simp only[I64];omega,by simp only[I64];omega,by simp only[I64];omega,I64D.out,I64L.out⟩
  case ld=>simp;omega
  case ll=>simp;omega
  case r=>
   have X:=HQ3.out.2.1
   repeat(first|with_reducible exact X|with_reducible refine RdAt.drewd ?_|with_reducible refine RdAt.alloc ?_ _|with_reducible refine RdAt.setNew ?_ hrs (by omega) _ _)
  case t=>
   have X:=HT0.out.trans HQ3.out.2.2
   repeat(first|with_reducible exact X|with_reducible refine Touch.drewd ?_|with_reducible refine Touch.alloc ?_ _|with_reducible refine Touch.setNew ?_ (by omega) _)
 ·refine bodyPost_ret (zA4 Tryz.results104 _ _ ⟨s,0,none⟩ (.agg #[.int .i64 id,.int .i64 kind,.int .i64 addr,.int .i64 3,.bool wp,.slice da ds.length dc,.slice la ls.length lc]) rfl (zB1 _ _ _ _ _ _ _ _ _ (by simp[go_sem, *]) (by simp[go_sem, *]) (by simp[go_sem, *]) (by simp[go_sem, *]) (by simp[go_sem, *]) (by simp[go_sem, *]) (by simp[go_sem, *]))) rfl ⟨_,_,⟨id,kind,addr,3,wp,ds,ls⟩,q1+1+1,rfl,?od,?ol,?i,?ld,?ll,fun h9=>absurd (HB9.out h9) (by simp),by omega,?r,?t⟩
  case od=>
   have X:=HOD3.out.rebase (show w.heap.size≤g+1 by omega);have L:=(fun j hj=>(OwnR.lt HOD3.out j hj).1:∀j,_→g+1≤j)
   repeat(first|with_reducible exact X|with_reducible refine Owns.drewd ?_|with_reducible refine Owns.allocd ?_ _|with_reducible refine Owns.set' ?_ _ _ _ (fun j hj=>by have:=L j hj;omega))
  case ol=>
   have X:=HOL3.out.rebase (show w.heap.size≤g+1 by omega);have L:=(fun j hj=>(OwnR.lt HOL3.out j hj).1:∀j,_→g+1≤j)
   repeat(first|with_reducible exact X|with_reducible refine Owns.drewd ?_|with_reducible refine Owns.allocd ?_ _|with_reducible refine Owns.set' ?_ _ _ _ (fun j hj=>by have:=L j hj;omega))
  case i=>exact⟨by simp only[I64];omega,by simp only[I64];omega,by simp only[I64];omega,by simp only[I64];omega,I64D.out,I64L.out⟩
  case ld=>simp;omega
  case ll=>simp;omega
  case r=>
   have X:=HQ3.out.2.1
   repeat(first|with_reducible exact X|with_reducible refine RdAt.drewd ?_|with_reducible refine RdAt.alloc ?_ _|with_reducible refine RdAt.setNew ?_ hrs (by omega) _ _)
  case t=>
   have X:=HT0.out.trans HQ3.out.2.2
   repeat(first|with_reducible exact X|with_reducible refine Touch.drewd ?_|with_reducible refine Touch.alloc ?_ _|with_reducible refine Touch.setNew ?_ (by omega) _)
 ·refine bodyPost_ret (zA4 Tryz.results104 _ _ ⟨s,0,none⟩ (.agg #[.int .i64 id,.int .i64 kind,.int .i64 addr,.int .i64 8,.bool wp,.slice da ds.length dc,.slice la ls.length lc]) rfl (zB1 _ _ _ _ _ _ _ _ _ (by simp[go_sem, *]) (by simp[go_sem, *]) (by simp[go_sem, *]) (by simp[go_sem, *]) (by simp[go_sem, *]) (by simp[go_sem, *]) (by simp[go_sem, *]))) rfl ⟨_,_,⟨id,kind,addr,8,wp,ds,ls⟩,q1+1+1,rfl,?od,?ol,?i,?ld,?ll,fun h9=>absurd (HB9.out h9) (by simp),by omega,?r,?t⟩
  case od=>
   have X:=HOD3.out.rebase (show w.heap.size≤g+1 by omega);have L:=(fun j hj=>(OwnR.lt HOD3.out j hj).1:∀j,_→g+1≤j)
   repeat(first|with_reducible exact X|with_reducible refine Owns.drewd ?_|with_reducible refine Owns.allocd ?_ _|with_reducible refine Owns.set' ?_ _ _ _ (fun j hj=>by have:=L j hj;omega))
  case ol=>
   have X:=HOL3.out.rebase (show w.heap.size≤g+1 by omega);have L:=(fun j hj=>(OwnR.lt HOL3.out j hj).1:∀j,_→g+1≤j)
   repeat(first|with_reducible exact X|with_reducible refine Owns.drewd ?_|with_reducible refine Owns.allocd ?_ _|with_reducible refine Owns.set' ?_ _ _ _ (fun j hj=>by have:=L j hj;omega))
  case i=>exact⟨by simp only[I64];omega,by simp only[I64];omega,by simp only[I64];omega,by simp only[I64];omega,I64D.out,I64L.out⟩
  case ld=>simp;omega
  case ll=>simp;omega
  case r=>
   have X:=HQ3.out.2.1
   repeat(first|with_reducible exact X|with_reducible refine RdAt.drewd ?_|with_reducible refine RdAt.alloc ?_ _|with_reducible refine RdAt.setNew ?_ hrs (by omega) _ _)
  case t=>
   have X:=HT0.out.trans HQ3.out.2.2
   repeat(first|with_reducible exact X|with_reducible refine Touch.drewd ?_|with_reducible refine Touch.alloc ?_ _|with_reducible refine Touch.setNew ?_ (by omega) _)
 ·refine bodyPost_ret (zA4 Tryz.results104 _ _ ⟨s,0,none⟩ (.agg #[.int .i64 id,.int .i64 kind,.int .i64 addr,.int .i64 4,.bool wp,.slice da ds.length dc,.slice la ls.length lc]) rfl (zB1 _ _ _ _ _ _ _ _ _ (by simp[go_sem, *]) (by simp[go_sem, *]) (by simp[go_sem, *]) (by simp[go_sem, *]) (by simp[go_sem, *]) (by simp[go_sem, *]) (by simp[go_sem, *]))) rfl ⟨_,_,⟨id,kind,addr,4,wp,ds,ls⟩,q1+1+1,rfl,?od,?ol,?i,?ld,?ll,fun h9=>absurd (HB9.out h9) (by simp),by omega,?r,?t⟩
  case od=>
   have X:=HOD3.out.rebase (show w.heap.size≤g+1 by omega);have L:=(fun j hj=>(OwnR.lt HOD3.out j hj).1:∀j,_→g+1≤j)
   repeat(first|with_reducible exact X|with_reducible refine Owns.drewd ?_|with_reducible refine Owns.allocd ?_ _|with_reducible refine Owns.set' ?_ _ _ _ (fun j hj=>by have:=L j hj;omega))
  case ol=>
   have X:=HOL3.out.rebase (show w.heap.size≤g+1 by omega);have L:=(fun j hj=>(OwnR.lt HOL3.out j hj).1:∀j,_→g+1≤j)
   repeat(first|with_reducible exact X|with_reducible refine Owns.drewd ?_|with_reducible refine Owns.allocd ?_ _|with_reducible refine Owns.set' ?_ _ _ _ (fun j hj=>by have:=L j hj;omega))
  case i=>exact⟨by simp only[I64];omega,by simp only[I64];omega,by simp only[I64];omega,by simp only[I64];omega,I64D.out,I64L.out⟩
  case ld=>simp;omega
  case ll=>simp;omega
  case r=>
   have X:=HQ3.out.2.1
   repeat(first|with_reducible exact X|with_reducible refine RdAt.drewd ?_|with_reducible refine RdAt.alloc ?_ _|with_reducible refine RdAt.setNew ?_ hrs (by omega) _ _)
  case t=>
   have X:=HT0.out.trans HQ3.out.2.2
   repeat(first|with_reducible exact X|with_reducible refine Touch.drewd ?_|with_reducible refine Touch.alloc ?_ _|with_reducible refine Touch.setNew ?_ (by omega) _)
 ·refine bodyPost_ret (zA4 Tryz.results104 _ _ ⟨s,0,none⟩ (.agg #[.int .i64 id,.int .i64 kind,.int .i64 addr,.int .i64 many,.bool wp,.slice va (ds.length+1) vc,.slice la ls.length lc]) rfl (zB1 _ _ _ _ _ _ _ _ _ (by simp[go_sem, *]) (by simp[go_sem, *]) (by simp[go_sem, *]) (by simp[go_sem, *]) (by simp[go_sem, *]) (by simp[go_sem, *]) (by simp[go_sem, *]))) rfl ⟨_,_,⟨id,kind,addr,many,wp,ds++[5],ls⟩,q1+1,rfl,?od,?ol,?i,?ld,?ll,fun h9=>absurd (HB9.out h9) (by simp),by omega,?r,?t⟩
  case od=>
   have X:=HOD3.out.rebase (show w.heap.size≤g+1 by omega);have L:=(fun j hj=>(OwnR.lt HOD3.out j hj).1:∀j,_→g+1≤j)
   repeat(first|with_reducible exact X|with_reducible refine Owns.drewd ?_|with_reducible refine Owns.allocd ?_ _|with_reducible refine Owns.set' ?_ _ _ _ (fun j hj=>by have:=L j hj;omega))
  case ol=>
   have X:=HOL3.out.rebase (show w.heap.size≤g+1 by omega);have L:=(fun j hj=>(OwnR.lt HOL3.out j hj).1:∀j,_→g+1≤j)
   repeat(first|with_reducible exact X|with_reducible refine Owns.drewd ?_|with_reducible refine Owns.allocd ?_ _|with_reducible refine Owns.set' ?_ _ _ _ (fun j hj=>by have:=L j hj;omega))
  case i=>exact⟨by simp only[I64];omega,by simp only[I64];omega,by simp only[I64];omega,by simp only[I64];omega,app64I I64D.out (by simp only[I64];omega),I64L.out⟩
  case ld=>simp;omega
  case ll=>simp;omega
  case r=>
   have X:=HQ3.out.2.1
   repeat(first|with_reducible exact X|with_reducible refine RdAt.drewd ?_|with_reducible refine RdAt.alloc ?_ _|with_reducible refine RdAt.setNew ?_ hrs (by omega) _ _)
  case t=>
   have X:=HT0.out.trans HQ3.out.2.2
   repeat(first|with_reducible exact X|with_reducible refine Touch.drewd ?_|with_reducible refine Touch.alloc ?_ _|with_reducible refine Touch.setNew ?_ (by omega) _)
 ·refine bodyPost_ret (zA4 Tryz.results104 _ _ ⟨s,0,none⟩ (.agg #[.int .i64 id,.int .i64 kind,.int .i64 addr,.int .i64 many,.bool wp,.slice da ds.length dc,.slice va (ls.length+1) vc]) rfl (zB1 _ _ _ _ _ _ _ _ _ (by simp[go_sem, *]) (by simp[go_sem, *]) (by simp[go_sem, *]) (by simp[go_sem, *]) (by simp[go_sem, *]) (by simp[go_sem, *]) (by simp[go_sem, *]))) rfl ⟨_,_,⟨id,kind,addr,many,wp,ds,ls++[1]⟩,q1+1,rfl,?od,?ol,?i,?ld,?ll,fun h9=>absurd (HB9.out h9) (by simp),by omega,?r,?t⟩
  case od=>
   have X:=HOD3.out.rebase (show w.heap.size≤g+1 by omega);have L:=(fun j hj=>(OwnR.lt HOD3.out j hj).1:∀j,_→g+1≤j)
   repeat(first|with_reducible exact X|with_reducible refine Owns.drewd ?_|with_reducible refine Owns.allocd ?_ _|with_reducible refine Owns.set' ?_ _ _ _ (fun j hj=>by have:=L j hj;omega))
  case ol=>
   have X:=HOL3.out.rebase (show w.heap.size≤g+1 by omega);have L:=(fun j hj=>(OwnR.lt HOL3.out j hj).1:∀j,_→g+1≤j)
   repeat(first|with_reducible exact X|with_reducible refine Owns.drewd ?_|with_reducible refine Owns.allocd ?_ _|with_reducible refine Owns.set' ?_ _ _ _ (fun j hj=>by have:=L j hj;omega))
  case i=>exact⟨by simp only[I64];omega,by simp only[I64];omega,by simp only[I64];omega,by simp only[I64];omega,I64D.out,app64I I64L.out (by simp only[I64];omega)⟩
  case ld=>simp;omega
  case ll=>simp;omega
  case r=>
   have X:=HQ3.out.2.1
   repeat(first|with_reducible exact X|with_reducible refine RdAt.drewd ?_|with_reducible refine RdAt.alloc ?_ _|with_reducible refine RdAt.setNew ?_ hrs (by omega) _ _)
  case t=>
   have X:=HT0.out.trans HQ3.out.2.2
   repeat(first|with_reducible exact X|with_reducible refine Touch.drewd ?_|with_reducible refine Touch.alloc ?_ _|with_reducible refine Touch.setNew ?_ (by omega) _)
 ·have hd0:0<ds.length:=by first|assumption|omega|(simp at *;omega)
  have hsr:=HOD2.out.someR (by omega);obtain⟨gd,go,c', e', hc1', hc2', hgd1,hgd2⟩:=hsr;simp only[Value.slice.injEq,true_and]at e';obtain⟨rfl,rfl⟩:=e';have HAG:=hid (HAP.out gd rfl)
  go_wp2_with fail
  go_region_with (first
   |(go_at_call 103;(with_reducible refine(zB7 r B bs (q1+1) 2 w2.drew h2.drewd (by omega) (by omega) (by omega)).mono ?_);rintro e w3 ⟨z', rfl,z0,z1,h3,ht3⟩;obtain⟨z,rfl⟩:=Int.eq_ofNat_of_zero_le z0;have hz:z<2:=(by omega);obtain⟨y,hl1,hy⟩:=tab2 (-1) 65536 hz;have hl2:=zF4 hl1;clear hz;have hzi:(z:Int)<2:=z1;clear z1;have HQ3:=hid (HQ2.out.drewd.touch hgr h3 ht3);have HOD3:=hid (HOD2.out.drewd.touch ht3 (by omega));have HOL3:=hid (HOL2.out.drewd.touch ht3 (by omega));obtain⟨k0,k1,k2,k3,k4,k5,k6⟩:=HQ3.out.1.cells;obtain⟨m0,m1,m2,m3,m4,m5,m6⟩:=HQ3.out.1.unfrozen;have gl3:=HQ3.out.1.lt;have hz3:=HS0.out.touch HQ3.out.2.2 (show s≠r by omega);obtain⟨n0,n1,n2,n3,n4,n5,n6⟩:=hz3.cells;obtain⟨o0,o1,o2,o3,o4,o5,o6⟩:=hz3.unfrozen;have hzl3:=hz3.lt;clear hz3;have zc:w3.cell? ⟨gd,go,none⟩=_:=HOD3.out.cellI 0 hd0;have zf:w3.frozen? ⟨gd,go,none⟩=false:=HOD3.out.frozenI 0;have zl:gd<w3.heap.size:=HOD3.out.ltI.2)
   |(go_at_call 103;(with_reducible refine(zB7 r B bs (q1+1) 2 (w2.alloc _).drew (h2.alloc _).drewd (by omega) (by omega) (by omega)).mono ?_);rintro e w3 ⟨z', rfl,z0,z1,h3,ht3⟩;obtain⟨z,rfl⟩:=Int.eq_ofNat_of_zero_le z0;have hz:z<2:=(by omega);obtain⟨y,hl1,hy⟩:=tab2 (-1) 65536 hz;have hl2:=zF4 hl1;clear hz;have hzi:(z:Int)<2:=z1;clear z1;have tB:=Touch.tab ht3.ofDrew h2.lt z _ hl2;have tl:=World.block_lt_of_cell? w3 _ tB;have HQ3:=hid ((HQ2.out.alloc _).drewd.touch hgr h3 ht3);have HOD3:=hid ((HOD2.out.allocd _).drewd.touch ht3 (by omega));have HOL3:=hid ((HOL2.out.allocd _).drewd.touch ht3 (by omega));obtain⟨k0,k1,k2,k3,k4,k5,k6⟩:=HQ3.out.1.cells;obtain⟨m0,m1,m2,m3,m4,m5,m6⟩:=HQ3.out.1.unfrozen;have gl3:=HQ3.out.1.lt;have hz3:=HS0.out.touch HQ3.out.2.2 (show s≠r by omega);obtain⟨n0,n1,n2,n3,n4,n5,n6⟩:=hz3.cells;obtain⟨o0,o1,o2,o3,o4,o5,o6⟩:=hz3.unfrozen;have hzl3:=hz3.lt;clear hz3;have zc:w3.cell? ⟨gd,go,none⟩=_:=HOD3.out.cellI 0 hd0;have zf:w3.frozen? ⟨gd,go,none⟩=false:=HOD3.out.frozenI 0;have zl:gd<w3.heap.size:=HOD3.out.ltI.2))
  all_goals
   go_wp2_with fail
   refine bodyPost_ret (zA4 Tryz.results104 _ _ ⟨s,0,none⟩ (.agg #[.int .i64 id,.int .i64 kind,.int .i64 addr,.int .i64 many,.bool wp,.slice (some ⟨gd,go,none⟩) ds.length dc,.slice la ls.length lc]) rfl (zB1 _ _ _ _ _ _ _ _ _ (by simp[go_sem, *]) (by simp[go_sem, *]) (by simp[go_sem, *]) (by simp[go_sem, *]) (by simp[go_sem, *]) (by simp[go_sem, *]) (by simp[go_sem, *]))) rfl ⟨_,_,⟨id,kind,addr,many,wp,ds.set 0 y,ls⟩,q1+1+1,rfl,?od,?ol,?i,?ld,?ll,fun h9=>absurd (HB9.out h9) (by simp),by omega,?r,?t⟩
   case od=>
    have X:=HOD3.out.rebase (show w.heap.size≤g+1 by omega);have L:=(fun j hj=>(OwnR.lt HOD3.out j hj).1:∀j,_→g+1≤j)
    repeat(first|with_reducible exact X|with_reducible refine Owns.drewd ?_|with_reducible refine Owns.allocd ?_ _|with_reducible refine Owns.putRow1' ?_ 0 hd0 _ rfl|with_reducible refine Owns.set' ?_ _ _ _ (fun j hj=>by have:=L j hj;omega))
   case ol=>
    have X:=HOL3.out.rebase (show w.heap.size≤g+1 by omega);have L:=(fun j hj=>(OwnR.lt HOL3.out j hj).1:∀j,_→g+1≤j)
    repeat(first|with_reducible exact X|with_reducible refine Owns.drewd ?_|with_reducible refine Owns.allocd ?_ _|with_reducible refine Owns.set' ?_ _ _ _ (fun j hj=>by first|(have:=L j hj;omega)|exact fun e=>HAG.out (hj.trans (congrArg some e))))
    try exact Owns.set' X _ _ _ (fun j hj e=>HAG.out (hj.trans (congrArg some e)))
   case i=>exact⟨by simp only[I64];omega,by simp only[I64];omega,by simp only[I64];omega,by simp only[I64];omega,set64I I64D.out (by simp only[I64];omega),I64L.out⟩
   case ld=>simp;omega
   case ll=>simp;omega
   case r=>
    have X:=HQ3.out.2.1
    repeat(first|with_reducible exact X|with_reducible refine RdAt.drewd ?_|with_reducible refine RdAt.alloc ?_ _|with_reducible refine RdAt.setNew ?_ hrs (by omega) _ _)
   case t=>
    have X:=HT0.out.trans HQ3.out.2.2
    repeat(first|with_reducible exact X|with_reducible refine Touch.drewd ?_|with_reducible refine Touch.alloc ?_ _|with_reducible refine Touch.setNew ?_ (by omega) _)
 ·refine bodyPost_ret (zA4 Tryz.results104 _ _ ⟨s,0,none⟩ (.agg #[.int .i64 id,.int .i64 kind,.int .i64 addr,.int .i64 many,.bool wp,.slice da ds.length dc,.slice la ls.length lc]) rfl (zB1 _ _ _ _ _ _ _ _ _ (by simp[go_sem, *]) (by simp[go_sem, *]) (by simp[go_sem, *]) (by simp[go_sem, *]) (by simp[go_sem, *]) (by simp[go_sem, *]) (by simp[go_sem, *]))) rfl ⟨_,_,⟨id,kind,addr,many,wp,ds,ls⟩,q1+1,rfl,?od,?ol,?i,?ld,?ll,fun h9=>absurd (HB9.out h9) (by simp),by omega,?r,?t⟩
  case od=>
   have X:=HOD2.out.rebase (show w.heap.size≤g+1 by omega);have L:=(fun j hj=>(OwnR.lt HOD2.out j hj).1:∀j,_→g+1≤j)
   repeat(first|with_reducible exact X|with_reducible refine Owns.drewd ?_|with_reducible refine Owns.allocd ?_ _|with_reducible refine Owns.set' ?_ _ _ _ (fun j hj=>by have:=L j hj;omega))
  case ol=>
   have X:=HOL2.out.rebase (show w.heap.size≤g+1 by omega);have L:=(fun j hj=>(OwnR.lt HOL2.out j hj).1:∀j,_→g+1≤j)
   repeat(first|with_reducible exact X|with_reducible refine Owns.drewd ?_|with_reducible refine Owns.allocd ?_ _|with_reducible refine Owns.set' ?_ _ _ _ (fun j hj=>by have:=L j hj;omega))
  case i=>exact⟨by simp only[I64];omega,by simp only[I64];omega,by simp only[I64];omega,by simp only[I64];omega,I64D.out,I64L.out⟩
  case ld=>simp;omega
  case ll=>simp;omega
  case r=>
   have X:=HQ2.out.2.1
   repeat(first|with_reducible exact X|with_reducible refine RdAt.drewd ?_|with_reducible refine RdAt.alloc ?_ _|with_reducible refine RdAt.setNew ?_ hrs (by omega) _ _)
  case t=>
   have X:=HT0.out.trans HQ2.out.2.2
   repeat(first|with_reducible exact X|with_reducible refine Touch.drewd ?_|with_reducible refine Touch.alloc ?_ _|with_reducible refine Touch.setNew ?_ (by omega) _)
end Go.Proofs.YthnlalffjepdaaaGreat
