/- The row of a law that returns true and writes nothing that was there: from the walk to the row, for any parameters. -/
import Derived.Test.YtgkdoehkmbhfiaaGreatQDq1b
import Derived.Test.YtgkdoehkmbhfiaaGreatQDr7
import Derived.Test.YtgkdoehkmbhfiaaGreatQYw
import Derived.Test.YtgkdoehkmbhfiaaGreatQDp1
import Derived.Test.YtgkdoehkmbhfiaaGreatQDo4
import Derived.Test.YtgkdoehkmbhfiaaGreatQLib
import Derived.Outline
import Derived.Deep.Cut
import Derived.Deep.CutRange
import Derived.Test.YtgkdoehkmbhfiaaGreatRows
import Derived.ProofKit
import Derived.SizedLaws
import Derived.Deep.Slices
set_option linter.unusedVariables false
set_option linter.unusedSimpArgs false
set_option maxHeartbeats 16000000
namespace Go.Proofs.YtgkdoehkmbhfiaaGreat
open Go.RowKit
structure LbO (w:World) (lo mid:Nat) (a bo po:Value) (us:List Value) (ls:List (List Rq)) (ms:List MR) (lat:List Int):Prop where
 oa:Owns w lo 144 4 rowM a ms
 ob:Owns w lo 3 1 rowI bo lat
 op:Owns w lo 53 1 row1 po us
 len:us.length=ls.length
 pg:∀j,j<ls.length→∃qs vs n c x,RdO w mid (.slice x n c) qs vs∧us.getD j vnil=.slice x (ls.getD j []).length c∧(ls.getD j [])=qs.take (ls.getD j []).length
 ap:∀i j,i<j→j<ls.length→Apart (us.getD i vnil) (us.getD j vnil)
 bm:∀k,bo.ownBlock=some k→k<mid
 ml:lo≤mid
theorem LbS.toO {w0 w W:World} {lo mid g r B:Nat} {bs:List Nat} {a bx bo px po:Value} {us:List Value} {ls:List (List Rq)} {ms:List MR} {lat:List Int} {q:Nat} (h:LbS w0 lo mid g r B bs a bx bo px po us ls ms lat q w) (hkw:∀k,lo≤k→W.heap[k]? = w.heap[k]?):LbO W lo mid a bo po us ls ms lat :=
 ⟨OwnR.kept h.oa fun k hk2 => hkw k (OwnR.lt h.oa k hk2).1, OwnR.kept h.ob fun k hk2 => hkw k (OwnR.lt h.ob k hk2).1, OwnR.kept h.op fun k hk2 => hkw k (OwnR.lt h.op k hk2).1, h.len,
  fun j hj=>let ⟨qs,vs,n,c,x,k1,k2⟩:=h.pg j hj;⟨qs,vs,n,c,x,k1.kept fun k h4 _=>hkw k (Nat.le_trans h.ml h4),k2⟩,h.ap,h.bm,h.ml⟩
def Good1 (x:List Rq):Prop:=∀q∈x,reqOk q=true∧RqFit q
theorem Good1.snoc {x:List Rq} {q:Rq} (h:Good1 x) (hq:reqOk q=true∧RqFit q):Good1 (x++[q]):=by
 intro y hy;rcases List.mem_append.1 hy with hy|hy
 ·exact h y hy
 ·rw[List.mem_singleton.1 hy];exact hq
structure DrB (ms:List MR) (lat:List Int) (ls:List (List Rq)):Prop where
 m:mapOk ms=true
 m7:ms.length≤7
 m6:∀x∈ms,MR64 x
 l:lat.length=4
 l4:∀x∈lat,0≤x∧x<4
 p:ls.length=3
 q:∀x∈ls,x.length≤12∧Good1 x
theorem DrB.fit {ms:List MR} {lat:List Int} {ls:List (List Rq)} (h:DrB ms lat ls):BFit ms lat ls :=
 ⟨by have:=h.m7;omega,h.m6,by have:=h.l;omega,fun x hx=>by have:=h.l4 x hx;unfold I64;omega,by have:=h.p;omega,fun p hp=>⟨by have:=(h.q p hp).1;omega,fun q hq=>((h.q p hp).2 q hq).2⟩⟩
theorem DrB.ok {ms:List MR} {lat:List Int} {ls:List (List Rq)} (h:DrB ms lat ls):busOk ms lat ls=true:=by
 simp only[busOk,Bool.and_eq_true,decide_eq_true_eq,List.all_eq_true];refine⟨⟨⟨⟨h.m,h.l⟩,fun x hx=>by have:=h.l4 x hx;simp[inB];omega⟩,h.p⟩,fun p hp=>?_⟩;simp only[progOk,Bool.and_eq_true,decide_eq_true_eq,List.all_eq_true];exact⟨(h.q p hp).1,fun q hq=>((h.q p hp).2 q hq).1⟩
def BusDr (r B:Nat) (bs:List Nat) (p:Nat) (w:World) (e:Ending) (w':World):Prop :=
 ∃a b pv us ls ms lat q lo mid,e=.returned (.agg #[a,b,pv])∧LbO w' lo mid a b pv us ls ms lat∧w.heap.size<lo∧DrB ms lat ls∧q≤p+40000∧RdAt w' r B bs q∧Touch r w w'
theorem hold_good {id addr:Int} {q:Rq} (h:reqOk q=true) (e1:id=q.id) (e2:addr=q.addr) (hf:RqFit q):reqOk ⟨id,3,addr,1,false,[],[]⟩=true∧RqFit ⟨id,3,addr,1,false,[],[]⟩:=by
 subst e1 e2;obtain⟨h1,h2,h3,h4,h5⟩:=zD2 h;have h6:inB q.addr 0 63=true:=by simp only[adrOk,Bool.and_eq_true]at h3;exact h3.1.1
 have h7:0≤q.addr∧q.addr≤63:=by simpa[inB]using h6
 refine⟨?_,⟨by simp,by simp⟩,by simp,by simp,hf.2.2.2.1,by simp[I64],hf.2.2.2.2.2.1,by simp[I64]⟩;have h8:0≤q.id∧q.id≤1:=by simpa[inB]using h1
 simp[reqOk,adrOk,zB8,inB];omega
structure LbJ (wo W:World) (r B:Nat) (bs:List Nat) (q:Nat) (v:Value) (qs:List Rq) (vs:List (Value×Value)) (y:Rq) (d l:Value) (bx:Nat):Prop where
 t:Touch r wo W
 rd:RdAt W r B bs q
 rows:RdO W wo.heap.size v qs vs
 hd:Owns W wo.heap.size 3 1 rowI d y.data
 hl:Owns W wo.heap.size 3 1 rowI l y.lanes
 box:BoxQ W bx y d l
 bl:wo.heap.size≤bx
 vb:v.ownBlock≠some bx
 r0:r<wo.heap.size
theorem LbJ.touch {wo W W':World} {r B q q':Nat} {bs:List Nat} {v d l:Value} {qs:List Rq} {vs:List (Value×Value)} {y:Rq} {bx:Nat} (h:LbJ wo W r B bs q v qs vs y d l bx) (ht:Touch r W W') (hr:RdAt W' r B bs q'):LbJ wo W' r B bs q' v qs vs y d l bx:=by
 have h0:=h.r0;have key:∀k,wo.heap.size≤k→k<W.heap.size→W'.heap[k]? = W.heap[k]?:=fun k h1 h2=>ht.block k h2 (by omega)
 exact { h with t:=h.t.trans ht,rd:=hr,rows:=h.rows.kept key,hd:=OwnR.kept h.hd fun k hk=>key k (OwnR.lt h.hd k hk).1 (OwnR.lt h.hd k hk).2,hl:=OwnR.kept h.hl fun k hk=>key k (OwnR.lt h.hl k hk).1 (OwnR.lt h.hl k hk).2,box:=h.box.keep (key bx h.bl h.box.lt) }
theorem LbJ.push {wo W w9 : World} {r B q : Nat} {bs : List Nat} {v v' d l d' l' : Value} {qs : List Rq} {vs : List (Value × Value)} {y z : Rq} {bx : Nat} (h : LbJ wo W r B bs q v qs vs y d l bx) (hd : Owns W wo.heap.size 3 1 rowI d' z.data) (hl : Owns W wo.heap.size 3 1 rowI l' z.lanes)
  (ho:Owns w9 wo.heap.size 52 7 rowQ v' (zipQ qs vs++[(z,d', l')])) (hk:∀b,b<W.heap.size→v.ownBlock≠some b→w9.heap[b]? = W.heap[b]?) (hv:v'.ownBlock=v.ownBlock∨∃k,W.heap.size≤k∧v'.ownBlock=some k) (hb:Below wo.heap.size W w9) :
  LbJ wo w9 r B bs q v' (qs++[z]) (vs++[(d', l')]) y d l bx∧(v.ownBlock≠none→v'.ownBlock≠none):=by
 have key:∀{u:Value} {xs:List Int},Owns W wo.heap.size 3 1 rowI u xs→Owns w9 wo.heap.size 3 1 rowI u xs:=fun hu=>OwnR.kept hu fun j hj=>hk j (OwnR.lt hu j hj).2 (fun e=>Owns.apartT hu h.rows.rows (by decide) j hj e)
 refine⟨⟨h.t.bel hb (Nat.le_refl _),h.rd.kept hb h.r0,h.rows.snoc ho (fun j cs T hc hT=>hk j (heap_lt hc) (h.rows.rows.notB hc (by rw[hT];decide))) (key hd) (key hl),key h.hd,key h.hl,h.box.keep (hk bx h.box.lt h.vb),h.bl,?_,h.r0⟩,fun hn=>?_⟩
 ·rcases hv with hv|⟨k,hk2,hv⟩
  ·rw[hv];exact h.vb
  ·rw[hv];have:=h.box.lt;intro e;simp only[Option.some.injEq]at e;omega
 ·rcases hv with hv|⟨k,_,hv⟩
  ·rw[hv];exact hn
  ·rw[hv];simp
set_option maxRecDepth 8000 in
theorem l20Bus_any (r B : Nat) (bs : List Nat) (p n : Nat) (w : World) (hr0 : RdAt w r B bs p) (hp : p ≤ 100000) (hn : n ≤ 100) :
  Calls Tryz.prog 43 #[.pointer (some ⟨r,0,none⟩),.int .i64 (n:Nat)] w (BusDr r B bs p w):=by
 have hrw:=hr0.lt;have HR0:=hid hr0;clear hr0
 go_enter Tryz.func43,Tryz.ntmps43
 go_wp2_with fail
 refine at_world (fun W=>RdAt W r B bs p∧Touch r w W∧Bx W w.heap.size [vnil,vnil,vnil]∧W.heap.size=w.heap.size+1) ⟨HR0.out.alloc _,(Touch.refl r w).alloc _,Bx.new w #[vnil,vnil,vnil] _ (by simp),by simp⟩ ?_;rintro W1 ⟨hrd,ht,hres,hz1⟩;refine(l20Map9_any r B bs p 99999 W1 hrd (by omega) (by omega) (by omega) (by omega)).mono ?_;rintro e w2 ⟨v,ms,q1,rfl,om,hm6,hml,hmok,hq1,hrd2,ht2⟩;obtain⟨ma,mc,rfl,_,_⟩:=om.shape;have HW:=hid (And.intro hrd2 (And.intro (ht.trans ht2) (hres.kept (ht2.block _ hres.lt (by omega)))));have HOM:=hid om;have HMS:=hid (And.intro hm6 (And.intro hml (hmok (by omega))));have HQ1:=hid hq1;have HZ2:=hid ht2.size;have HZ1:=hid hz1;clear hrd ht hres hrd2 ht2 om hm6 hml hmok hq1 HR0 hz1
 go_wp2_with fail
 obtain⟨W3,hW3⟩:∃W3,W3=w2.alloc (.cells #[.slice ma ms.length mc,.slice none 0 0,.slice none 0 0] 27):=⟨_,rfl⟩
 rw[←hW3]
 have HS0 := hid (show LbS w W1.heap.size W3.heap.size w2.heap.size r B bs (.slice ma ms.length mc) vnil vnil vnil vnil [] [] ms [] q1 W3 from by
  have hb:Below w2.heap.size w2 W3:=by rw[hW3];exact bx1 _ _
  have hz:=HZ1.out;have hz2:=HZ2.out;exact⟨by rw[hW3];exact BoxB.new _ _ _ _,HOM.out.below hb,Owns.zero,Owns.zero,rfl,fun j hj=>absurd hj (by simp),fun i j _ hj=>absurd hj (by simp),fun k hk=>by simp[Value.ownBlock]at hk,HW.out.1.kept hb HW.out.1.lt,HW.out.2.1.bel hb HW.out.2.1.size,HW.out.2.2.below hb HW.out.2.2.lt,hrw,by omega,by omega,by have:=hb.size;omega,Nat.le_refl _⟩)
 clear hW3 HOM HW
 go_loopw [6] (fun i wr=>∃(k mid:Nat) (bv:Value) (lat:List Int),i=.int .i64 (k:Nat)∧k≤4∧lat.length=k∧(∀x∈lat,0≤x∧x<4)∧LbS w W1.heap.size mid w2.heap.size r B bs (.slice ma ms.length mc) bv bv vnil vnil [] [] ms lat (q1+k) wr) (fun i _=>4 - (intOf i).toNat)
 case atStart=>exact⟨0,_,_,[],rfl,by omega,rfl,by simp,HS0.out⟩
 case round=>
  obtain⟨k,mid,bv,lat,rfl,hk,hlk,hl4,hS⟩:=hrel;have HS:=hid hS;have HLK:=hid hlk;have HL4:=hid hl4;clear hS hlk hl4 HS0;obtain⟨bb,bc,hbv,_,_⟩:=HS.out.ob.shape;by_cases hlt:k<4
  ·have h1:(k:Int)≤3:=by omega
   clear hbv
   go_upto_region 5 with fail
   refine lb5_region _ _ _ _ _ _ _ _ _ _ _ _ _ _ _ _ _ _ _ _ _ _ _ _ _ _ _ _ _ _ _ _ _ _ _ _ _ _ _ _ _ _ _ _ _ _ _ _ _ _ _ _ _ _ _ _ _ _ _ _ _ _ _ _ _ _ _ _ _ _ _ _ _ _ w2.heap.size r w W1.heap.size mid B bs (.slice ma ms.length mc) bv vnil ms lat (q1+k) _ HS.out (by have:=HQ1.out;omega) (by have:=HLK.out;omega) ?_;intro u18 u19 u20 u21 u22 u23 u24 wc hcut;obtain⟨x,m', u,x0,x4,hS'⟩:=hcut;have HS':=hid hS';clear hS';unfold lb5A
   go_wp2_with fail
   go_roundw
   case rel => exact ⟨k + 1, m', u, lat ++ [x], by go_num, by omega, by rw [List.length_append, List.length_singleton, HLK.out], fun y hy => by
    rcases List.mem_append.1 hy with hy|hy
    ·exact HL4.out y hy
    ·rw[List.mem_singleton.1 hy];exact⟨x0,x4⟩,HS'.out⟩
   case measure=>simp[intOf];omega
  ·obtain rfl:k=4:=by omega
   clear hbv;rw[show(((4:Nat):Int))=4 from rfl]
   go_wp2_with fail
   have HST:=hid HS.out
   go_loopw [7] (fun i wr=>∃(k q:Nat) (pv:Value) (us:List Value) (ls:List (List Rq)),i=.int .i64 (k:Nat)∧k≤3∧ls.length=k∧(∀x∈ls,x.length≤12∧Good1 x)∧q≤q1+4+k * 10201∧LbS w W1.heap.size mid w2.heap.size r B bs (.slice ma ms.length mc) bv bv pv pv us ls ms lat q wr) (fun i _=>3 - (intOf i).toNat)
   case atStart=>exact⟨0,_,_,[],[],rfl,by omega,rfl,by simp,by omega,HS.out⟩
   case round=>
    clear HS HST;obtain⟨k,q,pv,us,ls,rfl,hk,hlk,hgs,hq,hS⟩:=hrel;have HS:=hid hS;have HLS:=hid hlk;have HGS:=hid hgs;clear hS hlk hgs;obtain⟨wo,hwo⟩:∃W,W=wr:=⟨_,rfl⟩
    subst hwo;have hro:r<wo.heap.size:=HS.out.rd.lt;by_cases hlt:k<3
    ·have hlt3:(k:Int)<3:=by omega
     have hqb:q≤1000000:=by have:=HQ1.out;omega
     have HRD0:=hid (HS.out.rd.alloc (.cells #[] 52))
     go_wp2_with (go_at_call 82;go_loud ((with_reducible refine(zC9 r B bs q ((n:Int)+1) _ HRD0.out (by omega) (by omega) (by omega)).mono ?_);rintro e w5 ⟨x,rfl,x0,x1,hrd5,ht5⟩))
     obtain⟨m0,rfl⟩:=Int.eq_ofNat_of_zero_le x0;have HI0:=hid (show RdO w5 wo.heap.size (.slice (some ⟨wo.heap.size,0,none⟩) 0 0) [] [] from(show RdO (wo.alloc (.cells #[] 52)) wo.heap.size (.slice (some ⟨wo.heap.size,0,none⟩) 0 0) [] [] from⟨rfl,Owns.lit (Nat.le_refl _),by simp,by simp⟩).kept fun j h1 h2=>ht5.block j h2 (by omega));have HT0:=hid (show Touch r wo w5 from((Touch.refl r wo).alloc _).trans ht5);have HRD1:=hid hrd5;clear hrd5 ht5 HRD0
     go_loopw [8,9] (fun lv i wx=>∃(m q':Nat) (qs:List Rq) (vs:List (Value×Value)),i=.int .i64 (m:Nat)∧m≤m0∧q' ≤ q+1+(m0 - m) * 101∧Touch r wo wx∧RdAt wx r B bs q' ∧ lv.ownBlock≠none∧RdO wx wo.heap.size lv qs vs∧Good1 qs∧qs.length≤2 * (m0 - m)) (fun _ i _=>(intOf i).toNat)
     case atStart=>exact⟨m0,_,[],[],rfl,by omega,by omega,HT0.out,HRD1.out,by simp[Value.ownBlock],HI0.out,by intro y hy;simp at hy,by simp⟩
     case round=>
      clear HI0 HT0 HRD1;obtain⟨m,q', qs,vs,rfl,hm,hq', htx,hrdx,hvn,hrx,hgx,hqx⟩:=hrel;have HTX:=hid htx;have HRDX:=hid hrdx;have HVN:=hid hvn;have HRX:=hid hrx;have HGX:=hid hgx;have HQL:=hid hqx;clear htx hrdx hvn hrx hgx hqx;by_cases hm0:0<m
      ·have hm0':(0:Int)<(m:Int):=by omega
       go_upto_region 14 with(go_at_call 83;go_loud ((with_reducible refine(l20Req9_any r B bs q' 99999 _ HRDX.out (by omega) (by omega) (by omega) (by omega)).mono ?_);rintro e w8 ⟨dv,lv', rq,q4,rfl,o1,o2,⟨i1,i2,i3,i4,i5,i6⟩,n1,n2,hok,hq4,hrd8,ht8⟩;obtain⟨da,dc,rfl,_,_⟩:=o1.shape;obtain⟨la,lc,rfl,_,_⟩:=o2.shape))
       have HRQ:=hid (show reqOk rq=true∧RqFit rq from⟨hok (by omega),⟨by omega,by omega⟩,i5,i6,i1,i2,i3,i4⟩);have HQ4:=hid hq4;obtain⟨W8,hW8⟩:∃W8,W8=w8.alloc (.cells #[.int .i64 rq.id,.int .i64 rq.kind,.int .i64 rq.addr,.int .i64 rq.many,.bool rq.wrap,.slice da rq.data.length dc,.slice la rq.lanes.length lc] 52):=⟨_,rfl⟩
       rw[←hW8];have hbel:Below w8.heap.size w8 W8:=by rw[hW8];exact bx1 _ _
       have HJ := hid (show LbJ wo W8 r B bs q4 u8 qs vs rq (.slice da rq.data.length dc) (.slice la rq.lanes.length lc) w8.heap.size from
        ⟨(HTX.out.trans ht8).bel hbel (HTX.out.trans ht8).size,hrd8.kept hbel hrd8.lt,(HRX.out.kept fun j h1 h2=>ht8.block j h2 (by omega)).below hbel,OwnR.rebase (OwnR.below o1 hbel fun j hj=>(OwnR.lt o1 j hj).2) HTX.out.size,OwnR.rebase (OwnR.below o2 hbel fun j hj=>(OwnR.lt o2 j hj).2) HTX.out.size,by rw[hW8];exact BoxQ.new _ _ _ _,(HTX.out.trans ht8).size,fun e=>by have:=(OwnR.lt HRX.out.rows _ e).2;have:=ht8.size;omega,hro⟩)
       obtain⟨vb,vo,vc,hv⟩:∃b o c,u8=.slice (some ⟨b,o,none⟩) qs.length c:=by
        rcases HRX.out.rows.cases2 with⟨e,_⟩|⟨b,o,c,e⟩
        ·exact absurd (show u8.ownBlock=none by rw[e];rfl) HVN.out
        ·rw[zC3 HRX.out.len]at e;exact⟨b,o,c,e⟩
       subst hv;clear hW8 hbel o1 o2 i1 i2 i3 i4 i5 i6 n1 n2 hok hq4 hrd8 ht8;have HQS:=hid (show qs.length≤200 by have:=HQL.out;omega);by_cases hk4:rq.kind=4
       ·obtain⟨⟨e0,e1,e2,e3,e4,e5,e6⟩,_⟩:=HJ.out.box.bx.seven;have hk4':(rq.kind==4)=true:=by simp[hk4]
        clear hk4;by_cases hl0:0<qs.length
        ·have hl0':(0:Int)<(qs.length:Int):=by omega
         have hq4b:q4≤2000000:=by have:=HQ4.out;omega
         go_upto_if 52 with(go_at_call 82;go_loud ((with_reducible refine(zC9 r B bs q4 2 W8 HJ.out.rd (by omega) (by omega) (by omega)).mono ?_);rintro e w10 ⟨x,rfl,x0,x2,hrd10,ht10⟩;have HJ10:=hid (HJ.out.touch ht10 hrd10);clear hrd10 ht10))
         clear e0 e1 e2 e3 e4 e5 e6 hk4';rcases(show x=0∨x=1 by omega)with rfl|rfl
         ·obtain⟨⟨e0,e1,e2,e3,e4,e5,e6⟩,_⟩:=HJ10.out.box.bx.seven
          go_upto_region 16 with (first
           |((with_reducible refine zG9 _ _ _ _ _ rfl ?_ ?_);rfl)
           |(at_builtin;go_must (refine zC4 zG5 rowQ zC8 (⟨rq.id,3,rq.addr,1,false,[],[]⟩,.slice none 0 0,.slice none 0 0) (one7r ⟨rq.id,3,rq.addr,1,false,[],[]⟩ none none 0 0 0 0) w10 rfl _ _ rfl wo.heap.size _ (zipQ qs vs) (by rfl) HJ10.out.rows.rows _ (by rfl) (by rfl) (by rw[zC3 HJ10.out.rows.len];have:=HQS.out;omega) (by rw[zC3 HJ10.out.rows.len];have:=HQS.out;omega) HJ10.out.t.size ?_;intro v' w11 ho9 hz9 hk9 hv9 hb9;have HP:=hid (HJ10.out.push (z:=⟨rq.id,3,rq.addr,1,false,[],[]⟩) Owns.zero Owns.zero ho9 hk9 hv9 hb9);obtain⟨vb,vd,hve,_,_⟩:=ho9.shape;rw[List.length_append,zC3 HJ10.out.rows.len,List.length_singleton]at hve;subst hve;clear ho9 hz9 hk9 hv9 hb9)))
          clear e0 e1 e2 e3 e4 e5 e6;have HJ11:=hid HP.out.1;have HVN11:=hid (HP.out.2 HVN.out);have HGX2:=hid (Good1.snoc HGX.out (hold_good HRQ.out.1 rfl rfl HRQ.out.2));obtain⟨⟨e0,e1,e2,e3,e4,e5,e6⟩,_⟩:=HJ11.out.box.bx.seven
          go_wp2_with (first
           |((with_reducible refine zG9 _ _ _ _ _ rfl ?_ ?_);rfl)
           |(at_builtin;go_must (refine zC4 zG5 rowQ zC8 (rq,.slice da rq.data.length dc,.slice la rq.lanes.length lc) (one7r _ _ _ _ _ _ _) w11 rfl _ _ rfl wo.heap.size _ (zipQ (qs++[⟨rq.id,3,rq.addr,1,false,[],[]⟩]) (vs++[(.slice none 0 0,.slice none 0 0)])) (by rfl) HJ11.out.rows.rows _ (by rfl) (by rfl) (by rw[zC3 HJ11.out.rows.len];have:=HQL.out;rw[List.length_append,List.length_singleton];omega) (by rw[zC3 HJ11.out.rows.len];have:=HQL.out;rw[List.length_append,List.length_singleton];omega) HJ11.out.t.size ?_;intro v' w9 ho9 hz9 hk9 hv9 hb9)))
          have HN:=hid (HJ11.out.push HJ11.out.hd HJ11.out.hl ho9 hk9 hv9 hb9);clear ho9 hz9 hk9 hv9 hb9
          go_roundw
          case rel=>exact⟨m - 1,_,_,_,by congr 1;omega,by omega,by have:=HQ4.out;omega,HN.out.1.t,HN.out.1.rd,HN.out.2 (HVN11.out),HN.out.1.rows,Good1.snoc HGX2.out HRQ.out,by have:=HQL.out;rw[List.length_append,List.length_singleton];simp;omega⟩
          case measure=>simp[intOf];omega
         ·skip
          obtain⟨⟨e0,e1,e2,e3,e4,e5,e6⟩,_⟩:=HJ10.out.box.bx.seven
          go_wp2_with (first
           |((with_reducible refine zG9 _ _ _ _ _ rfl ?_ ?_);rfl)
           |(at_builtin;go_must (refine zC4 zG5 rowQ zC8 (rq,.slice da rq.data.length dc,.slice la rq.lanes.length lc) (one7r _ _ _ _ _ _ _) w10 rfl _ _ rfl wo.heap.size _ (zipQ (qs) (vs)) (by rfl) HJ10.out.rows.rows _ (by rfl) (by rfl) (by rw[zC3 HJ10.out.rows.len];have:=HQL.out;omega) (by rw[zC3 HJ10.out.rows.len];have:=HQL.out;omega) HJ10.out.t.size ?_;intro v' w9 ho9 hz9 hk9 hv9 hb9)))
          have HN:=hid (HJ10.out.push HJ10.out.hd HJ10.out.hl ho9 hk9 hv9 hb9);clear ho9 hz9 hk9 hv9 hb9
          go_roundw
          case rel=>exact⟨m - 1,_,_,_,by congr 1;omega,by omega,by have:=HQ4.out;omega,HN.out.1.t,HN.out.1.rd,HN.out.2 (HVN.out),HN.out.1.rows,Good1.snoc HGX.out HRQ.out,by have:=HQL.out;simp;omega⟩
          case measure=>simp[intOf];omega
        ·have hl0d:decide (0<qs.length)=false:=by rw[decide_eq_false_iff_not];exact hl0
         clear hl0
         go_upto_if 52 with fail
         clear e0 e1 e2 e3 e4 e5 e6 hk4' hl0d;obtain⟨⟨e0,e1,e2,e3,e4,e5,e6⟩,_⟩:=HJ.out.box.bx.seven
         go_wp2_with (first
          |((with_reducible refine zG9 _ _ _ _ _ rfl ?_ ?_);rfl)
          |(at_builtin;go_must (refine zC4 zG5 rowQ zC8 (rq,.slice da rq.data.length dc,.slice la rq.lanes.length lc) (one7r _ _ _ _ _ _ _) W8 rfl _ _ rfl wo.heap.size _ (zipQ (qs) (vs)) (by rfl) HJ.out.rows.rows _ (by rfl) (by rfl) (by rw[zC3 HJ.out.rows.len];have:=HQL.out;omega) (by rw[zC3 HJ.out.rows.len];have:=HQL.out;omega) HJ.out.t.size ?_;intro v' w9 ho9 hz9 hk9 hv9 hb9)))
         have HN:=hid (HJ.out.push HJ.out.hd HJ.out.hl ho9 hk9 hv9 hb9);clear ho9 hz9 hk9 hv9 hb9
         go_roundw
         case rel=>exact⟨m - 1,_,_,_,by congr 1;omega,by omega,by have:=HQ4.out;omega,HN.out.1.t,HN.out.1.rd,HN.out.2 (HVN.out),HN.out.1.rows,Good1.snoc HGX.out HRQ.out,by have:=HQL.out;simp;omega⟩
         case measure=>simp[intOf];omega
       ·obtain⟨⟨e0,e1,e2,e3,e4,e5,e6⟩,_⟩:=HJ.out.box.bx.seven;have hk4':(rq.kind==4)=false:=by simp[hk4]
        clear hk4
        go_upto_if 52 with fail
        clear e0 e1 e2 e3 e4 e5 e6 hk4';obtain⟨⟨e0,e1,e2,e3,e4,e5,e6⟩,_⟩:=HJ.out.box.bx.seven
        go_wp2_with (first
         |((with_reducible refine zG9 _ _ _ _ _ rfl ?_ ?_);rfl)
         |(at_builtin;go_must (refine zC4 zG5 rowQ zC8 (rq,.slice da rq.data.length dc,.slice la rq.lanes.length lc) (one7r _ _ _ _ _ _ _) W8 rfl _ _ rfl wo.heap.size _ (zipQ (qs) (vs)) (by rfl) HJ.out.rows.rows _ (by rfl) (by rfl) (by rw[zC3 HJ.out.rows.len];have:=HQL.out;omega) (by rw[zC3 HJ.out.rows.len];have:=HQL.out;omega) HJ.out.t.size ?_;intro v' w9 ho9 hz9 hk9 hv9 hb9)))
        have HN:=hid (HJ.out.push HJ.out.hd HJ.out.hl ho9 hk9 hv9 hb9);clear ho9 hz9 hk9 hv9 hb9
        go_roundw
        case rel=>exact⟨m - 1,_,_,_,by congr 1;omega,by omega,by have:=HQ4.out;omega,HN.out.1.t,HN.out.1.rd,HN.out.2 (HVN.out),HN.out.1.rows,Good1.snoc HGX.out HRQ.out,by have:=HQL.out;simp;omega⟩
        case measure=>simp[intOf];omega
      ·obtain rfl:m=0:=by omega
       obtain⟨vb,vo,vc,hv⟩:∃b o c,u8=.slice (some ⟨b,o,none⟩) qs.length c:=by
        rcases HRX.out.rows.cases2 with⟨e,_⟩|⟨b,o,c,e⟩
        ·exact absurd (show u8.ownBlock=none by rw[e];rfl) HVN.out
        ·rw[zC3 HRX.out.len]at e;exact⟨b,o,c,e⟩
       subst hv;obtain⟨x1,x2,hx,hxl,hxc⟩:=HRX.out.rows.shape;rw[zC3 HRX.out.len]at hx hxl;simp only[Value.slice.injEq,true_and]at hx;obtain⟨_,rfl⟩:=hx;have HSX:=hid (HS.out.touch HTX.out HRDX.out);have HVB:=hid (show wo.heap.size≤vb from(OwnR.lt HRX.out.rows vb rfl).1);have HXL:=hid hxl;have HQS:=hid (show qs.length≤200 by have:=HQL.out;omega);clear hxl hxc;have HSM:=hid (show LbS w W1.heap.size mid w2.heap.size r B bs (.slice ma ms.length mc) bv bv pv pv us ls ms lat q' wr from HSX.out);obtain⟨mn,hmn⟩:∃mn,mn=min qs.length 12:=⟨_,rfl⟩
       have HMN:=hid (show mn≤qs.length∧mn≤12 by omega);have HMI:=hid (show(if(12:Int)<(qs.length:Int) then(12:Int) else(qs.length:Int))=(mn:Int) by split <;> omega);have HTK:=hid (show(qs.take mn).length=mn by rw[List.length_take];have:=HMN.out;omega);clear hmn
       go_upto_region 17 with fail
       refine lb17_region _ _ _ _ _ _ _ _ _ _ _ _ _ _ _ _ _ _ _ _ _ _ _ _ _ _ _ _ _ _ _ _ _ _ _ _ _ _ _ _ _ _ _ _ _ _ _ _ _ _ _ _ _ _ _ _ _ _ _ _ _ _ _ _ _ _ _ _ _ _ _ _ _ w2.heap.size r vb vo qs.length vc w W1.heap.size mid B bs (.slice ma ms.length mc) bv pv us ls ms lat q' mn qs vs wr HSX.out (HRX.out.rebase HS.out.mle) HMI.out (by have:=HMN.out.1;have:=HXL.out;omega) HMN.out.1 (fun i hi=>Apart.of_lt (HS.out.own i hi) (fun k hk2=>by have:=HVB.out;simp only[Value.ownBlock,Option.some.injEq]at hk2;omega)) (by have:=HLS.out;omega) ?_;intro u65 u66 u67 u68 u69 u70 u71 u72 u73 u74 wc hcut;obtain⟨u,hS'⟩:=hcut;have HS':=hid hS';clear hS';unfold lb17A
       go_wp2_with fail
       go_roundw
       case rel => exact ⟨k + 1, q', u, _, ls ++ [qs.take mn], by go_num, by omega, by rw [List.length_append, List.length_singleton, HLS.out], fun y hy => by
        rcases List.mem_append.1 hy with hy|hy
        ·exact HGS.out y hy
        ·rw[List.mem_singleton.1 hy,HTK.out];exact⟨HMN.out.2,fun z hz=>HGX.out z (List.mem_of_mem_take hz)⟩,by omega,HS'.out⟩
       case measure=>simp[intOf];omega
    ·obtain rfl:k=3:=by omega
     obtain⟨⟨s0,s1,s2⟩,_⟩:=HS.out.box.bx.three;obtain⟨⟨t0,t1,t2⟩,f0,f1,f2⟩:=HS.out.res.three;have hrl:=HS.out.res.lt;obtain⟨ba,bc,rfl,_,_⟩:=HS.out.ob.shape;obtain⟨pa,pc,rfl,_,_⟩:=HS.out.op.shape;have HLO:=hid HS.out.l0
     go_wp2_with fail
     refine bodyPost_ret (zB0 Tryz.results43 _ _ ⟨w.heap.size,0,none⟩ (.agg #[.slice ma ms.length mc,.slice ba lat.length bc,.slice pa us.length pc]) rfl (zG4 _ _ _ _ _ (by simp[go_sem, *]) (by simp[go_sem, *]) (by simp[go_sem, *]))) rfl ⟨_,_,_,us,ls,ms,lat,q,W1.heap.size,mid,rfl,HS.out.toO (fun j hj=>?_),HLO.out,⟨HMS.out.2.2,HMS.out.2.1,HMS.out.1,HLK.out,HL4.out,HLS.out,HGS.out⟩,by have:=HQ1.out;omega,?_,?_⟩
     ·have n1:j≠w.heap.size:=by have:=HLO.out;omega
      exact(Below.heap_setCell _ _ _ _ n1).trans ((Below.heap_setCell _ _ _ _ n1).trans (Below.heap_setCell _ _ _ _ n1))
     ·exact((HS.out.rd.setNew HS.out.r0 (Nat.le_refl _) _ _).setNew HS.out.r0 (Nat.le_refl _) _ _).setNew HS.out.r0 (Nat.le_refl _) _ _
     ·exact((HS.out.t.setNew (Nat.le_refl _) _).setNew (Nat.le_refl _) _).setNew (Nat.le_refl _) _
theorem LbO.kept {w w':World} {lo mid:Nat} {a bo po:Value} {us:List Value} {ls:List (List Rq)} {ms:List MR} {lat:List Int} (h:LbO w lo mid a bo po us ls ms lat) (hkw:∀k,lo≤k→k<w.heap.size→w'.heap[k]? = w.heap[k]?):LbO w' lo mid a bo po us ls ms lat :=
 ⟨OwnR.kept h.oa fun k hk2 => hkw k (OwnR.lt h.oa k hk2).1 (OwnR.lt h.oa k hk2).2, OwnR.kept h.ob fun k hk2 => hkw k (OwnR.lt h.ob k hk2).1 (OwnR.lt h.ob k hk2).2, OwnR.kept h.op fun k hk2 => hkw k (OwnR.lt h.op k hk2).1 (OwnR.lt h.op k hk2).2, h.len,
  fun j hj=>let ⟨qs,vs,n,c,x,k1,k2⟩:=h.pg j hj;⟨qs,vs,n,c,x,k1.kept fun k h4 h5=>hkw k (Nat.le_trans h.ml h4) h5,k2⟩,h.ap,h.bm,h.ml⟩
theorem LbO.busI {W:World} {lo mid:Nat} {a bo po:Value} {us:List Value} {ls:List (List Rq)} {ms:List MR} {lat:List Int} (h:LbO W lo mid a bo po us ls ms lat) (hf:BFit ms lat ls):BusI W W.heap.size (.agg #[a,bo,po]) ms lat ls:=by
 refine⟨a,bo,po,rfl,h.oa.maps hf.m hf.m6,h.ob.ints (by have:=hf.l;omega) hf.l6,us,?_,h.len,fun k hk d=>?_⟩
 ·have e:us.map (fun u=>u.cells.toList)=us.map row1:=by
   apply List.map_congr_left;intro u hu;obtain⟨i,hi,rfl⟩:=List.mem_iff_getElem.1 hu;obtain⟨qs,vs,n,c,x,_,e,_⟩:=h.pg i (by have:=h.len;omega);have e2:us.getD i vnil=us[i]:=by simp[List.getD,hi]
   rw[e2]at e;rw[e];rfl
  rw[e];exact h.op.arr zG7 (by have:=hf.p;have:=h.len;omega)
 ·obtain⟨qs,vs,n,c,x,hv,e1,e2⟩:=h.pg k hk;obtain⟨q1,q2⟩:=hf.q _ (zB5 (d:=[]) hk);have hk2:k<us.length:=by have:=h.len;omega
  rw[show us.getD k undef=us.getD k vnil by simp[List.getD,hk2],show ls.getD k d=ls.getD k [] by simp[List.getD,hk],e1];have hle:(ls.getD k []).length≤qs.length:=by have:=congrArg List.length e2;rw[List.length_take]at this;omega
  have hz:(zipQ qs vs).length=qs.length:=zC3 hv.len;have ht:RdO W mid (.slice x (ls.getD k []).length c) (qs.take (ls.getD k []).length) (vs.take (ls.getD k []).length):=by
   refine⟨by simp[hv.len],?_,fun j hj=>?_,fun j hj=>?_⟩
   ·have:=hv.rows.take zC8 (ls.getD k []).length (by rw[hz];exact hle);have e3:(zipQ qs vs).take (ls.getD k []).length=zipQ (qs.take (ls.getD k []).length) (vs.take (ls.getD k []).length):=by
     unfold zipQ;rw[List.take_zipWith]
    rwa [e3]at this
   ·have hj2:j<(ls.getD k []).length∧j<qs.length:=by rw[List.length_take]at hj;omega
    rw[zD0 hj2.1,zD0 hj2.1];exact hv.d j hj2.2
   ·have hj2:j<(ls.getD k []).length∧j<qs.length:=by rw[List.length_take]at hj;omega
    rw[zD0 hj2.1,zD0 hj2.1];exact hv.l j hj2.2
  have:=ht.reqs (by rw[List.length_take];omega) (by rw[←e2];exact q2)
  rwa [←e2]at this
def natsOf (l:List Int):List Nat:=l.map Int.toNat
theorem rowN_natsOf {l:List Int} (h:∀x∈l,0≤x):(natsOf l).map rowN=l.map rowI:=by
 unfold natsOf;rw[List.map_map];apply List.map_congr_left;intro x hx;have:=h x hx;simp only[Function.comp,rowN,rowI];rw[Int.toNat_of_nonneg this]
theorem busV_of {w:World} {B:Nat} {v:Value} {ms:List MR} {lat:List Int} {pss:List (List Rq)} (h:BusI w B v ms lat pss) (hl:∀x∈lat,0≤x):BusV w B v ⟨ms,natsOf lat,pss⟩:=by
 obtain⟨mv,lv,pv,rfl,hm,hla,hp⟩:=h;obtain⟨ma,mc,rfl,_⟩:∃a c,mv=.slice a ms.length c∧True:=by obtain⟨a,c,e,_⟩:=hm.1;exact⟨a,c,by simpa using e,trivial⟩
 obtain⟨la,lc,rfl,_⟩:∃a c,lv=.slice a lat.length c∧True:=by obtain⟨a,c,e,_⟩:=hla.1;exact⟨a,c,by simpa using e,trivial⟩
 obtain⟨vs,h1,h2,h3⟩:=hp;obtain⟨pa,pc,rfl,_⟩:∃a c,pv=.slice a pss.length c∧True:=by obtain⟨a,c,e,_⟩:=h1;exact⟨a,c,by simpa[h2]using e,trivial⟩
 refine⟨ma,la,pa,mc,lc,pc,fun k=>vs.getD k undef,?_,hm,?_,?_,fun i hi=>?_⟩
 ·simp[natsOf]
 ·show Arr w B 1 (.slice la (natsOf lat).length lc) ((natsOf lat).map rowN);rw[rowN_natsOf hl,show(natsOf lat).length=lat.length by simp[natsOf]];exact hla.1
 ·have e:vs.map (fun u=>u.cells.toList)=(List.range pss.length).map fun i=>[vs.getD i undef]:=by
   apply List.ext_getElem
   ·simp[h2]
   ·intro i g1 g2;simp only[List.length_map]at g1;have hi:i<pss.length:=by omega
    obtain⟨ao,cap,e,_⟩:=(h3 i hi []).opened;have e2:vs.getD i undef=vs[i]:=by simp[List.getD,g1]
    simp only[List.getElem_map,List.getElem_range,e2]at e ⊢;rw[e];rfl
  rw[←e];exact h1
 ·have:=h3 i hi [];unfold Cfg.prog;exact this
theorem DrB.bus {ms:List MR} {lat:List Int} {ls:List (List Rq)} (h:DrB ms lat ls):Bus ⟨ms,natsOf lat,ls⟩ :=
 ⟨h.m, by simp [natsOf, h.l], fun x hx => by
  obtain⟨y,hy,rfl⟩:=List.mem_map.1 hx;have:=h.l4 y hy;omega,h.p,fun p hp=>(h.q p hp).1,fun p hp r hr=>((h.q p hp).2 r hr).1⟩
set_option maxRecDepth 4000 in
theorem drawPlay_any:DrawPl:=by
 intro v bs B w h hB
 go_enter Tryz.func9,Tryz.ntmps9
 obtain⟨w0,hw0⟩:∃W,W=w.alloc (.cells #[vnil,vnil,vnil] 27):=⟨_,rfl⟩
 have hb0:Below w.heap.size w w0:=by rw[hw0];exact(Below.refl _ _).alloc (Nat.le_refl _) _
 have HX0:=hid (show Bx w0 w.heap.size [vnil,vnil,vnil] by rw[hw0];exact Bx.new w #[vnil,vnil,vnil] 27 (by simp));have HB0:=hid hb0;have H0:=hid (h.below (hb0.mono hB))
 go_upto_region 1 with fail
 rw[←hw0];clear hw0 hb0 h
 go_upto_region 2 with(go_at_call 42;(with_reducible refine(open_any v bs B w0 H0.out (Nat.le_trans hB HB0.out.size)).mono ?_);rintro e w1 ⟨cs,rfl,hrd,hb1⟩;have HRD:=hid hrd;have HB1:=hid hb1;clear hrd hb1)
 have hrw:=HRD.out.lt;have HBUS:=hid (show Calls Tryz.prog 43 #[.pointer (some ⟨w0.heap.size,0,none⟩),.int .i64 7] w1 (BusDr w0.heap.size B cs 0 w1) from l20Bus_any w0.heap.size B cs 0 7 w1 HRD.out (by omega) (by omega))
 go_wp2_with (first
  |(go_at_call 43;(with_reducible refine(HBUS.out).mono ?_);rintro e w2 ⟨a,b,pv,us,ls,ms,lat,q,lo,mid,rfl,hlb,hlo,hdr,hq,hrd2,ht2⟩;have HLB:=hid hlb;have HDR:=hid hdr;have HRD2:=hid hrd2;have HT2:=hid ht2;have HLO:=hid hlo;have HQ:=hid hq;clear hlb hdr hrd2 ht2 hlo hq)
  |(go_at_call 44;(with_reducible refine(l20Ins_any w0.heap.size B cs q w2 HRD2.out (by have:=HQ.out;omega)).mono ?_);rintro e w3 ⟨iv,xs,q3,rfl,hio,hix,hil,hq3,hrd3,ht3⟩;have HLB3:=hid (HLB.out.kept (w':=w3) fun k h1 h2=>ht3.block k h2 (by have:=HLO.out;omega));have HIO:=hid hio;have HIX:=hid hix;have HIL:=hid hil;have HT3:=hid (HT2.out.trans ht3);have HT23:=hid ht3;clear hio hix hil hq3 hrd3 ht3;obtain⟨a1,a2,rfl,_,_⟩:=HLB3.out.oa.shape;obtain⟨b1,b2,rfl,_,_⟩:=HLB3.out.ob.shape;obtain⟨p1,p2,rfl,_,_⟩:=HLB3.out.op.shape;have HX3:=hid ((HX0.out.below HB1.out HX0.out.lt).kept (HT3.out.block _ (by have:=HX0.out.lt;have:=HB1.out.size;omega) (by have:=HX0.out.lt;omega)));obtain⟨⟨y0,y1,y2⟩,f0,f1,f2⟩:=HX3.out.three;have hyl:=HX3.out.lt))
 obtain⟨w4,hw4⟩:∃W,W=((w3.setCell ⟨w.heap.size,0,none⟩ (.slice a1 ms.length a2)).setCell ⟨w.heap.size,1,none⟩ (.slice b1 lat.length b2)).setCell ⟨w.heap.size,2,none⟩ (.slice p1 us.length p2):=⟨_,rfl⟩
 have hk4:∀k,k≠w.heap.size→w4.heap[k]? = w3.heap[k]?:=fun k hk=>by
  rw[hw4,Below.heap_setCell _ _ _ _ (by exact hk),Below.heap_setCell _ _ _ _ (by exact hk),Below.heap_setCell _ _ _ _ (by exact hk)]
 have hz4:w4.heap.size=w3.heap.size:=by rw[hw4];simp
 have hz0:w.heap.size<w0.heap.size:=HX0.out.lt;have hz1:w0.heap.size<w1.heap.size:=hrw;have hz2:w1.heap.size≤w2.heap.size:=HT2.out.size;have hlo:=HLO.out;have hlb4:=HLB3.out.kept (w':=w4) fun k h1 h2=>hk4 k (by omega)
 have hbv:=busV_of (hlb4.busI HDR.out.fit) (fun x hx=>(HDR.out.l4 x hx).1);have hiv:Ins w4 w4.heap.size iv (xs.map (·.1)):=by
  refine ins_of (lo:=w2.heap.size) (lo':=w2.heap.size) (OwnR.kept HIO.out fun k hk2=>hk4 k ?_) (fun x hx=>(HIX.out x hx).kept fun k h1 h2=>hk4 k (by omega)) (by have:=HIL.out;omega);have:=(OwnR.lt HIO.out k hk2).1;omega
 refine bodyPost_ret (results_ct Tryz.results9 _ _ ⟨w.heap.size,0,none⟩ (.agg #[.slice a1 ms.length a2,.slice b1 lat.length b2,.slice p1 us.length p2]) rfl (zG4 _ _ _ _ _ (by simp[go_sem, *]) (by simp[go_sem, *]) (by simp[go_sem, *]))) rfl ?_;rw[←hw4];refine⟨_,iv,_,_,rfl,HDR.out.bus,hbv,hiv,by simpa using HIL.out,?_⟩;have hb3:Below w.heap.size w w3:=(HB0.out.trans (HB1.out.mono (by omega))).trans (HT3.out.below (by omega) (by omega));rw[hw4];exact((hb3.setCell (p:=⟨w.heap.size,_,none⟩) (Nat.le_refl _) _).setCell (p:=⟨w.heap.size,_,none⟩) (Nat.le_refl _) _).setCell (p:=⟨w.heap.size,_,none⟩) (Nat.le_refl _) _
end Go.Proofs.YtgkdoehkmbhfiaaGreat
namespace Go.Proofs.YtgkdoehkmbhfiaaGreat
open Go.ChangeShapes Go.WideShapes Go.ChangeAt Go.RowKit Go.Deep
theorem Tryz.own:ownKnob Tryz.prog.godebug=none:=by kernel_rfl
theorem Tryz.laidOut:laidOutB Tryz.prog=true:=by kernel_rfl
theorem trodAll_stays {H : Type} {enc : TypeId × Value → H} {W W' : World} (hb : Below W.heap.size W W') :
  ∀ (ts : List TypeId) (vs : List Value) (ds : List (DataW H)) (p : List MemPlace), (∀ t ∈ ts, Tryz.prog.readableRec t = true ∧ t < Tryz.prog.types.size) →
   DataW.TrodAll enc Tryz.prog W 0 (fun _=>true) true ts vs ds p→(∀x∈p,x.block<W.heap.size)→DataW.TrodAll enc Tryz.prog W' 0 (fun b=>decide (b<W.heap.size)) true ts vs ds p
 |[],vs,ds,p,_,h,_=>by cases vs <;> cases ds <;> simp_all [DataW.TrodAll]
 |t::ts,vs,ds,p,hr,h,hp=>by
  obtain⟨v,vs', d,ds', p1,p2,rfl,rfl,rfl,h1,h2⟩:=trodAll_cons h;have hp1:∀x∈p1,x.block<W.heap.size:=fun x hx=>hp x (List.mem_append_left _ hx)
  have hp2:∀x∈p2,x.block<W.heap.size:=fun x hx=>hp x (List.mem_append_right _ hx)
  refine⟨p1,p2,(Below.trod Tryz.laidOut (hr t (by simp)).1 (hr t (by simp)).2 h1 hb hp1),(trodAll_stays hb ts vs' ds' p2 (fun t ht=>hr t (by simp[ht])) h2 hp2),rfl⟩
theorem trodAll_len {H : Type} {enc : TypeId × Value → H} {W : World} {B : Nat} {sp : Nat → Bool} {hd : Bool} :
  ∀(ts:List TypeId) (vs:List Value) (ds:List (DataW H)) (p:List MemPlace),DataW.TrodAll enc Tryz.prog W B sp hd ts vs ds p→ds.length=ts.length
 |[],vs,ds,p,h=>by cases vs <;> cases ds <;> simp_all [DataW.TrodAll]
 |t::ts,vs,ds,p,h=>by
  obtain⟨v,vs', d,ds', p1,p2,rfl,rfl,rfl,h1,h2⟩:=trodAll_cons h;simp[trodAll_len ts vs' ds' p2 h2]
set_option maxRecDepth 100000 in
theorem law_lifted {os : Os} (started : os.Started) {H : Type} (enc : TypeId × Value → H) (F : FuncId) (fn : Func) (s : ChangeSpec) (hvars : s.vars = []) (noInit : Tryz.prog.inits.idxOf? F = none) (hfn : Tryz.prog.funcs[F]? = some fn)
  (witness : ∃ (w : World) (tape : Tape) (i : Input), w.os = os ∧ (w.forCall tape i).Shaped Tryz.prog ∧ i.vars = [] ∧ Input.okWide Tryz.prog (w.forCall tape i) .any w.heap.size F i ∧
   s.pre6 enc Tryz.prog fn [] false (w.forCall tape i).memory i.args∧(({}:Assume)).holds Tryz.prog (lone (Frame.enter Tryz.prog F i.args .normal) [] (w.forCall tape i)))
  (hres:fn.resultTypes=#[4]) (hro:∀t∈fn.params.toList,Tryz.prog.readableRec t=true∧t<Tryz.prog.types.size)
  (hspec:∀ds:List (DataW H),ds.length=fn.params.toList.length→(s.fn H (ds++[])).results=[.lit (.bool true)]∧(s.fn H (ds++[])).args=ds∧(s.fn H (ds++[])).vars=[])
  (contract : ∀ (W : World) (base : Nat) (args : Array Value) (ds : List (DataW H)) (p : List MemPlace), (∀ (j : Nat) t v, fn.params[j]? = some t → args[j]? = some v → Value.okWide Tryz.prog W .any base t v) →
   DataW.TrodAll enc Tryz.prog W 0 (fun _=>true) true fn.params.toList args.toList ds p→(∀x∈p,x.block<W.heap.size)→(DataW.weightsEach Tryz.prog fn.params.toList ds).all (·≤reachBytes)=true →
   Calls Tryz.prog F args W fun e W' => e=.returned (.bool true)∧Below W.heap.size W W') :
  ReturnsInHanded {} Tryz.checked os F .any (s.pre6 enc Tryz.prog fn [] false) (s.post enc Tryz.prog fn false true false false):=by
 refine returnsInHanded_of_change_sized (C:=Tryz.checked) Tryz.own started noInit hfn witness ?_;intro W base args ds gs before hval hW _ hsz _;have hW':=hW;obtain⟨p,q,hA,hV,rfl,_,_⟩:=hW;rw[hvars]at hV;obtain⟨rfl,rfl⟩:=trodVars_none hV;have hlen:ds.length=fn.params.toList.length:=trodAll_len _ _ _ _ hA;have hlt:∀x∈p,x.block<W.heap.size:=fun x hx=>by simpa using hW'.lt x (by simp[hx])
 obtain⟨e1,e2,e3⟩:=hspec ds hlen;have hsz2:(DataW.weightsEach Tryz.prog fn.params.toList ds).all (·≤reachBytes)=true:=by
  have:s.plain.varTypes Tryz.checked.prog=[]:=by simp[ChangeSpec.plain,DataSpec.varTypes,hvars]
  rw[this,List.append_nil,List.append_nil]at hsz;exact hsz
 refine(contract W base args ds p hval hA hlt hsz2).mono fun e W' ⟨he,hb⟩=>?_
 subst he;refine⟨_,rfl,_,_,_,[],p,[],hW', ?_,?_,?_,hb.frame _,fun h=>by cases h⟩
 ·rw[e1,hres];exact trodAll_mk1 (shut_bool Tryz.underlying4 _)
 ·rw[e2];exact trodAll_stays hb _ _ _ _ hro hA hlt
 ·rw[e3,hvars];rfl
theorem addr_spot {w:World} {a:Addr} {v:Value} (h:w.cell? a=some v):a=⟨a.block,a.off,none⟩:=by
 obtain⟨b,o,s⟩:=a;cases s with
 |none=>rfl
 |some n=>simp[World.cell?]at h;split at h <;> simp at h
theorem mem_weightsAll {H : Type} {P : Program} {e : TypeId} {x : Nat} : ∀ (D : List (DataW H)) (d : DataW H), d ∈ D → x ∈ d.weights P e → x ∈ DataW.weightsAll P e D
 |y::r,d,h,hx=>by
  rcases List.mem_cons.1 h with rfl|h
  ·simp[DataW.weightsAll,hx]
  ·simp[DataW.weightsAll,mem_weightsAll r d h hx]
def Read {H:Type} (enc:TypeId×Value→H) (W:World) (T:TypeId) (cs:List Value):Prop :=
 ∃n d q,DataW.trod enc Tryz.prog W 0 (fun _=>true) true n T cs=some (d,q)∧(∀x∈q,x.block<W.heap.size)∧∀x∈d.weights Tryz.prog T,x≤reachBytes
set_option maxRecDepth 100000 in
theorem open_arr {H : Type} {enc : TypeId × Value → H} {W : World} {T e sz by_ : Nat} {v : Value} (hT : Tryz.prog.underlying T = some (.slice e)) (hc : Tryz.prog.cellsOf e = sz) (hby : Tryz.prog.bytesOf e = by_) (h1 : 1 ≤ by_) (hsz : 1 ≤ sz)
  (h:Read enc W T [v]):∃rows:List (List Value),Arr W W.heap.size sz v rows∧∀r∈rows,r.length=sz∧Read enc W e r:=by
 obtain⟨n,d,q,ht,hq,hw⟩:=h;rcases open_slice hT ht with⟨hv,_⟩|⟨a,len,cap,m,k,D,Pl,hv,_,hle,hmax,hm,hx,hel⟩
 ·simp at hv;subst hv;exact⟨[],⟨none,0,rfl,by simp,by simp,by simp,by simp,by simp⟩,by simp⟩
 ·simp at hv;subst hv;simp only[if_true]at hm;obtain rfl:cap=m:=hm.symm;simp only[Prod.mk.injEq]at hx;obtain⟨rfl,rfl⟩:=hx;rw[hc]at hel hq;have hel2:∀i,i<len→∃cs', W.cells? 0 (a.add (i * sz)) sz=some cs' ∧ DataW.trod enc Tryz.prog W 0 (fun _=>true) true k e cs' = some (D i,Pl i):=fun i hi=>hel i (by omega)
  have hch:∀i:Nat,∃cs', i<len→W.cells? 0 (a.add (i * sz)) sz=some cs' ∧ DataW.trod enc Tryz.prog W 0 (fun _=>true) true k e cs' = some (D i,Pl i):=fun i=>by
   by_cases hi:i<len
   ·obtain⟨cs', hcs⟩:=hel2 i hi;exact⟨cs', fun _=>hcs⟩
   ·exact⟨[],fun h=>absurd h hi⟩
  have hR:∃R:Nat→List Value,∀i,i<len→W.cells? 0 (a.add (i * sz)) sz=some (R i)∧DataW.trod enc Tryz.prog W 0 (fun _=>true) true k e (R i)=some (D i,Pl i):=⟨fun i=>(hch i).choose,fun i hi=>(hch i).choose_spec hi⟩
  obtain⟨R,hR⟩:=hR;have hcap:cap * by_≤reachBytes:=by
   have:=hw ((((List.range len).map D).length+((List.range (cap - len)).map fun j=>D (len+j)).length) * Tryz.prog.bytesOf e) (by simp[DataW.weights,hT]);simp only[List.length_map,List.length_range]at this;rw[hby]at this;rw[show len+(cap - len)=cap from by omega]at this;exact this
  have hcl:cap≤140737488351232:=by
   have:cap * 1≤cap * by_:=Nat.mul_le_mul_left _ h1;unfold reachBytes at hcap;omega
  refine⟨(List.range len).map R,⟨some a,cap,by simp,by simpa using hle,by omega,by simp;omega,by simp,fun hn=>?_⟩,?_⟩
  ·simp only[List.length_map,List.length_range]at hn;obtain⟨_,hl0,hc0⟩:=World.cells?_some (hR 0 (by omega)).1;have ha:a=⟨a.block,a.off,none⟩:=by
    have h0:=hc0 0 (by omega);have hlt:0<(R 0).length:=by omega
    rw[List.getElem?_eq_getElem hlt]at h0;simp[Addr.add]at h0;exact addr_spot h0
   have hblt : a.block < W.heap.size := hq (.cell a.block a.off) (List.mem_append_left _ (MemPlace.mem_row.2 ⟨0, by
    have:1 * 1≤cap * sz:=Nat.mul_le_mul (by omega) hsz;omega,by simp⟩))
   refine⟨a.block,a.off,by rw[←ha],hblt,fun t ht j hj=>?_⟩;simp only[List.length_map,List.length_range]at ht;obtain⟨_,hl1,hc1⟩:=World.cells?_some (hR t ht).1;have:=hc1 j (by omega);simp only[List.getD,List.getElem?_map,List.getElem?_range ht,Option.map_some,Option.getD_some];rw[←this];clear this;obtain⟨ab,ao,sp⟩:=a;simp only[Addr.mk.injEq,true_and]at ha;subst ha;rw[Addr.add_lit,Addr.add_lit]
  ·intro r hr;obtain⟨i,hi,rfl⟩:=List.mem_map.1 hr;have hi':=List.mem_range.1 hi;refine⟨(World.cells?_some (hR i hi').1).2.1,k,D i,Pl i,(hR i hi').2,fun x hx=>hq x (List.mem_append_right _ ?_),fun x hx=>hw x ?_⟩
   ·exact List.mem_flatMap.2 ⟨i,List.mem_range.2 (by omega),hx⟩
   ·simp only[DataW.weights,hT];exact List.mem_cons_of_mem _ (List.mem_append_left _ (mem_weightsAll _ (D i) (List.mem_map.2 ⟨i,hi,rfl⟩) hx))
theorem list_of_rows {α : Type} (f : α → List Value) (P : α → Prop) : ∀ rows : List (List Value), (∀ r ∈ rows, ∃ x, r = f x ∧ P x) → ∃ xs : List α, rows = xs.map f ∧ ∀ x ∈ xs, P x
 |[],_=>⟨[],rfl,by simp⟩
 |r::rows,h=>by
  obtain⟨x,rfl,hx⟩:=h r (by simp);obtain⟨xs,rfl,hxs⟩:=list_of_rows f P rows (fun r hr=>h r (by simp[hr]));exact⟨x::xs,rfl,by simpa using⟨hx,hxs⟩⟩
section
variable {H : Type} {enc : TypeId × Value → H} {W : World}
theorem Read.int {cs:List Value} (h:Read enc W 3 cs):∃n,cs=rowI n∧I64 n:=by
 obtain⟨n,d,q,ht,_⟩:=h;obtain⟨x,rfl,_,hw⟩:=DataW.trod_int Tryz.underlying3 ht;simp[Lit.wf,IntKind.min,IntKind.max,IntKind.signed,IntKind.bits]at hw;exact⟨x,rfl,by unfold I64;omega⟩
theorem Read.bool {cs:List Value} (h:Read enc W 4 cs):∃b,cs=rowB b:=by
 obtain⟨n,d,q,ht,_⟩:=h;obtain⟨x,rfl,_⟩:=DataW.trod_bool Tryz.underlying4 ht;exact⟨x,rfl⟩
theorem Read.byte {cs:List Value} (h:Read enc W 5 cs):∃n,cs=rowU n∧n<256:=by
 obtain⟨n,d,q,ht,_⟩:=h;obtain⟨x,rfl,_,hw⟩:=DataW.trod_int Tryz.underlying5 ht;simp[Lit.wf,IntKind.min,IntKind.max,IntKind.signed,IntKind.bits]at hw;obtain⟨m,rfl⟩:=Int.eq_ofNat_of_zero_le (show 0≤x by omega);exact⟨m,rfl,by omega⟩
theorem Read.ints {v:Value} (h:Read enc W 24 [v]):∃xs,Ints W W.heap.size v xs:=by
 obtain⟨rows,ha,hr⟩:=open_arr (sz:=1) (by_:=8) Tryz.underlying24 (by kernel_rfl) (by kernel_rfl) (by omega) (by omega) h;obtain⟨xs,rfl,hx⟩:=list_of_rows rowI I64 rows (fun r h=>(hr r h).2.int);exact⟨xs,ha,hx⟩
theorem Read.bytes {v:Value} (h:Read enc W 22 [v]):∃xs,Bytes W W.heap.size v xs:=by
 obtain⟨rows,ha,hr⟩:=open_arr (sz:=1) (by_:=1) Tryz.underlying22 (by kernel_rfl) (by kernel_rfl) (by omega) (by omega) h;obtain⟨xs,rfl,hx⟩:=list_of_rows rowU (·<256) rows (fun r h=>(hr r h).2.byte);exact⟨xs,ha,hx⟩
theorem read_of {t:TypeId} {v:Value} {d:DataW H} {p:List MemPlace} (h:DataW.Trod enc Tryz.prog W 0 (fun _=>true) true t v d p) (hp:∀x∈p,x.block<W.heap.size) (hw:∀x∈d.weights Tryz.prog t,x≤reachBytes):Read enc W t v.cells.toList:=by
 obtain⟨n,hn⟩:=h;exact⟨n,d,p,hn,hp,hw⟩
end
set_option maxRecDepth 100000 in
theorem code_lifted {os : Os} (started : os.Started) {H : Type} (enc : TypeId × Value → H) (F : FuncId) (fn : Func) (s : ChangeSpec) (hvars : s.vars = []) (noInit : Tryz.prog.inits.idxOf? F = none) (hfn : Tryz.prog.funcs[F]? = some fn)
  (witness : ∃ (w : World) (tape : Tape) (i : Input), w.os = os ∧ (w.forCall tape i).Shaped Tryz.prog ∧ i.vars = [] ∧ Input.okWide Tryz.prog (w.forCall tape i) .any w.heap.size F i ∧
   s.pre6 enc Tryz.prog fn [] false (w.forCall tape i).memory i.args∧(({}:Assume)).holds Tryz.prog (lone (Frame.enter Tryz.prog F i.args .normal) [] (w.forCall tape i)))
  (hpar:fn.params=#[22]) (hres:fn.resultTypes=#[4])
  (hspec:∀d:DataW H,(s.fn H [d]).results=[.lit (.bool true)]∧(s.fn H [d]).args=[d]∧(s.fn H [d]).vars=[])
  (contract:∀(v:Value) (bs:List Nat) (B:Nat) (W:World),Bytes W B v bs→B≤W.heap.size→Calls Tryz.prog F #[v] W fun e W' => e=.returned (.bool true)∧Below W.heap.size W W') :
  ReturnsInHanded {} Tryz.checked os F .any (s.pre6 enc Tryz.prog fn [] false) (s.post enc Tryz.prog fn false true false false):=by
 refine law_lifted started enc F fn s hvars noInit hfn witness hres ?_ ?_ ?_
 ·intro t ht;rw[hpar]at ht;simp only[List.mem_singleton]at ht;subst ht;exact⟨by kernel_rfl,of_decide_eq_true (by kernel_rfl)⟩
 ·intro ds hl;rw[hpar]at hl
  match ds,hl with
  |[d1],_=>exact hspec d1
 ·intro W base args ds p hval hA hlt hw;rw[hpar]at hA hval hw;obtain⟨v0,d0,rfl,rfl,h0⟩:=trodAll_one hA;obtain⟨ao,l,c,rfl⟩:=okWide_slice Tryz.underlying22 (hval 0 22 v0 rfl rfl)
  have hr := read_of h0 hlt (fun x hx => by
   have:=List.all_eq_true.1 hw x (by simp[DataW.weightsEach,hx]);simpa using this)
  obtain⟨xs,hb⟩:=hr.bytes;exact contract _ xs _ W hb (Nat.le_refl _)
end Go.Proofs.YtgkdoehkmbhfiaaGreat
