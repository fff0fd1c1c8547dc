/- CycRun of a bus that stands as it may. -/
import Derived.Test.YtgkdoehkmbhfiaaGreatQFl
import Derived.Test.YtgkdoehkmbhfiaaGreatQLib
import Derived.Test.YtgkdoehkmbhfiaaGreatQAx
import Derived.Test.YtgkdoehkmbhfiaaGreatQDr7
import Derived.Test.YtgkdoehkmbhfiaaGreatQCs
set_option linter.unusedVariables false
set_option linter.unusedSimpArgs false
set_option maxHeartbeats 16000000
namespace Go.Proofs.YtgkdoehkmbhfiaaGreat
open Go.RowKit
attribute [local go_sem ↓] Go.wp_at_zero Go.wp_at_succ
def qb9A (i0 i1 i2 i5 i8 i9 i10 i11 i12 i13 i14 i15 i16 i17 i18 i19 i20 i21 i22 i23 i24 i25 i26 i27 i28 i29 i30 i31 i32 i33 i34 i35 i36 i37 i38 i39 i49 i50 i51:Value) (g:Nat) (i:Nat) (qs:List Rq) (gE:Nat) (u40 u41 u42 u43 u44 u45 u46 u47 u48:Value):Act:={ tmps:=#[i0,i1,i2,.pointer (some ⟨g,0,none⟩),.int .i64 (i:Nat),i5,.int .i64 (qs.length:Nat),.pointer (some ⟨gE,0,none⟩),i8,i9,i10,i11,i12,i13,i14,i15,i16,i17,i18,i19,i20,i21,i22,i23,i24,i25,i26,i27,i28,i29,i30,i31,i32,i33,i34,i35,i36,i37,i38,i39,u40,u41,u42,u43,u44,u45,u46,u47,u48,i49,i50,i51],defers:=[] }
noncomputable def qb9Code:Code:=(Tryz.f57.body.bind (zH0 9)).getD .skip
def QdP (lo gr o c m:Nat) (qs:List Rq) (vs:List (Value×Value)) (rest:List RqV) (r:Rq) (wq w':World):Prop:=∃d l,QcO w' lo gr o c m (qs++[r]) (vs++[(d,l)]) rest∧Touch gr wq w'
def qb9C (lo gr o c m : Nat) (qs : List Rq) (vs : List (Value × Value)) (row : RqV) (rest : List RqV) (r : Rq) (wq : World) (us : List Value) (W : World) : Prop := Touch gr wq W ∧ match us with
 |[]=>Below wq.heap.size wq W
 |[u]=>Below wq.heap.size wq W∧∃d l,u=.agg #[.int .i64 r.id,.int .i64 r.kind,.int .i64 r.addr,.int .i64 r.many,.bool r.wrap,d,l]∧Owns W wq.heap.size 3 1 rowI d r.data∧Owns W wq.heap.size 3 1 rowI l r.lanes∧Apart d l
 |[_,_]=>QdP lo gr o c m qs vs rest r wq W
 |_=>False
set_option maxRecDepth 100000 in
theorem qb9_region (i0 i1 i2 i5 i8 i9 i10 i11 i12 i13 i14 i15 i16 i17 i18 i19 i20 i21 i22 i23 i24 i25 i26 i27 i28 i29 i30 i31 i32 i33 i34 i35 i36 i37 i38 i39 i49 i50 i51 j40 j41 j42 j43 j44 j45 j46 j47 j48 : Value) (g : Nat) (i : Nat) (qs : List Rq) (gE : Nat) (lo : Nat) (gr : Nat) (o : Nat) (c : Nat) (m : Nat) (pb : Nat) (n : Nat) (B : Nat) (vs : List (Value × Value)) (row : RqV) (rest : List RqV) (r : Rq) (dv : Value) (lv : Value) (wq : World)
    (hne1:g≠gr) (hlt1:g<wq.heap.size) (hG:wq.cell? ⟨g,2,none⟩=some (.slice (some ⟨pb,0,none⟩) n n)) (hin:i<n) (hne2:pb≠gr) (hlt2:pb<wq.heap.size) (hP:wq.cell? ⟨pb,i,none⟩=some (.slice (some ⟨gr,o,none⟩) m c)) (hne3:gE≠gr) (hlt3:gE<wq.heap.size) (hE:(wq.cell? ⟨gE,0,none⟩=some (.int .i64 r.id)∧wq.cell? ⟨gE,1,none⟩=some (.int .i64 r.kind)∧wq.cell? ⟨gE,2,none⟩=some (.int .i64 r.addr)∧wq.cell? ⟨gE,3,none⟩=some (.int .i64 r.many)∧wq.cell? ⟨gE,4,none⟩=some (.bool r.wrap)∧wq.cell? ⟨gE,5,none⟩=some dv∧wq.cell? ⟨gE,6,none⟩=some lv)∧True) (hgr:gr<wq.heap.size) (hB:B≤gr) (hR:ReqV wq B (.agg #[.int .i64 r.id,.int .i64 r.kind,.int .i64 r.addr,.int .i64 r.many,.bool r.wrap,dv,lv]) r) (hl1:r.data.length≤1048576) (hl2:r.lanes.length≤1048576) (hkm:qs.length<m) (hQ:QcO wq lo gr o c m qs vs (row::rest))
    {Q:Exit→Act→World→Prop}
    (hK:∀(u40 u41 u42 u43 u44 u45 u46 u47 u48:Value) w', QdP lo gr o c m qs vs rest r wq w' → Q .normal (qb9A i0 i1 i2 i5 i8 i9 i10 i11 i12 i13 i14 i15 i16 i17 i18 i19 i20 i21 i22 i23 i24 i25 i26 i27 i28 i29 i30 i31 i32 i33 i34 i35 i36 i37 i38 i39 i49 i50 i51 g i qs gE u40 u41 u42 u43 u44 u45 u46 u47 u48) w'):qb9Code.wp Tryz.prog Q (qb9A i0 i1 i2 i5 i8 i9 i10 i11 i12 i13 i14 i15 i16 i17 i18 i19 i20 i21 i22 i23 i24 i25 i26 i27 i28 i29 i30 i31 i32 i33 i34 i35 i36 i37 i38 i39 i49 i50 i51 g i qs gE j40 j41 j42 j43 j44 j45 j46 j47 j48) wq:=by
  conv=>arg 2;whnf
  obtain⟨CC,hCC⟩:∃CC,CC=qb9C lo gr o c m qs vs row rest r wq:=⟨_,rfl⟩
  have hC0:CC [] wq.drew:=by rw[hCC];exact⟨(Touch.refl _ _).drewd,(Below.refl _ _).drew⟩
  have hTC:∀us W,CC us W→Touch gr wq W:=by rw[hCC];exact fun us W h=>h.1
  have HCC:=hid hCC;have hne:Nonempty (Ph CC):=⟨⟨([],wq.drew),hC0⟩⟩
  have pc9:∀{p:Addr} {v:Value},p.block≠gr→wq.cell? p=some v→∀x:Ph CC,x.1.2.cell? p=some v:=fun hp hc x=>by
    rw[←hc];simp only[World.cell?,(hTC _ _ x.2).block _ (World.block_lt_of_cell? wq _ hc) hp]
  replace hG:=pc9 hne1 hG;replace hP:=pc9 hne2 hP;obtain⟨E0,E1,E2,E3,E4,E5,E6⟩:=hE.1;replace E0:=pc9 hne3 E0;replace E1:=pc9 hne3 E1;replace E2:=pc9 hne3 E2;replace E3:=pc9 hne3 E3;replace E4:=pc9 hne3 E4;replace E5:=pc9 hne3 E5;replace E6:=pc9 hne3 E6;clear hCC pc9;have hii:(i:Int)<(n:Int):=by omega
  have hqi:(qs.length:Int)<(m:Int):=by omega
  unfold qb9A;refine zA9 CC [(7,false),(9,false)] [] (by kernel_rfl) (by kernel_rfl) hC0 ?_
  iterate 2
    repeat (
      (with_reducible refine wq1_q ⟨rfl,rfl⟩ (fun K hK=>?_))
      go_simp
      first
        |((with_reducible refine hK _ ?_);clear hK K)
        |((with_reducible refine zA7 (by simp[undef]) (hK _ ?_));clear hK K)
        | (apply Exists.intro
           (with_reducible refine⟨fun _=>?_,hK _ ?_⟩)
           (fail)
           clear hK K))
    refine wq1_v rfl ?_
  repeat (
    (with_reducible refine wq1_q ⟨rfl,rfl⟩ (fun K hK=>?_))
    go_simp
    first
      |((with_reducible refine hK _ ?_);clear hK K)
      |((with_reducible refine zA7 (by simp[undef]) (hK _ ?_));clear hK K)
      | (apply Exists.intro
         (with_reducible refine⟨fun _=>?_,hK _ ?_⟩)
         (fail)
         clear hK K))
  refine zF4 ?_;clear hne;refine wq2_v _ rfl rfl ?_ ?_
  · intro W hW KA hKA
    rw[HCC.out]at hW;obtain⟨hT,hx⟩:=hW;go_simp
    (with_reducible refine(reqCopy_any _ r B W (hR.below (hT.below hB (Nat.le_trans hB (Nat.le_of_lt hgr)))) (Nat.le_trans (Nat.le_trans hB (Nat.le_of_lt hgr)) hT.size) hl1 hl2).mono ?_)
    rintro e w'' ⟨d,l,rfl,o1,o2,ap,hb1⟩;go_simp;exact hKA _ _ _ (by rw[HCC.out];exact⟨hT.trans (Touch.of_below hb1 (Nat.le_refl _)),hx.trans (hb1.mono hx.size),d,l,rfl,o1.rebase hT.size,o2.rebase hT.size,ap⟩) rfl
  intro v0 KA hKA;go_simp;refine hKA _ ?_;clear hKA KA;refine wq2_v _ rfl rfl ?_ ?_
  · intro W hW KA hKA
    rw[HCC.out]at hW;obtain⟨hT,n9,d,l,rfl,od,ol,ap⟩:=hW;obtain⟨y1,y2,e1,_,_⟩:=od.shape;obtain⟨z1,z2,e2,_,_⟩:=ol.shape;subst e1 e2;have hq:=hQ.snoc n9 od ol ap;have hth:=fun j hj=>(hQ.below n9).rows.cellAt zC8 qs.length j zQ (by simp[zC3 hQ.len]) hj
    have hrw:(zipQ qs vs++row::rest).getD qs.length zQ=row:=by simp[List.getD,zC3 hQ.len]
    rw[hrw]at hth;have k0:=hth 0 (by omega);have k1:=hth 1 (by omega);have k2:=hth 2 (by omega);have k3:=hth 3 (by omega);have k4:=hth 4 (by omega);have k5:=hth 5 (by omega);have k6:=hth 6 (by omega);simp only[rowQ,Nat.add_zero,List.getElem?_cons_zero,List.getElem?_cons_succ]at k0 k1 k2 k3 k4 k5 k6;have HQ:=hid hq;have HT:=hid (touch7o gr (o+qs.length * 7) W (.int .i64 r.id) (.int .i64 r.kind) (.int .i64 r.addr) (.int .i64 r.many) (.bool r.wrap) (.slice y1 r.data.length y2) (.slice z1 r.lanes.length z2));clear hq hth hrw od ol ap;refine wp_store7o _ _ _ k0 k1 k2 k3 k4 k5 k6 (fun j=>(hQ.below n9).rows.frozenAt j) rfl rfl ?_;exact hKA undef _ _ (by rw[HCC.out];exact⟨hT.trans HT.out,_,_,HQ.out,hT.trans HT.out⟩) rfl
  intro v1 KA hKA;go_simp;refine hKA _ ?_;clear hKA KA;refine zF3 ?_;intro wz hwz;rw[HCC.out]at hwz;exact hK _ _ _ _ _ _ _ _ _ wz hwz.2
end Go.Proofs.YtgkdoehkmbhfiaaGreat
namespace Go.Proofs.YtgkdoehkmbhfiaaGreat
open Go.RowKit
theorem zG4 (w:World) (g:Nat) (a b c:Value) (h0:w.cell? ⟨g,0,none⟩=some a) (h1:w.cell? ⟨g,1,none⟩=some b) (h2:w.cell? ⟨g,2,none⟩=some c):(loadVar 27 ⟨g,0,none⟩).run Tryz.prog w=.ok (.agg #[a,b,c]) w:=by
 simp[loadVar,go_sem,h0,h1,h2]
def BusCopyP (ms:List MR) (lat:List Int) (pss:List (List Rq)) (w:World) (e:Ending) (w':World):Prop:=∃a b pb us L,e=.returned (.agg #[a,b,.slice (some ⟨pb,0,none⟩) pss.length pss.length])∧Owns w' w.heap.size 144 4 rowM a ms∧Owns w' w.heap.size 3 1 rowI b lat∧PsO w' w.heap.size pb pss.length us pss L∧((∀k,a.ownBlock=some k→k<L 0)∧∀k,b.ownBlock=some k→k<L 0)∧Below w.heap.size w w'
structure CpK (w0 wr:World) (g:Nat) (a b:Value) (pb n:Nat) (src:List Value) (lo:Nat) (us:List Value) (pss:List (List Rq)) (L:Nat→Nat) (ms:List MR) (lat:List Int):Prop where
 box:BoxB wr g a b (.slice (some ⟨pb,0,none⟩) n n)
 oa:Owns wr lo 144 4 rowM a ms
 ob:Owns wr lo 3 1 rowI b lat
 ps:PsO wr lo pb n us pss L
 be:Below w0.heap.size w0 wr
 src:Bx wr w0.heap.size src
 res:Bx wr (w0.heap.size+1) [vnil,vnil,vnil]
 lo0:(∀k,a.ownBlock=some k→k<L 0)∧∀k,b.ownBlock=some k→k<L 0
theorem CpK.below {w0 wr wr':World} {g:Nat} {a b:Value} {pb n:Nat} {src:List Value} {lo:Nat} {us:List Value} {pss:List (List Rq)} {L:Nat→Nat} {ms:List MR} {lat:List Int} (h:CpK w0 wr g a b pb n src lo us pss L ms lat) (hb:Below wr.heap.size wr wr'):CpK w0 wr' g a b pb n src lo us pss L ms lat :=
 ⟨h.box.below hb h.box.lt,h.oa.below hb,h.ob.below hb,h.ps.below hb,h.be.trans (hb.mono h.be.size),h.src.below hb h.src.lt,h.res.below hb h.res.lt,h.lo0⟩
theorem PgO.rebase {w:World} {lo lo' hi:Nat} {u:Value} {qs:List Rq} (h:PgO w lo hi u qs) (hl:lo' ≤ lo):PgO w lo' hi u qs:=by
 rcases h with h|⟨g,o,c,vs,e,h1,h2,h3,h4⟩
 ·exact .inl h
 ·exact .inr ⟨g,o,c,vs,e,h1,h2,h3.rebase hl,h4⟩
theorem CpK.next {w0 wo w5 w6 : World} {g : Nat} {a b u : Value} {pb k : Nat} {src : List Value} {lo : Nat} {us : List Value} {pss : List (List Rq)} {L : Nat → Nat} {ms : List MR} {lat : List Int} (h : CpK w0 wo g a b pb pss.length src lo us (pss.take k) L ms lat) (hk : k < pss.length)
  (hlo:w0.heap.size+2≤lo) (oo:Owns w5 lo 53 1 row1 (.slice (some ⟨pb,0,none⟩) pss.length pss.length) (us.set k u)) (ht:Touch pb wo w5) (hb:Below wo.heap.size w5 w6) (hp:PgO w6 wo.heap.size w6.heap.size u (pss.getD k [])) :
  CpK w0 w6 g a b pb pss.length src lo (us.set k u) (pss.take (k+1)) (fun j=>if j≤k then L j else w6.heap.size) ms lat:=by
 have hpb:=h.ps.pb;have hgp:g≠pb:=fun e=>h.ps.outer.notB h.box (by decide) (by rw[e];rfl)
 have htl:(pss.take k).length=k:=by simp;omega
 have key:∀i,i≠pb→i<wo.heap.size→w6.heap[i]? = wo.heap[i]?:=fun i h1 h2=>(hb.block i h2).trans (ht.block i h2 h1)
 have hs5:=ht.size;have hs6:=hb.size
 refine ⟨h.box.keep (key g hgp h.box.lt), OwnR.kept h.oa fun i hi => key i (fun e => Owns.apartT h.oa h.ps.outer (by decide) i hi (by rw [e]; rfl)) (OwnR.lt h.oa i hi).2, OwnR.kept h.ob fun i hi => key i (fun e => Owns.apartT h.ob h.ps.outer (by decide) i hi (by rw [e]; rfl)) (OwnR.lt h.ob i hi).2, ?_,
  (h.be.trans (ht.below (by omega) h.be.size)).trans (hb.mono h.be.size),h.src.kept (key _ (by omega) h.src.lt),h.res.kept (key _ (by omega) h.res.lt),by simp only[Nat.zero_le,if_true];exact h.lo0⟩
 have htop:=h.ps.top;rw[htl]at htop;refine⟨OwnR.below oo hb (fun i hi=>by simp only[Value.ownBlock,Option.some.injEq]at hi;omega),by rw[List.length_set];exact h.ps.len,by simp;omega,fun j hj=>?_,fun j h1 h2=>?_,fun j hj=>?_,?_,?_⟩
 ·have hj':j<k+1:=by simp at hj;omega
  by_cases e:j=k
  ·subst e;rw[zJ5 (by rw[h.ps.len];exact hk),zD0 (by omega)];simp only[Nat.le_refl,if_true,show ¬j+1≤j by omega,if_false];exact hp.rebase htop
  ·have hjk:j<k:=by omega
   rw[zE3 e,zD0 (by omega)];simp only[show j≤k by omega,if_true,show j+1≤k by omega];have:=h.ps.pg j (by rw[htl];exact hjk);rw[zD0 hjk]at this;refine this.kept fun i h1 h2 h3=>key i ?_ h3
   have:=h.ps.le0 j (by rw[htl];omega);have:=h.ps.pbl;omega
 ·have hj':k+1≤j:=by simp at h1;omega
  rw[zE3 (by omega)];exact h.ps.nil j (by rw[htl];omega) h2
 ·have hj':j<k+1:=by simp at hj;omega
  by_cases e:j=k
  ·subst e;simp only[Nat.le_refl,if_true,show ¬j+1≤j by omega,if_false];omega
  ·simp only[show j≤k by omega,if_true,show j+1≤k by omega];exact h.ps.mono j (by rw[htl];omega)
 ·simp only[Nat.zero_le,if_true];exact h.ps.pbl
 ·have:(pss.take (k+1)).length=k+1:=by simp;omega
  rw[this];simp only[show ¬k+1≤k by omega,if_false];exact Nat.le_refl _
theorem Reqs.opened' {w : World} {B n c : Nat} {a : Option Addr} {rs : List Rq} (h : Reqs w B (.slice a n c) rs) : n = rs.length ∧
  (rs.length ≠ 0 → ∃ b off, a = some ⟨b, off, none⟩ ∧ b < B ∧ ∀ t, t < rs.length → ∃ da dc la lc, ReqV w B (.agg #[.int .i64 (rs.getD t default).id, .int .i64 (rs.getD t default).kind, .int .i64 (rs.getD t default).addr, .int .i64 (rs.getD t default).many, .bool (rs.getD t default).wrap, .slice da (rs.getD t default).data.length dc, .slice la (rs.getD t default).lanes.length lc]) (rs.getD t default) ∧
    w.cell? ⟨b,off+t * 7,none⟩=some (.int .i64 (rs.getD t default).id)∧w.cell? ⟨b,off+t * 7+1,none⟩=some (.int .i64 (rs.getD t default).kind)∧w.cell? ⟨b,off+t * 7+2,none⟩=some (.int .i64 (rs.getD t default).addr) ∧
    w.cell? ⟨b,off+t * 7+3,none⟩=some (.int .i64 (rs.getD t default).many)∧w.cell? ⟨b,off+t * 7+4,none⟩=some (.bool (rs.getD t default).wrap)∧w.cell? ⟨b,off+t * 7+5,none⟩=some (.slice da (rs.getD t default).data.length dc)∧w.cell? ⟨b,off+t * 7+6,none⟩=some (.slice la (rs.getD t default).lanes.length lc)):=by
 obtain⟨ao,cap,e,_,_,_,_,h3⟩:=Reqs.opened h;simp only[Value.slice.injEq]at e;obtain⟨rfl,rfl,rfl⟩:=e;exact⟨rfl,h3⟩
def PgI (w:World) (lo:Nat) (u:Value) (x qs:List Rq) (ys:List RqS):Prop :=
 (u=vnil∧x=[])∨∃gr o c vs,u=.slice (some ⟨gr,o,none⟩) x.length c∧x.length≤c∧c≤9223372036854775807∧QcO w lo gr o c x.length qs vs ((ys.map toV).drop qs.length)
theorem PgI.start {w:World} {lo:Nat} {u:Value} {x:List Rq} {ys:List RqS} (h:Owns w lo 52 7 rowS7 u ys) (hl:ys.length=x.length):PgI w lo u x [] ys:=by
 have h':=h.toV;by_cases hn:u=vnil
 ·refine .inl ⟨hn,?_⟩;obtain⟨a,c,e,_⟩:=h.shape;rw[hn]at e;simp only[Value.slice.injEq]at e;exact List.eq_nil_of_length_eq_zero (by omega)
 ·obtain⟨a,c,e,h1,h2⟩:=h.shape;rcases a with _|ad
  ·exfalso
   obtain⟨_,h3⟩:=h;rcases h3 with⟨h3,_⟩|⟨g', off,cap,cur,h3,_⟩
   ·exact hn h3
   ·rw[h3]at e;simp at e
  ·obtain⟨_,h3⟩:=h;rcases h3 with⟨h3,_⟩|⟨g', off,cap,cur,h3,_⟩
   ·exact absurd h3 hn
   ·subst h3;simp only[Value.slice.injEq,true_and]at e;obtain⟨_,rfl⟩:=e;refine .inr ⟨g', off,cap,[],by rw[hl],by omega,h2,⟨rfl,by simp[hl],?_,by simp,by simp,by simp,by simp,by simp,by simp,by simp⟩⟩;rw[←hl];simpa[zipQ]using h'
theorem PgI.done {w:World} {lo:Nat} {u:Value} {x:List Rq} {ys:List RqS} (h:PgI w lo u x x ys) (hl:ys.length=x.length):PgO w lo w.heap.size u x:=by
 rcases h with⟨h1,h2⟩|⟨gr,o,c,vs,e,h1,h2,h3⟩
 ·exact .inl ⟨h1,h2⟩
 ·have hd:(ys.map toV).drop x.length=[]:=by rw[←hl];simp
  rw[hd]at h3;exact .inr ⟨gr,o,c,vs,e,h1,h2,h3,h3.bound⟩
set_option maxRecDepth 8000 in
theorem busCopy_any (v : Value) (ms : List MR) (lat : List Int) (pss : List (List Rq)) (B : Nat) (w : World) (h : BusI w B v ms lat pss) (hB : B ≤ w.heap.size) (hl1 : ms.length ≤ 1048576) (hl2 : lat.length ≤ 1048576) (hl3 : pss.length ≤ 1048576) (hl4 : ∀ p ∈ pss, p.length ≤ 1048576 ∧ ∀ q ∈ p, Rq20 q) :
  Calls Tryz.prog 57 #[v] w (BusCopyP ms lat pss w):=by
 obtain⟨mv,lv,pv,rfl,hm,hl,hp⟩:=h;have HM:=hid hm;have HL:=hid hl;have HP:=hid hp;have HB:=hid hB;have HL1:=hid hl1;have HL2:=hid hl2;have HL3:=hid hl3;have HL4:=hid hl4;obtain⟨ma,mc,rfl,_⟩:=hm.opened;obtain⟨la,lc,rfl,_⟩:=hl.opened;obtain⟨pa,pc,rfl,hpc,hpc2,_,_,hr⟩:=hp.opened;have HR:=hid hr;clear hm hl hp hr hB hl1 hl2 hl3 hl4
 go_enter Tryz.func57,Tryz.ntmps57
 go_upto_region 1 with fail
 obtain⟨W2,hW2⟩:∃W2,W2=(w.alloc (.cells #[.slice ma ms.length mc,.slice la lat.length lc,.slice pa pss.length pc] 27)).alloc (.cells #[.slice none 0 0,.slice none 0 0,.slice none 0 0] 27):=⟨_,rfl⟩
 have HB2:=hid (show Below w.heap.size w W2 by rw[hW2];exact(bx1 _ _).alloc (by simp) _);have HS:=hid (show Bx W2 w.heap.size [.slice ma ms.length mc,.slice la lat.length lc,.slice pa pss.length pc] by rw[hW2];exact(Bx.new w #[.slice ma ms.length mc,.slice la lat.length lc,.slice pa pss.length pc] _ (by simp)).below (bx1 _ _) (by simp));have HRx:=hid (show Bx W2 (w.heap.size+1) [vnil,vnil,vnil] by rw[hW2];have:=Bx.new (w.alloc (.cells #[.slice ma ms.length mc,.slice la lat.length lc,.slice pa pss.length pc] 27)) #[vnil,vnil,vnil] 27 (by simp);simpa using this);rw[←hW2];have HZ:=hid (show W2.heap.size=w.heap.size+2 by rw[hW2];simp);clear hW2
 go_cut [3] from 8 to 18 (fun u wd=>QbP u pss.length ms lat W2 wd)
 case first=>
  rename_i J K' hJ hK;exact qb1_region _ _ _ _ _ _ _ _ _ _ _ _ _ _ _ _ _ _ _ _ _ _ _ _ _ _ _ _ _ _ _ _ _ _ _ _ _ _ _ _ _ _ _ _ _ _ _ _ _ _ _ w.heap.size _ _ pa pss.length pc ms lat W2 HS.out ((HM.out.below (HB2.out.mono HB.out)).mono (Nat.le_trans HB.out HB2.out.size)).1 (ints_arr ((HL.out.below (HB2.out.mono HB.out)).mono (Nat.le_trans HB.out HB2.out.size))) HL1.out HL2.out HL3.out (fun u3 u8 u9 u10 u11 u12 u13 u14 u15 u16 u17 u18 wd h=>hK _ _ (Met.intro (hJ _ _ ⟨u3,u8,u9,u10,u11,u12,u13,u14,u15,u16,u17,u18,h,rfl⟩)))
 case rest=>
  obtain⟨g,a,b,pb,rfl,hg,hB,oa,ob,op,hb⟩:=hcut;have hpl:=OwnR.lt op pb rfl
  have HK0 := hid (show CpK w wc g a b pb pss.length [.slice ma ms.length mc, .slice la lat.length lc, .slice pa pss.length pc] W2.heap.size (List.replicate pss.length vnil) (pss.take 0) (fun _ => wc.heap.size) ms lat from
   ⟨hB,oa,ob,⟨op,by simp,by simp,fun j hj=>absurd hj (by simp),fun j _ hj=>by simp[List.getD,hj],fun j hj=>absurd hj (by simp),hpl.2,Nat.le_refl _⟩,HB2.out.trans (hb.mono (by rw[HZ.out];omega)),HS.out.below hb HS.out.lt,HRx.out.below hb HRx.out.lt,fun k hk=>(OwnR.lt oa k hk).2,fun k hk=>(OwnR.lt ob k hk).2⟩)
  have HG:=hid hg;have HPB:=hid hpl.1;obtain⟨ya,yb,rfl,_,_⟩:=oa.shape;obtain⟨za,zb,rfl,_,_⟩:=ob.shape;clear hg hB oa ob op hb hpl;obtain⟨⟨r0,r1,r2⟩,_⟩:=HK0.out.src.three
  go_wp2_with fail
  clear r0 r1 r2
  go_loopw [22] (fun i wr=>∃(k:Nat) (us:List Value) (L:Nat→Nat),i=.int .i64 k∧k≤pss.length∧CpK w wr g (.slice ya ms.length yb) (.slice za lat.length zb) pb pss.length [.slice ma ms.length mc,.slice la lat.length lc,.slice pa pss.length pc] W2.heap.size us (pss.take k) L ms lat) (fun i _=>pss.length - (intOf i).toNat)
  case atStart=>exact⟨0,_,_,rfl,by omega,HK0.out⟩
  case round=>
   clear HK0;obtain⟨k,us,L,rfl,hk,hK⟩:=hrel;have HK:=hid hK;clear hK;by_cases hlt:k<pss.length
   ·obtain⟨sb,so,rfl,hsb,hsc⟩:=HR.out (by omega);obtain⟨da,dc,hu,c0⟩:=hsc k hlt;obtain⟨x,hx⟩:∃x,x=pss.getD k []:=⟨_,rfl⟩
    rw[←hx]at c0 hu;rw[←HK.out.be.cell (p:=⟨sb,_,none⟩) (Nat.lt_of_lt_of_le hsb HB.out)]at c0;have HX:=hid hx;have HU:=hid (hu.below (HK.out.be.mono HB.out));clear hx hsc hu
    go_upto_region 5 with fail
    clear c0;obtain⟨wo,hwo⟩:∃W,W=wr:=⟨_,rfl⟩
    subst hwo;obtain⟨ys,hyl,hya,hyp⟩:=Reqs.rowsS HU.out;have HYL:=hid hyl;have HYA:=hid hya;have HYP:=hid hyp;clear hyl hya hyp;have HPX:=hid (show x.length≤1048576∧∀q∈x,Rq20 q by rw[HX.out];exact HL4.out _ (zB5 hlt));have HGP:=hid (show g≠pb from fun e=>HK.out.ps.outer.notB HK.out.box (by decide) (by rw[e];rfl));have HBP:=hid (show B≤pb from Nat.le_trans (Nat.le_trans HB.out HB2.out.size) HPB.out)
    go_cut [] from 27 to 32 (fun wd=>QcP W2.heap.size pb k pss.length us ys wo wd)
    case first=>
     rename_i J K' hJ hK;exact qb5_region _ _ _ _ _ _ _ _ _ _ _ _ _ _ _ _ _ _ _ _ _ _ _ _ _ _ _ _ _ _ _ _ _ _ _ _ _ _ _ _ _ _ _ _ _ _ _ _ _ g k _ W2.heap.size pb pss.length B us ys wo HGP.out HK.out.box.lt HK.out.box.bx.three.1.2.2 HK.out.ps.pb.2 HBP.out hlt HK.out.ps.len HK.out.ps.outer HYA.out (by have:=HYL.out;have:=HPX.out.1;omega) (fun u27 u28 u29 u30 u31 u32 wd h=>hK _ _ (Met.intro (hJ _ _ ⟨u27,u28,u29,u30,u31,u32,h,rfl⟩)))
    case rest=>
     obtain⟨u,ou,oo,ht⟩:=hcut;obtain⟨w5,hw5⟩:∃W,W=wc:=⟨_,rfl⟩
     subst hw5;have HOO:=hid oo;have HT:=hid ht;have HI:=hid (PgI.start ou HYL.out);have HC5:=hid ((oo.cellAt zG7 k 0 vnil (by rw[List.length_set,HK.out.ps.len];exact hlt) (by omega)).trans (by rw[zJ5 (by rw[HK.out.ps.len];exact hlt)];rfl:_=some u));have HG5:=hid ((ht.cell (p:=⟨g,2,none⟩) HGP.out HK.out.box.lt).trans HK.out.box.bx.three.1.2.2);have HU5:=hid (HU.out.below (ht.below HBP.out (Nat.le_trans HBP.out (Nat.le_of_lt HK.out.ps.pb.2))));clear ou oo ht
     go_wp2_with fail
     go_loopw [35] (fun i wx=>∃qs:List Rq,i=.int .i64 (qs.length:Nat)∧qs.length≤x.length∧qs=x.take qs.length∧Below wo.heap.size w5 wx∧PgI wx wo.heap.size u x qs ys) (fun i _=>x.length - (intOf i).toNat)
     case atStart=>exact⟨[],rfl,Nat.zero_le _,by simp,Below.refl _ _,HI.out⟩
     case round=>
      clear HI;obtain⟨qs,rfl,hq,hqs,hbx,hpi⟩:=hrel;have HBX:=hid hbx;have HI:=hid hpi;have HQS:=hid hqs;clear hbx hpi hqs;by_cases hlt2:qs.length<x.length
      ·skip
       rcases HI.out with⟨_,h2⟩|⟨gr,o,c,vs,rfl,h1,h2,hQ⟩
       ·exfalso;rw[h2]at hlt2;simp at hlt2
       have hgr:=hQ.g;obtain⟨b2,off2,rfl,hb2,hc2⟩:=(Reqs.opened' HU5.out).2 (by omega);obtain⟨ea,ec,fa,fc,hv,c0,c1,c2,c3,c4,c5,c6⟩:=hc2 qs.length hlt2;obtain⟨r,hr⟩:∃r,r=x.getD qs.length default:=⟨_,rfl⟩
       rw[←hr]at c0 c1 c2 c3 c4 c5 c6 hv;have hBw:B≤wo.heap.size:=Nat.le_trans HBP.out (Nat.le_of_lt HK.out.ps.pb.2);have cl:∀j,wr.cell? ⟨b2,j,none⟩=w5.cell? ⟨b2,j,none⟩:=fun j=>HBX.out.cell (p:=⟨b2,j,none⟩) (Nat.lt_of_lt_of_le hb2 hBw)
       rw[←cl]at c0 c1 c2 c3 c4 c5 c6;have HR:=hid hr;have HV:=hid (hv.below (HBX.out.mono hBw));have HQ:=hid hQ;have HGR:=hid hgr;have H1:=hid h1;have HRQ:=hid (show Rq20 r from by rw[hr];exact HPX.out.2 _ (zB5 hlt2));clear hr hv hQ hgr h1 hc2 cl hb2
       go_upto_region 9 with fail
       clear c0 c1 c2 c3 c4 c5 c6;obtain⟨wp,hwp⟩:∃W,W=wr:=⟨_,rfl⟩
       subst hwp;obtain⟨W3,hW3⟩:∃W3,W3=wp.alloc (.cells #[.int .i64 r.id,.int .i64 r.kind,.int .i64 r.addr,.int .i64 r.many,.bool r.wrap,.slice ea r.data.length ec,.slice fa r.lanes.length fc] 52):=⟨_,rfl⟩
       rw[←hW3];have HB3:=hid (show Below wp.heap.size wp W3 by rw[hW3];exact bx1 _ _);have HE:=hid (show Bx W3 wp.heap.size [.int .i64 r.id,.int .i64 r.kind,.int .i64 r.addr,.int .i64 r.many,.bool r.wrap,.slice ea r.data.length ec,.slice fa r.lanes.length fc] by rw[hW3];exact Bx.new wp #[.int .i64 r.id,.int .i64 r.kind,.int .i64 r.addr,.int .i64 r.many,.bool r.wrap,.slice ea r.data.length ec,.slice fa r.lanes.length fc] _ (by simp));clear hW3;have HB53:=hid (show Below wo.heap.size w5 W3 from HBX.out.trans (HB3.out.mono (by have:=HGR.out;omega)));obtain⟨row,rest,hdr⟩:∃row rest,(ys.map toV).drop qs.length=row::rest:=⟨_,_,List.drop_eq_getElem_cons (by have:=HYL.out;simp;omega)⟩
       have HDR:=hid hdr;have HRS:=hid (show(ys.map toV).drop (qs++[r]).length=rest by rw[List.length_append,List.length_singleton,←List.drop_drop,hdr];rfl);clear hdr;have HQ3:=hid (show QcO W3 wo.heap.size gr o c x.length qs vs (row::rest) by rw[←HDR.out];exact HQ.out.below HB3.out);have HP5:=hid (show w5.cell? ⟨pb,k,none⟩=some (.slice (some ⟨gr,o,none⟩) x.length c) by have:=HC5.out;simpa using this);have z1:=HGR.out;have z2:=HK.out.box.lt;have z3:=HK.out.ps.pb.2;have z4:=HB3.out.size;have z5:=HE.out.lt;have z6:=HBP.out;refine qb9_region _ _ _ _ _ _ _ _ _ _ _ _ _ _ _ _ _ _ _ _ _ _ _ _ _ _ _ _ _ _ _ _ _ _ _ _ _ _ _ _ _ _ _ _ _ _ _ _ g k qs wp.heap.size wo.heap.size gr o c x.length pb pss.length B vs row rest r _ _ W3 (by omega) (by omega) ((HB53.out.cell (p:=⟨g,2,none⟩) z2).trans HG5.out) hlt (by omega) (by omega) ((HB53.out.cell (p:=⟨pb,k,none⟩) z3).trans HP5.out) (by omega) z5 ⟨HE.out.seven.1,trivial⟩ (by omega) (by omega) (HV.out.below (HB3.out.mono (by omega))) HRQ.out.1 HRQ.out.2 hlt2 HQ3.out ?_;clear z1 z2 z3 z4 z5 z6;intro u40 u41 u42 u43 u44 u45 u46 u47 u48 wc hcut;obtain⟨d,l,hq', ht'⟩:=hcut;obtain⟨w7,hw7⟩:∃W,W=wc:=⟨_,rfl⟩
       subst hw7;have HQ7:=hid hq';have HT7:=hid ht';clear hq' ht';unfold qb9A;have hsm:qs.length≤1048576:=by have:=HPX.out.1;omega
       go_wp2_with fail
       go_roundw
       case rel=>exact⟨qs++[r],by simp,by simp;omega,by rw[List.length_append,List.length_singleton,List.take_succ_eq_append_getElem hlt2,←HQS.out,HR.out];simp[List.getD,hlt2],HB53.out.trans (HT7.out.below HGR.out.1 (by have:=HGR.out;have:=HB3.out.size;omega)),.inr ⟨gr,o,c,vs++[(d,l)],rfl,H1.out,h2,by rw[HRS.out];exact HQ7.out⟩⟩
       case measure=>simp[intOf];omega
      ·have hqx:qs=x:=by rw[HQS.out,List.take_of_length_le (by omega)]
       have HN:=hid (HK.out.next hlt (by have:=HZ.out;omega) HOO.out HT.out HBX.out (by rw[←HX.out];have:=HI.out;rw[hqx]at this;exact this.done HYL.out));clear HI HQS
       go_wp2_with fail
       go_roundw
       case rel=>exact⟨k+1,_,_,by go_num,by omega,HN.out⟩
       case measure=>simp[intOf];omega
   ·obtain rfl:k=pss.length:=by omega
    rw[List.take_length]at HK;obtain⟨⟨r0,r1,r2⟩,_⟩:=HK.out.box.bx.three;obtain⟨⟨q0,q1,q2⟩,f0,f1,f2⟩:=HK.out.res.three;have hrl:=HK.out.res.lt
    go_wp2_with fail
    refine bodyPost_ret (zB0 Tryz.results57 _ _ ⟨w.heap.size+1,0,none⟩ (.agg #[.slice ya ms.length yb,.slice za lat.length zb,.slice (some ⟨pb,0,none⟩) pss.length pss.length]) rfl (zG4 _ _ _ _ _ (by simp[go_sem, *]) (by simp[go_sem, *]) (by simp[go_sem, *]))) rfl ⟨_,_,_,us,L,rfl,?_,?_,?_,HK.out.lo0,?_⟩
    ·have hz:=HZ.out;exact OwnR.rebase (OwnR.kept HK.out.oa (fun k hk=>(touchB (w.heap.size+1) _ _ _ _).block k (OwnR.lt HK.out.oa k hk).2 (by have:=(OwnR.lt HK.out.oa k hk).1;omega))) (show w.heap.size≤W2.heap.size by omega)
    ·have hz:=HZ.out;exact OwnR.rebase (OwnR.kept HK.out.ob (fun k hk=>(touchB (w.heap.size+1) _ _ _ _).block k (OwnR.lt HK.out.ob k hk).2 (by have:=(OwnR.lt HK.out.ob k hk).1;omega))) (show w.heap.size≤W2.heap.size by omega)
    ·have hz:=HZ.out;exact(HK.out.ps.kept (fun k h1 h2=>(touchB (w.heap.size+1) _ _ _ _).block k h2 (by omega)) (touchB (w.heap.size+1) _ _ _ _).size).rebase (by omega)
    ·exact((HK.out.be.setCell (by exact Nat.le_succ _) _).setCell (by exact Nat.le_succ _) _).setCell (by exact Nat.le_succ _) _
def zE5 (pss:List (List Rq)) (who:Int) (k:Nat):List (List Rq):=(List.range pss.length).map fun j=>if j<k∧(j:Int)≠who then[] else pss.getD j []
theorem zC1 (pss:List (List Rq)) (who:Int) (k:Nat):(zE5 pss who k).length=pss.length:=by simp[zE5]
theorem aloneK_get {pss:List (List Rq)} {who:Int} {k j:Nat} (hj:j<pss.length):(zE5 pss who k).getD j []=if j<k∧(j:Int)≠who then[] else pss.getD j []:=by simp[zE5,List.getD,hj]
theorem aloneK_zero (pss:List (List Rq)) (who:Int):zE5 pss who 0=pss:=by
 apply List.ext_getElem
 ·simp[zE5]
 ·intro i h1 h2;simp[zE5,List.getD,h2]
theorem aloneK_keep {pss:List (List Rq)} {who:Int} {k:Nat} (h:(k:Int)=who):zE5 pss who (k+1)=zE5 pss who k:=by
 unfold zE5;apply List.map_congr_left;intro j _;by_cases e:j=k
 ·subst e;simp[h]
 ·have:(j<k+1↔j<k):=by omega
  simp[this]
theorem PsO.setNil {w:World} {lo pb n k:Nat} {us:List Value} {pss:List (List Rq)} {who:Int} {L:Nat→Nat} (h:PsO w lo pb n us (zE5 pss who k) L) (hk:k<pss.length) (hw:(k:Int)≠who):PsO (w.setCell ⟨pb,k,none⟩ vnil) lo pb n (us.set k vnil) (zE5 pss who (k+1)) L:=by
 have hl:=h.le;rw[zC1]at hl;have ho:=h.outer.putRow zG7 k 0 vnil vnil vnil (by rw[h.len];omega) (by omega) rfl;simp only[Nat.zero_add,Nat.mul_one,Nat.add_zero]at ho;have hs:(w.setCell ⟨pb,k,none⟩ vnil).heap.size=w.heap.size:=by simp[World.setCell]
 refine⟨ho,by rw[List.length_set];exact h.len,by rw[zC1];exact hl,fun j hj=>?_,fun j h1 h2=>?_,fun j hj=>h.mono j (by rw[zC1]at hj ⊢;exact hj),h.pbl,by rw[hs,zC1];have:=h.top;rw[zC1]at this;exact this⟩
 ·rw[zC1]at hj;rw[aloneK_get hj];by_cases e:j=k
  ·subst e;rw[zJ5 (by rw[h.len];omega),if_pos ⟨by omega,hw⟩];exact PgO.nil _ _ _
  ·rw[zE3 e];have:=h.pg j (by rw[zC1];exact hj);rw[aloneK_get hj]at this;have hc:(if j<k+1∧(j:Int)≠who then([]:List Rq) else pss.getD j [])=if j<k∧(j:Int)≠who then[] else pss.getD j []:=by
    have:(j<k+1↔j<k):=by omega
    simp[this]
   rw[hc];refine this.kept fun i h1 _ _=>Below.heap_setCell _ _ _ _ ?_
   have:=h.le0 j (by rw[zC1];omega);have:=h.pbl;show i≠pb;omega
 ·rw[zC1]at h1;rw[zE3 (by omega)];exact h.nil j (by rw[zC1];exact h1) h2
def BusAloneP (ms:List MR) (lat:List Int) (pss:List (List Rq)) (who:Int) (w:World) (e:Ending) (w':World):Prop :=
 ((busOk ms lat pss=true∧inB who 0 2=true)∧∃a b pb us L,e=.returned (.agg #[a,b,.slice (some ⟨pb,0,none⟩) pss.length pss.length])∧Owns w' w.heap.size 144 4 rowM a ms∧Owns w' w.heap.size 3 1 rowI b lat∧PsO w' w.heap.size pb pss.length us (zE5 pss who pss.length) L∧((∀k,a.ownBlock=some k→k<L 0)∧∀k,b.ownBlock=some k→k<L 0)∧Below w.heap.size w w') ∨
 ((busOk ms lat pss&&inB who 0 2)=false∧e=.returned (.agg #[vnil,vnil,vnil])∧Below w.heap.size w w')
set_option maxRecDepth 8000 in
theorem implBusAlone_any (v : Value) (ms : List MR) (lat : List Int) (pss : List (List Rq)) (who : Int) (B : Nat) (w : World) (h : BusI w B v ms lat pss) (hB : B ≤ w.heap.size) (hl1 : ms.length ≤ 1048576) (hl2 : lat.length ≤ 1048576) (hl3 : pss.length ≤ 1048576) (hl4 : ∀ p ∈ pss, p.length ≤ 1048576 ∧ ∀ q ∈ p, Rq20 q) :
  Calls Tryz.prog 18 #[v,.int .i64 who] w (BusAloneP ms lat pss who w):=by
 have HI:=hid h;have HB:=hid hB;have HL1:=hid hl1;have HL2:=hid hl2;have HL3:=hid hl3;have HL4:=hid hl4;obtain⟨mv,lv,pv,rfl,hm,hl,hp⟩:=h;obtain⟨ma,mc,rfl,_⟩:=hm.opened;obtain⟨la,lc,rfl,_⟩:=hl.opened;obtain⟨pa,pc,rfl,_⟩:=hp.opened;clear hm hl hp hB hl1 hl2 hl3 hl4;obtain⟨W2,hW2⟩:∃W2,W2=(w.alloc (.cells #[.slice ma ms.length mc,.slice la lat.length lc,.slice pa pss.length pc] 27)).alloc (.cells #[.slice none 0 0,.slice none 0 0,.slice none 0 0] 27):=⟨_,rfl⟩
 have HB2:=hid (show Below w.heap.size w W2 by rw[hW2];exact(bx1 _ _).alloc (by simp) _);have HS:=hid (show Bx W2 w.heap.size [.slice ma ms.length mc,.slice la lat.length lc,.slice pa pss.length pc] by rw[hW2];exact(Bx.new w #[.slice ma ms.length mc,.slice la lat.length lc,.slice pa pss.length pc] _ (by simp)).below (bx1 _ _) (by simp));have HR:=hid (show Bx W2 (w.heap.size+1) [vnil,vnil,vnil] by rw[hW2];have:=Bx.new (w.alloc (.cells #[.slice ma ms.length mc,.slice la lat.length lc,.slice pa pss.length pc] 27)) #[vnil,vnil,vnil] 27 (by simp);simpa using this);have HZ:=hid (show W2.heap.size=w.heap.size+2 by rw[hW2];simp);have HW2:=hid hW2;rcases hbo:busOk ms lat pss with _|_
 ·have HO:=hid hbo;clear hbo hW2
  go_enter Tryz.func18,Tryz.ntmps18
  go_wp2_with (first
   |(go_at_call 50;rw[show(w.alloc _).alloc _=W2 from HW2.out.symm];refine(zI1 _ ms lat pss B W2 (HI.out.below (HB2.out.mono HB.out)) (Nat.le_trans HB.out HB2.out.size)).mono ?_;rw[HO.out];rintro e w1 ⟨rfl,hb⟩;have HR1:=hid (HR.out.below hb HR.out.lt);have HBE:=hid (HB2.out.trans (hb.mono HB2.out.size));obtain⟨⟨q0,q1,q2⟩,f0,f1,f2⟩:=HR1.out.three;have hrl:=HR1.out.lt;clear hb))
  refine bodyPost_ret (zB0 Tryz.results18 _ _ ⟨w.heap.size+1,0,none⟩ (.agg #[vnil,vnil,vnil]) rfl (zG4 _ _ _ _ _ (by simp[go_sem, *]) (by simp[go_sem, *]) (by simp[go_sem, *]))) rfl (.inr ⟨by rw[HO.out];rfl,rfl,?_⟩);exact((HBE.out.setCell (by exact Nat.le_succ _) _).setCell (by exact Nat.le_succ _) _).setCell (by exact Nat.le_succ _) _
 ·have HO:=hid hbo;clear hbo hW2;rcases hib:inB who 0 2 with _|_
  ·have HI2:=hid hib;clear hib
   go_enter Tryz.func18,Tryz.ntmps18
   go_wp2_with (first
    |(go_at_call 50;rw[show(w.alloc _).alloc _=W2 from HW2.out.symm];refine(zI1 _ ms lat pss B W2 (HI.out.below (HB2.out.mono HB.out)) (Nat.le_trans HB.out HB2.out.size)).mono ?_;rw[HO.out];rintro e w1 ⟨rfl,hb⟩;have HS1:=hid (HS.out.below hb HS.out.lt);have HR1:=hid (HR.out.below hb HR.out.lt);have HBE:=hid (HB2.out.trans (hb.mono HB2.out.size));obtain⟨⟨s0,s1,s2⟩,_⟩:=HS1.out.three;obtain⟨⟨q0,q1,q2⟩,f0,f1,f2⟩:=HR1.out.three;have hrl:=HR1.out.lt;clear hb)
    |(go_at_call 56;refine(zE2 _ _).mono ?_;rw[HI2.out];rintro e w' ⟨rfl,hw⟩;subst hw))
   refine bodyPost_ret (zB0 Tryz.results18 _ _ ⟨w.heap.size+1,0,none⟩ (.agg #[vnil,vnil,vnil]) rfl (zG4 _ _ _ _ _ (by simp[go_sem, *]) (by simp[go_sem, *]) (by simp[go_sem, *]))) rfl (.inr ⟨by rw[HO.out,HI2.out];rfl,rfl,?_⟩);exact((HBE.out.setCell (by exact Nat.le_succ _) _).setCell (by exact Nat.le_succ _) _).setCell (by exact Nat.le_succ _) _
  ·have HI2:=hid hib;clear hib
   go_enter Tryz.func18,Tryz.ntmps18
   go_wp2_with (first
    |(go_at_call 50;rw[show(w.alloc _).alloc _=W2 from HW2.out.symm];refine(zI1 _ ms lat pss B W2 (HI.out.below (HB2.out.mono HB.out)) (Nat.le_trans HB.out HB2.out.size)).mono ?_;rw[HO.out];rintro e w1 ⟨rfl,hb⟩;have HS1:=hid (HS.out.below hb HS.out.lt);have HR1:=hid (HR.out.below hb HR.out.lt);have HBE:=hid (HB2.out.trans (hb.mono HB2.out.size));obtain⟨⟨s0,s1,s2⟩,_⟩:=HS1.out.three;obtain⟨⟨q0,q1,q2⟩,f0,f1,f2⟩:=HR1.out.three;have hrl:=HR1.out.lt;clear hb)
    |(go_at_call 56;refine(zE2 _ _).mono ?_;rw[HI2.out];rintro e w' ⟨rfl,hw⟩;subst hw)
    |(go_at_call 57;go_must (refine(busCopy_any _ ms lat pss B _ (HI.out.below (HBE.out.mono HB.out)) (Nat.le_trans HB.out HBE.out.size) HL1.out HL2.out HL3.out HL4.out).mono ?_);rintro e w3 ⟨a,b,pb,us,L,rfl,oa,ob,hps,hl0,hb⟩;have HOA:=hid oa;have HOB:=hid ob;have HPS:=hid hps;have HBF:=hid (HBE.out.trans (hb.mono HBE.out.size));have HR3:=hid (HR1.out.below hb HR1.out.lt);obtain⟨ya,yb,rfl,_,_⟩:=oa.shape;obtain⟨za,zb,rfl,_,_⟩:=ob.shape;have HL0:=hid hl0;clear oa ob hps hl0 hb s0 s1 s2 q0 q1 q2 f0 f1 f2))
   obtain⟨W4,hW4⟩:∃W4,W4=w3.alloc (.cells #[.slice ya ms.length yb,.slice za lat.length zb,.slice (some ⟨pb,0,none⟩) pss.length pss.length] 27):=⟨_,rfl⟩
   rw[←hW4];have HB4:=hid (show Below w3.heap.size w3 W4 by rw[hW4];exact bx1 _ _);have HX4:=hid (show BoxB W4 w3.heap.size (.slice ya ms.length yb) (.slice za lat.length zb) (.slice (some ⟨pb,0,none⟩) pss.length pss.length) by rw[hW4];exact BoxB.new _ _ _ _);clear hW4;have HA4:=hid (HOA.out.below HB4.out);have HO4:=hid (HOB.out.below HB4.out);have HP4:=hid (HPS.out.below HB4.out);have HBG:=hid (HBF.out.trans (HB4.out.mono HBF.out.size));have HR4:=hid (HR3.out.below HB4.out HR3.out.lt);have hz1:=HR1.out.lt;have hpb3:=HPS.out.pb;have HPB:=hid hpb3;have HZ1:=hid hz1;clear HOA HOB HPS hpb3 hz1
   go_loopw [21] (fun i wr=>∃(k:Nat) (us:List Value),i=.int .i64 k∧k≤pss.length∧BoxB wr w3.heap.size (.slice ya ms.length yb) (.slice za lat.length zb) (.slice (some ⟨pb,0,none⟩) pss.length pss.length)∧Owns wr w1.heap.size 144 4 rowM (.slice ya ms.length yb) ms∧Owns wr w1.heap.size 3 1 rowI (.slice za lat.length zb) lat∧PsO wr w1.heap.size pb pss.length us (zE5 pss who k) L∧Below w.heap.size w wr∧Bx wr (w.heap.size+1) [vnil,vnil,vnil]) (fun i _=>pss.length - (intOf i).toNat)
   case atStart=>exact⟨0,us,rfl,by omega,HX4.out,HA4.out,HO4.out,by rw[aloneK_zero];exact HP4.out,HBG.out,HR4.out⟩
   case round=>
    clear HX4 HA4 HO4 HP4 HBG HR4;obtain⟨k,us,rfl,hk,hx,ha,ho,hp,hb,hr⟩:=hrel;have HX:=hid hx;have HA:=hid ha;have HO2:=hid ho;have HP:=hid hp;have HBE2:=hid hb;have HR5:=hid hr;clear hx ha ho hp hb hr;have hn3:=HL3.out;by_cases hlt:k<pss.length
    ·by_cases hw:(k:Int)=who
     ·have hne:((k:Int) != who)=false:=by simp[hw]
      have HK:=hid (aloneK_keep (pss:=pss) hw);clear hw
      go_wp2_with fail
      go_roundw
      case rel=>exact⟨k+1,us,by go_num,by omega,HX.out,HA.out,HO2.out,by rw[HK.out];exact HP.out,HBE2.out,HR5.out⟩
      case measure=>simp[intOf];omega
     ·have hne:((k:Int) != who)=true:=by simp[hw]
      have HN:=hid (HP.out.setNil hlt hw);clear hw;obtain⟨⟨s0,s1,s2⟩,_⟩:=HX.out.bx.three;have q:=HP.out.outer.cellAt zG7 k 0 vnil (by rw[HP.out.len];exact hlt) (by omega);have q2:=HP.out.outer.frozenAt k;simp only[Nat.zero_add,Nat.mul_one,Nat.add_zero,row1,List.getElem?_cons_zero]at q;have hpl:=HP.out.pb.2
      go_wp2_with fail
      go_roundw
      case rel=>exact⟨k+1,_,by go_num,by omega,HX.out.touch (Touch.setCell ..) (by have:=HPB.out.2;omega),HA.out.tchB (Touch.setCell ..) (fun e=>Owns.apartT HA.out HP.out.outer (by decide) pb e rfl),HO2.out.tchB (Touch.setCell ..) (fun e=>Owns.apartT HO2.out HP.out.outer (by decide) pb e rfl),HN.out,HBE2.out.setCell (by show w.heap.size≤pb;have:=HPB.out.1;have:=HZ1.out;omega) _,HR5.out.kept (Below.heap_setCell _ _ _ _ (by show w.heap.size+1≠pb;have:=HPB.out.1;have:=HZ1.out;omega))⟩
      case measure=>simp[intOf];omega
    ·obtain rfl:k=pss.length:=by omega
     obtain⟨⟨r0,r1,r2⟩,_⟩:=HX.out.bx.three;obtain⟨⟨q0,q1,q2⟩,f0,f1,f2⟩:=HR5.out.three;have hrl:=HR5.out.lt;have hbl:=HX.out.lt
     go_wp2_with fail
     refine bodyPost_ret (zB0 Tryz.results18 _ _ ⟨w.heap.size+1,0,none⟩ (.agg #[.slice ya ms.length yb,.slice za lat.length zb,.slice (some ⟨pb,0,none⟩) pss.length pss.length]) rfl (zG4 _ _ _ _ _ (by simp[go_sem, *]) (by simp[go_sem, *]) (by simp[go_sem, *]))) rfl (.inl ⟨⟨HO.out,HI2.out⟩,_,_,_,us,L,rfl,?_,?_,?_,HL0.out,?_⟩)
     ·have hz:=HZ1.out;exact OwnR.rebase (OwnR.kept HA.out (fun k hk=>(touchB (w.heap.size+1) _ _ _ _).block k (OwnR.lt HA.out k hk).2 (by have:=(OwnR.lt HA.out k hk).1;omega))) (show w.heap.size≤w1.heap.size by omega)
     ·have hz:=HZ1.out;exact OwnR.rebase (OwnR.kept HO2.out (fun k hk=>(touchB (w.heap.size+1) _ _ _ _).block k (OwnR.lt HO2.out k hk).2 (by have:=(OwnR.lt HO2.out k hk).1;omega))) (show w.heap.size≤w1.heap.size by omega)
     ·have hz:=HZ1.out;exact(HP.out.kept (fun k h1 h2=>(touchB (w.heap.size+1) _ _ _ _).block k h2 (by omega)) (touchB (w.heap.size+1) _ _ _ _).size).rebase (by omega)
     ·exact((HBE2.out.setCell (by exact Nat.le_succ _) _).setCell (by exact Nat.le_succ _) _).setCell (by exact Nat.le_succ _) _
theorem CopP.below {st:Cy} {w w0:World} {e:Ending} {w':World} (h:CopP st w0 e w') (hb:Below w.heap.size w w0):CopP st w e w':=by
 obtain⟨V,N,C,D,he,hr,h3⟩:=h;exact⟨V,N,C,D,he,hr.rebase hb.size,hb.trans (h3.mono hb.size)⟩
theorem runC_app (c : Cfg) : ∀ (a b : List Inp) (st : Cy), runC c (a ++ b) st = runC c b (runC c a st)
 |[],_,_=>rfl
 |_::a,b,_=>runC_app c a b _
theorem runC_snoc (c:Cfg) (ins:List Inp) (k:Nat) (hk:k<ins.length) (st:Cy):runC c (ins.take (k+1)) st=cyc c (ins.getD k default) (runC c (ins.take k) st):=by
 rw[List.take_succ_eq_append_getElem hk,runC_app];simp[runC,List.getD,hk]
set_option maxRecDepth 8000 in
theorem cycRun_any {c : Cfg} (hbus : Bus c) {w : World} {B : Nat} {u v : Value} (hc : BusV w B u c) {a0 a1 a2 a3 a4 : Value} {st : Cy} {P : List PS} {Q : List SS} (h : CyV w B a0 a1 a2 a3 a4 st P Q) {ins : List Inp} (hi : Ins w B v ins) (hB : B ≤ w.heap.size) (hg : Good c st) (hl : ins.length ≤ 300) :
  Calls Tryz.prog 23 #[u,.agg #[a0,a1,a2,a3,a4],v] w (CopP (runC c ins st) w):=by
 obtain⟨mv,lb,lo,lc,pb,po,pc,QQ,K,rfl,⟨ma,mn,mk,rfl⟩,_,_,_,_,_,_⟩:=hc.opened hbus;obtain⟨z0,z1,z2,z3,z4,n0,n1,n2,n3,n4,k0,k1,k2,k3,k4,rfl,rfl,rfl,rfl,rfl⟩:=h.sl;obtain⟨ia,ic,rfl,ic1,ic2,ic3,_,hcell⟩:=hi.opened;have HRN:=hid (fun(W:World) (hW:Below w.heap.size w W)=>runs_any hbus (hc.below (hW.mono hB)) (h.below (hW.mono hB)) (hi.below (hW.mono hB)) (Nat.le_trans hB hW.size) hg hl);have HCP:=hid (fun(W:World) (hW:Below w.heap.size w W)=>cycCopyV_any (h.below (hW.mono hB)) (Nat.le_trans hB hW.size) (zJ0 hbus hg));have HBV:=hid hc;have HCELL:=hid hcell;obtain⟨il,hil⟩:∃x,x=ins.length:=⟨_,rfl⟩
 rw[←hil]at HRN HCELL ic1 ic3 ⊢;have HIL:=hid hil;obtain⟨w0,hw0⟩:∃W,W=((w.alloc (.cells #[.slice ma mn mk,.slice (some ⟨lb,lo,none⟩) 4 lc,.slice (some ⟨pb,po,none⟩) 3 pc] 27)).alloc (.cells #[.slice z0 n0 k0,.slice z1 n1 k1,.slice z2 n2 k2,.slice z3 n3 k3,.slice z4 n4 k4] 39)).alloc (.cells #[.slice none 0 0,.slice none 0 0,.slice none 0 0,.slice none 0 0,.slice none 0 0] 39):=⟨_,rfl⟩
 have hb0:Below w.heap.size w w0:=by rw[hw0];exact(((Below.refl _ _).alloc (Nat.le_refl _) _).alloc (by simp) _).alloc (by simp <;> omega) _
 obtain⟨g1,hg1⟩:∃g,g=w.heap.size+1:=⟨_,rfl⟩
 obtain⟨g3,hg3⟩:∃g,g=w.heap.size+1+1:=⟨_,rfl⟩
 have X0 := hid (show Bx w0 w.heap.size [.slice ma mn mk, .slice (some ⟨lb, lo, none⟩) 4 lc, .slice (some ⟨pb, po, none⟩) 3 pc] by
  rw[hw0];exact((Bx.new w #[.slice ma mn mk,.slice (some ⟨lb,lo,none⟩) 4 lc,.slice (some ⟨pb,po,none⟩) 3 pc] 27 (by simp)).below ((Below.refl _ _).alloc (Nat.le_refl _) _) (by simp)).below ((Below.refl _ _).alloc (Nat.le_refl _) _) (by simp <;> omega))
 have X1 := hid (show Bx w0 g1 [.slice z0 n0 k0, .slice z1 n1 k1, .slice z2 n2 k2, .slice z3 n3 k3, .slice z4 n4 k4] by
  rw[hw0,hg1];have:=(Bx.new (w.alloc (.cells #[.slice ma mn mk,.slice (some ⟨lb,lo,none⟩) 4 lc,.slice (some ⟨pb,po,none⟩) 3 pc] 27)) #[.slice z0 n0 k0,.slice z1 n1 k1,.slice z2 n2 k2,.slice z3 n3 k3,.slice z4 n4 k4] 39 (by simp)).below ((Below.refl _ _).alloc (Nat.le_refl _) (.cells #[.slice none 0 0,.slice none 0 0,.slice none 0 0,.slice none 0 0,.slice none 0 0] 39)) (by simp);simpa using this)
 have X3 := hid (show Bx w0 g3 [vnil, vnil, vnil, vnil, vnil] by
  rw[hw0,hg3];have:=Bx.new ((w.alloc (.cells #[.slice ma mn mk,.slice (some ⟨lb,lo,none⟩) 4 lc,.slice (some ⟨pb,po,none⟩) 3 pc] 27)).alloc (.cells #[.slice z0 n0 k0,.slice z1 n1 k1,.slice z2 n2 k2,.slice z3 n3 k3,.slice z4 n4 k4] 39)) #[vnil,vnil,vnil,vnil,vnil] 39 (by simp);simpa using this)
 have HB0:=hid hb0;have HSZ:=hid (show w0.heap.size=w.heap.size+3 by rw[hw0];simp);obtain⟨b0,b1,b2⟩:=X0.out.three.1;obtain⟨t0,t1,t2,t3,t4⟩:=X1.out.five.1;clear hc h hi hb0 hcell hil
 go_enter Tryz.func23,Tryz.ntmps23
 go_upto_region 1 with fail
 rw[←hw0,←hg3,←hg1];have HG1:=hid hg1;have HG3:=hid hg3;clear hw0 hg1 hg3
 go_upto_region 3 with(go_at_call 60;go_loud ((with_reducible refine(HRN.out _ HB0.out).mono ?_));rintro e w2 ⟨rfl,hb2⟩;have HQ2:=hid hb2;have HB2:=hid (HB0.out.trans (hb2.mono HB0.out.size));clear hb2 t0 t1 t2 t3 t4 b0 b1 b2)
 obtain⟨t0,t1,t2,t3,t4⟩:=(X1.out.below HQ2.out X1.out.lt).five.1
 go_upto_region 4 with(go_at_call 45;go_loud ((with_reducible refine(HCP.out _ HB2.out).mono ?_));rintro e w3 ⟨V,N,C,D,rfl,hcr,hb3⟩;have HQ3:=hid (HQ2.out.trans (hb3.mono HQ2.out.size));have HB3:=hid (HB2.out.trans (hb3.mono HB2.out.size));have HQ23:=hid hb3;obtain⟨A,m,KK,e0,e1,e2,e3,e4⟩:=hcr.raw.sl;have HE:=hid (show V 0=.slice (A 0) (m 0) (KK 0)∧V 1=.slice (A 1) (m 1) (KK 1)∧V 2=.slice (A 2) (m 2) (KK 2)∧V 3=.slice (A 3) (m 3) (KK 3)∧V 4=.slice (A 4) (m 4) (KK 4) from⟨e0,e1,e2,e3,e4⟩);rw[e0,e1,e2,e3,e4];have HCR:=hid hcr;clear hcr hb3 e0 e1 e2 e3 e4 t0 t1 t2 t3 t4)
 obtain⟨w4,hw4⟩:∃W,W=w3.alloc (.cells #[.slice (A 0) (m 0) (KK 0),.slice (A 1) (m 1) (KK 1),.slice (A 2) (m 2) (KK 2),.slice (A 3) (m 3) (KK 3),.slice (A 4) (m 4) (KK 4)] 39):=⟨_,rfl⟩
 obtain⟨S,hS⟩:∃g,g=w3.heap.size:=⟨_,rfl⟩
 rw[←hw4,←hS];have hb4:Below w3.heap.size w3 w4:=by rw[hw4];exact(Below.refl _ _).alloc (Nat.le_refl _) _
 have HCB:=hid (HCR.out.box (S:=S) hb4 (by omega) (by rw[HE.out.1,HE.out.2.1,HE.out.2.2.1,HE.out.2.2.2.1,HE.out.2.2.2.2,hw4];exact zA8 _ _ hS) HQ23.out.size);have HQ4:=hid (HQ3.out.trans (hb4.mono HQ3.out.size));have HB4:=hid (HB3.out.trans (hb4.mono HB3.out.size));have HX03:=hid (show w0.heap.size≤w2.heap.size from HQ2.out.size);clear hw4 hS hb4
 go_wp2_with fail
 go_loopw [20] (fun i wr=>∃k:Nat,i=.int .i64 k∧k≤il∧(∃V N C D,CyB wr w2.heap.size S (fun b=>w2.heap.size≤b) (runC c (ins.take k) st) V N C D)∧Below w2.heap.size w4 wr) (fun i _=>il - (intOf i).toNat)
 case atStart=>exact⟨0,by go_num,Nat.zero_le _,⟨V,N,C,D,by simpa[runC]using HCB.out⟩,Below.refl _ _⟩
 case round=>
  obtain⟨k,rfl,hk,⟨V1,N1,C1,D1,hcb⟩,hbr⟩:=hrel;have HCBR:=hid hcb;have HBR:=hid hbr;have HBW:=hid (HB4.out.trans (hbr.mono HB2.out.size));have HQR:=hid (HQ4.out.trans (hbr.mono HX03.out));have HGR:=hid (show Good c (runC c (ins.take k) st) from zM8 hbus _ hg);obtain⟨wo,hwo⟩:∃W,W=wr:=⟨_,rfl⟩
  subst hwo;clear hcb hbr;by_cases hlt:k<il
  ·have hki:(k:Int)<(il:Int):=by omega
   obtain⟨b,off,rfl,hbB,hrow⟩:=HCELL.out (by omega);obtain⟨ra,rc,ta,tc,sa,sc,hiv,c0,c1,c2⟩:=hrow k hlt;rw[←HBW.out.cell (p:=⟨b,_,none⟩) (Nat.lt_of_lt_of_le hbB hB)]at c0 c1 c2;have HIV:=hid hiv;have HSN:=hid (runC_snoc c ins k (by rw[←HIL.out];exact hlt) st);clear hrow hiv
   go_upto_region 7 with fail
   clear c0 c1 c2;obtain⟨w5,hw5⟩:∃W,W=wo.alloc (.cells #[.slice ra 3 rc,.slice ta 4 tc,.slice sa 3 sc] 45):=⟨_,rfl⟩
   obtain⟨gi,hgi⟩:∃g,g=wo.heap.size:=⟨_,rfl⟩
   rw[←hw5,←hgi];have hb5:Below wo.heap.size wo w5:=by rw[hw5];exact(Below.refl _ _).alloc (Nat.le_refl _) _
   have X5:=hid (show Bx w5 gi [.slice ra 3 rc,.slice ta 4 tc,.slice sa 3 sc] by rw[hw5,hgi];exact Bx.new wo #[.slice ra 3 rc,.slice ta 4 tc,.slice sa 3 sc] 45 (by simp));have HB5:=hid hb5;have HBW5:=hid (HBW.out.trans (hb5.mono HBW.out.size));obtain⟨b0,b1,b2⟩:=(X0.out.below (HQR.out.trans (hb5.mono HQR.out.size)) X0.out.lt).three.1;obtain⟨i0,i1,i2⟩:=X5.out.three.1;have HST:=hid (step_any hbus (HCBR.out.below hb5) HGR.out (HBV.out.below (HBW5.out.mono hB)) (HIV.out.below (HBW5.out.mono hB)) (Nat.le_trans hB HB2.out.size));clear hw5 hgi hb5
   go_wp2_with (go_at_call 46;go_loud ((with_reducible refine(HST.out).mono ?_));rintro e w6 ⟨V', N', C', D', ve,rfl,hcb,_,hb6,_,_⟩;have HCB6:=hid hcb;have HQ6:=hid hb6;clear hcb hb6 b0 b1 b2 i0 i1 i2)
   go_roundw
   case rel=>exact⟨k+1,by go_num,by omega,⟨V', N', C', D', by rw[HSN.out];exact HCB6.out⟩,(HBR.out.trans (HB5.out.mono (by have:=HBR.out.size;have:=HB4.out.size;have:=HQ23.out.size;have:=HQ4.out.size;have:=HBW.out.size;exact Nat.le_trans (HCBR.out.s0) (Nat.le_of_lt HCBR.out.cells.2.2.2.2.2)))).trans HQ6.out⟩
   case measure=>simp[intOf];omega
  ·obtain rfl:k=il:=by omega
   have hki2:decide ((k:Int)<(k:Int))=false:=by simp
   have hend:ins.take k=ins:=List.take_of_length_le (by rw[HIL.out];exact Nat.le_refl _);rw[hend]at HCBR HGR;obtain⟨A', m', KK', e0,e1,e2,e3,e4⟩:=HCBR.out.raw.sl;obtain⟨c0,c1,c2,c3,c4,_⟩:=HCBR.out.cells;rw[e0]at c0;rw[e1]at c1;rw[e2]at c2;rw[e3]at c3;rw[e4]at c4
   have HCP5 := hid (show Calls Tryz.prog 45 #[.agg #[.slice (A' 0) (m' 0) (KK' 0), .slice (A' 1) (m' 1) (KK' 1), .slice (A' 2) (m' 2) (KK' 2), .slice (A' 3) (m' 3) (KK' 3), .slice (A' 4) (m' 4) (KK' 4)]] wo (CopP (runC c ins st) wo) from by
    obtain⟨P', Q', hv⟩:=HCBR.out.toV hbus HGR.out;rw[e0,e1,e2,e3,e4]at hv;exact cycCopyV_any hv (Nat.le_refl _) (zJ0 hbus HGR.out))
   clear e0 e1 e2 e3 e4 hend;have HX35:=hid (show Bx wo g3 [vnil,vnil,vnil,vnil,vnil] from(X3.out.below HQR.out X3.out.lt))
   go_wp2_with (go_at_call 45;go_loud ((with_reducible refine(HCP5.out).mono ?_));rintro e w6 ⟨V6,N6,C6,D6,rfl,hcr,hb6⟩;obtain⟨A6,m6,K6,e0,e1,e2,e3,e4⟩:=hcr.raw.sl;have HE6:=hid (show V6 0=.slice (A6 0) (m6 0) (K6 0)∧V6 1=.slice (A6 1) (m6 1) (K6 1)∧V6 2=.slice (A6 2) (m6 2) (K6 2)∧V6 3=.slice (A6 3) (m6 3) (K6 3)∧V6 4=.slice (A6 4) (m6 4) (K6 4) from⟨e0,e1,e2,e3,e4⟩);rw[e0,e1,e2,e3,e4];have HCR6:=hid hcr;have HQ6:=hid hb6;have HX6:=hid (HX35.out.below hb6 HX35.out.lt);clear hcr hb6 e0 e1 e2 e3 e4 c0 c1 c2 c3 c4;obtain⟨⟨q0,q1,q2,q3,q4⟩,f0,f1,f2,f3,f4⟩:=HX6.out.five;have hrl:=HX6.out.lt)
   refine bodyPost_ret (zB0 Tryz.results23 _ _ ⟨g3,0,none⟩ (.agg #[.slice (A6 0) (m6 0) (K6 0),.slice (A6 1) (m6 1) (K6 1),.slice (A6 2) (m6 2) (K6 2),.slice (A6 3) (m6 3) (K6 3),.slice (A6 4) (m6 4) (K6 4)]) rfl (zJ2 _ _ _ _ _ _ _ (by simp[go_sem, *]) (by simp[go_sem, *]) (by simp[go_sem, *]) (by simp[go_sem, *]) (by simp[go_sem, *]))) rfl ⟨V6,N6,C6,D6,?_,?_,?_⟩
   ·rw[HE6.out.1,HE6.out.2.1,HE6.out.2.2.1,HE6.out.2.2.2.1,HE6.out.2.2.2.2]
   ·have h35:=HX35.out.lt;exact(HCR6.out.kept (fun b h1 h2=>(touchC g3 _ _ _ _ _ _).block b h2 (by omega)) (touchC g3 _ _ _ _ _ _).size).rebase HBW.out.size
   ·have hg3:=HG3.out;have h5:w.heap.size≤g3:=by omega
    exact((((((HBW.out.trans (HQ6.out.mono HBW.out.size)).setCell (p:=⟨g3,_,none⟩) h5 _).setCell (p:=⟨g3,_,none⟩) h5 _).setCell (p:=⟨g3,_,none⟩) h5 _).setCell (p:=⟨g3,_,none⟩) h5 _).setCell (p:=⟨g3,_,none⟩) h5 _)
end Go.Proofs.YtgkdoehkmbhfiaaGreat
