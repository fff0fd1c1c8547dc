/- What a bus told: of one id, in the order in which it was asked. -/
import Derived.Test.YtghngenglefofaaGreatGYw
import Derived.Test.YtghngenglefofaaGreatGPl1
set_option linter.unusedVariables false
set_option linter.unusedSimpArgs false
namespace Go.Proofs.YtghngenglefofaaGreat
open Go.RowKit
theorem JobsV.cells {w:World} {B:Nat} {v:Value} {js:List TJ} (h:JobsV w B v js) :
  ∃ ao cap,v = .slice ao js.length cap ∧ js.length ≤ cap ∧ cap ≤ 9223372036854775807 ∧ js.length ≤ 140737488351232 ∧
   (js.length ≠ 0 → ∃ b off,ao = some ⟨b,off,none⟩ ∧ b < B ∧ ∀ t,t < js.length → ∃ da dn dc,w.cell? ⟨b,off + t * 5,none⟩ = some (.int .i64 ((js.getD t default).who:Nat)) ∧ w.cell? ⟨b,off + t * 5 + 1,none⟩ = some (.int .i64 ((js.getD t default).n:Nat)) ∧ w.cell? ⟨b,off + t * 5 + 2,none⟩ = some (.int .i64 (js.getD t default).rsp.id) ∧ w.cell? ⟨b,off + t * 5 + 3,none⟩ = some (.int .i64 (js.getD t default).rsp.code) ∧ w.cell? ⟨b,off + t * 5 + 4,none⟩ = some (.slice da dn dc) ∧ Ints w B (.slice da dn dc) (js.getD t default).rsp.data):=by
 obtain ⟨D,⟨ao,cap,hv,h1,h2,h0,h9,h3⟩,rfl,hd⟩:=h
 simp only [List.length_map] at hv h1 h0 h3 ⊢
 refine ⟨ao,cap,hv,h1,h2,h0,fun hn => ?_⟩
 obtain ⟨b,off,ha,hlt,hc⟩:=h3 hn
 refine ⟨b,off,ha,hlt,fun t ht => ?_⟩
 have e:(D.map tjRow).getD t [] = tjRow (D[t]):=by simp [List.getD,ht]
 have e2:(D.map (·.1)).getD t default = (D[t]).1:=by simp [List.getD,ht]
 have c0:=hc t ht 0 (by omega);have c1:=hc t ht 1 (by omega);have c2:=hc t ht 2 (by omega);have c3:=hc t ht 3 (by omega);have c4:=hc t ht 4 (by omega)
 have hi:=hd _ (List.getElem_mem ht)
 obtain ⟨da,dc,he,_⟩:=hi.opened
 rw [e] at c0 c1 c2 c3 c4
 rw [e2]
 rw [he] at hi
 exact ⟨da,_,dc,by simpa [tjRow] using c0,by simpa [tjRow] using c1,by simpa [tjRow] using c2,by simpa [tjRow] using c3,by simpa [tjRow,he] using c4,hi⟩
set_option maxRecDepth 8000 in
set_option maxHeartbeats 16000000 in
theorem crOrder_any {c:Cfg} (hbus:Bus c) {w:World} {B:Nat} {u v:Value} (hc:BusV w B u c) {js:List TJ} (hj:JobsV w B v js) (hB:B ≤ w.heap.size)
  (hj3:∀ t,t < js.length → (js.getD t default).who < 3 ∧ (js.getD t default).n < (c.prog (js.getD t default).who).length)
  (hp:∀ i k,i < k → k < js.length → (decide ((js.getD i default).who = (js.getD k default).who) && decide ((js.getD k default).n ≤ (js.getD i default).n) && decide (c.id (js.getD i default).who (js.getD i default).n = c.id (js.getD k default).who (js.getD k default).n)) = false) :
  Calls Tryz.prog 23 #[u,v] w fun e w' => e = .returned (.bool true) ∧ Below w.heap.size w w':=by
 obtain ⟨mv,lb,lo,lc,pb,po,pc,QQ,K,rfl,⟨ma,mn,mk,rfl⟩,_,_,hpb,_,hpc,hrq⟩:=hc.opened hbus
 obtain ⟨ja,jc,rfl,jc1,jc2,jc3,hcell⟩:=hj.cells
 have HPC:=hid hpc;have HRQ:=hid hrq;have HCELL:=hid hcell;have HJ3:=hid hj3;have HP:=hid hp
 obtain ⟨jl,hjl⟩:∃ x,x = js.length:=⟨_,rfl⟩
 rw [← hjl] at HCELL HJ3 HP jc1 jc3 ⊢
 clear hpc hrq hcell hj3 hp hj hc hjl
 go_enter Tryz.func23,Tryz.ntmps23
 go_upto_region 1 with fail
 obtain ⟨w2,hw2⟩:∃ W,W = w.alloc (.cells #[.slice ma mn mk,.slice (some ⟨lb,lo,none⟩) 4 lc,.slice (some ⟨pb,po,none⟩) 3 pc] 27):=⟨_,rfl⟩
 obtain ⟨gb,hgb⟩:∃ g,g = w.heap.size:=⟨_,rfl⟩
 have X0:=hid (show Bx w2 gb [.slice ma mn mk,.slice (some ⟨lb,lo,none⟩) 4 lc,.slice (some ⟨pb,po,none⟩) 3 pc] by rw [hw2,hgb];exact Bx.new w #[.slice ma mn mk,.slice (some ⟨lb,lo,none⟩) 4 lc,.slice (some ⟨pb,po,none⟩) 3 pc] 27 (by simp))
 have HB2:=hid (show Below w.heap.size w w2 by rw [hw2];exact (Below.refl _ _).alloc (Nat.le_refl _) _)
 rw [← hw2,← hgb]
 have HGB:=hid hgb
 clear hw2 hgb
 go_wp2_with fail
 go_loopw [5] (fun i wr => ∃ k:Nat,i = .int .i64 k ∧ k ≤ jl ∧ Below w2.heap.size w2 wr) (fun i _ => jl - (intOf i).toNat)
 case atStart => exact ⟨0,rfl,Nat.zero_le _,Below.refl _ _⟩
 case round =>
  obtain ⟨k,rfl,hk,hbr⟩:=hrel
  have HBR:=hid hbr
  clear hbr
  by_cases hlt:k < jl
  ·have hki:(k:Int) < (jl:Int):=by omega
   go_wp2_with fail
   go_loopw [6] (fun i wr => ∃ m:Nat,i = .int .i64 m ∧ m ≤ k ∧ Below w2.heap.size w2 wr) (fun i _ => k - (intOf i).toNat)
   case atStart => exact ⟨0,by go_num,Nat.zero_le _,HBR.out⟩
   case round =>
    obtain ⟨m,rfl,hm,hbr⟩:=hrel
    clear HBR
    have HBR:=hid hbr
    clear hbr
    obtain ⟨wo,hwo⟩:∃ W,W = wr:=⟨_,rfl⟩
    subst hwo
    by_cases hlt2:m < k
    ·have hmi:(m:Int) < (k:Int):=by omega
     have hmj:(m:Int) < (jl:Int):=by omega
     have hb0:=HB2.out.trans (HBR.out.mono HB2.out.size)
     have hse:=hb0.size
     obtain ⟨b,off,rfl,hbB,hrow⟩:=HCELL.out (by omega)
     obtain ⟨a,ha⟩:∃ a,a = js.getD m default:=⟨_,rfl⟩
     obtain ⟨d,hd⟩:∃ d,d = js.getD k default:=⟨_,rfl⟩
     obtain ⟨da,dn,dc,a0,a1,a2,a3,a4,_⟩:=hrow m (by omega)
     obtain ⟨ea,en,ec,d0,d1,d2,d3,d4,_⟩:=hrow k hlt
     have hpa:=HJ3.out m (by omega)
     have hpd:=HJ3.out k hlt
     have hpp:=HP.out m k hlt2 hlt
     rw [← ha] at a0 a1 a2 a3 hpa hpp
     rw [← hd] at d0 d1 d2 d3 hpd hpp
     have hbw:b < w.heap.size:=by omega
     have hbo:b < wo.heap.size:=by omega
     rw [← hb0.cell (p:=⟨b,_,none⟩) hbw] at a0 a1 a2 a3 a4 d0 d1 d2 d3 d4
     clear ha hd hrow
     go_upto_region 8 with fail
     obtain ⟨w7,hw7⟩:∃ W,W = wo.alloc (.cells #[.int .i64 a.who,.int .i64 a.n,.int .i64 a.rsp.id,.int .i64 a.rsp.code,.slice da dn dc] 107):=⟨_,rfl⟩
     obtain ⟨gx,hgx⟩:∃ g,g = wo.heap.size:=⟨_,rfl⟩
     have X7:=hid (show Bx w7 gx [.int .i64 a.who,.int .i64 a.n,.int .i64 a.rsp.id,.int .i64 a.rsp.code,.slice da dn dc] by rw [hw7,hgx];exact Bx.new wo #[.int .i64 a.who,.int .i64 a.n,.int .i64 a.rsp.id,.int .i64 a.rsp.code,.slice da dn dc] 107 (by simp))
     have hb7:Below wo.heap.size wo w7:=by rw [hw7];exact (Below.refl _ _).alloc (Nat.le_refl _) _
     rw [← hb7.cell (p:=⟨b,_,none⟩) hbo] at d0 d1 d2 d3 d4
     rw [← hw7,← hgx]
     have hs7:=hb7.size
     have HB7:=hid hb7
     clear hw7 hgx a0 a1 a2 a3 a4 hb7
     go_upto_region 9 with fail
     obtain ⟨w8,hw8⟩:∃ W,W = w7.alloc (.cells #[.int .i64 d.who,.int .i64 d.n,.int .i64 d.rsp.id,.int .i64 d.rsp.code,.slice ea en ec] 107):=⟨_,rfl⟩
     obtain ⟨gy,hgy⟩:∃ g,g = w7.heap.size:=⟨_,rfl⟩
     have X8:=hid (show Bx w8 gy [.int .i64 d.who,.int .i64 d.n,.int .i64 d.rsp.id,.int .i64 d.rsp.code,.slice ea en ec] by rw [hw8,hgy];exact Bx.new w7 #[.int .i64 d.who,.int .i64 d.n,.int .i64 d.rsp.id,.int .i64 d.rsp.code,.slice ea en ec] 107 (by simp))
     have hb8:Below w7.heap.size w7 w8:=by rw [hw8];exact (Below.refl _ _).alloc (Nat.le_refl _) _
     have HB8:=hid (HB7.out.trans (hb8.mono hs7))
     have HX7:=hid (X7.out.below hb8 X7.out.lt)
     have HX0:=hid (X0.out.below (HBR.out.trans (HB8.out.mono HBR.out.size)) X0.out.lt)
     rw [← hw8,← hgy]
     clear hw8 hgy hb8 X7 d0 d1 d2 d3 d4
     have HBW:=hid (HBR.out.trans (HB8.out.mono HBR.out.size))
     have hb9:=hb0.trans (HB8.out.mono hse)
     obtain ⟨x0,x1,_⟩:=HX7.out.five.1
     obtain ⟨y0,y1,_⟩:=X8.out.five.1
     obtain ⟨_,_,b2⟩:=HX0.out.three.1
     obtain ⟨aw,haw⟩:∃ x,x = a.who:=⟨_,rfl⟩
     obtain ⟨an,han⟩:∃ x,x = a.n:=⟨_,rfl⟩
     obtain ⟨dw,hdw⟩:∃ x,x = d.who:=⟨_,rfl⟩
     obtain ⟨dm,hdm⟩:∃ x,x = d.n:=⟨_,rfl⟩
     rw [← haw] at x0 hpa hpp;rw [← han] at x1 hpa hpp;rw [← hdw] at y0 hpd hpp;rw [← hdm] at y1 hpd hpp
     clear haw han hdw hdm hb0
     obtain ⟨hpa1,hpa2⟩:=hpa
     obtain ⟨hpd1,hpd2⟩:=hpd
     by_cases hw:aw = dw
     ·subst hw
      have q1:((aw:Int) == (aw:Int)) = true:=by simp
      by_cases hn:dm ≤ an
      ·have q2:decide ((dm:Int) ≤ (an:Int)) = true:=by simp;omega
       have hid2:¬ c.id aw an = c.id aw dm:=by simpa [hn] using hpp
       have hrq:=HRQ.out aw hpa1
       have hpc:=HPC.out aw hpa1
       obtain ⟨qa,qc,he,_,_,_,_,hq⟩:=hrq.opened
       obtain ⟨qb,qo,rfl,hqB,hqr⟩:=hq (by omega)
       simp only [Value.slice.injEq] at he
       obtain ⟨he1,_,he3⟩:=he
       rw [he1,he3] at hpc
       obtain ⟨_,_,_,_,_,r0,_⟩:=hqr an hpa2
       obtain ⟨_,_,_,_,_,s0,_⟩:=hqr dm hpd2
       have hqw:qb < w.heap.size:=by omega
       have hpw:pb < w.heap.size:=by omega
       rw [← hb9.cell (p:=⟨qb,_,none⟩) hqw] at r0 s0
       rw [← hb9.cell (p:=⟨pb,_,none⟩) hpw] at hpc
       obtain ⟨pl,hpl⟩:∃ x,x = (c.prog aw).length:=⟨_,rfl⟩
       rw [← hpl] at hpc hpa2 hpd2
       have i1:(aw:Int) < 3:=by omega
       have i2:(an:Int) < (pl:Int):=by omega
       have i3:(dm:Int) < (pl:Int):=by omega
       obtain ⟨ia,hia⟩:∃ x,x = ((c.prog aw).getD an default).id:=⟨_,rfl⟩
       obtain ⟨ib,hib⟩:∃ x,x = ((c.prog aw).getD dm default).id:=⟨_,rfl⟩
       have q3:(ia == ib) = false:=by rw [hia,hib];simpa [Cfg.id,Cfg.req] using hid2
       rw [← hia] at r0;rw [← hib] at s0
       clear hia hib hid2 hqr hrq hq hpl hpp
       go_quiet (fail)
       go_wp2_with fail
       go_roundw
       case rel => exact ⟨m + 1,by go_num,by omega,Below.draws HBW.out _⟩
       case measure => simp [intOf];omega
      ·have q2:decide ((dm:Int) ≤ (an:Int)) = false:=by simp;omega
       clear hpp
       go_quiet (fail)
       go_wp2_with fail
       go_roundw
       case rel => exact ⟨m + 1,by go_num,by omega,Below.draws HBW.out _⟩
       case measure => simp [intOf];omega
     ·have q1:((aw:Int) == (dw:Int)) = false:=by simp;omega
      clear hpp
      go_quiet (fail)
      go_wp2_with fail
      go_roundw
      case rel => exact ⟨m + 1,by go_num,by omega,Below.draws HBW.out _⟩
      case measure => simp [intOf];omega
    ·obtain rfl:m = k:=by omega
     have hmm:decide ((m:Int) < (m:Int)) = false:=by simp
     go_wp2_with fail
     go_roundw
     case rel => exact ⟨m + 1,by go_num,by omega,HBR.out⟩
     case measure => simp [intOf];omega
  ·obtain rfl:k = jl:=by omega
   have hkk:decide ((k:Int) < (k:Int)) = false:=by simp
   go_wp2_with fail
   go_ret
   exact ⟨rfl,HB2.out.trans (HBR.out.mono HB2.out.size)⟩
end Go.Proofs.YtghngenglefofaaGreat
namespace Go.Proofs.YtghngenglefofaaGreat
structure OGood (c:Cfg) (st:Cy):Prop where
 tt:st.told.Pairwise (fun a b => a.who = b.who → c.id a.who a.n = c.id b.who b.n → a.n < b.n)
 tq:∀ a ∈ st.told,∀ o ∈ (st.ports a.who).out,c.id a.who a.n = c.id a.who o.n → a.n < o.n
theorem ogood_zero (c:Cfg):OGood c cy0:=⟨by simp [cy0],by simp [cy0]⟩
theorem eraseP_gt {l:List Jb} (h:l.Pairwise (fun a b => a.n < b.n)) {n:Nat}:∀ x ∈ l.eraseP (fun o => o.n == n),x.n ≠ n:=by
 induction l with
 | nil => simp
 | cons a l ih =>
  rw [List.pairwise_cons] at h
  rcases hp:a.n == n with _ | _
  ·rw [List.eraseP_cons_of_neg (by simp [hp])]
   intro x hx
   rcases List.mem_cons.1 hx with rfl | hx
   ·simpa using hp
   ·exact ih h.2 x hx
  ·rw [List.eraseP_cons_of_pos (by simp [hp])]
   intro x hx
   have:=h.1 x hx
   have:a.n = n:=by simpa using hp
   omega
theorem Good.first {c:Cfg} {st:Cy} (h:Good c st) {w s:Nat} {j:TJ} {rest:List TJ} (hw:w < 3) (hs:s < 4) (hd:(st.slaves s).done = j :: rest) (hj:j.who = w) {o:Jb} (ho:o ∈ (st.ports w).out) (hi:c.id w j.n = c.id w o.n):j.n ≤ o.n:=by
 have hpg:=h.p w hw
 have hkeys:keysOf (st.slaves s) = (w,j.n) :: keysOf { st.slaves s with done:=rest }:=by simp [keysOf,hd,hj]
 have hl:=h.link s w hs hw
 rw [hkeys,nsOf_hit] at hl
 obtain ⟨a,ha,han,has⟩:=(h.key hs (by rw [hkeys];simp:(w,j.n) ∈ keysOf (st.slaves s))).2
 have hos:o.left = s:=by rw [← has];exact (hpg.oi a ha o ho (by rw [han];exact hi)).symm
 have hmem:o.n ∈ ((st.ports w).out.filter (fun j => j.left == s)).map (·.n):=List.mem_map.2 ⟨o,List.mem_filter.2 ⟨ho,by simp [hos]⟩,rfl⟩
 have hpw:(((st.ports w).out.filter (fun j => j.left == s)).map (·.n)).Pairwise (· < ·):=List.pairwise_map.2 (hpg.os.sublist List.filter_sublist)
 rw [← hl] at hmem hpw
 rcases List.mem_cons.1 hmem with e | e
 ·omega
 ·exact Nat.le_of_lt ((List.pairwise_cons.1 hpw).1 _ e)
theorem OGood.tell {c:Cfg} {x:Cy × List Ev} (h:Good c x.1) (g:OGood c x.1) {w s:Nat} {j:TJ} {rest:List TJ} (hw:w < 3) (hs:s < 4) (hd:(x.1.slaves s).done = j :: rest) (hj:j.who = w):OGood c (tellDo w s j rest x).1:=by
 have hkeys:keysOf (x.1.slaves s) = (w,j.n) :: keysOf { x.1.slaves s with done:=rest }:=by simp [keysOf,hd,hj]
 obtain ⟨o,ho,hon,_⟩:=(h.key hs (by rw [hkeys];simp:(w,j.n) ∈ keysOf (x.1.slaves s))).2
 have hsub:((x.1.ports w).out.eraseP (fun o => o.n == j.n)).Sublist (x.1.ports w).out:=List.eraseP_sublist
 refine ⟨?_,?_⟩
 ·simp only [tellDo,List.pairwise_append,List.pairwise_cons,List.not_mem_nil,List.mem_singleton]
  refine ⟨g.tt,⟨fun _ h => absurd h (by simp),List.Pairwise.nil⟩,?_⟩
  rintro a ha b rfl e1 e2
  have:=g.tq a ha o (by rw [e1,hj];exact ho) (by rw [hon,e2,e1])
  omega
 ·intro a ha p hp e
  simp only [tellDo,List.mem_append,List.mem_singleton] at ha hp
  by_cases haw:a.who = w
  ·rw [haw] at hp e
   simp only [upd_same] at hp
   rcases ha with ha | rfl
   ·exact g.tq a ha p (by rw [haw];exact hsub.subset hp) (by rw [haw];exact e)
   ·have h1:=h.first hw hs hd hj (hsub.subset hp) e
    have h2:=eraseP_gt (h.p w hw).os p hp
    omega
  ·rw [upd_other _ _ haw] at hp
   rcases ha with ha | rfl
   ·exact g.tq a ha p hp e
   ·exact absurd hj haw
theorem ogood_tell1 {c:Cfg} {inp:Inp} {x:Cy × List Ev} (h:Good c x.1) (g:OGood c x.1) {w:Nat} (hw:w < 3):OGood c (tell1 inp w x).1:=by
 unfold tell1
 split
 ·split
  ·exact g
  ·rename_i k hk
   obtain ⟨_,_,hm⟩:=firstK_some hk
   split
   ·exact g
   ·rename_i j rest hd
    refine g.tell h hw (Nat.mod_lt _ (by omega)) hd ?_
    unfold tellM at hm
    rw [hd] at hm
    simpa using hm
 ·exact g
theorem ogood_work1 {c:Cfg} {inp:Inp} {x:Cy × List Ev} (g:OGood c x.1) {s:Nat}:OGood c (work1 c inp s x).1:=by
 unfold work1
 split
 ·exact g
 ·split
  ·exact g
  ·split
   ·exact ⟨g.tt,g.tq⟩
   ·split
    ·exact ⟨g.tt,g.tq⟩
    ·exact g
theorem ogood_let1 {c:Cfg} {y:Lt} (h:Good c y.st) (g:OGood c y.st) {s:Nat}:OGood c (let1 c s y).st:=by
 unfold let1
 split
 ·split
  ·exact g
  ·rename_i k hk
   split
   ·exact g
   ·rename_i n rest hq
    obtain ⟨w,hw⟩:∃ w,w = ((y.st.slaves s).last + k) % 3:=⟨_,rfl⟩
    rw [← hw] at hq ⊢
    have hw3:w < 3:=by omega
    refine ⟨g.tt,fun a ha o ho e => ?_⟩
    simp only [letDo] at ha ho
    by_cases haw:a.who = w
    ·rw [haw,upd_same] at ho
     simp only [List.mem_append,List.mem_singleton] at ho
     rcases ho with ho | rfl
     ·exact g.tq a ha o (by rw [haw];exact ho) e
     ·have hqq:=(h.p w hw3).q
      rw [hq] at hqq
      obtain ⟨hn,_⟩:=range'_cons hqq
      have hm:a.n ∈ List.range ((y.st.ports w).next - (y.st.ports w).queue.length):=(h.part w hw3).subset (List.mem_append_left _ (List.mem_map.2 ⟨a,List.mem_filter.2 ⟨ha,by simp [haw]⟩,rfl⟩))
      rw [List.mem_range,hq] at hm
      simp only;omega
    ·rw [upd_other _ _ haw] at ho
     exact g.tq a ha o ho e
 ·exact g
theorem ogood_ask1 {c:Cfg} {inp:Inp} {x:Cy × List Ev} (g:OGood c x.1) {w:Nat}:OGood c (ask1 c inp w x).1:=by
 unfold ask1
 split
 ·refine ⟨g.tt,fun a ha o ho e => g.tq a ha o ?_ e⟩
  simp only [askDo] at ho
  by_cases haw:a.who = w
  ·rw [haw,upd_same] at ho;rw [haw];exact ho
  ·rwa [upd_other _ _ haw] at ho
 ·exact g
theorem ogood_askAll {c:Cfg} {inp:Inp} {x:Cy × List Ev} (g:OGood c x.1):OGood c (askAll c inp x).1:=foldN_keep (P:=fun x:Cy × List Ev => OGood c x.1) 3 x g fun _ _ _ hx => ogood_ask1 hx
theorem ogood_step {c:Cfg} (hb:Bus c) {inp:Inp} {st:Cy} (h:Good c st) (g:OGood c st):OGood c (cyc c inp st):=by
 have h1:Good c (tellAll inp (st,[])).1 ∧ OGood c (tellAll inp (st,[])).1:=foldN_keep (P:=fun x:Cy × List Ev => Good c x.1 ∧ OGood c x.1) 3 (st,[]) ⟨h,g⟩ fun _ _ hi hx => ⟨good_tell1 hx.1 hi,ogood_tell1 hx.1 hx.2 hi⟩
 have h2:Good c (workAll c inp (tellAll inp (st,[]))).1 ∧ OGood c (workAll c inp (tellAll inp (st,[]))).1:=foldN_keep (P:=fun x:Cy × List Ev => Good c x.1 ∧ OGood c x.1) 4 _ h1 fun _ _ hi hx => ⟨good_work1 hb hx.1 hi,ogood_work1 hx.2⟩
 have h3:Good c (letAll c (workAll c inp (tellAll inp (st,[]))).1).st ∧ OGood c (letAll c (workAll c inp (tellAll inp (st,[]))).1).st:=foldN_keep (P:=fun y:Lt => Good c y.st ∧ OGood c y.st) 4 ⟨_,fun _ => false,fun _ => 0⟩ h2 fun _ _ hi hx => ⟨good_let1 hx.1 hi,ogood_let1 hx.1 hx.2⟩
 exact ogood_askAll (x:=((letAll c (workAll c inp (tellAll inp (st,[]))).1).st,(workAll c inp (tellAll inp (st,[]))).2)) h3.2
theorem ogood_run {c:Cfg} (hb:Bus c):∀ (ins:List Inp) {st:Cy},Good c st → OGood c st → OGood c (runC c ins st)
 | [],_,_,g => g
 | _ :: rest,_,h,g => ogood_run hb rest (good_step hb h) (ogood_step hb h g)
theorem pw_getD {α:Type} [Inhabited α] {R:α → α → Prop} {l:List α} (h:l.Pairwise R) {i k:Nat} (hi:i < k) (hk:k < l.length):R (l.getD i default) (l.getD k default):=by
 have:=List.pairwise_iff_getElem.1 h i k (by omega) hk hi
 simpa [List.getD,hk,show i < l.length by omega] using this
theorem OGood.at {c:Cfg} {st:Cy} (g:OGood c st) {i k:Nat} (hi:i < k) (hk:k < st.told.length):(decide ((st.told.getD i default).who = (st.told.getD k default).who) && decide ((st.told.getD k default).n ≤ (st.told.getD i default).n) && decide (c.id (st.told.getD i default).who (st.told.getD i default).n = c.id (st.told.getD k default).who (st.told.getD k default).n)) = false:=by
 have h:=pw_getD g.tt hi hk
 obtain ⟨a,ha⟩:∃ a,a = st.told.getD i default:=⟨_,rfl⟩
 obtain ⟨b,hb⟩:∃ b,b = st.told.getD k default:=⟨_,rfl⟩
 rw [← ha,← hb] at h ⊢
 by_cases h1:a.who = b.who
 ·by_cases h2:c.id a.who a.n = c.id b.who b.n
  ·have:=h h1 h2
   simp;omega
  ·simp [h2]
 ·simp [h1]
theorem Good.toldN {c:Cfg} {st:Cy} (h:Good c st) {a:TJ} (ha:a ∈ st.told):a.n < (c.prog a.who).length:=by
 have hw:=(h.t a ha).1
 have hm:a.n ∈ List.range ((st.ports a.who).next - (st.ports a.who).queue.length):=(h.part _ hw).subset (List.mem_append_left _ (List.mem_map.2 ⟨a,List.mem_filter.2 ⟨ha,by simp⟩,rfl⟩))
 rw [List.mem_range] at hm
 have:=(h.p _ hw).nx
 omega
end Go.Proofs.YtghngenglefofaaGreat
