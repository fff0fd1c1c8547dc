/- A cycle's bus put into a new box. -/
import Derived.Test.YtenjbhbcacocjaaGreatGPl1
import Derived.Test.YtenjbhbcacocjaaGreatGKt
import Derived.Test.YtenjbhbcacocjaaGreatGY2
import Derived.Test.YtenjbhbcacocjaaGreatGMs
import Derived.Test.YtenjbhbcacocjaaGreatGDl
import Derived.Test.YtenjbhbcacocjaaGreatGDr3
import Derived.Test.YtenjbhbcacocjaaGreatGFl
import Derived.Deep.RegionWith
import Derived.Deep.Cut
import Derived.Deep.CutRange
set_option linter.unusedVariables false
set_option linter.unusedSimpArgs false
namespace Go.Proofs.YtenjbhbcacocjaaGreat
def cntW (j:Nat) (l:List TJ):Nat:=(l.filter (fun x => x.who == j)).length
structure GrowT (inp:Inp) (st st':Cy) (k:Nat):Prop where
 pre:∃ t,st'.told = st.told ++ t
 cnt:∀ j,cntW j st'.told ≤ cntW j st.told + (if j < k then 1 else 0)
 ge:∀ j,cntW j st.told ≤ cntW j st'.told
 rdy:∀ j,cntW j st.told < cntW j st'.told → inp.ready.getD j false = true
 nx:∀ j,(st'.ports j).next = (st.ports j).next
theorem GrowT.skip {inp:Inp} {st st':Cy} {k:Nat} (h:GrowT inp st st' k):GrowT inp st st' (k + 1) :=
 ⟨h.pre,fun j => by have:=h.cnt j;by_cases h1:j < k <;> by_cases h2:j < k + 1 <;> simp [h1,h2] at this ⊢ <;> omega,h.ge,h.rdy,h.nx⟩
theorem growT_tell1 {inp:Inp} {st:Cy} {x:Cy × List Ev} {k:Nat} (h:GrowT inp st x.1 k):GrowT inp st (tell1 inp k x).1 (k + 1):=by
 unfold tell1
 split
 ·rename_i hr
  split
  ·exact h.skip
  ·rename_i m hm
   obtain ⟨_,_,hmm⟩:=firstK_some hm
   split
   ·exact h.skip
   ·rename_i j rest hd
    have hj:j.who = k:=by
     unfold tellM at hmm
     rw [hd] at hmm
     simpa using hmm
    obtain ⟨t,ht⟩:=h.pre
    have hc:∀ i,cntW i (x.1.told ++ [j]) = cntW i x.1.told + (if i = k then 1 else 0):=fun i => by
     unfold cntW
     rw [List.filter_append,List.length_append]
     by_cases hi:i = k
     ·simp [hi,hj]
     ·rw [if_neg hi,List.filter_cons_of_neg (by simp [hj];omega)];simp
    refine ⟨⟨t ++ [j],by simp [tellDo,ht]⟩,fun i => ?_,fun i => ?_,fun i hi => ?_,fun i => ?_⟩
    ·simp only [tellDo]
     rw [hc i]
     have:=h.cnt i
     by_cases h1:i < k <;> by_cases h2:i = k <;> by_cases h3:i < k + 1 <;> simp [h1,h2,h3] at this ⊢ <;> omega
    ·simp only [tellDo]
     rw [hc i]
     exact Nat.le_trans (h.ge i) (Nat.le_add_right _ _)
    ·simp only [tellDo] at hi
     rw [hc i] at hi
     by_cases hik:i = k
     ·rw [hik];exact hr
     ·rw [if_neg hik] at hi;exact h.rdy i hi
    ·simp only [tellDo]
     by_cases hik:i = k
     ·rw [hik,upd_same];exact h.nx k
     ·rw [upd_other _ _ hik];exact h.nx i
 ·exact h.skip
def SameT (st st':Cy):Prop:=st'.told = st.told ∧ ∀ j,(st'.ports j).next = (st.ports j).next
theorem sameT_work1 {c:Cfg} {inp:Inp} {st:Cy} {x:Cy × List Ev} {s:Nat} (h:SameT st x.1):SameT st (work1 c inp s x).1:=by
 unfold work1
 split
 ·exact h
 ·split
  ·exact h
  ·split
   ·exact h
   ·split
    ·exact h
    ·exact h
theorem sameT_let1 {c:Cfg} {st:Cy} {y:Lt} {s:Nat} (h:SameT st y.st):SameT st (let1 c s y).st:=by
 unfold let1
 split
 ·split
  ·exact h
  ·rename_i k hk
   split
   ·exact h
   ·refine ⟨h.1,fun j => ?_⟩
    simp only [letDo]
    by_cases hj:j = ((y.st.slaves s).last + k) % 3
    ·rw [hj,upd_same];exact h.2 _
    ·rw [upd_other _ _ hj];exact h.2 j
 ·exact h
structure GrowA (inp:Inp) (st st':Cy) (k:Nat):Prop where
 told:st'.told = st.told
 lo:∀ j,(st.ports j).next ≤ (st'.ports j).next
 hi:∀ j,(st'.ports j).next ≤ (st.ports j).next + (if j < k then 1 else 0)
 snd:∀ j,(st.ports j).next < (st'.ports j).next → inp.send.getD j false = true
theorem GrowA.skip {inp:Inp} {st st':Cy} {k:Nat} (h:GrowA inp st st' k):GrowA inp st st' (k + 1) :=
 ⟨h.told,h.lo,fun j => by have:=h.hi j;by_cases h1:j < k <;> by_cases h2:j < k + 1 <;> simp [h1,h2] at this ⊢ <;> omega,h.snd⟩
theorem growA_ask1 {c:Cfg} {inp:Inp} {st:Cy} {x:Cy × List Ev} {k:Nat} (h:GrowA inp st x.1 k):GrowA inp st (ask1 c inp k x).1 (k + 1):=by
 unfold ask1
 split
 ·rename_i hc
  have e:∀ i,((askDo k x).1.ports i).next = (x.1.ports i).next + (if i = k then 1 else 0):=fun i => by
   simp only [askDo]
   by_cases hik:i = k
   ·rw [hik,upd_same];simp
   ·rw [upd_other _ _ hik];simp [hik]
  refine ⟨h.told,fun i => ?_,fun i => ?_,fun i hi => ?_⟩
  ·rw [e i];exact Nat.le_trans (h.lo i) (Nat.le_add_right _ _)
  ·rw [e i]
   have:=h.hi i
   by_cases h1:i < k <;> by_cases h2:i = k <;> by_cases h3:i < k + 1 <;> simp [h1,h2,h3] at this ⊢ <;> omega
  ·rw [e i] at hi
   by_cases hik:i = k
   ·rw [hik];exact hc.1
   ·rw [if_neg hik] at hi;exact h.snd i hi
 ·exact h.skip
structure Grow (inp:Inp) (st st':Cy):Prop where
 pre:∃ t,st'.told = st.told ++ t
 cnt:∀ j,cntW j st'.told ≤ cntW j st.told + 1
 rdy:∀ j,cntW j st.told < cntW j st'.told → inp.ready.getD j false = true
 lo:∀ j,(st.ports j).next ≤ (st'.ports j).next
 hi:∀ j,(st'.ports j).next ≤ (st.ports j).next + 1
 snd:∀ j,(st.ports j).next < (st'.ports j).next → inp.send.getD j false = true
theorem grow_tell {inp:Inp} {st:Cy}:GrowT inp st (tellAll inp (st,[])).1 3 :=
 growT_tell1 (growT_tell1 (growT_tell1 (x:=(st,[])) (k:=0) ⟨⟨[],by simp⟩,fun j => by simp,fun j => Nat.le_refl _,fun j h => absurd h (Nat.lt_irrefl _),fun j => rfl⟩))
theorem grow_work {c:Cfg} {inp:Inp} {x:Cy × List Ev}:SameT x.1 (workAll c inp x).1:=foldN_keep (P:=fun y:Cy × List Ev => SameT x.1 y.1) 4 x ⟨rfl,fun _ => rfl⟩ fun _ _ _ hx => sameT_work1 hx
theorem grow_let {c:Cfg} {st:Cy}:SameT st (letAll c st).st:=foldN_keep (P:=fun y:Lt => SameT st y.st) 4 ⟨st,fun _ => false,fun _ => 0⟩ ⟨rfl,fun _ => rfl⟩ fun _ _ _ hx => sameT_let1 hx
theorem grow_ask {c:Cfg} {inp:Inp} {x:Cy × List Ev}:GrowA inp x.1 (askAll c inp x).1 3 :=
 growA_ask1 (growA_ask1 (growA_ask1 (x:=x) (k:=0) ⟨rfl,fun j => Nat.le_refl _,fun j => by simp,fun j h => absurd h (Nat.lt_irrefl _)⟩))
theorem grow_step {c:Cfg} {inp:Inp} {st:Cy}:Grow inp st (cyc c inp st):=by
 have h1:=grow_tell (inp:=inp) (st:=st)
 have h2:=grow_work (c:=c) (inp:=inp) (x:=tellAll inp (st,[]))
 have h3:=grow_let (c:=c) (st:=(workAll c inp (tellAll inp (st,[]))).1)
 have h4:=grow_ask (c:=c) (inp:=inp) (x:=((letAll c (workAll c inp (tellAll inp (st,[]))).1).st,(workAll c inp (tellAll inp (st,[]))).2))
 change Grow inp st (askAll c inp ((letAll c (workAll c inp (tellAll inp (st,[]))).1).st,(workAll c inp (tellAll inp (st,[]))).2)).1
 generalize (askAll c inp ((letAll c (workAll c inp (tellAll inp (st,[]))).1).st,(workAll c inp (tellAll inp (st,[]))).2)).1 = s4 at h4 ⊢
 simp only at h4
 generalize (letAll c (workAll c inp (tellAll inp (st,[]))).1).st = s3 at h3 h4
 generalize (workAll c inp (tellAll inp (st,[]))).1 = s2 at h2 h3
 generalize (tellAll inp (st,[])).1 = s1 at h1 h2
 have et:s4.told = s1.told:=by rw [h4.told,h3.1,h2.1]
 have en:∀ j,(s3.ports j).next = (st.ports j).next:=fun j => by rw [h3.2,h2.2,h1.nx]
 refine ⟨by rw [et];exact h1.pre,fun j => ?_,fun j hj => ?_,fun j => ?_,fun j => ?_,fun j hj => ?_⟩
 ·rw [et];have:=h1.cnt j;split at this <;> omega
 ·rw [et] at hj;exact h1.rdy j hj
 ·rw [← en j];exact h4.lo j
 ·rw [← en j];have:=h4.hi j;split at this <;> omega
 ·rw [← en j] at hj;exact h4.snd j hj
end Go.Proofs.YtenjbhbcacocjaaGreat
namespace Go.Proofs.YtenjbhbcacocjaaGreat
open Go.RowKit
theorem JobsV.cells {w:World} {B:Nat} {v:Value} {js:List TJ} (h:JobsV w B v js) :
  ∃ ao cap,v = .slice ao js.length cap ∧ js.length ≤ cap ∧ cap ≤ 9223372036854775807 ∧ js.length ≤ 140737488351232 ∧
   (js.length ≠ 0 → ∃ b off,ao = some ⟨b,off,none⟩ ∧ b < B ∧ ∀ t,t < js.length → ∃ da dn dc,w.cell? ⟨b,off + t * 5,none⟩ = some (.int .i64 ((js.getD t default).who:Nat)) ∧ w.cell? ⟨b,off + t * 5 + 1,none⟩ = some (.int .i64 ((js.getD t default).n:Nat)) ∧ w.cell? ⟨b,off + t * 5 + 2,none⟩ = some (.int .i64 (js.getD t default).rsp.id) ∧ w.cell? ⟨b,off + t * 5 + 3,none⟩ = some (.int .i64 (js.getD t default).rsp.code) ∧ w.cell? ⟨b,off + t * 5 + 4,none⟩ = some (.slice da dn dc) ∧ Ints w B (.slice da dn dc) (js.getD t default).rsp.data):=by
 obtain ⟨D,⟨ao,cap,hv,h1,h2,h0,h9,h3⟩,rfl,hd⟩:=h
 simp only [List.length_map] at hv h1 h0 h3 ⊢
 refine ⟨ao,cap,hv,h1,h2,h0,fun hn => ?_⟩
 obtain ⟨b,off,ha,hlt,hc⟩:=h3 hn
 refine ⟨b,off,ha,hlt,fun t ht => ?_⟩
 have e:(D.map tjRow).getD t [] = tjRow (D[t]):=by simp [List.getD,ht]
 have e2:(D.map (·.1)).getD t default = (D[t]).1:=by simp [List.getD,ht]
 have c0:=hc t ht 0 (by omega);have c1:=hc t ht 1 (by omega);have c2:=hc t ht 2 (by omega);have c3:=hc t ht 3 (by omega);have c4:=hc t ht 4 (by omega)
 have hi:=hd _ (List.getElem_mem ht)
 obtain ⟨da,dc,he,_⟩:=hi.opened
 rw [e] at c0 c1 c2 c3 c4
 rw [e2]
 rw [he] at hi
 exact ⟨da,_,dc,by simpa [tjRow] using c0,by simpa [tjRow] using c1,by simpa [tjRow] using c2,by simpa [tjRow] using c3,by simpa [tjRow,he] using c4,hi⟩
theorem take_filter {α:Type} [Inhabited α] (p:α → Bool) (l:List α) {m:Nat} (h:m < l.length):(l.take (m + 1)).filter p = (l.take m).filter p ++ (if p (l.getD m default) then [l.getD m default] else []):=by
 rw [List.take_add_one,List.filter_append]
 have:l[m]?.toList = [l.getD m default]:=by simp [List.getD,h]
 rw [this]
 by_cases hp:p (l.getD m default) = true
 ·rw [if_pos hp,List.filter_cons_of_pos hp,List.filter_nil]
 ·rw [if_neg hp,List.filter_cons_of_neg hp,List.filter_nil]
set_option maxRecDepth 8000 in
set_option maxHeartbeats 16000000 in
theorem toldOf_any {w:World} {B:Nat} {v:Value} {js:List TJ} {k:Nat} (hj:JobsV w B v js) (hB:B ≤ w.heap.size) (hl:js.length ≤ 1000) (hdl:∀ j ∈ js,j.rsp.data.length ≤ 1000) :
  Calls Tryz.prog 19 #[v,.int .i64 k] w fun e w' => ∃ a cap,e = .returned (.slice a (js.filter (fun j => j.who == k)).length cap) ∧ Below w.heap.size w w':=by
 obtain ⟨D,hA,rfl,hD⟩:=hj
 obtain ⟨ao,cap,hv,h1,h2,h0,h9,h3⟩:=hA
 simp only [List.length_map] at hv h1 h0 h3 hl
 subst hv
 have H3:=hid h3;have HD:=hid hD;have HDL:=hid hdl
 obtain ⟨dl,hdn⟩:∃ x,x = D.length:=⟨_,rfl⟩
 rw [← hdn] at h1 h0 hl H3 ⊢
 have HDN:=hid hdn
 clear h3 hD hdl hdn
 go_enter Tryz.func19,Tryz.ntmps19
 go_wp2_with fail
 go_loopw [5,10] (fun s i wr => ∃ m:Nat,i = .int .i64 m ∧ m ≤ dl ∧ Owns wr w.heap.size 88 5 tjRow s ((D.take m).filter (fun x => x.1.who == k)) ∧ Below w.heap.size w wr) (fun _ i _ => dl - (intOf i).toNat)
 case atStart => exact ⟨0,rfl,Nat.zero_le _,by simpa using Owns.zero,Below.refl _ _⟩
 case round =>
  obtain ⟨m,rfl,hm,ho,hbr⟩:=hrel
  have HO:=hid ho;have HBR:=hid hbr
  obtain ⟨sa,sc,rfl,_⟩:=ho.shape
  obtain ⟨ys,hys⟩:∃ l,l = (D.take m).filter (fun x => x.1.who == k):=⟨_,rfl⟩
  have hyl:ys.length ≤ 1000:=by
   have e1:ys.length ≤ (D.take m).length:=by rw [hys];exact List.length_filter_le _ _
   rw [List.length_take] at e1;omega
  have HYS:=hid hys
  rw [← hys] at HO
  rw [← hys]
  clear ho hbr hys
  by_cases hlt:m < dl
  ·have hmi:(m:Int) < (dl:Int):=by omega
   obtain ⟨b,off,rfl,hbB,hc⟩:=H3.out (by omega)
   have hln:m < D.length:=by rw [← HDN.out];exact hlt
   have e:(D.map tjRow).getD m [] = tjRow (D.getD m default):=by simp [List.getD,hln]
   have c0:=hc m hlt 0 (by omega);have c1:=hc m hlt 1 (by omega);have c2:=hc m hlt 2 (by omega);have c3:=hc m hlt 3 (by omega);have c4:=hc m hlt 4 (by omega)
   rw [e] at c0 c1 c2 c3 c4
   have HTF:=hid (take_filter (fun x:TJV => x.1.who == k) D hln)
   have hxd:=HD.out (D.getD m default) (getD_mem hln)
   obtain ⟨x,hx⟩:∃ x,x = D.getD m default:=⟨_,rfl⟩
   rw [← hx] at c0 c1 c2 c3 c4 HTF hxd
   obtain ⟨⟨wh,nn,ri,rc,rd⟩,xv⟩:=x
   simp only at hxd
   obtain ⟨da,dc,rfl,_⟩:=hxd.opened
   simp only [tjRow,List.getElem?_cons_zero,List.getElem?_cons_succ,Nat.add_zero] at c0 c1 c2 c3 c4
   have hbw:b < w.heap.size:=Nat.lt_of_lt_of_le hbB hB
   rw [← HBR.out.cell (p:=⟨b,_,none⟩) hbw] at c0 c1 c2 c3 c4
   have HXD:=hid hxd
   rw [← HYS.out] at HTF
   clear hc e hln hx hxd
   go_upto_region 5 with fail
   obtain ⟨w3,hw3⟩:∃ W,W = wr.alloc (.cells #[.int .i64 wh,.int .i64 nn,.int .i64 ri,.int .i64 rc,.slice da rd.length dc] 88):=⟨_,rfl⟩
   obtain ⟨gx,hgx⟩:∃ g,g = wr.heap.size:=⟨_,rfl⟩
   have X:=hid (show Bx w3 gx [.int .i64 wh,.int .i64 nn,.int .i64 ri,.int .i64 rc,.slice da rd.length dc] by rw [hw3,hgx];exact Bx.new wr #[.int .i64 wh,.int .i64 nn,.int .i64 ri,.int .i64 rc,.slice da rd.length dc] 88 (by simp))
   have hb3:Below wr.heap.size wr w3:=by rw [hw3];exact (Below.refl _ _).alloc (Nat.le_refl _) _
   have HO3:=hid (HO.out.below hb3)
   have HB3:=hid (HBR.out.trans (hb3.mono HBR.out.size))
   rw [← hw3,← hgx]
   clear hw3 hgx c0 c1 c2 c3 c4 hb3
   have hsz:=HB3.out.size
   obtain ⟨x0,x1,x2,x3,x4⟩:=X.out.five.1
   by_cases hq:wh = k
   ·have q1:((wh:Int) == (k:Int)) = true:=by simp [hq]
    have HTG:=hid (show (D.take (m + 1)).filter (fun x => x.1.who == k) = ys ++ [((⟨wh,nn,ri,rc,rd⟩,.slice da rd.length dc):TJV)] by rw [HTF.out];simp [hq])
    clear HTF hq
    go_wp2_with (at_builtin;go_must (refine wpList_push2 elem_tj tjRow (fun _ => rfl) ((⟨wh,nn,ri,rc,rd⟩,.slice da rd.length dc):TJV) (tjRow_one _ ⟨_,_,_,rfl⟩) w3 rfl _ _ rfl w.heap.size _ ys (by rfl) HO3.out _ (by rfl) (by rfl) (by omega) (by omega) hsz ?_);intro v' w4 ho4 hz4 hk4 hv4 hb4;have HO4:=hid ho4;have HB4:=hid (HB3.out.trans hb4);clear ho4 hz4 hk4 hv4 hb4 x0 x1 x2 x3 x4)
    go_roundw
    case rel => exact ⟨m + 1,by go_num,by omega,by rw [HTG.out];exact HO4.out,HB4.out⟩
    case measure => simp [intOf];omega
   ·have q1:((wh:Int) == (k:Int)) = false:=by simp;omega
    have HTG:=hid (show (D.take (m + 1)).filter (fun x => x.1.who == k) = ys by rw [HTF.out];simp [hq])
    clear HTF hq
    go_wp2_with fail
    go_roundw
    case rel => exact ⟨m + 1,by go_num,by omega,by rw [HTG.out];exact HO3.out,HB3.out⟩
    case measure => simp [intOf];omega
  ·obtain rfl:m = dl:=by omega
   have hmm:decide ((m:Int) < (m:Int)) = false:=by simp
   have hA:=HO.out.arr (fun _ => rfl) (by omega)
   have hsub:∀ x ∈ ys,x ∈ D:=fun x hx => by rw [HYS.out] at hx;exact List.mem_of_mem_take (List.mem_filter.1 hx).1
   have HCJ:=hid (copyJobs_any ys _ wr.heap.size wr hA (fun x hx => ((HD.out x (hsub x hx)).below (HBR.out.mono hB)).mono (Nat.le_trans hB HBR.out.size)) (Nat.le_refl _) hyl (fun x hx => HDL.out _ (List.mem_map.2 ⟨x,hsub x hx,rfl⟩)))
   have HLN:=hid (show ys.length = ((D.map (·.1)).filter (fun j => j.who == k)).length by rw [HYS.out,HDN.out,List.take_length,List.filter_map,List.length_map];rfl)
   clear hA hsub
   go_wp2_with (go_at_call 49;go_loud ((with_reducible refine HCJ.out.mono ?_));rintro e w5 ⟨u,D', rfl,ho5,hmp,_,hb5⟩;have HMP:=hid (congrArg List.length hmp);have HO5:=hid ho5;have HB5:=hid hb5;clear ho5 hmp hb5)
   go_ret
   obtain ⟨a5,c5,rfl,_⟩:=HO5.out.shape
   have:=HMP.out
   simp only [List.length_map] at this
   rw [← HLN.out,← this]
   exact ⟨_,_,rfl,HBR.out.trans (HB5.out.mono HBR.out.size)⟩
theorem slice_len {w:World} {B:Nat} {a:Option Addr} {n k:Nat} {xs:List Int} (h:Ints w B (.slice a n k) xs):n = xs.length:=by
 obtain ⟨_,_,e,_⟩:=h.opened
 simp only [Value.slice.injEq] at e
 exact e.2.1
theorem le_drewQ {B:Nat} {w:World} (h:B ≤ w.heap.size):B ≤ w.drew.heap.size:=h
theorem five_kept {w w':World} {b b2 o o2:Nat} {v0 v1 v2 v3 v4 u0 u1 u2 u3 u4:Option Value} (h:Below w.heap.size w.drew w') (hb:b < w.heap.size) (hb2:b2 < w.heap.size) (c0:w.cell? ⟨b,o,none⟩ = v0) (c1:w.cell? ⟨b,o + 1,none⟩ = v1) (c2:w.cell? ⟨b,o + 2,none⟩ = v2) (c3:w.cell? ⟨b,o + 3,none⟩ = v3) (c4:w.cell? ⟨b,o + 4,none⟩ = v4) (e0:w.cell? ⟨b2,o2,none⟩ = u0) (e1:w.cell? ⟨b2,o2 + 1,none⟩ = u1) (e2:w.cell? ⟨b2,o2 + 2,none⟩ = u2) (e3:w.cell? ⟨b2,o2 + 3,none⟩ = u3) (e4:w.cell? ⟨b2,o2 + 4,none⟩ = u4) :
  w'.cell? ⟨b,o,none⟩ = v0 ∧ w'.cell? ⟨b,o + 1,none⟩ = v1 ∧ w'.cell? ⟨b,o + 2,none⟩ = v2 ∧ w'.cell? ⟨b,o + 3,none⟩ = v3 ∧ w'.cell? ⟨b,o + 4,none⟩ = v4 ∧ w'.cell? ⟨b2,o2,none⟩ = u0 ∧ w'.cell? ⟨b2,o2 + 1,none⟩ = u1 ∧ w'.cell? ⟨b2,o2 + 2,none⟩ = u2 ∧ w'.cell? ⟨b2,o2 + 3,none⟩ = u3 ∧ w'.cell? ⟨b2,o2 + 4,none⟩ = u4 :=
 ⟨(h.cell (p:=⟨b,_,none⟩) hb).trans c0,(h.cell (p:=⟨b,_,none⟩) hb).trans c1,(h.cell (p:=⟨b,_,none⟩) hb).trans c2,(h.cell (p:=⟨b,_,none⟩) hb).trans c3,(h.cell (p:=⟨b,_,none⟩) hb).trans c4,(h.cell (p:=⟨b2,_,none⟩) hb2).trans e0,(h.cell (p:=⟨b2,_,none⟩) hb2).trans e1,(h.cell (p:=⟨b2,_,none⟩) hb2).trans e2,(h.cell (p:=⟨b2,_,none⟩) hb2).trans e3,(h.cell (p:=⟨b2,_,none⟩) hb2).trans e4⟩
set_option maxRecDepth 4000 in
set_option maxHeartbeats 4000000 in
theorem crJobs_same (xs:List TJ) (v u:Value) (B:Nat) (w:World) (hv:JobsV w B v xs) (hu:JobsV w B u xs) (hB:B ≤ w.heap.size) :
  Calls Tryz.prog 18 #[v,u] w fun e w' => e = .returned (.bool true) ∧ Below w.heap.size w w':=by
 obtain ⟨ao,cap,rfl,hlc,hcap,hln,hr⟩:=hv.cells
 obtain ⟨bo,cbp,rfl,hlc2,hcap2,hln2,hr2⟩:=hu.cells
 clear hv hu
 go_enter Tryz.func18,Tryz.ntmps18
 go_wp2_with fail
 go_loopw [5] (fun i wr => ∃ k:Nat,k ≤ xs.length ∧ i = .int .i64 k ∧ Below w.heap.size w wr) (fun i _ => xs.length - (intOf i).toNat)
 case atStart => exact ⟨0,Nat.zero_le _,rfl,by first | exact Below.refl _ _ | exact (Below.refl _ _).drew⟩
 case round =>
  obtain ⟨k,hk,rfl,hbl⟩:=hrel
  have hsz:=hbl.size
  by_cases hlt:k < xs.length
  ·obtain ⟨b,off,rfl,hb,hc⟩:=hr (by omega)
   obtain ⟨b2,off2,rfl,hb2,hc2⟩:=hr2 (by omega)
   obtain ⟨da,dn,dc,c0,c1,c2,c3,c4,hd⟩:=hc k hlt
   obtain ⟨ea,en,ec,e0,e1,e2,e3,e4,he⟩:=hc2 k hlt
   obtain ⟨x,hx⟩:∃ x,x = xs.getD k default:=⟨_,rfl⟩
   rw [← hx] at c0 c1 c2 c3 e0 e1 e2 e3 hd he
   obtain rfl:=slice_len hd
   obtain rfl:=slice_len he
   rw [← hbl.cell (p:=⟨b,_,none⟩) (Nat.lt_of_lt_of_le hb hB)] at c0 c1 c2 c3 c4
   rw [← hbl.cell (p:=⟨b2,_,none⟩) (Nat.lt_of_lt_of_le hb2 hB)] at e0 e1 e2 e3 e4
   have HD:=hid (hd.below (hbl.mono hB));have HE:=hid (he.below (hbl.mono hB))
   have HBL:=hid hbl.drew
   obtain ⟨wh,hwh⟩:∃ n,n = x.who:=⟨_,rfl⟩
   obtain ⟨nn,hnn⟩:∃ n,n = x.n:=⟨_,rfl⟩
   obtain ⟨rs,hrs⟩:∃ n,n = x.rsp:=⟨_,rfl⟩
   rw [← hwh] at c0 e0;rw [← hnn] at c1 e1;rw [← hrs] at c2 c3 c4 e2 e3 e4 HD HE
   have q1:((wh:Int) != (wh:Int)) = false:=by simp
   have q2:((nn:Int) != (nn:Int)) = false:=by simp
   clear hc hr hc2 hr2 hx hd he hbl hwh hnn hrs
   go_wp2_with fail
   go_region_held3 (fun w' => w'.cell? ⟨b,off + k * 5,none⟩ = some (.int .i64 wh) ∧ w'.cell? ⟨b,off + k * 5 + 1,none⟩ = some (.int .i64 nn) ∧ w'.cell? ⟨b,off + k * 5 + 2,none⟩ = some (.int .i64 rs.id) ∧ w'.cell? ⟨b,off + k * 5 + 3,none⟩ = some (.int .i64 rs.code) ∧ w'.cell? ⟨b,off + k * 5 + 4,none⟩ = some (.slice da rs.data.length dc) ∧ w'.cell? ⟨b2,off2 + k * 5,none⟩ = some (.int .i64 wh) ∧ w'.cell? ⟨b2,off2 + k * 5 + 1,none⟩ = some (.int .i64 nn) ∧ w'.cell? ⟨b2,off2 + k * 5 + 2,none⟩ = some (.int .i64 rs.id) ∧ w'.cell? ⟨b2,off2 + k * 5 + 3,none⟩ = some (.int .i64 rs.code) ∧ w'.cell? ⟨b2,off2 + k * 5 + 4,none⟩ = some (.slice ea rs.data.length ec))
    (first | exact s6 | go_keep)
    (first
     | (go_at_call 41;(with_reducible refine (crRsp_same rs _ _ _ _ B _ (HD.out.below (Below.refl _ _).drew) (HE.out.below (Below.refl _ _).drew) (le_drewQ (Nat.le_trans hB hsz))).mono ?_);rintro e w2 ⟨rfl,hb3⟩;have s6:=five_kept hb3 (Nat.lt_of_lt_of_le hb (Nat.le_trans hB hsz)) (Nat.lt_of_lt_of_le hb2 (Nat.le_trans hB hsz)) c0 c1 c2 c3 c4 e0 e1 e2 e3 e4))
   go_wp2_with fail
   go_roundw
   case rel => exact ⟨k + 1,by omega,by go_num,HBL.out.trans (hb3.mono (by simpa using hsz))⟩
   case measure => simp [intOf];omega
  ·go_wp2_with fail
   go_ret
   exact ⟨rfl,hbl⟩
theorem Nats.ints {w:World} {B:Nat} {v:Value} {xs:List Nat} (h:Nats w B v xs) (hx:∀ x ∈ xs,x < 1000):Ints w B v (xs.map fun (x:Nat) => (x:Int)) :=
 ⟨by rw [List.map_map];exact h,fun x hx2 => by obtain ⟨y,hy,rfl⟩:=List.mem_map.1 hx2;have:=hx y hy;unfold I64;omega⟩
theorem CyV.rows {w:World} {B:Nat} {a0 a1 a2 a3 a4:Value} {st:Cy} {P:List PS} {Q:List SS} (hv:CyV w B a0 a1 a2 a3 a4 st P Q):∃ (d0 d1 d4:Option Addr) (c0 c1 c4 pg po pc tg tp tc:Nat),a0 = .slice d0 st.ws.length c0 ∧ a1 = .slice d1 st.hs.length c1 ∧ a2 = .slice (some ⟨pg,po,none⟩) 3 pc ∧ a3 = .slice (some ⟨tg,tp,none⟩) 4 tc ∧ a4 = .slice d4 st.told.length c4 ∧ pg < B ∧ tg < B ∧
  (∀ k,k < 3 → ∃ qa qc oa oc,w.cell? ⟨pg,po + k * 4,none⟩ = some (.int .i64 ((st.ports k).next:Nat)) ∧ w.cell? ⟨pg,po + k * 4 + 1,none⟩ = some (.slice qa (st.ports k).queue.length qc) ∧ w.cell? ⟨pg,po + k * 4 + 2,none⟩ = some (.slice oa (st.ports k).out.length oc) ∧ w.cell? ⟨pg,po + k * 4 + 3,none⟩ = some (.int .i64 ((st.ports k).last:Nat)) ∧ Nats w B (.slice qa (st.ports k).queue.length qc) (st.ports k).queue ∧ Jbs w B (.slice oa (st.ports k).out.length oc) (st.ports k).out) ∧
  (∀ k,k < 4 → ∃ qa qc oa oc,w.cell? ⟨tg,tp + k * 3,none⟩ = some (.slice qa (st.slaves k).pipe.length qc) ∧ w.cell? ⟨tg,tp + k * 3 + 1,none⟩ = some (.slice oa (st.slaves k).done.length oc) ∧ w.cell? ⟨tg,tp + k * 3 + 2,none⟩ = some (.int .i64 ((st.slaves k).last:Nat)) ∧ Jbs w B (.slice qa (st.slaves k).pipe.length qc) (st.slaves k).pipe ∧ JobsV w B (.slice oa (st.slaves k).done.length oc) (st.slaves k).done):=by
 obtain ⟨d0,c0,e0,_⟩:=hv.ws.opened
 obtain ⟨d1,c1,e1,_⟩:=hv.hs.opened
 obtain ⟨pg,po,pc,e2,_,_,hpg,hpc⟩:=hv.ps.at (by rw [hv.lp];omega)
 obtain ⟨tg,tp,tc,e3,_,_,htg,htc⟩:=hv.ss.at (by rw [hv.lq];omega)
 obtain ⟨d4,c4,e4,_⟩:=hv.told.cells
 rw [hv.lp] at e2 hpc
 rw [hv.lq] at e3 htc
 refine ⟨d0,d1,d4,c0,c1,c4,pg,po,pc,tg,tp,tc,e0,e1,e2,e3,e4,hpg,htg,fun k hk => ?_,fun k hk => ?_⟩
 ·have h1:=hv.pn k hk
  have h2:=hv.q k hk
  have h3:=hv.o k hk
  have h4:=hpc k default hk
  obtain ⟨x,hx⟩:∃ x,x = P.getD k default:=⟨_,rfl⟩
  rw [← hx] at h1 h2 h3 h4
  obtain ⟨nx,⟨qa,qn,qc⟩,⟨oa,on,oc⟩,la⟩:=x
  simp only [sl] at h1 h2 h3
  obtain rfl:=h2.len;obtain rfl:=h3.len
  have g0:=h4 0 (by omega);have g1:=h4 1 (by omega);have g2:=h4 2 (by omega);have g3:=h4 3 (by omega)
  rw [← h1.1,← h1.2]
  exact ⟨qa,qc,oa,oc,by simp only [rowPS,List.getElem?_cons_zero,List.getElem?_cons_succ] at g0;exact g0,by simp only [rowPS,List.getElem?_cons_zero,List.getElem?_cons_succ] at g1;exact g1,by simp only [rowPS,List.getElem?_cons_zero,List.getElem?_cons_succ] at g2;exact g2,by simp only [rowPS,List.getElem?_cons_zero,List.getElem?_cons_succ] at g3;exact g3,h2,h3⟩
 ·have h1:=hv.sn k hk
  have h2:=hv.p k hk
  have h3:=hv.d k hk
  have h4:=htc k default hk
  obtain ⟨x,hx⟩:∃ x,x = Q.getD k default:=⟨_,rfl⟩
  rw [← hx] at h1 h2 h3 h4
  obtain ⟨⟨qa,qn,qc⟩,⟨oa,on,oc⟩,la⟩:=x
  simp only [sl] at h1 h2 h3
  obtain rfl:=h2.len;obtain rfl:=h3.len
  have g0:=h4 0 (by omega);have g1:=h4 1 (by omega);have g2:=h4 2 (by omega)
  rw [← h1]
  exact ⟨qa,qc,oa,oc,by simp only [rowSS,List.getElem?_cons_zero,List.getElem?_cons_succ] at g0;exact g0,by simp only [rowSS,List.getElem?_cons_zero,List.getElem?_cons_succ] at g1;exact g1,by simp only [rowSS,List.getElem?_cons_zero,List.getElem?_cons_succ] at g2;exact g2,h2,h3⟩
theorem JobsV.take {w:World} {B:Nat} {a:Option Addr} {n k m:Nat} {js:List TJ} (h:JobsV w B (.slice a n k) js) (hm:m ≤ n):JobsV w B (.slice a m k) (js.take m):=by
 obtain ⟨D,⟨ao,cap,hv,h1,h2,h0,h9,h3⟩,rfl,hd⟩:=h
 simp only [List.length_map,Value.slice.injEq] at hv h1 h0 h3
 obtain ⟨rfl,rfl,rfl⟩:=hv
 have hl:(D.take m).length = m:=by rw [List.length_take];omega
 refine ⟨D.take m,⟨a,k,by rw [List.length_map,hl],by rw [List.length_map,hl];omega,h2,by rw [List.length_map,hl];omega,h9,fun hn => ?_⟩,by rw [List.map_take],fun x hx => hd x (List.mem_of_mem_take hx)⟩
 rw [List.length_map,hl] at hn
 obtain ⟨b,off,ha,hlt,hc⟩:=h3 (by omega)
 refine ⟨b,off,ha,hlt,fun t ht j hj => ?_⟩
 rw [List.length_map,hl] at ht
 rw [hc t (by omega) j hj]
 simp [List.getD,List.getElem?_take,ht]
theorem InV.bits {w:World} {B:Nat} {ra ta sa:Option Addr} {rc tc sc:Nat} {inp:Inp} (h:InV w B (.agg #[.slice ra 3 rc,.slice ta 4 tc,.slice sa 3 sc]) inp):∃ rb ro sb so,ra = some ⟨rb,ro,none⟩ ∧ sa = some ⟨sb,so,none⟩ ∧ rb < B ∧ sb < B ∧ (∀ j,j < 3 → w.cell? ⟨rb,ro + j,none⟩ = some (.bool (inp.ready.getD j false))) ∧ (∀ j,j < 3 → w.cell? ⟨sb,so + j,none⟩ = some (.bool (inp.send.getD j false))):=by
 obtain ⟨⟨ra', rc', ta', tc', sa', sc', e,k1,_,k3⟩,l1,_,l3⟩:=h
 simp only [Value.agg.injEq,Array.mk.injEq,List.cons.injEq,Value.slice.injEq,and_true] at e
 obtain ⟨⟨rfl,_,rfl⟩,_,⟨rfl,_,rfl⟩⟩:=e
 obtain ⟨a1,c1,e1,_,_,_,_,h1⟩:=k1.opened
 obtain ⟨a3,c3,e3,_,_,_,_,h3⟩:=k3.opened
 simp only [Value.slice.injEq,true_and] at e1 e3
 obtain ⟨rb,ro,rfl,q1,q2⟩:=h1 (by omega)
 obtain ⟨sb,so,rfl,q3,q4⟩:=h3 (by omega)
 exact ⟨rb,ro,sb,so,e1.1,e3.1,q1,q3,fun j hj => q2 j (by omega),fun j hj => q4 j (by omega)⟩
def Stepped (wo:World) (gs:Nat) (st2:Cy) (s:Value) (w9:World):Prop:=∃ base gx V N C D y0 y1 y2 y3 y4 m0 m1 m2 m3 m4 j0 j1 j2 j3 j4,s = .pointer (some ⟨gx,0,none⟩) ∧ (V 0 = .slice y0 m0 j0 ∧ V 1 = .slice y1 m1 j1 ∧ V 2 = .slice y2 m2 j2 ∧ V 3 = .slice y3 m3 j3 ∧ V 4 = .slice y4 m4 j4) ∧ CyR w9 base st2 V N C D ∧ gs < base ∧ Bx w9 gx [.slice y0 m0 j0,.slice y1 m1 j1,.slice y2 m2 j2,.slice y3 m3 j3,.slice y4 m4 j4] ∧ wo.heap.size ≤ gx ∧ Below wo.heap.size wo w9
theorem stepped_a {wo wa:World} {gs:Nat} {st2:Cy} {V:Nat → Value} {N:Nat → Nat} {C:Nat → List Value} {D:Nat → List TJV} {y0 y1 y2 y3 y4:Option Addr} {m0 m1 m2 m3 m4 j0 j1 j2 j3 j4:Nat} (hE:V 0 = .slice y0 m0 j0 ∧ V 1 = .slice y1 m1 j1 ∧ V 2 = .slice y2 m2 j2 ∧ V 3 = .slice y3 m3 j3 ∧ V 4 = .slice y4 m4 j4)
  (hr:CyR wa wo.drew.heap.size st2 V N C D) (hb:Below wo.drew.heap.size wo.drew wa) (hg:gs < wo.heap.size):Stepped wo gs st2 (.pointer (some ⟨wa.heap.size,0,none⟩)) (wa.alloc (.cells #[.slice y0 m0 j0,.slice y1 m1 j1,.slice y2 m2 j2,.slice y3 m3 j3,.slice y4 m4 j4] 39)) :=
 ⟨wo.drew.heap.size,wa.heap.size,V,N,C,D,y0,y1,y2,y3,y4,m0,m1,m2,m3,m4,j0,j1,j2,j3,j4,rfl,hE,hr.kept (fun b _ hb2 => ((Below.refl wa.heap.size wa).alloc (Nat.le_refl _) _).block b hb2) ((Below.refl wa.heap.size wa).alloc (Nat.le_refl _) _).size,hg,
  Bx.new wa #[.slice y0 m0 j0,.slice y1 m1 j1,.slice y2 m2 j2,.slice y3 m3 j3,.slice y4 m4 j4] 39 (by simp),hb.size,((show Below wo.heap.size wo wo.drew from (Below.refl _ _).drew).trans hb).alloc hb.size _⟩
theorem stepped_b {wo wa:World} {gs:Nat} {st2:Cy} {V:Nat → Value} {N:Nat → Nat} {C:Nat → List Value} {D:Nat → List TJV} {y0 y1 y2 y3 y4:Option Addr} {m0 m1 m2 m3 m4 j0 j1 j2 j3 j4:Nat} {Z:Obj} {v0 v1 v2 v3 v4:Value} (hE:V 0 = .slice y0 m0 j0 ∧ V 1 = .slice y1 m1 j1 ∧ V 2 = .slice y2 m2 j2 ∧ V 3 = .slice y3 m3 j3 ∧ V 4 = .slice y4 m4 j4)
  (hr:CyR wa (wo.alloc Z).drew.heap.size st2 V N C D) (hb:Below (wo.alloc Z).drew.heap.size (wo.alloc Z).drew wa) (hx:Bx wa wo.heap.size [v0,v1,v2,v3,v4]) (hg:gs < wo.heap.size):Stepped wo gs st2 (.pointer (some ⟨wo.heap.size,0,none⟩)) (((((wa.setCell ⟨wo.heap.size,0,none⟩ (.slice y0 m0 j0)).setCell ⟨wo.heap.size,1,none⟩ (.slice y1 m1 j1)).setCell ⟨wo.heap.size,2,none⟩ (.slice y2 m2 j2)).setCell ⟨wo.heap.size,3,none⟩ (.slice y3 m3 j3)).setCell ⟨wo.heap.size,4,none⟩ (.slice y4 m4 j4)):=by
 have hz:(wo.alloc Z).drew.heap.size = wo.heap.size + 1:=by rw [show (wo.alloc Z).drew.heap.size = (wo.alloc Z).heap.size from rfl];simp
 have hb2:Below wo.heap.size wo wa:=((Below.refl _ _).alloc (Nat.le_refl _) _).drew.trans (hb.mono (by rw [hz];omega))
 refine ⟨(wo.alloc Z).drew.heap.size,wo.heap.size,V,N,C,D,y0,y1,y2,y3,y4,m0,m1,m2,m3,m4,j0,j1,j2,j3,j4,rfl,hE,hr.kept (fun b h1 _ => put5_other b (by rw [hz] at h1;omega)) (by simp),by rw [hz];omega,hx.put5 _ _ _ _ _,Nat.le_refl _,?_⟩
 exact ((((hb2.setCell (p:=⟨wo.heap.size,_,none⟩) (Nat.le_refl _) _).setCell (p:=⟨wo.heap.size,_,none⟩) (Nat.le_refl _) _).setCell (p:=⟨wo.heap.size,_,none⟩) (Nat.le_refl _) _).setCell (p:=⟨wo.heap.size,_,none⟩) (Nat.le_refl _) _).setCell (p:=⟨wo.heap.size,_,none⟩) (Nat.le_refl _) _
end Go.Proofs.YtenjbhbcacocjaaGreat
