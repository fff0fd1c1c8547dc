/- slices.SortStableFunc of jobs; rising; none. -/
import Derived.Test.YtenjbhbcacocjaaGreatGY2
set_option linter.unusedVariables false
set_option linter.unusedSimpArgs false
namespace Go.Proofs.YtenjbhbcacocjaaGreat
open Go.RowKit
set_option maxRecDepth 4000 in
set_option maxHeartbeats 2000000 in
theorem insSort0_any (a:Option Addr) (c:Nat) (w:World) :
  Calls Tryz.prog 162 #[.slice a 0 c,.int .i64 0,.int .i64 0,.func (.func 104) #[] #[]] w fun e w' => e = .returned (.tuple #[]) ∧ w = w':=by
 go_enter Tryz.func162,Tryz.ntmps162
 go_wp2_with fail
 refine wp_loop_rounds 1 ?_
 rw [rounds_succ]
 go_wp2_with fail
 exact bodyPost_end (v:=.tuple #[]) (by simp [results,Tryz.results162,go_sem]) rfl ⟨rfl,rfl⟩
def StP (base:Nat) (v:Value) (A:List TJA) (w:World) (e:Ending) (w':World):Prop :=
 e = .returned (.tuple #[]) ∧ Owns w' base 88 5 rowA v (sorted aLt A) ∧ w.grownBy w' v.ownBlock
theorem insSortV_any {base:Nat} {v:Value} {A:List TJA} {w:World} (ho:Owns w base 88 5 rowA v A) (hl:A.length ≤ 100) :
  Calls Tryz.prog 162 #[v,.int .i64 0,.int .i64 A.length,.func (.func 104) #[] #[]] w (StP base v A w):=by
 rcases A with _ | ⟨x,A⟩
 ·obtain ⟨a,c,rfl,_,_⟩:=ho.shape
  refine (insSort0_any a c w).mono ?_
  rintro e w' ⟨rfl,rfl⟩
  exact ⟨rfl,ho,rfl,rfl,rfl,Nat.le_refl _,fun _ _ _ => rfl⟩
 ·obtain ⟨g,off,cap,rfl,_,_,_,_⟩:=OwnR.addr ho (by simp)
  refine (insSort_any base g off cap (x :: A) w ho hl (by simp)).mono ?_
  rintro e w' ⟨rfl,h2,ht⟩
  exact ⟨rfl,h2,ht.os,ht.tape,ht.output,ht.size,fun i hi hne => ht.block i hi (fun e => hne (by rw [e];rfl))⟩
set_option maxRecDepth 4000 in
set_option maxHeartbeats 4000000 in
theorem stable_any {base:Nat} {v:Value} {A:List TJA} {w:World} (ho:Owns w base 88 5 rowA v A) (hl:A.length ≤ 19) :
  Calls Tryz.prog 143 #[v,.int .i64 A.length,.func (.func 104) #[] #[]] w (StP base v A w):=by
 have HO:=hid ho
 obtain ⟨a,c,rfl,_,_⟩:=ho.shape
 obtain ⟨n,hn⟩:∃ n,n = A.length:=⟨_,rfl⟩
 rw [← hn] at HO hl ⊢
 have HC:=hid (show Calls Tryz.prog 162 #[.slice a n c,.int .i64 0,.int .i64 n,.func (.func 104) #[] #[]] w (StP base (.slice a n c) A w) by
  have:=insSortV_any (v:=.slice a n c) HO.out (by rw [← hn];omega)
  rw [← hn] at this;exact this)
 have h1:decide ((20:Int) ≤ (n:Int)) = false:=by rw [decide_eq_false_iff_not];omega
 have h2:decide ((20:Int) < (n:Int)) = false:=by rw [decide_eq_false_iff_not];omega
 have h1':decide (20 ≤ n) = false:=by rw [decide_eq_false_iff_not];omega
 have h2':decide (20 < n) = false:=by rw [decide_eq_false_iff_not];omega
 clear ho hn hl
 go_enter Tryz.func143,Tryz.ntmps143
 go_wp2_with fail
 refine wp_loop_rounds 1 ?_
 rw [rounds_succ]
 go_wp2_with (go_at_call 162;refine (HC.out).mono ?_;rintro e w1 ⟨rfl,hs⟩;have HS:=hid hs;clear hs)
 refine wp_loop_rounds 1 ?_
 rw [rounds_succ]
 go_wp2_with fail
 exact bodyPost_end (v:=.tuple #[]) (by simp [results,Tryz.results143,go_sem]) rfl ⟨rfl,HS.out⟩
set_option maxHeartbeats 2000000 in
theorem sortJobs_any {base:Nat} {v:Value} {A:List TJA} {w:World} (ho:Owns w base 88 5 rowA v A) (hl:A.length ≤ 19) :
  Calls Tryz.prog 103 #[v,.func (.func 104) #[] #[]] w (StP base v A w):=by
 have HC:=hid (stable_any ho hl)
 obtain ⟨a,c,rfl,_,_⟩:=ho.shape
 obtain ⟨n,hn⟩:∃ n,n = A.length:=⟨_,rfl⟩
 rw [← hn] at HC ⊢
 clear ho hn hl
 go_enter Tryz.func103,Tryz.ntmps103
 go_wp2_with (go_at_call 143;refine (HC.out).mono ?_;rintro e w1 ⟨rfl,hs⟩;have HS:=hid hs;clear hs)
 exact bodyPost_end (v:=.tuple #[]) (by simp [results,Tryz.results103,go_sem]) rfl ⟨rfl,HS.out⟩
set_option maxHeartbeats 1000000 in
theorem none_any (a:Option Addr) (c:Nat) (w:World):Calls Tryz.prog 102 #[.agg #[.int .i64 0,.int .i64 0,.slice a 0 c]] w fun e w' => e = .returned (.bool true) ∧ Below w.heap.size w w':=by
 go_enter Tryz.func102,Tryz.ntmps102
 go_wp2_with fail
 go_ret
 exact ⟨rfl,(Below.refl _ _).alloc (Nat.le_refl _) _⟩
def RisP (w:World) (e:Ending) (w':World):Prop:=e = .returned (.bool true) ∧ Below w.heap.size w w'
set_option maxRecDepth 4000 in
set_option maxHeartbeats 8000000 in
theorem rising_any (A:List TJA) (v:Value) (B:Nat) (w:World) (hv:Arr w B 5 v (A.map rowA)) (hB:B ≤ w.heap.size) (hl:A.length ≤ 1000) (hr:∀ i,i + 1 < A.length → aLt (A.getD i default) (A.getD (i + 1) default) = true) :
  Calls Tryz.prog 101 #[v] w (RisP w):=by
 obtain ⟨ao,cap,hva,h1,h2,h0,h9,h3⟩:=hv
 simp only [List.length_map] at hva h1 h0 h3
 subst hva
 obtain ⟨n,hn⟩:∃ n,n = A.length:=⟨_,rfl⟩
 rw [← hn] at h1 h0 h3 hl ⊢
 have HN:=hid hn;have HR:=hid hr;have HA:=hid h3
 clear hr h3 hn
 go_enter Tryz.func101,Tryz.ntmps101
 go_wp2_with fail
 go_loopw [3] (fun i wr => ∃ k:Nat,i = .int .i64 k ∧ 1 ≤ k ∧ Below w.heap.size w wr) (fun i _ => n - (intOf i).toNat)
 case atStart => exact ⟨1,by go_num,Nat.le_refl _,Below.refl _ _⟩
 case round =>
  obtain ⟨k,rfl,hk1,hbl⟩:=hrel
  have HBL:=hid hbl
  by_cases hlt:k < n
  ·have hki:(k:Int) < (n:Int):=by omega
   obtain ⟨p,hkp⟩:∃ p,k = p + 1:=⟨k - 1,by omega⟩
   have ew:IntKind.i64.wrap ((k:Int) - 1) = (p:Int):=by rw [IntKind.wrap_i64];omega
   have hpi:(p:Int) < (n:Int):=by omega
   obtain ⟨g,off,rfl,hgB,hc⟩:=HA.out (by omega)
   have hlt2:k < A.length:=by rw [← HN.out];exact hlt
   have hgz:g < wr.heap.size:=Nat.lt_of_lt_of_le hgB (Nat.le_trans hB hbl.size)
   have cell:∀ t,t < n → ∀ i,i < 5 → wr.cell? ⟨g,off + t * 5 + i,none⟩ = (rowA (A.getD t default))[i]?:=fun t ht i hi => by
    rw [hbl.cell (p:=⟨g,_,none⟩) (Nat.lt_of_lt_of_le hgB hB),hc t ht i hi]
    simp [List.getD,show t < A.length by rw [← HN.out];exact ht]
   have hx5:=cell k hlt
   have hy5:=cell p (by omega)
   have hlt3:=HR.out p (by omega)
   rw [← hkp] at hlt3
   obtain ⟨x,hx⟩:∃ x,x = A.getD k default:=⟨_,rfl⟩
   obtain ⟨y,hy⟩:∃ y,y = A.getD p default:=⟨_,rfl⟩
   rw [← hx] at hx5 hlt3
   rw [← hy] at hy5 hlt3
   clear hx hy cell hc hbl
   obtain ⟨⟨xw,xn,xi,xc,xd⟩,xa,xl,xk⟩:=x
   obtain ⟨⟨yw,yn,yi,yc,yd⟩,ya,yl,yk⟩:=y
   have x0:=hx5 0 (by omega);have x1:=hx5 1 (by omega);have x2:=hx5 2 (by omega);have x3:=hx5 3 (by omega);have x4:=hx5 4 (by omega)
   have y0:=hy5 0 (by omega);have y1:=hy5 1 (by omega);have y2:=hy5 2 (by omega);have y3:=hy5 3 (by omega);have y4:=hy5 4 (by omega)
   simp only [rowA,toA,tjRow,List.getElem?_cons_zero,List.getElem?_cons_succ,Nat.add_zero] at x0 x1 x2 x3 x4 y0 y1 y2 y3 y4
   obtain ⟨r,hr⟩:∃ r,r = kcmp ⟨yw,yn,⟨yi,yc,yd⟩⟩ ⟨xw,xn,⟨xi,xc,xd⟩⟩:=⟨_,rfl⟩
   have hr0:decide ((0:Int) ≤ r) = false:=by rw [hr,kcmp_ge,show kLt ⟨yw,yn,⟨yi,yc,yd⟩⟩ ⟨xw,xn,⟨xi,xc,xd⟩⟩ = true from hlt3];rfl
   have HRR:=hid hr
   have HKP:=hid hkp
   clear hr hx5 hy5 hlt3 hlt2 hkp
   obtain ⟨wo,hwo⟩:∃ W,W = wr:=⟨_,rfl⟩
   subst hwo
   go_upto_region 4 with fail
   go_region_held3 (fun w' => w'.cell? ⟨g,off + k * 5,none⟩ = some (.int .i64 (xw:Nat)) ∧ w'.cell? ⟨g,off + k * 5 + 1,none⟩ = some (.int .i64 (xn:Nat)) ∧ w'.cell? ⟨g,off + k * 5 + 2,none⟩ = some (.int .i64 xi) ∧ w'.cell? ⟨g,off + k * 5 + 3,none⟩ = some (.int .i64 xc) ∧ w'.cell? ⟨g,off + k * 5 + 4,none⟩ = some (.slice xa xl xk) ∧ w'.cell? ⟨g,off + p * 5,none⟩ = some (.int .i64 (yw:Nat)) ∧ w'.cell? ⟨g,off + p * 5 + 1,none⟩ = some (.int .i64 (yn:Nat)) ∧ w'.cell? ⟨g,off + p * 5 + 2,none⟩ = some (.int .i64 yi) ∧ w'.cell? ⟨g,off + p * 5 + 3,none⟩ = some (.int .i64 yc) ∧ w'.cell? ⟨g,off + p * 5 + 4,none⟩ = some (.slice ya yl yk))
    (first | exact s6 | go_keep)
    (first
     | (go_at_call 104;(with_reducible refine (cmpJobs_any ⟨yw,yn,⟨yi,yc,yd⟩⟩ ⟨xw,xn,⟨xi,xc,xd⟩⟩ ya xa yl yk xl xk _).mono ?_);unfold CmpP;rw [← HRR.out];rintro e w5 ⟨rfl,hb5⟩;have hb5':=(show Below wo.heap.size wo wo.drew from (Below.refl _ _).drew).trans hb5;have HB5:=hid hb5';have s6:w5.cell? ⟨g,off + k * 5,none⟩ = some (.int .i64 (xw:Nat)) ∧ w5.cell? ⟨g,off + k * 5 + 1,none⟩ = some (.int .i64 (xn:Nat)) ∧ w5.cell? ⟨g,off + k * 5 + 2,none⟩ = some (.int .i64 xi) ∧ w5.cell? ⟨g,off + k * 5 + 3,none⟩ = some (.int .i64 xc) ∧ w5.cell? ⟨g,off + k * 5 + 4,none⟩ = some (.slice xa xl xk) ∧ w5.cell? ⟨g,off + p * 5,none⟩ = some (.int .i64 (yw:Nat)) ∧ w5.cell? ⟨g,off + p * 5 + 1,none⟩ = some (.int .i64 (yn:Nat)) ∧ w5.cell? ⟨g,off + p * 5 + 2,none⟩ = some (.int .i64 yi) ∧ w5.cell? ⟨g,off + p * 5 + 3,none⟩ = some (.int .i64 yc) ∧ w5.cell? ⟨g,off + p * 5 + 4,none⟩ = some (.slice ya yl yk):=⟨(hb5'.cell (p:=⟨g,off + k * 5,none⟩) hgz).trans x0,(hb5'.cell (p:=⟨g,off + k * 5 + 1,none⟩) hgz).trans x1,(hb5'.cell (p:=⟨g,off + k * 5 + 2,none⟩) hgz).trans x2,(hb5'.cell (p:=⟨g,off + k * 5 + 3,none⟩) hgz).trans x3,(hb5'.cell (p:=⟨g,off + k * 5 + 4,none⟩) hgz).trans x4,(hb5'.cell (p:=⟨g,off + p * 5,none⟩) hgz).trans y0,(hb5'.cell (p:=⟨g,off + p * 5 + 1,none⟩) hgz).trans y1,(hb5'.cell (p:=⟨g,off + p * 5 + 2,none⟩) hgz).trans y2,(hb5'.cell (p:=⟨g,off + p * 5 + 3,none⟩) hgz).trans y3,(hb5'.cell (p:=⟨g,off + p * 5 + 4,none⟩) hgz).trans y4⟩))
   go_wp2_with fail
   go_roundw
   case rel => exact ⟨k + 1,by go_num,by omega,HBL.out.trans (HB5.out.mono HBL.out.size)⟩
   case measure => simp [intOf];omega
  ·have hki:decide ((k:Int) < (n:Int)) = false:=by rw [decide_eq_false_iff_not];omega
   go_wp2_with fail
   go_ret
   exact ⟨rfl,HBL.out⟩
end Go.Proofs.YtenjbhbcacocjaaGreat
