/- slices.Repeat: rows copied behind themselves. -/
import Derived.Test.YtenjbhbcacocjaaGreatGDr1
import Derived.Test.YtenjbhbcacocjaaGreatGMap1
import Derived.Test.YtenjbhbcacocjaaGreatGReq
import Derived.Test.YtenjbhbcacocjaaGreatGDo5
import Derived.Test.YtenjbhbcacocjaaGreatGY1
import Derived.Test.YtenjbhbcacocjaaGreatGLib
import Derived.Test.YtenjbhbcacocjaaGreatGDeep
import Derived.BigGuardPart
import Derived.Outline
import Derived.Laws.IdiomCopy
import Derived.Lib.LazyBuf
set_option linter.unusedVariables false
set_option linter.unusedSimpArgs false
namespace Go.Proofs.YtenjbhbcacocjaaGreat
open Go.RowKit
def Progs (w:World) (B:Nat) (v:Value) (pss:List (List Rq)):Prop:=ArrV Reqs w B 1 v pss
theorem Progs.below {w w':World} {B:Nat} {v:Value} {pss:List (List Rq)} (h:Progs w B v pss) (hb:Below B w w'):Progs w' B v pss:=ArrV.below h hb fun _ _ h => h.below hb
theorem Progs.mono {w:World} {B B':Nat} {v:Value} {pss:List (List Rq)} (h:Progs w B v pss) (hb:B ≤ B'):Progs w B' v pss:=ArrV.mono h hb fun _ _ h => h.mono hb
theorem Progs.opened {w:World} {B:Nat} {v:Value} {pss:List (List Rq)} (h:Progs w B v pss) :
  ∃ ao cap,v = .slice ao pss.length cap ∧ pss.length ≤ cap ∧ cap ≤ 9223372036854775807 ∧ pss.length ≤ 140737488351232 ∧ (ao = none → cap = 0) ∧
   (pss.length ≠ 0 → ∃ b off,ao = some ⟨b,off,none⟩ ∧ b < B ∧ ∀ t,t < pss.length → ∃ da dc,Reqs w B (.slice da (pss.getD t []).length dc) (pss.getD t []) ∧ w.cell? ⟨b,off + t,none⟩ = some (.slice da (pss.getD t []).length dc)):=by
 obtain ⟨ao,cap,rfl,h1,h2,h0,h9⟩:=ArrV.shape h
 refine ⟨ao,cap,rfl,h1,h2,h0,h9,fun hn => ?_⟩
 obtain ⟨b,off,ha,hlt,hc⟩:=ArrV.at h hn
 refine ⟨b,off,ha,hlt,fun t ht => ?_⟩
 obtain ⟨u,hu,hcell⟩:=hc t ht
 have hu':=hu []
 obtain ⟨da,dc,rfl,_⟩:=Reqs.opened hu'
 refine ⟨da,dc,hu', ?_⟩
 have:=hcell 0 (by omega)
 simpa [Value.cells] using this
def BusI (w:World) (B:Nat) (v:Value) (ms:List MR) (lat:List Int) (pss:List (List Rq)):Prop:=∃ mv lv pv,v = .agg #[mv,lv,pv] ∧ Maps w B mv ms ∧ Ints w B lv lat ∧ Progs w B pv pss
theorem BusI.below {w w':World} {B:Nat} {v:Value} {ms:List MR} {lat:List Int} {pss:List (List Rq)} (h:BusI w B v ms lat pss) (hb:Below B w w'):BusI w' B v ms lat pss:=by
 obtain ⟨mv,lv,pv,e,h1,h2,h3⟩:=h;exact ⟨mv,lv,pv,e,h1.below hb,h2.below hb,h3.below hb⟩
theorem BusI.mono {w:World} {B B':Nat} {v:Value} {ms:List MR} {lat:List Int} {pss:List (List Rq)} (h:BusI w B v ms lat pss) (hb:B ≤ B'):BusI w B' v ms lat pss:=by
 obtain ⟨mv,lv,pv,e,h1,h2,h3⟩:=h;exact ⟨mv,lv,pv,e,h1.mono hb,h2.mono hb,h3.mono hb⟩
def progOk (p:List Rq):Bool:=decide (p.length ≤ 12) && p.all reqOk
def busOk (ms:List MR) (lat:List Int) (pss:List (List Rq)):Bool:=mapOk ms && decide (lat.length = 4) && lat.all (inB · 0 3) && decide (pss.length = 3) && pss.all progOk
def IdxPP (p:List Rq → Bool) (rs:List (List Rq)) (w:World) (e:Ending) (w':World):Prop:=e = .returned (.int .i64 (idxP p rs)) ∧ Below w.heap.size w w'
def HasPP (p:List Rq → Bool) (rs:List (List Rq)) (w:World) (e:Ending) (w':World):Prop:=e = .returned (.bool (rs.any p)) ∧ Below w.heap.size w w'
set_option maxHeartbeats 1000000 in
theorem idxProg_any (K:FuncId) (cap:Array Value) (hK:Callable K) (p:List Rq → Bool) (v:Value) (rs:List (List Rq)) (B:Nat) (w:World) (hv:Progs w B v rs) (hB:B ≤ w.heap.size)
  (hf:∀ (r:List Rq) (u:Value) (w1:World),Below w.heap.size w w1 → Reqs w1 B u r → Calls Tryz.prog K (#[u] ++ cap) w1 fun e w' => e = .returned (.bool (p r)) ∧ Below w1.heap.size w1 w') :
  Calls Tryz.prog 116 #[v,.func (.func K) #[] cap] w (IdxPP p rs w):=by
 obtain ⟨ao,cap', rfl,hlc,hcap,hln,hni,hr⟩:=hv.opened
 have HF:=hid hf;clear hf hv
 have hK2:=fun args w => hK args w
 go_enter Tryz.func116,Tryz.ntmps116
 go_wp2_with fail
 go_loopw [8] (fun i wr => ∃ k:Nat,k ≤ rs.length ∧ i = .int .i64 k ∧ Below w.heap.size w wr ∧ ∀ j,j < k → p (rs.getD j []) = false) (fun i _ => rs.length - (intOf i).toNat)
 case atStart => exact ⟨0,Nat.zero_le _,rfl,Below.refl _ _,by simp⟩
 case round =>
  obtain ⟨k,hk,rfl,hbl,hno⟩:=hrel
  have HN:=hid hno;clear hno
  by_cases hlt:k < rs.length
  ·obtain ⟨b,off,rfl,hb,hc⟩:=hr (by omega)
   obtain ⟨da,dc,hu,c0⟩:=hc k hlt
   obtain ⟨x,hx⟩:∃ x,x = rs.getD k []:=⟨_,rfl⟩
   rw [← hx] at c0 hu
   rw [← hbl.cell (p:=⟨b,_,none⟩) (Nat.lt_of_lt_of_le hb hB)] at c0
   have HX:=hid hx;have HU:=hid (hu.below (hbl.mono hB));clear hx hc hr hu
   go_wp2_with fail
   refine (HF.out x _ _ hbl HU.out).mono ?_
   rintro e w' ⟨rfl,hb'⟩
   have hsz:=hbl.size
   have HB:=hid (hbl.trans (hb'.mono hsz))
   clear hbl
   rcases hp:p x with _ | _
   ·have HQ:=hid (all_step HN.out (show p (rs.getD k []) = false by rw [← HX.out];exact hp))
    go_wp2_with fail
    go_roundw
    case rel => exact ⟨k + 1,by omega,by go_num,HB.out,HQ.out⟩
    case measure => simp [intOf];omega
   ·have HQ:=hid (idxP_hit p rs k [] hlt (by rw [← HX.out];exact hp) HN.out)
    go_wp2_with fail
    go_ret
    exact ⟨by rw [HQ.out];rfl,HB.out⟩
  ·have HF2:=hid (idxP_miss p rs [] (fun j hj => HN.out j (by omega)))
   go_wp2_with fail
   go_ret
   exact ⟨by rw [HF2.out];rfl,hbl⟩
set_option maxHeartbeats 1000000 in
theorem hasProg_any (K:FuncId) (cap:Array Value) (hK:Callable K) (p:List Rq → Bool) (v:Value) (rs:List (List Rq)) (B:Nat) (w:World) (hv:Progs w B v rs) (hB:B ≤ w.heap.size)
  (hf:∀ (r:List Rq) (u:Value) (w1:World),Below w.heap.size w w1 → Reqs w1 B u r → Calls Tryz.prog K (#[u] ++ cap) w1 fun e w' => e = .returned (.bool (p r)) ∧ Below w1.heap.size w1 w') :
  Calls Tryz.prog 67 #[v,.func (.func K) #[] cap] w (HasPP p rs w):=by
 have HA:=hid (idxP_any p rs)
 go_enter Tryz.func67,Tryz.ntmps67
 go_wp2_with fail
 refine (idxProg_any K cap hK p v rs B _ hv hB hf).mono ?_
 rintro e w' ⟨rfl,hb⟩
 go_wp2_with fail
 go_ret
 exact ⟨by rw [← HA.out];rfl,hb⟩
set_option maxHeartbeats 1000000 in
theorem busLat_any (x:Int) (w:World):Calls Tryz.prog 65 #[.int .i64 x] w fun e w' => e = .returned (.bool (!inB x 0 3)) ∧ w = w':=by
 rcases h:inB x 0 3 with _ | _
 all_goals
  go_enter Tryz.func65,Tryz.ntmps65
  go_wp2_with (go_at_call 66;refine (in_any _ _ _ _).mono ?_;rw [h];rintro e w' ⟨rfl,rfl⟩)
  go_ret
  exact ⟨rfl,rfl⟩
set_option maxHeartbeats 1000000 in
theorem busReq_any (r:Rq) (u:Value) (B:Nat) (w:World) (hu:ReqV w B u r) (hB:B ≤ w.heap.size) :
  Calls Tryz.prog 70 #[u] w fun e w' => e = .returned (.bool (!reqOk r)) ∧ Below w.heap.size w w':=by
 have HU:=hid hu
 obtain ⟨dv,lv,rfl,k1,k2,_⟩:=hu
 obtain ⟨da,dc,rfl,_⟩:=k1.opened
 obtain ⟨la,lc,rfl,_⟩:=k2.opened
 rcases h:reqOk r with _ | _
 all_goals
  have HR:=hid h;clear h
  go_enter Tryz.func70,Tryz.ntmps70
  go_wp2_with (first | (go_at_call 58;go_loud ((with_reducible refine (implReqOk_any _ r B _ (HU.out.below ((Below.refl _ _).alloc hB _)) (by simp;omega)).mono ?_);rw [HR.out];rintro e w1 ⟨rfl,hb1⟩)))
  go_ret
  exact ⟨rfl,((Below.refl _ _).alloc (Nat.le_refl _) _).trans (hb1.mono (by simp))⟩
theorem all_not_any {α:Type} (p:α → Bool) (xs:List α):xs.any (fun x => !p x) = !xs.all p:=by induction xs <;> simp_all [Bool.not_and]
set_option maxHeartbeats 1000000 in
theorem busProg_any (p:List Rq) (u:Value) (B:Nat) (w:World) (hu:Reqs w B u p) (hB:B ≤ w.heap.size) :
  Calls Tryz.prog 68 #[u] w fun e w' => e = .returned (.bool (!progOk p)) ∧ Below w.heap.size w w':=by
 have HU:=hid hu
 obtain ⟨ao,cap,rfl,hlc,hcap,hln,hni,hr⟩:=hu.opened
 clear hr hu
 have HE:=hid (all_not_any reqOk p)
 by_cases h12:(12:Int) < (p.length:Int)
 ·have hd:progOk p = false:=by unfold progOk;rw [decide_eq_false (by omega)];rfl
  rw [hd]
  go_enter Tryz.func68,Tryz.ntmps68
  go_wp2_with fail
  go_ret
  exact ⟨rfl,Below.refl _ _⟩
 ·have hd:progOk p = p.all reqOk:=by unfold progOk;rw [decide_eq_true (by omega)];rfl
  have h12':decide ((12:Int) < (p.length:Int)) = false:=decide_eq_false h12
  rw [hd]
  rcases hq:p.all reqOk with _ | _
  all_goals
   rw [hq] at HE
   go_enter Tryz.func68,Tryz.ntmps68
   go_wp2_with (first
    | (go_at_call 69;refine (hasReq_any 70 _ (callable_of Tryz.func70 (by kernel_rfl) (by kernel_rfl)) (fun r => !reqOk r) _ p B _ HU.out hB (fun r u' w1 hb hu' => by simpa using busReq_any r u' B w1 hu' (Nat.le_trans hB hb.size))).mono ?_;unfold HasRP;rw [HE.out];rintro e w1 ⟨rfl,hb1⟩))
   go_ret
   exact ⟨rfl,hb1⟩
theorem busOk_cases (ms:List MR) (lat:List Int) (pss:List (List Rq)) :
  (busOk ms lat pss = false ∧ mapOk ms = false) ∨ (busOk ms lat pss = false ∧ mapOk ms = true ∧ ¬ lat.length = 4) ∨ (busOk ms lat pss = false ∧ mapOk ms = true ∧ lat.length = 4 ∧ lat.all (inB · 0 3) = false) ∨
  (busOk ms lat pss = false ∧ mapOk ms = true ∧ lat.length = 4 ∧ lat.all (inB · 0 3) = true ∧ ¬ pss.length = 3) ∨ (∃ y,busOk ms lat pss = y ∧ pss.all progOk = y ∧ mapOk ms = true ∧ lat.length = 4 ∧ lat.all (inB · 0 3) = true ∧ pss.length = 3):=by
 unfold busOk
 by_cases h2:lat.length = 4 <;> by_cases h4:pss.length = 3 <;> rcases h1:mapOk ms with _ | _ <;> rcases h3:lat.all (inB · 0 3) with _ | _ <;> simp_all
set_option maxRecDepth 4000 in
set_option maxHeartbeats 8000000 in
theorem implBusOk_any (v:Value) (ms:List MR) (lat:List Int) (pss:List (List Rq)) (B:Nat) (w:World) (h:BusI w B v ms lat pss) (hB:B ≤ w.heap.size) :
  Calls Tryz.prog 26 #[v] w fun e w' => e = .returned (.bool (busOk ms lat pss)) ∧ Below w.heap.size w w':=by
 obtain ⟨mv,lv,pv,rfl,hm,hl,hp⟩:=h
 have HM:=hid hm;have HL:=hid hl;have HP:=hid hp
 obtain ⟨ma,mc,rfl,_⟩:=hm.opened
 obtain ⟨la,lc,rfl,_⟩:=hl.opened
 obtain ⟨pa,pc,rfl,_⟩:=hp.opened
 clear hm hl hp
 have HS:=hid (fun T => show Bx (w.alloc (.cells #[.slice ma ms.length mc,.slice la lat.length lc,.slice pa pss.length pc] T)) w.heap.size [.slice ma ms.length mc,.slice la lat.length lc,.slice pa pss.length pc] from Bx.new w #[.slice ma ms.length mc,.slice la lat.length lc,.slice pa pss.length pc] T (by simp))
 have HB:=hid (bx1 w)
 have HL2:=hid (all_not_any (inB · 0 3) lat)
 have HP2:=hid (all_not_any progOk pss)
 rcases busOk_cases ms lat pss with ⟨hy,h1⟩ | ⟨hy,h1,h2⟩ | ⟨hy,h1,h2,h3⟩ | ⟨hy,h1,h2,h3,h4⟩ | ⟨y,hy,h5,h1,h2,h3,h4⟩
 case inr.inr.inr.inr =>
  rcases y with _ | _
  all_goals
   rw [hy]
   rw [h3] at HL2
   rw [h5] at HP2
   have q2:((lat.length:Int) == 4) = true:=by simp;omega
   have q4:((pss.length:Int) == 3) = true:=by simp;omega
   have H1:=hid h1
   clear h1 h2 h3 h4 h5 hy
   go_enter Tryz.func26,Tryz.ntmps26
   go_wp2_with (first
    | (go_at_call 57;refine (implMapOk_any _ ms B _ (HM.out.below ((HB.out _).mono hB)) (Nat.le_trans hB (HB.out _).size)).mono ?_;rw [H1.out];rintro e w1 ⟨rfl,hb⟩;have HS1:=hid ((HS.out _).below hb (by simp));obtain ⟨⟨c0,c1,c2⟩,_⟩:=HS1.out.three;have HB1:=hid ((HB.out _).trans (hb.mono (by simp)));clear hb)
    | (go_at_call 64;refine (hasInt_any 65 #[] (callable_of Tryz.func65 (by kernel_rfl) (by kernel_rfl)) (fun n => !inB n 0 3) _ lat B _ (HL.out.below (HB1.out.mono hB)) (fun x _ => by simpa using busLat_any x _)).mono ?_;rw [HL2.out];rintro e w2 ⟨rfl,hw⟩;subst hw)
    | (go_at_call 67;refine (hasProg_any 68 #[] (callable_of Tryz.func68 (by kernel_rfl) (by kernel_rfl)) (fun p => !progOk p) _ pss B _ (HP.out.below (HB1.out.mono hB)) (Nat.le_trans hB HB1.out.size) (fun r u' w1 hb hu' => by simpa using busProg_any r u' B w1 hu' (Nat.le_trans (Nat.le_trans hB HB1.out.size) hb.size))).mono ?_;unfold HasPP;rw [HP2.out];rintro e w2 ⟨rfl,hb⟩;have HB2:=hid (HB1.out.trans (hb.mono HB1.out.size));clear hb))
   go_ret
   exact ⟨rfl,HB2.out⟩
 case inl =>
  rw [hy]
  have H1:=hid h1
  clear h1 hy
  go_enter Tryz.func26,Tryz.ntmps26
  go_wp2_with (first
   | (go_at_call 57;refine (implMapOk_any _ ms B _ (HM.out.below ((HB.out _).mono hB)) (Nat.le_trans hB (HB.out _).size)).mono ?_;rw [H1.out];rintro e w1 ⟨rfl,hb⟩;have HS1:=hid ((HS.out _).below hb (by simp));obtain ⟨⟨c0,c1,c2⟩,_⟩:=HS1.out.three;have HB1:=hid ((HB.out _).trans (hb.mono (by simp)));clear hb))
  go_ret
  exact ⟨rfl,HB1.out⟩
 case inr.inl =>
  rw [hy]
  have H1:=hid h1
  have q2:((lat.length:Int) == 4) = false:=by simp;omega
  clear h1 h2 hy
  go_enter Tryz.func26,Tryz.ntmps26
  go_wp2_with (first
   | (go_at_call 57;refine (implMapOk_any _ ms B _ (HM.out.below ((HB.out _).mono hB)) (Nat.le_trans hB (HB.out _).size)).mono ?_;rw [H1.out];rintro e w1 ⟨rfl,hb⟩;have HS1:=hid ((HS.out _).below hb (by simp));obtain ⟨⟨c0,c1,c2⟩,_⟩:=HS1.out.three;have HB1:=hid ((HB.out _).trans (hb.mono (by simp)));clear hb))
  go_ret
  exact ⟨rfl,HB1.out⟩
 case inr.inr.inl =>
  rw [hy]
  have H1:=hid h1
  rw [h3] at HL2
  have q2:((lat.length:Int) == 4) = true:=by simp;omega
  clear h1 h2 h3 hy
  go_enter Tryz.func26,Tryz.ntmps26
  go_wp2_with (first
   | (go_at_call 57;refine (implMapOk_any _ ms B _ (HM.out.below ((HB.out _).mono hB)) (Nat.le_trans hB (HB.out _).size)).mono ?_;rw [H1.out];rintro e w1 ⟨rfl,hb⟩;have HS1:=hid ((HS.out _).below hb (by simp));obtain ⟨⟨c0,c1,c2⟩,_⟩:=HS1.out.three;have HB1:=hid ((HB.out _).trans (hb.mono (by simp)));clear hb)
   | (go_at_call 64;refine (hasInt_any 65 #[] (callable_of Tryz.func65 (by kernel_rfl) (by kernel_rfl)) (fun n => !inB n 0 3) _ lat B _ (HL.out.below (HB1.out.mono hB)) (fun x _ => by simpa using busLat_any x _)).mono ?_;rw [HL2.out];rintro e w2 ⟨rfl,hw⟩;subst hw))
  go_ret
  exact ⟨rfl,HB1.out⟩
 case inr.inr.inr.inl =>
  rw [hy]
  have H1:=hid h1
  rw [h3] at HL2
  have q2:((lat.length:Int) == 4) = true:=by simp;omega
  have q4:((pss.length:Int) == 3) = false:=by simp;omega
  clear h1 h2 h3 h4 hy
  go_enter Tryz.func26,Tryz.ntmps26
  go_wp2_with (first
   | (go_at_call 57;refine (implMapOk_any _ ms B _ (HM.out.below ((HB.out _).mono hB)) (Nat.le_trans hB (HB.out _).size)).mono ?_;rw [H1.out];rintro e w1 ⟨rfl,hb⟩;have HS1:=hid ((HS.out _).below hb (by simp));obtain ⟨⟨c0,c1,c2⟩,_⟩:=HS1.out.three;have HB1:=hid ((HB.out _).trans (hb.mono (by simp)));clear hb)
   | (go_at_call 64;refine (hasInt_any 65 #[] (callable_of Tryz.func65 (by kernel_rfl) (by kernel_rfl)) (fun n => !inB n 0 3) _ lat B _ (HL.out.below (HB1.out.mono hB)) (fun x _ => by simpa using busLat_any x _)).mono ?_;rw [HL2.out];rintro e w2 ⟨rfl,hw⟩;subst hw))
  go_ret
  exact ⟨rfl,HB1.out⟩
def row1 (u:Value):List Value:=[u]
theorem row1_len (u:Value):(row1 u).length = 1:=rfl
theorem infoPQ:(Tryz.prog.info? 60).map (fun i => (i.zero,i.size,i.bytes)) = some (some (.slice none 0 0),1,24):=by kernel_rfl
def BoxB (w:World) (s:Nat) (a b p:Value):Prop:=w.heap[s]? = some (.cells #[a,b,p] 27 (0,0))
theorem BoxB.lt {w:World} {s:Nat} {a b p:Value} (h:BoxB w s a b p):s < w.heap.size:=heap_lt h
theorem BoxB.keep {w w':World} {s:Nat} {a b p:Value} (h:BoxB w s a b p) (e:w'.heap[s]? = w.heap[s]?):BoxB w' s a b p:=by unfold BoxB at h ⊢;rw [e];exact h
theorem BoxB.touch {w w':World} {s x:Nat} {a b p:Value} (h:BoxB w s a b p) (ht:Touch x w w') (hx:s ≠ x):BoxB w' s a b p:=h.keep (ht.block s h.lt hx)
theorem BoxB.below {w w':World} {s C:Nat} {a b p:Value} (h:BoxB w s a b p) (hb:Below C w w') (hx:s < C):BoxB w' s a b p:=h.keep (hb.block s hx)
theorem BoxB.bx {w:World} {s:Nat} {a b p:Value} (h:BoxB w s a b p):Bx w s [a,b,p]:=by
 unfold BoxB at h
 exact ⟨fun j hj => by simp [World.cell?,h],fun j hj => by simp [World.frozen?,h],by simp⟩
theorem BoxB.put {w:World} {s:Nat} {a b p:Value} (h:BoxB w s a b p) (a' b' p':Value):BoxB (((w.setCell ⟨s,0,none⟩ a').setCell ⟨s,1,none⟩ b').setCell ⟨s,2,none⟩ p') s a' b' p':=by
 unfold BoxB at h ⊢;simp [World.setCell,Array.getElem?_modify,h]
theorem BoxB.new (w:World) (a b p:Value):BoxB (w.alloc (.cells #[a,b,p] 27)) w.heap.size a b p:=by
 show (w.heap.push _)[w.heap.size]? = _;simp
theorem Owns.notB {α:Type} {f:α → List Value} {w:World} {base e sz g T:Nat} {v:Value} {xs:List α} {cs:Array Value} (h:Owns w base e sz f v xs) (hg:w.heap[g]? = some (.cells cs T (0,0))) (hT:T ≠ e):v.ownBlock ≠ some g:=by
 intro hk
 obtain ⟨_,h2⟩:=h
 rcases h2 with ⟨rfl,_⟩ | ⟨g', off,cap,cur,rfl,_,hh,_⟩
 ·simp [Value.ownBlock] at hk
 ·simp [Value.ownBlock] at hk
  subst hk
  rw [hh] at hg
  simp only [Option.some.injEq,Obj.cells.injEq] at hg
  exact hT hg.2.1.symm
theorem Owns.apartT {α β:Type} {f:α → List Value} {f2:β → List Value} {w:World} {base base2 e e2 sz sz2:Nat} {v u:Value} {xs:List α} {ys:List β} (h:Owns w base e sz f v xs) (h2:Owns w base2 e2 sz2 f2 u ys) (hT:e ≠ e2):Apart v u:=by
 intro k hk
 obtain ⟨_,h3⟩:=h
 rcases h3 with ⟨rfl,_⟩ | ⟨g', off,cap,cur,rfl,_,hh,_⟩
 ·simp [Value.ownBlock] at hk
 ·simp [Value.ownBlock] at hk
  subst hk
  exact h2.notB hh hT
abbrev SlV:=Option Addr × Nat × Nat
def slv (s:SlV):Value:=.slice s.1 s.2.1 s.2.2
abbrev RqS:=Rq × SlV × SlV
def rowS7 (y:RqS):List Value:=rowQ (y.1,slv y.2.1,slv y.2.2)
def toV (y:RqS):RqV:=(y.1,slv y.2.1,slv y.2.2)
theorem flat_toV (ys:List RqS):ys.flatMap rowS7 = (ys.map toV).flatMap rowQ:=by rw [List.flatMap_map];rfl
theorem Owns.toV {w:World} {base e:Nat} {v:Value} {ys:List RqS} (h:Owns w base e 7 rowS7 v ys):Owns w base e 7 rowQ v (ys.map toV):=by
 unfold Owns at h ⊢
 rw [List.length_map,← flat_toV];exact h
end Go.Proofs.YtenjbhbcacocjaaGreat
namespace Go.Proofs.YtenjbhbcacocjaaGreat
structure Jb where
 who:Nat
 n:Nat
 left:Nat
deriving Inhabited
structure TJ where
 who:Nat
 n:Nat
 rsp:Rs
deriving Inhabited
structure Pt where
 next:Nat
 queue:List Nat
 out:List Jb
 last:Nat
deriving Inhabited
structure Sv where
 pipe:List Jb
 done:List TJ
 last:Nat
deriving Inhabited
structure Cy where
 ws:List Int
 hs:List Int
 ports:Nat → Pt
 slaves:Nat → Sv
 told:List TJ
structure Cfg where
 ms:List MR
 lat:List Nat
 progs:List (List Rq)
structure Inp where
 ready:List Bool
 stall:List Bool
 send:List Bool
structure Ev where
 kind:Nat
 who:Nat
 n:Nat
deriving Inhabited,DecidableEq
def upd {α:Type} (f:Nat → α) (i:Nat) (x:α):Nat → α:=fun j => if j = i then x else f j
theorem upd_same {α:Type} (f:Nat → α) (i:Nat) (x:α):upd f i x i = x:=if_pos rfl
theorem upd_other {α:Type} (f:Nat → α) {i j:Nat} (x:α) (h:j ≠ i):upd f i x j = f j:=if_neg h
def foldN {α:Type} (f:Nat → α → α):Nat → α → α
 | 0,a => a
 | n + 1,a => f n (foldN f n a)
theorem foldN_keep {α:Type} {f:Nat → α → α} {P:α → Prop}:∀ (n:Nat) (a:α),P a → (∀ i x,i < n → P x → P (f i x)) → P (foldN f n a)
 | 0,_,h,_ => h
 | n + 1,a,h,hs => hs n _ (Nat.lt_succ_self n) (foldN_keep n a h fun i x hi hx => hs i x (Nat.lt_succ_of_lt hi) hx)
def firstK (m:Nat → Bool) (n:Nat):Option Nat:=((List.range n).map (· + 1)).find? m
theorem firstK_hit {m:Nat → Bool} {n k:Nat} (h0:1 ≤ k) (hk:k ≤ n) (hm:m k = true) (hb:∀ j,1 ≤ j → j < k → m j = false):firstK m n = some k:=by
 unfold firstK
 rw [List.find?_eq_some_iff_append]
 refine ⟨hm,(List.range (k - 1)).map (· + 1),(List.range' k (n - k)).map (· + 1),?_,?_⟩
 ·have e:List.range n = List.range (k - 1) ++ (k - 1) :: List.range' k (n - k):=by
   rw [List.range_eq_range', List.range_eq_range', show n = (k - 1) + (1 + (n - k)) by omega,← List.range'_append_1]
   simp only [Nat.zero_add]
   rw [show 1 + (n - k) = (n - k) + 1 by omega,show k - 1 + (n - k + 1) - k = n - k by omega]
   rw [List.range'_succ,show k - 1 + 1 = k by omega]
  rw [e];simp [show k - 1 + 1 = k by omega]
 ·intro a ha
  obtain ⟨b,hb2,rfl⟩:=List.mem_map.1 ha
  rw [List.mem_range] at hb2
  simp [hb (b + 1) (by omega) (by omega)]
theorem firstK_miss {m:Nat → Bool} {n:Nat} (hb:∀ j,1 ≤ j → j ≤ n → m j = false):firstK m n = none:=by
 unfold firstK
 rw [List.find?_eq_none]
 intro a ha
 obtain ⟨b,hb2,rfl⟩:=List.mem_map.1 ha
 rw [List.mem_range] at hb2
 simp [hb (b + 1) (by omega) (by omega)]
theorem firstK_some {m:Nat → Bool} {n k:Nat} (h:firstK m n = some k):1 ≤ k ∧ k ≤ n ∧ m k = true:=by
 unfold firstK at h
 have h1:=List.find?_some h
 have h2:=List.mem_of_find?_eq_some h
 obtain ⟨b,hb2,rfl⟩:=List.mem_map.1 h2
 rw [List.mem_range] at hb2
 exact ⟨by omega,by omega,h1⟩
def Cfg.prog (c:Cfg) (who:Nat):List Rq:=c.progs.getD who []
def Cfg.req (c:Cfg) (who n:Nat):Rq:=(c.prog who).getD n default
def Cfg.id (c:Cfg) (who n:Nat):Int:=(c.req who n).id
def Cfg.slv (c:Cfg) (who n:Nat):Nat:=(slaveOf c.ms (c.req who n)).toNat
def Cfg.lt (c:Cfg) (s:Nat):Nat:=c.lat.getD s 0
def tellM (st:Cy) (who k:Nat):Bool:=match (st.slaves (((st.ports who).last + k) % 4)).done with
 | [] => false
 | j :: _ => j.who == who
def tellDo (who s:Nat) (j:TJ) (rest:List TJ) (x:Cy × List Ev):Cy × List Ev :=
 ({ x.1 with told:=x.1.told ++ [j],slaves:=upd x.1.slaves s { x.1.slaves s with done:=rest },ports:=upd x.1.ports who { x.1.ports who with out:=(x.1.ports who).out.eraseP (fun o => o.n == j.n),last:=s } },x.2 ++ [⟨3,who,j.n⟩])
def tell1 (inp:Inp) (who:Nat) (x:Cy × List Ev):Cy × List Ev :=
 if inp.ready.getD who false = true then
  match firstK (tellM x.1 who) 4 with
  | none => x
  | some k => match (x.1.slaves (((x.1.ports who).last + k) % 4)).done with
   | [] => x
   | j :: rest => tellDo who (((x.1.ports who).last + k) % 4) j rest x
 else x
def workDo (c:Cfg) (s:Nat) (j:Jb) (rest:List Jb) (x:Cy × List Ev):Cy × List Ev :=
  ({ x.1 with ws:=(doReq c.ms x.1.ws x.1.hs j.who (c.req j.who j.n)).1,hs:=(doReq c.ms x.1.ws x.1.hs j.who (c.req j.who j.n)).2.1,
              slaves:=upd x.1.slaves s { x.1.slaves s with pipe:=rest,done:=(x.1.slaves s).done ++ [⟨j.who,j.n,(doReq c.ms x.1.ws x.1.hs j.who (c.req j.who j.n)).2.2⟩] } },x.2 ++ [⟨2,j.who,j.n⟩])
def workDec (s:Nat) (j:Jb) (rest:List Jb) (st:Cy):Cy:={ st with slaves:=upd st.slaves s { st.slaves s with pipe:=⟨j.who,j.n,j.left - 1⟩ :: rest } }
def work1 (c:Cfg) (inp:Inp) (s:Nat) (x:Cy × List Ev):Cy × List Ev :=
 if inp.stall.getD s false = true then x
 else match (x.1.slaves s).pipe with
  | [] => x
  | j :: rest => if 0 < j.left then (workDec s j rest x.1,x.2) else if (x.1.slaves s).done.length < 2 then workDo c s j rest x else x
def may (c:Cfg) (st:Cy) (who s:Nat):Bool:=match (st.ports who).queue with
 | [] => false
 | n :: _ => decide ((st.ports who).out.length < 4) && (c.slv who n == s) && !(st.ports who).out.any (fun j => c.id who j.n == c.id who n && j.left != s)
structure Lt where
 st:Cy
 used:Nat → Bool
 lets:Nat → Nat
def letM (c:Cfg) (s:Nat) (y:Lt) (k:Nat):Bool:=!y.used (((y.st.slaves s).last + k) % 3) && may c y.st (((y.st.slaves s).last + k) % 3) s
def letDo (c:Cfg) (s who n:Nat) (rest:List Nat) (y:Lt):Lt :=
  { st:={ y.st with ports:=upd y.st.ports who { y.st.ports who with queue:=rest,out:=(y.st.ports who).out ++ [⟨who,n,s⟩] },
                      slaves:=upd y.st.slaves s { y.st.slaves s with pipe:=(y.st.slaves s).pipe ++ [⟨who,n,c.lt s⟩],last:=who } },
    used:=upd y.used who true,lets:=upd y.lets s 1 }
def let1 (c:Cfg) (s:Nat) (y:Lt):Lt :=
 if (y.st.slaves s).pipe.length < 2 then
  match firstK (letM c s y) 3 with
  | none => y
  | some k => match (y.st.ports (((y.st.slaves s).last + k) % 3)).queue with
   | [] => y
   | n :: rest => letDo c s (((y.st.slaves s).last + k) % 3) n rest y
 else y
def askDo (who:Nat) (x:Cy × List Ev):Cy × List Ev :=
 ({ x.1 with ports:=upd x.1.ports who { x.1.ports who with queue:=(x.1.ports who).queue ++ [(x.1.ports who).next],next:=(x.1.ports who).next + 1 } },x.2 ++ [⟨1,who,(x.1.ports who).next⟩])
def ask1 (c:Cfg) (inp:Inp) (who:Nat) (x:Cy × List Ev):Cy × List Ev :=
 if inp.send.getD who false = true ∧ (x.1.ports who).queue.length < 2 ∧ (x.1.ports who).next < (c.prog who).length then askDo who x else x
def tellAll (inp:Inp) (x:Cy × List Ev):Cy × List Ev:=foldN (tell1 inp) 3 x
def workAll (c:Cfg) (inp:Inp) (x:Cy × List Ev):Cy × List Ev:=foldN (work1 c inp) 4 x
def letAll (c:Cfg) (st:Cy):Lt:=foldN (let1 c) 4 ⟨st,fun _ => false,fun _ => 0⟩
def askAll (c:Cfg) (inp:Inp) (x:Cy × List Ev):Cy × List Ev:=foldN (ask1 c inp) 3 x
def step (c:Cfg) (inp:Inp) (st:Cy):Cy × List Ev :=
 askAll c inp ((letAll c (workAll c inp (tellAll inp (st,[]))).1).st,(workAll c inp (tellAll inp (st,[]))).2)
def lets (c:Cfg) (inp:Inp) (st:Cy):Nat → Nat:=(letAll c (workAll c inp (tellAll inp (st,[]))).1).lets
def cyc (c:Cfg) (inp:Inp) (st:Cy):Cy:=(step c inp st).1
def evs (c:Cfg) (inp:Inp) (st:Cy):List Ev:=(step c inp st).2
def runC (c:Cfg):List Inp → Cy → Cy
 | [],st => st
 | i :: rest,st => runC c rest (cyc c i st)
def cy0:Cy:=⟨List.replicate 64 0,List.replicate 6 (-1),fun _ => ⟨0,[],[],3⟩,fun _ => ⟨[],[],2⟩,[]⟩
end Go.Proofs.YtenjbhbcacocjaaGreat
namespace Go.Proofs.YtenjbhbcacocjaaGreat
open Go.RowKit
def ety (κ:Nat):TypeId:=if κ < 2 then 3 else if κ = 2 then 49 else if κ = 3 then 62 else if κ = 4 then 88 else if κ < 8 then 3 else if κ < 15 then 64 else if κ < 19 then 88 else 56
def esz (κ:Nat):Nat:=if κ < 2 then 1 else if κ = 2 then 4 else if κ = 3 then 3 else if κ = 4 then 5 else if κ < 8 then 1 else if κ < 15 then 3 else if κ < 19 then 5 else 3
structure Raw (w:World) (base:Nat) (V:Nat → Value) (N:Nat → Nat) (C:Nat → List Value):Prop where
 own:∀ κ,κ < 20 → OwnR w base (ety κ) (esz κ) (V κ) (N κ) (C κ)
 ap:∀ κ μ,κ < 20 → μ < 20 → κ ≠ μ → Apart (V κ) (V μ)
def Free (V:Nat → Value) (b:Nat):Prop:=∀ κ,κ < 20 → (V κ).ownBlock ≠ some b
theorem Raw.lt {w:World} {base:Nat} {V:Nat → Value} {N:Nat → Nat} {C:Nat → List Value} (h:Raw w base V N C) {κ k:Nat} (hκ:κ < 20) (hk:(V κ).ownBlock = some k):base ≤ k ∧ k < w.heap.size:=OwnR.lt (h.own κ hκ) k hk
theorem Raw.kept {w w':World} {base:Nat} {V:Nat → Value} {N:Nat → Nat} {C:Nat → List Value} (h:Raw w base V N C) (hk:∀ b,b < w.heap.size → ¬ Free V b → w'.heap[b]? = w.heap[b]?):Raw w' base V N C :=
 ⟨fun κ hκ => (h.own κ hκ).kept fun k hk2 => hk k (h.lt hκ hk2).2 fun hf => hf κ hκ hk2,h.ap⟩
theorem Raw.below {w w':World} {base:Nat} {V:Nat → Value} {N:Nat → Nat} {C:Nat → List Value} (h:Raw w base V N C) (hb:Below w.heap.size w w'):Raw w' base V N C:=h.kept fun b hlt _ => hb.block b hlt
theorem Raw.chg {w w':World} {base:Nat} {V:Nat → Value} {N:Nat → Nat} {C:Nat → List Value} (h:Raw w base V N C) {κ n:Nat} {v:Value} {c:List Value} (hκ:κ < 20) (hk:∀ b,b < w.heap.size → (V κ).ownBlock ≠ some b → w'.heap[b]? = w.heap[b]?)
  (ho:OwnR w' base (ety κ) (esz κ) v n c) (hv:∀ k,v.ownBlock = some k → (V κ).ownBlock = some k ∨ w.heap.size ≤ k):Raw w' base (upd V κ v) (upd N κ n) (upd C κ c):=by
 refine ⟨fun μ hμ => ?_,fun μ ν hμ hν hne => ?_⟩
 ·by_cases e:μ = κ
  ·subst e;simp only [upd_same];exact ho
  ·simp only [upd_other _ _ e]
   exact (h.own μ hμ).kept fun k hk2 => hk k (h.lt hμ hk2).2 (fun hk3 => h.ap μ κ hμ hκ e k hk2 hk3)
 ·have key:∀ {ρ:Nat},ρ < 20 → ρ ≠ κ → Apart (V ρ) v:=fun {ρ} hρ e k hk1 hk2 => by
   rcases hv k hk2 with h1 | h1
   ·exact h.ap ρ κ hρ hκ e k hk1 h1
   ·have:=(h.lt hρ hk1).2;omega
  by_cases e1:μ = κ
  ·subst e1
   simp only [upd_same,upd_other _ _ (Ne.symm hne)]
   exact (key hν (Ne.symm hne)).symm
  ·by_cases e2:ν = κ
   ·subst e2
    simp only [upd_same,upd_other _ _ e1]
    exact key hμ e1
   ·simp only [upd_other _ _ e1,upd_other _ _ e2]
    exact h.ap μ ν hμ hν hne
theorem Free.chg {V:Nat → Value} {b κ:Nat} {v:Value} {w:World} (h:Free V b) (hb:b < w.heap.size) (hv:∀ k,v.ownBlock = some k → (V κ).ownBlock = some k ∨ w.heap.size ≤ k) (hκ:κ < 20):Free (upd V κ v) b:=by
 intro μ hμ e
 by_cases e1:μ = κ
 ·subst e1
  rw [upd_same] at e
  rcases hv b e with h1 | h1
  ·exact h μ hμ h1
  ·omega
 ·rw [upd_other _ _ e1] at e;exact h μ hμ e
theorem OwnR.get {w:World} {base e sz g off n cap:Nat} {xs:List Value} (h:OwnR w base e sz (.slice (some ⟨g,off,none⟩) n cap) n xs) (j:Nat) (hj:j < n * sz):w.cell? ⟨g,off + j,none⟩ = xs[j]?:=by
 obtain ⟨hl,h2⟩:=h
 rcases h2 with ⟨h2,_⟩ | ⟨g', off', cap', cur,hv,hg,hh,hle,hmax,hsz,hc⟩
 ·cases h2
 ·simp only [Value.slice.injEq,Option.some.injEq,Addr.mk.injEq,and_true] at hv
  obtain ⟨⟨rfl,rfl⟩,_,rfl⟩:=hv
  simp only [World.cell?,hh]
  rw [hc j hj]
  have:j < xs.length:=by rw [hl];exact hj
  simp [this]
theorem OwnR.unfrozen {w:World} {base e sz g off n cap:Nat} {xs:List Value} (h:OwnR w base e sz (.slice (some ⟨g,off,none⟩) n cap) n xs) (o:Nat):w.frozen? ⟨g,o,none⟩ = false:=by
 obtain ⟨hl,h2⟩:=h
 rcases h2 with ⟨h2,_⟩ | ⟨g', off', cap', cur,hv,hg,hh,_⟩
 ·cases h2
 ·simp only [Value.slice.injEq,Option.some.injEq,Addr.mk.injEq,and_true] at hv
  obtain ⟨⟨rfl,rfl⟩,_,rfl⟩:=hv
  simp [World.frozen?,hh]
theorem OwnR.put {w:World} {base e sz g off n cap:Nat} {xs:List Value} (h:OwnR w base e sz (.slice (some ⟨g,off,none⟩) n cap) n xs) (j:Nat) (hj:j < n * sz) (u:Value):OwnR (w.setCell ⟨g,off + j,none⟩ u) base e sz (.slice (some ⟨g,off,none⟩) n cap) n (xs.set j u):=by
 obtain ⟨hl,h2⟩:=h
 rcases h2 with ⟨h2,_⟩ | ⟨g', off', cap', cur,hv,hg,hh,hle,hmax,hsz,hc⟩
 ·cases h2
 ·simp only [Value.slice.injEq,Option.some.injEq,Addr.mk.injEq,and_true] at hv
  obtain ⟨⟨rfl,rfl⟩,_,rfl⟩:=hv
  refine ⟨by simpa using hl,.inr ⟨g,off,cap,cur.set! (off + j) u,rfl,hg,?_,hle,hmax,by simpa using hsz,fun i hi => ?_⟩⟩
  ·simp [World.setCell,Array.getElem?_modify,hh]
  ·have hjl:j < xs.length:=by rw [hl];exact hj
   have hjc:off + j < cur.size:=by
    have:n * sz ≤ cap * sz:=Nat.mul_le_mul_right _ hle
    omega
   by_cases e:i = j
   ·subst e
    simp [Array.set!_eq_setIfInBounds,Array.getElem?_setIfInBounds,hjc,hjl]
   ·rw [List.getElem?_set_ne (Ne.symm e),← hc i hi]
    simp only [Array.set!_eq_setIfInBounds,Array.getElem?_setIfInBounds]
    rw [if_neg (by omega)]
theorem Raw.set {w:World} {base:Nat} {V:Nat → Value} {N:Nat → Nat} {C:Nat → List Value} (h:Raw w base V N C) {κ g off cap j:Nat} (hκ:κ < 20) (hV:V κ = .slice (some ⟨g,off,none⟩) (N κ) cap) (hj:j < N κ * esz κ) (u:Value):Raw (w.setCell ⟨g,off + j,none⟩ u) base V N (upd C κ ((C κ).set j u)):=by
 have ho:=h.own κ hκ
 rw [hV] at ho
 have:=h.chg (w':=w.setCell ⟨g,off + j,none⟩ u) (κ:=κ) (n:=N κ) (v:=V κ) (c:=(C κ).set j u) hκ (fun b _ hb => by
   rw [Below.heap_setCell _ _ _ _ (by show b ≠ g;intro e;subst e;exact hb (by rw [hV];rfl))]) (by rw [hV];exact ho.put j hj u) (fun k hk => .inl hk)
 have e1:upd V κ (V κ) = V:=by funext i;by_cases e:i = κ <;> simp [upd,e]
 have e2:upd N κ (N κ) = N:=by funext i;by_cases e:i = κ <;> simp [upd,e]
 rw [e1,e2] at this
 exact this
theorem OwnR.addr {w:World} {base e sz n:Nat} {v:Value} {xs:List Value} (h:OwnR w base e sz v n xs) (hn:n ≠ 0):∃ g off cap,v = .slice (some ⟨g,off,none⟩) n cap ∧ n ≤ cap ∧ cap ≤ 9223372036854775807 ∧ base ≤ g ∧ g < w.heap.size:=by
 have hlt:=h.lt
 obtain ⟨hl,h2⟩:=h
 rcases h2 with ⟨_,h2⟩ | ⟨g,off,cap,cur,rfl,hg,hh,hle,hmax,_⟩
 ·exact absurd h2 hn
 ·exact ⟨g,off,cap,rfl,hle,by unfold maxLen at hmax;omega,hg,(hlt g rfl).2⟩
theorem OwnR.form {w:World} {base e sz n:Nat} {v:Value} {xs:List Value} (h:OwnR w base e sz v n xs):∃ a cap,v = .slice a n cap ∧ n ≤ cap ∧ cap ≤ 9223372036854775807:=by
 obtain ⟨hl,h2⟩:=h
 rcases h2 with ⟨rfl,rfl⟩ | ⟨g,off,cap,cur,rfl,hg,hh,hle,hmax,_⟩
 ·exact ⟨none,0,rfl,by omega,by omega⟩
 ·exact ⟨_,cap,rfl,hle,by unfold maxLen at hmax;omega⟩
theorem OwnR.tail1 {w:World} {base e sz g off n cap:Nat} {xs:List Value} (h:OwnR w base e sz (.slice (some ⟨g,off,none⟩) n cap) n xs) (hn:n ≠ 0) :
  OwnR w base e sz (.slice (if cap = 1 then some ⟨g,off,none⟩ else some ⟨g,off + sz,none⟩) (n - 1) (cap - 1)) (n - 1) (xs.drop sz):=by
 obtain ⟨hl,h2⟩:=h
 rcases h2 with ⟨h2,_⟩ | ⟨g', off', cap', cur,hv,hg,hh,hle,hmax,hsz,hc⟩
 ·cases h2
 ·simp only [Value.slice.injEq,Option.some.injEq,Addr.mk.injEq,and_true] at hv
  obtain ⟨⟨rfl,rfl⟩,_,rfl⟩:=hv
  have hm:(n - 1) * sz + sz = n * sz:=by rw [← Nat.succ_mul];congr 1;omega
  have hm2:(cap - 1) * sz + sz = cap * sz:=by rw [← Nat.succ_mul];congr 1;omega
  refine ⟨by rw [List.length_drop,hl];omega,.inr ?_⟩
  by_cases e1:cap = 1
  ·rw [if_pos e1]
   exact ⟨g,off,cap - 1,cur,rfl,hg,hh,by omega,by omega,by omega,fun j hj => by
    have:n - 1 = 0:=by omega
    rw [this] at hj;omega⟩
  ·rw [if_neg e1]
   refine ⟨g,off + sz,cap - 1,cur,rfl,hg,hh,by omega,by omega,by omega,fun j hj => ?_⟩
   rw [show off + sz + j = off + (sz + j) by omega,hc (sz + j) (by omega),List.getElem?_drop]
theorem run_copy_rows {P:Program} (w:World) (dT sT ty elem:TypeId) (sz b o dLen dCap:Nat) (a:Addr) (sLen sCap k:Nat) (cs:List Value)
  (hu:P.underlying dT = some (.slice elem)) (hs:(P.info? elem).map (·.size) = some sz) (hk:k = Nat.min sLen dLen) (hn:cs.length = k * sz)
  (hsrc:∀ j v,cs[j]? = some v → w.cell? (a.add j) = some v) (hc:∀ j,j < cs.length → (w.cell? ⟨b,o + j,none⟩).isSome = true) (hf:∀ j,j < cs.length → w.frozen? ⟨b,o + j,none⟩ = false) (h1:∀ v ∈ cs,v.oneCell' = true) :
  (Builtin.copy_ #[dT,sT] ty #[.slice (some ⟨b,o,none⟩) dLen dCap,.slice (some a) sLen sCap]).run P w = .ok (goInt k) (w.setCells b o cs):=by
 have hl:=run_loadCells_list (P:=P) w a cs hsrc
 have hst:=run_storeCells_cells (P:=P) b o cs 0 w (by simpa using hc) (by simpa using hf) h1
 cases hq:P.info? elem with
 | none => simp [hq] at hs
 | some i =>
  have hi:i.size = sz:=by simpa [hq] using hs
  simp [Builtin.copy_,run_underlying hu,Builtin.lenOf,Builtin.firstCells,sizeOf,typeInfo,hq,hi,← hk,← hn,hl,hst]
theorem flat_rep {α:Type} (xs:List α) (i j:Nat) (hj:j < xs.length):∀ (k:Nat),i < k → ((List.replicate k xs).flatten)[i * xs.length + j]? = xs[j]?
 | 0,h => absurd h (Nat.not_lt_zero _)
 | k + 1,h => by
  rw [List.replicate_succ,List.flatten_cons]
  cases i with
  | zero => rw [Nat.zero_mul,Nat.zero_add,List.getElem?_append_left hj]
  | succ i =>
   have e:(i + 1) * xs.length = xs.length + i * xs.length:=by rw [Nat.add_mul,Nat.one_mul,Nat.add_comm]
   rw [e,Nat.add_assoc,List.getElem?_append_right (Nat.le_add_right _ _),Nat.add_sub_cancel_left]
   exact flat_rep xs i j hj k (by omega)
theorem flat_len {α:Type} (xs:List α) (k:Nat):((List.replicate k xs).flatten).length = k * xs.length:=by
 rw [List.length_flatten,List.map_replicate,List.sum_replicate_nat]
theorem flatR_mem {α:Type} (xs:List α) (k:Nat) (v:α) (h:v ∈ (List.replicate k xs).flatten):v ∈ xs:=by
 rw [List.mem_flatten] at h
 obtain ⟨l,h1,h2⟩:=h
 rw [(List.mem_replicate.1 h1).2] at h2
 exact h2
theorem div_row {j sz k:Nat} (h:j < k * sz):∃ i r,i < k ∧ r < sz ∧ j = i * sz + r:=by
 have hs:0 < sz:=by cases sz with | zero => simp at h | succ n => omega
 refine ⟨j / sz,j % sz,?_,Nat.mod_lt _ hs,?_⟩
 ·rw [Nat.div_lt_iff_lt_mul hs];exact h
 ·rw [Nat.mul_comm];exact (Nat.div_add_mod j sz).symm
theorem belowSet {B:Nat} {a:World} (b:Nat) (hb:B ≤ b):∀ (vs:List Value) (o:Nat) {w:World},Below B a w → Below B a (w.setCells b o vs)
 | [],_,_,h => h
 | v :: vs,o,_,h => belowSet b hb vs (o + 1) (h.setCell (p:=⟨b,o,none⟩) hb v)
theorem someSet (b:Nat):∀ (vs:List Value) (o:Nat) (w:World) (q:Addr),(w.cell? q).isSome = true → ((w.setCells b o vs).cell? q).isSome = true
 | [],_,_,_,h => h
 | v :: vs,o,w,q,h => someSet b vs (o + 1) (w.setCell ⟨b,o,none⟩ v) q (by
  by_cases e:q = ⟨b,o,none⟩
  ·subst e;rw [World.cell?_setCell_same' _ _ _ h];rfl
  ·have e2:(w.setCell ⟨b,o,none⟩ v).cell? q = w.cell? q:=by apply World.cell?_setCell_other;exact fun h => e h.symm
   rw [e2];exact h)
structure RepI (w0:World) (g N:Nat) (xs:List Value) (n:Nat) (w:World):Prop where
 rws:∀ i,i < n → ∀ j,j < xs.length → w.cell? ⟨g,i * xs.length + j,none⟩ = xs[j]?
 sm:∀ o,o < N * xs.length → (w.cell? ⟨g,o,none⟩).isSome = true
 fz:∀ o,o < N * xs.length → w.frozen? ⟨g,o,none⟩ = false
 bel:Below w0.heap.size w0 w
theorem RepI.more {w0 w:World} {g N n k:Nat} {xs:List Value} (h:RepI w0 g N xs n w) (hk:n + k ≤ N) (hg:w0.heap.size ≤ g):RepI w0 g N xs (n + k) (w.setCells g (n * xs.length) (List.replicate k xs).flatten):=by
 have hin:∀ j,j < ((List.replicate k xs).flatten).length → (w.cell? ⟨g,n * xs.length + j,none⟩).isSome = true:=fun j hj => by
  rw [flat_len] at hj
  refine h.sm _ ?_
  have:(n + k) * xs.length ≤ N * xs.length:=Nat.mul_le_mul_right _ hk
  rw [Nat.add_mul] at this
  omega
 refine ⟨fun i hi j hj => ?_,fun o ho => ?_,fun o ho => ?_,belowSet g hg _ _ h.bel⟩
 ·by_cases hlt:i < n
  ·rw [World.cell?_setCells_out]
   ·exact h.rws i hlt j hj
   ·intro _ _
    left
    have:(i + 1) * xs.length ≤ n * xs.length:=Nat.mul_le_mul_right _ hlt
    rw [Nat.add_mul,Nat.one_mul] at this
    show i * xs.length + j < n * xs.length
    omega
  ·obtain ⟨m,rfl⟩:∃ m,i = n + m:=⟨i - n,by omega⟩
   have hm:m * xs.length + j < ((List.replicate k xs).flatten).length:=by
    rw [flat_len]
    have:(m + 1) * xs.length ≤ k * xs.length:=Nat.mul_le_mul_right _ (by omega)
    rw [Nat.add_mul,Nat.one_mul] at this
    omega
   have:=World.cell?_setCells_in g _ (n * xs.length) w hin _ hm
   rw [show (n + m) * xs.length + j = n * xs.length + (m * xs.length + j) by rw [Nat.add_mul,Nat.add_assoc],this,← flat_rep xs m j hj k (by omega)]
   rw [List.getElem?_eq_getElem hm]
 ·exact someSet _ _ _ _ _ (h.sm o ho)
 ·rw [World.frozen?_setCells];exact h.fz o ho
theorem RepI.copy {w0 w:World} {g N n k T e:Nat} {xs:List Value} (h:RepI w0 g N xs n w) (hu:Tryz.prog.underlying T = some (.slice e)) (hs:(Tryz.prog.info? e).map (·.size) = some xs.length) (h1:∀ v ∈ xs,v.oneCell' = true) (hk:k = min n (N - n)) (hn:n ≤ N) (ty:TypeId) (d1 d2:Nat) :
  (Builtin.copy_ #[T,T] ty #[.slice (some ⟨g,n * xs.length,none⟩) (N - n) d1,.slice (some ⟨g,0,none⟩) n d2]).run Tryz.prog w = .ok (goInt k) (w.setCells g (n * xs.length) (List.replicate k xs).flatten):=by
 refine run_copy_rows w T T ty e xs.length g (n * xs.length) (N - n) d1 ⟨g,0,none⟩ n d2 k _ hu hs hk (flat_len xs k) (fun j v hv => ?_) (fun j hj => ?_) (fun j hj => ?_) fun v hv => h1 v (flatR_mem xs k v hv)
 ·have hj:=(List.getElem?_eq_some_iff.1 hv).1
  rw [flat_len] at hj
  obtain ⟨i,r,hi,hr,rfl⟩:=div_row hj
  rw [flat_rep xs i r hr k hi] at hv
  rw [Addr.add_lit,Nat.zero_add,h.rws i (by omega) r hr]
  exact hv
 all_goals
  rw [flat_len] at hj
  have:(n + k) * xs.length ≤ N * xs.length:=Nat.mul_le_mul_right _ (by omega)
  rw [Nat.add_mul] at this
 ·exact h.sm _ (by omega)
 ·exact h.fz _ (by omega)
theorem RepI.first {w0 w:World} {g N b o k T e:Nat} {xs:List Value} (h:RepI w0 g N xs 0 w) (hu:Tryz.prog.underlying T = some (.slice e)) (hs:(Tryz.prog.info? e).map (·.size) = some xs.length) (h1:∀ v ∈ xs,v.oneCell' = true) (hk:k = min 1 N) (hc:∀ j,j < xs.length → w.cell? ⟨b,o + j,none⟩ = xs[j]?) (ty:TypeId) (d1 d2:Nat) :
  (Builtin.copy_ #[T,T] ty #[.slice (some ⟨g,0,none⟩) N d1,.slice (some ⟨b,o,none⟩) 1 d2]).run Tryz.prog w = .ok (goInt k) (w.setCells g (0 * xs.length) (List.replicate k xs).flatten):=by
 rw [Nat.zero_mul]
 refine run_copy_rows w T T ty e xs.length g 0 N d1 ⟨b,o,none⟩ 1 d2 k _ hu hs hk (flat_len xs k) (fun j v hv => ?_) (fun j hj => ?_) (fun j hj => ?_) fun v hv => h1 v (flatR_mem xs k v hv)
 ·have hj:=(List.getElem?_eq_some_iff.1 hv).1
  rw [flat_len] at hj
  obtain ⟨i,r,hi,hr,rfl⟩:=div_row hj
  rw [flat_rep xs i r hr k hi] at hv
  have hi0:i = 0:=by omega
  subst hi0
  rw [Addr.add_lit,Nat.zero_mul,Nat.zero_add,hc r hr]
  exact hv
 all_goals
  rw [flat_len] at hj
  have:k * xs.length ≤ N * xs.length:=Nat.mul_le_mul_right _ (by omega)
 ·exact h.sm _ (by omega)
 ·exact h.fz _ (by omega)
theorem RepI.new {w w':World} {g N cap e:Nat} {xs:List Value} {α:Type} {f:α → List Value} {x:α} (h:Owns w' w.heap.size e xs.length f (.slice (some ⟨g,0,none⟩) N cap) (List.replicate N x)) (hf:(f x).length = xs.length) (hb:Below w.heap.size w w'):RepI w g N xs 0 w':=by
 unfold Owns at h
 rw [List.length_replicate] at h
 have hl:((List.replicate N x).flatMap f).length = N * xs.length:=by
  rw [List.flatMap_replicate,flat_len,hf]
 refine ⟨fun i hi => absurd hi (Nat.not_lt_zero _),fun o ho => ?_,fun o _ => OwnR.unfrozen h o,hb⟩
 have:=OwnR.get h o ho
 rw [Nat.zero_add] at this
 rw [this,List.getElem?_eq_getElem (by rw [hl];exact ho)];rfl
theorem RepI.arr {w0 w:World} {g N:Nat} {xs:List Value} (h:RepI w0 g N xs N w) (hN:N ≤ 1000) (hg:g < w.heap.size):Arr w w.heap.size xs.length (.slice (some ⟨g,0,none⟩) N N) (List.replicate N xs):=by
 refine ⟨some ⟨g,0,none⟩,N,by rw [List.length_replicate],by rw [List.length_replicate];exact Nat.le_refl _,by omega,by rw [List.length_replicate];omega,(fun h => nomatch h),fun hn => ⟨g,0,rfl,hg,fun t ht j hj => ?_⟩⟩
 rw [List.length_replicate] at ht
 rw [Nat.zero_add,h.rws t ht j hj]
 simp [List.getD,ht]
end Go.Proofs.YtenjbhbcacocjaaGreat
