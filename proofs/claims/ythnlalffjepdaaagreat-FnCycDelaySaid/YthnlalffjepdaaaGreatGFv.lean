/- MemOk and AtmOk of both. -/
import Derived.Test.YthnlalffjepdaaaGreatGLib
import Derived.Lib.LazyBuf
import Derived.Deep.RegionHeld3
set_option linter.unusedVariables false
set_option linter.unusedSimpArgs false
namespace Go.Proofs.YthnlalffjepdaaaGreat
open Go.RowKit
def Callable (K:FuncId):Prop:=∀(args:Array Value) (w:World),(callFunc K args).run Tryz.prog w=.ok (.enter K args) w
theorem callable_of {K : FuncId} {fn : Func} (h : Tryz.prog.funcs[K]? = some fn) (hn : (fn.name == "runtime.NumGoroutine") = false) (hb : fn.body.isNone = false) : Callable K := by
 intro args w;have hn' : ¬ fn.name = "runtime.NumGoroutine" := by simpa using hn
 have hb':¬fn.body=none:=by intro h';rw[h']at hb;simp at hb
 simp[callFunc,h,hn', hb', go_sem]
def idxP {α:Type} (p:α→Bool) (xs:List α):Int:=match xs.findIdx? p with|some k=>k|none=>-1
theorem idxP_hit {α:Type} (p:α→Bool) (xs:List α) (k:Nat) (d:α) (hk:k<xs.length) (h:p (xs.getD k d)=true) (hno:∀j,j<k→p (xs.getD j d)=false):idxP p xs=k:=by
 have:xs.findIdx? p=some k:=by
  rw[List.findIdx?_eq_some_iff_getElem];refine⟨hk,by simpa[List.getD,hk]using h,fun j hj=>?_⟩;have hj2:j<xs.length:=by omega
  have:=hno j hj;simp[List.getD,hj2]at this;simp[this]
 simp[idxP,this]
theorem idxP_miss {α:Type} (p:α→Bool) (xs:List α) (d:α) (hno:∀j,j<xs.length→p (xs.getD j d)=false):idxP p xs = -1:=by
 have:xs.findIdx? p=none:=by
  rw[List.findIdx?_eq_none_iff];intro x hx;obtain⟨i,hi,rfl⟩:=List.mem_iff_getElem.1 hx;have:=hno i hi;simpa[List.getD,hi]using this
 simp[idxP,this]
theorem idxP_any {α:Type} (p:α→Bool) (xs:List α):decide (0≤idxP p xs)=xs.any p:=by
 unfold idxP;rcases h:xs.findIdx? p with _|k
 ·rw[List.findIdx?_eq_none_iff]at h;simp only[Int.reduceNeg,Int.reduceLE,decide_false]
  symm;rw[List.any_eq_false];intro x hx;simp[h x hx]
 ·rw[List.findIdx?_eq_some_iff_getElem]at h;obtain⟨hk,h1,_⟩:=h;simp only[Int.natCast_nonneg,decide_true]
  symm;rw[List.any_eq_true];exact⟨_,List.getElem_mem hk,h1⟩
set_option maxHeartbeats 1000000 in
theorem idxInt_any (K : FuncId) (cap : Array Value) (hK : Callable K) (p : Int → Bool) (v : Value) (xs : List Int) (B : Nat) (w : World) (hv : Ints w B v xs)
  (hf:∀x,I64 x→Calls Tryz.prog K (#[.int .i64 x]++cap) w fun e w' => e=.returned (.bool (p x))∧w=w') :
  Calls Tryz.prog 120 #[v,.func (.func K) #[] cap] w fun e w' => e=.returned (.int .i64 (idxP p xs))∧w=w':=by
 obtain⟨ao,cap', rfl,hlc,hcap,hln,hni,hr⟩:=hv.opened;have HV:=hid hv;clear hv;have HF:=hid hf;clear hf;have hK2:=fun args w=>hK args w
 go_enter Tryz.func120,Tryz.ntmps120
 go_wp2_with fail
 go_loop [8] (fun i=>∃k:Nat,k≤xs.length∧i=.int .i64 k∧∀j,j<k→p (xs.getD j 0)=false) (fun i=>xs.length - (intOf i).toNat)
 case atStart=>exact⟨0,Nat.zero_le _,rfl,by simp⟩
 case round=>
  obtain⟨k,hk,rfl,hno⟩:=hrel;have HN:=hid hno;clear hno;by_cases hlt:k<xs.length
  ·obtain⟨b,off,rfl,hb,hc⟩:=hr (by omega);have hck:=hc k hlt;have hx64:I64 (xs.getD k 0):=HV.out.2 _ (by simp[List.getD,hlt]);obtain⟨x,hx⟩:∃x,x=xs.getD k 0:=⟨_,rfl⟩
   rw[←hx]at hck hx64;have HX:=hid hx;have HI:=hid hx64;clear hx hc hr hx64
   go_wp2_with fail
   refine(HF.out x HI.out).mono ?_;rintro e w' ⟨rfl,rfl⟩;rcases hp:p x with _|_
   ·have HQ:=hid (all_step HN.out (show p (xs.getD k 0)=false by rw[←HX.out];exact hp))
    go_wp2_with fail
    go_round
    case rel=>exact⟨k+1,by omega,by go_num,HQ.out⟩
    case measure=>simp[intOf];omega
   ·have HQ:=hid (idxP_hit p xs k 0 hlt (by rw[←HX.out];exact hp) HN.out)
    go_wp2_with fail
    go_ret
    exact⟨by rw[HQ.out];rfl,rfl⟩
  ·have HF2:=hid (idxP_miss p xs 0 (fun j hj=>HN.out j (by omega)))
   go_wp2_with fail
   go_ret
   exact⟨by rw[HF2.out];rfl,rfl⟩
set_option maxHeartbeats 1000000 in
theorem hasInt_any (K : FuncId) (cap : Array Value) (hK : Callable K) (p : Int → Bool) (v : Value) (xs : List Int) (B : Nat) (w : World) (hv : Ints w B v xs)
  (hf:∀x,I64 x→Calls Tryz.prog K (#[.int .i64 x]++cap) w fun e w' => e=.returned (.bool (p x))∧w=w') :
  Calls Tryz.prog 69 #[v,.func (.func K) #[] cap] w fun e w' => e=.returned (.bool (xs.any p))∧w=w':=by
 have HA:=hid (idxP_any p xs);obtain⟨y,hy⟩:∃y,y=xs.any p:=⟨_,rfl⟩
 rw[←hy]at HA ⊢;clear hy
 go_enter Tryz.func69,Tryz.ntmps69
 go_wp2_with fail
 refine(idxInt_any K cap hK p v xs B _ hv hf).mono ?_;rintro e w' ⟨rfl,rfl⟩
 go_wp2_with fail
 go_ret
 exact⟨by rw[←HA.out];rfl,rfl⟩
def rowM (r:MR):List Value:=[.int .i64 r.fr,.int .i64 r.to,.int .i64 r.sl,.bool r.only]
def MR64 (r:MR):Prop:=I64 r.fr∧I64 r.to∧I64 r.sl
def Maps (w:World) (B:Nat) (v:Value) (ms:List MR):Prop:=Arr w B 4 v (ms.map rowM)∧∀r∈ms,MR64 r
theorem Maps.below {w w':World} {B:Nat} {v:Value} {xs:List MR} (h:Maps w B v xs) (hb:Below B w w'):Maps w' B v xs:=⟨h.1.below hb,h.2⟩
theorem Maps.mono {w:World} {B B':Nat} {v:Value} {xs:List MR} (h:Maps w B v xs) (hb:B≤B'):Maps w B' v xs:=⟨h.1.mono hb,h.2⟩
theorem Maps.take {w:World} {B n cap m:Nat} {ao:Option Addr} {xs:List MR} (h:Maps w B (.slice ao n cap) xs) (hm:m≤n):Maps w B (.slice ao m cap) (xs.take m) :=
 ⟨by rw[List.map_take];exact h.1.take hm,fun x hx=>h.2 x (List.mem_of_mem_take hx)⟩
theorem Maps.opened {w : World} {B : Nat} {v : Value} {ms : List MR} (h : Maps w B v ms) :
  ∃ ao cap, v = .slice ao ms.length cap ∧ ms.length ≤ cap ∧ cap ≤ 9223372036854775807 ∧ ms.length ≤ 140737488351232 ∧ (ao = none → cap = 0) ∧
   (ms.length ≠ 0 → ∃ b off, ao = some ⟨b, off, none⟩ ∧ b < B ∧ ∀ t, t < ms.length → w.cell? ⟨b, off + t * 4, none⟩ = some (.int .i64 (ms.getD t default).fr) ∧ w.cell? ⟨b, off + t * 4 + 1, none⟩ = some (.int .i64 (ms.getD t default).to) ∧
    w.cell? ⟨b,off+t * 4+2,none⟩=some (.int .i64 (ms.getD t default).sl)∧w.cell? ⟨b,off+t * 4+3,none⟩=some (.bool (ms.getD t default).only)):=by
 obtain⟨⟨ao,cap,hv,h1,h2,h0,h9,h3⟩,_⟩:=h;simp only[List.length_map]at hv h1 h0 h3;refine⟨ao,cap,hv,h1,h2,h0,h9,fun hn=>?_⟩;obtain⟨b,off,ha,hlt,hc⟩:=h3 hn;refine⟨b,off,ha,hlt,fun t ht=>?_⟩;have e:(ms.map rowM).getD t []=rowM (ms.getD t default):=by simp[List.getD,ht]
 have k0:=hc t ht 0 (by omega);have k1:=hc t ht 1 (by omega);have k2:=hc t ht 2 (by omega);have k3:=hc t ht 3 (by omega);rw[e]at k0 k1 k2 k3;exact⟨k0,k1,k2,k3⟩
theorem getD_mem {α:Type} {xs:List α} {k:Nat} {d:α} (h:k<xs.length):xs.getD k d∈xs:=by simp[List.getD,h]
def IdxMP (p:MR→Bool) (ms:List MR) (w:World) (e:Ending) (w':World):Prop:=e=.returned (.int .i64 (idxP p ms))∧Below w.heap.size w w'
def HasMP (p:MR→Bool) (ms:List MR) (w:World) (e:Ending) (w':World):Prop:=e=.returned (.bool (ms.any p))∧Below w.heap.size w w'
set_option maxHeartbeats 1000000 in
theorem idxMap_any (K : FuncId) (cap : Array Value) (hK : Callable K) (p : MR → Bool) (v : Value) (ms : List MR) (B : Nat) (w : World) (hv : Maps w B v ms) (hB : B ≤ w.heap.size)
  (hf:∀(r:MR) (w1:World),Below w.heap.size w w1→Calls Tryz.prog K (#[.agg #[.int .i64 r.fr,.int .i64 r.to,.int .i64 r.sl,.bool r.only]]++cap) w1 fun e w' => e=.returned (.bool (p r))∧Below w1.heap.size w1 w') :
  Calls Tryz.prog 165 #[v,.func (.func K) #[] cap] w (IdxMP p ms w):=by
 obtain⟨ao,cap', rfl,hlc,hcap,hln,hni,hr⟩:=hv.opened;have HF:=hid hf;clear hf hv;have hK2:=fun args w=>hK args w
 go_enter Tryz.func165,Tryz.ntmps165
 go_wp2_with fail
 go_loopw [8] (fun i wr=>∃k:Nat,k≤ms.length∧i=.int .i64 k∧Below w.heap.size w wr∧∀j,j<k→p (ms.getD j default)=false) (fun i _=>ms.length - (intOf i).toNat)
 case atStart=>exact⟨0,Nat.zero_le _,rfl,Below.refl _ _,by simp⟩
 case round=>
  obtain⟨k,hk,rfl,hbl,hno⟩:=hrel;have HN:=hid hno;clear hno;by_cases hlt:k<ms.length
  ·obtain⟨b,off,rfl,hb,hc⟩:=hr (by omega);obtain⟨c0,c1,c2,c3⟩:=hc k hlt;obtain⟨x,hx⟩:∃x,x=ms.getD k default:=⟨_,rfl⟩
   rw[←hx]at c0 c1 c2 c3;rw[←hbl.cell (p:=⟨b,_,none⟩) (Nat.lt_of_lt_of_le hb hB)]at c0 c1 c2 c3;have HX:=hid hx;clear hx hc hr
   go_wp2_with fail
   refine(HF.out x _ hbl).mono ?_;rintro e w' ⟨rfl,hb'⟩;have hsz:=hbl.size;have HB:=hid (hbl.trans (hb'.mono hsz));clear hbl;rcases hp:p x with _|_
   ·have HQ:=hid (all_step HN.out (show p (ms.getD k default)=false by rw[←HX.out];exact hp))
    go_wp2_with fail
    go_roundw
    case rel=>exact⟨k+1,by omega,by go_num,HB.out,HQ.out⟩
    case measure=>simp[intOf];omega
   ·have HQ:=hid (idxP_hit p ms k default hlt (by rw[←HX.out];exact hp) HN.out)
    go_wp2_with fail
    go_ret
    exact⟨by rw[HQ.out];rfl,HB.out⟩
  ·have HF2:=hid (idxP_miss p ms default (fun j hj=>HN.out j (by omega)))
   go_wp2_with fail
   go_ret
   exact⟨by rw[HF2.out];rfl,hbl⟩
set_option maxHeartbeats 1000000 in
theorem hasMap_any (K : FuncId) (cap : Array Value) (hK : Callable K) (p : MR → Bool) (v : Value) (ms : List MR) (B : Nat) (w : World) (hv : Maps w B v ms) (hB : B ≤ w.heap.size)
  (hf:∀(r:MR) (w1:World),Below w.heap.size w w1→Calls Tryz.prog K (#[.agg #[.int .i64 r.fr,.int .i64 r.to,.int .i64 r.sl,.bool r.only]]++cap) w1 fun e w' => e=.returned (.bool (p r))∧Below w1.heap.size w1 w') :
  Calls Tryz.prog 118 #[v,.func (.func K) #[] cap] w (HasMP p ms w):=by
 have HA:=hid (idxP_any p ms)
 go_enter Tryz.func118,Tryz.ntmps118
 go_wp2_with fail
 refine(idxMap_any K cap hK p v ms B _ hv hB hf).mono ?_;rintro e w' ⟨rfl,hb⟩
 go_wp2_with fail
 go_ret
 exact⟨by rw[←HA.out];rfl,hb⟩
set_option maxHeartbeats 1000000 in
theorem rangeOf_any (v : Value) (ms : List MR) (a : Int) (B : Nat) (w : World) (hv : Maps w B v ms) (hB : B ≤ w.heap.size) :
  Calls Tryz.prog 168 #[v,.int .i64 a] w fun e w' => e=.returned (.int .i64 (rngOf ms a))∧Below w.heap.size w w':=by
 have hE:rngOf ms a=idxP (fun r=>inB a r.fr r.to) ms:=rfl;have HE:=hid hE;clear hE;have hcl:∀(r:MR) (w1:World),Below (w.heap.size+1) (w.alloc (.cells #[.int .i64 a] 3)) w1→Calls Tryz.prog 186 (#[.agg #[.int .i64 r.fr,.int .i64 r.to,.int .i64 r.sl,.bool r.only]]++#[.pointer (some ⟨w.heap.size,0,none⟩)]) w1 fun e w' => e=.returned (.bool (inB a r.fr r.to))∧Below w1.heap.size w1 w':=by
  intro r w1 hb;have hc:w1.cell? ⟨w.heap.size,0,none⟩=some (.int .i64 a):=by
   rw[hb.cell (p:=⟨w.heap.size,0,none⟩) (by simp)];simp
  have hsz:=hb.size;simp only[World.size_alloc]at hsz;have hsz2:w.heap.size<w1.heap.size:=by omega
  clear hb hsz
  go_enter Tryz.func186,Tryz.ntmps186
  go_wp2_with (go_at_call 60;refine(in_any _ _ _ _).mono ?_;rintro e w' ⟨rfl,rfl⟩)
  go_ret
  exact⟨rfl,(Below.refl _ _).alloc (Nat.le_refl _) _⟩
 have HC:=hid hcl;clear hcl
 go_enter Tryz.func168,Tryz.ntmps168
 go_wp2_with fail
 refine(idxMap_any 186 #[.pointer (some ⟨w.heap.size,0,none⟩)] (callable_of Tryz.func186 (by kernel_rfl) (by kernel_rfl)) (fun r=>inB a r.fr r.to) v ms B _ (hv.below ((Below.refl _ _).alloc hB _)) (by simp;omega) (fun r w1 hb=>HC.out r w1 (by simpa using hb))).mono ?_;rintro e w' ⟨rfl,hb⟩
 go_wp2_with fail
 go_ret
 exact⟨by rw[HE.out];rfl,((Below.refl _ _).alloc (Nat.le_refl _) _).trans (hb.mono (by simp))⟩
def over (r q:MR):Bool:=decide (q.fr≤r.to)&&decide (r.fr≤q.to)
theorem rangeOk_eq (ms:List MR) (k:Nat) (x:MR) (hx:x=ms.getD k default):rangeOk ms k=(inB x.fr 0 63&&inB x.to x.fr 63&&inB x.sl 0 2&&!((ms.take k).any (over x))):=by
 subst hx;unfold rangeOk over;have e1:∀q:MR,(!(decide (((ms.getD k default).fr)≤q.to)&&decide (q.fr≤(ms.getD k default).to)))=!(decide (q.fr≤(ms.getD k default).to)&&decide ((ms.getD k default).fr≤q.to)):=fun q=>by rw[Bool.and_comm]
 rw[List.not_any_eq_all_not];simp only[e1,Function.comp_def]
 congr 1
 congr 1
 rw[Bool.eq_iff_iff];simp only[inB,Bool.and_eq_true,decide_eq_true_eq];omega
theorem mapOk_bad {ms:List MR} {k:Nat} (hk:k<ms.length) (h:rangeOk ms k=false):mapOk ms=false:=by
 unfold mapOk;rw[Bool.and_eq_false_iff];right;rw[List.all_eq_false];exact⟨k,by simpa using hk,by simp[h]⟩
theorem mapOk_all {ms:List MR} (h:∀j,j<ms.length→rangeOk ms j=true):mapOk ms=decide (ms.length≤4):=by
 unfold mapOk;have:(List.range ms.length).all (rangeOk ms)=true:=by rw[List.all_eq_true];intro j hj;exact h j (by simpa using hj)
 rw[this,Bool.and_true]
set_option maxHeartbeats 2000000 in
theorem implMapOk_any (v : Value) (ms : List MR) (B : Nat) (w : World) (hv : Maps w B v ms) (hB : B ≤ w.heap.size) :
  Calls Tryz.prog 68 #[v] w fun e w' => e=.returned (.bool (mapOk ms))∧Below w.heap.size w w':=by
 obtain⟨ao,cap,rfl,hlc,hcap,hln,hni,hr⟩:=hv.opened
 go_enter Tryz.func68,Tryz.ntmps68
 go_wp2_with fail
 go_loopw [7] (fun i wr=>∃k:Nat,k≤ms.length∧i=.int .i64 k∧Below w.heap.size w wr∧∀j,j<k→rangeOk ms j=true) (fun i _=>ms.length - (intOf i).toNat)
 case atStart=>exact⟨0,Nat.zero_le _,rfl,Below.refl _ _,by simp⟩
 case round=>
  obtain⟨k,hk,rfl,hbl,hno⟩:=hrel;have HN:=hid hno;clear hno;by_cases hlt:k<ms.length
  ·obtain⟨b,off,rfl,hb,hc⟩:=hr (by omega);obtain⟨c0,c1,c2,c3⟩:=hc k hlt;obtain⟨x,hx⟩:∃x,x=ms.getD k default:=⟨_,rfl⟩
   rw[←hx]at c0 c1 c2 c3;rw[←hbl.cell (p:=⟨b,_,none⟩) (Nat.lt_of_lt_of_le hb hB)]at c0 c1 c2 c3;have HE:=hid (rangeOk_eq ms k x hx);clear hx hc hr;have hsz:=hbl.size;have hcl:∀(q:MR) (w1:World),Below (wr.heap.size+1) (wr.alloc (.cells #[.int .i64 x.fr,.int .i64 x.to,.int .i64 x.sl,.bool x.only] 158)) w1→Calls Tryz.prog 119 (#[.agg #[.int .i64 q.fr,.int .i64 q.to,.int .i64 q.sl,.bool q.only]]++#[.pointer (some ⟨wr.heap.size,0,none⟩)]) w1 fun e w' => e=.returned (.bool (over x q))∧Below w1.heap.size w1 w':=by
    intro q w1 hb;have d0:w1.cell? ⟨wr.heap.size,0,none⟩=some (.int .i64 x.fr):=by rw[hb.cell (p:=⟨wr.heap.size,0,none⟩) (by simp)];simp
    have d1:w1.cell? ⟨wr.heap.size,1,none⟩=some (.int .i64 x.to):=by rw[hb.cell (p:=⟨wr.heap.size,1,none⟩) (by simp)];simp
    have hsz1:=hb.size;simp only[World.size_alloc]at hsz1;have hsz2:wr.heap.size<w1.heap.size:=by omega
    clear hb hsz1 hbl c0 c1 c2 c3
    go_enter Tryz.func119,Tryz.ntmps119
    go_wp2
    all_goals
     go_ret
     exact⟨by simp[over, *];try omega,(Below.refl _ _).alloc (Nat.le_refl _) _⟩
   have HC:=hid hcl;clear hcl;have hv2:=hid (Maps.take hv (show k≤ms.length by omega))
   go_wp2_with (first
    |(go_at_call 60;refine(in_any _ _ _ _).mono ?_;rintro e w' ⟨rfl,rfl⟩)
    |(go_at_call 118;go_must (refine(hasMap_any 119 _ (callable_of Tryz.func119 (by kernel_rfl) (by kernel_rfl)) (over x) _ (ms.take k) B _ (hv2.out.below ((hbl.mono hB).trans ((Below.refl _ _).alloc (by omega) _))) (by simp;omega) (fun r w1 hb=>HC.out r w1 (by simpa using hb))).mono ?_);rintro e w' ⟨rfl,hb2⟩))
   ·have HF:=hid (mapOk_bad hlt (by rw[HE.out];simp[*]))
    go_ret
    exact⟨by rw[HF.out];rfl,hbl.trans ((Below.refl _ _).alloc (by omega) _)⟩
   ·have HF:=hid (mapOk_bad hlt (by rw[HE.out];simp[*]))
    go_ret
    exact⟨by rw[HF.out];rfl,hbl.trans ((Below.refl _ _).alloc (by omega) _)⟩
   ·have HF:=hid (mapOk_bad hlt (by rw[HE.out];simp[*]))
    go_ret
    exact⟨by rw[HF.out];rfl,hbl.trans ((Below.refl _ _).alloc (by omega) _)⟩
   ·have HF:=hid (mapOk_bad hlt (by rw[HE.out];simp only[*];simp))
    go_ret
    exact⟨by rw[HF.out];rfl,(hbl.trans ((Below.refl _ _).alloc (by omega) _)).trans (hb2.mono (by simp;omega))⟩
   ·have HQ:=hid (all_step HN.out (show rangeOk ms k=true by rw[HE.out];simp only[*];simp))
    go_roundw
    case rel=>exact⟨k+1,by omega,by go_num,(hbl.trans ((Below.refl _ _).alloc (by omega) _)).trans (hb2.mono (by simp;omega)),HQ.out⟩
    case measure=>simp[intOf];omega
  ·have HF:=hid (mapOk_all (fun j hj=>HN.out j (by omega)))
   go_wp2_with fail
   go_ret
   exact⟨by rw[HF.out];exact ret_bool (by rw[decide_eq_decide];omega),hbl⟩
theorem adrOk_eq (a m:Int) (wr:Bool):adrOk a m wr=true↔(0≤a∧a≤63∧(m=1∨m=2∨m=4)∧(wr=true∨a+m - 1≤63)):=by
 simp[adrOk,inB,or_assoc,and_assoc]
set_option maxHeartbeats 1000000 in
theorem implAdrOk_any (a m:Int) (wr:Bool) (w:World):Calls Tryz.prog 76 #[.int .i64 a,.int .i64 m,.bool wr] w fun e w' => e=.returned (.bool (adrOk a m wr))∧w=w':=by
 rcases hI:inB a 0 63 with _|_
 ·have HE:=hid (show adrOk a m wr=false by simp[adrOk,hI])
  go_enter Tryz.func76,Tryz.ntmps76
  go_wp2_with (first|(go_at_call 60;refine(in_any _ _ _ _).mono ?_;rintro e w' ⟨rfl,rfl⟩))
  all_goals
   go_ret
   exact⟨by rw[HE.out];rfl,rfl⟩
 ·have hb:0≤a∧a≤63:=by simpa[inB]using hI
  have h0:=hb.1;have h1:=hb.2;have HE:=hid (show adrOk a m wr=((m==1 || m==2 || m==4)&&(wr || decide (a+m - 1≤63))) by simp[adrOk,hI]);clear hb
  go_enter Tryz.func76,Tryz.ntmps76
  go_wp2_with (first|(go_at_call 60;refine(in_any _ _ _ _).mono ?_;rintro e w' ⟨rfl,rfl⟩))
  all_goals
   go_ret
   exact⟨by rw[HE.out];simp[*];try omega,rfl⟩
def BurstP (a m:Int) (wp:Bool) (w:World) (e:Ending) (w':World):Prop:=∃u,e=.returned u∧Ints w' w'.heap.size u (burst a m wp)∧Below w.heap.size w w' ∧ ∀k,u.ownBlock=some k→w.heap.size≤k
def burstK (a m:Int) (wp:Bool) (k:Nat):List Int:=(List.range k).map (fun(k:Nat)=>if wp then a - a % m+(a+(k:Int)) % m else a+(k:Int))
theorem burstK_len (a m:Int) (wp:Bool) (k:Nat):(burstK a m wp k).length=k:=by simp[burstK]
theorem burst_yes {a m:Int} {wp:Bool} (h:adrOk a m wp=true):burst a m wp=burstK a m wp m.toNat:=by unfold burst burstK;rw[if_pos h]
theorem burst_no {a m:Int} {wp:Bool} (h:adrOk a m wp=false):burst a m wp=[]:=by unfold burst;rw[if_neg (by simp[h])]
theorem burstK_small {a m:Int} {wp:Bool} (h0:0≤a) (h1:a≤63) (hm:m=1∨m=2∨m=4) (k:Nat) (hk:k≤4):∀x∈burstK a m wp k,I64 x:=by
 intro x hx;obtain⟨j,hj,rfl⟩:=List.mem_map.1 hx;rw[List.mem_range]at hj;unfold I64
 split <;> (rcases hm with rfl|rfl|rfl <;> omega)
def CloneP {α:Type} (f:α→List Value) (e sz:Nat) (ys:List α) (w:World) (en:Ending) (w':World):Prop :=
 ∃u,en=.returned u∧Owns w' w.heap.size e sz f u ys∧Below w.heap.size w w'
theorem Arr.fit {w:World} {B sz:Nat} {v:Value} {rows:List (List Value)} (h:Arr w B sz v rows) (hs:0<sz) (hr:∀r∈rows,r.length=sz):Arr w (min B w.heap.size) sz v rows:=by
 obtain⟨ao,cap,hv,h1,h2,h0,h9,h3⟩:=h;refine⟨ao,cap,hv,h1,h2,h0,h9,fun hn=>?_⟩;obtain⟨b,off,ha,hlt,hc⟩:=h3 hn;refine⟨b,off,ha,?_,hc⟩;have:=hc 0 (by omega) 0 hs;have hl:(rows.getD 0 []).length=sz:=hr _ (by simp[List.getD,List.getElem?_eq_getElem (show 0<rows.length by omega)]);rw[List.getElem?_eq_getElem (show 0<(rows.getD 0 []).length by omega)]at this;have hb:=World.block_lt_of_cell? w _ this;simp only at hb;omega
theorem Owns.clip {α:Type} {w:World} {base e sz:Nat} {f:α→List Value} {a:Option Addr} {c:Nat} {xs:List α} (h:Owns w base e sz f (.slice a xs.length c) xs):Owns w base e sz f (.slice a xs.length xs.length) xs:=by
 obtain⟨hl,h2⟩:=h;refine⟨hl,?_⟩;rcases h2 with⟨hv,h2⟩|⟨g,off,cap,cur,hv,hg,hh,hle,hmax,hsz,hc⟩
 ·simp only[Value.slice.injEq]at hv;obtain⟨rfl,h3,rfl⟩:=hv;exact .inl ⟨by rw[h3],h3⟩
 ·simp only[Value.slice.injEq]at hv;obtain⟨rfl,_,rfl⟩:=hv;exact .inr ⟨g,off,xs.length,cur,rfl,hg,hh,Nat.le_refl _,by omega,by have:=Nat.mul_le_mul_right sz hle;omega,hc⟩
theorem Owns.shape {α:Type} {w:World} {base e sz:Nat} {f:α→List Value} {v:Value} {xs:List α} (h:Owns w base e sz f v xs):∃a c,v=.slice a xs.length c∧xs.length≤c∧c≤9223372036854775807:=by
 obtain⟨hl,h2⟩:=h;rcases h2 with⟨rfl,h2⟩|⟨g,off,cap,cur,rfl,hg,hh,hle,hmax,_⟩
 ·exact⟨none,0,by rw[h2],by omega,by omega⟩
 ·exact⟨_,cap,rfl,hle,by unfold maxLen at hmax;omega⟩
theorem Owns.set {α:Type} {w:World} {base e sz:Nat} {f:α→List Value} {v:Value} {xs:List α} (h:Owns w base e sz f v xs) (g o:Nat) (u:Value) (hg:g<base):Owns (w.setCell ⟨g,o,none⟩ u) base e sz f v xs :=
 OwnR.kept h fun k hk=>Below.heap_setCell _ _ _ _ (by have:=(OwnR.lt h k hk).1;simp only;omega)
theorem Owns.set' {α:Type} {w:World} {base e sz:Nat} {f:α→List Value} {v:Value} {xs:List α} (h:Owns w base e sz f v xs) (g o:Nat) (u:Value) (hg:∀k,v.ownBlock=some k→k≠g):Owns (w.setCell ⟨g,o,none⟩ u) base e sz f v xs :=
 OwnR.kept h fun k hk=>Below.heap_setCell _ _ _ _ (hg k hk)
theorem Owns.draws {α:Type} {w:World} {base e sz:Nat} {f:α→List Value} {v:Value} {xs:List α} (h:Owns w base e sz f v xs) (n:Nat):Owns (w.drewN n) base e sz f v xs:=OwnR.kept h fun _ _=>rfl
set_option maxHeartbeats 1000000 in
theorem sClone_int {α : Type} (f : α → List Value) (hf : ∀ x, (f x).length = 1) (h1 : ∀ x, ∀ u ∈ f x, u.oneCell' = true) (v : Value) (ys : List α) (B : Nat) (w : World) (ha : Arr w B 1 v (ys.map f)) (hlen : ys.length * 8 ≤ 140737488355328) :
  Calls Tryz.prog 155 #[v] w (CloneP f 3 1 ys w):=by
 have ha0:=hid ha;obtain⟨ao,cap,rfl,g1,g2,g0,g9,g3⟩:=ha;simp only[List.length_map]at g1 g2 g0 ⊢;clear g3;cases ao with
 |none=>
  obtain rfl:=g9 rfl;have hy:ys=[]:=by
   rcases ys with _|⟨y,ys⟩
   ·rfl
   ·simp at g1
  subst hy;have he:=fun w=>Lib.run_eql_slice_nil (P:=Tryz.prog) w 24 3 none 0 0 0 0 Tryz.underlying24
  go_enter Tryz.func155,Tryz.ntmps155
  go_wp2_with fail
  go_ret
  exact⟨_,rfl,Owns.zero,Below.refl _ _⟩
 |some ad=>
  have he:=fun w=>Lib.run_eql_slice_nil (P:=Tryz.prog) w 24 3 (some ad) ys.length cap 0 0 Tryz.underlying24
  clear g9
  go_enter Tryz.func155,Tryz.ntmps155
  go_wp2_with (at_builtin;go_must (refine wpList_cat elem_int f hf h1 _ rfl _ _ rfl w.heap.size _ [] (by rfl) (Owns.lit (Nat.le_refl _)) _ ys (min B w.heap.size) (by rfl) (by have:=(ha0.out).fit (by omega) (by intro r hr;obtain⟨y,_,rfl⟩:=List.mem_map.1 hr;exact hf y);simp only[List.length_map]at this;exact this.below ((Below.refl _ _).alloc (Nat.min_le_right _ _) _)) (by simpa using hlen) (by simp;omega) (by simp) ?_);intro v' w1 hown1 hb1 _)
  go_ret
  exact⟨v', rfl,by simpa using hown1,((Below.refl _ _).alloc (Nat.le_refl _) _).trans hb1⟩
set_option maxHeartbeats 1000000 in
theorem sClip_int (a:Option Addr) (n c:Nat) (w:World) (hc:n≤c) (hm:c≤9223372036854775807):Calls Tryz.prog 154 #[.slice a n c] w fun e w' => e=.returned (.slice a n n)∧w=w':=by
 go_enter Tryz.func154,Tryz.ntmps154
 go_wp2_with fail
 go_ret
 exact⟨rfl,rfl⟩
set_option maxHeartbeats 1000000 in
theorem clone_int {α : Type} (f : α → List Value) (hf : ∀ x, (f x).length = 1) (h1 : ∀ x, ∀ u ∈ f x, u.oneCell' = true) (v : Value) (ys : List α) (B : Nat) (w : World) (ha : Arr w B 1 v (ys.map f)) (hlen : ys.length * 8 ≤ 140737488355328) :
  Calls Tryz.prog 110 #[v] w (CloneP f 3 1 ys w):=by
 go_enter Tryz.func110,Tryz.ntmps110
 go_wp2_with fail
 refine(sClone_int f hf h1 v ys B w ha hlen).mono ?_;rintro e w1 ⟨u,rfl,hown,hb⟩;obtain⟨a,c,rfl,hc1,hc2⟩:=hown.shape
 go_wp2_with fail
 refine(sClip_int a ys.length c _ hc1 hc2).mono ?_;rintro e w2 ⟨rfl,rfl⟩
 go_wp2_with fail
 go_ret
 exact⟨_,rfl,hown.clip,hb⟩
def Apart (v u:Value):Prop:=∀k,v.ownBlock=some k→u.ownBlock≠some k
theorem apart_of {α β:Type} {w w':World} {base e sz e' sz':Nat} {f:α→List Value} {g:β→List Value} {v u:Value} {xs:List α} {ys:List β} (h:Owns w base e sz f v xs) (h':Owns w' w.heap.size e' sz' g u ys):Apart v u:=by
 intro k hk hu;have:=(OwnR.lt h k hk).2;have:=(OwnR.lt h' k hu).1;omega
def AtmV (w:World) (B:Nat) (v:Value) (ws hs:List Int):Prop:=∃wv hv,v=.agg #[wv,hv]∧Ints w B wv ws∧Ints w B hv hs
def AtmCopyP (ws hs:List Int) (w:World) (en:Ending) (w':World):Prop :=
 ∃wv hv,en=.returned (.agg #[wv,hv])∧Owns w' w.heap.size 3 1 rowI wv ws∧Owns w' w.heap.size 3 1 rowI hv hs∧Apart wv hv∧Below w.heap.size w w'
set_option maxHeartbeats 1000000 in
theorem atmCopy_any (v : Value) (ws hs : List Int) (B : Nat) (w : World) (h : AtmV w B v ws hs) (hB : B ≤ w.heap.size) (hl1 : ws.length ≤ 1048576) (hl2 : hs.length ≤ 1048576) :
  Calls Tryz.prog 100 #[v] w (AtmCopyP ws hs w):=by
 obtain⟨wv,hv,rfl,h1,h2⟩:=h;have ha1:=hid (fun(W:World) (hW:Below B w W)=>(h1.below hW).1);have ha2:=hid (fun(W:World) (hW:Below B w W)=>(h2.below hW).1)
 go_enter Tryz.func100,Tryz.ntmps100
 go_wp2_with fail
 go_region_held3 (fun w' => w'.cell? ⟨w.heap.size, 0, none⟩ = some wv ∧ w'.cell? ⟨w.heap.size, 1, none⟩ = some hv)
  (first|exact⟨d1,d2⟩|exact⟨c1,c2⟩|go_keep)
  (first
   |(go_at_call 110;(with_reducible refine(clone_int rowI rowI_len rowI_one wv ws B _ ?_ ?_).mono ?_);(exact ha1.out _ ((((Below.refl _ _).alloc hB _).alloc (by simp;omega) _).drew));omega;rintro e w1 ⟨u1,rfl,ho1,hb1⟩;obtain⟨q1,k1,rfl,hk1,hm1⟩:=ho1.shape;have c1:w1.cell? ⟨w.heap.size,0,none⟩=some wv:=(by rw[hb1.cell (p:=⟨w.heap.size,0,none⟩) (by simp;omega)];simp);have c2:w1.cell? ⟨w.heap.size,1,none⟩=some hv:=(by rw[hb1.cell (p:=⟨w.heap.size,1,none⟩) (by simp;omega)];simp))
   |(go_at_call 110;(with_reducible refine(clone_int rowI rowI_len rowI_one hv hs B _ ?_ ?_).mono ?_);(exact ha2.out _ (((((Below.refl _ _).alloc hB _).alloc (by simp;omega) _).drew).trans (hb1.mono (by simp;omega))));omega;rintro e w2 ⟨u2,rfl,ho2,hb2⟩;obtain⟨q2,k2,rfl,hk2,hm2⟩:=ho2.shape;have d1:w2.cell? ⟨w.heap.size,0,none⟩=some wv:=(by rw[hb2.cell (p:=⟨w.heap.size,0,none⟩) (by have:=hb1.size;simp at this;simp;omega)];exact c1);have d2:w2.cell? ⟨w.heap.size,1,none⟩=some hv:=(by rw[hb2.cell (p:=⟨w.heap.size,1,none⟩) (by have:=hb1.size;simp at this;simp;omega)];exact c2);have d3:w2.cell? ⟨w.heap.size+1,0,none⟩=some (.slice none 0 0):=(by rw[hb2.cell (p:=⟨w.heap.size+1,0,none⟩) (by have:=hb1.size;simp at this;simp;omega),hb1.cell (p:=⟨w.heap.size+1,0,none⟩) (by simp)];simp);have d4:w2.cell? ⟨w.heap.size+1,1,none⟩=some (.slice none 0 0):=(by rw[hb2.cell (p:=⟨w.heap.size+1,1,none⟩) (by have:=hb1.size;simp at this;simp;omega),hb1.cell (p:=⟨w.heap.size+1,1,none⟩) (by simp)];simp);have d5:w2.frozen? ⟨w.heap.size+1,0,none⟩=false:=(by rw[hb2.frozen (p:=⟨w.heap.size+1,0,none⟩) (by have:=hb1.size;simp at this;simp;omega),hb1.frozen (p:=⟨w.heap.size+1,0,none⟩) (by simp)];simp);have d6:w2.frozen? ⟨w.heap.size+1,1,none⟩=false:=(by rw[hb2.frozen (p:=⟨w.heap.size+1,1,none⟩) (by have:=hb1.size;simp at this;simp;omega),hb1.frozen (p:=⟨w.heap.size+1,1,none⟩) (by simp)];simp)))
 go_wp2_with fail
 have z1:=hb1.size;simp at z1;refine bodyPost_ret (v:=.agg #[.slice q1 ws.length k1,.slice q2 hs.length k2]) (by simp[results,Tryz.results100,go_sem,d3,d4]) rfl ?_;refine⟨_,_,rfl,?_,?_,?_,?_⟩
 ·exact((ho1.rebase (by simp;omega)).below hb2 |>.set' _ _ _ (fun k hk=>by have:=(OwnR.lt ho1 k hk).1;simp at this;omega)).set' _ _ _ (fun k hk=>by have:=(OwnR.lt ho1 k hk).1;simp at this;omega)
 ·exact((ho2.rebase (by omega)).set' _ _ _ (fun k hk=>by have:=(OwnR.lt ho2 k hk).1;omega)).set' _ _ _ (fun k hk=>by have:=(OwnR.lt ho2 k hk).1;omega)
 ·exact apart_of ho1 ho2
 ·exact(((((Below.refl _ _).alloc (Nat.le_refl _) _).alloc (by simp) _).drew.trans (hb1.mono (by simp;omega))).trans (hb2.mono (by omega))).setCell (by simp) _ |>.setCell (by simp) _
theorem bits_and_nat (a b:Nat) (ha:a<4611686018427387904) (hb:b<4611686018427387904):bits .and .i64 (a:Int) (b:Int)=((a &&& b:Nat):Int) :=
  (bits_nat .i64 62 (by decide) (fun n h0 h1 => by rw [IntKind.wrap_i64]; have : (2 : Int) ^ 62 = 4611686018427387904 := by decide
                                                   omega) a b (by omega) (by omega)).1
theorem bits_or_nat (a b:Nat) (ha:a<4611686018427387904) (hb:b<4611686018427387904):bits .or .i64 (a:Int) (b:Int)=((a ||| b:Nat):Int) :=
  (bits_nat .i64 62 (by decide) (fun n h0 h1 => by rw [IntKind.wrap_i64]; have : (2 : Int) ^ 62 = 4611686018427387904 := by decide
                                                   omega) a b (by omega) (by omega)).2
theorem land_eq (a c r:Nat) (g:Nat→Bool) (ha:a<65536) (hc:∀i,i<16→c.testBit i=g i) (hr:∀i,r.testBit i=(g i&&a.testBit i)):a &&& c=r:=by
 apply Nat.eq_of_testBit_eq;intro i;rw[Nat.testBit_and,hr];by_cases hi:i<16
 ·rw[hc i hi,Bool.and_comm]
 ·have : a.testBit i = false := Nat.testBit_lt_two_pow (Nat.lt_of_lt_of_le ha (by
   have:2 ^ 16≤2 ^ i:=Nat.pow_le_pow_right (by omega) (by omega);simpa using this))
  simp[this]
theorem bit_hi (n i:Nat):(n / 256 * 256).testBit i=(decide (8≤i)&&n.testBit i):=by
 rw[show n / 256 * 256=(n / 2 ^ 8) * 2 ^ 8 from rfl,Nat.testBit_mul_two_pow,Nat.testBit_div_two_pow];by_cases h8:8≤i
 ·rw[show i - 8+8=i from by omega]
 ·simp[h8]
theorem bit_lo (n i:Nat):(n % 256).testBit i=(decide (i<8)&&n.testBit i):=by
 rw[show n % 256=n % 2 ^ 8 from rfl,Nat.testBit_mod_two_pow]
theorem and_hi (n:Nat) (h:n<65536):n &&& 65280=n / 256 * 256:=land_eq n _ _ (fun i=>decide (8≤i)) h (by decide) (bit_hi n)
theorem and_lo (n:Nat) (h:n<65536):n &&& 255=n % 256:=land_eq n _ _ (fun i=>decide (i<8)) h (by decide) (bit_lo n)
theorem and_all (n:Nat) (h:n<65536):n &&& 65535=n:=land_eq n _ _ (fun _=>true) h (by decide) (by simp)
theorem not_lo (n:Nat) (h:n<65536):n &&& 18446744073709551360=n / 256 * 256:=land_eq n _ _ (fun i=>decide (8≤i)) h (by decide) (bit_hi n)
theorem not_hi (n:Nat) (h:n<65536):n &&& 18446744073709486335=n % 256:=land_eq n _ _ (fun i=>decide (i<8)) h (by decide) (bit_lo n)
theorem not_all (n:Nat) (h:n<65536):n &&& 18446744073709486080=0:=land_eq n _ _ (fun _=>false) h (by decide) (by simp)
theorem not_none (n:Nat) (h:n<65536):n &&& 18446744073709551615=n:=land_eq n _ _ (fun _=>true) h (by decide) (by simp)
theorem or_split (x y:Nat) (h:y<256):(x * 256) ||| y=x * 256+y:=by
 have:=Nat.two_pow_add_eq_or_of_lt (i:=8) (b:=y) (by simpa using h) x;rw[Nat.mul_comm x 256];simpa using this.symm
theorem andNot_nat (a b:Nat) (ha:a<65536) (hb:b<65536) (r:Nat) (hr:a &&& (18446744073709551615 - b)=r) (hr2:r<65536):bits .andNot .i64 (a:Int) (b:Int)=(r:Int):=by
 unfold bits;have ea:(BitVec.ofInt IntKind.i64.bits (a:Int)).toNat=a:=by
  simp[BitVec.toNat_ofInt,IntKind.bits];omega
 have eb:(BitVec.ofInt IntKind.i64.bits (b:Int)).toNat=b:=by
  simp[BitVec.toNat_ofInt,IntKind.bits];omega
 have key:(BitVec.ofInt IntKind.i64.bits (a:Int) &&& ~~~(BitVec.ofInt IntKind.i64.bits (b:Int))).toNat=r:=by
  rw[BitVec.toNat_and,BitVec.toNat_not,ea,eb,←hr]
  rfl
 simp only[key];rw[IntKind.wrap_i64];omega
theorem put0 (o n:Nat) (ho:o<65536) (hn:n<65536):bits .or .i64 (bits .andNot .i64 (o:Int) 0) (bits .and .i64 (n:Int) 0)=putW o n 0:=by
 have e1:=andNot_nat o 0 ho (by omega) o (not_none o ho) ho;have e2:=bits_and_nat n 0 (by omega) (by omega);simp only[Nat.and_zero,Int.natCast_zero]at e1 e2;rw[e1,e2,show(0:Int)=((0:Nat):Int) from rfl,bits_or_nat o 0 (by omega) (by omega)];simp[putW];try omega
theorem put1 (o n:Nat) (ho:o<65536) (hn:n<65536):bits .or .i64 (bits .andNot .i64 (o:Int) 255) (bits .and .i64 (n:Int) 255)=putW o n 1:=by
 have e1:=andNot_nat o 255 ho (by omega) _ (not_lo o ho) (by omega);have e2:=bits_and_nat n 255 (by omega) (by omega);rw[and_lo n hn]at e2;have e3:=bits_or_nat (o / 256 * 256) (n % 256) (by omega) (by omega)
 rw[or_split _ _ (by omega)]at e3;rw[show(255:Int)=((255:Nat):Int) from rfl,e1,e2,e3];simp[putW];try omega
theorem put2 (o n:Nat) (ho:o<65536) (hn:n<65536):bits .or .i64 (bits .andNot .i64 (o:Int) 65280) (bits .and .i64 (n:Int) 65280)=putW o n 2:=by
 have e1:=andNot_nat o 65280 ho (by omega) _ (not_hi o ho) (by omega);have e2:=bits_and_nat n 65280 (by omega) (by omega);rw[and_hi n hn]at e2;have e3:=bits_or_nat (o % 256) (n / 256 * 256) (by omega) (by omega)
 rw[Nat.or_comm,or_split _ _ (by omega)]at e3;rw[show(65280:Int)=((65280:Nat):Int) from rfl,e1,e2,e3];simp[putW]
theorem put3 (o n:Nat) (ho:o<65536) (hn:n<65536):bits .or .i64 (bits .andNot .i64 (o:Int) 65535) (bits .and .i64 (n:Int) 65535)=putW o n 3:=by
 have e1:=andNot_nat o 65535 ho (by omega) _ (not_all o ho) (by omega);have e2:=bits_and_nat n 65535 (by omega) (by omega);rw[and_all n hn]at e2;have e3:=bits_or_nat 0 n (by omega) (by omega);rw[Nat.zero_or]at e3;rw[show(65535:Int)=((65535:Nat):Int) from rfl,e1,e2,e3];simp[putW];try omega
theorem isWord_any (n:Int) (w:World):Calls Tryz.prog 167 #[.int .i64 n] w fun e w' => e=.returned (.bool (wordOk n))∧w=w':=by
 have HE:=hid (show wordOk n=inB n 0 65535 from rfl)
 go_enter Tryz.func167,Tryz.ntmps167
 go_wp2_with (first|(go_at_call 60;refine(in_any _ _ _ _).mono ?_;rintro e w' ⟨rfl,rfl⟩))
 go_ret
 exact⟨by rw[HE.out];rfl,rfl⟩
theorem isMaster_any (n:Int) (w:World):Calls Tryz.prog 83 #[.int .i64 n] w fun e w' => e=.returned (.bool (inB n 0 2))∧w=w':=by
 go_enter Tryz.func83,Tryz.ntmps83
 go_wp2_with (first|(go_at_call 60;refine(in_any _ _ _ _).mono ?_;rintro e w' ⟨rfl,rfl⟩))
 go_ret
 exact⟨rfl,rfl⟩
theorem mask1:bits .and .i64 1 1=1∧bits .and .i64 2 1=0∧bits .and .i64 3 1=1∧bits .and .i64 0 1=0:=by decide +kernel
theorem maskor:bits .or .i64 0 0=0∧bits .or .i64 255 0=255∧bits .or .i64 0 65280=65280∧bits .or .i64 255 65280=65535:=by decide +kernel
set_option maxHeartbeats 1000000 in
theorem put_any (o n l:Int) (w:World) (ho:wordOk o=true) (hn:wordOk n=true) (hl:inB l 0 3=true):Calls Tryz.prog 147 #[.int .i64 o,.int .i64 n,.int .i64 l] w fun e w' => e=.returned (.int .i64 (putW o n l))∧w=w':=by
 simp[wordOk,inB]at ho hn hl;obtain⟨o,rfl⟩:=Int.eq_ofNat_of_zero_le ho.1;obtain⟨n,rfl⟩:=Int.eq_ofNat_of_zero_le hn.1;have m1:=mask1;have m2:=maskor;have h:l=0∨l=1∨l=2∨l=3:=by omega
 rcases h with rfl|rfl|rfl|rfl
 all_goals
  go_enter Tryz.func147,Tryz.ntmps147
  go_wp2
  go_ret
  exact⟨ret_int (by first|exact put0 o n (by omega) (by omega)|exact put1 o n (by omega) (by omega)|exact put2 o n (by omega) (by omega)|exact put3 o n (by omega) (by omega)),rfl⟩
theorem not_any_all {α:Type} (p:α→Bool) (xs:List α):(!xs.any fun x=>!p x)=xs.all p:=by
 rw[List.all_eq_not_any_not]
set_option maxHeartbeats 1000000 in
theorem areWords_any (v : Value) (xs : List Int) (B : Nat) (w : World) (hv : Ints w B v xs) :
  Calls Tryz.prog 124 #[v] w fun e w' => e=.returned (.bool (xs.all wordOk))∧w=w':=by
 have HE:=hid (not_any_all wordOk xs);obtain⟨r,hr⟩:∃r,r=xs.any fun x=>!wordOk x:=⟨_,rfl⟩
 rw[←hr]at HE;have HR:=hid hr;clear hr;obtain⟨q,hq⟩:∃q,q=xs.all wordOk:=⟨_,rfl⟩
 rw[←hq]at HE ⊢;clear hq;have hcl:∀x,I64 x→∀w:World,Calls Tryz.prog 166 (#[.int .i64 x]++#[]) w fun e w' => e=.returned (.bool (!wordOk x))∧w=w':=by
  intro x _ w
  go_enter Tryz.func166,Tryz.ntmps166
  go_wp2_with (first|(go_at_call 167;refine(isWord_any _ _).mono ?_;rintro e w' ⟨rfl,rfl⟩))
  go_ret
  exact⟨rfl,rfl⟩
 have HC:=hid hcl;clear hcl
 go_enter Tryz.func124,Tryz.ntmps124
 go_wp2_with fail
 refine(hasInt_any 166 #[] (callable_of Tryz.func166 (by kernel_rfl) (by kernel_rfl)) (fun x=>!wordOk x) v xs B _ hv (fun x hx=>HC.out x hx _)).mono ?_;rintro e w' ⟨rfl,rfl⟩;rw[←HR.out]
 go_wp2_with fail
 go_ret
 exact⟨by rw[←HE.out];rfl,rfl⟩
set_option maxHeartbeats 1000000 in
theorem implMemOk_any (v : Value) (xs : List Int) (B : Nat) (w : World) (hv : Ints w B v xs) (hB : B ≤ w.heap.size) :
  Calls Tryz.prog 128 #[.agg #[v]] w fun e w' => e=.returned (.bool (memOk xs))∧Below w.heap.size w w':=by
 obtain⟨ao,cap,hvv,hlc,hcap,hln,hni,hr⟩:=hv.opened;clear hr;subst hvv;have hE:memOk xs=(xs.length==64&&xs.all wordOk):=rfl;obtain⟨q,hq⟩:∃q,q=memOk xs:=⟨_,rfl⟩
 rw[←hq]at hE ⊢;by_cases h64:xs.length=64
 ·have HE:=hid (show q=xs.all wordOk by rw[hE,h64];simp);have hg:((xs.length:Int)==64)=true:=by simp[h64]
  clear hE h64 hq
  go_enter Tryz.func128,Tryz.ntmps128
  go_wp2_with (first|(go_at_call 124;refine(areWords_any _ xs B _ (hv.below ((Below.refl _ _).alloc hB _))).mono ?_;rintro e w' ⟨rfl,rfl⟩))
  go_ret
  exact⟨by rw[HE.out];rfl,(Below.refl _ _).alloc (Nat.le_refl _) _⟩
 ·have HE:=hid (show q=false by rw[hE];simp[h64]);have hg:((xs.length:Int)==64)=false:=by rw[beq_eq_false_iff_ne];omega
  clear hE hq
  go_enter Tryz.func128,Tryz.ntmps128
  go_wp2_with (first|(go_at_call 124;refine(areWords_any _ xs B _ (hv.below ((Below.refl _ _).alloc hB _))).mono ?_;rintro e w' ⟨rfl,rfl⟩))
  go_ret
  exact⟨by rw[HE.out];rfl,(Below.refl _ _).alloc (Nat.le_refl _) _⟩
set_option maxHeartbeats 1000000 in
theorem implAtmOk_any (v : Value) (ws hs : List Int) (B : Nat) (w : World) (h : AtmV w B v ws hs) (hB : B ≤ w.heap.size) :
  Calls Tryz.prog 79 #[v] w fun e w' => e=.returned (.bool (atmOk ws hs))∧Below w.heap.size w w':=by
 obtain⟨wv,hv,rfl,h1,h2⟩:=h;obtain⟨ao,cap,hvv,hlc,hcap,hln,hni,hr⟩:=h2.opened;obtain⟨bo,cbp,hwv,hlc2,hcap2,hln2,hni2,hr2⟩:=h1.opened;clear hr hr2;subst hvv hwv;have hcl:∀x,I64 x→∀w:World,Calls Tryz.prog 129 (#[.int .i64 x]++#[]) w fun e w' => e=.returned (.bool (!inB x (-1) 63))∧w=w':=by
  intro x _ w
  go_enter Tryz.func129,Tryz.ntmps129
  go_wp2_with (first|(go_at_call 60;refine(in_any _ _ _ _).mono ?_;rintro e w' ⟨rfl,rfl⟩))
  go_ret
  exact⟨rfl,rfl⟩
 have HC:=hid hcl;clear hcl;have hE:atmOk ws hs=(memOk ws&&hs.length==6&&hs.all fun h=>inB h (-1) 63):=rfl;have hA:=not_any_all (fun h=>inB h (-1) 63) hs;obtain⟨r,hr⟩:∃r,r=hs.any fun x=>!inB x (-1) 63:=⟨_,rfl⟩
 rw[←hA,←hr]at hE;have HR:=hid hr;clear hr hA;obtain⟨q,hq⟩:∃q,q=atmOk ws hs:=⟨_,rfl⟩
 obtain⟨m,hm⟩:∃m,m=memOk ws:=⟨_,rfl⟩
 rw[←hq]at hE ⊢;rw[←hm]at hE;have HM:=hid hm;clear hm hq;have HE:=hid hE;clear hE;have hg:∀b:Bool,(hs.length==6)=b→((hs.length:Int)==6)=b:=by
  intro b hb;cases b
  ·rw[beq_eq_false_iff_ne]at *;omega
  ·rw[beq_iff_eq]at *;omega
 rcases hl:(hs.length==6)with _|_
 all_goals
  have hl6:=hg _ hl;have HL:=hid hl;clear hg hl
  go_enter Tryz.func79,Tryz.ntmps79
  go_wp2_with (first
   |(go_at_call 128;refine(implMemOk_any _ ws B _ (h1.below ((Below.refl _ _).alloc hB _)) (by simp;omega)).mono ?_;rintro e w1 ⟨rfl,hb1⟩;rw[←HM.out];have c1:w1.cell? ⟨w.heap.size,1,none⟩=some (.slice ao hs.length cap):=(by rw[hb1.cell (p:=⟨w.heap.size,1,none⟩) (by simp)];simp))
   |(go_at_call 69;refine(hasInt_any 129 #[] (callable_of Tryz.func129 (by kernel_rfl) (by kernel_rfl)) (fun x=>!inB x (-1) 63) _ hs B _ (h2.below (((Below.refl _ _).alloc hB _).trans (hb1.mono (by simp;omega)))) (fun x hx=>HC.out x hx _)).mono ?_;rintro e w' ⟨rfl,rfl⟩;rw[←HR.out]))
  all_goals
   go_ret
   refine⟨by rw[HE.out,HL.out];simp[*],?_⟩;exact((Below.refl _ _).alloc (Nat.le_refl _) _).trans (hb1.mono (by simp))
end Go.Proofs.YthnlalffjepdaaaGreat
