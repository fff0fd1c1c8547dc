/- What a copy of a slice comes to. -/
import Derived.Test.YtenjbhbcacocjaaGreatGLib
import Derived.Lib.LazyBuf
set_option linter.unusedVariables false
set_option linter.unusedSimpArgs false
namespace Go.Proofs.YtenjbhbcacocjaaGreat
structure MR where
 fr:Int
 to:Int
 sl:Int
 only:Bool
deriving Inhabited
structure Rq where
 id:Int
 kind:Int
 addr:Int
 many:Int
 wrap:Bool
 data:List Int
 lanes:List Int
deriving Inhabited
structure Rs where
 id:Int
 code:Int
 data:List Int
deriving Inhabited
def rangeOk (ms:List MR) (k:Nat):Bool :=
 let r:=ms.getD k default
 inB r.fr 0 r.to && decide (r.to ≤ 63) && inB r.sl 0 2 && (ms.take k).all (fun q => !(decide (r.fr ≤ q.to) && decide (q.fr ≤ r.to)))
def mapOk (ms:List MR):Bool:=decide (ms.length ≤ 4) && (List.range ms.length).all (rangeOk ms)
def rngOf (ms:List MR) (a:Int):Int:=match ms.findIdx? (fun r => inB a r.fr r.to) with | some k => k | none => -1
def adrOk (a m:Int) (wrap:Bool):Bool:=inB a 0 63 && (m == 1 || m == 2 || m == 4) && (wrap || decide (a + m - 1 ≤ 63))
def burst (a m:Int) (wrap:Bool):List Int :=
 if adrOk a m wrap = true then (List.range m.toNat).map (fun (k:Nat) => if wrap then a - a % m + (a + (k:Int)) % m else a + (k:Int)) else []
def wholeOf (ms:List MR) (all:List Int):Int :=
 match all with
 | [] => -1
 | a :: rest => if rest.all (fun b => rngOf ms b == rngOf ms a) then rngOf ms a else -1
def wordOk (n:Int):Bool:=inB n 0 65535
def memOk (ws:List Int):Bool:=ws.length == 64 && ws.all wordOk
def atmOk (ws hs:List Int):Bool:=memOk ws && hs.length == 6 && hs.all (fun h => inB h (-1) 63)
def rqWrites (r:Rq):Bool:=r.kind == 2 || r.kind == 4
def reqOk (r:Rq):Bool :=
  inB r.id 0 1 && inB r.kind 1 4 && adrOk r.addr r.many r.wrap && (r.kind == 1 || r.kind == 2 || r.many == 1) &&
    (if rqWrites r then ((r.data.length:Int) == r.many) && ((r.lanes.length:Int) == r.many) && r.data.all wordOk && r.lanes.all (fun l => inB l 0 3)
     else r.data.length == 0 && r.lanes.length == 0)
def rqBurst (r:Rq):List Int:=burst r.addr r.many r.wrap
def slaveOf (ms:List MR) (r:Rq):Int:=if wholeOf ms (rqBurst r) < 0 then 3 else (ms.getD (wholeOf ms (rqBurst r)).toNat default).sl
def rspOk (x:Rs):Bool:=inB x.id 0 1 && inB x.code 1 4 && decide (x.data.length ≤ 4) && x.data.all wordOk
def putW (old new lanes:Int):Int :=
 (if lanes / 2 = 1 then new / 256 else old / 256) * 256 + (if lanes % 2 = 1 then new % 256 else old % 256)
def putAll (ws:List Int):List Int → List Int → List Int → List Int
 | a :: rest,d :: ds,l :: ls => putAll (ws.set a.toNat (putW (ws.getD a.toNat 0) d l)) rest ds ls
 | _,_,_ => ws
def getAll (ws:List Int) (all:List Int):List Int:=all.map fun a => ws.getD a.toNat 0
def freeAll (hs:List Int) (all:List Int):List Int:=hs.map fun h => if all.contains h then -1 else h
def doReq (ms:List MR) (ws hs:List Int) (who:Int) (r:Rq):List Int × List Int × Rs :=
 let all:=rqBurst r
 let k:=wholeOf ms all
 let at_:=(who * 2 + r.id).toNat
 if k < 0 then (ws,hs,⟨r.id,4,[]⟩)
 else if rqWrites r && (ms.getD k.toNat default).only then (ws,hs,⟨r.id,3,[]⟩)
 else if r.kind == 1 then (ws,hs,⟨r.id,1,getAll ws all⟩)
 else if r.kind == 3 then (ws,hs.set at_ r.addr,⟨r.id,2,getAll ws all⟩)
 else if r.kind == 4 && !(hs.getD at_ 0 == r.addr) then (ws,hs,⟨r.id,1,[]⟩)
 else (putAll ws all r.data r.lanes,freeAll hs all,⟨r.id,if r.kind == 4 then 2 else 1,[]⟩)
structure Jb where
 who:Nat
 n:Nat
 left:Nat
deriving Inhabited
structure TJ where
 who:Nat
 n:Nat
 rsp:Rs
deriving Inhabited
structure Pt where
 next:Nat
 queue:List Nat
 out:List Jb
 last:Nat
deriving Inhabited
structure Sv where
 pipe:List Jb
 done:List TJ
 last:Nat
deriving Inhabited
structure Cy where
 ws:List Int
 hs:List Int
 ports:Nat → Pt
 slaves:Nat → Sv
 told:List TJ
structure Cfg where
 ms:List MR
 lat:List Nat
 progs:List (List Rq)
structure Inp where
 ready:List Bool
 stall:List Bool
 send:List Bool
structure Ev where
 kind:Nat
 who:Nat
 n:Nat
deriving Inhabited,DecidableEq
def upd {α:Type} (f:Nat → α) (i:Nat) (x:α):Nat → α:=fun j => if j = i then x else f j
theorem upd_same {α:Type} (f:Nat → α) (i:Nat) (x:α):upd f i x i = x:=if_pos rfl
theorem upd_other {α:Type} (f:Nat → α) {i j:Nat} (x:α) (h:j ≠ i):upd f i x j = f j:=if_neg h
def foldN {α:Type} (f:Nat → α → α):Nat → α → α
 | 0,a => a
 | n + 1,a => f n (foldN f n a)
theorem foldN_keep {α:Type} {f:Nat → α → α} {P:α → Prop}:∀ (n:Nat) (a:α),P a → (∀ i x,i < n → P x → P (f i x)) → P (foldN f n a)
 | 0,_,h,_ => h
 | n + 1,a,h,hs => hs n _ (Nat.lt_succ_self n) (foldN_keep n a h fun i x hi hx => hs i x (Nat.lt_succ_of_lt hi) hx)
def firstK (m:Nat → Bool) (n:Nat):Option Nat:=((List.range n).map (· + 1)).find? m
theorem firstK_hit {m:Nat → Bool} {n k:Nat} (h0:1 ≤ k) (hk:k ≤ n) (hm:m k = true) (hb:∀ j,1 ≤ j → j < k → m j = false):firstK m n = some k:=by
 unfold firstK
 rw [List.find?_eq_some_iff_append]
 refine ⟨hm,(List.range (k - 1)).map (· + 1),(List.range' k (n - k)).map (· + 1),?_,?_⟩
 ·have e:List.range n = List.range (k - 1) ++ (k - 1) :: List.range' k (n - k):=by
   rw [List.range_eq_range', List.range_eq_range', show n = (k - 1) + (1 + (n - k)) by omega,← List.range'_append_1]
   simp only [Nat.zero_add]
   rw [show 1 + (n - k) = (n - k) + 1 by omega,show k - 1 + (n - k + 1) - k = n - k by omega]
   rw [List.range'_succ,show k - 1 + 1 = k by omega]
  rw [e];simp [show k - 1 + 1 = k by omega]
 ·intro a ha
  obtain ⟨b,hb2,rfl⟩:=List.mem_map.1 ha
  rw [List.mem_range] at hb2
  simp [hb (b + 1) (by omega) (by omega)]
theorem firstK_miss {m:Nat → Bool} {n:Nat} (hb:∀ j,1 ≤ j → j ≤ n → m j = false):firstK m n = none:=by
 unfold firstK
 rw [List.find?_eq_none]
 intro a ha
 obtain ⟨b,hb2,rfl⟩:=List.mem_map.1 ha
 rw [List.mem_range] at hb2
 simp [hb (b + 1) (by omega) (by omega)]
theorem firstK_some {m:Nat → Bool} {n k:Nat} (h:firstK m n = some k):1 ≤ k ∧ k ≤ n ∧ m k = true:=by
 unfold firstK at h
 have h1:=List.find?_some h
 have h2:=List.mem_of_find?_eq_some h
 obtain ⟨b,hb2,rfl⟩:=List.mem_map.1 h2
 rw [List.mem_range] at hb2
 exact ⟨by omega,by omega,h1⟩
def Cfg.prog (c:Cfg) (who:Nat):List Rq:=c.progs.getD who []
def Cfg.req (c:Cfg) (who n:Nat):Rq:=(c.prog who).getD n default
def Cfg.id (c:Cfg) (who n:Nat):Int:=(c.req who n).id
def Cfg.slv (c:Cfg) (who n:Nat):Nat:=(slaveOf c.ms (c.req who n)).toNat
def Cfg.lt (c:Cfg) (s:Nat):Nat:=c.lat.getD s 0
def tellM (st:Cy) (who k:Nat):Bool:=match (st.slaves (((st.ports who).last + k) % 4)).done with
 | [] => false
 | j :: _ => j.who == who
def tellDo (who s:Nat) (j:TJ) (rest:List TJ) (x:Cy × List Ev):Cy × List Ev :=
 ({ x.1 with told:=x.1.told ++ [j],slaves:=upd x.1.slaves s { x.1.slaves s with done:=rest },ports:=upd x.1.ports who { x.1.ports who with out:=(x.1.ports who).out.eraseP (fun o => o.n == j.n),last:=s } },x.2 ++ [⟨3,who,j.n⟩])
def tell1 (inp:Inp) (who:Nat) (x:Cy × List Ev):Cy × List Ev :=
 if inp.ready.getD who false = true then
  match firstK (tellM x.1 who) 4 with
  | none => x
  | some k => match (x.1.slaves (((x.1.ports who).last + k) % 4)).done with
   | [] => x
   | j :: rest => tellDo who (((x.1.ports who).last + k) % 4) j rest x
 else x
def workDo (c:Cfg) (s:Nat) (j:Jb) (rest:List Jb) (x:Cy × List Ev):Cy × List Ev :=
  ({ x.1 with ws:=(doReq c.ms x.1.ws x.1.hs j.who (c.req j.who j.n)).1,hs:=(doReq c.ms x.1.ws x.1.hs j.who (c.req j.who j.n)).2.1,
              slaves:=upd x.1.slaves s { x.1.slaves s with pipe:=rest,done:=(x.1.slaves s).done ++ [⟨j.who,j.n,(doReq c.ms x.1.ws x.1.hs j.who (c.req j.who j.n)).2.2⟩] } },x.2 ++ [⟨2,j.who,j.n⟩])
def workDec (s:Nat) (j:Jb) (rest:List Jb) (st:Cy):Cy:={ st with slaves:=upd st.slaves s { st.slaves s with pipe:=⟨j.who,j.n,j.left - 1⟩ :: rest } }
def work1 (c:Cfg) (inp:Inp) (s:Nat) (x:Cy × List Ev):Cy × List Ev :=
 if inp.stall.getD s false = true then x
 else match (x.1.slaves s).pipe with
  | [] => x
  | j :: rest => if 0 < j.left then (workDec s j rest x.1,x.2) else if (x.1.slaves s).done.length < 2 then workDo c s j rest x else x
def may (c:Cfg) (st:Cy) (who s:Nat):Bool:=match (st.ports who).queue with
 | [] => false
 | n :: _ => decide ((st.ports who).out.length < 4) && (c.slv who n == s) && !(st.ports who).out.any (fun j => c.id who j.n == c.id who n && j.left != s)
structure Lt where
 st:Cy
 used:Nat → Bool
 lets:Nat → Nat
def letM (c:Cfg) (s:Nat) (y:Lt) (k:Nat):Bool:=!y.used (((y.st.slaves s).last + k) % 3) && may c y.st (((y.st.slaves s).last + k) % 3) s
def letDo (c:Cfg) (s who n:Nat) (rest:List Nat) (y:Lt):Lt :=
  { st:={ y.st with ports:=upd y.st.ports who { y.st.ports who with queue:=rest,out:=(y.st.ports who).out ++ [⟨who,n,s⟩] },
                      slaves:=upd y.st.slaves s { y.st.slaves s with pipe:=(y.st.slaves s).pipe ++ [⟨who,n,c.lt s⟩],last:=who } },
    used:=upd y.used who true,lets:=upd y.lets s 1 }
def let1 (c:Cfg) (s:Nat) (y:Lt):Lt :=
 if (y.st.slaves s).pipe.length < 2 then
  match firstK (letM c s y) 3 with
  | none => y
  | some k => match (y.st.ports (((y.st.slaves s).last + k) % 3)).queue with
   | [] => y
   | n :: rest => letDo c s (((y.st.slaves s).last + k) % 3) n rest y
 else y
def askDo (who:Nat) (x:Cy × List Ev):Cy × List Ev :=
 ({ x.1 with ports:=upd x.1.ports who { x.1.ports who with queue:=(x.1.ports who).queue ++ [(x.1.ports who).next],next:=(x.1.ports who).next + 1 } },x.2 ++ [⟨1,who,(x.1.ports who).next⟩])
def ask1 (c:Cfg) (inp:Inp) (who:Nat) (x:Cy × List Ev):Cy × List Ev :=
 if inp.send.getD who false = true ∧ (x.1.ports who).queue.length < 2 ∧ (x.1.ports who).next < (c.prog who).length then askDo who x else x
def tellAll (inp:Inp) (x:Cy × List Ev):Cy × List Ev:=foldN (tell1 inp) 3 x
def workAll (c:Cfg) (inp:Inp) (x:Cy × List Ev):Cy × List Ev:=foldN (work1 c inp) 4 x
def letAll (c:Cfg) (st:Cy):Lt:=foldN (let1 c) 4 ⟨st,fun _ => false,fun _ => 0⟩
def askAll (c:Cfg) (inp:Inp) (x:Cy × List Ev):Cy × List Ev:=foldN (ask1 c inp) 3 x
def step (c:Cfg) (inp:Inp) (st:Cy):Cy × List Ev :=
 askAll c inp ((letAll c (workAll c inp (tellAll inp (st,[]))).1).st,(workAll c inp (tellAll inp (st,[]))).2)
def lets (c:Cfg) (inp:Inp) (st:Cy):Nat → Nat:=(letAll c (workAll c inp (tellAll inp (st,[]))).1).lets
def cyc (c:Cfg) (inp:Inp) (st:Cy):Cy:=(step c inp st).1
def evs (c:Cfg) (inp:Inp) (st:Cy):List Ev:=(step c inp st).2
def runC (c:Cfg):List Inp → Cy → Cy
 | [],st => st
 | i :: rest,st => runC c rest (cyc c i st)
def cy0:Cy:=⟨List.replicate 64 0,List.replicate 6 (-1),fun _ => ⟨0,[],[],3⟩,fun _ => ⟨[],[],2⟩,[]⟩
end Go.Proofs.YtenjbhbcacocjaaGreat
namespace Go.Proofs.YtenjbhbcacocjaaGreat
open Go.RowKit
theorem infoI:(Tryz.prog.info? 3).map (fun i => (i.zero,i.size,i.bytes)) = some (some (.int .i64 0),1,8):=by kernel_rfl
theorem own_ints {w:World} {base:Nat} {u:Value} {xs:List Int} (h:w.ownsRow base 3 1 u xs.length (xs.map (Value.int .i64))) (hn:xs.length ≤ 140737488351232) (hx:∀ x ∈ xs,I64 x):Ints w w.heap.size u xs :=
 ⟨ownsRow_arr h (by simp) hn (fun t ht j hj => by
  obtain rfl:j = 0:=by omega
  simp [rowI,ht]),hx⟩
def Callable (K:FuncId):Prop:=∀ (args:Array Value) (w:World),(callFunc K args).run Tryz.prog w = .ok (.enter K args) w
theorem callable_of {K : FuncId} {fn : Func} (h : Tryz.prog.funcs[K]? = some fn) (hn : (fn.name == "runtime.NumGoroutine") = false) (hb : fn.body.isNone = false) : Callable K := by
 intro args w
 have hn' : ¬ fn.name = "runtime.NumGoroutine" := by simpa using hn
 have hb':¬ fn.body = none:=by intro h';rw [h'] at hb;simp at hb
 simp [callFunc,h,hn', hb', go_sem]
def idxP {α:Type} (p:α → Bool) (xs:List α):Int:=match xs.findIdx? p with | some k => k | none => -1
theorem idxP_hit {α:Type} (p:α → Bool) (xs:List α) (k:Nat) (d:α) (hk:k < xs.length) (h:p (xs.getD k d) = true) (hno:∀ j,j < k → p (xs.getD j d) = false):idxP p xs = k:=by
 have:xs.findIdx? p = some k:=by
  rw [List.findIdx?_eq_some_iff_getElem]
  refine ⟨hk,by simpa [List.getD,hk] using h,fun j hj => ?_⟩
  have hj2:j < xs.length:=by omega
  have:=hno j hj
  simp [List.getD,hj2] at this
  simp [this]
 simp [idxP,this]
theorem idxP_miss {α:Type} (p:α → Bool) (xs:List α) (d:α) (hno:∀ j,j < xs.length → p (xs.getD j d) = false):idxP p xs = -1:=by
 have:xs.findIdx? p = none:=by
  rw [List.findIdx?_eq_none_iff]
  intro x hx
  obtain ⟨i,hi,rfl⟩:=List.mem_iff_getElem.1 hx
  have:=hno i hi
  simpa [List.getD,hi] using this
 simp [idxP,this]
theorem idxP_any {α:Type} (p:α → Bool) (xs:List α):decide (0 ≤ idxP p xs) = xs.any p:=by
 unfold idxP
 rcases h:xs.findIdx? p with _ | k
 ·rw [List.findIdx?_eq_none_iff] at h
  simp only [Int.reduceNeg,Int.reduceLE,decide_false]
  symm;rw [List.any_eq_false];intro x hx;simp [h x hx]
 ·rw [List.findIdx?_eq_some_iff_getElem] at h
  obtain ⟨hk,h1,_⟩:=h
  simp only [Int.natCast_nonneg,decide_true]
  symm;rw [List.any_eq_true];exact ⟨_,List.getElem_mem hk,h1⟩
set_option maxHeartbeats 1000000 in
theorem idxInt_any (K:FuncId) (cap:Array Value) (hK:Callable K) (p:Int → Bool) (v:Value) (xs:List Int) (B:Nat) (w:World) (hv:Ints w B v xs)
  (hf:∀ x,I64 x → Calls Tryz.prog K (#[.int .i64 x] ++ cap) w fun e w' => e = .returned (.bool (p x)) ∧ w = w') :
  Calls Tryz.prog 115 #[v,.func (.func K) #[] cap] w fun e w' => e = .returned (.int .i64 (idxP p xs)) ∧ w = w':=by
 obtain ⟨ao,cap', rfl,hlc,hcap,hln,hni,hr⟩:=hv.opened
 have HV:=hid hv;clear hv
 have HF:=hid hf;clear hf
 have hK2:=fun args w => hK args w
 go_enter Tryz.func115,Tryz.ntmps115
 go_wp2_with fail
 go_loop [8] (fun i => ∃ k:Nat,k ≤ xs.length ∧ i = .int .i64 k ∧ ∀ j,j < k → p (xs.getD j 0) = false) (fun i => xs.length - (intOf i).toNat)
 case atStart => exact ⟨0,Nat.zero_le _,rfl,by simp⟩
 case round =>
  obtain ⟨k,hk,rfl,hno⟩:=hrel
  have HN:=hid hno;clear hno
  by_cases hlt:k < xs.length
  ·obtain ⟨b,off,rfl,hb,hc⟩:=hr (by omega)
   have hck:=hc k hlt
   have hx64:I64 (xs.getD k 0):=HV.out.2 _ (by simp [List.getD,hlt])
   obtain ⟨x,hx⟩:∃ x,x = xs.getD k 0:=⟨_,rfl⟩
   rw [← hx] at hck hx64
   have HX:=hid hx;have HI:=hid hx64;clear hx hc hr hx64
   go_wp2_with fail
   refine (HF.out x HI.out).mono ?_
   rintro e w' ⟨rfl,rfl⟩
   rcases hp:p x with _ | _
   ·have HQ:=hid (all_step HN.out (show p (xs.getD k 0) = false by rw [← HX.out];exact hp))
    go_wp2_with fail
    go_round
    case rel => exact ⟨k + 1,by omega,by go_num,HQ.out⟩
    case measure => simp [intOf];omega
   ·have HQ:=hid (idxP_hit p xs k 0 hlt (by rw [← HX.out];exact hp) HN.out)
    go_wp2_with fail
    go_ret
    exact ⟨by rw [HQ.out];rfl,rfl⟩
  ·have HF2:=hid (idxP_miss p xs 0 (fun j hj => HN.out j (by omega)))
   go_wp2_with fail
   go_ret
   exact ⟨by rw [HF2.out];rfl,rfl⟩
set_option maxHeartbeats 1000000 in
theorem hasInt_any (K:FuncId) (cap:Array Value) (hK:Callable K) (p:Int → Bool) (v:Value) (xs:List Int) (B:Nat) (w:World) (hv:Ints w B v xs)
  (hf:∀ x,I64 x → Calls Tryz.prog K (#[.int .i64 x] ++ cap) w fun e w' => e = .returned (.bool (p x)) ∧ w = w') :
  Calls Tryz.prog 64 #[v,.func (.func K) #[] cap] w fun e w' => e = .returned (.bool (xs.any p)) ∧ w = w':=by
 have HA:=hid (idxP_any p xs)
 obtain ⟨y,hy⟩:∃ y,y = xs.any p:=⟨_,rfl⟩
 rw [← hy] at HA ⊢
 clear hy
 go_enter Tryz.func64,Tryz.ntmps64
 go_wp2_with fail
 refine (idxInt_any K cap hK p v xs B _ hv hf).mono ?_
 rintro e w' ⟨rfl,rfl⟩
 go_wp2_with fail
 go_ret
 exact ⟨by rw [← HA.out];rfl,rfl⟩
def rowM (r:MR):List Value:=[.int .i64 r.fr,.int .i64 r.to,.int .i64 r.sl,.bool r.only]
def MR64 (r:MR):Prop:=I64 r.fr ∧ I64 r.to ∧ I64 r.sl
def Maps (w:World) (B:Nat) (v:Value) (ms:List MR):Prop:=Arr w B 4 v (ms.map rowM) ∧ ∀ r ∈ ms,MR64 r
theorem Maps.below {w w':World} {B:Nat} {v:Value} {xs:List MR} (h:Maps w B v xs) (hb:Below B w w'):Maps w' B v xs:=⟨h.1.below hb,h.2⟩
theorem Maps.mono {w:World} {B B':Nat} {v:Value} {xs:List MR} (h:Maps w B v xs) (hb:B ≤ B'):Maps w B' v xs:=⟨h.1.mono hb,h.2⟩
theorem Maps.take {w:World} {B n cap m:Nat} {ao:Option Addr} {xs:List MR} (h:Maps w B (.slice ao n cap) xs) (hm:m ≤ n):Maps w B (.slice ao m cap) (xs.take m) :=
 ⟨by rw [List.map_take];exact h.1.take hm,fun x hx => h.2 x (List.mem_of_mem_take hx)⟩
theorem Maps.opened {w:World} {B:Nat} {v:Value} {ms:List MR} (h:Maps w B v ms) :
  ∃ ao cap,v = .slice ao ms.length cap ∧ ms.length ≤ cap ∧ cap ≤ 9223372036854775807 ∧ ms.length ≤ 140737488351232 ∧ (ao = none → cap = 0) ∧
   (ms.length ≠ 0 → ∃ b off,ao = some ⟨b,off,none⟩ ∧ b < B ∧ ∀ t,t < ms.length → w.cell? ⟨b,off + t * 4,none⟩ = some (.int .i64 (ms.getD t default).fr) ∧ w.cell? ⟨b,off + t * 4 + 1,none⟩ = some (.int .i64 (ms.getD t default).to) ∧
    w.cell? ⟨b,off + t * 4 + 2,none⟩ = some (.int .i64 (ms.getD t default).sl) ∧ w.cell? ⟨b,off + t * 4 + 3,none⟩ = some (.bool (ms.getD t default).only)):=by
 obtain ⟨⟨ao,cap,hv,h1,h2,h0,h9,h3⟩,_⟩:=h
 simp only [List.length_map] at hv h1 h0 h3
 refine ⟨ao,cap,hv,h1,h2,h0,h9,fun hn => ?_⟩
 obtain ⟨b,off,ha,hlt,hc⟩:=h3 hn
 refine ⟨b,off,ha,hlt,fun t ht => ?_⟩
 have e:(ms.map rowM).getD t [] = rowM (ms.getD t default):=by simp [List.getD,ht]
 have k0:=hc t ht 0 (by omega)
 have k1:=hc t ht 1 (by omega)
 have k2:=hc t ht 2 (by omega)
 have k3:=hc t ht 3 (by omega)
 rw [e] at k0 k1 k2 k3
 exact ⟨k0,k1,k2,k3⟩
theorem getD_mem {α:Type} {xs:List α} {k:Nat} {d:α} (h:k < xs.length):xs.getD k d ∈ xs:=by simp [List.getD,h]
def IdxMP (p:MR → Bool) (ms:List MR) (w:World) (e:Ending) (w':World):Prop:=e = .returned (.int .i64 (idxP p ms)) ∧ Below w.heap.size w w'
def HasMP (p:MR → Bool) (ms:List MR) (w:World) (e:Ending) (w':World):Prop:=e = .returned (.bool (ms.any p)) ∧ Below w.heap.size w w'
set_option maxHeartbeats 1000000 in
theorem idxMap_any (K:FuncId) (cap:Array Value) (hK:Callable K) (p:MR → Bool) (v:Value) (ms:List MR) (B:Nat) (w:World) (hv:Maps w B v ms) (hB:B ≤ w.heap.size)
  (hf:∀ (r:MR) (w1:World),Below w.heap.size w w1 → Calls Tryz.prog K (#[.agg #[.int .i64 r.fr,.int .i64 r.to,.int .i64 r.sl,.bool r.only]] ++ cap) w1 fun e w' => e = .returned (.bool (p r)) ∧ Below w1.heap.size w1 w') :
  Calls Tryz.prog 146 #[v,.func (.func K) #[] cap] w (IdxMP p ms w):=by
 obtain ⟨ao,cap', rfl,hlc,hcap,hln,hni,hr⟩:=hv.opened
 have HF:=hid hf;clear hf hv
 have hK2:=fun args w => hK args w
 go_enter Tryz.func146,Tryz.ntmps146
 go_wp2_with fail
 go_loopw [8] (fun i wr => ∃ k:Nat,k ≤ ms.length ∧ i = .int .i64 k ∧ Below w.heap.size w wr ∧ ∀ j,j < k → p (ms.getD j default) = false) (fun i _ => ms.length - (intOf i).toNat)
 case atStart => exact ⟨0,Nat.zero_le _,rfl,Below.refl _ _,by simp⟩
 case round =>
  obtain ⟨k,hk,rfl,hbl,hno⟩:=hrel
  have HN:=hid hno;clear hno
  by_cases hlt:k < ms.length
  ·obtain ⟨b,off,rfl,hb,hc⟩:=hr (by omega)
   obtain ⟨c0,c1,c2,c3⟩:=hc k hlt
   obtain ⟨x,hx⟩:∃ x,x = ms.getD k default:=⟨_,rfl⟩
   rw [← hx] at c0 c1 c2 c3
   rw [← hbl.cell (p:=⟨b,_,none⟩) (Nat.lt_of_lt_of_le hb hB)] at c0 c1 c2 c3
   have HX:=hid hx;clear hx hc hr
   go_wp2_with fail
   refine (HF.out x _ hbl).mono ?_
   rintro e w' ⟨rfl,hb'⟩
   have hsz:=hbl.size
   have HB:=hid (hbl.trans (hb'.mono hsz))
   clear hbl
   rcases hp:p x with _ | _
   ·have HQ:=hid (all_step HN.out (show p (ms.getD k default) = false by rw [← HX.out];exact hp))
    go_wp2_with fail
    go_roundw
    case rel => exact ⟨k + 1,by omega,by go_num,HB.out,HQ.out⟩
    case measure => simp [intOf];omega
   ·have HQ:=hid (idxP_hit p ms k default hlt (by rw [← HX.out];exact hp) HN.out)
    go_wp2_with fail
    go_ret
    exact ⟨by rw [HQ.out];rfl,HB.out⟩
  ·have HF2:=hid (idxP_miss p ms default (fun j hj => HN.out j (by omega)))
   go_wp2_with fail
   go_ret
   exact ⟨by rw [HF2.out];rfl,hbl⟩
set_option maxHeartbeats 1000000 in
theorem hasMap_any (K:FuncId) (cap:Array Value) (hK:Callable K) (p:MR → Bool) (v:Value) (ms:List MR) (B:Nat) (w:World) (hv:Maps w B v ms) (hB:B ≤ w.heap.size)
  (hf:∀ (r:MR) (w1:World),Below w.heap.size w w1 → Calls Tryz.prog K (#[.agg #[.int .i64 r.fr,.int .i64 r.to,.int .i64 r.sl,.bool r.only]] ++ cap) w1 fun e w' => e = .returned (.bool (p r)) ∧ Below w1.heap.size w1 w') :
  Calls Tryz.prog 107 #[v,.func (.func K) #[] cap] w (HasMP p ms w):=by
 have HA:=hid (idxP_any p ms)
 go_enter Tryz.func107,Tryz.ntmps107
 go_wp2_with fail
 refine (idxMap_any K cap hK p v ms B _ hv hB hf).mono ?_
 rintro e w' ⟨rfl,hb⟩
 go_wp2_with fail
 go_ret
 exact ⟨by rw [← HA.out];rfl,hb⟩
set_option maxHeartbeats 1000000 in
theorem rangeOf_any (v:Value) (ms:List MR) (a:Int) (B:Nat) (w:World) (hv:Maps w B v ms) (hB:B ≤ w.heap.size) :
  Calls Tryz.prog 150 #[v,.int .i64 a] w fun e w' => e = .returned (.int .i64 (rngOf ms a)) ∧ Below w.heap.size w w':=by
 have hE:rngOf ms a = idxP (fun r => inB a r.fr r.to) ms:=rfl
 have HE:=hid hE;clear hE
 have hcl:∀ (r:MR) (w1:World),Below (w.heap.size + 1) (w.alloc (.cells #[.int .i64 a] 3)) w1 → Calls Tryz.prog 166 (#[.agg #[.int .i64 r.fr,.int .i64 r.to,.int .i64 r.sl,.bool r.only]] ++ #[.pointer (some ⟨w.heap.size,0,none⟩)]) w1 fun e w' => e = .returned (.bool (inB a r.fr r.to)) ∧ Below w1.heap.size w1 w':=by
  intro r w1 hb
  have hc:w1.cell? ⟨w.heap.size,0,none⟩ = some (.int .i64 a):=by
   rw [hb.cell (p:=⟨w.heap.size,0,none⟩) (by simp)];simp
  have hsz:=hb.size
  simp only [World.size_alloc] at hsz
  have hsz2:w.heap.size < w1.heap.size:=by omega
  clear hb hsz
  go_enter Tryz.func166,Tryz.ntmps166
  go_wp2_with (go_at_call 66;refine (in_any _ _ _ _).mono ?_;rintro e w' ⟨rfl,rfl⟩)
  go_ret
  exact ⟨rfl,(Below.refl _ _).alloc (Nat.le_refl _) _⟩
 have HC:=hid hcl;clear hcl
 go_enter Tryz.func150,Tryz.ntmps150
 go_wp2_with fail
 refine (idxMap_any 166 #[.pointer (some ⟨w.heap.size,0,none⟩)] (callable_of Tryz.func166 (by kernel_rfl) (by kernel_rfl)) (fun r => inB a r.fr r.to) v ms B _ (hv.below ((Below.refl _ _).alloc hB _)) (by simp;omega) (fun r w1 hb => HC.out r w1 (by simpa using hb))).mono ?_
 rintro e w' ⟨rfl,hb⟩
 go_wp2_with fail
 go_ret
 exact ⟨by rw [HE.out];rfl,((Below.refl _ _).alloc (Nat.le_refl _) _).trans (hb.mono (by simp))⟩
def over (r q:MR):Bool:=decide (q.fr ≤ r.to) && decide (r.fr ≤ q.to)
theorem rangeOk_eq (ms:List MR) (k:Nat) (x:MR) (hx:x = ms.getD k default):rangeOk ms k = (inB x.fr 0 63 && inB x.to x.fr 63 && inB x.sl 0 2 && !((ms.take k).any (over x))):=by
 subst hx
 unfold rangeOk over
 have e1:∀ q:MR,(!(decide (((ms.getD k default).fr) ≤ q.to) && decide (q.fr ≤ (ms.getD k default).to))) = !(decide (q.fr ≤ (ms.getD k default).to) && decide ((ms.getD k default).fr ≤ q.to)):=fun q => by rw [Bool.and_comm]
 rw [List.not_any_eq_all_not]
 simp only [e1,Function.comp_def]
 congr 1
 congr 1
 rw [Bool.eq_iff_iff]
 simp only [inB,Bool.and_eq_true,decide_eq_true_eq]
 omega
theorem mapOk_bad {ms:List MR} {k:Nat} (hk:k < ms.length) (h:rangeOk ms k = false):mapOk ms = false:=by
 unfold mapOk
 rw [Bool.and_eq_false_iff];right
 rw [List.all_eq_false];exact ⟨k,by simpa using hk,by simp [h]⟩
theorem mapOk_all {ms:List MR} (h:∀ j,j < ms.length → rangeOk ms j = true):mapOk ms = decide (ms.length ≤ 4):=by
 unfold mapOk
 have:(List.range ms.length).all (rangeOk ms) = true:=by rw [List.all_eq_true];intro j hj;exact h j (by simpa using hj)
 rw [this,Bool.and_true]
set_option maxHeartbeats 2000000 in
theorem implMapOk_any (v:Value) (ms:List MR) (B:Nat) (w:World) (hv:Maps w B v ms) (hB:B ≤ w.heap.size) :
  Calls Tryz.prog 57 #[v] w fun e w' => e = .returned (.bool (mapOk ms)) ∧ Below w.heap.size w w':=by
 obtain ⟨ao,cap,rfl,hlc,hcap,hln,hni,hr⟩:=hv.opened
 go_enter Tryz.func57,Tryz.ntmps57
 go_wp2_with fail
 go_loopw [7] (fun i wr => ∃ k:Nat,k ≤ ms.length ∧ i = .int .i64 k ∧ Below w.heap.size w wr ∧ ∀ j,j < k → rangeOk ms j = true) (fun i _ => ms.length - (intOf i).toNat)
 case atStart => exact ⟨0,Nat.zero_le _,rfl,Below.refl _ _,by simp⟩
 case round =>
  obtain ⟨k,hk,rfl,hbl,hno⟩:=hrel
  have HN:=hid hno;clear hno
  by_cases hlt:k < ms.length
  ·obtain ⟨b,off,rfl,hb,hc⟩:=hr (by omega)
   obtain ⟨c0,c1,c2,c3⟩:=hc k hlt
   obtain ⟨x,hx⟩:∃ x,x = ms.getD k default:=⟨_,rfl⟩
   rw [← hx] at c0 c1 c2 c3
   rw [← hbl.cell (p:=⟨b,_,none⟩) (Nat.lt_of_lt_of_le hb hB)] at c0 c1 c2 c3
   have HE:=hid (rangeOk_eq ms k x hx);clear hx hc hr
   have hsz:=hbl.size
   have hcl:∀ (q:MR) (w1:World),Below (wr.heap.size + 1) (wr.alloc (.cells #[.int .i64 x.fr,.int .i64 x.to,.int .i64 x.sl,.bool x.only] 161)) w1 → Calls Tryz.prog 108 (#[.agg #[.int .i64 q.fr,.int .i64 q.to,.int .i64 q.sl,.bool q.only]] ++ #[.pointer (some ⟨wr.heap.size,0,none⟩)]) w1 fun e w' => e = .returned (.bool (over x q)) ∧ Below w1.heap.size w1 w':=by
    intro q w1 hb
    have d0:w1.cell? ⟨wr.heap.size,0,none⟩ = some (.int .i64 x.fr):=by rw [hb.cell (p:=⟨wr.heap.size,0,none⟩) (by simp)];simp
    have d1:w1.cell? ⟨wr.heap.size,1,none⟩ = some (.int .i64 x.to):=by rw [hb.cell (p:=⟨wr.heap.size,1,none⟩) (by simp)];simp
    have hsz1:=hb.size
    simp only [World.size_alloc] at hsz1
    have hsz2:wr.heap.size < w1.heap.size:=by omega
    clear hb hsz1 hbl c0 c1 c2 c3
    go_enter Tryz.func108,Tryz.ntmps108
    go_wp2
    all_goals
     go_ret
     exact ⟨by simp [over, *];try omega,(Below.refl _ _).alloc (Nat.le_refl _) _⟩
   have HC:=hid hcl;clear hcl
   have hv2:=hid (Maps.take hv (show k ≤ ms.length by omega))
   go_wp2_with (first
    | (go_at_call 66;refine (in_any _ _ _ _).mono ?_;rintro e w' ⟨rfl,rfl⟩)
    | (go_at_call 107;go_must (refine (hasMap_any 108 _ (callable_of Tryz.func108 (by kernel_rfl) (by kernel_rfl)) (over x) _ (ms.take k) B _ (hv2.out.below ((hbl.mono hB).trans ((Below.refl _ _).alloc (by omega) _))) (by simp;omega) (fun r w1 hb => HC.out r w1 (by simpa using hb))).mono ?_);rintro e w' ⟨rfl,hb2⟩))
   ·have HF:=hid (mapOk_bad hlt (by rw [HE.out];simp [*]))
    go_ret
    exact ⟨by rw [HF.out];rfl,hbl.trans ((Below.refl _ _).alloc (by omega) _)⟩
   ·have HF:=hid (mapOk_bad hlt (by rw [HE.out];simp [*]))
    go_ret
    exact ⟨by rw [HF.out];rfl,hbl.trans ((Below.refl _ _).alloc (by omega) _)⟩
   ·have HF:=hid (mapOk_bad hlt (by rw [HE.out];simp [*]))
    go_ret
    exact ⟨by rw [HF.out];rfl,hbl.trans ((Below.refl _ _).alloc (by omega) _)⟩
   ·have HF:=hid (mapOk_bad hlt (by rw [HE.out];simp only [*];simp))
    go_ret
    exact ⟨by rw [HF.out];rfl,(hbl.trans ((Below.refl _ _).alloc (by omega) _)).trans (hb2.mono (by simp;omega))⟩
   ·have HQ:=hid (all_step HN.out (show rangeOk ms k = true by rw [HE.out];simp only [*];simp))
    go_roundw
    case rel => exact ⟨k + 1,by omega,by go_num,(hbl.trans ((Below.refl _ _).alloc (by omega) _)).trans (hb2.mono (by simp;omega)),HQ.out⟩
    case measure => simp [intOf];omega
  ·have HF:=hid (mapOk_all (fun j hj => HN.out j (by omega)))
   go_wp2_with fail
   go_ret
   exact ⟨by rw [HF.out];exact ret_bool (by rw [decide_eq_decide];omega),hbl⟩
theorem adrOk_eq (a m:Int) (wr:Bool):adrOk a m wr = true ↔ (0 ≤ a ∧ a ≤ 63 ∧ (m = 1 ∨ m = 2 ∨ m = 4) ∧ (wr = true ∨ a + m - 1 ≤ 63)):=by
 simp [adrOk,inB,or_assoc,and_assoc]
set_option maxHeartbeats 1000000 in
theorem implAdrOk_any (a m:Int) (wr:Bool) (w:World):Calls Tryz.prog 55 #[.int .i64 a,.int .i64 m,.bool wr] w fun e w' => e = .returned (.bool (adrOk a m wr)) ∧ w = w':=by
 rcases hI:inB a 0 63 with _ | _
 ·have HE:=hid (show adrOk a m wr = false by simp [adrOk,hI])
  go_enter Tryz.func55,Tryz.ntmps55
  go_wp2_with (first | (go_at_call 66;refine (in_any _ _ _ _).mono ?_;rintro e w' ⟨rfl,rfl⟩))
  all_goals
   go_ret
   exact ⟨by rw [HE.out];rfl,rfl⟩
 ·have hb:0 ≤ a ∧ a ≤ 63:=by simpa [inB] using hI
  have h0:=hb.1
  have h1:=hb.2
  have HE:=hid (show adrOk a m wr = ((m == 1 || m == 2 || m == 4) && (wr || decide (a + m - 1 ≤ 63))) by simp [adrOk,hI])
  clear hb
  go_enter Tryz.func55,Tryz.ntmps55
  go_wp2_with (first | (go_at_call 66;refine (in_any _ _ _ _).mono ?_;rintro e w' ⟨rfl,rfl⟩))
  all_goals
   go_ret
   exact ⟨by rw [HE.out];simp [*];try omega,rfl⟩
def BurstP (a m:Int) (wp:Bool) (w:World) (e:Ending) (w':World):Prop:=∃ u,e = .returned u ∧ Ints w' w'.heap.size u (burst a m wp) ∧ Below w.heap.size w w' ∧ ∀ k,u.ownBlock = some k → w.heap.size ≤ k
def burstK (a m:Int) (wp:Bool) (k:Nat):List Int:=(List.range k).map (fun (k:Nat) => if wp then a - a % m + (a + (k:Int)) % m else a + (k:Int))
theorem burstK_len (a m:Int) (wp:Bool) (k:Nat):(burstK a m wp k).length = k:=by simp [burstK]
theorem burst_yes {a m:Int} {wp:Bool} (h:adrOk a m wp = true):burst a m wp = burstK a m wp m.toNat:=by unfold burst burstK;rw [if_pos h]
theorem burst_no {a m:Int} {wp:Bool} (h:adrOk a m wp = false):burst a m wp = []:=by unfold burst;rw [if_neg (by simp [h])]
theorem burstK_small {a m:Int} {wp:Bool} (h0:0 ≤ a) (h1:a ≤ 63) (hm:m = 1 ∨ m = 2 ∨ m = 4) (k:Nat) (hk:k ≤ 4):∀ x ∈ burstK a m wp k,I64 x:=by
 intro x hx
 obtain ⟨j,hj,rfl⟩:=List.mem_map.1 hx
 rw [List.mem_range] at hj
 unfold I64
 split <;> (rcases hm with rfl | rfl | rfl <;> omega)
def CloneP {α:Type} (f:α → List Value) (e sz:Nat) (ys:List α) (w:World) (en:Ending) (w':World):Prop :=
 ∃ u,en = .returned u ∧ Owns w' w.heap.size e sz f u ys ∧ Below w.heap.size w w'
theorem Arr.fit {w:World} {B sz:Nat} {v:Value} {rows:List (List Value)} (h:Arr w B sz v rows) (hs:0 < sz) (hr:∀ r ∈ rows,r.length = sz):Arr w (min B w.heap.size) sz v rows:=by
 obtain ⟨ao,cap,hv,h1,h2,h0,h9,h3⟩:=h
 refine ⟨ao,cap,hv,h1,h2,h0,h9,fun hn => ?_⟩
 obtain ⟨b,off,ha,hlt,hc⟩:=h3 hn
 refine ⟨b,off,ha,?_,hc⟩
 have:=hc 0 (by omega) 0 hs
 have hl:(rows.getD 0 []).length = sz:=hr _ (by simp [List.getD,List.getElem?_eq_getElem (show 0 < rows.length by omega)])
 rw [List.getElem?_eq_getElem (show 0 < (rows.getD 0 []).length by omega)] at this
 have hb:=World.block_lt_of_cell? w _ this
 simp only at hb
 omega
theorem Owns.clip {α:Type} {w:World} {base e sz:Nat} {f:α → List Value} {a:Option Addr} {c:Nat} {xs:List α} (h:Owns w base e sz f (.slice a xs.length c) xs):Owns w base e sz f (.slice a xs.length xs.length) xs:=by
 obtain ⟨hl,h2⟩:=h
 refine ⟨hl,?_⟩
 rcases h2 with ⟨hv,h2⟩ | ⟨g,off,cap,cur,hv,hg,hh,hle,hmax,hsz,hc⟩
 ·simp only [Value.slice.injEq] at hv
  obtain ⟨rfl,h3,rfl⟩:=hv
  exact .inl ⟨by rw [h3],h3⟩
 ·simp only [Value.slice.injEq] at hv
  obtain ⟨rfl,_,rfl⟩:=hv
  exact .inr ⟨g,off,xs.length,cur,rfl,hg,hh,Nat.le_refl _,by omega,by have:=Nat.mul_le_mul_right sz hle;omega,hc⟩
theorem Owns.shape {α:Type} {w:World} {base e sz:Nat} {f:α → List Value} {v:Value} {xs:List α} (h:Owns w base e sz f v xs):∃ a c,v = .slice a xs.length c ∧ xs.length ≤ c ∧ c ≤ 9223372036854775807:=by
 obtain ⟨hl,h2⟩:=h
 rcases h2 with ⟨rfl,h2⟩ | ⟨g,off,cap,cur,rfl,hg,hh,hle,hmax,_⟩
 ·exact ⟨none,0,by rw [h2],by omega,by omega⟩
 ·exact ⟨_,cap,rfl,hle,by unfold maxLen at hmax;omega⟩
theorem Owns.set {α:Type} {w:World} {base e sz:Nat} {f:α → List Value} {v:Value} {xs:List α} (h:Owns w base e sz f v xs) (g o:Nat) (u:Value) (hg:g < base):Owns (w.setCell ⟨g,o,none⟩ u) base e sz f v xs :=
 OwnR.kept h fun k hk => Below.heap_setCell _ _ _ _ (by have:=(OwnR.lt h k hk).1;simp only;omega)
theorem Owns.set' {α:Type} {w:World} {base e sz:Nat} {f:α → List Value} {v:Value} {xs:List α} (h:Owns w base e sz f v xs) (g o:Nat) (u:Value) (hg:∀ k,v.ownBlock = some k → k ≠ g):Owns (w.setCell ⟨g,o,none⟩ u) base e sz f v xs :=
 OwnR.kept h fun k hk => Below.heap_setCell _ _ _ _ (hg k hk)
theorem Owns.draws {α:Type} {w:World} {base e sz:Nat} {f:α → List Value} {v:Value} {xs:List α} (h:Owns w base e sz f v xs) (n:Nat):Owns (w.drewN n) base e sz f v xs:=OwnR.kept h fun _ _ => rfl
end Go.Proofs.YtenjbhbcacocjaaGreat
