/- What comes from outside in a cycle, drawn: l20In of the reference. -/
import Derived.Test.YtenjbhbcacocjaaGreatGBq
import Derived.Test.YtenjbhbcacocjaaGreatGQ1
import Derived.Test.YtenjbhbcacocjaaGreatGCs
import Derived.Test.YtenjbhbcacocjaaGreatGFl
import Derived.Test.YtenjbhbcacocjaaGreatGDr3
import Derived.Test.YtenjbhbcacocjaaGreatGY1
import Derived.Test.YtenjbhbcacocjaaGreatGDr1
import Derived.Test.YtenjbhbcacocjaaGreatGCat
import Derived.Laws.Bits64b
import Derived.Lib.Mul64
set_option linter.unusedVariables false
set_option linter.unusedSimpArgs false
namespace Go.Proofs.YtenjbhbcacocjaaGreat
def cntW (j:Nat) (l:List TJ):Nat:=(l.filter (fun x => x.who == j)).length
structure GrowT (inp:Inp) (st st':Cy) (k:Nat):Prop where
 pre:∃ t,st'.told = st.told ++ t
 cnt:∀ j,cntW j st'.told ≤ cntW j st.told + (if j < k then 1 else 0)
 ge:∀ j,cntW j st.told ≤ cntW j st'.told
 rdy:∀ j,cntW j st.told < cntW j st'.told → inp.ready.getD j false = true
 nx:∀ j,(st'.ports j).next = (st.ports j).next
theorem GrowT.skip {inp:Inp} {st st':Cy} {k:Nat} (h:GrowT inp st st' k):GrowT inp st st' (k + 1) :=
 ⟨h.pre,fun j => by have:=h.cnt j;by_cases h1:j < k <;> by_cases h2:j < k + 1 <;> simp [h1,h2] at this ⊢ <;> omega,h.ge,h.rdy,h.nx⟩
theorem growT_tell1 {inp:Inp} {st:Cy} {x:Cy × List Ev} {k:Nat} (h:GrowT inp st x.1 k):GrowT inp st (tell1 inp k x).1 (k + 1):=by
 unfold tell1
 split
 ·rename_i hr
  split
  ·exact h.skip
  ·rename_i m hm
   obtain ⟨_,_,hmm⟩:=firstK_some hm
   split
   ·exact h.skip
   ·rename_i j rest hd
    have hj:j.who = k:=by
     unfold tellM at hmm
     rw [hd] at hmm
     simpa using hmm
    obtain ⟨t,ht⟩:=h.pre
    have hc:∀ i,cntW i (x.1.told ++ [j]) = cntW i x.1.told + (if i = k then 1 else 0):=fun i => by
     unfold cntW
     rw [List.filter_append,List.length_append]
     by_cases hi:i = k
     ·simp [hi,hj]
     ·rw [if_neg hi,List.filter_cons_of_neg (by simp [hj];omega)];simp
    refine ⟨⟨t ++ [j],by simp [tellDo,ht]⟩,fun i => ?_,fun i => ?_,fun i hi => ?_,fun i => ?_⟩
    ·simp only [tellDo]
     rw [hc i]
     have:=h.cnt i
     by_cases h1:i < k <;> by_cases h2:i = k <;> by_cases h3:i < k + 1 <;> simp [h1,h2,h3] at this ⊢ <;> omega
    ·simp only [tellDo]
     rw [hc i]
     exact Nat.le_trans (h.ge i) (Nat.le_add_right _ _)
    ·simp only [tellDo] at hi
     rw [hc i] at hi
     by_cases hik:i = k
     ·rw [hik];exact hr
     ·rw [if_neg hik] at hi;exact h.rdy i hi
    ·simp only [tellDo]
     by_cases hik:i = k
     ·rw [hik,upd_same];exact h.nx k
     ·rw [upd_other _ _ hik];exact h.nx i
 ·exact h.skip
def SameT (st st':Cy):Prop:=st'.told = st.told ∧ ∀ j,(st'.ports j).next = (st.ports j).next
theorem sameT_work1 {c:Cfg} {inp:Inp} {st:Cy} {x:Cy × List Ev} {s:Nat} (h:SameT st x.1):SameT st (work1 c inp s x).1:=by
 unfold work1
 split
 ·exact h
 ·split
  ·exact h
  ·split
   ·exact h
   ·split
    ·exact h
    ·exact h
theorem sameT_let1 {c:Cfg} {st:Cy} {y:Lt} {s:Nat} (h:SameT st y.st):SameT st (let1 c s y).st:=by
 unfold let1
 split
 ·split
  ·exact h
  ·rename_i k hk
   split
   ·exact h
   ·refine ⟨h.1,fun j => ?_⟩
    simp only [letDo]
    by_cases hj:j = ((y.st.slaves s).last + k) % 3
    ·rw [hj,upd_same];exact h.2 _
    ·rw [upd_other _ _ hj];exact h.2 j
 ·exact h
structure GrowA (inp:Inp) (st st':Cy) (k:Nat):Prop where
 told:st'.told = st.told
 lo:∀ j,(st.ports j).next ≤ (st'.ports j).next
 hi:∀ j,(st'.ports j).next ≤ (st.ports j).next + (if j < k then 1 else 0)
 snd:∀ j,(st.ports j).next < (st'.ports j).next → inp.send.getD j false = true
theorem GrowA.skip {inp:Inp} {st st':Cy} {k:Nat} (h:GrowA inp st st' k):GrowA inp st st' (k + 1) :=
 ⟨h.told,h.lo,fun j => by have:=h.hi j;by_cases h1:j < k <;> by_cases h2:j < k + 1 <;> simp [h1,h2] at this ⊢ <;> omega,h.snd⟩
theorem growA_ask1 {c:Cfg} {inp:Inp} {st:Cy} {x:Cy × List Ev} {k:Nat} (h:GrowA inp st x.1 k):GrowA inp st (ask1 c inp k x).1 (k + 1):=by
 unfold ask1
 split
 ·rename_i hc
  have e:∀ i,((askDo k x).1.ports i).next = (x.1.ports i).next + (if i = k then 1 else 0):=fun i => by
   simp only [askDo]
   by_cases hik:i = k
   ·rw [hik,upd_same];simp
   ·rw [upd_other _ _ hik];simp [hik]
  refine ⟨h.told,fun i => ?_,fun i => ?_,fun i hi => ?_⟩
  ·rw [e i];exact Nat.le_trans (h.lo i) (Nat.le_add_right _ _)
  ·rw [e i]
   have:=h.hi i
   by_cases h1:i < k <;> by_cases h2:i = k <;> by_cases h3:i < k + 1 <;> simp [h1,h2,h3] at this ⊢ <;> omega
  ·rw [e i] at hi
   by_cases hik:i = k
   ·rw [hik];exact hc.1
   ·rw [if_neg hik] at hi;exact h.snd i hi
 ·exact h.skip
structure Grow (inp:Inp) (st st':Cy):Prop where
 pre:∃ t,st'.told = st.told ++ t
 cnt:∀ j,cntW j st'.told ≤ cntW j st.told + 1
 rdy:∀ j,cntW j st.told < cntW j st'.told → inp.ready.getD j false = true
 lo:∀ j,(st.ports j).next ≤ (st'.ports j).next
 hi:∀ j,(st'.ports j).next ≤ (st.ports j).next + 1
 snd:∀ j,(st.ports j).next < (st'.ports j).next → inp.send.getD j false = true
theorem grow_tell {inp:Inp} {st:Cy}:GrowT inp st (tellAll inp (st,[])).1 3 :=
 growT_tell1 (growT_tell1 (growT_tell1 (x:=(st,[])) (k:=0) ⟨⟨[],by simp⟩,fun j => by simp,fun j => Nat.le_refl _,fun j h => absurd h (Nat.lt_irrefl _),fun j => rfl⟩))
theorem grow_work {c:Cfg} {inp:Inp} {x:Cy × List Ev}:SameT x.1 (workAll c inp x).1:=foldN_keep (P:=fun y:Cy × List Ev => SameT x.1 y.1) 4 x ⟨rfl,fun _ => rfl⟩ fun _ _ _ hx => sameT_work1 hx
theorem grow_let {c:Cfg} {st:Cy}:SameT st (letAll c st).st:=foldN_keep (P:=fun y:Lt => SameT st y.st) 4 ⟨st,fun _ => false,fun _ => 0⟩ ⟨rfl,fun _ => rfl⟩ fun _ _ _ hx => sameT_let1 hx
theorem grow_ask {c:Cfg} {inp:Inp} {x:Cy × List Ev}:GrowA inp x.1 (askAll c inp x).1 3 :=
 growA_ask1 (growA_ask1 (growA_ask1 (x:=x) (k:=0) ⟨rfl,fun j => Nat.le_refl _,fun j => by simp,fun j h => absurd h (Nat.lt_irrefl _)⟩))
theorem grow_step {c:Cfg} {inp:Inp} {st:Cy}:Grow inp st (cyc c inp st):=by
 have h1:=grow_tell (inp:=inp) (st:=st)
 have h2:=grow_work (c:=c) (inp:=inp) (x:=tellAll inp (st,[]))
 have h3:=grow_let (c:=c) (st:=(workAll c inp (tellAll inp (st,[]))).1)
 have h4:=grow_ask (c:=c) (inp:=inp) (x:=((letAll c (workAll c inp (tellAll inp (st,[]))).1).st,(workAll c inp (tellAll inp (st,[]))).2))
 change Grow inp st (askAll c inp ((letAll c (workAll c inp (tellAll inp (st,[]))).1).st,(workAll c inp (tellAll inp (st,[]))).2)).1
 generalize (askAll c inp ((letAll c (workAll c inp (tellAll inp (st,[]))).1).st,(workAll c inp (tellAll inp (st,[]))).2)).1 = s4 at h4 ⊢
 simp only at h4
 generalize (letAll c (workAll c inp (tellAll inp (st,[]))).1).st = s3 at h3 h4
 generalize (workAll c inp (tellAll inp (st,[]))).1 = s2 at h2 h3
 generalize (tellAll inp (st,[])).1 = s1 at h1 h2
 have et:s4.told = s1.told:=by rw [h4.told,h3.1,h2.1]
 have en:∀ j,(s3.ports j).next = (st.ports j).next:=fun j => by rw [h3.2,h2.2,h1.nx]
 refine ⟨by rw [et];exact h1.pre,fun j => ?_,fun j hj => ?_,fun j => ?_,fun j => ?_,fun j hj => ?_⟩
 ·rw [et];have:=h1.cnt j;split at this <;> omega
 ·rw [et] at hj;exact h1.rdy j hj
 ·rw [← en j];exact h4.lo j
 ·rw [← en j];have:=h4.hi j;split at this <;> omega
 ·rw [← en j] at hj;exact h4.snd j hj
def inAll:Inp:=⟨[true,true,true],[false,false,false,false],[true,true,true]⟩
def flow (c:Cfg) (n:Nat) (st:Cy):Cy:=runC c (List.replicate n inAll) st
theorem runC_two (c:Cfg):∀ (a b:List Inp) (st:Cy),runC c (a ++ b) st = runC c b (runC c a st)
 | [],_,_ => rfl
 | _ :: a,b,_ => runC_two c a b _
theorem flow_add (c:Cfg) (a b:Nat) (st:Cy):flow c b (flow c a st) = flow c (a + b) st:=by
 unfold flow
 rw [← runC_two,List.replicate_append_replicate]
theorem told_run (c:Cfg):∀ (ins:List Inp) (st:Cy),∃ t,(runC c ins st).told = st.told ++ t
 | [],_ => ⟨[],(List.append_nil _).symm⟩
 | i :: rest,st => by
  obtain ⟨t,ht⟩:=(grow_step (c:=c) (inp:=i) (st:=st)).pre
  obtain ⟨u,hu⟩:=told_run c rest (cyc c i st)
  exact ⟨t ++ u,by show (runC c rest (cyc c i st)).told = _;rw [hu,ht,List.append_assoc]⟩
theorem told_flow (c:Cfg) (a b:Nat) (st:Cy):∃ t,(flow c (a + b) st).told = (flow c a st).told ++ t:=by
 rw [← flow_add];exact told_run c _ _
theorem Bus.none {c:Cfg} (h:Bus c):Bus ⟨c.ms,c.lat,[[],[],[]]⟩ :=
 ⟨h.ms,h.lat,h.lat3,rfl,by simp,by simp⟩
end Go.Proofs.YtenjbhbcacocjaaGreat
namespace Go.Proofs.YtenjbhbcacocjaaGreat
open Go.RowKit
set_option maxHeartbeats 1000000 in
theorem mul64_one (n:Nat) (hn:n ≤ 300) (w:World):Calls Tryz.prog 152 #[.int .u64 1,.int .u64 n] w fun e w' => e = .returned (.tuple #[.int .u64 0,.int .u64 n]) ∧ w = w':=by
 have h1:bits .and .u64 (n:Int) 4294967295 = (n:Int):=by
  have h:=bits_and_u64_nat n 4294967295 (by omega) (by omega)
  have e:n &&& 4294967295 = n % 4294967296:=Nat.and_two_pow_sub_one_eq_mod n 32
  rw [e,Nat.mod_eq_of_lt (by omega)] at h
  exact h
 have h2:(n:Int) / 4294967296 = 0:=by omega
 have h3:IntKind.u64.wrap (n:Int) = (n:Int):=by rw [IntKind.wrap_u64];omega
 have h4:bits .and .u64 1 4294967295 = 1:=by decide +kernel
 have h5:bits .and .u64 0 4294967295 = 0:=by decide +kernel
 go_enter Tryz.func152,Tryz.ntmps152
 go_wp2
 refine bodyPost_ret (v:=.tuple #[.int .u64 0,.int .u64 n]) (by simp [results,Tryz.results152]) rfl ⟨rfl,rfl⟩
set_option maxHeartbeats 1000000 in
theorem mul_one (n:Nat) (hn:n ≤ 300) (w:World):Calls Tryz.prog 113 #[.int .u64 1,.int .u64 n] w fun e w' => e = .returned (.tuple #[.int .u64 0,.int .u64 n]) ∧ w = w':=by
 go_enter Tryz.func113,Tryz.ntmps113
 go_wp2_with (go_at_call 152;refine (mul64_one n hn _).mono ?_;rintro e w' ⟨rfl,rfl⟩)
 refine bodyPost_ret (v:=.tuple #[.int .u64 0,.int .u64 n]) (by simp [results,Tryz.results113]) rfl ⟨rfl,rfl⟩
theorem size_setCells (b:Nat):∀ (vs:List Value) (o:Nat) (w:World),(w.setCells b o vs).heap.size = w.heap.size
 | [],_,_ => rfl
 | v :: vs,o,w => by rw [World.setCells,size_setCells b vs (o + 1)];simp
theorem infoIn:(Tryz.prog.info? 44).map (fun i => (i.zero,i.size,i.bytes)) = some (some (.agg #[.slice none 0 0,.slice none 0 0,.slice none 0 0]),3,72):=by kernel_rfl
theorem infoInS:(Tryz.prog.info? 44).map (·.size) = some 3:=by kernel_rfl
theorem repNew {w w1:World} {N:Nat} {xs:List Value} (h:w1.ownsRow w.heap.size 44 3 (.slice (some ⟨w.heap.size,0,none⟩) N N) N (madeCells (Value.agg #[.slice none 0 0,.slice none 0 0,.slice none 0 0]).cells (N * 3)).toList) (hb:Below w.heap.size w w1) (hl:xs.length = 3):RepI w w.heap.size N xs 0 w1 ∧ w.heap.size < w1.heap.size:=by
 have e:(madeCells (Value.agg #[.slice none 0 0,.slice none 0 0,.slice none 0 0]).cells (N * 3)).toList = (List.replicate N ()).flatMap fun _ => [vnil,vnil,vnil]:=by
  have:=madeCells_rows (fun _:Unit => [vnil,vnil,vnil]) () (Value.agg #[.slice none 0 0,.slice none 0 0,.slice none 0 0]).cells (by decide) rfl N
  exact this
 rw [e] at h
 have hO:Owns w1 w.heap.size 44 3 (fun _:Unit => [vnil,vnil,vnil]) (.slice (some ⟨w.heap.size,0,none⟩) N N) (List.replicate N ()):=by
  unfold Owns;rw [List.length_replicate];exact OwnR.of_row h
 rw [← hl] at hO
 exact ⟨RepI.new hO (by rw [hl];rfl) hb,(OwnR.lt hO _ rfl).2⟩
set_option maxRecDepth 8000 in
set_option maxHeartbeats 8000000 in
theorem repeatIn_any (N:Nat) (hN:N ≤ 300) (b:Nat) (a0 a1 a2:Option Addr) (n0 n1 n2 k0 k1 k2:Nat) (w:World) (hb:b < w.heap.size) (hc0:w.cell? ⟨b,0,none⟩ = some (.slice a0 n0 k0)) (hc1:w.cell? ⟨b,1,none⟩ = some (.slice a1 n1 k1)) (hc2:w.cell? ⟨b,2,none⟩ = some (.slice a2 n2 k2)) :
    Calls Tryz.prog 60 #[.slice (some ⟨b,0,none⟩) 1 1,.int .i64 N] w fun e w' => ∃ g,e = .returned (.slice (some ⟨g,0,none⟩) N N) ∧ RepI w g N [.slice a0 n0 k0,.slice a1 n1 k1,.slice a2 n2 k2] N w' ∧ w.heap.size ≤ g ∧ g < w'.heap.size:=by
  obtain ⟨xs,hxs⟩:∃ xs:List Value,xs = [.slice a0 n0 k0,.slice a1 n1 k1,.slice a2 n2 k2]:=⟨_,rfl⟩
  have HXS:=hid hxs
  have HL:=hid (show xs.length = 3 by rw [hxs];rfl)
  have H1:=hid (show ∀ v ∈ xs,v.oneCell' = true by
    rw [hxs];intro v hv
    simp only [List.mem_cons,List.not_mem_nil,or_false] at hv
    rcases hv with rfl | rfl | rfl <;> rfl)
  have HC:=hid (show ∀ j,j < xs.length → w.cell? ⟨b,0 + j,none⟩ = xs[j]? by
    rw [hxs];intro j hj
    obtain rfl | rfl | rfl:j = 0 ∨ j = 1 ∨ j = 2:=by have:j < 3:=hj;omega
    · exact hc0
    · exact hc1
    · exact hc2)
  rw [← hxs]
  clear hc0 hc1 hc2 hxs
  have HM:=hid (mul_one N hN)
  have i1:decide ((N:Int) < 0) = false:=by simp
  have i2:decide ((9223372036854775807:Int) < (N:Int)) = false:=by simp;omega
  have i3:IntKind.u64.wrap (N:Int) = (N:Int):=by rw [IntKind.wrap_u64];omega
  have i4:IntKind.i64.wrap (N:Int) = (N:Int):=by rw [IntKind.wrap_i64];omega
  obtain ⟨ii,q1,q2,q3,q4⟩:=info_parts infoIn
  obtain ⟨k,hk⟩:∃ k,k = min 1 N:=⟨_,rfl⟩
  have HK:=hid hk
  clear hk
  go_enter Tryz.func60,Tryz.ntmps60
  go_wp2_with (first
    | (go_at_call 113;refine (HM.out _).mono ?_;rintro e w' ⟨rfl,rfl⟩)
    | (at_make;go_must (refine wpList_make_full _ rfl _ _ 28 rfl w.heap.size 44 ii (.agg #[.slice none 0 0,.slice none 0 0,.slice none 0 0]) 3 Tryz.underlying28 q1 q2 q3 _ _ _ _ N rfl rfl rfl rfl (by rw [q4];omega) (by unfold maxLen;omega) (Nat.le_refl _) ?_);intro w1 hown hgrow;have hbx:=(show Below w.heap.size w w1 from (Below.refl _ _).grown hgrow (Nat.le_refl _) (by simp));have HR0:=repNew hown hbx HL.out;clear hown hgrow;obtain ⟨W2,hW2⟩:∃ W,W = w1.setCells w.heap.size (0 * xs.length) (List.replicate k xs).flatten:=⟨_,rfl⟩;have hcp:∀ ty,(Builtin.copy_ #[28,28] ty #[.slice (some ⟨w.heap.size,0,none⟩) N N,.slice (some ⟨b,0,none⟩) 1 1]).run Tryz.prog w1 = .ok (goInt k) W2:=(fun ty => by rw [hW2];exact HR0.1.first Tryz.underlying28 (by rw [HL.out];exact infoInS) H1.out HK.out (fun j hj => by rw [hbx.cell (p:=⟨b,_,none⟩) hb];exact HC.out j hj) ty N 1);have HW2:=hid (show RepI w w.heap.size N xs k W2 ∧ w.heap.size < W2.heap.size from ⟨by have:=HR0.1.more (k:=k) (by have:=HK.out;omega) (Nat.le_refl _);rw [Nat.zero_add] at this;rw [hW2];exact this,by rw [hW2,size_setCells];exact HR0.2⟩);clear hW2 HR0 hbx)
    | fail)
  clear hb
  go_loopw [8] (fun n' wr => ∃ n:Nat,n' = .int .i64 n ∧ n ≤ N ∧ (n = 0 → N = 0) ∧ RepI w w.heap.size N xs n wr ∧ w.heap.size < wr.heap.size) (fun n' _ => N - (intOf n').toNat)
  case atStart => exact ⟨k,rfl,by have:=HK.out;omega,by have:=HK.out;omega,HW2.out.1,HW2.out.2⟩
  case round =>
    obtain ⟨n,rfl,hn,hn0,hr,hg⟩:=hrel
    have HR:=hid hr;have HG:=hid hg
    clear hr hg HW2
    by_cases h6:n = N
    · subst h6
      have hlt:decide ((n:Int) < (n:Int)) = false:=by simp
      go_wp2_with fail
      go_ret
      exact ⟨_,rfl,HR.out,Nat.le_refl _,HG.out⟩
    · have hlt:(n:Int) < (N:Int):=by omega
      obtain ⟨m,hm⟩:∃ m,m = min n (N - n):=⟨_,rfl⟩
      have ho:n ≤ N:=hn
      obtain ⟨CC,hCC⟩:∃ CC:List Value → World → Prop,CC = fun us W => w.heap.size < W.heap.size ∧ RepI w w.heap.size N xs (n + us.length * m) W:=⟨_,rfl⟩
      have hC0:CC [] wr.drew:=by rw [hCC];refine ⟨HG.out,?_⟩;rw [List.length_nil,Nat.zero_mul,Nat.add_zero];exact ⟨HR.out.rws,HR.out.sm,HR.out.fz,HR.out.bel.drew⟩
      have HCC:=hid hCC
      have hne:Nonempty (Ph CC):=⟨⟨([],wr.drew),hC0⟩⟩
      have HM2:=hid hm
      have i5:IntKind.i64.wrap ((n:Int) + (m:Int)) = ((n + m:Nat):Int):=by rw [IntKind.wrap_i64];omega
      have hNn:¬ N = n:=fun e => h6 e.symm
      clear hCC hm h6
      go_upto_region 9 with fail
      refine wp_region_flow CC [(7,true)] [] (by kernel_rfl) (by kernel_rfl) hC0 ?_
      repeat (
        (with_reducible refine wq1_q ⟨rfl,rfl⟩ (fun K hK => ?_))
        go_simp
        first
          | ((with_reducible refine hK _ ?_);clear hK K)
          | ((with_reducible refine of_ite_neg (by simp [undef]) (hK _ ?_));clear hK K)
          | (apply Exists.intro
             (with_reducible refine ⟨fun _ => ?_,hK _ ?_⟩)
             (fail)
             clear hK K))
      refine wq1_x rfl (.int .i64 m) (fun KA hKA => ?_)
      go_simp
      refine hKA _ ?_
      clear hKA KA
      repeat (
        (with_reducible refine wq1_q ⟨rfl,rfl⟩ (fun K hK => ?_))
        go_simp
        first
          | ((with_reducible refine hK _ ?_);clear hK K)
          | ((with_reducible refine of_ite_neg (by simp [undef]) (hK _ ?_));clear hK K)
          | (apply Exists.intro
             (with_reducible refine ⟨fun _ => ?_,hK _ ?_⟩)
             (fail)
             clear hK K))
      refine wq1_nil ?_
      clear hne
      refine wq2_x _ rfl rfl ?_ ?_
      · intro W hW KA hKA
        rw [HCC.out] at hW
        have h1:=hW.2
        rw [List.length_nil,Nat.zero_mul,Nat.add_zero] at h1
        have hcp:∀ ty,(Builtin.copy_ #[28,28] ty #[.slice (some ⟨w.heap.size,n * 3,none⟩) (N - n) (N - n),.slice (some ⟨w.heap.size,0,none⟩) n N]).run Tryz.prog W = .ok (goInt m) (W.setCells w.heap.size (n * 3) (List.replicate m xs).flatten):=fun ty => by
          have:=h1.copy Tryz.underlying28 (by rw [HL.out];exact infoInS) H1.out HM2.out ho ty (N - n) N
          rw [HL.out] at this;exact this
        go_simp
        exact hKA (.int .i64 m) _ (W.setCells w.heap.size (n * 3) (List.replicate m xs).flatten) (by
          rw [HCC.out]
          refine ⟨by rw [size_setCells];exact hW.1,?_⟩
          have:=h1.more (k:=m) (by have:=HM2.out;omega) (Nat.le_refl _)
          rw [HL.out] at this
          simpa using this) rfl rfl
      intro _
      refine wq2_nil ?_
      intro wd hwd
      rw [HCC.out] at hwd
      have HD:=hid hwd
      clear hwd hC0
      go_wp2_with fail
      go_roundw
      case rel => exact ⟨n + m,by go_num,by have:=HM2.out;omega,by have:=HM2.out;omega,by simpa using HD.out.2,HD.out.1⟩
      case measure => have:=HM2.out;simp [intOf];omega
theorem infoBo:(Tryz.prog.info? 4).map (fun i => (i.zero,i.size,i.bytes)) = some (some (.bool false),1,1):=by kernel_rfl
theorem infoBoS:(Tryz.prog.info? 4).map (·.size) = some 1:=by kernel_rfl
theorem repNewB {w w1:World} {N:Nat} {xs:List Value} (h:w1.ownsRow w.heap.size 4 1 (.slice (some ⟨w.heap.size,0,none⟩) N N) N (madeCells (Value.bool false).cells (N * 1)).toList) (hb:Below w.heap.size w w1) (hl:xs.length = 1):RepI w w.heap.size N xs 0 w1 ∧ w.heap.size < w1.heap.size:=by
 have e:(madeCells (Value.bool false).cells (N * 1)).toList = (List.replicate N ()).flatMap fun _ => [.bool false]:=by
  have:=madeCells_rows (fun _:Unit => [Value.bool false]) () (Value.bool false).cells (by decide) rfl N
  exact this
 rw [e] at h
 have hO:Owns w1 w.heap.size 4 1 (fun _:Unit => [Value.bool false]) (.slice (some ⟨w.heap.size,0,none⟩) N N) (List.replicate N ()):=by
  unfold Owns;rw [List.length_replicate];exact OwnR.of_row h
 rw [← hl] at hO
 exact ⟨RepI.new hO (by rw [hl];rfl) hb,(OwnR.lt hO _ rfl).2⟩
set_option maxRecDepth 8000 in
set_option maxHeartbeats 8000000 in
theorem repeatB_any (N:Nat) (hN:N ≤ 300) (b:Nat) (v:Bool) (w:World) (hb:b < w.heap.size) (hc0:w.cell? ⟨b,0,none⟩ = some (.bool v)) :
    Calls Tryz.prog 114 #[.slice (some ⟨b,0,none⟩) 1 1,.int .i64 N] w fun e w' => ∃ g,e = .returned (.slice (some ⟨g,0,none⟩) N N) ∧ RepI w g N [.bool v] N w' ∧ w.heap.size ≤ g ∧ g < w'.heap.size:=by
  obtain ⟨xs,hxs⟩:∃ xs:List Value,xs = [.bool v]:=⟨_,rfl⟩
  have HXS:=hid hxs
  have HL:=hid (show xs.length = 1 by rw [hxs];rfl)
  have H1:=hid (show ∀ v ∈ xs,v.oneCell' = true by
    rw [hxs];intro x hv
    simp only [List.mem_cons,List.not_mem_nil,or_false] at hv
    subst hv;rfl)
  have HC:=hid (show ∀ j,j < xs.length → w.cell? ⟨b,0 + j,none⟩ = xs[j]? by
    rw [hxs];intro j hj
    obtain rfl:j = 0:=by have:j < 1:=hj;omega
    exact hc0)
  rw [← hxs]
  clear hc0 hxs
  have HM:=hid (mul_one N hN)
  have i1:decide ((N:Int) < 0) = false:=by simp
  have i2:decide ((9223372036854775807:Int) < (N:Int)) = false:=by simp;omega
  have i3:IntKind.u64.wrap (N:Int) = (N:Int):=by rw [IntKind.wrap_u64];omega
  have i4:IntKind.i64.wrap (N:Int) = (N:Int):=by rw [IntKind.wrap_i64];omega
  obtain ⟨ii,q1,q2,q3,q4⟩:=info_parts infoBo
  obtain ⟨k,hk⟩:∃ k,k = min 1 N:=⟨_,rfl⟩
  have HK:=hid hk
  clear hk
  go_enter Tryz.func114,Tryz.ntmps114
  go_wp2_with (first
    | (go_at_call 113;refine (HM.out _).mono ?_;rintro e w' ⟨rfl,rfl⟩)
    | (at_make;go_must (refine wpList_make_full _ rfl _ _ 42 rfl w.heap.size 4 ii (.bool false) 1 Tryz.underlying42 q1 q2 q3 _ _ _ _ N rfl rfl rfl rfl (by rw [q4];omega) (by unfold maxLen;omega) (Nat.le_refl _) ?_);intro w1 hown hgrow;have hbx:=(show Below w.heap.size w w1 from (Below.refl _ _).grown hgrow (Nat.le_refl _) (by simp));have HR0:=repNewB hown hbx HL.out;clear hown hgrow;obtain ⟨W2,hW2⟩:∃ W,W = w1.setCells w.heap.size (0 * xs.length) (List.replicate k xs).flatten:=⟨_,rfl⟩;have hcp:∀ ty,(Builtin.copy_ #[42,42] ty #[.slice (some ⟨w.heap.size,0,none⟩) N N,.slice (some ⟨b,0,none⟩) 1 1]).run Tryz.prog w1 = .ok (goInt k) W2:=(fun ty => by rw [hW2];exact HR0.1.first Tryz.underlying42 (by rw [HL.out];exact infoBoS) H1.out HK.out (fun j hj => by rw [hbx.cell (p:=⟨b,_,none⟩) hb];exact HC.out j hj) ty N 1);have HW2:=hid (show RepI w w.heap.size N xs k W2 ∧ w.heap.size < W2.heap.size from ⟨by have:=HR0.1.more (k:=k) (by have:=HK.out;omega) (Nat.le_refl _);rw [Nat.zero_add] at this;rw [hW2];exact this,by rw [hW2,size_setCells];exact HR0.2⟩);clear hW2 HR0 hbx)
    | fail)
  clear hb
  go_loopw [8] (fun n' wr => ∃ n:Nat,n' = .int .i64 n ∧ n ≤ N ∧ (n = 0 → N = 0) ∧ RepI w w.heap.size N xs n wr ∧ w.heap.size < wr.heap.size) (fun n' _ => N - (intOf n').toNat)
  case atStart => exact ⟨k,rfl,by have:=HK.out;omega,by have:=HK.out;omega,HW2.out.1,HW2.out.2⟩
  case round =>
    obtain ⟨n,rfl,hn,hn0,hr,hg⟩:=hrel
    have HR:=hid hr;have HG:=hid hg
    clear hr hg HW2
    by_cases h6:n = N
    · subst h6
      have hlt:decide ((n:Int) < (n:Int)) = false:=by simp
      go_wp2_with fail
      go_ret
      exact ⟨_,rfl,HR.out,Nat.le_refl _,HG.out⟩
    · have hlt:(n:Int) < (N:Int):=by omega
      obtain ⟨m,hm⟩:∃ m,m = min n (N - n):=⟨_,rfl⟩
      have ho:n ≤ N:=hn
      obtain ⟨CC,hCC⟩:∃ CC:List Value → World → Prop,CC = fun us W => w.heap.size < W.heap.size ∧ RepI w w.heap.size N xs (n + us.length * m) W:=⟨_,rfl⟩
      have hC0:CC [] wr.drew:=by rw [hCC];refine ⟨HG.out,?_⟩;rw [List.length_nil,Nat.zero_mul,Nat.add_zero];exact ⟨HR.out.rws,HR.out.sm,HR.out.fz,HR.out.bel.drew⟩
      have HCC:=hid hCC
      have hne:Nonempty (Ph CC):=⟨⟨([],wr.drew),hC0⟩⟩
      have HM2:=hid hm
      have i5:IntKind.i64.wrap ((n:Int) + (m:Int)) = ((n + m:Nat):Int):=by rw [IntKind.wrap_i64];omega
      have hNn:¬ N = n:=fun e => h6 e.symm
      clear hCC hm h6
      go_upto_region 9 with fail
      refine wp_region_flow CC [(7,true)] [] (by kernel_rfl) (by kernel_rfl) hC0 ?_
      repeat (
        (with_reducible refine wq1_q ⟨rfl,rfl⟩ (fun K hK => ?_))
        go_simp
        first
          | ((with_reducible refine hK _ ?_);clear hK K)
          | ((with_reducible refine of_ite_neg (by simp [undef]) (hK _ ?_));clear hK K)
          | (apply Exists.intro
             (with_reducible refine ⟨fun _ => ?_,hK _ ?_⟩)
             (fail)
             clear hK K))
      refine wq1_x rfl (.int .i64 m) (fun KA hKA => ?_)
      go_simp
      refine hKA _ ?_
      clear hKA KA
      repeat (
        (with_reducible refine wq1_q ⟨rfl,rfl⟩ (fun K hK => ?_))
        go_simp
        first
          | ((with_reducible refine hK _ ?_);clear hK K)
          | ((with_reducible refine of_ite_neg (by simp [undef]) (hK _ ?_));clear hK K)
          | (apply Exists.intro
             (with_reducible refine ⟨fun _ => ?_,hK _ ?_⟩)
             (fail)
             clear hK K))
      refine wq1_nil ?_
      clear hne
      refine wq2_x _ rfl rfl ?_ ?_
      · intro W hW KA hKA
        rw [HCC.out] at hW
        have h1:=hW.2
        rw [List.length_nil,Nat.zero_mul,Nat.add_zero] at h1
        have hcp:∀ ty,(Builtin.copy_ #[42,42] ty #[.slice (some ⟨w.heap.size,n,none⟩) (N - n) (N - n),.slice (some ⟨w.heap.size,0,none⟩) n N]).run Tryz.prog W = .ok (goInt m) (W.setCells w.heap.size (n) (List.replicate m xs).flatten):=fun ty => by
          have:=h1.copy Tryz.underlying42 (by rw [HL.out];exact infoBoS) H1.out HM2.out ho ty (N - n) N
          rw [HL.out] at this;simpa using this
        go_simp
        exact hKA (.int .i64 m) _ (W.setCells w.heap.size (n) (List.replicate m xs).flatten) (by
          rw [HCC.out]
          refine ⟨by rw [size_setCells];exact hW.1,?_⟩
          have:=h1.more (k:=m) (by have:=HM2.out;omega) (Nat.le_refl _)
          rw [HL.out] at this
          simpa using this) rfl rfl
      intro _
      refine wq2_nil ?_
      intro wd hwd
      rw [HCC.out] at hwd
      have HD:=hid hwd
      clear hwd hC0
      go_wp2_with fail
      go_roundw
      case rel => exact ⟨n + m,by go_num,by have:=HM2.out;omega,by have:=HM2.out;omega,by simpa using HD.out.2,HD.out.1⟩
      case measure => have:=HM2.out;simp [intOf];omega
theorem rowB_len (x:Bool):(rowB x).length = 1:=rfl
theorem Owns.cellB {w:World} {base e g n c:Nat} {xs:List Bool} (h:Owns w base e 1 rowB (.slice (some ⟨g,0,none⟩) n c) xs) (k:Nat) (hk:k < xs.length):w.cell? ⟨g,k,none⟩ = some (.bool (xs.getD k false)):=by
 have:=h.cellAt rowB_len k 0 false hk (by omega)
 simpa [rowB] using this
theorem Owns.putB {w:World} {base e g n c:Nat} {xs:List Bool} (h:Owns w base e 1 rowB (.slice (some ⟨g,0,none⟩) n c) xs) (k:Nat) (hk:k < xs.length) (x:Bool):Owns (w.setCell ⟨g,k,none⟩ (.bool x)) base e 1 rowB (.slice (some ⟨g,0,none⟩) n c) (xs.set k x):=by
 have:=h.putRow rowB_len k 0 false x (.bool x) hk (by omega) (by simp [rowB])
 simpa using this
theorem Bx.touch {w w':World} {r g:Nat} {cs:List Value} (h:Bx w g cs) (ht:Touch r w w') (hn:g ≠ r):Bx w' g cs:=h.kept (ht.block g h.lt hn)
theorem Bx.setc {w:World} {g:Nat} {cs:List Value} (h:Bx w g cs) (b o:Nat) (u:Value) (hn:g ≠ b):Bx (w.setCell ⟨b,o,none⟩ u) g cs:=h.kept (Below.heap_setCell _ _ _ _ hn)
theorem loadVar_in (w:World) (g:Nat) (a b c:Value) (h0:w.cell? ⟨g,0,none⟩ = some a) (h1:w.cell? ⟨g,1,none⟩ = some b) (h2:w.cell? ⟨g,2,none⟩ = some c):(loadVar 44 ⟨g,0,none⟩).run Tryz.prog w = .ok (.agg #[a,b,c]) w:=by
 simp [loadVar,go_sem,h0,h1,h2]
abbrev T3:List Bool:=[true,true,true]
abbrev F4:List Bool:=[false,false,false,false]
structure InO (w:World) (lo g1 g2 g3:Nat) (xs zs ys:List Bool):Prop where
 o1:Owns w lo 4 1 rowB (.slice (some ⟨g1,0,none⟩) 3 3) xs
 o2:Owns w lo 4 1 rowB (.slice (some ⟨g2,0,none⟩) 4 4) zs
 o3:Owns w lo 4 1 rowB (.slice (some ⟨g3,0,none⟩) 3 3) ys
 l1:xs.length = 3
 l2:zs.length = 4
 l3:ys.length = 3
 n12:g1 < g2
 n23:g2 < g3
theorem InO.kept {w w':World} {lo g1 g2 g3:Nat} {xs zs ys:List Bool} (h:InO w lo g1 g2 g3 xs zs ys) (hk:∀ k,lo ≤ k → k < w.heap.size → w'.heap[k]? = w.heap[k]?):InO w' lo g1 g2 g3 xs zs ys :=
 ⟨OwnR.kept h.o1 fun k hk2 => hk k (OwnR.lt h.o1 k hk2).1 (OwnR.lt h.o1 k hk2).2,OwnR.kept h.o2 fun k hk2 => hk k (OwnR.lt h.o2 k hk2).1 (OwnR.lt h.o2 k hk2).2,OwnR.kept h.o3 fun k hk2 => hk k (OwnR.lt h.o3 k hk2).1 (OwnR.lt h.o3 k hk2).2,h.l1,h.l2,h.l3,h.n12,h.n23⟩
theorem InO.lt {w:World} {lo g1 g2 g3:Nat} {xs zs ys:List Bool} (h:InO w lo g1 g2 g3 xs zs ys):lo ≤ g1 ∧ g1 < g2 ∧ g2 < g3 ∧ g3 < w.heap.size:=⟨(OwnR.lt h.o1 g1 rfl).1,h.n12,h.n23,(OwnR.lt h.o3 g3 rfl).2⟩
theorem InO.put1 {w:World} {lo g1 g2 g3:Nat} {xs zs ys:List Bool} (h:InO w lo g1 g2 g3 xs zs ys) (k:Nat) (hk:k < 3) (b:Bool):InO (w.setCell ⟨g1,k,none⟩ (.bool b)) lo g1 g2 g3 (xs.set k b) zs ys :=
 ⟨h.o1.putB k (by rw [h.l1];exact hk) b,h.o2.set' g1 k _ (fun j hj => by have:=h.n12;simp [Value.ownBlock] at hj;omega),h.o3.set' g1 k _ (fun j hj => by have:=h.n12;have:=h.n23;simp [Value.ownBlock] at hj;omega),by simp [h.l1],h.l2,h.l3,h.n12,h.n23⟩
theorem InO.put2 {w:World} {lo g1 g2 g3:Nat} {xs zs ys:List Bool} (h:InO w lo g1 g2 g3 xs zs ys) (k:Nat) (hk:k < 4) (b:Bool):InO (w.setCell ⟨g2,k,none⟩ (.bool b)) lo g1 g2 g3 xs (zs.set k b) ys :=
 ⟨h.o1.set' g2 k _ (fun j hj => by have:=h.n12;simp [Value.ownBlock] at hj;omega),h.o2.putB k (by rw [h.l2];exact hk) b,h.o3.set' g2 k _ (fun j hj => by have:=h.n23;simp [Value.ownBlock] at hj;omega),h.l1,by simp [h.l2],h.l3,h.n12,h.n23⟩
theorem InO.put3 {w:World} {lo g1 g2 g3:Nat} {xs zs ys:List Bool} (h:InO w lo g1 g2 g3 xs zs ys) (k:Nat) (hk:k < 3) (b:Bool):InO (w.setCell ⟨g3,k,none⟩ (.bool b)) lo g1 g2 g3 xs zs (ys.set k b) :=
 ⟨h.o1.set' g3 k _ (fun j hj => by have:=h.n12;have:=h.n23;simp [Value.ownBlock] at hj;omega),h.o2.set' g3 k _ (fun j hj => by have:=h.n23;simp [Value.ownBlock] at hj;omega),h.o3.putB k (by rw [h.l3];exact hk) b,h.l1,h.l2,by simp [h.l3],h.n12,h.n23⟩
theorem InO.boxed {w w':World} {lo g1 g2 g3:Nat} {xs zs ys:List Bool} (h:InO w lo g1 g2 g3 xs zs ys) {b:Nat} (hk:∀ k,k ≠ b → w'.heap[k]? = w.heap[k]?) (hb:b < g1):InO w' lo g1 g2 g3 xs zs ys:=by
 have h1:=h.n12;have h2:=h.n23
 exact ⟨OwnR.kept h.o1 fun k hk2 => hk k (by simp [Value.ownBlock] at hk2;omega),OwnR.kept h.o2 fun k hk2 => hk k (by simp [Value.ownBlock] at hk2;omega),OwnR.kept h.o3 fun k hk2 => hk k (by simp [Value.ownBlock] at hk2;omega),h.l1,h.l2,h.l3,h.n12,h.n23⟩
def InAllP (w:World) (e:Ending) (w':World):Prop:=∃ g1 g2 g3,e = .returned (.agg #[.slice (some ⟨g1,0,none⟩) 3 3,.slice (some ⟨g2,0,none⟩) 4 4,.slice (some ⟨g3,0,none⟩) 3 3]) ∧ InO w' w.heap.size g1 g2 g3 T3 F4 T3 ∧ Below w.heap.size w w'
set_option maxHeartbeats 2000000 in
theorem inAll_any (w:World):Calls Tryz.prog 126 #[] w (InAllP w):=by
 go_enter Tryz.func126,Tryz.ntmps126
 go_wp2_with fail
 refine bodyPost_ret (results_c1 Tryz.results126 _ _ ⟨w.heap.size,0,none⟩ (.agg #[.slice (some ⟨w.heap.size + 1,0,none⟩) 3 3,.slice (some ⟨w.heap.size + 1 + 1,0,none⟩) 4 4,.slice (some ⟨w.heap.size + 1 + 1 + 1,0,none⟩) 3 3]) rfl (loadVar_in _ _ _ _ _ (by simp [go_sem]) (by simp [go_sem]) (by simp [go_sem]))) rfl ⟨_,_,_,rfl,⟨?_,?_,?_,rfl,rfl,rfl,by omega,by omega⟩,?_⟩
 ·have:=((Owns.litOf (w:=w.alloc (.cells #[.slice (some ⟨w.heap.size + 1,0,none⟩) 3 3,.slice (some ⟨w.heap.size + 1 + 1,0,none⟩) 4 4,.slice (some ⟨w.heap.size + 1 + 1 + 1,0,none⟩) 3 3] 44)) (base:=w.heap.size) (e:=4) (f:=rowB) T3 #[.bool true,.bool true,.bool true] (by simp) rowB_len rfl (by unfold maxLen;simp)).allocd (.cells #[.bool false,.bool false,.bool false,.bool false] 4)).allocd (.cells #[.bool true,.bool true,.bool true] 4)
  simpa using this
 ·have:=(Owns.litOf (w:=(w.alloc (.cells #[.slice (some ⟨w.heap.size + 1,0,none⟩) 3 3,.slice (some ⟨w.heap.size + 1 + 1,0,none⟩) 4 4,.slice (some ⟨w.heap.size + 1 + 1 + 1,0,none⟩) 3 3] 44)).alloc (.cells #[.bool true,.bool true,.bool true] 4)) (base:=w.heap.size) (e:=4) (f:=rowB) F4 #[.bool false,.bool false,.bool false,.bool false] (by simp;omega) rowB_len rfl (by unfold maxLen;simp)).allocd (.cells #[.bool true,.bool true,.bool true] 4)
  simpa using this
 ·have:=Owns.litOf (w:=((w.alloc (.cells #[.slice (some ⟨w.heap.size + 1,0,none⟩) 3 3,.slice (some ⟨w.heap.size + 1 + 1,0,none⟩) 4 4,.slice (some ⟨w.heap.size + 1 + 1 + 1,0,none⟩) 3 3] 44)).alloc (.cells #[.bool true,.bool true,.bool true] 4)).alloc (.cells #[.bool false,.bool false,.bool false,.bool false] 4)) (base:=w.heap.size) (e:=4) (f:=rowB) T3 #[.bool true,.bool true,.bool true] (by simp;omega) rowB_len rfl (by unfold maxLen;simp)
  simpa using this
 ·exact ((((Below.refl _ _).alloc (Nat.le_refl _) _).alloc (by simp) _).alloc (by simp;omega) _).alloc (by simp;omega) _
def InDr (r B:Nat) (bs:List Nat) (p:Nat) (w:World) (e:Ending) (w':World):Prop :=
 ∃ g1 g2 g3 xs zs ys q,e = .returned (.agg #[.slice (some ⟨g1,0,none⟩) 3 3,.slice (some ⟨g2,0,none⟩) 4 4,.slice (some ⟨g3,0,none⟩) 3 3]) ∧ InO w' w.heap.size g1 g2 g3 xs zs ys ∧ q ≤ p + 10 ∧ RdAt w' r B bs q ∧ Touch r w w'
set_option maxRecDepth 4000 in
set_option maxHeartbeats 8000000 in
theorem l20In_any (r B:Nat) (bs:List Nat) (p:Nat) (n:Int) (w:World) (h:RdAt w r B bs p) (hp:p ≤ 900000000) (h1:1 ≤ n) (hn:n ≤ 1099511627776) :
  Calls Tryz.prog 82 #[.pointer (some ⟨r,0,none⟩),.int .i64 n] w (InDr r B bs p w):=by
 have hrw:=h.lt
 have HR0:=hid h
 clear h
 go_enter Tryz.func82,Tryz.ntmps82
 go_upto_region 2 with (go_at_call 126;(with_reducible refine (inAll_any _).mono ?_);rintro e w1 ⟨g1,g2,g3,rfl,ho,hb⟩;have HO1:=hid ho;have HB1:=hid hb;clear ho hb)
 obtain ⟨w2,hw2⟩:∃ W,W = w1.alloc (.cells #[.slice (some ⟨g1,0,none⟩) 3 3,.slice (some ⟨g2,0,none⟩) 4 4,.slice (some ⟨g3,0,none⟩) 3 3] 44):=⟨_,rfl⟩
 obtain ⟨gi,hgi⟩:∃ g,g = w1.heap.size:=⟨_,rfl⟩
 rw [← hw2,← hgi]
 have hb2:Below w1.heap.size w1 w2:=by rw [hw2];exact (Below.refl _ _).alloc (Nat.le_refl _) _
 have hb01:Below w.heap.size w w1:=((Below.refl _ _).alloc (Nat.le_refl _) _).trans (HB1.out.mono (by simp))
 have HLO:=hid HO1.out.lt
 have HX:=hid (show Bx w2 gi [.slice (some ⟨g1,0,none⟩) 3 3,.slice (some ⟨g2,0,none⟩) 4 4,.slice (some ⟨g3,0,none⟩) 3 3] by rw [hw2,hgi];exact Bx.new w1 #[.slice (some ⟨g1,0,none⟩) 3 3,.slice (some ⟨g2,0,none⟩) 4 4,.slice (some ⟨g3,0,none⟩) 3 3] 44 (by simp))
 have HY:=hid (show Bx w2 w.heap.size [vnil,vnil,vnil] from ((Bx.new w #[vnil,vnil,vnil] 44 (by simp)).below HB1.out (by simp)).below hb2 (by have:=HB1.out.size;simp at this;omega))
 have HO2:=hid (HO1.out.kept (w':=w2) fun k _ hk => hb2.block k hk)
 have HT2:=hid (show Touch r w w2 from (Touch.of_below hb01 (Nat.le_refl _)).trans (Touch.of_below hb2 (Nat.le_refl _)))
 have HR2:=hid ((HR0.out.kept hb01 hrw).kept hb2 (by have:=hb01.size;omega))
 have h0lo:=HO1.out.lt
 simp only [World.size_alloc] at h0lo
 have hn1:g1 < gi:=by omega
 have hn3:g3 < gi:=by omega
 have hgr1:w.heap.size < g1:=by omega
 obtain ⟨_,h12,h23,_⟩:=h0lo
 have hg10:g1 ≠ w.heap.size:=by omega
 have hSZ:=hid (show w.heap.size ≤ (w.alloc (.cells #[vnil,vnil,vnil] 44)).heap.size by simp)
 clear hw2 hgi hb2 hb01
 go_wp2_with fail
 go_loopw [6] (fun i wr => ∃ (k q:Nat) (xs ys:List Bool),i = .int .i64 (k:Nat) ∧ k ≤ 3 ∧ q ≤ p + 2 * k ∧ RdAt wr r B bs q ∧ InO wr w.heap.size g1 g2 g3 xs F4 ys ∧ Touch r w wr ∧ Bx wr gi [.slice (some ⟨g1,0,none⟩) 3 3,.slice (some ⟨g2,0,none⟩) 4 4,.slice (some ⟨g3,0,none⟩) 3 3] ∧ Bx wr w.heap.size [vnil,vnil,vnil]) (fun i _ => 3 - (intOf i).toNat)
 case atStart => exact ⟨0,p,T3,T3,by go_num,by omega,by omega,HR2.out,⟨HO2.out.o1.rebase hSZ.out,HO2.out.o2.rebase hSZ.out,HO2.out.o3.rebase hSZ.out,HO2.out.l1,HO2.out.l2,HO2.out.l3,HO2.out.n12,HO2.out.n23⟩,HT2.out,HX.out,HY.out⟩
 case round =>
  clear HX HY HO2 HT2 HR2
  obtain ⟨k,q,xs,ys,rfl,hk,hq,hrd,ho,ht,hx,hy⟩:=hrel
  have HO:=hid ho;have HT:=hid ht;have HX:=hid hx;have HY:=hid hy;have HRD:=hid hrd
  have h3l:=ho.lt.2.2.2
  have hxl:=hx.lt
  clear ho ht hx hy hrd
  by_cases hlt:k < 3
  ·have hki:(k:Int) < 3:=by omega
   obtain ⟨x0,x1,x2⟩:=HX.out.three.1
   go_upto_region 5 with fail
   go_region_held3 (fun w' => w'.cell? ⟨gi,0,none⟩ = some (.slice (some ⟨g1,0,none⟩) 3 3)) (first | exact z1 | (rw [World.cell?_setCell_far _ _ _ _ (by show g1 ≠ gi;omega)];exact z1) | go_keep)
    (first | (go_at_call 80;(with_reducible refine (pick_p r B bs q n _ HRD.out.drewd (by omega) h1 hn).mono ?_);rintro e w4 ⟨y,rfl,hy0,hy1,h4,ht4⟩;have HT4:=hid (show Touch r wr w4 from (Touch.refl r wr).drewd.trans ht4);have HX4:=hid (HX.out.touch HT4.out (by omega));have z1:=HX4.out.three.1.1;have HO4:=hid (HO.out.kept (w':=w4) fun k h1 h2 => HT4.out.block k h2 (by omega));have zc:=HO4.out.o1.cellB k (by rw [HO4.out.l1];omega);have zf:=HO4.out.o1.frozenAt k;have HY4:=hid (HY.out.touch HT4.out (by omega));have HRD4:=hid h4;clear h4 ht4))
   clear z1 zc zf x0 x1 x2
   go_upto_region 6 with fail
   obtain ⟨w5,hw5⟩:∃ W,W = w4.setCell ⟨g1,k,none⟩ (.bool (decide (0 < y))):=⟨_,rfl⟩
   rw [← hw5]
   have HO5:=hid (show InO w5 w.heap.size g1 g2 g3 (xs.set k (decide (0 < y))) F4 ys by rw [hw5];exact HO4.out.put1 k hlt _)
   have HX5:=hid (show Bx w5 gi _ by rw [hw5];exact HX4.out.setc g1 k _ (by omega))
   have HY5:=hid (show Bx w5 w.heap.size _ by rw [hw5];exact HY4.out.setc g1 k _ (by omega))
   have HRD5:=hid (show RdAt w5 r B bs (q + 1) by rw [hw5];exact HRD4.out.setNew hrw (by omega) k _)
   have HT5:=hid (show Touch r w w5 by rw [hw5];exact (HT.out.trans HT4.out).setNew (by omega) _)
   have hxl5:=HX5.out.lt
   have h3l5:=HO5.out.lt.2.2.2
   clear hw5
   obtain ⟨x0,x1,x2⟩:=HX5.out.three.1
   go_region_held3 (fun w' => w'.cell? ⟨gi,2,none⟩ = some (.slice (some ⟨g3,0,none⟩) 3 3)) (first | exact z1 | (rw [World.cell?_setCell_far _ _ _ _ (by show g3 ≠ gi;omega)];exact z1) | go_keep)
    (first | (go_at_call 80;(with_reducible refine (pick_p r B bs (q + 1) n _ HRD5.out.drewd (by omega) h1 hn).mono ?_);rintro e w6 ⟨y2,rfl,hy20,hy21,h6,ht6⟩;have HT6:=hid (show Touch r w5 w6 from (Touch.refl r w5).drewd.trans ht6);have HX6:=hid (HX5.out.touch HT6.out (by omega));have z1:=HX6.out.three.1.2.2;have HO6:=hid (HO5.out.kept (w':=w6) fun k h1 h2 => HT6.out.block k h2 (by omega));have zc:=HO6.out.o3.cellB k (by rw [HO6.out.l3];omega);have zf:=HO6.out.o3.frozenAt k;have HY6:=hid (HY5.out.touch HT6.out (by omega));have HRD6:=hid h6;clear h6 ht6))
   clear z1 zc zf x0 x1 x2
   go_wp2_with fail
   go_roundw
   case rel => exact ⟨k + 1,q + 1 + 1,_,ys.set k (decide (0 < y2)),by go_num,by omega,by omega,HRD6.out.setNew hrw (by omega) k _,HO6.out.put3 k hlt _,(HT5.out.trans HT6.out).setNew (by omega) _,HX6.out.setc g3 k _ (by omega),HY6.out.setc g3 k _ (by omega)⟩
   case measure => simp [intOf];omega
  ·obtain rfl:k = 3:=by omega
   have hq:q ≤ p + 6:=by omega
   rw [show (((3:Nat)):Int) = (3:Int) from rfl]
   go_wp2_with fail
   go_loopw [7] (fun i wr => ∃ (k q:Nat) (zs:List Bool),i = .int .i64 (k:Nat) ∧ k ≤ 4 ∧ q ≤ p + 6 + k ∧ RdAt wr r B bs q ∧ InO wr w.heap.size g1 g2 g3 xs zs ys ∧ Touch r w wr ∧ Bx wr gi [.slice (some ⟨g1,0,none⟩) 3 3,.slice (some ⟨g2,0,none⟩) 4 4,.slice (some ⟨g3,0,none⟩) 3 3] ∧ Bx wr w.heap.size [vnil,vnil,vnil]) (fun i _ => 4 - (intOf i).toNat)
   case atStart => exact ⟨0,q,F4,by go_num,by omega,by omega,HRD.out,HO.out,HT.out,HX.out,HY.out⟩
   case round =>
    clear HX HY HO HT HRD hq hxl h3l
    obtain ⟨k,q,zs,rfl,hk,hq,hrd,ho,ht,hx,hy⟩:=hrel
    have HO:=hid ho;have HT:=hid ht;have HX:=hid hx;have HY:=hid hy;have HRD:=hid hrd
    have h3l:=ho.lt.2.2.2
    have hxl:=hx.lt
    clear ho ht hx hy hrd
    by_cases hlt:k < 4
    ·have hki:(k:Int) ≤ 3:=by omega
     have hki4:(k:Int) < 4:=by omega
     obtain ⟨x0,x1,x2⟩:=HX.out.three.1
     go_upto_region 10 with fail
     go_region_held3 (fun w' => w'.cell? ⟨gi,1,none⟩ = some (.slice (some ⟨g2,0,none⟩) 4 4)) (first | exact z1 | (rw [World.cell?_setCell_far _ _ _ _ (by show g2 ≠ gi;omega)];exact z1) | go_keep)
      (first | (go_at_call 80;(with_reducible refine (pick_p r B bs q n _ HRD.out.drewd (by omega) h1 hn).mono ?_);rintro e w4 ⟨y,rfl,hy0,hy1,h4,ht4⟩;have HT4:=hid (show Touch r wr w4 from (Touch.refl r wr).drewd.trans ht4);have HX4:=hid (HX.out.touch HT4.out (by omega));have z1:=HX4.out.three.1.2.1;have HO4:=hid (HO.out.kept (w':=w4) fun k h1 h2 => HT4.out.block k h2 (by omega));have zc:=HO4.out.o2.cellB k (by rw [HO4.out.l2];omega);have zf:=HO4.out.o2.frozenAt k;have HY4:=hid (HY.out.touch HT4.out (by omega));have HRD4:=hid h4;clear h4 ht4))
     clear z1 zc zf x0 x1 x2
     go_wp2_with fail
     go_roundw
     case rel => exact ⟨k + 1,q + 1,zs.set k (y == 0),by go_num,by omega,by omega,HRD4.out.setNew hrw (by omega) k _,HO4.out.put2 k hlt _,(HT.out.trans HT4.out).setNew (by omega) _,HX4.out.setc g2 k _ (by omega),HY4.out.setc g2 k _ (by omega)⟩
     case measure => simp [intOf];omega
    ·obtain rfl:k = 4:=by omega
     obtain ⟨x0,x1,x2⟩:=HX.out.three.1
     obtain ⟨⟨y0,y1,y2⟩,f0,f1,f2⟩:=HY.out.three
     have hyl:=HY.out.lt
     go_wp2_with fail
     refine bodyPost_ret (results_c1 Tryz.results82 _ _ ⟨w.heap.size,0,none⟩ (.agg #[.slice (some ⟨g1,0,none⟩) 3 3,.slice (some ⟨g2,0,none⟩) 4 4,.slice (some ⟨g3,0,none⟩) 3 3]) rfl (loadVar_in _ _ _ _ _ (by simp [go_sem, *]) (by simp [go_sem, *]) (by simp [go_sem, *]))) rfl ⟨_,_,_,xs,zs,ys,q,rfl,?_,by omega,?_,?_⟩
     ·refine HO.out.boxed (b:=w.heap.size) (fun k hk => ?_) (by omega)
      rw [Below.heap_setCell _ _ _ _ (by exact hk),Below.heap_setCell _ _ _ _ (by exact hk),Below.heap_setCell _ _ _ _ (by exact hk)]
     ·exact ((HRD.out.setNew hrw (Nat.le_refl _) _ _).setNew hrw (Nat.le_refl _) _ _).setNew hrw (Nat.le_refl _) _ _
     ·exact ((HT.out.setNew (Nat.le_refl _) _).setNew (Nat.le_refl _) _).setNew (Nat.le_refl _) _
end Go.Proofs.YtenjbhbcacocjaaGreat
