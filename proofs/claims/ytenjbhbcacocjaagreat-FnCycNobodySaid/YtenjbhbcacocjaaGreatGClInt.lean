/- What is asked, what comes of it: by value; writes, burst, ReqOk and RspOk. -/
import Derived.Test.YtenjbhbcacocjaaGreatGPure
import Derived.Deep.RegionHeld3
set_option linter.unusedVariables false
set_option linter.unusedSimpArgs false
namespace Go.Proofs.YtenjbhbcacocjaaGreat
open Go.RowKit
set_option maxHeartbeats 1000000 in
theorem sClone_int {α:Type} (f:α → List Value) (hf:∀ x,(f x).length = 1) (h1:∀ x,∀ u ∈ f x,u.oneCell' = true) (v:Value) (ys:List α) (B:Nat) (w:World) (ha:Arr w B 1 v (ys.map f)) (hlen:ys.length * 8 ≤ 140737488355328) :
  Calls Tryz.prog 132 #[v] w (CloneP f 3 1 ys w):=by
 have ha0:=hid ha
 obtain ⟨ao,cap,rfl,g1,g2,g0,g9,g3⟩:=ha
 simp only [List.length_map] at g1 g2 g0 ⊢
 clear g3
 cases ao with
 | none =>
  obtain rfl:=g9 rfl
  have hy:ys = []:=by
   rcases ys with _ | ⟨y,ys⟩
   ·rfl
   ·simp at g1
  subst hy
  have he:=fun w => Lib.run_eql_slice_nil (P:=Tryz.prog) w 24 3 none 0 0 0 0 Tryz.underlying24
  go_enter Tryz.func132,Tryz.ntmps132
  go_wp2_with fail
  go_ret
  exact ⟨_,rfl,Owns.zero,Below.refl _ _⟩
 | some ad =>
  have he:=fun w => Lib.run_eql_slice_nil (P:=Tryz.prog) w 24 3 (some ad) ys.length cap 0 0 Tryz.underlying24
  clear g9
  go_enter Tryz.func132,Tryz.ntmps132
  go_wp2_with (at_builtin;go_must (refine wpList_cat elem_int f hf h1 _ rfl _ _ rfl w.heap.size _ [] (by rfl) (Owns.lit (Nat.le_refl _)) _ ys (min B w.heap.size) (by rfl) (by have:=(ha0.out).fit (by omega) (by intro r hr;obtain ⟨y,_,rfl⟩:=List.mem_map.1 hr;exact hf y);simp only [List.length_map] at this;exact this.below ((Below.refl _ _).alloc (Nat.min_le_right _ _) _)) (by simpa using hlen) (by simp;omega) (by simp) ?_);intro v' w1 hown1 hb1 _)
  go_ret
  exact ⟨v', rfl,by simpa using hown1,((Below.refl _ _).alloc (Nat.le_refl _) _).trans hb1⟩
set_option maxHeartbeats 1000000 in
theorem sClip_int (a:Option Addr) (n c:Nat) (w:World) (hc:n ≤ c) (hm:c ≤ 9223372036854775807):Calls Tryz.prog 131 #[.slice a n c] w fun e w' => e = .returned (.slice a n n) ∧ w = w':=by
 go_enter Tryz.func131,Tryz.ntmps131
 go_wp2_with fail
 go_ret
 exact ⟨rfl,rfl⟩
set_option maxHeartbeats 1000000 in
theorem clone_int {α:Type} (f:α → List Value) (hf:∀ x,(f x).length = 1) (h1:∀ x,∀ u ∈ f x,u.oneCell' = true) (v:Value) (ys:List α) (B:Nat) (w:World) (ha:Arr w B 1 v (ys.map f)) (hlen:ys.length * 8 ≤ 140737488355328) :
  Calls Tryz.prog 88 #[v] w (CloneP f 3 1 ys w):=by
 go_enter Tryz.func88,Tryz.ntmps88
 go_wp2_with fail
 refine (sClone_int f hf h1 v ys B w ha hlen).mono ?_
 rintro e w1 ⟨u,rfl,hown,hb⟩
 obtain ⟨a,c,rfl,hc1,hc2⟩:=hown.shape
 go_wp2_with fail
 refine (sClip_int a ys.length c _ hc1 hc2).mono ?_
 rintro e w2 ⟨rfl,rfl⟩
 go_wp2_with fail
 go_ret
 exact ⟨_,rfl,hown.clip,hb⟩
def Apart (v u:Value):Prop:=∀ k,v.ownBlock = some k → u.ownBlock ≠ some k
theorem apart_of {α β:Type} {w w':World} {base e sz e' sz':Nat} {f:α → List Value} {g:β → List Value} {v u:Value} {xs:List α} {ys:List β} (h:Owns w base e sz f v xs) (h':Owns w' w.heap.size e' sz' g u ys):Apart v u:=by
 intro k hk hu
 have:=(OwnR.lt h k hk).2
 have:=(OwnR.lt h' k hu).1
 omega
def AtmV (w:World) (B:Nat) (v:Value) (ws hs:List Int):Prop:=∃ wv hv,v = .agg #[wv,hv] ∧ Ints w B wv ws ∧ Ints w B hv hs
def AtmCopyP (ws hs:List Int) (w:World) (en:Ending) (w':World):Prop :=
 ∃ wv hv,en = .returned (.agg #[wv,hv]) ∧ Owns w' w.heap.size 3 1 rowI wv ws ∧ Owns w' w.heap.size 3 1 rowI hv hs ∧ Apart wv hv ∧ Below w.heap.size w w'
set_option maxHeartbeats 1000000 in
theorem atmCopy_any (v:Value) (ws hs:List Int) (B:Nat) (w:World) (h:AtmV w B v ws hs) (hB:B ≤ w.heap.size) (hl1:ws.length ≤ 1048576) (hl2:hs.length ≤ 1048576) :
  Calls Tryz.prog 85 #[v] w (AtmCopyP ws hs w):=by
 obtain ⟨wv,hv,rfl,h1,h2⟩:=h
 have ha1:=hid (fun (W:World) (hW:Below B w W) => (h1.below hW).1)
 have ha2:=hid (fun (W:World) (hW:Below B w W) => (h2.below hW).1)
 go_enter Tryz.func85,Tryz.ntmps85
 go_wp2_with fail
 go_region_held3 (fun w' => w'.cell? ⟨w.heap.size,0,none⟩ = some wv ∧ w'.cell? ⟨w.heap.size,1,none⟩ = some hv)
  (first | exact ⟨d1,d2⟩ | exact ⟨c1,c2⟩ | go_keep)
  (first
   | (go_at_call 88;(with_reducible refine (clone_int rowI rowI_len rowI_one wv ws B _ ?_ ?_).mono ?_);(exact ha1.out _ ((((Below.refl _ _).alloc hB _).alloc (by simp;omega) _).drew));omega;rintro e w1 ⟨u1,rfl,ho1,hb1⟩;obtain ⟨q1,k1,rfl,hk1,hm1⟩:=ho1.shape;have c1:w1.cell? ⟨w.heap.size,0,none⟩ = some wv:=(by rw [hb1.cell (p:=⟨w.heap.size,0,none⟩) (by simp;omega)];simp);have c2:w1.cell? ⟨w.heap.size,1,none⟩ = some hv:=(by rw [hb1.cell (p:=⟨w.heap.size,1,none⟩) (by simp;omega)];simp))
   | (go_at_call 88;(with_reducible refine (clone_int rowI rowI_len rowI_one hv hs B _ ?_ ?_).mono ?_);(exact ha2.out _ (((((Below.refl _ _).alloc hB _).alloc (by simp;omega) _).drew).trans (hb1.mono (by simp;omega))));omega;rintro e w2 ⟨u2,rfl,ho2,hb2⟩;obtain ⟨q2,k2,rfl,hk2,hm2⟩:=ho2.shape;have d1:w2.cell? ⟨w.heap.size,0,none⟩ = some wv:=(by rw [hb2.cell (p:=⟨w.heap.size,0,none⟩) (by have:=hb1.size;simp at this;simp;omega)];exact c1);have d2:w2.cell? ⟨w.heap.size,1,none⟩ = some hv:=(by rw [hb2.cell (p:=⟨w.heap.size,1,none⟩) (by have:=hb1.size;simp at this;simp;omega)];exact c2);have d3:w2.cell? ⟨w.heap.size + 1,0,none⟩ = some (.slice none 0 0):=(by rw [hb2.cell (p:=⟨w.heap.size + 1,0,none⟩) (by have:=hb1.size;simp at this;simp;omega),hb1.cell (p:=⟨w.heap.size + 1,0,none⟩) (by simp)];simp);have d4:w2.cell? ⟨w.heap.size + 1,1,none⟩ = some (.slice none 0 0):=(by rw [hb2.cell (p:=⟨w.heap.size + 1,1,none⟩) (by have:=hb1.size;simp at this;simp;omega),hb1.cell (p:=⟨w.heap.size + 1,1,none⟩) (by simp)];simp);have d5:w2.frozen? ⟨w.heap.size + 1,0,none⟩ = false:=(by rw [hb2.frozen (p:=⟨w.heap.size + 1,0,none⟩) (by have:=hb1.size;simp at this;simp;omega),hb1.frozen (p:=⟨w.heap.size + 1,0,none⟩) (by simp)];simp);have d6:w2.frozen? ⟨w.heap.size + 1,1,none⟩ = false:=(by rw [hb2.frozen (p:=⟨w.heap.size + 1,1,none⟩) (by have:=hb1.size;simp at this;simp;omega),hb1.frozen (p:=⟨w.heap.size + 1,1,none⟩) (by simp)];simp)))
 go_wp2_with fail
 have z1:=hb1.size
 simp at z1
 refine bodyPost_ret (v:=.agg #[.slice q1 ws.length k1,.slice q2 hs.length k2]) (by simp [results,Tryz.results85,go_sem,d3,d4]) rfl ?_
 refine ⟨_,_,rfl,?_,?_,?_,?_⟩
 ·exact ((ho1.rebase (by simp;omega)).below hb2 |>.set' _ _ _ (fun k hk => by have:=(OwnR.lt ho1 k hk).1;simp at this;omega)).set' _ _ _ (fun k hk => by have:=(OwnR.lt ho1 k hk).1;simp at this;omega)
 ·exact ((ho2.rebase (by omega)).set' _ _ _ (fun k hk => by have:=(OwnR.lt ho2 k hk).1;omega)).set' _ _ _ (fun k hk => by have:=(OwnR.lt ho2 k hk).1;omega)
 ·exact apart_of ho1 ho2
 ·exact (((((Below.refl _ _).alloc (Nat.le_refl _) _).alloc (by simp) _).drew.trans (hb1.mono (by simp;omega))).trans (hb2.mono (by omega))).setCell (by simp) _ |>.setCell (by simp) _
theorem bits_and_nat (a b:Nat) (ha:a < 4611686018427387904) (hb:b < 4611686018427387904):bits .and .i64 (a:Int) (b:Int) = ((a &&& b:Nat):Int) :=
  (bits_nat .i64 62 (by decide) (fun n h0 h1 => by rw [IntKind.wrap_i64];have:(2:Int) ^ 62 = 4611686018427387904:=by decide
                                                   omega) a b (by omega) (by omega)).1
theorem bits_or_nat (a b:Nat) (ha:a < 4611686018427387904) (hb:b < 4611686018427387904):bits .or .i64 (a:Int) (b:Int) = ((a ||| b:Nat):Int) :=
  (bits_nat .i64 62 (by decide) (fun n h0 h1 => by rw [IntKind.wrap_i64];have:(2:Int) ^ 62 = 4611686018427387904:=by decide
                                                   omega) a b (by omega) (by omega)).2
theorem land_eq (a c r:Nat) (g:Nat → Bool) (ha:a < 65536) (hc:∀ i,i < 16 → c.testBit i = g i) (hr:∀ i,r.testBit i = (g i && a.testBit i)):a &&& c = r:=by
 apply Nat.eq_of_testBit_eq
 intro i
 rw [Nat.testBit_and,hr]
 by_cases hi:i < 16
 ·rw [hc i hi,Bool.and_comm]
 ·have:a.testBit i = false:=Nat.testBit_lt_two_pow (Nat.lt_of_lt_of_le ha (by
   have:2 ^ 16 ≤ 2 ^ i:=Nat.pow_le_pow_right (by omega) (by omega)
   simpa using this))
  simp [this]
theorem bit_hi (n i:Nat):(n / 256 * 256).testBit i = (decide (8 ≤ i) && n.testBit i):=by
 rw [show n / 256 * 256 = (n / 2 ^ 8) * 2 ^ 8 from rfl,Nat.testBit_mul_two_pow,Nat.testBit_div_two_pow]
 by_cases h8:8 ≤ i
 ·rw [show i - 8 + 8 = i from by omega]
 ·simp [h8]
theorem bit_lo (n i:Nat):(n % 256).testBit i = (decide (i < 8) && n.testBit i):=by
 rw [show n % 256 = n % 2 ^ 8 from rfl,Nat.testBit_mod_two_pow]
theorem and_hi (n:Nat) (h:n < 65536):n &&& 65280 = n / 256 * 256:=land_eq n _ _ (fun i => decide (8 ≤ i)) h (by decide) (bit_hi n)
theorem and_lo (n:Nat) (h:n < 65536):n &&& 255 = n % 256:=land_eq n _ _ (fun i => decide (i < 8)) h (by decide) (bit_lo n)
theorem and_all (n:Nat) (h:n < 65536):n &&& 65535 = n:=land_eq n _ _ (fun _ => true) h (by decide) (by simp)
theorem not_lo (n:Nat) (h:n < 65536):n &&& 18446744073709551360 = n / 256 * 256:=land_eq n _ _ (fun i => decide (8 ≤ i)) h (by decide) (bit_hi n)
theorem not_hi (n:Nat) (h:n < 65536):n &&& 18446744073709486335 = n % 256:=land_eq n _ _ (fun i => decide (i < 8)) h (by decide) (bit_lo n)
theorem not_all (n:Nat) (h:n < 65536):n &&& 18446744073709486080 = 0:=land_eq n _ _ (fun _ => false) h (by decide) (by simp)
theorem not_none (n:Nat) (h:n < 65536):n &&& 18446744073709551615 = n:=land_eq n _ _ (fun _ => true) h (by decide) (by simp)
theorem or_split (x y:Nat) (h:y < 256):(x * 256) ||| y = x * 256 + y:=by
 have:=Nat.two_pow_add_eq_or_of_lt (i:=8) (b:=y) (by simpa using h) x
 rw [Nat.mul_comm x 256];simpa using this.symm
theorem andNot_nat (a b:Nat) (ha:a < 65536) (hb:b < 65536) (r:Nat) (hr:a &&& (18446744073709551615 - b) = r) (hr2:r < 65536):bits .andNot .i64 (a:Int) (b:Int) = (r:Int):=by
 unfold bits
 have ea:(BitVec.ofInt IntKind.i64.bits (a:Int)).toNat = a:=by
  simp [BitVec.toNat_ofInt,IntKind.bits];omega
 have eb:(BitVec.ofInt IntKind.i64.bits (b:Int)).toNat = b:=by
  simp [BitVec.toNat_ofInt,IntKind.bits];omega
 have key:(BitVec.ofInt IntKind.i64.bits (a:Int) &&& ~~~(BitVec.ofInt IntKind.i64.bits (b:Int))).toNat = r:=by
  rw [BitVec.toNat_and,BitVec.toNat_not,ea,eb,← hr]
  rfl
 simp only [key]
 rw [IntKind.wrap_i64];omega
theorem put0 (o n:Nat) (ho:o < 65536) (hn:n < 65536):bits .or .i64 (bits .andNot .i64 (o:Int) 0) (bits .and .i64 (n:Int) 0) = putW o n 0:=by
 have e1:=andNot_nat o 0 ho (by omega) o (not_none o ho) ho
 have e2:=bits_and_nat n 0 (by omega) (by omega)
 simp only [Nat.and_zero,Int.natCast_zero] at e1 e2
 rw [e1,e2,show (0:Int) = ((0:Nat):Int) from rfl,bits_or_nat o 0 (by omega) (by omega)]
 simp [putW];try omega
theorem put1 (o n:Nat) (ho:o < 65536) (hn:n < 65536):bits .or .i64 (bits .andNot .i64 (o:Int) 255) (bits .and .i64 (n:Int) 255) = putW o n 1:=by
 have e1:=andNot_nat o 255 ho (by omega) _ (not_lo o ho) (by omega)
 have e2:=bits_and_nat n 255 (by omega) (by omega)
 rw [and_lo n hn] at e2
 have e3:=bits_or_nat (o / 256 * 256) (n % 256) (by omega) (by omega)
 rw [or_split _ _ (by omega)] at e3
 rw [show (255:Int) = ((255:Nat):Int) from rfl,e1,e2,e3]
 simp [putW];try omega
theorem put2 (o n:Nat) (ho:o < 65536) (hn:n < 65536):bits .or .i64 (bits .andNot .i64 (o:Int) 65280) (bits .and .i64 (n:Int) 65280) = putW o n 2:=by
 have e1:=andNot_nat o 65280 ho (by omega) _ (not_hi o ho) (by omega)
 have e2:=bits_and_nat n 65280 (by omega) (by omega)
 rw [and_hi n hn] at e2
 have e3:=bits_or_nat (o % 256) (n / 256 * 256) (by omega) (by omega)
 rw [Nat.or_comm,or_split _ _ (by omega)] at e3
 rw [show (65280:Int) = ((65280:Nat):Int) from rfl,e1,e2,e3]
 simp [putW]
theorem put3 (o n:Nat) (ho:o < 65536) (hn:n < 65536):bits .or .i64 (bits .andNot .i64 (o:Int) 65535) (bits .and .i64 (n:Int) 65535) = putW o n 3:=by
 have e1:=andNot_nat o 65535 ho (by omega) _ (not_all o ho) (by omega)
 have e2:=bits_and_nat n 65535 (by omega) (by omega)
 rw [and_all n hn] at e2
 have e3:=bits_or_nat 0 n (by omega) (by omega)
 rw [Nat.zero_or] at e3
 rw [show (65535:Int) = ((65535:Nat):Int) from rfl,e1,e2,e3]
 simp [putW];try omega
theorem isWord_any (n:Int) (w:World):Calls Tryz.prog 148 #[.int .i64 n] w fun e w' => e = .returned (.bool (wordOk n)) ∧ w = w':=by
 have HE:=hid (show wordOk n = inB n 0 65535 from rfl)
 go_enter Tryz.func148,Tryz.ntmps148
 go_wp2_with (first | (go_at_call 66;refine (in_any _ _ _ _).mono ?_;rintro e w' ⟨rfl,rfl⟩))
 go_ret
 exact ⟨by rw [HE.out];rfl,rfl⟩
theorem isMaster_any (n:Int) (w:World):Calls Tryz.prog 77 #[.int .i64 n] w fun e w' => e = .returned (.bool (inB n 0 2)) ∧ w = w':=by
 go_enter Tryz.func77,Tryz.ntmps77
 go_wp2_with (first | (go_at_call 66;refine (in_any _ _ _ _).mono ?_;rintro e w' ⟨rfl,rfl⟩))
 go_ret
 exact ⟨rfl,rfl⟩
theorem mask1:bits .and .i64 1 1 = 1 ∧ bits .and .i64 2 1 = 0 ∧ bits .and .i64 3 1 = 1 ∧ bits .and .i64 0 1 = 0:=by decide +kernel
theorem maskor:bits .or .i64 0 0 = 0 ∧ bits .or .i64 255 0 = 255 ∧ bits .or .i64 0 65280 = 65280 ∧ bits .or .i64 255 65280 = 65535:=by decide +kernel
set_option maxHeartbeats 1000000 in
theorem put_any (o n l:Int) (w:World) (ho:wordOk o = true) (hn:wordOk n = true) (hl:inB l 0 3 = true):Calls Tryz.prog 158 #[.int .i64 o,.int .i64 n,.int .i64 l] w fun e w' => e = .returned (.int .i64 (putW o n l)) ∧ w = w':=by
 simp [wordOk,inB] at ho hn hl
 obtain ⟨o,rfl⟩:=Int.eq_ofNat_of_zero_le ho.1
 obtain ⟨n,rfl⟩:=Int.eq_ofNat_of_zero_le hn.1
 have m1:=mask1;have m2:=maskor
 have h:l = 0 ∨ l = 1 ∨ l = 2 ∨ l = 3:=by omega
 rcases h with rfl | rfl | rfl | rfl
 all_goals
  go_enter Tryz.func158,Tryz.ntmps158
  go_wp2
  go_ret
  exact ⟨ret_int (by first | exact put0 o n (by omega) (by omega) | exact put1 o n (by omega) (by omega) | exact put2 o n (by omega) (by omega) | exact put3 o n (by omega) (by omega)),rfl⟩
theorem not_any_all {α:Type} (p:α → Bool) (xs:List α):(!xs.any fun x => !p x) = xs.all p:=by
 rw [List.all_eq_not_any_not]
set_option maxHeartbeats 1000000 in
theorem areWords_any (v:Value) (xs:List Int) (B:Nat) (w:World) (hv:Ints w B v xs) :
  Calls Tryz.prog 110 #[v] w fun e w' => e = .returned (.bool (xs.all wordOk)) ∧ w = w':=by
 have HE:=hid (not_any_all wordOk xs)
 obtain ⟨r,hr⟩:∃ r,r = xs.any fun x => !wordOk x:=⟨_,rfl⟩
 rw [← hr] at HE
 have HR:=hid hr;clear hr
 obtain ⟨q,hq⟩:∃ q,q = xs.all wordOk:=⟨_,rfl⟩
 rw [← hq] at HE ⊢
 clear hq
 have hcl:∀ x,I64 x → ∀ w:World,Calls Tryz.prog 147 (#[.int .i64 x] ++ #[]) w fun e w' => e = .returned (.bool (!wordOk x)) ∧ w = w':=by
  intro x _ w
  go_enter Tryz.func147,Tryz.ntmps147
  go_wp2_with (first | (go_at_call 148;refine (isWord_any _ _).mono ?_;rintro e w' ⟨rfl,rfl⟩))
  go_ret
  exact ⟨rfl,rfl⟩
 have HC:=hid hcl;clear hcl
 go_enter Tryz.func110,Tryz.ntmps110
 go_wp2_with fail
 refine (hasInt_any 147 #[] (callable_of Tryz.func147 (by kernel_rfl) (by kernel_rfl)) (fun x => !wordOk x) v xs B _ hv (fun x hx => HC.out x hx _)).mono ?_
 rintro e w' ⟨rfl,rfl⟩
 rw [← HR.out]
 go_wp2_with fail
 go_ret
 exact ⟨by rw [← HE.out];rfl,rfl⟩
set_option maxHeartbeats 1000000 in
theorem implMemOk_any (v:Value) (xs:List Int) (B:Nat) (w:World) (hv:Ints w B v xs) (hB:B ≤ w.heap.size) :
  Calls Tryz.prog 95 #[.agg #[v]] w fun e w' => e = .returned (.bool (memOk xs)) ∧ Below w.heap.size w w':=by
 obtain ⟨ao,cap,hvv,hlc,hcap,hln,hni,hr⟩:=hv.opened
 clear hr
 subst hvv
 have hE:memOk xs = (xs.length == 64 && xs.all wordOk):=rfl
 obtain ⟨q,hq⟩:∃ q,q = memOk xs:=⟨_,rfl⟩
 rw [← hq] at hE ⊢
 by_cases h64:xs.length = 64
 ·have HE:=hid (show q = xs.all wordOk by rw [hE,h64];simp)
  have hg:((xs.length:Int) == 64) = true:=by simp [h64]
  clear hE h64 hq
  go_enter Tryz.func95,Tryz.ntmps95
  go_wp2_with (first | (go_at_call 110;refine (areWords_any _ xs B _ (hv.below ((Below.refl _ _).alloc hB _))).mono ?_;rintro e w' ⟨rfl,rfl⟩))
  go_ret
  exact ⟨by rw [HE.out];rfl,(Below.refl _ _).alloc (Nat.le_refl _) _⟩
 ·have HE:=hid (show q = false by rw [hE];simp [h64])
  have hg:((xs.length:Int) == 64) = false:=by rw [beq_eq_false_iff_ne];omega
  clear hE hq
  go_enter Tryz.func95,Tryz.ntmps95
  go_wp2_with (first | (go_at_call 110;refine (areWords_any _ xs B _ (hv.below ((Below.refl _ _).alloc hB _))).mono ?_;rintro e w' ⟨rfl,rfl⟩))
  go_ret
  exact ⟨by rw [HE.out];rfl,(Below.refl _ _).alloc (Nat.le_refl _) _⟩
set_option maxHeartbeats 1000000 in
theorem implAtmOk_any (v:Value) (ws hs:List Int) (B:Nat) (w:World) (h:AtmV w B v ws hs) (hB:B ≤ w.heap.size) :
  Calls Tryz.prog 50 #[v] w fun e w' => e = .returned (.bool (atmOk ws hs)) ∧ Below w.heap.size w w':=by
 obtain ⟨wv,hv,rfl,h1,h2⟩:=h
 obtain ⟨ao,cap,hvv,hlc,hcap,hln,hni,hr⟩:=h2.opened
 obtain ⟨bo,cbp,hwv,hlc2,hcap2,hln2,hni2,hr2⟩:=h1.opened
 clear hr hr2
 subst hvv hwv
 have hcl:∀ x,I64 x → ∀ w:World,Calls Tryz.prog 96 (#[.int .i64 x] ++ #[]) w fun e w' => e = .returned (.bool (!inB x (-1) 63)) ∧ w = w':=by
  intro x _ w
  go_enter Tryz.func96,Tryz.ntmps96
  go_wp2_with (first | (go_at_call 66;refine (in_any _ _ _ _).mono ?_;rintro e w' ⟨rfl,rfl⟩))
  go_ret
  exact ⟨rfl,rfl⟩
 have HC:=hid hcl;clear hcl
 have hE:atmOk ws hs = (memOk ws && hs.length == 6 && hs.all fun h => inB h (-1) 63):=rfl
 have hA:=not_any_all (fun h => inB h (-1) 63) hs
 obtain ⟨r,hr⟩:∃ r,r = hs.any fun x => !inB x (-1) 63:=⟨_,rfl⟩
 rw [← hA,← hr] at hE
 have HR:=hid hr;clear hr hA
 obtain ⟨q,hq⟩:∃ q,q = atmOk ws hs:=⟨_,rfl⟩
 obtain ⟨m,hm⟩:∃ m,m = memOk ws:=⟨_,rfl⟩
 rw [← hq] at hE ⊢
 rw [← hm] at hE
 have HM:=hid hm;clear hm hq
 have HE:=hid hE;clear hE
 have hg:∀ b:Bool,(hs.length == 6) = b → ((hs.length:Int) == 6) = b:=by
  intro b hb
  cases b
  ·rw [beq_eq_false_iff_ne] at *;omega
  ·rw [beq_iff_eq] at *;omega
 rcases hl:(hs.length == 6) with _ | _
 all_goals
  have hl6:=hg _ hl
  have HL:=hid hl
  clear hg hl
  go_enter Tryz.func50,Tryz.ntmps50
  go_wp2_with (first
   | (go_at_call 95;refine (implMemOk_any _ ws B _ (h1.below ((Below.refl _ _).alloc hB _)) (by simp;omega)).mono ?_;rintro e w1 ⟨rfl,hb1⟩;rw [← HM.out];have c1:w1.cell? ⟨w.heap.size,1,none⟩ = some (.slice ao hs.length cap):=(by rw [hb1.cell (p:=⟨w.heap.size,1,none⟩) (by simp)];simp))
   | (go_at_call 64;refine (hasInt_any 96 #[] (callable_of Tryz.func96 (by kernel_rfl) (by kernel_rfl)) (fun x => !inB x (-1) 63) _ hs B _ (h2.below (((Below.refl _ _).alloc hB _).trans (hb1.mono (by simp;omega)))) (fun x hx => HC.out x hx _)).mono ?_;rintro e w' ⟨rfl,rfl⟩;rw [← HR.out]))
  all_goals
   go_ret
   refine ⟨by rw [HE.out,HL.out];simp [*],?_⟩
   exact ((Below.refl _ _).alloc (Nat.le_refl _) _).trans (hb1.mono (by simp))
def ReqV (w:World) (B:Nat) (v:Value) (r:Rq):Prop :=
 ∃ dv lv,v = .agg #[.int .i64 r.id,.int .i64 r.kind,.int .i64 r.addr,.int .i64 r.many,.bool r.wrap,dv,lv] ∧ Ints w B dv r.data ∧ Ints w B lv r.lanes ∧ I64 r.id ∧ I64 r.kind ∧ I64 r.addr ∧ I64 r.many
theorem ReqV.below {w w':World} {B:Nat} {v:Value} {r:Rq} (h:ReqV w B v r) (hb:Below B w w'):ReqV w' B v r:=by
 obtain ⟨dv,lv,rfl,h1,h2,h3⟩:=h
 exact ⟨dv,lv,rfl,h1.below hb,h2.below hb,h3⟩
theorem ReqV.mono {w:World} {B B':Nat} {v:Value} {r:Rq} (h:ReqV w B v r) (hb:B ≤ B'):ReqV w B' v r:=by
 obtain ⟨dv,lv,rfl,h1,h2,h3⟩:=h
 exact ⟨dv,lv,rfl,h1.mono hb,h2.mono hb,h3⟩
theorem AtmV.below {w w':World} {B:Nat} {v:Value} {ws hs:List Int} (h:AtmV w B v ws hs) (hb:Below B w w'):AtmV w' B v ws hs:=by
 obtain ⟨dv,lv,rfl,h1,h2⟩:=h
 exact ⟨dv,lv,rfl,h1.below hb,h2.below hb⟩
theorem AtmV.mono {w:World} {B B':Nat} {v:Value} {ws hs:List Int} (h:AtmV w B v ws hs) (hb:B ≤ B'):AtmV w B' v ws hs:=by
 obtain ⟨dv,lv,rfl,h1,h2⟩:=h
 exact ⟨dv,lv,rfl,h1.mono hb,h2.mono hb⟩
set_option maxHeartbeats 1000000 in
theorem writes_val (id kind addr many:Int) (wp:Bool) (dv lv:Value) (w:World) :
  Calls Tryz.prog 109 #[.agg #[.int .i64 id,.int .i64 kind,.int .i64 addr,.int .i64 many,.bool wp,dv,lv]] w fun e w' => e = .returned (.bool (kind == 2 || kind == 4)) ∧ Below w.heap.size w w':=by
 rcases h2:(kind == 2) with _ | _
 all_goals
  go_enter Tryz.func109,Tryz.ntmps109
  go_wp2_with fail
  go_ret
  exact ⟨rfl,(Below.refl _ _).alloc (Nat.le_refl _) _⟩
theorem Ints.nil (w:World) (B:Nat):Ints w B (.slice none 0 0) []:=⟨⟨none,0,rfl,by simp,by omega,by simp,fun _ => rfl,fun h => absurd rfl h⟩,by simp⟩
theorem burstK_get (a m:Int) (wp:Bool) (n k:Nat) (h:k < n):(burstK a m wp n).getD k 0 = if wp then a - a % m + (a + (k:Int)) % m else a + (k:Int):=by simp [burstK,List.getD,h]
set_option maxHeartbeats 4000000 in
theorem implBurst_any (a m:Int) (wp:Bool) (w:World):Calls Tryz.prog 165 #[.int .i64 a,.int .i64 m,.bool wp] w (BurstP a m wp w):=by
 obtain ⟨i1,hj,jz0,jz1,jz2⟩:=info_parts infoI
 rcases hA:adrOk a m wp with _ | _
 ·have HE:=hid (burst_no hA)
  go_enter Tryz.func165,Tryz.ntmps165
  go_wp2_with (first | (go_at_call 55;refine (implAdrOk_any _ _ _ _).mono ?_;rintro e w' ⟨rfl,rfl⟩))
  go_ret
  exact ⟨_,rfl,by rw [HE.out];exact Ints.nil _ _,Below.refl _ _,by intro k hk;simp [Value.ownBlock] at hk⟩
 ·obtain ⟨h0,h1,hm,hw⟩:=(adrOk_eq a m wp).1 hA
  obtain ⟨n,rfl⟩:∃ n:Nat,m = n:=⟨m.toNat,by omega⟩
  have hn4:n ≤ 4:=by omega
  have hn1:1 ≤ n:=by omega
  have HE:=hid (burst_yes hA)
  have HSm:=hid (burstK_small (wp:=wp) h0 h1 hm n (by omega))
  have HL:=hid (burstK_len a n wp n)
  have e0:0 ≤ a % (n:Int):=Int.emod_nonneg _ (by omega)
  have e1:a % (n:Int) < n:=Int.emod_lt_of_pos _ (by omega)
  clear hw
  go_enter Tryz.func165,Tryz.ntmps165
  go_wp2_with (first
   | (go_at_call 55;refine (implAdrOk_any _ _ _ _).mono ?_;rintro e w' ⟨rfl,rfl⟩)
   | (at_make;go_must (refine wpList_make_full _ rfl _ _ 24 rfl w.heap.size 3 i1 (.int .i64 0) 1 Tryz.underlying24 hj jz0 jz1 _ _ _ _ n rfl rfl rfl rfl (by rw [jz2];omega) (by unfold maxLen;omega) (Nat.le_refl _) ?_);intro w1 hown hgrow))
  have hbel:Below w.heap.size w w1:=(Below.refl _ _).grown hgrow (Nat.le_refl _) (by simp)
  rw [show madeCells (Value.int .i64 0).cells (n * 1) = madeCells #[.int .i64 0] n by rw [Nat.mul_one];rfl,toList_madeCells_one,show List.replicate n (Value.int .i64 0) = fillRow (Value.int .i64) (.int .i64 0) (burstK a n wp n) 0 by rw [fillRow_zero,HL.out]] at hown
  clear hgrow
  go_wp2
  go_loopw [8,18] (fun _ i wr => ∃ k:Nat,k ≤ n ∧ i = .int .i64 k ∧ wr.ownsRow w.heap.size 3 1 (.slice (some ⟨w.heap.size,0,none⟩) n n) n (fillRow (Value.int .i64) (.int .i64 0) (burstK a n wp n) k) ∧ Below w.heap.size w wr) (fun _ i _ => n - (intOf i).toNat)
  case atStart => exact ⟨0,Nat.zero_le _,rfl,hown,hbel⟩
  case round =>
   clear hown hbel
   obtain ⟨k,hk,rfl,hown,hbel⟩:=hrel
   by_cases hlt:k < n
   ·have hfr:=hown.frozenAt k
    have hst:=hown.stored k (.int .i64 (a + (k:Int)))
    have hcell:=hown.cellAt k (by omega)
    rw [fillRow_get _ _ _ _ (by rw [HL.out];exact hlt)] at hcell
    have e3:0 ≤ (a + (k:Int)) % (n:Int):=Int.emod_nonneg _ (by omega)
    have e4:(a + (k:Int)) % (n:Int) < n:=Int.emod_lt_of_pos _ (by omega)
    have HB:=hid hbel;clear hbel
    cases wp
    ·have HS:=hid (show (wr.setCell ⟨w.heap.size,k,none⟩ (.int .i64 (a + (k:Int)))).ownsRow w.heap.size 3 1 (.slice (some ⟨w.heap.size,0,none⟩) n n) n (fillRow (Value.int .i64) (.int .i64 0) (burstK a n false n) (k + 1)) by
      have:=hst.1
      rw [show Value.int .i64 (a + (k:Int)) = Value.int .i64 ((burstK a n false n).getD k 0) by rw [burstK_get _ _ _ _ _ hlt];rfl,fillRow_set _ _ _ _ _ (by rw [HL.out];exact hlt),burstK_get _ _ _ _ _ hlt] at this
      simpa using this)
     clear hst hown
     go_wp2
     go_roundw
     case rel => exact ⟨k + 1,by omega,by go_num,HS.out,HB.out.setCell (by simp) _⟩
     case measure => simp [intOf];omega
    ·have HS:=hid (show ((wr.setCell ⟨w.heap.size,k,none⟩ (.int .i64 (a + (k:Int)))).setCell ⟨w.heap.size,k,none⟩ (.int .i64 (a - a % (n:Int) + (a + (k:Int)) % (n:Int)))).ownsRow w.heap.size 3 1 (.slice (some ⟨w.heap.size,0,none⟩) n n) n (fillRow (Value.int .i64) (.int .i64 0) (burstK a n true n) (k + 1)) by
      have:=(hst.1.stored k (.int .i64 (a - a % (n:Int) + (a + (k:Int)) % (n:Int)))).1
      rw [List.set_set,show Value.int .i64 (a - a % (n:Int) + (a + (k:Int)) % (n:Int)) = Value.int .i64 ((burstK a n true n).getD k 0) by rw [burstK_get _ _ _ _ _ hlt];rfl,fillRow_set _ _ _ _ _ (by rw [HL.out];exact hlt),burstK_get _ _ _ _ _ hlt] at this
      simpa using this)
     clear hst hown
     go_wp2
     go_region
     go_wp2
     go_roundw
     case rel => exact ⟨k + 1,by omega,by go_num,by exact HS.out,((HB.out.setCell (Nat.le_refl _) _).setCell (Nat.le_refl _) _).drew⟩
     case measure => simp [intOf];omega
   ·have hk2:k = n:=by omega
    subst hk2
    go_wp2
    go_ret
    have e:fillRow (Value.int .i64) (.int .i64 0) (burstK a k wp k) k = (burstK a k wp k).map (Value.int .i64):=by
     have:=fillRow_all (Value.int .i64) (.int .i64 0) (burstK a k wp k)
     rw [HL.out] at this;exact this
    rw [e] at hown
    refine ⟨.slice (some ⟨w.heap.size,0,none⟩) k k,rfl,?_,hbel,by intro j hj;simp [Value.ownBlock] at hj;omega⟩
    rw [HE.out]
    exact own_ints (xs:=burstK a k wp k) (base:=w.heap.size) (by rw [HL.out];exact hown) (by rw [HL.out];omega) HSm.out
set_option maxHeartbeats 1000000 in
theorem reqBurst_val (id kind addr many:Int) (wp:Bool) (dv lv:Value) (w:World) :
  Calls Tryz.prog 149 #[.agg #[.int .i64 id,.int .i64 kind,.int .i64 addr,.int .i64 many,.bool wp,dv,lv]] w (BurstP addr many wp w):=by
 go_enter Tryz.func149,Tryz.ntmps149
 go_wp2_with (first | (go_at_call 165;refine (implBurst_any _ _ _ _).mono ?_;rintro e w1 ⟨u,rfl,hu,hb,hf⟩))
 go_ret
 exact ⟨_,rfl,hu,((Below.refl _ _).alloc (Nat.le_refl _) _).trans (hb.mono (by simp)),fun k hk => by have:=hf k hk;simp at this;omega⟩
theorem reqOk_eq (r:Rq) (m:Int) (hm:m = if (r.kind == 2 || r.kind == 4) = true then r.many else 0) :
  reqOk r = (inB r.id 0 1 && inB r.kind 1 4 && adrOk r.addr r.many r.wrap && ((r.data.length:Int) == m) && ((r.lanes.length:Int) == m) && r.data.all wordOk && r.lanes.all (fun l => inB l 0 3) && (r.kind == 1 || r.kind == 2 || r.many == 1)):=by
 subst hm
 unfold reqOk rqWrites
 rcases hw:(r.kind == 2 || r.kind == 4) with _ | _
 ·simp only [Bool.false_eq_true,if_false]
  rcases hd:r.data with _ | ⟨d,ds⟩ <;> rcases hl:r.lanes with _ | ⟨l,ls⟩
  ·simp
  ·have:((ls.length:Int) + 1 == 0) = false:=by rw [beq_eq_false_iff_ne];omega
   simp [this]
  ·have:((ds.length:Int) + 1 == 0) = false:=by rw [beq_eq_false_iff_ne];omega
   simp [this]
  ·have:((ds.length:Int) + 1 == 0) = false:=by rw [beq_eq_false_iff_ne];omega
   simp [this]
 ·simp only [if_true]
  generalize inB r.id 0 1 = a1
  generalize inB r.kind 1 4 = a2
  generalize adrOk r.addr r.many r.wrap = a3
  generalize (r.kind == 1 || r.kind == 2 || r.many == 1) = a4
  generalize ((r.data.length:Int) == r.many) = a5
  generalize ((r.lanes.length:Int) == r.many) = a6
  generalize r.data.all wordOk = a7
  generalize (r.lanes.all fun l => inB l 0 3) = a8
  cases a1 <;> cases a2 <;> cases a3 <;> cases a4 <;> simp
set_option maxHeartbeats 4000000 in
theorem implReqOk_any (v:Value) (r:Rq) (B:Nat) (w:World) (h:ReqV w B v r) (hB:B ≤ w.heap.size) :
  Calls Tryz.prog 58 #[v] w fun e w' => e = .returned (.bool (reqOk r)) ∧ Below w.heap.size w w':=by
 obtain ⟨dv,lv,rfl,h1,h2,_⟩:=h
 obtain ⟨ao,cap,hdv,hlc,hcap,hln,hni,hr⟩:=h1.opened
 obtain ⟨bo,cbp,hlv,hlc2,hcap2,hln2,hni2,hr2⟩:=h2.opened
 clear hr hr2
 subst hdv hlv
 have hcl:∀ x,I64 x → ∀ w:World,Calls Tryz.prog 111 (#[.int .i64 x] ++ #[]) w fun e w' => e = .returned (.bool (!inB x 0 3)) ∧ w = w':=by
  intro x _ w
  go_enter Tryz.func111,Tryz.ntmps111
  go_wp2_with (first | (go_at_call 66;refine (in_any _ _ _ _).mono ?_;rintro e w' ⟨rfl,rfl⟩))
  go_ret
  exact ⟨rfl,rfl⟩
 have HC:=hid hcl;clear hcl
 have hA:=not_any_all (fun l => inB l 0 3) r.lanes
 obtain ⟨m,hm⟩:∃ m,m = if (r.kind == 2 || r.kind == 4) = true then r.many else 0:=⟨_,rfl⟩
 have hE:=reqOk_eq r m hm
 obtain ⟨id,kind,addr,many,wp,data,lanes⟩:=r
 simp only at *
 obtain ⟨q,hq⟩:∃ q,q = reqOk ⟨id,kind,addr,many,wp,data,lanes⟩:=⟨_,rfl⟩
 obtain ⟨x1,hx1⟩:∃ x,x = lanes.any fun x => !inB x 0 3:=⟨_,rfl⟩
 obtain ⟨x2,hx2⟩:∃ x,x = data.all wordOk:=⟨_,rfl⟩
 rw [← hA,← hx1,← hx2,← hq] at hE
 rw [← hq]
 have HX1:=hid hx1;have HX2:=hid hx2;have HE:=hid hE
 clear hx1 hx2 hE hq hA
 rcases hw:(kind == 2 || kind == 4) with _ | _
 all_goals
  rw [hw] at hm
  simp only [Bool.false_eq_true,if_false,if_true] at hm
  replace hm:=hm.symm
  subst hm
  have HW:=hid hw;clear hw
  go_enter Tryz.func58,Tryz.ntmps58
  go_wp2_with (first
   | (go_at_call 109;refine (writes_val _ _ _ _ _ _ _ _).mono ?_;rw [HW.out];rintro e w1 ⟨rfl,hb1⟩;have f0:w1.cell? ⟨w.heap.size,0,none⟩ = some (.int .i64 id):=(by rw [hb1.cell (p:=⟨w.heap.size,0,none⟩) (by simp)];simp);have f1:w1.cell? ⟨w.heap.size,1,none⟩ = some (.int .i64 kind):=(by rw [hb1.cell (p:=⟨w.heap.size,1,none⟩) (by simp)];simp);have f2:w1.cell? ⟨w.heap.size,2,none⟩ = some (.int .i64 addr):=(by rw [hb1.cell (p:=⟨w.heap.size,2,none⟩) (by simp)];simp);have f3:w1.cell? ⟨w.heap.size,3,none⟩ = some (.int .i64 many):=(by rw [hb1.cell (p:=⟨w.heap.size,3,none⟩) (by simp)];simp);have f4:w1.cell? ⟨w.heap.size,4,none⟩ = some (.bool wp):=(by rw [hb1.cell (p:=⟨w.heap.size,4,none⟩) (by simp)];simp);have f5:w1.cell? ⟨w.heap.size,5,none⟩ = some (.slice ao data.length cap):=(by rw [hb1.cell (p:=⟨w.heap.size,5,none⟩) (by simp)];simp);have f6:w1.cell? ⟨w.heap.size,6,none⟩ = some (.slice bo lanes.length cbp):=(by rw [hb1.cell (p:=⟨w.heap.size,6,none⟩) (by simp)];simp))
   | (go_at_call 66;refine (in_any _ _ _ _).mono ?_;rintro e w' ⟨rfl,rfl⟩)
   | (go_at_call 55;refine (implAdrOk_any _ _ _ _).mono ?_;rintro e w' ⟨rfl,rfl⟩)
   | (go_at_call 110;refine (areWords_any _ data B _ (h1.below (((Below.refl _ _).alloc hB _).trans (hb1.mono (by simp;omega))))).mono ?_;rw [← HX2.out];rintro e w' ⟨rfl,rfl⟩)
   | (go_at_call 64;refine (hasInt_any 111 #[] (callable_of Tryz.func111 (by kernel_rfl) (by kernel_rfl)) (fun x => !inB x 0 3) _ lanes B _ (h2.below (((Below.refl _ _).alloc hB _).trans (hb1.mono (by simp;omega)))) (fun x hx => HC.out x hx _)).mono ?_;rw [← HX1.out];rintro e w' ⟨rfl,rfl⟩))
  all_goals
   go_ret
   refine ⟨by rw [HE.out];first | (simp [*];done) | (simp [-List.length_eq_zero_iff, *];done) | (simp [-List.length_eq_zero_iff, *];grind [inB]),?_⟩
   exact ((Below.refl _ _).alloc (Nat.le_refl _) _).trans (hb1.mono (by simp))
end Go.Proofs.YtenjbhbcacocjaaGreat
