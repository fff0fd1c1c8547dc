/- Slices of things that are more than cells: ArrV reads each row by a relation between a value and what it stands for. -/
import Derived.Test.YtgkdoehkmbhfiaaGreatQLib
import Derived.BigQuiet
import Derived.BigGuardPart
import Derived.Deep.QuietTactic
import Derived.Orders
import Derived.StillTail
set_option linter.unusedVariables false
set_option linter.unusedSimpArgs false
set_option maxHeartbeats 16000000
namespace Go.Proofs.YtgkdoehkmbhfiaaGreat
open Go.RowKit
theorem zK6 (a b:Nat) (ha:a<4611686018427387904) (hb:b<4611686018427387904):bits .and .i64 (a:Int) (b:Int)=((a &&& b:Nat):Int) :=
  (bits_nat .i64 62 (by decide) (fun n h0 h1 => by rw [IntKind.wrap_i64]; have : (2 : Int) ^ 62 = 4611686018427387904 := by decide
                                                   omega) a b (by omega) (by omega)).1
theorem zN3 (a b:Nat) (ha:a<4611686018427387904) (hb:b<4611686018427387904):bits .or .i64 (a:Int) (b:Int)=((a ||| b:Nat):Int) :=
  (bits_nat .i64 62 (by decide) (fun n h0 h1 => by rw [IntKind.wrap_i64]; have : (2 : Int) ^ 62 = 4611686018427387904 := by decide
                                                   omega) a b (by omega) (by omega)).2
theorem land_eq (a c r:Nat) (g:Nat→Bool) (ha:a<65536) (hc:∀i,i<16→c.testBit i=g i) (hr:∀i,r.testBit i=(g i&&a.testBit i)):a &&& c=r:=by
 apply Nat.eq_of_testBit_eq;intro i;rw[Nat.testBit_and,hr];by_cases hi:i<16
 ·rw[hc i hi,Bool.and_comm]
 ·have : a.testBit i = false := Nat.testBit_lt_two_pow (Nat.lt_of_lt_of_le ha (by
   have:2 ^ 16≤2 ^ i:=Nat.pow_le_pow_right (by omega) (by omega);simpa using this))
  simp[this]
theorem bit_hi (n i:Nat):(n / 256 * 256).testBit i=(decide (8≤i)&&n.testBit i):=by
 rw[show n / 256 * 256=(n / 2 ^ 8) * 2 ^ 8 from rfl,Nat.testBit_mul_two_pow,Nat.testBit_div_two_pow];by_cases h8:8≤i
 ·rw[show i - 8+8=i from by omega]
 ·simp[h8]
theorem bit_lo (n i:Nat):(n % 256).testBit i=(decide (i<8)&&n.testBit i):=by
 rw[show n % 256=n % 2 ^ 8 from rfl,Nat.testBit_mod_two_pow]
theorem and_hi (n:Nat) (h:n<65536):n &&& 65280=n / 256 * 256:=land_eq n _ _ (fun i=>decide (8≤i)) h (by decide) (bit_hi n)
theorem and_lo (n:Nat) (h:n<65536):n &&& 255=n % 256:=land_eq n _ _ (fun i=>decide (i<8)) h (by decide) (bit_lo n)
theorem and_all (n:Nat) (h:n<65536):n &&& 65535=n:=land_eq n _ _ (fun _=>true) h (by decide) (by simp)
theorem not_lo (n:Nat) (h:n<65536):n &&& 18446744073709551360=n / 256 * 256:=land_eq n _ _ (fun i=>decide (8≤i)) h (by decide) (bit_hi n)
theorem not_hi (n:Nat) (h:n<65536):n &&& 18446744073709486335=n % 256:=land_eq n _ _ (fun i=>decide (i<8)) h (by decide) (bit_lo n)
theorem not_all (n:Nat) (h:n<65536):n &&& 18446744073709486080=0:=land_eq n _ _ (fun _=>false) h (by decide) (by simp)
theorem not_none (n:Nat) (h:n<65536):n &&& 18446744073709551615=n:=land_eq n _ _ (fun _=>true) h (by decide) (by simp)
theorem or_split (x y:Nat) (h:y<256):(x * 256) ||| y=x * 256+y:=by
 have:=Nat.two_pow_add_eq_or_of_lt (i:=8) (b:=y) (by simpa using h) x;rw[Nat.mul_comm x 256];simpa using this.symm
theorem andNot_nat (a b:Nat) (ha:a<65536) (hb:b<65536) (r:Nat) (hr:a &&& (18446744073709551615 - b)=r) (hr2:r<65536):bits .andNot .i64 (a:Int) (b:Int)=(r:Int):=by
 unfold bits;have ea:(BitVec.ofInt IntKind.i64.bits (a:Int)).toNat=a:=by
  simp[BitVec.toNat_ofInt,IntKind.bits];omega
 have eb:(BitVec.ofInt IntKind.i64.bits (b:Int)).toNat=b:=by
  simp[BitVec.toNat_ofInt,IntKind.bits];omega
 have key:(BitVec.ofInt IntKind.i64.bits (a:Int) &&& ~~~(BitVec.ofInt IntKind.i64.bits (b:Int))).toNat=r:=by
  rw[BitVec.toNat_and,BitVec.toNat_not,ea,eb,←hr]
  rfl
 simp only[key];rw[IntKind.wrap_i64];omega
theorem put0 (o n:Nat) (ho:o<65536) (hn:n<65536):bits .or .i64 (bits .andNot .i64 (o:Int) 0) (bits .and .i64 (n:Int) 0)=putW o n 0:=by
 have e1:=andNot_nat o 0 ho (by omega) o (not_none o ho) ho;have e2:=zK6 n 0 (by omega) (by omega);simp only[Nat.and_zero,Int.natCast_zero]at e1 e2;rw[e1,e2,show(0:Int)=((0:Nat):Int) from rfl,zN3 o 0 (by omega) (by omega)];simp[putW];try omega
theorem put1 (o n:Nat) (ho:o<65536) (hn:n<65536):bits .or .i64 (bits .andNot .i64 (o:Int) 255) (bits .and .i64 (n:Int) 255)=putW o n 1:=by
 have e1:=andNot_nat o 255 ho (by omega) _ (not_lo o ho) (by omega);have e2:=zK6 n 255 (by omega) (by omega);rw[and_lo n hn]at e2;have e3:=zN3 (o / 256 * 256) (n % 256) (by omega) (by omega)
 rw[or_split _ _ (by omega)]at e3;rw[show(255:Int)=((255:Nat):Int) from rfl,e1,e2,e3];simp[putW];try omega
theorem put2 (o n:Nat) (ho:o<65536) (hn:n<65536):bits .or .i64 (bits .andNot .i64 (o:Int) 65280) (bits .and .i64 (n:Int) 65280)=putW o n 2:=by
 have e1:=andNot_nat o 65280 ho (by omega) _ (not_hi o ho) (by omega);have e2:=zK6 n 65280 (by omega) (by omega);rw[and_hi n hn]at e2;have e3:=zN3 (o % 256) (n / 256 * 256) (by omega) (by omega)
 rw[Nat.or_comm,or_split _ _ (by omega)]at e3;rw[show(65280:Int)=((65280:Nat):Int) from rfl,e1,e2,e3];simp[putW]
theorem put3 (o n:Nat) (ho:o<65536) (hn:n<65536):bits .or .i64 (bits .andNot .i64 (o:Int) 65535) (bits .and .i64 (n:Int) 65535)=putW o n 3:=by
 have e1:=andNot_nat o 65535 ho (by omega) _ (not_all o ho) (by omega);have e2:=zK6 n 65535 (by omega) (by omega);rw[and_all n hn]at e2;have e3:=zN3 0 n (by omega) (by omega);rw[Nat.zero_or]at e3;rw[show(65535:Int)=((65535:Nat):Int) from rfl,e1,e2,e3];simp[putW];try omega
theorem isWord_any (n:Int) (w:World):Calls Tryz.prog 148 #[.int .i64 n] w fun e w' => e=.returned (.bool (zB1 n))∧w=w':=by
 have HE:=hid (show zB1 n=inB n 0 65535 from rfl)
 go_enter Tryz.func148,Tryz.ntmps148
 go_wp2_with (first|(go_at_call 63;refine(zH2 _ _ _ _).mono ?_;rintro e w' ⟨rfl,rfl⟩))
 go_ret
 exact⟨by rw[HE.out];rfl,rfl⟩
theorem zE2 (n:Int) (w:World):Calls Tryz.prog 56 #[.int .i64 n] w fun e w' => e=.returned (.bool (inB n 0 2))∧w=w':=by
 go_enter Tryz.func56,Tryz.ntmps56
 go_wp2_with (first|(go_at_call 63;refine(zH2 _ _ _ _).mono ?_;rintro e w' ⟨rfl,rfl⟩))
 go_ret
 exact⟨rfl,rfl⟩
theorem mask1:bits .and .i64 1 1=1∧bits .and .i64 2 1=0∧bits .and .i64 3 1=1∧bits .and .i64 0 1=0:=by decide +kernel
theorem maskor:bits .or .i64 0 0=0∧bits .or .i64 255 0=255∧bits .or .i64 0 65280=65280∧bits .or .i64 255 65280=65535:=by decide +kernel
theorem put_any (o n l:Int) (w:World) (ho:zB1 o=true) (hn:zB1 n=true) (hl:inB l 0 3=true):Calls Tryz.prog 130 #[.int .i64 o,.int .i64 n,.int .i64 l] w fun e w' => e=.returned (.int .i64 (putW o n l))∧w=w':=by
 simp[zB1,inB]at ho hn hl;obtain⟨o,rfl⟩:=Int.eq_ofNat_of_zero_le ho.1;obtain⟨n,rfl⟩:=Int.eq_ofNat_of_zero_le hn.1;have m1:=mask1;have m2:=maskor;have h:l=0∨l=1∨l=2∨l=3:=by omega
 rcases h with rfl|rfl|rfl|rfl
 all_goals
  go_enter Tryz.func130,Tryz.ntmps130
  go_wp2
  go_ret
  exact⟨ret_int (by first|exact put0 o n (by omega) (by omega)|exact put1 o n (by omega) (by omega)|exact put2 o n (by omega) (by omega)|exact put3 o n (by omega) (by omega)),rfl⟩
theorem not_any_all {α:Type} (p:α→Bool) (xs:List α):(!xs.any fun x=>!p x)=xs.all p:=by
 rw[List.all_eq_not_any_not]
theorem zK7 (v : Value) (xs : List Int) (B : Nat) (w : World) (hv : Ints w B v xs) :
  Calls Tryz.prog 97 #[v] w fun e w' => e=.returned (.bool (xs.all zB1))∧w=w':=by
 have HE:=hid (not_any_all zB1 xs);obtain⟨r,hr⟩:∃r,r=xs.any fun x=>!zB1 x:=⟨_,rfl⟩
 rw[←hr]at HE;have HR:=hid hr;clear hr;obtain⟨q,hq⟩:∃q,q=xs.all zB1:=⟨_,rfl⟩
 rw[←hq]at HE ⊢;clear hq;have hcl:∀x,I64 x→∀w:World,Calls Tryz.prog 147 (#[.int .i64 x]++#[]) w fun e w' => e=.returned (.bool (!zB1 x))∧w=w':=by
  intro x _ w
  go_enter Tryz.func147,Tryz.ntmps147
  go_wp2_with (first|(go_at_call 148;refine(isWord_any _ _).mono ?_;rintro e w' ⟨rfl,rfl⟩))
  go_ret
  exact⟨rfl,rfl⟩
 have HC:=hid hcl;clear hcl
 go_enter Tryz.func97,Tryz.ntmps97
 go_wp2_with fail
 refine(zI7 147 #[] (zB3 Tryz.func147 (by kernel_rfl) (by kernel_rfl)) (fun x=>!zB1 x) v xs B _ hv (fun x hx=>HC.out x hx _)).mono ?_;rintro e w' ⟨rfl,rfl⟩;rw[←HR.out]
 go_wp2_with fail
 go_ret
 exact⟨by rw[←HE.out];rfl,rfl⟩
theorem implMemOk_any (v : Value) (xs : List Int) (B : Nat) (w : World) (hv : Ints w B v xs) (hB : B ≤ w.heap.size) :
  Calls Tryz.prog 105 #[.agg #[v]] w fun e w' => e=.returned (.bool (memOk xs))∧Below w.heap.size w w':=by
 obtain⟨ao,cap,hvv,hlc,hcap,hln,hni,hr⟩:=hv.opened;clear hr;subst hvv;have hE:memOk xs=(xs.length==64&&xs.all zB1):=rfl;obtain⟨q,hq⟩:∃q,q=memOk xs:=⟨_,rfl⟩
 rw[←hq]at hE ⊢;by_cases h64:xs.length=64
 ·have HE:=hid (show q=xs.all zB1 by rw[hE,h64];simp);have hg:((xs.length:Int)==64)=true:=by simp[h64]
  clear hE h64 hq
  go_enter Tryz.func105,Tryz.ntmps105
  go_wp2_with (first|(go_at_call 97;refine(zK7 _ xs B _ (hv.below ((Below.refl _ _).alloc hB _))).mono ?_;rintro e w' ⟨rfl,rfl⟩))
  go_ret
  exact⟨by rw[HE.out];rfl,(Below.refl _ _).alloc (Nat.le_refl _) _⟩
 ·have HE:=hid (show q=false by rw[hE];simp[h64]);have hg:((xs.length:Int)==64)=false:=by rw[beq_eq_false_iff_ne];omega
  clear hE hq
  go_enter Tryz.func105,Tryz.ntmps105
  go_wp2_with (first|(go_at_call 97;refine(zK7 _ xs B _ (hv.below ((Below.refl _ _).alloc hB _))).mono ?_;rintro e w' ⟨rfl,rfl⟩))
  go_ret
  exact⟨by rw[HE.out];rfl,(Below.refl _ _).alloc (Nat.le_refl _) _⟩
theorem zI2 (v : Value) (ws hs : List Int) (B : Nat) (w : World) (h : AtmV w B v ws hs) (hB : B ≤ w.heap.size) :
  Calls Tryz.prog 51 #[v] w fun e w' => e=.returned (.bool (atmOk ws hs))∧Below w.heap.size w w':=by
 obtain⟨wv,hv,rfl,h1,h2⟩:=h;obtain⟨ao,cap,hvv,hlc,hcap,hln,hni,hr⟩:=h2.opened;obtain⟨bo,cbp,hwv,hlc2,hcap2,hln2,hni2,hr2⟩:=h1.opened;clear hr hr2;subst hvv hwv;have hcl:∀x,I64 x→∀w:World,Calls Tryz.prog 106 (#[.int .i64 x]++#[]) w fun e w' => e=.returned (.bool (!inB x (-1) 63))∧w=w':=by
  intro x _ w
  go_enter Tryz.func106,Tryz.ntmps106
  go_wp2_with (first|(go_at_call 63;refine(zH2 _ _ _ _).mono ?_;rintro e w' ⟨rfl,rfl⟩))
  go_ret
  exact⟨rfl,rfl⟩
 have HC:=hid hcl;clear hcl;have hE:atmOk ws hs=(memOk ws&&hs.length==6&&hs.all fun h=>inB h (-1) 63):=rfl;have hA:=not_any_all (fun h=>inB h (-1) 63) hs;obtain⟨r,hr⟩:∃r,r=hs.any fun x=>!inB x (-1) 63:=⟨_,rfl⟩
 rw[←hA,←hr]at hE;have HR:=hid hr;clear hr hA;obtain⟨q,hq⟩:∃q,q=atmOk ws hs:=⟨_,rfl⟩
 obtain⟨m,hm⟩:∃m,m=memOk ws:=⟨_,rfl⟩
 rw[←hq]at hE ⊢;rw[←hm]at hE;have HM:=hid hm;clear hm hq;have HE:=hid hE;clear hE;have hg:∀b:Bool,(hs.length==6)=b→((hs.length:Int)==6)=b:=by
  intro b hb;cases b
  ·rw[beq_eq_false_iff_ne]at *;omega
  ·rw[beq_iff_eq]at *;omega
 rcases hl:(hs.length==6)with _|_
 all_goals
  have hl6:=hg _ hl;have HL:=hid hl;clear hg hl
  go_enter Tryz.func51,Tryz.ntmps51
  go_wp2_with (first
   |(go_at_call 105;refine(implMemOk_any _ ws B _ (h1.below ((Below.refl _ _).alloc hB _)) (by simp;omega)).mono ?_;rintro e w1 ⟨rfl,hb1⟩;rw[←HM.out];have c1:w1.cell? ⟨w.heap.size,1,none⟩=some (.slice ao hs.length cap):=(by rw[hb1.cell (p:=⟨w.heap.size,1,none⟩) (by simp)];simp))
   |(go_at_call 98;refine(zI7 106 #[] (zB3 Tryz.func106 (by kernel_rfl) (by kernel_rfl)) (fun x=>!inB x (-1) 63) _ hs B _ (h2.below (((Below.refl _ _).alloc hB _).trans (hb1.mono (by simp;omega)))) (fun x hx=>HC.out x hx _)).mono ?_;rintro e w' ⟨rfl,rfl⟩;rw[←HR.out]))
  all_goals
   go_ret
   refine⟨by rw[HE.out,HL.out];simp[*],?_⟩;exact((Below.refl _ _).alloc (Nat.le_refl _) _).trans (hb1.mono (by simp))
def ReqV (w:World) (B:Nat) (v:Value) (r:Rq):Prop :=
 ∃dv lv,v=.agg #[.int .i64 r.id,.int .i64 r.kind,.int .i64 r.addr,.int .i64 r.many,.bool r.wrap,dv,lv]∧Ints w B dv r.data∧Ints w B lv r.lanes∧I64 r.id∧I64 r.kind∧I64 r.addr∧I64 r.many
theorem ReqV.below {w w':World} {B:Nat} {v:Value} {r:Rq} (h:ReqV w B v r) (hb:Below B w w'):ReqV w' B v r:=by
 obtain⟨dv,lv,rfl,h1,h2,h3⟩:=h;exact⟨dv,lv,rfl,h1.below hb,h2.below hb,h3⟩
theorem ReqV.mono {w:World} {B B':Nat} {v:Value} {r:Rq} (h:ReqV w B v r) (hb:B≤B'):ReqV w B' v r:=by
 obtain⟨dv,lv,rfl,h1,h2,h3⟩:=h;exact⟨dv,lv,rfl,h1.mono hb,h2.mono hb,h3⟩
theorem AtmV.below {w w':World} {B:Nat} {v:Value} {ws hs:List Int} (h:AtmV w B v ws hs) (hb:Below B w w'):AtmV w' B v ws hs:=by
 obtain⟨dv,lv,rfl,h1,h2⟩:=h;exact⟨dv,lv,rfl,h1.below hb,h2.below hb⟩
theorem AtmV.mono {w:World} {B B':Nat} {v:Value} {ws hs:List Int} (h:AtmV w B v ws hs) (hb:B≤B'):AtmV w B' v ws hs:=by
 obtain⟨dv,lv,rfl,h1,h2⟩:=h;exact⟨dv,lv,rfl,h1.mono hb,h2.mono hb⟩
def RspV (w:World) (B:Nat) (v:Value) (x:Rs):Prop :=
 ∃dv,v=.agg #[.int .i64 x.id,.int .i64 x.code,dv]∧Ints w B dv x.data∧I64 x.id∧I64 x.code
theorem RspV.below {w w':World} {B:Nat} {v:Value} {x:Rs} (h:RspV w B v x) (hb:Below B w w'):RspV w' B v x:=by
 obtain⟨dv,rfl,h1,h2⟩:=h;exact⟨dv,rfl,h1.below hb,h2⟩
theorem RspV.mono {w:World} {B B':Nat} {v:Value} {x:Rs} (h:RspV w B v x) (hb:B≤B'):RspV w B' v x:=by
 obtain⟨dv,rfl,h1,h2⟩:=h;exact⟨dv,rfl,h1.mono hb,h2⟩
theorem zG1 (id kind addr many : Int) (wp : Bool) (dv lv : Value) (w : World) :
  Calls Tryz.prog 96 #[.agg #[.int .i64 id,.int .i64 kind,.int .i64 addr,.int .i64 many,.bool wp,dv,lv]] w fun e w' => e=.returned (.bool (kind==2 || kind==4))∧Below w.heap.size w w':=by
 rcases h2:(kind==2)with _|_
 all_goals
  go_enter Tryz.func96,Tryz.ntmps96
  go_wp2_with fail
  go_ret
  exact⟨rfl,(Below.refl _ _).alloc (Nat.le_refl _) _⟩
theorem Ints.nil (w:World) (B:Nat):Ints w B (.slice none 0 0) []:=⟨⟨none,0,rfl,by simp,by omega,by simp,fun _=>rfl,fun h=>absurd rfl h⟩,by simp⟩
theorem burstK_get (a m:Int) (wp:Bool) (n k:Nat) (h:k<n):(zG0 a m wp n).getD k 0=if wp then a - a % m+(a+(k:Int)) % m else a+(k:Int):=by simp[zG0,List.getD,h]
theorem implBurst_any (a m:Int) (wp:Bool) (w:World):Calls Tryz.prog 166 #[.int .i64 a,.int .i64 m,.bool wp] w (BurstP a m wp w):=by
 obtain⟨i1,hj,jz0,jz1,jz2⟩:=info_parts infoI;rcases hA:adrOk a m wp with _|_
 ·have HE:=hid (burst_no hA)
  go_enter Tryz.func166,Tryz.ntmps166
  go_wp2_with (first|(go_at_call 55;refine(zM6 _ _ _ _).mono ?_;rintro e w' ⟨rfl,rfl⟩))
  go_ret
  exact⟨_,rfl,by rw[HE.out];exact Ints.nil _ _,Below.refl _ _,by intro k hk;simp[Value.ownBlock]at hk⟩
 ·obtain⟨h0,h1,hm,hw⟩:=(zI4 a m wp).1 hA;obtain⟨n,rfl⟩:∃n:Nat,m=n:=⟨m.toNat,by omega⟩
  have hn4:n≤4:=by omega
  have hn1:1≤n:=by omega
  have HE:=hid (zH5 hA);have HSm:=hid (burstK_small (wp:=wp) h0 h1 hm n (by omega));have HL:=hid (burstK_len a n wp n);have e0:0≤a % (n:Int):=Int.emod_nonneg _ (by omega);have e1:a % (n:Int)<n:=Int.emod_lt_of_pos _ (by omega);clear hw
  go_enter Tryz.func166,Tryz.ntmps166
  go_wp2_with (first
   |(go_at_call 55;refine(zM6 _ _ _ _).mono ?_;rintro e w' ⟨rfl,rfl⟩)
   |(at_make;go_must (refine wpList_make_full _ rfl _ _ 24 rfl w.heap.size 3 i1 (.int .i64 0) 1 Tryz.underlying24 hj jz0 jz1 _ _ _ _ n rfl rfl rfl rfl (by rw[jz2];omega) (by unfold maxLen;omega) (Nat.le_refl _) ?_);intro w1 hown hgrow))
  have hbel:Below w.heap.size w w1:=(Below.refl _ _).grown hgrow (Nat.le_refl _) (by simp);rw[show madeCells (Value.int .i64 0).cells (n * 1)=madeCells #[.int .i64 0] n by rw[Nat.mul_one];rfl,toList_madeCells_one,show List.replicate n (Value.int .i64 0)=zE6 (Value.int .i64) (.int .i64 0) (zG0 a n wp n) 0 by rw[fillRow_zero,HL.out]]at hown;clear hgrow
  go_wp2
  go_loopw [8,18] (fun _ i wr=>∃k:Nat,k≤n∧i=.int .i64 k∧wr.ownsRow w.heap.size 3 1 (.slice (some ⟨w.heap.size,0,none⟩) n n) n (zE6 (Value.int .i64) (.int .i64 0) (zG0 a n wp n) k)∧Below w.heap.size w wr) (fun _ i _=>n - (intOf i).toNat)
  case atStart=>exact⟨0,Nat.zero_le _,rfl,hown,hbel⟩
  case round=>
   clear hown hbel;obtain⟨k,hk,rfl,hown,hbel⟩:=hrel;by_cases hlt:k<n
   ·have hfr:=hown.frozenAt k;have hst:=hown.stored k (.int .i64 (a+(k:Int)));have hcell:=hown.cellAt k (by omega);rw[fillRow_get _ _ _ _ (by rw[HL.out];exact hlt)]at hcell;have e3:0≤(a+(k:Int)) % (n:Int):=Int.emod_nonneg _ (by omega);have e4:(a+(k:Int)) % (n:Int)<n:=Int.emod_lt_of_pos _ (by omega);have HB:=hid hbel;clear hbel;cases wp
    ·have HS := hid (show (wr.setCell ⟨w.heap.size, k, none⟩ (.int .i64 (a + (k : Int)))).ownsRow w.heap.size 3 1 (.slice (some ⟨w.heap.size, 0, none⟩) n n) n (zE6 (Value.int .i64) (.int .i64 0) (zG0 a n false n) (k + 1)) by
      have:=hst.1;rw[show Value.int .i64 (a+(k:Int))=Value.int .i64 ((zG0 a n false n).getD k 0) by rw[burstK_get _ _ _ _ _ hlt];rfl,fillRow_set _ _ _ _ _ (by rw[HL.out];exact hlt),burstK_get _ _ _ _ _ hlt]at this;simpa using this)
     clear hst hown
     go_wp2
     go_roundw
     case rel=>exact⟨k+1,by omega,by go_num,HS.out,HB.out.setCell (by simp) _⟩
     case measure=>simp[intOf];omega
    ·have HS := hid (show ((wr.setCell ⟨w.heap.size, k, none⟩ (.int .i64 (a + (k : Int)))).setCell ⟨w.heap.size, k, none⟩ (.int .i64 (a - a % (n : Int) + (a + (k : Int)) % (n : Int)))).ownsRow w.heap.size 3 1 (.slice (some ⟨w.heap.size, 0, none⟩) n n) n (zE6 (Value.int .i64) (.int .i64 0) (zG0 a n true n) (k + 1)) by
      have:=(hst.1.stored k (.int .i64 (a - a % (n:Int)+(a+(k:Int)) % (n:Int)))).1;rw[List.set_set,show Value.int .i64 (a - a % (n:Int)+(a+(k:Int)) % (n:Int))=Value.int .i64 ((zG0 a n true n).getD k 0) by rw[burstK_get _ _ _ _ _ hlt];rfl,fillRow_set _ _ _ _ _ (by rw[HL.out];exact hlt),burstK_get _ _ _ _ _ hlt]at this;simpa using this)
     clear hst hown
     go_wp2
     go_region
     go_wp2
     go_roundw
     case rel=>exact⟨k+1,by omega,by go_num,by exact HS.out,((HB.out.setCell (Nat.le_refl _) _).setCell (Nat.le_refl _) _).drew⟩
     case measure=>simp[intOf];omega
   ·have hk2:k=n:=by omega
    subst hk2
    go_wp2
    go_ret
    have e:zE6 (Value.int .i64) (.int .i64 0) (zG0 a k wp k) k=(zG0 a k wp k).map (Value.int .i64):=by
     have:=fillRow_all (Value.int .i64) (.int .i64 0) (zG0 a k wp k);rw[HL.out]at this;exact this
    rw[e]at hown;refine⟨.slice (some ⟨w.heap.size,0,none⟩) k k,rfl,?_,hbel,by intro j hj;simp[Value.ownBlock]at hj;omega⟩;rw[HE.out];exact own_ints (xs:=zG0 a k wp k) (base:=w.heap.size) (by rw[HL.out];exact hown) (by rw[HL.out];omega) HSm.out
theorem reqBurst_val (id kind addr many : Int) (wp : Bool) (dv lv : Value) (w : World) :
  Calls Tryz.prog 129 #[.agg #[.int .i64 id,.int .i64 kind,.int .i64 addr,.int .i64 many,.bool wp,dv,lv]] w (BurstP addr many wp w):=by
 go_enter Tryz.func129,Tryz.ntmps129
 go_wp2_with (first|(go_at_call 166;refine(implBurst_any _ _ _ _).mono ?_;rintro e w1 ⟨u,rfl,hu,hb,hf⟩))
 go_ret
 exact⟨_,rfl,hu,((Below.refl _ _).alloc (Nat.le_refl _) _).trans (hb.mono (by simp)),fun k hk=>by have:=hf k hk;simp at this;omega⟩
theorem reqOk_eq (r : Rq) (m : Int) (hm : m = if (r.kind == 2 || r.kind == 4) = true then r.many else 0) :
  reqOk r=(inB r.id 0 1&&inB r.kind 1 4&&adrOk r.addr r.many r.wrap&&((r.data.length:Int)==m)&&((r.lanes.length:Int)==m)&&r.data.all zB1&&r.lanes.all (fun l=>inB l 0 3)&&(r.kind==1 || r.kind==2 || r.many==1)):=by
 subst hm;unfold reqOk zB8;rcases hw:(r.kind==2 || r.kind==4)with _|_
 ·simp only[Bool.false_eq_true,if_false];rcases hd:r.data with _|⟨d,ds⟩ <;> rcases hl:r.lanes with _|⟨l,ls⟩
  ·simp
  ·have:((ls.length:Int)+1==0)=false:=by rw[beq_eq_false_iff_ne];omega
   simp[this]
  ·have:((ds.length:Int)+1==0)=false:=by rw[beq_eq_false_iff_ne];omega
   simp[this]
  ·have:((ds.length:Int)+1==0)=false:=by rw[beq_eq_false_iff_ne];omega
   simp[this]
 ·simp only[if_true];generalize inB r.id 0 1=a1;generalize inB r.kind 1 4=a2;generalize adrOk r.addr r.many r.wrap=a3;generalize (r.kind==1 || r.kind==2 || r.many==1)=a4;generalize ((r.data.length:Int)==r.many)=a5;generalize ((r.lanes.length:Int)==r.many)=a6;generalize r.data.all zB1=a7;generalize (r.lanes.all fun l=>inB l 0 3)=a8;cases a1 <;> cases a2 <;> cases a3 <;> cases a4 <;> simp
theorem implReqOk_any (v : Value) (r : Rq) (B : Nat) (w : World) (h : ReqV w B v r) (hB : B ≤ w.heap.size) :
  Calls Tryz.prog 48 #[v] w fun e w' => e=.returned (.bool (reqOk r))∧Below w.heap.size w w':=by
 obtain⟨dv,lv,rfl,h1,h2,_⟩:=h;obtain⟨ao,cap,hdv,hlc,hcap,hln,hni,hr⟩:=h1.opened;obtain⟨bo,cbp,hlv,hlc2,hcap2,hln2,hni2,hr2⟩:=h2.opened;clear hr hr2;subst hdv hlv;have hcl:∀x,I64 x→∀w:World,Calls Tryz.prog 99 (#[.int .i64 x]++#[]) w fun e w' => e=.returned (.bool (!inB x 0 3))∧w=w':=by
  intro x _ w
  go_enter Tryz.func99,Tryz.ntmps99
  go_wp2_with (first|(go_at_call 63;refine(zH2 _ _ _ _).mono ?_;rintro e w' ⟨rfl,rfl⟩))
  go_ret
  exact⟨rfl,rfl⟩
 have HC:=hid hcl;clear hcl;have hA:=not_any_all (fun l=>inB l 0 3) r.lanes;obtain⟨m,hm⟩:∃m,m=if(r.kind==2 || r.kind==4)=true then r.many else 0:=⟨_,rfl⟩
 have hE:=reqOk_eq r m hm;obtain⟨id,kind,addr,many,wp,data,lanes⟩:=r;simp only at *;obtain⟨q,hq⟩:∃q,q=reqOk ⟨id,kind,addr,many,wp,data,lanes⟩:=⟨_,rfl⟩
 obtain⟨x1,hx1⟩:∃x,x=lanes.any fun x=>!inB x 0 3:=⟨_,rfl⟩
 obtain⟨x2,hx2⟩:∃x,x=data.all zB1:=⟨_,rfl⟩
 rw[←hA,←hx1,←hx2,←hq]at hE;rw[←hq];have HX1:=hid hx1;have HX2:=hid hx2;have HE:=hid hE;clear hx1 hx2 hE hq hA;rcases hw:(kind==2 || kind==4)with _|_
 all_goals
  rw[hw]at hm;simp only[Bool.false_eq_true,if_false,if_true]at hm;replace hm:=hm.symm;subst hm;have HW:=hid hw;clear hw
  go_enter Tryz.func48,Tryz.ntmps48
  go_wp2_with (first
   |(go_at_call 96;refine(zG1 _ _ _ _ _ _ _ _).mono ?_;rw[HW.out];rintro e w1 ⟨rfl,hb1⟩;have f0:w1.cell? ⟨w.heap.size,0,none⟩=some (.int .i64 id):=(by rw[hb1.cell (p:=⟨w.heap.size,0,none⟩) (by simp)];simp);have f1:w1.cell? ⟨w.heap.size,1,none⟩=some (.int .i64 kind):=(by rw[hb1.cell (p:=⟨w.heap.size,1,none⟩) (by simp)];simp);have f2:w1.cell? ⟨w.heap.size,2,none⟩=some (.int .i64 addr):=(by rw[hb1.cell (p:=⟨w.heap.size,2,none⟩) (by simp)];simp);have f3:w1.cell? ⟨w.heap.size,3,none⟩=some (.int .i64 many):=(by rw[hb1.cell (p:=⟨w.heap.size,3,none⟩) (by simp)];simp);have f4:w1.cell? ⟨w.heap.size,4,none⟩=some (.bool wp):=(by rw[hb1.cell (p:=⟨w.heap.size,4,none⟩) (by simp)];simp);have f5:w1.cell? ⟨w.heap.size,5,none⟩=some (.slice ao data.length cap):=(by rw[hb1.cell (p:=⟨w.heap.size,5,none⟩) (by simp)];simp);have f6:w1.cell? ⟨w.heap.size,6,none⟩=some (.slice bo lanes.length cbp):=(by rw[hb1.cell (p:=⟨w.heap.size,6,none⟩) (by simp)];simp))
   |(go_at_call 63;refine(zH2 _ _ _ _).mono ?_;rintro e w' ⟨rfl,rfl⟩)
   |(go_at_call 55;refine(zM6 _ _ _ _).mono ?_;rintro e w' ⟨rfl,rfl⟩)
   |(go_at_call 97;refine(zK7 _ data B _ (h1.below (((Below.refl _ _).alloc hB _).trans (hb1.mono (by simp;omega))))).mono ?_;rw[←HX2.out];rintro e w' ⟨rfl,rfl⟩)
   |(go_at_call 98;refine(zI7 99 #[] (zB3 Tryz.func99 (by kernel_rfl) (by kernel_rfl)) (fun x=>!inB x 0 3) _ lanes B _ (h2.below (((Below.refl _ _).alloc hB _).trans (hb1.mono (by simp;omega)))) (fun x hx=>HC.out x hx _)).mono ?_;rw[←HX1.out];rintro e w' ⟨rfl,rfl⟩))
  all_goals
   go_ret
   refine⟨by rw[HE.out];first|(simp[*];done)|(simp[-List.length_eq_zero_iff, *];done)|(simp[-List.length_eq_zero_iff, *];grind[inB]),?_⟩;exact((Below.refl _ _).alloc (Nat.le_refl _) _).trans (hb1.mono (by simp))
theorem Same.quiet2 {P : Program} {f : FuncId} {args : Array Value} {w : World} {n x : Nat} {v : Value}
  (h:Calls P f args (w.drewN (n+x)) fun e w' => e=.returned v∧w.drewN (n+x)=w'):Calls P f args (w.drewN (n+x)) fun e w'' => e=.returned v∧∃m,w'' = w.drewN (n+m) :=
 h.mono fun _ _ ⟨he,hm⟩=>⟨he,x,hm.symm⟩
theorem Drew.quiet2 {P : Program} {f : FuncId} {args : Array Value} {w : World} {n x : Nat} {v : Value}
  (h:Calls P f args (w.drewN (n+x)) fun e w' => e=.returned v∧Drew (w.drewN (n+x)) w'):Calls P f args (w.drewN (n+x)) fun e w'' => e=.returned v∧∃m,w'' = w.drewN (n+m) :=
 h.mono fun _ _ ⟨he,m,hm⟩=>⟨he,x+m,by rw[hm,World.drewN_drewN,Nat.add_assoc]⟩
theorem rngOf_lt (ms:List MR) (a:Int):rngOf ms a<ms.length:=by
 unfold rngOf
 split
 ·rename_i k h;obtain⟨h1,_⟩:=List.findIdx?_eq_some_iff_getElem.1 h;omega
 ·omega
theorem rngOf_ge (ms:List MR) (a:Int):-1≤rngOf ms a:=by
 unfold rngOf
 split <;> omega
def wholeIs (ms:List MR) (xs:List Int) (k:Nat):Prop:=∀j,j<k→rngOf ms (xs.getD j 0)=rngOf ms (xs.getD 0 0)
theorem wholeOf_nil {ms:List MR} {xs:List Int} (h:xs.length=0):zA5 ms xs = -1:=by
 obtain rfl:=List.eq_nil_of_length_eq_zero h;rfl
theorem wholeOf_all {ms:List MR} {xs:List Int} (h0:xs.length≠0) (h:wholeIs ms xs xs.length):zA5 ms xs=rngOf ms (xs.getD 0 0):=by
 rcases xs with _|⟨a,rest⟩
 ·simp at h0
 ·have:rest.all (fun b=>rngOf ms b==rngOf ms a)=true:=by
   rw[List.all_eq_true];intro x hx;obtain⟨i,hi,rfl⟩:=List.mem_iff_getElem.1 hx;have:=h (i+1) (by simpa using hi);simpa[List.getD,hi]using this
  simp[zA5,this]
theorem wholeOf_bad {ms:List MR} {xs:List Int} {k:Nat} (hk:k<xs.length) (h:rngOf ms (xs.getD k 0)≠rngOf ms (xs.getD 0 0)):zA5 ms xs = -1:=by
 rcases xs with _|⟨a,rest⟩
 ·simp at hk
 ·have:rest.all (fun b=>rngOf ms b==rngOf ms a)=false:=by
   rw[List.all_eq_false];rcases k with _|k
   ·simp at h
   ·have hk':k<rest.length:=by simpa using hk
    exact⟨rest[k],List.getElem_mem _,by simpa[List.getD,hk']using h⟩
  simp[zA5,this]
theorem wholeOf_neg {ms:List MR} {xs:List Int} {k:Nat} (hk:k<xs.length) (h:rngOf ms (xs.getD k 0)<0) (hn:wholeIs ms xs k):zA5 ms xs = -1:=by
 by_cases e:rngOf ms (xs.getD k 0)=rngOf ms (xs.getD 0 0)
 ·have hm:rngOf ms (xs.getD 0 0) = -1:=by have:=rngOf_ge ms (xs.getD 0 0);omega
  rcases xs with _|⟨a,rest⟩
  ·simp at hk
  ·simp only[zA5]
   split
   ·simpa using hm
   ·rfl
 ·exact wholeOf_bad hk e
theorem zI5 (ms:List MR) (xs:List Int):zA5 ms xs<ms.length:=by
 rcases xs with _|⟨a,rest⟩
 ·simp[zA5];omega
 ·simp only[zA5]
  split
  ·exact rngOf_lt ms a
  ·omega
def ReqAt (w:World) (g:Nat) (id kind addr many:Int) (wp:Bool) (dv lv:Value):Prop :=
 w.cell? ⟨g, 0, none⟩ = some (.int .i64 id) ∧ w.cell? ⟨g, 1, none⟩ = some (.int .i64 kind) ∧ w.cell? ⟨g, 2, none⟩ = some (.int .i64 addr) ∧ w.cell? ⟨g, 3, none⟩ = some (.int .i64 many) ∧
  w.cell? ⟨g,4,none⟩=some (.bool wp)∧w.cell? ⟨g,5,none⟩=some dv∧w.cell? ⟨g,6,none⟩=some lv
theorem ReqAt.below {w w':World} {g C:Nat} {id kind addr many:Int} {wp:Bool} {dv lv:Value} (h:ReqAt w g id kind addr many wp dv lv) (hb:Below C w w') (hg:g<C):ReqAt w' g id kind addr many wp dv lv:=by
 obtain⟨f0,f1,f2,f3,f4,f5,f6⟩:=h;refine⟨?_,?_,?_,?_,?_,?_,?_⟩ <;> (rw[hb.cell (by exact hg)];assumption)
theorem ReqAt.lt {w:World} {g:Nat} {id kind addr many:Int} {wp:Bool} {dv lv:Value} (h:ReqAt w g id kind addr many wp dv lv):g<w.heap.size:=World.block_lt_of_cell? w _ h.1
theorem zI9 (v : Value) (ms : List MR) (id kind addr many : Int) (wp : Bool) (dv lv : Value) (hd1 : ∃ a n c, dv = .slice a n c) (hd2 : ∃ a n c, lv = .slice a n c) (B : Nat) (w : World) (hv : Maps w B v ms) (hB : B ≤ w.heap.size) :
  Calls Tryz.prog 100 #[v,.agg #[.int .i64 id,.int .i64 kind,.int .i64 addr,.int .i64 many,.bool wp,dv,lv]] w fun e w' => e=.returned (.int .i64 (zA5 ms (burst addr many wp)))∧Below w.heap.size w w':=by
 obtain⟨xs,hxs⟩:∃xs,xs=burst addr many wp:=⟨_,rfl⟩
 rw[←hxs];have HXS:=hid hxs;clear hxs;obtain⟨da,dn,dc,rfl⟩:=hd1;obtain⟨la,ln,lc,rfl⟩:=hd2
 go_enter Tryz.func100,Tryz.ntmps100
 go_wp2_with (first|(go_at_call 129;refine(reqBurst_val _ _ _ _ _ _ _ _).mono ?_;rintro e w1 ⟨u,rfl,hu,hb1,_⟩;rw[←HXS.out]at hu;obtain⟨ao,cap,rfl,hlc,hcap,hln,hni,hr⟩:=hu.opened))
 have hb1':Below w.heap.size w w1:=((Below.refl _ _).alloc (Nat.le_refl _) _).trans (hb1.mono (by simp));clear hu hb1
 go_loopw [5,6,7,8,12] (fun r _ _ _ i wr=>∃(k:Nat) (rv:Int),k≤xs.length∧i=.int .i64 k∧r=.int .i64 rv∧(k=0→rv = -1)∧(k≠0→rv=rngOf ms (xs.getD 0 0))∧Below w1.heap.size w1 wr∧wholeIs ms xs k) (fun _ _ _ _ i _=>xs.length - (intOf i).toNat)
 case atStart=>exact⟨0,-1,Nat.zero_le _,rfl,rfl,fun _=>rfl,fun h=>absurd rfl h,Below.refl _ _,fun j hj=>absurd hj (by omega)⟩
 case round=>
  obtain⟨k,rv,hk,rfl,rfl,hr1,hr2,hbl,hno⟩:=hrel;have HN:=hid hno;have HR1:=hid hr1;have HR2:=hid hr2;clear hno hr1 hr2;have hs1:=hb1'.size;have hs2:=hbl.size;by_cases hlt:k<xs.length
  ·obtain⟨b,off,rfl,hb,hc⟩:=hr (by omega);have hck:=hc k hlt;rw[←hbl.cell (p:=⟨b,_,none⟩) hb]at hck;obtain⟨x,hx⟩:∃x,x=xs.getD k 0:=⟨_,rfl⟩
   rw[←hx]at hck;have HX:=hid hx;clear hx hc hr;obtain⟨rx,hrx⟩:∃r,r=rngOf ms x:=⟨_,rfl⟩
   have HRX:=hid hrx;have hge:-1≤rx:=by rw[hrx];exact rngOf_ge _ _
   clear hrx;have hbw:Below w.heap.size w wr:=hb1'.trans (hbl.mono hs1);have HM:=hid (hv.below (hbw.mono hB));clear hbw;by_cases hneg:rx<0
   ·have HF:=hid (wholeOf_neg (ms:=ms) hlt (by rw[←HX.out,←HRX.out];exact hneg) HN.out)
    go_wp2_with (first|(go_at_call 150;refine(zM5 _ ms _ B _ HM.out (by omega)).mono ?_;rw[←HRX.out];rintro e w2 ⟨rfl,hb2⟩))
    go_ret
    exact⟨by rw[HF.out];rfl,hb1'.trans ((hbl.trans (hb2.mono hs2)).mono hs1)⟩
   ·have hneg':decide (rx<0)=false:=by simpa using hneg
    clear hneg;by_cases hk0:k=0
    ·have g0:decide (0<k)=false:=by simp;omega
     have HQ := hid (show wholeIs ms xs (k + 1) by
      intro j hj;obtain rfl:j=0:=by omega
      rfl)
     have HZ:=hid (show rx=rngOf ms (xs.getD 0 0) by rw[HRX.out,HX.out,hk0]);clear hk0
     go_wp2_with (first|(go_at_call 150;refine(zM5 _ ms _ B _ HM.out (by omega)).mono ?_;rw[←HRX.out];rintro e w2 ⟨rfl,hb2⟩))
     go_roundw
     case rel=>exact⟨k+1,rx,by omega,by go_num,rfl,by omega,fun _=>HZ.out,hbl.trans (hb2.mono hs2),HQ.out⟩
     case measure=>simp[intOf];omega
    ·have g0:0<k:=by omega
     have HR0:=hid (HR2.out hk0);by_cases hq:rx=rv
     ·have HQ:=hid (show wholeIs ms xs (k+1) from zK9 HN.out (by rw[←HX.out,←HRX.out,←HR0.out];exact hq));have hq2:(rx != rv)=false:=by simp[hq]
      have HQ0:=hid (hq.trans HR0.out);clear hq
      go_wp2_with (first|(go_at_call 150;refine(zM5 _ ms _ B _ HM.out (by omega)).mono ?_;rw[←HRX.out];rintro e w2 ⟨rfl,hb2⟩))
      go_roundw
      case rel=>exact⟨k+1,rx,by omega,by go_num,rfl,by omega,fun _=>HQ0.out,hbl.trans (hb2.mono hs2),HQ.out⟩
      case measure=>simp[intOf];omega
     ·have HF:=hid (wholeOf_bad (ms:=ms) hlt (by rw[←HX.out,←HRX.out,←HR0.out];exact hq));have hq2:(rx != rv)=true:=by simp[hq]
      clear hq
      go_wp2_with (first|(go_at_call 150;refine(zM5 _ ms _ B _ HM.out (by omega)).mono ?_;rw[←HRX.out];rintro e w2 ⟨rfl,hb2⟩))
      go_ret
      exact⟨by rw[HF.out];rfl,hb1'.trans ((hbl.trans (hb2.mono hs2)).mono hs1)⟩
  ·have HF := hid (show zA5 ms xs = rv by
    obtain rfl:k=xs.length:=by omega
    by_cases h0:xs.length=0
    ·rw[wholeOf_nil h0,HR1.out h0]
    ·rw[wholeOf_all h0 HN.out,HR2.out h0])
   go_wp2_with fail
   go_ret
   exact⟨by rw[HF.out];rfl,hb1'.trans (hbl.mono hs1)⟩
def slaveAt (ms:List MR) (k:Int):Int:=if k<0 then 3 else(ms.getD k.toNat default).sl
theorem slave_val (v : Value) (ms : List MR) (id kind addr many : Int) (wp : Bool) (dv lv : Value) (hd1 : ∃ a n c, dv = .slice a n c) (hd2 : ∃ a n c, lv = .slice a n c) (B : Nat) (w : World) (hv : Maps w B v ms) (hB : B ≤ w.heap.size) :
  Calls Tryz.prog 49 #[v,.agg #[.int .i64 id,.int .i64 kind,.int .i64 addr,.int .i64 many,.bool wp,dv,lv]] w fun e w' => e=.returned (.int .i64 (slaveAt ms (zA5 ms (burst addr many wp))))∧Below w.heap.size w w':=by
 obtain⟨z,hz⟩:∃z,z=zA5 ms (burst addr many wp):=⟨_,rfl⟩
 have hz1:z<ms.length:=by rw[hz];exact zI5 _ _
 rw[←hz];have HZ:=hid hz;clear hz;have hd1':=hid hd1;have hd2':=hid hd2;obtain⟨da,dn,dc,rfl⟩:=hd1;obtain⟨la,ln,lc,rfl⟩:=hd2;obtain⟨ao,cap,rfl,hlc,hcap,hln,hni,hr⟩:=hv.opened;have HV:=hid hv;clear hv;by_cases hneg:z<0
 ·have HE:=hid (show slaveAt ms z=3 by simp[slaveAt,hneg])
  go_enter Tryz.func49,Tryz.ntmps49
  go_wp2_with (first|(go_at_call 100;refine(zI9 _ ms _ _ _ _ _ _ _ hd1'.out hd2'.out B _ (HV.out.below ((Below.refl _ _).alloc hB _)) (by simp;omega)).mono ?_;rw[←HZ.out];rintro e w1 ⟨rfl,hb1⟩))
  go_ret
  exact⟨by rw[HE.out];rfl,((Below.refl _ _).alloc (Nat.le_refl _) _).trans (hb1.mono (by simp))⟩
 ·obtain⟨k,rfl⟩:=Int.eq_ofNat_of_zero_le (show 0≤z by omega);have HE:=hid (show slaveAt ms (k:Int)=(ms.getD k default).sl by unfold slaveAt;rw[if_neg (by omega)];simp);obtain⟨b,off,rfl,hb,hc⟩:=hr (by omega);have hk:k<ms.length:=by omega
  obtain⟨c0,c1,c2,c3⟩:=hc k hk;obtain⟨y,hy⟩:∃y,y=(ms.getD k default).sl:=⟨_,rfl⟩
  rw[←hy]at HE c2;clear hr hc c0 c1 c3 hneg hy
  go_enter Tryz.func49,Tryz.ntmps49
  go_wp2_with (first|(go_at_call 100;refine(zI9 _ ms _ _ _ _ _ _ _ hd1'.out hd2'.out B _ (HV.out.below ((Below.refl _ _).alloc hB _)) (by simp;omega)).mono ?_;rw[←HZ.out];rintro e w1 ⟨rfl,hb1⟩;have c9:w1.cell? ⟨b,off+k * 4+2,none⟩=some (.int .i64 y):=(by rw[←c2];exact(((Below.refl _ _).alloc hB _).trans (hb1.mono (by simp;omega))).cell hb)))
  go_ret
  exact⟨by rw[HE.out];rfl,((Below.refl _ _).alloc (Nat.le_refl _) _).trans (hb1.mono (by simp))⟩
structure Touch (r:Nat) (w w':World):Prop where
 os:w'.os=w.os
 tape:w'.tape=w.tape
 output:w'.output=w.output
 size:w.heap.size≤w'.heap.size
 block:∀k,k<w.heap.size→k≠r→w'.heap[k]? = w.heap[k]?
theorem Touch.refl (r:Nat) (w:World):Touch r w w:=⟨rfl,rfl,rfl,Nat.le_refl _,fun _ _ _=>rfl⟩
theorem Touch.trans {r:Nat} {a b c:World} (h:Touch r a b) (k:Touch r b c):Touch r a c :=
 ⟨k.os.trans h.os,k.tape.trans h.tape,k.output.trans h.output,Nat.le_trans h.size k.size,fun i hi hr=>(k.block i (Nat.lt_of_lt_of_le hi h.size) hr).trans (h.block i hi hr)⟩
theorem Touch.below {r B:Nat} {w w':World} (h:Touch r w w') (hr:B≤r) (hB:B≤w.heap.size):Below B w w' :=
 ⟨h.os,h.tape,h.output,h.size,fun k hk=>h.block k (by omega) (by omega)⟩
theorem Touch.of_below {r B:Nat} {w w':World} (h:Below B w w') (hB:w.heap.size≤B):Touch r w w' :=
 ⟨h.os,h.tape,h.output,h.size,fun k hk _=>h.block k (by omega)⟩
theorem Touch.setCell (r o:Nat) (w:World) (v:Value):Touch r w (w.setCell ⟨r,o,none⟩ v) :=
 ⟨rfl,rfl,rfl,by simp[World.setCell],fun k _ hr=>Below.heap_setCell _ _ _ _ hr⟩
theorem Touch.draws {r:Nat} {a w:World} (h:Touch r a w) (n:Nat):Touch r a (w.drewN n):=h.trans ⟨rfl,rfl,rfl,Nat.le_refl _,fun _ _ _=>rfl⟩
theorem Touch.grown {r:Nat} {w w':World} (h:Touch r w w'):w.grownBy w' (some r):=⟨h.os,h.tape,h.output,h.size,fun k h1 h2=>h.block k h1 (by simpa using h2)⟩
theorem Touch.alloc {r:Nat} {a w:World} (h:Touch r a w) (o:Obj):Touch r a (w.alloc o):=h.trans (Touch.of_below ((Below.refl _ _).alloc (Nat.le_refl _) o) (Nat.le_refl _))
def RdAt (w:World) (r B:Nat) (bs:List Nat) (p:Nat):Prop :=
 ∃bv,w.heap[r]? = some (.cells #[bv,.int .i64 p] 129 (0,0))∧Bytes w B bv bs∧B≤r∧bs.length≤2000
theorem lt_of_heap {w:World} {r:Nat} {o:Obj} (h:w.heap[r]? = some o):r<w.heap.size:=by
 rcases Nat.lt_or_ge r w.heap.size with h1|h1
 ·exact h1
 ·rw[Array.getElem?_eq_none h1]at h;simp at h
theorem RdAt.lt {w:World} {r B:Nat} {bs:List Nat} {p:Nat} (h:RdAt w r B bs p):r<w.heap.size:=by
 obtain⟨bv,hb,_⟩:=h;exact lt_of_heap hb
theorem RdAt.draws {w:World} {r B:Nat} {bs:List Nat} {p:Nat} (h:RdAt w r B bs p) (n:Nat):RdAt (w.drewN n) r B bs p:=by
 obtain⟨bv,hb,hy,hB,hl⟩:=h;exact⟨bv,hb,hy.below (Below.draws (Below.refl _ _) n),hB,hl⟩
theorem RdAt.kept {w w':World} {r B C:Nat} {bs:List Nat} {p:Nat} (h:RdAt w r B bs p) (hb:Below C w w') (hl:r<C):RdAt w' r B bs p:=by
 obtain⟨bv,hh,hy,hB,hn⟩:=h;exact⟨bv,by rw[hb.block r hl];exact hh,hy.below (hb.mono (by omega)),hB,hn⟩
theorem RdAt.stepped {w:World} {r B:Nat} {bs:List Nat} {p q:Nat} (h:RdAt w r B bs p):RdAt (w.setCell ⟨r,1,none⟩ (.int .i64 q)) r B bs q:=by
 obtain⟨bv,hh,hy,hB,hn⟩:=h;refine⟨bv,?_,hy.below ((Below.refl _ _).setCell (by simpa using hB) _),hB,hn⟩;simp only[World.setCell,Array.getElem?_modify,hh];simp
theorem xor_nat (a b:Nat) (ha:a<4611686018427387904) (hb:b<4611686018427387904):bits .xor .i64 (a:Int) (b:Int)=((a ^^^ b:Nat):Int):=by
 have hx:a ^^^ b<2 ^ 62:=Nat.xor_lt_two_pow (by omega) (by omega);have e:(2:Nat) ^ 62=4611686018427387904:=by decide
 unfold bits;have ea:(BitVec.ofInt IntKind.i64.bits (a:Int)).toNat=a:=by
  simp[BitVec.toNat_ofInt,IntKind.bits];omega
 have eb:(BitVec.ofInt IntKind.i64.bits (b:Int)).toNat=b:=by
  simp[BitVec.toNat_ofInt,IntKind.bits];omega
 simp only[BitVec.toNat_xor,ea,eb];rw[IntKind.wrap_i64];omega
theorem mix_ok (Z n:Int) (h0:0≤Z) (h1:Z<4611686018427387904) (hn:1≤n):0≤(bits .xor .i64 Z (Z / 64)).tmod n∧(bits .xor .i64 Z (Z / 64)).tmod n<n:=by
 obtain⟨z,rfl⟩:=Int.eq_ofNat_of_zero_le h0;have e:((z:Int) / 64)=((z / 64:Nat):Int):=by omega
 rw[e,xor_nat z (z / 64) (by omega) (by omega),Int.tmod_eq_emod_of_nonneg (by omega)];exact⟨Int.emod_nonneg _ (by omega),Int.emod_lt_of_pos _ (by omega)⟩
theorem pick_any (r B : Nat) (bs : List Nat) (p : Nat) (n : Int) (w : World) (h : RdAt w r B bs p) (hp : p ≤ 1099511627776) (hn : n ≤ 1099511627776) :
  Calls Tryz.prog 82 #[.pointer (some ⟨r,0,none⟩),.int .i64 n] w fun e w' => ∃x:Int,e=.returned (.int .i64 x)∧0≤x∧(x<n∨(x=0∧n<1))∧RdAt w' r B bs (p+1)∧Touch r w w':=by
 have hlt:=h.lt;have hstep:=h.stepped (q:=p+1);have htouch:=Touch.setCell r 1 w (.int .i64 (p+1:Nat));obtain⟨bv,hh,hy,hB,hbl⟩:=h;obtain⟨ao,cap,rfl,hlc,hcap,hln,hni,hr⟩:=hy.opened;have c0:w.cell? ⟨r,0,none⟩=some (.slice ao bs.length cap):=by simp[World.cell?,hh]
 have c1:w.cell? ⟨r,1,none⟩=some (.int .i64 p):=by simp[World.cell?,hh]
 have f1:w.frozen? ⟨r,1,none⟩=false:=by simp[World.frozen?,hh]
 have HS:=hid hstep;have HT:=hid htouch;have HY:=hid hy;clear hstep htouch hy hh;by_cases hn1:n<1
 ·go_enter Tryz.func82,Tryz.ntmps82
  go_wp2
  go_ret
  exact⟨0,rfl,by omega,by omega,by exact HS.out,by exact HT.out⟩
 ·by_cases hb0:bs.length=0
  ·have hb:((bs.length:Int)==0)=true:=by simp[hb0]
   have HB:=hid hb0;clear hb0
   go_enter Tryz.func82,Tryz.ntmps82
   go_wp2
   go_ret
   exact⟨0,rfl,by omega,by omega,by exact HS.out,by exact HT.out⟩
  ·have hb:((bs.length:Int)==0)=false:=by simpa using hb0
   obtain⟨b,off,rfl,hbB,hc⟩:=hr hb0;have hne:b≠r:=by omega
   by_cases hlp:p<bs.length
   ·have hck:=hc p hlp;obtain⟨x,hx⟩:∃x,x=bs.getD p 0:=⟨_,rfl⟩
    rw[←hx]at hck;have hx2:x<256:=by rw[hx];simp[List.getD,hlp];exact HY.out.2 _ (List.getElem_mem _)
    have HX:=hid hx;have HC:=hid hc;clear hx hc hr
    go_enter Tryz.func82,Tryz.ntmps82
    go_wp2
    go_ret
    exact⟨_,rfl,Int.emod_nonneg _ (by omega),.inl (Int.emod_lt_of_pos _ (by omega)),by exact HS.out,by exact HT.out⟩
   ·have hm1:p % bs.length<bs.length:=Nat.mod_lt _ (by omega);have hm2:(p * 7+3) % bs.length<bs.length:=Nat.mod_lt _ (by omega);have hk1:=hc _ hm1;have hk2:=hc _ hm2;obtain⟨x,hx⟩:∃x,x=bs.getD (p % bs.length) 0:=⟨_,rfl⟩
    obtain⟨y,hy⟩:∃y,y=bs.getD ((p * 7+3) % bs.length) 0:=⟨_,rfl⟩
    rw[←hx]at hk1;rw[←hy]at hk2;have hx2:x<256:=by rw[hx];simp[List.getD,hm1];exact HY.out.2 _ (List.getElem_mem _)
    have hy2:y<256:=by rw[hy];simp[List.getD,hm2];exact HY.out.2 _ (List.getElem_mem _)
    have HX:=hid hx;have HY2:=hid hy;have HC:=hid hc;clear hx hy hc hr;have g1:(0:Int)≤(p:Int) % (bs.length:Int):=Int.emod_nonneg _ (by omega);have g2:(p:Int) % (bs.length:Int)<(bs.length:Int):=Int.emod_lt_of_pos _ (by omega);have g3:(0:Int)≤((p:Int) * 7+3) % (bs.length:Int):=Int.emod_nonneg _ (by omega);have g4:((p:Int) * 7+3) % (bs.length:Int)<(bs.length:Int):=Int.emod_lt_of_pos _ (by omega);have g5:(0:Int)≤(p:Int) / (bs.length:Int):=Int.ediv_nonneg (by omega) (by omega);have g6:(p:Int) / (bs.length:Int)≤1099511627776:=by
     have:=Int.ediv_le_self (b:=(bs.length:Int)) (show(0:Int)≤(p:Int) by omega);omega
    go_enter Tryz.func82,Tryz.ntmps82
    go_wp2
    go_quiet (fail)
    go_wp2
    go_ret
    have M:=mix_ok (x * 131+y * 1117+p * 29+p / bs.length * 53) n (by omega) (by omega) (by omega);exact⟨_,rfl,M.1,.inl M.2,by exact(HS.out.draws _),by exact(HT.out.draws _)⟩
theorem zJ6 : ∀ xs : List Int, xs.flatMap rowI = xs.map (Value.int .i64)
 |[]=>rfl
 |x::xs=>by rw[List.flatMap_cons,zJ6 xs];rfl
theorem Owns.cellI {w:World} {base e g off n c:Nat} {xs:List Int} (h:Owns w base e 1 rowI (.slice (some ⟨g,off,none⟩) n c) xs) (k:Nat) (hk:k<xs.length):w.cell? ⟨g,off+k,none⟩=some (.int .i64 (xs.getD k 0)):=by
 obtain⟨hl,h2⟩:=h;rcases h2 with⟨h2,_⟩|⟨g', off', cap,cur,hv,hg,hh,hle,hmax,hsz,hc⟩
 ·cases h2
 ·simp only[Value.slice.injEq,Option.some.injEq,Addr.mk.injEq]at hv;obtain⟨⟨rfl,rfl,_⟩,rfl,rfl⟩:=hv;simp only[World.cell?,hh];have:=hc k (by omega);rw[zJ6]at this;rw[this];simp[List.getD,hk]
theorem Owns.frozenI {w:World} {base e g off n c:Nat} {xs:List Int} (h:Owns w base e 1 rowI (.slice (some ⟨g,off,none⟩) n c) xs) (k:Nat):w.frozen? ⟨g,off+k,none⟩=false:=by
 obtain⟨hl,h2⟩:=h;rcases h2 with⟨h2,_⟩|⟨g', off', cap,cur,hv,hg,hh,hle,hmax,hsz,hc⟩
 ·cases h2
 ·simp only[Value.slice.injEq,Option.some.injEq,Addr.mk.injEq]at hv;obtain⟨⟨rfl,rfl,_⟩,rfl,rfl⟩:=hv;simp[World.frozen?,hh]
theorem Owns.putI {w:World} {base e g off n c:Nat} {xs:List Int} (h:Owns w base e 1 rowI (.slice (some ⟨g,off,none⟩) n c) xs) (k:Nat) (hk:k<xs.length) (x:Int):Owns (w.setCell ⟨g,off+k,none⟩ (.int .i64 x)) base e 1 rowI (.slice (some ⟨g,off,none⟩) n c) (xs.set k x):=by
 obtain⟨hl,h2⟩:=h;rcases h2 with⟨h2,_⟩|⟨g', off', cap,cur,hv,hg,hh,hle,hmax,hsz,hc⟩
 ·cases h2
 ·simp only[Value.slice.injEq,Option.some.injEq,Addr.mk.injEq]at hv;obtain⟨⟨rfl,rfl,_⟩,rfl,rfl⟩:=hv;refine⟨by rw[zJ6];simp,.inr ⟨g,off,c,cur.set! (off+k) (.int .i64 x),by simp,hg,?_,by simpa using hle,hmax,by simpa using hsz,?_⟩⟩
  ·simp only[World.setCell,Array.getElem?_modify,hh];simp
  ·intro j hj;rw[zJ6];have hj':j<xs.length * 1:=by simpa using hj
   have hcj:=hc j hj';rw[zJ6]at hcj;by_cases hjk:j=k
   ·subst hjk;have:off+j<cur.size:=by omega
    simp[this,hk]
   ·rw[Array.set!_eq_setIfInBounds,Array.getElem?_setIfInBounds_ne (by omega),hcj];simp[List.getElem?_map,List.getElem?_set,Ne.symm hjk]
theorem Owns.ltI {α:Type} {w:World} {base e sz g off n c:Nat} {f:α→List Value} {xs:List α} (h:Owns w base e sz f (.slice (some ⟨g,off,none⟩) n c) xs):base≤g∧g<w.heap.size:=OwnR.lt h g rfl
structure Touch2 (a b:Nat) (w w':World):Prop where
 os:w'.os=w.os
 tape:w'.tape=w.tape
 output:w'.output=w.output
 size:w.heap.size≤w'.heap.size
 block:∀k,k<w.heap.size→k≠a→k≠b→w'.heap[k]? = w.heap[k]?
theorem Touch2.refl (a b:Nat) (w:World):Touch2 a b w w:=⟨rfl,rfl,rfl,Nat.le_refl _,fun _ _ _ _=>rfl⟩
theorem Touch2.trans {a b:Nat} {u v w:World} (h:Touch2 a b u v) (k:Touch2 a b v w):Touch2 a b u w :=
 ⟨k.os.trans h.os,k.tape.trans h.tape,k.output.trans h.output,Nat.le_trans h.size k.size,fun i hi ha hb=>(k.block i (Nat.lt_of_lt_of_le hi h.size) ha hb).trans (h.block i hi ha hb)⟩
theorem Touch2.below {a b B:Nat} {w w':World} (h:Touch2 a b w w') (ha:B≤a) (hb:B≤b) (hB:B≤w.heap.size):Below B w w' :=
 ⟨h.os,h.tape,h.output,h.size,fun k hk=>h.block k (by omega) (by omega) (by omega)⟩
theorem Touch2.of_below {a b B:Nat} {w w':World} (h:Below B w w') (hB:w.heap.size≤B):Touch2 a b w w' :=
 ⟨h.os,h.tape,h.output,h.size,fun k hk _ _=>h.block k (by omega)⟩
theorem Touch2.left (a b o:Nat) (w:World) (v:Value):Touch2 a b w (w.setCell ⟨a,o,none⟩ v) :=
 ⟨rfl,rfl,rfl,by simp[World.setCell],fun k _ hr _=>Below.heap_setCell _ _ _ _ hr⟩
theorem Touch2.right (a b o:Nat) (w:World) (v:Value):Touch2 a b w (w.setCell ⟨b,o,none⟩ v) :=
 ⟨rfl,rfl,rfl,by simp[World.setCell],fun k _ _ hr=>Below.heap_setCell _ _ _ _ hr⟩
theorem Touch2.cell {a b:Nat} {w w':World} (h:Touch2 a b w w') {p:Addr} (ha:p.block≠a) (hb:p.block≠b) (hlt:p.block<w.heap.size):w'.cell? p=w.cell? p:=by
 simp only[World.cell?,h.block _ hlt ha hb]
theorem Touch.cell {r:Nat} {w w':World} (h:Touch r w w') {p:Addr} (ha:p.block≠r) (hlt:p.block<w.heap.size):w'.cell? p=w.cell? p:=by
 simp only[World.cell?,h.block _ hlt ha]
theorem idx_contains (x:Int) (xs:List Int):xs.contains x=xs.any (fun y=>x==y):=by
 rw[List.contains_eq_any_beq]
theorem sIndex_any (v : Value) (xs : List Int) (x : Int) (B : Nat) (w : World) (hv : Ints w B v xs) :
  Calls Tryz.prog 167 #[v,.int .i64 x] w fun e w' => e=.returned (.int .i64 (idxP (fun y=>x==y) xs))∧w=w':=by
 obtain⟨ao,cap,rfl,hlc,hcap,hln,hni,hr⟩:=hv.opened;clear hv
 go_enter Tryz.func167,Tryz.ntmps167
 go_wp2_with fail
 go_loop [5,8] (fun _ i=>∃k:Nat,k≤xs.length∧i=.int .i64 k∧∀j,j<k→(x==xs.getD j 0)=false) (fun _ i=>xs.length - (intOf i).toNat)
 case atStart=>exact⟨0,Nat.zero_le _,rfl,by simp⟩
 case round=>
  obtain⟨k,hk,rfl,hno⟩:=hrel;have HN:=hid hno;clear hno;by_cases hlt:k<xs.length
  ·obtain⟨b,off,rfl,hb,hc⟩:=hr (by omega);have hck:=hc k hlt;obtain⟨y,hy⟩:∃y,y=xs.getD k 0:=⟨_,rfl⟩
   rw[←hy]at hck;have HY:=hid hy;clear hy hc hr;rcases hq:(x==y)with _|_
   ·have HQ:=hid (zK9 HN.out (show(x==xs.getD k 0)=false by rw[←HY.out];exact hq))
    go_wp2_with fail
    go_round
    case rel=>exact⟨k+1,by omega,by go_num,HQ.out⟩
    case measure=>simp[intOf];omega
   ·have HF:=hid (zM7 (fun y=>x==y) xs k 0 hlt (by rw[←HY.out];exact hq) HN.out)
    go_wp2_with fail
    go_ret
    exact⟨by rw[HF.out];rfl,rfl⟩
  ·have HF:=hid (zL8 (fun y=>x==y) xs 0 (fun j hj=>HN.out j (by omega)))
   go_wp2_with fail
   go_ret
   exact⟨by rw[HF.out];rfl,rfl⟩
theorem sContains_any (v : Value) (xs : List Int) (x : Int) (B : Nat) (w : World) (hv : Ints w B v xs) :
  Calls Tryz.prog 131 #[v,.int .i64 x] w fun e w' => e=.returned (.bool (xs.contains x))∧w=w':=by
 have HA:=hid (idxP_any (fun y=>x==y) xs);obtain⟨y,hy⟩:∃y,y=xs.contains x:=⟨_,rfl⟩
 rw[←idx_contains,←hy]at HA;rw[←hy];clear hy
 go_enter Tryz.func131,Tryz.ntmps131
 go_wp2_with (first|(go_at_call 167;refine(sIndex_any v xs x B _ hv).mono ?_;rintro e w' ⟨rfl,rfl⟩))
 go_ret
 exact⟨by rw[←HA.out];rfl,rfl⟩
end Go.Proofs.YtgkdoehkmbhfiaaGreat
namespace Go.Proofs.YtgkdoehkmbhfiaaGreat
open Go
def restOf (listed:Array Bool):List Nat:=(List.range listed.size).filter fun j=>!listed.getD j true
theorem restOf_set {listed:Array Bool} {i:Nat} (hi:listed.getD i true=false):(restOf (listed.setIfInBounds i true)).length<(restOf listed).length:=by
 have hlt:i<listed.size:=by
  rcases Nat.lt_or_ge i listed.size with h|h
  ·exact h
  ·simp[Array.getElem?_eq_none h]at hi
 have e:restOf (listed.setIfInBounds i true)=(restOf listed).filter (fun j=>j != i):=by
  unfold restOf;rw[Array.size_setIfInBounds,List.filter_filter];apply List.filter_congr;intro j hj;by_cases hij:i=j
  ·subst hij;simp[hlt]
  ·have:(j != i)=true:=by simpa using Ne.symm hij
   rw[Go.getD_set_ne true hij,this];simp
 rw[e];apply List.length_filter_lt_length_iff_exists.2;exact⟨i,by simp[restOf,hlt];simpa[hlt]using hi,by simp⟩
theorem wpAny_inv {P : Program} {md : Region.Mode} {ops : Array Oper} {Q : Exit → Act → World → Prop} (I : Array Bool → Act → World → Prop)
  (step:∀listed a w i,I listed a w→i∈Region.ready md ops listed→wpOp P ops Q i (fun a' w' => I (listed.setIfInBounds i true) a' w') a w)
  (done:∀listed a w,I listed a w→Region.ready md ops listed=[]→Q .normal a w) :
  ∀(fuel:Nat) (listed:Array Bool) (a:Act) (w:World),(restOf listed).length≤fuel→I listed a w→wpAny P md ops Q fuel listed a w
 |0,listed,a,w,hf,h=>by
  have hr:Region.ready md ops listed=[]:=by
   rcases hr:Region.ready md ops listed with _|⟨i,l⟩
   ·rfl
   ·have hi:i∈Region.ready md ops listed:=by rw[hr];simp
    have hlt:=restOf_set (mem_ready.1 hi).1;omega
  exact⟨hr,done _ _ _ h hr⟩
 |fuel+1,listed,a,w,hf,h=>by
  refine⟨fun hr=>done _ _ _ h hr,fun i hi=>?_⟩;exact wpOp_mono (fun a' w' h' => wpAny_inv I step done fuel _ a' w' (by have:=restOf_set (mem_ready.1 hi).1;omega) h') (step listed a w i h hi)
def backB (md : Region.Mode) (ops : Array Oper) : Bool := (List.range ops.size).all fun i => match ops[i]? with
 |some o=>o.after.all fun e=>!Region.binds md e || decide (e.on<i)
 |none=>true
theorem zM0 {md:Region.Mode} {ops:Array Oper} (h:backB md ops=true) {i:Nat} {o:Oper} (ho:ops[i]? = some o):∀e∈o.after,Region.binds md e=true→e.on<i:=by
 intro e he hb;have h1:=List.all_eq_true.1 h i (List.mem_range.2 (Array.getElem?_eq_some_iff.1 ho).1);simp only[ho]at h1;have h2:=Array.all_eq_true'.1 h1 e he;simpa[hb]using h2
theorem all_done {md:Region.Mode} {ops:Array Oper} (hb:backB md ops=true) {listed:Array Bool} (hs:listed.size=ops.size) (hr:Region.ready md ops listed=[]):∀i,i<ops.size→listed.getD i false=true:=by
 intro i
 induction i using Nat.strongRecOn with
 |_ i ih=>
  intro hi;rcases hl:listed.getD i false with _|_
  ·exfalso
   have hm:i∈Region.ready md ops listed:=by
    refine mem_ready.2 ⟨getD_in (by omega) hl,ops[i],by simp[hi],fun e he hbd=>?_⟩;have hlt:=zM0 hb (i:=i) (o:=ops[i]) (by simp[hi]) e he hbd;exact ih e.on hlt (by omega)
   rw[hr]at hm;cases hm
  ·rfl
theorem zM2 {P : Program} {ops : Array Oper} {Q : Exit → Act → World → Prop} {id : Nat} {a : Act} {w : World} (I : Array Bool → Act → World → Prop) (hm : P.follows .mixedOrders = true) (hb : backB .any ops = true)
  (start:I (Array.replicate ops.size false) a { w with drawn:=w.drawn+1 })
  (step:∀listed a w i o,I listed a w→listed.size=ops.size→ops[i]? = some o→listed.getD i true=false→(∀e∈o.after,Region.binds .any e=true→listed.getD e.on false=true)→wpOp P ops Q i (fun a' w' => I (listed.setIfInBounds i true) a' w') a w)
  (done:∀listed a w,I listed a w→(∀i,i<ops.size→listed.getD i false=true)→Q .normal a w):(Code.region id ops true).wp P Q a w:=by
 refine wp_region_any hm (wpAny_inv (fun listed a w=>listed.size=ops.size∧I listed a w) ?_ ?_ _ _ _ _ ?_ ⟨by simp,start⟩)
 ·rintro listed a w i ⟨hs,h⟩ hi;obtain⟨h1,o,ho,h2⟩:=mem_ready.1 hi;exact wpOp_mono (fun a' w' h' => ⟨by simpa using hs,h'⟩) (step listed a w i o h hs ho h1 h2)
 ·rintro listed a w ⟨hs,h⟩ hr;exact done listed a w h (all_done hb hs hr)
 ·unfold restOf;refine Nat.le_trans (List.length_filter_le _ _) ?_;simp
theorem wpOp_wp {P:Program} {ops:Array Oper} {Q:Exit→Act→World→Prop} {i:Nat} {o:Oper} {K:Act→World→Prop} {a:Act} {w:World} (ho:ops[i]? = some o) (hg:o.guard=none) (h:o.wp P a w K Q):wpOp P ops Q i K a w:=by
 unfold wpOp;simp only[ho];rw[if_pos (by simp[Region.wanted,hg])];exact .inl h
end Go.Proofs.YtgkdoehkmbhfiaaGreat
namespace Go.Proofs.YtgkdoehkmbhfiaaGreat
open Go.RowKit
def ArrV {α:Type} (R:World→Nat→Value→α→Prop) (w:World) (B sz:Nat) (v:Value) (xs:List α):Prop :=
 ∃vs:List Value,Arr w B sz v (vs.map fun u=>u.cells.toList)∧vs.length=xs.length∧∀k,k<xs.length→∀d,R w B (vs.getD k undef) (xs.getD k d)
theorem ArrV.below {α:Type} {R:World→Nat→Value→α→Prop} {w w':World} {B sz:Nat} {v:Value} {xs:List α} (h:ArrV R w B sz v xs) (hb:Below B w w') (hR:∀u x,R w B u x→R w' B u x):ArrV R w' B sz v xs:=by
 obtain⟨vs,h1,h2,h3⟩:=h;exact⟨vs,h1.below hb,h2,fun k hk d=>hR _ _ (h3 k hk d)⟩
theorem ArrV.mono {α:Type} {R:World→Nat→Value→α→Prop} {w:World} {B B' sz:Nat} {v:Value} {xs:List α} (h:ArrV R w B sz v xs) (hb:B≤B') (hR:∀u x,R w B u x→R w B' u x):ArrV R w B' sz v xs:=by
 obtain⟨vs,h1,h2,h3⟩:=h;exact⟨vs,h1.mono hb,h2,fun k hk d=>hR _ _ (h3 k hk d)⟩
theorem zD0 {α:Type} {xs:List α} {k m:Nat} {d:α} (h:k<m):(xs.take m).getD k d=xs.getD k d:=by
 simp[List.getD,List.getElem?_take_of_lt h]
theorem ArrV.take {α:Type} {R:World→Nat→Value→α→Prop} {w:World} {B sz n cap m:Nat} {ao:Option Addr} {xs:List α} (h:ArrV R w B sz (.slice ao n cap) xs) (hm:m≤n):ArrV R w B sz (.slice ao m cap) (xs.take m):=by
 obtain⟨vs,h1,h2,h3⟩:=h;refine⟨vs.take m,by rw[List.map_take];exact h1.take hm,by simp[h2],fun k hk d=>?_⟩;simp only[List.length_take]at hk;rw[zD0 (by omega),zD0 (by omega)];exact h3 k (by omega) d
theorem ArrV.shape {α : Type} {R : World → Nat → Value → α → Prop} {w : World} {B sz : Nat} {v : Value} {xs : List α} (h : ArrV R w B sz v xs) :
  ∃ao cap,v=.slice ao xs.length cap∧xs.length≤cap∧cap≤9223372036854775807∧xs.length≤140737488351232∧(ao=none→cap=0):=by
 obtain⟨vs,⟨ao,cap,hv,h1,h2,h0,h9,_⟩,hl,_⟩:=h;simp only[List.length_map,hl]at hv h1 h0;exact⟨ao,cap,hv,h1,h2,h0,h9⟩
theorem ArrV.at {α : Type} {R : World → Nat → Value → α → Prop} {w : World} {B sz n cap : Nat} {ao : Option Addr} {xs : List α} (h : ArrV R w B sz (.slice ao n cap) xs) (hn : xs.length ≠ 0) :
  ∃b off,ao=some ⟨b,off,none⟩∧b<B∧∀k,k<xs.length→∃u,(∀d,R w B u (xs.getD k d))∧∀j,j<sz→w.cell? ⟨b,off+k * sz+j,none⟩=u.cells.toList[j]?:=by
 obtain⟨vs,⟨ao', cap', hv,h1,h2,h0,h9,h3⟩,hl,hr⟩:=h;simp only[Value.slice.injEq]at hv;obtain⟨rfl,_,rfl⟩:=hv;obtain⟨b,off,ha,hlt,hc⟩:=h3 (by simp only[List.length_map];omega);refine⟨b,off,ha,hlt,fun k hk=>⟨vs.getD k undef,fun d=>hr k hk d,fun j hj=>?_⟩⟩;rw[hc k (by simp only[List.length_map];omega) j hj];simp[List.getD,show k<vs.length by omega]
theorem ArrV.nil {α:Type} (R:World→Nat→Value→α→Prop) (w:World) (B sz:Nat):ArrV R w B sz (.slice none 0 0) ([]:List α) :=
 ⟨[],⟨none,0,rfl,by simp,by omega,by simp,fun _=>rfl,fun h=>absurd rfl h⟩,rfl,fun k hk=>absurd hk (by simp)⟩
def Reqs (w:World) (B:Nat) (v:Value) (rs:List Rq):Prop:=ArrV ReqV w B 7 v rs
theorem Reqs.below {w w':World} {B:Nat} {v:Value} {rs:List Rq} (h:Reqs w B v rs) (hb:Below B w w'):Reqs w' B v rs:=ArrV.below h hb fun _ _ h=>h.below hb
theorem Reqs.mono {w:World} {B B':Nat} {v:Value} {rs:List Rq} (h:Reqs w B v rs) (hb:B≤B'):Reqs w B' v rs:=ArrV.mono h hb fun _ _ h=>h.mono hb
theorem Reqs.opened {w : World} {B : Nat} {v : Value} {rs : List Rq} (h : Reqs w B v rs) :
  ∃ ao cap, v = .slice ao rs.length cap ∧ rs.length ≤ cap ∧ cap ≤ 9223372036854775807 ∧ rs.length ≤ 140737488351232 ∧ (ao = none → cap = 0) ∧
   (rs.length ≠ 0 → ∃ b off, ao = some ⟨b, off, none⟩ ∧ b < B ∧ ∀ t, t < rs.length → ∃ da dc la lc, ReqV w B (.agg #[.int .i64 (rs.getD t default).id, .int .i64 (rs.getD t default).kind, .int .i64 (rs.getD t default).addr, .int .i64 (rs.getD t default).many, .bool (rs.getD t default).wrap, .slice da (rs.getD t default).data.length dc, .slice la (rs.getD t default).lanes.length lc]) (rs.getD t default) ∧
    w.cell? ⟨b,off+t * 7,none⟩=some (.int .i64 (rs.getD t default).id)∧w.cell? ⟨b,off+t * 7+1,none⟩=some (.int .i64 (rs.getD t default).kind)∧w.cell? ⟨b,off+t * 7+2,none⟩=some (.int .i64 (rs.getD t default).addr) ∧
    w.cell? ⟨b,off+t * 7+3,none⟩=some (.int .i64 (rs.getD t default).many)∧w.cell? ⟨b,off+t * 7+4,none⟩=some (.bool (rs.getD t default).wrap)∧w.cell? ⟨b,off+t * 7+5,none⟩=some (.slice da (rs.getD t default).data.length dc)∧w.cell? ⟨b,off+t * 7+6,none⟩=some (.slice la (rs.getD t default).lanes.length lc)):=by
 obtain⟨ao,cap,rfl,h1,h2,h0,h9⟩:=ArrV.shape h;refine⟨ao,cap,rfl,h1,h2,h0,h9,fun hn=>?_⟩;obtain⟨b,off,ha,hlt,hc⟩:=ArrV.at h hn;refine⟨b,off,ha,hlt,fun t ht=>?_⟩;obtain⟨u,hu,hcell⟩:=hc t ht;have hu':=hu default;have hu2:=hu';obtain⟨dv,lv,rfl,k1,k2,k3⟩:=hu';obtain⟨da,dc,rfl,_⟩:=k1.opened;obtain⟨la,lc,rfl,_⟩:=k2.opened;refine⟨_,_,_,_,hu2,?_,?_,?_,?_,?_,?_,?_⟩
 ·have:=hcell 0 (by omega);simpa[Value.cells]using this
 ·have:=hcell 1 (by omega);simpa[Value.cells]using this
 ·have:=hcell 2 (by omega);simpa[Value.cells]using this
 ·have:=hcell 3 (by omega);simpa[Value.cells]using this
 ·have:=hcell 4 (by omega);simpa[Value.cells]using this
 ·have:=hcell 5 (by omega);simpa[Value.cells]using this
 ·have:=hcell 6 (by omega);simpa[Value.cells]using this
end Go.Proofs.YtgkdoehkmbhfiaaGreat
