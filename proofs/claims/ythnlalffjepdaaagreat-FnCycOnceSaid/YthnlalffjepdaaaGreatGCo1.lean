/- CycNew of the program, as a bus of one's own. -/
import Derived.Test.YthnlalffjepdaaaGreatGOc
import Derived.Test.YthnlalffjepdaaaGreatGCs
import Derived.Test.YthnlalffjepdaaaGreatGY1
set_option linter.unusedVariables false
set_option linter.unusedSimpArgs false
namespace Go.Proofs.YthnlalffjepdaaaGreat
open Go.RowKit
def ahB (E:List Ev) (e:Ev) (j:Nat):Bool:=(e.kind==1) || (List.range j).any fun i=>decide (E.getD i default=⟨e.kind - 1,e.who,e.n⟩)
theorem ahB_zero (E:List Ev) (e:Ev):ahB E e 0=(e.kind==1):=by simp[ahB]
theorem ahB_succ (E:List Ev) (e:Ev) (j:Nat):ahB E e (j+1)=(ahB E e j || decide (E.getD j default=⟨e.kind - 1,e.who,e.n⟩)):=by
 simp[ahB,List.range_succ,Bool.or_assoc]
theorem ahB_end {E:List Ev} (h:Ahead E) {k:Nat} (hk:k<E.length):ahB E (E.getD k default) k=true:=by
 unfold ahB;rcases h k hk with h1|⟨j,hj,h2⟩
 ·rw[h1];rfl
 ·rw[Bool.or_eq_true];right;rw[List.any_eq_true];exact⟨j,List.mem_range.2 hj,by rw[h2];simp⟩
theorem trace_lenK (c : Cfg) : ∀ (ins : List Inp) (st : Cy), (trace c ins st).length ≤ 10 * ins.length
 |[],_=>Nat.zero_le _
 |i::rest,st=>by
  have h1:=evs_len c i st;have h2:=trace_lenK c rest (cyc c i st);show(evs c i st++trace c rest (cyc c i st)).length≤_;rw[List.length_append,List.length_cons];omega
theorem trace_len {c:Cfg} (_:Bus c) (ins:List Inp) (h:ins.length≤300):(trace c ins cy0).length≤5000:=by
 have:=trace_lenK c ins cy0;omega
theorem ev_ne {x y:Ev} (h:x≠y):x.kind≠y.kind∨(x.kind=y.kind∧x.who≠y.who)∨(x.kind=y.kind∧x.who=y.who∧x.n≠y.n):=by
 obtain⟨a,b,c⟩:=x;obtain⟨a', b', c'⟩:=y;simp only[ne_eq,Ev.mk.injEq]at h ⊢;by_cases h1:a=a'
 ·by_cases h2:b=b'
  ·exact .inr (.inr ⟨h1,h2,fun h3=>h ⟨h1,h2,h3⟩⟩)
  ·exact .inr (.inl ⟨h1,h2⟩)
 ·exact .inl h1
theorem beqF {a b:Nat} (h:a≠b):((a:Int)==(b:Int))=false:=by simp;omega
set_option maxRecDepth 8000 in
set_option maxHeartbeats 8000000 in
theorem crOnce_any {E : List Ev} (hnd : E.Nodup) (hah : Ahead E) (hkd : ∀ e ∈ E, 1 ≤ e.kind ∧ e.kind ≤ 3) (hl : E.length ≤ 5000) {w : World} {B : Nat} {a : Option Addr} {n q : Nat} (harr : Arr w B 3 (.slice a n q) (E.map evRow)) (hB : B ≤ w.heap.size) :
    Calls Tryz.prog 24 #[.slice a n q] w fun e w' => e=.returned (.bool true)∧Below w.heap.size w w':=by
  have hn:n=E.length:=by
    obtain⟨_,_,e,_⟩:=harr;simp only[Value.slice.injEq,List.length_map]at e;exact e.2.1
  have HN:=hid hn;have HA:=hid harr;have HND:=hid hnd;have HAH:=hid hah;have HKD:=hid hkd;have hn5:n≤5000:=by omega
  clear hn harr hl
  go_enter Tryz.func24,Tryz.ntmps24
  go_wp2_with fail
  go_loopw [3] (fun i wr=>∃k:Nat,i=.int .i64 k∧k≤n∧Below w.heap.size w wr) (fun i _=>n - (intOf i).toNat)
  case atStart=>exact⟨0,by go_num,Nat.zero_le _,Below.refl _ _⟩
  case round=>
    obtain⟨k,rfl,hk,hbr⟩:=hrel;have HBR:=hid hbr;clear hbr;by_cases hlt:k<n
    · have hki : (k : Int) < (n : Int) := by omega
      obtain⟨eb,eo,eq,he,_,_,hebw,hec⟩:=Arr.at (f:=evRow) HA.out (by rw[←HN.out];omega);simp only[Value.slice.injEq]at he;obtain⟨rfl,-,rfl⟩:=he
      have HEC := hid (show ∀ W, Below w.heap.size w W → ∀ t, t < n → W.cell? ⟨eb, eo + t * 3, none⟩ = some (.int .i64 ((E.getD t default).kind : Nat)) ∧ W.cell? ⟨eb, eo + t * 3 + 1, none⟩ = some (.int .i64 ((E.getD t default).who : Nat)) ∧ W.cell? ⟨eb, eo + t * 3 + 2, none⟩ = some (.int .i64 ((E.getD t default).n : Nat)) from fun W hW t ht => by
        have ht2:t<E.length:=by rw[←HN.out];exact ht
        have c0:=hec t default ht2 0 (by omega);have c1:=hec t default ht2 1 (by omega);have c2:=hec t default ht2 2 (by omega);simp only[evRow,List.getElem?_cons_zero,List.getElem?_cons_succ,Nat.add_zero]at c0 c1 c2;have hlt:=Nat.lt_of_lt_of_le hebw hB;exact⟨(hW.cell (p:=⟨eb,_,none⟩) hlt).trans c0,(hW.cell (p:=⟨eb,_,none⟩) hlt).trans c1,(hW.cell (p:=⟨eb,_,none⟩) hlt).trans c2⟩)
      obtain⟨ev,hev⟩:∃e,e=E.getD k default:=⟨_,rfl⟩
      obtain⟨c0,c1,c2⟩:=HEC.out wr HBR.out k hlt;rw[←hev]at c0 c1 c2;have HEV:=hid hev;have hk1:=HKD.out ev (by rw[hev];exact getD_mem (by rw[←HN.out];exact hlt));clear hec hev hebw
      go_upto_region 5 with fail
      obtain⟨w4,hw4⟩:∃W,W=wr.alloc (.cells #[.int .i64 (ev.kind:Nat),.int .i64 (ev.who:Nat),.int .i64 (ev.n:Nat)] 66):=⟨_,rfl⟩
      obtain⟨ge,hge⟩:∃g,g=wr.heap.size:=⟨_,rfl⟩
      have XE:=hid (show Bx w4 ge [.int .i64 (ev.kind:Nat),.int .i64 (ev.who:Nat),.int .i64 (ev.n:Nat)] by rw[hw4,hge];exact Bx.new wr #[.int .i64 (ev.kind:Nat),.int .i64 (ev.who:Nat),.int .i64 (ev.n:Nat)] 66 (by simp));have HB4:=hid (show Below w.heap.size w w4 by rw[hw4];exact HBR.out.alloc HBR.out.size _);rw[←hw4,←hge];clear hw4 hge c0 c1 c2;obtain⟨x0,x1,x2⟩:=XE.out.three.1;have HK1:=hid hk1;clear hk1
      go_wp2_with fail
      clear x0 x1 x2
      go_loopw [5,6] (fun s j wr=>∃m:Nat,j=.int .i64 m∧m≤k∧s=.bool (ahB E ev m)∧Below w4.heap.size w4 wr) (fun _ j _=>k - (intOf j).toNat)
      case atStart=>exact⟨0,by go_num,Nat.zero_le _,by rw[ahB_zero];congr 1;rw[Bool.eq_iff_iff];simp <;> omega,Below.refl _ _⟩
      case round=>
        obtain⟨m,rfl,hm,rfl,hbm⟩:=hrel;have HBM:=hid hbm;clear hbm;by_cases hlt2:m<k
        · have hmi : (m : Int) < (k : Int) := by omega
          have hmn:(m:Int)<(n:Int):=by omega
          have HBMW:=hid (HB4.out.trans (HBM.out.mono HB4.out.size));obtain⟨d0,d1,d2⟩:=HEC.out wr HBMW.out m (by omega);obtain⟨x0,x1,x2⟩:=(XE.out.below HBM.out XE.out.lt).three.1;obtain⟨ex,hex⟩:∃e,e=E.getD m default:=⟨_,rfl⟩
          rw[←hex]at d0 d1 d2;have HEX:=hid hex;have hsu:=ahB_succ E ev m;rw[←hex]at hsu;have HSU:=hid hsu;clear hex hsu;obtain⟨ah,hah2⟩:∃b,b=ahB E ev m:=⟨_,rfl⟩
          rw[←hah2]at HSU ⊢;clear hah2;have hne:ex≠ev:=fun e=>by
            rw[HEX.out,HEV.out]at e;have h1:m<E.length:=by rw[←HN.out];omega
            have h2:k<E.length:=by rw[←HN.out];omega
            have e2:E[m]=E[k]:=by simpa[List.getD,h1,h2]using e
            exact List.pairwise_iff_getElem.1 HND.out m k h1 h2 hlt2 e2
          obtain⟨kp,hkp⟩:∃x,x=ev.kind - 1:=⟨_,rfl⟩
          have hk1:=HK1.out;have ew:IntKind.i64.wrap ((ev.kind:Int) - 1)=(kp:Int):=by rw[IntKind.wrap_i64];omega
          rw[←hkp]at HSU;have hkk:kp≠ev.kind:=by omega
          clear hkp hk1;have HNE:=hid (ev_ne hne);have HKK:=hid hkk;obtain⟨xk,hxk⟩:∃x,x=ex.kind:=⟨_,rfl⟩
          obtain⟨xw,hxw⟩:∃x,x=ex.who:=⟨_,rfl⟩
          obtain⟨xn,hxn⟩:∃x,x=ex.n:=⟨_,rfl⟩
          rw[←hxk,←hxw,←hxn]at HNE;rw[←hxk]at d0;rw[←hxw]at d1;rw[←hxn]at d2;have HXX:=hid (show ex=⟨xk,xw,xn⟩ by rw[hxk,hxw,hxn]);clear hne hkk hxk hxw hxn;rcases HNE.out with h|⟨h1,h⟩|⟨h1,h2,h⟩
          · have f := beqF h
            clear h
            go_upto_region 9 with fail
            obtain⟨CC,hCC⟩:∃CC:List Value→World→Prop,CC=fun us W=>Below wr.heap.size wr W:=⟨_,rfl⟩
            have hC0:CC [] wr.drew:=by rw[hCC];exact(Below.refl _ _).drew
            have hTC:∀us W,CC us W→Below wr.heap.size wr W:=by rw[hCC];exact fun us W h=>h
            have HTC:=hid hTC;have hne:Nonempty (Ph CC):=⟨⟨([],wr.drew),hC0⟩⟩
            have pc:∀{p:Addr} {v:Value},wr.cell? p=some v→∀x:Ph CC,x.1.2.cell? p=some v:=fun hc x=>((hTC _ _ x.2).cell (World.block_lt_of_cell? wr _ hc)).trans hc
            replace d0:=pc d0;replace d1:=pc d1;replace d2:=pc d2;replace x0:=pc x0;replace x1:=pc x1;replace x2:=pc x2;clear hCC hTC pc;refine wp_region_flow CC [] [] (by kernel_rfl) (by kernel_rfl) hC0 ?_
            repeat (
              (with_reducible refine wq1_q ⟨rfl,rfl⟩ (fun K hK=>?_))
              go_simp
              first
                |((with_reducible refine hK _ ?_);clear hK K)
                |((with_reducible refine of_ite_neg (by simp[undef]) (hK _ ?_));clear hK K)
                | (apply Exists.intro
                   (with_reducible refine⟨fun _=>?_,hK _ ?_⟩)
                   (fail)
                   clear hK K))
            refine wq1_nil ?_;refine wq2_nil ?_;intro wy hwz;have HBZwy:=hid ((HTC.out _ _ hwz));clear hwz hC0 HTC hne d0 d1 d2 x0 x1 x2 CC;obtain⟨d0,d1,d2⟩:=HEC.out wy (HBMW.out.trans (HBZwy.out.mono HBMW.out.size)) m (by omega);obtain⟨x0,x1,x2⟩:=(XE.out.below (HBM.out.trans (HBZwy.out.mono HBM.out.size)) XE.out.lt).three.1;rw[←HEX.out,HXX.out]at d0 d1 d2;cases ah
            · by_cases e1 : xk = kp
              · by_cases e2 : xw = ev.who
                · by_cases e3 : xn = ev.n
                  · subst e1; subst e2; subst e3
                    go_upto_region 11 with fail
                    obtain⟨CC,hCC⟩:∃CC:List Value→World→Prop,CC=fun us W=>Below wy.heap.size wy W:=⟨_,rfl⟩
                    have hC0:CC [] wy.drew:=by rw[hCC];exact(Below.refl _ _).drew
                    have hTC:∀us W,CC us W→Below wy.heap.size wy W:=by rw[hCC];exact fun us W h=>h
                    have HTC:=hid hTC;have hne:Nonempty (Ph CC):=⟨⟨([],wy.drew),hC0⟩⟩
                    have pc:∀{p:Addr} {v:Value},wy.cell? p=some v→∀x:Ph CC,x.1.2.cell? p=some v:=fun hc x=>((hTC _ _ x.2).cell (World.block_lt_of_cell? wy _ hc)).trans hc
                    replace d0:=pc d0;replace d1:=pc d1;replace d2:=pc d2;replace x0:=pc x0;replace x1:=pc x1;replace x2:=pc x2;clear hCC hTC pc;refine wp_region_flow CC [] [] (by kernel_rfl) (by kernel_rfl) hC0 ?_
                    repeat (
                      (with_reducible refine wq1_q ⟨rfl,rfl⟩ (fun K hK=>?_))
                      go_simp
                      first
                        |((with_reducible refine hK _ ?_);clear hK K)
                        |((with_reducible refine of_ite_neg (by simp[undef]) (hK _ ?_));clear hK K)
                        | (apply Exists.intro
                           (with_reducible refine⟨fun _=>?_,hK _ ?_⟩)
                           (fail)
                           clear hK K))
                    refine wq1_nil ?_;refine wq2_nil ?_;intro wz hwz;have HBZwz:=hid ((HTC.out _ _ hwz));clear hwz hC0 HTC hne d0 d1 d2 x0 x1 x2 CC
                    go_wp2_with fail
                    go_roundw
                    case rel=>exact⟨m+1,by go_num,by omega,by rw[HSU.out,HXX.out];have hq:=HKK.out;have hq2:=Ne.symm hq;simp[hq,hq2] <;> omega,HBM.out.trans ((HBZwy.out.trans (HBZwz.out.mono HBZwy.out.size)).mono HBM.out.size)⟩
                    case measure=>simp[intOf];omega
                  · have g := beqF e3
                    subst e1;subst e2
                    go_upto_region 11 with fail
                    obtain⟨CC,hCC⟩:∃CC:List Value→World→Prop,CC=fun us W=>Below wy.heap.size wy W:=⟨_,rfl⟩
                    have hC0:CC [] wy.drew:=by rw[hCC];exact(Below.refl _ _).drew
                    have hTC:∀us W,CC us W→Below wy.heap.size wy W:=by rw[hCC];exact fun us W h=>h
                    have HTC:=hid hTC;have hne:Nonempty (Ph CC):=⟨⟨([],wy.drew),hC0⟩⟩
                    have pc:∀{p:Addr} {v:Value},wy.cell? p=some v→∀x:Ph CC,x.1.2.cell? p=some v:=fun hc x=>((hTC _ _ x.2).cell (World.block_lt_of_cell? wy _ hc)).trans hc
                    replace d0:=pc d0;replace d1:=pc d1;replace d2:=pc d2;replace x0:=pc x0;replace x1:=pc x1;replace x2:=pc x2;clear hCC hTC pc;refine wp_region_flow CC [] [] (by kernel_rfl) (by kernel_rfl) hC0 ?_
                    repeat (
                      (with_reducible refine wq1_q ⟨rfl,rfl⟩ (fun K hK=>?_))
                      go_simp
                      first
                        |((with_reducible refine hK _ ?_);clear hK K)
                        |((with_reducible refine of_ite_neg (by simp[undef]) (hK _ ?_));clear hK K)
                        | (apply Exists.intro
                           (with_reducible refine⟨fun _=>?_,hK _ ?_⟩)
                           (fail)
                           clear hK K))
                    refine wq1_nil ?_;refine wq2_nil ?_;intro wz hwz;have HBZwz:=hid ((HTC.out _ _ hwz));clear hwz hC0 HTC hne d0 d1 d2 x0 x1 x2 CC
                    go_wp2_with fail
                    go_roundw
                    case rel=>exact⟨m+1,by go_num,by omega,by rw[HSU.out,HXX.out];have hq:=HKK.out;have hq2:=Ne.symm hq;simp[hq,hq2] <;> omega,HBM.out.trans ((HBZwy.out.trans (HBZwz.out.mono HBZwy.out.size)).mono HBM.out.size)⟩
                    case measure=>simp[intOf];omega
                · have g := beqF e2
                  subst e1
                  go_upto_region 11 with fail
                  obtain⟨CC,hCC⟩:∃CC:List Value→World→Prop,CC=fun us W=>Below wy.heap.size wy W:=⟨_,rfl⟩
                  have hC0:CC [] wy.drew:=by rw[hCC];exact(Below.refl _ _).drew
                  have hTC:∀us W,CC us W→Below wy.heap.size wy W:=by rw[hCC];exact fun us W h=>h
                  have HTC:=hid hTC;have hne:Nonempty (Ph CC):=⟨⟨([],wy.drew),hC0⟩⟩
                  have pc:∀{p:Addr} {v:Value},wy.cell? p=some v→∀x:Ph CC,x.1.2.cell? p=some v:=fun hc x=>((hTC _ _ x.2).cell (World.block_lt_of_cell? wy _ hc)).trans hc
                  replace d0:=pc d0;replace d1:=pc d1;replace d2:=pc d2;replace x0:=pc x0;replace x1:=pc x1;replace x2:=pc x2;clear hCC hTC pc;refine wp_region_flow CC [] [] (by kernel_rfl) (by kernel_rfl) hC0 ?_
                  repeat (
                    (with_reducible refine wq1_q ⟨rfl,rfl⟩ (fun K hK=>?_))
                    go_simp
                    first
                      |((with_reducible refine hK _ ?_);clear hK K)
                      |((with_reducible refine of_ite_neg (by simp[undef]) (hK _ ?_));clear hK K)
                      | (apply Exists.intro
                         (with_reducible refine⟨fun _=>?_,hK _ ?_⟩)
                         (fail)
                         clear hK K))
                  refine wq1_nil ?_;refine wq2_nil ?_;intro wz hwz;have HBZwz:=hid ((HTC.out _ _ hwz));clear hwz hC0 HTC hne d0 d1 d2 x0 x1 x2 CC
                  go_wp2_with fail
                  go_roundw
                  case rel=>exact⟨m+1,by go_num,by omega,by rw[HSU.out,HXX.out];have hq:=HKK.out;have hq2:=Ne.symm hq;simp[hq,hq2] <;> omega,HBM.out.trans ((HBZwy.out.trans (HBZwz.out.mono HBZwy.out.size)).mono HBM.out.size)⟩
                  case measure=>simp[intOf];omega
              · have g := beqF e1
                go_upto_region 11 with fail
                obtain⟨CC,hCC⟩:∃CC:List Value→World→Prop,CC=fun us W=>Below wy.heap.size wy W:=⟨_,rfl⟩
                have hC0:CC [] wy.drew:=by rw[hCC];exact(Below.refl _ _).drew
                have hTC:∀us W,CC us W→Below wy.heap.size wy W:=by rw[hCC];exact fun us W h=>h
                have HTC:=hid hTC;have hne:Nonempty (Ph CC):=⟨⟨([],wy.drew),hC0⟩⟩
                have pc:∀{p:Addr} {v:Value},wy.cell? p=some v→∀x:Ph CC,x.1.2.cell? p=some v:=fun hc x=>((hTC _ _ x.2).cell (World.block_lt_of_cell? wy _ hc)).trans hc
                replace d0:=pc d0;replace d1:=pc d1;replace d2:=pc d2;replace x0:=pc x0;replace x1:=pc x1;replace x2:=pc x2;clear hCC hTC pc;refine wp_region_flow CC [] [] (by kernel_rfl) (by kernel_rfl) hC0 ?_
                repeat (
                  (with_reducible refine wq1_q ⟨rfl,rfl⟩ (fun K hK=>?_))
                  go_simp
                  first
                    |((with_reducible refine hK _ ?_);clear hK K)
                    |((with_reducible refine of_ite_neg (by simp[undef]) (hK _ ?_));clear hK K)
                    | (apply Exists.intro
                       (with_reducible refine⟨fun _=>?_,hK _ ?_⟩)
                       (fail)
                       clear hK K))
                refine wq1_nil ?_;refine wq2_nil ?_;intro wz hwz;have HBZwz:=hid ((HTC.out _ _ hwz));clear hwz hC0 HTC hne d0 d1 d2 x0 x1 x2 CC
                go_wp2_with fail
                go_roundw
                case rel=>exact⟨m+1,by go_num,by omega,by rw[HSU.out,HXX.out];have hq:=HKK.out;have hq2:=Ne.symm hq;simp[hq,hq2] <;> omega,HBM.out.trans ((HBZwy.out.trans (HBZwz.out.mono HBZwy.out.size)).mono HBM.out.size)⟩
                case measure=>simp[intOf];omega
            · skip
              go_upto_region 11 with fail
              obtain⟨CC,hCC⟩:∃CC:List Value→World→Prop,CC=fun us W=>Below wy.heap.size wy W:=⟨_,rfl⟩
              have hC0:CC [] wy.drew:=by rw[hCC];exact(Below.refl _ _).drew
              have hTC:∀us W,CC us W→Below wy.heap.size wy W:=by rw[hCC];exact fun us W h=>h
              have HTC:=hid hTC;have hne:Nonempty (Ph CC):=⟨⟨([],wy.drew),hC0⟩⟩
              have pc:∀{p:Addr} {v:Value},wy.cell? p=some v→∀x:Ph CC,x.1.2.cell? p=some v:=fun hc x=>((hTC _ _ x.2).cell (World.block_lt_of_cell? wy _ hc)).trans hc
              replace d0:=pc d0;replace d1:=pc d1;replace d2:=pc d2;replace x0:=pc x0;replace x1:=pc x1;replace x2:=pc x2;clear hCC hTC pc;refine wp_region_flow CC [] [] (by kernel_rfl) (by kernel_rfl) hC0 ?_
              repeat (
                (with_reducible refine wq1_q ⟨rfl,rfl⟩ (fun K hK=>?_))
                go_simp
                first
                  |((with_reducible refine hK _ ?_);clear hK K)
                  |((with_reducible refine of_ite_neg (by simp[undef]) (hK _ ?_));clear hK K)
                  | (apply Exists.intro
                     (with_reducible refine⟨fun _=>?_,hK _ ?_⟩)
                     (fail)
                     clear hK K))
              refine wq1_nil ?_;refine wq2_nil ?_;intro wz hwz;have HBZwz:=hid ((HTC.out _ _ hwz));clear hwz hC0 HTC hne d0 d1 d2 x0 x1 x2 CC
              go_wp2_with fail
              go_roundw
              case rel=>exact⟨m+1,by go_num,by omega,by rw[HSU.out,HXX.out];have hq:=HKK.out;have hq2:=Ne.symm hq;simp[hq,hq2] <;> omega,HBM.out.trans ((HBZwy.out.trans (HBZwz.out.mono HBZwy.out.size)).mono HBM.out.size)⟩
              case measure=>simp[intOf];omega
          · subst h1
            have f:=beqF h;clear h
            go_upto_region 9 with fail
            obtain⟨CC,hCC⟩:∃CC:List Value→World→Prop,CC=fun us W=>Below wr.heap.size wr W:=⟨_,rfl⟩
            have hC0:CC [] wr.drew:=by rw[hCC];exact(Below.refl _ _).drew
            have hTC:∀us W,CC us W→Below wr.heap.size wr W:=by rw[hCC];exact fun us W h=>h
            have HTC:=hid hTC;have hne:Nonempty (Ph CC):=⟨⟨([],wr.drew),hC0⟩⟩
            have pc:∀{p:Addr} {v:Value},wr.cell? p=some v→∀x:Ph CC,x.1.2.cell? p=some v:=fun hc x=>((hTC _ _ x.2).cell (World.block_lt_of_cell? wr _ hc)).trans hc
            replace d0:=pc d0;replace d1:=pc d1;replace d2:=pc d2;replace x0:=pc x0;replace x1:=pc x1;replace x2:=pc x2;clear hCC hTC pc;refine wp_region_flow CC [] [] (by kernel_rfl) (by kernel_rfl) hC0 ?_
            repeat (
              (with_reducible refine wq1_q ⟨rfl,rfl⟩ (fun K hK=>?_))
              go_simp
              first
                |((with_reducible refine hK _ ?_);clear hK K)
                |((with_reducible refine of_ite_neg (by simp[undef]) (hK _ ?_));clear hK K)
                | (apply Exists.intro
                   (with_reducible refine⟨fun _=>?_,hK _ ?_⟩)
                   (fail)
                   clear hK K))
            refine wq1_nil ?_;refine wq2_nil ?_;intro wy hwz;have HBZwy:=hid ((HTC.out _ _ hwz));clear hwz hC0 HTC hne d0 d1 d2 x0 x1 x2 CC;obtain⟨d0,d1,d2⟩:=HEC.out wy (HBMW.out.trans (HBZwy.out.mono HBMW.out.size)) m (by omega);obtain⟨x0,x1,x2⟩:=(XE.out.below (HBM.out.trans (HBZwy.out.mono HBM.out.size)) XE.out.lt).three.1;rw[←HEX.out,HXX.out]at d0 d1 d2;cases ah
            · have g := beqF (Ne.symm HKK.out)
              go_upto_region 11 with fail
              obtain⟨CC,hCC⟩:∃CC:List Value→World→Prop,CC=fun us W=>Below wy.heap.size wy W:=⟨_,rfl⟩
              have hC0:CC [] wy.drew:=by rw[hCC];exact(Below.refl _ _).drew
              have hTC:∀us W,CC us W→Below wy.heap.size wy W:=by rw[hCC];exact fun us W h=>h
              have HTC:=hid hTC;have hne:Nonempty (Ph CC):=⟨⟨([],wy.drew),hC0⟩⟩
              have pc:∀{p:Addr} {v:Value},wy.cell? p=some v→∀x:Ph CC,x.1.2.cell? p=some v:=fun hc x=>((hTC _ _ x.2).cell (World.block_lt_of_cell? wy _ hc)).trans hc
              replace d0:=pc d0;replace d1:=pc d1;replace d2:=pc d2;replace x0:=pc x0;replace x1:=pc x1;replace x2:=pc x2;clear hCC hTC pc;refine wp_region_flow CC [] [] (by kernel_rfl) (by kernel_rfl) hC0 ?_
              repeat (
                (with_reducible refine wq1_q ⟨rfl,rfl⟩ (fun K hK=>?_))
                go_simp
                first
                  |((with_reducible refine hK _ ?_);clear hK K)
                  |((with_reducible refine of_ite_neg (by simp[undef]) (hK _ ?_));clear hK K)
                  | (apply Exists.intro
                     (with_reducible refine⟨fun _=>?_,hK _ ?_⟩)
                     (fail)
                     clear hK K))
              refine wq1_nil ?_;refine wq2_nil ?_;intro wz hwz;have HBZwz:=hid ((HTC.out _ _ hwz));clear hwz hC0 HTC hne d0 d1 d2 x0 x1 x2 CC
              go_wp2_with fail
              go_roundw
              case rel=>exact⟨m+1,by go_num,by omega,by rw[HSU.out,HXX.out];have hq:=HKK.out;have hq2:=Ne.symm hq;simp[hq,hq2] <;> omega,HBM.out.trans ((HBZwy.out.trans (HBZwz.out.mono HBZwy.out.size)).mono HBM.out.size)⟩
              case measure=>simp[intOf];omega
            · skip
              go_upto_region 11 with fail
              obtain⟨CC,hCC⟩:∃CC:List Value→World→Prop,CC=fun us W=>Below wy.heap.size wy W:=⟨_,rfl⟩
              have hC0:CC [] wy.drew:=by rw[hCC];exact(Below.refl _ _).drew
              have hTC:∀us W,CC us W→Below wy.heap.size wy W:=by rw[hCC];exact fun us W h=>h
              have HTC:=hid hTC;have hne:Nonempty (Ph CC):=⟨⟨([],wy.drew),hC0⟩⟩
              have pc:∀{p:Addr} {v:Value},wy.cell? p=some v→∀x:Ph CC,x.1.2.cell? p=some v:=fun hc x=>((hTC _ _ x.2).cell (World.block_lt_of_cell? wy _ hc)).trans hc
              replace d0:=pc d0;replace d1:=pc d1;replace d2:=pc d2;replace x0:=pc x0;replace x1:=pc x1;replace x2:=pc x2;clear hCC hTC pc;refine wp_region_flow CC [] [] (by kernel_rfl) (by kernel_rfl) hC0 ?_
              repeat (
                (with_reducible refine wq1_q ⟨rfl,rfl⟩ (fun K hK=>?_))
                go_simp
                first
                  |((with_reducible refine hK _ ?_);clear hK K)
                  |((with_reducible refine of_ite_neg (by simp[undef]) (hK _ ?_));clear hK K)
                  | (apply Exists.intro
                     (with_reducible refine⟨fun _=>?_,hK _ ?_⟩)
                     (fail)
                     clear hK K))
              refine wq1_nil ?_;refine wq2_nil ?_;intro wz hwz;have HBZwz:=hid ((HTC.out _ _ hwz));clear hwz hC0 HTC hne d0 d1 d2 x0 x1 x2 CC
              go_wp2_with fail
              go_roundw
              case rel=>exact⟨m+1,by go_num,by omega,by rw[HSU.out,HXX.out];have hq:=HKK.out;have hq2:=Ne.symm hq;simp[hq,hq2] <;> omega,HBM.out.trans ((HBZwy.out.trans (HBZwz.out.mono HBZwy.out.size)).mono HBM.out.size)⟩
              case measure=>simp[intOf];omega
          · subst h1; subst h2
            have f:=beqF h;clear h
            go_upto_region 9 with fail
            obtain⟨CC,hCC⟩:∃CC:List Value→World→Prop,CC=fun us W=>Below wr.heap.size wr W:=⟨_,rfl⟩
            have hC0:CC [] wr.drew:=by rw[hCC];exact(Below.refl _ _).drew
            have hTC:∀us W,CC us W→Below wr.heap.size wr W:=by rw[hCC];exact fun us W h=>h
            have HTC:=hid hTC;have hne:Nonempty (Ph CC):=⟨⟨([],wr.drew),hC0⟩⟩
            have pc:∀{p:Addr} {v:Value},wr.cell? p=some v→∀x:Ph CC,x.1.2.cell? p=some v:=fun hc x=>((hTC _ _ x.2).cell (World.block_lt_of_cell? wr _ hc)).trans hc
            replace d0:=pc d0;replace d1:=pc d1;replace d2:=pc d2;replace x0:=pc x0;replace x1:=pc x1;replace x2:=pc x2;clear hCC hTC pc;refine wp_region_flow CC [] [] (by kernel_rfl) (by kernel_rfl) hC0 ?_
            repeat (
              (with_reducible refine wq1_q ⟨rfl,rfl⟩ (fun K hK=>?_))
              go_simp
              first
                |((with_reducible refine hK _ ?_);clear hK K)
                |((with_reducible refine of_ite_neg (by simp[undef]) (hK _ ?_));clear hK K)
                | (apply Exists.intro
                   (with_reducible refine⟨fun _=>?_,hK _ ?_⟩)
                   (fail)
                   clear hK K))
            refine wq1_nil ?_;refine wq2_nil ?_;intro wy hwz;have HBZwy:=hid ((HTC.out _ _ hwz));clear hwz hC0 HTC hne d0 d1 d2 x0 x1 x2 CC;obtain⟨d0,d1,d2⟩:=HEC.out wy (HBMW.out.trans (HBZwy.out.mono HBMW.out.size)) m (by omega);obtain⟨x0,x1,x2⟩:=(XE.out.below (HBM.out.trans (HBZwy.out.mono HBM.out.size)) XE.out.lt).three.1;rw[←HEX.out,HXX.out]at d0 d1 d2;cases ah
            · have g := beqF (Ne.symm HKK.out)
              go_upto_region 11 with fail
              obtain⟨CC,hCC⟩:∃CC:List Value→World→Prop,CC=fun us W=>Below wy.heap.size wy W:=⟨_,rfl⟩
              have hC0:CC [] wy.drew:=by rw[hCC];exact(Below.refl _ _).drew
              have hTC:∀us W,CC us W→Below wy.heap.size wy W:=by rw[hCC];exact fun us W h=>h
              have HTC:=hid hTC;have hne:Nonempty (Ph CC):=⟨⟨([],wy.drew),hC0⟩⟩
              have pc:∀{p:Addr} {v:Value},wy.cell? p=some v→∀x:Ph CC,x.1.2.cell? p=some v:=fun hc x=>((hTC _ _ x.2).cell (World.block_lt_of_cell? wy _ hc)).trans hc
              replace d0:=pc d0;replace d1:=pc d1;replace d2:=pc d2;replace x0:=pc x0;replace x1:=pc x1;replace x2:=pc x2;clear hCC hTC pc;refine wp_region_flow CC [] [] (by kernel_rfl) (by kernel_rfl) hC0 ?_
              repeat (
                (with_reducible refine wq1_q ⟨rfl,rfl⟩ (fun K hK=>?_))
                go_simp
                first
                  |((with_reducible refine hK _ ?_);clear hK K)
                  |((with_reducible refine of_ite_neg (by simp[undef]) (hK _ ?_));clear hK K)
                  | (apply Exists.intro
                     (with_reducible refine⟨fun _=>?_,hK _ ?_⟩)
                     (fail)
                     clear hK K))
              refine wq1_nil ?_;refine wq2_nil ?_;intro wz hwz;have HBZwz:=hid ((HTC.out _ _ hwz));clear hwz hC0 HTC hne d0 d1 d2 x0 x1 x2 CC
              go_wp2_with fail
              go_roundw
              case rel=>exact⟨m+1,by go_num,by omega,by rw[HSU.out,HXX.out];have hq:=HKK.out;have hq2:=Ne.symm hq;simp[hq,hq2] <;> omega,HBM.out.trans ((HBZwy.out.trans (HBZwz.out.mono HBZwy.out.size)).mono HBM.out.size)⟩
              case measure=>simp[intOf];omega
            · skip
              go_upto_region 11 with fail
              obtain⟨CC,hCC⟩:∃CC:List Value→World→Prop,CC=fun us W=>Below wy.heap.size wy W:=⟨_,rfl⟩
              have hC0:CC [] wy.drew:=by rw[hCC];exact(Below.refl _ _).drew
              have hTC:∀us W,CC us W→Below wy.heap.size wy W:=by rw[hCC];exact fun us W h=>h
              have HTC:=hid hTC;have hne:Nonempty (Ph CC):=⟨⟨([],wy.drew),hC0⟩⟩
              have pc:∀{p:Addr} {v:Value},wy.cell? p=some v→∀x:Ph CC,x.1.2.cell? p=some v:=fun hc x=>((hTC _ _ x.2).cell (World.block_lt_of_cell? wy _ hc)).trans hc
              replace d0:=pc d0;replace d1:=pc d1;replace d2:=pc d2;replace x0:=pc x0;replace x1:=pc x1;replace x2:=pc x2;clear hCC hTC pc;refine wp_region_flow CC [] [] (by kernel_rfl) (by kernel_rfl) hC0 ?_
              repeat (
                (with_reducible refine wq1_q ⟨rfl,rfl⟩ (fun K hK=>?_))
                go_simp
                first
                  |((with_reducible refine hK _ ?_);clear hK K)
                  |((with_reducible refine of_ite_neg (by simp[undef]) (hK _ ?_));clear hK K)
                  | (apply Exists.intro
                     (with_reducible refine⟨fun _=>?_,hK _ ?_⟩)
                     (fail)
                     clear hK K))
              refine wq1_nil ?_;refine wq2_nil ?_;intro wz hwz;have HBZwz:=hid ((HTC.out _ _ hwz));clear hwz hC0 HTC hne d0 d1 d2 x0 x1 x2 CC
              go_wp2_with fail
              go_roundw
              case rel=>exact⟨m+1,by go_num,by omega,by rw[HSU.out,HXX.out];have hq:=HKK.out;have hq2:=Ne.symm hq;simp[hq,hq2] <;> omega,HBM.out.trans ((HBZwy.out.trans (HBZwz.out.mono HBZwy.out.size)).mono HBM.out.size)⟩
              case measure=>simp[intOf];omega
        · obtain rfl : m = k := by omega
          have hmm:decide ((m:Int)<(m:Int))=false:=by simp
          have HEND:=hid (show ahB E ev m=true by rw[HEV.out];exact ahB_end HAH.out (by rw[←HN.out];exact hlt));rw[HEND.out]
          go_wp2_with fail
          go_roundw
          case rel=>exact⟨m+1,by go_num,by omega,HB4.out.trans (HBM.out.mono HB4.out.size)⟩
          case measure=>simp[intOf];omega
    · obtain rfl : k = n := by omega
      have hkk:decide ((k:Int)<(k:Int))=false:=by simp
      go_wp2_with fail
      go_ret
      exact⟨rfl,HBR.out⟩
theorem CyO.toR {w:World} {lo:Nat} {a b p s:Value} (h:CyO w lo a b p s z64 z6 z3 z4):∃V N C D,CyR w lo cy0 V N C D∧V 0=a∧V 1=b∧V 2=p∧V 3=s∧V 4=vnil:=by
 have nil:∀(e sz:Nat),OwnR w lo e sz vnil 0 []:=fun e sz=>⟨by simp,.inl ⟨rfl,rfl⟩⟩
 have an:∀v:Value,Apart v vnil:=fun v k _ h2=>by simp[vnil,Value.ownBlock]at h2
 have na:∀v:Value,Apart vnil v:=fun v k h2=>by simp[vnil,Value.ownBlock]at h2
 refine ⟨fun κ => if κ = 0 then a else if κ = 1 then b else if κ = 2 then p else if κ = 3 then s else vnil, fun κ => if κ = 0 then 64 else if κ = 1 then 6 else if κ = 2 then 3 else if κ = 3 then 4 else 0,
  fun κ=>if κ=0 then z64.flatMap rowI else if κ=1 then z6.flatMap rowI else if κ=2 then z3.flatMap rowP else if κ=3 then z4.flatMap rowS else[],fun _=>[],⟨⟨fun κ hκ=>?_,fun κ μ hκ hμ hne=>?_⟩,?_,rfl,fun κ hκ x hx=>by cases hx⟩,rfl,rfl,rfl,rfl,rfl⟩
 ·rcases κ with _|_|_|_|κ
  ·exact h.oa
  ·exact h.ob
  ·exact h.op
  ·exact h.os
  ·exact nil _ _
 ·rcases κ with _|_|_|_|κ <;> rcases μ with _|_|_|_|μ <;> first|exact absurd rfl hne|exact an _|exact na _|exact h.dab|exact h.dab.symm|exact h.dap|exact h.dap.symm|exact h.das|exact h.das.symm|exact h.dbp|exact h.dbp.symm|exact h.dbs|exact h.dbs.symm|exact h.dps|exact h.dps.symm
 ·have q:∀i:Nat,((5+i=0)=False∧(5+i=1)=False∧(5+i=2)=False∧(5+i=3)=False)∧((8+i=0)=False∧(8+i=1)=False∧(8+i=2)=False∧(8+i=3)=False)∧((11+i=0)=False∧(11+i=1)=False∧(11+i=2)=False∧(11+i=3)=False)∧((15+i=0)=False∧(15+i=1)=False∧(15+i=2)=False∧(15+i=3)=False):=fun i=>by
   refine⟨⟨?_,?_,?_,?_⟩,⟨?_,?_,?_,?_⟩,⟨?_,?_,?_,?_⟩,⟨?_,?_,?_,?_⟩⟩ <;> exact eq_false (by omega)
  refine⟨rfl,rfl,rfl,rfl,rfl,rfl,rfl,rfl,rfl,rfl,rfl,fun i hi=>?_,fun i hi=>?_,fun i hi=>?_,fun i hi=>?_,fun i hi=>?_,fun i hi=>?_,fun i hi=>?_,fun i hi=>?_,fun i hi=>rfl,rfl,rfl⟩ <;> simp[q i,cy0]
theorem i64_z64:∀x∈z64,I64 x:=by intro x hx;obtain⟨_,rfl⟩:=List.mem_replicate.1 hx;exact⟨by omega,by omega⟩
theorem i64_z6:∀x∈z6,I64 x:=by intro x hx;obtain⟨_,rfl⟩:=List.mem_replicate.1 hx;exact⟨by omega,by omega⟩
theorem small_zero:SmallC cy0:=⟨by simp[cy0],by simp[cy0],⟨by simp[cy0],by simp[cy0]⟩,fun i _=>by simp[cy0],fun i _=>by simp[cy0],fun s _=>by simp[cy0],fun s _=>⟨by simp[cy0],by simp[cy0]⟩⟩
theorem CyO.toV {w:World} {lo:Nat} {a b p s:Value} (h:CyO w lo a b p s z64 z6 z3 z4):∃P Q,CyV w w.heap.size a b p s vnil cy0 P Q:=by
 obtain⟨V,N,C,D,hr,rfl,rfl,rfl,rfl,e4⟩:=h.toR;rw[←e4];exact cyV_raw hr.raw hr.con (fun κ hκ x hx=>(hr.dat κ hκ x hx).to fun b hb=>hb.2.1) small_zero i64_z64 i64_z6
theorem CopP.sl {st:Cy} {w:World} {e:Ending} {w':World} (h:CopP st w e w'):∃V N C D b0 b1 b2 b3 b4 n0 n1 n2 n3 n4 k0 k1 k2 k3 k4,(V 0=.slice b0 n0 k0∧V 1=.slice b1 n1 k1∧V 2=.slice b2 n2 k2∧V 3=.slice b3 n3 k3∧V 4=.slice b4 n4 k4)∧e=.returned (.agg #[.slice b0 n0 k0,.slice b1 n1 k1,.slice b2 n2 k2,.slice b3 n3 k3,.slice b4 n4 k4])∧CyR w' w.heap.size st V N C D∧Below w.heap.size w w':=by
 obtain⟨V,N,C,D,rfl,hr,hbl⟩:=h;obtain⟨A,n,K,e0,e1,e2,e3,e4⟩:=hr.raw.sl;exact⟨V,N,C,D,_,_,_,_,_,_,_,_,_,_,_,_,_,_,_,⟨e0,e1,e2,e3,e4⟩,by rw[e0,e1,e2,e3,e4],hr,hbl⟩
theorem CopP.out {st : Cy} {w wa : World} {V : Nat → Value} {N : Nat → Nat} {C : Nat → List Value} {D : Nat → List TJV} {b0 b1 b2 b3 b4 : Option Addr} {n0 n1 n2 n3 n4 k0 k1 k2 k3 k4 base : Nat} (hE : V 0 = .slice b0 n0 k0 ∧ V 1 = .slice b1 n1 k1 ∧ V 2 = .slice b2 n2 k2 ∧ V 3 = .slice b3 n3 k3 ∧ V 4 = .slice b4 n4 k4) (hr : CyR wa base st V N C D) (hw : Below w.heap.size w wa) (g : Nat) (hg : g < base) (hg2 : w.heap.size ≤ g) :
  CopP st w (.returned (.agg #[.slice b0 n0 k0,.slice b1 n1 k1,.slice b2 n2 k2,.slice b3 n3 k3,.slice b4 n4 k4])) (((((wa.setCell ⟨g,0,none⟩ (.slice b0 n0 k0)).setCell ⟨g,1,none⟩ (.slice b1 n1 k1)).setCell ⟨g,2,none⟩ (.slice b2 n2 k2)).setCell ⟨g,3,none⟩ (.slice b3 n3 k3)).setCell ⟨g,4,none⟩ (.slice b4 n4 k4)):=by
 obtain⟨e0,e1,e2,e3,e4⟩:=hE;refine⟨V,N,C,D,by rw[e0,e1,e2,e3,e4],(hr.kept (fun b h1 h2=>(touchC g _ _ _ _ _ _).block b h2 (by omega)) (touchC g _ _ _ _ _ _).size).rebase (by omega),?_⟩;exact((((hw.setCell (p:=⟨g,_,none⟩) hg2 _).setCell (p:=⟨g,_,none⟩) hg2 _).setCell (p:=⟨g,_,none⟩) hg2 _).setCell (p:=⟨g,_,none⟩) hg2 _).setCell (p:=⟨g,_,none⟩) hg2 _
set_option maxRecDepth 8000 in
set_option maxHeartbeats 8000000 in
theorem cycNew_any (w:World):Calls Tryz.prog 23 #[] w (CopP cy0 w):=by
 go_enter Tryz.func23,Tryz.ntmps23
 go_wp2_with fail
 refine(implAtmNewW_any _).mono ?_;rintro e w1 ⟨wa,wc,g,ga,go,gc,rfl,o1,o2,_,_,hap,hb⟩;have HR:=hid ((Bx.new w #[vnil,vnil,vnil,vnil,vnil] 46 (by simp)).below hb (by simp));have HB1:=hid ((bx1 w _).trans (hb.mono (by simp)));have O1:=hid o1;have O2:=hid o2;have AP:=hid hap;clear o1 o2 hap hb;obtain⟨⟨r0,r1,r2,r3,r4⟩,f0,f1,f2,f3,f4⟩:=HR.out.five;have hz1:=HR.out.lt
 go_wp2_with fail
 clear r0 r1 r2 r3 r4 f0 f1 f2 f3 f4;obtain⟨W2,hW2⟩:∃W2,W2=w1.alloc (.cells #[.slice (some ⟨g,wa,none⟩) 64 wc,.slice (some ⟨ga,go,none⟩) 6 gc,.slice none 0 0,.slice none 0 0,.slice none 0 0] 46):=⟨_,rfl⟩
 rw[←hW2];have hb2:Below w1.heap.size w1 W2:=by rw[hW2];exact bx1 _ _
 have hz2:W2.heap.size=w1.heap.size+1:=by rw[hW2];simp
 have HS:=hid (show Bx W2 w1.heap.size [.slice (some ⟨g,wa,none⟩) 64 wc,.slice (some ⟨ga,go,none⟩) 6 gc,vnil,vnil,vnil] by rw[hW2];exact Bx.new w1 #[.slice (some ⟨g,wa,none⟩) 64 wc,.slice (some ⟨ga,go,none⟩) 6 gc,vnil,vnil,vnil] _ (by simp));have HR2:=hid (HR.out.below hb2 hz1);have HB2:=hid hb2;have HZ2:=hid hz2;clear hW2 hb2 HR hz2
 go_loopw [4] (fun i wr=>∃(k:Nat) (u:Value),i=.int .i64 k∧k≤3∧Owns wr (w1.heap.size+1) 52 4 rowP u (List.replicate k ((0,3):Int×Int))∧Below w1.heap.size W2 wr∧Bx wr w.heap.size [vnil,vnil,vnil,vnil,vnil]∧Bx wr w1.heap.size [.slice (some ⟨g,wa,none⟩) 64 wc,.slice (some ⟨ga,go,none⟩) 6 gc,u,vnil,vnil]∧w1.heap.size+1≤wr.heap.size) (fun i _=>3 - (intOf i).toNat)
 case atStart=>exact⟨0,_,rfl,by omega,Owns.zero,Below.refl _ _,HR2.out,HS.out,by have:=HZ2.out;omega⟩
 case round=>
  clear HS HR2;obtain⟨k,u,rfl,hk3,hown,hbl,hr,hs,hsz⟩:=hrel;have HOW:=hid hown;have HBL:=hid hbl;have HR:=hid hr;have HS:=hid hs;have HSZ:=hid hsz;clear hown hbl hr hs hsz;have hrep:=hid (show List.replicate k ((0,3):Int×Int)++[(0,3)]=List.replicate (k+1) (0,3) from by rw[List.replicate_succ']);have hlr:=hid (show(List.replicate k ((0,3):Int×Int)).length=k from by simp);obtain⟨⟨s0,s1,s2,s3,s4⟩,e0,e1,e2,e3,e4⟩:=HS.out.five;have hsl:=HS.out.lt;by_cases hlt:k<3
  ·go_wp2_with (at_builtin;go_must (refine wpList_push elem_portY rowP rowP_len rowP_one wr rfl _ _ rfl (w1.heap.size+1) _ _ (0,3) (by rfl) HOW.out _ (by rfl) (by rfl) (by rw[hlr.out];omega) (by rw[hlr.out];omega) HSZ.out ?_);intro v' w3 hown1 hb1;rw[hrep.out]at hown1;obtain⟨va,vc,hv', hvc1,hvc2⟩:=hown1.shape;rw[List.length_replicate]at hv';subst hv';have HS3:=hid (HS.out.below hb1 (by omega));have HR3:=hid (HR.out.below hb1 (by omega));obtain⟨⟨s0,s1,s2,s3,s4⟩,e0,e1,e2,e3,e4⟩:=HS3.out.five;have hsl3:=HS3.out.lt;have HO1:=hid hown1;have HB1':=hid hb1;clear hown1 hb1)
   go_roundw
   case rel=>exact⟨k+1,_,by go_num,by omega,HO1.out.set' _ _ _ (fun j hj=>by have:=(OwnR.lt HO1.out j hj).1;omega),(HBL.out.trans (HB1'.out.mono (by omega))).setCell (by exact Nat.le_refl _) _,HR3.out.kept (Below.heap_setCell _ _ _ _ (by show w.heap.size≠w1.heap.size;omega)),HS3.out.set 2 (by simp) _,by have:=HB1'.out.size;have:=HSZ.out;simp[World.setCell];omega⟩
   case measure=>simp[intOf];omega
  ·obtain rfl:k=3:=by omega
   go_wp2_with fail
   obtain⟨wo,hwo⟩:∃W,W=wr:=⟨_,rfl⟩
   subst hwo;have hz3:w1.heap.size<wo.heap.size:=hsl;clear s0 s1 s2 s3 s4 e0 e1 e2 e3 e4;have hc3:((3:Nat):Int)=3:=rfl;simp only[hc3];clear hc3
   go_loopw [13] (fun i wx=>∃(k:Nat) (v:Value),i=.int .i64 k∧k≤4∧Owns wx wo.heap.size 50 3 rowS v (List.replicate k (2:Int))∧Owns wx (w1.heap.size+1) 52 4 rowP u (List.replicate 3 ((0,3):Int×Int))∧Below w1.heap.size W2 wx∧Bx wx w.heap.size [vnil,vnil,vnil,vnil,vnil]∧Bx wx w1.heap.size [.slice (some ⟨g,wa,none⟩) 64 wc,.slice (some ⟨ga,go,none⟩) 6 gc,u,v,vnil]∧wo.heap.size≤wx.heap.size) (fun i _=>4 - (intOf i).toNat)
   case atStart=>exact⟨0,_,rfl,by omega,Owns.zero,HOW.out,HBL.out,HR.out,HS.out,Nat.le_refl _⟩
   case round=>
    have hul:=hid (fun j hj=>(OwnR.lt HOW.out j hj).2);clear HBL HR HS;obtain⟨k,v,rfl,hk4,hown,hop,hbl,hr,hs,hsz⟩:=hrel;have HOS:=hid hown;have HOP:=hid hop;have HBL:=hid hbl;have HR:=hid hr;have HS:=hid hs;have HSZ2:=hid hsz;clear hown hop hbl hr hs hsz;have hrep:=hid (show List.replicate k (2:Int)++[2]=List.replicate (k+1) 2 from by rw[List.replicate_succ']);have hlr:=hid (show(List.replicate k (2:Int)).length=k from by simp);obtain⟨⟨s0,s1,s2,s3,s4⟩,e0,e1,e2,e3,e4⟩:=HS.out.five;have hsl:=HS.out.lt;by_cases hlt4:k<4
    ·have hle3:(k:Int)≤3:=by omega
     go_wp2_with (at_builtin;go_must (refine wpList_push elem_slaveY rowS rowS_len rowS_one _ rfl _ _ rfl wo.heap.size _ _ 2 (by rfl) HOS.out _ (by rfl) (by rfl) (by rw[hlr.out];omega) (by rw[hlr.out];omega) HSZ2.out ?_);intro v' w3 hown1 hb1;rw[hrep.out]at hown1;obtain⟨va,vc,hv', hvc1,hvc2⟩:=hown1.shape;rw[List.length_replicate]at hv';subst hv';have HS3:=hid (HS.out.below hb1 (by omega));have HR3:=hid (HR.out.below hb1 (by omega));have HOP3:=hid (OwnR.below HOP.out hb1 (fun j hj=>hul.out j hj));obtain⟨⟨s0,s1,s2,s3,s4⟩,e0,e1,e2,e3,e4⟩:=HS3.out.five;have hsl3:=HS3.out.lt;have HO1:=hid hown1;have HB1':=hid hb1;clear hown1 hb1)
     go_roundw
     case rel=>exact⟨k+1,_,by go_num,by omega,HO1.out.set' _ _ _ (fun j hj=>by have:=(OwnR.lt HO1.out j hj).1;omega),Owns.set' HOP3.out _ _ _ (fun j hj=>by have:=(OwnR.lt HOP3.out j hj).1;omega),(HBL.out.trans (HB1'.out.mono (by omega))).setCell (by exact Nat.le_refl _) _,HR3.out.kept (Below.heap_setCell _ _ _ _ (by show w.heap.size≠w1.heap.size;omega)),HS3.out.set 3 (by simp) _,by have:=HB1'.out.size;have:=HSZ2.out;simp[World.setCell];omega⟩
     case measure=>simp[intOf];omega
    ·obtain rfl:k=4:=by omega
     obtain⟨pa,pc,rfl,_,_⟩:=HOP.out.shape;obtain⟨sa,sc,rfl,_,_⟩:=HOS.out.shape;simp only[List.length_replicate]at *;have O1W:=hid (OwnR.below (O1.out.below HB2.out) HBL.out (fun j hj=>(OwnR.lt O1.out j hj).2));have O2W:=hid (OwnR.below (O2.out.below HB2.out) HBL.out (fun j hj=>(OwnR.lt O2.out j hj).2));have hg1:∀j,(Value.slice (some ⟨g,wa,none⟩) 64 wc).ownBlock=some j→w.heap.size+1≤j∧j<w1.heap.size:=fun j hj=>by have:=OwnR.lt O1.out j hj;simpa using this
     have hg2:∀j,(Value.slice (some ⟨ga,go,none⟩) 6 gc).ownBlock=some j→w.heap.size+1≤j∧j<w1.heap.size:=fun j hj=>by have:=OwnR.lt O2.out j hj;simpa using this
     have hg3:∀j,(Value.slice pa 3 pc).ownBlock=some j→w1.heap.size+1≤j∧j<wo.heap.size:=fun j hj=>⟨(OwnR.lt HOP.out j hj).1,hul.out j hj⟩
     have hg4:∀j,(Value.slice sa 4 sc).ownBlock=some j→wo.heap.size≤j:=fun j hj=>(OwnR.lt HOS.out j hj).1
     have HCY := hid (show CyO _ w.heap.size (.slice (some ⟨g, wa, none⟩) 64 wc) (.slice (some ⟨ga, go, none⟩) 6 gc) (.slice pa 3 pc) (.slice sa 4 sc) z64 z6 z3 z4 from
      ⟨OwnR.rebase O1W.out (show w.heap.size ≤ _ by simp), OwnR.rebase O2W.out (show w.heap.size ≤ _ by simp), OwnR.rebase HOP.out (show w.heap.size ≤ w1.heap.size + 1 by omega), OwnR.rebase HOS.out (show w.heap.size ≤ wo.heap.size by omega),
       AP.out,Apart.of_lt (m:=w1.heap.size) (fun j hj=>(hg1 j hj).2) (fun j hj=>by have:=hg3 j hj;omega),Apart.of_lt (m:=w1.heap.size) (fun j hj=>(hg1 j hj).2) (fun j hj=>by have:=hg4 j hj;omega),
       Apart.of_lt (m:=w1.heap.size) (fun j hj=>(hg2 j hj).2) (fun j hj=>by have:=hg3 j hj;omega),Apart.of_lt (m:=w1.heap.size) (fun j hj=>(hg2 j hj).2) (fun j hj=>by have:=hg4 j hj;omega),Apart.of_lt (m:=wo.heap.size) (fun j hj=>(hg3 j hj).2) (fun j hj=>hg4 j hj)⟩)
     clear hg1 hg2 hg3 hg4;obtain⟨⟨s0,s1,s2,s3,s4⟩,_⟩:=HS.out.five
     go_wp2_with fail
     clear s0 s1 s2 s3 s4;obtain⟨PP,QQ,hvv⟩:=HCY.out.toV;refine(cycCopyV_any hvv (Nat.le_refl _) small_zero).mono ?_;rintro e w5 hcop;obtain⟨V,N,C,D,y0,y1,y2,y3,y4,m0,m1,m2,m3,m4,j0,j1,j2,j3,j4,hE,rfl,hC,hb5⟩:=hcop.sl;have HC5:=hid hC;have HB5:=hid hb5;have HE:=hid hE;clear hC hb5 hcop hE hvv;have HR5:=hid (HR.out.below HB5.out HR.out.lt);obtain⟨⟨r0,r1,r2,r3,r4⟩,f0,f1,f2,f3,f4⟩:=HR5.out.five;have hrl:=HR.out.lt;have hr5:=HR5.out.lt;have hbE:Below w.heap.size w w5:=((HB1.out.trans (HB2.out.mono (by omega))).trans (HBL.out.mono (by omega))).trans (HB5.out.mono (by omega));have HBE:=hid hbE;clear hbE
     go_wp2_with fail
     refine bodyPost_ret (results_c1 Tryz.results23 _ _ ⟨w.heap.size,0,none⟩ (.agg #[.slice y0 m0 j0,.slice y1 m1 j1,.slice y2 m2 j2,.slice y3 m3 j3,.slice y4 m4 j4]) rfl (loadVar_cyc _ _ _ _ _ _ _ (by simp[go_sem, *]) (by simp[go_sem, *]) (by simp[go_sem, *]) (by simp[go_sem, *]) (by simp[go_sem, *]))) rfl ?_;exact CopP.out HE.out HC5.out HBE.out w.heap.size (by omega) (Nat.le_refl _)
end Go.Proofs.YthnlalffjepdaaaGreat
