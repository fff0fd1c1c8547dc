/- An append at a step of a region, of rows of any kind, and what it leaves alone. -/
import Derived.Test.YthnlalffjepdaaaGreatGNw
import Derived.Test.YthnlalffjepdaaaGreatGCs
import Derived.Test.YthnlalffjepdaaaGreatGDo4
import Derived.Test.YthnlalffjepdaaaGreatGCp1
import Derived.Test.YthnlalffjepdaaaGreatGQ12
import Derived.Test.YthnlalffjepdaaaGreatGBv
import Derived.Test.YthnlalffjepdaaaGreatGEj
import Derived.Test.YthnlalffjepdaaaGreatGSo2
import Derived.Test.YthnlalffjepdaaaGreatGLt
import Derived.Test.YthnlalffjepdaaaGreatGLib
import Derived.Test.YthnlalffjepdaaaGreatGQ5
import Derived.Test.YthnlalffjepdaaaGreatGDr2
import Derived.Deep.RegionWith
import Derived.StillTail
import Derived.StillTailTactics
import Derived.Deep.Cut
import Derived.Deep.CutRange
set_option linter.unusedVariables false
set_option linter.unusedSimpArgs false
set_option maxHeartbeats 16000000
namespace Go.Proofs.YthnlalffjepdaaaGreat
open Go.RowKit
theorem bA {w w':World} {o:Obj} (h:Below w.heap.size w w'):Below w.heap.size w (w'.alloc o):=h.alloc h.size o
theorem bD {w w':World} (h:Below w.heap.size w w'):Below w.heap.size w w'.drew:=h.drew
theorem bR {w W W1:World} {g N n:Nat} {xs:List Value} (r:RepI W g N xs n W1) (h:Below w.heap.size w W):Below w.heap.size w W1:=h.trans (r.bel.mono h.size)
theorem mk4b (w:World):(Instr.makeSlice 62 (.int .i64 4) (.int .i64 4)).run Tryz.prog w=.ok (.slice (some ⟨w.heap.size,0,none⟩) 4 4) (w.alloc (.cells #[.bool false,.bool false,.bool false,.bool false] 4)):=by kernel_rfl
theorem bools_of {F:World} {g n:Nat} {v:Bool} (hg:g<F.heap.size) (hn:n≤4) (h:∀i,i<n→F.cell? ⟨g,i,none⟩=some (.bool v)):Bools F F.heap.size (.slice (some ⟨g,0,none⟩) n n) (List.replicate n v):=by
 refine⟨some ⟨g,0,none⟩,n,by simp,by simp,by omega,by simp only[List.length_map,List.length_replicate];omega,(fun h=>nomatch h),fun hn=>⟨g,0,rfl,hg,fun t ht j hj=>?_⟩⟩;have hj0:j=0:=by omega
 subst hj0;rw[List.length_map,List.length_replicate]at ht;rw[Nat.zero_add,Nat.mul_one,Nat.add_zero,h t ht];simp[List.getD,ht,rowB]
def InAllR (w:World) (e:Ending) (w':World):Prop:=∃ra ta sa,e=.returned (.agg #[.slice ra 3 3,.slice ta 4 4,.slice sa 3 3])∧InV w' w'.heap.size (.agg #[.slice ra 3 3,.slice ta 4 4,.slice sa 3 3]) inAll∧Below w.heap.size w w'
theorem inAll_done {w F W1 W3 W1' W3' : World} {g1 g2 g3 : Nat} (hb : Below w.heap.size w F) (h1 : RepI W1' g1 3 [.bool true] 3 W1) (l1 : g1 < W1.heap.size) (q1 : w.heap.size < g1) (b1 : Below W1.heap.size W1 F) (h3 : RepI W3' g3 3 [.bool true] 3 W3) (l3 : g3 < W3.heap.size) (q3 : w.heap.size < g3) (b3 : Below W3.heap.size W3 F)
  (q2:w.heap.size<g2) (l2:g2<F.heap.size) (r2:∀i,i<4→F.cell? ⟨g2,i,none⟩=some (.bool false)) (x y z:Value) :
  InAllR w (.returned (.agg #[.slice (some ⟨g1,0,none⟩) 3 3,.slice (some ⟨g2,0,none⟩) 4 4,.slice (some ⟨g3,0,none⟩) 3 3])) (((F.setCell ⟨w.heap.size,0,none⟩ x).setCell ⟨w.heap.size,1,none⟩ y).setCell ⟨w.heap.size,2,none⟩ z):=by
 have hk:∀(g i:Nat),w.heap.size<g→(((F.setCell ⟨w.heap.size,0,none⟩ x).setCell ⟨w.heap.size,1,none⟩ y).setCell ⟨w.heap.size,2,none⟩ z).cell? ⟨g,i,none⟩=F.cell? ⟨g,i,none⟩:=fun g i hg=>by
  have:¬g=w.heap.size:=by omega
  have:¬w.heap.size=g:=by omega
  rw[World.cell?_setCell_other,World.cell?_setCell_other,World.cell?_setCell_other]
  all_goals (intro e;injection e;omega)
 have hz:(((F.setCell ⟨w.heap.size,0,none⟩ x).setCell ⟨w.heap.size,1,none⟩ y).setCell ⟨w.heap.size,2,none⟩ z).heap.size=F.heap.size:=by simp
 have r1:∀i,i<3→F.cell? ⟨g1,i,none⟩=some (.bool true):=fun i hi=>by
  rw[b1.cell (p:=⟨g1,i,none⟩) l1];have:=h1.rws i hi 0 (by simp);simpa using this
 have r3:∀i,i<3→F.cell? ⟨g3,i,none⟩=some (.bool true):=fun i hi=>by
  rw[b3.cell (p:=⟨g3,i,none⟩) l3];have:=h3.rws i hi 0 (by simp);simpa using this
 refine⟨_,_,_,rfl,⟨⟨some ⟨g1,0,none⟩,3,some ⟨g2,0,none⟩,4,some ⟨g3,0,none⟩,3,rfl,?_,?_,?_⟩,rfl,rfl,rfl⟩,?_⟩
 ·exact bools_of (n:=3) (v:=true) (by rw[hz];exact Nat.lt_of_lt_of_le l1 b1.size) (by omega) fun i hi=>by rw[hk _ _ q1];exact r1 i hi
 ·exact bools_of (n:=4) (v:=false) (by rw[hz];exact l2) (by omega) fun i hi=>by rw[hk _ _ q2];exact r2 i hi
 ·exact bools_of (n:=3) (v:=true) (by rw[hz];exact Nat.lt_of_lt_of_le l3 b3.size) (by omega) fun i hi=>by rw[hk _ _ q3];exact r3 i hi
 ·exact((hb.setCell (p:=⟨w.heap.size,_,none⟩) (Nat.le_refl _) _).setCell (p:=⟨w.heap.size,_,none⟩) (Nat.le_refl _) _).setCell (p:=⟨w.heap.size,_,none⟩) (Nat.le_refl _) _
theorem three_alloc {w:World} {gb:Nat} {x y z:Value} {o:Obj} (h:gb<w.heap.size):(((w.setCell ⟨gb,0,none⟩ x).setCell ⟨gb,1,none⟩ y).setCell ⟨gb,2,none⟩ z).alloc o=(((w.alloc o).setCell ⟨gb,0,none⟩ x).setCell ⟨gb,1,none⟩ y).setCell ⟨gb,2,none⟩ z:=by
 simp[World.setCell_alloc_past,h]
theorem inAll_ret {Q : Ending → World → Prop} {F : World} {gb : Nat} (hX : Bx F gb [vnil, vnil, vnil]) (x y z : Value) {tmps : Array Value} (ha : tmps.getD 0 undef = .pointer (some ⟨gb, 0, none⟩)) (hp : Q (.returned (.agg #[x, y, z])) (((F.setCell ⟨gb, 0, none⟩ x).setCell ⟨gb, 1, none⟩ y).setCell ⟨gb, 2, none⟩ z)) :
  bodyPost Tryz.prog Tryz.f39 Q Exit.ret ⟨tmps,[]⟩ (((F.setCell ⟨gb,0,none⟩ x).setCell ⟨gb,1,none⟩ y).setCell ⟨gb,2,none⟩ z):=by
 have h3:Bx (((F.setCell ⟨gb,0,none⟩ x).setCell ⟨gb,1,none⟩ y).setCell ⟨gb,2,none⟩ z) gb [x,y,z]:=by
  have:=((hX.set 0 (by simp) x).set 1 (by simp) y).set 2 (by simp) z;simpa using this
 obtain⟨⟨q0,q1,q2⟩,_⟩:=h3.three;exact bodyPost_ret (zA4 Tryz.results39 _ _ ⟨gb,0,none⟩ (.agg #[x,y,z]) ha (loadVar_in _ _ _ _ _ q0 q1 q2)) rfl hp
theorem repeatB3 (b : Nat) (v : Bool) (w : World) (hb : b < w.heap.size) (hc0 : w.cell? ⟨b, 0, none⟩ = some (.bool v)) :
  Calls Tryz.prog 86 #[.slice (some ⟨b,0,none⟩) 1 1,.int .i64 3] w fun e w' => ∃g,e=.returned (.slice (some ⟨g,0,none⟩) 3 3)∧RepI w g 3 [.bool v] 3 w' ∧ w.heap.size≤g∧g<w'.heap.size:=repeatB_any 3 (by omega) b v w hb hc0
theorem litK {W w1 cur:World} {g N n b:Nat} {xs:List Value} {v:Option Value} (_:RepI W g N xs n w1) (h:Below W.heap.size W cur) (hlt:b<W.heap.size) {o:Nat} (hc:W.cell? ⟨b,o,none⟩=v):cur.cell? ⟨b,o,none⟩=v:=(h.cell (p:=⟨b,o,none⟩) hlt).trans hc
attribute [local go_sem] mk4b
theorem implInAll_any (w:World):Calls Tryz.prog 39 #[] w (InAllR w):=by
  go_enter Tryz.func39,Tryz.ntmps39
  go_upto_region 1 with fail
  obtain⟨w0,hw0⟩:∃W,W=w.alloc (.cells #[.slice none 0 0,.slice none 0 0,.slice none 0 0] 64):=⟨_,rfl⟩
  obtain⟨gb,hgb⟩:∃g,g=w.heap.size:=⟨_,rfl⟩
  have X0:=hid (show Bx w0 gb [vnil,vnil,vnil] by rw[hw0,hgb];exact Bx.new w #[vnil,vnil,vnil] 64 (by simp));have HB0:=hid (show Below w.heap.size w w0 by rw[hw0];exact(Below.refl _ _).alloc (Nat.le_refl _) _);have hz0:w0.heap.size=gb+1:=by rw[hw0,hgb];simp
  rw[←hw0,←hgb];have HGB:=hid hgb;clear hw0 hgb;obtain⟨⟨q0,q1,q2⟩,z0,z1,z2⟩:=X0.out.three;have hl:=X0.out.lt;have HZ0:=hid hz0;clear hz0
  go_region_with (first
    |(go_at_call 86;have _hh:=HRa.out;clear _hh;(with_reducible refine(repeatB3 _ true _ (by first|(simp[go_sem];done)|(have hs:=HRa.out.bel.size;simp[go_sem]at hs ⊢;omega)) (by first|(simp[go_sem];done)|(refine litK HRa.out ?_ ?_ ?_;(repeat(first|exact HRa.out.bel|refine bA ?_|refine bD ?_));all_goals (simp[go_sem])))).mono ?_);rintro e w1b ⟨g1b,rfl,hr1,hg1,hl1⟩;have hbv:Below w0.heap.size w0 w1b:=bR hr1 (by repeat(first|exact HBa.out|refine bA ?_|refine bD ?_));have HBb:=hid hbv;clear hbv q0 q1 q2 z0 z1 z2 hl;obtain⟨⟨q0,q1,q2⟩,z0,z1,z2⟩:=(X0.out.below HBb.out X0.out.lt).three;have hl:=(X0.out.below HBb.out X0.out.lt).lt;have HRb:=hid hr1;have HGb:=hid hg1;have HLb:=hid hl1;clear hr1 hg1 hl1)
    |(go_at_call 86;(with_reducible refine(repeatB3 _ true _ (by simp[go_sem]) (by simp[go_sem])).mono ?_);rintro e w1a ⟨g1a,rfl,hr1,hg1,hl1⟩;have hbv:Below w0.heap.size w0 w1a:=bR hr1 (by repeat(first|exact Below.refl _ _|refine bA ?_|refine bD ?_));have HBa:=hid hbv;clear hbv q0 q1 q2 z0 z1 z2 hl;obtain⟨⟨q0,q1,q2⟩,z0,z1,z2⟩:=(X0.out.below HBa.out X0.out.lt).three;have hl:=(X0.out.below HBa.out X0.out.lt).lt;have HRa:=hid hr1;have HGa:=hid hg1;have HLa:=hid hl1;clear hr1 hg1 hl1))
  all_goals
    go_wp2_with fail
    have sa:=HBa.out.size;have sb:=HBb.out.size;have ta:=HRa.out.bel.size;have tb:=HRb.out.bel.size;have ga:=HGa.out;have gc:=HGb.out;simp at ta tb ga gc
    try rw[three_alloc hl]
    refine inAll_ret ?_ _ _ _ ?_ ?_
    · refine X0.out.below (show Below w0.heap.size w0 _ from ?_) X0.out.lt
      repeat(first|exact HBb.out|refine bA ?_|refine bD ?_)
    · rfl
    rw[HGB.out];have hz0:=HZ0.out;have hgb:=HGB.out;refine inAll_done (HB0.out.trans ((show Below w0.heap.size w0 _ from ?_).mono HB0.out.size)) HRa.out HLa.out (by have:=HGB.out;omega) ?_ HRb.out HLb.out (by have:=HGB.out;omega) ?_ (by have:=HGB.out;omega) ?_ (fun i hi=>?_) _ _ _
    · repeat(first|exact HBb.out|refine bA ?_|refine bD ?_)
    · repeat(first|exact Below.refl _ _|refine bA ?_|refine bD ?_|refine bR HRb.out ?_)
    · repeat(first|exact Below.refl _ _|refine bA ?_|refine bD ?_)
    · first
        |omega
        |(simp;done)
        |(simp;omega)
    · clear hz0 hgb
      obtain rfl|rfl|rfl|rfl:i=0∨i=1∨i=2∨i=3:=by omega
      all_goals first
        |(simp[go_sem];done)
        | (refine litK HRb.out ?_ ?_ ?_
           · repeat(first|exact HRb.out.bel|refine bA ?_|refine bD ?_)
           · have hz0 := HZ0.out
             have hgb:=HGB.out
             first
               |omega
               |(simp;done)
               |(simp;omega)
           · first
               |(simp[go_sem];done)
               | (refine litK HRa.out ?_ ?_ ?_
                  · repeat(first|exact HRa.out.bel|refine bA ?_|refine bD ?_)
                  · have hz0 := HZ0.out
                    have hgb:=HGB.out
                    first
                      |omega
                      |(simp;done)
                      |(simp;omega)
                  · simp[go_sem]))
end Go.Proofs.YthnlalffjepdaaaGreat
namespace Go.Proofs.YthnlalffjepdaaaGreat
open Go.RowKit
def PlayP (w:World) (e:Ending) (w':World):Prop:=∃u v c ins,e=.returned (.tuple #[u,v])∧Bus c∧BusV w' w'.heap.size u c∧Ins w' w'.heap.size v ins∧ins.length≤89∧Below w.heap.size w w'
def DrawPl:Prop:=∀(v:Value) (bs:List Nat) (B:Nat) (w:World),Bytes w B v bs→B≤w.heap.size→Calls Tryz.prog 15 #[v] w (PlayP w)
def CyBox (w:World) (gs:Nat) (st:Cy):Prop:=∃(V:Nat→Value) (N:Nat→Nat) (C:Nat→List Value) (D:Nat→List TJV),Bx w gs [V 0,V 1,V 2,V 3,V 4]∧Raw w 0 V N C∧Cont st [] V N C D∧Free V gs∧∀κ,κ<20→∀x∈D κ,IntsD w (fun b=>b<w.heap.size∧b≠gs) x.2 x.1.rsp.data
theorem CyBox.below {w w':World} {gs:Nat} {st:Cy} (h:CyBox w gs st) (hb:Below w.heap.size w w'):CyBox w' gs st:=by
 obtain⟨V,N,C,D,h1,h2,h3,h4,h5⟩:=h;exact⟨V,N,C,D,h1.below hb h1.lt,h2.below hb,h3,h4,fun κ hκ x hx=>((h5 κ hκ x hx).kept fun b hb2=>hb.block b hb2.1).weak fun b hb2=>⟨Nat.lt_of_lt_of_le hb2.1 hb.size,hb2.2⟩⟩
theorem CyBox.lt {w:World} {gs:Nat} {st:Cy} (h:CyBox w gs st):gs<w.heap.size:=by obtain⟨V,N,C,D,h1,_⟩:=h;exact h1.lt
theorem raw_zero {w:World} {base:Nat} {V:Nat→Value} {N:Nat→Nat} {C:Nat→List Value} (h:Raw w base V N C):Raw w 0 V N C:=⟨fun κ hκ=>OwnR.rebase (h.own κ hκ) (Nat.zero_le _),h.ap⟩
theorem CyBox.new {w w':World} {base gs:Nat} {st:Cy} {V:Nat→Value} {N:Nat→Nat} {C:Nat→List Value} {D:Nat→List TJV} (h:CyR w base st V N C D) (hb:Below w.heap.size w w') (hg:w.heap.size≤gs) (hx:Bx w' gs [V 0,V 1,V 2,V 3,V 4]):CyBox w' gs st :=
 ⟨V,N,C,D,hx,raw_zero (h.raw.below hb),h.con,fun κ hκ e=>by have:=(h.raw.lt hκ e).2;omega,fun κ hκ x hx2=>((h.dat κ hκ x hx2).kept fun b hb2=>hb.block b hb2.2.1).weak fun b hb2=>⟨Nat.lt_of_lt_of_le hb2.2.1 hb.size,by have:=hb2.2.1;omega⟩⟩
theorem CyBox.set {w w':World} {base gs:Nat} {st:Cy} {V:Nat→Value} {N:Nat→Nat} {C:Nat→List Value} {D:Nat→List TJV} (h:CyR w base st V N C D) (hk:∀b,b≠gs→w'.heap[b]? = w.heap[b]?) (hz:w'.heap.size=w.heap.size) (hg:gs<base) (hx:Bx w' gs [V 0,V 1,V 2,V 3,V 4]):CyBox w' gs st:=by
 have hf:Free V gs:=fun κ hκ e=>by have:=(h.raw.lt hκ e).1;omega
 exact⟨V,N,C,D,hx,raw_zero (h.raw.kept fun b _ hb=>hk b fun e=>hb (e▸hf)),h.con,hf,fun κ hκ x hx2=>((h.dat κ hκ x hx2).kept fun b hb2=>hk b (by have:=hb2.1;omega)).weak fun b hb2=>⟨by rw[hz];exact hb2.2.1,by have:=hb2.1;omega⟩⟩
theorem CyBox.view {c:Cfg} (hb:Bus c) {w:World} {gs:Nat} {st:Cy} (h:CyBox w gs st) (hg:Good c st):∃b0 b1 b2 b3 b4 n0 n1 n2 n3 n4 k0 k1 k2 k3 k4 P Q,Bx w gs [.slice b0 n0 k0,.slice b1 n1 k1,.slice b2 n2 k2,.slice b3 n3 k3,.slice b4 n4 k4]∧CyV w w.heap.size (.slice b0 n0 k0) (.slice b1 n1 k1) (.slice b2 n2 k2) (.slice b3 n3 k3) (.slice b4 n4 k4) st P Q:=by
 obtain⟨V,N,C,D,h1,h2,h3,h4,h5⟩:=h;obtain⟨P,Q,hv⟩:=cyV_raw h2 h3 (fun κ hκ x hx=>(h5 κ hκ x hx).to fun b hb=>hb.1) (zI8 hb hg) (atm_i64 hg.atm).1 (atm_i64 hg.atm).2;obtain⟨b0,b1,b2,b3,b4,n0,n1,n2,n3,n4,k0,k1,k2,k3,k4,e0,e1,e2,e3,e4⟩:=hv.sl;rw[e0,e1,e2,e3,e4]at hv h1;exact⟨b0,b1,b2,b3,b4,n0,n1,n2,n3,n4,k0,k1,k2,k3,k4,P,Q,h1,hv⟩
theorem Bx.put5 {w:World} {g:Nat} {a b c d e:Value} (h:Bx w g [a,b,c,d,e]) (a' b' c' d' e':Value):Bx (((((w.setCell ⟨g,0,none⟩ a').setCell ⟨g,1,none⟩ b').setCell ⟨g,2,none⟩ c').setCell ⟨g,3,none⟩ d').setCell ⟨g,4,none⟩ e') g [a', b', c', d', e']:=by
 have:=((((h.set 0 (by simp) a').set 1 (by simp) b').set 2 (by simp) c').set 3 (by simp) d').set 4 (by simp) e';simpa using this
theorem put5_other {w:World} {g:Nat} {a' b' c' d' e':Value} (b:Nat) (hb:b≠g):(((((w.setCell ⟨g,0,none⟩ a').setCell ⟨g,1,none⟩ b').setCell ⟨g,2,none⟩ c').setCell ⟨g,3,none⟩ d').setCell ⟨g,4,none⟩ e').heap[b]? = w.heap[b]?:=by
 rw[Below.heap_setCell _ _ _ _ hb,Below.heap_setCell _ _ _ _ hb,Below.heap_setCell _ _ _ _ hb,Below.heap_setCell _ _ _ _ hb,Below.heap_setCell _ _ _ _ hb]
theorem CopP.store {st st' : Cy} {w wa : World} {e : Ending} {gs : Nat} (hs : CyBox w gs st) (h : CopP st' w e wa) : ∃ b0 b1 b2 b3 b4 n0 n1 n2 n3 n4 k0 k1 k2 k3 k4, e = .returned (.agg #[.slice b0 n0 k0, .slice b1 n1 k1, .slice b2 n2 k2, .slice b3 n3 k3, .slice b4 n4 k4]) ∧ (∃ a b c d f, Bx wa gs [a, b, c, d, f]) ∧ Below w.heap.size w wa ∧
  CyBox (((((wa.setCell ⟨gs,0,none⟩ (.slice b0 n0 k0)).setCell ⟨gs,1,none⟩ (.slice b1 n1 k1)).setCell ⟨gs,2,none⟩ (.slice b2 n2 k2)).setCell ⟨gs,3,none⟩ (.slice b3 n3 k3)).setCell ⟨gs,4,none⟩ (.slice b4 n4 k4)) gs st':=by
 obtain⟨V,N,C,D,b0,b1,b2,b3,b4,n0,n1,n2,n3,n4,k0,k1,k2,k3,k4,⟨e0,e1,e2,e3,e4⟩,he,hr,hb⟩:=h.sl;obtain⟨V0,N0,C0,D0,hx,_⟩:=hs;have hx2:=hx.below hb hx.lt;refine⟨b0,b1,b2,b3,b4,n0,n1,n2,n3,n4,k0,k1,k2,k3,k4,he,⟨_,_,_,_,_,hx2⟩,hb,CyBox.set hr put5_other (by simp) hx.lt ?_⟩;rw[e0,e1,e2,e3,e4];exact hx2.put5 _ _ _ _ _
theorem CyBox.rows {c : Cfg} (hb : Bus c) {w : World} {gs : Nat} {st : Cy} (h : CyBox w gs st) (hg : Good c st) : ∃ (b0 b1 b4 : Option Addr) (n0 n1 k0 k1 k4 pg po pc tg tp tc : Nat) (P : List PS) (Q : List SS), Bx w gs [.slice b0 n0 k0, .slice b1 n1 k1, .slice (some ⟨pg, po, none⟩) 3 pc, .slice (some ⟨tg, tp, none⟩) 4 tc, .slice b4 st.told.length k4] ∧
  CyV w w.heap.size (.slice b0 n0 k0) (.slice b1 n1 k1) (.slice (some ⟨pg,po,none⟩) 3 pc) (.slice (some ⟨tg,tp,none⟩) 4 tc) (.slice b4 st.told.length k4) st P Q ∧
  (∀k,k<3→∀j,j<4→w.cell? ⟨pg,po+k * 4+j,none⟩=(rowPS (P.getD k default))[j]?)∧(∀k,k<4→∀j,j<3→w.cell? ⟨tg,tp+k * 3+j,none⟩=(rowSS (Q.getD k default))[j]?) ∧
  (∀k,k<3→∃qa qc oa oc,P.getD k default=⟨(st.ports k).next,(qa,(st.ports k).queue.length,qc),(oa,(st.ports k).out.length,oc),(st.ports k).last⟩) ∧
  (∀k,k<4→∃qa qc oa oc,Q.getD k default=⟨(qa,(st.slaves k).pipe.length,qc),(oa,(st.slaves k).done.length,oc),(st.slaves k).last⟩):=by
 obtain⟨b0,b1,b2,b3,b4,n0,n1,n2,n3,n4,k0,k1,k2,k3,k4,P,Q,hx,hv⟩:=h.view hb hg;obtain⟨pg,po,pc,e2,_,_,_,hpc⟩:=hv.ps.at (by rw[hv.lp];omega)
 obtain⟨tg,tp,tc,e3,_,_,_,htc⟩:=hv.ss.at (by rw[hv.lq];omega)
 rw[hv.lp]at e2 hpc;rw[hv.lq]at e3 htc;have e4:=hv.told.len;rw[e2,e3,e4]at hx hv;refine⟨b0,b1,b4,n0,n1,k0,k1,k4,pg,po,pc,tg,tp,tc,P,Q,hx,hv,fun k hk j hj=>hpc k default hk j hj,fun k hk j hj=>htc k default hk j hj,fun k hk=>?_,fun k hk=>?_⟩
 ·have h1:=hv.pn k hk;have h2:=hv.q k hk;have h3:=hv.o k hk;obtain⟨x,hx⟩:∃x,x=P.getD k default:=⟨_,rfl⟩
  rw[←hx]at h1 h2 h3 ⊢;obtain⟨nx,⟨qa,qn,qc⟩,⟨oa,on,oc⟩,la⟩:=x;simp only[sl]at h1 h2 h3;rw[←h1.1,←h1.2,←h2.len,←h3.len];exact⟨_,_,_,_,rfl⟩
 ·have h1:=hv.sn k hk;have h2:=hv.p k hk;have h3:=hv.d k hk;obtain⟨x,hx⟩:∃x,x=Q.getD k default:=⟨_,rfl⟩
  rw[←hx]at h1 h2 h3 ⊢;obtain⟨⟨qa,qn,qc⟩,⟨oa,on,oc⟩,la⟩:=x;simp only[sl]at h1 h2 h3;rw[←h1,←h2.len,←h3.len];exact⟨_,_,_,_,rfl⟩
theorem RepI.ins {w0 W:World} {g N:Nat} {ra ta sa:Option Addr} {inp:Inp} (h:RepI w0 g N [.slice ra 3 3,.slice ta 4 4,.slice sa 3 3] N W) (hN:N≤1000) (hg:g<W.heap.size) (hi:InV W W.heap.size (.agg #[.slice ra 3 3,.slice ta 4 4,.slice sa 3 3]) inp):Ins W W.heap.size (.slice (some ⟨g,0,none⟩) N N) (List.replicate N inp):=by
 refine⟨List.replicate N (.agg #[.slice ra 3 3,.slice ta 4 4,.slice sa 3 3]),?_,by simp,fun k hk d=>?_⟩
 ·have:=h.arr hN hg;rw[List.map_replicate];exact this
 ·rw[List.length_replicate]at hk;have e1:(List.replicate N (Value.agg #[.slice ra 3 3,.slice ta 4 4,.slice sa 3 3])).getD k undef=.agg #[.slice ra 3 3,.slice ta 4 4,.slice sa 3 3]:=by simp[List.getD,hk]
  have e2:(List.replicate N inp).getD k d=inp:=by simp[List.getD,hk]
  rw[e1,e2];exact hi
def flC (w w0 : World) (g3 n : Nat) (st2 : Cy) (us : List Value) (W : World) : Prop := match us with
 |[]=>Below w0.heap.size w0 W
 |[v0]=>Below w0.heap.size w0 W∧∃ra ta sa,v0=.agg #[.slice ra 3 3,.slice ta 4 4,.slice sa 3 3]∧InV W W.heap.size (.agg #[.slice ra 3 3,.slice ta 4 4,.slice sa 3 3]) inAll
 |[_,v1]=>Below w0.heap.size w0 W∧∃b ra ta sa,v1=.slice (some ⟨b,0,none⟩) 1 1∧b<W.heap.size∧W.cell? ⟨b,0,none⟩=some (.slice ra 3 3)∧W.cell? ⟨b,1,none⟩=some (.slice ta 4 4)∧W.cell? ⟨b,2,none⟩=some (.slice sa 3 3)∧InV W W.heap.size (.agg #[.slice ra 3 3,.slice ta 4 4,.slice sa 3 3]) inAll
 |[_,_,v2]=>Below w0.heap.size w0 W∧∃g,v2=.slice (some ⟨g,0,none⟩) n n∧Ins W W.heap.size (.slice (some ⟨g,0,none⟩) n n) (List.replicate n inAll)
 |[_,_,_,v3]=>Below w0.heap.size w0 W∧∃y0 y1 y2 y3 y4 m0 m1 m2 m3 m4 j0 j1 j2 j3 j4 V N C D,v3=.agg #[.slice y0 m0 j0,.slice y1 m1 j1,.slice y2 m2 j2,.slice y3 m3 j3,.slice y4 m4 j4]∧(V 0=.slice y0 m0 j0∧V 1=.slice y1 m1 j1∧V 2=.slice y2 m2 j2∧V 3=.slice y3 m3 j3∧V 4=.slice y4 m4 j4)∧CyR W w0.heap.size st2 V N C D
 |_=>∃y0 y1 y2 y3 y4 m0 m1 m2 m3 m4 j0 j1 j2 j3 j4 V N C D,(V 0=.slice y0 m0 j0∧V 1=.slice y1 m1 j1∧V 2=.slice y2 m2 j2∧V 3=.slice y3 m3 j3∧V 4=.slice y4 m4 j4)∧CyR W w0.heap.size st2 V N C D∧Bx W g3 [.slice y0 m0 j0,.slice y1 m1 j1,.slice y2 m2 j2,.slice y3 m3 j3,.slice y4 m4 j4]∧Below w.heap.size w W
theorem flC_below {w w0 W:World} {g3 n:Nat} {st2:Cy} {us:List Value} (h:flC w w0 g3 n st2 us W) (hl:us.length≤4):Below w0.heap.size w0 W:=by
 match us,h,hl with
 |[],h,_=>exact h
 |[_],h,_=>exact h.1
 |[_,_],h,_=>exact h.1
 |[_,_,_],h,_=>exact h.1
 |[_,_,_,_],h,_=>exact h.1
 |_::_::_::_::_::_,_,hl=>exact absurd hl (by simp)
set_option maxRecDepth 8000 in
theorem cycFlow_any {c : Cfg} (hbus : Bus c) {w : World} {B : Nat} {u : Value} (hc : BusV w B u c) {a0 a1 a2 a3 a4 : Value} {st : Cy} {P : List PS} {Q : List SS} (h : CyV w B a0 a1 a2 a3 a4 st P Q) (hB : B ≤ w.heap.size) (hg : Good c st) {n : Nat} (hn : n ≤ 300) :
    Calls Tryz.prog 36 #[u,.agg #[a0,a1,a2,a3,a4],.int .i64 n] w (CopP (flow c n st) w):=by
  obtain⟨mv,lb,lo,lc,pb,po,pc,QQ,K,rfl,⟨ma,mn,mk,rfl⟩,_,_,_,_,_,_⟩:=hc.opened hbus;obtain⟨z0,z1,z2,z3,z4,n0,n1,n2,n3,n4,k0,k1,k2,k3,k4,rfl,rfl,rfl,rfl,rfl⟩:=h.sl;have HRN:=hid (fun(W:World) (hW:Below w.heap.size w W) (v:Value) (hi:Ins W W.heap.size v (List.replicate n inAll))=>cycRun_any hbus ((hc.below (hW.mono hB)).mono (Nat.le_trans hB hW.size)) ((h.below (hW.mono hB)).mono (Nat.le_trans hB hW.size)) hi (Nat.le_refl _) hg (by rw[List.length_replicate];exact hn));obtain⟨w0,hw0⟩:∃W,W=((w.alloc (.cells #[.slice ma mn mk,.slice (some ⟨lb,lo,none⟩) 4 lc,.slice (some ⟨pb,po,none⟩) 3 pc] 27)).alloc (.cells #[.slice z0 n0 k0,.slice z1 n1 k1,.slice z2 n2 k2,.slice z3 n3 k3,.slice z4 n4 k4] 46)).alloc (.cells #[.slice none 0 0,.slice none 0 0,.slice none 0 0,.slice none 0 0,.slice none 0 0] 46):=⟨_,rfl⟩
  have hb0:Below w.heap.size w w0:=by rw[hw0];exact(((Below.refl _ _).alloc (Nat.le_refl _) _).alloc (by simp) _).alloc (by simp <;> omega) _
  obtain⟨g1,hg1⟩:∃g,g=w.heap.size+1:=⟨_,rfl⟩
  obtain⟨g3,hg3⟩:∃g,g=w.heap.size+1+1:=⟨_,rfl⟩
  have X0 := hid (show Bx w0 w.heap.size [.slice ma mn mk, .slice (some ⟨lb, lo, none⟩) 4 lc, .slice (some ⟨pb, po, none⟩) 3 pc] by
    rw[hw0];exact((Bx.new w #[.slice ma mn mk,.slice (some ⟨lb,lo,none⟩) 4 lc,.slice (some ⟨pb,po,none⟩) 3 pc] 27 (by simp)).below ((Below.refl _ _).alloc (Nat.le_refl _) _) (by simp)).below ((Below.refl _ _).alloc (Nat.le_refl _) _) (by simp <;> omega))
  have X1 := hid (show Bx w0 g1 [.slice z0 n0 k0, .slice z1 n1 k1, .slice z2 n2 k2, .slice z3 n3 k3, .slice z4 n4 k4] by
    rw[hw0,hg1];have:=(Bx.new (w.alloc (.cells #[.slice ma mn mk,.slice (some ⟨lb,lo,none⟩) 4 lc,.slice (some ⟨pb,po,none⟩) 3 pc] 27)) #[.slice z0 n0 k0,.slice z1 n1 k1,.slice z2 n2 k2,.slice z3 n3 k3,.slice z4 n4 k4] 46 (by simp)).below ((Below.refl _ _).alloc (Nat.le_refl _) (.cells #[.slice none 0 0,.slice none 0 0,.slice none 0 0,.slice none 0 0,.slice none 0 0] 46)) (by simp);simpa using this)
  have X3 := hid (show Bx w0 g3 [vnil, vnil, vnil, vnil, vnil] by
    rw[hw0,hg3];have:=Bx.new ((w.alloc (.cells #[.slice ma mn mk,.slice (some ⟨lb,lo,none⟩) 4 lc,.slice (some ⟨pb,po,none⟩) 3 pc] 27)).alloc (.cells #[.slice z0 n0 k0,.slice z1 n1 k1,.slice z2 n2 k2,.slice z3 n3 k3,.slice z4 n4 k4] 46)) #[vnil,vnil,vnil,vnil,vnil] 46 (by simp);simpa using this)
  have HB0:=hid hb0;have h300:decide ((300:Int)<(n:Int))=false:=by simp;omega
  have hmax:(if 0<n then(n:Int) else 0)=(n:Int):=by split <;> omega
  obtain⟨b0,b1,b2⟩:=X0.out.three.1;obtain⟨t0,t1,t2,t3,t4⟩:=X1.out.five.1;clear hc h hb0
  go_enter Tryz.func36,Tryz.ntmps36
  go_upto_region 1 with fail
  rw[←hw0,←hg3,←hg1];have HG1:=hid hg1;have HG3:=hid hg3;clear hw0 hg1 hg3
  go_upto_region 3 with fail
  obtain⟨st2,hst2⟩:∃s,s=flow c n st:=⟨_,rfl⟩
  have HST:=hid hst2;obtain⟨CC,hCC⟩:∃CC:List Value→World→Prop,CC=flC w w0 g3 n st2:=⟨_,rfl⟩
  have hC0:CC [] w0.drew:=by rw[hCC];exact(Below.refl _ _).drew
  have hTC:∀us W,CC us W→us.length≤4→Below w0.heap.size w0 W:=by rw[hCC];exact fun us W h hl=>flC_below h hl
  have HCC:=hid hCC;have hne:Nonempty (Ph CC):=⟨⟨([],w0.drew),hC0⟩⟩
  have hne4:Nonempty (Ph (lims CC (some 4))):=⟨⟨([],w0.drew),hC0,by simp⟩⟩
  have pc:∀{p:Addr} {v:Value},w0.cell? p=some v→∀x:Ph (lims CC (some 4)),x.1.2.cell? p=some v:=fun hc x=>((hTC _ _ x.2.1 x.2.2).cell (World.block_lt_of_cell? w0 _ hc)).trans hc
  replace t0:=pc t0;replace t1:=pc t1;replace t2:=pc t2;replace t3:=pc t3;replace t4:=pc t4;replace b0:=pc b0;replace b1:=pc b1;replace b2:=pc b2;clear hCC pc hst2 hTC;refine zB3 CC [(2,false),(3,false),(6,false),(7,false),(8,false)] [(0,4),(1,4)] (by kernel_rfl) (by kernel_rfl) hC0 ?_
  iterate 2
    refine wq1_b ⟨rfl,rfl⟩ (fun KA hKA=>?_);go_simp;refine hKA _ ?_;clear hKA KA
  iterate 2 refine wq1_v rfl ?_
  repeat (
    (with_reducible refine wq1_q ⟨rfl,rfl⟩ (fun K hK=>?_))
    go_simp
    first
      |((with_reducible refine hK _ ?_);clear hK K)
      |((with_reducible refine zA9 (by simp[undef]) (hK _ ?_));clear hK K)
      | (apply Exists.intro
         (with_reducible refine⟨fun _=>?_,hK _ ?_⟩)
         (fail)
         clear hK K))
  iterate 3 refine wq1_v rfl ?_
  refine zI6 ?_;clear t0 t1 t2 t3 t4 b0 b1 b2 hne hne4;refine wq2_v _ rfl rfl ?_ ?_
  · intro W hW KA hKA
    rw[HCC.out]at hW hKA;go_simp
    (with_reducible refine(implInAll_any W).mono ?_)
    rintro e w1 ⟨ra,ta,sa,rfl,hi,hb⟩;go_simp;exact hKA _ _ _ ⟨Below.trans (show Below w0.heap.size w0 W from hW) (hb.mono (Below.size (show Below w0.heap.size w0 W from hW))),ra,ta,sa,rfl,hi⟩ rfl
  intro v0 KA hKA;go_simp;refine hKA _ ?_;clear hKA KA;refine wq2_v _ rfl rfl ?_ ?_
  · intro W hW KA hKA
    rw[HCC.out]at hW hKA;obtain⟨hb,ra,ta,sa,rfl,hi⟩:=hW;go_simp;exact hKA _ _ _ ⟨hb.alloc hb.size _,W.heap.size,ra,ta,sa,rfl,by simp,by simp[go_sem],by simp[go_sem],by simp[go_sem],(hi.below ((Below.refl _ _).alloc (Nat.le_refl _) _)).mono (by simp)⟩ rfl
  intro v1 KA hKA;go_simp;refine hKA _ ?_;clear hKA KA;refine wq2_v _ rfl rfl ?_ ?_
  · intro W hW KA hKA
    rw[HCC.out]at hW hKA;obtain⟨hb,b,ra,ta,sa,rfl,hbl,d0,d1,d2,hi⟩:=hW;go_simp
    (with_reducible refine(repeatIn_any n hn b _ _ _ _ _ _ _ _ _ W hbl d0 d1 d2).mono ?_)
    rintro e w1 ⟨g,rfl,hr,hge,hgl⟩;go_simp;exact hKA _ _ _ ⟨hb.trans (hr.bel.mono hb.size),g,rfl,hr.ins (by omega) hgl ((hi.below hr.bel).mono hr.bel.size)⟩ rfl
  intro v2 KA hKA;go_simp;refine hKA _ ?_;clear hKA KA;refine wq2_v _ rfl rfl ?_ ?_
  · intro W hW KA hKA
    rw[HCC.out]at hW hKA;obtain⟨hb,g,rfl,hi⟩:=hW;go_simp
    (with_reducible refine(HRN.out W (HB0.out.trans (hb.mono HB0.out.size)) _ hi).mono ?_)
    rintro e w1 hcop;obtain⟨V,N,C,D,y0,y1,y2,y3,y4,m0,m1,m2,m3,m4,j0,j1,j2,j3,j4,hE,rfl,hr,hb1⟩:=hcop.sl;go_simp;exact hKA _ _ _ ⟨hb.trans (hb1.mono hb.size),y0,y1,y2,y3,y4,m0,m1,m2,m3,m4,j0,j1,j2,j3,j4,V,N,C,D,rfl,hE,by rw[HST.out];exact hr.rebase hb.size⟩ rfl
  intro v3 KA hKA;go_simp;refine hKA _ ?_;clear hKA KA;refine wq2_v _ rfl rfl ?_ ?_
  · intro W hW KA hKA
    rw[HCC.out]at hW hKA;obtain⟨hb,y0,y1,y2,y3,y4,m0,m1,m2,m3,m4,j0,j1,j2,j3,j4,V,N,C,D,rfl,hE,hr⟩:=hW;have X:=X3.out.below hb X3.out.lt;obtain⟨⟨q0,q1,q2,q3,q4⟩,f0,f1,f2,f3,f4⟩:=X.five;have h3:=X3.out.lt;have h5:w.heap.size≤g3:=by have:=HG3.out;omega
    go_simp
    exact hKA undef _ _ ⟨y0, y1, y2, y3, y4, m0, m1, m2, m3, m4, j0, j1, j2, j3, j4, V, N, C, D, hE, hr.kept (fun b h1 h2 => (touchC g3 _ _ _ _ _ _).block b h2 (by omega)) (touchC g3 _ _ _ _ _ _).size, X.put5 _ _ _ _ _,
      ((((((HB0.out.trans (hb.mono HB0.out.size)).setCell (p:=⟨g3,_,none⟩) h5 _).setCell (p:=⟨g3,_,none⟩) h5 _).setCell (p:=⟨g3,_,none⟩) h5 _).setCell (p:=⟨g3,_,none⟩) h5 _).setCell (p:=⟨g3,_,none⟩) h5 _)⟩ rfl
  intro v4 KA hKA;go_simp;refine hKA _ ?_;clear hKA KA;refine zI5 ?_;intro wd hwd;rw[HCC.out]at hwd;obtain⟨y0,y1,y2,y3,y4,m0,m1,m2,m3,m4,j0,j1,j2,j3,j4,V,N,C,D,hE,hr,hx,hbd⟩:=hwd;have HR:=hid hr;have HE:=hid hE;have HBD:=hid hbd;obtain⟨q0,q1,q2,q3,q4⟩:=hx.five.1;clear hr hE hbd hx hC0
  go_wp2_with fail
  refine bodyPost_ret (zA4 Tryz.results36 _ _ ⟨g3,0,none⟩ (.agg #[.slice y0 m0 j0,.slice y1 m1 j1,.slice y2 m2 j2,.slice y3 m3 j3,.slice y4 m4 j4]) rfl (zM2 _ _ _ _ _ _ _ q0 q1 q2 q3 q4)) rfl ?_;rw[←HST.out];exact⟨V,N,C,D,by rw[HE.out.1,HE.out.2.1,HE.out.2.2.1,HE.out.2.2.2.1,HE.out.2.2.2.2],HR.out.rebase HB0.out.size,HBD.out⟩
theorem JobsV.cells {w : World} {B : Nat} {v : Value} {js : List TJ} (h : JobsV w B v js) :
  ∃ ao cap, v = .slice ao js.length cap ∧ js.length ≤ cap ∧ cap ≤ 9223372036854775807 ∧ js.length ≤ 140737488351232 ∧
   (js.length≠0→∃b off,ao=some ⟨b,off,none⟩∧b<B∧∀t,t<js.length→∃da dn dc,w.cell? ⟨b,off+t * 5,none⟩=some (.int .i64 ((js.getD t default).who:Nat))∧w.cell? ⟨b,off+t * 5+1,none⟩=some (.int .i64 ((js.getD t default).n:Nat))∧w.cell? ⟨b,off+t * 5+2,none⟩=some (.int .i64 (js.getD t default).rsp.id)∧w.cell? ⟨b,off+t * 5+3,none⟩=some (.int .i64 (js.getD t default).rsp.code)∧w.cell? ⟨b,off+t * 5+4,none⟩=some (.slice da dn dc)∧Ints w B (.slice da dn dc) (js.getD t default).rsp.data):=by
 obtain⟨D,⟨ao,cap,hv,h1,h2,h0,h9,h3⟩,rfl,hd⟩:=h;simp only[List.length_map]at hv h1 h0 h3 ⊢;refine⟨ao,cap,hv,h1,h2,h0,fun hn=>?_⟩;obtain⟨b,off,ha,hlt,hc⟩:=h3 hn;refine⟨b,off,ha,hlt,fun t ht=>?_⟩;have e:(D.map tjRow).getD t []=tjRow (D[t]):=by simp[List.getD,ht]
 have e2:(D.map (·.1)).getD t default=(D[t]).1:=by simp[List.getD,ht]
 have c0:=hc t ht 0 (by omega);have c1:=hc t ht 1 (by omega);have c2:=hc t ht 2 (by omega);have c3:=hc t ht 3 (by omega);have c4:=hc t ht 4 (by omega);have hi:=hd _ (List.getElem_mem ht);obtain⟨da,dc,he,_⟩:=hi.opened;rw[e]at c0 c1 c2 c3 c4;rw[e2];rw[he]at hi;exact⟨da,_,dc,by simpa[tjRow]using c0,by simpa[tjRow]using c1,by simpa[tjRow]using c2,by simpa[tjRow]using c3,by simpa[tjRow,he]using c4,hi⟩
theorem Nats.ints {w:World} {B:Nat} {v:Value} {xs:List Nat} (h:Nats w B v xs) (hx:∀x∈xs,x<1000):Ints w B v (xs.map fun(x:Nat)=>(x:Int)) :=
 ⟨by rw[List.map_map];exact h,fun x hx2=>by obtain⟨y,hy,rfl⟩:=List.mem_map.1 hx2;have:=hx y hy;unfold I64;omega⟩
theorem CyV.rows {w : World} {B : Nat} {a0 a1 a2 a3 a4 : Value} {st : Cy} {P : List PS} {Q : List SS} (hv : CyV w B a0 a1 a2 a3 a4 st P Q) : ∃ (d0 d1 d4 : Option Addr) (c0 c1 c4 pg po pc tg tp tc : Nat), a0 = .slice d0 st.ws.length c0 ∧ a1 = .slice d1 st.hs.length c1 ∧ a2 = .slice (some ⟨pg, po, none⟩) 3 pc ∧ a3 = .slice (some ⟨tg, tp, none⟩) 4 tc ∧ a4 = .slice d4 st.told.length c4 ∧ pg < B ∧ tg < B ∧
  (∀k,k<3→∃qa qc oa oc,w.cell? ⟨pg,po+k * 4,none⟩=some (.int .i64 ((st.ports k).next:Nat))∧w.cell? ⟨pg,po+k * 4+1,none⟩=some (.slice qa (st.ports k).queue.length qc)∧w.cell? ⟨pg,po+k * 4+2,none⟩=some (.slice oa (st.ports k).out.length oc)∧w.cell? ⟨pg,po+k * 4+3,none⟩=some (.int .i64 ((st.ports k).last:Nat))∧Nats w B (.slice qa (st.ports k).queue.length qc) (st.ports k).queue∧Jbs w B (.slice oa (st.ports k).out.length oc) (st.ports k).out) ∧
  (∀k,k<4→∃qa qc oa oc,w.cell? ⟨tg,tp+k * 3,none⟩=some (.slice qa (st.slaves k).pipe.length qc)∧w.cell? ⟨tg,tp+k * 3+1,none⟩=some (.slice oa (st.slaves k).done.length oc)∧w.cell? ⟨tg,tp+k * 3+2,none⟩=some (.int .i64 ((st.slaves k).last:Nat))∧Jbs w B (.slice qa (st.slaves k).pipe.length qc) (st.slaves k).pipe∧JobsV w B (.slice oa (st.slaves k).done.length oc) (st.slaves k).done):=by
 obtain⟨d0,c0,e0,_⟩:=hv.ws.opened;obtain⟨d1,c1,e1,_⟩:=hv.hs.opened;obtain⟨pg,po,pc,e2,_,_,hpg,hpc⟩:=hv.ps.at (by rw[hv.lp];omega)
 obtain⟨tg,tp,tc,e3,_,_,htg,htc⟩:=hv.ss.at (by rw[hv.lq];omega)
 obtain⟨d4,c4,e4,_⟩:=hv.told.cells;rw[hv.lp]at e2 hpc;rw[hv.lq]at e3 htc;refine⟨d0,d1,d4,c0,c1,c4,pg,po,pc,tg,tp,tc,e0,e1,e2,e3,e4,hpg,htg,fun k hk=>?_,fun k hk=>?_⟩
 ·have h1:=hv.pn k hk;have h2:=hv.q k hk;have h3:=hv.o k hk;have h4:=hpc k default hk;obtain⟨x,hx⟩:∃x,x=P.getD k default:=⟨_,rfl⟩
  rw[←hx]at h1 h2 h3 h4;obtain⟨nx,⟨qa,qn,qc⟩,⟨oa,on,oc⟩,la⟩:=x;simp only[sl]at h1 h2 h3;obtain rfl:=h2.len;obtain rfl:=h3.len;have g0:=h4 0 (by omega);have g1:=h4 1 (by omega);have g2:=h4 2 (by omega);have g3:=h4 3 (by omega);rw[←h1.1,←h1.2];exact⟨qa,qc,oa,oc,by simp only[rowPS,List.getElem?_cons_zero,List.getElem?_cons_succ]at g0;exact g0,by simp only[rowPS,List.getElem?_cons_zero,List.getElem?_cons_succ]at g1;exact g1,by simp only[rowPS,List.getElem?_cons_zero,List.getElem?_cons_succ]at g2;exact g2,by simp only[rowPS,List.getElem?_cons_zero,List.getElem?_cons_succ]at g3;exact g3,h2,h3⟩
 ·have h1:=hv.sn k hk;have h2:=hv.p k hk;have h3:=hv.d k hk;have h4:=htc k default hk;obtain⟨x,hx⟩:∃x,x=Q.getD k default:=⟨_,rfl⟩
  rw[←hx]at h1 h2 h3 h4;obtain⟨⟨qa,qn,qc⟩,⟨oa,on,oc⟩,la⟩:=x;simp only[sl]at h1 h2 h3;obtain rfl:=h2.len;obtain rfl:=h3.len;have g0:=h4 0 (by omega);have g1:=h4 1 (by omega);have g2:=h4 2 (by omega);rw[←h1];exact⟨qa,qc,oa,oc,by simp only[rowSS,List.getElem?_cons_zero,List.getElem?_cons_succ]at g0;exact g0,by simp only[rowSS,List.getElem?_cons_zero,List.getElem?_cons_succ]at g1;exact g1,by simp only[rowSS,List.getElem?_cons_zero,List.getElem?_cons_succ]at g2;exact g2,h2,h3⟩
theorem JobsV.take {w:World} {B:Nat} {a:Option Addr} {n k m:Nat} {js:List TJ} (h:JobsV w B (.slice a n k) js) (hm:m≤n):JobsV w B (.slice a m k) (js.take m):=by
 obtain⟨D,⟨ao,cap,hv,h1,h2,h0,h9,h3⟩,rfl,hd⟩:=h;simp only[List.length_map,Value.slice.injEq]at hv h1 h0 h3;obtain⟨rfl,rfl,rfl⟩:=hv;have hl:(D.take m).length=m:=by rw[List.length_take];omega
 refine⟨D.take m,⟨a,k,by rw[List.length_map,hl],by rw[List.length_map,hl];omega,h2,by rw[List.length_map,hl];omega,h9,fun hn=>?_⟩,by rw[List.map_take],fun x hx=>hd x (List.mem_of_mem_take hx)⟩;rw[List.length_map,hl]at hn;obtain⟨b,off,ha,hlt,hc⟩:=h3 (by omega);refine⟨b,off,ha,hlt,fun t ht j hj=>?_⟩;rw[List.length_map,hl]at ht;rw[hc t (by omega) j hj];simp[List.getD,List.getElem?_take,ht]
theorem InV.bits {w:World} {B:Nat} {ra ta sa:Option Addr} {rc tc sc:Nat} {inp:Inp} (h:InV w B (.agg #[.slice ra 3 rc,.slice ta 4 tc,.slice sa 3 sc]) inp):∃rb ro sb so,ra=some ⟨rb,ro,none⟩∧sa=some ⟨sb,so,none⟩∧rb<B∧sb<B∧(∀j,j<3→w.cell? ⟨rb,ro+j,none⟩=some (.bool (inp.ready.getD j false)))∧(∀j,j<3→w.cell? ⟨sb,so+j,none⟩=some (.bool (inp.send.getD j false))):=by
 obtain⟨⟨ra', rc', ta', tc', sa', sc', e,k1,_,k3⟩,l1,_,l3⟩:=h;simp only[Value.agg.injEq,Array.mk.injEq,List.cons.injEq,Value.slice.injEq,and_true]at e;obtain⟨⟨rfl,_,rfl⟩,_,⟨rfl,_,rfl⟩⟩:=e;obtain⟨a1,c1,e1,_,_,_,_,h1⟩:=k1.opened;obtain⟨a3,c3,e3,_,_,_,_,h3⟩:=k3.opened;simp only[Value.slice.injEq,true_and]at e1 e3;obtain⟨rb,ro,rfl,q1,q2⟩:=h1 (by omega);obtain⟨sb,so,rfl,q3,q4⟩:=h3 (by omega);exact⟨rb,ro,sb,so,e1.1,e3.1,q1,q3,fun j hj=>q2 j (by omega),fun j hj=>q4 j (by omega)⟩
def CyN (st:Cy) (W:World) (v:Value):Prop:=∃b0 b1 b2 b3 b4 n0 n1 n2 n3 n4 k0 k1 k2 k3 k4 P Q,v=.agg #[.slice b0 n0 k0,.slice b1 n1 k1,.slice b2 n2 k2,.slice b3 n3 k3,.slice b4 n4 k4]∧CyV W W.heap.size (.slice b0 n0 k0) (.slice b1 n1 k1) (.slice b2 n2 k2) (.slice b3 n3 k3) (.slice b4 n4 k4) st P Q
theorem CyN.below {st:Cy} {W W':World} {v:Value} (h:CyN st W v) (hb:Below W.heap.size W W'):CyN st W' v:=by
 obtain⟨b0,b1,b2,b3,b4,n0,n1,n2,n3,n4,k0,k1,k2,k3,k4,P,Q,e,h⟩:=h;exact⟨b0,b1,b2,b3,b4,n0,n1,n2,n3,n4,k0,k1,k2,k3,k4,P,Q,e,(h.below hb).mono hb.size⟩
def NC (st:Cy) (is:List Nat) (us:List Value) (W:World):Prop:=∀i v,us[i]? = some v→i∈is→CyN st W v
theorem NC.nil (st:Cy) (is:List Nat) (W:World):NC st is [] W:=fun i v h _=>by simp at h
theorem NC.below {st:Cy} {is:List Nat} {us:List Value} {W W':World} (h:NC st is us W) (hb:Below W.heap.size W W'):NC st is us W':=fun i v h1 h2=>(h i v h1 h2).below hb
theorem NC.snoc {st:Cy} {is:List Nat} {us:List Value} {W:World} {u:Value} (h:NC st is us W) (hu:us.length∈is→CyN st W u):NC st is (us++[u]) W:=fun i v h1 h2=>by
 by_cases hi:i<us.length
 ·rw[List.getElem?_append_left hi]at h1;exact h i v h1 h2
 ·rw[List.getElem?_append_right (by omega)]at h1;have:i - us.length=0:=by
   have:=(List.getElem?_eq_some_iff.1 h1).1;simp at this;omega
  rw[this]at h1;simp only[List.getElem?_cons_zero,Option.some.injEq]at h1;subst h1;exact hu (by rwa [show us.length=i by omega])
end Go.Proofs.YthnlalffjepdaaaGreat
namespace Go.Proofs.YthnlalffjepdaaaGreat
theorem foldN_id {α:Type} {f:Nat→α→α} (n:Nat) (a:α) (h:∀i,i<n→f i a=a):foldN f n a=a :=
 zF1 (P:=fun x=>x=a) n a rfl fun i x hi hx=>by rw[hx];exact h i hi
theorem zL4 {α : Type} {f : Nat → α → α} {k : Nat} {a b : α} : ∀ (n : Nat), k < n → (∀ i, i < k → f i a = a) → f k a = b → (∀ i, k < i → i < n → f i b = b) → foldN f n a = b
 |0,hk,_,_,_=>absurd hk (Nat.not_lt_zero _)
 |n+1,hk,h0,h1,h2=>by
  show f n (foldN f n a)=b;by_cases h:k=n
  ·subst h;rw[foldN_id k a h0,h1]
  ·rw[zL4 n (by omega) h0 h1 fun i hi hn=>h2 i hi (by omega)];exact h2 n (by omega) (Nat.lt_succ_self n)
structure Solo (c:Cfg) (who s:Nat):Prop where
 w3:who<3
 s4:s<4
 one:(c.prog who).length=1
 none:∀w,w<3→w≠who→(c.prog w).length=0
 slv:c.slv who 0=s
variable {c : Cfg} {who s : Nat}
theorem getD_all {w:Nat} (hw:w<3):([true,true,true]:List Bool).getD w false=true:=by
 obtain rfl|rfl|rfl:w=0∨w=1∨w=2:=by omega
 all_goals rfl
theorem getD_none {s:Nat} (hs:s<4):([false,false,false,false]:List Bool).getD s false=false:=by
 obtain rfl|rfl|rfl|rfl:s=0∨s=1∨s=2∨s=3:=by omega
 all_goals rfl
theorem tell_none {inp:Inp} {x:Cy×List Ev} (h:∀s,(x.1.slaves s).done=[]):zH6 inp x=x :=
 foldN_id 3 x fun i _=>by
  unfold tell1
  split
  ·rw[zE1 (fun j _ _=>by simp[tellM,h])]
  ·rfl
theorem work_none {inp:Inp} {x:Cy×List Ev} (h:∀s,(x.1.slaves s).pipe=[]):zI7 c inp x=x :=
 foldN_id 4 x fun i _=>by
  unfold work1
  split
  ·rfl
  ·rw[h]
theorem let_none {st:Cy} (h:∀w,(st.ports w).queue=[]):(letAll c st).st=st:=by
 refine zF1 (P:=fun y:Lt=>y.st=st) 4 ⟨st,fun _=>false,fun _=>0⟩ rfl fun i y _ hy=>?_
 unfold let1
 split
 ·rw[zE1 (fun j _ _=>by simp[letM,may,hy,h])];exact hy
 ·exact hy
theorem ask_none {inp:Inp} {x:Cy×List Ev} (h:∀w,w<3→(c.prog w).length≤(x.1.ports w).next):askAll c inp x=x :=
 foldN_id 3 x fun i hi=>if_neg fun hc=>by have:=h i hi;omega
def sQ (who:Nat):Cy:={ cy0 with ports:=upd cy0.ports who ⟨1,[0],[],3⟩ }
def sP (who s l:Nat):Cy:={ cy0 with ports:=upd cy0.ports who ⟨1,[],[⟨who,0,s⟩],3⟩,slaves:=upd cy0.slaves s ⟨[⟨who,0,l⟩],[],who⟩ }
def sD (who s:Nat) (ws hs:List Int) (r:Rs):Cy:={ cy0 with ws:=ws,hs:=hs,ports:=upd cy0.ports who ⟨1,[],[⟨who,0,s⟩],3⟩,slaves:=upd cy0.slaves s ⟨[],[⟨who,0,r⟩],who⟩ }
theorem solo_ask (h:Solo c who s):cyc c inAll cy0=sQ who:=by
 have h3:askAll c inAll (cy0,[])=(sQ who,[⟨1,who,0⟩]):=by
  refine zL4 3 h.w3 (fun i hi=>if_neg fun hc=>?_) ?_ (fun i hi hn=>if_neg fun hc=>?_)
  ·have:=h.none i (by have:=h.w3;omega) (by omega);omega
  ·rw[ask1,if_pos ⟨getD_all h.w3,by simp[cy0],by rw[h.one];simp[cy0]⟩]
   rfl
  ·have:=h.none i hn (by omega);omega
 unfold cyc step;rw[tell_none (fun _=>rfl),work_none (fun _=>rfl),let_none (fun _=>rfl),h3]
theorem solo_let (h:Solo c who s):cyc c inAll (sQ who)=sP who s (c.lt s):=by
 have hq:∀w,(sQ who).ports w=if w=who then⟨1,[0],[],3⟩ else⟨0,[],[],3⟩:=fun w=>rfl
 have h1:(letAll c (sQ who)).st=sP who s (c.lt s):=by
  have hmiss:∀i,i≠s→∀u l,let1 c i ⟨sQ who,u,l⟩=⟨sQ who,u,l⟩:=fun i hi u l=>by
   unfold let1
   split
   ·rw[zE1 fun j _ _=>?_];simp only[letM,may,hq];by_cases hw:((Sv.last ((sQ who).slaves i))+j) % 3=who
    ·rw[if_pos hw,hw];have:¬c.slv who 0=i:=by rw[h.slv];omega
     simp[this]
    ·rw[if_neg hw];simp
   ·rfl
  have hmiss2:∀i,∀y:Lt,y.st=sP who s (c.lt s)→let1 c i y=y:=fun i y hy=>by
   unfold let1
   split
   ·rw[zE1 fun j _ _=>?_];have:∀w,((sP who s (c.lt s)).ports w).queue=[]:=fun w=>by
     simp only[sP,cy0,upd];split <;> rfl
    simp[letM,may,hy,this]
   ·rfl
  have hhit:let1 c s ⟨sQ who,fun _=>false,fun _=>0⟩=⟨sP who s (c.lt s),upd (fun _=>false) who true,upd (fun _=>0) s 1⟩:=by
   have hk:firstK (letM c s ⟨sQ who,fun _=>false,fun _=>0⟩) 3=some (who+1):=by
    refine firstK_hit (by omega) (by have:=h.w3;omega) ?_ fun j h1 h2=>?_
    ·have e:(((sQ who).slaves s).last+(who+1)) % 3=who:=by have:=h.w3;show(2+(who+1)) % 3=who;omega
     simp only[letM,may,e,hq,h.slv];simp[h.slv]
    ·have e:(((sQ who).slaves s).last+j) % 3≠who:=by have:=h.w3;show(2+j) % 3≠who;omega
     simp only[letM,may,hq,if_neg e];simp
   have e:(((sQ who).slaves s).last+(who+1)) % 3=who:=by have:=h.w3;show(2+(who+1)) % 3=who;omega
   have e2:((sQ who).ports who).queue=0::[]:=by rw[hq,if_pos rfl]
   unfold let1;rw[if_pos (by show(0:Nat)<2;omega),hk];simp only[e];rw[e2];simp only[letDo,Lt.mk.injEq,and_true];unfold sP;have e3:(sQ who).ports who=⟨1,[0],[],3⟩:=by rw[hq,if_pos rfl]
   rw[e3];simp only[sQ,cy0,Cy.mk.injEq,true_and,and_true];refine⟨?_,rfl⟩
   funext w
   simp only[upd]
   split <;> rfl
  exact congrArg Lt.st (zL4 (f:=let1 c) 4 h.s4 (fun i hi=>hmiss i (by omega) _ _) hhit fun i _ _=>hmiss2 i _ rfl)
 have h2:∀e,askAll c inAll (sP who s (c.lt s),e)=(sP who s (c.lt s),e):=fun e=>ask_none fun w hw=>by
  by_cases hww:w=who
  ·subst hww;rw[h.one];simp[sP,zA2]
  ·rw[h.none w hw hww];exact Nat.zero_le _
 unfold cyc step;rw[tell_none (fun _=>rfl),work_none (fun _=>rfl),h1,h2]
theorem sP_done (l:Nat) (i:Nat):((sP who s l).slaves i).done=[]:=by simp only[sP,cy0,upd];split <;> rfl
theorem sP_queue (l:Nat) (i:Nat):((sP who s l).ports i).queue=[]:=by simp only[sP,cy0,upd];split <;> rfl
theorem sP_ask (h:Solo c who s) (l:Nat):∀e,askAll c inAll (sP who s l,e)=(sP who s l,e):=fun e=>ask_none fun w hw=>by
 by_cases hww:w=who
 ·subst hww;rw[h.one];simp[sP,zA2]
 ·rw[h.none w hw hww];exact Nat.zero_le _
theorem sP_pipe (l:Nat) {i:Nat} (hi:i≠s):((sP who s l).slaves i).pipe=[]:=by simp only[sP,cy0,upd,if_neg hi]
theorem sP_at (l:Nat):(sP who s l).slaves s=⟨[⟨who,0,l⟩],[],who⟩:=by simp only[sP,zA2]
theorem solo_dec (h:Solo c who s) (l:Nat):cyc c inAll (sP who s (l+1))=sP who s l:=by
 have h1:zI7 c inAll (sP who s (l+1),[])=(sP who s l,[]):=by
  refine zL4 4 h.s4 (fun i hi=>?_) ?_ (fun i hi _=>?_)
  ·unfold work1
   split
   ·rfl
   ·simp only[sP_pipe (l+1) (show i≠s by omega)]
  ·unfold work1;rw[if_neg (by simp only[inAll];rw[getD_none h.s4];simp)];simp only[sP_at,if_pos (Nat.succ_pos l)];simp only[workDec,sP_at,Prod.mk.injEq,and_true];simp only[sP,Cy.mk.injEq,true_and,and_true]
   funext i
   simp only[upd]
   split <;> rfl
  ·unfold work1
   split
   ·rfl
   ·simp only[sP_pipe l (show i≠s by omega)]
 unfold cyc step;rw[tell_none (sP_done _),h1,let_none (sP_queue _),sP_ask h]
theorem sD_queue (ws hs:List Int) (r:Rs) (i:Nat):((sD who s ws hs r).ports i).queue=[]:=by simp only[sD,cy0,upd];split <;> rfl
theorem sD_pipe (ws hs:List Int) (r:Rs) (i:Nat):((sD who s ws hs r).slaves i).pipe=[]:=by simp only[sD,cy0,upd];split <;> rfl
theorem sD_ask (h:Solo c who s) (ws hs:List Int) (r:Rs):∀e,askAll c inAll (sD who s ws hs r,e)=(sD who s ws hs r,e):=fun e=>ask_none fun w hw=>by
 by_cases hww:w=who
 ·subst hww;rw[h.one];simp[sD,zA2]
 ·rw[h.none w hw hww];exact Nat.zero_le _
theorem solo_do (h:Solo c who s):∃ws hs r,cyc c inAll (sP who s 0)=sD who s ws hs r:=by
 obtain⟨q,hq⟩:∃q,q=doReq c.ms cy0.ws cy0.hs who (c.req who 0):=⟨_,rfl⟩
 refine⟨q.1,q.2.1,q.2.2,?_⟩;have h1:zI7 c inAll (sP who s 0,[])=(sD who s q.1 q.2.1 q.2.2,[⟨2,who,0⟩]):=by
  refine zL4 4 h.s4 (fun i hi=>?_) ?_ (fun i hi _=>?_)
  ·unfold work1
   split
   ·rfl
   ·simp only[sP_pipe 0 (show i≠s by omega)]
  ·unfold work1;rw[if_neg (by simp only[inAll];rw[getD_none h.s4];simp)];simp only[sP_at,if_neg (Nat.lt_irrefl 0)];rw[if_pos (by show(0:Nat)<2;omega)];have e1:(sP who s 0).ws=cy0.ws:=rfl;have e2:(sP who s 0).hs=cy0.hs:=rfl;simp only[zJ3,sP_at,e1,e2,←hq,List.nil_append,Prod.mk.injEq,and_true];simp only[sP,sD,Cy.mk.injEq,true_and,and_true]
   funext i
   simp only[upd]
   split <;> rfl
  ·unfold work1
   split
   ·rfl
   ·simp only[sD_pipe]
 unfold cyc step;rw[tell_none (sP_done _),h1,let_none (sD_queue _ _ _),sD_ask h]
theorem sD_slv (ws hs:List Int) (r:Rs) (i:Nat):(sD who s ws hs r).slaves i=if i=s then⟨[],[⟨who,0,r⟩],who⟩ else⟨[],[],2⟩:=rfl
theorem sD_end (ws hs:List Int) (r:Rs) (i:Nat):((zD6 who s ⟨who,0,r⟩ [] (sD who s ws hs r,[])).1.slaves i).done=[]:=by
 simp only[zD6];by_cases hi:i=s
 ·rw[hi,zA2]
 ·rw[zA0 _ _ hi,sD_slv,if_neg hi]
theorem solo_tell (h:Solo c who s) (ws hs:List Int) (r:Rs):(cyc c inAll (sD who s ws hs r)).told.length=1:=by
 have h1:∃e,(zH6 inAll (sD who s ws hs r,[]))=e∧e.1.told.length=1∧(∀i,(e.1.slaves i).pipe=[])∧(∀i,(e.1.ports i).queue=[])∧(∀w,w<3→(c.prog w).length≤(e.1.ports w).next):=by
  refine⟨zD6 who s ⟨who,0,r⟩ [] (sD who s ws hs r,[]),?_,by simp[zD6,sD,cy0],fun i=>?_,fun i=>?_,fun w hw=>?_⟩
  ·have hm:∀i k,i≠who→tellM (sD who s ws hs r) i k=false:=fun i k hw=>by
    unfold tellM;rw[sD_slv];by_cases hh:(((sD who s ws hs r).ports i).last+k) % 4=s
    ·rw[if_pos hh];simp;exact fun e=>hw e.symm
    ·rw[if_neg hh]
   have hl:((sD who s ws hs r).ports who).last=3:=by simp[sD,zA2]
   refine zL4 3 h.w3 (fun i hi=>?_) ?_ (fun i hi hn=>?_)
   ·have e:firstK (tellM (sD who s ws hs r,([]:List Ev)).1 i) 4=none:=zE1 fun j _ _=>hm i j (by omega)
    unfold tell1
    split
    ·rw[e]
    ·rfl
   ·have hk:firstK (tellM (sD who s ws hs r,([]:List Ev)).1 who) 4=some (s+1):=by
     refine firstK_hit (by omega) (by have:=h.s4;omega) ?_ fun j h1 h2=>?_
     ·have e:(3+(s+1)) % 4=s:=by have:=h.s4;omega
      simp only[tellM,hl,e,sD_slv,if_pos];simp
     ·have e:¬(3+j) % 4=s:=by have:=h.s4;omega
      simp only[tellM,hl,sD_slv,if_neg e]
    have e:(3+(s+1)) % 4=s:=by have:=h.s4;omega
    unfold tell1;rw[if_pos (show inAll.ready.getD who false=true from getD_all h.w3),hk];simp only[hl,e,sD_slv,if_pos]
   ·have e:firstK (tellM (zD6 who s ⟨who,0,r⟩ [] (sD who s ws hs r,([]:List Ev))).1 i) 4=none:=zE1 fun j _ _=>by
     unfold tellM;rw[sD_end]
    unfold tell1
    split
    ·rw[e]
    ·rfl
  ·simp only[zD6,sD,cy0,upd]
   split
   ·simp
   ·rfl
  ·simp only[zD6,sD,cy0,upd]
   split
   ·simp
   ·rfl
  ·by_cases hww:w=who
   ·subst hww;rw[h.one];simp[zD6,sD,zA2]
   ·rw[h.none w hw hww];exact Nat.zero_le _
 obtain⟨e,he,h2,h4,h5,h6⟩:=h1;unfold cyc step;rw[he,work_none h4,let_none h5,ask_none h6];exact h2
theorem solo_wait (h : Solo c who s) : ∀ (l m : Nat), m ≤ l → flow c m (sP who s l) = sP who s (l - m)
 |_,0,_=>rfl
 |l,m+1,hm=>by
  show runC c (List.replicate m inAll) (cyc c inAll (sP who s l))=_;obtain⟨l', rfl⟩:∃x,l=x+1:=⟨l - 1,by omega⟩
  rw[solo_dec h,show l' + 1 - (m+1)=l' - m by omega];exact solo_wait h l' m (by omega)
theorem solo_law (h:Solo c who s):(flow c (c.lt s+3) cy0).told.length=0∧(flow c (c.lt s+4) cy0).told.length=1:=by
 obtain⟨ws,hs,r,hd⟩:=solo_do h;have h3:flow c (c.lt s+3) cy0=sD who s ws hs r:=by
  rw[show c.lt s+3=2+(c.lt s+1) by omega,←flow_add,←flow_add];have:flow c 2 cy0=sP who s (c.lt s):=by
   show cyc c inAll (cyc c inAll cy0)=_;rw[solo_ask h,solo_let h]
  rw[this,solo_wait h _ _ (Nat.le_refl _),Nat.sub_self];exact hd
 refine⟨by rw[h3];rfl,?_⟩;rw[show c.lt s+4=c.lt s+3+1 by omega,←flow_add,h3];exact solo_tell h ws hs r
end Go.Proofs.YthnlalffjepdaaaGreat
namespace Go.Proofs.YthnlalffjepdaaaGreat
open Go.RowKit
theorem reqSlave_nat {c : Cfg} (hbus : Bus c) {who n : Nat} (hw : who < 3) (hn : n < (c.prog who).length) {args : Array Value} {w : World} (h : Calls Tryz.prog 28 args w fun e w' => e = .returned (.int .i64 (if (mapOk c.ms && reqOk ((c.prog who).getD n default)) = true then zK6 c.ms ((c.prog who).getD n default) else -1)) ∧ Below w.heap.size w w') :
  Calls Tryz.prog 28 args w fun e w' => e=.returned (.int .i64 (c.slv who n:Nat))∧Below w.heap.size w w':=by
 refine h.mono ?_;rintro e w' ⟨rfl,hb⟩;have hok:(mapOk c.ms&&reqOk ((c.prog who).getD n default))=true:=by rw[Bool.and_eq_true];exact⟨hbus.ms,hbus.req hw hn⟩
 rw[if_pos hok];exact⟨congrArg (fun x=>Ending.returned (.int .i64 x)) (slv_nat hbus.ms),hb⟩
structure AloneF (c:Cfg) (who lo0:Nat) (ma:Option Addr) (mk lb lo lc pb:Nat) (us:List Value) (L:Nat→Nat) (W:World):Prop where
 m:Maps W W.heap.size (.slice ma c.ms.length mk) c.ms
 mo:∀k,(Value.slice ma c.ms.length mk).ownBlock=some k→k≠pb∧lo0≤k
 l:Ints W W.heap.size (.slice (some ⟨lb,lo,none⟩) 4 lc) (c.lat.map fun(n:Nat)=>(n:Int))
 lp:lb≠pb
 lo_:lo0≤lb
 p:PsO W lo0 pb 3 us (zD1 c.progs who 3) L
theorem AloneF.below {c:Cfg} {who lo0:Nat} {ma:Option Addr} {mk lb lo lc pb:Nat} {us:List Value} {L:Nat→Nat} {W W':World} (h:AloneF c who lo0 ma mk lb lo lc pb us L W) (hb:Below W.heap.size W W'):AloneF c who lo0 ma mk lb lo lc pb us L W' :=
 ⟨(h.m.below hb).mono hb.size,h.mo,⟨(h.l.1.below hb).mono hb.size,h.l.2⟩,h.lp,h.lo_,h.p.below hb⟩
theorem AloneP.fact {c:Cfg} {who:Nat} {w:World} {e:Ending} {w':World} (h:AloneP c who w e w'):∃ma mk lb lo lc pb us L,e=.returned (.agg #[.slice ma c.ms.length mk,.slice (some ⟨lb,lo,none⟩) 4 lc,.slice (some ⟨pb,0,none⟩) 3 3])∧AloneF c who w.heap.size ma mk lb lo lc pb us L w' ∧ Below w.heap.size w w':=by
 obtain⟨ma,mk,lb,lo,lc,pb,us,L,e,h1,h2,h3,h4,h5,h6,h7⟩:=h;exact⟨ma,mk,lb,lo,lc,pb,us,L,e,⟨h1,h2,h3,h4,h5,h6⟩,h7⟩
theorem slvC_lt4 {c:Cfg} (hb:Bus c) (w n:Nat):c.slv w n<4:=slv_lt4 hb.ms _
theorem oneC_solo {c:Cfg} (hb:Bus c) {who:Nat} (hw:who<3) (hn:(c.prog who).length≠0):Solo (oneC c who) who ((oneC c who).slv who 0):=by
 refine⟨hw,slvC_lt4 (hb.one hw) _ _,?_,fun w hw2 hne=>?_,rfl⟩
 ·rw[oneC_prog hb hw hw,if_pos rfl,List.length_take];omega
 ·rw[oneC_prog hb hw hw2,if_neg hne];rfl
theorem oneC_plen {c:Cfg} (hb:Bus c) {who:Nat} (hw:who<3) (hn:(c.prog who).length≠0):plen (oneC c who) 3=1:=by
 have h:=oneC_solo hb hw hn;have h1:=h.one;obtain rfl|rfl|rfl:who=0∨who=1∨who=2:=by omega
 all_goals
  rw[plen_succ,plen_succ,plen_succ]
 ·have:=h.none 1 (by omega) (by omega);have:=h.none 2 (by omega) (by omega);simp only[plen,List.range_zero,List.map_nil,List.sum_nil];omega
 ·have:=h.none 0 (by omega) (by omega);have:=h.none 2 (by omega) (by omega);simp only[plen,List.range_zero,List.map_nil,List.sum_nil];omega
 ·have:=h.none 0 (by omega) (by omega);have:=h.none 1 (by omega) (by omega);simp only[plen,List.range_zero,List.map_nil,List.sum_nil];omega
abbrev InX:=Inp×Nat×Nat×Nat
def rowX (x:InX):List Value:=[.slice (some ⟨x.2.1,0,none⟩) 3 3,.slice (some ⟨x.2.2.1,0,none⟩) 4 4,.slice (some ⟨x.2.2.2,0,none⟩) 3 3]
theorem rowX_len (x:InX):(rowX x).length=3:=rfl
theorem rowX_one (x:InX):∀u∈rowX x,u.oneCell' = true:=by
 intro u hu;simp only[rowX,List.mem_cons,List.not_mem_nil,or_false]at hu;rcases hu with rfl|rfl|rfl <;> rfl
theorem elem_in:Elem 28 64 3 72:=zE8 Tryz.underlying28 (z:=.agg #[.slice none 0 0,.slice none 0 0,.slice none 0 0]) (by kernel_rfl) rfl (by omega)
def InQ (w:World) (lo:Nat) (x:InX):Prop:=InO w lo x.2.1 x.2.2.1 x.2.2.2 x.1.ready x.1.stall x.1.send
theorem InQ.kept {w w':World} {lo:Nat} {x:InX} (h:InQ w lo x) (hk:∀k,lo≤k→k<w.heap.size→w'.heap[k]? = w.heap[k]?):InQ w' lo x:=InO.kept h hk
theorem InQ.rebase {w:World} {lo lo':Nat} {x:InX} (h:InQ w lo x) (hl:lo' ≤ lo):InQ w lo' x:=⟨h.o1.rebase hl,h.o2.rebase hl,h.o3.rebase hl,h.l1,h.l2,h.l3,h.n12,h.n23⟩
theorem InQ.push {w w':World} {lo lo':Nat} {v:Value} {xs:List InX} {x:InX} (h:InQ w lo x) (ho:Owns w lo' 64 3 rowX v xs) (hk:∀b,b<w.heap.size→v.ownBlock≠some b→w'.heap[b]? = w.heap[b]?):InQ w' lo x:=by
 have key:∀{u:Value} {ys:List Bool},Owns w lo 4 1 rowB u ys→Owns w' lo 4 1 rowB u ys:=fun hu=>OwnR.kept hu fun j hj=>hk j (OwnR.lt hu j hj).2 (fun e=>Owns.apartT hu ho (by decide) j hj e)
 exact⟨key h.o1,key h.o2,key h.o3,h.l1,h.l2,h.l3,h.n12,h.n23⟩
theorem InQ.inV {w:World} {lo:Nat} {x:InX} (h:InQ w lo x):InV w w.heap.size (.agg #[.slice (some ⟨x.2.1,0,none⟩) 3 3,.slice (some ⟨x.2.2.1,0,none⟩) 4 4,.slice (some ⟨x.2.2.2,0,none⟩) 3 3]) x.1:=by
 have h1:=h.o1.arr zJ5 (by rw[h.l1];omega);have h2:=h.o2.arr zJ5 (by rw[h.l2];omega);have h3:=h.o3.arr zJ5 (by rw[h.l3];omega);refine⟨⟨some ⟨x.2.1,0,none⟩,3,some ⟨x.2.2.1,0,none⟩,4,some ⟨x.2.2.2,0,none⟩,3,by rw[h.l1,h.l2,h.l3],?_,?_,?_⟩,h.l1,h.l2,h.l3⟩
 ·rw[h.l1];exact h1
 ·rw[h.l2];exact h2
 ·rw[h.l3];exact h3
theorem ins_of {w:World} {lo lo':Nat} {v:Value} {xs:List InX} (ho:Owns w lo' 64 3 rowX v xs) (hx:∀x∈xs,InQ w lo x) (hl:xs.length≤1000000):Ins w w.heap.size v (xs.map (·.1)):=by
 refine⟨xs.map fun x=>.agg #[.slice (some ⟨x.2.1,0,none⟩) 3 3,.slice (some ⟨x.2.2.1,0,none⟩) 4 4,.slice (some ⟨x.2.2.2,0,none⟩) 3 3],?_,by simp,fun k hk d=>?_⟩
 ·rw[List.map_map];exact ho.arr rowX_len (by omega)
 ·simp only[List.length_map]at hk;have e:=(hx _ (List.getElem_mem hk)).inV;simpa[List.getD,hk]using e
def InsDr (r B:Nat) (bs:List Nat) (p:Nat) (w:World) (e:Ending) (w':World):Prop :=
 ∃v xs q,e=.returned v∧Owns w' w.heap.size 64 3 rowX v xs∧(∀x∈xs,InQ w' w.heap.size x)∧xs.length≤89∧q≤p+1000∧RdAt w' r B bs q∧Touch r w w'
set_option maxRecDepth 4000 in
theorem l20Ins_any (r B : Nat) (bs : List Nat) (p : Nat) (w : World) (h : RdAt w r B bs p) (hp : p ≤ 800000000) :
  Calls Tryz.prog 57 #[.pointer (some ⟨r,0,none⟩),.int .i64 90] w (InsDr r B bs p w):=by
 have hrw:=h.lt;have HR0:=hid (h.alloc (.cells #[] 64));clear h
 go_enter Tryz.func57,Tryz.ntmps57
 go_upto_region 2 with fail
 obtain⟨w1,hw1⟩:∃W,W=w.alloc (.cells #[] 64):=⟨_,rfl⟩
 have HO1:=hid (show Owns w1 w.heap.size 64 3 rowX (.slice (some ⟨w.heap.size,0,none⟩) 0 0) [] by rw[hw1];exact Owns.lit (Nat.le_refl _));have hb1:Below w.heap.size w w1:=by rw[hw1];exact(Below.refl _ _).alloc (Nat.le_refl _) _
 have hz1:w1.heap.size=w.heap.size+1:=by rw[hw1];simp
 rw[←hw1]at HR0 ⊢;have HB1:=hid hb1;clear hw1 hb1
 go_wp2_with (first
  |(go_at_call 103;(with_reducible refine(zB7 r B bs p 4 _ (HR0.out.alloc _) (by omega) (by omega) (by omega)).mono ?_);rintro e w2 ⟨z', rfl,z0,z1,h2,ht2⟩;obtain⟨z,rfl⟩:=Int.eq_ofNat_of_zero_le z0;have hz:z<4:=(by omega);obtain⟨y,hl1,hy⟩:=tab4 2 3 5 20 hz;have hl2:=zF4 hl1;clear hl1 hz z0;have tB:=Touch.tab ht2 (by omega) z _ hl2;rw[hz1]at tB;have HT2:=hid (((Touch.of_below HB1.out (Nat.le_refl _)).alloc _).trans ht2);have HR2:=hid h2;have hs2:=HT2.out.size;have HO2:=hid (((HO1.out).allocd (.cells #[.int .i64 2,.int .i64 3,.int .i64 5,.int .i64 20] 3)).touch ht2 hrw);clear h2 ht2 hl2)
  |(go_at_call 103;(with_reducible refine(zB7 r B bs (p+1) 90 _ HR2.out (by omega) (by omega) (by omega)).mono ?_);rintro e w3 ⟨m', rfl,m0,m1,h3,ht3⟩;obtain⟨m,rfl⟩:=Int.eq_ofNat_of_zero_le m0;have HT3:=hid (HT2.out.trans ht3);have HR3:=hid h3;have HO3:=hid (HO2.out.touch ht3 hrw);clear h3 ht3 tB m0))
 have hy1:1≤y:=by omega
 have hy2:y≤1099511627776:=by omega
 have hm:m≤89:=by omega
 clear hy hz1
 go_loopw [5,7] (fun v i wr=>∃(k q:Nat) (xs:List InX),i=.int .i64 (k:Nat)∧k+xs.length=m∧q≤p+2+10 * xs.length∧RdAt wr r B bs q∧Owns wr w.heap.size 64 3 rowX v xs∧(∀x∈xs,InQ wr w.heap.size x)∧Touch r w wr) (fun _ i _=>(intOf i).toNat)
 case atStart=>exact⟨m,p+1+1,[],rfl,by simp,by simp,HR3.out,HO3.out,(fun x hx=>by cases hx),HT3.out⟩
 case round=>
  clear HR3 HO3 HT3 HO2 HT2 HR2 HO1 HR0 HB1;obtain⟨k,q,xs,rfl,hk,hq,hrd,ho,hxs,ht⟩:=hrel;have HO:=hid ho;have HT:=hid ht;have HRD:=hid hrd;have HXS:=hid hxs;have hxl:xs.length≤89:=by omega
  have hwr:w.heap.size≤wr.heap.size:=ht.size;have HXL:=hid hxl;have HK:=hid hk;clear ho ht hrd hxs;by_cases hlt:0<k
  ·have hki:(0:Int)<(k:Int):=by omega
   have hk89:k≤89:=by omega
   clear hxl hk
   go_wp2_with (first
    |(go_at_call 105;(with_reducible refine(l20In_any r B bs q y _ HRD.out (by have:=HXL.out;omega) hy1 hy2).mono ?_);rintro e w4 ⟨g1,g2,g3,ra,za,sa,q4,rfl,ho4,hq4,h4,ht4⟩;have HO4:=hid (HO.out.touch ht4 hrw);have HXS4:=hid (fun x hx=>(HXS.out x hx).kept (w':=w4) fun k h1 h2=>ht4.block k h2 (by omega));have HT4:=hid (HT.out.trans ht4);have HIN:=hid (show InQ w4 w.heap.size (⟨ra,za,sa⟩,g1,g2,g3) from InQ.rebase ho4 hwr);have HR4:=hid h4;have HQ4:=hid hq4;have hs4:=ht4.size;clear ho4 hq4 h4 ht4)
    |(at_builtin;go_must (refine zC4 elem_in rowX rowX_len ((⟨ra,za,sa⟩,g1,g2,g3):InX) (rowX_one _) w4 rfl _ _ rfl w.heap.size _ xs (by rfl) HO4.out _ (by rfl) (by rfl) (by have:=HXL.out;omega) (by have:=HXL.out;omega) (by omega) ?_);intro v' w5 ho5 hz5 hk5 hv5 hb5;have HO5:=hid ho5;have HIN5:=hid (HIN.out.push HO4.out hk5);have HXS5:=hid (fun x hx=>(HXS4.out x hx).push HO4.out hk5);have HT5:=hid (HT4.out.bel hb5 (Nat.le_refl _));have HR5:=hid (HR4.out.kept hb5 hrw);clear ho5 hz5 hk5 hv5 hb5))
   go_roundw
   case rel => exact ⟨k - 1, q4, xs ++ [(⟨ra, za, sa⟩, g1, g2, g3)], by congr 1; omega, by have := HK.out; simp; omega, by have := HQ4.out; simp; omega, HR5.out, HO5.out, fun x hx => by
    rcases List.mem_append.1 hx with hx|hx
    ·exact HXS5.out x hx
    ·rw[List.mem_singleton.1 hx];exact HIN5.out,HT5.out⟩
   case measure=>simp[intOf];omega
  ·obtain rfl:k=0:=by omega
   go_wp2_with fail
   go_ret
   exact⟨_,xs,q,rfl,HO.out,HXS.out,HXL.out,by omega,HRD.out,HT.out⟩
theorem cells_ne {w:World} {g g' T T':Nat} {cs cs':Array Value} (h:w.heap[g]? = some (.cells cs T (0,0))) (h':w.heap[g']? = some (.cells cs' T' (0,0))) (hT:T≠T'):g≠g':=by
 intro e;subst e;rw[h]at h';simp only[Option.some.injEq,Obj.cells.injEq]at h';exact hT h'.2.1
set_option maxRecDepth 20000 in
theorem zG7 {ops : Array Oper} {rest : List Oper} {a : Act} {w : World} {Q : Exit → Act → World → Prop} (d : Option Nat) (ty : Nat) (pos : String) (aft : Array Edge) (t : Nat)
  {x0 x1 x2 x3 x4 x5 x6:Value} (hx:a.tmps.getD t undef=.agg #[x0,x1,x2,x3,x4,x5,x6]) (h1:(#[x0,x1,x2,x3,x4,x5,x6]:Array Value).all (·.oneCell')=true)
  (h:wpList Tryz.prog ops Q rest (a.put d (.slice (some ⟨w.heap.size,0,none⟩) 1 1)) (w.alloc (.cells #[x0,x1,x2,x3,x4,x5,x6] 69))) :
  wpList Tryz.prog ops Q ({ dst:=d,op:=.buildSlice 70 1 #[(0,.tmp t)],type:=ty,pos:=pos,after:=aft,guard:=none }::rest) a w:=by
 refine wpList_plain rfl fun K hK=>?_
 have h2:=hK _ _ h;obtain⟨tmps,defers⟩:=a;simp only[Array.getD_eq_getD_getElem?]at hx;go_simp;exact h2
theorem one7r (rq:Rq) (da la:Option Addr) (dn dc ln lc:Nat):∀u∈rowQ (rq,.slice da dn dc,.slice la ln lc),u.oneCell' = true:=by
 intro u hu;simp only[rowQ,List.mem_cons,List.not_mem_nil,or_false]at hu;rcases hu with rfl|rfl|rfl|rfl|rfl|rfl|rfl <;> rfl
end Go.Proofs.YthnlalffjepdaaaGreat
