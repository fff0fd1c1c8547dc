/- A cycle: may's region 4: the id of what one asks first, in a box of its own (printed by wip/gen_may4.py). -/
import Derived.Test.YtgkdoehkmbhfiaaGreatQTc
import Derived.Test.YtgkdoehkmbhfiaaGreatQDr7
import Derived.Test.YtgkdoehkmbhfiaaGreatQDl
import Derived.Test.YtgkdoehkmbhfiaaGreatQWrd
import Derived.Deep.RegionLaw
import Derived.Deep.CutRange
set_option linter.unusedVariables false
set_option linter.unusedSimpArgs false
set_option maxHeartbeats 16000000
namespace Go.Proofs.YtgkdoehkmbhfiaaGreat
open Go.RowKit
theorem mayTest_any {c : Cfg} (hbus : Bus c) {w : World} {B : Nat} {ma : Option Addr} {mn mk lb lo lc pb po pc : Nat} {Q : Nat → Option Addr} {K : Nat → Nat} (h : BusO w B c ma mn mk lb lo lc pb po pc Q K) (hB : B ≤ w.heap.size) {who s : Nat} {id : Int} {j : Jb} (hw : who < 3) (hn : j.n < (c.prog who).length)
  {g1 g2 g3 g4:Nat} (b1:BusB w g1 ma mn mk lb lo lc pb po pc) (b2:IntB w g2 who) (b3:IntB w g3 id) (b4:IntB w g4 s) :
  Calls Tryz.prog 171 #[.agg #[.int .i64 j.who,.int .i64 j.n,.int .i64 j.left],.pointer (some ⟨g1,0,none⟩),.pointer (some ⟨g2,0,none⟩),.pointer (some ⟨g3,0,none⟩),.pointer (some ⟨g4,0,none⟩)] w fun e w' => e=.returned (.bool (mayB c who s id j))∧Below w.heap.size w w':=by
 obtain⟨w0,hw0⟩:∃W,W=w.alloc (.cells #[.int .i64 j.who,.int .i64 j.n,.int .i64 j.left] 101):=⟨_,rfl⟩
 have hb0:Below w.heap.size w w0:=by rw[hw0];exact(Below.refl _ _).alloc (Nat.le_refl _) _
 have hj:w0.heap[w.heap.size]? = some (.cells #[.int .i64 j.who,.int .i64 j.n,.int .i64 j.left] 101 (0,0)):=by rw[hw0];exact zA8 _ _ rfl
 have hz0:w.heap.size<w0.heap.size:=zA3 hj;have HO:=hid (h.below (hb0.mono hB));have B1:=hid (b1.below hb0 (zA3 b1));have B2:=hid (b2.below hb0 (zA3 b2));have B3:=hid (b3.below hb0 (zA3 b3));have B4:=hid (b4.below hb0 (zA3 b4));obtain⟨x0,x1,x2,x3⟩:=B1.out.cells;obtain⟨y0,y1⟩:=B2.out.cells;obtain⟨z0,z1⟩:=B3.out.cells;obtain⟨u0,u1⟩:=B4.out.cells;obtain⟨j0,j1,j2⟩:w0.cell? ⟨w.heap.size,0,none⟩=some (.int .i64 j.who)∧w0.cell? ⟨w.heap.size,1,none⟩=some (.int .i64 j.n)∧w0.cell? ⟨w.heap.size,2,none⟩=some (.int .i64 j.left):=by refine⟨?_,?_,?_⟩ <;> simp[World.cell?,hj]
 have HB0:=hid hb0;have HBZ:=hid hB;have HJ:=hid hj;obtain⟨y,hy⟩:∃y,y=c.id who j.n:=⟨_,rfl⟩
 have HY:=hid hy;have hwi:=hid hw;have hni:=hid hn;by_cases hq:y=id
 ·have e1:(y==id)=true:=by simpa using hq
  have HM:=hid (show mayB c who s id j=(j.left != s) by unfold mayB;rw[←hy,e1];rfl);have e2:((j.left:Int) != (s:Int))=(j.left != s):=by rw[Bool.eq_iff_iff];simp only[bne_iff_ne];omega
  clear hy hq hj hb0
  go_enter Tryz.func171,Tryz.ntmps171
  go_upto_region 1 with fail
  rw[←hw0];clear hw0
  go_region_held3 (fun w' => (w'.cell? ⟨g1, 0, none⟩ = some (.slice ma mn mk) ∧ w'.cell? ⟨g1, 1, none⟩ = some (.slice (some ⟨lb, lo, none⟩) 4 lc) ∧ w'.cell? ⟨g1, 2, none⟩ = some (.slice (some ⟨pb, po, none⟩) 3 pc)) ∧ w'.cell? ⟨g2, 0, none⟩ = some (.int .i64 who) ∧ w'.cell? ⟨g3, 0, none⟩ = some (.int .i64 id) ∧ w'.cell? ⟨g4, 0, none⟩ = some (.int .i64 s) ∧ w'.cell? ⟨w.heap.size, 1, none⟩ = some (.int .i64 j.n) ∧ w'.cell? ⟨w.heap.size, 2, none⟩ = some (.int .i64 j.left))
   (first|exact s6|go_keep)
   (first
    |(go_at_call 107;(with_reducible refine(id_any hbus (B:=B) (HO.out.below (Below.refl _ _).drew) (le_drew' (Nat.le_trans HBZ.out HB0.out.size)) hwi.out hni.out).mono ?_);rw[←HY.out];rintro e w5 ⟨rfl,hb5⟩;have hb5':=(show Below w0.heap.size w0 w0.drew from(Below.refl _ _).drew).trans hb5;have HB5:=hid hb5';have s6:=And.intro (And.intro ((hb5'.cell (p:=⟨g1,_,none⟩) x3).trans x0) (And.intro ((hb5'.cell (p:=⟨g1,_,none⟩) x3).trans x1) ((hb5'.cell (p:=⟨g1,_,none⟩) x3).trans x2))) (And.intro ((hb5'.cell (p:=⟨g2,_,none⟩) y1).trans y0) (And.intro ((hb5'.cell (p:=⟨g3,_,none⟩) z1).trans z0) (And.intro ((hb5'.cell (p:=⟨g4,_,none⟩) u1).trans u0) (And.intro ((hb5'.cell (p:=⟨w.heap.size,_,none⟩) hz0).trans j1) ((hb5'.cell (p:=⟨w.heap.size,_,none⟩) hz0).trans j2)))));clear hb5 hb5'))
  go_wp2_with fail
  go_ret
  exact⟨by rw[HM.out];rfl,HB0.out.trans (HB5.out.mono HB0.out.size)⟩
 ·have e1:(y==id)=false:=by simpa using hq
  have HM:=hid (show mayB c who s id j=false by unfold mayB;rw[←hy,e1];rfl);exact mayTestF_any hbus HO.out HB0.out (Nat.le_trans hB hb0.size) HJ.out x0 x1 x2 x3 y0 y1 z0 z1 hwi.out hni.out hy e1 HM hw0
end Go.Proofs.YtgkdoehkmbhfiaaGreat
namespace Go.Proofs.YtgkdoehkmbhfiaaGreat
open Go.RowKit
attribute [local go_sem ↓] Go.wp_at_zero Go.wp_at_succ
theorem sg {l:Array Bool} {i j:Nat} (h:i≠j):(l.setIfInBounds i true).getD j false=l.getD j false:=Go.getD_set_ne false h
theorem sgi {l:Array Bool} {i:Nat} (h:l.getD i true=false):(l.setIfInBounds i true).getD i false=true:=by
 have hlt:i<l.size:=by
  rcases Nat.lt_or_ge i l.size with h1|h1
  ·exact h1
  ·simp[Array.getElem?_eq_none h1]at h
 simp[hlt]
def bd (b:Bool):Nat:=if b=true then 0 else 8
theorem bd_true:bd true=0:=rfl
theorem bd_false:bd false=8:=rfl
theorem zB9 {P : Program} {ops : Array Oper} {Q : Exit → Act → World → Prop} {i : Nat} {o : Oper} {I : Act → World → Prop} {a : Act} {w : World} (ho : ops[i]? = some o) (hg : o.guard = none)
  (h:∀K:Act→World→Prop,(∀a' w', I a' w' → K a' w')→o.wp P a w K Q):wpOp P ops Q i I a w:=wpOp_wp ho hg (h _ fun _ _ h=>h)
def req1A (r:Nat) (n:Int) (s:Nat) (u5 u7 u8 u9 u10 u11 u12 u13 u14 u15 u16 u17 u18 u19 u20 u21 u22:Value):Act:={ tmps:=#[.pointer (some ⟨r,0,none⟩),.int .i64 n,undef,undef,.pointer (some ⟨s,0,none⟩),u5,undef,u7,u8,u9,u10,u11,u12,u13,u14,u15,u16,u17,u18,u19,u20,u21,u22,undef,undef,undef,undef,undef,undef,undef,undef,undef,undef,undef,undef,undef,undef,undef,undef,undef,undef,undef,undef,undef,undef,undef,undef,undef,undef,undef,undef,undef,undef,undef,undef,undef,undef,undef,undef,undef,undef,undef,undef,undef,undef,undef,undef,undef,undef,undef,undef,undef,undef,undef,undef,undef,undef,undef,undef,undef,undef,undef,undef,undef,undef,undef,undef,undef,undef,undef,undef,undef,undef,undef,undef,undef,undef,undef,undef,undef,undef,undef,undef,undef,undef,undef,undef,undef,undef,undef,undef,undef,undef,undef,undef,undef,undef,undef,undef,undef,undef,undef,undef,undef,undef,undef,undef,undef,undef,undef,undef,undef,undef,undef,undef,undef,undef,undef,undef,undef,undef,undef,undef,undef,undef,undef,undef,undef,undef,undef,undef,undef,undef],defers:=[] }
def req1I (r B:Nat) (bs:List Nat) (p:Nat) (n:Int) (s:Nat) (w0:World) (listed:Array Bool) (a:Act) (w':World):Prop :=
 (listed.getD 17 false = false ∧ ∃ u5 u7 u8 u9 u10 u11 u12 u13 u14 u15 u16 u17 u18 u19 u20 u21 u22 : Value, a = req1A r n s u5 u7 u8 u9 u10 u11 u12 u13 u14 u15 u16 u17 u18 u19 u20 u21 u22 ∧
   (listed.getD 0 false=true→u7=.pointer (some ⟨r,0,none⟩)) ∧
   (listed.getD 1 false=true→∃x:Int,u8=.int .i64 x∧0≤x∧x<2) ∧
   (listed.getD 2 false=true→u9=.pointer (some ⟨r,0,none⟩)) ∧
   (listed.getD 3 false=true→∃x:Int,u10=.int .i64 x∧0≤x∧x<4) ∧
   (listed.getD 4 false=true→∃x:Int,u11=.int .i64 x∧1≤x∧x≤4) ∧
   (listed.getD 5 false=true→u12=.pointer (some ⟨r,0,none⟩)) ∧
   (listed.getD 6 false=true→∃x:Int,u13=.int .i64 x∧0≤x∧x≤63) ∧
   (listed.getD 7 false=true→∃g,u14=.slice (some ⟨g,0,none⟩) 4 4∧w0.heap.size≤g∧TW w' g #[.int .i64 1,.int .i64 1,.int .i64 2,.int .i64 4]) ∧
   (listed.getD 8 false=true→u15=.pointer (some ⟨r,0,none⟩)) ∧
   (listed.getD 9 false=true→∃z:Nat,u16=.int .i64 z∧z<4) ∧
   (listed.getD 10 false=true→∃g z,u17=.pointer (some ⟨g,z,none⟩)∧z<4∧w0.heap.size≤g∧TW w' g #[.int .i64 1,.int .i64 1,.int .i64 2,.int .i64 4]) ∧
   (listed.getD 11 false=true→∃y:Int,u18=.int .i64 y∧(y=1∨y=2∨y=4)) ∧
   (listed.getD 12 false=true→u19=.pointer (some ⟨r,0,none⟩)) ∧
   (listed.getD 13 false=true→∃x:Int,u20=.int .i64 x) ∧
   (listed.getD 14 false=true→∃b:Bool,u21=.bool b) ∧
   (listed.getD 15 false=true→∃(id kind addr many:Int) (wp:Bool),u22=.agg #[.int .i64 id,.int .i64 kind,.int .i64 addr,.int .i64 many,.bool wp,.slice none 0 0,.slice none 0 0]∧0≤id∧id<2∧1≤kind∧kind≤4∧0≤addr∧addr≤63∧(many=1∨many=2∨many=4)) ∧
   (listed.getD 16 false=true→∃g,u5=.pointer (some ⟨g,0,none⟩)∧w0.heap.size≤g∧qz w' g) ∧
   (∃q,RdAt w' r B bs q∧q+bd (listed.getD 1 false)+bd (listed.getD 3 false)+bd (listed.getD 6 false)+bd (listed.getD 9 false)+bd (listed.getD 13 false)≤p+40)∧Touch r w0 w') ∨
 ((∀j,j<18→listed.getD j false=true)∧∃u5 u7 u8 u9 u10 u11 u12 u13 u14 u15 u16 u17 u18 u19 u20 u21 u22:Value,a=req1A r n s u5 u7 u8 u9 u10 u11 u12 u13 u14 u15 u16 u17 u18 u19 u20 u21 u22∧∃g id kind addr many wp q,u5=.pointer (some ⟨g,0,none⟩)∧w0.heap.size≤g∧QW w' g id kind addr many wp (.slice none 0 0) (.slice none 0 0)∧0≤id∧id<2∧1≤kind∧kind≤4∧0≤addr∧addr≤63∧(many=1∨many=2∨many=4)∧q≤p+40∧RdAt w' r B bs q∧Touch r w0 w')
def Req1 (r B:Nat) (bs:List Nat) (p:Nat) (w0:World) (v:Value) (wc:World):Prop :=
 ∃g id kind addr many wp q,v=.pointer (some ⟨g,0,none⟩)∧w0.heap.size≤g∧QW wc g id kind addr many wp (.slice none 0 0) (.slice none 0 0)∧0≤id∧id<2∧1≤kind∧kind≤4∧0≤addr∧addr≤63∧(many=1∨many=2∨many=4)∧q≤p+40∧RdAt wc r B bs q∧Touch r w0 wc
def ReqP (r B:Nat) (bs:List Nat) (p:Nat) (n:Int) (w:World) (e:Ending) (w':World):Prop :=
 ∃ dv lv rq q, e = .returned (.agg #[.int .i64 rq.id, .int .i64 rq.kind, .int .i64 rq.addr, .int .i64 rq.many, .bool rq.wrap, dv, lv]) ∧ Owns w' w.heap.size 3 1 rowI dv rq.data ∧ Owns w' w.heap.size 3 1 rowI lv rq.lanes ∧
  (I64 rq.id∧I64 rq.kind∧I64 rq.addr∧I64 rq.many∧(∀x∈rq.data,I64 x)∧(∀x∈rq.lanes,I64 x))∧rq.data.length≤9∧rq.lanes.length≤9∧(9000≤n→reqOk rq=true)∧q≤p+100∧RdAt w' r B bs q∧Touch r w w'
def RQ (r B:Nat) (bs:List Nat) (w0:World) (g:Nat) (id kind addr many:Int) (wp:Bool) (dv lv:Value) (q:Nat) (w:World):Prop :=
 QW w g id kind addr many wp dv lv∧RdAt w r B bs q∧Touch r w0 w
def Req2 (r B:Nat) (bs:List Nat) (p g:Nat) (w0:World) (id kind:Int) (wp:Bool) (wd:World):Prop :=
 ∃addr many q,0≤addr∧addr≤63∧(many=1∨many=2∨many=4)∧(3≤kind→many=1)∧q≤p+41∧RQ r B bs w0 g id kind addr many wp (.slice none 0 0) (.slice none 0 0) q wd
def Req4 (r B:Nat) (bs:List Nat) (p g:Nat) (w0:World) (id kind addr many:Int) (wp:Bool) (wd:World):Prop :=
 ∃dv lv ds ls q,reqOk ⟨id,kind,addr,many,wp,ds,ls⟩=true∧ds.length≤4∧ls.length≤4∧Owns wd (g+1) 3 1 rowI dv ds∧Owns wd (g+1) 3 1 rowI lv ls∧Apart dv lv∧q≤p+60∧RQ r B bs w0 g id kind addr many wp dv lv q wd
theorem RQ.touch {r B:Nat} {bs:List Nat} {w0:World} {g:Nat} {id kind addr many:Int} {wp:Bool} {dv lv:Value} {q q':Nat} {w w':World} (h:RQ r B bs w0 g id kind addr many wp dv lv q w) (hg:g≠r) (hr:RdAt w' r B bs q') (ht:Touch r w w'):RQ r B bs w0 g id kind addr many wp dv lv q' w' :=
 ⟨h.1.touch ht hg,hr,h.2.2.trans ht⟩
theorem RQ.drewd {r B:Nat} {bs:List Nat} {w0:World} {g:Nat} {id kind addr many:Int} {wp:Bool} {dv lv:Value} {q:Nat} {w:World} (h:RQ r B bs w0 g id kind addr many wp dv lv q w):RQ r B bs w0 g id kind addr many wp dv lv q w.drew:=⟨h.1.drewd,h.2.1.drewd,h.2.2.drewd⟩
theorem RQ.alloc {r B:Nat} {bs:List Nat} {w0:World} {g:Nat} {id kind addr many:Int} {wp:Bool} {dv lv:Value} {q:Nat} {w:World} (h:RQ r B bs w0 g id kind addr many wp dv lv q w) (o:Obj):RQ r B bs w0 g id kind addr many wp dv lv q (w.alloc o):=⟨h.1.alloc _,h.2.1.alloc _,h.2.2.alloc _⟩
theorem RQ.below {r B:Nat} {bs:List Nat} {w0:World} {g:Nat} {id kind addr many:Int} {wp:Bool} {dv lv:Value} {q:Nat} {w w':World} (h:RQ r B bs w0 g id kind addr many wp dv lv q w) (hb:Below (g+1) w w') (hr:r<g) (hg:w0.heap.size≤g):RQ r B bs w0 g id kind addr many wp dv lv q w' :=
 ⟨h.1.below hb (by omega),h.2.1.kept hb (by omega),h.2.2.bel hb (by omega)⟩
theorem RQ.set2 {r B:Nat} {bs:List Nat} {w0:World} {g:Nat} {id kind addr many:Int} {wp:Bool} {dv lv:Value} {q:Nat} {w:World} (h:RQ r B bs w0 g id kind addr many wp dv lv q w) (hr:r<w0.heap.size) (hg:w0.heap.size≤g) (x:Int):RQ r B bs w0 g id kind x many wp dv lv q (w.setCell ⟨g,2,none⟩ (.int .i64 x)):=⟨h.1.set2 x,h.2.1.setNew hr hg _ _,h.2.2.setNew hg _⟩
theorem RQ.set0 {r B:Nat} {bs:List Nat} {w0:World} {g:Nat} {id kind addr many:Int} {wp:Bool} {dv lv:Value} {q:Nat} {w:World} (h:RQ r B bs w0 g id kind addr many wp dv lv q w) (hr:r<w0.heap.size) (hg:w0.heap.size≤g) (x:Int):RQ r B bs w0 g x kind addr many wp dv lv q (w.setCell ⟨g,0,none⟩ (.int .i64 x)):=⟨h.1.set0 x,h.2.1.setNew hr hg _ _,h.2.2.setNew hg _⟩
theorem RQ.set1 {r B:Nat} {bs:List Nat} {w0:World} {g:Nat} {id kind addr many:Int} {wp:Bool} {dv lv:Value} {q:Nat} {w:World} (h:RQ r B bs w0 g id kind addr many wp dv lv q w) (hr:r<w0.heap.size) (hg:w0.heap.size≤g) (x:Int):RQ r B bs w0 g id x addr many wp dv lv q (w.setCell ⟨g,1,none⟩ (.int .i64 x)):=⟨h.1.set1 x,h.2.1.setNew hr hg _ _,h.2.2.setNew hg _⟩
theorem RQ.set3 {r B:Nat} {bs:List Nat} {w0:World} {g:Nat} {id kind addr many:Int} {wp:Bool} {dv lv:Value} {q:Nat} {w:World} (h:RQ r B bs w0 g id kind addr many wp dv lv q w) (hr:r<w0.heap.size) (hg:w0.heap.size≤g) (x:Int):RQ r B bs w0 g id kind addr x wp dv lv q (w.setCell ⟨g,3,none⟩ (.int .i64 x)):=⟨h.1.set3 x,h.2.1.setNew hr hg _ _,h.2.2.setNew hg _⟩
theorem RQ.set5 {r B:Nat} {bs:List Nat} {w0:World} {g:Nat} {id kind addr many:Int} {wp:Bool} {dv lv:Value} {q:Nat} {w:World} (h:RQ r B bs w0 g id kind addr many wp dv lv q w) (hr:r<w0.heap.size) (hg:w0.heap.size≤g) (x:Value):RQ r B bs w0 g id kind addr many wp x lv q (w.setCell ⟨g,5,none⟩ x):=⟨h.1.set5 x,h.2.1.setNew hr hg _ _,h.2.2.setNew hg _⟩
theorem RQ.set6 {r B:Nat} {bs:List Nat} {w0:World} {g:Nat} {id kind addr many:Int} {wp:Bool} {dv lv:Value} {q:Nat} {w:World} (h:RQ r B bs w0 g id kind addr many wp dv lv q w) (hr:r<w0.heap.size) (hg:w0.heap.size≤g) (x:Value):RQ r B bs w0 g id kind addr many wp dv x q (w.setCell ⟨g,6,none⟩ x):=⟨h.1.set6 x,h.2.1.setNew hr hg _ _,h.2.2.setNew hg _⟩
theorem RQ.setc {r B:Nat} {bs:List Nat} {w0:World} {g:Nat} {id kind addr many:Int} {wp:Bool} {dv lv:Value} {q:Nat} {w:World} (h:RQ r B bs w0 g id kind addr many wp dv lv q w) (hr:r<w0.heap.size) (b o:Nat) (hb:w0.heap.size≤b) (hg:g≠b) (x:Value):RQ r B bs w0 g id kind addr many wp dv lv q (w.setCell ⟨b,o,none⟩ x):=⟨h.1.setc _ _ _ hg,h.2.1.setNew hr hb _ _,h.2.2.setNew hb _⟩
theorem step_pushN {α : Type} {ops : Array Oper} {o : Oper} {a : Act} {K : Act → World → Prop} {Q : Exit → Act → World → Prop} {Z : Prop} {T e sz by_ : Nat} (E : Elem T e sz by_) (f : α → List Value) (hf : ∀ x, (f x).length = sz) (h1 : ∀ x, ∀ u ∈ f x, u.oneCell' = true)
  (X:World) (hgd:o.guard=none) (s x:Operand) (ho:o.op=.call { callee:=.builtin .append,args:=#[s,x],argTypes:=#[T,T] })
  (base:Nat) (v:Value) (xs:List α) (y:α) (hs:a.eval s=v) (hown:Owns X base e sz f v xs) (cs:Array Value) (hcs:cs.toList=f y) (G c:Nat) (hx:a.eval x=.slice (some ⟨G,0,none⟩) 1 c) (hG:G=X.heap.size)
  (hlen:(xs.length+1) * by_≤140737488355328) (hlen2:xs.length+1≤9223372036854775807) (hbase:base≤X.heap.size)
  (h:∀v' w', Owns w' base e sz f v' (xs++[y])→Below base X w' → (∀k,k<X.heap.size→some k≠v.ownBlock→w'.heap[k]? = X.heap[k]?)→(∀k,v'.ownBlock=some k→v.ownBlock=some k∨X.heap.size≤k)→K (a.put o.dst v') w') :
  if Region.wanted o (yielded ops a.tmps)=true then Oper.wp Tryz.prog o a (X.alloc (.cells cs e)) K Q else Z:=by
 have hw:Region.wanted o (yielded ops a.tmps)=true:=by simp[Region.wanted,hgd]
 rw[if_pos hw];obtain⟨ht,i,z,hi,hz,hsize,hby,hzs,hsz⟩:=E;refine zG6 s x T ho base e i z sz by_ ht hi hz hsize hby hzs v xs.length (xs.flatMap f) hs (OwnR.alloc hown _) ⟨G,0,none⟩ 1 c (f y) hx (by rw[hf];omega) ?_ (h1 y) (by unfold maxLen;omega) hlen (by simp;omega) ?_
 ·intro j u hj;rw[Addr.add_lit,Nat.zero_add,hG];exact news_alloc (f y) hcs j u hj
 ·intro v' w' ho' hg _ hb;have hb0:Below base X (X.alloc (.cells cs e)):=(Below.refl _ _).alloc hbase _;refine h v' w' ?_ (hb0.trans ((Below.refl _ _).grown hg (by simp;omega) (fun k hk=>(OwnR.lt hown k hk).1))) (fun k hk hne=>?_) (fun k hk=>?_)
  ·unfold Owns;simpa using ho'
  ·rw[hg.block k (by simp;omega) hne];exact((Below.refl X.heap.size X).alloc (Nat.le_refl _) (.cells cs e)).block k hk
  ·rcases hb with hb|hb
   ·exact .inl (by rw[←hb];exact hk)
   ·rw[hb]at hk;right;simp at hk;omega
theorem adr_ok3 {addr many:Int} {wp:Bool} (h0:0≤addr) (h1:addr≤63) (hm:many=1∨many=2∨many=4) (hw:wp=false→addr+many - 1≤63):adrOk addr many wp=true:=by
 simp only[adrOk,inB,Bool.and_eq_true,Bool.or_eq_true,decide_eq_true_eq,beq_iff_eq];refine⟨⟨⟨h0,h1⟩,by omega⟩,?_⟩;cases wp
 ·exact .inr (hw rfl)
 ·exact .inl rfl
theorem req_ok3 {id kind addr many : Int} {wp : Bool} {ds ls : List Int} (a0 : 0 ≤ id) (a1 : id < 2) (b0 : 1 ≤ kind) (b1 : kind ≤ 4) (ha : adrOk addr many wp = true) (hm : 3 ≤ kind → many = 1)
  (hd:(kind==2 || kind==4)=true→((ds.length:Int)=many∧(ls.length:Int)=many∧ds.all zB1=true∧ls.all (fun l=>inB l 0 3)=true)) (he:(kind==2 || kind==4)=false→ds=[]∧ls=[]):reqOk ⟨id,kind,addr,many,wp,ds,ls⟩=true:=by
 have hk:(kind==1 || kind==2 || many==1)=true:=by
  simp only[Bool.or_eq_true,beq_iff_eq];omega
 have h1:inB id 0 1=true:=by simp[inB];omega
 have h2:inB kind 1 4=true:=by simp[inB];omega
 by_cases hb:(kind==2 || kind==4)=true
 ·obtain⟨e1,e2,e3,e4⟩:=hd hb;have hw:zB8 ⟨id,kind,addr,many,wp,ds,ls⟩=true:=hb;simp only[reqOk,h1,h2,ha,hk,Bool.true_and,hw,if_true,e1,e2,e3,e4,beq_self_eq_true]
 ·have hb2:(kind==2 || kind==4)=false:=by simpa only[Bool.not_eq_true]using hb
  obtain⟨rfl,rfl⟩:=he hb2;have hw:zB8 ⟨id,kind,addr,many,wp,[],[]⟩=false:=hb2;simp only[reqOk,h1,h2,ha,hk,Bool.true_and,hw]
  rfl
theorem small64 {ds:List Int} (h:ds.all zB1=true):∀x∈ds,I64 x:=fun x hx=>by
 have:=List.all_eq_true.1 h x hx;simp only[zB1,inB,Bool.and_eq_true,decide_eq_true_eq]at this;unfold I64;omega
theorem lanes64 {ds:List Int} (h:ds.all (fun l=>inB l 0 3)=true):∀x∈ds,I64 x:=fun x hx=>by
 have:=List.all_eq_true.1 h x hx;simp only[inB,Bool.and_eq_true,decide_eq_true_eq]at this;unfold I64;omega
theorem req64 {id kind addr many:Int} {wp:Bool} {ds ls:List Int} (h:reqOk ⟨id,kind,addr,many,wp,ds,ls⟩=true):(∀x∈ds,I64 x)∧(∀x∈ls,I64 x):=by
 simp only[reqOk,Bool.and_eq_true]at h;have h2:=h.2;by_cases hw:zB8 ⟨id,kind,addr,many,wp,ds,ls⟩=true
 ·rw[if_pos hw]at h2;simp only[Bool.and_eq_true]at h2;exact⟨small64 h2.1.2,lanes64 h2.2⟩
 ·rw[if_neg hw]at h2;simp only[Bool.and_eq_true,beq_iff_eq,List.length_eq_zero_iff]at h2;obtain⟨rfl,rfl⟩:=h2;exact⟨by simp,by simp⟩
theorem all_app {p:Int→Bool} {xs:List Int} {y:Int} (h:xs.all p=true) (hy:p y=true):(xs++[y]).all p=true:=by
 simp[List.all_append,h,hy]
def zG8 (n : Nat) : Code → Option Code
 | .region id ops d=>if id=n then some (.region id ops d) else none
 | .seq a b => match zG8 n a with
  |some c=>some c
  |none=>zG8 n b
 | .loop c=>zG8 n c
 | .block _ c=>zG8 n c
 | .scope c=>zG8 n c
 | .cond _ a b => match zG8 n a with
  |some c=>some c
  |none=>zG8 n b
 |_=>none
noncomputable def req1Code:Code:=(Tryz.f83.body.bind (zG8 1)).getD .skip
set_option maxRecDepth 20000 in
theorem req1_region (r B : Nat) (bs : List Nat) (p : Nat) (n : Int) (s : Nat) (w0 : World) (h0 : RdAt w0 r B bs p) (hp : p ≤ 700000000) (hrw : r < w0.heap.size) (i5 i7 i8 i9 i10 i11 i12 i13 i14 i15 i16 i17 i18 i19 i20 i21 i22 : Value) {K : Act → World → Prop} {Q' : Exit → Act → World → Prop}
  (hK:∀(u5 u7 u8 u9 u10 u11 u12 u13 u14 u15 u16 u17 u18 u19 u20 u21 u22:Value) wc,Req1 r B bs p w0 u5 wc→K (req1A r n s u5 u7 u8 u9 u10 u11 u12 u13 u14 u15 u16 u17 u18 u19 u20 u21 u22) wc):req1Code.wp Tryz.prog (Exit.then K Q') (req1A r n s i5 i7 i8 i9 i10 i11 i12 i13 i14 i15 i16 i17 i18 i19 i20 i21 i22) w0:=by
 conv=>arg 2;whnf
 refine zM2 (req1I r B bs p n s w0) (by kernel_rfl) (by kernel_rfl) ?_ ?_ ?_
 ·refine .inl ⟨getD_replicate_false _ _,_,_,_,_,_,_,_,_,_,_,_,_,_,_,_,_,_,rfl,(fun h=>(by rw[getD_replicate_false]at h;cases h)),(fun h=>(by rw[getD_replicate_false]at h;cases h)),(fun h=>(by rw[getD_replicate_false]at h;cases h)),(fun h=>(by rw[getD_replicate_false]at h;cases h)),(fun h=>(by rw[getD_replicate_false]at h;cases h)),(fun h=>(by rw[getD_replicate_false]at h;cases h)),(fun h=>(by rw[getD_replicate_false]at h;cases h)),(fun h=>(by rw[getD_replicate_false]at h;cases h)),(fun h=>(by rw[getD_replicate_false]at h;cases h)),(fun h=>(by rw[getD_replicate_false]at h;cases h)),(fun h=>(by rw[getD_replicate_false]at h;cases h)),(fun h=>(by rw[getD_replicate_false]at h;cases h)),(fun h=>(by rw[getD_replicate_false]at h;cases h)),(fun h=>(by rw[getD_replicate_false]at h;cases h)),(fun h=>(by rw[getD_replicate_false]at h;cases h)),(fun h=>(by rw[getD_replicate_false]at h;cases h)),(fun h=>(by rw[getD_replicate_false]at h;cases h)),⟨p,h0.drewd,by simp only[getD_replicate_false,bd_false];omega⟩,(Touch.refl r w0).drewd⟩
 ·intro listed a w' i o hI hsz ho hl he;have hi:i<18:=(Array.getElem?_eq_some_iff.1 ho).1;rcases hI with hI|⟨hall,_⟩
  ·have e:i=0∨i=1∨i=2∨i=3∨i=4∨i=5∨i=6∨i=7∨i=8∨i=9∨i=10∨i=11∨i=12∨i=13∨i=14∨i=15∨i=16∨i=17:=by omega
   rcases e with rfl|rfl|rfl|rfl|rfl|rfl|rfl|rfl|rfl|rfl|rfl|rfl|rfl|rfl|rfl|rfl|rfl|rfl
   all_goals (have ho2:=ho;obtain rfl:=Option.some.inj ho2.symm;clear ho2)
   ·obtain⟨h17,u5,u7,u8,u9,u10,u11,u12,u13,u14,u15,u16,u17,u18,u19,u20,u21,u22,rfl,F0,F1,F2,F3,F4,F5,F6,F7,F8,F9,F10,F11,F12,F13,F14,F15,F16,⟨q,hq,hqb⟩,ht0⟩:=hI;refine zB9 ho rfl (fun K hK=>?_);unfold req1A;go_simp;exact hK _ _ (Or.inl ⟨by rw[sg (by decide)];exact h17,_,_,_,_,_,_,_,_,_,_,_,_,_,_,_,_,_,rfl,fun _=>rfl,cy F1 rfl,cy F2 rfl,cy F3 rfl,cy F4 rfl,cy F5 rfl,cy F6 rfl,cy F7 rfl,cy F8 rfl,cy F9 rfl,cy F10 rfl,cy F11 rfl,cy F12 rfl,cy F13 rfl,cy F14 rfl,cy F15 rfl,cy F16 rfl,⟨q,hq,by rw[sg (i:=0) (j:=1) (by decide),sg (i:=0) (j:=3) (by decide),sg (i:=0) (j:=6) (by decide),sg (i:=0) (j:=9) (by decide),sg (i:=0) (j:=13) (by decide)];exact hqb⟩,ht0⟩)
   ·obtain⟨h17,u5,u7,u8,u9,u10,u11,u12,u13,u14,u15,u16,u17,u18,u19,u20,u21,u22,rfl,F0,F1,F2,F3,F4,F5,F6,F7,F8,F9,F10,F11,F12,F13,F14,F15,F16,⟨q,hq,hqb⟩,ht0⟩:=hI;have l0:=he ⟨0,.data⟩ (by simp) rfl;have e:=F0 l0;subst e;refine zB9 ho rfl (fun K hK=>?_);unfold req1A;go_simp
    (with_reducible refine(zC9 r B bs q 2 w' hq (by omega) (by omega) (by omega)).mono ?_)
    rintro e w'' ⟨x,rfl,x0,x1,hq,ht⟩;have ht0:=ht0.trans ht
    go_wp2_with fail
    exact Or.inl ⟨by rw[sg (by decide)];exact h17,_,_,_,_,_,_,_,_,_,_,_,_,_,_,_,_,_,rfl,fun _=>rfl,fun _=>⟨x,rfl,x0,x1⟩,cy F2 rfl,cy F3 rfl,cy F4 rfl,cy F5 rfl,cy F6 rfl,fun hj=>(let ⟨g,e1,e2,e3⟩:=(cy F7 rfl hj);⟨g,e1,e2,e3.touch ht (by omega)⟩),cy F8 rfl,cy F9 rfl,fun hj=>(let ⟨g,z,e1,e0,e2,e3⟩:=(cy F10 rfl hj);⟨g,z,e1,e0,e2,e3.touch ht (by omega)⟩),cy F11 rfl,cy F12 rfl,cy F13 rfl,cy F14 rfl,cy F15 rfl,fun hj=>(let ⟨g,e1,e2,e3⟩:=(cy F16 rfl hj);⟨g,e1,e2,e3.touch ht (by omega)⟩),⟨_,hq,by rw[sgi hl,sg (i:=1) (j:=3) (by decide),sg (i:=1) (j:=6) (by decide),sg (i:=1) (j:=9) (by decide),sg (i:=1) (j:=13) (by decide)];rw[getD_both hl]at hqb;simp only[bd_true,bd_false]at hqb ⊢;omega⟩,ht0⟩
   ·obtain⟨h17,u5,u7,u8,u9,u10,u11,u12,u13,u14,u15,u16,u17,u18,u19,u20,u21,u22,rfl,F0,F1,F2,F3,F4,F5,F6,F7,F8,F9,F10,F11,F12,F13,F14,F15,F16,⟨q,hq,hqb⟩,ht0⟩:=hI;refine zB9 ho rfl (fun K hK=>?_);unfold req1A;go_simp;exact hK _ _ (Or.inl ⟨by rw[sg (by decide)];exact h17,_,_,_,_,_,_,_,_,_,_,_,_,_,_,_,_,_,rfl,cy F0 rfl,cy F1 rfl,fun _=>rfl,cy F3 rfl,cy F4 rfl,cy F5 rfl,cy F6 rfl,cy F7 rfl,cy F8 rfl,cy F9 rfl,cy F10 rfl,cy F11 rfl,cy F12 rfl,cy F13 rfl,cy F14 rfl,cy F15 rfl,cy F16 rfl,⟨q,hq,by rw[sg (i:=2) (j:=1) (by decide),sg (i:=2) (j:=3) (by decide),sg (i:=2) (j:=6) (by decide),sg (i:=2) (j:=9) (by decide),sg (i:=2) (j:=13) (by decide)];exact hqb⟩,ht0⟩)
   ·obtain⟨h17,u5,u7,u8,u9,u10,u11,u12,u13,u14,u15,u16,u17,u18,u19,u20,u21,u22,rfl,F0,F1,F2,F3,F4,F5,F6,F7,F8,F9,F10,F11,F12,F13,F14,F15,F16,⟨q,hq,hqb⟩,ht0⟩:=hI;have l2:=he ⟨2,.data⟩ (by simp) rfl;have e:=F2 l2;subst e;refine zB9 ho rfl (fun K hK=>?_);unfold req1A;go_simp
    (with_reducible refine(zC9 r B bs q 4 w' hq (by omega) (by omega) (by omega)).mono ?_)
    rintro e w'' ⟨x,rfl,x0,x1,hq,ht⟩;have ht0:=ht0.trans ht
    go_wp2_with fail
    exact Or.inl ⟨by rw[sg (by decide)];exact h17,_,_,_,_,_,_,_,_,_,_,_,_,_,_,_,_,_,rfl,cy F0 rfl,cy F1 rfl,fun _=>rfl,fun _=>⟨x,rfl,x0,x1⟩,cy F4 rfl,cy F5 rfl,cy F6 rfl,fun hj=>(let ⟨g,e1,e2,e3⟩:=(cy F7 rfl hj);⟨g,e1,e2,e3.touch ht (by omega)⟩),cy F8 rfl,cy F9 rfl,fun hj=>(let ⟨g,z,e1,e0,e2,e3⟩:=(cy F10 rfl hj);⟨g,z,e1,e0,e2,e3.touch ht (by omega)⟩),cy F11 rfl,cy F12 rfl,cy F13 rfl,cy F14 rfl,cy F15 rfl,fun hj=>(let ⟨g,e1,e2,e3⟩:=(cy F16 rfl hj);⟨g,e1,e2,e3.touch ht (by omega)⟩),⟨_,hq,by rw[sgi hl,sg (i:=3) (j:=1) (by decide),sg (i:=3) (j:=6) (by decide),sg (i:=3) (j:=9) (by decide),sg (i:=3) (j:=13) (by decide)];rw[getD_both hl]at hqb;simp only[bd_true,bd_false]at hqb ⊢;omega⟩,ht0⟩
   ·obtain⟨h17,u5,u7,u8,u9,u10,u11,u12,u13,u14,u15,u16,u17,u18,u19,u20,u21,u22,rfl,F0,F1,F2,F3,F4,F5,F6,F7,F8,F9,F10,F11,F12,F13,F14,F15,F16,⟨q,hq,hqb⟩,ht0⟩:=hI;have l3:=he ⟨3,.data⟩ (by simp) rfl;obtain⟨x,rfl,x0,x1⟩:=F3 l3;refine zB9 ho rfl (fun K hK=>?_);unfold req1A;have ew:IntKind.i64.wrap (1+x)=1+x:=by rw[IntKind.wrap_i64];omega
    go_simp;exact hK _ _ (Or.inl ⟨by rw[sg (by decide)];exact h17,_,_,_,_,_,_,_,_,_,_,_,_,_,_,_,_,_,rfl,cy F0 rfl,cy F1 rfl,cy F2 rfl,cy F3 rfl,fun _=>⟨1+x,rfl,by omega,by omega⟩,cy F5 rfl,cy F6 rfl,cy F7 rfl,cy F8 rfl,cy F9 rfl,cy F10 rfl,cy F11 rfl,cy F12 rfl,cy F13 rfl,cy F14 rfl,cy F15 rfl,cy F16 rfl,⟨q,hq,by rw[sg (i:=4) (j:=1) (by decide),sg (i:=4) (j:=3) (by decide),sg (i:=4) (j:=6) (by decide),sg (i:=4) (j:=9) (by decide),sg (i:=4) (j:=13) (by decide)];exact hqb⟩,ht0⟩)
   ·obtain⟨h17,u5,u7,u8,u9,u10,u11,u12,u13,u14,u15,u16,u17,u18,u19,u20,u21,u22,rfl,F0,F1,F2,F3,F4,F5,F6,F7,F8,F9,F10,F11,F12,F13,F14,F15,F16,⟨q,hq,hqb⟩,ht0⟩:=hI;refine zB9 ho rfl (fun K hK=>?_);unfold req1A;go_simp;exact hK _ _ (Or.inl ⟨by rw[sg (by decide)];exact h17,_,_,_,_,_,_,_,_,_,_,_,_,_,_,_,_,_,rfl,cy F0 rfl,cy F1 rfl,cy F2 rfl,cy F3 rfl,cy F4 rfl,fun _=>rfl,cy F6 rfl,cy F7 rfl,cy F8 rfl,cy F9 rfl,cy F10 rfl,cy F11 rfl,cy F12 rfl,cy F13 rfl,cy F14 rfl,cy F15 rfl,cy F16 rfl,⟨q,hq,by rw[sg (i:=5) (j:=1) (by decide),sg (i:=5) (j:=3) (by decide),sg (i:=5) (j:=6) (by decide),sg (i:=5) (j:=9) (by decide),sg (i:=5) (j:=13) (by decide)];exact hqb⟩,ht0⟩)
   ·obtain⟨h17,u5,u7,u8,u9,u10,u11,u12,u13,u14,u15,u16,u17,u18,u19,u20,u21,u22,rfl,F0,F1,F2,F3,F4,F5,F6,F7,F8,F9,F10,F11,F12,F13,F14,F15,F16,⟨q,hq,hqb⟩,ht0⟩:=hI;have l5:=he ⟨5,.data⟩ (by simp) rfl;have e:=F5 l5;subst e;refine zB9 ho rfl (fun K hK=>?_);unfold req1A;go_simp
    (with_reducible refine(l20Addr_any r B bs q w' hq (by omega)).mono ?_)
    rintro e w'' ⟨x,rfl,x0,x1,hq,ht⟩;have ht0:=ht0.trans ht
    go_wp2_with fail
    exact Or.inl ⟨by rw[sg (by decide)];exact h17,_,_,_,_,_,_,_,_,_,_,_,_,_,_,_,_,_,rfl,cy F0 rfl,cy F1 rfl,cy F2 rfl,cy F3 rfl,cy F4 rfl,fun _=>rfl,fun _=>⟨x,rfl,x0,x1⟩,fun hj=>(let ⟨g,e1,e2,e3⟩:=(cy F7 rfl hj);⟨g,e1,e2,e3.touch ht (by omega)⟩),cy F8 rfl,cy F9 rfl,fun hj=>(let ⟨g,z,e1,e0,e2,e3⟩:=(cy F10 rfl hj);⟨g,z,e1,e0,e2,e3.touch ht (by omega)⟩),cy F11 rfl,cy F12 rfl,cy F13 rfl,cy F14 rfl,cy F15 rfl,fun hj=>(let ⟨g,e1,e2,e3⟩:=(cy F16 rfl hj);⟨g,e1,e2,e3.touch ht (by omega)⟩),⟨_,hq,by rw[sgi hl,sg (i:=6) (j:=1) (by decide),sg (i:=6) (j:=3) (by decide),sg (i:=6) (j:=9) (by decide),sg (i:=6) (j:=13) (by decide)];rw[getD_both hl]at hqb;simp only[bd_true,bd_false]at hqb ⊢;omega⟩,ht0⟩
   ·obtain⟨h17,u5,u7,u8,u9,u10,u11,u12,u13,u14,u15,u16,u17,u18,u19,u20,u21,u22,rfl,F0,F1,F2,F3,F4,F5,F6,F7,F8,F9,F10,F11,F12,F13,F14,F15,F16,⟨q,hq,hqb⟩,ht0⟩:=hI;refine zB9 ho rfl (fun K hK=>?_);unfold req1A;have ht:=(Touch.refl r w').alloc (.cells #[.int .i64 1,.int .i64 1,.int .i64 2,.int .i64 4] 3);have hsz:=ht0.size;have ht0:=ht0.trans ht;have hq:=hq.alloc (.cells #[.int .i64 1,.int .i64 1,.int .i64 2,.int .i64 4] 3);go_simp;exact hK _ _ (Or.inl ⟨by rw[sg (by decide)];exact h17,_,_,_,_,_,_,_,_,_,_,_,_,_,_,_,_,_,rfl,cy F0 rfl,cy F1 rfl,cy F2 rfl,cy F3 rfl,cy F4 rfl,cy F5 rfl,cy F6 rfl,fun _=>⟨_,rfl,hsz,by show(w'.heap.push _)[w'.heap.size]? = _;exact Array.getElem?_push_size⟩,cy F8 rfl,cy F9 rfl,fun hj=>(let ⟨g,z,e1,e0,e2,e3⟩:=(cy F10 rfl hj);⟨g,z,e1,e0,e2,e3.touch ht (by omega)⟩),cy F11 rfl,cy F12 rfl,cy F13 rfl,cy F14 rfl,cy F15 rfl,fun hj=>(let ⟨g,e1,e2,e3⟩:=(cy F16 rfl hj);⟨g,e1,e2,e3.touch ht (by omega)⟩),⟨q,hq,by rw[sg (i:=7) (j:=1) (by decide),sg (i:=7) (j:=3) (by decide),sg (i:=7) (j:=6) (by decide),sg (i:=7) (j:=9) (by decide),sg (i:=7) (j:=13) (by decide)];exact hqb⟩,ht0⟩)
   ·obtain⟨h17,u5,u7,u8,u9,u10,u11,u12,u13,u14,u15,u16,u17,u18,u19,u20,u21,u22,rfl,F0,F1,F2,F3,F4,F5,F6,F7,F8,F9,F10,F11,F12,F13,F14,F15,F16,⟨q,hq,hqb⟩,ht0⟩:=hI;refine zB9 ho rfl (fun K hK=>?_);unfold req1A;go_simp;exact hK _ _ (Or.inl ⟨by rw[sg (by decide)];exact h17,_,_,_,_,_,_,_,_,_,_,_,_,_,_,_,_,_,rfl,cy F0 rfl,cy F1 rfl,cy F2 rfl,cy F3 rfl,cy F4 rfl,cy F5 rfl,cy F6 rfl,cy F7 rfl,fun _=>rfl,cy F9 rfl,cy F10 rfl,cy F11 rfl,cy F12 rfl,cy F13 rfl,cy F14 rfl,cy F15 rfl,cy F16 rfl,⟨q,hq,by rw[sg (i:=8) (j:=1) (by decide),sg (i:=8) (j:=3) (by decide),sg (i:=8) (j:=6) (by decide),sg (i:=8) (j:=9) (by decide),sg (i:=8) (j:=13) (by decide)];exact hqb⟩,ht0⟩)
   ·obtain⟨h17,u5,u7,u8,u9,u10,u11,u12,u13,u14,u15,u16,u17,u18,u19,u20,u21,u22,rfl,F0,F1,F2,F3,F4,F5,F6,F7,F8,F9,F10,F11,F12,F13,F14,F15,F16,⟨q,hq,hqb⟩,ht0⟩:=hI;have l8:=he ⟨8,.data⟩ (by simp) rfl;have e:=F8 l8;subst e;refine zB9 ho rfl (fun K hK=>?_);unfold req1A;go_simp
    (with_reducible refine(zC9 r B bs q 4 w' hq (by omega) (by omega) (by omega)).mono ?_)
    rintro e w'' ⟨x,rfl,x0,x1,hq,ht⟩;have ht0:=ht0.trans ht;obtain⟨x,rfl⟩:=Int.eq_ofNat_of_zero_le x0
    go_wp2_with fail
    exact Or.inl ⟨by rw[sg (by decide)];exact h17,_,_,_,_,_,_,_,_,_,_,_,_,_,_,_,_,_,rfl,cy F0 rfl,cy F1 rfl,cy F2 rfl,cy F3 rfl,cy F4 rfl,cy F5 rfl,cy F6 rfl,fun hj=>(let ⟨g,e1,e2,e3⟩:=(cy F7 rfl hj);⟨g,e1,e2,e3.touch ht (by omega)⟩),fun _=>rfl,fun _=>⟨x,rfl,by omega⟩,fun hj=>(let ⟨g,z,e1,e0,e2,e3⟩:=(cy F10 rfl hj);⟨g,z,e1,e0,e2,e3.touch ht (by omega)⟩),cy F11 rfl,cy F12 rfl,cy F13 rfl,cy F14 rfl,cy F15 rfl,fun hj=>(let ⟨g,e1,e2,e3⟩:=(cy F16 rfl hj);⟨g,e1,e2,e3.touch ht (by omega)⟩),⟨_,hq,by rw[sgi hl,sg (i:=9) (j:=1) (by decide),sg (i:=9) (j:=3) (by decide),sg (i:=9) (j:=6) (by decide),sg (i:=9) (j:=13) (by decide)];rw[getD_both hl]at hqb;simp only[bd_true,bd_false]at hqb ⊢;omega⟩,ht0⟩
   ·obtain⟨h17,u5,u7,u8,u9,u10,u11,u12,u13,u14,u15,u16,u17,u18,u19,u20,u21,u22,rfl,F0,F1,F2,F3,F4,F5,F6,F7,F8,F9,F10,F11,F12,F13,F14,F15,F16,⟨q,hq,hqb⟩,ht0⟩:=hI;have l7:=he ⟨7,.data⟩ (by simp) rfl;have l9:=he ⟨9,.data⟩ (by simp) rfl;obtain⟨g,rfl,g1,g2⟩:=F7 l7;obtain⟨z,rfl,z1⟩:=F9 l9;refine zB9 ho rfl (fun K hK=>?_);unfold req1A;have hz0:(0:Int)≤(z:Int):=by omega
    have hz1:(z:Int)<4:=by omega
    go_simp;exact hK _ _ (Or.inl ⟨by rw[sg (by decide)];exact h17,_,_,_,_,_,_,_,_,_,_,_,_,_,_,_,_,_,rfl,cy F0 rfl,cy F1 rfl,cy F2 rfl,cy F3 rfl,cy F4 rfl,cy F5 rfl,cy F6 rfl,cy F7 rfl,cy F8 rfl,cy F9 rfl,fun _=>⟨g,z,rfl,z1,g1,g2⟩,cy F11 rfl,cy F12 rfl,cy F13 rfl,cy F14 rfl,cy F15 rfl,cy F16 rfl,⟨q,hq,by rw[sg (i:=10) (j:=1) (by decide),sg (i:=10) (j:=3) (by decide),sg (i:=10) (j:=6) (by decide),sg (i:=10) (j:=9) (by decide),sg (i:=10) (j:=13) (by decide)];exact hqb⟩,ht0⟩)
   ·obtain⟨h17,u5,u7,u8,u9,u10,u11,u12,u13,u14,u15,u16,u17,u18,u19,u20,u21,u22,rfl,F0,F1,F2,F3,F4,F5,F6,F7,F8,F9,F10,F11,F12,F13,F14,F15,F16,⟨q,hq,hqb⟩,ht0⟩:=hI;have l10:=he ⟨10,.data⟩ (by simp) rfl;obtain⟨g,z,rfl,z1,g1,g2⟩:=F10 l10;obtain⟨y,hl1,hy⟩:=tab4 1 1 2 4 z1;have tc:=g2.at_ z _ (tab_arr hl1);refine zB9 ho rfl (fun K hK=>?_);unfold req1A;go_simp;exact hK _ _ (Or.inl ⟨by rw[sg (by decide)];exact h17,_,_,_,_,_,_,_,_,_,_,_,_,_,_,_,_,_,rfl,cy F0 rfl,cy F1 rfl,cy F2 rfl,cy F3 rfl,cy F4 rfl,cy F5 rfl,cy F6 rfl,cy F7 rfl,cy F8 rfl,cy F9 rfl,cy F10 rfl,fun _=>⟨y,rfl,by omega⟩,cy F12 rfl,cy F13 rfl,cy F14 rfl,cy F15 rfl,cy F16 rfl,⟨q,hq,by rw[sg (i:=11) (j:=1) (by decide),sg (i:=11) (j:=3) (by decide),sg (i:=11) (j:=6) (by decide),sg (i:=11) (j:=9) (by decide),sg (i:=11) (j:=13) (by decide)];exact hqb⟩,ht0⟩)
   ·obtain⟨h17,u5,u7,u8,u9,u10,u11,u12,u13,u14,u15,u16,u17,u18,u19,u20,u21,u22,rfl,F0,F1,F2,F3,F4,F5,F6,F7,F8,F9,F10,F11,F12,F13,F14,F15,F16,⟨q,hq,hqb⟩,ht0⟩:=hI;refine zB9 ho rfl (fun K hK=>?_);unfold req1A;go_simp;exact hK _ _ (Or.inl ⟨by rw[sg (by decide)];exact h17,_,_,_,_,_,_,_,_,_,_,_,_,_,_,_,_,_,rfl,cy F0 rfl,cy F1 rfl,cy F2 rfl,cy F3 rfl,cy F4 rfl,cy F5 rfl,cy F6 rfl,cy F7 rfl,cy F8 rfl,cy F9 rfl,cy F10 rfl,cy F11 rfl,fun _=>rfl,cy F13 rfl,cy F14 rfl,cy F15 rfl,cy F16 rfl,⟨q,hq,by rw[sg (i:=12) (j:=1) (by decide),sg (i:=12) (j:=3) (by decide),sg (i:=12) (j:=6) (by decide),sg (i:=12) (j:=9) (by decide),sg (i:=12) (j:=13) (by decide)];exact hqb⟩,ht0⟩)
   ·obtain⟨h17,u5,u7,u8,u9,u10,u11,u12,u13,u14,u15,u16,u17,u18,u19,u20,u21,u22,rfl,F0,F1,F2,F3,F4,F5,F6,F7,F8,F9,F10,F11,F12,F13,F14,F15,F16,⟨q,hq,hqb⟩,ht0⟩:=hI;have l12:=he ⟨12,.data⟩ (by simp) rfl;have e:=F12 l12;subst e;refine zB9 ho rfl (fun K hK=>?_);unfold req1A;go_simp
    (with_reducible refine(zC9 r B bs q 3 w' hq (by omega) (by omega) (by omega)).mono ?_)
    rintro e w'' ⟨x,rfl,x0,x1,hq,ht⟩;have ht0:=ht0.trans ht
    go_wp2_with fail
    exact Or.inl ⟨by rw[sg (by decide)];exact h17,_,_,_,_,_,_,_,_,_,_,_,_,_,_,_,_,_,rfl,cy F0 rfl,cy F1 rfl,cy F2 rfl,cy F3 rfl,cy F4 rfl,cy F5 rfl,cy F6 rfl,fun hj=>(let ⟨g,e1,e2,e3⟩:=(cy F7 rfl hj);⟨g,e1,e2,e3.touch ht (by omega)⟩),cy F8 rfl,cy F9 rfl,fun hj=>(let ⟨g,z,e1,e0,e2,e3⟩:=(cy F10 rfl hj);⟨g,z,e1,e0,e2,e3.touch ht (by omega)⟩),cy F11 rfl,fun _=>rfl,fun _=>⟨x,rfl⟩,cy F14 rfl,cy F15 rfl,fun hj=>(let ⟨g,e1,e2,e3⟩:=(cy F16 rfl hj);⟨g,e1,e2,e3.touch ht (by omega)⟩),⟨_,hq,by rw[sgi hl,sg (i:=13) (j:=1) (by decide),sg (i:=13) (j:=3) (by decide),sg (i:=13) (j:=6) (by decide),sg (i:=13) (j:=9) (by decide)];rw[getD_both hl]at hqb;simp only[bd_true,bd_false]at hqb ⊢;omega⟩,ht0⟩
   ·obtain⟨h17,u5,u7,u8,u9,u10,u11,u12,u13,u14,u15,u16,u17,u18,u19,u20,u21,u22,rfl,F0,F1,F2,F3,F4,F5,F6,F7,F8,F9,F10,F11,F12,F13,F14,F15,F16,⟨q,hq,hqb⟩,ht0⟩:=hI;have l13:=he ⟨13,.data⟩ (by simp) rfl;obtain⟨x,rfl⟩:=F13 l13;refine zB9 ho rfl (fun K hK=>?_);unfold req1A;go_simp;exact hK _ _ (Or.inl ⟨by rw[sg (by decide)];exact h17,_,_,_,_,_,_,_,_,_,_,_,_,_,_,_,_,_,rfl,cy F0 rfl,cy F1 rfl,cy F2 rfl,cy F3 rfl,cy F4 rfl,cy F5 rfl,cy F6 rfl,cy F7 rfl,cy F8 rfl,cy F9 rfl,cy F10 rfl,cy F11 rfl,cy F12 rfl,cy F13 rfl,fun _=>⟨_,rfl⟩,cy F15 rfl,cy F16 rfl,⟨q,hq,by rw[sg (i:=14) (j:=1) (by decide),sg (i:=14) (j:=3) (by decide),sg (i:=14) (j:=6) (by decide),sg (i:=14) (j:=9) (by decide),sg (i:=14) (j:=13) (by decide)];exact hqb⟩,ht0⟩)
   ·obtain⟨h17,u5,u7,u8,u9,u10,u11,u12,u13,u14,u15,u16,u17,u18,u19,u20,u21,u22,rfl,F0,F1,F2,F3,F4,F5,F6,F7,F8,F9,F10,F11,F12,F13,F14,F15,F16,⟨q,hq,hqb⟩,ht0⟩:=hI;have l1:=he ⟨1,.data⟩ (by simp) rfl;have l4:=he ⟨4,.data⟩ (by simp) rfl;have l6:=he ⟨6,.data⟩ (by simp) rfl;have l11:=he ⟨11,.data⟩ (by simp) rfl;have l14:=he ⟨14,.data⟩ (by simp) rfl;obtain⟨id,rfl,a0,a1⟩:=F1 l1;obtain⟨kind,rfl,b0,b1⟩:=F4 l4;obtain⟨addr,rfl,c0,c1⟩:=F6 l6;obtain⟨many,rfl,d1⟩:=F11 l11;obtain⟨wp,rfl⟩:=F14 l14;refine zB9 ho rfl (fun K hK=>?_);unfold req1A;go_simp;exact hK _ _ (Or.inl ⟨by rw[sg (by decide)];exact h17,_,_,_,_,_,_,_,_,_,_,_,_,_,_,_,_,_,rfl,cy F0 rfl,cy F1 rfl,cy F2 rfl,cy F3 rfl,cy F4 rfl,cy F5 rfl,cy F6 rfl,cy F7 rfl,cy F8 rfl,cy F9 rfl,cy F10 rfl,cy F11 rfl,cy F12 rfl,cy F13 rfl,cy F14 rfl,fun _=>⟨id,kind,addr,many,wp,rfl,a0,a1,b0,b1,c0,c1,d1⟩,cy F16 rfl,⟨q,hq,by rw[sg (i:=15) (j:=1) (by decide),sg (i:=15) (j:=3) (by decide),sg (i:=15) (j:=6) (by decide),sg (i:=15) (j:=9) (by decide),sg (i:=15) (j:=13) (by decide)];exact hqb⟩,ht0⟩)
   ·obtain⟨h17,u5,u7,u8,u9,u10,u11,u12,u13,u14,u15,u16,u17,u18,u19,u20,u21,u22,rfl,F0,F1,F2,F3,F4,F5,F6,F7,F8,F9,F10,F11,F12,F13,F14,F15,F16,⟨q,hq,hqb⟩,ht0⟩:=hI;refine zB9 ho rfl (fun K hK=>?_);unfold req1A;have ht:=(Touch.refl r w').alloc (.cells #[.int .i64 0,.int .i64 0,.int .i64 0,.int .i64 0,.bool false,.slice none 0 0,.slice none 0 0] 52);have hsz:=ht0.size;have ht0:=ht0.trans ht;have hq:=hq.alloc (.cells #[.int .i64 0,.int .i64 0,.int .i64 0,.int .i64 0,.bool false,.slice none 0 0,.slice none 0 0] 52);go_simp;exact hK _ _ (Or.inl ⟨by rw[sg (by decide)];exact h17,_,_,_,_,_,_,_,_,_,_,_,_,_,_,_,_,_,rfl,cy F0 rfl,cy F1 rfl,cy F2 rfl,cy F3 rfl,cy F4 rfl,cy F5 rfl,cy F6 rfl,fun hj=>(let ⟨g,e1,e2,e3⟩:=(cy F7 rfl hj);⟨g,e1,e2,e3.touch ht (by omega)⟩),cy F8 rfl,cy F9 rfl,fun hj=>(let ⟨g,z,e1,e0,e2,e3⟩:=(cy F10 rfl hj);⟨g,z,e1,e0,e2,e3.touch ht (by omega)⟩),cy F11 rfl,cy F12 rfl,cy F13 rfl,cy F14 rfl,cy F15 rfl,fun _=>⟨_,rfl,hsz,QW.new w'⟩,⟨q,hq,by rw[sg (i:=16) (j:=1) (by decide),sg (i:=16) (j:=3) (by decide),sg (i:=16) (j:=6) (by decide),sg (i:=16) (j:=9) (by decide),sg (i:=16) (j:=13) (by decide)];exact hqb⟩,ht0⟩)
   ·obtain⟨h17,u5,u7,u8,u9,u10,u11,u12,u13,u14,u15,u16,u17,u18,u19,u20,u21,u22,rfl,F0,F1,F2,F3,F4,F5,F6,F7,F8,F9,F10,F11,F12,F13,F14,F15,F16,⟨q,hq,hqb⟩,ht0⟩:=hI;have l15:=he ⟨15,.data⟩ (by simp) rfl;have l16:=he ⟨16,.data⟩ (by simp) rfl;obtain⟨id,kind,addr,many,wp,rfl,a0,a1,b0,b1,c0,c1,d1⟩:=F15 l15;obtain⟨g,rfl,g1,g2⟩:=F16 l16;obtain⟨k0,k1,k2,k3,k4,k5,k6⟩:=g2.cells;obtain⟨m0,m1,m2,m3,m4,m5,m6⟩:=g2.unfrozen;have hqn:q≤p+40:=by omega
    have hdone:∀j,j<17→listed.getD j false=true:=by
     intro j hj;have e:j=0∨j=1∨j=2∨j=3∨j=4∨j=5∨j=6∨j=7∨j=8∨j=9∨j=10∨j=11∨j=12∨j=13∨j=14∨j=15∨j=16:=by omega
     rcases e with rfl|rfl|rfl|rfl|rfl|rfl|rfl|rfl|rfl|rfl|rfl|rfl|rfl|rfl|rfl|rfl|rfl
     ·exact he ⟨0,.phase⟩ (by simp) rfl
     ·exact he ⟨1,.phase⟩ (by simp) rfl
     ·exact he ⟨2,.phase⟩ (by simp) rfl
     ·exact he ⟨3,.phase⟩ (by simp) rfl
     ·exact he ⟨4,.phase⟩ (by simp) rfl
     ·exact he ⟨5,.phase⟩ (by simp) rfl
     ·exact he ⟨6,.phase⟩ (by simp) rfl
     ·exact he ⟨7,.phase⟩ (by simp) rfl
     ·exact he ⟨8,.phase⟩ (by simp) rfl
     ·exact he ⟨9,.phase⟩ (by simp) rfl
     ·exact he ⟨10,.phase⟩ (by simp) rfl
     ·exact he ⟨11,.phase⟩ (by simp) rfl
     ·exact he ⟨12,.phase⟩ (by simp) rfl
     ·exact he ⟨13,.phase⟩ (by simp) rfl
     ·exact he ⟨14,.phase⟩ (by simp) rfl
     ·exact he ⟨15,.phase⟩ (by simp) rfl
     ·exact he ⟨16,.phase⟩ (by simp) rfl
    refine zB9 ho rfl (fun K hK=>?_);unfold req1A;go_simp;refine hK _ _ (Or.inr ⟨fun j hj=>?_,_,_,_,_,_,_,_,_,_,_,_,_,_,_,_,_,_,rfl,g,id,kind,addr,many,wp,q,rfl,g1,((((((g2.set0 id).set1 kind).set2 addr).set3 many).set4 wp).set5 _).set6 _,a0,a1,b0,b1,c0,c1,d1,hqn,((((((hq.setNew hrw g1 _ _).setNew hrw g1 _ _).setNew hrw g1 _ _).setNew hrw g1 _ _).setNew hrw g1 _ _).setNew hrw g1 _ _).setNew hrw g1 _ _,((((((ht0.setNew g1 _).setNew g1 _).setNew g1 _).setNew g1 _).setNew g1 _).setNew g1 _).setNew g1 _⟩);by_cases hj17:j=17
    ·subst hj17;exact sgi hl
    ·rw[sg (Ne.symm hj17)];exact hdone j (by omega)
  ·have:=hall i hi;rw[getD_both hl]at this;cases this
 ·intro listed a w' hI hd;rcases hI with⟨h17,_⟩|⟨_,u5,u7,u8,u9,u10,u11,u12,u13,u14,u15,u16,u17,u18,u19,u20,u21,u22,rfl,g,id,kind,addr,many,wp,q,rfl,g1,g2,a0,a1,b0,b1,c0,c1,d1,e1,e2,e3⟩
  ·have:=hd 17 (by show 17<18;omega);rw[h17]at this;cases this
  ·exact hK _ _ _ _ _ _ _ _ _ _ _ _ _ _ _ _ _ w' ⟨g,id,kind,addr,many,wp,q,rfl,g1,g2,a0,a1,b0,b1,c0,c1,d1,e1,e2,e3⟩
end Go.Proofs.YtgkdoehkmbhfiaaGreat
namespace Go.Proofs.YtgkdoehkmbhfiaaGreat
open Go.RowKit
theorem IntB.new (w:World) (n:Int):IntB (w.alloc (.cells #[.int .i64 n] 3)) w.heap.size n:=zA8 _ _ rfl
theorem IntB.fz {w:World} {g:Nat} {n:Int} (h:IntB w g n):w.frozen? ⟨g,0,none⟩=false:=by
 unfold IntB at h;simp[World.frozen?,h]
theorem IntB.put {w:World} {g:Nat} {n:Int} (h:IntB w g n) (m:Int):IntB (w.setCell ⟨g,0,none⟩ (.int .i64 m)) g m:=by
 unfold IntB at h ⊢;simp[World.setCell,Array.getElem?_modify,h]
def mfA (i0 i1 i2 i3 i4 i7 i8 i11 i12 i13 i14 i15 i16 i17 i18 i19 i20 i21 i22 i23 i24 i25 i26 i27 i28 i29 i30 i31 i32 i33 i34 i35 i36 i37 i38 i39 i40 i41 i42 i43 i44 i45 i53 i54 i55 i56 i57:Value) (g1:Nat) (g2:Nat) (gp:Nat) (u10 u46 u47 u48 u49 u50 u51 u52:Value):Act:={ tmps:=#[i0,i1,i2,i3,i4,.pointer (some ⟨g1,0,none⟩),.pointer (some ⟨g2,0,none⟩),i7,i8,.pointer (some ⟨gp,0,none⟩),u10,i11,i12,i13,i14,i15,i16,i17,i18,i19,i20,i21,i22,i23,i24,i25,i26,i27,i28,i29,i30,i31,i32,i33,i34,i35,i36,i37,i38,i39,i40,i41,i42,i43,i44,i45,u46,u47,u48,u49,u50,u51,u52,i53,i54,i55,i56,i57],defers:=[] }
def mfI (i0 i1 i2 i3 i4 i7 i8 i11 i12 i13 i14 i15 i16 i17 i18 i19 i20 i21 i22 i23 i24 i25 i26 i27 i28 i29 i30 i31 i32 i33 i34 i35 i36 i37 i38 i39 i40 i41 i42 i43 i44 i45 i53 i54 i55 i56 i57:Value) (g1:Nat) (g2:Nat) (gp:Nat) (ma:Option Addr) (mn:Nat) (mk:Nat) (lb:Nat) (lo:Nat) (lc:Nat) (pb:Nat) (po:Nat) (pc:Nat) (who:Nat) (n:Nat) (iz:Int) (qb:Nat) (qo:Nat) (ql:Nat) (qc:Nat) (wq:World) (listed:Array Bool) (a:Act) (w':World):Prop :=
 ∃ u10 u46 u47 u48 u49 u50 u51 u52 : Value, a = mfA i0 i1 i2 i3 i4 i7 i8 i11 i12 i13 i14 i15 i16 i17 i18 i19 i20 i21 i22 i23 i24 i25 i26 i27 i28 i29 i30 i31 i32 i33 i34 i35 i36 i37 i38 i39 i40 i41 i42 i43 i44 i45 i53 i54 i55 i56 i57 g1 g2 gp u10 u46 u47 u48 u49 u50 u51 u52 ∧
   (listed.getD 0 false=true→u46=.agg #[.slice ma mn mk,.slice (some ⟨lb,lo,none⟩) 4 lc,.slice (some ⟨pb,po,none⟩) 3 pc]) ∧
   (listed.getD 1 false=true→u47=.int .i64 who) ∧
   (listed.getD 2 false=true→u48=.pointer (some ⟨gp,1,none⟩)) ∧
   (listed.getD 3 false=true→u49=.slice (some ⟨qb,qo,none⟩) ql qc) ∧
   (listed.getD 4 false=true→u50=.pointer (some ⟨qb,qo,none⟩)) ∧
   (listed.getD 5 false=true→u51=.int .i64 n) ∧
   (listed.getD 6 false=true→u52=.int .i64 iz) ∧
   (listed.getD 7 false=true→listed.getD 8 false=false→∃g,u10=.pointer (some ⟨g,0,none⟩)∧wq.heap.size≤g∧IntB w' g 0) ∧
   (listed.getD 8 false=true→∃g,u10=.pointer (some ⟨g,0,none⟩)∧wq.heap.size≤g∧IntB w' g iz) ∧
   Below wq.heap.size wq w'
noncomputable def mfCode:Code:=(Tryz.f145.body.bind (zG8 4)).getD .skip
set_option maxRecDepth 100000 in
theorem mf_region (i0 i1 i2 i3 i4 i7 i8 i11 i12 i13 i14 i15 i16 i17 i18 i19 i20 i21 i22 i23 i24 i25 i26 i27 i28 i29 i30 i31 i32 i33 i34 i35 i36 i37 i38 i39 i40 i41 i42 i43 i44 i45 i53 i54 i55 i56 i57 j10 j46 j47 j48 j49 j50 j51 j52 : Value) (g1 : Nat) (g2 : Nat) (gp : Nat) (ma : Option Addr) (mn : Nat) (mk : Nat) (lb : Nat) (lo : Nat) (lc : Nat) (pb : Nat) (po : Nat) (pc : Nat) (who : Nat) (n : Nat) (iz : Int) (qb : Nat) (qo : Nat) (ql : Nat) (qc : Nat) (wq : World)
  {c:Cfg} (hbus:Bus c) {B:Nat} {QQ:Nat→Option Addr} {KK:Nat→Nat} (HO:BusO wq B c ma mn mk lb lo lc pb po pc QQ KK) (hBw:B≤wq.heap.size) (hwi:who<3) (hni:n<(c.prog who).length) (HY:Hid (iz=c.id who n))
  (t0:wq.cell? ⟨g1,0,none⟩=some (.slice ma mn mk)) (t1:wq.cell? ⟨g1,1,none⟩=some (.slice (some ⟨lb,lo,none⟩) 4 lc)) (t2:wq.cell? ⟨g1,2,none⟩=some (.slice (some ⟨pb,po,none⟩) 3 pc)) (z1:g1<wq.heap.size)
  (t3:wq.cell? ⟨g2,0,none⟩=some (.int .i64 who)) (z2:g2<wq.heap.size) (t4:wq.cell? ⟨gp,1,none⟩=some (.slice (some ⟨qb,qo,none⟩) ql qc)) (z3:gp<wq.heap.size) (t5:wq.cell? ⟨qb,qo,none⟩=some (.int .i64 n)) (z4:qb<wq.heap.size)
  (hqi:(0:Int)<(ql:Int)) (hqp:0<ql)
  {K:Act→World→Prop} {Q':Exit→Act→World→Prop}
  (hK:∀(u10 u46 u47 u48 u49 u50 u51 u52:Value) w', (∃g,u10=.pointer (some ⟨g,0,none⟩)∧wq.heap.size≤g∧IntB w' g iz∧Below wq.heap.size wq w')→K (mfA i0 i1 i2 i3 i4 i7 i8 i11 i12 i13 i14 i15 i16 i17 i18 i19 i20 i21 i22 i23 i24 i25 i26 i27 i28 i29 i30 i31 i32 i33 i34 i35 i36 i37 i38 i39 i40 i41 i42 i43 i44 i45 i53 i54 i55 i56 i57 g1 g2 gp u10 u46 u47 u48 u49 u50 u51 u52) w') :
  mfCode.wp Tryz.prog (Exit.then K Q') (mfA i0 i1 i2 i3 i4 i7 i8 i11 i12 i13 i14 i15 i16 i17 i18 i19 i20 i21 i22 i23 i24 i25 i26 i27 i28 i29 i30 i31 i32 i33 i34 i35 i36 i37 i38 i39 i40 i41 i42 i43 i44 i45 i53 i54 i55 i56 i57 g1 g2 gp j10 j46 j47 j48 j49 j50 j51 j52) wq:=by
 conv=>arg 2;whnf
 refine zL1 (mfI i0 i1 i2 i3 i4 i7 i8 i11 i12 i13 i14 i15 i16 i17 i18 i19 i20 i21 i22 i23 i24 i25 i26 i27 i28 i29 i30 i31 i32 i33 i34 i35 i36 i37 i38 i39 i40 i41 i42 i43 i44 i45 i53 i54 i55 i56 i57 g1 g2 gp ma mn mk lb lo lc pb po pc who n iz qb qo ql qc wq) (by kernel_rfl) (by kernel_rfl) ?_ ?_ ?_
 ·exact⟨_,_,_,_,_,_,_,_,rfl,nf,nf,nf,nf,nf,nf,nf,(fun h _=>absurd h (by rw[getD_replicate_false];simp)),nf,(Below.refl _ _).drew⟩
 ·intro listed a w' i o hI hsz ho hl he hcl;obtain⟨u10,u46,u47,u48,u49,u50,u51,u52,rfl,F0,F1,F2,F3,F4,F5,F6,F7,F8,hx⟩:=hI;have hi:i<9:=(Array.getElem?_eq_some_iff.1 ho).1;have e:i=0∨i=1∨i=2∨i=3∨i=4∨i=5∨i=6∨i=7∨i=8:=by omega
  clear hi;rcases e with rfl|rfl|rfl|rfl|rfl|rfl|rfl|rfl|rfl
  all_goals (have ho2:=ho;obtain rfl:=Option.some.inj ho2.symm;clear ho2)
  ·as_aux_lemma=>
    have q_t0:=(hx.cell (p:=⟨g1,0,none⟩) z1).trans t0;have q_t1:=(hx.cell (p:=⟨g1,1,none⟩) z1).trans t1;have q_t2:=(hx.cell (p:=⟨g1,2,none⟩) z1).trans t2;refine zB4 ho rfl (fun K hK=>?_);unfold mfA;go_simp;exact hK _ _ ⟨_,_,_,_,_,_,_,_,rfl,fun _=>rfl,cy F1 rfl,cy F2 rfl,cy F3 rfl,cy F4 rfl,cy F5 rfl,cy F6 rfl,cyu F7 rfl rfl,cy F8 rfl,hx⟩
  ·as_aux_lemma=>
    have q_t3:=(hx.cell (p:=⟨g2,0,none⟩) z2).trans t3;refine zB4 ho rfl (fun K hK=>?_);unfold mfA;go_simp;exact hK _ _ ⟨_,_,_,_,_,_,_,_,rfl,cy F0 rfl,fun _=>rfl,cy F2 rfl,cy F3 rfl,cy F4 rfl,cy F5 rfl,cy F6 rfl,cyu F7 rfl rfl,cy F8 rfl,hx⟩
  ·as_aux_lemma=>
    refine zB4 ho rfl (fun K hK=>?_);unfold mfA;go_simp;exact hK _ _ ⟨_,_,_,_,_,_,_,_,rfl,cy F0 rfl,cy F1 rfl,fun _=>rfl,cy F3 rfl,cy F4 rfl,cy F5 rfl,cy F6 rfl,cyu F7 rfl rfl,cy F8 rfl,hx⟩
  ·as_aux_lemma=>
    have l2:=he ⟨2,.data⟩ (by simp) rfl;have e:=F2 l2;subst e;have q_t4:=(hx.cell (p:=⟨gp,1,none⟩) z3).trans t4;refine zB4 ho rfl (fun K hK=>?_);unfold mfA;go_simp;exact hK _ _ ⟨_,_,_,_,_,_,_,_,rfl,cy F0 rfl,cy F1 rfl,cy F2 rfl,fun _=>rfl,cy F4 rfl,cy F5 rfl,cy F6 rfl,cyu F7 rfl rfl,cy F8 rfl,hx⟩
  ·as_aux_lemma=>
    have l3:=he ⟨3,.data⟩ (by simp) rfl;have e:=F3 l3;subst e;have hq1:=hqi;have hq2:=hqp;refine zB4 ho rfl (fun K hK=>?_);unfold mfA;go_simp;exact hK _ _ ⟨_,_,_,_,_,_,_,_,rfl,cy F0 rfl,cy F1 rfl,cy F2 rfl,cy F3 rfl,fun _=>rfl,cy F5 rfl,cy F6 rfl,cyu F7 rfl rfl,cy F8 rfl,hx⟩
  ·as_aux_lemma=>
    have l4:=he ⟨4,.data⟩ (by simp) rfl;have e:=F4 l4;subst e;have q_t5:=(hx.cell (p:=⟨qb,qo,none⟩) z4).trans t5;refine zB4 ho rfl (fun K hK=>?_);unfold mfA;go_simp;exact hK _ _ ⟨_,_,_,_,_,_,_,_,rfl,cy F0 rfl,cy F1 rfl,cy F2 rfl,cy F3 rfl,cy F4 rfl,fun _=>rfl,cy F6 rfl,cyu F7 rfl rfl,cy F8 rfl,hx⟩
  ·as_aux_lemma=>
    have l0:=he ⟨0,.data⟩ (by simp) rfl;have l1:=he ⟨1,.data⟩ (by simp) rfl;have l5:=he ⟨5,.data⟩ (by simp) rfl;have e:=F0 l0;subst e;have e:=F1 l1;subst e;have e:=F5 l5;subst e;refine zB4 ho rfl (fun K hK=>?_);unfold mfA;go_simp
    (with_reducible refine(id_any hbus (B:=B) (HO.below (hx.mono hBw)) (Nat.le_trans hBw hx.size) hwi hni).mono ?_)
    rw[←HY.out];rintro e w'' ⟨rfl,hb1⟩
    go_wp2_with fail
    exact⟨_,_,_,_,_,_,_,_,rfl,fun _=>rfl,fun _=>rfl,cy F2 rfl,cy F3 rfl,cy F4 rfl,fun _=>rfl,fun _=>rfl,fun hj hu=>(let ⟨g,e1,e2,e3⟩:=(cyu F7 rfl rfl hj hu);⟨g,e1,e2,e3.below hb1 (zA3 e3)⟩),fun hj=>absurd (hcl 8 _ rfl (by rwa [sgy (by decide)]at hj) ⟨6,.data⟩ (by simp) rfl) (by rw[getD_both hl];simp),hx.trans (hb1.mono hx.size)⟩
  ·as_aux_lemma=>
    refine zB4 ho rfl (fun K hK=>?_);unfold mfA;have hb1:Below w'.heap.size w' (w'.alloc (.cells #[.int .i64 0] 3)):=(Below.refl _ _).alloc (Nat.le_refl _) _;go_simp;exact hK _ _ ⟨_,_,_,_,_,_,_,_,rfl,cy F0 rfl,cy F1 rfl,cy F2 rfl,cy F3 rfl,cy F4 rfl,cy F5 rfl,cy F6 rfl,fun _ _=>⟨_,rfl,hx.size,IntB.new _ _⟩,fun hj=>absurd (hcl 8 _ rfl (by rwa [sgy (by decide)]at hj) ⟨7,.data⟩ (by simp) rfl) (by rw[getD_both hl];simp),hx.trans (hb1.mono hx.size)⟩
  ·as_aux_lemma=>
    have l7:=he ⟨7,.data⟩ (by simp) rfl;have l6:=he ⟨6,.data⟩ (by simp) rfl;obtain⟨g,rfl,g1l,hI3⟩:=F7 l7 (getD_both hl);have e:=F6 l6;subst e;obtain⟨k0,_⟩:=hI3.cells;have k1:=hI3.fz;refine zB4 ho rfl (fun K hK=>?_);unfold mfA;have ht:Touch g w' (w'.setCell ⟨g,0,none⟩ (.int .i64 iz)):=Touch.setCell _ _ _ _;go_simp;exact hK _ _ ⟨_,_,_,_,_,_,_,_,rfl,cy F0 rfl,cy F1 rfl,cy F2 rfl,cy F3 rfl,cy F4 rfl,cy F5 rfl,cy F6 rfl,fun _ hu=>absurd hu (by rw[sgiy hl];simp),fun _=>⟨g,rfl,g1l,hI3.put _⟩,hx.trans (ht.below g1l hx.size)⟩
 ·intro listed a w' hI hd;obtain⟨u10,u46,u47,u48,u49,u50,u51,u52,rfl,F0,F1,F2,F3,F4,F5,F6,F7,F8,hx⟩:=hI;have e8:=F8 (hd 8 (by show 8<9;omega));obtain⟨g,e1,e2,e3⟩:=e8;exact hK _ _ _ _ _ _ _ _ w' ⟨g,e1,e2,e3,hx⟩
end Go.Proofs.YtgkdoehkmbhfiaaGreat
