/- Memory of a bus: twenty slices, each owns its block, all apart (Raw): one of them changed, a cell of one of them stored. -/
import Derived.Test.YtgkdoehkmbhfiaaGreatQFl
import Derived.Test.YtgkdoehkmbhfiaaGreatQLib
import Derived.Test.YtgkdoehkmbhfiaaGreatQRu2
import Derived.Test.YtgkdoehkmbhfiaaGreatQDr2
import Derived.Test.YtgkdoehkmbhfiaaGreatQWrd
import Derived.BigGuardPart
set_option linter.unusedVariables false
set_option linter.unusedSimpArgs false
set_option maxHeartbeats 16000000
namespace Go.Proofs.YtgkdoehkmbhfiaaGreat
open Go.RowKit
def QW (w:World) (g:Nat) (id kind addr many:Int) (wp:Bool) (dv lv:Value):Prop :=
 w.heap[g]? = some (.cells #[.int .i64 id,.int .i64 kind,.int .i64 addr,.int .i64 many,.bool wp,dv,lv] 52 (0,0))
theorem QW.lt {w:World} {g:Nat} {id kind addr many:Int} {wp:Bool} {dv lv:Value} (h:QW w g id kind addr many wp dv lv):g<w.heap.size:=lt_of_heap h
theorem QW.cells {w : World} {g : Nat} {id kind addr many : Int} {wp : Bool} {dv lv : Value} (h : QW w g id kind addr many wp dv lv) :
  w.cell? ⟨g,0,none⟩=some (.int .i64 id)∧w.cell? ⟨g,1,none⟩=some (.int .i64 kind)∧w.cell? ⟨g,2,none⟩=some (.int .i64 addr)∧w.cell? ⟨g,3,none⟩=some (.int .i64 many)∧w.cell? ⟨g,4,none⟩=some (.bool wp)∧w.cell? ⟨g,5,none⟩=some dv∧w.cell? ⟨g,6,none⟩=some lv:=by
 unfold QW at h;refine⟨?_,?_,?_,?_,?_,?_,?_⟩ <;> simp[World.cell?,h]
theorem QW.unfrozen {w : World} {g : Nat} {id kind addr many : Int} {wp : Bool} {dv lv : Value} (h : QW w g id kind addr many wp dv lv) :
  w.frozen? ⟨g,0,none⟩=false∧w.frozen? ⟨g,1,none⟩=false∧w.frozen? ⟨g,2,none⟩=false∧w.frozen? ⟨g,3,none⟩=false∧w.frozen? ⟨g,4,none⟩=false∧w.frozen? ⟨g,5,none⟩=false∧w.frozen? ⟨g,6,none⟩=false:=by
 unfold QW at h;refine⟨?_,?_,?_,?_,?_,?_,?_⟩ <;> simp[World.frozen?,h]
theorem QW.keep {w w':World} {g:Nat} {id kind addr many:Int} {wp:Bool} {dv lv:Value} (h:QW w g id kind addr many wp dv lv) (e:w'.heap[g]? = w.heap[g]?):QW w' g id kind addr many wp dv lv:=by
 unfold QW at h ⊢;rw[e];exact h
theorem QW.touch {w w':World} {r g:Nat} {id kind addr many:Int} {wp:Bool} {dv lv:Value} (h:QW w g id kind addr many wp dv lv) (ht:Touch r w w') (hr:g≠r):QW w' g id kind addr many wp dv lv:=h.keep (ht.block g h.lt hr)
theorem QW.below {w w':World} {C g:Nat} {id kind addr many:Int} {wp:Bool} {dv lv:Value} (h:QW w g id kind addr many wp dv lv) (hb:Below C w w') (hr:g<C):QW w' g id kind addr many wp dv lv:=h.keep (hb.block g hr)
theorem QW.alloc {w:World} {g:Nat} {id kind addr many:Int} {wp:Bool} {dv lv:Value} (h:QW w g id kind addr many wp dv lv) (o:Obj):QW (w.alloc o) g id kind addr many wp dv lv:=h.below ((Below.refl w.heap.size w).alloc (Nat.le_refl _) o) h.lt
theorem QW.drewd {w:World} {g:Nat} {id kind addr many:Int} {wp:Bool} {dv lv:Value} (h:QW w g id kind addr many wp dv lv):QW w.drew g id kind addr many wp dv lv:=h
theorem QW.setc {w:World} {g:Nat} {id kind addr many:Int} {wp:Bool} {dv lv:Value} (h:QW w g id kind addr many wp dv lv) (b o:Nat) (u:Value) (hr:g≠b):QW (w.setCell ⟨b,o,none⟩ u) g id kind addr many wp dv lv:=h.keep (Below.heap_setCell _ _ _ _ hr)
theorem QW.new (w:World) {id kind addr many:Int} {wp:Bool} {dv lv:Value}:QW (w.alloc (.cells #[.int .i64 id,.int .i64 kind,.int .i64 addr,.int .i64 many,.bool wp,dv,lv] 52)) w.heap.size id kind addr many wp dv lv:=by
 show(w.heap.push _)[w.heap.size]? = _;simp
theorem QW.set0 {w:World} {g:Nat} {id kind addr many:Int} {wp:Bool} {dv lv:Value} (h:QW w g id kind addr many wp dv lv) (x:Int):QW (w.setCell ⟨g,0,none⟩ (.int .i64 x)) g x kind addr many wp dv lv:=by
 unfold QW at h ⊢;simp[World.setCell,Array.getElem?_modify,h]
theorem QW.set1 {w:World} {g:Nat} {id kind addr many:Int} {wp:Bool} {dv lv:Value} (h:QW w g id kind addr many wp dv lv) (x:Int):QW (w.setCell ⟨g,1,none⟩ (.int .i64 x)) g id x addr many wp dv lv:=by
 unfold QW at h ⊢;simp[World.setCell,Array.getElem?_modify,h]
theorem QW.set2 {w:World} {g:Nat} {id kind addr many:Int} {wp:Bool} {dv lv:Value} (h:QW w g id kind addr many wp dv lv) (x:Int):QW (w.setCell ⟨g,2,none⟩ (.int .i64 x)) g id kind x many wp dv lv:=by
 unfold QW at h ⊢;simp[World.setCell,Array.getElem?_modify,h]
theorem QW.set3 {w:World} {g:Nat} {id kind addr many:Int} {wp:Bool} {dv lv:Value} (h:QW w g id kind addr many wp dv lv) (x:Int):QW (w.setCell ⟨g,3,none⟩ (.int .i64 x)) g id kind addr x wp dv lv:=by
 unfold QW at h ⊢;simp[World.setCell,Array.getElem?_modify,h]
theorem QW.set4 {w:World} {g:Nat} {id kind addr many:Int} {wp:Bool} {dv lv:Value} (h:QW w g id kind addr many wp dv lv) (x:Bool):QW (w.setCell ⟨g,4,none⟩ (.bool x)) g id kind addr many x dv lv:=by
 unfold QW at h ⊢;simp[World.setCell,Array.getElem?_modify,h]
theorem QW.set5 {w:World} {g:Nat} {id kind addr many:Int} {wp:Bool} {dv lv:Value} (h:QW w g id kind addr many wp dv lv) (x:Value):QW (w.setCell ⟨g,5,none⟩ x) g id kind addr many wp x lv:=by
 unfold QW at h ⊢;simp[World.setCell,Array.getElem?_modify,h]
theorem QW.set6 {w:World} {g:Nat} {id kind addr many:Int} {wp:Bool} {dv lv:Value} (h:QW w g id kind addr many wp dv lv) (x:Value):QW (w.setCell ⟨g,6,none⟩ x) g id kind addr many wp dv x:=by
 unfold QW at h ⊢;simp[World.setCell,Array.getElem?_modify,h]
theorem QW.ofNew {r:Nat} {w w':World} {id kind addr many:Int} {wp:Bool} {dv lv:Value} (ht:Touch r (w.alloc (.cells #[.int .i64 id,.int .i64 kind,.int .i64 addr,.int .i64 many,.bool wp,dv,lv] 52)) w') (hr:r<w.heap.size):QW w' w.heap.size id kind addr many wp dv lv:=(QW.new w).touch ht (by omega)
def TW (w:World) (g:Nat) (xs:Array Value):Prop:=w.heap[g]? = some (.cells xs 3 (0,0))
theorem TW.at_ {w:World} {g:Nat} {xs:Array Value} (h:TW w g xs) (i:Nat) (v:Value) (hv:xs[i]? = some v):w.cell? ⟨g,i,none⟩=some v:=by
 unfold TW at h;simp[World.cell?,h,hv]
theorem TW.touch {w w':World} {r g:Nat} {xs:Array Value} (h:TW w g xs) (ht:Touch r w w') (hr:g≠r):TW w' g xs:=by
 unfold TW at h ⊢;rw[ht.block g (lt_of_heap h) hr];exact h
theorem TW.ofNew {r:Nat} {w w':World} {xs:Array Value} (ht:Touch r (w.alloc (.cells xs 3)) w') (hr:r<w.heap.size):TW w' w.heap.size xs :=
 TW.touch (w:=w.alloc (.cells xs 3)) (by show(w.heap.push _)[w.heap.size]? = _;simp) ht (by omega)
theorem TW.alloc {w:World} {g:Nat} {xs:Array Value} (h:TW w g xs) (o:Obj):TW (w.alloc o) g xs:=by
 have hl:=lt_of_heap h;unfold TW at h ⊢;rw[((Below.refl w.heap.size w).alloc (Nat.le_refl _) o).block g hl];exact h
theorem tab4 (a b c d:Int) {n:Nat} (h:n<4):∃y:Int,([Value.int .i64 a,.int .i64 b,.int .i64 c,.int .i64 d]:List Value)[n]? = some (.int .i64 y)∧(y=a∨y=b∨y=c∨y=d):=by
 rcases(show n=0∨n=1∨n=2∨n=3 by omega)with rfl|rfl|rfl|rfl
 ·exact⟨a,rfl,.inl rfl⟩
 ·exact⟨b,rfl,.inr (.inl rfl)⟩
 ·exact⟨c,rfl,.inr (.inr (.inl rfl))⟩
 ·exact⟨d,rfl,.inr (.inr (.inr rfl))⟩
theorem loadVar_req (w : World) (g : Nat) (a b c d e f k : Value) (h0 : w.cell? ⟨g, 0, none⟩ = some a) (h1 : w.cell? ⟨g, 1, none⟩ = some b) (h2 : w.cell? ⟨g, 2, none⟩ = some c) (h3 : w.cell? ⟨g, 3, none⟩ = some d) (h4 : w.cell? ⟨g, 4, none⟩ = some e) (h5 : w.cell? ⟨g, 5, none⟩ = some f) (h6 : w.cell? ⟨g, 6, none⟩ = some k) :
  (loadVar 52 ⟨g,0,none⟩).run Tryz.prog w=.ok (.agg #[a,b,c,d,e,f,k]) w:=by
 simp[loadVar,go_sem,h0,h1,h2,h3,h4,h5,h6]
abbrev qz (w:World) (g:Nat):Prop:=QW w g 0 0 0 0 false (.slice none 0 0) (.slice none 0 0)
theorem touch7 (s:Nat) (w:World) (a b c d e f h:Value):Touch s w (((((((w.setCell ⟨s,0,none⟩ a).setCell ⟨s,1,none⟩ b).setCell ⟨s,2,none⟩ c).setCell ⟨s,3,none⟩ d).setCell ⟨s,4,none⟩ e).setCell ⟨s,5,none⟩ f).setCell ⟨s,6,none⟩ h) :=
 ((((((Touch.setCell _ _ _ _).trans (Touch.setCell _ _ _ _)).trans (Touch.setCell _ _ _ _)).trans (Touch.setCell _ _ _ _)).trans (Touch.setCell _ _ _ _)).trans (Touch.setCell _ _ _ _)).trans (Touch.setCell _ _ _ _)
def ReqCopyP (r:Rq) (w:World) (e:Ending) (w':World):Prop:=∃d l,e=.returned (.agg #[.int .i64 r.id,.int .i64 r.kind,.int .i64 r.addr,.int .i64 r.many,.bool r.wrap,d,l])∧Owns w' w.heap.size 3 1 rowI d r.data∧Owns w' w.heap.size 3 1 rowI l r.lanes∧Apart d l∧Below w.heap.size w w'
set_option maxRecDepth 8000 in
theorem reqCopy_any (v : Value) (r : Rq) (B : Nat) (w : World) (h : ReqV w B v r) (hB : B ≤ w.heap.size) (hl1 : r.data.length ≤ 1048576) (hl2 : r.lanes.length ≤ 1048576) :
  Calls Tryz.prog 115 #[v] w (ReqCopyP r w):=by
 obtain⟨dv,lv,rfl,h1,h2,_⟩:=h;have HD:=hid h1;have HL:=hid h2;have HB:=hid hB;have HL1:=hid hl1;have HL2:=hid hl2;obtain⟨da,dc,rfl,_⟩:=h1.opened;obtain⟨la,lc,rfl,_⟩:=h2.opened;clear h1 h2 hB hl1 hl2
 go_enter Tryz.func115,Tryz.ntmps115
 go_upto_region 1 with fail
 obtain⟨W2,hW2⟩:∃W2,W2=(w.alloc (.cells #[.int .i64 r.id,.int .i64 r.kind,.int .i64 r.addr,.int .i64 r.many,.bool r.wrap,.slice da r.data.length dc,.slice la r.lanes.length lc] 52)).alloc (.cells #[.int .i64 0,.int .i64 0,.int .i64 0,.int .i64 0,.bool false,.slice none 0 0,.slice none 0 0] 52):=⟨_,rfl⟩
 have HB2:=hid (show Below w.heap.size w W2 by rw[hW2];exact(bx1 _ _).alloc (by simp) _);have HS:=hid (show BoxQ W2 w.heap.size r (.slice da r.data.length dc) (.slice la r.lanes.length lc) by rw[hW2];exact(BoxQ.new w r _ _).below (bx1 _ _) (by simp));have HR:=hid (show Bx W2 (w.heap.size+1) [.int .i64 0,.int .i64 0,.int .i64 0,.int .i64 0,.bool false,.slice none 0 0,.slice none 0 0] by rw[hW2];have:=Bx.new (w.alloc (.cells #[.int .i64 r.id,.int .i64 r.kind,.int .i64 r.addr,.int .i64 r.many,.bool r.wrap,.slice da r.data.length dc,.slice la r.lanes.length lc] 52)) #[.int .i64 0,.int .i64 0,.int .i64 0,.int .i64 0,.bool false,.slice none 0 0,.slice none 0 0] 52 (by simp);simpa using this);rw[←hW2];have HZ:=hid (show W2.heap.size=w.heap.size+2 by rw[hW2];simp);clear hW2
 go_cut [] from 3 to 10 (fun wd=>QrP w.heap.size r W2 wd)
 case first=>
  rename_i J K' hJ hK;exact qr_region _ _ _ _ _ _ _ _ _ _ _ w.heap.size B _ _ r W2 (by rw[HZ.out];omega) HB.out HS.out (HD.out.below (HB2.out.mono HB.out)) (HL.out.below (HB2.out.mono HB.out)) HL1.out HL2.out (fun u3 u4 u5 u6 u7 u8 u9 u10 wd h=>hK _ _ (Met.intro (hJ _ _ ⟨u3,u4,u5,u6,u7,u8,u9,u10,h,rfl⟩)))
 case rest=>
  obtain⟨d,l,hbx,od,ol,hap,ht⟩:=hcut;have HBX:=hid hbx;have OD:=hid od;have OL:=hid ol;have AP:=hid hap;have HT:=hid ht;obtain⟨d1,d2,rfl,_,_⟩:=od.shape;obtain⟨l1,l2,rfl,_,_⟩:=ol.shape;have HR2:=hid (HR.out.kept (ht.block _ (by rw[HZ.out];omega) (by omega)));clear hbx od ol hap ht;obtain⟨⟨k0,k1,k2,k3,k4,k5,k6⟩,_⟩:=HBX.out.bx.seven;obtain⟨⟨q0,q1,q2,q3,q4,q5,q6⟩,m0,m1,m2,m3,m4,m5,m6⟩:=HR2.out.seven;have hl1:=HR2.out.lt;have hl0:=HBX.out.lt
  go_wp2_with fail
  refine bodyPost_ret (zB0 Tryz.results115 _ _ ⟨w.heap.size+1,0,none⟩ (.agg #[.int .i64 r.id,.int .i64 r.kind,.int .i64 r.addr,.int .i64 r.many,.bool r.wrap,.slice d1 r.data.length d2,.slice l1 r.lanes.length l2]) rfl (loadVar_req _ _ _ _ _ _ _ _ _ (by simp[go_sem, *]) (by simp[go_sem, *]) (by simp[go_sem, *]) (by simp[go_sem, *]) (by simp[go_sem, *]) (by simp[go_sem, *]) (by simp[go_sem, *]))) rfl ⟨_,_,rfl,?_,?_,AP.out,?_⟩
  ·have hz:=HZ.out;exact OwnR.rebase (OwnR.kept OD.out (fun k hk=>(touch7 (w.heap.size+1) _ _ _ _ _ _ _ _).block k (OwnR.lt OD.out k hk).2 (by have:=(OwnR.lt OD.out k hk).1;omega))) (show w.heap.size≤W2.heap.size by omega)
  ·have hz:=HZ.out;exact OwnR.rebase (OwnR.kept OL.out (fun k hk=>(touch7 (w.heap.size+1) _ _ _ _ _ _ _ _).block k (OwnR.lt OL.out k hk).2 (by have:=(OwnR.lt OL.out k hk).1;omega))) (show w.heap.size≤W2.heap.size by omega)
  ·have hz:=HZ.out;exact(HB2.out.trans (HT.out.below (Nat.le_refl _) (by omega))).trans ((touch7 (w.heap.size+1) _ _ _ _ _ _ _ _).below (by omega) (by omega))
theorem zG5:Elem 53 52 7 88:=zF1 Tryz.underlying53 (z:=(.agg #[.int .i64 0,.int .i64 0,.int .i64 0,.int .i64 0,.bool false,.slice none 0 0,.slice none 0 0])) (by kernel_rfl) rfl (by omega)
theorem sClone_ReqReq {α : Type} (f : α → List Value) (hf : ∀ x, (f x).length = 7) (h1 : ∀ x, ∀ u ∈ f x, u.oneCell' = true) (v : Value) (ys : List α) (B : Nat) (w : World) (ha : Arr w B 7 v (ys.map f)) (hlen : ys.length * 88 ≤ 140737488355328) :
  Calls Tryz.prog 157 #[v] w (zL0 f 52 7 ys w):=by
 have ha0:=hid ha;obtain⟨ao,cap,rfl,g1,g2,g0,g9,g3⟩:=ha;simp only[List.length_map]at g1 g2 g0 ⊢;clear g3;cases ao with
 |none=>
  obtain rfl:=g9 rfl;have hy:ys=[]:=by
   rcases ys with _|⟨y,ys⟩
   ·rfl
   ·simp at g1
  subst hy;have he:=fun w=>Lib.run_eql_slice_nil (P:=Tryz.prog) w 53 52 none 0 0 0 0 Tryz.underlying53
  go_enter Tryz.func157,Tryz.ntmps157
  go_wp2_with fail
  go_ret
  exact⟨_,rfl,Owns.zero,Below.refl _ _⟩
 |some ad=>
  have he:=fun w=>Lib.run_eql_slice_nil (P:=Tryz.prog) w 53 52 (some ad) ys.length cap 0 0 Tryz.underlying53
  clear g9
  go_enter Tryz.func157,Tryz.ntmps157
  go_wp2_with (at_builtin;go_must (refine zG2 zG5 f hf h1 _ rfl _ _ rfl w.heap.size _ [] (by rfl) (Owns.lit (Nat.le_refl _)) _ ys (min B w.heap.size) (by rfl) (by have:=(ha0.out).fit (by omega) (by intro r hr;obtain⟨y,_,rfl⟩:=List.mem_map.1 hr;exact hf y);simp only[List.length_map]at this;exact this.below ((Below.refl _ _).alloc (Nat.min_le_right _ _) _)) (by simpa using hlen) (by simp;omega) (by simp) ?_);intro v' w1 hown1 hb1 _)
  go_ret
  exact⟨v', rfl,by simpa using hown1,((Below.refl _ _).alloc (Nat.le_refl _) _).trans hb1⟩
theorem sClip_ReqReq (a:Option Addr) (n c:Nat) (w:World) (hc:n≤c) (hm:c≤9223372036854775807):Calls Tryz.prog 156 #[.slice a n c] w fun e w' => e=.returned (.slice a n n)∧w=w':=by
 go_enter Tryz.func156,Tryz.ntmps156
 go_wp2_with fail
 go_ret
 exact⟨rfl,rfl⟩
theorem clone_ReqReq {α : Type} (f : α → List Value) (hf : ∀ x, (f x).length = 7) (h1 : ∀ x, ∀ u ∈ f x, u.oneCell' = true) (v : Value) (ys : List α) (B : Nat) (w : World) (ha : Arr w B 7 v (ys.map f)) (hlen : ys.length * 88 ≤ 140737488355328) :
  Calls Tryz.prog 114 #[v] w (zL0 f 52 7 ys w):=by
 go_enter Tryz.func114,Tryz.ntmps114
 go_wp2_with fail
 refine(sClone_ReqReq f hf h1 v ys B w ha hlen).mono ?_;rintro e w1 ⟨u,rfl,hown,hb⟩;obtain⟨a,c,rfl,hc1,hc2⟩:=hown.shape
 go_wp2_with fail
 refine(sClip_ReqReq a ys.length c _ hc1 hc2).mono ?_;rintro e w2 ⟨rfl,rfl⟩
 go_wp2_with fail
 go_ret
 exact⟨_,rfl,hown.clip,hb⟩
structure QcO (w:World) (lo g o c n:Nat) (qs:List Rq) (vs:List (Value×Value)) (rest:List RqV):Prop where
 len:vs.length=qs.length
 le:qs.length+rest.length=n
 rows:Owns w lo 52 7 rowQ (.slice (some ⟨g,o,none⟩) n c) (zipQ qs vs++rest)
 d:∀j,j<qs.length→Owns w lo 3 1 rowI (vs.getD j default).1 (qs.getD j default).data
 l:∀j,j<qs.length→Owns w lo 3 1 rowI (vs.getD j default).2 (qs.getD j default).lanes
 n1:∀j,j<qs.length→(vs.getD j default).1.ownBlock≠some g
 n2:∀j,j<qs.length→(vs.getD j default).2.ownBlock≠some g
 a1:∀i j,i<qs.length→j<qs.length→i≠j→Apart (vs.getD i default).1 (vs.getD j default).1
 a2:∀i j,i<qs.length→j<qs.length→i≠j→Apart (vs.getD i default).2 (vs.getD j default).2
 a3:∀i j,i<qs.length→j<qs.length→Apart (vs.getD i default).1 (vs.getD j default).2
theorem QcO.g {w:World} {lo g o c n:Nat} {qs:List Rq} {vs:List (Value×Value)} {rest:List RqV} (h:QcO w lo g o c n qs vs rest):lo≤g∧g<w.heap.size:=OwnR.lt h.rows g rfl
theorem QcO.kept {w w':World} {lo g o c n:Nat} {qs:List Rq} {vs:List (Value×Value)} {rest:List RqV} (h:QcO w lo g o c n qs vs rest) (hk:∀k,lo≤k→k<w.heap.size→w'.heap[k]? = w.heap[k]?):QcO w' lo g o c n qs vs rest :=
  { h with rows := OwnR.kept h.rows fun k hk2 => hk k (OwnR.lt h.rows k hk2).1 (OwnR.lt h.rows k hk2).2
           d:=fun j hj=>OwnR.kept (h.d j hj) fun k hk2=>hk k (OwnR.lt (h.d j hj) k hk2).1 (OwnR.lt (h.d j hj) k hk2).2
           l:=fun j hj=>OwnR.kept (h.l j hj) fun k hk2=>hk k (OwnR.lt (h.l j hj) k hk2).1 (OwnR.lt (h.l j hj) k hk2).2 }
theorem QcO.below {w w':World} {lo g o c n:Nat} {qs:List Rq} {vs:List (Value×Value)} {rest:List RqV} (h:QcO w lo g o c n qs vs rest) (hb:Below w.heap.size w w'):QcO w' lo g o c n qs vs rest:=h.kept fun k _ hk=>hb.block k hk
theorem QcO.rebase {w:World} {lo lo' g o c n:Nat} {qs:List Rq} {vs:List (Value×Value)} {rest:List RqV} (h:QcO w lo g o c n qs vs rest) (hl:lo' ≤ lo):QcO w lo' g o c n qs vs rest :=
 { h with rows:=OwnR.rebase h.rows hl,d:=fun j hj=>OwnR.rebase (h.d j hj) hl,l:=fun j hj=>OwnR.rebase (h.l j hj) hl }
theorem QcO.bound {w:World} {lo g o c n:Nat} {qs:List Rq} {vs:List (Value×Value)} {rest:List RqV} (h:QcO w lo g o c n qs vs rest):QsB w.heap.size g qs.length vs :=
 ⟨h.g.2,fun j hj k hk=>(OwnR.lt (h.d j hj) k hk).2,fun j hj k hk=>(OwnR.lt (h.l j hj) k hk).2⟩
theorem QcO.reqs {w:World} {lo g o c n:Nat} {qs:List Rq} {vs:List (Value×Value)} (h:QcO w lo g o c n qs vs []) (hn:qs.length≤1048576) (hq:∀q∈qs,Rq20 q∧(∀y∈q.data,I64 y)∧(∀y∈q.lanes,I64 y)∧I64 q.id∧I64 q.kind∧I64 q.addr∧I64 q.many):Reqs w w.heap.size (.slice (some ⟨g,o,none⟩) n c) qs:=by
 have hr:=h.rows;rw[List.append_nil]at hr;have hl1:(zipQ qs vs).length=qs.length:=zC3 h.len;have key:=reqs_of (B:=w.heap.size) (P:=(·<w.heap.size)) (hr.arrD (P:=(·<w.heap.size)) (fun k hk=>(OwnR.lt hr k hk).2) zC8 (by omega)) (fun y hy=>?_) (fun b hb=>hb)
 ·have e:(zipQ qs vs).map (·.1)=qs:=by
   unfold zipQ;rw[List.map_zipWith];apply List.ext_getElem
   ·simp[h.len]
   ·intro i h1 h2;simp
  rw[e]at key;exact key
 ·obtain⟨k,hk,rfl⟩:=List.mem_iff_getElem.1 hy;have hk':k<qs.length:=by omega
  have e:(zipQ qs vs)[k]=(qs.getD k default,vs.getD k default):=by
   rw[←zipQ_get h.len hk' zQ];simp[List.getD,hk]
  rw[e];obtain⟨⟨b1,b2⟩,i1,i2,i3⟩:=hq _ (zB5 (d:=default) hk');exact⟨(h.d k hk').intsD (fun b hb=>(OwnR.lt (h.d k hk') b hb).2) (by omega) i1,(h.l k hk').intsD (fun b hb=>(OwnR.lt (h.l k hk') b hb).2) (by omega) i2,i3⟩
theorem QcO.snoc {w w' : World} {lo g o c n : Nat} {qs : List Rq} {vs : List (Value × Value)} {row : RqV} {rest : List RqV} (h : QcO w lo g o c n qs vs (row :: rest)) (hb : Below w.heap.size w w') {q : Rq} {u z : Value}
  (hu:Owns w' w.heap.size 3 1 rowI u q.data) (hz:Owns w' w.heap.size 3 1 rowI z q.lanes) (ha:Apart u z) :
  QcO (w'.setCells g (o+qs.length * 7) (rowQ (q,u,z))) lo g o c n (qs++[q]) (vs++[(u,z)]) rest:=by
 have hg:=h.g;have h':=h.below hb;have hloh:lo≤w.heap.size:=by omega
 have hul:∀k,u.ownBlock=some k→w.heap.size≤k:=fun k hk=>(OwnR.lt hu k hk).1
 have hzl:∀k,z.ownBlock=some k→w.heap.size≤k:=fun k hk=>(OwnR.lt hz k hk).1
 have hset:∀k,k≠g→(w'.setCells g (o+qs.length * 7) (rowQ (q,u,z))).heap[k]? = w'.heap[k]?:=fun k hk=>setCells_heap g _ _ _ _ hk
 have hl1:(zipQ qs vs).length=qs.length:=zC3 h.len;have dl:∀j,j<qs.length→∀k,(vs.getD j default).1.ownBlock=some k→k<w.heap.size:=fun j hj k hk=>(OwnR.lt (h.d j hj) k hk).2
 have ll:∀j,j<qs.length→∀k,(vs.getD j default).2.ownBlock=some k→k<w.heap.size:=fun j hj k hk=>(OwnR.lt (h.l j hj) k hk).2
 have ev:∀j,j<qs.length→(vs++[(u,z)]).getD j default=vs.getD j default:=fun j hj=>zB7 (by rw[h.len];exact hj)
 have ev2:(vs++[(u,z)]).getD qs.length default=(u,z):=by rw[←h.len];exact zC5
 have eq1:∀j,j<qs.length→(qs++[q]).getD j default=qs.getD j default:=fun j hj=>zB7 hj
 have eq2:(qs++[q]).getD qs.length default=q:=zC5;have cs:∀j,j<(qs++[q]).length→j<qs.length∨j=qs.length:=fun j hj=>by simp at hj;omega
 refine⟨by simp[h.len],by have:=h.le;simp at this ⊢;omega,?_,?_,?_,?_,?_,?_,?_,?_⟩
 ·have hk:qs.length<(zipQ qs vs++row::rest).length:=by simp[hl1]
  have r:=h'.rows.row7 (k:=qs.length) hk (q,u,z);rw[zipQ_snoc h.len];have e:(zipQ qs vs++row::rest).set qs.length (q,u,z)=zipQ qs vs++[(q,u,z)]++rest:=by
   rw[List.set_append_right _ _ (by omega),hl1,Nat.sub_self,List.set_cons_zero,List.append_assoc];rfl
  rw[e]at r;exact r
 ·intro j hj;rcases cs j hj with hj|rfl
  ·rw[ev j hj,eq1 j hj];exact OwnR.kept (h'.d j hj) fun k hk=>hset k fun e=>h.n1 j hj (e▸hk)
  ·rw[ev2,eq2];exact(hu.rebase hloh).kept fun k hk=>hset k (by have:=hul k hk;omega)
 ·intro j hj;rcases cs j hj with hj|rfl
  ·rw[ev j hj,eq1 j hj];exact OwnR.kept (h'.l j hj) fun k hk=>hset k fun e=>h.n2 j hj (e▸hk)
  ·rw[ev2,eq2];exact(hz.rebase hloh).kept fun k hk=>hset k (by have:=hzl k hk;omega)
 ·intro j hj;rcases cs j hj with hj|rfl
  ·rw[ev j hj];exact h.n1 j hj
  ·rw[ev2];intro e;have:=hul g e;omega
 ·intro j hj;rcases cs j hj with hj|rfl
  ·rw[ev j hj];exact h.n2 j hj
  ·rw[ev2];intro e;have:=hzl g e;omega
 ·intro i j hi hj hne;rcases cs i hi with hi|rfl <;> rcases cs j hj with hj|rfl
  ·rw[ev i hi,ev j hj];exact h.a1 i j hi hj hne
  ·rw[ev i hi,ev2];exact Apart.of_lt (dl i hi) hul
  ·rw[ev j hj,ev2];exact(Apart.of_lt (dl j hj) hul).symm
  ·exact absurd rfl hne
 ·intro i j hi hj hne;rcases cs i hi with hi|rfl <;> rcases cs j hj with hj|rfl
  ·rw[ev i hi,ev j hj];exact h.a2 i j hi hj hne
  ·rw[ev i hi,ev2];exact Apart.of_lt (ll i hi) hzl
  ·rw[ev j hj,ev2];exact(Apart.of_lt (ll j hj) hzl).symm
  ·exact absurd rfl hne
 ·intro i j hi hj;rcases cs i hi with hi|rfl <;> rcases cs j hj with hj|rfl
  ·rw[ev i hi,ev j hj];exact h.a3 i j hi hj
  ·rw[ev i hi,ev2];exact Apart.of_lt (dl i hi) hzl
  ·rw[ev j hj,ev2];exact(Apart.of_lt (ll j hj) hul).symm
  ·rw[ev2];exact ha
def Progs (w:World) (B:Nat) (v:Value) (pss:List (List Rq)):Prop:=ArrV Reqs w B 1 v pss
theorem Progs.below {w w':World} {B:Nat} {v:Value} {pss:List (List Rq)} (h:Progs w B v pss) (hb:Below B w w'):Progs w' B v pss:=ArrV.below h hb fun _ _ h=>h.below hb
theorem Progs.mono {w:World} {B B':Nat} {v:Value} {pss:List (List Rq)} (h:Progs w B v pss) (hb:B≤B'):Progs w B' v pss:=ArrV.mono h hb fun _ _ h=>h.mono hb
theorem Progs.opened {w : World} {B : Nat} {v : Value} {pss : List (List Rq)} (h : Progs w B v pss) :
  ∃ ao cap, v = .slice ao pss.length cap ∧ pss.length ≤ cap ∧ cap ≤ 9223372036854775807 ∧ pss.length ≤ 140737488351232 ∧ (ao = none → cap = 0) ∧
   (pss.length≠0→∃b off,ao=some ⟨b,off,none⟩∧b<B∧∀t,t<pss.length→∃da dc,Reqs w B (.slice da (pss.getD t []).length dc) (pss.getD t [])∧w.cell? ⟨b,off+t,none⟩=some (.slice da (pss.getD t []).length dc)):=by
 obtain⟨ao,cap,rfl,h1,h2,h0,h9⟩:=ArrV.shape h;refine⟨ao,cap,rfl,h1,h2,h0,h9,fun hn=>?_⟩;obtain⟨b,off,ha,hlt,hc⟩:=ArrV.at h hn;refine⟨b,off,ha,hlt,fun t ht=>?_⟩;obtain⟨u,hu,hcell⟩:=hc t ht;have hu':=hu [];obtain⟨da,dc,rfl,_⟩:=Reqs.opened hu';refine⟨da,dc,hu', ?_⟩;have:=hcell 0 (by omega);simpa[Value.cells]using this
def BusI (w:World) (B:Nat) (v:Value) (ms:List MR) (lat:List Int) (pss:List (List Rq)):Prop:=∃mv lv pv,v=.agg #[mv,lv,pv]∧Maps w B mv ms∧Ints w B lv lat∧Progs w B pv pss
theorem BusI.below {w w':World} {B:Nat} {v:Value} {ms:List MR} {lat:List Int} {pss:List (List Rq)} (h:BusI w B v ms lat pss) (hb:Below B w w'):BusI w' B v ms lat pss:=by
 obtain⟨mv,lv,pv,e,h1,h2,h3⟩:=h;exact⟨mv,lv,pv,e,h1.below hb,h2.below hb,h3.below hb⟩
theorem BusI.mono {w:World} {B B':Nat} {v:Value} {ms:List MR} {lat:List Int} {pss:List (List Rq)} (h:BusI w B v ms lat pss) (hb:B≤B'):BusI w B' v ms lat pss:=by
 obtain⟨mv,lv,pv,e,h1,h2,h3⟩:=h;exact⟨mv,lv,pv,e,h1.mono hb,h2.mono hb,h3.mono hb⟩
def progOk (p:List Rq):Bool:=decide (p.length≤12)&&p.all reqOk
def busOk (ms:List MR) (lat:List Int) (pss:List (List Rq)):Bool:=mapOk ms&&decide (lat.length=4)&&lat.all (inB · 0 3)&&decide (pss.length=3)&&pss.all progOk
def IdxPP (p:List Rq→Bool) (rs:List (List Rq)) (w:World) (e:Ending) (w':World):Prop:=e=.returned (.int .i64 (idxP p rs))∧Below w.heap.size w w'
def HasPP (p:List Rq→Bool) (rs:List (List Rq)) (w:World) (e:Ending) (w':World):Prop:=e=.returned (.bool (rs.any p))∧Below w.heap.size w w'
theorem idxProg_any (K : FuncId) (cap : Array Value) (hK : zE4 K) (p : List Rq → Bool) (v : Value) (rs : List (List Rq)) (B : Nat) (w : World) (hv : Progs w B v rs) (hB : B ≤ w.heap.size)
  (hf:∀(r:List Rq) (u:Value) (w1:World),Below w.heap.size w w1→Reqs w1 B u r→Calls Tryz.prog K (#[u]++cap) w1 fun e w' => e=.returned (.bool (p r))∧Below w1.heap.size w1 w') :
  Calls Tryz.prog 151 #[v,.func (.func K) #[] cap] w (IdxPP p rs w):=by
 obtain⟨ao,cap', rfl,hlc,hcap,hln,hni,hr⟩:=hv.opened;have HF:=hid hf;clear hf hv;have hK2:=fun args w=>hK args w
 go_enter Tryz.func151,Tryz.ntmps151
 go_wp2_with fail
 go_loopw [8] (fun i wr=>∃k:Nat,k≤rs.length∧i=.int .i64 k∧Below w.heap.size w wr∧∀j,j<k→p (rs.getD j [])=false) (fun i _=>rs.length - (intOf i).toNat)
 case atStart=>exact⟨0,Nat.zero_le _,rfl,Below.refl _ _,by simp⟩
 case round=>
  obtain⟨k,hk,rfl,hbl,hno⟩:=hrel;have HN:=hid hno;clear hno;by_cases hlt:k<rs.length
  ·obtain⟨b,off,rfl,hb,hc⟩:=hr (by omega);obtain⟨da,dc,hu,c0⟩:=hc k hlt;obtain⟨x,hx⟩:∃x,x=rs.getD k []:=⟨_,rfl⟩
   rw[←hx]at c0 hu;rw[←hbl.cell (p:=⟨b,_,none⟩) (Nat.lt_of_lt_of_le hb hB)]at c0;have HX:=hid hx;have HU:=hid (hu.below (hbl.mono hB));clear hx hc hr hu
   go_wp2_with fail
   refine(HF.out x _ _ hbl HU.out).mono ?_;rintro e w' ⟨rfl,hb'⟩;have hsz:=hbl.size;have HB:=hid (hbl.trans (hb'.mono hsz));clear hbl;rcases hp:p x with _|_
   ·have HQ:=hid (zK9 HN.out (show p (rs.getD k [])=false by rw[←HX.out];exact hp))
    go_wp2_with fail
    go_roundw
    case rel=>exact⟨k+1,by omega,by go_num,HB.out,HQ.out⟩
    case measure=>simp[intOf];omega
   ·have HQ:=hid (zM7 p rs k [] hlt (by rw[←HX.out];exact hp) HN.out)
    go_wp2_with fail
    go_ret
    exact⟨by rw[HQ.out];rfl,HB.out⟩
  ·have HF2:=hid (zL8 p rs [] (fun j hj=>HN.out j (by omega)))
   go_wp2_with fail
   go_ret
   exact⟨by rw[HF2.out];rfl,hbl⟩
theorem hasProg_any (K : FuncId) (cap : Array Value) (hK : zE4 K) (p : List Rq → Bool) (v : Value) (rs : List (List Rq)) (B : Nat) (w : World) (hv : Progs w B v rs) (hB : B ≤ w.heap.size)
  (hf:∀(r:List Rq) (u:Value) (w1:World),Below w.heap.size w w1→Reqs w1 B u r→Calls Tryz.prog K (#[u]++cap) w1 fun e w' => e=.returned (.bool (p r))∧Below w1.heap.size w1 w') :
  Calls Tryz.prog 102 #[v,.func (.func K) #[] cap] w (HasPP p rs w):=by
 have HA:=hid (idxP_any p rs)
 go_enter Tryz.func102,Tryz.ntmps102
 go_wp2_with fail
 refine(idxProg_any K cap hK p v rs B _ hv hB hf).mono ?_;rintro e w' ⟨rfl,hb⟩
 go_wp2_with fail
 go_ret
 exact⟨by rw[←HA.out];rfl,hb⟩
theorem busLat_any (x:Int) (w:World):Calls Tryz.prog 101 #[.int .i64 x] w fun e w' => e=.returned (.bool (!inB x 0 3))∧w=w':=by
 rcases h:inB x 0 3 with _|_
 all_goals
  go_enter Tryz.func101,Tryz.ntmps101
  go_wp2_with (go_at_call 63;refine(zH2 _ _ _ _).mono ?_;rw[h];rintro e w' ⟨rfl,rfl⟩)
  go_ret
  exact⟨rfl,rfl⟩
theorem busReq_any (r : Rq) (u : Value) (B : Nat) (w : World) (hu : ReqV w B u r) (hB : B ≤ w.heap.size) :
  Calls Tryz.prog 104 #[u] w fun e w' => e=.returned (.bool (!reqOk r))∧Below w.heap.size w w':=by
 have HU:=hid hu;obtain⟨dv,lv,rfl,k1,k2,_⟩:=hu;obtain⟨da,dc,rfl,_⟩:=k1.opened;obtain⟨la,lc,rfl,_⟩:=k2.opened;rcases h:reqOk r with _|_
 all_goals
  have HR:=hid h;clear h
  go_enter Tryz.func104,Tryz.ntmps104
  go_wp2_with (first|(go_at_call 48;go_loud ((with_reducible refine(implReqOk_any _ r B _ (HU.out.below ((Below.refl _ _).alloc hB _)) (by simp;omega)).mono ?_);rw[HR.out];rintro e w1 ⟨rfl,hb1⟩)))
  go_ret
  exact⟨rfl,((Below.refl _ _).alloc (Nat.le_refl _) _).trans (hb1.mono (by simp))⟩
theorem all_not_any {α:Type} (p:α→Bool) (xs:List α):xs.any (fun x=>!p x)=!xs.all p:=by induction xs <;> simp_all [Bool.not_and]
theorem busProg_any (p : List Rq) (u : Value) (B : Nat) (w : World) (hu : Reqs w B u p) (hB : B ≤ w.heap.size) :
  Calls Tryz.prog 103 #[u] w fun e w' => e=.returned (.bool (!progOk p))∧Below w.heap.size w w':=by
 have HU:=hid hu;obtain⟨ao,cap,rfl,hlc,hcap,hln,hni,hr⟩:=hu.opened;clear hr hu;have HE:=hid (all_not_any reqOk p);by_cases h12:(12:Int)<(p.length:Int)
 ·have hd:progOk p=false:=by unfold progOk;rw[decide_eq_false (by omega)];rfl
  rw[hd]
  go_enter Tryz.func103,Tryz.ntmps103
  go_wp2_with fail
  go_ret
  exact⟨rfl,Below.refl _ _⟩
 ·have hd:progOk p=p.all reqOk:=by unfold progOk;rw[decide_eq_true (by omega)];rfl
  have h12':decide ((12:Int)<(p.length:Int))=false:=decide_eq_false h12;rw[hd];rcases hq:p.all reqOk with _|_
  all_goals
   rw[hq]at HE
   go_enter Tryz.func103,Tryz.ntmps103
   go_wp2_with (first
    |(go_at_call 77;refine(hasReq_any 104 _ (zB3 Tryz.func104 (by kernel_rfl) (by kernel_rfl)) (fun r=>!reqOk r) _ p B _ HU.out hB (fun r u' w1 hb hu' => by simpa using busReq_any r u' B w1 hu' (Nat.le_trans hB hb.size))).mono ?_;unfold HasRP;rw[HE.out];rintro e w1 ⟨rfl,hb1⟩))
   go_ret
   exact⟨rfl,hb1⟩
theorem busOk_cases (ms : List MR) (lat : List Int) (pss : List (List Rq)) :
  (busOk ms lat pss=false∧mapOk ms=false)∨(busOk ms lat pss=false∧mapOk ms=true∧¬lat.length=4)∨(busOk ms lat pss=false∧mapOk ms=true∧lat.length=4∧lat.all (inB · 0 3)=false) ∨
  (busOk ms lat pss=false∧mapOk ms=true∧lat.length=4∧lat.all (inB · 0 3)=true∧¬pss.length=3)∨(∃y,busOk ms lat pss=y∧pss.all progOk=y∧mapOk ms=true∧lat.length=4∧lat.all (inB · 0 3)=true∧pss.length=3):=by
 unfold busOk;by_cases h2:lat.length=4 <;> by_cases h4:pss.length=3 <;> rcases h1:mapOk ms with _|_ <;> rcases h3:lat.all (inB · 0 3)with _|_ <;> simp_all
set_option maxRecDepth 4000 in
theorem zI1 (v : Value) (ms : List MR) (lat : List Int) (pss : List (List Rq)) (B : Nat) (w : World) (h : BusI w B v ms lat pss) (hB : B ≤ w.heap.size) :
  Calls Tryz.prog 50 #[v] w fun e w' => e=.returned (.bool (busOk ms lat pss))∧Below w.heap.size w w':=by
 obtain⟨mv,lv,pv,rfl,hm,hl,hp⟩:=h;have HM:=hid hm;have HL:=hid hl;have HP:=hid hp;obtain⟨ma,mc,rfl,_⟩:=hm.opened;obtain⟨la,lc,rfl,_⟩:=hl.opened;obtain⟨pa,pc,rfl,_⟩:=hp.opened;clear hm hl hp;have HS:=hid (fun T=>show Bx (w.alloc (.cells #[.slice ma ms.length mc,.slice la lat.length lc,.slice pa pss.length pc] T)) w.heap.size [.slice ma ms.length mc,.slice la lat.length lc,.slice pa pss.length pc] from Bx.new w #[.slice ma ms.length mc,.slice la lat.length lc,.slice pa pss.length pc] T (by simp));have HB:=hid (bx1 w);have HL2:=hid (all_not_any (inB · 0 3) lat);have HP2:=hid (all_not_any progOk pss);rcases busOk_cases ms lat pss with⟨hy,h1⟩|⟨hy,h1,h2⟩|⟨hy,h1,h2,h3⟩|⟨hy,h1,h2,h3,h4⟩|⟨y,hy,h5,h1,h2,h3,h4⟩
 case inr.inr.inr.inr=>
  rcases y with _|_
  all_goals
   rw[hy];rw[h3]at HL2;rw[h5]at HP2;have q2:((lat.length:Int)==4)=true:=by simp;omega
   have q4:((pss.length:Int)==3)=true:=by simp;omega
   have H1:=hid h1;clear h1 h2 h3 h4 h5 hy
   go_enter Tryz.func50,Tryz.ntmps50
   go_wp2_with (first
    |(go_at_call 47;refine(zD3 _ ms B _ (HM.out.below ((HB.out _).mono hB)) (Nat.le_trans hB (HB.out _).size)).mono ?_;rw[H1.out];rintro e w1 ⟨rfl,hb⟩;have HS1:=hid ((HS.out _).below hb (by simp));obtain⟨⟨c0,c1,c2⟩,_⟩:=HS1.out.three;have HB1:=hid ((HB.out _).trans (hb.mono (by simp)));clear hb)
    |(go_at_call 98;refine(zI7 101 #[] (zB3 Tryz.func101 (by kernel_rfl) (by kernel_rfl)) (fun n=>!inB n 0 3) _ lat B _ (HL.out.below (HB1.out.mono hB)) (fun x _=>by simpa using busLat_any x _)).mono ?_;rw[HL2.out];rintro e w2 ⟨rfl,hw⟩;subst hw)
    |(go_at_call 102;refine(hasProg_any 103 #[] (zB3 Tryz.func103 (by kernel_rfl) (by kernel_rfl)) (fun p=>!progOk p) _ pss B _ (HP.out.below (HB1.out.mono hB)) (Nat.le_trans hB HB1.out.size) (fun r u' w1 hb hu' => by simpa using busProg_any r u' B w1 hu' (Nat.le_trans (Nat.le_trans hB HB1.out.size) hb.size))).mono ?_;unfold HasPP;rw[HP2.out];rintro e w2 ⟨rfl,hb⟩;have HB2:=hid (HB1.out.trans (hb.mono HB1.out.size));clear hb))
   go_ret
   exact⟨rfl,HB2.out⟩
 case inl=>
  rw[hy];have H1:=hid h1;clear h1 hy
  go_enter Tryz.func50,Tryz.ntmps50
  go_wp2_with (first
   |(go_at_call 47;refine(zD3 _ ms B _ (HM.out.below ((HB.out _).mono hB)) (Nat.le_trans hB (HB.out _).size)).mono ?_;rw[H1.out];rintro e w1 ⟨rfl,hb⟩;have HS1:=hid ((HS.out _).below hb (by simp));obtain⟨⟨c0,c1,c2⟩,_⟩:=HS1.out.three;have HB1:=hid ((HB.out _).trans (hb.mono (by simp)));clear hb))
  go_ret
  exact⟨rfl,HB1.out⟩
 case inr.inl=>
  rw[hy];have H1:=hid h1;have q2:((lat.length:Int)==4)=false:=by simp;omega
  clear h1 h2 hy
  go_enter Tryz.func50,Tryz.ntmps50
  go_wp2_with (first
   |(go_at_call 47;refine(zD3 _ ms B _ (HM.out.below ((HB.out _).mono hB)) (Nat.le_trans hB (HB.out _).size)).mono ?_;rw[H1.out];rintro e w1 ⟨rfl,hb⟩;have HS1:=hid ((HS.out _).below hb (by simp));obtain⟨⟨c0,c1,c2⟩,_⟩:=HS1.out.three;have HB1:=hid ((HB.out _).trans (hb.mono (by simp)));clear hb))
  go_ret
  exact⟨rfl,HB1.out⟩
 case inr.inr.inl=>
  rw[hy];have H1:=hid h1;rw[h3]at HL2;have q2:((lat.length:Int)==4)=true:=by simp;omega
  clear h1 h2 h3 hy
  go_enter Tryz.func50,Tryz.ntmps50
  go_wp2_with (first
   |(go_at_call 47;refine(zD3 _ ms B _ (HM.out.below ((HB.out _).mono hB)) (Nat.le_trans hB (HB.out _).size)).mono ?_;rw[H1.out];rintro e w1 ⟨rfl,hb⟩;have HS1:=hid ((HS.out _).below hb (by simp));obtain⟨⟨c0,c1,c2⟩,_⟩:=HS1.out.three;have HB1:=hid ((HB.out _).trans (hb.mono (by simp)));clear hb)
   |(go_at_call 98;refine(zI7 101 #[] (zB3 Tryz.func101 (by kernel_rfl) (by kernel_rfl)) (fun n=>!inB n 0 3) _ lat B _ (HL.out.below (HB1.out.mono hB)) (fun x _=>by simpa using busLat_any x _)).mono ?_;rw[HL2.out];rintro e w2 ⟨rfl,hw⟩;subst hw))
  go_ret
  exact⟨rfl,HB1.out⟩
 case inr.inr.inr.inl=>
  rw[hy];have H1:=hid h1;rw[h3]at HL2;have q2:((lat.length:Int)==4)=true:=by simp;omega
  have q4:((pss.length:Int)==3)=false:=by simp;omega
  clear h1 h2 h3 h4 hy
  go_enter Tryz.func50,Tryz.ntmps50
  go_wp2_with (first
   |(go_at_call 47;refine(zD3 _ ms B _ (HM.out.below ((HB.out _).mono hB)) (Nat.le_trans hB (HB.out _).size)).mono ?_;rw[H1.out];rintro e w1 ⟨rfl,hb⟩;have HS1:=hid ((HS.out _).below hb (by simp));obtain⟨⟨c0,c1,c2⟩,_⟩:=HS1.out.three;have HB1:=hid ((HB.out _).trans (hb.mono (by simp)));clear hb)
   |(go_at_call 98;refine(zI7 101 #[] (zB3 Tryz.func101 (by kernel_rfl) (by kernel_rfl)) (fun n=>!inB n 0 3) _ lat B _ (HL.out.below (HB1.out.mono hB)) (fun x _=>by simpa using busLat_any x _)).mono ?_;rw[HL2.out];rintro e w2 ⟨rfl,hw⟩;subst hw))
  go_ret
  exact⟨rfl,HB1.out⟩
theorem elem_MapRange:Elem 23 144 4 32:=zF1 Tryz.underlying23 (z:=(.agg #[.int .i64 0,.int .i64 0,.int .i64 0,.bool false])) (by kernel_rfl) rfl (by omega)
theorem sClone_MapRange {α : Type} (f : α → List Value) (hf : ∀ x, (f x).length = 4) (h1 : ∀ x, ∀ u ∈ f x, u.oneCell' = true) (v : Value) (ys : List α) (B : Nat) (w : World) (ha : Arr w B 4 v (ys.map f)) (hlen : ys.length * 32 ≤ 140737488355328) :
  Calls Tryz.prog 155 #[v] w (zL0 f 144 4 ys w):=by
 have ha0:=hid ha;obtain⟨ao,cap,rfl,g1,g2,g0,g9,g3⟩:=ha;simp only[List.length_map]at g1 g2 g0 ⊢;clear g3;cases ao with
 |none=>
  obtain rfl:=g9 rfl;have hy:ys=[]:=by
   rcases ys with _|⟨y,ys⟩
   ·rfl
   ·simp at g1
  subst hy;have he:=fun w=>Lib.run_eql_slice_nil (P:=Tryz.prog) w 23 144 none 0 0 0 0 Tryz.underlying23
  go_enter Tryz.func155,Tryz.ntmps155
  go_wp2_with fail
  go_ret
  exact⟨_,rfl,Owns.zero,Below.refl _ _⟩
 |some ad=>
  have he:=fun w=>Lib.run_eql_slice_nil (P:=Tryz.prog) w 23 144 (some ad) ys.length cap 0 0 Tryz.underlying23
  clear g9
  go_enter Tryz.func155,Tryz.ntmps155
  go_wp2_with (at_builtin;go_must (refine zG2 elem_MapRange f hf h1 _ rfl _ _ rfl w.heap.size _ [] (by rfl) (Owns.lit (Nat.le_refl _)) _ ys (min B w.heap.size) (by rfl) (by have:=(ha0.out).fit (by omega) (by intro r hr;obtain⟨y,_,rfl⟩:=List.mem_map.1 hr;exact hf y);simp only[List.length_map]at this;exact this.below ((Below.refl _ _).alloc (Nat.min_le_right _ _) _)) (by simpa using hlen) (by simp;omega) (by simp) ?_);intro v' w1 hown1 hb1 _)
  go_ret
  exact⟨v', rfl,by simpa using hown1,((Below.refl _ _).alloc (Nat.le_refl _) _).trans hb1⟩
theorem sClip_MapRange (a:Option Addr) (n c:Nat) (w:World) (hc:n≤c) (hm:c≤9223372036854775807):Calls Tryz.prog 154 #[.slice a n c] w fun e w' => e=.returned (.slice a n n)∧w=w':=by
 go_enter Tryz.func154,Tryz.ntmps154
 go_wp2_with fail
 go_ret
 exact⟨rfl,rfl⟩
theorem clone_MapRange {α : Type} (f : α → List Value) (hf : ∀ x, (f x).length = 4) (h1 : ∀ x, ∀ u ∈ f x, u.oneCell' = true) (v : Value) (ys : List α) (B : Nat) (w : World) (ha : Arr w B 4 v (ys.map f)) (hlen : ys.length * 32 ≤ 140737488355328) :
  Calls Tryz.prog 113 #[v] w (zL0 f 144 4 ys w):=by
 go_enter Tryz.func113,Tryz.ntmps113
 go_wp2_with fail
 refine(sClone_MapRange f hf h1 v ys B w ha hlen).mono ?_;rintro e w1 ⟨u,rfl,hown,hb⟩;obtain⟨a,c,rfl,hc1,hc2⟩:=hown.shape
 go_wp2_with fail
 refine(sClip_MapRange a ys.length c _ hc1 hc2).mono ?_;rintro e w2 ⟨rfl,rfl⟩
 go_wp2_with fail
 go_ret
 exact⟨_,rfl,hown.clip,hb⟩
def row1 (u:Value):List Value:=[u]
theorem zG7 (u:Value):(row1 u).length=1:=rfl
theorem infoPQ:(Tryz.prog.info? 53).map (fun i=>(i.zero,i.size,i.bytes))=some (some (.slice none 0 0),1,24):=by kernel_rfl
def BoxB (w:World) (s:Nat) (a b p:Value):Prop:=w.heap[s]? = some (.cells #[a,b,p] 27 (0,0))
theorem BoxB.lt {w:World} {s:Nat} {a b p:Value} (h:BoxB w s a b p):s<w.heap.size:=heap_lt h
theorem BoxB.keep {w w':World} {s:Nat} {a b p:Value} (h:BoxB w s a b p) (e:w'.heap[s]? = w.heap[s]?):BoxB w' s a b p:=by unfold BoxB at h ⊢;rw[e];exact h
theorem BoxB.touch {w w':World} {s x:Nat} {a b p:Value} (h:BoxB w s a b p) (ht:Touch x w w') (hx:s≠x):BoxB w' s a b p:=h.keep (ht.block s h.lt hx)
theorem BoxB.below {w w':World} {s C:Nat} {a b p:Value} (h:BoxB w s a b p) (hb:Below C w w') (hx:s<C):BoxB w' s a b p:=h.keep (hb.block s hx)
theorem BoxB.bx {w:World} {s:Nat} {a b p:Value} (h:BoxB w s a b p):Bx w s [a,b,p]:=by
 unfold BoxB at h;exact⟨fun j hj=>by simp[World.cell?,h],fun j hj=>by simp[World.frozen?,h],by simp⟩
theorem BoxB.put {w:World} {s:Nat} {a b p:Value} (h:BoxB w s a b p) (a' b' p':Value):BoxB (((w.setCell ⟨s,0,none⟩ a').setCell ⟨s,1,none⟩ b').setCell ⟨s,2,none⟩ p') s a' b' p':=by
 unfold BoxB at h ⊢;simp[World.setCell,Array.getElem?_modify,h]
theorem BoxB.new (w:World) (a b p:Value):BoxB (w.alloc (.cells #[a,b,p] 27)) w.heap.size a b p:=by
 show(w.heap.push _)[w.heap.size]? = _;simp
theorem touchB (s:Nat) (w:World) (a b p:Value):Touch s w (((w.setCell ⟨s,0,none⟩ a).setCell ⟨s,1,none⟩ b).setCell ⟨s,2,none⟩ p):=((Touch.setCell _ _ _ _).trans (Touch.setCell _ _ _ _)).trans (Touch.setCell _ _ _ _)
theorem Owns.notB {α:Type} {f:α→List Value} {w:World} {base e sz g T:Nat} {v:Value} {xs:List α} {cs:Array Value} (h:Owns w base e sz f v xs) (hg:w.heap[g]? = some (.cells cs T (0,0))) (hT:T≠e):v.ownBlock≠some g:=by
 intro hk;obtain⟨_,h2⟩:=h;rcases h2 with⟨rfl,_⟩|⟨g', off,cap,cur,rfl,_,hh,_⟩
 ·simp[Value.ownBlock]at hk
 ·simp[Value.ownBlock]at hk;subst hk;rw[hh]at hg;simp only[Option.some.injEq,Obj.cells.injEq]at hg;exact hT hg.2.1.symm
theorem Owns.tchB {α:Type} {w w':World} {base e sz g:Nat} {f:α→List Value} {v:Value} {xs:List α} (h:Owns w base e sz f v xs) (ht:Touch g w w') (hg:v.ownBlock≠some g):Owns w' base e sz f v xs :=
 OwnR.kept h fun k hk=>ht.block k (OwnR.lt h k hk).2 (fun e=>hg (by rw[hk,e]))
theorem Owns.boxB {α:Type} {f:α→List Value} {w w':World} {base e sz g:Nat} {v a b p:Value} {xs:List α} (h:Owns w base e sz f v xs) (hB:BoxB w g a b p) (hT:27≠e) (ht:Touch g w w'):Owns w' base e sz f v xs:=h.tchB ht (h.notB hB hT)
theorem Owns.apartT {α β:Type} {f:α→List Value} {f2:β→List Value} {w:World} {base base2 e e2 sz sz2:Nat} {v u:Value} {xs:List α} {ys:List β} (h:Owns w base e sz f v xs) (h2:Owns w base2 e2 sz2 f2 u ys) (hT:e≠e2):Apart v u:=by
 intro k hk;obtain⟨_,h3⟩:=h;rcases h3 with⟨rfl,_⟩|⟨g', off,cap,cur,rfl,_,hh,_⟩
 ·simp[Value.ownBlock]at hk
 ·simp[Value.ownBlock]at hk;subst hk;exact h2.notB hh hT
theorem opWp_mk {α : Type} {o : Oper} {a : Act} {K : Act → World → Prop} {Q : Exit → Act → World → Prop} {T e sz by_ : Nat} (f : α → List Value) (x : α) (z : Value) (hT : Tryz.prog.underlying T = some (.slice e)) (hi : (Tryz.prog.info? e).map (fun i => (i.zero, i.size, i.bytes)) = some (some z, sz, by_))
  (hz:z.cells.size=sz) (hs:0<sz) (hf:f x=z.cells.toList) (w:World) (l c:Operand) (hop:o.op=Op.makeSlice T l c) (kl kc:IntKind) (L C:Int) (n:Nat) (hl:a.eval l=.int kl L) (hc:a.eval c=.int kc C) (hL:L=(n:Int)) (hC:C=(n:Int))
  (b2:by_ * n≤281474976710656) (b3:n≤maxLen)
  (hK:∀w', Owns w' w.heap.size e sz f (.slice (some ⟨w.heap.size,0,none⟩) n n) (List.replicate n x)→Below w.heap.size w w' → K (a.put o.dst (.slice (some ⟨w.heap.size,0,none⟩) n n)) w') :
  o.wp Tryz.prog a w K Q:=by
 obtain⟨i,h1,h2,h3,h4⟩:=info_parts hi;obtain⟨w', hrun,r1,r2⟩:=run_make_full (P:=Tryz.prog) w w.heap.size T e i z sz hT h1 h2 h3 kl kc n (by rw[h4];exact b2) b3 (Nat.le_refl _);have hr:(madeCells z.cells (n * sz)).toList=(List.replicate n x).flatMap f:=by rw[←hz];exact zE8 f x z.cells (by omega) hf n
 rw[hr]at r1;have hO:Owns w' w.heap.size e sz f (.slice (some ⟨w.heap.size,0,none⟩) n n) (List.replicate n x):=by
  unfold Owns;rw[List.length_replicate];exact OwnR.of_row r1
 subst hL;subst hC;unfold Oper.wp;simp[execOp,hop,hl,hc,hrun,Result.andThen];exact hK w' hO ((Below.refl _ _).grown r2 (Nat.le_refl _) (by simp))
abbrev SlV:=Option Addr×Nat×Nat
def slv (s:SlV):Value:=.slice s.1 s.2.1 s.2.2
abbrev RqS:=Rq×SlV×SlV
def rowS7 (y:RqS):List Value:=rowQ (y.1,slv y.2.1,slv y.2.2)
theorem rowS7_len (y:RqS):(rowS7 y).length=7:=rfl
theorem rowS7_one (y:RqS):∀u∈rowS7 y,u.oneCell' = true:=by
 intro u hu;simp only[rowS7,rowQ,List.mem_cons,List.not_mem_nil,or_false]at hu;rcases hu with rfl|rfl|rfl|rfl|rfl|rfl|rfl <;> rfl
theorem list_choose {α:Type} [Inhabited α] (n:Nat) (P:Nat→α→Prop) (h:∀j,j<n→∃y,P j y):∃ys:List α,ys.length=n∧∀j,j<n→P j (ys.getD j default):=by
 induction n with
 |zero=>exact⟨[],rfl,fun j hj=>absurd hj (by omega)⟩
 |succ n ih=>
  obtain⟨ys,hl,hp⟩:=ih fun j hj=>h j (by omega)
  obtain⟨y,hy⟩:=h n (by omega);refine⟨ys++[y],by simp[hl],fun j hj=>?_⟩;by_cases e:j<n
  ·rw[zB7 (by omega)];exact hp j e
  ·obtain rfl:j=n:=by omega
   rw[←hl,zC5];rw[hl];exact hy
theorem Reqs.rowsS {w:World} {B:Nat} {v:Value} {qs:List Rq} (h:Reqs w B v qs):∃ys:List RqS,ys.length=qs.length∧Arr w B 7 v (ys.map rowS7)∧∀j,j<qs.length→(ys.getD j default).1=qs.getD j default∧Ints w B (slv (ys.getD j default).2.1) (qs.getD j default).data∧Ints w B (slv (ys.getD j default).2.2) (qs.getD j default).lanes∧I64 (qs.getD j default).id∧I64 (qs.getD j default).kind∧I64 (qs.getD j default).addr∧I64 (qs.getD j default).many:=by
 obtain⟨vs,h1,h2,h3⟩:=h;have key:∀j,j<qs.length→∃y:RqS,(vs.getD j undef).cells.toList=rowS7 y∧y.1=qs.getD j default∧Ints w B (slv y.2.1) (qs.getD j default).data∧Ints w B (slv y.2.2) (qs.getD j default).lanes∧I64 (qs.getD j default).id∧I64 (qs.getD j default).kind∧I64 (qs.getD j default).addr∧I64 (qs.getD j default).many:=fun j hj=>by
  obtain⟨dv,lv,e,k1,k2,k3⟩:=h3 j hj default;obtain⟨da,dc,rfl,_⟩:=k1.opened;obtain⟨la,lc,rfl,_⟩:=k2.opened;exact⟨(qs.getD j default,(da,_,dc),(la,_,lc)),by rw[e];rfl,rfl,k1,k2,k3⟩
 obtain⟨ys,hl,hp⟩:=list_choose qs.length _ key;refine⟨ys,hl,?_,fun j hj=>(hp j hj).2⟩;have e:vs.map (fun u=>u.cells.toList)=ys.map rowS7:=by
  apply List.ext_getElem
  ·simp[h2,hl]
  ·intro i g1 g2;simp only[List.length_map]at g1 g2;have:=(hp i (by omega)).1;simp only[List.getElem_map];simpa[List.getD,g1,g2]using this
 rw[←e];exact h1
def toV (y:RqS):RqV:=(y.1,slv y.2.1,slv y.2.2)
theorem flat_toV (ys:List RqS):ys.flatMap rowS7=(ys.map toV).flatMap rowQ:=by rw[List.flatMap_map];rfl
theorem Owns.toV {w:World} {base e:Nat} {v:Value} {ys:List RqS} (h:Owns w base e 7 rowS7 v ys):Owns w base e 7 rowQ v (ys.map toV):=by
 unfold Owns at h ⊢;rw[List.length_map,←flat_toV];exact h
end Go.Proofs.YtgkdoehkmbhfiaaGreat
namespace Go.Proofs.YtgkdoehkmbhfiaaGreat
structure Jb where
 who:Nat
 n:Nat
 left:Nat
deriving Inhabited
structure TJ where
 who:Nat
 n:Nat
 rsp:Rs
deriving Inhabited
structure Pt where
 next:Nat
 queue:List Nat
 out:List Jb
 last:Nat
deriving Inhabited
structure Sv where
 pipe:List Jb
 done:List TJ
 last:Nat
deriving Inhabited
structure Cy where
 ws:List Int
 hs:List Int
 ports:Nat→Pt
 slaves:Nat→Sv
 told:List TJ
structure Cfg where
 ms:List MR
 lat:List Nat
 progs:List (List Rq)
structure Inp where
 ready:List Bool
 stall:List Bool
 send:List Bool
structure Ev where
 kind:Nat
 who:Nat
 n:Nat
deriving Inhabited,DecidableEq
def upd {α:Type} (f:Nat→α) (i:Nat) (x:α):Nat→α:=fun j=>if j=i then x else f j
theorem zA1 {α:Type} (f:Nat→α) (i:Nat) (x:α):upd f i x i=x:=if_pos rfl
theorem zA0 {α:Type} (f:Nat→α) {i j:Nat} (x:α) (h:j≠i):upd f i x j=f j:=if_neg h
def foldN {α : Type} (f : Nat → α → α) : Nat → α → α
 |0,a=>a
 |n+1,a=>f n (foldN f n a)
theorem zD6 {α : Type} {f : Nat → α → α} {P : α → Prop} : ∀ (n : Nat) (a : α), P a → (∀ i x, i < n → P x → P (f i x)) → P (foldN f n a)
 |0,_,h,_=>h
 |n+1,a,h,hs=>hs n _ (Nat.lt_succ_self n) (zD6 n a h fun i x hi hx=>hs i x (Nat.lt_succ_of_lt hi) hx)
def firstK (m:Nat→Bool) (n:Nat):Option Nat:=((List.range n).map (·+1)).find? m
theorem firstK_hit {m:Nat→Bool} {n k:Nat} (h0:1≤k) (hk:k≤n) (hm:m k=true) (hb:∀j,1≤j→j<k→m j=false):firstK m n=some k:=by
 unfold firstK;rw[List.find?_eq_some_iff_append];refine⟨hm,(List.range (k - 1)).map (·+1),(List.range' k (n - k)).map (·+1),?_,?_⟩
 ·have e:List.range n=List.range (k - 1)++(k - 1)::List.range' k (n - k):=by
   rw[List.range_eq_range', List.range_eq_range', show n=(k - 1)+(1+(n - k)) by omega,←List.range'_append_1];simp only[Nat.zero_add];rw[show 1+(n - k)=(n - k)+1 by omega,show k - 1+(n - k+1) - k=n - k by omega];rw[List.range'_succ,show k - 1+1=k by omega]
  rw[e];simp[show k - 1+1=k by omega]
 ·intro a ha;obtain⟨b,hb2,rfl⟩:=List.mem_map.1 ha;rw[List.mem_range]at hb2;simp[hb (b+1) (by omega) (by omega)]
theorem firstK_miss {m:Nat→Bool} {n:Nat} (hb:∀j,1≤j→j≤n→m j=false):firstK m n=none:=by
 unfold firstK;rw[List.find?_eq_none];intro a ha;obtain⟨b,hb2,rfl⟩:=List.mem_map.1 ha;rw[List.mem_range]at hb2;simp[hb (b+1) (by omega) (by omega)]
theorem zN1 {m:Nat→Bool} {n k:Nat} (h:firstK m n=some k):1≤k∧k≤n∧m k=true:=by
 unfold firstK at h;have h1:=List.find?_some h;have h2:=List.mem_of_find?_eq_some h;obtain⟨b,hb2,rfl⟩:=List.mem_map.1 h2;rw[List.mem_range]at hb2;exact⟨by omega,by omega,h1⟩
def Cfg.prog (c:Cfg) (who:Nat):List Rq:=c.progs.getD who []
def Cfg.req (c:Cfg) (who n:Nat):Rq:=(c.prog who).getD n default
def Cfg.id (c:Cfg) (who n:Nat):Int:=(c.req who n).id
def Cfg.slv (c:Cfg) (who n:Nat):Nat:=(zH7 c.ms (c.req who n)).toNat
def Cfg.lt (c:Cfg) (s:Nat):Nat:=c.lat.getD s 0
def tellM (st : Cy) (who k : Nat) : Bool := match (st.slaves (((st.ports who).last + k) % 4)).done with
 |[]=>false
 |j::_=>j.who==who
def zD4 (who s:Nat) (j:TJ) (rest:List TJ) (x:Cy×List Ev):Cy×List Ev :=
 ({ x.1 with told:=x.1.told++[j],slaves:=upd x.1.slaves s { x.1.slaves s with done:=rest },ports:=upd x.1.ports who { x.1.ports who with out:=(x.1.ports who).out.eraseP (fun o=>o.n==j.n),last:=s } },x.2++[⟨3,who,j.n⟩])
def tell1 (inp:Inp) (who:Nat) (x:Cy×List Ev):Cy×List Ev :=
 if inp.ready.getD who false=true then
  match firstK (tellM x.1 who) 4 with
  |none=>x
  | some k => match (x.1.slaves (((x.1.ports who).last + k) % 4)).done with
   |[]=>x
   |j::rest=>zD4 who (((x.1.ports who).last+k) % 4) j rest x
 else x
def zD9 (c:Cfg) (s:Nat) (j:Jb) (rest:List Jb) (x:Cy×List Ev):Cy×List Ev :=
  ({ x.1 with ws := (doReq c.ms x.1.ws x.1.hs j.who (c.req j.who j.n)).1, hs := (doReq c.ms x.1.ws x.1.hs j.who (c.req j.who j.n)).2.1,
              slaves:=upd x.1.slaves s { x.1.slaves s with pipe:=rest,done:=(x.1.slaves s).done++[⟨j.who,j.n,(doReq c.ms x.1.ws x.1.hs j.who (c.req j.who j.n)).2.2⟩] } },x.2++[⟨2,j.who,j.n⟩])
def zF6 (s:Nat) (j:Jb) (rest:List Jb) (st:Cy):Cy:={ st with slaves:=upd st.slaves s { st.slaves s with pipe:=⟨j.who,j.n,j.left - 1⟩::rest } }
def work1 (c:Cfg) (inp:Inp) (s:Nat) (x:Cy×List Ev):Cy×List Ev :=
 if inp.stall.getD s false=true then x
 else match (x.1.slaves s).pipe with
  |[]=>x
  |j::rest=>if 0<j.left then(zF6 s j rest x.1,x.2) else if(x.1.slaves s).done.length<2 then zD9 c s j rest x else x
def may (c : Cfg) (st : Cy) (who s : Nat) : Bool := match (st.ports who).queue with
 |[]=>false
 |n::_=>decide ((st.ports who).out.length<4)&&(c.slv who n==s)&&!(st.ports who).out.any (fun j=>c.id who j.n==c.id who n&&j.left != s)
structure Lt where
 st:Cy
 used:Nat→Bool
 lets:Nat→Nat
def letM (c:Cfg) (s:Nat) (y:Lt) (k:Nat):Bool:=!y.used (((y.st.slaves s).last+k) % 3)&&may c y.st (((y.st.slaves s).last+k) % 3) s
def letDo (c:Cfg) (s who n:Nat) (rest:List Nat) (y:Lt):Lt :=
  { st := { y.st with ports := upd y.st.ports who { y.st.ports who with queue := rest, out := (y.st.ports who).out ++ [⟨who, n, s⟩] },
                      slaves:=upd y.st.slaves s { y.st.slaves s with pipe:=(y.st.slaves s).pipe++[⟨who,n,c.lt s⟩],last:=who } },
    used:=upd y.used who true,lets:=upd y.lets s 1 }
def let1 (c:Cfg) (s:Nat) (y:Lt):Lt :=
 if(y.st.slaves s).pipe.length<2 then
  match firstK (letM c s y) 3 with
  |none=>y
  | some k => match (y.st.ports (((y.st.slaves s).last + k) % 3)).queue with
   |[]=>y
   |n::rest=>letDo c s (((y.st.slaves s).last+k) % 3) n rest y
 else y
def askDo (who:Nat) (x:Cy×List Ev):Cy×List Ev :=
 ({ x.1 with ports:=upd x.1.ports who { x.1.ports who with queue:=(x.1.ports who).queue++[(x.1.ports who).next],next:=(x.1.ports who).next+1 } },x.2++[⟨1,who,(x.1.ports who).next⟩])
def ask1 (c:Cfg) (inp:Inp) (who:Nat) (x:Cy×List Ev):Cy×List Ev :=
 if inp.send.getD who false=true∧(x.1.ports who).queue.length<2∧(x.1.ports who).next<(c.prog who).length then askDo who x else x
def zE0 (inp:Inp) (x:Cy×List Ev):Cy×List Ev:=foldN (tell1 inp) 3 x
def zF0 (c:Cfg) (inp:Inp) (x:Cy×List Ev):Cy×List Ev:=foldN (work1 c inp) 4 x
def zL7 (c:Cfg) (st:Cy):Lt:=foldN (let1 c) 4 ⟨st,fun _=>false,fun _=>0⟩
def askAll (c:Cfg) (inp:Inp) (x:Cy×List Ev):Cy×List Ev:=foldN (ask1 c inp) 3 x
def step (c:Cfg) (inp:Inp) (st:Cy):Cy×List Ev :=
 askAll c inp ((zL7 c (zF0 c inp (zE0 inp (st,[]))).1).st,(zF0 c inp (zE0 inp (st,[]))).2)
def lets (c:Cfg) (inp:Inp) (st:Cy):Nat→Nat:=(zL7 c (zF0 c inp (zE0 inp (st,[]))).1).lets
def cyc (c:Cfg) (inp:Inp) (st:Cy):Cy:=(step c inp st).1
def evs (c:Cfg) (inp:Inp) (st:Cy):List Ev:=(step c inp st).2
def runC (c : Cfg) : List Inp → Cy → Cy
 |[],st=>st
 |i::rest,st=>runC c rest (cyc c i st)
def cy0:Cy:=⟨List.replicate 64 0,List.replicate 6 (-1),fun _=>⟨0,[],[],3⟩,fun _=>⟨[],[],2⟩,[]⟩
end Go.Proofs.YtgkdoehkmbhfiaaGreat
namespace Go.Proofs.YtgkdoehkmbhfiaaGreat
open Go.RowKit
def ety (κ:Nat):TypeId:=if κ<2 then 3 else if κ=2 then 48 else if κ=3 then 94 else if κ=4 then 65 else if κ<8 then 3 else if κ<15 then 101 else if κ<19 then 65 else 173
def esz (κ:Nat):Nat:=if κ<2 then 1 else if κ=2 then 4 else if κ=3 then 3 else if κ=4 then 5 else if κ<8 then 1 else if κ<15 then 3 else if κ<19 then 5 else 3
structure Raw (w:World) (base:Nat) (V:Nat→Value) (N:Nat→Nat) (C:Nat→List Value):Prop where
 own:∀κ,κ<20→OwnR w base (ety κ) (esz κ) (V κ) (N κ) (C κ)
 ap:∀κ μ,κ<20→μ<20→κ≠μ→Apart (V κ) (V μ)
def Free (V:Nat→Value) (b:Nat):Prop:=∀κ,κ<20→(V κ).ownBlock≠some b
theorem Raw.lt {w:World} {base:Nat} {V:Nat→Value} {N:Nat→Nat} {C:Nat→List Value} (h:Raw w base V N C) {κ k:Nat} (hκ:κ<20) (hk:(V κ).ownBlock=some k):base≤k∧k<w.heap.size:=OwnR.lt (h.own κ hκ) k hk
theorem Raw.kept {w w':World} {base:Nat} {V:Nat→Value} {N:Nat→Nat} {C:Nat→List Value} (h:Raw w base V N C) (hk:∀b,b<w.heap.size→¬Free V b→w'.heap[b]? = w.heap[b]?):Raw w' base V N C :=
 ⟨fun κ hκ=>(h.own κ hκ).kept fun k hk2=>hk k (h.lt hκ hk2).2 fun hf=>hf κ hκ hk2,h.ap⟩
theorem Raw.below {w w':World} {base:Nat} {V:Nat→Value} {N:Nat→Nat} {C:Nat→List Value} (h:Raw w base V N C) (hb:Below w.heap.size w w'):Raw w' base V N C:=h.kept fun b hlt _=>hb.block b hlt
theorem Raw.chg {w w' : World} {base : Nat} {V : Nat → Value} {N : Nat → Nat} {C : Nat → List Value} (h : Raw w base V N C) {κ n : Nat} {v : Value} {c : List Value} (hκ : κ < 20) (hk : ∀ b, b < w.heap.size → (V κ).ownBlock ≠ some b → w'.heap[b]? = w.heap[b]?)
  (ho:OwnR w' base (ety κ) (esz κ) v n c) (hv:∀k,v.ownBlock=some k→(V κ).ownBlock=some k∨w.heap.size≤k):Raw w' base (upd V κ v) (upd N κ n) (upd C κ c):=by
 refine⟨fun μ hμ=>?_,fun μ ν hμ hν hne=>?_⟩
 ·by_cases e:μ=κ
  ·subst e;simp only[zA1];exact ho
  ·simp only[zA0 _ _ e];exact(h.own μ hμ).kept fun k hk2=>hk k (h.lt hμ hk2).2 (fun hk3=>h.ap μ κ hμ hκ e k hk2 hk3)
 ·have key:∀{ρ:Nat},ρ<20→ρ≠κ→Apart (V ρ) v:=fun {ρ} hρ e k hk1 hk2=>by
   rcases hv k hk2 with h1|h1
   ·exact h.ap ρ κ hρ hκ e k hk1 h1
   ·have:=(h.lt hρ hk1).2;omega
  by_cases e1:μ=κ
  ·subst e1;simp only[zA1,zA0 _ _ (Ne.symm hne)];exact(key hν (Ne.symm hne)).symm
  ·by_cases e2:ν=κ
   ·subst e2;simp only[zA1,zA0 _ _ e1];exact key hμ e1
   ·simp only[zA0 _ _ e1,zA0 _ _ e2];exact h.ap μ ν hμ hν hne
theorem Free.chg {V:Nat→Value} {b κ:Nat} {v:Value} {w:World} (h:Free V b) (hb:b<w.heap.size) (hv:∀k,v.ownBlock=some k→(V κ).ownBlock=some k∨w.heap.size≤k) (hκ:κ<20):Free (upd V κ v) b:=by
 intro μ hμ e;by_cases e1:μ=κ
 ·subst e1;rw[zA1]at e;rcases hv b e with h1|h1
  ·exact h μ hμ h1
  ·omega
 ·rw[zA0 _ _ e1]at e;exact h μ hμ e
theorem OwnR.get {w:World} {base e sz g off n cap:Nat} {xs:List Value} (h:OwnR w base e sz (.slice (some ⟨g,off,none⟩) n cap) n xs) (j:Nat) (hj:j<n * sz):w.cell? ⟨g,off+j,none⟩=xs[j]?:=by
 obtain⟨hl,h2⟩:=h;rcases h2 with⟨h2,_⟩|⟨g', off', cap', cur,hv,hg,hh,hle,hmax,hsz,hc⟩
 ·cases h2
 ·simp only[Value.slice.injEq,Option.some.injEq,Addr.mk.injEq,and_true]at hv;obtain⟨⟨rfl,rfl⟩,_,rfl⟩:=hv;simp only[World.cell?,hh];rw[hc j hj];have:j<xs.length:=by rw[hl];exact hj
  simp[this]
theorem OwnR.unfrozen {w:World} {base e sz g off n cap:Nat} {xs:List Value} (h:OwnR w base e sz (.slice (some ⟨g,off,none⟩) n cap) n xs) (o:Nat):w.frozen? ⟨g,o,none⟩=false:=by
 obtain⟨hl,h2⟩:=h;rcases h2 with⟨h2,_⟩|⟨g', off', cap', cur,hv,hg,hh,_⟩
 ·cases h2
 ·simp only[Value.slice.injEq,Option.some.injEq,Addr.mk.injEq,and_true]at hv;obtain⟨⟨rfl,rfl⟩,_,rfl⟩:=hv;simp[World.frozen?,hh]
theorem OwnR.put {w:World} {base e sz g off n cap:Nat} {xs:List Value} (h:OwnR w base e sz (.slice (some ⟨g,off,none⟩) n cap) n xs) (j:Nat) (hj:j<n * sz) (u:Value):OwnR (w.setCell ⟨g,off+j,none⟩ u) base e sz (.slice (some ⟨g,off,none⟩) n cap) n (xs.set j u):=by
 obtain⟨hl,h2⟩:=h;rcases h2 with⟨h2,_⟩|⟨g', off', cap', cur,hv,hg,hh,hle,hmax,hsz,hc⟩
 ·cases h2
 ·simp only[Value.slice.injEq,Option.some.injEq,Addr.mk.injEq,and_true]at hv;obtain⟨⟨rfl,rfl⟩,_,rfl⟩:=hv;refine⟨by simpa using hl,.inr ⟨g,off,cap,cur.set! (off+j) u,rfl,hg,?_,hle,hmax,by simpa using hsz,fun i hi=>?_⟩⟩
  ·simp[World.setCell,Array.getElem?_modify,hh]
  ·have hjl:j<xs.length:=by rw[hl];exact hj
   have hjc:off+j<cur.size:=by
    have:n * sz≤cap * sz:=Nat.mul_le_mul_right _ hle;omega
   by_cases e:i=j
   ·subst e;simp[Array.set!_eq_setIfInBounds,Array.getElem?_setIfInBounds,hjc,hjl]
   ·rw[List.getElem?_set_ne (Ne.symm e),←hc i hi];simp only[Array.set!_eq_setIfInBounds,Array.getElem?_setIfInBounds];rw[if_neg (by omega)]
theorem Raw.set {w:World} {base:Nat} {V:Nat→Value} {N:Nat→Nat} {C:Nat→List Value} (h:Raw w base V N C) {κ g off cap j:Nat} (hκ:κ<20) (hV:V κ=.slice (some ⟨g,off,none⟩) (N κ) cap) (hj:j<N κ * esz κ) (u:Value):Raw (w.setCell ⟨g,off+j,none⟩ u) base V N (upd C κ ((C κ).set j u)):=by
 have ho:=h.own κ hκ;rw[hV]at ho
 have := h.chg (w' := w.setCell ⟨g, off + j, none⟩ u) (κ := κ) (n := N κ) (v := V κ) (c := (C κ).set j u) hκ (fun b _ hb => by
   rw[Below.heap_setCell _ _ _ _ (by show b≠g;intro e;subst e;exact hb (by rw[hV];rfl))]) (by rw[hV];exact ho.put j hj u) (fun k hk=>.inl hk)
 have e1:upd V κ (V κ)=V:=by funext i;by_cases e:i=κ <;> simp[upd,e]
 have e2:upd N κ (N κ)=N:=by funext i;by_cases e:i=κ <;> simp[upd,e]
 rw[e1,e2]at this;exact this
theorem OwnR.addr {w:World} {base e sz n:Nat} {v:Value} {xs:List Value} (h:OwnR w base e sz v n xs) (hn:n≠0):∃g off cap,v=.slice (some ⟨g,off,none⟩) n cap∧n≤cap∧cap≤9223372036854775807∧base≤g∧g<w.heap.size:=by
 have hlt:=h.lt;obtain⟨hl,h2⟩:=h;rcases h2 with⟨_,h2⟩|⟨g,off,cap,cur,rfl,hg,hh,hle,hmax,_⟩
 ·exact absurd h2 hn
 ·exact⟨g,off,cap,rfl,hle,by unfold maxLen at hmax;omega,hg,(hlt g rfl).2⟩
theorem OwnR.form {w:World} {base e sz n:Nat} {v:Value} {xs:List Value} (h:OwnR w base e sz v n xs):∃a cap,v=.slice a n cap∧n≤cap∧cap≤9223372036854775807:=by
 obtain⟨hl,h2⟩:=h;rcases h2 with⟨rfl,rfl⟩|⟨g,off,cap,cur,rfl,hg,hh,hle,hmax,_⟩
 ·exact⟨none,0,rfl,by omega,by omega⟩
 ·exact⟨_,cap,rfl,hle,by unfold maxLen at hmax;omega⟩
theorem OwnR.tail1 {w : World} {base e sz g off n cap : Nat} {xs : List Value} (h : OwnR w base e sz (.slice (some ⟨g, off, none⟩) n cap) n xs) (hn : n ≠ 0) :
  OwnR w base e sz (.slice (if cap=1 then some ⟨g,off,none⟩ else some ⟨g,off+sz,none⟩) (n - 1) (cap - 1)) (n - 1) (xs.drop sz):=by
 obtain⟨hl,h2⟩:=h;rcases h2 with⟨h2,_⟩|⟨g', off', cap', cur,hv,hg,hh,hle,hmax,hsz,hc⟩
 ·cases h2
 ·simp only[Value.slice.injEq,Option.some.injEq,Addr.mk.injEq,and_true]at hv;obtain⟨⟨rfl,rfl⟩,_,rfl⟩:=hv;have hm:(n - 1) * sz+sz=n * sz:=by rw[←Nat.succ_mul];congr 1;omega
  have hm2:(cap - 1) * sz+sz=cap * sz:=by rw[←Nat.succ_mul];congr 1;omega
  refine⟨by rw[List.length_drop,hl];omega,.inr ?_⟩;by_cases e1:cap=1
  ·rw[if_pos e1]
   exact ⟨g, off, cap - 1, cur, rfl, hg, hh, by omega, by omega, by omega, fun j hj => by
    have:n - 1=0:=by omega
    rw[this]at hj;omega⟩
  ·rw[if_neg e1];refine⟨g,off+sz,cap - 1,cur,rfl,hg,hh,by omega,by omega,by omega,fun j hj=>?_⟩;rw[show off+sz+j=off+(sz+j) by omega,hc (sz+j) (by omega),List.getElem?_drop]
end Go.Proofs.YtgkdoehkmbhfiaaGreat
