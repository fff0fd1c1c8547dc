/- In each cycle in which nothing stands still less is left to do, till nothing is. No program in sight. -/
import Derived.Test.YtgkdoehkmbhfiaaGreatQRu2
import Derived.Test.YtgkdoehkmbhfiaaGreatQDr7
import Derived.Test.YtgkdoehkmbhfiaaGreatQDr2
import Derived.Test.YtgkdoehkmbhfiaaGreatQDl
import Derived.Test.YtgkdoehkmbhfiaaGreatQFl
import Derived.Test.YtgkdoehkmbhfiaaGreatQCs
import Derived.Test.YtgkdoehkmbhfiaaGreatQRp0
import Derived.Deep.RegionWith
set_option linter.unusedVariables false
set_option linter.unusedSimpArgs false
set_option maxHeartbeats 16000000
namespace Go.Proofs.YtgkdoehkmbhfiaaGreat
open Go.RowKit
theorem zK1 (x:Bool):(rowB x).length=1:=rfl
theorem Owns.cellB {w:World} {base e g n c:Nat} {xs:List Bool} (h:Owns w base e 1 rowB (.slice (some ⟨g,0,none⟩) n c) xs) (k:Nat) (hk:k<xs.length):w.cell? ⟨g,k,none⟩=some (.bool (xs.getD k false)):=by
 have:=h.cellAt zK1 k 0 false hk (by omega);simpa[rowB]using this
theorem Owns.putB {w:World} {base e g n c:Nat} {xs:List Bool} (h:Owns w base e 1 rowB (.slice (some ⟨g,0,none⟩) n c) xs) (k:Nat) (hk:k<xs.length) (x:Bool):Owns (w.setCell ⟨g,k,none⟩ (.bool x)) base e 1 rowB (.slice (some ⟨g,0,none⟩) n c) (xs.set k x):=by
 have:=h.putRow zK1 k 0 false x (.bool x) hk (by omega) (by simp[rowB]);simpa using this
theorem Bx.touch {w w':World} {r g:Nat} {cs:List Value} (h:Bx w g cs) (ht:Touch r w w') (hn:g≠r):Bx w' g cs:=h.kept (ht.block g h.lt hn)
theorem Bx.setc {w:World} {g:Nat} {cs:List Value} (h:Bx w g cs) (b o:Nat) (u:Value) (hn:g≠b):Bx (w.setCell ⟨b,o,none⟩ u) g cs:=h.kept (Below.heap_setCell _ _ _ _ hn)
theorem loadVar_in (w:World) (g:Nat) (a b c:Value) (h0:w.cell? ⟨g,0,none⟩=some a) (h1:w.cell? ⟨g,1,none⟩=some b) (h2:w.cell? ⟨g,2,none⟩=some c):(loadVar 45 ⟨g,0,none⟩).run Tryz.prog w=.ok (.agg #[a,b,c]) w:=by
 simp[loadVar,go_sem,h0,h1,h2]
abbrev T3:List Bool:=[true,true,true]
abbrev F4:List Bool:=[false,false,false,false]
structure InO (w:World) (lo g1 g2 g3:Nat) (xs zs ys:List Bool):Prop where
 o1:Owns w lo 4 1 rowB (.slice (some ⟨g1,0,none⟩) 3 3) xs
 o2:Owns w lo 4 1 rowB (.slice (some ⟨g2,0,none⟩) 4 4) zs
 o3:Owns w lo 4 1 rowB (.slice (some ⟨g3,0,none⟩) 3 3) ys
 l1:xs.length=3
 l2:zs.length=4
 l3:ys.length=3
 n12:g1<g2
 n23:g2<g3
theorem InO.kept {w w':World} {lo g1 g2 g3:Nat} {xs zs ys:List Bool} (h:InO w lo g1 g2 g3 xs zs ys) (hk:∀k,lo≤k→k<w.heap.size→w'.heap[k]? = w.heap[k]?):InO w' lo g1 g2 g3 xs zs ys :=
 ⟨OwnR.kept h.o1 fun k hk2=>hk k (OwnR.lt h.o1 k hk2).1 (OwnR.lt h.o1 k hk2).2,OwnR.kept h.o2 fun k hk2=>hk k (OwnR.lt h.o2 k hk2).1 (OwnR.lt h.o2 k hk2).2,OwnR.kept h.o3 fun k hk2=>hk k (OwnR.lt h.o3 k hk2).1 (OwnR.lt h.o3 k hk2).2,h.l1,h.l2,h.l3,h.n12,h.n23⟩
theorem InO.lt {w:World} {lo g1 g2 g3:Nat} {xs zs ys:List Bool} (h:InO w lo g1 g2 g3 xs zs ys):lo≤g1∧g1<g2∧g2<g3∧g3<w.heap.size:=⟨(OwnR.lt h.o1 g1 rfl).1,h.n12,h.n23,(OwnR.lt h.o3 g3 rfl).2⟩
theorem InO.put1 {w:World} {lo g1 g2 g3:Nat} {xs zs ys:List Bool} (h:InO w lo g1 g2 g3 xs zs ys) (k:Nat) (hk:k<3) (b:Bool):InO (w.setCell ⟨g1,k,none⟩ (.bool b)) lo g1 g2 g3 (xs.set k b) zs ys :=
 ⟨h.o1.putB k (by rw[h.l1];exact hk) b,h.o2.set' g1 k _ (fun j hj=>by have:=h.n12;simp[Value.ownBlock]at hj;omega),h.o3.set' g1 k _ (fun j hj=>by have:=h.n12;have:=h.n23;simp[Value.ownBlock]at hj;omega),by simp[h.l1],h.l2,h.l3,h.n12,h.n23⟩
theorem InO.put2 {w:World} {lo g1 g2 g3:Nat} {xs zs ys:List Bool} (h:InO w lo g1 g2 g3 xs zs ys) (k:Nat) (hk:k<4) (b:Bool):InO (w.setCell ⟨g2,k,none⟩ (.bool b)) lo g1 g2 g3 xs (zs.set k b) ys :=
 ⟨h.o1.set' g2 k _ (fun j hj=>by have:=h.n12;simp[Value.ownBlock]at hj;omega),h.o2.putB k (by rw[h.l2];exact hk) b,h.o3.set' g2 k _ (fun j hj=>by have:=h.n23;simp[Value.ownBlock]at hj;omega),h.l1,by simp[h.l2],h.l3,h.n12,h.n23⟩
theorem InO.put3 {w:World} {lo g1 g2 g3:Nat} {xs zs ys:List Bool} (h:InO w lo g1 g2 g3 xs zs ys) (k:Nat) (hk:k<3) (b:Bool):InO (w.setCell ⟨g3,k,none⟩ (.bool b)) lo g1 g2 g3 xs zs (ys.set k b) :=
 ⟨h.o1.set' g3 k _ (fun j hj=>by have:=h.n12;have:=h.n23;simp[Value.ownBlock]at hj;omega),h.o2.set' g3 k _ (fun j hj=>by have:=h.n23;simp[Value.ownBlock]at hj;omega),h.o3.putB k (by rw[h.l3];exact hk) b,h.l1,h.l2,by simp[h.l3],h.n12,h.n23⟩
theorem InO.boxed {w w':World} {lo g1 g2 g3:Nat} {xs zs ys:List Bool} (h:InO w lo g1 g2 g3 xs zs ys) {b:Nat} (hk:∀k,k≠b→w'.heap[k]? = w.heap[k]?) (hb:b<g1):InO w' lo g1 g2 g3 xs zs ys:=by
 have h1:=h.n12;have h2:=h.n23;exact⟨OwnR.kept h.o1 fun k hk2=>hk k (by simp[Value.ownBlock]at hk2;omega),OwnR.kept h.o2 fun k hk2=>hk k (by simp[Value.ownBlock]at hk2;omega),OwnR.kept h.o3 fun k hk2=>hk k (by simp[Value.ownBlock]at hk2;omega),h.l1,h.l2,h.l3,h.n12,h.n23⟩
def InAllP (w:World) (e:Ending) (w':World):Prop:=∃g1 g2 g3,e=.returned (.agg #[.slice (some ⟨g1,0,none⟩) 3 3,.slice (some ⟨g2,0,none⟩) 4 4,.slice (some ⟨g3,0,none⟩) 3 3])∧InO w' w.heap.size g1 g2 g3 T3 F4 T3∧Below w.heap.size w w'
theorem inAll_any (w:World):Calls Tryz.prog 133 #[] w (InAllP w):=by
 go_enter Tryz.func133,Tryz.ntmps133
 go_wp2_with fail
 refine bodyPost_ret (zB0 Tryz.results133 _ _ ⟨w.heap.size,0,none⟩ (.agg #[.slice (some ⟨w.heap.size+1,0,none⟩) 3 3,.slice (some ⟨w.heap.size+1+1,0,none⟩) 4 4,.slice (some ⟨w.heap.size+1+1+1,0,none⟩) 3 3]) rfl (loadVar_in _ _ _ _ _ (by simp[go_sem]) (by simp[go_sem]) (by simp[go_sem]))) rfl ⟨_,_,_,rfl,⟨?_,?_,?_,rfl,rfl,rfl,by omega,by omega⟩,?_⟩
 ·have:=((Owns.litOf (w:=w.alloc (.cells #[.slice (some ⟨w.heap.size+1,0,none⟩) 3 3,.slice (some ⟨w.heap.size+1+1,0,none⟩) 4 4,.slice (some ⟨w.heap.size+1+1+1,0,none⟩) 3 3] 45)) (base:=w.heap.size) (e:=4) (f:=rowB) T3 #[.bool true,.bool true,.bool true] (by simp) zK1 rfl (by unfold maxLen;simp)).allocd (.cells #[.bool false,.bool false,.bool false,.bool false] 4)).allocd (.cells #[.bool true,.bool true,.bool true] 4);simpa using this
 ·have:=(Owns.litOf (w:=(w.alloc (.cells #[.slice (some ⟨w.heap.size+1,0,none⟩) 3 3,.slice (some ⟨w.heap.size+1+1,0,none⟩) 4 4,.slice (some ⟨w.heap.size+1+1+1,0,none⟩) 3 3] 45)).alloc (.cells #[.bool true,.bool true,.bool true] 4)) (base:=w.heap.size) (e:=4) (f:=rowB) F4 #[.bool false,.bool false,.bool false,.bool false] (by simp;omega) zK1 rfl (by unfold maxLen;simp)).allocd (.cells #[.bool true,.bool true,.bool true] 4);simpa using this
 ·have:=Owns.litOf (w:=((w.alloc (.cells #[.slice (some ⟨w.heap.size+1,0,none⟩) 3 3,.slice (some ⟨w.heap.size+1+1,0,none⟩) 4 4,.slice (some ⟨w.heap.size+1+1+1,0,none⟩) 3 3] 45)).alloc (.cells #[.bool true,.bool true,.bool true] 4)).alloc (.cells #[.bool false,.bool false,.bool false,.bool false] 4)) (base:=w.heap.size) (e:=4) (f:=rowB) T3 #[.bool true,.bool true,.bool true] (by simp;omega) zK1 rfl (by unfold maxLen;simp);simpa using this
 ·exact((((Below.refl _ _).alloc (Nat.le_refl _) _).alloc (by simp) _).alloc (by simp;omega) _).alloc (by simp;omega) _
def InDr (r B:Nat) (bs:List Nat) (p:Nat) (w:World) (e:Ending) (w':World):Prop :=
 ∃g1 g2 g3 xs zs ys q,e=.returned (.agg #[.slice (some ⟨g1,0,none⟩) 3 3,.slice (some ⟨g2,0,none⟩) 4 4,.slice (some ⟨g3,0,none⟩) 3 3])∧InO w' w.heap.size g1 g2 g3 xs zs ys∧q≤p+10∧RdAt w' r B bs q∧Touch r w w'
set_option maxRecDepth 4000 in
theorem l20In_any (r B : Nat) (bs : List Nat) (p : Nat) (n : Int) (w : World) (h : RdAt w r B bs p) (hp : p ≤ 900000000) (h1 : 1 ≤ n) (hn : n ≤ 1099511627776) :
  Calls Tryz.prog 84 #[.pointer (some ⟨r,0,none⟩),.int .i64 n] w (InDr r B bs p w):=by
 have hrw:=h.lt;have HR0:=hid h;clear h
 go_enter Tryz.func84,Tryz.ntmps84
 go_upto_region 2 with(go_at_call 133;(with_reducible refine(inAll_any _).mono ?_);rintro e w1 ⟨g1,g2,g3,rfl,ho,hb⟩;have HO1:=hid ho;have HB1:=hid hb;clear ho hb)
 obtain⟨w2,hw2⟩:∃W,W=w1.alloc (.cells #[.slice (some ⟨g1,0,none⟩) 3 3,.slice (some ⟨g2,0,none⟩) 4 4,.slice (some ⟨g3,0,none⟩) 3 3] 45):=⟨_,rfl⟩
 obtain⟨gi,hgi⟩:∃g,g=w1.heap.size:=⟨_,rfl⟩
 rw[←hw2,←hgi];have hb2:Below w1.heap.size w1 w2:=by rw[hw2];exact(Below.refl _ _).alloc (Nat.le_refl _) _
 have hb01:Below w.heap.size w w1:=((Below.refl _ _).alloc (Nat.le_refl _) _).trans (HB1.out.mono (by simp));have HLO:=hid HO1.out.lt;have HX:=hid (show Bx w2 gi [.slice (some ⟨g1,0,none⟩) 3 3,.slice (some ⟨g2,0,none⟩) 4 4,.slice (some ⟨g3,0,none⟩) 3 3] by rw[hw2,hgi];exact Bx.new w1 #[.slice (some ⟨g1,0,none⟩) 3 3,.slice (some ⟨g2,0,none⟩) 4 4,.slice (some ⟨g3,0,none⟩) 3 3] 45 (by simp));have HY:=hid (show Bx w2 w.heap.size [vnil,vnil,vnil] from((Bx.new w #[vnil,vnil,vnil] 45 (by simp)).below HB1.out (by simp)).below hb2 (by have:=HB1.out.size;simp at this;omega));have HO2:=hid (HO1.out.kept (w':=w2) fun k _ hk=>hb2.block k hk);have HT2:=hid (show Touch r w w2 from(Touch.of_below hb01 (Nat.le_refl _)).trans (Touch.of_below hb2 (Nat.le_refl _)));have HR2:=hid ((HR0.out.kept hb01 hrw).kept hb2 (by have:=hb01.size;omega));have h0lo:=HO1.out.lt;simp only[World.size_alloc]at h0lo;have hn1:g1<gi:=by omega
 have hn3:g3<gi:=by omega
 have hgr1:w.heap.size<g1:=by omega
 obtain⟨_,h12,h23,_⟩:=h0lo;have hg10:g1≠w.heap.size:=by omega
 have hSZ:=hid (show w.heap.size≤(w.alloc (.cells #[vnil,vnil,vnil] 45)).heap.size by simp);clear hw2 hgi hb2 hb01
 go_wp2_with fail
 go_loopw [6] (fun i wr=>∃(k q:Nat) (xs ys:List Bool),i=.int .i64 (k:Nat)∧k≤3∧q≤p+2 * k∧RdAt wr r B bs q∧InO wr w.heap.size g1 g2 g3 xs F4 ys∧Touch r w wr∧Bx wr gi [.slice (some ⟨g1,0,none⟩) 3 3,.slice (some ⟨g2,0,none⟩) 4 4,.slice (some ⟨g3,0,none⟩) 3 3]∧Bx wr w.heap.size [vnil,vnil,vnil]) (fun i _=>3 - (intOf i).toNat)
 case atStart=>exact⟨0,p,T3,T3,by go_num,by omega,by omega,HR2.out,⟨HO2.out.o1.rebase hSZ.out,HO2.out.o2.rebase hSZ.out,HO2.out.o3.rebase hSZ.out,HO2.out.l1,HO2.out.l2,HO2.out.l3,HO2.out.n12,HO2.out.n23⟩,HT2.out,HX.out,HY.out⟩
 case round=>
  clear HX HY HO2 HT2 HR2;obtain⟨k,q,xs,ys,rfl,hk,hq,hrd,ho,ht,hx,hy⟩:=hrel;have HO:=hid ho;have HT:=hid ht;have HX:=hid hx;have HY:=hid hy;have HRD:=hid hrd;have h3l:=ho.lt.2.2.2;have hxl:=hx.lt;clear ho ht hx hy hrd;by_cases hlt:k<3
  ·have hki:(k:Int)<3:=by omega
   obtain⟨x0,x1,x2⟩:=HX.out.three.1
   go_upto_region 5 with fail
   go_region_held3 (fun w' => w'.cell? ⟨gi, 0, none⟩ = some (.slice (some ⟨g1, 0, none⟩) 3 3)) (first | exact z1 | (rw [World.cell?_setCell_far _ _ _ _ (by show g1 ≠ gi; omega)]; exact z1) | go_keep)
    (first|(go_at_call 82;(with_reducible refine(zC9 r B bs q n _ HRD.out.drewd (by omega) h1 hn).mono ?_);rintro e w4 ⟨y,rfl,hy0,hy1,h4,ht4⟩;have HT4:=hid (show Touch r wr w4 from(Touch.refl r wr).drewd.trans ht4);have HX4:=hid (HX.out.touch HT4.out (by omega));have z1:=HX4.out.three.1.1;have HO4:=hid (HO.out.kept (w':=w4) fun k h1 h2=>HT4.out.block k h2 (by omega));have zc:=HO4.out.o1.cellB k (by rw[HO4.out.l1];omega);have zf:=HO4.out.o1.frozenAt k;have HY4:=hid (HY.out.touch HT4.out (by omega));have HRD4:=hid h4;clear h4 ht4))
   clear z1 zc zf x0 x1 x2
   go_upto_region 6 with fail
   obtain⟨w5,hw5⟩:∃W,W=w4.setCell ⟨g1,k,none⟩ (.bool (decide (0<y))):=⟨_,rfl⟩
   rw[←hw5];have HO5:=hid (show InO w5 w.heap.size g1 g2 g3 (xs.set k (decide (0<y))) F4 ys by rw[hw5];exact HO4.out.put1 k hlt _);have HX5:=hid (show Bx w5 gi _ by rw[hw5];exact HX4.out.setc g1 k _ (by omega));have HY5:=hid (show Bx w5 w.heap.size _ by rw[hw5];exact HY4.out.setc g1 k _ (by omega));have HRD5:=hid (show RdAt w5 r B bs (q+1) by rw[hw5];exact HRD4.out.setNew hrw (by omega) k _);have HT5:=hid (show Touch r w w5 by rw[hw5];exact(HT.out.trans HT4.out).setNew (by omega) _);have hxl5:=HX5.out.lt;have h3l5:=HO5.out.lt.2.2.2;clear hw5;obtain⟨x0,x1,x2⟩:=HX5.out.three.1
   go_region_held3 (fun w' => w'.cell? ⟨gi, 2, none⟩ = some (.slice (some ⟨g3, 0, none⟩) 3 3)) (first | exact z1 | (rw [World.cell?_setCell_far _ _ _ _ (by show g3 ≠ gi; omega)]; exact z1) | go_keep)
    (first|(go_at_call 82;(with_reducible refine(zC9 r B bs (q+1) n _ HRD5.out.drewd (by omega) h1 hn).mono ?_);rintro e w6 ⟨y2,rfl,hy20,hy21,h6,ht6⟩;have HT6:=hid (show Touch r w5 w6 from(Touch.refl r w5).drewd.trans ht6);have HX6:=hid (HX5.out.touch HT6.out (by omega));have z1:=HX6.out.three.1.2.2;have HO6:=hid (HO5.out.kept (w':=w6) fun k h1 h2=>HT6.out.block k h2 (by omega));have zc:=HO6.out.o3.cellB k (by rw[HO6.out.l3];omega);have zf:=HO6.out.o3.frozenAt k;have HY6:=hid (HY5.out.touch HT6.out (by omega));have HRD6:=hid h6;clear h6 ht6))
   clear z1 zc zf x0 x1 x2
   go_wp2_with fail
   go_roundw
   case rel=>exact⟨k+1,q+1+1,_,ys.set k (decide (0<y2)),by go_num,by omega,by omega,HRD6.out.setNew hrw (by omega) k _,HO6.out.put3 k hlt _,(HT5.out.trans HT6.out).setNew (by omega) _,HX6.out.setc g3 k _ (by omega),HY6.out.setc g3 k _ (by omega)⟩
   case measure=>simp[intOf];omega
  ·obtain rfl:k=3:=by omega
   have hq:q≤p+6:=by omega
   rw[show(((3:Nat)):Int)=(3:Int) from rfl]
   go_wp2_with fail
   go_loopw [7] (fun i wr=>∃(k q:Nat) (zs:List Bool),i=.int .i64 (k:Nat)∧k≤4∧q≤p+6+k∧RdAt wr r B bs q∧InO wr w.heap.size g1 g2 g3 xs zs ys∧Touch r w wr∧Bx wr gi [.slice (some ⟨g1,0,none⟩) 3 3,.slice (some ⟨g2,0,none⟩) 4 4,.slice (some ⟨g3,0,none⟩) 3 3]∧Bx wr w.heap.size [vnil,vnil,vnil]) (fun i _=>4 - (intOf i).toNat)
   case atStart=>exact⟨0,q,F4,by go_num,by omega,by omega,HRD.out,HO.out,HT.out,HX.out,HY.out⟩
   case round=>
    clear HX HY HO HT HRD hq hxl h3l;obtain⟨k,q,zs,rfl,hk,hq,hrd,ho,ht,hx,hy⟩:=hrel;have HO:=hid ho;have HT:=hid ht;have HX:=hid hx;have HY:=hid hy;have HRD:=hid hrd;have h3l:=ho.lt.2.2.2;have hxl:=hx.lt;clear ho ht hx hy hrd;by_cases hlt:k<4
    ·have hki:(k:Int)≤3:=by omega
     have hki4:(k:Int)<4:=by omega
     obtain⟨x0,x1,x2⟩:=HX.out.three.1
     go_upto_region 10 with fail
     go_region_held3 (fun w' => w'.cell? ⟨gi, 1, none⟩ = some (.slice (some ⟨g2, 0, none⟩) 4 4)) (first | exact z1 | (rw [World.cell?_setCell_far _ _ _ _ (by show g2 ≠ gi; omega)]; exact z1) | go_keep)
      (first|(go_at_call 82;(with_reducible refine(zC9 r B bs q n _ HRD.out.drewd (by omega) h1 hn).mono ?_);rintro e w4 ⟨y,rfl,hy0,hy1,h4,ht4⟩;have HT4:=hid (show Touch r wr w4 from(Touch.refl r wr).drewd.trans ht4);have HX4:=hid (HX.out.touch HT4.out (by omega));have z1:=HX4.out.three.1.2.1;have HO4:=hid (HO.out.kept (w':=w4) fun k h1 h2=>HT4.out.block k h2 (by omega));have zc:=HO4.out.o2.cellB k (by rw[HO4.out.l2];omega);have zf:=HO4.out.o2.frozenAt k;have HY4:=hid (HY.out.touch HT4.out (by omega));have HRD4:=hid h4;clear h4 ht4))
     clear z1 zc zf x0 x1 x2
     go_wp2_with fail
     go_roundw
     case rel=>exact⟨k+1,q+1,zs.set k (y==0),by go_num,by omega,by omega,HRD4.out.setNew hrw (by omega) k _,HO4.out.put2 k hlt _,(HT.out.trans HT4.out).setNew (by omega) _,HX4.out.setc g2 k _ (by omega),HY4.out.setc g2 k _ (by omega)⟩
     case measure=>simp[intOf];omega
    ·obtain rfl:k=4:=by omega
     obtain⟨x0,x1,x2⟩:=HX.out.three.1;obtain⟨⟨y0,y1,y2⟩,f0,f1,f2⟩:=HY.out.three;have hyl:=HY.out.lt
     go_wp2_with fail
     refine bodyPost_ret (zB0 Tryz.results84 _ _ ⟨w.heap.size,0,none⟩ (.agg #[.slice (some ⟨g1,0,none⟩) 3 3,.slice (some ⟨g2,0,none⟩) 4 4,.slice (some ⟨g3,0,none⟩) 3 3]) rfl (loadVar_in _ _ _ _ _ (by simp[go_sem, *]) (by simp[go_sem, *]) (by simp[go_sem, *]))) rfl ⟨_,_,_,xs,zs,ys,q,rfl,?_,by omega,?_,?_⟩
     ·refine HO.out.boxed (b:=w.heap.size) (fun k hk=>?_) (by omega);rw[Below.heap_setCell _ _ _ _ (by exact hk),Below.heap_setCell _ _ _ _ (by exact hk),Below.heap_setCell _ _ _ _ (by exact hk)]
     ·exact((HRD.out.setNew hrw (Nat.le_refl _) _ _).setNew hrw (Nat.le_refl _) _ _).setNew hrw (Nat.le_refl _) _ _
     ·exact((HT.out.setNew (Nat.le_refl _) _).setNew (Nat.le_refl _) _).setNew (Nat.le_refl _) _
end Go.Proofs.YtgkdoehkmbhfiaaGreat
namespace Go.Proofs.YtgkdoehkmbhfiaaGreat
open Go.RowKit
theorem bA {w w':World} {o:Obj} (h:Below w.heap.size w w'):Below w.heap.size w (w'.alloc o):=h.alloc h.size o
theorem bD {w w':World} (h:Below w.heap.size w w'):Below w.heap.size w w'.drew:=h.drew
theorem bR {w W W1:World} {g N n:Nat} {xs:List Value} (r:RepI W g N xs n W1) (h:Below w.heap.size w W):Below w.heap.size w W1:=h.trans (r.bel.mono h.size)
theorem mk4b (w:World):(Instr.makeSlice 43 (.int .i64 4) (.int .i64 4)).run Tryz.prog w=.ok (.slice (some ⟨w.heap.size,0,none⟩) 4 4) (w.alloc (.cells #[.bool false,.bool false,.bool false,.bool false] 4)):=by kernel_rfl
theorem bools_of {F:World} {g n:Nat} {v:Bool} (hg:g<F.heap.size) (hn:n≤4) (h:∀i,i<n→F.cell? ⟨g,i,none⟩=some (.bool v)):Bools F F.heap.size (.slice (some ⟨g,0,none⟩) n n) (List.replicate n v):=by
 refine⟨some ⟨g,0,none⟩,n,by simp,by simp,by omega,by simp only[List.length_map,List.length_replicate];omega,(fun h=>nomatch h),fun hn=>⟨g,0,rfl,hg,fun t ht j hj=>?_⟩⟩;have hj0:j=0:=by omega
 subst hj0;rw[List.length_map,List.length_replicate]at ht;rw[Nat.zero_add,Nat.mul_one,Nat.add_zero,h t ht];simp[List.getD,ht,rowB]
def InAllR (w:World) (e:Ending) (w':World):Prop:=∃ra ta sa,e=.returned (.agg #[.slice ra 3 3,.slice ta 4 4,.slice sa 3 3])∧InV w' w'.heap.size (.agg #[.slice ra 3 3,.slice ta 4 4,.slice sa 3 3]) inAll∧Below w.heap.size w w'
structure InG (w:World) (lo g1 g2 g3:Nat):Prop where
 b1:lo≤g1∧g1<w.heap.size
 b2:lo≤g2∧g2<w.heap.size
 b3:lo≤g3∧g3<w.heap.size
 c1:∀i,i<3→w.cell? ⟨g1,i,none⟩=some (.bool true)
 c2:∀i,i<4→w.cell? ⟨g2,i,none⟩=some (.bool false)
 c3:∀i,i<3→w.cell? ⟨g3,i,none⟩=some (.bool true)
theorem InG.inV {w:World} {lo g1 g2 g3:Nat} (h:InG w lo g1 g2 g3):InV w w.heap.size (.agg #[.slice (some ⟨g1,0,none⟩) 3 3,.slice (some ⟨g2,0,none⟩) 4 4,.slice (some ⟨g3,0,none⟩) 3 3]) inAll :=
 ⟨⟨some ⟨g1,0,none⟩,3,some ⟨g2,0,none⟩,4,some ⟨g3,0,none⟩,3,rfl,bools_of (n:=3) (v:=true) h.b1.2 (by omega) h.c1,bools_of (n:=4) (v:=false) h.b2.2 (by omega) h.c2,bools_of (n:=3) (v:=true) h.b3.2 (by omega) h.c3⟩,rfl,rfl,rfl⟩
def InAllG (w:World) (e:Ending) (w':World):Prop:=∃g1 g2 g3,e=.returned (.agg #[.slice (some ⟨g1,0,none⟩) 3 3,.slice (some ⟨g2,0,none⟩) 4 4,.slice (some ⟨g3,0,none⟩) 3 3])∧InG w' w.heap.size g1 g2 g3∧(∀i,i<4→w'.frozen? ⟨g2,i,none⟩=false)∧Below w.heap.size w w'
theorem inAll_done {w F W1 W3 W1' W3' : World} {g1 g2 g3 : Nat} (hb : Below w.heap.size w F) (h1 : RepI W1' g1 3 [.bool true] 3 W1) (l1 : g1 < W1.heap.size) (q1 : w.heap.size < g1) (b1 : Below W1.heap.size W1 F) (h3 : RepI W3' g3 3 [.bool true] 3 W3) (l3 : g3 < W3.heap.size) (q3 : w.heap.size < g3) (b3 : Below W3.heap.size W3 F)
  (q2:w.heap.size<g2) (l2:g2<F.heap.size) (r2:∀i,i<4→F.cell? ⟨g2,i,none⟩=some (.bool false)) (f2:∀i,i<4→F.frozen? ⟨g2,i,none⟩=false) (x y z:Value) :
  InAllG w (.returned (.agg #[.slice (some ⟨g1,0,none⟩) 3 3,.slice (some ⟨g2,0,none⟩) 4 4,.slice (some ⟨g3,0,none⟩) 3 3])) (((F.setCell ⟨w.heap.size,0,none⟩ x).setCell ⟨w.heap.size,1,none⟩ y).setCell ⟨w.heap.size,2,none⟩ z):=by
 have hb0:∀(g:Nat),w.heap.size<g→(((F.setCell ⟨w.heap.size,0,none⟩ x).setCell ⟨w.heap.size,1,none⟩ y).setCell ⟨w.heap.size,2,none⟩ z).heap[g]? = F.heap[g]?:=fun g hg=>by
  rw[Below.heap_setCell _ _ _ _ (show g≠w.heap.size by omega),Below.heap_setCell _ _ _ _ (show g≠w.heap.size by omega),Below.heap_setCell _ _ _ _ (show g≠w.heap.size by omega)]
 have hk:∀(g i:Nat),w.heap.size<g→(((F.setCell ⟨w.heap.size,0,none⟩ x).setCell ⟨w.heap.size,1,none⟩ y).setCell ⟨w.heap.size,2,none⟩ z).cell? ⟨g,i,none⟩=F.cell? ⟨g,i,none⟩:=fun g i hg=>by
  simp only[World.cell?,hb0 g hg]
 have hz:(((F.setCell ⟨w.heap.size,0,none⟩ x).setCell ⟨w.heap.size,1,none⟩ y).setCell ⟨w.heap.size,2,none⟩ z).heap.size=F.heap.size:=by simp
 have r1:∀i,i<3→F.cell? ⟨g1,i,none⟩=some (.bool true):=fun i hi=>by
  rw[b1.cell (p:=⟨g1,i,none⟩) l1];have:=h1.rws i hi 0 (by simp);simpa using this
 have r3:∀i,i<3→F.cell? ⟨g3,i,none⟩=some (.bool true):=fun i hi=>by
  rw[b3.cell (p:=⟨g3,i,none⟩) l3];have:=h3.rws i hi 0 (by simp);simpa using this
 refine⟨_,_,_,rfl,⟨⟨by omega,?_⟩,⟨by omega,?_⟩,⟨by omega,?_⟩,fun i hi=>?_,fun i hi=>?_,fun i hi=>?_⟩,fun i hi=>?_,?_⟩
 ·rw[hz];exact Nat.lt_of_lt_of_le l1 b1.size
 ·rw[hz];exact l2
 ·rw[hz];exact Nat.lt_of_lt_of_le l3 b3.size
 ·rw[hk _ _ q1];exact r1 i hi
 ·rw[hk _ _ q2];exact r2 i hi
 ·rw[hk _ _ q3];exact r3 i hi
 ·simp only[World.frozen?,hb0 g2 q2];exact f2 i hi
 ·exact((hb.setCell (p:=⟨w.heap.size,_,none⟩) (Nat.le_refl _) _).setCell (p:=⟨w.heap.size,_,none⟩) (Nat.le_refl _) _).setCell (p:=⟨w.heap.size,_,none⟩) (Nat.le_refl _) _
theorem three_alloc {w:World} {gb:Nat} {x y z:Value} {o:Obj} (h:gb<w.heap.size):(((w.setCell ⟨gb,0,none⟩ x).setCell ⟨gb,1,none⟩ y).setCell ⟨gb,2,none⟩ z).alloc o=(((w.alloc o).setCell ⟨gb,0,none⟩ x).setCell ⟨gb,1,none⟩ y).setCell ⟨gb,2,none⟩ z:=by
 simp[World.setCell_alloc_past,h]
theorem inAll_ret {Q : Ending → World → Prop} {F : World} {gb : Nat} (hX : Bx F gb [vnil, vnil, vnil]) (x y z : Value) {tmps : Array Value} (ha : tmps.getD 0 undef = .pointer (some ⟨gb, 0, none⟩)) (hp : Q (.returned (.agg #[x, y, z])) (((F.setCell ⟨gb, 0, none⟩ x).setCell ⟨gb, 1, none⟩ y).setCell ⟨gb, 2, none⟩ z)) :
  bodyPost Tryz.prog Tryz.f22 Q Exit.ret ⟨tmps,[]⟩ (((F.setCell ⟨gb,0,none⟩ x).setCell ⟨gb,1,none⟩ y).setCell ⟨gb,2,none⟩ z):=by
 have h3:Bx (((F.setCell ⟨gb,0,none⟩ x).setCell ⟨gb,1,none⟩ y).setCell ⟨gb,2,none⟩ z) gb [x,y,z]:=by
  have:=((hX.set 0 (by simp) x).set 1 (by simp) y).set 2 (by simp) z;simpa using this
 obtain⟨⟨q0,q1,q2⟩,_⟩:=h3.three;exact bodyPost_ret (zB0 Tryz.results22 _ _ ⟨gb,0,none⟩ (.agg #[x,y,z]) ha (loadVar_in _ _ _ _ _ q0 q1 q2)) rfl hp
theorem repeatB3 (b : Nat) (v : Bool) (w : World) (hb : b < w.heap.size) (hc0 : w.cell? ⟨b, 0, none⟩ = some (.bool v)) :
  Calls Tryz.prog 59 #[.slice (some ⟨b,0,none⟩) 1 1,.int .i64 3] w fun e w' => ∃g,e=.returned (.slice (some ⟨g,0,none⟩) 3 3)∧RepI w g 3 [.bool v] 3 w' ∧ w.heap.size≤g∧g<w'.heap.size:=repeatB_any 3 (by omega) b v w hb hc0
theorem litF {W w1 cur:World} {g N n b:Nat} {xs:List Value} (_:RepI W g N xs n w1) (h:Below W.heap.size W cur) (hlt:b<W.heap.size) {o:Nat} (hc:W.frozen? ⟨b,o,none⟩=false):cur.frozen? ⟨b,o,none⟩=false:=(h.frozen (p:=⟨b,o,none⟩) hlt).trans hc
theorem litK {W w1 cur:World} {g N n b:Nat} {xs:List Value} {v:Option Value} (_:RepI W g N xs n w1) (h:Below W.heap.size W cur) (hlt:b<W.heap.size) {o:Nat} (hc:W.cell? ⟨b,o,none⟩=v):cur.cell? ⟨b,o,none⟩=v:=(h.cell (p:=⟨b,o,none⟩) hlt).trans hc
attribute [local go_sem] mk4b
theorem implInAllG_any (w:World):Calls Tryz.prog 22 #[] w (InAllG w):=by
  go_enter Tryz.func22,Tryz.ntmps22
  go_upto_region 1 with fail
  obtain⟨w0,hw0⟩:∃W,W=w.alloc (.cells #[.slice none 0 0,.slice none 0 0,.slice none 0 0] 45):=⟨_,rfl⟩
  obtain⟨gb,hgb⟩:∃g,g=w.heap.size:=⟨_,rfl⟩
  have X0:=hid (show Bx w0 gb [vnil,vnil,vnil] by rw[hw0,hgb];exact Bx.new w #[vnil,vnil,vnil] 45 (by simp));have HB0:=hid (show Below w.heap.size w w0 by rw[hw0];exact(Below.refl _ _).alloc (Nat.le_refl _) _);have hz0:w0.heap.size=gb+1:=by rw[hw0,hgb];simp
  rw[←hw0,←hgb];have HGB:=hid hgb;clear hw0 hgb;obtain⟨⟨q0,q1,q2⟩,z0,z1,z2⟩:=X0.out.three;have hl:=X0.out.lt;have HZ0:=hid hz0;clear hz0
  go_region_with (first
    |(go_at_call 59;have _hh:=HRa.out;clear _hh;(with_reducible refine(repeatB3 _ true _ (by first|(simp[go_sem];done)|(have hs:=HRa.out.bel.size;simp[go_sem]at hs ⊢;omega)) (by first|(simp[go_sem];done)|(refine litK HRa.out ?_ ?_ ?_;(repeat(first|exact HRa.out.bel|refine bA ?_|refine bD ?_));all_goals (simp[go_sem])))).mono ?_);rintro e w1b ⟨g1b,rfl,hr1,hg1,hl1⟩;have hbv:Below w0.heap.size w0 w1b:=bR hr1 (by repeat(first|exact HBa.out|refine bA ?_|refine bD ?_));have HBb:=hid hbv;clear hbv q0 q1 q2 z0 z1 z2 hl;obtain⟨⟨q0,q1,q2⟩,z0,z1,z2⟩:=(X0.out.below HBb.out X0.out.lt).three;have hl:=(X0.out.below HBb.out X0.out.lt).lt;have HRb:=hid hr1;have HGb:=hid hg1;have HLb:=hid hl1;clear hr1 hg1 hl1)
    |(go_at_call 59;(with_reducible refine(repeatB3 _ true _ (by simp[go_sem]) (by simp[go_sem])).mono ?_);rintro e w1a ⟨g1a,rfl,hr1,hg1,hl1⟩;have hbv:Below w0.heap.size w0 w1a:=bR hr1 (by repeat(first|exact Below.refl _ _|refine bA ?_|refine bD ?_));have HBa:=hid hbv;clear hbv q0 q1 q2 z0 z1 z2 hl;obtain⟨⟨q0,q1,q2⟩,z0,z1,z2⟩:=(X0.out.below HBa.out X0.out.lt).three;have hl:=(X0.out.below HBa.out X0.out.lt).lt;have HRa:=hid hr1;have HGa:=hid hg1;have HLa:=hid hl1;clear hr1 hg1 hl1))
  all_goals
    go_wp2_with fail
    have sa:=HBa.out.size;have sb:=HBb.out.size;have ta:=HRa.out.bel.size;have tb:=HRb.out.bel.size;have ga:=HGa.out;have gc:=HGb.out;simp at ta tb ga gc
    try rw[three_alloc hl]
    refine inAll_ret ?_ _ _ _ ?_ ?_
    · refine X0.out.below (show Below w0.heap.size w0 _ from ?_) X0.out.lt
      repeat(first|exact HBb.out|refine bA ?_|refine bD ?_)
    · rfl
    rw[HGB.out];have hz0:=HZ0.out;have hgb:=HGB.out;refine inAll_done (HB0.out.trans ((show Below w0.heap.size w0 _ from ?_).mono HB0.out.size)) HRa.out HLa.out (by have:=HGB.out;omega) ?_ HRb.out HLb.out (by have:=HGB.out;omega) ?_ (by have:=HGB.out;omega) ?_ (fun i hi=>?_) (fun i hi=>?_) _ _ _
    · repeat(first|exact HBb.out|refine bA ?_|refine bD ?_)
    · repeat(first|exact Below.refl _ _|refine bA ?_|refine bD ?_|refine bR HRb.out ?_)
    · repeat(first|exact Below.refl _ _|refine bA ?_|refine bD ?_)
    · first
        |omega
        |(simp;done)
        |(simp;omega)
    · clear hz0 hgb
      obtain rfl|rfl|rfl|rfl:i=0∨i=1∨i=2∨i=3:=by omega
      all_goals first
        |(simp[go_sem];done)
        | (refine litK HRb.out ?_ ?_ ?_
           · repeat(first|exact HRb.out.bel|refine bA ?_|refine bD ?_)
           · have hz0 := HZ0.out
             have hgb:=HGB.out
             first
               |omega
               |(simp;done)
               |(simp;omega)
           · first
               |(simp[go_sem];done)
               | (refine litK HRa.out ?_ ?_ ?_
                  · repeat(first|exact HRa.out.bel|refine bA ?_|refine bD ?_)
                  · have hz0 := HZ0.out
                    have hgb:=HGB.out
                    first
                      |omega
                      |(simp;done)
                      |(simp;omega)
                  · simp[go_sem]))
    · clear hz0 hgb
      obtain rfl|rfl|rfl|rfl:i=0∨i=1∨i=2∨i=3:=by omega
      all_goals first
        |(simp[go_sem];done)
        | (refine litF HRb.out ?_ ?_ ?_
           · repeat(first|exact HRb.out.bel|refine bA ?_|refine bD ?_)
           · have hz0 := HZ0.out
             have hgb:=HGB.out
             first
               |omega
               |(simp;done)
               |(simp;omega)
           · first
               |(simp[go_sem];done)
               | (refine litF HRa.out ?_ ?_ ?_
                  · repeat(first|exact HRa.out.bel|refine bA ?_|refine bD ?_)
                  · have hz0 := HZ0.out
                    have hgb:=HGB.out
                    first
                      |omega
                      |(simp;done)
                      |(simp;omega)
                  · simp[go_sem]))
theorem implInAll_any (w:World):Calls Tryz.prog 22 #[] w (InAllR w):=(implInAllG_any w).mono fun _ _ ⟨_,_,_,e,h,_,hb⟩=>⟨_,_,_,e,h.inV,hb⟩
end Go.Proofs.YtgkdoehkmbhfiaaGreat
namespace Go.Proofs.YtgkdoehkmbhfiaaGreat
open Go.RowKit
abbrev InX:=Inp×Nat×Nat×Nat
def rowX (x:InX):List Value:=[.slice (some ⟨x.2.1,0,none⟩) 3 3,.slice (some ⟨x.2.2.1,0,none⟩) 4 4,.slice (some ⟨x.2.2.2,0,none⟩) 3 3]
theorem rowX_len (x:InX):(rowX x).length=3:=rfl
theorem rowX_one (x:InX):∀u∈rowX x,u.oneCell' = true:=by
 intro u hu;simp only[rowX,List.mem_cons,List.not_mem_nil,or_false]at hu;rcases hu with rfl|rfl|rfl <;> rfl
theorem elem_in:Elem 28 45 3 72:=zF1 Tryz.underlying28 (z:=.agg #[.slice none 0 0,.slice none 0 0,.slice none 0 0]) (by kernel_rfl) rfl (by omega)
def InQ (w:World) (lo:Nat) (x:InX):Prop:=InO w lo x.2.1 x.2.2.1 x.2.2.2 x.1.ready x.1.stall x.1.send
theorem InQ.kept {w w':World} {lo:Nat} {x:InX} (h:InQ w lo x) (hk:∀k,lo≤k→k<w.heap.size→w'.heap[k]? = w.heap[k]?):InQ w' lo x:=InO.kept h hk
theorem InQ.rebase {w:World} {lo lo':Nat} {x:InX} (h:InQ w lo x) (hl:lo' ≤ lo):InQ w lo' x:=⟨h.o1.rebase hl,h.o2.rebase hl,h.o3.rebase hl,h.l1,h.l2,h.l3,h.n12,h.n23⟩
theorem InQ.push {w w':World} {lo lo':Nat} {v:Value} {xs:List InX} {x:InX} (h:InQ w lo x) (ho:Owns w lo' 45 3 rowX v xs) (hk:∀b,b<w.heap.size→v.ownBlock≠some b→w'.heap[b]? = w.heap[b]?):InQ w' lo x:=by
 have key:∀{u:Value} {ys:List Bool},Owns w lo 4 1 rowB u ys→Owns w' lo 4 1 rowB u ys:=fun hu=>OwnR.kept hu fun j hj=>hk j (OwnR.lt hu j hj).2 (fun e=>Owns.apartT hu ho (by decide) j hj e)
 exact⟨key h.o1,key h.o2,key h.o3,h.l1,h.l2,h.l3,h.n12,h.n23⟩
theorem InQ.inV {w:World} {lo:Nat} {x:InX} (h:InQ w lo x):InV w w.heap.size (.agg #[.slice (some ⟨x.2.1,0,none⟩) 3 3,.slice (some ⟨x.2.2.1,0,none⟩) 4 4,.slice (some ⟨x.2.2.2,0,none⟩) 3 3]) x.1:=by
 have h1:=h.o1.arr zK1 (by rw[h.l1];omega);have h2:=h.o2.arr zK1 (by rw[h.l2];omega);have h3:=h.o3.arr zK1 (by rw[h.l3];omega);refine⟨⟨some ⟨x.2.1,0,none⟩,3,some ⟨x.2.2.1,0,none⟩,4,some ⟨x.2.2.2,0,none⟩,3,by rw[h.l1,h.l2,h.l3],?_,?_,?_⟩,h.l1,h.l2,h.l3⟩
 ·rw[h.l1];exact h1
 ·rw[h.l2];exact h2
 ·rw[h.l3];exact h3
theorem ins_of {w:World} {lo lo':Nat} {v:Value} {xs:List InX} (ho:Owns w lo' 45 3 rowX v xs) (hx:∀x∈xs,InQ w lo x) (hl:xs.length≤1000000):Ins w w.heap.size v (xs.map (·.1)):=by
 refine⟨xs.map fun x=>.agg #[.slice (some ⟨x.2.1,0,none⟩) 3 3,.slice (some ⟨x.2.2.1,0,none⟩) 4 4,.slice (some ⟨x.2.2.2,0,none⟩) 3 3],?_,by simp,fun k hk d=>?_⟩
 ·rw[List.map_map];exact ho.arr rowX_len (by omega)
 ·simp only[List.length_map]at hk;have e:=(hx _ (List.getElem_mem hk)).inV;simpa[List.getD,hk]using e
def InsDr (r B:Nat) (bs:List Nat) (p:Nat) (w:World) (e:Ending) (w':World):Prop :=
 ∃v xs q,e=.returned v∧Owns w' w.heap.size 45 3 rowX v xs∧(∀x∈xs,InQ w' w.heap.size x)∧xs.length≤89∧q≤p+1000∧RdAt w' r B bs q∧Touch r w w'
set_option maxRecDepth 4000 in
theorem l20Ins_any (r B : Nat) (bs : List Nat) (p : Nat) (w : World) (h : RdAt w r B bs p) (hp : p ≤ 800000000) :
  Calls Tryz.prog 44 #[.pointer (some ⟨r,0,none⟩),.int .i64 90] w (InsDr r B bs p w):=by
 have hrw:=h.lt;have HR0:=hid (h.alloc (.cells #[] 45));clear h
 go_enter Tryz.func44,Tryz.ntmps44
 go_upto_region 2 with fail
 obtain⟨w1,hw1⟩:∃W,W=w.alloc (.cells #[] 45):=⟨_,rfl⟩
 have HO1:=hid (show Owns w1 w.heap.size 45 3 rowX (.slice (some ⟨w.heap.size,0,none⟩) 0 0) [] by rw[hw1];exact Owns.lit (Nat.le_refl _));have hb1:Below w.heap.size w w1:=by rw[hw1];exact(Below.refl _ _).alloc (Nat.le_refl _) _
 have hz1:w1.heap.size=w.heap.size+1:=by rw[hw1];simp
 rw[←hw1]at HR0 ⊢;have HB1:=hid hb1;clear hw1 hb1
 go_wp2_with (first
  |(go_at_call 82;(with_reducible refine(zC9 r B bs p 4 _ (HR0.out.alloc _) (by omega) (by omega) (by omega)).mono ?_);rintro e w2 ⟨z', rfl,z0,z1,h2,ht2⟩;obtain⟨z,rfl⟩:=Int.eq_ofNat_of_zero_le z0;have hz:z<4:=(by omega);obtain⟨y,hl1,hy⟩:=tab4 2 3 5 20 hz;have hl2:=tab_arr hl1;clear hl1 hz z0;have tB:=Touch.tab ht2 (by omega) z _ hl2;rw[hz1]at tB;have HT2:=hid (((Touch.of_below HB1.out (Nat.le_refl _)).alloc _).trans ht2);have HR2:=hid h2;have hs2:=HT2.out.size;have HO2:=hid (((HO1.out).allocd (.cells #[.int .i64 2,.int .i64 3,.int .i64 5,.int .i64 20] 3)).touch ht2 hrw);clear h2 ht2 hl2)
  |(go_at_call 82;(with_reducible refine(zC9 r B bs (p+1) 90 _ HR2.out (by omega) (by omega) (by omega)).mono ?_);rintro e w3 ⟨m', rfl,m0,m1,h3,ht3⟩;obtain⟨m,rfl⟩:=Int.eq_ofNat_of_zero_le m0;have HT3:=hid (HT2.out.trans ht3);have HR3:=hid h3;have HO3:=hid (HO2.out.touch ht3 hrw);clear h3 ht3 tB m0))
 have hy1:1≤y:=by omega
 have hy2:y≤1099511627776:=by omega
 have hm:m≤89:=by omega
 clear hy hz1
 go_loopw [5,7] (fun v i wr=>∃(k q:Nat) (xs:List InX),i=.int .i64 (k:Nat)∧k+xs.length=m∧q≤p+2+10 * xs.length∧RdAt wr r B bs q∧Owns wr w.heap.size 45 3 rowX v xs∧(∀x∈xs,InQ wr w.heap.size x)∧Touch r w wr) (fun _ i _=>(intOf i).toNat)
 case atStart=>exact⟨m,p+1+1,[],rfl,by simp,by simp,HR3.out,HO3.out,(fun x hx=>by cases hx),HT3.out⟩
 case round=>
  clear HR3 HO3 HT3 HO2 HT2 HR2 HO1 HR0 HB1;obtain⟨k,q,xs,rfl,hk,hq,hrd,ho,hxs,ht⟩:=hrel;have HO:=hid ho;have HT:=hid ht;have HRD:=hid hrd;have HXS:=hid hxs;have hxl:xs.length≤89:=by omega
  have hwr:w.heap.size≤wr.heap.size:=ht.size;have HXL:=hid hxl;have HK:=hid hk;clear ho ht hrd hxs;by_cases hlt:0<k
  ·have hki:(0:Int)<(k:Int):=by omega
   have hk89:k≤89:=by omega
   clear hxl hk
   go_wp2_with (first
    |(go_at_call 84;(with_reducible refine(l20In_any r B bs q y _ HRD.out (by have:=HXL.out;omega) hy1 hy2).mono ?_);rintro e w4 ⟨g1,g2,g3,ra,za,sa,q4,rfl,ho4,hq4,h4,ht4⟩;have HO4:=hid (HO.out.touch ht4 hrw);have HXS4:=hid (fun x hx=>(HXS.out x hx).kept (w':=w4) fun k h1 h2=>ht4.block k h2 (by omega));have HT4:=hid (HT.out.trans ht4);have HIN:=hid (show InQ w4 w.heap.size (⟨ra,za,sa⟩,g1,g2,g3) from InQ.rebase ho4 hwr);have HR4:=hid h4;have HQ4:=hid hq4;have hs4:=ht4.size;clear ho4 hq4 h4 ht4)
    |(at_builtin;go_must (refine zC4 elem_in rowX rowX_len ((⟨ra,za,sa⟩,g1,g2,g3):InX) (rowX_one _) w4 rfl _ _ rfl w.heap.size _ xs (by rfl) HO4.out _ (by rfl) (by rfl) (by have:=HXL.out;omega) (by have:=HXL.out;omega) (by omega) ?_);intro v' w5 ho5 hz5 hk5 hv5 hb5;have HO5:=hid ho5;have HIN5:=hid (HIN.out.push HO4.out hk5);have HXS5:=hid (fun x hx=>(HXS4.out x hx).push HO4.out hk5);have HT5:=hid (HT4.out.bel hb5 (Nat.le_refl _));have HR5:=hid (HR4.out.kept hb5 hrw);clear ho5 hz5 hk5 hv5 hb5))
   go_roundw
   case rel => exact ⟨k - 1, q4, xs ++ [(⟨ra, za, sa⟩, g1, g2, g3)], by congr 1; omega, by have := HK.out; simp; omega, by have := HQ4.out; simp; omega, HR5.out, HO5.out, fun x hx => by
    rcases List.mem_append.1 hx with hx|hx
    ·exact HXS5.out x hx
    ·rw[List.mem_singleton.1 hx];exact HIN5.out,HT5.out⟩
   case measure=>simp[intOf];omega
  ·obtain rfl:k=0:=by omega
   go_wp2_with fail
   go_ret
   exact⟨_,xs,q,rfl,HO.out,HXS.out,HXL.out,by omega,HRD.out,HT.out⟩
end Go.Proofs.YtgkdoehkmbhfiaaGreat
namespace Go.Proofs.YtgkdoehkmbhfiaaGreat
variable {c : Cfg} {who s : Nat}
theorem getD_all {w:Nat} (hw:w<3):([true,true,true]:List Bool).getD w false=true:=by
 obtain rfl|rfl|rfl:w=0∨w=1∨w=2:=by omega
 all_goals rfl
theorem getD_none {s:Nat} (hs:s<4):([false,false,false,false]:List Bool).getD s false=false:=by
 obtain rfl|rfl|rfl|rfl:s=0∨s=1∨s=2∨s=3:=by omega
 all_goals rfl
end Go.Proofs.YtgkdoehkmbhfiaaGreat
namespace Go.Proofs.YtgkdoehkmbhfiaaGreat
def sum3 (f:Nat→Nat):Nat:=f 0+f 1+f 2
def cntS4 (f:Nat→Nat):Nat:=f 0+f 1+f 2+f 3
theorem sum4_upd {α:Type} (f:Nat→α) (g:α→Nat) {i:Nat} (hi:i<4) (x:α):cntS4 (fun w=>g (upd f i x w))+g (f i)=cntS4 (fun w=>g (f w))+g x:=by
 obtain rfl|rfl|rfl|rfl:i=0∨i=1∨i=2∨i=3:=by omega
 all_goals
  simp only[cntS4,upd];simp only[if_pos,if_neg,reduceCtorEq,Nat.reduceEqDiff,↓reduceIte];omega
end Go.Proofs.YtgkdoehkmbhfiaaGreat
namespace Go.Proofs.YtgkdoehkmbhfiaaGreat
theorem sum3_updI {α:Type} (f:Nat→α) (g:Nat→α→Nat) {i:Nat} (hi:i<3) (x:α):sum3 (fun w=>g w (upd f i x w))+g i (f i)=sum3 (fun w=>g w (f w))+g i x:=by
 obtain rfl|rfl|rfl:i=0∨i=1∨i=2:=by omega
 all_goals
  simp only[sum3,upd];simp only[if_pos,if_neg,reduceCtorEq,Nat.reduceEqDiff,↓reduceIte];omega
def pipeW (l:List Jb):Nat:=(l.map (fun j=>j.left+2)).sum
theorem pipeW_cons (j:Jb) (l:List Jb):pipeW (j::l)=j.left+2+pipeW l:=by simp[pipeW]
theorem pipeW_snoc (j:Jb) (l:List Jb):pipeW (l++[j])=pipeW l+(j.left+2):=by simp[pipeW]
def leftP (c:Cfg) (w:Nat) (p:Pt):Nat:=7 * ((c.prog w).length - p.next)+6 * p.queue.length
def leftS (v:Sv):Nat:=pipeW v.pipe+v.done.length
def todo (c:Cfg) (st:Cy):Nat:=sum3 (fun w=>leftP c w (st.ports w))+cntS4 (fun s=>leftS (st.slaves s))
theorem foldN_dec {α : Type} {f : Nat → α → α} {m : α → Nat} {P : α → Prop} : ∀ (n : Nat) (a : α), P a → (∀ i x, i < n → P x → P (f i x) ∧ (m (f i x) < m x ∨ f i x = x)) →
  P (foldN f n a)∧(m (foldN f n a)<m a∨foldN f n a=a∧∀i,i<n→f i a=a)
 |0,_,h,_=>⟨h,.inr ⟨rfl,fun _ hi=>absurd hi (Nat.not_lt_zero _)⟩⟩
 |n+1,a,h,hs=>by
  obtain⟨h1,h2⟩:=foldN_dec n a h fun i x hi hx=>hs i x (by omega) hx
  obtain⟨h3,h4⟩:=hs n _ (Nat.lt_succ_self n) h1;refine⟨h3,?_⟩;show m (f n (foldN f n a))<m a∨f n (foldN f n a)=a∧_;rcases h2 with h2|⟨h2,h5⟩
  ·rcases h4 with h4|h4
   ·exact .inl (by omega)
   ·exact .inl (by rw[h4];exact h2)
  ·rw[h2]at h4 ⊢;rcases h4 with h4|h4
   ·exact .inl h4
   ·refine .inr ⟨h4,fun i hi=>?_⟩;by_cases he:i=n
    ·rw[he];exact h4
    ·exact h5 i (by omega)
theorem firstK_ex {m:Nat→Bool} {n k:Nat} (h0:1≤k) (hk:k≤n) (hm:m k=true):∃i,firstK m n=some i:=by
 rcases h:firstK m n with _|i
 ·unfold firstK at h;rw[List.find?_eq_none]at h;have:=h k (List.mem_map.2 ⟨k - 1,List.mem_range.2 (by omega),by omega⟩);exact absurd hm this
 ·exact⟨i,rfl⟩
section
variable {c : Cfg} {inp : Inp}
theorem todo_tell {x:Cy×List Ev} {w s:Nat} {j:TJ} {rest:List TJ} (hw:w<3) (hs:s<4) (hd:(x.1.slaves s).done=j::rest):todo c (zD4 w s j rest x).1<todo c x.1:=by
 have h1:=sum3_updI x.1.ports (leftP c) hw { x.1.ports w with out:=(x.1.ports w).out.eraseP (fun o=>o.n==j.n),last:=s };have h2:=sum4_upd x.1.slaves leftS hs { x.1.slaves s with done:=rest };have h3:leftP c w { x.1.ports w with out:=(x.1.ports w).out.eraseP (fun o=>o.n==j.n),last:=s }=leftP c w (x.1.ports w):=rfl;have h4:leftS (x.1.slaves s)=leftS { x.1.slaves s with done:=rest }+1:=by simp only[leftS,hd,List.length_cons];omega
 simp only[todo,zD4]at *;omega
theorem tell1_dec {x:Cy×List Ev} {w:Nat} (hw:w<3):todo c (tell1 inp w x).1<todo c x.1∨tell1 inp w x=x:=by
 unfold tell1
 split
 ·split
  ·exact .inr rfl
  ·split
   ·exact .inr rfl
   ·exact .inl (todo_tell hw (Nat.mod_lt _ (by omega)) ‹_›)
 ·exact .inr rfl
theorem tell1_takes {x:Cy×List Ev} {w s:Nat} {j:TJ} {rest:List TJ} (hr:inp.ready.getD w false=true) (hl:(x.1.ports w).last≤3) (hs:s<4) (hd:(x.1.slaves s).done=j::rest) (hj:j.who=w):tell1 inp w x≠x:=by
 have hk:∃k,1≤k∧k≤4∧((x.1.ports w).last+k) % 4=s:=by
  by_cases h:(x.1.ports w).last<s
  ·exact⟨s - (x.1.ports w).last,by omega,by omega,by omega⟩
  ·exact⟨s+4 - (x.1.ports w).last,by omega,by omega,by omega⟩
 obtain⟨k,k1,k2,k3⟩:=hk;obtain⟨i,hi⟩:=firstK_ex (m:=tellM x.1 w) k1 k2 (by unfold tellM;rw[k3,hd];simp[hj]);have hm:=(zN1 hi).2.2;intro he;unfold tell1 at he;rw[if_pos hr,hi]at he;simp only at he;unfold tellM at hm;rcases hdd:(x.1.slaves (((x.1.ports w).last+i) % 4)).done with _|⟨a,l⟩
 ·rw[hdd]at hm;simp at hm
 ·rw[hdd]at he;have:=congrArg (fun x=>x.2.length) he;simp[zD4]at this
theorem todo_dec {st:Cy} {s:Nat} {j:Jb} {rest:List Jb} (hs:s<4) (hp:(st.slaves s).pipe=j::rest) (h0:0<j.left):todo c (zF6 s j rest st)<todo c st:=by
 have h2:=sum4_upd st.slaves leftS hs { st.slaves s with pipe:=⟨j.who,j.n,j.left - 1⟩::rest };have h4:leftS (st.slaves s)=leftS { st.slaves s with pipe:=⟨j.who,j.n,j.left - 1⟩::rest }+1:=by simp only[leftS,hp,pipeW_cons];omega
 simp only[todo,zF6]at *;omega
theorem todo_work {x:Cy×List Ev} {s:Nat} {j:Jb} {rest:List Jb} (hs:s<4) (hp:(x.1.slaves s).pipe=j::rest):todo c (zD9 c s j rest x).1<todo c x.1:=by
 have h2:=sum4_upd x.1.slaves leftS hs { x.1.slaves s with pipe:=rest,done:=(x.1.slaves s).done++[⟨j.who,j.n,(doReq c.ms x.1.ws x.1.hs j.who (c.req j.who j.n)).2.2⟩] };have h4:leftS { x.1.slaves s with pipe:=rest,done:=(x.1.slaves s).done++[⟨j.who,j.n,(doReq c.ms x.1.ws x.1.hs j.who (c.req j.who j.n)).2.2⟩] }<leftS (x.1.slaves s):=by simp only[leftS,hp,pipeW_cons,List.length_append,List.length_singleton];omega
 simp only[todo,zD9]at *;omega
theorem work1_less {x:Cy×List Ev} {s:Nat} (hs:s<4):todo c (work1 c inp s x).1<todo c x.1∨work1 c inp s x=x:=by
 unfold work1
 split
 ·exact .inr rfl
 ·split
  ·exact .inr rfl
  ·split
   ·exact .inl (todo_dec hs ‹_› ‹_›)
   ·split
    ·exact .inl (todo_work hs ‹_›)
    ·exact .inr rfl
theorem work1_hit {x:Cy×List Ev} {s:Nat} {j:Jb} {rest:List Jb} (hs:s<4) (hst:¬inp.stall.getD s false=true) (hp:(x.1.slaves s).pipe=j::rest) (hd:(x.1.slaves s).done=[]):work1 c inp s x≠x:=by
 intro he;have h:todo c (work1 c inp s x).1<todo c x.1:=by
  unfold work1;rw[if_neg hst,hp];simp only;by_cases h0:0<j.left
  ·rw[if_pos h0];exact todo_dec hs hp h0
  ·rw[if_neg h0,if_pos (by rw[hd];simp)];exact todo_work hs hp
 rw[he]at h;exact absurd h (Nat.lt_irrefl _)
theorem todo_let (hb:Bus c) {y:Lt} {s w n:Nat} {rest:List Nat} (hs:s<4) (hw:w<3) (hq:(y.st.ports w).queue=n::rest):todo c (letDo c s w n rest y).st<todo c y.st:=by
 have h1:=sum3_updI y.st.ports (leftP c) hw { y.st.ports w with queue:=rest,out:=(y.st.ports w).out++[⟨w,n,s⟩] };have h2:=sum4_upd y.st.slaves leftS hs { y.st.slaves s with pipe:=(y.st.slaves s).pipe++[⟨w,n,c.lt s⟩],last:=w };have h3:leftP c w (y.st.ports w)=leftP c w { y.st.ports w with queue:=rest,out:=(y.st.ports w).out++[⟨w,n,s⟩] }+6:=by simp only[leftP,hq,List.length_cons];omega
 have h5:=hb.lt3 hs;have h4:leftS { y.st.slaves s with pipe:=(y.st.slaves s).pipe++[⟨w,n,c.lt s⟩],last:=w }≤leftS (y.st.slaves s)+5:=by simp only[leftS,pipeW_snoc];omega
 simp only[todo,letDo]at *;omega
theorem let1_dec (hb:Bus c) {y:Lt} {s:Nat} (hs:s<4):todo c (let1 c s y).st<todo c y.st∨let1 c s y=y:=by
 unfold let1
 split
 ·split
  ·exact .inr rfl
  ·split
   ·exact .inr rfl
   ·exact .inl (todo_let hb hs (Nat.mod_lt _ (by omega)) ‹_›)
 ·exact .inr rfl
theorem let1_takes (hb:Bus c) {y:Lt} {s w:Nat} (hs:s<4) (hw:w<3) (hl:(y.st.slaves s).last≤2) (hp:(y.st.slaves s).pipe.length<2) (hu:y.used w=false) (hm:may c y.st w s=true):let1 c s y≠y:=by
 have hk:∃k,1≤k∧k≤3∧((y.st.slaves s).last+k) % 3=w:=by
  by_cases h:(y.st.slaves s).last<w
  ·exact⟨w - (y.st.slaves s).last,by omega,by omega,by omega⟩
  ·exact⟨w+3 - (y.st.slaves s).last,by omega,by omega,by omega⟩
 obtain⟨k,k1,k2,k3⟩:=hk;obtain⟨i,hi⟩:=firstK_ex (m:=letM c s y) k1 k2 (by unfold letM;rw[k3,hu,hm];rfl);have hmm:=(zN1 hi).2.2;intro he;have h:todo c (let1 c s y).st<todo c y.st:=by
  unfold let1;rw[if_pos hp,hi];simp only;unfold letM may at hmm;rcases hq:(y.st.ports (((y.st.slaves s).last+i) % 3)).queue with _|⟨a,l⟩
  ·rw[hq]at hmm;simp at hmm
  ·exact todo_let hb hs (Nat.mod_lt _ (by omega)) hq
 rw[he]at h;exact absurd h (Nat.lt_irrefl _)
theorem todo_ask {x:Cy×List Ev} {w:Nat} (hw:w<3) (hn:(x.1.ports w).next<(c.prog w).length):todo c (askDo w x).1<todo c x.1:=by
 have h1:=sum3_updI x.1.ports (leftP c) hw { x.1.ports w with queue:=(x.1.ports w).queue++[(x.1.ports w).next],next:=(x.1.ports w).next+1 };have h3:leftP c w (x.1.ports w)=leftP c w { x.1.ports w with queue:=(x.1.ports w).queue++[(x.1.ports w).next],next:=(x.1.ports w).next+1 }+1:=by simp only[leftP,List.length_append,List.length_singleton];omega
 simp only[todo,askDo]at *;omega
theorem ask1_dec {x:Cy×List Ev} {w:Nat} (hw:w<3):todo c (ask1 c inp w x).1<todo c x.1∨ask1 c inp w x=x:=by
 unfold ask1
 split
 ·rename_i h;exact .inl (todo_ask hw h.2.2)
 ·exact .inr rfl
theorem ask1_hit {x:Cy×List Ev} {w:Nat} (hw:w<3) (hs:inp.send.getD w false=true) (hq:(x.1.ports w).queue=[]) (hn:(x.1.ports w).next<(c.prog w).length):ask1 c inp w x≠x:=by
 intro he;have h:todo c (ask1 c inp w x).1<todo c x.1:=by
  unfold ask1;rw[if_pos ⟨hs,by rw[hq];simp,hn⟩];exact todo_ask hw hn
 rw[he]at h;exact absurd h (Nat.lt_irrefl _)
theorem cyc_dec (hb : Bus c) {st : Cy} (hg : Good c st) : todo c (cyc c inp st) < todo c st ∨ cyc c inp st = st ∧
  (∀w,w<3→tell1 inp w (st,[])=(st,[]))∧(∀s,s<4→work1 c inp s (st,[])=(st,[]))∧(∀s,s<4→let1 c s ⟨st,fun _=>false,fun _=>0⟩=⟨st,fun _=>false,fun _=>0⟩)∧(∀w,w<3→ask1 c inp w (st,[])=(st,[])):=by
 obtain⟨g1,t1⟩:Good c (zE0 inp (st,[])).1∧(todo c (zE0 inp (st,[])).1<todo c st∨zE0 inp (st,[])=(st,[])∧∀w,w<3→tell1 inp w (st,[])=(st,[])) :=
  foldN_dec (m:=fun x:Cy×List Ev=>todo c x.1) (P:=fun x=>Good c x.1) 3 (st,[]) hg fun i x hi hx=>⟨good_tell1 hx hi,tell1_dec hi⟩
 obtain⟨x1,e1⟩:∃x,x=zE0 inp (st,[]):=⟨_,rfl⟩
 rw[←e1]at g1 t1;obtain⟨g2,t2⟩:Good c (zF0 c inp x1).1∧(todo c (zF0 c inp x1).1<todo c x1.1∨zF0 c inp x1=x1∧∀s,s<4→work1 c inp s x1=x1) :=
  foldN_dec (m:=fun x:Cy×List Ev=>todo c x.1) (P:=fun x=>Good c x.1) 4 x1 g1 fun i x hi hx=>⟨good_work1 hb hx hi,work1_less hi⟩
 obtain⟨x2,e2⟩:∃x,x=zF0 c inp x1:=⟨_,rfl⟩
 rw[←e2]at g2 t2;obtain⟨g3,t3⟩:Good c (zL7 c x2.1).st∧(todo c (zL7 c x2.1).st<todo c x2.1∨zL7 c x2.1=⟨x2.1,fun _=>false,fun _=>0⟩∧∀s,s<4→let1 c s ⟨x2.1,fun _=>false,fun _=>0⟩=⟨x2.1,fun _=>false,fun _=>0⟩) :=
  foldN_dec (m:=fun y:Lt=>todo c y.st) (P:=fun y=>Good c y.st) 4 ⟨x2.1,fun _=>false,fun _=>0⟩ g2 fun i x hi hx=>⟨good_let1 hx hi,let1_dec hb hi⟩
 obtain⟨y3,e3⟩:∃x,x=zL7 c x2.1:=⟨_,rfl⟩
 rw[←e3]at g3 t3;obtain⟨g4,t4⟩:Good c (askAll c inp (y3.st,x2.2)).1∧(todo c (askAll c inp (y3.st,x2.2)).1<todo c y3.st∨askAll c inp (y3.st,x2.2)=(y3.st,x2.2)∧∀w,w<3→ask1 c inp w (y3.st,x2.2)=(y3.st,x2.2)) :=
  foldN_dec (m:=fun x:Cy×List Ev=>todo c x.1) (P:=fun x=>Good c x.1) 3 (y3.st,x2.2) g3 fun i x hi hx=>⟨good_ask1 hx hi,ask1_dec hi⟩
 have e:cyc c inp st=(askAll c inp (y3.st,x2.2)).1:=by rw[e3,e2,e1];rfl
 rw[e];clear e e1 e2 e3;rcases t1 with t1|⟨rfl,u1⟩
 ·refine .inl ?_;rcases t2 with t2|⟨rfl,_⟩ <;> rcases t3 with t3|⟨rfl,_⟩ <;> rcases t4 with t4|⟨t4,_⟩ <;> (try rw[t4]) <;> (try simp only at *) <;> omega
 ·rcases t2 with t2|⟨rfl,u2⟩
  ·refine .inl ?_;rcases t3 with t3|⟨rfl,_⟩ <;> rcases t4 with t4|⟨t4,_⟩ <;> (try rw[t4]) <;> (try simp only at *) <;> omega
  ·rcases t3 with t3|⟨rfl,u3⟩
   ·refine .inl ?_;rcases t4 with t4|⟨t4,_⟩ <;> (try rw[t4]) <;> (try simp only at *) <;> omega
   ·rcases t4 with t4|⟨t4,u4⟩
    ·exact .inl t4
    ·exact .inr ⟨by rw[t4],u1,u2,u3,u4⟩
theorem todo_cyc (hb:Bus c) {st:Cy} (hg:Good c st):todo c (cyc c inp st)≤todo c st:=by
 rcases cyc_dec (inp:=inp) hb hg with h|⟨h,_⟩
 ·exact Nat.le_of_lt h
 ·rw[h];exact Nat.le_refl _
theorem outs_nil {st:Cy} (hg:Good c st) (hms:∀w n,c.slv w n<4) (h:∀s,s<4→zA6 (st.slaves s)=[]) {w:Nat} (hw:w<3):(st.ports w).out=[]:=by
 rw[List.eq_nil_iff_forall_not_mem];intro o ho;have h1:=((hg.p w hw).o o ho).2.1;have h2:=hms w o.n;have h3:=hg.link o.left w (by omega) hw;rw[h _ (by omega)]at h3;have:o.n∈((st.ports w).out.filter (fun j=>j.left==o.left)).map (·.n):=List.mem_map.2 ⟨o,List.mem_filter.2 ⟨ho,by simp⟩,rfl⟩;rw[←h3]at this;simp[nsOf]at this
structure FreeI (c:Cfg) (inp:Inp) (st:Cy):Prop where
 ready:∀w,w<3→inp.ready.getD w false=true
 send:∀w,w<3→inp.send.getD w false=true
 stall:∀s,s<4→inp.stall.getD s false=true→(st.slaves s).pipe=[]
theorem todo_less (hb:Bus c) {st:Cy} (hg:Good c st) (hms:∀w n,c.slv w n<4) (hf:FreeI c inp st):todo c (cyc c inp st)<todo c st∨todo c st=0:=by
 rcases cyc_dec (inp:=inp) hb hg with h|⟨_,h1,h2,h3,h4⟩
 ·exact .inl h
 ·refine .inr ?_;have d0:∀s,s<4→(st.slaves s).done=[]:=fun s hs=>by
   rcases hd:(st.slaves s).done with _|⟨j,l⟩
   ·rfl
   ·have hw:j.who<3:=(hg.s s hs).w3 (j.who,j.n) (by simp[zA6,hd]);exact absurd (h1 j.who hw) (tell1_takes (hf.ready _ hw) (hg.p _ hw).l hs hd rfl)
  have p0:∀s,s<4→(st.slaves s).pipe=[]:=fun s hs=>by
   by_cases hst:inp.stall.getD s false=true
   ·exact hf.stall s hs hst
   ·rcases hd:(st.slaves s).pipe with _|⟨j,l⟩
    ·rfl
    ·exact absurd (h2 s hs) (work1_hit hs hst hd (d0 s hs))
  have o0:=fun {w:Nat} (hw:w<3)=>outs_nil hg hms (fun s hs=>by simp[zA6,d0 s hs,p0 s hs]) hw
  have q0:∀w,w<3→(st.ports w).queue=[]:=fun w hw=>by
   rcases hq:(st.ports w).queue with _|⟨n,l⟩
   ·rfl
   ·have hs:=hms w n;refine absurd (h3 _ hs) (let1_takes (w:=w) hb hs hw (hg.s _ hs).l (by simp[p0 _ hs]) rfl ?_);unfold may;simp only[hq,o0 hw];simp
  have n0:∀w,w<3→(c.prog w).length - (st.ports w).next=0:=fun w hw=>by
   by_cases hn:(st.ports w).next<(c.prog w).length
   ·exact absurd (h4 w hw) (ask1_hit hw (hf.send w hw) (q0 w hw) hn)
   ·omega
  simp only[todo,sum3,cntS4,leftP,leftS];simp[d0,p0,q0,n0,pipeW]
theorem todo_run (hb : Bus c) : ∀ (ins : List Inp) {st : Cy}, Good c st → todo c (runC c ins st) ≤ todo c st
 |[],_,_=>Nat.le_refl _
 |i::rest,_,hg=>Nat.le_trans (todo_run hb rest (good_step hb (inp:=i) hg)) (todo_cyc hb hg)
theorem todo_all (hb : Bus c) (hms : ∀ w n, c.slv w n < 4) : ∀ (ins : List Inp) {st : Cy}, Good c st → (∀ i ∈ ins, ∀ st, Good c st → FreeI c i st) → todo c (runC c ins st) ≤ todo c st - ins.length
 |[],_,_,_=>Nat.le_refl _
 |i::rest,st,hg,hf=>by
  have h1:=todo_all hb hms rest (good_step hb (inp:=i) hg) fun j hj=>hf j (List.mem_cons_of_mem _ hj)
  have h2:todo c (runC c (i::rest) st)≤todo c (cyc c i st) - rest.length:=h1;rw[List.length_cons];rcases todo_less (inp:=i) hb hg hms (hf i (List.mem_cons_self ..) st hg)with h|h
  ·omega
  ·have:=todo_cyc (inp:=i) hb hg;omega
theorem todo_zero {st : Cy} (hg : Good c st) (hms : ∀ w n, c.slv w n < 4) (h : todo c st = 0) :
  (∀w,w<3→(st.ports w).next=(c.prog w).length∧(st.ports w).queue=[]∧(st.ports w).out=[])∧∀s,s<4→(st.slaves s).pipe=[]∧(st.slaves s).done=[]:=by
 simp only[todo,sum3,cntS4,leftP,leftS]at h;have hs:∀s,s<4→pipeW (st.slaves s).pipe=0∧(st.slaves s).done.length=0:=fun s hs=>by
  obtain rfl|rfl|rfl|rfl:s=0∨s=1∨s=2∨s=3:=by omega
  all_goals constructor <;> omega
 have hs2:∀s,s<4→(st.slaves s).pipe=[]∧(st.slaves s).done=[]:=fun s h4=>by
  obtain⟨h1,h2⟩:=hs s h4;refine⟨?_,List.eq_nil_of_length_eq_zero h2⟩;rcases hp:(st.slaves s).pipe with _|⟨j,l⟩
  ·rfl
  ·rw[hp,pipeW_cons]at h1;omega
 refine⟨fun w hw=>?_,hs2⟩;have h3:(c.prog w).length - (st.ports w).next=0∧(st.ports w).queue.length=0:=by
  obtain rfl|rfl|rfl:w=0∨w=1∨w=2:=by omega
  all_goals constructor <;> omega
 have h4:=(hg.p w hw).nx;exact⟨by omega,List.eq_nil_of_length_eq_zero h3.2,outs_nil hg hms (fun s hs=>by simp[zA6,hs2 s hs]) hw⟩
theorem todo_first (hb:Bus c):todo c cy0≤252:=by
 have h0:=hb.twelve (w:=0) (by omega);have h1:=hb.twelve (w:=1) (by omega);have h2:=hb.twelve (w:=2) (by omega);simp only[todo,sum3,cntS4,leftP,leftS,cy0,pipeW,List.map_nil,List.sum_nil,List.length_nil];omega
theorem told_perm {st:Cy} (hg:Good c st) (hms:∀w n,c.slv w n<4) (h:todo c st=0) {w:Nat} (hw:w<3):((st.told.filter (fun j=>j.who==w)).map (·.n)).Perm (List.range (c.prog w).length):=by
 obtain⟨h1,h2,h3⟩:=(todo_zero hg hms h).1 w hw;have:=hg.part w hw;rw[h1,h2,h3]at this;simpa using this
end
end Go.Proofs.YtgkdoehkmbhfiaaGreat
