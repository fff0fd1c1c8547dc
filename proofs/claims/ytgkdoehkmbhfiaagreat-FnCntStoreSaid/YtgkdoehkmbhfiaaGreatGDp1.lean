/- What is counted in cycles, as a plain function; and what holds of it. No program in sight. -/
import Derived.Test.YtgkdoehkmbhfiaaGreatGDr1
import Derived.Test.YtgkdoehkmbhfiaaGreatGIv3
import Derived.Test.YtgkdoehkmbhfiaaGreatGDl
import Derived.Test.YtgkdoehkmbhfiaaGreatGCs
import Derived.Test.YtgkdoehkmbhfiaaGreatGE0
import Derived.Deep.RegionWith
set_option linter.unusedVariables false
set_option linter.unusedSimpArgs false
set_option maxHeartbeats 16000000
namespace Go.Proofs.YtgkdoehkmbhfiaaGreat
open Go.RowKit
theorem zI7 (x:Bool):(rowB x).length=1:=rfl
theorem Owns.cellB {w:World} {base e g n c:Nat} {xs:List Bool} (h:Owns w base e 1 rowB (.slice (some ⟨g,0,none⟩) n c) xs) (k:Nat) (hk:k<xs.length):w.cell? ⟨g,k,none⟩=some (.bool (xs.getD k false)):=by
 have:=h.cellAt zI7 k 0 false hk (by omega);simpa[rowB]using this
theorem Owns.putB {w:World} {base e g n c:Nat} {xs:List Bool} (h:Owns w base e 1 rowB (.slice (some ⟨g,0,none⟩) n c) xs) (k:Nat) (hk:k<xs.length) (x:Bool):Owns (w.setCell ⟨g,k,none⟩ (.bool x)) base e 1 rowB (.slice (some ⟨g,0,none⟩) n c) (xs.set k x):=by
 have:=h.putRow zI7 k 0 false x (.bool x) hk (by omega) (by simp[rowB]);simpa using this
theorem Bx.touch {w w':World} {r g:Nat} {cs:List Value} (h:Bx w g cs) (ht:Touch r w w') (hn:g≠r):Bx w' g cs:=h.kept (ht.block g h.lt hn)
theorem Bx.setc {w:World} {g:Nat} {cs:List Value} (h:Bx w g cs) (b o:Nat) (u:Value) (hn:g≠b):Bx (w.setCell ⟨b,o,none⟩ u) g cs:=h.kept (Below.heap_setCell _ _ _ _ hn)
theorem loadVar_in (w:World) (g:Nat) (a b c:Value) (h0:w.cell? ⟨g,0,none⟩=some a) (h1:w.cell? ⟨g,1,none⟩=some b) (h2:w.cell? ⟨g,2,none⟩=some c):(loadVar 45 ⟨g,0,none⟩).run Tryz.prog w=.ok (.agg #[a,b,c]) w:=by
 simp[loadVar,go_sem,h0,h1,h2]
abbrev T3:List Bool:=[true,true,true]
abbrev F4:List Bool:=[false,false,false,false]
structure InO (w:World) (lo g1 g2 g3:Nat) (xs zs ys:List Bool):Prop where
 o1:Owns w lo 4 1 rowB (.slice (some ⟨g1,0,none⟩) 3 3) xs
 o2:Owns w lo 4 1 rowB (.slice (some ⟨g2,0,none⟩) 4 4) zs
 o3:Owns w lo 4 1 rowB (.slice (some ⟨g3,0,none⟩) 3 3) ys
 l1:xs.length=3
 l2:zs.length=4
 l3:ys.length=3
 n12:g1<g2
 n23:g2<g3
theorem InO.kept {w w':World} {lo g1 g2 g3:Nat} {xs zs ys:List Bool} (h:InO w lo g1 g2 g3 xs zs ys) (hk:∀k,lo≤k→k<w.heap.size→w'.heap[k]? = w.heap[k]?):InO w' lo g1 g2 g3 xs zs ys :=
 ⟨OwnR.kept h.o1 fun k hk2=>hk k (OwnR.lt h.o1 k hk2).1 (OwnR.lt h.o1 k hk2).2,OwnR.kept h.o2 fun k hk2=>hk k (OwnR.lt h.o2 k hk2).1 (OwnR.lt h.o2 k hk2).2,OwnR.kept h.o3 fun k hk2=>hk k (OwnR.lt h.o3 k hk2).1 (OwnR.lt h.o3 k hk2).2,h.l1,h.l2,h.l3,h.n12,h.n23⟩
theorem InO.lt {w:World} {lo g1 g2 g3:Nat} {xs zs ys:List Bool} (h:InO w lo g1 g2 g3 xs zs ys):lo≤g1∧g1<g2∧g2<g3∧g3<w.heap.size:=⟨(OwnR.lt h.o1 g1 rfl).1,h.n12,h.n23,(OwnR.lt h.o3 g3 rfl).2⟩
theorem InO.put1 {w:World} {lo g1 g2 g3:Nat} {xs zs ys:List Bool} (h:InO w lo g1 g2 g3 xs zs ys) (k:Nat) (hk:k<3) (b:Bool):InO (w.setCell ⟨g1,k,none⟩ (.bool b)) lo g1 g2 g3 (xs.set k b) zs ys :=
 ⟨h.o1.putB k (by rw[h.l1];exact hk) b,h.o2.set' g1 k _ (fun j hj=>by have:=h.n12;simp[Value.ownBlock]at hj;omega),h.o3.set' g1 k _ (fun j hj=>by have:=h.n12;have:=h.n23;simp[Value.ownBlock]at hj;omega),by simp[h.l1],h.l2,h.l3,h.n12,h.n23⟩
theorem InO.put2 {w:World} {lo g1 g2 g3:Nat} {xs zs ys:List Bool} (h:InO w lo g1 g2 g3 xs zs ys) (k:Nat) (hk:k<4) (b:Bool):InO (w.setCell ⟨g2,k,none⟩ (.bool b)) lo g1 g2 g3 xs (zs.set k b) ys :=
 ⟨h.o1.set' g2 k _ (fun j hj=>by have:=h.n12;simp[Value.ownBlock]at hj;omega),h.o2.putB k (by rw[h.l2];exact hk) b,h.o3.set' g2 k _ (fun j hj=>by have:=h.n23;simp[Value.ownBlock]at hj;omega),h.l1,by simp[h.l2],h.l3,h.n12,h.n23⟩
theorem InO.put3 {w:World} {lo g1 g2 g3:Nat} {xs zs ys:List Bool} (h:InO w lo g1 g2 g3 xs zs ys) (k:Nat) (hk:k<3) (b:Bool):InO (w.setCell ⟨g3,k,none⟩ (.bool b)) lo g1 g2 g3 xs zs (ys.set k b) :=
 ⟨h.o1.set' g3 k _ (fun j hj=>by have:=h.n12;have:=h.n23;simp[Value.ownBlock]at hj;omega),h.o2.set' g3 k _ (fun j hj=>by have:=h.n23;simp[Value.ownBlock]at hj;omega),h.o3.putB k (by rw[h.l3];exact hk) b,h.l1,h.l2,by simp[h.l3],h.n12,h.n23⟩
theorem InO.boxed {w w':World} {lo g1 g2 g3:Nat} {xs zs ys:List Bool} (h:InO w lo g1 g2 g3 xs zs ys) {b:Nat} (hk:∀k,k≠b→w'.heap[k]? = w.heap[k]?) (hb:b<g1):InO w' lo g1 g2 g3 xs zs ys:=by
 have h1:=h.n12;have h2:=h.n23;exact⟨OwnR.kept h.o1 fun k hk2=>hk k (by simp[Value.ownBlock]at hk2;omega),OwnR.kept h.o2 fun k hk2=>hk k (by simp[Value.ownBlock]at hk2;omega),OwnR.kept h.o3 fun k hk2=>hk k (by simp[Value.ownBlock]at hk2;omega),h.l1,h.l2,h.l3,h.n12,h.n23⟩
def InAllP (w:World) (e:Ending) (w':World):Prop:=∃g1 g2 g3,e=.returned (.agg #[.slice (some ⟨g1,0,none⟩) 3 3,.slice (some ⟨g2,0,none⟩) 4 4,.slice (some ⟨g3,0,none⟩) 3 3])∧InO w' w.heap.size g1 g2 g3 T3 F4 T3∧Below w.heap.size w w'
theorem inAll_any (w:World):Calls Tryz.prog 133 #[] w (InAllP w):=by
 go_enter Tryz.func133,Tryz.ntmps133
 go_wp2_with fail
 refine bodyPost_ret (zA5 Tryz.results133 _ _ ⟨w.heap.size,0,none⟩ (.agg #[.slice (some ⟨w.heap.size+1,0,none⟩) 3 3,.slice (some ⟨w.heap.size+1+1,0,none⟩) 4 4,.slice (some ⟨w.heap.size+1+1+1,0,none⟩) 3 3]) rfl (loadVar_in _ _ _ _ _ (by simp[go_sem]) (by simp[go_sem]) (by simp[go_sem]))) rfl ⟨_,_,_,rfl,⟨?_,?_,?_,rfl,rfl,rfl,by omega,by omega⟩,?_⟩
 ·have:=((Owns.litOf (w:=w.alloc (.cells #[.slice (some ⟨w.heap.size+1,0,none⟩) 3 3,.slice (some ⟨w.heap.size+1+1,0,none⟩) 4 4,.slice (some ⟨w.heap.size+1+1+1,0,none⟩) 3 3] 45)) (base:=w.heap.size) (e:=4) (f:=rowB) T3 #[.bool true,.bool true,.bool true] (by simp) zI7 rfl (by unfold maxLen;simp)).allocd (.cells #[.bool false,.bool false,.bool false,.bool false] 4)).allocd (.cells #[.bool true,.bool true,.bool true] 4);simpa using this
 ·have:=(Owns.litOf (w:=(w.alloc (.cells #[.slice (some ⟨w.heap.size+1,0,none⟩) 3 3,.slice (some ⟨w.heap.size+1+1,0,none⟩) 4 4,.slice (some ⟨w.heap.size+1+1+1,0,none⟩) 3 3] 45)).alloc (.cells #[.bool true,.bool true,.bool true] 4)) (base:=w.heap.size) (e:=4) (f:=rowB) F4 #[.bool false,.bool false,.bool false,.bool false] (by simp;omega) zI7 rfl (by unfold maxLen;simp)).allocd (.cells #[.bool true,.bool true,.bool true] 4);simpa using this
 ·have:=Owns.litOf (w:=((w.alloc (.cells #[.slice (some ⟨w.heap.size+1,0,none⟩) 3 3,.slice (some ⟨w.heap.size+1+1,0,none⟩) 4 4,.slice (some ⟨w.heap.size+1+1+1,0,none⟩) 3 3] 45)).alloc (.cells #[.bool true,.bool true,.bool true] 4)).alloc (.cells #[.bool false,.bool false,.bool false,.bool false] 4)) (base:=w.heap.size) (e:=4) (f:=rowB) T3 #[.bool true,.bool true,.bool true] (by simp;omega) zI7 rfl (by unfold maxLen;simp);simpa using this
 ·exact((((Below.refl _ _).alloc (Nat.le_refl _) _).alloc (by simp) _).alloc (by simp;omega) _).alloc (by simp;omega) _
def InDr (r B:Nat) (bs:List Nat) (p:Nat) (w:World) (e:Ending) (w':World):Prop :=
 ∃g1 g2 g3 xs zs ys q,e=.returned (.agg #[.slice (some ⟨g1,0,none⟩) 3 3,.slice (some ⟨g2,0,none⟩) 4 4,.slice (some ⟨g3,0,none⟩) 3 3])∧InO w' w.heap.size g1 g2 g3 xs zs ys∧q≤p+10∧RdAt w' r B bs q∧Touch r w w'
set_option maxRecDepth 4000 in
theorem l20In_any (r B : Nat) (bs : List Nat) (p : Nat) (n : Int) (w : World) (h : RdAt w r B bs p) (hp : p ≤ 900000000) (h1 : 1 ≤ n) (hn : n ≤ 1099511627776) :
  Calls Tryz.prog 84 #[.pointer (some ⟨r,0,none⟩),.int .i64 n] w (InDr r B bs p w):=by
 have hrw:=h.lt;have HR0:=hid h;clear h
 go_enter Tryz.func84,Tryz.ntmps84
 go_upto_region 2 with(go_at_call 133;(with_reducible refine(inAll_any _).mono ?_);rintro e w1 ⟨g1,g2,g3,rfl,ho,hb⟩;have HO1:=hid ho;have HB1:=hid hb;clear ho hb)
 obtain⟨w2,hw2⟩:∃W,W=w1.alloc (.cells #[.slice (some ⟨g1,0,none⟩) 3 3,.slice (some ⟨g2,0,none⟩) 4 4,.slice (some ⟨g3,0,none⟩) 3 3] 45):=⟨_,rfl⟩
 obtain⟨gi,hgi⟩:∃g,g=w1.heap.size:=⟨_,rfl⟩
 rw[←hw2,←hgi];have hb2:Below w1.heap.size w1 w2:=by rw[hw2];exact(Below.refl _ _).alloc (Nat.le_refl _) _
 have hb01:Below w.heap.size w w1:=((Below.refl _ _).alloc (Nat.le_refl _) _).trans (HB1.out.mono (by simp));have HLO:=hid HO1.out.lt;have HX:=hid (show Bx w2 gi [.slice (some ⟨g1,0,none⟩) 3 3,.slice (some ⟨g2,0,none⟩) 4 4,.slice (some ⟨g3,0,none⟩) 3 3] by rw[hw2,hgi];exact Bx.new w1 #[.slice (some ⟨g1,0,none⟩) 3 3,.slice (some ⟨g2,0,none⟩) 4 4,.slice (some ⟨g3,0,none⟩) 3 3] 45 (by simp));have HY:=hid (show Bx w2 w.heap.size [vnil,vnil,vnil] from((Bx.new w #[vnil,vnil,vnil] 45 (by simp)).below HB1.out (by simp)).below hb2 (by have:=HB1.out.size;simp at this;omega));have HO2:=hid (HO1.out.kept (w':=w2) fun k _ hk=>hb2.block k hk);have HT2:=hid (show Touch r w w2 from(Touch.of_below hb01 (Nat.le_refl _)).trans (Touch.of_below hb2 (Nat.le_refl _)));have HR2:=hid ((HR0.out.kept hb01 hrw).kept hb2 (by have:=hb01.size;omega));have h0lo:=HO1.out.lt;simp only[World.size_alloc]at h0lo;have hn1:g1<gi:=by omega
 have hn3:g3<gi:=by omega
 have hgr1:w.heap.size<g1:=by omega
 obtain⟨_,h12,h23,_⟩:=h0lo;have hg10:g1≠w.heap.size:=by omega
 have hSZ:=hid (show w.heap.size≤(w.alloc (.cells #[vnil,vnil,vnil] 45)).heap.size by simp);clear hw2 hgi hb2 hb01
 go_wp2_with fail
 go_loopw [6] (fun i wr=>∃(k q:Nat) (xs ys:List Bool),i=.int .i64 (k:Nat)∧k≤3∧q≤p+2 * k∧RdAt wr r B bs q∧InO wr w.heap.size g1 g2 g3 xs F4 ys∧Touch r w wr∧Bx wr gi [.slice (some ⟨g1,0,none⟩) 3 3,.slice (some ⟨g2,0,none⟩) 4 4,.slice (some ⟨g3,0,none⟩) 3 3]∧Bx wr w.heap.size [vnil,vnil,vnil]) (fun i _=>3 - (intOf i).toNat)
 case atStart=>exact⟨0,p,T3,T3,by go_num,by omega,by omega,HR2.out,⟨HO2.out.o1.rebase hSZ.out,HO2.out.o2.rebase hSZ.out,HO2.out.o3.rebase hSZ.out,HO2.out.l1,HO2.out.l2,HO2.out.l3,HO2.out.n12,HO2.out.n23⟩,HT2.out,HX.out,HY.out⟩
 case round=>
  clear HX HY HO2 HT2 HR2;obtain⟨k,q,xs,ys,rfl,hk,hq,hrd,ho,ht,hx,hy⟩:=hrel;have HO:=hid ho;have HT:=hid ht;have HX:=hid hx;have HY:=hid hy;have HRD:=hid hrd;have h3l:=ho.lt.2.2.2;have hxl:=hx.lt;clear ho ht hx hy hrd;by_cases hlt:k<3
  ·have hki:(k:Int)<3:=by omega
   obtain⟨x0,x1,x2⟩:=HX.out.three.1
   go_upto_region 5 with fail
   go_region_held3 (fun w' => w'.cell? ⟨gi, 0, none⟩ = some (.slice (some ⟨g1, 0, none⟩) 3 3)) (first | exact z1 | (rw [World.cell?_setCell_far _ _ _ _ (by show g1 ≠ gi; omega)]; exact z1) | go_keep)
    (first|(go_at_call 82;(with_reducible refine(zB8 r B bs q n _ HRD.out.drewd (by omega) h1 hn).mono ?_);rintro e w4 ⟨y,rfl,hy0,hy1,h4,ht4⟩;have HT4:=hid (show Touch r wr w4 from(Touch.refl r wr).drewd.trans ht4);have HX4:=hid (HX.out.touch HT4.out (by omega));have z1:=HX4.out.three.1.1;have HO4:=hid (HO.out.kept (w':=w4) fun k h1 h2=>HT4.out.block k h2 (by omega));have zc:=HO4.out.o1.cellB k (by rw[HO4.out.l1];omega);have zf:=HO4.out.o1.frozenAt k;have HY4:=hid (HY.out.touch HT4.out (by omega));have HRD4:=hid h4;clear h4 ht4))
   clear z1 zc zf x0 x1 x2
   go_upto_region 6 with fail
   obtain⟨w5,hw5⟩:∃W,W=w4.setCell ⟨g1,k,none⟩ (.bool (decide (0<y))):=⟨_,rfl⟩
   rw[←hw5];have HO5:=hid (show InO w5 w.heap.size g1 g2 g3 (xs.set k (decide (0<y))) F4 ys by rw[hw5];exact HO4.out.put1 k hlt _);have HX5:=hid (show Bx w5 gi _ by rw[hw5];exact HX4.out.setc g1 k _ (by omega));have HY5:=hid (show Bx w5 w.heap.size _ by rw[hw5];exact HY4.out.setc g1 k _ (by omega));have HRD5:=hid (show RdAt w5 r B bs (q+1) by rw[hw5];exact HRD4.out.setNew hrw (by omega) k _);have HT5:=hid (show Touch r w w5 by rw[hw5];exact(HT.out.trans HT4.out).setNew (by omega) _);have hxl5:=HX5.out.lt;have h3l5:=HO5.out.lt.2.2.2;clear hw5;obtain⟨x0,x1,x2⟩:=HX5.out.three.1
   go_region_held3 (fun w' => w'.cell? ⟨gi, 2, none⟩ = some (.slice (some ⟨g3, 0, none⟩) 3 3)) (first | exact z1 | (rw [World.cell?_setCell_far _ _ _ _ (by show g3 ≠ gi; omega)]; exact z1) | go_keep)
    (first|(go_at_call 82;(with_reducible refine(zB8 r B bs (q+1) n _ HRD5.out.drewd (by omega) h1 hn).mono ?_);rintro e w6 ⟨y2,rfl,hy20,hy21,h6,ht6⟩;have HT6:=hid (show Touch r w5 w6 from(Touch.refl r w5).drewd.trans ht6);have HX6:=hid (HX5.out.touch HT6.out (by omega));have z1:=HX6.out.three.1.2.2;have HO6:=hid (HO5.out.kept (w':=w6) fun k h1 h2=>HT6.out.block k h2 (by omega));have zc:=HO6.out.o3.cellB k (by rw[HO6.out.l3];omega);have zf:=HO6.out.o3.frozenAt k;have HY6:=hid (HY5.out.touch HT6.out (by omega));have HRD6:=hid h6;clear h6 ht6))
   clear z1 zc zf x0 x1 x2
   go_wp2_with fail
   go_roundw
   case rel=>exact⟨k+1,q+1+1,_,ys.set k (decide (0<y2)),by go_num,by omega,by omega,HRD6.out.setNew hrw (by omega) k _,HO6.out.put3 k hlt _,(HT5.out.trans HT6.out).setNew (by omega) _,HX6.out.setc g3 k _ (by omega),HY6.out.setc g3 k _ (by omega)⟩
   case measure=>simp[intOf];omega
  ·obtain rfl:k=3:=by omega
   have hq:q≤p+6:=by omega
   rw[show(((3:Nat)):Int)=(3:Int) from rfl]
   go_wp2_with fail
   go_loopw [7] (fun i wr=>∃(k q:Nat) (zs:List Bool),i=.int .i64 (k:Nat)∧k≤4∧q≤p+6+k∧RdAt wr r B bs q∧InO wr w.heap.size g1 g2 g3 xs zs ys∧Touch r w wr∧Bx wr gi [.slice (some ⟨g1,0,none⟩) 3 3,.slice (some ⟨g2,0,none⟩) 4 4,.slice (some ⟨g3,0,none⟩) 3 3]∧Bx wr w.heap.size [vnil,vnil,vnil]) (fun i _=>4 - (intOf i).toNat)
   case atStart=>exact⟨0,q,F4,by go_num,by omega,by omega,HRD.out,HO.out,HT.out,HX.out,HY.out⟩
   case round=>
    clear HX HY HO HT HRD hq hxl h3l;obtain⟨k,q,zs,rfl,hk,hq,hrd,ho,ht,hx,hy⟩:=hrel;have HO:=hid ho;have HT:=hid ht;have HX:=hid hx;have HY:=hid hy;have HRD:=hid hrd;have h3l:=ho.lt.2.2.2;have hxl:=hx.lt;clear ho ht hx hy hrd;by_cases hlt:k<4
    ·have hki:(k:Int)≤3:=by omega
     have hki4:(k:Int)<4:=by omega
     obtain⟨x0,x1,x2⟩:=HX.out.three.1
     go_upto_region 10 with fail
     go_region_held3 (fun w' => w'.cell? ⟨gi, 1, none⟩ = some (.slice (some ⟨g2, 0, none⟩) 4 4)) (first | exact z1 | (rw [World.cell?_setCell_far _ _ _ _ (by show g2 ≠ gi; omega)]; exact z1) | go_keep)
      (first|(go_at_call 82;(with_reducible refine(zB8 r B bs q n _ HRD.out.drewd (by omega) h1 hn).mono ?_);rintro e w4 ⟨y,rfl,hy0,hy1,h4,ht4⟩;have HT4:=hid (show Touch r wr w4 from(Touch.refl r wr).drewd.trans ht4);have HX4:=hid (HX.out.touch HT4.out (by omega));have z1:=HX4.out.three.1.2.1;have HO4:=hid (HO.out.kept (w':=w4) fun k h1 h2=>HT4.out.block k h2 (by omega));have zc:=HO4.out.o2.cellB k (by rw[HO4.out.l2];omega);have zf:=HO4.out.o2.frozenAt k;have HY4:=hid (HY.out.touch HT4.out (by omega));have HRD4:=hid h4;clear h4 ht4))
     clear z1 zc zf x0 x1 x2
     go_wp2_with fail
     go_roundw
     case rel=>exact⟨k+1,q+1,zs.set k (y==0),by go_num,by omega,by omega,HRD4.out.setNew hrw (by omega) k _,HO4.out.put2 k hlt _,(HT.out.trans HT4.out).setNew (by omega) _,HX4.out.setc g2 k _ (by omega),HY4.out.setc g2 k _ (by omega)⟩
     case measure=>simp[intOf];omega
    ·obtain rfl:k=4:=by omega
     obtain⟨x0,x1,x2⟩:=HX.out.three.1;obtain⟨⟨y0,y1,y2⟩,f0,f1,f2⟩:=HY.out.three;have hyl:=HY.out.lt
     go_wp2_with fail
     refine bodyPost_ret (zA5 Tryz.results84 _ _ ⟨w.heap.size,0,none⟩ (.agg #[.slice (some ⟨g1,0,none⟩) 3 3,.slice (some ⟨g2,0,none⟩) 4 4,.slice (some ⟨g3,0,none⟩) 3 3]) rfl (loadVar_in _ _ _ _ _ (by simp[go_sem, *]) (by simp[go_sem, *]) (by simp[go_sem, *]))) rfl ⟨_,_,_,xs,zs,ys,q,rfl,?_,by omega,?_,?_⟩
     ·refine HO.out.boxed (b:=w.heap.size) (fun k hk=>?_) (by omega);rw[Below.heap_setCell _ _ _ _ (by exact hk),Below.heap_setCell _ _ _ _ (by exact hk),Below.heap_setCell _ _ _ _ (by exact hk)]
     ·exact((HRD.out.setNew hrw (Nat.le_refl _) _ _).setNew hrw (Nat.le_refl _) _ _).setNew hrw (Nat.le_refl _) _ _
     ·exact((HT.out.setNew (Nat.le_refl _) _).setNew (Nat.le_refl _) _).setNew (Nat.le_refl _) _
end Go.Proofs.YtgkdoehkmbhfiaaGreat
namespace Go.Proofs.YtgkdoehkmbhfiaaGreat
open Go.RowKit
theorem bA {w w':World} {o:Obj} (h:Below w.heap.size w w'):Below w.heap.size w (w'.alloc o):=h.alloc h.size o
theorem bD {w w':World} (h:Below w.heap.size w w'):Below w.heap.size w w'.drew:=h.drew
theorem bR {w W W1:World} {g N n:Nat} {xs:List Value} (r:RepI W g N xs n W1) (h:Below w.heap.size w W):Below w.heap.size w W1:=h.trans (r.bel.mono h.size)
theorem mk4b (w:World):(Instr.makeSlice 43 (.int .i64 4) (.int .i64 4)).run Tryz.prog w=.ok (.slice (some ⟨w.heap.size,0,none⟩) 4 4) (w.alloc (.cells #[.bool false,.bool false,.bool false,.bool false] 4)):=by kernel_rfl
theorem bools_of {F:World} {g n:Nat} {v:Bool} (hg:g<F.heap.size) (hn:n≤4) (h:∀i,i<n→F.cell? ⟨g,i,none⟩=some (.bool v)):Bools F F.heap.size (.slice (some ⟨g,0,none⟩) n n) (List.replicate n v):=by
 refine⟨some ⟨g,0,none⟩,n,by simp,by simp,by omega,by simp only[List.length_map,List.length_replicate];omega,(fun h=>nomatch h),fun hn=>⟨g,0,rfl,hg,fun t ht j hj=>?_⟩⟩;have hj0:j=0:=by omega
 subst hj0;rw[List.length_map,List.length_replicate]at ht;rw[Nat.zero_add,Nat.mul_one,Nat.add_zero,h t ht];simp[List.getD,ht,rowB]
structure InG (w:World) (lo g1 g2 g3:Nat):Prop where
 b1:lo≤g1∧g1<w.heap.size
 b2:lo≤g2∧g2<w.heap.size
 b3:lo≤g3∧g3<w.heap.size
 c1:∀i,i<3→w.cell? ⟨g1,i,none⟩=some (.bool true)
 c2:∀i,i<4→w.cell? ⟨g2,i,none⟩=some (.bool false)
 c3:∀i,i<3→w.cell? ⟨g3,i,none⟩=some (.bool true)
theorem InG.inV {w:World} {lo g1 g2 g3:Nat} (h:InG w lo g1 g2 g3):InV w w.heap.size (.agg #[.slice (some ⟨g1,0,none⟩) 3 3,.slice (some ⟨g2,0,none⟩) 4 4,.slice (some ⟨g3,0,none⟩) 3 3]) inAll :=
 ⟨⟨some ⟨g1,0,none⟩,3,some ⟨g2,0,none⟩,4,some ⟨g3,0,none⟩,3,rfl,bools_of (n:=3) (v:=true) h.b1.2 (by omega) h.c1,bools_of (n:=4) (v:=false) h.b2.2 (by omega) h.c2,bools_of (n:=3) (v:=true) h.b3.2 (by omega) h.c3⟩,rfl,rfl,rfl⟩
def InAllG (w:World) (e:Ending) (w':World):Prop:=∃g1 g2 g3,e=.returned (.agg #[.slice (some ⟨g1,0,none⟩) 3 3,.slice (some ⟨g2,0,none⟩) 4 4,.slice (some ⟨g3,0,none⟩) 3 3])∧InG w' w.heap.size g1 g2 g3∧(∀i,i<4→w'.frozen? ⟨g2,i,none⟩=false)∧Below w.heap.size w w'
theorem inAll_done {w F W1 W3 W1' W3' : World} {g1 g2 g3 : Nat} (hb : Below w.heap.size w F) (h1 : RepI W1' g1 3 [.bool true] 3 W1) (l1 : g1 < W1.heap.size) (q1 : w.heap.size < g1) (b1 : Below W1.heap.size W1 F) (h3 : RepI W3' g3 3 [.bool true] 3 W3) (l3 : g3 < W3.heap.size) (q3 : w.heap.size < g3) (b3 : Below W3.heap.size W3 F)
  (q2:w.heap.size<g2) (l2:g2<F.heap.size) (r2:∀i,i<4→F.cell? ⟨g2,i,none⟩=some (.bool false)) (f2:∀i,i<4→F.frozen? ⟨g2,i,none⟩=false) (x y z:Value) :
  InAllG w (.returned (.agg #[.slice (some ⟨g1,0,none⟩) 3 3,.slice (some ⟨g2,0,none⟩) 4 4,.slice (some ⟨g3,0,none⟩) 3 3])) (((F.setCell ⟨w.heap.size,0,none⟩ x).setCell ⟨w.heap.size,1,none⟩ y).setCell ⟨w.heap.size,2,none⟩ z):=by
 have hb0:∀(g:Nat),w.heap.size<g→(((F.setCell ⟨w.heap.size,0,none⟩ x).setCell ⟨w.heap.size,1,none⟩ y).setCell ⟨w.heap.size,2,none⟩ z).heap[g]? = F.heap[g]?:=fun g hg=>by
  rw[Below.heap_setCell _ _ _ _ (show g≠w.heap.size by omega),Below.heap_setCell _ _ _ _ (show g≠w.heap.size by omega),Below.heap_setCell _ _ _ _ (show g≠w.heap.size by omega)]
 have hk:∀(g i:Nat),w.heap.size<g→(((F.setCell ⟨w.heap.size,0,none⟩ x).setCell ⟨w.heap.size,1,none⟩ y).setCell ⟨w.heap.size,2,none⟩ z).cell? ⟨g,i,none⟩=F.cell? ⟨g,i,none⟩:=fun g i hg=>by
  simp only[World.cell?,hb0 g hg]
 have hz:(((F.setCell ⟨w.heap.size,0,none⟩ x).setCell ⟨w.heap.size,1,none⟩ y).setCell ⟨w.heap.size,2,none⟩ z).heap.size=F.heap.size:=by simp
 have r1:∀i,i<3→F.cell? ⟨g1,i,none⟩=some (.bool true):=fun i hi=>by
  rw[b1.cell (p:=⟨g1,i,none⟩) l1];have:=h1.rws i hi 0 (by simp);simpa using this
 have r3:∀i,i<3→F.cell? ⟨g3,i,none⟩=some (.bool true):=fun i hi=>by
  rw[b3.cell (p:=⟨g3,i,none⟩) l3];have:=h3.rws i hi 0 (by simp);simpa using this
 refine⟨_,_,_,rfl,⟨⟨by omega,?_⟩,⟨by omega,?_⟩,⟨by omega,?_⟩,fun i hi=>?_,fun i hi=>?_,fun i hi=>?_⟩,fun i hi=>?_,?_⟩
 ·rw[hz];exact Nat.lt_of_lt_of_le l1 b1.size
 ·rw[hz];exact l2
 ·rw[hz];exact Nat.lt_of_lt_of_le l3 b3.size
 ·rw[hk _ _ q1];exact r1 i hi
 ·rw[hk _ _ q2];exact r2 i hi
 ·rw[hk _ _ q3];exact r3 i hi
 ·simp only[World.frozen?,hb0 g2 q2];exact f2 i hi
 ·exact((hb.setCell (p:=⟨w.heap.size,_,none⟩) (Nat.le_refl _) _).setCell (p:=⟨w.heap.size,_,none⟩) (Nat.le_refl _) _).setCell (p:=⟨w.heap.size,_,none⟩) (Nat.le_refl _) _
theorem three_alloc {w:World} {gb:Nat} {x y z:Value} {o:Obj} (h:gb<w.heap.size):(((w.setCell ⟨gb,0,none⟩ x).setCell ⟨gb,1,none⟩ y).setCell ⟨gb,2,none⟩ z).alloc o=(((w.alloc o).setCell ⟨gb,0,none⟩ x).setCell ⟨gb,1,none⟩ y).setCell ⟨gb,2,none⟩ z:=by
 simp[World.setCell_alloc_past,h]
theorem inAll_ret {Q : Ending → World → Prop} {F : World} {gb : Nat} (hX : Bx F gb [vnil, vnil, vnil]) (x y z : Value) {tmps : Array Value} (ha : tmps.getD 0 undef = .pointer (some ⟨gb, 0, none⟩)) (hp : Q (.returned (.agg #[x, y, z])) (((F.setCell ⟨gb, 0, none⟩ x).setCell ⟨gb, 1, none⟩ y).setCell ⟨gb, 2, none⟩ z)) :
  bodyPost Tryz.prog Tryz.f22 Q Exit.ret ⟨tmps,[]⟩ (((F.setCell ⟨gb,0,none⟩ x).setCell ⟨gb,1,none⟩ y).setCell ⟨gb,2,none⟩ z):=by
 have h3:Bx (((F.setCell ⟨gb,0,none⟩ x).setCell ⟨gb,1,none⟩ y).setCell ⟨gb,2,none⟩ z) gb [x,y,z]:=by
  have:=((hX.set 0 (by simp) x).set 1 (by simp) y).set 2 (by simp) z;simpa using this
 obtain⟨⟨q0,q1,q2⟩,_⟩:=h3.three;exact bodyPost_ret (zA5 Tryz.results22 _ _ ⟨gb,0,none⟩ (.agg #[x,y,z]) ha (loadVar_in _ _ _ _ _ q0 q1 q2)) rfl hp
theorem repeatB3 (b : Nat) (v : Bool) (w : World) (hb : b < w.heap.size) (hc0 : w.cell? ⟨b, 0, none⟩ = some (.bool v)) :
  Calls Tryz.prog 59 #[.slice (some ⟨b,0,none⟩) 1 1,.int .i64 3] w fun e w' => ∃g,e=.returned (.slice (some ⟨g,0,none⟩) 3 3)∧RepI w g 3 [.bool v] 3 w' ∧ w.heap.size≤g∧g<w'.heap.size:=repeatB_any 3 (by omega) b v w hb hc0
theorem litF {W w1 cur:World} {g N n b:Nat} {xs:List Value} (_:RepI W g N xs n w1) (h:Below W.heap.size W cur) (hlt:b<W.heap.size) {o:Nat} (hc:W.frozen? ⟨b,o,none⟩=false):cur.frozen? ⟨b,o,none⟩=false:=(h.frozen (p:=⟨b,o,none⟩) hlt).trans hc
theorem litK {W w1 cur:World} {g N n b:Nat} {xs:List Value} {v:Option Value} (_:RepI W g N xs n w1) (h:Below W.heap.size W cur) (hlt:b<W.heap.size) {o:Nat} (hc:W.cell? ⟨b,o,none⟩=v):cur.cell? ⟨b,o,none⟩=v:=(h.cell (p:=⟨b,o,none⟩) hlt).trans hc
attribute [local go_sem] mk4b
theorem implInAllG_any (w:World):Calls Tryz.prog 22 #[] w (InAllG w):=by
  go_enter Tryz.func22,Tryz.ntmps22
  go_upto_region 1 with fail
  obtain⟨w0,hw0⟩:∃W,W=w.alloc (.cells #[.slice none 0 0,.slice none 0 0,.slice none 0 0] 45):=⟨_,rfl⟩
  obtain⟨gb,hgb⟩:∃g,g=w.heap.size:=⟨_,rfl⟩
  have X0:=hid (show Bx w0 gb [vnil,vnil,vnil] by rw[hw0,hgb];exact Bx.new w #[vnil,vnil,vnil] 45 (by simp));have HB0:=hid (show Below w.heap.size w w0 by rw[hw0];exact(Below.refl _ _).alloc (Nat.le_refl _) _);have hz0:w0.heap.size=gb+1:=by rw[hw0,hgb];simp
  rw[←hw0,←hgb];have HGB:=hid hgb;clear hw0 hgb;obtain⟨⟨q0,q1,q2⟩,z0,z1,z2⟩:=X0.out.three;have hl:=X0.out.lt;have HZ0:=hid hz0;clear hz0
  go_region_with (first
    |(go_at_call 59;have _hh:=HRa.out;clear _hh;(with_reducible refine(repeatB3 _ true _ (by first|(simp[go_sem];done)|(have hs:=HRa.out.bel.size;simp[go_sem]at hs ⊢;omega)) (by first|(simp[go_sem];done)|(refine litK HRa.out ?_ ?_ ?_;(repeat(first|exact HRa.out.bel|refine bA ?_|refine bD ?_));all_goals (simp[go_sem])))).mono ?_);rintro e w1b ⟨g1b,rfl,hr1,hg1,hl1⟩;have hbv:Below w0.heap.size w0 w1b:=bR hr1 (by repeat(first|exact HBa.out|refine bA ?_|refine bD ?_));have HBb:=hid hbv;clear hbv q0 q1 q2 z0 z1 z2 hl;obtain⟨⟨q0,q1,q2⟩,z0,z1,z2⟩:=(X0.out.below HBb.out X0.out.lt).three;have hl:=(X0.out.below HBb.out X0.out.lt).lt;have HRb:=hid hr1;have HGb:=hid hg1;have HLb:=hid hl1;clear hr1 hg1 hl1)
    |(go_at_call 59;(with_reducible refine(repeatB3 _ true _ (by simp[go_sem]) (by simp[go_sem])).mono ?_);rintro e w1a ⟨g1a,rfl,hr1,hg1,hl1⟩;have hbv:Below w0.heap.size w0 w1a:=bR hr1 (by repeat(first|exact Below.refl _ _|refine bA ?_|refine bD ?_));have HBa:=hid hbv;clear hbv q0 q1 q2 z0 z1 z2 hl;obtain⟨⟨q0,q1,q2⟩,z0,z1,z2⟩:=(X0.out.below HBa.out X0.out.lt).three;have hl:=(X0.out.below HBa.out X0.out.lt).lt;have HRa:=hid hr1;have HGa:=hid hg1;have HLa:=hid hl1;clear hr1 hg1 hl1))
  all_goals
    go_wp2_with fail
    have sa:=HBa.out.size;have sb:=HBb.out.size;have ta:=HRa.out.bel.size;have tb:=HRb.out.bel.size;have ga:=HGa.out;have gc:=HGb.out;simp at ta tb ga gc
    try rw[three_alloc hl]
    refine inAll_ret ?_ _ _ _ ?_ ?_
    · refine X0.out.below (show Below w0.heap.size w0 _ from ?_) X0.out.lt
      repeat(first|exact HBb.out|refine bA ?_|refine bD ?_)
    · rfl
    rw[HGB.out];have hz0:=HZ0.out;have hgb:=HGB.out;refine inAll_done (HB0.out.trans ((show Below w0.heap.size w0 _ from ?_).mono HB0.out.size)) HRa.out HLa.out (by have:=HGB.out;omega) ?_ HRb.out HLb.out (by have:=HGB.out;omega) ?_ (by have:=HGB.out;omega) ?_ (fun i hi=>?_) (fun i hi=>?_) _ _ _
    · repeat(first|exact HBb.out|refine bA ?_|refine bD ?_)
    · repeat(first|exact Below.refl _ _|refine bA ?_|refine bD ?_|refine bR HRb.out ?_)
    · repeat(first|exact Below.refl _ _|refine bA ?_|refine bD ?_)
    · first
        |omega
        |(simp;done)
        |(simp;omega)
    · clear hz0 hgb
      obtain rfl|rfl|rfl|rfl:i=0∨i=1∨i=2∨i=3:=by omega
      all_goals first
        |(simp[go_sem];done)
        | (refine litK HRb.out ?_ ?_ ?_
           · repeat(first|exact HRb.out.bel|refine bA ?_|refine bD ?_)
           · have hz0 := HZ0.out
             have hgb:=HGB.out
             first
               |omega
               |(simp;done)
               |(simp;omega)
           · first
               |(simp[go_sem];done)
               | (refine litK HRa.out ?_ ?_ ?_
                  · repeat(first|exact HRa.out.bel|refine bA ?_|refine bD ?_)
                  · have hz0 := HZ0.out
                    have hgb:=HGB.out
                    first
                      |omega
                      |(simp;done)
                      |(simp;omega)
                  · simp[go_sem]))
    · clear hz0 hgb
      obtain rfl|rfl|rfl|rfl:i=0∨i=1∨i=2∨i=3:=by omega
      all_goals first
        |(simp[go_sem];done)
        | (refine litF HRb.out ?_ ?_ ?_
           · repeat(first|exact HRb.out.bel|refine bA ?_|refine bD ?_)
           · have hz0 := HZ0.out
             have hgb:=HGB.out
             first
               |omega
               |(simp;done)
               |(simp;omega)
           · first
               |(simp[go_sem];done)
               | (refine litF HRa.out ?_ ?_ ?_
                  · repeat(first|exact HRa.out.bel|refine bA ?_|refine bD ?_)
                  · have hz0 := HZ0.out
                    have hgb:=HGB.out
                    first
                      |omega
                      |(simp;done)
                      |(simp;omega)
                  · simp[go_sem]))
end Go.Proofs.YtgkdoehkmbhfiaaGreat
namespace Go.Proofs.YtgkdoehkmbhfiaaGreat
open Go.RowKit
abbrev InX:=Inp×Nat×Nat×Nat
def rowX (x:InX):List Value:=[.slice (some ⟨x.2.1,0,none⟩) 3 3,.slice (some ⟨x.2.2.1,0,none⟩) 4 4,.slice (some ⟨x.2.2.2,0,none⟩) 3 3]
theorem rowX_len (x:InX):(rowX x).length=3:=rfl
theorem rowX_one (x:InX):∀u∈rowX x,u.oneCell' = true:=by
 intro u hu;simp only[rowX,List.mem_cons,List.not_mem_nil,or_false]at hu;rcases hu with rfl|rfl|rfl <;> rfl
theorem elem_in:Elem 28 45 3 72:=zF7 Tryz.underlying28 (z:=.agg #[.slice none 0 0,.slice none 0 0,.slice none 0 0]) (by kernel_rfl) rfl (by omega)
def InQ (w:World) (lo:Nat) (x:InX):Prop:=InO w lo x.2.1 x.2.2.1 x.2.2.2 x.1.ready x.1.stall x.1.send
theorem InQ.kept {w w':World} {lo:Nat} {x:InX} (h:InQ w lo x) (hk:∀k,lo≤k→k<w.heap.size→w'.heap[k]? = w.heap[k]?):InQ w' lo x:=InO.kept h hk
theorem InQ.rebase {w:World} {lo lo':Nat} {x:InX} (h:InQ w lo x) (hl:lo' ≤ lo):InQ w lo' x:=⟨h.o1.rebase hl,h.o2.rebase hl,h.o3.rebase hl,h.l1,h.l2,h.l3,h.n12,h.n23⟩
theorem InQ.push {w w':World} {lo lo':Nat} {v:Value} {xs:List InX} {x:InX} (h:InQ w lo x) (ho:Owns w lo' 45 3 rowX v xs) (hk:∀b,b<w.heap.size→v.ownBlock≠some b→w'.heap[b]? = w.heap[b]?):InQ w' lo x:=by
 have key:∀{u:Value} {ys:List Bool},Owns w lo 4 1 rowB u ys→Owns w' lo 4 1 rowB u ys:=fun hu=>OwnR.kept hu fun j hj=>hk j (OwnR.lt hu j hj).2 (fun e=>Owns.apartT hu ho (by decide) j hj e)
 exact⟨key h.o1,key h.o2,key h.o3,h.l1,h.l2,h.l3,h.n12,h.n23⟩
theorem InQ.inV {w:World} {lo:Nat} {x:InX} (h:InQ w lo x):InV w w.heap.size (.agg #[.slice (some ⟨x.2.1,0,none⟩) 3 3,.slice (some ⟨x.2.2.1,0,none⟩) 4 4,.slice (some ⟨x.2.2.2,0,none⟩) 3 3]) x.1:=by
 have h1:=h.o1.arr zI7 (by rw[h.l1];omega);have h2:=h.o2.arr zI7 (by rw[h.l2];omega);have h3:=h.o3.arr zI7 (by rw[h.l3];omega);refine⟨⟨some ⟨x.2.1,0,none⟩,3,some ⟨x.2.2.1,0,none⟩,4,some ⟨x.2.2.2,0,none⟩,3,by rw[h.l1,h.l2,h.l3],?_,?_,?_⟩,h.l1,h.l2,h.l3⟩
 ·rw[h.l1];exact h1
 ·rw[h.l2];exact h2
 ·rw[h.l3];exact h3
theorem ins_of {w:World} {lo lo':Nat} {v:Value} {xs:List InX} (ho:Owns w lo' 45 3 rowX v xs) (hx:∀x∈xs,InQ w lo x) (hl:xs.length≤1000000):Ins w w.heap.size v (xs.map (·.1)):=by
 refine⟨xs.map fun x=>.agg #[.slice (some ⟨x.2.1,0,none⟩) 3 3,.slice (some ⟨x.2.2.1,0,none⟩) 4 4,.slice (some ⟨x.2.2.2,0,none⟩) 3 3],?_,by simp,fun k hk d=>?_⟩
 ·rw[List.map_map];exact ho.arr rowX_len (by omega)
 ·simp only[List.length_map]at hk;have e:=(hx _ (List.getElem_mem hk)).inV;simpa[List.getD,hk]using e
def InsDr (r B:Nat) (bs:List Nat) (p:Nat) (w:World) (e:Ending) (w':World):Prop :=
 ∃v xs q,e=.returned v∧Owns w' w.heap.size 45 3 rowX v xs∧(∀x∈xs,InQ w' w.heap.size x)∧xs.length≤89∧q≤p+1000∧RdAt w' r B bs q∧Touch r w w'
set_option maxRecDepth 4000 in
theorem l20Ins_any (r B : Nat) (bs : List Nat) (p : Nat) (w : World) (h : RdAt w r B bs p) (hp : p ≤ 800000000) :
  Calls Tryz.prog 44 #[.pointer (some ⟨r,0,none⟩),.int .i64 90] w (InsDr r B bs p w):=by
 have hrw:=h.lt;have HR0:=hid (h.alloc (.cells #[] 45));clear h
 go_enter Tryz.func44,Tryz.ntmps44
 go_upto_region 2 with fail
 obtain⟨w1,hw1⟩:∃W,W=w.alloc (.cells #[] 45):=⟨_,rfl⟩
 have HO1:=hid (show Owns w1 w.heap.size 45 3 rowX (.slice (some ⟨w.heap.size,0,none⟩) 0 0) [] by rw[hw1];exact Owns.lit (Nat.le_refl _));have hb1:Below w.heap.size w w1:=by rw[hw1];exact(Below.refl _ _).alloc (Nat.le_refl _) _
 have hz1:w1.heap.size=w.heap.size+1:=by rw[hw1];simp
 rw[←hw1]at HR0 ⊢;have HB1:=hid hb1;clear hw1 hb1
 go_wp2_with (first
  |(go_at_call 82;(with_reducible refine(zB8 r B bs p 4 _ (HR0.out.alloc _) (by omega) (by omega) (by omega)).mono ?_);rintro e w2 ⟨z', rfl,z0,z1,h2,ht2⟩;obtain⟨z,rfl⟩:=Int.eq_ofNat_of_zero_le z0;have hz:z<4:=(by omega);obtain⟨y,hl1,hy⟩:=tab4 2 3 5 20 hz;have hl2:=zF1 hl1;clear hl1 hz z0;have tB:=Touch.tab ht2 (by omega) z _ hl2;rw[hz1]at tB;have HT2:=hid (((Touch.of_below HB1.out (Nat.le_refl _)).alloc _).trans ht2);have HR2:=hid h2;have hs2:=HT2.out.size;have HO2:=hid (((HO1.out).allocd (.cells #[.int .i64 2,.int .i64 3,.int .i64 5,.int .i64 20] 3)).touch ht2 hrw);clear h2 ht2 hl2)
  |(go_at_call 82;(with_reducible refine(zB8 r B bs (p+1) 90 _ HR2.out (by omega) (by omega) (by omega)).mono ?_);rintro e w3 ⟨m', rfl,m0,m1,h3,ht3⟩;obtain⟨m,rfl⟩:=Int.eq_ofNat_of_zero_le m0;have HT3:=hid (HT2.out.trans ht3);have HR3:=hid h3;have HO3:=hid (HO2.out.touch ht3 hrw);clear h3 ht3 tB m0))
 have hy1:1≤y:=by omega
 have hy2:y≤1099511627776:=by omega
 have hm:m≤89:=by omega
 clear hy hz1
 go_loopw [5,7] (fun v i wr=>∃(k q:Nat) (xs:List InX),i=.int .i64 (k:Nat)∧k+xs.length=m∧q≤p+2+10 * xs.length∧RdAt wr r B bs q∧Owns wr w.heap.size 45 3 rowX v xs∧(∀x∈xs,InQ wr w.heap.size x)∧Touch r w wr) (fun _ i _=>(intOf i).toNat)
 case atStart=>exact⟨m,p+1+1,[],rfl,by simp,by simp,HR3.out,HO3.out,(fun x hx=>by cases hx),HT3.out⟩
 case round=>
  clear HR3 HO3 HT3 HO2 HT2 HR2 HO1 HR0 HB1;obtain⟨k,q,xs,rfl,hk,hq,hrd,ho,hxs,ht⟩:=hrel;have HO:=hid ho;have HT:=hid ht;have HRD:=hid hrd;have HXS:=hid hxs;have hxl:xs.length≤89:=by omega
  have hwr:w.heap.size≤wr.heap.size:=ht.size;have HXL:=hid hxl;have HK:=hid hk;clear ho ht hrd hxs;by_cases hlt:0<k
  ·have hki:(0:Int)<(k:Int):=by omega
   have hk89:k≤89:=by omega
   clear hxl hk
   go_wp2_with (first
    |(go_at_call 84;(with_reducible refine(l20In_any r B bs q y _ HRD.out (by have:=HXL.out;omega) hy1 hy2).mono ?_);rintro e w4 ⟨g1,g2,g3,ra,za,sa,q4,rfl,ho4,hq4,h4,ht4⟩;have HO4:=hid (HO.out.touch ht4 hrw);have HXS4:=hid (fun x hx=>(HXS.out x hx).kept (w':=w4) fun k h1 h2=>ht4.block k h2 (by omega));have HT4:=hid (HT.out.trans ht4);have HIN:=hid (show InQ w4 w.heap.size (⟨ra,za,sa⟩,g1,g2,g3) from InQ.rebase ho4 hwr);have HR4:=hid h4;have HQ4:=hid hq4;have hs4:=ht4.size;clear ho4 hq4 h4 ht4)
    |(at_builtin;go_must (refine zB9 elem_in rowX rowX_len ((⟨ra,za,sa⟩,g1,g2,g3):InX) (rowX_one _) w4 rfl _ _ rfl w.heap.size _ xs (by rfl) HO4.out _ (by rfl) (by rfl) (by have:=HXL.out;omega) (by have:=HXL.out;omega) (by omega) ?_);intro v' w5 ho5 hz5 hk5 hv5 hb5;have HO5:=hid ho5;have HIN5:=hid (HIN.out.push HO4.out hk5);have HXS5:=hid (fun x hx=>(HXS4.out x hx).push HO4.out hk5);have HT5:=hid (HT4.out.bel hb5 (Nat.le_refl _));have HR5:=hid (HR4.out.kept hb5 hrw);clear ho5 hz5 hk5 hv5 hb5))
   go_roundw
   case rel => exact ⟨k - 1, q4, xs ++ [(⟨ra, za, sa⟩, g1, g2, g3)], by congr 1; omega, by have := HK.out; simp; omega, by have := HQ4.out; simp; omega, HR5.out, HO5.out, fun x hx => by
    rcases List.mem_append.1 hx with hx|hx
    ·exact HXS5.out x hx
    ·rw[List.mem_singleton.1 hx];exact HIN5.out,HT5.out⟩
   case measure=>simp[intOf];omega
  ·obtain rfl:k=0:=by omega
   go_wp2_with fail
   go_ret
   exact⟨_,xs,q,rfl,HO.out,HXS.out,HXL.out,by omega,HRD.out,HT.out⟩
end Go.Proofs.YtgkdoehkmbhfiaaGreat
namespace Go.Proofs.YtgkdoehkmbhfiaaGreat
variable {c : Cfg} {who s : Nat}
theorem getD_all {w:Nat} (hw:w<3):([true,true,true]:List Bool).getD w false=true:=by
 obtain rfl|rfl|rfl:w=0∨w=1∨w=2:=by omega
 all_goals rfl
theorem getD_none {s:Nat} (hs:s<4):([false,false,false,false]:List Bool).getD s false=false:=by
 obtain rfl|rfl|rfl|rfl:s=0∨s=1∨s=2∨s=3:=by omega
 all_goals rfl
end Go.Proofs.YtgkdoehkmbhfiaaGreat
namespace Go.Proofs.YtgkdoehkmbhfiaaGreat
def WkOk (c:Cfg) (inp:Inp) (st:Cy) (e:Ev):Prop :=
 e.kind=2∧e.who<3∧e.n<(c.prog e.who).length∧c.slv e.who e.n<4∧inp.stall.getD (c.slv e.who e.n) false=false∧∃rest,(st.slaves (c.slv e.who e.n)).pipe=⟨e.who,e.n,0⟩::rest
structure WkI (c:Cfg) (inp:Inp) (st:Cy) (l:List Ev) (x:Cy×List Ev) (k:Nat):Prop where
 g:Good c x.1
 ev:∃es,x.2=l++es∧(∀e∈es,WkOk c inp st e∧c.slv e.who e.n<k)∧es.Pairwise (fun a b=>c.slv a.who a.n<c.slv b.who b.n)
 pipe:∀s,k≤s→(x.1.slaves s).pipe=(st.slaves s).pipe
theorem WkI.skip {c:Cfg} {inp:Inp} {st:Cy} {l:List Ev} {x:Cy×List Ev} {k:Nat} (h:WkI c inp st l x k):WkI c inp st l x (k+1):=by
 obtain⟨es,h1,h2,h3⟩:=h.ev;exact⟨h.g,⟨es,h1,fun e he=>⟨(h2 e he).1,by have:=(h2 e he).2;omega⟩,h3⟩,fun s hs=>h.pipe s (by omega)⟩
theorem Good.slvKey {c:Cfg} {st:Cy} (h:Good c st) {s w n:Nat} (hs:s<4) (hk:(w,n)∈zA7 (st.slaves s)):c.slv w n=s:=by
 obtain⟨hw,o,ho,rfl,hl⟩:=h.key hs hk;rw[←hl];exact((h.p w hw).o o ho).2.1.symm
theorem wkI_step {c:Cfg} (hb:Bus c) {inp:Inp} {st:Cy} {l:List Ev} {x:Cy×List Ev} {k:Nat} (hk:k<4) (h:WkI c inp st l x k):WkI c inp st l (work1 c inp k x) (k+1):=by
 have hg:=good_work1 hb (inp:=inp) h.g hk;obtain⟨es,h1,h2,h3⟩:=h.ev;unfold work1 at hg ⊢
 split
 ·exact h.skip
 ·rename_i hst
  split
  ·exact h.skip
  ·rename_i j rest hp;rw[if_neg hst]at hg;simp only[hp]at hg
   split
   ·rename_i hl;rw[if_pos hl]at hg;refine⟨hg,⟨es,h1,fun e he=>⟨(h2 e he).1,by have:=(h2 e he).2;omega⟩,h3⟩,fun s hs=>?_⟩;simp only[zD8];rw[zA0 _ _ (show s≠k by omega)];exact h.pipe s (by omega)
   ·rename_i hl;rw[if_neg hl]at hg
    split
    ·rename_i hd;rw[if_pos hd]at hg;have hin:(j.who,j.n)∈zA7 (x.1.slaves k):=by simp[zA7,hp]
     have hw:=(h.g.key hk hin).1;have hn:=h.g.keyN hk hin;have hs:=h.g.slvKey hk hin;have hj0:j.left=0:=by omega
     refine⟨hg,⟨es++[⟨2,j.who,j.n⟩],by simp[zD4,h1],fun e he=>?_,?_⟩,fun s hs2=>?_⟩
     ·rcases List.mem_append.1 he with he|he
      ·exact⟨(h2 e he).1,by have:=(h2 e he).2;omega⟩
      ·rw[List.mem_singleton.1 he];refine⟨⟨rfl,hw,hn,by simp only;omega,by simp only;rw[hs];simpa using hst,rest,?_⟩,by simp only;omega⟩;simp only;rw[hs,←h.pipe k (Nat.le_refl _),hp,←hj0]
     ·rw[List.pairwise_append];refine⟨h3,List.pairwise_singleton _ _,fun a ha b hb2=>?_⟩;rw[List.mem_singleton.1 hb2];have:=(h2 a ha).2;simp only;omega
     ·simp only[zD4];rw[zA0 _ _ (show s≠k by omega)];exact h.pipe s (by omega)
    ·exact h.skip
theorem tell1_pipe {inp:Inp} {x:Cy×List Ev} {w:Nat} (s:Nat):((tell1 inp w x).1.slaves s).pipe=(x.1.slaves s).pipe:=by
 unfold tell1
 split
 ·split
  ·rfl
  ·rename_i k hk
   split
   ·rfl
   ·simp only[zC5];by_cases hs:s=((x.1.ports w).last+k) % 4
    ·rw[hs,zA1]
    ·rw[zA0 _ _ hs]
 ·rfl
theorem tell1_kind {inp:Inp} {x:Cy×List Ev} {w:Nat} (h:∀e∈x.2,e.kind=3):∀e∈(tell1 inp w x).2,e.kind=3:=by
 unfold tell1
 split
 ·split
  ·exact h
  ·split
   ·exact h
   ·intro e he;rcases List.mem_append.1 he with he|he
    ·exact h e he
    ·rw[List.mem_singleton.1 he]
 ·exact h
theorem ask1_ev {c:Cfg} {inp:Inp} {l:List Ev} {x:Cy×List Ev} {w:Nat} (h:∃a,x.2=l++a∧∀e∈a,e.kind=1):∃a,(ask1 c inp w x).2=l++a∧∀e∈a,e.kind=1:=by
 obtain⟨a,h1,h2⟩:=h;unfold ask1
 split
 ·refine⟨a++[⟨1,w,(x.1.ports w).next⟩],by simp[askDo,h1],fun e he=>?_⟩;rcases List.mem_append.1 he with he|he
  ·exact h2 e he
  ·rw[List.mem_singleton.1 he]
 ·exact⟨a,h1,h2⟩
theorem evs_law {c:Cfg} (hb:Bus c) {inp:Inp} {st:Cy} (hg:Good c st):∃t es a,evs c inp st=t++es++a∧(∀e∈t,e.kind=3)∧(∀e∈a,e.kind=1)∧(∀e∈es,WkOk c inp st e)∧es.Pairwise (fun a b=>c.slv a.who a.n<c.slv b.who b.n):=by
 have h1:Good c (zB0 inp (st,[])).1∧(∀s,((zB0 inp (st,[])).1.slaves s).pipe=(st.slaves s).pipe)∧∀e∈(zB0 inp (st,[])).2,e.kind=3:=by
  refine zB1 (P:=fun x:Cy×List Ev=>Good c x.1∧(∀s,(x.1.slaves s).pipe=(st.slaves s).pipe)∧∀e∈x.2,e.kind=3) 3 (st,[]) ⟨hg,fun _=>rfl,fun e he=>by cases he⟩ ?_;intro i x hi hx;exact⟨zH6 hx.1 hi,fun s=>(tell1_pipe s).trans (hx.2.1 s),tell1_kind hx.2.2⟩
 obtain⟨x1,hx1⟩:∃x,x=zB0 inp (st,[]):=⟨_,rfl⟩
 rw[←hx1]at h1;have h2:WkI c inp st x1.2 (zA8 c inp x1) 4 :=
  wkI_step hb (k:=3) (by omega) (wkI_step hb (k:=2) (by omega) (wkI_step hb (k:=1) (by omega) (wkI_step hb (k:=0) (x:=x1) (by omega) ⟨h1.1,⟨[],by simp,by simp,List.Pairwise.nil⟩,fun s _=>h1.2.1 s⟩)))
 obtain⟨es,e1,e2,e3⟩:=h2.ev;have h3:∃a,(zE4 c inp ((zC4 c (zA8 c inp x1).1).st,(zA8 c inp x1).2)).2=(zA8 c inp x1).2++a∧∀e∈a,e.kind=1 :=
  zB1 (P:=fun x:Cy×List Ev=>∃a,x.2=(zA8 c inp x1).2++a∧∀e∈a,e.kind=1) 3 ((zC4 c (zA8 c inp x1).1).st,(zA8 c inp x1).2) ⟨[],by simp,by simp⟩ fun _ _ _ hx=>ask1_ev hx
 obtain⟨a,a1,a2⟩:=h3;refine⟨x1.2,es,a,?_,h1.2.2,a2,fun e he=>(e2 e he).1,e3⟩;rw[←e1,←a1,hx1];rfl
def doneN (c:Cfg) (s:Nat) (l:List Ev):Nat:=(l.filter (fun e=>e.kind==2&&c.slv e.who e.n==s)).length
theorem doneN_app (c:Cfg) (s:Nat) (a b:List Ev):doneN c s (a++b)=doneN c s a+doneN c s b:=by simp[doneN]
theorem doneN_no {c:Cfg} {s:Nat} {l:List Ev} (h:∀e∈l,¬(e.kind=2∧c.slv e.who e.n=s)):doneN c s l=0:=by
 unfold doneN;rw[List.length_eq_zero_iff,List.filter_eq_nil_iff];intro e he;simpa using h e he
def sum3 (f:Nat→Nat):Nat:=f 0+f 1+f 2
def cntS4 (f:Nat→Nat):Nat:=f 0+f 1+f 2+f 3
theorem sum3_upd {α:Type} (f:Nat→α) (g:α→Nat) {i:Nat} (hi:i<3) (x:α):sum3 (fun w=>g (upd f i x w))+g (f i)=sum3 (fun w=>g (f w))+g x:=by
 obtain rfl|rfl|rfl:i=0∨i=1∨i=2:=by omega
 all_goals
  simp only[sum3,upd];simp only[if_pos,if_neg,reduceCtorEq,Nat.reduceEqDiff,↓reduceIte];omega
theorem zH0 {α:Type} (f:Nat→α) (g:α→Nat) {i:Nat} (hi:i<4) (x:α):cntS4 (fun w=>g (upd f i x w))+g (f i)=cntS4 (fun w=>g (f w))+g x:=by
 obtain rfl|rfl|rfl|rfl:i=0∨i=1∨i=2∨i=3:=by omega
 all_goals
  simp only[cntS4,upd];simp only[if_pos,if_neg,reduceCtorEq,Nat.reduceEqDiff,↓reduceIte];omega
def outs (st:Cy):Nat:=sum3 fun w=>(st.ports w).out.length
def doneW (st:Cy):Nat:=cntS4 fun s=>(st.slaves s).done.length
def evN (k w:Nat) (l:List Ev):Nat:=(l.filter (fun e=>e.kind==k&&e.who==w)).length
def dosN (l:List Ev):Nat:=(l.filter (fun e=>e.kind==2)).length
theorem zJ1 (k w:Nat) (l:List Ev) (e:Ev):evN k w (l++[e])=evN k w l+(if e.kind=k∧e.who=w then 1 else 0):=by
 unfold evN;rw[List.filter_append,List.length_append];by_cases h:e.kind=k∧e.who=w
 ·simp[h.1,h.2]
 ·rw[if_neg h,List.filter_cons_of_neg (by simpa using h)];simp
theorem dosN_snoc (l:List Ev) (e:Ev):dosN (l++[e])=dosN l+(if e.kind=2 then 1 else 0):=by
 unfold dosN;rw[List.filter_append,List.length_append];by_cases h:e.kind=2
 ·simp[h]
 ·rw[if_neg h,List.filter_cons_of_neg (by simpa using h)];simp
theorem cntW_snoc (w:Nat) (l:List TJ) (j:TJ):cntW w (l++[j])=cntW w l+(if j.who=w then 1 else 0):=by
 unfold cntW;rw[List.filter_append,List.length_append];by_cases h:j.who=w
 ·simp[h]
 ·rw[if_neg h,List.filter_cons_of_neg (by simpa using h)];simp
structure Tally (st0:Cy) (x:Cy×List Ev) (L:Nat):Prop where
 nx:∀w,(x.1.ports w).next=(st0.ports w).next+evN 1 w x.2
 tl:∀w,cntW w x.1.told=cntW w st0.told+evN 3 w x.2
 ou:x.1.told.length+outs x.1=st0.told.length+outs st0+L
 dn:x.1.told.length+doneW x.1=st0.told.length+doneW st0+dosN x.2
theorem tally_tell1 {c:Cfg} {inp:Inp} {st0:Cy} {x:Cy×List Ev} {L w:Nat} (hw:w<3) (h:Good c x.1) (t:Tally st0 x L):Tally st0 (tell1 inp w x) L:=by
 unfold tell1
 split
 ·split
  ·exact t
  ·rename_i k hk;obtain⟨_,_,hmm⟩:=zG1 hk
   split
   ·exact t
   ·rename_i j rest hd;have hj:j.who=w:=by
     unfold tellM at hmm;rw[hd]at hmm;simpa using hmm
    obtain⟨s,hs⟩:∃s,s=((x.1.ports w).last+k) % 4:=⟨_,rfl⟩
    have hs4:s<4:=by omega
    rw[←hs]at hd ⊢;obtain⟨_,o,ho,hon,_⟩:=h.key (s:=s) (w:=j.who) (n:=j.n) hs4 (by simp[zA7,hd]);rw[hj]at ho;have he:((x.1.ports w).out.eraseP (fun o=>o.n==j.n)).length+1=(x.1.ports w).out.length:=by
     have h1:=List.length_eraseP_of_mem (p:=fun o:Jb=>o.n==j.n) ho (by simp[hon]);have h2:0<(x.1.ports w).out.length:=List.length_pos_of_mem ho;omega
    refine⟨fun v=>?_,fun v=>?_,?_,?_⟩
    ·simp only[zC5];rw[zJ1,if_neg (by simp),Nat.add_zero,←t.nx v];by_cases hv:v=w
     ·rw[hv,zA1]
     ·rw[zA0 _ _ hv]
    ·simp only[zC5];rw[zJ1,cntW_snoc,t.tl v,hj];simp only[true_and];omega
    ·have:=t.ou;have h3:=sum3_upd x.1.ports (fun p=>p.out.length) hw { x.1.ports w with out:=(x.1.ports w).out.eraseP (fun o=>o.n==j.n),last:=s };simp only[zC5,outs,List.length_append,List.length_singleton]at this h3 ⊢;omega
    ·have:=t.dn;have h3:=zH0 x.1.slaves (fun p=>p.done.length) hs4 { x.1.slaves s with done:=rest };simp only[hd,List.length_cons]at h3;simp only[zC5,doneW,List.length_append,List.length_singleton,dosN_snoc]at this h3 ⊢;rw[if_neg (by simp)];omega
 ·exact t
theorem tally_work1 {c:Cfg} {inp:Inp} {st0:Cy} {x:Cy×List Ev} {L s:Nat} (hs:s<4) (t:Tally st0 x L):Tally st0 (work1 c inp s x) L:=by
 unfold work1
 split
 ·exact t
 ·split
  ·exact t
  ·rename_i j rest hp
   split
   ·refine⟨t.nx,t.tl,t.ou,?_⟩;have:=t.dn;have h3:=zH0 x.1.slaves (fun p=>p.done.length) hs { x.1.slaves s with pipe:=⟨j.who,j.n,j.left - 1⟩::rest };simp only[zD8,doneW]at this h3 ⊢;omega
   ·split
    ·refine⟨fun v=>?_,fun v=>?_,t.ou,?_⟩
     ·simp only[zD4];rw[zJ1,if_neg (by simp),Nat.add_zero];exact t.nx v
     ·simp only[zD4];rw[zJ1,if_neg (by simp),Nat.add_zero];exact t.tl v
     ·have:=t.dn;have h3:=zH0 x.1.slaves (fun p=>p.done.length) hs { x.1.slaves s with pipe:=rest,done:=(x.1.slaves s).done++[⟨j.who,j.n,(doReq c.ms x.1.ws x.1.hs j.who (c.req j.who j.n)).2.2⟩] };simp only[List.length_append,List.length_singleton]at h3;simp only[zD4,doneW,dosN_snoc,if_pos]at this h3 ⊢;omega
    ·exact t
structure TallyL (st0:Cy) (l:List Ev) (y:Lt) (k:Nat):Prop where
 t:Tally st0 (y.st,l) (cntS4 y.lets)
 z:∀s,k≤s→y.lets s=0
 o:∀s,y.lets s≤1
theorem TallyL.skip {st0:Cy} {l:List Ev} {y:Lt} {k:Nat} (h:TallyL st0 l y k):TallyL st0 l y (k+1):=⟨h.t,fun s hs=>h.z s (by omega),h.o⟩
theorem tally_let1 {c:Cfg} {st0:Cy} {l:List Ev} {y:Lt} {k:Nat} (hk:k<4) (h:TallyL st0 l y k):TallyL st0 l (let1 c k y) (k+1):=by
 unfold let1
 split
 ·split
  ·exact h.skip
  ·rename_i m hm
   split
   ·exact h.skip
   ·rename_i n rest hq;obtain⟨w,hw⟩:∃s,s=((y.st.slaves k).last+m) % 3:=⟨_,rfl⟩
    have hw3:w<3:=by omega
    rw[←hw]at hq ⊢;refine⟨⟨fun v=>?_,h.t.tl,?_,?_⟩,fun s hs=>?_,fun s=>?_⟩
    ·rw[←h.t.nx v];simp only[letDo];by_cases hv:v=w
     ·rw[hv,zA1]
     ·rw[zA0 _ _ hv]
    ·have:=h.t.ou;have h3:=sum3_upd y.st.ports (fun p=>p.out.length) hw3 { y.st.ports w with queue:=rest,out:=(y.st.ports w).out++[⟨w,n,k⟩] };have h4:=zH0 y.lets id hk 1;have h5:=h.z k (Nat.le_refl _);simp only[id,List.length_append,List.length_singleton]at h3 h4;simp only[letDo,outs]at this h3 ⊢;have h6:cntS4 (upd y.lets k 1)=cntS4 (fun w=>upd y.lets k 1 w):=rfl;have h7:cntS4 y.lets=cntS4 (fun w=>y.lets w):=rfl;omega
    ·have:=h.t.dn;have h3:=zH0 y.st.slaves (fun p=>p.done.length) hk { y.st.slaves k with pipe:=(y.st.slaves k).pipe++[⟨w,n,c.lt k⟩],last:=w };simp only[letDo,doneW]at this h3 ⊢;omega
    ·simp only[letDo];rw[zA0 _ _ (show s≠k by omega)];exact h.z s (by omega)
    ·simp only[letDo];by_cases hs:s=k
     ·rw[hs,zA1];exact Nat.le_refl _
     ·rw[zA0 _ _ hs];exact h.o s
 ·exact h.skip
theorem tally_ask1 {c:Cfg} {inp:Inp} {st0:Cy} {x:Cy×List Ev} {L w:Nat} (hw:w<3) (t:Tally st0 x L):Tally st0 (ask1 c inp w x) L:=by
 unfold ask1
 split
 ·refine⟨fun v=>?_,fun v=>?_,?_,?_⟩
  ·simp only[askDo];rw[zJ1];have:=t.nx v;by_cases hv:v=w
   ·subst hv;rw[zA1];simp only[and_self,if_pos];omega
   ·rw[zA0 _ _ hv,if_neg (by simp;omega)];exact this
  ·simp only[askDo];rw[zJ1,if_neg (by simp),Nat.add_zero];exact t.tl v
  ·have:=t.ou;have h3:=sum3_upd x.1.ports (fun p=>p.out.length) hw { x.1.ports w with queue:=(x.1.ports w).queue++[(x.1.ports w).next],next:=(x.1.ports w).next+1 };simp only[askDo,outs]at this h3 ⊢;omega
  ·have:=t.dn;simp only[askDo,dosN_snoc]at this ⊢;rw[if_neg (by simp)];exact this
 ·exact t
theorem tally_zero (st:Cy):Tally st (st,[]) 0:=⟨fun _=>rfl,fun _=>rfl,rfl,rfl⟩
theorem tally_step {c:Cfg} (hb:Bus c) {inp:Inp} {st:Cy} (hg:Good c st):Tally st (cyc c inp st,evs c inp st) (cntS4 (lets c inp st))∧∀s,lets c inp st s≤1:=by
 have h1:Good c (zB0 inp (st,[])).1∧Tally st (zB0 inp (st,[])) 0 :=
  zB1 (P:=fun x:Cy×List Ev=>Good c x.1∧Tally st x 0) 3 (st,[]) ⟨hg,tally_zero st⟩ fun i x hi hx=>⟨zH6 hx.1 hi,tally_tell1 hi hx.1 hx.2⟩
 obtain⟨x1,hx1⟩:∃x,x=zB0 inp (st,[]):=⟨_,rfl⟩
 rw[←hx1]at h1;have h2:Tally st (zA8 c inp x1) 0:=zB1 (P:=fun x:Cy×List Ev=>Tally st x 0) 4 x1 h1.2 fun i x hi hx=>tally_work1 hi hx
 obtain⟨x2,hx2⟩:∃x,x=zA8 c inp x1:=⟨_,rfl⟩
 rw[←hx2]at h2;have h3:TallyL st x2.2 (zC4 c x2.1) 4 :=
  tally_let1 (k:=3) (by omega) (tally_let1 (k:=2) (by omega) (tally_let1 (k:=1) (by omega) (tally_let1 (k:=0) (y:=⟨x2.1,fun _=>false,fun _=>0⟩) (by omega) ⟨h2,fun _ _=>rfl,fun _=>Nat.zero_le _⟩)))
 have h4:Tally st (zE4 c inp ((zC4 c x2.1).st,x2.2)) (cntS4 (zC4 c x2.1).lets) :=
  zB1 (P:=fun x:Cy×List Ev=>Tally st x (cntS4 (zC4 c x2.1).lets)) 3 ((zC4 c x2.1).st,x2.2) h3.t fun i x hi hx=>tally_ask1 hi hx
 have e:step c inp st=zE4 c inp ((zC4 c x2.1).st,x2.2):=by rw[hx2,hx1];rfl
 have e2:lets c inp st=(zC4 c x2.1).lets:=by rw[hx2,hx1];rfl
 rw[e2];refine⟨?_,h3.o⟩;show Tally st (step c inp st) _;rw[e];exact h4
structure Cn where
 cycles:Nat
 asked:Nat→Nat
 told:Nat→Nat
 waits:Nat→Nat
 lt:Nat→Nat
 done:Nat→Nat
 busy:Nat→Nat
def cn0:Cn:=⟨0,fun _=>0,fun _=>0,fun _=>0,fun _=>0,fun _=>0,fun _=>0⟩
def cnt1 (c:Cfg) (inp:Inp) (st:Cy) (n:Cn):Cn :=
  ⟨n.cycles + 1, fun w => n.asked w + evN 1 w (evs c inp st), fun w => n.told w + evN 3 w (evs c inp st), fun w => n.waits w + (if (st.ports w).queue.length = 0 then 0 else 1),
   fun s=>n.lt s+lets c inp st s,fun s=>n.done s+doneN c s (evs c inp st),fun s=>n.busy s+(if(st.slaves s).pipe.length=0 then 0 else 1)⟩
def cntR (c : Cfg) : List Inp → Cy → Cn → Cn
 |[],_,n=>n
 |i::rest,st,n=>cntR c rest (cyc c i st) (cnt1 c i st n)
theorem cntR_app (c : Cfg) : ∀ (a b : List Inp) (st : Cy) (n : Cn), cntR c (a ++ b) st n = cntR c b (runC c a st) (cntR c a st n)
 |[],_,_,_=>rfl
 |_::a,b,_,_=>cntR_app c a b _ _
theorem cntR_snoc (c:Cfg) (ins:List Inp) (k:Nat) (hk:k<ins.length) [Inhabited Inp] (st:Cy) (n:Cn):cntR c (ins.take (k+1)) st n=cnt1 c (ins.getD k default) (runC c (ins.take k) st) (cntR c (ins.take k) st n):=by
 rw[List.take_add_one,cntR_app];have:ins[k]?.toList=[ins.getD k default]:=by simp[List.getD,hk]
 rw[this];rfl
theorem doneN_sum {c : Cfg} : ∀ {l : List Ev}, (∀ e ∈ l, e.kind = 2 → c.slv e.who e.n < 4) → cntS4 (fun s => doneN c s l) = dosN l
 |[],_=>rfl
 |e::l,h=>by
  have ih:=doneN_sum (l:=l) fun x hx=>h x (List.mem_cons_of_mem _ hx)
  have he:=h e (List.mem_cons_self ..);unfold doneN dosN cntS4 at ih ⊢
  dsimp only at ih ⊢
  by_cases h2:e.kind=2
  ·have:=he h2;obtain h3|h3|h3|h3:c.slv e.who e.n=0∨c.slv e.who e.n=1∨c.slv e.who e.n=2∨c.slv e.who e.n=3:=by omega
   all_goals
    simp only[List.filter_cons,h2,h3];simp;omega
  ·simp only[List.filter_cons];simp[h2];simpa using ih
theorem doneN_one {c:Cfg} (hb:Bus c) {inp:Inp} {st:Cy} (hg:Good c st) (s:Nat):doneN c s (evs c inp st)≤(if(st.slaves s).pipe.length=0 then 0 else 1):=by
 obtain⟨t,wk,a,e,ht,ha,hw,hp⟩:=evs_law hb (inp:=inp) hg;rw[e,doneN_app,doneN_app,doneN_no (l:=t) fun e he hc=>by have:=ht e he;omega,doneN_no (l:=a) fun e he hc=>by have:=ha e he;omega,Nat.zero_add,Nat.add_zero];clear e;have h1:doneN c s wk≤1:=by
  unfold doneN
  induction wk with
  |nil=>simp
  |cons x xs ih=>
   rw[List.pairwise_cons]at hp;by_cases hx:(x.kind==2&&c.slv x.who x.n==s)=true
   ·rw[show(x::xs).filter (fun e=>e.kind==2&&c.slv e.who e.n==s)=x::xs.filter (fun e=>e.kind==2&&c.slv e.who e.n==s) from List.filter_cons_of_pos hx];have:xs.filter (fun e=>e.kind==2&&c.slv e.who e.n==s)=[]:=by
     rw[List.filter_eq_nil_iff];intro y hy;have:=hp.1 y hy;simp at hx ⊢;intro _;omega
    rw[this];simp
   ·rw[show(x::xs).filter (fun e=>e.kind==2&&c.slv e.who e.n==s)=xs.filter (fun e=>e.kind==2&&c.slv e.who e.n==s) from List.filter_cons_of_neg hx];exact ih (fun e he=>hw e (List.mem_cons_of_mem _ he)) hp.2
 split
 ·rename_i h0;rw[Nat.le_zero];refine doneN_no fun e he ⟨_,h3⟩=>?_
  obtain⟨_,_,_,_,_,rest,hr⟩:=hw e he;rw[h3]at hr;rw[hr]at h0;simp at h0
 ·exact h1
structure CnOk (c:Cfg) (k:Nat) (st:Cy) (n:Cn):Prop where
 cy:n.cycles=k
 asked:∀w,n.asked w=(st.ports w).next
 told:∀w,n.told w=cntW w st.told
 asked1:∀w,n.asked w≤k
 told1:∀w,n.told w≤k
 waits:∀w,n.waits w≤k
 lt:∀s,n.lt s≤k
 busy:∀s,n.busy s≤k
 done:∀s,n.done s≤n.busy s
 slt:cntS4 n.lt=st.told.length+outs st
 sdn:cntS4 n.done=st.told.length+doneW st
theorem cnOk_zero (c:Cfg):CnOk c 0 cy0 cn0:=⟨rfl,fun _=>rfl,fun _=>rfl,fun _=>Nat.le_refl _,fun _=>Nat.le_refl _,fun _=>Nat.le_refl _,fun _=>Nat.le_refl _,fun _=>Nat.le_refl _,fun _=>Nat.le_refl _,rfl,rfl⟩
theorem cnOk_step {c:Cfg} (hb:Bus c) {inp:Inp} {st:Cy} (hg:Good c st) {k:Nat} {n:Cn} (h:CnOk c k st n):CnOk c (k+1) (cyc c inp st) (cnt1 c inp st n):=by
 obtain⟨t,hl⟩:=tally_step hb (inp:=inp) hg;have g:=grow_step (c:=c) (inp:=inp) (st:=st);have hsum:cntS4 (fun s=>doneN c s (evs c inp st))=dosN (evs c inp st):=doneN_sum fun e he h2=>by
  obtain⟨t,wk,a,e1,ht,ha,hw,_⟩:=evs_law hb (inp:=inp) hg;rw[e1]at he;rcases List.mem_append.1 he with he|he
  ·rcases List.mem_append.1 he with he|he
   ·have:=ht e he;omega
   ·exact(hw e he).2.2.2.1
  ·have:=ha e he;omega
 refine⟨by simp[cnt1,h.cy],fun w=>?_,fun w=>?_,fun w=>?_,fun w=>?_,fun w=>?_,fun s=>?_,fun s=>?_,fun s=>?_,?_,?_⟩
 ·have:=t.nx w;have:=h.asked w;simp only[cnt1]at *;omega
 ·have:=t.tl w;have:=h.told w;simp only[cnt1]at *;omega
 ·have:=t.nx w;have:=h.asked w;have:=h.asked1 w;have:=g.hi w;simp only[cnt1]at *;omega
 ·have:=t.tl w;have:=h.told w;have:=h.told1 w;have:=g.cnt w;simp only[cnt1]at *;omega
 ·have:=h.waits w;simp only[cnt1];split <;> omega
 ·have:=h.lt s;have:=hl s;simp only[cnt1];omega
 ·have:=h.busy s;simp only[cnt1];split <;> omega
 ·have:=h.done s;have:=doneN_one hb (inp:=inp) hg s;simp only[cnt1];omega
 ·have:=h.slt;have:=t.ou;simp only[cnt1,cntS4]at *;omega
 ·have:=h.sdn;have:=t.dn;simp only[cnt1,cntS4]at *;omega
theorem cnOk_run {c : Cfg} (hb : Bus c) : ∀ (ins : List Inp) {st : Cy} {k : Nat} {n : Cn}, Good c st → CnOk c k st n → CnOk c (k + ins.length) (runC c ins st) (cntR c ins st n)
 |[],_,_,_,_,h=>h
 |i::rest,st,k,n,hg,h=>by
  have:=cnOk_run hb rest (good_step hb (inp:=i) hg) (cnOk_step hb (inp:=i) hg h);rw[List.length_cons,show k+(rest.length+1)=k+1+rest.length by omega];exact this
end Go.Proofs.YtgkdoehkmbhfiaaGreat
