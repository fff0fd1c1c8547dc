/- What the slices hold behind each change of a bus (printed by wip/gen_mq.py). -/
import Derived.Test.YtgkdoehkmbhfiaaGreatPE1
import Derived.Test.YtgkdoehkmbhfiaaGreatPCr1
import Derived.Test.YtgkdoehkmbhfiaaGreatPDat
set_option linter.unusedVariables false
set_option linter.unusedSimpArgs false
set_option maxHeartbeats 16000000
namespace Go.Proofs.YtgkdoehkmbhfiaaGreat
open Go.RowKit
def aLt (x y:TJA):Bool:=kLt x.1 y.1
theorem ordA:Ord3 aLt (fun x y:TJA=>kLe x.1 y.1):=⟨fun a b=>ordK.t a.1 b.1,fun a b=>ordK.f a.1 b.1,fun a b c=>ordK.tr a.1 b.1 c.1⟩
theorem Owns.put5 {w : World} {base e g off n c : Nat} {xs : List TJA} (h : Owns w base e 5 rowA (.slice (some ⟨g, off, none⟩) n c) xs) (k : Nat) (hk : k < xs.length) (wh nn : Nat) (ri rc : Int) (rd : List Int) (da : Option Addr) (dn dc : Nat) :
  Owns (((((w.setCell ⟨g,off+k * 5,none⟩ (.int .i64 wh)).setCell ⟨g,off+k * 5+1,none⟩ (.int .i64 nn)).setCell ⟨g,off+k * 5+2,none⟩ (.int .i64 ri)).setCell ⟨g,off+k * 5+3,none⟩ (.int .i64 rc)).setCell ⟨g,off+k * 5+4,none⟩ (.slice da dn dc)) base e 5 rowA (.slice (some ⟨g,off,none⟩) n c) (xs.set k (⟨wh,nn,⟨ri,rc,rd⟩⟩,da,dn,dc)):=by
 obtain⟨x,hx⟩:∃x,x=xs.getD k default:=⟨_,rfl⟩
 have gd:∀(ys:List TJA) (y:TJA),k<ys.length→(ys.set k y).getD k default=y:=fun ys y h=>by simp[List.getD,h]
 have h1:=h.putRow zD5 k 0 default (⟨wh,x.1.n,x.1.rsp⟩,x.2) (.int .i64 wh) hk (by omega) (by rw[←hx];rfl);have h2:=h1.putRow zD5 k 1 default (⟨wh,nn,x.1.rsp⟩,x.2) (.int .i64 nn) (by simpa using hk) (by omega) (by rw[gd _ _ hk];rfl);have h3:=h2.putRow zD5 k 2 default (⟨wh,nn,⟨ri,x.1.rsp.code,rd⟩⟩,x.2) (.int .i64 ri) (by simpa using hk) (by omega) (by rw[gd _ _ (by simpa using hk)];rfl);have h4:=h3.putRow zD5 k 3 default (⟨wh,nn,⟨ri,rc,rd⟩⟩,x.2) (.int .i64 rc) (by simpa using hk) (by omega) (by rw[gd _ _ (by simpa using hk)];rfl);have h5:=h4.putRow zD5 k 4 default (⟨wh,nn,⟨ri,rc,rd⟩⟩,da,dn,dc) (.slice da dn dc) (by simpa using hk) (by omega) (by rw[gd _ _ (by simpa using hk)];rfl);simpa only[List.set_set,Nat.add_zero]using h5
theorem touch5 (s o:Nat) (w:World) (a b c d e:Value):Touch s w (((((w.setCell ⟨s,o,none⟩ a).setCell ⟨s,o+1,none⟩ b).setCell ⟨s,o+2,none⟩ c).setCell ⟨s,o+3,none⟩ d).setCell ⟨s,o+4,none⟩ e) :=
 ((((Touch.setCell _ _ _ _).trans (Touch.setCell _ _ _ _)).trans (Touch.setCell _ _ _ _)).trans (Touch.setCell _ _ _ _)).trans (Touch.setCell _ _ _ _)
def SortP (base g off cap:Nat) (A:List TJA) (w:World) (e:Ending) (w':World):Prop :=
 e=.returned (.tuple #[])∧Owns w' base 65 5 rowA (.slice (some ⟨g,off,none⟩) A.length cap) (zJ6 aLt A)∧Touch g w w'
set_option maxRecDepth 4000 in
theorem insSort_any (base g off cap : Nat) (A : List TJA) (w : World) (ho : Owns w base 65 5 rowA (.slice (some ⟨g, off, none⟩) A.length cap) A) (hl : A.length ≤ 100) (hn : 0 < A.length) :
  Calls Tryz.prog 163 #[.slice (some ⟨g,off,none⟩) A.length cap,.int .i64 0,.int .i64 A.length,.func (.func 75) #[] #[]] w (SortP base g off cap A w):=by
 obtain⟨n,hnn⟩:∃n,n=A.length:=⟨_,rfl⟩
 have hK2:=zB5 (K:=75) Tryz.func75 (by kernel_rfl) (by kernel_rfl);rw[←hnn]at hl hn ho ⊢;have HNN:=hid hnn;have HO:=hid ho;have hcap:n≤cap∧cap≤9223372036854775807:=by
  obtain⟨a,c,e,h1,h2⟩:=OwnR.form (n:=A.length) (by rw[hnn]at ho;exact ho);simp only[Value.slice.injEq]at e;obtain⟨_,_,rfl⟩:=e;exact⟨by omega,h2⟩
 obtain⟨hc1,hc2⟩:=hcap;have hgz:=(OwnR.lt ho g rfl).2;have HGZ:=hid hgz;clear ho hnn hgz
 go_enter Tryz.func163,Tryz.ntmps163
 go_wp2_with fail
 go_loopw [8] (fun i wr=>∃k:Nat,k<n∧i=.int .i64 ((k:Int)+1)∧Owns wr base 65 5 rowA (.slice (some ⟨g,off,none⟩) n cap) (isort aLt k A)∧Touch g w wr) (fun i _=>n+1 - (intOf i).toNat)
 case atStart=>exact⟨0,hn,by go_num,HO.out,Touch.refl _ _⟩
 case round=>
  obtain⟨k,hk,rfl,ho,ht⟩:=hrel;have HO2:=hid ho;have HT:=hid ht;clear ho ht;by_cases hlt:k+1<n
  ·have hlti:(k:Int)+1<(n:Int):=by omega
   go_wp2_with fail
   obtain⟨w1,hw1⟩:∃W,W=wr:=⟨_,rfl⟩
   subst hw1
   go_loopw [9] (fun j wr=>∃m:Nat,m≤k+1∧j=.int .i64 (m:Int)∧(∃L:List TJA,L.length=n∧down aLt m L=isort aLt (k+1) A∧Owns wr base 65 5 rowA (.slice (some ⟨g,off,none⟩) n cap) L)∧Touch g w wr) (fun j _=>(intOf j).toNat)
   case atStart=>exact⟨k+1,Nat.le_refl _,by go_num,⟨isort aLt k A,by rw[isort_len];exact HNN.out.symm,rfl,HO2.out⟩,HT.out⟩
   case round=>
    clear HO2 HT;obtain⟨m,hm,rfl,⟨L,hL,hd,ho⟩,ht⟩:=hrel;have HL:=hid hL;have HD:=hid hd;have HO3:=hid ho;have HT3:=hid ht;clear hL hd ho ht;by_cases hm0:m=0
    ·subst hm0;have h0:decide ((0:Int)<((0:Nat):Int))=false:=by simp
     go_wp2_with fail
     go_region
     go_wp2_with fail
     go_roundw
     case rel=>exact⟨k+1,hlt,by go_num,by rw[←HD.out];exact HO3.out,HT3.out.drew⟩
     case measure=>simp[intOf];omega
    ·obtain⟨p,hmp⟩:∃p,m=p+1:=⟨m - 1,by omega⟩
     have ew:IntKind.i64.wrap ((m:Int) - 1)=(p:Int):=by rw[IntKind.wrap_i64];omega
     have hpn:m<n:=by omega
     have hL:=HL.out;have hx5:∀i,i<5→wr.cell? ⟨g,off+m * 5+i,none⟩=(rowA (L.getD m default))[i]?:=fun i hi=>Owns.cellAt HO3.out zD5 m i default (by omega) hi
     have hy5:∀i,i<5→wr.cell? ⟨g,off+p * 5+i,none⟩=(rowA (L.getD p default))[i]?:=fun i hi=>Owns.cellAt HO3.out zD5 p i default (by omega) hi
     obtain⟨x,hx⟩:∃x,x=L.getD m default:=⟨_,rfl⟩
     obtain⟨y,hy⟩:∃y,y=L.getD p default:=⟨_,rfl⟩
     rw[←hx]at hx5;rw[←hy]at hy5;have HX:=hid hx;have HY:=hid hy;clear hx hy;obtain⟨⟨xw,xn,xi,xc,xd⟩,xa,xl,xk⟩:=x;obtain⟨⟨yw,yn,yi,yc,yd⟩,ya,yl,yk⟩:=y;have x0:=hx5 0 (by omega);have x1:=hx5 1 (by omega);have x2:=hx5 2 (by omega);have x3:=hx5 3 (by omega);have x4:=hx5 4 (by omega);have y0:=hy5 0 (by omega);have y1:=hy5 1 (by omega);have y2:=hy5 2 (by omega);have y3:=hy5 3 (by omega);have y4:=hy5 4 (by omega);simp only[rowA,toA,tjRow,List.getElem?_cons_zero,List.getElem?_cons_succ,Nat.add_zero]at x0 x1 x2 x3 x4 y0 y1 y2 y3 y4;have hpi:(0:Int)<(m:Int):=by omega
     have hpi2:(m:Int)<(n:Int):=by omega
     have hpi3:(p:Int)<(n:Int):=by omega
     have hmp0:0<m:=by omega
     have hmpd:decide (0<m)=true:=by simpa using hmp0
     have HMP:=hid hmp;clear hmp;have hgz:g<wr.heap.size:=(OwnR.lt HO3.out g rfl).2;obtain⟨r,hr⟩:∃r,r=kcmp ⟨xw,xn,⟨xi,xc,xd⟩⟩ ⟨yw,yn,⟨yi,yc,yd⟩⟩:=⟨_,rfl⟩
     have HR:=hid hr;have HKL:=hid (kcmp_lt ⟨xw,xn,⟨xi,xc,xd⟩⟩ ⟨yw,yn,⟨yi,yc,yd⟩⟩);rw[←hr]at HKL;clear hr hx5 hy5 hL;obtain⟨wo,hwo⟩:∃W,W=wr:=⟨_,rfl⟩
     subst hwo
     go_upto_region 4 with fail
     go_cut [34] from 18 to 52 (fun u wd=>u=.bool (decide (r<0))∧Below wo.heap.size wo wd)
     case first=>
      go_region_held3 (fun w' => w'.cell? ⟨g, off + m * 5, none⟩ = some (.int .i64 (xw : Nat)) ∧ w'.cell? ⟨g, off + m * 5 + 1, none⟩ = some (.int .i64 (xn : Nat)) ∧ w'.cell? ⟨g, off + m * 5 + 2, none⟩ = some (.int .i64 xi) ∧ w'.cell? ⟨g, off + m * 5 + 3, none⟩ = some (.int .i64 xc) ∧ w'.cell? ⟨g, off + m * 5 + 4, none⟩ = some (.slice xa xl xk) ∧ w'.cell? ⟨g, off + p * 5, none⟩ = some (.int .i64 (yw : Nat)) ∧ w'.cell? ⟨g, off + p * 5 + 1, none⟩ = some (.int .i64 (yn : Nat)) ∧ w'.cell? ⟨g, off + p * 5 + 2, none⟩ = some (.int .i64 yi) ∧ w'.cell? ⟨g, off + p * 5 + 3, none⟩ = some (.int .i64 yc) ∧ w'.cell? ⟨g, off + p * 5 + 4, none⟩ = some (.slice ya yl yk))
       (first|exact s6|go_keep)
       (first
        |(go_at_call 75;(with_reducible refine(cmpJobs_any ⟨xw,xn,⟨xi,xc,xd⟩⟩ ⟨yw,yn,⟨yi,yc,yd⟩⟩ xa ya xl xk yl yk _).mono ?_);unfold CmpP;rw[←HR.out];rintro e w5 ⟨rfl,hb5⟩;have hb5':=(show Below wo.heap.size wo wo.drew from(Below.refl _ _).drew).trans hb5;have HB5:=hid hb5';have s6:w5.cell? ⟨g,off+m * 5,none⟩=some (.int .i64 (xw:Nat))∧w5.cell? ⟨g,off+m * 5+1,none⟩=some (.int .i64 (xn:Nat))∧w5.cell? ⟨g,off+m * 5+2,none⟩=some (.int .i64 xi)∧w5.cell? ⟨g,off+m * 5+3,none⟩=some (.int .i64 xc)∧w5.cell? ⟨g,off+m * 5+4,none⟩=some (.slice xa xl xk)∧w5.cell? ⟨g,off+p * 5,none⟩=some (.int .i64 (yw:Nat))∧w5.cell? ⟨g,off+p * 5+1,none⟩=some (.int .i64 (yn:Nat))∧w5.cell? ⟨g,off+p * 5+2,none⟩=some (.int .i64 yi)∧w5.cell? ⟨g,off+p * 5+3,none⟩=some (.int .i64 yc)∧w5.cell? ⟨g,off+p * 5+4,none⟩=some (.slice ya yl yk):=⟨(hb5'.cell (p:=⟨g,off+m * 5,none⟩) hgz).trans x0,(hb5'.cell (p:=⟨g,off+m * 5+1,none⟩) hgz).trans x1,(hb5'.cell (p:=⟨g,off+m * 5+2,none⟩) hgz).trans x2,(hb5'.cell (p:=⟨g,off+m * 5+3,none⟩) hgz).trans x3,(hb5'.cell (p:=⟨g,off+m * 5+4,none⟩) hgz).trans x4,(hb5'.cell (p:=⟨g,off+p * 5,none⟩) hgz).trans y0,(hb5'.cell (p:=⟨g,off+p * 5+1,none⟩) hgz).trans y1,(hb5'.cell (p:=⟨g,off+p * 5+2,none⟩) hgz).trans y2,(hb5'.cell (p:=⟨g,off+p * 5+3,none⟩) hgz).trans y3,(hb5'.cell (p:=⟨g,off+p * 5+4,none⟩) hgz).trans y4⟩))
      go_wp2_with fail
      go_meet
      case rel=>exact⟨rfl,HB5.out⟩
     case rest=>
      obtain⟨w5,hw5⟩:∃W,W=wc:=⟨_,rfl⟩
      subst hw5;obtain⟨rfl,hb5⟩:=hcut;have HB5:=hid hb5;have HO5:=hid (HO3.out.below hb5);have HT5:=hid (HT3.out.trans (Touch.of_below hb5 (Nat.le_refl _)));have hgz5:g<w5.heap.size:=Nat.lt_of_lt_of_le hgz hb5.size;rw[←hb5.cell (p:=⟨g,_,none⟩) hgz]at x0 x1 x2 x3 x4 y0 y1 y2 y3 y4;have hfz:=Owns.frozenAt HO5.out;have hgx:L.getD m default=(⟨xw,xn,⟨xi,xc,xd⟩⟩,xa,xl,xk):=HX.out.symm;have hgy:L.getD p default=(⟨yw,yn,⟨yi,yc,yd⟩⟩,ya,yl,yk):=HY.out.symm;have HGX:=hid hgx;have HGY:=hid hgy;clear hb5 hgx hgy;rcases hq:decide (r<0)with _|_
      ·have HST := hid (show down aLt m L = L by
        rw[HMP.out];refine down_stop aLt p L ?_;rw[←HMP.out,HGX.out,HGY.out];exact HKL.out.symm.trans hq)
       clear hq
       go_wp2_with fail
       go_roundw
       case rel=>exact⟨k+1,hlt,by go_num,by rw[←HD.out,HST.out];exact HO5.out,HT5.out⟩
       case measure=>simp[intOf];omega
      ·have HST := hid (show down aLt m L = down aLt p ((L.set m (⟨yw, yn, ⟨yi, yc, yd⟩⟩, ya, yl, yk)).set p (⟨xw, xn, ⟨xi, xc, xd⟩⟩, xa, xl, xk)) by
        have h1:=down_less aLt p L (by rw[←HMP.out,HGX.out,HGY.out];exact HKL.out.symm.trans hq);rw[←HMP.out,HGX.out,HGY.out]at h1;exact h1)
       clear hq
       go_upto_region 6 with fail
       have f0:=hfz (off+m * 5);have f1:=hfz (off+m * 5+1);have f2:=hfz (off+m * 5+2);have f3:=hfz (off+m * 5+3);have f4:=hfz (off+m * 5+4);have e0:=hfz (off+p * 5);have e1:=hfz (off+p * 5+1);have e2:=hfz (off+p * 5+2);have e3:=hfz (off+p * 5+3);have e4:=hfz (off+p * 5+4);have HO6:=hid (HO5.out.put5 m (by rw[HL.out];exact hpn) yw yn yi yc yd ya yl yk);have HT6:=hid (HT5.out.trans (touch5 g (off+m * 5) w5 (.int .i64 yw) (.int .i64 yn) (.int .i64 yi) (.int .i64 yc) (.slice ya yl yk)))
       have HG6 := hid (show (L.set m (⟨yw, yn, ⟨yi, yc, yd⟩⟩, ya, yl, yk)).getD p default = (⟨yw, yn, ⟨yi, yc, yd⟩⟩, ya, yl, yk) by
        have:m≠p:=by have:=HMP.out;omega
        rw[←HGY.out];simp[List.getD,List.getElem?_set,this])
       have HPL:=hid (show p<(L.set m (⟨yw,yn,⟨yi,yc,yd⟩⟩,ya,yl,yk)).length by rw[List.length_set,HL.out];have:=HMP.out;omega);have hy6:∀i,i<5→(((((w5.setCell ⟨g,off+m * 5,none⟩ (.int .i64 yw)).setCell ⟨g,off+m * 5+1,none⟩ (.int .i64 yn)).setCell ⟨g,off+m * 5+2,none⟩ (.int .i64 yi)).setCell ⟨g,off+m * 5+3,none⟩ (.int .i64 yc)).setCell ⟨g,off+m * 5+4,none⟩ (.slice ya yl yk)).cell? ⟨g,off+p * 5+i,none⟩=(rowA ((L.set m (⟨yw,yn,⟨yi,yc,yd⟩⟩,ya,yl,yk)).getD p default))[i]?:=fun i hi=>Owns.cellAt HO6.out zD5 p i default HPL.out hi
       rw[HG6.out]at hy6;have z0:=hy6 0 (by omega);have z1:=hy6 1 (by omega);have z2:=hy6 2 (by omega);have z3:=hy6 3 (by omega);have z4:=hy6 4 (by omega);simp only[rowA,toA,tjRow,List.getElem?_cons_zero,List.getElem?_cons_succ,Nat.add_zero]at z0 z1 z2 z3 z4;clear hfz hy6
       go_region
       have HO7:=hid (HO6.out.put5 p HPL.out xw xn xi xc xd xa xl xk);have HT7:=hid (HT6.out.trans (touch5 g (off+p * 5) _ (.int .i64 xw) (.int .i64 xn) (.int .i64 xi) (.int .i64 xc) (.slice xa xl xk)));clear x0 x1 x2 x3 x4 y0 y1 y2 y3 y4 z0 z1 z2 z3 z4 f0 f1 f2 f3 f4 e0 e1 e2 e3 e4;generalize hw7:(((((((((w5.setCell ⟨g,off+m * 5,none⟩ (.int .i64 yw)).setCell ⟨g,off+m * 5+1,none⟩ (.int .i64 yn)).setCell ⟨g,off+m * 5+2,none⟩ (.int .i64 yi)).setCell ⟨g,off+m * 5+3,none⟩ (.int .i64 yc)).setCell ⟨g,off+m * 5+4,none⟩ (.slice ya yl yk)).setCell ⟨g,off+p * 5,none⟩ (.int .i64 xw)).setCell ⟨g,off+p * 5+1,none⟩ (.int .i64 xn)).setCell ⟨g,off+p * 5+2,none⟩ (.int .i64 xi)).setCell ⟨g,off+p * 5+3,none⟩ (.int .i64 xc)).setCell ⟨g,off+p * 5+4,none⟩ (.slice xa xl xk)=w7 at HO7 HT7 ⊢;clear hw7
       go_wp2_with fail
       go_roundw
       case rel=>exact⟨p,by have:=HMP.out;omega,by go_num,⟨_,by rw[List.length_set,List.length_set];exact HL.out,by rw[←HST.out];exact HD.out,HO7.out.drewd⟩,HT7.out.drewd⟩
       case measure=>simp[intOf];have:=HMP.out;omega
  ·obtain rfl:k+1=n:=by omega
   go_wp2_with fail
   exact bodyPost_end (v:=.tuple #[]) (by simp[results,Tryz.results163,go_sem]) rfl ⟨rfl,by unfold zJ6;rw[show A.length - 1=k by rw[←HNN.out];omega,←HNN.out];exact HO2.out,HT.out⟩
set_option maxRecDepth 4000 in
theorem insSort0_any (a : Option Addr) (c : Nat) (w : World) :
  Calls Tryz.prog 163 #[.slice a 0 c,.int .i64 0,.int .i64 0,.func (.func 75) #[] #[]] w fun e w' => e=.returned (.tuple #[])∧w=w':=by
 go_enter Tryz.func163,Tryz.ntmps163
 go_wp2_with fail
 refine wp_loop_rounds 1 ?_;rw[rounds_succ]
 go_wp2_with fail
 exact bodyPost_end (v:=.tuple #[]) (by simp[results,Tryz.results163,go_sem]) rfl ⟨rfl,rfl⟩
def StP (base:Nat) (v:Value) (A:List TJA) (w:World) (e:Ending) (w':World):Prop :=
 e=.returned (.tuple #[])∧Owns w' base 65 5 rowA v (zJ6 aLt A)∧w.grownBy w' v.ownBlock
theorem insSortV_any {base : Nat} {v : Value} {A : List TJA} {w : World} (ho : Owns w base 65 5 rowA v A) (hl : A.length ≤ 100) :
  Calls Tryz.prog 163 #[v,.int .i64 0,.int .i64 A.length,.func (.func 75) #[] #[]] w (StP base v A w):=by
 rcases A with _|⟨x,A⟩
 ·obtain⟨a,c,rfl,_,_⟩:=ho.shape;refine(insSort0_any a c w).mono ?_;rintro e w' ⟨rfl,rfl⟩;exact⟨rfl,ho,rfl,rfl,rfl,Nat.le_refl _,fun _ _ _=>rfl⟩
 ·obtain⟨g,off,cap,rfl,_,_,_,_⟩:=OwnR.addr ho (by simp);refine(insSort_any base g off cap (x::A) w ho hl (by simp)).mono ?_;rintro e w' ⟨rfl,h2,ht⟩;exact⟨rfl,h2,ht.os,ht.tape,ht.output,ht.size,fun i hi hne=>ht.block i hi (fun e=>hne (by rw[e];rfl))⟩
set_option maxRecDepth 4000 in
theorem stable_any {base : Nat} {v : Value} {A : List TJA} {w : World} (ho : Owns w base 65 5 rowA v A) (hl : A.length ≤ 19) :
  Calls Tryz.prog 125 #[v,.int .i64 A.length,.func (.func 75) #[] #[]] w (StP base v A w):=by
 have HO:=hid ho;obtain⟨a,c,rfl,_,_⟩:=ho.shape;obtain⟨n,hn⟩:∃n,n=A.length:=⟨_,rfl⟩
 rw[←hn]at HO hl ⊢
 have HC := hid (show Calls Tryz.prog 163 #[.slice a n c, .int .i64 0, .int .i64 n, .func (.func 75) #[] #[]] w (StP base (.slice a n c) A w) by
  have:=insSortV_any (v:=.slice a n c) HO.out (by rw[←hn];omega);rw[←hn]at this;exact this)
 have h1:decide ((20:Int)≤(n:Int))=false:=by rw[decide_eq_false_iff_not];omega
 have h2:decide ((20:Int)<(n:Int))=false:=by rw[decide_eq_false_iff_not];omega
 have h1':decide (20≤n)=false:=by rw[decide_eq_false_iff_not];omega
 have h2':decide (20<n)=false:=by rw[decide_eq_false_iff_not];omega
 clear ho hn hl
 go_enter Tryz.func125,Tryz.ntmps125
 go_wp2_with fail
 refine wp_loop_rounds 1 ?_;rw[rounds_succ]
 go_wp2_with (go_at_call 163;refine(HC.out).mono ?_;rintro e w1 ⟨rfl,hs⟩;have HS:=hid hs;clear hs)
 refine wp_loop_rounds 1 ?_;rw[rounds_succ]
 go_wp2_with fail
 exact bodyPost_end (v:=.tuple #[]) (by simp[results,Tryz.results125,go_sem]) rfl ⟨rfl,HS.out⟩
theorem sortJobs_any {base : Nat} {v : Value} {A : List TJA} {w : World} (ho : Owns w base 65 5 rowA v A) (hl : A.length ≤ 19) :
  Calls Tryz.prog 74 #[v,.func (.func 75) #[] #[]] w (StP base v A w):=by
 have HC:=hid (stable_any ho hl);obtain⟨a,c,rfl,_,_⟩:=ho.shape;obtain⟨n,hn⟩:∃n,n=A.length:=⟨_,rfl⟩
 rw[←hn]at HC ⊢;clear ho hn hl
 go_enter Tryz.func74,Tryz.ntmps74
 go_wp2_with (go_at_call 125;refine(HC.out).mono ?_;rintro e w1 ⟨rfl,hs⟩;have HS:=hid hs;clear hs)
 exact bodyPost_end (v:=.tuple #[]) (by simp[results,Tryz.results74,go_sem]) rfl ⟨rfl,HS.out⟩
theorem none_any (a:Option Addr) (c:Nat) (w:World):Calls Tryz.prog 112 #[.agg #[.int .i64 0,.int .i64 0,.slice a 0 c]] w fun e w' => e=.returned (.bool true)∧Below w.heap.size w w':=by
 go_enter Tryz.func112,Tryz.ntmps112
 go_wp2_with fail
 go_ret
 exact⟨rfl,(Below.refl _ _).alloc (Nat.le_refl _) _⟩
def RisP (w:World) (e:Ending) (w':World):Prop:=e=.returned (.bool true)∧Below w.heap.size w w'
set_option maxRecDepth 4000 in
theorem rising_any (A : List TJA) (v : Value) (B : Nat) (w : World) (hv : Arr w B 5 v (A.map rowA)) (hB : B ≤ w.heap.size) (hl : A.length ≤ 1000) (hr : ∀ i, i + 1 < A.length → aLt (A.getD i default) (A.getD (i + 1) default) = true) :
  Calls Tryz.prog 111 #[v] w (RisP w):=by
 obtain⟨ao,cap,hva,h1,h2,h0,h9,h3⟩:=hv;simp only[List.length_map]at hva h1 h0 h3;subst hva;obtain⟨n,hn⟩:∃n,n=A.length:=⟨_,rfl⟩
 rw[←hn]at h1 h0 h3 hl ⊢;have HN:=hid hn;have HR:=hid hr;have HA:=hid h3;clear hr h3 hn
 go_enter Tryz.func111,Tryz.ntmps111
 go_wp2_with fail
 go_loopw [3] (fun i wr=>∃k:Nat,i=.int .i64 k∧1≤k∧Below w.heap.size w wr) (fun i _=>n - (intOf i).toNat)
 case atStart=>exact⟨1,by go_num,Nat.le_refl _,Below.refl _ _⟩
 case round=>
  obtain⟨k,rfl,hk1,hbl⟩:=hrel;have HBL:=hid hbl;by_cases hlt:k<n
  ·have hki:(k:Int)<(n:Int):=by omega
   obtain⟨p,hkp⟩:∃p,k=p+1:=⟨k - 1,by omega⟩
   have ew:IntKind.i64.wrap ((k:Int) - 1)=(p:Int):=by rw[IntKind.wrap_i64];omega
   have hpi:(p:Int)<(n:Int):=by omega
   obtain⟨g,off,rfl,hgB,hc⟩:=HA.out (by omega);have hlt2:k<A.length:=by rw[←HN.out];exact hlt
   have hgz:g<wr.heap.size:=Nat.lt_of_lt_of_le hgB (Nat.le_trans hB hbl.size);have cell:∀t,t<n→∀i,i<5→wr.cell? ⟨g,off+t * 5+i,none⟩=(rowA (A.getD t default))[i]?:=fun t ht i hi=>by
    rw[hbl.cell (p:=⟨g,_,none⟩) (Nat.lt_of_lt_of_le hgB hB),hc t ht i hi];simp[List.getD,show t<A.length by rw[←HN.out];exact ht]
   have hx5:=cell k hlt;have hy5:=cell p (by omega);have hlt3:=HR.out p (by omega);rw[←hkp]at hlt3;obtain⟨x,hx⟩:∃x,x=A.getD k default:=⟨_,rfl⟩
   obtain⟨y,hy⟩:∃y,y=A.getD p default:=⟨_,rfl⟩
   rw[←hx]at hx5 hlt3;rw[←hy]at hy5 hlt3;clear hx hy cell hc hbl;obtain⟨⟨xw,xn,xi,xc,xd⟩,xa,xl,xk⟩:=x;obtain⟨⟨yw,yn,yi,yc,yd⟩,ya,yl,yk⟩:=y;have x0:=hx5 0 (by omega);have x1:=hx5 1 (by omega);have x2:=hx5 2 (by omega);have x3:=hx5 3 (by omega);have x4:=hx5 4 (by omega);have y0:=hy5 0 (by omega);have y1:=hy5 1 (by omega);have y2:=hy5 2 (by omega);have y3:=hy5 3 (by omega);have y4:=hy5 4 (by omega);simp only[rowA,toA,tjRow,List.getElem?_cons_zero,List.getElem?_cons_succ,Nat.add_zero]at x0 x1 x2 x3 x4 y0 y1 y2 y3 y4;obtain⟨r,hr⟩:∃r,r=kcmp ⟨yw,yn,⟨yi,yc,yd⟩⟩ ⟨xw,xn,⟨xi,xc,xd⟩⟩:=⟨_,rfl⟩
   have hr0:decide ((0:Int)≤r)=false:=by rw[hr,kcmp_ge,show kLt ⟨yw,yn,⟨yi,yc,yd⟩⟩ ⟨xw,xn,⟨xi,xc,xd⟩⟩=true from hlt3];rfl
   have HRR:=hid hr;have HKP:=hid hkp;clear hr hx5 hy5 hlt3 hlt2 hkp;obtain⟨wo,hwo⟩:∃W,W=wr:=⟨_,rfl⟩
   subst hwo
   go_upto_region 4 with fail
   go_region_held3 (fun w' => w'.cell? ⟨g, off + k * 5, none⟩ = some (.int .i64 (xw : Nat)) ∧ w'.cell? ⟨g, off + k * 5 + 1, none⟩ = some (.int .i64 (xn : Nat)) ∧ w'.cell? ⟨g, off + k * 5 + 2, none⟩ = some (.int .i64 xi) ∧ w'.cell? ⟨g, off + k * 5 + 3, none⟩ = some (.int .i64 xc) ∧ w'.cell? ⟨g, off + k * 5 + 4, none⟩ = some (.slice xa xl xk) ∧ w'.cell? ⟨g, off + p * 5, none⟩ = some (.int .i64 (yw : Nat)) ∧ w'.cell? ⟨g, off + p * 5 + 1, none⟩ = some (.int .i64 (yn : Nat)) ∧ w'.cell? ⟨g, off + p * 5 + 2, none⟩ = some (.int .i64 yi) ∧ w'.cell? ⟨g, off + p * 5 + 3, none⟩ = some (.int .i64 yc) ∧ w'.cell? ⟨g, off + p * 5 + 4, none⟩ = some (.slice ya yl yk))
    (first|exact s6|go_keep)
    (first
     |(go_at_call 75;(with_reducible refine(cmpJobs_any ⟨yw,yn,⟨yi,yc,yd⟩⟩ ⟨xw,xn,⟨xi,xc,xd⟩⟩ ya xa yl yk xl xk _).mono ?_);unfold CmpP;rw[←HRR.out];rintro e w5 ⟨rfl,hb5⟩;have hb5':=(show Below wo.heap.size wo wo.drew from(Below.refl _ _).drew).trans hb5;have HB5:=hid hb5';have s6:w5.cell? ⟨g,off+k * 5,none⟩=some (.int .i64 (xw:Nat))∧w5.cell? ⟨g,off+k * 5+1,none⟩=some (.int .i64 (xn:Nat))∧w5.cell? ⟨g,off+k * 5+2,none⟩=some (.int .i64 xi)∧w5.cell? ⟨g,off+k * 5+3,none⟩=some (.int .i64 xc)∧w5.cell? ⟨g,off+k * 5+4,none⟩=some (.slice xa xl xk)∧w5.cell? ⟨g,off+p * 5,none⟩=some (.int .i64 (yw:Nat))∧w5.cell? ⟨g,off+p * 5+1,none⟩=some (.int .i64 (yn:Nat))∧w5.cell? ⟨g,off+p * 5+2,none⟩=some (.int .i64 yi)∧w5.cell? ⟨g,off+p * 5+3,none⟩=some (.int .i64 yc)∧w5.cell? ⟨g,off+p * 5+4,none⟩=some (.slice ya yl yk):=⟨(hb5'.cell (p:=⟨g,off+k * 5,none⟩) hgz).trans x0,(hb5'.cell (p:=⟨g,off+k * 5+1,none⟩) hgz).trans x1,(hb5'.cell (p:=⟨g,off+k * 5+2,none⟩) hgz).trans x2,(hb5'.cell (p:=⟨g,off+k * 5+3,none⟩) hgz).trans x3,(hb5'.cell (p:=⟨g,off+k * 5+4,none⟩) hgz).trans x4,(hb5'.cell (p:=⟨g,off+p * 5,none⟩) hgz).trans y0,(hb5'.cell (p:=⟨g,off+p * 5+1,none⟩) hgz).trans y1,(hb5'.cell (p:=⟨g,off+p * 5+2,none⟩) hgz).trans y2,(hb5'.cell (p:=⟨g,off+p * 5+3,none⟩) hgz).trans y3,(hb5'.cell (p:=⟨g,off+p * 5+4,none⟩) hgz).trans y4⟩))
   go_wp2_with fail
   go_roundw
   case rel=>exact⟨k+1,by go_num,by omega,HBL.out.trans (HB5.out.mono HBL.out.size)⟩
   case measure=>simp[intOf];omega
  ·have hki:decide ((k:Int)<(n:Int))=false:=by rw[decide_eq_false_iff_not];omega
   go_wp2_with fail
   go_ret
   exact⟨rfl,HBL.out⟩
theorem Cont.queue {st : Cy} {ev : List Ev} {V : Nat → Value} {N : Nat → Nat} {C : Nat → List Value} {D : Nat → List TJV} (h : Cont st ev V N C D) {w : Nat} (hw : w < 3) (v : Value) (x : List Nat)  :
    Cont { st with ports:=upd st.ports w { st.ports w with queue:=x } } ev (upd V (5+w) v) (upd N (5+w) x.length) (upd (upd C (5+w) (x.flatMap rowN)) 2 ((C 2).set (w * 4+1) v)) D:=by
  have uV:∀i,i≠5+w→(upd V (5+w) v) i=V i:=fun i hi=>zA0 _ _ hi
  have uN:∀i,i≠5+w→(upd N (5+w) x.length) i=N i:=fun i hi=>zA0 _ _ hi
  have uC:∀i,i≠5+w→i≠2→(upd (upd C (5+w) (x.flatMap rowN)) 2 ((C 2).set (w * 4+1) v)) i=C i:=fun i hi hj=>by rw[zA0 _ _ hj,zA0 _ _ hi]
  exact {
    n0:=by rw[uN (0) (by omega)];exact h.n0
    c0:=by rw[uC (0) (by omega) (by omega)];exact h.c0
    n1:=by rw[uN (1) (by omega)];exact h.n1
    c1:=by rw[uC (1) (by omega) (by omega)];exact h.c1
    n2:=by rw[uN (2) (by omega)];exact h.n2
    c2:=by
      rw[zA1,h.c2];rcases(show w=0∨w=1∨w=2 by omega)with rfl|rfl|rfl <;> simp[upd,ptRow,svRow]
    n3:=by rw[uN (3) (by omega)];exact h.n3
    c3:=by rw[uC (3) (by omega) (by omega)];rw[h.c3];exact(by simp only[ptRow,svRow];repeat rw[uV _ (by omega)])
    n4:=by rw[uN (4) (by omega)];exact h.n4
    c4:=by rw[uC (4) (by omega) (by omega)];exact h.c4
    t4:=by exact h.t4
    nq:=fun i hi=>by
      by_cases e:i=w
      · subst e;simp[upd]
      · rw[uN _ (by omega)];show _=(upd st.ports w { st.ports w with queue:=x } i).queue.length;rw[zA0 _ _ e];exact h.nq i hi
    cq:=fun i hi=>by
      by_cases e:i=w
      · subst e;rw[zA0 _ _ (show 5+i≠2 by omega),zA1];simp[upd]
      · rw[uC _ (by omega) (by omega)];show _=(upd st.ports w { st.ports w with queue:=x } i).queue.flatMap rowN;rw[zA0 _ _ e];exact h.cq i hi
    no:=fun i hi=>by show _=(upd st.ports w { st.ports w with queue:=x } i).out.length;rw[show(upd st.ports w { st.ports w with queue:=x } i).out=(st.ports i).out from by unfold upd;split <;> simp[*]];rw[uN (8+i) (by omega)];exact h.no i hi
    co:=fun i hi=>by show _=(upd st.ports w { st.ports w with queue:=x } i).out.flatMap jbRow;rw[show(upd st.ports w { st.ports w with queue:=x } i).out=(st.ports i).out from by unfold upd;split <;> simp[*]];rw[uC (8+i) (by omega) (by omega)];exact h.co i hi
    np:=fun i hi=>by rw[uN (11+i) (by omega)];exact h.np i hi
    cp:=fun i hi=>by rw[uC (11+i) (by omega) (by omega)];exact h.cp i hi
    nd:=fun i hi=>by rw[uN (15+i) (by omega)];exact h.nd i hi
    cd:=fun i hi=>by rw[uC (15+i) (by omega) (by omega)];exact h.cd i hi
    td:=fun i hi=>by exact h.td i hi
    ne:=by rw[uN (19) (by omega)];exact h.ne
    ce:=by rw[uC (19) (by omega) (by omega)];exact h.ce }
theorem Cont.out {st : Cy} {ev : List Ev} {V : Nat → Value} {N : Nat → Nat} {C : Nat → List Value} {D : Nat → List TJV} (h : Cont st ev V N C D) {w : Nat} (hw : w < 3) (v : Value) (x : List Jb)  :
    Cont { st with ports:=upd st.ports w { st.ports w with out:=x } } ev (upd V (8+w) v) (upd N (8+w) x.length) (upd (upd C (8+w) (x.flatMap jbRow)) 2 ((C 2).set (w * 4+2) v)) D:=by
  have uV:∀i,i≠8+w→(upd V (8+w) v) i=V i:=fun i hi=>zA0 _ _ hi
  have uN:∀i,i≠8+w→(upd N (8+w) x.length) i=N i:=fun i hi=>zA0 _ _ hi
  have uC:∀i,i≠8+w→i≠2→(upd (upd C (8+w) (x.flatMap jbRow)) 2 ((C 2).set (w * 4+2) v)) i=C i:=fun i hi hj=>by rw[zA0 _ _ hj,zA0 _ _ hi]
  exact {
    n0:=by rw[uN (0) (by omega)];exact h.n0
    c0:=by rw[uC (0) (by omega) (by omega)];exact h.c0
    n1:=by rw[uN (1) (by omega)];exact h.n1
    c1:=by rw[uC (1) (by omega) (by omega)];exact h.c1
    n2:=by rw[uN (2) (by omega)];exact h.n2
    c2:=by
      rw[zA1,h.c2];rcases(show w=0∨w=1∨w=2 by omega)with rfl|rfl|rfl <;> simp[upd,ptRow,svRow]
    n3:=by rw[uN (3) (by omega)];exact h.n3
    c3:=by rw[uC (3) (by omega) (by omega)];rw[h.c3];exact(by simp only[ptRow,svRow];repeat rw[uV _ (by omega)])
    n4:=by rw[uN (4) (by omega)];exact h.n4
    c4:=by rw[uC (4) (by omega) (by omega)];exact h.c4
    t4:=by exact h.t4
    nq:=fun i hi=>by show _=(upd st.ports w { st.ports w with out:=x } i).queue.length;rw[show(upd st.ports w { st.ports w with out:=x } i).queue=(st.ports i).queue from by unfold upd;split <;> simp[*]];rw[uN (5+i) (by omega)];exact h.nq i hi
    cq:=fun i hi=>by show _=(upd st.ports w { st.ports w with out:=x } i).queue.flatMap rowN;rw[show(upd st.ports w { st.ports w with out:=x } i).queue=(st.ports i).queue from by unfold upd;split <;> simp[*]];rw[uC (5+i) (by omega) (by omega)];exact h.cq i hi
    no:=fun i hi=>by
      by_cases e:i=w
      · subst e;simp[upd]
      · rw[uN _ (by omega)];show _=(upd st.ports w { st.ports w with out:=x } i).out.length;rw[zA0 _ _ e];exact h.no i hi
    co:=fun i hi=>by
      by_cases e:i=w
      · subst e;rw[zA0 _ _ (show 8+i≠2 by omega),zA1];simp[upd]
      · rw[uC _ (by omega) (by omega)];show _=(upd st.ports w { st.ports w with out:=x } i).out.flatMap jbRow;rw[zA0 _ _ e];exact h.co i hi
    np:=fun i hi=>by rw[uN (11+i) (by omega)];exact h.np i hi
    cp:=fun i hi=>by rw[uC (11+i) (by omega) (by omega)];exact h.cp i hi
    nd:=fun i hi=>by rw[uN (15+i) (by omega)];exact h.nd i hi
    cd:=fun i hi=>by rw[uC (15+i) (by omega) (by omega)];exact h.cd i hi
    td:=fun i hi=>by exact h.td i hi
    ne:=by rw[uN (19) (by omega)];exact h.ne
    ce:=by rw[uC (19) (by omega) (by omega)];exact h.ce }
theorem Cont.pipe {st : Cy} {ev : List Ev} {V : Nat → Value} {N : Nat → Nat} {C : Nat → List Value} {D : Nat → List TJV} (h : Cont st ev V N C D) {s : Nat} (hs : s < 4) (v : Value) (x : List Jb)  :
    Cont { st with slaves:=upd st.slaves s { st.slaves s with pipe:=x } } ev (upd V (11+s) v) (upd N (11+s) x.length) (upd (upd C (11+s) (x.flatMap jbRow)) 3 ((C 3).set (s * 3+0) v)) D:=by
  have uV:∀i,i≠11+s→(upd V (11+s) v) i=V i:=fun i hi=>zA0 _ _ hi
  have uN:∀i,i≠11+s→(upd N (11+s) x.length) i=N i:=fun i hi=>zA0 _ _ hi
  have uC:∀i,i≠11+s→i≠3→(upd (upd C (11+s) (x.flatMap jbRow)) 3 ((C 3).set (s * 3+0) v)) i=C i:=fun i hi hj=>by rw[zA0 _ _ hj,zA0 _ _ hi]
  exact {
    n0:=by rw[uN (0) (by omega)];exact h.n0
    c0:=by rw[uC (0) (by omega) (by omega)];exact h.c0
    n1:=by rw[uN (1) (by omega)];exact h.n1
    c1:=by rw[uC (1) (by omega) (by omega)];exact h.c1
    n2:=by rw[uN (2) (by omega)];exact h.n2
    c2:=by rw[uC (2) (by omega) (by omega)];rw[h.c2];exact(by simp only[ptRow,svRow];repeat rw[uV _ (by omega)])
    n3:=by rw[uN (3) (by omega)];exact h.n3
    c3:=by
      rw[zA1,h.c3];rcases(show s=0∨s=1∨s=2∨s=3 by omega)with rfl|rfl|rfl|rfl <;> simp[upd,ptRow,svRow]
    n4:=by rw[uN (4) (by omega)];exact h.n4
    c4:=by rw[uC (4) (by omega) (by omega)];exact h.c4
    t4:=by exact h.t4
    nq:=fun i hi=>by rw[uN (5+i) (by omega)];exact h.nq i hi
    cq:=fun i hi=>by rw[uC (5+i) (by omega) (by omega)];exact h.cq i hi
    no:=fun i hi=>by rw[uN (8+i) (by omega)];exact h.no i hi
    co:=fun i hi=>by rw[uC (8+i) (by omega) (by omega)];exact h.co i hi
    np:=fun i hi=>by
      by_cases e:i=s
      · subst e;simp[upd]
      · rw[uN _ (by omega)];show _=(upd st.slaves s { st.slaves s with pipe:=x } i).pipe.length;rw[zA0 _ _ e];exact h.np i hi
    cp:=fun i hi=>by
      by_cases e:i=s
      · subst e;rw[zA0 _ _ (show 11+i≠3 by omega),zA1];simp[upd]
      · rw[uC _ (by omega) (by omega)];show _=(upd st.slaves s { st.slaves s with pipe:=x } i).pipe.flatMap jbRow;rw[zA0 _ _ e];exact h.cp i hi
    nd:=fun i hi=>by show _=(upd st.slaves s { st.slaves s with pipe:=x } i).done.length;rw[show(upd st.slaves s { st.slaves s with pipe:=x } i).done=(st.slaves i).done from by unfold upd;split <;> simp[*]];rw[uN (15+i) (by omega)];exact h.nd i hi
    cd:=fun i hi=>by rw[uC (15+i) (by omega) (by omega)];exact h.cd i hi
    td:=fun i hi=>by show _=(upd st.slaves s { st.slaves s with pipe:=x } i).done;rw[show(upd st.slaves s { st.slaves s with pipe:=x } i).done=(st.slaves i).done from by unfold upd;split <;> simp[*]];exact h.td i hi
    ne:=by rw[uN (19) (by omega)];exact h.ne
    ce:=by rw[uC (19) (by omega) (by omega)];exact h.ce }
theorem Cont.done {st : Cy} {ev : List Ev} {V : Nat → Value} {N : Nat → Nat} {C : Nat → List Value} {D : Nat → List TJV} (h : Cont st ev V N C D) {s : Nat} (hs : s < 4) (v : Value) (X : List TJV)  :
    Cont { st with slaves:=upd st.slaves s { st.slaves s with done:=X.map (·.1) } } ev (upd V (15+s) v) (upd N (15+s) X.length) (upd (upd C (15+s) (X.flatMap tjRow)) 3 ((C 3).set (s * 3+1) v)) (upd D (15+s) X):=by
  have uV:∀i,i≠15+s→(upd V (15+s) v) i=V i:=fun i hi=>zA0 _ _ hi
  have uN:∀i,i≠15+s→(upd N (15+s) X.length) i=N i:=fun i hi=>zA0 _ _ hi
  have uC:∀i,i≠15+s→i≠3→(upd (upd C (15+s) (X.flatMap tjRow)) 3 ((C 3).set (s * 3+1) v)) i=C i:=fun i hi hj=>by rw[zA0 _ _ hj,zA0 _ _ hi]
  have uD:∀i,i≠15+s→(upd D (15+s) X) i=D i:=fun i hi=>zA0 _ _ hi
  exact {
    n0:=by rw[uN (0) (by omega)];exact h.n0
    c0:=by rw[uC (0) (by omega) (by omega)];exact h.c0
    n1:=by rw[uN (1) (by omega)];exact h.n1
    c1:=by rw[uC (1) (by omega) (by omega)];exact h.c1
    n2:=by rw[uN (2) (by omega)];exact h.n2
    c2:=by rw[uC (2) (by omega) (by omega)];rw[h.c2];exact(by simp only[ptRow,svRow];repeat rw[uV _ (by omega)])
    n3:=by rw[uN (3) (by omega)];exact h.n3
    c3:=by
      rw[zA1,h.c3];rcases(show s=0∨s=1∨s=2∨s=3 by omega)with rfl|rfl|rfl|rfl <;> simp[upd,ptRow,svRow]
    n4:=by rw[uN (4) (by omega)];exact h.n4
    c4:=by rw[uD (4) (by omega)];rw[uC (4) (by omega) (by omega)];exact h.c4
    t4:=by rw[uD (4) (by omega)];exact h.t4
    nq:=fun i hi=>by rw[uN (5+i) (by omega)];exact h.nq i hi
    cq:=fun i hi=>by rw[uC (5+i) (by omega) (by omega)];exact h.cq i hi
    no:=fun i hi=>by rw[uN (8+i) (by omega)];exact h.no i hi
    co:=fun i hi=>by rw[uC (8+i) (by omega) (by omega)];exact h.co i hi
    np:=fun i hi=>by show _=(upd st.slaves s { st.slaves s with done:=X.map (·.1) } i).pipe.length;rw[show(upd st.slaves s { st.slaves s with done:=X.map (·.1) } i).pipe=(st.slaves i).pipe from by unfold upd;split <;> simp[*]];rw[uN (11+i) (by omega)];exact h.np i hi
    cp:=fun i hi=>by show _=(upd st.slaves s { st.slaves s with done:=X.map (·.1) } i).pipe.flatMap jbRow;rw[show(upd st.slaves s { st.slaves s with done:=X.map (·.1) } i).pipe=(st.slaves i).pipe from by unfold upd;split <;> simp[*]];rw[uC (11+i) (by omega) (by omega)];exact h.cp i hi
    nd:=fun i hi=>by
      by_cases e:i=s
      · subst e;simp[upd]
      · rw[uN _ (by omega)];show _=(upd st.slaves s { st.slaves s with done:=X.map (·.1) } i).done.length;rw[zA0 _ _ e];exact h.nd i hi
    cd:=fun i hi=>by
      by_cases e:i=s
      · subst e;rw[zA0 _ _ (show 15+i≠3 by omega),zA1,zA1]
      · rw[uC _ (by omega) (by omega),uD _ (by omega)];exact h.cd i hi
    td:=fun i hi=>by
      by_cases e:i=s
      · subst e;simp[upd]
      · rw[uD _ (by omega)];show _=(upd st.slaves s { st.slaves s with done:=X.map (·.1) } i).done;rw[zA0 _ _ e];exact h.td i hi
    ne:=by rw[uN (19) (by omega)];exact h.ne
    ce:=by rw[uC (19) (by omega) (by omega)];exact h.ce }
theorem Cont.told {st : Cy} {ev : List Ev} {V : Nat → Value} {N : Nat → Nat} {C : Nat → List Value} {D : Nat → List TJV} (h : Cont st ev V N C D) (v : Value) (X : List TJV)  :
    Cont { st with told:=X.map (·.1) } ev (upd V (4) v) (upd N (4) X.length) (upd C (4) (X.flatMap tjRow)) (upd D 4 X):=by
  have uV:∀i,i≠4→(upd V (4) v) i=V i:=fun i hi=>zA0 _ _ hi
  have uN:∀i,i≠4→(upd N (4) X.length) i=N i:=fun i hi=>zA0 _ _ hi
  have uC:∀i,i≠4→(upd C (4) (X.flatMap tjRow)) i=C i:=fun i hi=>zA0 _ _ hi
  have uD:∀i,i≠4→(upd D 4 X) i=D i:=fun i hi=>zA0 _ _ hi
  exact {
    n0:=by rw[uN (0) (by omega)];exact h.n0
    c0:=by rw[uC (0) (by omega)];exact h.c0
    n1:=by rw[uN (1) (by omega)];exact h.n1
    c1:=by rw[uC (1) (by omega)];exact h.c1
    n2:=by rw[uN (2) (by omega)];exact h.n2
    c2:=by rw[uC (2) (by omega)];rw[h.c2];exact(by simp only[ptRow,svRow];repeat rw[uV _ (by omega)])
    n3:=by rw[uN (3) (by omega)];exact h.n3
    c3:=by rw[uC (3) (by omega)];rw[h.c3];exact(by simp only[ptRow,svRow];repeat rw[uV _ (by omega)])
    n4:=by simp[upd]
    c4:=by rw[zA1,zA1]
    t4:=by rw[zA1]
    nq:=fun i hi=>by rw[uN (5+i) (by omega)];exact h.nq i hi
    cq:=fun i hi=>by rw[uC (5+i) (by omega)];exact h.cq i hi
    no:=fun i hi=>by rw[uN (8+i) (by omega)];exact h.no i hi
    co:=fun i hi=>by rw[uC (8+i) (by omega)];exact h.co i hi
    np:=fun i hi=>by rw[uN (11+i) (by omega)];exact h.np i hi
    cp:=fun i hi=>by rw[uC (11+i) (by omega)];exact h.cp i hi
    nd:=fun i hi=>by rw[uN (15+i) (by omega)];exact h.nd i hi
    cd:=fun i hi=>by rw[uD (15+i) (by omega)];rw[uC (15+i) (by omega)];exact h.cd i hi
    td:=fun i hi=>by rw[uD (15+i) (by omega)];exact h.td i hi
    ne:=by rw[uN (19) (by omega)];exact h.ne
    ce:=by rw[uC (19) (by omega)];exact h.ce }
theorem Cont.evts {st : Cy} {ev : List Ev} {V : Nat → Value} {N : Nat → Nat} {C : Nat → List Value} {D : Nat → List TJV} (h : Cont st ev V N C D) (v : Value) (e : List Ev)  :
    Cont st e (upd V (19) v) (upd N (19) e.length) (upd C (19) (e.flatMap evRow)) D:=by
  have uV:∀i,i≠19→(upd V (19) v) i=V i:=fun i hi=>zA0 _ _ hi
  have uN:∀i,i≠19→(upd N (19) e.length) i=N i:=fun i hi=>zA0 _ _ hi
  have uC:∀i,i≠19→(upd C (19) (e.flatMap evRow)) i=C i:=fun i hi=>zA0 _ _ hi
  exact {
    n0:=by rw[uN (0) (by omega)];exact h.n0
    c0:=by rw[uC (0) (by omega)];exact h.c0
    n1:=by rw[uN (1) (by omega)];exact h.n1
    c1:=by rw[uC (1) (by omega)];exact h.c1
    n2:=by rw[uN (2) (by omega)];exact h.n2
    c2:=by rw[uC (2) (by omega)];rw[h.c2];exact(by simp only[ptRow,svRow];repeat rw[uV _ (by omega)])
    n3:=by rw[uN (3) (by omega)];exact h.n3
    c3:=by rw[uC (3) (by omega)];rw[h.c3];exact(by simp only[ptRow,svRow];repeat rw[uV _ (by omega)])
    n4:=by rw[uN (4) (by omega)];exact h.n4
    c4:=by rw[uC (4) (by omega)];exact h.c4
    t4:=by exact h.t4
    nq:=fun i hi=>by rw[uN (5+i) (by omega)];exact h.nq i hi
    cq:=fun i hi=>by rw[uC (5+i) (by omega)];exact h.cq i hi
    no:=fun i hi=>by rw[uN (8+i) (by omega)];exact h.no i hi
    co:=fun i hi=>by rw[uC (8+i) (by omega)];exact h.co i hi
    np:=fun i hi=>by rw[uN (11+i) (by omega)];exact h.np i hi
    cp:=fun i hi=>by rw[uC (11+i) (by omega)];exact h.cp i hi
    nd:=fun i hi=>by rw[uN (15+i) (by omega)];exact h.nd i hi
    cd:=fun i hi=>by rw[uC (15+i) (by omega)];exact h.cd i hi
    td:=fun i hi=>by exact h.td i hi
    ne:=by rw[zA1]
    ce:=by rw[zA1] }
theorem Cont.next {st : Cy} {ev : List Ev} {V : Nat → Value} {N : Nat → Nat} {C : Nat → List Value} {D : Nat → List TJV} (h : Cont st ev V N C D) {w : Nat} (hw : w < 3) (x : Nat)  :
    Cont { st with ports:=upd st.ports w { st.ports w with next:=x } } ev V N (upd C 2 ((C 2).set (w * 4+0) (.int .i64 (x:Nat)))) D:=by
  have uC:∀i,i≠2→(upd C 2 ((C 2).set (w * 4+0) (.int .i64 (x:Nat)))) i=C i:=fun i hi=>zA0 _ _ hi
  exact {
    n0:=by exact h.n0
    c0:=by rw[uC (0) (by omega)];exact h.c0
    n1:=by exact h.n1
    c1:=by rw[uC (1) (by omega)];exact h.c1
    n2:=by exact h.n2
    c2:=by
      rw[zA1,h.c2];rcases(show w=0∨w=1∨w=2 by omega)with rfl|rfl|rfl <;> simp[upd,ptRow,svRow]
    n3:=by exact h.n3
    c3:=by rw[uC (3) (by omega)];rw[h.c3]
    n4:=by exact h.n4
    c4:=by rw[uC (4) (by omega)];exact h.c4
    t4:=by exact h.t4
    nq:=fun i hi=>by show _=(upd st.ports w { st.ports w with next:=x } i).queue.length;rw[show(upd st.ports w { st.ports w with next:=x } i).queue=(st.ports i).queue from by unfold upd;split <;> simp[*]];exact h.nq i hi
    cq:=fun i hi=>by show _=(upd st.ports w { st.ports w with next:=x } i).queue.flatMap rowN;rw[show(upd st.ports w { st.ports w with next:=x } i).queue=(st.ports i).queue from by unfold upd;split <;> simp[*]];rw[uC (5+i) (by omega)];exact h.cq i hi
    no:=fun i hi=>by show _=(upd st.ports w { st.ports w with next:=x } i).out.length;rw[show(upd st.ports w { st.ports w with next:=x } i).out=(st.ports i).out from by unfold upd;split <;> simp[*]];exact h.no i hi
    co:=fun i hi=>by show _=(upd st.ports w { st.ports w with next:=x } i).out.flatMap jbRow;rw[show(upd st.ports w { st.ports w with next:=x } i).out=(st.ports i).out from by unfold upd;split <;> simp[*]];rw[uC (8+i) (by omega)];exact h.co i hi
    np:=fun i hi=>by exact h.np i hi
    cp:=fun i hi=>by rw[uC (11+i) (by omega)];exact h.cp i hi
    nd:=fun i hi=>by exact h.nd i hi
    cd:=fun i hi=>by rw[uC (15+i) (by omega)];exact h.cd i hi
    td:=fun i hi=>by exact h.td i hi
    ne:=by exact h.ne
    ce:=by rw[uC (19) (by omega)];exact h.ce }
theorem Cont.plast {st : Cy} {ev : List Ev} {V : Nat → Value} {N : Nat → Nat} {C : Nat → List Value} {D : Nat → List TJV} (h : Cont st ev V N C D) {w : Nat} (hw : w < 3) (x : Nat)  :
    Cont { st with ports:=upd st.ports w { st.ports w with last:=x } } ev V N (upd C 2 ((C 2).set (w * 4+3) (.int .i64 (x:Nat)))) D:=by
  have uC:∀i,i≠2→(upd C 2 ((C 2).set (w * 4+3) (.int .i64 (x:Nat)))) i=C i:=fun i hi=>zA0 _ _ hi
  exact {
    n0:=by exact h.n0
    c0:=by rw[uC (0) (by omega)];exact h.c0
    n1:=by exact h.n1
    c1:=by rw[uC (1) (by omega)];exact h.c1
    n2:=by exact h.n2
    c2:=by
      rw[zA1,h.c2];rcases(show w=0∨w=1∨w=2 by omega)with rfl|rfl|rfl <;> simp[upd,ptRow,svRow]
    n3:=by exact h.n3
    c3:=by rw[uC (3) (by omega)];rw[h.c3]
    n4:=by exact h.n4
    c4:=by rw[uC (4) (by omega)];exact h.c4
    t4:=by exact h.t4
    nq:=fun i hi=>by show _=(upd st.ports w { st.ports w with last:=x } i).queue.length;rw[show(upd st.ports w { st.ports w with last:=x } i).queue=(st.ports i).queue from by unfold upd;split <;> simp[*]];exact h.nq i hi
    cq:=fun i hi=>by show _=(upd st.ports w { st.ports w with last:=x } i).queue.flatMap rowN;rw[show(upd st.ports w { st.ports w with last:=x } i).queue=(st.ports i).queue from by unfold upd;split <;> simp[*]];rw[uC (5+i) (by omega)];exact h.cq i hi
    no:=fun i hi=>by show _=(upd st.ports w { st.ports w with last:=x } i).out.length;rw[show(upd st.ports w { st.ports w with last:=x } i).out=(st.ports i).out from by unfold upd;split <;> simp[*]];exact h.no i hi
    co:=fun i hi=>by show _=(upd st.ports w { st.ports w with last:=x } i).out.flatMap jbRow;rw[show(upd st.ports w { st.ports w with last:=x } i).out=(st.ports i).out from by unfold upd;split <;> simp[*]];rw[uC (8+i) (by omega)];exact h.co i hi
    np:=fun i hi=>by exact h.np i hi
    cp:=fun i hi=>by rw[uC (11+i) (by omega)];exact h.cp i hi
    nd:=fun i hi=>by exact h.nd i hi
    cd:=fun i hi=>by rw[uC (15+i) (by omega)];exact h.cd i hi
    td:=fun i hi=>by exact h.td i hi
    ne:=by exact h.ne
    ce:=by rw[uC (19) (by omega)];exact h.ce }
theorem Cont.slast {st : Cy} {ev : List Ev} {V : Nat → Value} {N : Nat → Nat} {C : Nat → List Value} {D : Nat → List TJV} (h : Cont st ev V N C D) {s : Nat} (hs : s < 4) (x : Nat)  :
    Cont { st with slaves:=upd st.slaves s { st.slaves s with last:=x } } ev V N (upd C 3 ((C 3).set (s * 3+2) (.int .i64 (x:Nat)))) D:=by
  have uC:∀i,i≠3→(upd C 3 ((C 3).set (s * 3+2) (.int .i64 (x:Nat)))) i=C i:=fun i hi=>zA0 _ _ hi
  exact {
    n0:=by exact h.n0
    c0:=by rw[uC (0) (by omega)];exact h.c0
    n1:=by exact h.n1
    c1:=by rw[uC (1) (by omega)];exact h.c1
    n2:=by exact h.n2
    c2:=by rw[uC (2) (by omega)];rw[h.c2]
    n3:=by exact h.n3
    c3:=by
      rw[zA1,h.c3];rcases(show s=0∨s=1∨s=2∨s=3 by omega)with rfl|rfl|rfl|rfl <;> simp[upd,ptRow,svRow]
    n4:=by exact h.n4
    c4:=by rw[uC (4) (by omega)];exact h.c4
    t4:=by exact h.t4
    nq:=fun i hi=>by exact h.nq i hi
    cq:=fun i hi=>by rw[uC (5+i) (by omega)];exact h.cq i hi
    no:=fun i hi=>by exact h.no i hi
    co:=fun i hi=>by rw[uC (8+i) (by omega)];exact h.co i hi
    np:=fun i hi=>by show _=(upd st.slaves s { st.slaves s with last:=x } i).pipe.length;rw[show(upd st.slaves s { st.slaves s with last:=x } i).pipe=(st.slaves i).pipe from by unfold upd;split <;> simp[*]];exact h.np i hi
    cp:=fun i hi=>by show _=(upd st.slaves s { st.slaves s with last:=x } i).pipe.flatMap jbRow;rw[show(upd st.slaves s { st.slaves s with last:=x } i).pipe=(st.slaves i).pipe from by unfold upd;split <;> simp[*]];rw[uC (11+i) (by omega)];exact h.cp i hi
    nd:=fun i hi=>by show _=(upd st.slaves s { st.slaves s with last:=x } i).done.length;rw[show(upd st.slaves s { st.slaves s with last:=x } i).done=(st.slaves i).done from by unfold upd;split <;> simp[*]];exact h.nd i hi
    cd:=fun i hi=>by rw[uC (15+i) (by omega)];exact h.cd i hi
    td:=fun i hi=>by show _=(upd st.slaves s { st.slaves s with last:=x } i).done;rw[show(upd st.slaves s { st.slaves s with last:=x } i).done=(st.slaves i).done from by unfold upd;split <;> simp[*]];exact h.td i hi
    ne:=by exact h.ne
    ce:=by rw[uC (19) (by omega)];exact h.ce }
theorem Cont.pleft {st : Cy} {ev : List Ev} {V : Nat → Value} {N : Nat → Nat} {C : Nat → List Value} {D : Nat → List TJV} (h : Cont st ev V N C D) {s : Nat} (hs : s < 4) {j : Jb} {rest : List Jb} (hp : (st.slaves s).pipe = j :: rest) (x : Nat)  :
    Cont { st with slaves:=upd st.slaves s { st.slaves s with pipe:=⟨j.who,j.n,x⟩::rest } } ev V N (upd C (11+s) ((C (11+s)).set 2 (.int .i64 (x:Nat)))) D:=by
  have uC:∀i,i≠(11+s)→(upd C (11+s) ((C (11+s)).set 2 (.int .i64 (x:Nat)))) i=C i:=fun i hi=>zA0 _ _ hi
  exact {
    n0:=by exact h.n0
    c0:=by rw[uC (0) (by omega)];exact h.c0
    n1:=by exact h.n1
    c1:=by rw[uC (1) (by omega)];exact h.c1
    n2:=by exact h.n2
    c2:=by rw[uC (2) (by omega)];rw[h.c2]
    n3:=by exact h.n3
    c3:=by rw[uC (3) (by omega)];rw[h.c3];rcases(show s=0∨s=1∨s=2∨s=3 by omega)with rfl|rfl|rfl|rfl <;> simp[upd,svRow]
    n4:=by exact h.n4
    c4:=by rw[uC (4) (by omega)];exact h.c4
    t4:=by exact h.t4
    nq:=fun i hi=>by exact h.nq i hi
    cq:=fun i hi=>by rw[uC (5+i) (by omega)];exact h.cq i hi
    no:=fun i hi=>by exact h.no i hi
    co:=fun i hi=>by rw[uC (8+i) (by omega)];exact h.co i hi
    np:=fun i hi=>by
      show _=(upd st.slaves s { st.slaves s with pipe:=⟨j.who,j.n,x⟩::rest } i).pipe.length;by_cases e:i=s
      · subst e;rw[zA1,h.np i hi,hp];rfl
      · rw[zA0 _ _ e];exact h.np i hi
    cp:=fun i hi=>by
      show _=(upd st.slaves s { st.slaves s with pipe:=⟨j.who,j.n,x⟩::rest } i).pipe.flatMap jbRow;by_cases e:i=s
      · subst e;rw[zA1,zA1,h.cp i hi,hp];simp[jbRow]
      · rw[uC _ (by omega),zA0 _ _ e];exact h.cp i hi
    nd:=fun i hi=>by show _=(upd st.slaves s { st.slaves s with pipe:=⟨j.who,j.n,x⟩::rest } i).done.length;rw[show(upd st.slaves s { st.slaves s with pipe:=⟨j.who,j.n,x⟩::rest } i).done=(st.slaves i).done from by unfold upd;split <;> simp[*]];exact h.nd i hi
    cd:=fun i hi=>by rw[uC (15+i) (by omega)];exact h.cd i hi
    td:=fun i hi=>by show _=(upd st.slaves s { st.slaves s with pipe:=⟨j.who,j.n,x⟩::rest } i).done;rw[show(upd st.slaves s { st.slaves s with pipe:=⟨j.who,j.n,x⟩::rest } i).done=(st.slaves i).done from by unfold upd;split <;> simp[*]];exact h.td i hi
    ne:=by exact h.ne
    ce:=by rw[uC (19) (by omega)];exact h.ce }
end Go.Proofs.YtgkdoehkmbhfiaaGreat
