/- The cycle engine: what holds of a bus that was only let run: Good; each part of a cycle keeps it. -/
import Derived.Test.YthnlalffjepdaaaGreatGDo4
import Derived.Test.YthnlalffjepdaaaGreatGLib
set_option linter.unusedVariables false
set_option linter.unusedSimpArgs false
namespace Go.Proofs.YthnlalffjepdaaaGreat
open Go.RowKit
theorem reqOk_parts {r : Rq} (h : reqOk r = true) : inB r.id 0 1 = true ∧ inB r.kind 1 4 = true ∧ adrOk r.addr r.many r.wrap = true ∧
  ((r.kind==2 || r.kind==4)=true→r.data.length=(burst r.addr r.many r.wrap).length∧r.lanes.length=(burst r.addr r.many r.wrap).length∧r.data.all wordOk=true∧r.lanes.all (fun l=>inB l 0 3)=true)∧(r.kind=3∨r.kind=4→r.many=1):=by
 have h':=h;simp only[reqOk,Bool.and_eq_true]at h';obtain⟨⟨⟨⟨h1,h2⟩,h3⟩,h4⟩,h5⟩:=h';refine⟨h1,h2,h3,fun hw=>?_,fun hk=>?_⟩
 ·unfold rqWrites at h5;rw[if_pos hw]at h5;simp only[Bool.and_eq_true,beq_iff_eq]at h5;obtain⟨⟨⟨h6,h7⟩,h8⟩,h9⟩:=h5;have hl:(burst r.addr r.many r.wrap).length=r.many.toNat:=by rw[burst_yes h3,burstK_len]
  exact⟨by omega,by omega,h8,h9⟩
 ·simp only[Bool.or_eq_true,beq_iff_eq]at h4;omega
theorem do_any (v u : Value) (ms : List MR) (B S gw ow cw gh oh ch : Nat) (ws hs : List Int) (who : Int) (r : Rq) (w : World) (hv : Maps w B v ms) (h : AtmAt w B S gw ow cw gh oh ch ws hs) (hu : ReqV w B u r) (hwho : inB who 0 2 = true) (hq : reqOk r = true) (hws : ws.all wordOk = true) :
  Calls Tryz.prog 101 #[.pointer (some ⟨S,0,none⟩),v,.int .i64 who,u] w (DoP B S gw ow cw gh oh ch (doReq ms ws hs who r).1 (doReq ms ws hs who r).2.1 (doReq ms ws hs who r).2.2 w):=by
 obtain⟨h1,h2,h3,h4,h5⟩:=reqOk_parts hq;obtain⟨dv,lv,rfl,k1,k2,k3⟩:=hu;have hd1:∃a n c,dv=.slice a n c:=by obtain⟨a,c,h,_⟩:=k1.1;exact⟨_,_,_,h⟩
 have hd2:∃a n c,lv=.slice a n c:=by obtain⟨a,c,h,_⟩:=k2.1;exact⟨_,_,_,h⟩
 have haddr:inB r.addr 0 63=true:=by
  obtain⟨g0,g1,_⟩:=(adrOk_eq r.addr r.many r.wrap).1 h3;simp[inB,g0,g1]
 have hkk:1≤r.kind∧r.kind≤4:=by simpa[inB]using h2
 by_cases hz:wholeOf ms (burst r.addr r.many r.wrap)<0
 ·have e:doReq ms ws hs who r=(ws,hs,⟨r.id,4,[]⟩):=by simp[doReq,rqBurst,hz]
  rw[e];exact do_none v ms B S gw ow cw gh oh ch ws hs who _ _ _ _ _ dv lv w hv h hd1 hd2 hwho h1 hz
 ·have hz0:0≤wholeOf ms (burst r.addr r.many r.wrap):=by omega
  rcases hw:rqWrites r with _|_
  ·have hk:r.kind=1∨r.kind=3:=by simp[rqWrites]at hw;omega
   rcases hk with hk|hk
   ·have e:doReq ms ws hs who r=(ws,hs,⟨r.id,1,getAll ws (burst r.addr r.many r.wrap)⟩):=by
     simp[doReq,rqBurst,hz,hw,hk]
    rw[e];exact do_read v ms B S gw ow cw gh oh ch ws hs who _ _ _ _ _ dv lv w hv h hd1 hd2 hwho h1 hz0 hk haddr
   ·have e:doReq ms ws hs who r=(ws,hs.set (who * 2+r.id).toNat r.addr,⟨r.id,2,getAll ws (burst r.addr r.many r.wrap)⟩):=by
     simp[doReq,rqBurst,hz,hw,hk]
    rw[e];exact do_hold v ms B S gw ow cw gh oh ch ws hs who _ _ _ _ _ dv lv w hv h hd1 hd2 hwho h1 hz0 hk haddr
  ·have hw':(r.kind==2 || r.kind==4)=true:=hw;obtain⟨d1,d2,d3,d4⟩:=h4 hw';rcases ho:(ms.getD (wholeOf ms (burst r.addr r.many r.wrap)).toNat default).only with _|_
   ·have hk:r.kind=2∨r.kind=4:=by simpa using hw'
    rcases hk with hk|hk
    ·have e:doReq ms ws hs who r=(putAll ws (burst r.addr r.many r.wrap) r.data r.lanes,freeAll hs (burst r.addr r.many r.wrap),⟨r.id,1,[]⟩):=by
      simp[doReq,rqBurst,hz,hw,ho,hk,-List.getD_eq_getElem?_getD]
     rw[e];exact do_write v ms B S gw ow cw gh oh ch ws hs who _ _ _ _ _ dv lv w hv h hwho h1 hz0 hk ho _ _ k1 k2 d1 d2 d3 d4 hws
    ·by_cases hh:hs.getD (who * 2+r.id).toNat 0=r.addr
     ·have e:doReq ms ws hs who r=(putAll ws (burst r.addr r.many r.wrap) r.data r.lanes,freeAll hs (burst r.addr r.many r.wrap),⟨r.id,2,[]⟩):=by
       simp[doReq,rqBurst,hz,hw,ho,hk,hh,-List.getD_eq_getElem?_getD]
      rw[e];exact do_try v ms B S gw ow cw gh oh ch ws hs who _ _ _ _ _ dv lv w hv h hwho h1 hz0 hk ho _ _ k1 k2 d1 d2 d3 d4 hws hh
     ·have e:doReq ms ws hs who r=(ws,hs,⟨r.id,1,[]⟩):=by
       simp[doReq,rqBurst,hz,hw,ho,hk,hh,-List.getD_eq_getElem?_getD]
      rw[e];exact do_tryno v ms B S gw ow cw gh oh ch ws hs who _ _ _ _ _ dv lv w hv h hd1 hd2 hwho h1 hz0 (by rw[hk];rfl) ho hh
   ·have e:doReq ms ws hs who r=(ws,hs,⟨r.id,3,[]⟩):=by
     simp[doReq,rqBurst,hz,hw,ho,-List.getD_eq_getElem?_getD]
    rw[e];exact do_deny v ms B S gw ow cw gh oh ch ws hs who _ _ _ _ _ dv lv w hv h hd1 hd2 hwho h1 hz0 hw' ho
theorem doReq_ok {ms:List MR} {ws hs:List Int} {who:Int} {r:Rq} (hwho:inB who 0 2=true) (hq:reqOk r=true) (ha:atmOk ws hs=true):atmOk (doReq ms ws hs who r).1 (doReq ms ws hs who r).2.1=true:=by
 obtain⟨h1,h2,h3,h4,h5⟩:=reqOk_parts hq;have ha':=ha;simp only[atmOk,memOk,Bool.and_eq_true,beq_iff_eq]at ha';obtain⟨⟨⟨a1,a2⟩,a3⟩,a4⟩:=ha';have haddr:inB r.addr (-1) 63=true:=by
  obtain⟨g0,g1,_⟩:=(adrOk_eq r.addr r.many r.wrap).1 h3;simp[inB];omega
 have hkk:1≤r.kind∧r.kind≤4:=by simpa[inB]using h2
 by_cases hz:wholeOf ms (burst r.addr r.many r.wrap)<0
 ·have e:doReq ms ws hs who r=(ws,hs,⟨r.id,4,[]⟩):=by simp[doReq,rqBurst,hz]
  rw[e];exact ha
 ·rcases hw:rqWrites r with _|_
  ·have hk:r.kind=1∨r.kind=3:=by simp[rqWrites]at hw;omega
   rcases hk with hk|hk
   ·have e:doReq ms ws hs who r=(ws,hs,⟨r.id,1,getAll ws (burst r.addr r.many r.wrap)⟩):=by simp[doReq,rqBurst,hz,hw,hk]
    rw[e];exact ha
   ·have e:doReq ms ws hs who r=(ws,hs.set (who * 2+r.id).toNat r.addr,⟨r.id,2,getAll ws (burst r.addr r.many r.wrap)⟩):=by simp[doReq,rqBurst,hz,hw,hk]
    rw[e];simp only[atmOk,memOk,Bool.and_eq_true,beq_iff_eq];exact⟨⟨⟨a1,a2⟩,by simpa using a3⟩,all_set (p:=fun h=>inB h (-1) 63) a4 haddr⟩
  ·have hw':(r.kind==2 || r.kind==4)=true:=hw;obtain⟨d1,d2,d3,d4⟩:=h4 hw';rcases ho:(ms.getD (wholeOf ms (burst r.addr r.many r.wrap)).toNat default).only with _|_
   ·by_cases hh:(r.kind==4&&!(hs.getD (who * 2+r.id).toNat 0==r.addr))=true
    ·have e:(doReq ms ws hs who r).1=ws∧(doReq ms ws hs who r).2.1=hs:=by
      have hk:r.kind=4:=by simp at hh;exact hh.1
      have hn:¬hs.getD (who * 2+r.id).toNat 0=r.addr:=by simp only[Bool.and_eq_true,Bool.not_eq_true', beq_eq_false_iff_ne]at hh;exact hh.2
      simp[doReq,rqBurst,hz,hw,ho,hk,hn,-List.getD_eq_getElem?_getD]
     rw[e.1,e.2];exact ha
    ·have e:(doReq ms ws hs who r).1=putAll ws (burst r.addr r.many r.wrap) r.data r.lanes∧(doReq ms ws hs who r).2.1=freeAll hs (burst r.addr r.many r.wrap):=by
      have hk:r.kind=2∨r.kind=4:=by simpa using hw'
      rcases hk with hk|hk
      ·simp[doReq,rqBurst,hz,hw,ho,hk,-List.getD_eq_getElem?_getD]
      ·have hn:hs.getD (who * 2+r.id).toNat 0=r.addr:=by
        simp only[hk,Bool.not_eq_true,Bool.and_eq_false_iff,Bool.not_eq_false', beq_iff_eq]at hh;rcases hh with hh|hh
        ·simp at hh
        ·exact hh
       simp[doReq,rqBurst,hz,hw,ho,hk,hn,-List.getD_eq_getElem?_getD]
     rw[e.1,e.2];simp only[atmOk,memOk,Bool.and_eq_true,beq_iff_eq];exact⟨⟨⟨by rw[putAll_len];exact a1,putAll_ok _ _ _ _ a2 d3⟩,by simpa[freeAll]using a3⟩,freeAll_ok a4⟩
   ·have e:doReq ms ws hs who r=(ws,hs,⟨r.id,3,[]⟩):=by simp[doReq,rqBurst,hz,hw,ho,-List.getD_eq_getElem?_getD]
    rw[e];exact ha
def atmDo (ms:List MR) (ws hs:List Int) (who:Int) (r:Rq):List Int×List Int×Rs :=
 if(mapOk ms&&atmOk ws hs&&inB who 0 2&&reqOk r)=true then doReq ms ws hs who r else([],[],⟨0,0,[]⟩)
end Go.Proofs.YthnlalffjepdaaaGreat
namespace Go.Proofs.YthnlalffjepdaaaGreat
theorem burst_mem {a m:Int} {wp:Bool} {x:Int} (h:x∈burst a m wp):0≤x∧x≤63:=by
 rcases hA:adrOk a m wp with _|_
 ·rw[burst_no hA]at h;simp at h
 ·rw[burst_yes hA]at h;obtain⟨h0,h1,hm,hw⟩:=(adrOk_eq a m wp).1 hA;obtain⟨j,hj,rfl⟩:=List.mem_map.1 h;rw[List.mem_range]at hj;cases wp
  ·simp at hw;simp;omega
  ·simp;rcases hm with rfl|rfl|rfl <;> omega
theorem burst_nodup (a m:Int) (wp:Bool):(burst a m wp).Nodup:=by
 rcases hA:adrOk a m wp with _|_
 ·rw[burst_no hA];exact List.nodup_nil
 ·rw[burst_yes hA];obtain⟨h0,h1,hm,hw⟩:=(adrOk_eq a m wp).1 hA;unfold burstK List.Nodup;rw[List.pairwise_map];refine List.Pairwise.imp_of_mem ?_ (List.nodup_range (n:=m.toNat));intro i j hi hj hne;rw[List.mem_range]at hi hj;cases wp
  ·simp;omega
  ·simp;rcases hm with rfl|rfl|rfl <;> omega
theorem burst_lenA {a m:Int} {wp:Bool} (h:adrOk a m wp=true):(burst a m wp).length=m.toNat:=by rw[burst_yes h,burstK_len]
theorem do_ways (ms : List MR) (ws hs : List Int) (who : Int) (r : Rq) :
  doReq ms ws hs who r = if wholeOf ms (rqBurst r) < 0 then (ws, hs, ⟨r.id, 4, []⟩)
   else if(rqWrites r&&(ms.getD (wholeOf ms (rqBurst r)).toNat default).only)=true then(ws,hs,⟨r.id,3,[]⟩)
   else if(r.kind==1)=true then(ws,hs,⟨r.id,1,getAll ws (rqBurst r)⟩)
   else if(r.kind==3)=true then(ws,hs.set (who * 2+r.id).toNat r.addr,⟨r.id,2,getAll ws (rqBurst r)⟩)
   else if(r.kind==4&&!(hs.getD (who * 2+r.id).toNat 0==r.addr))=true then(ws,hs,⟨r.id,1,[]⟩)
   else(putAll ws (rqBurst r) r.data r.lanes,freeAll hs (rqBurst r),⟨r.id,if r.kind==4 then 2 else 1,[]⟩):=rfl
inductive Way (ms : List MR) (ws hs : List Int) (who : Int) (r : Rq) : List Int × List Int × Rs → Prop
 |none (h:wholeOf ms (rqBurst r)<0):Way ms ws hs who r (ws,hs,⟨r.id,4,[]⟩)
 |deny (h:0≤wholeOf ms (rqBurst r)) (hk:r.kind=2∨r.kind=4) (ho:(ms.getD (wholeOf ms (rqBurst r)).toNat default).only=true):Way ms ws hs who r (ws,hs,⟨r.id,3,[]⟩)
 |read (h:0≤wholeOf ms (rqBurst r)) (hk:r.kind=1):Way ms ws hs who r (ws,hs,⟨r.id,1,getAll ws (rqBurst r)⟩)
 |hold (h:0≤wholeOf ms (rqBurst r)) (hk:r.kind=3):Way ms ws hs who r (ws,hs.set (who * 2+r.id).toNat r.addr,⟨r.id,2,getAll ws (rqBurst r)⟩)
 |tryno (h:0≤wholeOf ms (rqBurst r)) (hk:r.kind=4) (ho:(ms.getD (wholeOf ms (rqBurst r)).toNat default).only=false) (hh:hs.getD (who * 2+r.id).toNat 0≠r.addr):Way ms ws hs who r (ws,hs,⟨r.id,1,[]⟩)
 |write (h:0≤wholeOf ms (rqBurst r)) (hk:r.kind=2) (ho:(ms.getD (wholeOf ms (rqBurst r)).toNat default).only=false):Way ms ws hs who r (putAll ws (rqBurst r) r.data r.lanes,freeAll hs (rqBurst r),⟨r.id,1,[]⟩)
 |tryyes (h:0≤wholeOf ms (rqBurst r)) (hk:r.kind=4) (ho:(ms.getD (wholeOf ms (rqBurst r)).toNat default).only=false) (hh:hs.getD (who * 2+r.id).toNat 0=r.addr):Way ms ws hs who r (putAll ws (rqBurst r) r.data r.lanes,freeAll hs (rqBurst r),⟨r.id,2,[]⟩)
theorem way_of (ms:List MR) (ws hs:List Int) (who:Int) (r:Rq) (hk:1≤r.kind∧r.kind≤4):Way ms ws hs who r (doReq ms ws hs who r):=by
 rw[do_ways];by_cases h:wholeOf ms (rqBurst r)<0
 ·rw[if_pos h];exact .none h
 ·rw[if_neg h];have h0:0≤wholeOf ms (rqBurst r):=by omega
  have hkk:r.kind=1∨r.kind=2∨r.kind=3∨r.kind=4:=by omega
  rcases ho:(ms.getD (wholeOf ms (rqBurst r)).toNat default).only with _|_
  ·rw[if_neg (by simp)];rcases hkk with hk|hk|hk|hk
   ·rw[if_pos (by simp[hk])];exact .read h0 hk
   ·rw[if_neg (by simp[hk]),if_neg (by simp[hk]),if_neg (by simp[hk])];simp only[hk];exact .write h0 hk ho
   ·rw[if_neg (by simp[hk]),if_pos (by simp[hk])];exact .hold h0 hk
   ·rw[if_neg (by simp[hk]),if_neg (by simp[hk])];by_cases hh:hs.getD (who * 2+r.id).toNat 0=r.addr
    ·rw[if_neg (by simp only[hh];simp)];simp only[hk];exact .tryyes h0 hk ho hh
    ·rw[if_pos (by simp only[Bool.and_eq_true,beq_iff_eq,Bool.not_eq_true', beq_eq_false_iff_ne];exact⟨hk,hh⟩)];exact .tryno h0 hk ho hh
  ·rcases hkk with hk|hk|hk|hk
   ·rw[if_neg (by simp[rqWrites,hk]),if_pos (by simp[hk])];exact .read h0 hk
   ·rw[if_pos (by simp[rqWrites,hk])];exact .deny h0 (.inl hk) ho
   ·rw[if_neg (by simp[rqWrites,hk]),if_neg (by simp[hk]),if_pos (by simp[hk])];exact .hold h0 hk
   ·rw[if_pos (by simp[rqWrites,hk])];exact .deny h0 (.inr hk) ho
def atmOkk (ms:List MR) (ws hs:List Int) (who:Int) (r:Rq):Bool:=mapOk ms&&atmOk ws hs&&inB who 0 2&&reqOk r
theorem atmDo_yes {ms:List MR} {ws hs:List Int} {who:Int} {r:Rq} (h:atmOkk ms ws hs who r=true):atmDo ms ws hs who r=doReq ms ws hs who r:=if_pos h
theorem okk_parts {ms:List MR} {ws hs:List Int} {who:Int} {r:Rq}:atmOkk ms ws hs who r=true↔mapOk ms=true∧atmOk ws hs=true∧inB who 0 2=true∧reqOk r=true:=by
 simp[atmOkk,and_assoc]
theorem atmOk_parts {ws hs:List Int} (h:atmOk ws hs=true):ws.length=64∧hs.length=6∧ws.all wordOk=true∧hs.all (fun h=>inB h (-1) 63)=true:=by
 simp only[atmOk,memOk,Bool.and_eq_true,beq_iff_eq]at h;exact⟨h.1.1.1,h.1.2,h.1.1.2,h.2⟩
theorem kind_of {r:Rq} (h:reqOk r=true):1≤r.kind∧r.kind≤4:=by
 have:=(reqOk_parts h).2.1;simpa[inB]using this
theorem adr_of {r:Rq} (h:reqOk r=true):adrOk r.addr r.many r.wrap=true:=(reqOk_parts h).2.2.1
theorem id_of {r:Rq} (h:reqOk r=true):0≤r.id∧r.id≤1:=by
 have:=(reqOk_parts h).1;simpa[inB]using this
structure Ok1 (ms:List MR) (ws hs:List Int) (who:Int) (r:Rq):Prop where
 m:mapOk ms=true
 a:atmOk ws hs=true
 w:inB who 0 2=true
 rok:reqOk r=true
 l:ws.length=64
 h:hs.length=6
 ww:ws.all wordOk=true
 hh:hs.all (fun h=>inB h (-1) 63)=true
 k:1≤r.kind∧r.kind≤4
 i:0≤r.id∧r.id≤1
 ad:adrOk r.addr r.many r.wrap=true
 wh:0≤who∧who≤2
 rng:∀x∈rqBurst r,0≤x∧x.toNat<ws.length
 nd:(rqBurst r).Nodup
theorem ok1_of {ms:List MR} {ws hs:List Int} {who:Int} {r:Rq} (h:atmOkk ms ws hs who r=true):Ok1 ms ws hs who r:=by
 obtain⟨h1,h2,h3,h4⟩:=okk_parts.1 h;obtain⟨a1,a2,a3,a4⟩:=atmOk_parts h2;exact⟨h1,h2,h3,h4,a1,a2,a3,a4,kind_of h4,id_of h4,adr_of h4,by simpa[inB]using h3,fun x hx=>by have:=burst_mem hx;omega,burst_nodup _ _ _⟩
theorem Ok1.data {ms:List MR} {ws hs:List Int} {who:Int} {r:Rq} (h:Ok1 ms ws hs who r) (hk:r.kind=2∨r.kind=4):r.data.length=(rqBurst r).length∧r.lanes.length=(rqBurst r).length∧r.data.all wordOk=true∧r.lanes.all (fun l=>inB l 0 3)=true :=
 (reqOk_parts h.rok).2.2.2.1 (by rcases hk with hk|hk <;> simp[hk])
theorem getAll_len (ws all:List Int):(getAll ws all).length=all.length:=by simp[getAll]
def readB (r:Rq) (code:Int):Bool:=(r.kind==1&&code==1) || (r.kind==3&&code==2)
theorem data_law {ms : List MR} {ws hs : List Int} {who : Int} {r : Rq} (hok : atmOkk ms ws hs who r = true) :
  (atmDo ms ws hs who r).2.2.data=if readB r (atmDo ms ws hs who r).2.2.code=true then getAll ws (rqBurst r) else[]:=by
 have o:=ok1_of hok;rw[atmDo_yes hok];have hw:=way_of ms ws hs who r o.k;generalize doReq ms ws hs who r=x at hw ⊢;cases hw with
 |none h=>simp[readB]
 |deny h hk ho=>simp[readB]
 |read h hk=>simp[readB,hk]
 |hold h hk=>simp[readB,hk]
 |tryno h hk ho hh=>simp[readB,hk]
 |write h hk ho=>simp[readB,hk]
 |tryyes h hk ho hh=>simp[readB,hk]
theorem rsp_law {ms:List MR} {ws hs:List Int} {who:Int} {r:Rq} (hok:atmOkk ms ws hs who r=true):rspOk (atmDo ms ws hs who r).2.2=true∧(atmDo ms ws hs who r).2.2.id=r.id:=by
 have o:=ok1_of hok;have hd:=data_law hok;rw[atmDo_yes hok]at hd ⊢;have hw:=way_of ms ws hs who r o.k;have hi0:=o.i.1;have hi1:=o.i.2;have hdat:(getAll ws (rqBurst r)).all wordOk=true∧(getAll ws (rqBurst r)).length≤4:=by
  refine⟨?_,?_⟩
  ·rw[List.all_eq_true];intro x hx;obtain⟨a,_,rfl⟩:=List.mem_map.1 hx;exact getD_ok o.ww (by decide)
  ·rw[getAll_len];have:=burst_lenA o.ad;have hm:=((adrOk_eq _ _ _).1 o.ad).2.2.1;unfold rqBurst;omega
 generalize doReq ms ws hs who r=x at hw hd ⊢;cases hw with
 |none h=>simp[rspOk,hi0,hi1,inB]
 |deny h hk ho=>simp[rspOk,hi0,hi1,inB]
 |read h hk=>simp[rspOk,hi0,hi1,hdat.1,hdat.2,inB]
 |hold h hk=>simp[rspOk,hi0,hi1,hdat.1,hdat.2,inB]
 |tryno h hk ho hh=>simp[rspOk,hi0,hi1,inB]
 |write h hk ho=>simp[rspOk,hi0,hi1,inB]
 |tryyes h hk ho hh=>simp[rspOk,hi0,hi1,inB]
def keysOf (v:Sv):List (Nat×Nat):=v.done.map (fun j=>(j.who,j.n))++v.pipe.map (fun j=>(j.who,j.n))
def nsOf (w:Nat) (l:List (Nat×Nat)):List Nat:=(l.filter (fun k=>k.1==w)).map (·.2)
theorem nsOf_app (w:Nat) (a b:List (Nat×Nat)):nsOf w (a++b)=nsOf w a++nsOf w b:=by simp[nsOf]
theorem nsOf_hit (w n:Nat) (l:List (Nat×Nat)):nsOf w ((w,n)::l)=n::nsOf w l:=by simp[nsOf]
theorem nsOf_miss {w v:Nat} (n:Nat) (l:List (Nat×Nat)) (h:v≠w):nsOf w ((v,n)::l)=nsOf w l:=by simp[nsOf,h]
theorem mem_nsOf {w n:Nat} {l:List (Nat×Nat)}:n∈nsOf w l↔(w,n)∈l:=by
 simp only[nsOf,List.mem_map,List.mem_filter,beq_iff_eq]
 constructor
 ·rintro⟨⟨a,b⟩,⟨h1,rfl⟩,rfl⟩;exact h1
 ·intro h;exact⟨(w,n),⟨h,rfl⟩,rfl⟩
structure Bus (c:Cfg):Prop where
 ms:mapOk c.ms=true
 lat:c.lat.length=4
 lat3:∀x∈c.lat,x≤3
 progs:c.progs.length=3
 most:∀p∈c.progs,p.length≤12
 reqs:∀p∈c.progs,∀r∈p,reqOk r=true
theorem Bus.prog {c:Cfg} (h:Bus c) {w:Nat} (hw:w<3):c.prog w∈c.progs:=getD_mem (by rw[h.progs];exact hw)
theorem Bus.req {c:Cfg} (h:Bus c) {w n:Nat} (hw:w<3) (hn:n<(c.prog w).length):reqOk (c.req w n)=true:=h.reqs _ (h.prog hw) _ (getD_mem hn)
theorem Bus.twelve {c:Cfg} (h:Bus c) {w:Nat} (hw:w<3):(c.prog w).length≤12:=h.most _ (h.prog hw)
theorem Bus.lt3 {c:Cfg} (h:Bus c) {s:Nat} (hs:s<4):c.lt s≤3:=h.lat3 _ (getD_mem (by rw[h.lat];exact hs))
structure PGood (c:Cfg) (w:Nat) (p:Pt):Prop where
 q:p.queue=List.range' (p.next - p.queue.length) p.queue.length
 qn:p.queue.length≤p.next
 q2:p.queue.length≤2
 nx:p.next≤(c.prog w).length
 o4:p.out.length≤4
 o:∀j∈p.out,j.who=w∧j.left=c.slv w j.n∧j.n<p.next - p.queue.length
 os:p.out.Pairwise (fun a b=>a.n<b.n)
 oi:∀a∈p.out,∀b∈p.out,c.id w a.n=c.id w b.n→a.left=b.left
 l:p.last≤3
structure SGood (c:Cfg) (s:Nat) (v:Sv):Prop where
 p2:v.pipe.length≤2
 d2:v.done.length≤2
 l:v.last≤2
 w3:∀k∈keysOf v,k.1<3
 pl:∀j rest,v.pipe=j::rest→j.left≤c.lt s∧∀i∈rest,i.left=c.lt s
 dr:∀j∈v.done,rspOk j.rsp=true∧j.rsp.id=c.id j.who j.n
structure Good (c:Cfg) (st:Cy):Prop where
 atm:atmOk st.ws st.hs=true
 p:∀w,w<3→PGood c w (st.ports w)
 s:∀s,s<4→SGood c s (st.slaves s)
 link:∀s w,s<4→w<3→nsOf w (keysOf (st.slaves s))=((st.ports w).out.filter (fun j=>j.left==s)).map (·.n)
 t:∀j∈st.told,j.who<3∧rspOk j.rsp=true∧j.rsp.id=c.id j.who j.n
 part:∀w,w<3→(((st.told.filter (fun j=>j.who==w)).map (·.n))++(st.ports w).out.map (·.n)).Perm (List.range ((st.ports w).next - (st.ports w).queue.length))
theorem good_zero (c:Cfg):Good c cy0:=by
 refine⟨by decide +kernel,fun w _=>⟨rfl,Nat.le_refl _,by simp[cy0],Nat.zero_le _,by simp[cy0],by simp[cy0],by simp[cy0],by simp[cy0],by simp[cy0]⟩,fun s _=>⟨by simp[cy0],by simp[cy0],by simp[cy0],by simp[cy0,keysOf],by simp[cy0],by simp[cy0]⟩,by simp[cy0,keysOf,nsOf],by simp[cy0],by simp[cy0]⟩
theorem Good.key {c:Cfg} {st:Cy} (h:Good c st) {s w n:Nat} (hs:s<4) (hk:(w,n)∈keysOf (st.slaves s)):w<3∧∃o∈(st.ports w).out,o.n=n∧o.left=s:=by
 have hw:w<3:=(h.s s hs).w3 _ hk;refine⟨hw,?_⟩;have:=mem_nsOf.2 hk;rw[h.link s w hs hw,List.mem_map]at this;obtain⟨o,ho,rfl⟩:=this;rw[List.mem_filter]at ho;exact⟨o,ho.1,rfl,by simpa using ho.2⟩
theorem Good.keyN {c:Cfg} {st:Cy} (h:Good c st) {s w n:Nat} (hs:s<4) (hk:(w,n)∈keysOf (st.slaves s)):n<(c.prog w).length:=by
 obtain⟨hw,o,ho,rfl,_⟩:=h.key hs hk;have:=(h.p w hw).o o ho;have:=(h.p w hw).nx;omega
theorem uniq_n {l:List Jb} (h:l.Pairwise (fun a b=>a.n<b.n)) {a b:Jb} (ha:a∈l) (hb:b∈l) (e:a.n=b.n):a=b:=by
 induction l with
 |nil=>cases ha
 |cons x l ih=>
  rw[List.pairwise_cons]at h;rcases List.mem_cons.1 ha with e1|h1 <;> rcases List.mem_cons.1 hb with e2|h2
  ·rw[e1,e2]
  ·subst e1;have:=h.1 _ h2;omega
  ·subst e2;have:=h.1 _ h1;omega
  ·exact ih h.2 h1 h2
theorem filter_eraseP_hit {α : Type} {p q : α → Bool} : ∀ {l : List α}, (∀ x ∈ l, p x = true → q x = true) → (l.eraseP p).filter q = (l.filter q).eraseP p
 |[],_=>rfl
 |x::l,h=>by
  have ih:=filter_eraseP_hit (p:=p) (q:=q) (l:=l) (fun y hy=>h y (List.mem_cons_of_mem _ hy));rcases hp:p x with _|_
  ·rcases hq:q x with _|_
   ·simp[List.eraseP_cons,hp,hq,ih]
   ·simp[List.eraseP_cons,hp,hq,ih]
  ·have hq:=h x (by simp) hp;simp[List.eraseP_cons,hp,hq]
theorem filter_eraseP_miss {α : Type} {p q : α → Bool} : ∀ {l : List α}, (∀ x ∈ l, p x = true → q x = false) → (l.eraseP p).filter q = l.filter q
 |[],_=>rfl
 |x::l,h=>by
  have ih:=filter_eraseP_miss (p:=p) (q:=q) (l:=l) (fun y hy=>h y (List.mem_cons_of_mem _ hy));rcases hp:p x with _|_
  ·rcases hq:q x with _|_
   ·simp[List.eraseP_cons,hp,hq,ih]
   ·simp[List.eraseP_cons,hp,hq,ih]
  ·have hq:=h x (by simp) hp;simp[List.eraseP_cons,hp,hq]
theorem Good.tell {c:Cfg} {x:Cy×List Ev} (h:Good c x.1) {w s:Nat} {j:TJ} {rest:List TJ} (hw:w<3) (hs:s<4) (hd:(x.1.slaves s).done=j::rest) (hj:j.who=w):Good c (tellDo w s j rest x).1:=by
 have hsg:=h.s s hs;have hpg:=h.p w hw;have hkeys:keysOf (x.1.slaves s)=(w,j.n)::keysOf { x.1.slaves s with done:=rest }:=by simp[keysOf,hd,hj]
 have hl:=h.link s w hs hw;rw[hkeys,nsOf_hit]at hl;obtain⟨o,ho,hon,hos⟩:=(h.key hs (by rw[hkeys];simp:(w,j.n)∈keysOf (x.1.slaves s))).2;obtain⟨a,l1,l2,_,ha,he,he2⟩:=List.exists_of_eraseP (p:=fun o:Jb=>o.n==j.n) ho (by simp[hon]);have ha':a.n=j.n:=by simpa using ha
 have hperm:((x.1.ports w).out.map (·.n)).Perm (j.n::((x.1.ports w).out.eraseP (fun o=>o.n==j.n)).map (·.n)):=by
  rw[he2,he];simp only[List.map_append,List.map_cons,ha'];exact List.perm_middle
 have hsub:((x.1.ports w).out.eraseP (fun o=>o.n==j.n)).Sublist (x.1.ports w).out:=List.eraseP_sublist;have hmem:∀y∈(x.1.ports w).out,(y.n==j.n)=true→y=o:=fun y hy e=>uniq_n hpg.os hy ho (by rw[hon];simpa using e)
 refine⟨h.atm,fun v hv=>?_,fun t ht=>?_,fun t v ht hv=>?_,fun i hi=>?_,fun v hv=>?_⟩
 ·by_cases hvw:v=w
  ·subst hvw;simp only[tellDo,upd_same];exact⟨hpg.q,hpg.qn,hpg.q2,hpg.nx,Nat.le_trans hsub.length_le hpg.o4,fun j hj=>hpg.o j (hsub.subset hj),hpg.os.sublist hsub,fun a ha b hb=>hpg.oi a (hsub.subset ha) b (hsub.subset hb),by simp only;omega⟩
  ·simp only[tellDo,upd_other _ _ hvw];exact h.p v hv
 ·by_cases hts:t=s
  ·subst hts;simp only[tellDo,upd_same];refine⟨hsg.p2,?_,hsg.l,fun k hk=>hsg.w3 k (by rw[hkeys];exact List.mem_cons_of_mem _ hk),hsg.pl,fun i hi=>hsg.dr i (by rw[hd];exact List.mem_cons_of_mem _ hi)⟩;have:=hsg.d2;rw[hd]at this;simp at this ⊢;omega
  ·simp only[tellDo,upd_other _ _ hts];exact h.s t ht
 ·by_cases hvw:v=w
  ·subst hvw;by_cases hts:t=s
   ·subst hts;simp only[tellDo,upd_same];rw[filter_eraseP_hit (fun y hy e=>by rw[hmem y hy e];simp[hos])];have hm2:(((x.1.ports v).out.filter (fun j=>j.left==t)).map (·.n))=j.n::nsOf v (keysOf { x.1.slaves t with done:=rest }):=hl.symm;rcases hf:(x.1.ports v).out.filter (fun j=>j.left==t)with _|⟨y,ys⟩
    ·rw[hf]at hm2;cases hm2
    ·rw[hf]at hm2;simp only[List.map_cons,List.cons.injEq]at hm2;rw[hf,List.eraseP_cons_of_pos (by simp[hm2.1])];exact hm2.2.symm
   ·simp only[tellDo,upd_same,upd_other _ _ hts];rw[filter_eraseP_miss (fun y hy e=>by rw[hmem y hy e];simp[hos];omega)];exact h.link t v ht hv
  ·by_cases hts:t=s
   ·subst hts;simp only[tellDo,upd_same,upd_other _ _ hvw];rw[←h.link t v ht hv,hkeys,nsOf_miss _ _ (Ne.symm hvw)]
   ·simp only[tellDo,upd_other _ _ hvw,upd_other _ _ hts];exact h.link t v ht hv
 ·simp only[tellDo,List.mem_append,List.mem_singleton]at hi;rcases hi with hi|rfl
  ·exact h.t i hi
  ·exact⟨by omega,hsg.dr _ (by rw[hd];simp)⟩
 ·by_cases hvw:v=w
  ·subst hvw;simp only[tellDo,upd_same,List.filter_append,List.map_append,List.filter_cons,hj,beq_self_eq_true,if_true,List.filter_nil,List.map_cons,List.map_nil,List.append_assoc,List.singleton_append];exact(hperm.symm.append_left _).trans (h.part v hv)
  ·simp only[tellDo,upd_other _ _ hvw,List.filter_append,List.map_append,List.filter_cons,hj];rw[show(w==v)=false by simpa using Ne.symm hvw];simpa using h.part v hv
theorem good_tell1 {c:Cfg} {inp:Inp} {x:Cy×List Ev} (h:Good c x.1) {w:Nat} (hw:w<3):Good c (tell1 inp w x).1:=by
 unfold tell1
 split
 ·split
  ·exact h
  ·rename_i k hk;obtain⟨_,_,hm⟩:=firstK_some hk
   split
   ·exact h
   ·rename_i j rest hd;refine h.tell hw (Nat.mod_lt _ (by omega)) hd ?_;unfold tellM at hm;rw[hd]at hm;simpa using hm
 ·exact h
theorem Good.dec {c:Cfg} {st:Cy} (h:Good c st) {s:Nat} {j:Jb} {rest:List Jb} (hs:s<4) (hp:(st.slaves s).pipe=j::rest):Good c (workDec s j rest st):=by
 have hsg:=h.s s hs;have hkeys:keysOf { st.slaves s with pipe:=⟨j.who,j.n,j.left - 1⟩::rest }=keysOf (st.slaves s):=by simp[keysOf,hp]
 refine⟨h.atm,h.p,fun t ht=>?_,fun t v ht hv=>?_,h.t,h.part⟩
 ·by_cases hts:t=s
  ·subst hts;simp only[workDec,upd_same];refine⟨by have:=hsg.p2;rw[hp]at this;simpa using this,hsg.d2,hsg.l,fun k hk=>hsg.w3 k (by rwa [hkeys]at hk),?_,hsg.dr⟩;intro i r e;simp only[List.cons.injEq]at e;obtain⟨rfl,rfl⟩:=e;have:=hsg.pl _ _ hp;exact⟨by simp only;omega,this.2⟩
  ·simp only[workDec,upd_other _ _ hts];exact h.s t ht
 ·by_cases hts:t=s
  ·subst hts;simp only[workDec,upd_same];rw[hkeys];exact h.link t v ht hv
  ·simp only[workDec,upd_other _ _ hts];exact h.link t v ht hv
theorem Good.work {c:Cfg} (hb:Bus c) {x:Cy×List Ev} (h:Good c x.1) {s:Nat} {j:Jb} {rest:List Jb} (hs:s<4) (hp:(x.1.slaves s).pipe=j::rest) (hd:(x.1.slaves s).done.length<2):Good c (workDo c s j rest x).1:=by
 have hsg:=h.s s hs;obtain⟨r,hr⟩:∃r,r=(doReq c.ms x.1.ws x.1.hs j.who (c.req j.who j.n)).2.2:=⟨_,rfl⟩
 have hin:(j.who,j.n)∈keysOf (x.1.slaves s):=by simp[keysOf,hp]
 have hw:=(h.key hs hin).1;have hq:=hb.req hw (h.keyN hs hin);have hwi:inB (j.who:Int) 0 2=true:=by simp[inB];omega
 have hok:atmOkk c.ms x.1.ws x.1.hs j.who (c.req j.who j.n)=true:=okk_parts.2 ⟨hb.ms,h.atm,hwi,hq⟩;have hrsp:=rsp_law hok;rw[atmDo_yes hok,←hr]at hrsp;have hkeys:keysOf { x.1.slaves s with pipe:=rest,done:=(x.1.slaves s).done++[⟨j.who,j.n,r⟩] }=keysOf (x.1.slaves s):=by simp[keysOf,hp]
 refine⟨doReq_ok hwi hq h.atm,h.p,fun t ht=>?_,fun t v ht hv=>?_,h.t,h.part⟩
 ·by_cases hts:t=s
  ·subst hts;simp only[workDo,upd_same,←hr];refine⟨by have:=hsg.p2;rw[hp]at this;simp at this ⊢;omega,by simp;omega,hsg.l,fun k hk=>hsg.w3 k (by rwa [hkeys]at hk),?_,?_⟩
   ·intro i r' e;simp only at e;have hh:=(hsg.pl _ _ hp).2;rw[e]at hh;exact⟨Nat.le_of_eq (hh i (by simp)),fun k hk=>hh k (by simp[hk])⟩
   ·intro i hi;simp only[List.mem_append,List.mem_singleton]at hi;rcases hi with hi|rfl
    ·exact hsg.dr i hi
    ·exact hrsp
  ·simp only[workDo,upd_other _ _ hts];exact h.s t ht
 ·by_cases hts:t=s
  ·subst hts;simp only[workDo,upd_same,←hr];rw[hkeys];exact h.link t v ht hv
  ·simp only[workDo,upd_other _ _ hts];exact h.link t v ht hv
theorem good_work1 {c:Cfg} (hb:Bus c) {inp:Inp} {x:Cy×List Ev} (h:Good c x.1) {s:Nat} (hs:s<4):Good c (work1 c inp s x).1:=by
 unfold work1
 split
 ·exact h
 ·split
  ·exact h
  ·rename_i j rest hp
   split
   ·exact h.dec hs hp
   ·split
    ·exact h.work hb hs hp ‹_›
    ·exact h
theorem range'_cons {a n m:Nat} {rest:List Nat} (h:n::rest=List.range' a m):n=a∧rest=List.range' (a+1) (m - 1)∧0<m:=by
 rcases m with _|m
 ·simp at h
 ·rw[List.range'_succ]at h;simp only[List.cons.injEq]at h;exact⟨h.1,by simpa using h.2,by omega⟩
theorem Good.lets {c:Cfg} {y:Lt} (h:Good c y.st) {s w n:Nat} {rest:List Nat} (hs:s<4) (hw:w<3) (hq:(y.st.ports w).queue=n::rest) (hp:(y.st.slaves s).pipe.length<2) (hm:may c y.st w s=true):Good c (letDo c s w n rest y).st:=by
 have hsg:=h.s s hs;have hpg:=h.p w hw;unfold may at hm;rw[hq]at hm;simp only[Bool.and_eq_true,decide_eq_true_eq,beq_iff_eq,Bool.not_eq_true', List.any_eq_false,bne_iff_ne]at hm;obtain⟨⟨ho4,hslv⟩,hcon⟩:=hm;have hql:(y.st.ports w).queue.length=rest.length+1:=by rw[hq];rfl
 have hqq:=hpg.q;rw[hq]at hqq;obtain⟨hn,hrest,_⟩:=range'_cons hqq;simp only[List.length_cons,Nat.add_sub_cancel]at hn hrest;have hqn:=hpg.qn;rw[hql]at hqn;have hnn:(y.st.ports w).next - rest.length=n+1:=by omega
 have hold:(y.st.ports w).next - (y.st.ports w).queue.length=n:=by omega
 have hkeys:keysOf { y.st.slaves s with pipe:=(y.st.slaves s).pipe++[⟨w,n,c.lt s⟩],last:=w }=keysOf (y.st.slaves s)++[(w,n)]:=by simp[keysOf]
 refine⟨h.atm,fun v hv=>?_,fun t ht=>?_,fun t v ht hv=>?_,h.t,fun v hv=>?_⟩
 ·by_cases hvw:v=w
  ·subst hvw;simp only[letDo,upd_same];refine⟨?_,by simp only;omega,by have:=hpg.q2;simp only;omega,hpg.nx,by simp;omega,?_,?_,?_,hpg.l⟩
   ·simp only[hnn];rw[hrest];simp only[List.length_range'];rw[hn]
   ·intro j hj;simp only[List.mem_append,List.mem_singleton]at hj;simp only[hnn];rcases hj with hj|rfl
    ·have:=hpg.o j hj;rw[hold]at this;exact⟨this.1,this.2.1,by omega⟩
    ·exact⟨rfl,hslv.symm,by simp⟩
   ·simp only[List.pairwise_append,List.pairwise_cons,List.not_mem_nil,List.mem_singleton];refine⟨hpg.os,⟨fun _ h=>absurd h (by simp),List.Pairwise.nil⟩,?_⟩;rintro a ha b rfl;have:=(hpg.o a ha).2.2;rw[hold]at this;exact this
   ·intro a ha b hb e;simp only[List.mem_append,List.mem_singleton]at ha hb;rcases ha with ha|rfl <;> rcases hb with hb|rfl
    ·exact hpg.oi a ha b hb e
    ·have:=hcon a ha;simp only[not_and,Decidable.not_not]at this;exact this (by simpa using e)
    ·have:=hcon b hb;simp only[not_and,Decidable.not_not]at this;exact(this (by simpa using e.symm)).symm
    ·rfl
  ·simp only[letDo,upd_other _ _ hvw];exact h.p v hv
 ·by_cases hts:t=s
  ·subst hts;simp only[letDo,upd_same];refine⟨by simp;omega,hsg.d2,by simp only;omega,?_,?_,hsg.dr⟩
   ·intro k hk;rw[hkeys]at hk;simp only[List.mem_append,List.mem_singleton]at hk;rcases hk with hk|rfl
    ·exact hsg.w3 k hk
    ·exact hw
   ·intro i r e;simp only at e;rcases hpp:(y.st.slaves t).pipe with _|⟨a,al⟩
    ·rw[hpp]at e;simp only[List.nil_append,List.cons.injEq]at e;obtain⟨rfl,rfl⟩:=e;exact⟨Nat.le_refl _,by simp⟩
    ·rw[hpp]at e;simp only[List.cons_append,List.cons.injEq]at e;obtain⟨rfl,rfl⟩:=e;have:=hsg.pl _ _ hpp;refine⟨this.1,fun k hk=>?_⟩;simp only[List.mem_append,List.mem_singleton]at hk;rcases hk with hk|rfl
     ·exact this.2 k hk
     ·rfl
  ·simp only[letDo,upd_other _ _ hts];exact h.s t ht
 ·by_cases hts:t=s
  ·subst hts;by_cases hvw:v=w
   ·subst hvw;simp only[letDo,upd_same];rw[hkeys,nsOf_app,h.link t v ht hv];simp[nsOf]
   ·simp only[letDo,upd_same,upd_other _ _ hvw];rw[hkeys,nsOf_app,h.link t v ht hv];simp[nsOf,Ne.symm hvw]
  ·by_cases hvw:v=w
   ·subst hvw;simp only[letDo,upd_same,upd_other _ _ hts,List.filter_append,List.map_append];rw[h.link t v ht hv];simp[Ne.symm hts]
   ·simp only[letDo,upd_other _ _ hvw,upd_other _ _ hts];exact h.link t v ht hv
 ·by_cases hvw:v=w
  ·subst hvw;simp only[letDo,upd_same,hnn,List.map_append,List.map_cons,List.map_nil];have:=h.part v hv;rw[hold]at this;rw[List.range_succ,←List.append_assoc];exact this.append_right _
  ·simp only[letDo,upd_other _ _ hvw];exact h.part v hv
theorem good_let1 {c:Cfg} {y:Lt} (h:Good c y.st) {s:Nat} (hs:s<4):Good c (let1 c s y).st:=by
 unfold let1
 split
 ·split
  ·exact h
  ·rename_i k hk;obtain⟨_,_,hm⟩:=firstK_some hk;unfold letM at hm;rw[Bool.and_eq_true]at hm
   split
   ·exact h
   ·exact h.lets hs (Nat.mod_lt _ (by omega)) ‹_› ‹_› hm.2
 ·exact h
theorem Good.ask {c:Cfg} {x:Cy×List Ev} (h:Good c x.1) {w:Nat} (hw:w<3) (hq:(x.1.ports w).queue.length<2) (hn:(x.1.ports w).next<(c.prog w).length):Good c (askDo w x).1:=by
 have hpg:=h.p w hw;have hqn:=hpg.qn;have hold:(x.1.ports w).next+1 - ((x.1.ports w).queue.length+1)=(x.1.ports w).next - (x.1.ports w).queue.length:=by omega
 refine⟨h.atm,fun v hv=>?_,h.s,fun t v ht hv=>?_,h.t,fun v hv=>?_⟩
 ·by_cases hvw:v=w
  ·subst hvw;simp only[askDo,upd_same];refine⟨?_,by simp;omega,by simp;omega,by simp only;omega,hpg.o4,?_,hpg.os,hpg.oi,hpg.l⟩
   ·simp only[List.length_append,List.length_singleton,hold];rw[List.range'_1_concat]
    congr 1
    ·exact hpg.q
    ·congr 1;omega
   ·intro j hj;simp only[List.length_append,List.length_singleton,hold];exact hpg.o j hj
  ·simp only[askDo,upd_other _ _ hvw];exact h.p v hv
 ·by_cases hvw:v=w
  ·subst hvw;simp only[askDo,upd_same];exact h.link t v ht hv
  ·simp only[askDo,upd_other _ _ hvw];exact h.link t v ht hv
 ·by_cases hvw:v=w
  ·subst hvw;simp only[askDo,upd_same,List.length_append,List.length_singleton,hold];exact h.part v hv
  ·simp only[askDo,upd_other _ _ hvw];exact h.part v hv
theorem good_ask1 {c:Cfg} {inp:Inp} {x:Cy×List Ev} (h:Good c x.1) {w:Nat} (hw:w<3):Good c (ask1 c inp w x).1:=by
 unfold ask1
 split
 ·rename_i hc;exact h.ask hw hc.2.1 hc.2.2
 ·exact h
theorem good_tellAll {c:Cfg} {inp:Inp} {x:Cy×List Ev} (h:Good c x.1):Good c (tellAll inp x).1:=foldN_keep (P:=fun x:Cy×List Ev=>Good c x.1) 3 x h fun _ _ hi hx=>good_tell1 hx hi
theorem good_workAll {c:Cfg} (hb:Bus c) {inp:Inp} {x:Cy×List Ev} (h:Good c x.1):Good c (workAll c inp x).1:=foldN_keep (P:=fun x:Cy×List Ev=>Good c x.1) 4 x h fun _ _ hi hx=>good_work1 hb hx hi
theorem good_letAll {c:Cfg} {st:Cy} (h:Good c st):Good c (letAll c st).st:=foldN_keep (P:=fun y:Lt=>Good c y.st) 4 ⟨st,fun _=>false,fun _=>0⟩ h fun _ _ hi hx=>good_let1 hx hi
theorem good_askAll {c:Cfg} {inp:Inp} {x:Cy×List Ev} (h:Good c x.1):Good c (askAll c inp x).1:=foldN_keep (P:=fun x:Cy×List Ev=>Good c x.1) 3 x h fun _ _ hi hx=>good_ask1 hx hi
theorem good_step {c:Cfg} (hb:Bus c) {inp:Inp} {st:Cy} (h:Good c st):Good c (cyc c inp st) :=
 good_askAll (x:=((letAll c (workAll c inp (tellAll inp (st,[]))).1).st,_)) (good_letAll (good_workAll hb (good_tellAll (x:=(st,[])) h)))
theorem good_run {c : Cfg} (hb : Bus c) : ∀ (ins : List Inp) {st : Cy}, Good c st → Good c (runC c ins st)
 |[],_,h=>h
 |_::rest,_,h=>good_run hb rest (good_step hb h)
end Go.Proofs.YthnlalffjepdaaaGreat
