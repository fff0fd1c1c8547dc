/- Addresses: AdrOk, AdrBurst, the range of an address, MapOk of the reference. -/
import Derived.Test.YtgkdoehkmbhfiaaGreatProg
import Derived.WalkKit
import Derived.WalkSpells
import Derived.WalkLawsBesides
import Derived.Deep.Draws
import Derived.Laws.AppendOwnNone
import Derived.Deep.QuietTactic
import Derived.BigQuiet
import Derived.BigGuardPart
set_option linter.unusedVariables false
set_option linter.unusedSimpArgs false
set_option maxHeartbeats 16000000
namespace Go.Proofs.YtgkdoehkmbhfiaaGreat
open Go.RowKit
theorem hid {p:Prop} (h:p):Hid p:=h
theorem ret_int {a b:Int} (h:a=b):Ending.returned (.int .i64 a)=.returned (.int .i64 b):=by rw[h]
theorem ret_bool {a b:Bool} (h:a=b):Ending.returned (.bool a)=.returned (.bool b):=by rw[h]
def I64 (n:Int):Prop:=-9223372036854775808≤n∧n≤9223372036854775807
def Arr (w:World) (B sz:Nat) (v:Value) (rows:List (List Value)):Prop :=
 ∃ ao cap, v = .slice ao rows.length cap ∧ rows.length ≤ cap ∧ cap ≤ 9223372036854775807 ∧ rows.length ≤ 140737488351232 ∧ (ao = none → cap = 0) ∧
  (rows.length≠0→∃b off,ao=some ⟨b,off,none⟩∧b<B∧∀t,t<rows.length→∀j,j<sz→w.cell? ⟨b,off+t * sz+j,none⟩=(rows.getD t [])[j]?)
theorem Arr.below {w w':World} {B sz:Nat} {v:Value} {rows:List (List Value)} (h:Arr w B sz v rows) (hb:Below B w w'):Arr w' B sz v rows:=by
 obtain⟨ao,cap,hv,h1,h2,h0,h9,h3⟩:=h;refine⟨ao,cap,hv,h1,h2,h0,h9,fun hn=>?_⟩;obtain⟨b,off,ha,hlt,hc⟩:=h3 hn;exact⟨b,off,ha,hlt,fun t ht j hj=>by rw[←hc t ht j hj];exact hb.cell (p:=⟨b,_,none⟩) hlt⟩
theorem Arr.mono {w:World} {B B' sz:Nat} {v:Value} {rows:List (List Value)} (h:Arr w B sz v rows) (hb:B≤B'):Arr w B' sz v rows:=by
 obtain⟨ao,cap,hv,h1,h2,h0,h9,h3⟩:=h;refine⟨ao,cap,hv,h1,h2,h0,h9,fun hn=>?_⟩;obtain⟨b,off,ha,hlt,hc⟩:=h3 hn;exact⟨b,off,ha,by omega,hc⟩
theorem Arr.take {w:World} {B sz n cap m:Nat} {ao:Option Addr} {rows:List (List Value)} (h:Arr w B sz (.slice ao n cap) rows) (hm:m≤n):Arr w B sz (.slice ao m cap) (rows.take m):=by
 obtain⟨ao', cap', hv,h1,h2,h0,h9,h3⟩:=h;simp only[Value.slice.injEq]at hv;obtain⟨rfl,rfl,rfl⟩:=hv;have hl:(rows.take m).length=m:=by simp;omega
 refine⟨ao,cap,by rw[hl],by omega,h2,by omega,h9,fun hn=>?_⟩;obtain⟨b,off,ha,hlt,hc⟩:=h3 (by omega);refine⟨b,off,ha,hlt,fun t ht j hj=>?_⟩;rw[hc t (by omega) j hj];simp only[List.getD,List.getElem?_take_of_lt (show t<m by omega)]
def rowI (n:Int):List Value:=[.int .i64 n]
def rowB (x:Bool):List Value:=[.bool x]
def Ints (w:World) (B:Nat) (v:Value) (xs:List Int):Prop:=Arr w B 1 v (xs.map rowI)∧∀x∈xs,I64 x
def Bools (w:World) (B:Nat) (v:Value) (xs:List Bool):Prop:=Arr w B 1 v (xs.map rowB)
def rowU (n:Nat):List Value:=[.int .u8 n]
def Bytes (w:World) (B:Nat) (v:Value) (xs:List Nat):Prop:=Arr w B 1 v (xs.map rowU)∧∀x∈xs,x<256
theorem Bytes.below {w w':World} {B:Nat} {v:Value} {xs:List Nat} (h:Bytes w B v xs) (hb:Below B w w'):Bytes w' B v xs:=⟨h.1.below hb,h.2⟩
theorem Bytes.mono {w:World} {B B':Nat} {v:Value} {xs:List Nat} (h:Bytes w B v xs) (hb:B≤B'):Bytes w B' v xs:=⟨h.1.mono hb,h.2⟩
theorem Bytes.take {w:World} {B n cap m:Nat} {ao:Option Addr} {xs:List Nat} (h:Bytes w B (.slice ao n cap) xs) (hm:m≤n):Bytes w B (.slice ao m cap) (xs.take m) :=
 ⟨by rw[List.map_take];exact h.1.take hm,fun x hx=>h.2 x (List.mem_of_mem_take hx)⟩
theorem Bytes.opened {w : World} {B : Nat} {v : Value} {xs : List Nat} (h : Bytes w B v xs) :
  ∃ ao cap, v = .slice ao xs.length cap ∧ xs.length ≤ cap ∧ cap ≤ 9223372036854775807 ∧ xs.length ≤ 140737488351232 ∧ (ao = none → cap = 0) ∧
   (xs.length≠0→∃b off,ao=some ⟨b,off,none⟩∧b<B∧∀t,t<xs.length→w.cell? ⟨b,off+t,none⟩=some (.int .u8 (xs.getD t 0:Nat))):=by
 obtain⟨⟨ao,cap,hv,h1,h2,h0,h9,h3⟩,_⟩:=h;simp only[List.length_map]at hv h1 h0 h3;refine⟨ao,cap,hv,h1,h2,h0,h9,fun hn=>?_⟩;obtain⟨b,off,ha,hlt,hc⟩:=h3 hn;refine⟨b,off,ha,hlt,fun t ht=>?_⟩;have:=hc t ht 0 (by omega);simp only[Nat.mul_one,Nat.add_zero]at this;rw[this];simp[List.getD,rowU,ht]
theorem Ints.below {w w':World} {B:Nat} {v:Value} {xs:List Int} (h:Ints w B v xs) (hb:Below B w w'):Ints w' B v xs:=⟨h.1.below hb,h.2⟩
theorem Bools.below {w w':World} {B:Nat} {v:Value} {xs:List Bool} (h:Bools w B v xs) (hb:Below B w w'):Bools w' B v xs:=Arr.below h hb
theorem Ints.mono {w:World} {B B':Nat} {v:Value} {xs:List Int} (h:Ints w B v xs) (hb:B≤B'):Ints w B' v xs:=⟨h.1.mono hb,h.2⟩
theorem Bools.mono {w:World} {B B':Nat} {v:Value} {xs:List Bool} (h:Bools w B v xs) (hb:B≤B'):Bools w B' v xs:=Arr.mono h hb
theorem Ints.opened {w : World} {B : Nat} {v : Value} {xs : List Int} (h : Ints w B v xs) :
  ∃ ao cap, v = .slice ao xs.length cap ∧ xs.length ≤ cap ∧ cap ≤ 9223372036854775807 ∧ xs.length ≤ 140737488351232 ∧ (ao = none → cap = 0) ∧
   (xs.length≠0→∃b off,ao=some ⟨b,off,none⟩∧b<B∧∀t,t<xs.length→w.cell? ⟨b,off+t,none⟩=some (.int .i64 (xs.getD t 0))):=by
 obtain⟨⟨ao,cap,hv,h1,h2,h0,h9,h3⟩,_⟩:=h;simp only[List.length_map]at hv h1 h0 h3;refine⟨ao,cap,hv,h1,h2,h0,h9,fun hn=>?_⟩;obtain⟨b,off,ha,hlt,hc⟩:=h3 hn;refine⟨b,off,ha,hlt,fun t ht=>?_⟩;have:=hc t ht 0 (by omega);simp only[Nat.mul_one,Nat.add_zero]at this;rw[this];simp[List.getD,rowI,ht]
theorem Bools.opened {w : World} {B : Nat} {v : Value} {xs : List Bool} (h : Bools w B v xs) :
  ∃ ao cap, v = .slice ao xs.length cap ∧ xs.length ≤ cap ∧ cap ≤ 9223372036854775807 ∧ xs.length ≤ 140737488351232 ∧ (ao = none → cap = 0) ∧
   (xs.length≠0→∃b off,ao=some ⟨b,off,none⟩∧b<B∧∀t,t<xs.length→w.cell? ⟨b,off+t,none⟩=some (.bool (xs.getD t false))):=by
 obtain⟨ao,cap,hv,h1,h2,h0,h9,h3⟩:=h;simp only[List.length_map]at hv h1 h0 h3;refine⟨ao,cap,hv,h1,h2,h0,h9,fun hn=>?_⟩;obtain⟨b,off,ha,hlt,hc⟩:=h3 hn;refine⟨b,off,ha,hlt,fun t ht=>?_⟩;have:=hc t ht 0 (by omega);simp only[Nat.mul_one,Nat.add_zero]at this;rw[this];simp[List.getD,rowB,ht]
theorem Below.draws {B:Nat} {a w:World} (h:Below B a w) (n:Nat):Below B a (w.drewN n):=h.trans ⟨rfl,rfl,rfl,Nat.le_refl _,fun _ _=>rfl⟩
theorem Same.quiet {P : Program} {f : FuncId} {args : Array Value} {w : World} {n : Nat} {v : Value}
  (h:Calls P f args (w.drewN n) fun e w' => e=.returned v∧w.drewN n=w'):Calls P f args (w.drewN n) fun e w'' => e=.returned v∧∃m,w'' = w.drewN m :=
 h.mono fun _ _ ⟨he,hm⟩=>⟨he,n,hm.symm⟩
theorem ownsRow_arr {w : World} {base e sz : Nat} {v : Value} {n : Nat} {cells : List Value} {rows : List (List Value)} (h : w.ownsRow base e sz v n cells)
  (hrows:rows.length=n) (hn:n≤140737488351232) (hc:∀t,t<n→∀j,j<sz→cells[t * sz+j]? = (rows.getD t [])[j]?):Arr w w.heap.size sz v rows:=by
 subst hrows;obtain⟨hl,h2⟩:=h;rcases h2 with⟨rfl,h2⟩|⟨g,cap,cur,rfl,hg,hh,hle,hmax,hsz,hpre⟩
 ·exact⟨none,0,by rw[h2],by omega,by omega,hn,fun _=>rfl,fun hn=>absurd h2 hn⟩
 ·refine⟨_,cap,rfl,hle,by unfold maxLen at hmax;omega,hn,(fun h=>by cases h),fun hn=>⟨g,0,rfl,?_,fun t ht j hj=>?_⟩⟩
  ·rcases Nat.lt_or_ge g w.heap.size with h|h
   ·exact h
   ·rw[Array.getElem?_eq_none h]at hh;simp at hh
  ·have hlt:t * sz+j<rows.length * sz:=by
    have:(t+1) * sz≤rows.length * sz:=Nat.mul_le_mul_right _ ht;rw[Nat.add_mul]at this;omega
   rw[←hc t ht j hj,←hpre];simp only[World.cell?,hh,Nat.zero_add];rw[List.getElem?_take_of_lt hlt];simp
def zD3 {α:Type} (f:α→Value) (z:Value) (xs:List α) (k:Nat):List Value:=(xs.take k).map f++List.replicate (xs.length - k) z
theorem fillRow_zero {α:Type} (f:α→Value) (z:Value) (xs:List α):zD3 f z xs 0=List.replicate xs.length z:=by simp[zD3]
theorem fillRow_all {α:Type} (f:α→Value) (z:Value) (xs:List α):zD3 f z xs xs.length=xs.map f:=by simp[zD3]
theorem fillRow_get {α:Type} (f:α→Value) (z:Value) (xs:List α) (k:Nat) (h:k<xs.length):(zD3 f z xs k)[k]? = some z:=by
 unfold zD3;have hl:((xs.take k).map f).length=k:=by simp;omega
 rw[List.getElem?_append_right (by omega),hl,List.getElem?_replicate,if_pos (by omega)]
theorem zL4 {α:Type} (f:α→Value) (z:Value) (xs:List α) (k:Nat) (d:α) (h:k<xs.length):(zD3 f z xs k).set k (f (xs.getD k d))=zD3 f z xs (k+1):=by
 unfold zD3;have hl:((xs.take k).map f).length=k:=by simp;omega
 rw[List.set_append_right _ _ (by omega),hl,Nat.sub_self,List.take_succ_eq_append_getElem h,show xs.length - k=(xs.length - (k+1))+1 from by omega,List.replicate_succ,List.map_append,List.append_assoc];simp only[List.set_cons_zero,List.map_cons,List.map_nil,List.cons_append,List.nil_append];simp[List.getD,h]
def OwnR (w:World) (base e sz:Nat) (v:Value) (n:Nat) (xs:List Value):Prop :=
 xs.length = n * sz ∧ ((v = .slice none 0 0 ∧ n = 0) ∨
  ∃g off cap cur,v=.slice (some ⟨g,off,none⟩) n cap∧base≤g∧w.heap[g]? = some (.cells cur e (0,0))∧n≤cap∧cap≤maxLen∧off+cap * sz≤cur.size∧∀j,j<n * sz→cur[off+j]? = xs[j]?)
def Owns {α:Type} (w:World) (base e sz:Nat) (f:α→List Value) (v:Value) (xs:List α):Prop:=OwnR w base e sz v xs.length (xs.flatMap f)
theorem OwnR.of_row {w:World} {base e sz:Nat} {v:Value} {n:Nat} {xs:List Value} (h:w.ownsRow base e sz v n xs):OwnR w base e sz v n xs:=by
 obtain⟨hl,h2⟩:=h;rcases h2 with⟨rfl,h2⟩|⟨g,cap,cur,rfl,hg,hh,hle,hmax,hsz,hpre⟩
 ·exact⟨hl,.inl ⟨rfl,h2⟩⟩
 ·refine⟨hl,.inr ⟨g,0,cap,cur,rfl,hg,hh,hle,hmax,by omega,fun j hj=>?_⟩⟩;rw[←hpre,List.getElem?_take_of_lt hj];simp
theorem OwnR.lt {w:World} {base e sz:Nat} {v:Value} {n:Nat} {xs:List Value} (h:OwnR w base e sz v n xs):∀k,v.ownBlock=some k→base≤k∧k<w.heap.size:=by
 intro k hk;obtain⟨hl,h2⟩:=h;rcases h2 with⟨rfl,h2⟩|⟨g,off,cap,cur,rfl,hg,hh,_⟩
 ·simp[Value.ownBlock]at hk
 ·simp only[Value.ownBlock,Option.some.injEq]at hk;subst hk;refine⟨hg,?_⟩;rcases Nat.lt_or_ge g w.heap.size with h|h
  ·exact h
  ·rw[Array.getElem?_eq_none h]at hh;simp at hh
theorem OwnR.kept {w w':World} {base e sz:Nat} {v:Value} {n:Nat} {xs:List Value} (h:OwnR w base e sz v n xs) (hk:∀k,v.ownBlock=some k→w'.heap[k]? = w.heap[k]?):OwnR w' base e sz v n xs:=by
 obtain⟨hl,h2⟩:=h;refine⟨hl,?_⟩;rcases h2 with h2|⟨g,off,cap,cur,rfl,hg,hh,r⟩
 ·exact .inl h2
 ·exact .inr ⟨g,off,cap,cur,rfl,hg,by rw[hk g rfl];exact hh,r⟩
theorem OwnR.below {w w':World} {base e sz:Nat} {v:Value} {n:Nat} {xs:List Value} {B:Nat} (h:OwnR w base e sz v n xs) (hb:Below B w w') (hB:∀k,v.ownBlock=some k→k<B):OwnR w' base e sz v n xs :=
 h.kept fun k hk=>hb.block k (hB k hk)
theorem OwnR.later {w w':World} {base e sz:Nat} {v:Value} {n:Nat} {xs:List Value} (h:OwnR w base e sz v n xs) (hb:Below w.heap.size w w'):OwnR w' base e sz v n xs :=
 h.below hb fun k hk=>(h.lt k hk).2
theorem OwnR.alloc {w:World} {base e sz:Nat} {v:Value} {n:Nat} {xs:List Value} (h:OwnR w base e sz v n xs) (o:Obj):OwnR (w.alloc o) base e sz v n xs :=
 h.later ((Below.refl _ _).alloc (Nat.le_refl _) o)
theorem OwnR.rebase {w:World} {base base' e sz:Nat} {v:Value} {n:Nat} {xs:List Value} (h:OwnR w base e sz v n xs) (hb:base' ≤ base):OwnR w base' e sz v n xs:=by
 obtain⟨hl,h2⟩:=h;refine⟨hl,?_⟩;rcases h2 with h2|⟨g,off,cap,cur,hv,hg,r⟩
 ·exact .inl h2
 ·exact .inr ⟨g,off,cap,cur,hv,by omega,r⟩
theorem OwnR.cells {w:World} {base e sz:Nat} {n cap:Nat} {a:Addr} {xs:List Value} (h:OwnR w base e sz (.slice (some a) n cap) n xs):∀j u,xs[j]? = some u→w.cell? (a.add j)=some u:=by
 intro j u hu;obtain⟨hl,h2⟩:=h;rcases h2 with⟨h2,_⟩|⟨g,off,cap,cur,hv,hg,hh,hle,hmax,hsz,hc⟩
 ·cases h2
 ·simp only[Value.slice.injEq,Option.some.injEq]at hv;obtain⟨rfl,_,rfl⟩:=hv;have hj:j<n * sz:=by rw[←hl];exact(List.getElem?_eq_some_iff.1 hu).1
  rw[Addr.add_lit];simp only[World.cell?,hh];rw[hc j hj,hu];simp
theorem run_append_off {P : Program} (w : World) (t ty e : TypeId) (i : TypeInfo) (ht : P.underlying t = some (.slice e)) (hi : P.info? e = some i)
  (g off sLen sCap:Nat) (cur:Array Value) (hg:w.heap[g]? = some (.cells cur e (0,0)))
  (a:Addr) (m c:Nat) (news:List Value) (hl:news.length=m * i.size) (hnews:∀j u,news[j]? = some u→w.cell? (a.add j)=some u) (h1:∀u∈news,u.oneCell' = true)
  (hroom:sLen+m≤sCap) (hfit:off+sLen * i.size+news.length≤cur.size) :
  (Builtin.append_ #[t, t] ty #[.slice (some ⟨g, off, none⟩) sLen sCap, .slice (some a) m c]).run P w =
   .ok (.slice (some ⟨g,off,none⟩) (sLen+m) sCap) (w.setRow g (cur.toList.take (off+sLen * i.size)++news++cur.toList.drop (off+sLen * i.size+news.length)).toArray):=by
 have hf:=run_firstCells_some (P:=P) w i.size m a m c news hl hnews;have hst:=run_storeCells_at P g (off+sLen * i.size) e news 0 cur w hg (by simpa using hfit) h1;simp only[Nat.add_zero]at hst;simp[Builtin.append_,run_underlying ht,sizeOf,typeInfo,hi,Builtin.lenOf,hroom,hf,Addr.add_lit,hst]
theorem run_append_OwnR {P : Program} (w : World) (base : Nat) (t ty e : TypeId) (i : TypeInfo) (z : Value) (size bytes : Nat) (ht : P.underlying t = some (.slice e)) (hi : P.info? e = some i) (hz : i.zero = some z)
  (hsize:i.size=size) (hby:i.bytes=bytes) (hzs:z.cells.size=size)
  (v:Value) (n:Nat) (xs:List Value) (hown:OwnR w base e size v n xs)
  (a:Addr) (m c:Nat) (news:List Value) (hl:news.length=m * size) (hnews:∀j u,news[j]? = some u→w.cell? (a.add j)=some u) (h1:∀u∈news,u.oneCell' = true)
  (h63:n+m≤maxLen) (hbytes:(n+m) * bytes≤140737488355328) (hbase:base≤w.heap.size) :
  ∃ v' w', (Builtin.append_ #[t, t] ty #[v, .slice (some a) m c]).run P w = .ok v' w' ∧ OwnR w' base e size v' (n + m) (xs ++ news) ∧ w.grownBy w' v.ownBlock ∧
   (v' = .slice none 0 0→v=.slice none 0 0∧m=0)∧(v'.ownBlock=v.ownBlock∨v'.ownBlock=some w.heap.size):=by
 subst hsize;subst hby
 have hlen:(xs++news).length=(n+m) * i.size:=by rw[List.length_append,hown.1,hl,Nat.add_mul]
 have grown : ∀ (old : Nat), old < n + m → ∀ (row : Option Nat),
   OwnR (w.drew.alloc (.cells (xs.toArray ++ news.toArray ++ Builtin.zeroCells z.cells (grownCap w (n + m) old e - (n + m))) e)) base e i.size
    (.slice (some ⟨w.heap.size,0,none⟩) (n+m) (grownCap w (n+m) old e)) (n+m) (xs++news) ∧
   w.grownBy (w.drew.alloc (.cells (xs.toArray++news.toArray++Builtin.zeroCells z.cells (grownCap w (n+m) old e - (n+m))) e)) row:=by
  intro old ho row;have hge:=grownCap_ge w (n+m) old e;have hcm:grownCap w (n+m) old e≤maxLen:=grownCap_le_maxLen w (n+m) old e h63;refine⟨⟨hlen,.inr ⟨w.heap.size,0,_,_,rfl,hbase,heap_alloc_new w.drew _,hge,hcm,?_,?_⟩⟩,⟨rfl,rfl,rfl,by simp,fun k hk _=>heap_alloc_old w.drew _ hk⟩⟩
  ·simp only[Array.size_append,List.size_toArray,size_zeroCells,hzs,hown.1,hl,←Nat.add_mul,Nat.zero_add];apply Nat.le_of_eq;congr 1;omega
  ·intro j hj;rw[Nat.zero_add,Array.getElem?_append_left (by simp only[Array.size_append,List.size_toArray,hown.1,hl];rw[←Nat.add_mul];exact hj)];rw[←Array.getElem?_toList];simp
 rcases hown.2 with⟨rfl,rfl⟩|⟨g,off,cap,cur,rfl,hbg,hg,hnc,hcm,hcs,hpre⟩
 ·have hx:xs=[]:=List.eq_nil_of_length_eq_zero (by simpa using hown.1);subst hx;by_cases hm:m=0
  ·subst hm;have hn:news=[]:=List.eq_nil_of_length_eq_zero (by simpa using hl);subst hn;refine⟨.slice none 0 0,w,?_,⟨by simp,.inl ⟨rfl,rfl⟩⟩,⟨rfl,rfl,rfl,Nat.le_refl _,fun _ _ _=>rfl⟩,by simp,.inl rfl⟩;simp[Builtin.append_,run_underlying ht,sizeOf,typeInfo,hi,Builtin.lenOf,Builtin.firstCells,loadCells,loadCellsFrom]
  ·have hr:=run_append_nil (P:=P) w t ty e i z ht hi hz a m c news hl hnews (by omega) (by simp only[maxLen]at h63;omega) (by have hb:=hbytes;simp only[Nat.zero_add]at hb;omega);have hgr:=grown 0 (by omega) (Value.ownBlock (.slice none 0 0));simp only[Nat.zero_add,List.nil_append,Array.empty_append]at hgr ⊢;exact⟨_,_,hr,hgr.1,hgr.2,by simp,.inr rfl⟩
 ·by_cases hroom:n+m≤cap
  ·have hm2:(n+m) * i.size≤cap * i.size:=Nat.mul_le_mul_right _ hroom;have hfit:off+n * i.size+news.length≤cur.size:=by rw[hl];rw[Nat.add_mul]at hm2;omega
   have hr:=run_append_off (P:=P) w t ty e i ht hi g off n cap cur hg a m c news hl hnews h1 hroom hfit;refine⟨_,_,hr,⟨hlen,.inr ⟨g,off,cap,_,rfl,hbg,setRow_heap w g cur _ e _ hg,hroom,hcm,?_,?_⟩⟩,⟨rfl,rfl,rfl,by simp,fun k _ hk=>setRow_other w g k _ (fun e=>hk (by simp[Value.ownBlock,e]))⟩,by simp,.inl rfl⟩
   ·simp only[List.size_toArray,List.length_append,List.length_take,List.length_drop,Array.length_toList];omega
   ·intro j hj;have hlt:(cur.toList.take (off+n * i.size)).length=off+n * i.size:=by simp;omega
    simp only[List.getElem?_toArray,List.append_assoc];by_cases hjn:j<n * i.size
    ·rw[List.getElem?_append_left (by omega),List.getElem?_take_of_lt (by omega),List.getElem?_append_left (by rw[hown.1];exact hjn),←hpre j hjn];simp
    ·have hx1:=hown.1;have e1:(xs++news)[j]? = news[j - n * i.size]?:=by rw[List.getElem?_append_right (by omega),hx1]
     rw[Nat.add_mul]at hj;rw[e1,List.getElem?_append_right (by omega),hlt,List.getElem?_append_left (by omega)]
     congr 1;omega
  ·have hr:=run_append_grow (P:=P) w t ty e i z ht hi hz ⟨g,off,none⟩ n cap xs hown.1 hown.cells a m c news hl hnews (by omega) (by simp only[maxLen]at h63;omega) (growslice_fits (by omega) hbytes);have hgr:=grown cap (by omega) (Value.ownBlock (.slice (some ⟨g,off,none⟩) n cap));exact⟨_,_,hr,hgr.1,hgr.2,by simp,.inr rfl⟩
theorem zD4 {P : Program} {w : World} {ops : Array Oper} {rest : List Oper} {o : Oper} {a : Act} {Q : Exit → Act → World → Prop} (hgd : o.guard = none) (s x : Operand) (t : TypeId)
  (ho:o.op=.call { callee:=.builtin .append,args:=#[s,x],argTypes:=#[t,t] })
  (base:Nat) (e:TypeId) (i:TypeInfo) (z:Value) (size bytes:Nat) (ht:P.underlying t=some (.slice e)) (hi:P.info? e=some i) (hz:i.zero=some z)
  (hsize:i.size=size) (hby:i.bytes=bytes) (hzs:z.cells.size=size)
  (v:Value) (n:Nat) (xs:List Value) (hs:a.eval s=v) (hown:OwnR w base e size v n xs)
  (ad:Addr) (m c:Nat) (news:List Value) (hx:a.eval x=.slice (some ad) m c) (hl:news.length=m * size) (hnews:∀j u,news[j]? = some u→w.cell? (ad.add j)=some u) (h1:∀u∈news,u.oneCell' = true)
  (h63:n+m≤maxLen) (hbytes:(n+m) * bytes≤140737488355328) (hbase:base≤w.heap.size)
  (h:∀v' w', OwnR w' base e size v' (n+m) (xs++news)→w.grownBy w' v.ownBlock→(v' = .slice none 0 0→v=.slice none 0 0∧m=0)→(v'.ownBlock=v.ownBlock∨v'.ownBlock=some w.heap.size)→wpList P ops Q rest (a.put o.dst v') w'):wpList P ops Q (o::rest) a w:=by
 refine wpList_plain hgd fun K hK=>?_
 obtain⟨v', w', hr,h2,h3,h4,h5⟩:=run_append_OwnR (P:=P) w base t o.type e i z size bytes ht hi hz hsize hby hzs v n xs hown ad m c news hl hnews h1 h63 hbytes hbase;unfold Oper.wp execOp;simp only[ho,resolve,invoke,builtin,Sem.run_bind,Sem.run_pure,Result.andThen_ok,List.map_toArray,List.map_cons,List.map_nil,hs,hx,hr];exact hK _ _ (h v' w' h2 h3 h4 h5)
theorem zE6 {P : Program} {w : World} {ops : Array Oper} {rest : List Oper} {o : Oper} {a : Act} {Q : Exit → Act → World → Prop} (hgd : o.guard = none) (s x : Operand) (t : TypeId)
  (ho:o.op=.call { callee:=.builtin .append,args:=#[s,x],argTypes:=#[t,t] })
  (base:Nat) (e:TypeId) (i:TypeInfo) (size:Nat) (ht:P.underlying t=some (.slice e)) (hi:P.info? e=some i)
  (v:Value) (n:Nat) (xs:List Value) (hs:a.eval s=v) (hown:OwnR w base e size v n xs) (hx:a.eval x=.slice none 0 0)
  (h:wpList P ops Q rest (a.put o.dst v) w):wpList P ops Q (o::rest) a w:=by
 refine wpList_plain hgd fun K hK=>?_
 have hrun:(Builtin.append_ #[t,t] o.type #[v,.slice none 0 0]).run P w=.ok v w:=by
  obtain⟨hl,h2⟩:=hown;rcases h2 with⟨rfl,rfl⟩|⟨g,off,cap,cur,rfl,hg,hh,hle,_⟩
  ·simp[Builtin.append_,run_underlying ht,sizeOf,typeInfo,hi,Builtin.lenOf,Builtin.firstCells,loadCells,loadCellsFrom]
  ·simp[Builtin.append_,run_underlying ht,sizeOf,typeInfo,hi,Builtin.lenOf,Builtin.firstCells,hle,storeCells]
 unfold Oper.wp execOp;simp only[ho,resolve,invoke,builtin,Sem.run_bind,Sem.run_pure,Result.andThen_ok,List.map_toArray,List.map_cons,List.map_nil,hs,hx,hrun];exact hK _ _ h
theorem zB8 {α : Type} {f : α → List Value} {sz : Nat} (hf : ∀ x, (f x).length = sz) : ∀ xs : List α, (xs.flatMap f).length = xs.length * sz
 |[]=>by simp
 |x::xs=>by simp[hf x,zB8 hf xs,Nat.add_mul];omega
theorem zH6 {α : Type} {f : α → List Value} {sz : Nat} (hf : ∀ x, (f x).length = sz) : ∀ (xs : List α) (t j : Nat), t < xs.length → j < sz → (xs.flatMap f)[t * sz + j]? = ((xs.map f).getD t [])[j]?
 |x::xs,0,j,_,hj=>by
  simp only[List.flatMap_cons,Nat.zero_mul,Nat.zero_add,List.map_cons,List.getD_cons_zero];rw[List.getElem?_append_left (by rw[hf];exact hj)]
 |x::xs,t+1,j,ht,hj=>by
  simp only[List.flatMap_cons,List.map_cons,List.getD_cons_succ];rw[List.getElem?_append_right (by rw[hf,Nat.add_mul];omega),hf,show(t+1) * sz+j - sz=t * sz+j from by rw[Nat.add_mul];omega];exact zH6 hf xs t j (by simpa using ht) hj
theorem OwnR.arr {w : World} {base e sz : Nat} {v : Value} {n : Nat} {cells : List Value} {rows : List (List Value)} (h : OwnR w base e sz v n cells)
  (hrows:rows.length=n) (hn:n≤140737488351232) (hc:∀t,t<n→∀j,j<sz→cells[t * sz+j]? = (rows.getD t [])[j]?):Arr w w.heap.size sz v rows:=by
 subst hrows;have hlt:=h.lt;obtain⟨hl,h2⟩:=h;rcases h2 with⟨rfl,h2⟩|⟨g,off,cap,cur,rfl,hg,hh,hle,hmax,hsz,hpre⟩
 ·exact⟨none,0,by rw[h2],by omega,by omega,hn,fun _=>rfl,fun hn=>absurd h2 hn⟩
 ·refine⟨_,cap,rfl,hle,by unfold maxLen at hmax;omega,hn,(fun h=>by cases h),fun hn=>⟨g,off,rfl,(hlt g rfl).2,fun t ht j hj=>?_⟩⟩;have hlt:t * sz+j<rows.length * sz:=by
   have:(t+1) * sz≤rows.length * sz:=Nat.mul_le_mul_right _ ht;rw[Nat.add_mul]at this;omega
  rw[←hc t ht j hj,←hpre _ hlt];simp only[World.cell?,hh,Nat.add_assoc];simp
theorem Owns.arr {α:Type} {w:World} {base e sz:Nat} {f:α→List Value} {v:Value} {xs:List α} (h:Owns w base e sz f v xs) (hf:∀x,(f x).length=sz) (hn:xs.length≤140737488351232):Arr w w.heap.size sz v (xs.map f) :=
 OwnR.arr h (by simp) hn (fun t ht j hj=>zH6 hf xs t j ht hj)
theorem Owns.zero {α:Type} {w:World} {base e sz:Nat} {f:α→List Value}:Owns w base e sz f (.slice none 0 0) ([]:List α):=⟨by simp,.inl ⟨rfl,rfl⟩⟩
theorem Owns.lit {α:Type} {w:World} {base e sz:Nat} {f:α→List Value} (hb:base≤w.heap.size):Owns (w.alloc (.cells #[] e)) base e sz f (.slice (some ⟨w.heap.size,0,none⟩) 0 0) ([]:List α) :=
 OwnR.of_row (World.ownsRow_lit w #[] 0 hb (by unfold maxLen;omega) (by simp))
theorem Owns.below {α:Type} {w w':World} {base e sz:Nat} {f:α→List Value} {v:Value} {xs:List α} (h:Owns w base e sz f v xs) (hb:Below w.heap.size w w'):Owns w' base e sz f v xs:=OwnR.later h hb
theorem Owns.rebase {α:Type} {w:World} {base base' e sz:Nat} {f:α→List Value} {v:Value} {xs:List α} (h:Owns w base e sz f v xs) (hb:base' ≤ base):Owns w base' e sz f v xs:=OwnR.rebase h hb
def Elem (T e sz by_:Nat):Prop:=Tryz.prog.underlying T=some (.slice e)∧∃i z,Tryz.prog.info? e=some i∧i.zero=some z∧i.size=sz∧i.bytes=by_∧z.cells.size=sz∧0<sz
theorem zE9 {T e sz by_:Nat} {z:Value} (h:Tryz.prog.underlying T=some (.slice e)) (hi:(Tryz.prog.info? e).map (fun i=>(i.zero,i.size,i.bytes))=some (some z,sz,by_)) (hz:z.cells.size=sz) (hs:0<sz):Elem T e sz by_:=by
 obtain⟨i,h1,h2,h3,h4⟩:=info_parts hi;exact⟨h,i,z,h1,h2,h3,h4,hz,hs⟩
theorem zL5:Elem 24 3 1 8:=zE9 Tryz.underlying24 (z:=.int .i64 0) (by kernel_rfl) rfl (by omega)
theorem wpList_push {α : Type} {ops : Array Oper} {rest : List Oper} {o : Oper} {a : Act} {Q : Exit → Act → World → Prop} {T e sz by_ : Nat} (E : Elem T e sz by_) (f : α → List Value) (hf : ∀ x, (f x).length = sz) (h1 : ∀ x, ∀ u ∈ f x, u.oneCell' = true)
  (w:World) (hgd:o.guard=none) (s x:Operand) (ho:o.op=.call { callee:=.builtin .append,args:=#[s,x],argTypes:=#[T,T] })
  (base:Nat) (v:Value) (xs:List α) (y:α) (hs:a.eval s=v) (hown:Owns w base e sz f v xs) (cs:Array Value) (hcs:cs.toList=f y) (hx:a.eval x=.slice (some ⟨w.heap.size,0,none⟩) 1 1)
  (hlen:(xs.length+1) * by_≤140737488355328) (hlen2:xs.length+1≤9223372036854775807) (hbase:base≤w.heap.size)
  (h:∀v' w', Owns w' base e sz f v' (xs++[y])→Below base w w' → wpList Tryz.prog ops Q rest (a.put o.dst v') w') :
  wpList Tryz.prog ops Q (o::rest) a (w.alloc (.cells cs e)):=by
 obtain⟨ht,i,z,hi,hz,hsize,hby,hzs,hsz⟩:=E;have hown':OwnR (w.alloc (.cells cs e)) base e sz v xs.length (xs.flatMap f):=OwnR.alloc hown _;refine zD4 hgd s x T ho base e i z sz by_ ht hi hz hsize hby hzs v xs.length (xs.flatMap f) hs hown' ⟨w.heap.size,0,none⟩ 1 1 (f y) hx (by rw[hf];omega) ?_ (h1 y) (by unfold maxLen;omega) hlen (by simp;omega) ?_
 ·intro j u hj;rw[Addr.add_lit,Nat.zero_add,World.cell?_alloc_at _ _ _ _ rfl,←hj,←hcs];simp
 ·intro v' w' ho' hg _ _;refine h v' w' ?_ (((Below.refl _ _).alloc hbase _).grown hg (by simp;omega) (fun k hk=>(OwnR.lt hown k hk).1));unfold Owns;simpa using ho'
theorem zG7 (x:Int):(rowI x).length=1:=rfl
theorem rowI_one (x:Int):∀u∈rowI x,u.oneCell' = true:=by intro u hu;simp only[rowI,List.mem_singleton]at hu;subst hu;rfl
theorem Owns.ints {w:World} {base e:Nat} {v:Value} {xs:List Int} (h:Owns w base e 1 rowI v xs) (hn:xs.length≤140737488351232) (hx:∀x∈xs,I64 x):Ints w w.heap.size v xs:=⟨h.arr zG7 hn,hx⟩
theorem zJ8 {α:Type} {f:α→List Value} {sz:Nat} (hf:∀x,(f x).length=sz) (ys:List α) (j:Nat) (hj:j<ys.length * sz) (hs:0<sz):(ys.flatMap f)[j]? = ((ys.map f).getD (j / sz) [])[j % sz]?:=by
 have:=zH6 hf ys (j / sz) (j % sz) (Nat.div_lt_of_lt_mul (by rw[Nat.mul_comm];exact hj)) (Nat.mod_lt _ hs);rw[←this]
 congr 1
 have:=Nat.div_add_mod j sz;rw[Nat.mul_comm]at this;omega
theorem zH2 {α : Type} {ops : Array Oper} {rest : List Oper} {o : Oper} {a : Act} {Q : Exit → Act → World → Prop} {T e sz by_ : Nat} (E : Elem T e sz by_) (f : α → List Value) (hf : ∀ x, (f x).length = sz) (h1 : ∀ x, ∀ u ∈ f x, u.oneCell' = true)
  (w:World) (hgd:o.guard=none) (s x:Operand) (ho:o.op=.call { callee:=.builtin .append,args:=#[s,x],argTypes:=#[T,T] })
  (base:Nat) (v:Value) (xs:List α) (hs:a.eval s=v) (hown:Owns w base e sz f v xs) (u:Value) (ys:List α) (B:Nat) (hx:a.eval x=u) (harr:Arr w B sz u (ys.map f))
  (hlen:(xs.length+ys.length) * by_≤140737488355328) (hlen2:xs.length+ys.length≤9223372036854775807) (hbase:base≤w.heap.size)
  (h:∀v' w', Owns w' base e sz f v' (xs++ys)→Below base w w' → (v' = .slice none 0 0→v=.slice none 0 0)→wpList Tryz.prog ops Q rest (a.put o.dst v') w') :
  wpList Tryz.prog ops Q (o::rest) a w:=by
 obtain⟨ht,i,z,hi,hz,hsize,hby,hzs,hsz⟩:=E;obtain⟨ao,cap,rfl,g1,g2,g0,g9,g3⟩:=harr;simp only[List.length_map]at hx g1 g0 g3;cases ao with
 |none=>
  have hc:=g9 rfl;have hy:ys=[]:=by
   rcases ys with _|⟨y,ys⟩
   ·rfl
   ·simp at g1;omega
  subst hy hc;refine zE6 hgd s x T ho base e i sz ht hi v xs.length (xs.flatMap f) hs hown hx (h v w (by simpa using hown) (Below.refl _ _) (fun h=>h))
 |some ad=>
  refine zD4 hgd s x T ho base e i z sz by_ ht hi hz hsize hby hzs v xs.length (xs.flatMap f) hs hown ad ys.length cap (ys.flatMap f) hx (zB8 hf ys) ?_ ?_ (by unfold maxLen;omega) hlen hbase ?_
  ·intro j u hj;have hjl:j<ys.length * sz:=by rw[←zB8 hf ys];exact(List.getElem?_eq_some_iff.1 hj).1
   have hyn:ys.length≠0:=by intro h0;rw[h0]at hjl;omega
   obtain⟨b,off,had,_,hc⟩:=g3 hyn;obtain rfl:=Option.some.inj had;rw[Addr.add_lit,←hj,zJ8 hf ys j hjl hsz,←hc (j / sz) (Nat.div_lt_of_lt_mul (by rw[Nat.mul_comm];exact hjl)) (j % sz) (Nat.mod_lt _ hsz)];have e:off+j / sz * sz+j % sz=off+j:=by
    have:=Nat.div_add_mod j sz;rw[Nat.mul_comm]at this;omega
   rw[e]
  ·intro u hu;obtain⟨y,_,hy⟩:=List.mem_flatMap.1 hu;exact h1 y u hy
  ·intro v' w' ho' hg hiff _;refine h v' w' ?_ ((Below.refl _ _).grown hg hbase (fun k hk=>(OwnR.lt hown k hk).1)) (fun hv=>(hiff hv).1);unfold Owns;simpa using ho'
def BwT (w:World):Type:={W:World // Below w.heap.size w W}
instance (w:World):Nonempty (BwT w):=⟨⟨w,Below.refl _ _⟩⟩
theorem zG4 {id : Nat} {Q : Exit → Act → World → Prop} {a : Act} {w : World} {l : List Oper} (hm : Tryz.prog.follows .mixedOrders = true) (hB : Region.lexB .any l.toArray = true)
  (h:wpQuiet Tryz.prog l.toArray (fun w' => ∃x:BwT w,w' = x.val) (fun a' => ∀w', (∃x:BwT w,w' = x.val)→Q .normal a' w') l a):(Code.region id l.toArray true).wp Tryz.prog Q a w :=
 wp_region_quiet (C:=fun w' => ∃x:BwT w,w' = x.val) hm hB ⟨⟨w.drew,(Below.refl _ _).drew⟩,rfl⟩ (by simpa using h)
theorem callsB {f:FuncId} {args:Array Value} {w:World} {x:BwT w} {v:Value} (h:Calls Tryz.prog f args x.val fun e w' => e=.returned v∧Below x.val.heap.size x.val w'):Calls Tryz.prog f args x.val fun e w'' => e=.returned v∧∃y:BwT w,w'' = y.val :=
 h.mono fun _ w' ⟨he,hb⟩=>⟨he,⟨w', x.property.trans (hb.mono x.property.size)⟩,rfl⟩
theorem callsS {f:FuncId} {args:Array Value} {w:World} {x:BwT w} {v:Value} (h:Calls Tryz.prog f args x.val fun e w' => e=.returned v∧x.val=w'):Calls Tryz.prog f args x.val fun e w'' => e=.returned v∧∃y:BwT w,w'' = y.val :=
 h.mono fun _ _ ⟨he,hm⟩=>⟨he,x,hm.symm⟩
theorem bcell {w:World} {p:Addr} {v:Value} (h:w.cell? p=some v) (x:BwT w):x.val.cell? p=some v:=(x.property.cell (World.block_lt_of_cell? w p h)).trans h
theorem zA7 {c:Prop} [Decidable c] {a b:Prop} (h:¬c) (hb:b):if c then a else b:=by rw[if_neg h];exact hb
def inB (n lo hi:Int):Bool:=decide (lo≤n)&&decide (n≤hi)
theorem zG1 (n lo hi : Int) (w : World) :
  Calls Tryz.prog 63 #[.int .i64 n,.int .i64 lo,.int .i64 hi] w fun e w' => e=.returned (.bool (inB n lo hi))∧w=w':=by
 by_cases h1:lo≤n
 all_goals
  go_enter Tryz.func63,Tryz.ntmps63
  go_wp2
  go_ret
  exact⟨by simp[inB,h1];try omega,rfl⟩
theorem zH1 {k:Nat} {P:Nat→Prop} (h1:∀j,j<k→P j) (h2:P k):∀j,j<k+1→P j:=by
 intro j hj;rcases Nat.lt_succ_iff_lt_or_eq.1 hj with h|h
 ·exact h1 j h
 ·subst h;exact h2
end Go.Proofs.YtgkdoehkmbhfiaaGreat
namespace Go.Proofs.YtgkdoehkmbhfiaaGreat
structure MR where
 fr:Int
 to:Int
 sl:Int
 only:Bool
deriving Inhabited
structure Rq where
 id:Int
 kind:Int
 addr:Int
 many:Int
 wrap:Bool
 data:List Int
 lanes:List Int
deriving Inhabited
structure Rs where
 id:Int
 code:Int
 data:List Int
deriving Inhabited
def zJ5 (ms:List MR) (k:Nat):Bool :=
 let r:=ms.getD k default
 inB r.fr 0 r.to&&decide (r.to≤63)&&inB r.sl 0 2&&(ms.take k).all (fun q=>!(decide (r.fr≤q.to)&&decide (q.fr≤r.to)))
def mapOk (ms:List MR):Bool:=decide (ms.length≤4)&&(List.range ms.length).all (zJ5 ms)
def rngOf (ms:List MR) (a:Int):Int:=match ms.findIdx? (fun r=>inB a r.fr r.to) with|some k=>k|none=>-1
def adrOk (a m:Int) (wrap:Bool):Bool:=inB a 0 63&&(m==1 || m==2 || m==4)&&(wrap || decide (a+m - 1≤63))
def burst (a m:Int) (wrap:Bool):List Int :=
 if adrOk a m wrap=true then(List.range m.toNat).map (fun(k:Nat)=>if wrap then a - a % m+(a+(k:Int)) % m else a+(k:Int)) else[]
def zA4 (ms:List MR) (all:List Int):Int :=
 match all with
 |[]=>-1
 |a::rest=>if rest.all (fun b=>rngOf ms b==rngOf ms a) then rngOf ms a else -1
def zB1 (n:Int):Bool:=inB n 0 65535
def memOk (ws:List Int):Bool:=ws.length==64&&ws.all zB1
def atmOk (ws hs:List Int):Bool:=memOk ws&&hs.length==6&&hs.all (fun h=>inB h (-1) 63)
def zC0 (r:Rq):Bool:=r.kind==2 || r.kind==4
def reqOk (r:Rq):Bool :=
  inB r.id 0 1 && inB r.kind 1 4 && adrOk r.addr r.many r.wrap && (r.kind == 1 || r.kind == 2 || r.many == 1) &&
    (if zC0 r then ((r.data.length : Int) == r.many) && ((r.lanes.length : Int) == r.many) && r.data.all zB1 && r.lanes.all (fun l => inB l 0 3)
     else r.data.length==0&&r.lanes.length==0)
def zA5 (r:Rq):List Int:=burst r.addr r.many r.wrap
def zJ2 (ms:List MR) (r:Rq):Int:=if zA4 ms (zA5 r)<0 then 3 else(ms.getD (zA4 ms (zA5 r)).toNat default).sl
def rspOk (x:Rs):Bool:=inB x.id 0 1&&inB x.code 1 4&&decide (x.data.length≤4)&&x.data.all zB1
def putW (old new lanes:Int):Int :=
 (if lanes / 2=1 then new / 256 else old / 256) * 256+(if lanes % 2=1 then new % 256 else old % 256)
def zC3 (ws : List Int) : List Int → List Int → List Int → List Int
 |a::rest,d::ds,l::ls=>zC3 (ws.set a.toNat (putW (ws.getD a.toNat 0) d l)) rest ds ls
 |_,_,_=>ws
def zB4 (ws:List Int) (all:List Int):List Int:=all.map fun a=>ws.getD a.toNat 0
def zE0 (hs:List Int) (all:List Int):List Int:=hs.map fun h=>if all.contains h then -1 else h
def doReq (ms:List MR) (ws hs:List Int) (who:Int) (r:Rq):List Int×List Int×Rs :=
 let all:=zA5 r
 let k:=zA4 ms all
 let at_:=(who * 2+r.id).toNat
 if k<0 then(ws,hs,⟨r.id,4,[]⟩)
 else if zC0 r&&(ms.getD k.toNat default).only then(ws,hs,⟨r.id,3,[]⟩)
 else if r.kind==1 then(ws,hs,⟨r.id,1,zB4 ws all⟩)
 else if r.kind==3 then(ws,hs.set at_ r.addr,⟨r.id,2,zB4 ws all⟩)
 else if r.kind==4&&!(hs.getD at_ 0==r.addr) then(ws,hs,⟨r.id,1,[]⟩)
 else(zC3 ws all r.data r.lanes,zE0 hs all,⟨r.id,if r.kind==4 then 2 else 1,[]⟩)
structure Jb where
 who:Nat
 n:Nat
 left:Nat
deriving Inhabited
structure TJ where
 who:Nat
 n:Nat
 rsp:Rs
deriving Inhabited
structure Pt where
 next:Nat
 queue:List Nat
 out:List Jb
 last:Nat
deriving Inhabited
structure Sv where
 pipe:List Jb
 done:List TJ
 last:Nat
deriving Inhabited
structure Cy where
 ws:List Int
 hs:List Int
 ports:Nat→Pt
 slaves:Nat→Sv
 told:List TJ
structure Cfg where
 ms:List MR
 lat:List Nat
 progs:List (List Rq)
structure Inp where
 ready:List Bool
 stall:List Bool
 send:List Bool
structure Ev where
 kind:Nat
 who:Nat
 n:Nat
deriving Inhabited,DecidableEq
def upd {α:Type} (f:Nat→α) (i:Nat) (x:α):Nat→α:=fun j=>if j=i then x else f j
theorem zA1 {α:Type} (f:Nat→α) (i:Nat) (x:α):upd f i x i=x:=if_pos rfl
theorem zA0 {α:Type} (f:Nat→α) {i j:Nat} (x:α) (h:j≠i):upd f i x j=f j:=if_neg h
def foldN {α : Type} (f : Nat → α → α) : Nat → α → α
 |0,a=>a
 |n+1,a=>f n (foldN f n a)
theorem zC9 {α : Type} {f : Nat → α → α} {P : α → Prop} : ∀ (n : Nat) (a : α), P a → (∀ i x, i < n → P x → P (f i x)) → P (foldN f n a)
 |0,_,h,_=>h
 |n+1,a,h,hs=>hs n _ (Nat.lt_succ_self n) (zC9 n a h fun i x hi hx=>hs i x (Nat.lt_succ_of_lt hi) hx)
def firstK (m:Nat→Bool) (n:Nat):Option Nat:=((List.range n).map (·+1)).find? m
theorem firstK_hit {m:Nat→Bool} {n k:Nat} (h0:1≤k) (hk:k≤n) (hm:m k=true) (hb:∀j,1≤j→j<k→m j=false):firstK m n=some k:=by
 unfold firstK;rw[List.find?_eq_some_iff_append];refine⟨hm,(List.range (k - 1)).map (·+1),(List.range' k (n - k)).map (·+1),?_,?_⟩
 ·have e:List.range n=List.range (k - 1)++(k - 1)::List.range' k (n - k):=by
   rw[List.range_eq_range', List.range_eq_range', show n=(k - 1)+(1+(n - k)) by omega,←List.range'_append_1];simp only[Nat.zero_add];rw[show 1+(n - k)=(n - k)+1 by omega,show k - 1+(n - k+1) - k=n - k by omega];rw[List.range'_succ,show k - 1+1=k by omega]
  rw[e];simp[show k - 1+1=k by omega]
 ·intro a ha;obtain⟨b,hb2,rfl⟩:=List.mem_map.1 ha;rw[List.mem_range]at hb2;simp[hb (b+1) (by omega) (by omega)]
theorem firstK_miss {m:Nat→Bool} {n:Nat} (hb:∀j,1≤j→j≤n→m j=false):firstK m n=none:=by
 unfold firstK;rw[List.find?_eq_none];intro a ha;obtain⟨b,hb2,rfl⟩:=List.mem_map.1 ha;rw[List.mem_range]at hb2;simp[hb (b+1) (by omega) (by omega)]
theorem zH7 {m:Nat→Bool} {n k:Nat} (h:firstK m n=some k):1≤k∧k≤n∧m k=true:=by
 unfold firstK at h;have h1:=List.find?_some h;have h2:=List.mem_of_find?_eq_some h;obtain⟨b,hb2,rfl⟩:=List.mem_map.1 h2;rw[List.mem_range]at hb2;exact⟨by omega,by omega,h1⟩
def Cfg.prog (c:Cfg) (who:Nat):List Rq:=c.progs.getD who []
def Cfg.req (c:Cfg) (who n:Nat):Rq:=(c.prog who).getD n default
def Cfg.id (c:Cfg) (who n:Nat):Int:=(c.req who n).id
def Cfg.slv (c:Cfg) (who n:Nat):Nat:=(zJ2 c.ms (c.req who n)).toNat
def Cfg.lt (c:Cfg) (s:Nat):Nat:=c.lat.getD s 0
def tellM (st : Cy) (who k : Nat) : Bool := match (st.slaves (((st.ports who).last + k) % 4)).done with
 |[]=>false
 |j::_=>j.who==who
def zD6 (who s:Nat) (j:TJ) (rest:List TJ) (x:Cy×List Ev):Cy×List Ev :=
 ({ x.1 with told:=x.1.told++[j],slaves:=upd x.1.slaves s { x.1.slaves s with done:=rest },ports:=upd x.1.ports who { x.1.ports who with out:=(x.1.ports who).out.eraseP (fun o=>o.n==j.n),last:=s } },x.2++[⟨3,who,j.n⟩])
def tell1 (inp:Inp) (who:Nat) (x:Cy×List Ev):Cy×List Ev :=
 if inp.ready.getD who false=true then
  match firstK (tellM x.1 who) 4 with
  |none=>x
  | some k => match (x.1.slaves (((x.1.ports who).last + k) % 4)).done with
   |[]=>x
   |j::rest=>zD6 who (((x.1.ports who).last+k) % 4) j rest x
 else x
def zI1 (c:Cfg) (s:Nat) (j:Jb) (rest:List Jb) (x:Cy×List Ev):Cy×List Ev :=
  ({ x.1 with ws := (doReq c.ms x.1.ws x.1.hs j.who (c.req j.who j.n)).1, hs := (doReq c.ms x.1.ws x.1.hs j.who (c.req j.who j.n)).2.1,
              slaves:=upd x.1.slaves s { x.1.slaves s with pipe:=rest,done:=(x.1.slaves s).done++[⟨j.who,j.n,(doReq c.ms x.1.ws x.1.hs j.who (c.req j.who j.n)).2.2⟩] } },x.2++[⟨2,j.who,j.n⟩])
def workDec (s:Nat) (j:Jb) (rest:List Jb) (st:Cy):Cy:={ st with slaves:=upd st.slaves s { st.slaves s with pipe:=⟨j.who,j.n,j.left - 1⟩::rest } }
def work1 (c:Cfg) (inp:Inp) (s:Nat) (x:Cy×List Ev):Cy×List Ev :=
 if inp.stall.getD s false=true then x
 else match (x.1.slaves s).pipe with
  |[]=>x
  |j::rest=>if 0<j.left then(workDec s j rest x.1,x.2) else if(x.1.slaves s).done.length<2 then zI1 c s j rest x else x
def may (c : Cfg) (st : Cy) (who s : Nat) : Bool := match (st.ports who).queue with
 |[]=>false
 |n::_=>decide ((st.ports who).out.length<4)&&(c.slv who n==s)&&!(st.ports who).out.any (fun j=>c.id who j.n==c.id who n&&j.left != s)
structure Lt where
 st:Cy
 used:Nat→Bool
 lets:Nat→Nat
def letM (c:Cfg) (s:Nat) (y:Lt) (k:Nat):Bool:=!y.used (((y.st.slaves s).last+k) % 3)&&may c y.st (((y.st.slaves s).last+k) % 3) s
def letDo (c:Cfg) (s who n:Nat) (rest:List Nat) (y:Lt):Lt :=
  { st := { y.st with ports := upd y.st.ports who { y.st.ports who with queue := rest, out := (y.st.ports who).out ++ [⟨who, n, s⟩] },
                      slaves:=upd y.st.slaves s { y.st.slaves s with pipe:=(y.st.slaves s).pipe++[⟨who,n,c.lt s⟩],last:=who } },
    used:=upd y.used who true,lets:=upd y.lets s 1 }
def let1 (c:Cfg) (s:Nat) (y:Lt):Lt :=
 if(y.st.slaves s).pipe.length<2 then
  match firstK (letM c s y) 3 with
  |none=>y
  | some k => match (y.st.ports (((y.st.slaves s).last + k) % 3)).queue with
   |[]=>y
   |n::rest=>letDo c s (((y.st.slaves s).last+k) % 3) n rest y
 else y
def askDo (who:Nat) (x:Cy×List Ev):Cy×List Ev :=
 ({ x.1 with ports:=upd x.1.ports who { x.1.ports who with queue:=(x.1.ports who).queue++[(x.1.ports who).next],next:=(x.1.ports who).next+1 } },x.2++[⟨1,who,(x.1.ports who).next⟩])
def ask1 (c:Cfg) (inp:Inp) (who:Nat) (x:Cy×List Ev):Cy×List Ev :=
 if inp.send.getD who false=true∧(x.1.ports who).queue.length<2∧(x.1.ports who).next<(c.prog who).length then askDo who x else x
def zD9 (inp:Inp) (x:Cy×List Ev):Cy×List Ev:=foldN (tell1 inp) 3 x
def zF2 (c:Cfg) (inp:Inp) (x:Cy×List Ev):Cy×List Ev:=foldN (work1 c inp) 4 x
def letAll (c:Cfg) (st:Cy):Lt:=foldN (let1 c) 4 ⟨st,fun _=>false,fun _=>0⟩
def zI0 (c:Cfg) (inp:Inp) (x:Cy×List Ev):Cy×List Ev:=foldN (ask1 c inp) 3 x
def step (c:Cfg) (inp:Inp) (st:Cy):Cy×List Ev :=
 zI0 c inp ((letAll c (zF2 c inp (zD9 inp (st,[]))).1).st,(zF2 c inp (zD9 inp (st,[]))).2)
def lets (c:Cfg) (inp:Inp) (st:Cy):Nat→Nat:=(letAll c (zF2 c inp (zD9 inp (st,[]))).1).lets
def cyc (c:Cfg) (inp:Inp) (st:Cy):Cy:=(step c inp st).1
def evs (c:Cfg) (inp:Inp) (st:Cy):List Ev:=(step c inp st).2
def runC (c : Cfg) : List Inp → Cy → Cy
 |[],st=>st
 |i::rest,st=>runC c rest (cyc c i st)
def cy0:Cy:=⟨List.replicate 64 0,List.replicate 6 (-1),fun _=>⟨0,[],[],3⟩,fun _=>⟨[],[],2⟩,[]⟩
end Go.Proofs.YtgkdoehkmbhfiaaGreat
namespace Go.Proofs.YtgkdoehkmbhfiaaGreat
open Go.RowKit
theorem infoI:(Tryz.prog.info? 3).map (fun i=>(i.zero,i.size,i.bytes))=some (some (.int .i64 0),1,8):=by kernel_rfl
theorem own_ints {w:World} {base:Nat} {u:Value} {xs:List Int} (h:w.ownsRow base 3 1 u xs.length (xs.map (Value.int .i64))) (hn:xs.length≤140737488351232) (hx:∀x∈xs,I64 x):Ints w w.heap.size u xs :=
 ⟨ownsRow_arr h (by simp) hn (fun t ht j hj => by
  obtain rfl:j=0:=by omega
  simp[rowI,ht]),hx⟩
def zF0 (K:FuncId):Prop:=∀(args:Array Value) (w:World),(callFunc K args).run Tryz.prog w=.ok (.enter K args) w
theorem zB5 {K : FuncId} {fn : Func} (h : Tryz.prog.funcs[K]? = some fn) (hn : (fn.name == "runtime.NumGoroutine") = false) (hb : fn.body.isNone = false) : zF0 K := by
 intro args w;have hn' : ¬ fn.name = "runtime.NumGoroutine" := by simpa using hn
 have hb':¬fn.body=none:=by intro h';rw[h']at hb;simp at hb
 simp[callFunc,h,hn', hb', go_sem]
def idxP {α:Type} (p:α→Bool) (xs:List α):Int:=match xs.findIdx? p with|some k=>k|none=>-1
theorem zL0 {α:Type} (p:α→Bool) (xs:List α) (k:Nat) (d:α) (hk:k<xs.length) (h:p (xs.getD k d)=true) (hno:∀j,j<k→p (xs.getD j d)=false):idxP p xs=k:=by
 have:xs.findIdx? p=some k:=by
  rw[List.findIdx?_eq_some_iff_getElem];refine⟨hk,by simpa[List.getD,hk]using h,fun j hj=>?_⟩;have hj2:j<xs.length:=by omega
  have:=hno j hj;simp[List.getD,hj2]at this;simp[this]
 simp[idxP,this]
theorem zK0 {α:Type} (p:α→Bool) (xs:List α) (d:α) (hno:∀j,j<xs.length→p (xs.getD j d)=false):idxP p xs = -1:=by
 have:xs.findIdx? p=none:=by
  rw[List.findIdx?_eq_none_iff];intro x hx;obtain⟨i,hi,rfl⟩:=List.mem_iff_getElem.1 hx;have:=hno i hi;simpa[List.getD,hi]using this
 simp[idxP,this]
theorem idxP_any {α:Type} (p:α→Bool) (xs:List α):decide (0≤idxP p xs)=xs.any p:=by
 unfold idxP;rcases h:xs.findIdx? p with _|k
 ·rw[List.findIdx?_eq_none_iff]at h;simp only[Int.reduceNeg,Int.reduceLE,decide_false]
  symm;rw[List.any_eq_false];intro x hx;simp[h x hx]
 ·rw[List.findIdx?_eq_some_iff_getElem]at h;obtain⟨hk,h1,_⟩:=h;simp only[Int.natCast_nonneg,decide_true]
  symm;rw[List.any_eq_true];exact⟨_,List.getElem_mem hk,h1⟩
theorem idxInt_any (K : FuncId) (cap : Array Value) (hK : zF0 K) (p : Int → Bool) (v : Value) (xs : List Int) (B : Nat) (w : World) (hv : Ints w B v xs)
  (hf:∀x,I64 x→Calls Tryz.prog K (#[.int .i64 x]++cap) w fun e w' => e=.returned (.bool (p x))∧w=w') :
  Calls Tryz.prog 149 #[v,.func (.func K) #[] cap] w fun e w' => e=.returned (.int .i64 (idxP p xs))∧w=w':=by
 obtain⟨ao,cap', rfl,hlc,hcap,hln,hni,hr⟩:=hv.opened;have HV:=hid hv;clear hv;have HF:=hid hf;clear hf;have hK2:=fun args w=>hK args w
 go_enter Tryz.func149,Tryz.ntmps149
 go_wp2_with fail
 go_loop [8] (fun i=>∃k:Nat,k≤xs.length∧i=.int .i64 k∧∀j,j<k→p (xs.getD j 0)=false) (fun i=>xs.length - (intOf i).toNat)
 case atStart=>exact⟨0,Nat.zero_le _,rfl,by simp⟩
 case round=>
  obtain⟨k,hk,rfl,hno⟩:=hrel;have HN:=hid hno;clear hno;by_cases hlt:k<xs.length
  ·obtain⟨b,off,rfl,hb,hc⟩:=hr (by omega);have hck:=hc k hlt;have hx64:I64 (xs.getD k 0):=HV.out.2 _ (by simp[List.getD,hlt]);obtain⟨x,hx⟩:∃x,x=xs.getD k 0:=⟨_,rfl⟩
   rw[←hx]at hck hx64;have HX:=hid hx;have HI:=hid hx64;clear hx hc hr hx64
   go_wp2_with fail
   refine(HF.out x HI.out).mono ?_;rintro e w' ⟨rfl,rfl⟩;rcases hp:p x with _|_
   ·have HQ:=hid (zH1 HN.out (show p (xs.getD k 0)=false by rw[←HX.out];exact hp))
    go_wp2_with fail
    go_round
    case rel=>exact⟨k+1,by omega,by go_num,HQ.out⟩
    case measure=>simp[intOf];omega
   ·have HQ:=hid (zL0 p xs k 0 hlt (by rw[←HX.out];exact hp) HN.out)
    go_wp2_with fail
    go_ret
    exact⟨by rw[HQ.out];rfl,rfl⟩
  ·have HF2:=hid (zK0 p xs 0 (fun j hj=>HN.out j (by omega)))
   go_wp2_with fail
   go_ret
   exact⟨by rw[HF2.out];rfl,rfl⟩
theorem zH3 (K : FuncId) (cap : Array Value) (hK : zF0 K) (p : Int → Bool) (v : Value) (xs : List Int) (B : Nat) (w : World) (hv : Ints w B v xs)
  (hf:∀x,I64 x→Calls Tryz.prog K (#[.int .i64 x]++cap) w fun e w' => e=.returned (.bool (p x))∧w=w') :
  Calls Tryz.prog 98 #[v,.func (.func K) #[] cap] w fun e w' => e=.returned (.bool (xs.any p))∧w=w':=by
 have HA:=hid (idxP_any p xs);obtain⟨y,hy⟩:∃y,y=xs.any p:=⟨_,rfl⟩
 rw[←hy]at HA ⊢;clear hy
 go_enter Tryz.func98,Tryz.ntmps98
 go_wp2_with fail
 refine(idxInt_any K cap hK p v xs B _ hv hf).mono ?_;rintro e w' ⟨rfl,rfl⟩
 go_wp2_with fail
 go_ret
 exact⟨by rw[←HA.out];rfl,rfl⟩
def rowM (r:MR):List Value:=[.int .i64 r.fr,.int .i64 r.to,.int .i64 r.sl,.bool r.only]
def MR64 (r:MR):Prop:=I64 r.fr∧I64 r.to∧I64 r.sl
def Maps (w:World) (B:Nat) (v:Value) (ms:List MR):Prop:=Arr w B 4 v (ms.map rowM)∧∀r∈ms,MR64 r
theorem Maps.below {w w':World} {B:Nat} {v:Value} {xs:List MR} (h:Maps w B v xs) (hb:Below B w w'):Maps w' B v xs:=⟨h.1.below hb,h.2⟩
theorem Maps.mono {w:World} {B B':Nat} {v:Value} {xs:List MR} (h:Maps w B v xs) (hb:B≤B'):Maps w B' v xs:=⟨h.1.mono hb,h.2⟩
theorem Maps.take {w:World} {B n cap m:Nat} {ao:Option Addr} {xs:List MR} (h:Maps w B (.slice ao n cap) xs) (hm:m≤n):Maps w B (.slice ao m cap) (xs.take m) :=
 ⟨by rw[List.map_take];exact h.1.take hm,fun x hx=>h.2 x (List.mem_of_mem_take hx)⟩
theorem Maps.opened {w : World} {B : Nat} {v : Value} {ms : List MR} (h : Maps w B v ms) :
  ∃ ao cap, v = .slice ao ms.length cap ∧ ms.length ≤ cap ∧ cap ≤ 9223372036854775807 ∧ ms.length ≤ 140737488351232 ∧ (ao = none → cap = 0) ∧
   (ms.length ≠ 0 → ∃ b off, ao = some ⟨b, off, none⟩ ∧ b < B ∧ ∀ t, t < ms.length → w.cell? ⟨b, off + t * 4, none⟩ = some (.int .i64 (ms.getD t default).fr) ∧ w.cell? ⟨b, off + t * 4 + 1, none⟩ = some (.int .i64 (ms.getD t default).to) ∧
    w.cell? ⟨b,off+t * 4+2,none⟩=some (.int .i64 (ms.getD t default).sl)∧w.cell? ⟨b,off+t * 4+3,none⟩=some (.bool (ms.getD t default).only)):=by
 obtain⟨⟨ao,cap,hv,h1,h2,h0,h9,h3⟩,_⟩:=h;simp only[List.length_map]at hv h1 h0 h3;refine⟨ao,cap,hv,h1,h2,h0,h9,fun hn=>?_⟩;obtain⟨b,off,ha,hlt,hc⟩:=h3 hn;refine⟨b,off,ha,hlt,fun t ht=>?_⟩;have e:(ms.map rowM).getD t []=rowM (ms.getD t default):=by simp[List.getD,ht]
 have k0:=hc t ht 0 (by omega);have k1:=hc t ht 1 (by omega);have k2:=hc t ht 2 (by omega);have k3:=hc t ht 3 (by omega);rw[e]at k0 k1 k2 k3;exact⟨k0,k1,k2,k3⟩
theorem zC2 {α:Type} {xs:List α} {k:Nat} {d:α} (h:k<xs.length):xs.getD k d∈xs:=by simp[List.getD,h]
def IdxMP (p:MR→Bool) (ms:List MR) (w:World) (e:Ending) (w':World):Prop:=e=.returned (.int .i64 (idxP p ms))∧Below w.heap.size w w'
def HasMP (p:MR→Bool) (ms:List MR) (w:World) (e:Ending) (w':World):Prop:=e=.returned (.bool (ms.any p))∧Below w.heap.size w w'
theorem idxMap_any (K : FuncId) (cap : Array Value) (hK : zF0 K) (p : MR → Bool) (v : Value) (ms : List MR) (B : Nat) (w : World) (hv : Maps w B v ms) (hB : B ≤ w.heap.size)
  (hf:∀(r:MR) (w1:World),Below w.heap.size w w1→Calls Tryz.prog K (#[.agg #[.int .i64 r.fr,.int .i64 r.to,.int .i64 r.sl,.bool r.only]]++cap) w1 fun e w' => e=.returned (.bool (p r))∧Below w1.heap.size w1 w') :
  Calls Tryz.prog 146 #[v,.func (.func K) #[] cap] w (IdxMP p ms w):=by
 obtain⟨ao,cap', rfl,hlc,hcap,hln,hni,hr⟩:=hv.opened;have HF:=hid hf;clear hf hv;have hK2:=fun args w=>hK args w
 go_enter Tryz.func146,Tryz.ntmps146
 go_wp2_with fail
 go_loopw [8] (fun i wr=>∃k:Nat,k≤ms.length∧i=.int .i64 k∧Below w.heap.size w wr∧∀j,j<k→p (ms.getD j default)=false) (fun i _=>ms.length - (intOf i).toNat)
 case atStart=>exact⟨0,Nat.zero_le _,rfl,Below.refl _ _,by simp⟩
 case round=>
  obtain⟨k,hk,rfl,hbl,hno⟩:=hrel;have HN:=hid hno;clear hno;by_cases hlt:k<ms.length
  ·obtain⟨b,off,rfl,hb,hc⟩:=hr (by omega);obtain⟨c0,c1,c2,c3⟩:=hc k hlt;obtain⟨x,hx⟩:∃x,x=ms.getD k default:=⟨_,rfl⟩
   rw[←hx]at c0 c1 c2 c3;rw[←hbl.cell (p:=⟨b,_,none⟩) (Nat.lt_of_lt_of_le hb hB)]at c0 c1 c2 c3;have HX:=hid hx;clear hx hc hr
   go_wp2_with fail
   refine(HF.out x _ hbl).mono ?_;rintro e w' ⟨rfl,hb'⟩;have hsz:=hbl.size;have HB:=hid (hbl.trans (hb'.mono hsz));clear hbl;rcases hp:p x with _|_
   ·have HQ:=hid (zH1 HN.out (show p (ms.getD k default)=false by rw[←HX.out];exact hp))
    go_wp2_with fail
    go_roundw
    case rel=>exact⟨k+1,by omega,by go_num,HB.out,HQ.out⟩
    case measure=>simp[intOf];omega
   ·have HQ:=hid (zL0 p ms k default hlt (by rw[←HX.out];exact hp) HN.out)
    go_wp2_with fail
    go_ret
    exact⟨by rw[HQ.out];rfl,HB.out⟩
  ·have HF2:=hid (zK0 p ms default (fun j hj=>HN.out j (by omega)))
   go_wp2_with fail
   go_ret
   exact⟨by rw[HF2.out];rfl,hbl⟩
theorem hasMap_any (K : FuncId) (cap : Array Value) (hK : zF0 K) (p : MR → Bool) (v : Value) (ms : List MR) (B : Nat) (w : World) (hv : Maps w B v ms) (hB : B ≤ w.heap.size)
  (hf:∀(r:MR) (w1:World),Below w.heap.size w w1→Calls Tryz.prog K (#[.agg #[.int .i64 r.fr,.int .i64 r.to,.int .i64 r.sl,.bool r.only]]++cap) w1 fun e w' => e=.returned (.bool (p r))∧Below w1.heap.size w1 w') :
  Calls Tryz.prog 94 #[v,.func (.func K) #[] cap] w (HasMP p ms w):=by
 have HA:=hid (idxP_any p ms)
 go_enter Tryz.func94,Tryz.ntmps94
 go_wp2_with fail
 refine(idxMap_any K cap hK p v ms B _ hv hB hf).mono ?_;rintro e w' ⟨rfl,hb⟩
 go_wp2_with fail
 go_ret
 exact⟨by rw[←HA.out];rfl,hb⟩
theorem zK7 (v : Value) (ms : List MR) (a : Int) (B : Nat) (w : World) (hv : Maps w B v ms) (hB : B ≤ w.heap.size) :
  Calls Tryz.prog 150 #[v,.int .i64 a] w fun e w' => e=.returned (.int .i64 (rngOf ms a))∧Below w.heap.size w w':=by
 have hE:rngOf ms a=idxP (fun r=>inB a r.fr r.to) ms:=rfl;have HE:=hid hE;clear hE;have hcl:∀(r:MR) (w1:World),Below (w.heap.size+1) (w.alloc (.cells #[.int .i64 a] 3)) w1→Calls Tryz.prog 172 (#[.agg #[.int .i64 r.fr,.int .i64 r.to,.int .i64 r.sl,.bool r.only]]++#[.pointer (some ⟨w.heap.size,0,none⟩)]) w1 fun e w' => e=.returned (.bool (inB a r.fr r.to))∧Below w1.heap.size w1 w':=by
  intro r w1 hb;have hc:w1.cell? ⟨w.heap.size,0,none⟩=some (.int .i64 a):=by
   rw[hb.cell (p:=⟨w.heap.size,0,none⟩) (by simp)];simp
  have hsz:=hb.size;simp only[World.size_alloc]at hsz;have hsz2:w.heap.size<w1.heap.size:=by omega
  clear hb hsz
  go_enter Tryz.func172,Tryz.ntmps172
  go_wp2_with (go_at_call 63;refine(zG1 _ _ _ _).mono ?_;rintro e w' ⟨rfl,rfl⟩)
  go_ret
  exact⟨rfl,(Below.refl _ _).alloc (Nat.le_refl _) _⟩
 have HC:=hid hcl;clear hcl
 go_enter Tryz.func150,Tryz.ntmps150
 go_wp2_with fail
 refine(idxMap_any 172 #[.pointer (some ⟨w.heap.size,0,none⟩)] (zB5 Tryz.func172 (by kernel_rfl) (by kernel_rfl)) (fun r=>inB a r.fr r.to) v ms B _ (hv.below ((Below.refl _ _).alloc hB _)) (by simp;omega) (fun r w1 hb=>HC.out r w1 (by simpa using hb))).mono ?_;rintro e w' ⟨rfl,hb⟩
 go_wp2_with fail
 go_ret
 exact⟨by rw[HE.out];rfl,((Below.refl _ _).alloc (Nat.le_refl _) _).trans (hb.mono (by simp))⟩
def over (r q:MR):Bool:=decide (q.fr≤r.to)&&decide (r.fr≤q.to)
theorem rangeOk_eq (ms:List MR) (k:Nat) (x:MR) (hx:x=ms.getD k default):zJ5 ms k=(inB x.fr 0 63&&inB x.to x.fr 63&&inB x.sl 0 2&&!((ms.take k).any (over x))):=by
 subst hx;unfold zJ5 over;have e1:∀q:MR,(!(decide (((ms.getD k default).fr)≤q.to)&&decide (q.fr≤(ms.getD k default).to)))=!(decide (q.fr≤(ms.getD k default).to)&&decide ((ms.getD k default).fr≤q.to)):=fun q=>by rw[Bool.and_comm]
 rw[List.not_any_eq_all_not];simp only[e1,Function.comp_def]
 congr 1
 congr 1
 rw[Bool.eq_iff_iff];simp only[inB,Bool.and_eq_true,decide_eq_true_eq];omega
theorem mapOk_bad {ms:List MR} {k:Nat} (hk:k<ms.length) (h:zJ5 ms k=false):mapOk ms=false:=by
 unfold mapOk;rw[Bool.and_eq_false_iff];right;rw[List.all_eq_false];exact⟨k,by simpa using hk,by simp[h]⟩
theorem mapOk_all {ms:List MR} (h:∀j,j<ms.length→zJ5 ms j=true):mapOk ms=decide (ms.length≤4):=by
 unfold mapOk;have:(List.range ms.length).all (zJ5 ms)=true:=by rw[List.all_eq_true];intro j hj;exact h j (by simpa using hj)
 rw[this,Bool.and_true]
theorem zD1 (v : Value) (ms : List MR) (B : Nat) (w : World) (hv : Maps w B v ms) (hB : B ≤ w.heap.size) :
  Calls Tryz.prog 47 #[v] w fun e w' => e=.returned (.bool (mapOk ms))∧Below w.heap.size w w':=by
 obtain⟨ao,cap,rfl,hlc,hcap,hln,hni,hr⟩:=hv.opened
 go_enter Tryz.func47,Tryz.ntmps47
 go_wp2_with fail
 go_loopw [7] (fun i wr=>∃k:Nat,k≤ms.length∧i=.int .i64 k∧Below w.heap.size w wr∧∀j,j<k→zJ5 ms j=true) (fun i _=>ms.length - (intOf i).toNat)
 case atStart=>exact⟨0,Nat.zero_le _,rfl,Below.refl _ _,by simp⟩
 case round=>
  obtain⟨k,hk,rfl,hbl,hno⟩:=hrel;have HN:=hid hno;clear hno;by_cases hlt:k<ms.length
  ·obtain⟨b,off,rfl,hb,hc⟩:=hr (by omega);obtain⟨c0,c1,c2,c3⟩:=hc k hlt;obtain⟨x,hx⟩:∃x,x=ms.getD k default:=⟨_,rfl⟩
   rw[←hx]at c0 c1 c2 c3;rw[←hbl.cell (p:=⟨b,_,none⟩) (Nat.lt_of_lt_of_le hb hB)]at c0 c1 c2 c3;have HE:=hid (rangeOk_eq ms k x hx);clear hx hc hr;have hsz:=hbl.size;have hcl:∀(q:MR) (w1:World),Below (wr.heap.size+1) (wr.alloc (.cells #[.int .i64 x.fr,.int .i64 x.to,.int .i64 x.sl,.bool x.only] 144)) w1→Calls Tryz.prog 95 (#[.agg #[.int .i64 q.fr,.int .i64 q.to,.int .i64 q.sl,.bool q.only]]++#[.pointer (some ⟨wr.heap.size,0,none⟩)]) w1 fun e w' => e=.returned (.bool (over x q))∧Below w1.heap.size w1 w':=by
    intro q w1 hb;have d0:w1.cell? ⟨wr.heap.size,0,none⟩=some (.int .i64 x.fr):=by rw[hb.cell (p:=⟨wr.heap.size,0,none⟩) (by simp)];simp
    have d1:w1.cell? ⟨wr.heap.size,1,none⟩=some (.int .i64 x.to):=by rw[hb.cell (p:=⟨wr.heap.size,1,none⟩) (by simp)];simp
    have hsz1:=hb.size;simp only[World.size_alloc]at hsz1;have hsz2:wr.heap.size<w1.heap.size:=by omega
    clear hb hsz1 hbl c0 c1 c2 c3
    go_enter Tryz.func95,Tryz.ntmps95
    go_wp2
    all_goals
     go_ret
     exact⟨by simp[over, *];try omega,(Below.refl _ _).alloc (Nat.le_refl _) _⟩
   have HC:=hid hcl;clear hcl;have hv2:=hid (Maps.take hv (show k≤ms.length by omega))
   go_wp2_with (first
    |(go_at_call 63;refine(zG1 _ _ _ _).mono ?_;rintro e w' ⟨rfl,rfl⟩)
    |(go_at_call 94;go_must (refine(hasMap_any 95 _ (zB5 Tryz.func95 (by kernel_rfl) (by kernel_rfl)) (over x) _ (ms.take k) B _ (hv2.out.below ((hbl.mono hB).trans ((Below.refl _ _).alloc (by omega) _))) (by simp;omega) (fun r w1 hb=>HC.out r w1 (by simpa using hb))).mono ?_);rintro e w' ⟨rfl,hb2⟩))
   ·have HF:=hid (mapOk_bad hlt (by rw[HE.out];simp[*]))
    go_ret
    exact⟨by rw[HF.out];rfl,hbl.trans ((Below.refl _ _).alloc (by omega) _)⟩
   ·have HF:=hid (mapOk_bad hlt (by rw[HE.out];simp[*]))
    go_ret
    exact⟨by rw[HF.out];rfl,hbl.trans ((Below.refl _ _).alloc (by omega) _)⟩
   ·have HF:=hid (mapOk_bad hlt (by rw[HE.out];simp[*]))
    go_ret
    exact⟨by rw[HF.out];rfl,hbl.trans ((Below.refl _ _).alloc (by omega) _)⟩
   ·have HF:=hid (mapOk_bad hlt (by rw[HE.out];simp only[*];simp))
    go_ret
    exact⟨by rw[HF.out];rfl,(hbl.trans ((Below.refl _ _).alloc (by omega) _)).trans (hb2.mono (by simp;omega))⟩
   ·have HQ:=hid (zH1 HN.out (show zJ5 ms k=true by rw[HE.out];simp only[*];simp))
    go_roundw
    case rel=>exact⟨k+1,by omega,by go_num,(hbl.trans ((Below.refl _ _).alloc (by omega) _)).trans (hb2.mono (by simp;omega)),HQ.out⟩
    case measure=>simp[intOf];omega
  ·have HF:=hid (mapOk_all (fun j hj=>HN.out j (by omega)))
   go_wp2_with fail
   go_ret
   exact⟨by rw[HF.out];exact ret_bool (by rw[decide_eq_decide];omega),hbl⟩
theorem zJ1 (a m:Int) (wr:Bool):adrOk a m wr=true↔(0≤a∧a≤63∧(m=1∨m=2∨m=4)∧(wr=true∨a+m - 1≤63)):=by
 simp[adrOk,inB,or_assoc,and_assoc]
theorem zH0 (a m:Int) (wr:Bool) (w:World):Calls Tryz.prog 55 #[.int .i64 a,.int .i64 m,.bool wr] w fun e w' => e=.returned (.bool (adrOk a m wr))∧w=w':=by
 rcases hI:inB a 0 63 with _|_
 ·have HE:=hid (show adrOk a m wr=false by simp[adrOk,hI])
  go_enter Tryz.func55,Tryz.ntmps55
  go_wp2_with (first|(go_at_call 63;refine(zG1 _ _ _ _).mono ?_;rintro e w' ⟨rfl,rfl⟩))
  all_goals
   go_ret
   exact⟨by rw[HE.out];rfl,rfl⟩
 ·have hb:0≤a∧a≤63:=by simpa[inB]using hI
  have h0:=hb.1;have h1:=hb.2;have HE:=hid (show adrOk a m wr=((m==1 || m==2 || m==4)&&(wr || decide (a+m - 1≤63))) by simp[adrOk,hI]);clear hb
  go_enter Tryz.func55,Tryz.ntmps55
  go_wp2_with (first|(go_at_call 63;refine(zG1 _ _ _ _).mono ?_;rintro e w' ⟨rfl,rfl⟩))
  all_goals
   go_ret
   exact⟨by rw[HE.out];simp[*];try omega,rfl⟩
def BurstP (a m:Int) (wp:Bool) (w:World) (e:Ending) (w':World):Prop:=∃u,e=.returned u∧Ints w' w'.heap.size u (burst a m wp)∧Below w.heap.size w w' ∧ ∀k,u.ownBlock=some k→w.heap.size≤k
def zF1 (a m:Int) (wp:Bool) (k:Nat):List Int:=(List.range k).map (fun(k:Nat)=>if wp then a - a % m+(a+(k:Int)) % m else a+(k:Int))
theorem burstK_len (a m:Int) (wp:Bool) (k:Nat):(zF1 a m wp k).length=k:=by simp[zF1]
theorem zH9 {a m:Int} {wp:Bool} (h:adrOk a m wp=true):burst a m wp=zF1 a m wp m.toNat:=by unfold burst zF1;rw[if_pos h]
theorem burst_no {a m:Int} {wp:Bool} (h:adrOk a m wp=false):burst a m wp=[]:=by unfold burst;rw[if_neg (by simp[h])]
theorem burstK_small {a m:Int} {wp:Bool} (h0:0≤a) (h1:a≤63) (hm:m=1∨m=2∨m=4) (k:Nat) (hk:k≤4):∀x∈zF1 a m wp k,I64 x:=by
 intro x hx;obtain⟨j,hj,rfl⟩:=List.mem_map.1 hx;rw[List.mem_range]at hj;unfold I64
 split <;> (rcases hm with rfl|rfl|rfl <;> omega)
end Go.Proofs.YtgkdoehkmbhfiaaGreat
