/- A store and what is held: copies. -/
import Derived.Test.YtgkdoehkmbhfiaaGreatProg
import Derived.WalkKit
import Derived.WalkSpells
import Derived.WalkLawsBesides
import Derived.Deep.Draws
import Derived.Laws.AppendOwnNone
import Derived.BigQuiet
import Derived.BigGuardPart
import Derived.Deep.QuietTactic
import Derived.Lib.LazyBuf
import Derived.Deep.RegionHeld3
set_option linter.unusedVariables false
set_option linter.unusedSimpArgs false
set_option maxHeartbeats 16000000
namespace Go.Proofs.YtgkdoehkmbhfiaaGreat
open Go.RowKit
theorem hid {p:Prop} (h:p):Hid p:=h
theorem ret_int {a b:Int} (h:a=b):Ending.returned (.int .i64 a)=.returned (.int .i64 b):=by rw[h]
theorem ret_bool {a b:Bool} (h:a=b):Ending.returned (.bool a)=.returned (.bool b):=by rw[h]
def I64 (n:Int):Prop:=-9223372036854775808≤n∧n≤9223372036854775807
def Arr (w:World) (B sz:Nat) (v:Value) (rows:List (List Value)):Prop :=
 ∃ ao cap, v = .slice ao rows.length cap ∧ rows.length ≤ cap ∧ cap ≤ 9223372036854775807 ∧ rows.length ≤ 140737488351232 ∧ (ao = none → cap = 0) ∧
  (rows.length≠0→∃b off,ao=some ⟨b,off,none⟩∧b<B∧∀t,t<rows.length→∀j,j<sz→w.cell? ⟨b,off+t * sz+j,none⟩=(rows.getD t [])[j]?)
theorem Arr.below {w w':World} {B sz:Nat} {v:Value} {rows:List (List Value)} (h:Arr w B sz v rows) (hb:Below B w w'):Arr w' B sz v rows:=by
 obtain⟨ao,cap,hv,h1,h2,h0,h9,h3⟩:=h;refine⟨ao,cap,hv,h1,h2,h0,h9,fun hn=>?_⟩;obtain⟨b,off,ha,hlt,hc⟩:=h3 hn;exact⟨b,off,ha,hlt,fun t ht j hj=>by rw[←hc t ht j hj];exact hb.cell (p:=⟨b,_,none⟩) hlt⟩
theorem Arr.mono {w:World} {B B' sz:Nat} {v:Value} {rows:List (List Value)} (h:Arr w B sz v rows) (hb:B≤B'):Arr w B' sz v rows:=by
 obtain⟨ao,cap,hv,h1,h2,h0,h9,h3⟩:=h;refine⟨ao,cap,hv,h1,h2,h0,h9,fun hn=>?_⟩;obtain⟨b,off,ha,hlt,hc⟩:=h3 hn;exact⟨b,off,ha,by omega,hc⟩
theorem Arr.take {w:World} {B sz n cap m:Nat} {ao:Option Addr} {rows:List (List Value)} (h:Arr w B sz (.slice ao n cap) rows) (hm:m≤n):Arr w B sz (.slice ao m cap) (rows.take m):=by
 obtain⟨ao', cap', hv,h1,h2,h0,h9,h3⟩:=h;simp only[Value.slice.injEq]at hv;obtain⟨rfl,rfl,rfl⟩:=hv;have hl:(rows.take m).length=m:=by simp;omega
 refine⟨ao,cap,by rw[hl],by omega,h2,by omega,h9,fun hn=>?_⟩;obtain⟨b,off,ha,hlt,hc⟩:=h3 (by omega);refine⟨b,off,ha,hlt,fun t ht j hj=>?_⟩;rw[hc t (by omega) j hj];simp only[List.getD,List.getElem?_take_of_lt (show t<m by omega)]
def rowI (n:Int):List Value:=[.int .i64 n]
def rowB (x:Bool):List Value:=[.bool x]
def Ints (w:World) (B:Nat) (v:Value) (xs:List Int):Prop:=Arr w B 1 v (xs.map rowI)∧∀x∈xs,I64 x
def Bools (w:World) (B:Nat) (v:Value) (xs:List Bool):Prop:=Arr w B 1 v (xs.map rowB)
def rowU (n:Nat):List Value:=[.int .u8 n]
def Bytes (w:World) (B:Nat) (v:Value) (xs:List Nat):Prop:=Arr w B 1 v (xs.map rowU)∧∀x∈xs,x<256
theorem Bytes.below {w w':World} {B:Nat} {v:Value} {xs:List Nat} (h:Bytes w B v xs) (hb:Below B w w'):Bytes w' B v xs:=⟨h.1.below hb,h.2⟩
theorem Bytes.mono {w:World} {B B':Nat} {v:Value} {xs:List Nat} (h:Bytes w B v xs) (hb:B≤B'):Bytes w B' v xs:=⟨h.1.mono hb,h.2⟩
theorem Bytes.take {w:World} {B n cap m:Nat} {ao:Option Addr} {xs:List Nat} (h:Bytes w B (.slice ao n cap) xs) (hm:m≤n):Bytes w B (.slice ao m cap) (xs.take m) :=
 ⟨by rw[List.map_take];exact h.1.take hm,fun x hx=>h.2 x (List.mem_of_mem_take hx)⟩
theorem Bytes.opened {w : World} {B : Nat} {v : Value} {xs : List Nat} (h : Bytes w B v xs) :
  ∃ ao cap, v = .slice ao xs.length cap ∧ xs.length ≤ cap ∧ cap ≤ 9223372036854775807 ∧ xs.length ≤ 140737488351232 ∧ (ao = none → cap = 0) ∧
   (xs.length≠0→∃b off,ao=some ⟨b,off,none⟩∧b<B∧∀t,t<xs.length→w.cell? ⟨b,off+t,none⟩=some (.int .u8 (xs.getD t 0:Nat))):=by
 obtain⟨⟨ao,cap,hv,h1,h2,h0,h9,h3⟩,_⟩:=h;simp only[List.length_map]at hv h1 h0 h3;refine⟨ao,cap,hv,h1,h2,h0,h9,fun hn=>?_⟩;obtain⟨b,off,ha,hlt,hc⟩:=h3 hn;refine⟨b,off,ha,hlt,fun t ht=>?_⟩;have:=hc t ht 0 (by omega);simp only[Nat.mul_one,Nat.add_zero]at this;rw[this];simp[List.getD,rowU,ht]
theorem Ints.below {w w':World} {B:Nat} {v:Value} {xs:List Int} (h:Ints w B v xs) (hb:Below B w w'):Ints w' B v xs:=⟨h.1.below hb,h.2⟩
theorem Bools.below {w w':World} {B:Nat} {v:Value} {xs:List Bool} (h:Bools w B v xs) (hb:Below B w w'):Bools w' B v xs:=Arr.below h hb
theorem Ints.mono {w:World} {B B':Nat} {v:Value} {xs:List Int} (h:Ints w B v xs) (hb:B≤B'):Ints w B' v xs:=⟨h.1.mono hb,h.2⟩
theorem Bools.mono {w:World} {B B':Nat} {v:Value} {xs:List Bool} (h:Bools w B v xs) (hb:B≤B'):Bools w B' v xs:=Arr.mono h hb
theorem Ints.opened {w : World} {B : Nat} {v : Value} {xs : List Int} (h : Ints w B v xs) :
  ∃ ao cap, v = .slice ao xs.length cap ∧ xs.length ≤ cap ∧ cap ≤ 9223372036854775807 ∧ xs.length ≤ 140737488351232 ∧ (ao = none → cap = 0) ∧
   (xs.length≠0→∃b off,ao=some ⟨b,off,none⟩∧b<B∧∀t,t<xs.length→w.cell? ⟨b,off+t,none⟩=some (.int .i64 (xs.getD t 0))):=by
 obtain⟨⟨ao,cap,hv,h1,h2,h0,h9,h3⟩,_⟩:=h;simp only[List.length_map]at hv h1 h0 h3;refine⟨ao,cap,hv,h1,h2,h0,h9,fun hn=>?_⟩;obtain⟨b,off,ha,hlt,hc⟩:=h3 hn;refine⟨b,off,ha,hlt,fun t ht=>?_⟩;have:=hc t ht 0 (by omega);simp only[Nat.mul_one,Nat.add_zero]at this;rw[this];simp[List.getD,rowI,ht]
theorem Bools.opened {w : World} {B : Nat} {v : Value} {xs : List Bool} (h : Bools w B v xs) :
  ∃ ao cap, v = .slice ao xs.length cap ∧ xs.length ≤ cap ∧ cap ≤ 9223372036854775807 ∧ xs.length ≤ 140737488351232 ∧ (ao = none → cap = 0) ∧
   (xs.length≠0→∃b off,ao=some ⟨b,off,none⟩∧b<B∧∀t,t<xs.length→w.cell? ⟨b,off+t,none⟩=some (.bool (xs.getD t false))):=by
 obtain⟨ao,cap,hv,h1,h2,h0,h9,h3⟩:=h;simp only[List.length_map]at hv h1 h0 h3;refine⟨ao,cap,hv,h1,h2,h0,h9,fun hn=>?_⟩;obtain⟨b,off,ha,hlt,hc⟩:=h3 hn;refine⟨b,off,ha,hlt,fun t ht=>?_⟩;have:=hc t ht 0 (by omega);simp only[Nat.mul_one,Nat.add_zero]at this;rw[this];simp[List.getD,rowB,ht]
theorem Below.draws {B:Nat} {a w:World} (h:Below B a w) (n:Nat):Below B a (w.drewN n):=h.trans ⟨rfl,rfl,rfl,Nat.le_refl _,fun _ _=>rfl⟩
def Drew (w w':World):Prop:=∃n,w' = w.drewN n
theorem Drew.refl (w:World):Drew w w:=⟨0,rfl⟩
theorem Drew.one (w:World) (n:Nat):Drew w (w.drewN n):=⟨n,rfl⟩
theorem Drew.two (w:World) (n m:Nat):Drew w ((w.drewN n).drewN m):=⟨n+m,by simp⟩
theorem Drew.trans {a b c:World} (h:Drew a b) (k:Drew b c):Drew a c:=by
 obtain⟨n,rfl⟩:=h;obtain⟨m,rfl⟩:=k;exact .two ..
theorem Drew.below {w w':World} (h:Drew w w') (B:Nat):Below B w w':=by obtain⟨n,rfl⟩:=h;exact Below.draws (Below.refl _ _) _
theorem Drew.quiet {P : Program} {f : FuncId} {args : Array Value} {w : World} {n : Nat} {v : Value}
  (h:Calls P f args (w.drewN n) fun e w' => e=.returned v∧Drew (w.drewN n) w'):Calls P f args (w.drewN n) fun e w'' => e=.returned v∧∃m,w'' = w.drewN m :=
 h.mono fun _ _ ⟨he,m,hm⟩=>⟨he,n+m,by rw[hm,World.drewN_drewN]⟩
theorem Same.quiet {P : Program} {f : FuncId} {args : Array Value} {w : World} {n : Nat} {v : Value}
  (h:Calls P f args (w.drewN n) fun e w' => e=.returned v∧w.drewN n=w'):Calls P f args (w.drewN n) fun e w'' => e=.returned v∧∃m,w'' = w.drewN m :=
 h.mono fun _ _ ⟨he,hm⟩=>⟨he,n,hm.symm⟩
theorem ownsRow_arr {w : World} {base e sz : Nat} {v : Value} {n : Nat} {cells : List Value} {rows : List (List Value)} (h : w.ownsRow base e sz v n cells)
  (hrows:rows.length=n) (hn:n≤140737488351232) (hc:∀t,t<n→∀j,j<sz→cells[t * sz+j]? = (rows.getD t [])[j]?):Arr w w.heap.size sz v rows:=by
 subst hrows;obtain⟨hl,h2⟩:=h;rcases h2 with⟨rfl,h2⟩|⟨g,cap,cur,rfl,hg,hh,hle,hmax,hsz,hpre⟩
 ·exact⟨none,0,by rw[h2],by omega,by omega,hn,fun _=>rfl,fun hn=>absurd h2 hn⟩
 ·refine⟨_,cap,rfl,hle,by unfold maxLen at hmax;omega,hn,(fun h=>by cases h),fun hn=>⟨g,0,rfl,?_,fun t ht j hj=>?_⟩⟩
  ·rcases Nat.lt_or_ge g w.heap.size with h|h
   ·exact h
   ·rw[Array.getElem?_eq_none h]at hh;simp at hh
  ·have hlt:t * sz+j<rows.length * sz:=by
    have:(t+1) * sz≤rows.length * sz:=Nat.mul_le_mul_right _ ht;rw[Nat.add_mul]at this;omega
   rw[←hc t ht j hj,←hpre];simp only[World.cell?,hh,Nat.zero_add];rw[List.getElem?_take_of_lt hlt];simp
def zE6 {α:Type} (f:α→Value) (z:Value) (xs:List α) (k:Nat):List Value:=(xs.take k).map f++List.replicate (xs.length - k) z
theorem fillRow_zero {α:Type} (f:α→Value) (z:Value) (xs:List α):zE6 f z xs 0=List.replicate xs.length z:=by simp[zE6]
theorem fillRow_all {α:Type} (f:α→Value) (z:Value) (xs:List α):zE6 f z xs xs.length=xs.map f:=by simp[zE6]
theorem fillRow_get {α:Type} (f:α→Value) (z:Value) (xs:List α) (k:Nat) (h:k<xs.length):(zE6 f z xs k)[k]? = some z:=by
 unfold zE6;have hl:((xs.take k).map f).length=k:=by simp;omega
 rw[List.getElem?_append_right (by omega),hl,List.getElem?_replicate,if_pos (by omega)]
theorem fillRow_set {α:Type} (f:α→Value) (z:Value) (xs:List α) (k:Nat) (d:α) (h:k<xs.length):(zE6 f z xs k).set k (f (xs.getD k d))=zE6 f z xs (k+1):=by
 unfold zE6;have hl:((xs.take k).map f).length=k:=by simp;omega
 rw[List.set_append_right _ _ (by omega),hl,Nat.sub_self,List.take_succ_eq_append_getElem h,show xs.length - k=(xs.length - (k+1))+1 from by omega,List.replicate_succ,List.map_append,List.append_assoc];simp only[List.set_cons_zero,List.map_cons,List.map_nil,List.cons_append,List.nil_append];simp[List.getD,h]
def OwnR (w:World) (base e sz:Nat) (v:Value) (n:Nat) (xs:List Value):Prop :=
 xs.length = n * sz ∧ ((v = .slice none 0 0 ∧ n = 0) ∨
  ∃g off cap cur,v=.slice (some ⟨g,off,none⟩) n cap∧base≤g∧w.heap[g]? = some (.cells cur e (0,0))∧n≤cap∧cap≤maxLen∧off+cap * sz≤cur.size∧∀j,j<n * sz→cur[off+j]? = xs[j]?)
def Owns {α:Type} (w:World) (base e sz:Nat) (f:α→List Value) (v:Value) (xs:List α):Prop:=OwnR w base e sz v xs.length (xs.flatMap f)
theorem OwnR.of_row {w:World} {base e sz:Nat} {v:Value} {n:Nat} {xs:List Value} (h:w.ownsRow base e sz v n xs):OwnR w base e sz v n xs:=by
 obtain⟨hl,h2⟩:=h;rcases h2 with⟨rfl,h2⟩|⟨g,cap,cur,rfl,hg,hh,hle,hmax,hsz,hpre⟩
 ·exact⟨hl,.inl ⟨rfl,h2⟩⟩
 ·refine⟨hl,.inr ⟨g,0,cap,cur,rfl,hg,hh,hle,hmax,by omega,fun j hj=>?_⟩⟩;rw[←hpre,List.getElem?_take_of_lt hj];simp
theorem OwnR.lt {w:World} {base e sz:Nat} {v:Value} {n:Nat} {xs:List Value} (h:OwnR w base e sz v n xs):∀k,v.ownBlock=some k→base≤k∧k<w.heap.size:=by
 intro k hk;obtain⟨hl,h2⟩:=h;rcases h2 with⟨rfl,h2⟩|⟨g,off,cap,cur,rfl,hg,hh,_⟩
 ·simp[Value.ownBlock]at hk
 ·simp only[Value.ownBlock,Option.some.injEq]at hk;subst hk;refine⟨hg,?_⟩;rcases Nat.lt_or_ge g w.heap.size with h|h
  ·exact h
  ·rw[Array.getElem?_eq_none h]at hh;simp at hh
theorem OwnR.kept {w w':World} {base e sz:Nat} {v:Value} {n:Nat} {xs:List Value} (h:OwnR w base e sz v n xs) (hk:∀k,v.ownBlock=some k→w'.heap[k]? = w.heap[k]?):OwnR w' base e sz v n xs:=by
 obtain⟨hl,h2⟩:=h;refine⟨hl,?_⟩;rcases h2 with h2|⟨g,off,cap,cur,rfl,hg,hh,r⟩
 ·exact .inl h2
 ·exact .inr ⟨g,off,cap,cur,rfl,hg,by rw[hk g rfl];exact hh,r⟩
theorem OwnR.below {w w':World} {base e sz:Nat} {v:Value} {n:Nat} {xs:List Value} {B:Nat} (h:OwnR w base e sz v n xs) (hb:Below B w w') (hB:∀k,v.ownBlock=some k→k<B):OwnR w' base e sz v n xs :=
 h.kept fun k hk=>hb.block k (hB k hk)
theorem OwnR.later {w w':World} {base e sz:Nat} {v:Value} {n:Nat} {xs:List Value} (h:OwnR w base e sz v n xs) (hb:Below w.heap.size w w'):OwnR w' base e sz v n xs :=
 h.below hb fun k hk=>(h.lt k hk).2
theorem OwnR.alloc {w:World} {base e sz:Nat} {v:Value} {n:Nat} {xs:List Value} (h:OwnR w base e sz v n xs) (o:Obj):OwnR (w.alloc o) base e sz v n xs :=
 h.later ((Below.refl _ _).alloc (Nat.le_refl _) o)
theorem OwnR.rebase {w:World} {base base' e sz:Nat} {v:Value} {n:Nat} {xs:List Value} (h:OwnR w base e sz v n xs) (hb:base' ≤ base):OwnR w base' e sz v n xs:=by
 obtain⟨hl,h2⟩:=h;refine⟨hl,?_⟩;rcases h2 with h2|⟨g,off,cap,cur,hv,hg,r⟩
 ·exact .inl h2
 ·exact .inr ⟨g,off,cap,cur,hv,by omega,r⟩
theorem OwnR.cells {w:World} {base e sz:Nat} {n cap:Nat} {a:Addr} {xs:List Value} (h:OwnR w base e sz (.slice (some a) n cap) n xs):∀j u,xs[j]? = some u→w.cell? (a.add j)=some u:=by
 intro j u hu;obtain⟨hl,h2⟩:=h;rcases h2 with⟨h2,_⟩|⟨g,off,cap,cur,hv,hg,hh,hle,hmax,hsz,hc⟩
 ·cases h2
 ·simp only[Value.slice.injEq,Option.some.injEq]at hv;obtain⟨rfl,_,rfl⟩:=hv;have hj:j<n * sz:=by rw[←hl];exact(List.getElem?_eq_some_iff.1 hu).1
  rw[Addr.add_lit];simp only[World.cell?,hh];rw[hc j hj,hu];simp
theorem run_append_off {P : Program} (w : World) (t ty e : TypeId) (i : TypeInfo) (ht : P.underlying t = some (.slice e)) (hi : P.info? e = some i)
  (g off sLen sCap:Nat) (cur:Array Value) (hg:w.heap[g]? = some (.cells cur e (0,0)))
  (a:Addr) (m c:Nat) (news:List Value) (hl:news.length=m * i.size) (hnews:∀j u,news[j]? = some u→w.cell? (a.add j)=some u) (h1:∀u∈news,u.oneCell' = true)
  (hroom:sLen+m≤sCap) (hfit:off+sLen * i.size+news.length≤cur.size) :
  (Builtin.append_ #[t, t] ty #[.slice (some ⟨g, off, none⟩) sLen sCap, .slice (some a) m c]).run P w =
   .ok (.slice (some ⟨g,off,none⟩) (sLen+m) sCap) (w.setRow g (cur.toList.take (off+sLen * i.size)++news++cur.toList.drop (off+sLen * i.size+news.length)).toArray):=by
 have hf:=run_firstCells_some (P:=P) w i.size m a m c news hl hnews;have hst:=run_storeCells_at P g (off+sLen * i.size) e news 0 cur w hg (by simpa using hfit) h1;simp only[Nat.add_zero]at hst;simp[Builtin.append_,run_underlying ht,sizeOf,typeInfo,hi,Builtin.lenOf,hroom,hf,Addr.add_lit,hst]
theorem run_append_OwnR {P : Program} (w : World) (base : Nat) (t ty e : TypeId) (i : TypeInfo) (z : Value) (size bytes : Nat) (ht : P.underlying t = some (.slice e)) (hi : P.info? e = some i) (hz : i.zero = some z)
  (hsize:i.size=size) (hby:i.bytes=bytes) (hzs:z.cells.size=size)
  (v:Value) (n:Nat) (xs:List Value) (hown:OwnR w base e size v n xs)
  (a:Addr) (m c:Nat) (news:List Value) (hl:news.length=m * size) (hnews:∀j u,news[j]? = some u→w.cell? (a.add j)=some u) (h1:∀u∈news,u.oneCell' = true)
  (h63:n+m≤maxLen) (hbytes:(n+m) * bytes≤140737488355328) (hbase:base≤w.heap.size) :
  ∃ v' w', (Builtin.append_ #[t, t] ty #[v, .slice (some a) m c]).run P w = .ok v' w' ∧ OwnR w' base e size v' (n + m) (xs ++ news) ∧ w.grownBy w' v.ownBlock ∧
   (v' = .slice none 0 0→v=.slice none 0 0∧m=0)∧(v'.ownBlock=v.ownBlock∨v'.ownBlock=some w.heap.size):=by
 subst hsize;subst hby
 have hlen:(xs++news).length=(n+m) * i.size:=by rw[List.length_append,hown.1,hl,Nat.add_mul]
 have grown : ∀ (old : Nat), old < n + m → ∀ (row : Option Nat),
   OwnR (w.drew.alloc (.cells (xs.toArray ++ news.toArray ++ Builtin.zeroCells z.cells (grownCap w (n + m) old e - (n + m))) e)) base e i.size
    (.slice (some ⟨w.heap.size,0,none⟩) (n+m) (grownCap w (n+m) old e)) (n+m) (xs++news) ∧
   w.grownBy (w.drew.alloc (.cells (xs.toArray++news.toArray++Builtin.zeroCells z.cells (grownCap w (n+m) old e - (n+m))) e)) row:=by
  intro old ho row;have hge:=grownCap_ge w (n+m) old e;have hcm:grownCap w (n+m) old e≤maxLen:=grownCap_le_maxLen w (n+m) old e h63;refine⟨⟨hlen,.inr ⟨w.heap.size,0,_,_,rfl,hbase,heap_alloc_new w.drew _,hge,hcm,?_,?_⟩⟩,⟨rfl,rfl,rfl,by simp,fun k hk _=>heap_alloc_old w.drew _ hk⟩⟩
  ·simp only[Array.size_append,List.size_toArray,size_zeroCells,hzs,hown.1,hl,←Nat.add_mul,Nat.zero_add];apply Nat.le_of_eq;congr 1;omega
  ·intro j hj;rw[Nat.zero_add,Array.getElem?_append_left (by simp only[Array.size_append,List.size_toArray,hown.1,hl];rw[←Nat.add_mul];exact hj)];rw[←Array.getElem?_toList];simp
 rcases hown.2 with⟨rfl,rfl⟩|⟨g,off,cap,cur,rfl,hbg,hg,hnc,hcm,hcs,hpre⟩
 ·have hx:xs=[]:=List.eq_nil_of_length_eq_zero (by simpa using hown.1);subst hx;by_cases hm:m=0
  ·subst hm;have hn:news=[]:=List.eq_nil_of_length_eq_zero (by simpa using hl);subst hn;refine⟨.slice none 0 0,w,?_,⟨by simp,.inl ⟨rfl,rfl⟩⟩,⟨rfl,rfl,rfl,Nat.le_refl _,fun _ _ _=>rfl⟩,by simp,.inl rfl⟩;simp[Builtin.append_,run_underlying ht,sizeOf,typeInfo,hi,Builtin.lenOf,Builtin.firstCells,loadCells,loadCellsFrom]
  ·have hr:=run_append_nil (P:=P) w t ty e i z ht hi hz a m c news hl hnews (by omega) (by simp only[maxLen]at h63;omega) (by have hb:=hbytes;simp only[Nat.zero_add]at hb;omega);have hgr:=grown 0 (by omega) (Value.ownBlock (.slice none 0 0));simp only[Nat.zero_add,List.nil_append,Array.empty_append]at hgr ⊢;exact⟨_,_,hr,hgr.1,hgr.2,by simp,.inr rfl⟩
 ·by_cases hroom:n+m≤cap
  ·have hm2:(n+m) * i.size≤cap * i.size:=Nat.mul_le_mul_right _ hroom;have hfit:off+n * i.size+news.length≤cur.size:=by rw[hl];rw[Nat.add_mul]at hm2;omega
   have hr:=run_append_off (P:=P) w t ty e i ht hi g off n cap cur hg a m c news hl hnews h1 hroom hfit;refine⟨_,_,hr,⟨hlen,.inr ⟨g,off,cap,_,rfl,hbg,setRow_heap w g cur _ e _ hg,hroom,hcm,?_,?_⟩⟩,⟨rfl,rfl,rfl,by simp,fun k _ hk=>setRow_other w g k _ (fun e=>hk (by simp[Value.ownBlock,e]))⟩,by simp,.inl rfl⟩
   ·simp only[List.size_toArray,List.length_append,List.length_take,List.length_drop,Array.length_toList];omega
   ·intro j hj;have hlt:(cur.toList.take (off+n * i.size)).length=off+n * i.size:=by simp;omega
    simp only[List.getElem?_toArray,List.append_assoc];by_cases hjn:j<n * i.size
    ·rw[List.getElem?_append_left (by omega),List.getElem?_take_of_lt (by omega),List.getElem?_append_left (by rw[hown.1];exact hjn),←hpre j hjn];simp
    ·have hx1:=hown.1;have e1:(xs++news)[j]? = news[j - n * i.size]?:=by rw[List.getElem?_append_right (by omega),hx1]
     rw[Nat.add_mul]at hj;rw[e1,List.getElem?_append_right (by omega),hlt,List.getElem?_append_left (by omega)]
     congr 1;omega
  ·have hr:=run_append_grow (P:=P) w t ty e i z ht hi hz ⟨g,off,none⟩ n cap xs hown.1 hown.cells a m c news hl hnews (by omega) (by simp only[maxLen]at h63;omega) (growslice_fits (by omega) hbytes);have hgr:=grown cap (by omega) (Value.ownBlock (.slice (some ⟨g,off,none⟩) n cap));exact⟨_,_,hr,hgr.1,hgr.2,by simp,.inr rfl⟩
theorem zD7 {P : Program} {w : World} {ops : Array Oper} {rest : List Oper} {o : Oper} {a : Act} {Q : Exit → Act → World → Prop} (hgd : o.guard = none) (s x : Operand) (t : TypeId)
  (ho:o.op=.call { callee:=.builtin .append,args:=#[s,x],argTypes:=#[t,t] })
  (base:Nat) (e:TypeId) (i:TypeInfo) (z:Value) (size bytes:Nat) (ht:P.underlying t=some (.slice e)) (hi:P.info? e=some i) (hz:i.zero=some z)
  (hsize:i.size=size) (hby:i.bytes=bytes) (hzs:z.cells.size=size)
  (v:Value) (n:Nat) (xs:List Value) (hs:a.eval s=v) (hown:OwnR w base e size v n xs)
  (ad:Addr) (m c:Nat) (news:List Value) (hx:a.eval x=.slice (some ad) m c) (hl:news.length=m * size) (hnews:∀j u,news[j]? = some u→w.cell? (ad.add j)=some u) (h1:∀u∈news,u.oneCell' = true)
  (h63:n+m≤maxLen) (hbytes:(n+m) * bytes≤140737488355328) (hbase:base≤w.heap.size)
  (h:∀v' w', OwnR w' base e size v' (n+m) (xs++news)→w.grownBy w' v.ownBlock→(v' = .slice none 0 0→v=.slice none 0 0∧m=0)→(v'.ownBlock=v.ownBlock∨v'.ownBlock=some w.heap.size)→wpList P ops Q rest (a.put o.dst v') w'):wpList P ops Q (o::rest) a w:=by
 refine wpList_plain hgd fun K hK=>?_
 obtain⟨v', w', hr,h2,h3,h4,h5⟩:=run_append_OwnR (P:=P) w base t o.type e i z size bytes ht hi hz hsize hby hzs v n xs hown ad m c news hl hnews h1 h63 hbytes hbase;unfold Oper.wp execOp;simp only[ho,resolve,invoke,builtin,Sem.run_bind,Sem.run_pure,Result.andThen_ok,List.map_toArray,List.map_cons,List.map_nil,hs,hx,hr];exact hK _ _ (h v' w' h2 h3 h4 h5)
theorem zF5 {P : Program} {w : World} {ops : Array Oper} {rest : List Oper} {o : Oper} {a : Act} {Q : Exit → Act → World → Prop} (hgd : o.guard = none) (s x : Operand) (t : TypeId)
  (ho:o.op=.call { callee:=.builtin .append,args:=#[s,x],argTypes:=#[t,t] })
  (base:Nat) (e:TypeId) (i:TypeInfo) (size:Nat) (ht:P.underlying t=some (.slice e)) (hi:P.info? e=some i)
  (v:Value) (n:Nat) (xs:List Value) (hs:a.eval s=v) (hown:OwnR w base e size v n xs) (hx:a.eval x=.slice none 0 0)
  (h:wpList P ops Q rest (a.put o.dst v) w):wpList P ops Q (o::rest) a w:=by
 refine wpList_plain hgd fun K hK=>?_
 have hrun:(Builtin.append_ #[t,t] o.type #[v,.slice none 0 0]).run P w=.ok v w:=by
  obtain⟨hl,h2⟩:=hown;rcases h2 with⟨rfl,rfl⟩|⟨g,off,cap,cur,rfl,hg,hh,hle,_⟩
  ·simp[Builtin.append_,run_underlying ht,sizeOf,typeInfo,hi,Builtin.lenOf,Builtin.firstCells,loadCells,loadCellsFrom]
  ·simp[Builtin.append_,run_underlying ht,sizeOf,typeInfo,hi,Builtin.lenOf,Builtin.firstCells,hle,storeCells]
 unfold Oper.wp execOp;simp only[ho,resolve,invoke,builtin,Sem.run_bind,Sem.run_pure,Result.andThen_ok,List.map_toArray,List.map_cons,List.map_nil,hs,hx,hrun];exact hK _ _ h
theorem zC0 {α : Type} {f : α → List Value} {sz : Nat} (hf : ∀ x, (f x).length = sz) : ∀ xs : List α, (xs.flatMap f).length = xs.length * sz
 |[]=>by simp
 |x::xs=>by simp[hf x,zC0 hf xs,Nat.add_mul];omega
theorem zJ7 {α : Type} {f : α → List Value} {sz : Nat} (hf : ∀ x, (f x).length = sz) : ∀ (xs : List α) (t j : Nat), t < xs.length → j < sz → (xs.flatMap f)[t * sz + j]? = ((xs.map f).getD t [])[j]?
 |x::xs,0,j,_,hj=>by
  simp only[List.flatMap_cons,Nat.zero_mul,Nat.zero_add,List.map_cons,List.getD_cons_zero];rw[List.getElem?_append_left (by rw[hf];exact hj)]
 |x::xs,t+1,j,ht,hj=>by
  simp only[List.flatMap_cons,List.map_cons,List.getD_cons_succ];rw[List.getElem?_append_right (by rw[hf,Nat.add_mul];omega),hf,show(t+1) * sz+j - sz=t * sz+j from by rw[Nat.add_mul];omega];exact zJ7 hf xs t j (by simpa using ht) hj
theorem OwnR.arr {w : World} {base e sz : Nat} {v : Value} {n : Nat} {cells : List Value} {rows : List (List Value)} (h : OwnR w base e sz v n cells)
  (hrows:rows.length=n) (hn:n≤140737488351232) (hc:∀t,t<n→∀j,j<sz→cells[t * sz+j]? = (rows.getD t [])[j]?):Arr w w.heap.size sz v rows:=by
 subst hrows;have hlt:=h.lt;obtain⟨hl,h2⟩:=h;rcases h2 with⟨rfl,h2⟩|⟨g,off,cap,cur,rfl,hg,hh,hle,hmax,hsz,hpre⟩
 ·exact⟨none,0,by rw[h2],by omega,by omega,hn,fun _=>rfl,fun hn=>absurd h2 hn⟩
 ·refine⟨_,cap,rfl,hle,by unfold maxLen at hmax;omega,hn,(fun h=>by cases h),fun hn=>⟨g,off,rfl,(hlt g rfl).2,fun t ht j hj=>?_⟩⟩;have hlt:t * sz+j<rows.length * sz:=by
   have:(t+1) * sz≤rows.length * sz:=Nat.mul_le_mul_right _ ht;rw[Nat.add_mul]at this;omega
  rw[←hc t ht j hj,←hpre _ hlt];simp only[World.cell?,hh,Nat.add_assoc];simp
theorem Owns.arr {α:Type} {w:World} {base e sz:Nat} {f:α→List Value} {v:Value} {xs:List α} (h:Owns w base e sz f v xs) (hf:∀x,(f x).length=sz) (hn:xs.length≤140737488351232):Arr w w.heap.size sz v (xs.map f) :=
 OwnR.arr h (by simp) hn (fun t ht j hj=>zJ7 hf xs t j ht hj)
theorem Owns.zero {α:Type} {w:World} {base e sz:Nat} {f:α→List Value}:Owns w base e sz f (.slice none 0 0) ([]:List α):=⟨by simp,.inl ⟨rfl,rfl⟩⟩
theorem Owns.lit {α:Type} {w:World} {base e sz:Nat} {f:α→List Value} (hb:base≤w.heap.size):Owns (w.alloc (.cells #[] e)) base e sz f (.slice (some ⟨w.heap.size,0,none⟩) 0 0) ([]:List α) :=
 OwnR.of_row (World.ownsRow_lit w #[] 0 hb (by unfold maxLen;omega) (by simp))
theorem Owns.below {α:Type} {w w':World} {base e sz:Nat} {f:α→List Value} {v:Value} {xs:List α} (h:Owns w base e sz f v xs) (hb:Below w.heap.size w w'):Owns w' base e sz f v xs:=OwnR.later h hb
theorem Owns.rebase {α:Type} {w:World} {base base' e sz:Nat} {f:α→List Value} {v:Value} {xs:List α} (h:Owns w base e sz f v xs) (hb:base' ≤ base):Owns w base' e sz f v xs:=OwnR.rebase h hb
def Elem (T e sz by_:Nat):Prop:=Tryz.prog.underlying T=some (.slice e)∧∃i z,Tryz.prog.info? e=some i∧i.zero=some z∧i.size=sz∧i.bytes=by_∧z.cells.size=sz∧0<sz
theorem zF1 {T e sz by_:Nat} {z:Value} (h:Tryz.prog.underlying T=some (.slice e)) (hi:(Tryz.prog.info? e).map (fun i=>(i.zero,i.size,i.bytes))=some (some z,sz,by_)) (hz:z.cells.size=sz) (hs:0<sz):Elem T e sz by_:=by
 obtain⟨i,h1,h2,h3,h4⟩:=info_parts hi;exact⟨h,i,z,h1,h2,h3,h4,hz,hs⟩
theorem elem_int:Elem 24 3 1 8:=zF1 Tryz.underlying24 (z:=.int .i64 0) (by kernel_rfl) rfl (by omega)
theorem wpList_push {α : Type} {ops : Array Oper} {rest : List Oper} {o : Oper} {a : Act} {Q : Exit → Act → World → Prop} {T e sz by_ : Nat} (E : Elem T e sz by_) (f : α → List Value) (hf : ∀ x, (f x).length = sz) (h1 : ∀ x, ∀ u ∈ f x, u.oneCell' = true)
  (w:World) (hgd:o.guard=none) (s x:Operand) (ho:o.op=.call { callee:=.builtin .append,args:=#[s,x],argTypes:=#[T,T] })
  (base:Nat) (v:Value) (xs:List α) (y:α) (hs:a.eval s=v) (hown:Owns w base e sz f v xs) (cs:Array Value) (hcs:cs.toList=f y) (hx:a.eval x=.slice (some ⟨w.heap.size,0,none⟩) 1 1)
  (hlen:(xs.length+1) * by_≤140737488355328) (hlen2:xs.length+1≤9223372036854775807) (hbase:base≤w.heap.size)
  (h:∀v' w', Owns w' base e sz f v' (xs++[y])→Below base w w' → wpList Tryz.prog ops Q rest (a.put o.dst v') w') :
  wpList Tryz.prog ops Q (o::rest) a (w.alloc (.cells cs e)):=by
 obtain⟨ht,i,z,hi,hz,hsize,hby,hzs,hsz⟩:=E;have hown':OwnR (w.alloc (.cells cs e)) base e sz v xs.length (xs.flatMap f):=OwnR.alloc hown _;refine zD7 hgd s x T ho base e i z sz by_ ht hi hz hsize hby hzs v xs.length (xs.flatMap f) hs hown' ⟨w.heap.size,0,none⟩ 1 1 (f y) hx (by rw[hf];omega) ?_ (h1 y) (by unfold maxLen;omega) hlen (by simp;omega) ?_
 ·intro j u hj;rw[Addr.add_lit,Nat.zero_add,World.cell?_alloc_at _ _ _ _ rfl,←hj,←hcs];simp
 ·intro v' w' ho' hg _ _;refine h v' w' ?_ (((Below.refl _ _).alloc hbase _).grown hg (by simp;omega) (fun k hk=>(OwnR.lt hown k hk).1));unfold Owns;simpa using ho'
theorem zE9 (x:Int):(rowI x).length=1:=rfl
theorem zH9 (x:Int):∀u∈rowI x,u.oneCell' = true:=by intro u hu;simp only[rowI,List.mem_singleton]at hu;subst hu;rfl
theorem Owns.ints {w:World} {base e:Nat} {v:Value} {xs:List Int} (h:Owns w base e 1 rowI v xs) (hn:xs.length≤140737488351232) (hx:∀x∈xs,I64 x):Ints w w.heap.size v xs:=⟨h.arr zE9 hn,hx⟩
theorem zL6 {α:Type} {f:α→List Value} {sz:Nat} (hf:∀x,(f x).length=sz) (ys:List α) (j:Nat) (hj:j<ys.length * sz) (hs:0<sz):(ys.flatMap f)[j]? = ((ys.map f).getD (j / sz) [])[j % sz]?:=by
 have:=zJ7 hf ys (j / sz) (j % sz) (Nat.div_lt_of_lt_mul (by rw[Nat.mul_comm];exact hj)) (Nat.mod_lt _ hs);rw[←this]
 congr 1
 have:=Nat.div_add_mod j sz;rw[Nat.mul_comm]at this;omega
theorem zG2 {α : Type} {ops : Array Oper} {rest : List Oper} {o : Oper} {a : Act} {Q : Exit → Act → World → Prop} {T e sz by_ : Nat} (E : Elem T e sz by_) (f : α → List Value) (hf : ∀ x, (f x).length = sz) (h1 : ∀ x, ∀ u ∈ f x, u.oneCell' = true)
  (w:World) (hgd:o.guard=none) (s x:Operand) (ho:o.op=.call { callee:=.builtin .append,args:=#[s,x],argTypes:=#[T,T] })
  (base:Nat) (v:Value) (xs:List α) (hs:a.eval s=v) (hown:Owns w base e sz f v xs) (u:Value) (ys:List α) (B:Nat) (hx:a.eval x=u) (harr:Arr w B sz u (ys.map f))
  (hlen:(xs.length+ys.length) * by_≤140737488355328) (hlen2:xs.length+ys.length≤9223372036854775807) (hbase:base≤w.heap.size)
  (h:∀v' w', Owns w' base e sz f v' (xs++ys)→Below base w w' → (v' = .slice none 0 0→v=.slice none 0 0)→wpList Tryz.prog ops Q rest (a.put o.dst v') w') :
  wpList Tryz.prog ops Q (o::rest) a w:=by
 obtain⟨ht,i,z,hi,hz,hsize,hby,hzs,hsz⟩:=E;obtain⟨ao,cap,rfl,g1,g2,g0,g9,g3⟩:=harr;simp only[List.length_map]at hx g1 g0 g3;cases ao with
 |none=>
  have hc:=g9 rfl;have hy:ys=[]:=by
   rcases ys with _|⟨y,ys⟩
   ·rfl
   ·simp at g1;omega
  subst hy hc;refine zF5 hgd s x T ho base e i sz ht hi v xs.length (xs.flatMap f) hs hown hx (h v w (by simpa using hown) (Below.refl _ _) (fun h=>h))
 |some ad=>
  refine zD7 hgd s x T ho base e i z sz by_ ht hi hz hsize hby hzs v xs.length (xs.flatMap f) hs hown ad ys.length cap (ys.flatMap f) hx (zC0 hf ys) ?_ ?_ (by unfold maxLen;omega) hlen hbase ?_
  ·intro j u hj;have hjl:j<ys.length * sz:=by rw[←zC0 hf ys];exact(List.getElem?_eq_some_iff.1 hj).1
   have hyn:ys.length≠0:=by intro h0;rw[h0]at hjl;omega
   obtain⟨b,off,had,_,hc⟩:=g3 hyn;obtain rfl:=Option.some.inj had;rw[Addr.add_lit,←hj,zL6 hf ys j hjl hsz,←hc (j / sz) (Nat.div_lt_of_lt_mul (by rw[Nat.mul_comm];exact hjl)) (j % sz) (Nat.mod_lt _ hsz)];have e:off+j / sz * sz+j % sz=off+j:=by
    have:=Nat.div_add_mod j sz;rw[Nat.mul_comm]at this;omega
   rw[e]
  ·intro u hu;obtain⟨y,_,hy⟩:=List.mem_flatMap.1 hu;exact h1 y u hy
  ·intro v' w' ho' hg hiff _;refine h v' w' ?_ ((Below.refl _ _).grown hg hbase (fun k hk=>(OwnR.lt hown k hk).1)) (fun hv=>(hiff hv).1);unfold Owns;simpa using ho'
def inB (n lo hi:Int):Bool:=decide (lo≤n)&&decide (n≤hi)
theorem zH2 (n lo hi : Int) (w : World) :
  Calls Tryz.prog 63 #[.int .i64 n,.int .i64 lo,.int .i64 hi] w fun e w' => e=.returned (.bool (inB n lo hi))∧w=w':=by
 by_cases h1:lo≤n
 all_goals
  go_enter Tryz.func63,Tryz.ntmps63
  go_wp2
  go_ret
  exact⟨by simp[inB,h1];try omega,rfl⟩
theorem zK9 {k:Nat} {P:Nat→Prop} (h1:∀j,j<k→P j) (h2:P k):∀j,j<k+1→P j:=by
 intro j hj;rcases Nat.lt_succ_iff_lt_or_eq.1 hj with h|h
 ·exact h1 j h
 ·subst h;exact h2
end Go.Proofs.YtgkdoehkmbhfiaaGreat
namespace Go.Proofs.YtgkdoehkmbhfiaaGreat
structure MR where
 fr:Int
 to:Int
 sl:Int
 only:Bool
deriving Inhabited
structure Rq where
 id:Int
 kind:Int
 addr:Int
 many:Int
 wrap:Bool
 data:List Int
 lanes:List Int
deriving Inhabited
structure Rs where
 id:Int
 code:Int
 data:List Int
deriving Inhabited
def zL4 (ms:List MR) (k:Nat):Bool :=
 let r:=ms.getD k default
 inB r.fr 0 r.to&&decide (r.to≤63)&&inB r.sl 0 2&&(ms.take k).all (fun q=>!(decide (r.fr≤q.to)&&decide (q.fr≤r.to)))
def mapOk (ms:List MR):Bool:=decide (ms.length≤4)&&(List.range ms.length).all (zL4 ms)
def rngOf (ms:List MR) (a:Int):Int:=match ms.findIdx? (fun r=>inB a r.fr r.to) with|some k=>k|none=>-1
def adrOk (a m:Int) (wrap:Bool):Bool:=inB a 0 63&&(m==1 || m==2 || m==4)&&(wrap || decide (a+m - 1≤63))
def burst (a m:Int) (wrap:Bool):List Int :=
 if adrOk a m wrap=true then(List.range m.toNat).map (fun(k:Nat)=>if wrap then a - a % m+(a+(k:Int)) % m else a+(k:Int)) else[]
def zA5 (ms:List MR) (all:List Int):Int :=
 match all with
 |[]=>-1
 |a::rest=>if rest.all (fun b=>rngOf ms b==rngOf ms a) then rngOf ms a else -1
def zB1 (n:Int):Bool:=inB n 0 65535
def memOk (ws:List Int):Bool:=ws.length==64&&ws.all zB1
def atmOk (ws hs:List Int):Bool:=memOk ws&&hs.length==6&&hs.all (fun h=>inB h (-1) 63)
def zB8 (r:Rq):Bool:=r.kind==2 || r.kind==4
def reqOk (r:Rq):Bool :=
  inB r.id 0 1 && inB r.kind 1 4 && adrOk r.addr r.many r.wrap && (r.kind == 1 || r.kind == 2 || r.many == 1) &&
    (if zB8 r then ((r.data.length : Int) == r.many) && ((r.lanes.length : Int) == r.many) && r.data.all zB1 && r.lanes.all (fun l => inB l 0 3)
     else r.data.length==0&&r.lanes.length==0)
def zA4 (r:Rq):List Int:=burst r.addr r.many r.wrap
def zH7 (ms:List MR) (r:Rq):Int:=if zA5 ms (zA4 r)<0 then 3 else(ms.getD (zA5 ms (zA4 r)).toNat default).sl
def rspOk (x:Rs):Bool:=inB x.id 0 1&&inB x.code 1 4&&decide (x.data.length≤4)&&x.data.all zB1
def putW (old new lanes:Int):Int :=
 (if lanes / 2=1 then new / 256 else old / 256) * 256+(if lanes % 2=1 then new % 256 else old % 256)
def zB6 (ws : List Int) : List Int → List Int → List Int → List Int
 |a::rest,d::ds,l::ls=>zB6 (ws.set a.toNat (putW (ws.getD a.toNat 0) d l)) rest ds ls
 |_,_,_=>ws
def zC7 (ws:List Int) (all:List Int):List Int:=all.map fun a=>ws.getD a.toNat 0
def zC6 (hs:List Int) (all:List Int):List Int:=hs.map fun h=>if all.contains h then -1 else h
def doReq (ms:List MR) (ws hs:List Int) (who:Int) (r:Rq):List Int×List Int×Rs :=
 let all:=zA4 r
 let k:=zA5 ms all
 let at_:=(who * 2+r.id).toNat
 if k<0 then(ws,hs,⟨r.id,4,[]⟩)
 else if zB8 r&&(ms.getD k.toNat default).only then(ws,hs,⟨r.id,3,[]⟩)
 else if r.kind==1 then(ws,hs,⟨r.id,1,zC7 ws all⟩)
 else if r.kind==3 then(ws,hs.set at_ r.addr,⟨r.id,2,zC7 ws all⟩)
 else if r.kind==4&&!(hs.getD at_ 0==r.addr) then(ws,hs,⟨r.id,1,[]⟩)
 else(zB6 ws all r.data r.lanes,zC6 hs all,⟨r.id,if r.kind==4 then 2 else 1,[]⟩)
end Go.Proofs.YtgkdoehkmbhfiaaGreat
namespace Go.Proofs.YtgkdoehkmbhfiaaGreat
open Go.RowKit
theorem infoI:(Tryz.prog.info? 3).map (fun i=>(i.zero,i.size,i.bytes))=some (some (.int .i64 0),1,8):=by kernel_rfl
theorem own_ints {w:World} {base:Nat} {u:Value} {xs:List Int} (h:w.ownsRow base 3 1 u xs.length (xs.map (Value.int .i64))) (hn:xs.length≤140737488351232) (hx:∀x∈xs,I64 x):Ints w w.heap.size u xs :=
 ⟨ownsRow_arr h (by simp) hn (fun t ht j hj => by
  obtain rfl:j=0:=by omega
  simp[rowI,ht]),hx⟩
def zE4 (K:FuncId):Prop:=∀(args:Array Value) (w:World),(callFunc K args).run Tryz.prog w=.ok (.enter K args) w
theorem zB3 {K : FuncId} {fn : Func} (h : Tryz.prog.funcs[K]? = some fn) (hn : (fn.name == "runtime.NumGoroutine") = false) (hb : fn.body.isNone = false) : zE4 K := by
 intro args w;have hn' : ¬ fn.name = "runtime.NumGoroutine" := by simpa using hn
 have hb':¬fn.body=none:=by intro h';rw[h']at hb;simp at hb
 simp[callFunc,h,hn', hb', go_sem]
def idxP {α:Type} (p:α→Bool) (xs:List α):Int:=match xs.findIdx? p with|some k=>k|none=>-1
theorem zM7 {α:Type} (p:α→Bool) (xs:List α) (k:Nat) (d:α) (hk:k<xs.length) (h:p (xs.getD k d)=true) (hno:∀j,j<k→p (xs.getD j d)=false):idxP p xs=k:=by
 have:xs.findIdx? p=some k:=by
  rw[List.findIdx?_eq_some_iff_getElem];refine⟨hk,by simpa[List.getD,hk]using h,fun j hj=>?_⟩;have hj2:j<xs.length:=by omega
  have:=hno j hj;simp[List.getD,hj2]at this;simp[this]
 simp[idxP,this]
theorem zL8 {α:Type} (p:α→Bool) (xs:List α) (d:α) (hno:∀j,j<xs.length→p (xs.getD j d)=false):idxP p xs = -1:=by
 have:xs.findIdx? p=none:=by
  rw[List.findIdx?_eq_none_iff];intro x hx;obtain⟨i,hi,rfl⟩:=List.mem_iff_getElem.1 hx;have:=hno i hi;simpa[List.getD,hi]using this
 simp[idxP,this]
theorem idxP_any {α:Type} (p:α→Bool) (xs:List α):decide (0≤idxP p xs)=xs.any p:=by
 unfold idxP;rcases h:xs.findIdx? p with _|k
 ·rw[List.findIdx?_eq_none_iff]at h;simp only[Int.reduceNeg,Int.reduceLE,decide_false]
  symm;rw[List.any_eq_false];intro x hx;simp[h x hx]
 ·rw[List.findIdx?_eq_some_iff_getElem]at h;obtain⟨hk,h1,_⟩:=h;simp only[Int.natCast_nonneg,decide_true]
  symm;rw[List.any_eq_true];exact⟨_,List.getElem_mem hk,h1⟩
theorem idxInt_any (K : FuncId) (cap : Array Value) (hK : zE4 K) (p : Int → Bool) (v : Value) (xs : List Int) (B : Nat) (w : World) (hv : Ints w B v xs)
  (hf:∀x,I64 x→Calls Tryz.prog K (#[.int .i64 x]++cap) w fun e w' => e=.returned (.bool (p x))∧w=w') :
  Calls Tryz.prog 149 #[v,.func (.func K) #[] cap] w fun e w' => e=.returned (.int .i64 (idxP p xs))∧w=w':=by
 obtain⟨ao,cap', rfl,hlc,hcap,hln,hni,hr⟩:=hv.opened;have HV:=hid hv;clear hv;have HF:=hid hf;clear hf;have hK2:=fun args w=>hK args w
 go_enter Tryz.func149,Tryz.ntmps149
 go_wp2_with fail
 go_loop [8] (fun i=>∃k:Nat,k≤xs.length∧i=.int .i64 k∧∀j,j<k→p (xs.getD j 0)=false) (fun i=>xs.length - (intOf i).toNat)
 case atStart=>exact⟨0,Nat.zero_le _,rfl,by simp⟩
 case round=>
  obtain⟨k,hk,rfl,hno⟩:=hrel;have HN:=hid hno;clear hno;by_cases hlt:k<xs.length
  ·obtain⟨b,off,rfl,hb,hc⟩:=hr (by omega);have hck:=hc k hlt;have hx64:I64 (xs.getD k 0):=HV.out.2 _ (by simp[List.getD,hlt]);obtain⟨x,hx⟩:∃x,x=xs.getD k 0:=⟨_,rfl⟩
   rw[←hx]at hck hx64;have HX:=hid hx;have HI:=hid hx64;clear hx hc hr hx64
   go_wp2_with fail
   refine(HF.out x HI.out).mono ?_;rintro e w' ⟨rfl,rfl⟩;rcases hp:p x with _|_
   ·have HQ:=hid (zK9 HN.out (show p (xs.getD k 0)=false by rw[←HX.out];exact hp))
    go_wp2_with fail
    go_round
    case rel=>exact⟨k+1,by omega,by go_num,HQ.out⟩
    case measure=>simp[intOf];omega
   ·have HQ:=hid (zM7 p xs k 0 hlt (by rw[←HX.out];exact hp) HN.out)
    go_wp2_with fail
    go_ret
    exact⟨by rw[HQ.out];rfl,rfl⟩
  ·have HF2:=hid (zL8 p xs 0 (fun j hj=>HN.out j (by omega)))
   go_wp2_with fail
   go_ret
   exact⟨by rw[HF2.out];rfl,rfl⟩
theorem zI7 (K : FuncId) (cap : Array Value) (hK : zE4 K) (p : Int → Bool) (v : Value) (xs : List Int) (B : Nat) (w : World) (hv : Ints w B v xs)
  (hf:∀x,I64 x→Calls Tryz.prog K (#[.int .i64 x]++cap) w fun e w' => e=.returned (.bool (p x))∧w=w') :
  Calls Tryz.prog 98 #[v,.func (.func K) #[] cap] w fun e w' => e=.returned (.bool (xs.any p))∧w=w':=by
 have HA:=hid (idxP_any p xs);obtain⟨y,hy⟩:∃y,y=xs.any p:=⟨_,rfl⟩
 rw[←hy]at HA ⊢;clear hy
 go_enter Tryz.func98,Tryz.ntmps98
 go_wp2_with fail
 refine(idxInt_any K cap hK p v xs B _ hv hf).mono ?_;rintro e w' ⟨rfl,rfl⟩
 go_wp2_with fail
 go_ret
 exact⟨by rw[←HA.out];rfl,rfl⟩
def rowM (r:MR):List Value:=[.int .i64 r.fr,.int .i64 r.to,.int .i64 r.sl,.bool r.only]
def MR64 (r:MR):Prop:=I64 r.fr∧I64 r.to∧I64 r.sl
def Maps (w:World) (B:Nat) (v:Value) (ms:List MR):Prop:=Arr w B 4 v (ms.map rowM)∧∀r∈ms,MR64 r
theorem Maps.below {w w':World} {B:Nat} {v:Value} {xs:List MR} (h:Maps w B v xs) (hb:Below B w w'):Maps w' B v xs:=⟨h.1.below hb,h.2⟩
theorem Maps.mono {w:World} {B B':Nat} {v:Value} {xs:List MR} (h:Maps w B v xs) (hb:B≤B'):Maps w B' v xs:=⟨h.1.mono hb,h.2⟩
theorem Maps.take {w:World} {B n cap m:Nat} {ao:Option Addr} {xs:List MR} (h:Maps w B (.slice ao n cap) xs) (hm:m≤n):Maps w B (.slice ao m cap) (xs.take m) :=
 ⟨by rw[List.map_take];exact h.1.take hm,fun x hx=>h.2 x (List.mem_of_mem_take hx)⟩
theorem Maps.opened {w : World} {B : Nat} {v : Value} {ms : List MR} (h : Maps w B v ms) :
  ∃ ao cap, v = .slice ao ms.length cap ∧ ms.length ≤ cap ∧ cap ≤ 9223372036854775807 ∧ ms.length ≤ 140737488351232 ∧ (ao = none → cap = 0) ∧
   (ms.length ≠ 0 → ∃ b off, ao = some ⟨b, off, none⟩ ∧ b < B ∧ ∀ t, t < ms.length → w.cell? ⟨b, off + t * 4, none⟩ = some (.int .i64 (ms.getD t default).fr) ∧ w.cell? ⟨b, off + t * 4 + 1, none⟩ = some (.int .i64 (ms.getD t default).to) ∧
    w.cell? ⟨b,off+t * 4+2,none⟩=some (.int .i64 (ms.getD t default).sl)∧w.cell? ⟨b,off+t * 4+3,none⟩=some (.bool (ms.getD t default).only)):=by
 obtain⟨⟨ao,cap,hv,h1,h2,h0,h9,h3⟩,_⟩:=h;simp only[List.length_map]at hv h1 h0 h3;refine⟨ao,cap,hv,h1,h2,h0,h9,fun hn=>?_⟩;obtain⟨b,off,ha,hlt,hc⟩:=h3 hn;refine⟨b,off,ha,hlt,fun t ht=>?_⟩;have e:(ms.map rowM).getD t []=rowM (ms.getD t default):=by simp[List.getD,ht]
 have k0:=hc t ht 0 (by omega);have k1:=hc t ht 1 (by omega);have k2:=hc t ht 2 (by omega);have k3:=hc t ht 3 (by omega);rw[e]at k0 k1 k2 k3;exact⟨k0,k1,k2,k3⟩
theorem zB5 {α:Type} {xs:List α} {k:Nat} {d:α} (h:k<xs.length):xs.getD k d∈xs:=by simp[List.getD,h]
def IdxMP (p:MR→Bool) (ms:List MR) (w:World) (e:Ending) (w':World):Prop:=e=.returned (.int .i64 (idxP p ms))∧Below w.heap.size w w'
def HasMP (p:MR→Bool) (ms:List MR) (w:World) (e:Ending) (w':World):Prop:=e=.returned (.bool (ms.any p))∧Below w.heap.size w w'
theorem idxMap_any (K : FuncId) (cap : Array Value) (hK : zE4 K) (p : MR → Bool) (v : Value) (ms : List MR) (B : Nat) (w : World) (hv : Maps w B v ms) (hB : B ≤ w.heap.size)
  (hf:∀(r:MR) (w1:World),Below w.heap.size w w1→Calls Tryz.prog K (#[.agg #[.int .i64 r.fr,.int .i64 r.to,.int .i64 r.sl,.bool r.only]]++cap) w1 fun e w' => e=.returned (.bool (p r))∧Below w1.heap.size w1 w') :
  Calls Tryz.prog 146 #[v,.func (.func K) #[] cap] w (IdxMP p ms w):=by
 obtain⟨ao,cap', rfl,hlc,hcap,hln,hni,hr⟩:=hv.opened;have HF:=hid hf;clear hf hv;have hK2:=fun args w=>hK args w
 go_enter Tryz.func146,Tryz.ntmps146
 go_wp2_with fail
 go_loopw [8] (fun i wr=>∃k:Nat,k≤ms.length∧i=.int .i64 k∧Below w.heap.size w wr∧∀j,j<k→p (ms.getD j default)=false) (fun i _=>ms.length - (intOf i).toNat)
 case atStart=>exact⟨0,Nat.zero_le _,rfl,Below.refl _ _,by simp⟩
 case round=>
  obtain⟨k,hk,rfl,hbl,hno⟩:=hrel;have HN:=hid hno;clear hno;by_cases hlt:k<ms.length
  ·obtain⟨b,off,rfl,hb,hc⟩:=hr (by omega);obtain⟨c0,c1,c2,c3⟩:=hc k hlt;obtain⟨x,hx⟩:∃x,x=ms.getD k default:=⟨_,rfl⟩
   rw[←hx]at c0 c1 c2 c3;rw[←hbl.cell (p:=⟨b,_,none⟩) (Nat.lt_of_lt_of_le hb hB)]at c0 c1 c2 c3;have HX:=hid hx;clear hx hc hr
   go_wp2_with fail
   refine(HF.out x _ hbl).mono ?_;rintro e w' ⟨rfl,hb'⟩;have hsz:=hbl.size;have HB:=hid (hbl.trans (hb'.mono hsz));clear hbl;rcases hp:p x with _|_
   ·have HQ:=hid (zK9 HN.out (show p (ms.getD k default)=false by rw[←HX.out];exact hp))
    go_wp2_with fail
    go_roundw
    case rel=>exact⟨k+1,by omega,by go_num,HB.out,HQ.out⟩
    case measure=>simp[intOf];omega
   ·have HQ:=hid (zM7 p ms k default hlt (by rw[←HX.out];exact hp) HN.out)
    go_wp2_with fail
    go_ret
    exact⟨by rw[HQ.out];rfl,HB.out⟩
  ·have HF2:=hid (zL8 p ms default (fun j hj=>HN.out j (by omega)))
   go_wp2_with fail
   go_ret
   exact⟨by rw[HF2.out];rfl,hbl⟩
theorem hasMap_any (K : FuncId) (cap : Array Value) (hK : zE4 K) (p : MR → Bool) (v : Value) (ms : List MR) (B : Nat) (w : World) (hv : Maps w B v ms) (hB : B ≤ w.heap.size)
  (hf:∀(r:MR) (w1:World),Below w.heap.size w w1→Calls Tryz.prog K (#[.agg #[.int .i64 r.fr,.int .i64 r.to,.int .i64 r.sl,.bool r.only]]++cap) w1 fun e w' => e=.returned (.bool (p r))∧Below w1.heap.size w1 w') :
  Calls Tryz.prog 94 #[v,.func (.func K) #[] cap] w (HasMP p ms w):=by
 have HA:=hid (idxP_any p ms)
 go_enter Tryz.func94,Tryz.ntmps94
 go_wp2_with fail
 refine(idxMap_any K cap hK p v ms B _ hv hB hf).mono ?_;rintro e w' ⟨rfl,hb⟩
 go_wp2_with fail
 go_ret
 exact⟨by rw[←HA.out];rfl,hb⟩
theorem zM5 (v : Value) (ms : List MR) (a : Int) (B : Nat) (w : World) (hv : Maps w B v ms) (hB : B ≤ w.heap.size) :
  Calls Tryz.prog 150 #[v,.int .i64 a] w fun e w' => e=.returned (.int .i64 (rngOf ms a))∧Below w.heap.size w w':=by
 have hE:rngOf ms a=idxP (fun r=>inB a r.fr r.to) ms:=rfl;have HE:=hid hE;clear hE;have hcl:∀(r:MR) (w1:World),Below (w.heap.size+1) (w.alloc (.cells #[.int .i64 a] 3)) w1→Calls Tryz.prog 172 (#[.agg #[.int .i64 r.fr,.int .i64 r.to,.int .i64 r.sl,.bool r.only]]++#[.pointer (some ⟨w.heap.size,0,none⟩)]) w1 fun e w' => e=.returned (.bool (inB a r.fr r.to))∧Below w1.heap.size w1 w':=by
  intro r w1 hb;have hc:w1.cell? ⟨w.heap.size,0,none⟩=some (.int .i64 a):=by
   rw[hb.cell (p:=⟨w.heap.size,0,none⟩) (by simp)];simp
  have hsz:=hb.size;simp only[World.size_alloc]at hsz;have hsz2:w.heap.size<w1.heap.size:=by omega
  clear hb hsz
  go_enter Tryz.func172,Tryz.ntmps172
  go_wp2_with (go_at_call 63;refine(zH2 _ _ _ _).mono ?_;rintro e w' ⟨rfl,rfl⟩)
  go_ret
  exact⟨rfl,(Below.refl _ _).alloc (Nat.le_refl _) _⟩
 have HC:=hid hcl;clear hcl
 go_enter Tryz.func150,Tryz.ntmps150
 go_wp2_with fail
 refine(idxMap_any 172 #[.pointer (some ⟨w.heap.size,0,none⟩)] (zB3 Tryz.func172 (by kernel_rfl) (by kernel_rfl)) (fun r=>inB a r.fr r.to) v ms B _ (hv.below ((Below.refl _ _).alloc hB _)) (by simp;omega) (fun r w1 hb=>HC.out r w1 (by simpa using hb))).mono ?_;rintro e w' ⟨rfl,hb⟩
 go_wp2_with fail
 go_ret
 exact⟨by rw[HE.out];rfl,((Below.refl _ _).alloc (Nat.le_refl _) _).trans (hb.mono (by simp))⟩
def over (r q:MR):Bool:=decide (q.fr≤r.to)&&decide (r.fr≤q.to)
theorem rangeOk_eq (ms:List MR) (k:Nat) (x:MR) (hx:x=ms.getD k default):zL4 ms k=(inB x.fr 0 63&&inB x.to x.fr 63&&inB x.sl 0 2&&!((ms.take k).any (over x))):=by
 subst hx;unfold zL4 over;have e1:∀q:MR,(!(decide (((ms.getD k default).fr)≤q.to)&&decide (q.fr≤(ms.getD k default).to)))=!(decide (q.fr≤(ms.getD k default).to)&&decide ((ms.getD k default).fr≤q.to)):=fun q=>by rw[Bool.and_comm]
 rw[List.not_any_eq_all_not];simp only[e1,Function.comp_def]
 congr 1
 congr 1
 rw[Bool.eq_iff_iff];simp only[inB,Bool.and_eq_true,decide_eq_true_eq];omega
theorem mapOk_bad {ms:List MR} {k:Nat} (hk:k<ms.length) (h:zL4 ms k=false):mapOk ms=false:=by
 unfold mapOk;rw[Bool.and_eq_false_iff];right;rw[List.all_eq_false];exact⟨k,by simpa using hk,by simp[h]⟩
theorem mapOk_all {ms:List MR} (h:∀j,j<ms.length→zL4 ms j=true):mapOk ms=decide (ms.length≤4):=by
 unfold mapOk;have:(List.range ms.length).all (zL4 ms)=true:=by rw[List.all_eq_true];intro j hj;exact h j (by simpa using hj)
 rw[this,Bool.and_true]
theorem zD3 (v : Value) (ms : List MR) (B : Nat) (w : World) (hv : Maps w B v ms) (hB : B ≤ w.heap.size) :
  Calls Tryz.prog 47 #[v] w fun e w' => e=.returned (.bool (mapOk ms))∧Below w.heap.size w w':=by
 obtain⟨ao,cap,rfl,hlc,hcap,hln,hni,hr⟩:=hv.opened
 go_enter Tryz.func47,Tryz.ntmps47
 go_wp2_with fail
 go_loopw [7] (fun i wr=>∃k:Nat,k≤ms.length∧i=.int .i64 k∧Below w.heap.size w wr∧∀j,j<k→zL4 ms j=true) (fun i _=>ms.length - (intOf i).toNat)
 case atStart=>exact⟨0,Nat.zero_le _,rfl,Below.refl _ _,by simp⟩
 case round=>
  obtain⟨k,hk,rfl,hbl,hno⟩:=hrel;have HN:=hid hno;clear hno;by_cases hlt:k<ms.length
  ·obtain⟨b,off,rfl,hb,hc⟩:=hr (by omega);obtain⟨c0,c1,c2,c3⟩:=hc k hlt;obtain⟨x,hx⟩:∃x,x=ms.getD k default:=⟨_,rfl⟩
   rw[←hx]at c0 c1 c2 c3;rw[←hbl.cell (p:=⟨b,_,none⟩) (Nat.lt_of_lt_of_le hb hB)]at c0 c1 c2 c3;have HE:=hid (rangeOk_eq ms k x hx);clear hx hc hr;have hsz:=hbl.size;have hcl:∀(q:MR) (w1:World),Below (wr.heap.size+1) (wr.alloc (.cells #[.int .i64 x.fr,.int .i64 x.to,.int .i64 x.sl,.bool x.only] 144)) w1→Calls Tryz.prog 95 (#[.agg #[.int .i64 q.fr,.int .i64 q.to,.int .i64 q.sl,.bool q.only]]++#[.pointer (some ⟨wr.heap.size,0,none⟩)]) w1 fun e w' => e=.returned (.bool (over x q))∧Below w1.heap.size w1 w':=by
    intro q w1 hb;have d0:w1.cell? ⟨wr.heap.size,0,none⟩=some (.int .i64 x.fr):=by rw[hb.cell (p:=⟨wr.heap.size,0,none⟩) (by simp)];simp
    have d1:w1.cell? ⟨wr.heap.size,1,none⟩=some (.int .i64 x.to):=by rw[hb.cell (p:=⟨wr.heap.size,1,none⟩) (by simp)];simp
    have hsz1:=hb.size;simp only[World.size_alloc]at hsz1;have hsz2:wr.heap.size<w1.heap.size:=by omega
    clear hb hsz1 hbl c0 c1 c2 c3
    go_enter Tryz.func95,Tryz.ntmps95
    go_wp2
    all_goals
     go_ret
     exact⟨by simp[over, *];try omega,(Below.refl _ _).alloc (Nat.le_refl _) _⟩
   have HC:=hid hcl;clear hcl;have hv2:=hid (Maps.take hv (show k≤ms.length by omega))
   go_wp2_with (first
    |(go_at_call 63;refine(zH2 _ _ _ _).mono ?_;rintro e w' ⟨rfl,rfl⟩)
    |(go_at_call 94;go_must (refine(hasMap_any 95 _ (zB3 Tryz.func95 (by kernel_rfl) (by kernel_rfl)) (over x) _ (ms.take k) B _ (hv2.out.below ((hbl.mono hB).trans ((Below.refl _ _).alloc (by omega) _))) (by simp;omega) (fun r w1 hb=>HC.out r w1 (by simpa using hb))).mono ?_);rintro e w' ⟨rfl,hb2⟩))
   ·have HF:=hid (mapOk_bad hlt (by rw[HE.out];simp[*]))
    go_ret
    exact⟨by rw[HF.out];rfl,hbl.trans ((Below.refl _ _).alloc (by omega) _)⟩
   ·have HF:=hid (mapOk_bad hlt (by rw[HE.out];simp[*]))
    go_ret
    exact⟨by rw[HF.out];rfl,hbl.trans ((Below.refl _ _).alloc (by omega) _)⟩
   ·have HF:=hid (mapOk_bad hlt (by rw[HE.out];simp[*]))
    go_ret
    exact⟨by rw[HF.out];rfl,hbl.trans ((Below.refl _ _).alloc (by omega) _)⟩
   ·have HF:=hid (mapOk_bad hlt (by rw[HE.out];simp only[*];simp))
    go_ret
    exact⟨by rw[HF.out];rfl,(hbl.trans ((Below.refl _ _).alloc (by omega) _)).trans (hb2.mono (by simp;omega))⟩
   ·have HQ:=hid (zK9 HN.out (show zL4 ms k=true by rw[HE.out];simp only[*];simp))
    go_roundw
    case rel=>exact⟨k+1,by omega,by go_num,(hbl.trans ((Below.refl _ _).alloc (by omega) _)).trans (hb2.mono (by simp;omega)),HQ.out⟩
    case measure=>simp[intOf];omega
  ·have HF:=hid (mapOk_all (fun j hj=>HN.out j (by omega)))
   go_wp2_with fail
   go_ret
   exact⟨by rw[HF.out];exact ret_bool (by rw[decide_eq_decide];omega),hbl⟩
theorem zI4 (a m:Int) (wr:Bool):adrOk a m wr=true↔(0≤a∧a≤63∧(m=1∨m=2∨m=4)∧(wr=true∨a+m - 1≤63)):=by
 simp[adrOk,inB,or_assoc,and_assoc]
theorem zM6 (a m:Int) (wr:Bool) (w:World):Calls Tryz.prog 55 #[.int .i64 a,.int .i64 m,.bool wr] w fun e w' => e=.returned (.bool (adrOk a m wr))∧w=w':=by
 rcases hI:inB a 0 63 with _|_
 ·have HE:=hid (show adrOk a m wr=false by simp[adrOk,hI])
  go_enter Tryz.func55,Tryz.ntmps55
  go_wp2_with (first|(go_at_call 63;refine(zH2 _ _ _ _).mono ?_;rintro e w' ⟨rfl,rfl⟩))
  all_goals
   go_ret
   exact⟨by rw[HE.out];rfl,rfl⟩
 ·have hb:0≤a∧a≤63:=by simpa[inB]using hI
  have h0:=hb.1;have h1:=hb.2;have HE:=hid (show adrOk a m wr=((m==1 || m==2 || m==4)&&(wr || decide (a+m - 1≤63))) by simp[adrOk,hI]);clear hb
  go_enter Tryz.func55,Tryz.ntmps55
  go_wp2_with (first|(go_at_call 63;refine(zH2 _ _ _ _).mono ?_;rintro e w' ⟨rfl,rfl⟩))
  all_goals
   go_ret
   exact⟨by rw[HE.out];simp[*];try omega,rfl⟩
def BurstP (a m:Int) (wp:Bool) (w:World) (e:Ending) (w':World):Prop:=∃u,e=.returned u∧Ints w' w'.heap.size u (burst a m wp)∧Below w.heap.size w w' ∧ ∀k,u.ownBlock=some k→w.heap.size≤k
def zG0 (a m:Int) (wp:Bool) (k:Nat):List Int:=(List.range k).map (fun(k:Nat)=>if wp then a - a % m+(a+(k:Int)) % m else a+(k:Int))
theorem burstK_len (a m:Int) (wp:Bool) (k:Nat):(zG0 a m wp k).length=k:=by simp[zG0]
theorem zH5 {a m:Int} {wp:Bool} (h:adrOk a m wp=true):burst a m wp=zG0 a m wp m.toNat:=by unfold burst zG0;rw[if_pos h]
theorem burst_no {a m:Int} {wp:Bool} (h:adrOk a m wp=false):burst a m wp=[]:=by unfold burst;rw[if_neg (by simp[h])]
theorem burstK_small {a m:Int} {wp:Bool} (h0:0≤a) (h1:a≤63) (hm:m=1∨m=2∨m=4) (k:Nat) (hk:k≤4):∀x∈zG0 a m wp k,I64 x:=by
 intro x hx;obtain⟨j,hj,rfl⟩:=List.mem_map.1 hx;rw[List.mem_range]at hj;unfold I64
 split <;> (rcases hm with rfl|rfl|rfl <;> omega)
def zL0 {α:Type} (f:α→List Value) (e sz:Nat) (ys:List α) (w:World) (en:Ending) (w':World):Prop :=
 ∃u,en=.returned u∧Owns w' w.heap.size e sz f u ys∧Below w.heap.size w w'
theorem Arr.fit {w:World} {B sz:Nat} {v:Value} {rows:List (List Value)} (h:Arr w B sz v rows) (hs:0<sz) (hr:∀r∈rows,r.length=sz):Arr w (min B w.heap.size) sz v rows:=by
 obtain⟨ao,cap,hv,h1,h2,h0,h9,h3⟩:=h;refine⟨ao,cap,hv,h1,h2,h0,h9,fun hn=>?_⟩;obtain⟨b,off,ha,hlt,hc⟩:=h3 hn;refine⟨b,off,ha,?_,hc⟩;have:=hc 0 (by omega) 0 hs;have hl:(rows.getD 0 []).length=sz:=hr _ (by simp[List.getD,List.getElem?_eq_getElem (show 0<rows.length by omega)]);rw[List.getElem?_eq_getElem (show 0<(rows.getD 0 []).length by omega)]at this;have hb:=World.block_lt_of_cell? w _ this;simp only at hb;omega
theorem Owns.clip {α:Type} {w:World} {base e sz:Nat} {f:α→List Value} {a:Option Addr} {c:Nat} {xs:List α} (h:Owns w base e sz f (.slice a xs.length c) xs):Owns w base e sz f (.slice a xs.length xs.length) xs:=by
 obtain⟨hl,h2⟩:=h;refine⟨hl,?_⟩;rcases h2 with⟨hv,h2⟩|⟨g,off,cap,cur,hv,hg,hh,hle,hmax,hsz,hc⟩
 ·simp only[Value.slice.injEq]at hv;obtain⟨rfl,h3,rfl⟩:=hv;exact .inl ⟨by rw[h3],h3⟩
 ·simp only[Value.slice.injEq]at hv;obtain⟨rfl,_,rfl⟩:=hv;exact .inr ⟨g,off,xs.length,cur,rfl,hg,hh,Nat.le_refl _,by omega,by have:=Nat.mul_le_mul_right sz hle;omega,hc⟩
theorem Owns.shape {α:Type} {w:World} {base e sz:Nat} {f:α→List Value} {v:Value} {xs:List α} (h:Owns w base e sz f v xs):∃a c,v=.slice a xs.length c∧xs.length≤c∧c≤9223372036854775807:=by
 obtain⟨hl,h2⟩:=h;rcases h2 with⟨rfl,h2⟩|⟨g,off,cap,cur,rfl,hg,hh,hle,hmax,_⟩
 ·exact⟨none,0,by rw[h2],by omega,by omega⟩
 ·exact⟨_,cap,rfl,hle,by unfold maxLen at hmax;omega⟩
theorem Owns.set {α:Type} {w:World} {base e sz:Nat} {f:α→List Value} {v:Value} {xs:List α} (h:Owns w base e sz f v xs) (g o:Nat) (u:Value) (hg:g<base):Owns (w.setCell ⟨g,o,none⟩ u) base e sz f v xs :=
 OwnR.kept h fun k hk=>Below.heap_setCell _ _ _ _ (by have:=(OwnR.lt h k hk).1;simp only;omega)
theorem Owns.set' {α:Type} {w:World} {base e sz:Nat} {f:α→List Value} {v:Value} {xs:List α} (h:Owns w base e sz f v xs) (g o:Nat) (u:Value) (hg:∀k,v.ownBlock=some k→k≠g):Owns (w.setCell ⟨g,o,none⟩ u) base e sz f v xs :=
 OwnR.kept h fun k hk=>Below.heap_setCell _ _ _ _ (hg k hk)
theorem Owns.draws {α:Type} {w:World} {base e sz:Nat} {f:α→List Value} {v:Value} {xs:List α} (h:Owns w base e sz f v xs) (n:Nat):Owns (w.drewN n) base e sz f v xs:=OwnR.kept h fun _ _=>rfl
theorem sClone_int {α : Type} (f : α → List Value) (hf : ∀ x, (f x).length = 1) (h1 : ∀ x, ∀ u ∈ f x, u.oneCell' = true) (v : Value) (ys : List α) (B : Nat) (w : World) (ha : Arr w B 1 v (ys.map f)) (hlen : ys.length * 8 ≤ 140737488355328) :
  Calls Tryz.prog 140 #[v] w (zL0 f 3 1 ys w):=by
 have ha0:=hid ha;obtain⟨ao,cap,rfl,g1,g2,g0,g9,g3⟩:=ha;simp only[List.length_map]at g1 g2 g0 ⊢;clear g3;cases ao with
 |none=>
  obtain rfl:=g9 rfl;have hy:ys=[]:=by
   rcases ys with _|⟨y,ys⟩
   ·rfl
   ·simp at g1
  subst hy;have he:=fun w=>Lib.run_eql_slice_nil (P:=Tryz.prog) w 24 3 none 0 0 0 0 Tryz.underlying24
  go_enter Tryz.func140,Tryz.ntmps140
  go_wp2_with fail
  go_ret
  exact⟨_,rfl,Owns.zero,Below.refl _ _⟩
 |some ad=>
  have he:=fun w=>Lib.run_eql_slice_nil (P:=Tryz.prog) w 24 3 (some ad) ys.length cap 0 0 Tryz.underlying24
  clear g9
  go_enter Tryz.func140,Tryz.ntmps140
  go_wp2_with (at_builtin;go_must (refine zG2 elem_int f hf h1 _ rfl _ _ rfl w.heap.size _ [] (by rfl) (Owns.lit (Nat.le_refl _)) _ ys (min B w.heap.size) (by rfl) (by have:=(ha0.out).fit (by omega) (by intro r hr;obtain⟨y,_,rfl⟩:=List.mem_map.1 hr;exact hf y);simp only[List.length_map]at this;exact this.below ((Below.refl _ _).alloc (Nat.min_le_right _ _) _)) (by simpa using hlen) (by simp;omega) (by simp) ?_);intro v' w1 hown1 hb1 _)
  go_ret
  exact⟨v', rfl,by simpa using hown1,((Below.refl _ _).alloc (Nat.le_refl _) _).trans hb1⟩
theorem sClip_int (a:Option Addr) (n c:Nat) (w:World) (hc:n≤c) (hm:c≤9223372036854775807):Calls Tryz.prog 139 #[.slice a n c] w fun e w' => e=.returned (.slice a n n)∧w=w':=by
 go_enter Tryz.func139,Tryz.ntmps139
 go_wp2_with fail
 go_ret
 exact⟨rfl,rfl⟩
theorem zH4 {α : Type} (f : α → List Value) (hf : ∀ x, (f x).length = 1) (h1 : ∀ x, ∀ u ∈ f x, u.oneCell' = true) (v : Value) (ys : List α) (B : Nat) (w : World) (ha : Arr w B 1 v (ys.map f)) (hlen : ys.length * 8 ≤ 140737488355328) :
  Calls Tryz.prog 88 #[v] w (zL0 f 3 1 ys w):=by
 go_enter Tryz.func88,Tryz.ntmps88
 go_wp2_with fail
 refine(sClone_int f hf h1 v ys B w ha hlen).mono ?_;rintro e w1 ⟨u,rfl,hown,hb⟩;obtain⟨a,c,rfl,hc1,hc2⟩:=hown.shape
 go_wp2_with fail
 refine(sClip_int a ys.length c _ hc1 hc2).mono ?_;rintro e w2 ⟨rfl,rfl⟩
 go_wp2_with fail
 go_ret
 exact⟨_,rfl,hown.clip,hb⟩
def Apart (v u:Value):Prop:=∀k,v.ownBlock=some k→u.ownBlock≠some k
theorem zK8 {α β:Type} {w w':World} {base e sz e' sz':Nat} {f:α→List Value} {g:β→List Value} {v u:Value} {xs:List α} {ys:List β} (h:Owns w base e sz f v xs) (h':Owns w' w.heap.size e' sz' g u ys):Apart v u:=by
 intro k hk hu;have:=(OwnR.lt h k hk).2;have:=(OwnR.lt h' k hu).1;omega
def AtmV (w:World) (B:Nat) (v:Value) (ws hs:List Int):Prop:=∃wv hv,v=.agg #[wv,hv]∧Ints w B wv ws∧Ints w B hv hs
def AtmCopyP (ws hs:List Int) (w:World) (en:Ending) (w':World):Prop :=
 ∃wv hv,en=.returned (.agg #[wv,hv])∧Owns w' w.heap.size 3 1 rowI wv ws∧Owns w' w.heap.size 3 1 rowI hv hs∧Apart wv hv∧Below w.heap.size w w'
theorem atmCopy_any (v : Value) (ws hs : List Int) (B : Nat) (w : World) (h : AtmV w B v ws hs) (hB : B ≤ w.heap.size) (hl1 : ws.length ≤ 1048576) (hl2 : hs.length ≤ 1048576) :
  Calls Tryz.prog 79 #[v] w (AtmCopyP ws hs w):=by
 obtain⟨wv,hv,rfl,h1,h2⟩:=h;have ha1:=hid (fun(W:World) (hW:Below B w W)=>(h1.below hW).1);have ha2:=hid (fun(W:World) (hW:Below B w W)=>(h2.below hW).1)
 go_enter Tryz.func79,Tryz.ntmps79
 go_wp2_with fail
 go_region_held3 (fun w' => w'.cell? ⟨w.heap.size, 0, none⟩ = some wv ∧ w'.cell? ⟨w.heap.size, 1, none⟩ = some hv)
  (first|exact⟨d1,d2⟩|exact⟨c1,c2⟩|go_keep)
  (first
   |(go_at_call 88;(with_reducible refine(zH4 rowI zE9 zH9 wv ws B _ ?_ ?_).mono ?_);(exact ha1.out _ ((((Below.refl _ _).alloc hB _).alloc (by simp;omega) _).drew));omega;rintro e w1 ⟨u1,rfl,ho1,hb1⟩;obtain⟨q1,k1,rfl,hk1,hm1⟩:=ho1.shape;have c1:w1.cell? ⟨w.heap.size,0,none⟩=some wv:=(by rw[hb1.cell (p:=⟨w.heap.size,0,none⟩) (by simp;omega)];simp);have c2:w1.cell? ⟨w.heap.size,1,none⟩=some hv:=(by rw[hb1.cell (p:=⟨w.heap.size,1,none⟩) (by simp;omega)];simp))
   |(go_at_call 88;(with_reducible refine(zH4 rowI zE9 zH9 hv hs B _ ?_ ?_).mono ?_);(exact ha2.out _ (((((Below.refl _ _).alloc hB _).alloc (by simp;omega) _).drew).trans (hb1.mono (by simp;omega))));omega;rintro e w2 ⟨u2,rfl,ho2,hb2⟩;obtain⟨q2,k2,rfl,hk2,hm2⟩:=ho2.shape;have d1:w2.cell? ⟨w.heap.size,0,none⟩=some wv:=(by rw[hb2.cell (p:=⟨w.heap.size,0,none⟩) (by have:=hb1.size;simp at this;simp;omega)];exact c1);have d2:w2.cell? ⟨w.heap.size,1,none⟩=some hv:=(by rw[hb2.cell (p:=⟨w.heap.size,1,none⟩) (by have:=hb1.size;simp at this;simp;omega)];exact c2);have d3:w2.cell? ⟨w.heap.size+1,0,none⟩=some (.slice none 0 0):=(by rw[hb2.cell (p:=⟨w.heap.size+1,0,none⟩) (by have:=hb1.size;simp at this;simp;omega),hb1.cell (p:=⟨w.heap.size+1,0,none⟩) (by simp)];simp);have d4:w2.cell? ⟨w.heap.size+1,1,none⟩=some (.slice none 0 0):=(by rw[hb2.cell (p:=⟨w.heap.size+1,1,none⟩) (by have:=hb1.size;simp at this;simp;omega),hb1.cell (p:=⟨w.heap.size+1,1,none⟩) (by simp)];simp);have d5:w2.frozen? ⟨w.heap.size+1,0,none⟩=false:=(by rw[hb2.frozen (p:=⟨w.heap.size+1,0,none⟩) (by have:=hb1.size;simp at this;simp;omega),hb1.frozen (p:=⟨w.heap.size+1,0,none⟩) (by simp)];simp);have d6:w2.frozen? ⟨w.heap.size+1,1,none⟩=false:=(by rw[hb2.frozen (p:=⟨w.heap.size+1,1,none⟩) (by have:=hb1.size;simp at this;simp;omega),hb1.frozen (p:=⟨w.heap.size+1,1,none⟩) (by simp)];simp)))
 go_wp2_with fail
 have z1:=hb1.size;simp at z1;refine bodyPost_ret (v:=.agg #[.slice q1 ws.length k1,.slice q2 hs.length k2]) (by simp[results,Tryz.results79,go_sem,d3,d4]) rfl ?_;refine⟨_,_,rfl,?_,?_,?_,?_⟩
 ·exact((ho1.rebase (by simp;omega)).below hb2 |>.set' _ _ _ (fun k hk=>by have:=(OwnR.lt ho1 k hk).1;simp at this;omega)).set' _ _ _ (fun k hk=>by have:=(OwnR.lt ho1 k hk).1;simp at this;omega)
 ·exact((ho2.rebase (by omega)).set' _ _ _ (fun k hk=>by have:=(OwnR.lt ho2 k hk).1;omega)).set' _ _ _ (fun k hk=>by have:=(OwnR.lt ho2 k hk).1;omega)
 ·exact zK8 ho1 ho2
 ·exact(((((Below.refl _ _).alloc (Nat.le_refl _) _).alloc (by simp) _).drew.trans (hb1.mono (by simp;omega))).trans (hb2.mono (by omega))).setCell (by simp) _ |>.setCell (by simp) _
end Go.Proofs.YtgkdoehkmbhfiaaGreat
