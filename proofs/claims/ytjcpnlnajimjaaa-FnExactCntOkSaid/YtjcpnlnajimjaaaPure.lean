/-
  What the functions of addresses, words, requests and one thing at once come to: plain functions on lists. No program in sight.
-/
import Derived.Test.YtjcpnlnajimjaaaW1
namespace Go.Proofs.Ytjcpnlnajimjaaa

structure MR where
  fr : Int
  to : Int
  sl : Int
  only : Bool
deriving Inhabited

structure Rq where
  id : Int
  kind : Int
  addr : Int
  many : Int
  wrap : Bool
  data : List Int
  lanes : List Int
deriving Inhabited

structure Rs where
  id : Int
  code : Int
  data : List Int
deriving Inhabited

def rangeOk (ms : List MR) (k : Nat) : Bool :=
  let r := ms.getD k default
  inB r.fr 0 r.to && decide (r.to ≤ 63) && inB r.sl 0 2 && (ms.take k).all (fun q => !(decide (r.fr ≤ q.to) && decide (q.fr ≤ r.to)))
def mapOk (ms : List MR) : Bool := decide (ms.length ≤ 4) && (List.range ms.length).all (rangeOk ms)

/-- The place of the first range with an address; -1, if there is none. -/
def rngOf (ms : List MR) (a : Int) : Int := match ms.findIdx? (fun r => inB a r.fr r.to) with | some k => k | none => -1

def adrOk (a m : Int) (wrap : Bool) : Bool := inB a 0 63 && (m == 1 || m == 2 || m == 4) && (wrap || decide (a + m - 1 ≤ 63))
def burst (a m : Int) (wrap : Bool) : List Int :=
  if adrOk a m wrap = true then (List.range m.toNat).map (fun (k : Nat) => if wrap then a - a % m + (a + (k : Int)) % m else a + (k : Int)) else []

def wholeOf (ms : List MR) (all : List Int) : Int :=
  match all with
  | [] => -1
  | a :: rest => if rest.all (fun b => rngOf ms b == rngOf ms a) then rngOf ms a else -1

def wordOk (n : Int) : Bool := inB n 0 65535
def memOk (ws : List Int) : Bool := ws.length == 64 && ws.all wordOk
def atmOk (ws hs : List Int) : Bool := memOk ws && hs.length == 6 && hs.all (fun h => inB h (-1) 63)

def rqWrites (r : Rq) : Bool := r.kind == 2 || r.kind == 4
def reqOk (r : Rq) : Bool :=
  inB r.id 0 1 && inB r.kind 1 4 && adrOk r.addr r.many r.wrap && (r.kind == 1 || r.kind == 2 || r.many == 1) &&
    (if rqWrites r then ((r.data.length : Int) == r.many) && ((r.lanes.length : Int) == r.many) && r.data.all wordOk && r.lanes.all (fun l => inB l 0 3)
     else r.data.length == 0 && r.lanes.length == 0)
def rqBurst (r : Rq) : List Int := burst r.addr r.many r.wrap
def slaveOf (ms : List MR) (r : Rq) : Int := if wholeOf ms (rqBurst r) < 0 then 3 else (ms.getD (wholeOf ms (rqBurst r)).toNat default).sl
def rspOk (x : Rs) : Bool := inB x.id 0 1 && inB x.code 1 4 && decide (x.data.length ≤ 4) && x.data.all wordOk

/-- A word with lanes of another one. -/
def putW (old new lanes : Int) : Int :=
  (if lanes / 2 = 1 then new / 256 else old / 256) * 256 + (if lanes % 2 = 1 then new % 256 else old % 256)
def wrdPut (old new lanes : Int) : Int := if wordOk old && wordOk new && inB lanes 0 3 then putW old new lanes else -1

/-- Words at addresses, one behind the other. -/
def putAll (ws : List Int) : List Int → List Int → List Int → List Int
  | a :: rest, d :: ds, l :: ls => putAll (ws.set a.toNat (putW (ws.getD a.toNat 0) d l)) rest ds ls
  | _, _, _ => ws
def getAll (ws : List Int) (all : List Int) : List Int := all.map fun a => ws.getD a.toNat 0
def freeAll (hs : List Int) (all : List Int) : List Int := hs.map fun h => if all.contains h then -1 else h

/-- One thing at once, of what is ok. -/
def doReq (ms : List MR) (ws hs : List Int) (who : Int) (r : Rq) : List Int × List Int × Rs :=
  let all := rqBurst r
  let k := wholeOf ms all
  let at_ := (who * 2 + r.id).toNat
  if k < 0 then (ws, hs, ⟨r.id, 4, []⟩)
  else if rqWrites r && (ms.getD k.toNat default).only then (ws, hs, ⟨r.id, 3, []⟩)
  else if r.kind == 1 then (ws, hs, ⟨r.id, 1, getAll ws all⟩)
  else if r.kind == 3 then (ws, hs.set at_ r.addr, ⟨r.id, 2, getAll ws all⟩)
  else if r.kind == 4 && !(hs.getD at_ 0 == r.addr) then (ws, hs, ⟨r.id, 1, []⟩)
  else (putAll ws all r.data r.lanes, freeAll hs all, ⟨r.id, if r.kind == 4 then 2 else 1, []⟩)

end Go.Proofs.Ytjcpnlnajimjaaa
