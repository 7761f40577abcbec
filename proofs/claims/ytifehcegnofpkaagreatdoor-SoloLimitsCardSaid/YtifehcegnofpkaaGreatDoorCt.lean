/- The plain model of the arena: nodes, cells, generations. Nothing of the program's translation. -/
import Derived.Test.YtifehcegnofpkaaGreatDoorBm
namespace Go.Ct

structure Pair where
  key : ByteArray
  value : Nat
  deriving DecidableEq

structure Node where
  kind : Int := 0
  gen : Int := 0
  main : Int := 0
  bitmap : Nat := 0
  branches : List Int := []
  hash : Nat := 0
  key : ByteArray := .empty
  value : Nat := 0
  pairs : List Pair := []
  prev : Int := 0
  old : Int := 0
  expected : Int := 0
  new : Int := 0
  status : Int := 0
  deriving DecidableEq

/-- An arena: the nodes behind Yes and No, the cells, the latest generation, the number of accesses. -/
structure St where
  added : List Node := []
  cells : List Int := []
  gen : Nat := 0
  acc : Nat := 0

def Node.isMain (n : Node) : Bool := n.kind == 3 || n.kind == 5 || n.kind == 6

def St.nodes (s : St) : Nat := 2 + s.added.length

/-- What must stay small so that nothing wraps and every list can grow. -/
def St.size (s : St) : Nat := s.added.length + s.cells.length + s.gen + s.acc
def St.Room (s : St) : Prop := s.size + 100 ≤ 274877906944

def St.Room' (s : St) : Prop := s.size ≤ 274877906944

def St.newCell (s : St) (initial : Int) : St × Int := ({ s with cells := s.cells ++ [initial] }, s.cells.length + 1)
def St.newGen (s : St) : St × Int := ({ s with gen := s.gen + 1 }, s.gen + 1)

/-- A node without its cells. -/
def Node.bare (n : Node) : Node := { n with main := 0, prev := 0, status := 0 }

def St.alloc (s : St) (n : Node) (initial : Int) : St × Int :=
  let c : Int := s.cells.length + 1
  let s1 : St := if n.kind == 2 || n.isMain || n.kind == 8 then (s.newCell initial).1 else s
  let n1 : Node := if n.kind == 2 then { n.bare with main := c } else if n.isMain then { n.bare with prev := c } else if n.kind == 8 then { n.bare with status := c } else n.bare
  ({ s1 with added := s1.added ++ [n1] }, s.added.length + 3)

def St.hasCell (s : St) (c : Int) : Bool := decide (1 ≤ c) && decide (c ≤ s.cells.length)
def St.load (s : St) (c : Int) : St × Int := ({ s with acc := s.acc + 1 }, if s.hasCell c then s.cells.getD (c.toNat - 1) 0 else 0)
def St.swaps (s : St) (c old : Int) : Bool := s.hasCell c && s.cells.getD (c.toNat - 1) 0 == old
def St.cas (s : St) (c old new : Int) : St × Bool :=
  ({ s with acc := s.acc + 1, cells := if s.swaps c old then s.cells.set (c.toNat - 1) new else s.cells }, s.swaps c old)

def markNode : Node := { kind := 1 }
def St.node (s : St) (r : Int) : Node :=
  if r < 1 ∨ s.nodes < r then {} else if r ≤ 2 then markNode else s.added.getD (r.toNat - 3) {}

structure Trie where
  root : Int := 0
  readOnly : Bool := false
  deriving DecidableEq

structure Result where
  err : Int := 0
  found : Bool := false
  value : Nat := 0
  key : ByteArray := .empty
  count : Int := 0
  ref : Int := 0
  trie : Trie := {}
  deriving DecidableEq

end Go.Ct
