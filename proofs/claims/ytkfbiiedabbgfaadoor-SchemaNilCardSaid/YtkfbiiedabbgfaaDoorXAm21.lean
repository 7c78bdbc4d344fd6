/-
  THE ABSTRACT MACHINE, part 21: what an operation reads and writes; the test of a region, of code.
-/
import Derived.Test.YtkfbiiedabbgfaaDoorXAm20
set_option maxRecDepth 4000
namespace Go.Cb
open Classical

/-- a place: a temporary, a variable, the store -/
inductive Atom where
  | t (s : Nat) | v (i : Nat) | st
  deriving DecidableEq

def Opd.atoms : Opd → List Atom
  | .t s | .ts s => [.t s]
  | .v i | .vs i | .l i => [.v i]
  | .c _ => []

def Opd.spent : Opd → List Atom
  | .ts s => [.t s]
  | .vs i => [.v i]
  | _ => []

def Kind.useSt : Kind → Bool
  | .allocO _ | .boxO | .ldSt .. | .ldStS | .stSt _ | .mkM | .mget .. | .mset _ | .call _ | .callV => true
  | _ => false
def Kind.setSt : Kind → Bool
  | .allocO _ | .boxO | .ldStS | .stSt _ | .mkM | .mset _ | .call _ | .callV => true
  | _ => false

def Dst.atoms : Dst → List Atom
  | .t s => [.t s]
  | .v i => [.v i]
  | _ => []

def AOper.reads (p : AOper) : List Atom :=
  p.args.flatMap Opd.atoms ++ (match p.box with | some i => [.v i] | none => []) ++ (match p.guard with | some (x, _) => x.atoms | none => []) ++ (if p.kind.useSt then [.st] else [])
def AOper.writes (p : AOper) : List Atom :=
  p.dst.atoms ++ p.args.flatMap Opd.spent ++ (match p.box with | some i => if p.kind.alters then [.v i] else [] | none => []) ++ (if p.kind.setSt then [.st] else [])

def Atom.beq : Atom → Atom → Bool
  | .t a, .t b => Nat.beq a b
  | .v a, .v b => Nat.beq a b
  | .st, .st => true
  | _, _ => false
def meets (x y : List Atom) : Bool := x.any fun a => y.any (Atom.beq a)

/-- may two operations change places? -/
def apartA (p q : AOper) : Bool := !meets p.writes q.reads && !meets p.writes q.writes && !meets q.writes p.reads

/-- j's forerunners -/
def befores (ops : Array Oper) (j : Nat) : List Nat := match ops[j]? with
  | some o => o.after.toList.filterMap fun e => if Region.binds .any e then some e.on else none
  | none => []
def closure (ops : Array Oper) : Nat → List Nat → List Nat
  | 0, l => l
  | n + 1, l => l ++ closure ops n (l.flatMap (befores ops))

end Go.Cb
