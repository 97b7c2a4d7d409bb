/- Layer 1, part 1: what the functions of whole numbers answer. -/
import Derived.Test.YtjbgceogkgpjpaaGreatDoorEvB
import Derived.Test.YtjbgceogkgpjpaaGreatDoorEvR
import Derived.Test.YtjbgceogkgpjpaaGreatDoorEvP
import Derived.Test.YtjbgceogkgpjpaaGreatDoorEvS
import Derived.Test.YtjbgceogkgpjpaaGreatDoorEvL
import Derived.Test.YtjbgceogkgpjpaaGreatDoorGV
import Derived.Test.YtjbgceogkgpjpaaGreatDoorEvQ
import Derived.Test.YtjbgceogkgpjpaaGreatDoorSxRun
set_option linter.unusedVariables false
set_option linter.unusedSimpArgs false
namespace Go.Proofs.YtjbgceogkgpjpaaGreatDoor.Sx.T
open Go Go.Proofs.YtjbgceogkgpjpaaGreatDoor.Sx
set_option maxRecDepth 100000
set_option maxHeartbeats 4000000
end Go.Proofs.YtjbgceogkgpjpaaGreatDoor.Sx.T
namespace Go.Proofs.YtjbgceogkgpjpaaGreatDoor.Sx.T
open Go Go.Proofs.YtjbgceogkgpjpaaGreatDoor.Sx
set_option maxRecDepth 100000
set_option maxHeartbeats 4000000
end Go.Proofs.YtjbgceogkgpjpaaGreatDoor.Sx.T
namespace Go.Proofs.YtjbgceogkgpjpaaGreatDoor.Sx.T
open Go Go.Proofs.YtjbgceogkgpjpaaGreatDoor.Sx
set_option maxRecDepth 100000
set_option maxHeartbeats 4000000
end Go.Proofs.YtjbgceogkgpjpaaGreatDoor.Sx.T
namespace Go.Proofs.YtjbgceogkgpjpaaGreatDoor.Sx.T
open Go Go.Proofs.YtjbgceogkgpjpaaGreatDoor.Sx
set_option maxRecDepth 100000
set_option maxHeartbeats 4000000
end Go.Proofs.YtjbgceogkgpjpaaGreatDoor.Sx.T
namespace Go.Proofs.YtjbgceogkgpjpaaGreatDoor.Sx.T
open Go Go.Proofs.YtjbgceogkgpjpaaGreatDoor.Sx
set_option maxRecDepth 100000
set_option maxHeartbeats 4000000
end Go.Proofs.YtjbgceogkgpjpaaGreatDoor.Sx.T
namespace Go.Proofs.YtjbgceogkgpjpaaGreatDoor.Sx.T
open Go Go.Proofs.YtjbgceogkgpjpaaGreatDoor.Sx
set_option maxRecDepth 100000
set_option maxHeartbeats 4000000
def mk (below : Bool) (n d : Nat) : Int × Int × Int :=
  let p := n / Nat.gcd n d
  let q := d / Nat.gcd n d
  if 9223372036854775808 ≤ q ∨ 9223372036854775808 < p ∨ p = 9223372036854775808 ∧ below = false then (0, 0, 10)
  else if below then (-p, q, 0) else (p, q, 0)
end Go.Proofs.YtjbgceogkgpjpaaGreatDoor.Sx.T
namespace Go.Proofs.YtjbgceogkgpjpaaGreatDoor.Sx.T
open Go Go.Proofs.YtjbgceogkgpjpaaGreatDoor.Sx
set_option maxRecDepth 100000
set_option maxHeartbeats 4000000
def I64 (n : Int) : Prop := -9223372036854775808 ≤ n ∧ n < 9223372036854775808
def mayR (n d : Int) : Bool := decide (0 < d ∧ Nat.gcd n.natAbs d.natAbs = 1)
end Go.Proofs.YtjbgceogkgpjpaaGreatDoor.Sx.T
namespace Go.Proofs.YtjbgceogkgpjpaaGreatDoor.Sx.T
open Go Go.Proofs.YtjbgceogkgpjpaaGreatDoor.Sx
set_option maxRecDepth 100000
set_option maxHeartbeats 4000000
end Go.Proofs.YtjbgceogkgpjpaaGreatDoor.Sx.T
namespace Go.Proofs.YtjbgceogkgpjpaaGreatDoor.Sx.T
open Go Go.Proofs.YtjbgceogkgpjpaaGreatDoor.Sx
set_option maxRecDepth 100000
set_option maxHeartbeats 4000000
end Go.Proofs.YtjbgceogkgpjpaaGreatDoor.Sx.T
namespace Go.Proofs.YtjbgceogkgpjpaaGreatDoor.Sx.T
open Go Go.Proofs.YtjbgceogkgpjpaaGreatDoor.Sx
set_option maxRecDepth 100000
set_option maxHeartbeats 4000000
def wd (a b : Nat) (m : Bool) : AV := .agg [.int .u64 a, .int .u64 b, .bool m]
theorem nn (x : Nat) : (0 ≤ (x : Int)) = True := by simp
def W (n : Nat) (m : Bool) : AV := .agg [.int .u64 (n / 18446744073709551616 : Nat), .int .u64 (n % 18446744073709551616 : Nat), .bool m]
end Go.Proofs.YtjbgceogkgpjpaaGreatDoor.Sx.T
namespace Go.Proofs.YtjbgceogkgpjpaaGreatDoor.Sx.T
open Go Go.Proofs.YtjbgceogkgpjpaaGreatDoor.Sx
set_option maxRecDepth 100000
set_option maxHeartbeats 4000000
end Go.Proofs.YtjbgceogkgpjpaaGreatDoor.Sx.T
namespace Go.Proofs.YtjbgceogkgpjpaaGreatDoor.Sx.T
open Go Go.Proofs.YtjbgceogkgpjpaaGreatDoor.Sx
set_option maxRecDepth 100000
set_option maxHeartbeats 4000000
end Go.Proofs.YtjbgceogkgpjpaaGreatDoor.Sx.T
namespace Go.Proofs.YtjbgceogkgpjpaaGreatDoor.Sx.T
open Go Go.Proofs.YtjbgceogkgpjpaaGreatDoor.Sx
set_option maxRecDepth 100000
set_option maxHeartbeats 4000000
end Go.Proofs.YtjbgceogkgpjpaaGreatDoor.Sx.T
namespace Go.Proofs.YtjbgceogkgpjpaaGreatDoor.Sx.T
open Go Go.Proofs.YtjbgceogkgpjpaaGreatDoor.Sx
set_option maxRecDepth 100000
set_option maxHeartbeats 4000000
def sv (m : Bool) (n : Nat) : Int := if m = true then -(n : Int) else n
end Go.Proofs.YtjbgceogkgpjpaaGreatDoor.Sx.T
namespace Go.Proofs.YtjbgceogkgpjpaaGreatDoor.Sx.T
open Go Go.Proofs.YtjbgceogkgpjpaaGreatDoor.Sx
set_option maxRecDepth 100000
set_option maxHeartbeats 4000000
end Go.Proofs.YtjbgceogkgpjpaaGreatDoor.Sx.T
namespace Go.Proofs.YtjbgceogkgpjpaaGreatDoor.Sx.T
open Go Go.Proofs.YtjbgceogkgpjpaaGreatDoor.Sx
set_option maxRecDepth 100000
set_option maxHeartbeats 4000000
end Go.Proofs.YtjbgceogkgpjpaaGreatDoor.Sx.T
namespace Go.Proofs.YtjbgceogkgpjpaaGreatDoor.Sx.T
open Go Go.Proofs.YtjbgceogkgpjpaaGreatDoor.Sx
set_option maxRecDepth 100000
set_option maxHeartbeats 4000000
end Go.Proofs.YtjbgceogkgpjpaaGreatDoor.Sx.T
namespace Go.Proofs.YtjbgceogkgpjpaaGreatDoor.Sx.T
open Go Go.Proofs.YtjbgceogkgpjpaaGreatDoor.Sx
set_option maxRecDepth 100000
set_option maxHeartbeats 4000000
end Go.Proofs.YtjbgceogkgpjpaaGreatDoor.Sx.T
namespace Go.Proofs.YtjbgceogkgpjpaaGreatDoor.Sx.T
open Go Go.Proofs.YtjbgceogkgpjpaaGreatDoor.Sx
set_option maxRecDepth 100000
set_option maxHeartbeats 4000000
def vA (k n d : Int) (s : List UInt8) : AV := .agg [.int .i64 k, .int .i64 n, .int .i64 d, .str s]
def chk (k n d : Int) (s : List UInt8) : Int :=
  if k = 1 then (if d = 0 ∧ s = [] then 0 else 20) else if k = 2 then (if s = [] ∧ mayR n d = true then 0 else 20) else if k = 3 then (if n = 0 ∧ d = 0 then (if s.length ≤ 64 then 0 else 2) else 20) else 20
end Go.Proofs.YtjbgceogkgpjpaaGreatDoor.Sx.T
namespace Go.Proofs.YtjbgceogkgpjpaaGreatDoor.Sx.T
open Go Go.Proofs.YtjbgceogkgpjpaaGreatDoor.Sx
set_option maxRecDepth 100000
set_option maxHeartbeats 4000000
structure Val where
  k : Int
  n : Int
  d : Int
  s : List UInt8
  deriving DecidableEq, Inhabited
def Val.cells (v : Val) : List AV := [.int .i64 v.k, .int .i64 v.n, .int .i64 v.d, .str v.s]
def Val.av (v : Val) : AV := vA v.k v.n v.d v.s
def Val.ok (v : Val) : Prop := I64 v.k ∧ I64 v.n ∧ I64 v.d
end Go.Proofs.YtjbgceogkgpjpaaGreatDoor.Sx.T
