/- SX, part A: a small language and its evaluator. No program in sight: plain Lean. -/
import GoSem.Core.Program
import GoSem.Core.View
import GoSem.Core.Utf8
import Derived.Lib.ParseIntB
import Derived.Lib.AtoiAll
import Derived.Lib.Fields
import Derived.Lib.SpaceU
set_option linter.unusedVariables false
set_option linter.unusedSimpArgs false
namespace Go.Proofs.YtjbgceogkgpjpaaGreatDoor.Sx

structure Ref where
  lev : Nat
  site : Nat
  ver : Nat
  deriving DecidableEq, Inhabited

inductive Own where
  | none | own | tight | uniq
  deriving DecidableEq, Inhabited

inductive AV where
  | undef
  | bool (b : Bool)
  | int (k : IntKind) (n : Int)
  | str (s : List UInt8)
  | opq (v : Value)
  | nilptr | nilsl | nilif | nilfn
  | ptr (r : Ref) (off : Nat)
  | elp (cs : List AV)
  | gptr (g : Nat)
  | sl (r : Ref) (z off len : Nat)
  | lst (o : Own) (z : Nat) (es : List (List AV))
  | agg (cs : List AV)
  | tup (cs : List AV)
  | fn (f : Nat) (first cap : List AV)
  | ifc (t : Nat) (v : AV)
  | lenv (n : Nat)   -- a slice of which only the length is known
  | anyi (k : IntKind)   -- some number
  deriving Inhabited

/-! ### frames -/
def fget : List AV → Nat → AV
  | [], _ => .undef
  | v :: _, 0 => v
  | _ :: l, n + 1 => fget l n
def fput : List AV → Nat → AV → List AV
  | [], 0, v => [v]
  | [], n + 1, v => .undef :: fput [] n v
  | _ :: l, 0, v => v :: l
  | x :: l, n + 1, v => x :: fput l n v
theorem fget_nil (n : Nat) : fget [] n = .undef := by cases n <;> rfl
theorem fget_fput (l : List AV) (d : Nat) (v : AV) (t : Nat) : fget (fput l d v) t = if t = d then v else fget l t := by
  induction d generalizing l t with
  | zero => cases l <;> cases t <;> simp [fput, fget]
  | succ d ih => cases l <;> cases t <;> simp [fput, fget, ih]

/-! ### blocks -/
inductive Blk where
  | cells (vs : List AV)
  | iter (s : List UInt8) (pos : Nat)
  | bld (t e : Nat) (bs : List UInt8)   -- a strings.Builder (t its type, e the bytes'), and what it holds
  deriving Inhabited
abbrev Level := List (Option (Nat × Blk))
abbrev Heap := List Level
def lget : Level → Nat → Option (Nat × Blk)
  | [], _ => none
  | v :: _, 0 => v
  | _ :: l, n + 1 => lget l n
def lput : Level → Nat → Option (Nat × Blk) → Level
  | [], 0, v => [v]
  | [], n + 1, v => none :: lput [] n v
  | _ :: l, 0, v => v :: l
  | x :: l, n + 1, v => x :: lput l n v
theorem lget_nil (n : Nat) : lget [] n = none := by cases n <;> rfl
theorem lget_lput (l : Level) (d : Nat) (v : Option (Nat × Blk)) (t : Nat) : lget (lput l d v) t = if t = d then v else lget l t := by
  induction d generalizing l t with
  | zero => cases l <;> cases t <;> simp [lput, lget]
  | succ d ih => cases l <;> cases t <;> simp [lput, lget, ih]
def nextVer (l : Level) (site : Nat) : Nat := match lget l site with | some (v, _) => v + 1 | none => 0
def hget : Heap → Ref → Option Blk
  | [], _ => none
  | l :: h, r => if r.lev = h.length then (match lget l r.site with | some (v, b) => if v = r.ver then some b else none | none => none) else hget h r
def hput : Heap → Ref → Blk → Heap
  | [], _, _ => []
  | l :: h, r, b => if r.lev = h.length then lput l r.site (some (r.ver, b)) :: h else l :: hput h r b
def cellsAt (h : Heap) (r : Ref) : Option (List AV) := match hget h r with | some (.cells vs) => some vs | _ => none

/-! ### numbers -/
def wr : IntKind → Int → Int
  | .i64, n => let m := n % 18446744073709551616; if m ≥ 9223372036854775808 then m - 18446744073709551616 else m
  | .i32, n => let m := n % 4294967296; if m ≥ 2147483648 then m - 4294967296 else m
  | .i16, n => let m := n % 65536; if m ≥ 32768 then m - 65536 else m
  | .i8, n => let m := n % 256; if m ≥ 128 then m - 256 else m
  | .u64, n => n % 18446744073709551616
  | .u32, n => n % 4294967296
  | .u16, n => n % 65536
  | .u8, n => n % 256
def bitsOf : IntKind → Nat
  | .i8 | .u8 => 8
  | .i16 | .u16 => 16
  | .i32 | .u32 => 32
  | .i64 | .u64 => 64

/-! ### the language -/
inductive XArg where
  | tmp (t : Nat)
  | cst (v : AV)
  | glob (g : Nat)
  deriving Inhabited
inductive XBin where
  | add | sub | mul | quo | rem | and | or | xor | andNot | shl | shr
  | eql | neq | lss | leq | gtr | geq
  deriving DecidableEq, Inhabited
inductive XOp where
  | mov (x : XArg)                                            -- a copy
  | own (s : Nat)                                             -- the slot's value, and what it holds alone
  | ownl (s : Nat)                                            -- the same; of a list that it holds alone the length stays behind
  | ownd (s : Nat)                                            -- the same, copies allowed from now on
  | pick (c a b : XArg)
  | alloc (zero : List AV)
  | allocb (t e : Nat)                                        -- a strings.Builder
  | box (x : XArg) (n : Nat)
  | boxe (x : XArg) (n : Nat)                                 -- a block that nobody writes
  | loade (a : XArg) (n : Nat) (agg : Bool)                   -- out of what nobody writes
  | build (zero : List AV) (parts : List (Nat × Nat × XArg))  -- offset, size, part
  | bslice (z : Nat) (zero : List AV) (parts : List (Nat × Nat × XArg))
  | bslu (z : Nat) (zero : List AV) (parts : List (Nat × Nat × XArg))   -- a literal that nobody else sees
  | cnvb (s : Nat)                                            -- []byte(b) of bytes that nobody else sees
  | load (a : XArg) (n : Nat) (agg : Bool)
  | lown (a : XArg)                                           -- a cell's list, taken
  | store (a x : XArg) (n : Nat)
  | nilck (x : XArg)
  | bin (b : XBin) (x y : XArg)
  | beq (neg : Bool) (x y : XArg)                             -- of bools
  | eqnil (kd : Nat) (neg : Bool) (x : XArg)                  -- against nil: 0 an interface, 1 a slice, 2 a pointer
  | eqif (neg : Bool) (ts : List Nat) (x y : XArg)            -- two values of interfaces; ts: types of whole numbers
  | eqagg (neg : Bool) (sh : List Nat) (x y : XArg)                           -- structs of numbers, bools, strings
  | neg (x : XArg)
  | not (x : XArg)
  | cpl (x : XArg)
  | conv (k : IntKind) (x : XArg)
  | same (x : XArg)                                           -- a conversion that changes nothing
  | bstr (x : XArg)                                           -- bytes to a string
  | strb (x : XArg)                                           -- a string to bytes
  | mkif (t : Nat) (x : XArg)
  | tas (t : Nat) (ok : Bool) (zero : AV) (x : XArg)
  | mkfn (f : Nat) (first cap : List XArg)
  | mks (z : Nat) (zero : List AV) (len cap : XArg)
  | sstr (x : XArg) (lo hi : Option XArg)
  | ssl (z : Nat) (x : XArg) (lo hi mx : Option XArg)
  | sarr (n z : Nat) (x : XArg) (lo hi : Option XArg)
  | faddr (x : XArg) (off : Nat)
  | field (x : XArg) (off n : Nat) (agg : Bool)
  | iaddr (z : Nat) (x i : XArg)                              -- into a slice
  | iarr (n z : Nat) (x i : XArg)                             -- into an array's variable
  | idxs (x i : XArg)                                         -- a string's byte
  | idxa (n z : Nat) (agg : Bool) (x i : XArg)                -- an array's element
  | ext (s i : Nat)
  | callq (f : Nat) (as : List XArg)                          -- a call that is handed no block
  | callqd (f : Nat) (as : List XArg)                         -- the same; a list that is handed back alone may be copied from now on
  | callw (f : Nat) (as : List XArg)
  | callm (f s : Nat) (as : List XArg)                        -- the slot's list, held alone, is handed over first
  | thw (s : Nat)                                             -- a list that is held alone becomes a block
  | calld (g : XArg) (as : List XArg)                         -- of a function value, handed no block
  | calldq (g : XArg) (as : List XArg)                        -- the same, where all that is handed has no block
  | inv (tab : List (Nat × Nat)) (x : XArg) (as : List XArg)  -- a method by the dynamic type
  | lens (str : Bool) (x : XArg)
  | app (u : Bool) (z : Nat) (bytes : Nat) (s : Nat) (x : XArg)
  | extm (s : Nat)                                              -- the list of a tuple that holds one
  | appstr (u : Bool) (s : Nat) (x : XArg)
  | copy (z : Nat) (d s : XArg)
  | mx (x y : XArg)
  | mn (x y : XArg)
  | rngs (x : XArg)
  | nexts (x : XArg)
  | prim (id f : Nat) (as : List XArg)                        -- a function of Go's library whose answer is told
  | primm (id f s : Nat)                                      -- one that turns a list that its holder alone sees
  | clr (z : Nat) (zero : List AV) (x : XArg)
  | stop
  deriving Inhabited
structure XO where
  dst : Option Nat
  op : XOp
  guard : Option (Nat × Bool)
  deriving Inhabited
inductive XCode where
  | skip
  | region (draw : Bool) (ops : List XO) (aps : List (Nat × Nat))
  | seq (a b : XCode)
  | cond (c : XArg) (a b : XCode)
  | block (id : Nat) (c : XCode)
  | loop (c : XCode)
  | exit (id : Nat)
  | scope (c : XCode)
  | label (l : Nat)
  | goto (l : Nat)
  | ret
  deriving Inhabited
inductive XRes where
  | tmp (t : Nat)
  | cell (t n : Nat) (agg : Bool)
  deriving Inhabited
structure XFn where
  ntmps : Nat
  results : List XRes
  body : XCode
  deriving Inhabited

/-! ### values -/
def uf : AV → AV
  | .lst .own z es => .lst .none z es
  | .lst .uniq _ _ => .undef
  | v => v
def cellsOf : AV → List AV
  | .agg cs => cs.map uf
  | v => [v]
mutual
def refFree : AV → Bool
  | .ptr _ _ | .sl _ _ _ _ | .tup _ => false
  | .agg cs => refFreeL cs
  | .fn _ ds cs => refFreeL ds && refFreeL cs
  | .ifc _ v => refFree v
  | _ => true
def refFreeL : List AV → Bool
  | [] => true
  | v :: l => refFree v && refFreeL l
end
def earg (fr : List AV) : XArg → AV
  | .tmp t => uf (fget fr t)
  | .cst v => v
  | .glob g => .gptr g
def eargs (fr : List AV) : List XArg → List AV
  | [] => []
  | a :: l => earg fr a :: eargs fr l
def asNat : AV → Option Nat
  | .int _ n => if 0 ≤ n then some n.toNat else none
  | _ => none
def asBool : AV → Option Bool
  | .bool b => some b
  | _ => none
def splice : List AV → Nat → List AV → List AV
  | l, _, [] => l
  | [], _, _ => []
  | x :: l, n + 1, vs => x :: splice l n vs
  | _ :: l, 0, v :: vs => v :: splice l 0 vs
def plain1 : AV → Bool
  | .undef | .agg _ | .tup _ => false
  | .lst o _ _ => o ≠ .uniq
  | _ => true

def solid : AV → Bool
  | .agg _ => true
  | v => plain1 v
def fillX (fr : List AV) : List (Nat × Nat × XArg) → List AV → Option (List AV)
  | [], cs => some cs
  | (off, n, x) :: rest, cs =>
    let vs := cellsOf (earg fr x)
    if vs.length = n ∧ off + n ≤ cs.length ∧ solid (earg fr x) = true then fillX fr rest (splice cs off vs) else none
def chunks (z : Nat) : Nat → List AV → List (List AV)
  | 0, _ => []
  | n + 1, l => l.take z :: chunks z n (l.drop z)
def flat (es : List (List AV)) : List AV := es.flatten
def ints (k : IntKind) (b : XBin) (x y : Int) : Option AV :=
  match b with
  | .add => some (.int k (wr k (x + y)))
  | .sub => some (.int k (wr k (x - y)))
  | .mul => some (.int k (wr k (x * y)))
  | .quo => if y = 0 then none else some (.int k (wr k (x.tdiv y)))
  | .rem => if y = 0 then none else some (.int k (x.tmod y))
  | .and => some (.int k (wr k (BitVec.ofInt (bitsOf k) x &&& BitVec.ofInt (bitsOf k) y).toNat))
  | .or => some (.int k (wr k (BitVec.ofInt (bitsOf k) x ||| BitVec.ofInt (bitsOf k) y).toNat))
  | .xor => some (.int k (wr k (BitVec.ofInt (bitsOf k) x ^^^ BitVec.ofInt (bitsOf k) y).toNat))
  | .andNot => some (.int k (wr k (BitVec.ofInt (bitsOf k) x &&& ~~~ BitVec.ofInt (bitsOf k) y).toNat))
  | .shl => if y < 0 then none else some (.int k (wr k (x * 2 ^ (min y.toNat (bitsOf k)))))
  | .shr => if y < 0 then none else some (.int k (x.fdiv (2 ^ (min y.toNat (bitsOf k)))))
  | .eql => some (.bool (x == y))
  | .neq => some (.bool (x != y))
  | .lss => some (.bool (x < y))
  | .leq => some (.bool (x ≤ y))
  | .gtr => some (.bool (x > y))
  | .geq => some (.bool (x ≥ y))
def bless : List UInt8 → List UInt8 → Bool
  | _, [] => false
  | [], _ :: _ => true
  | a :: x, b :: y => a < b || (a == b && bless x y)
def strs (b : XBin) (x y : List UInt8) : Option AV :=
  match b with
  | .add => if x.length + y.length ≤ 140737488355328 then some (.str (x ++ y)) else none
  | .eql => some (.bool (x == y))
  | .neq => some (.bool !(x == y))
  | .lss => some (.bool (bless x y))
  | .leq => some (.bool (bless x y || x == y))
  | .gtr => some (.bool !(bless x y || x == y))
  | .geq => some (.bool !(bless x y))
  | _ => none
def binX (b : XBin) : AV → AV → Option AV
  | .int k x, .int k' y => if k = k' ∨ b = .shl ∨ b = .shr then ints k b x y else none
  | .str x, .str y => strs b x y
  | _, _ => none
def eqCells : List Nat → List AV → List AV → Option Bool
  | [], [], [] => some true
  | 1 :: s, .int k x :: l, .int k' y :: m => if k = k' then (eqCells s l m).map fun r => (x == y) && r else none
  | 0 :: s, .bool x :: l, .bool y :: m => (eqCells s l m).map fun r => (x == y) && r
  | 2 :: s, .str x :: l, .str y :: m => (eqCells s l m).map fun r => (x == y) && r
  | _, _, _ => none
def isNil (kd : Nat) : AV → Option Bool
  | .nilif => if kd = 0 then some true else none
  | .ifc _ _ => if kd = 0 then some false else none
  | .nilsl => if kd = 1 then some true else none
  | .lst o _ _ => if kd = 1 ∧ o ≠ .uniq then some false else none
  | .sl _ _ _ _ => if kd = 1 then some false else none
  | .nilptr => if kd = 2 then some true else none
  | .ptr _ _ | .elp _ | .gptr _ => if kd = 2 then some false else none
  | _ => none
def eqIfV (ts : List Nat) : AV → AV → Option Bool
  | .nilif, .ifc _ _ => some false
  | .ifc _ _, .nilif => some false
  | .ifc t v, .ifc t' v' => if t = t' then (if ts.contains t = true then (match v, v' with | .int k a, .int k' b => if k = k' then some (a == b) else none | _, _ => none) else none) else some false
  | _, _ => none
/-! ### the evaluator -/
def lenB : Own → Nat → Bool
  | .uniq, z => decide (z < 1000)
  | _, _ => true
def demV : AV → AV
  | .lst .uniq z es => if z < 1000 then .lst .own z es else .undef
  | .lst .tight z es => .lst .none z es
  | v => v
abbrev CallT := Nat → List AV → Heap → Option (AV × Heap)
def mkBlk (hp : Heap) (d : Nat) (b : Blk) : Option (Ref × Heap) :=
  match hp with
  | [] => none
  | l :: h => some (⟨h.length, d, nextVer l d⟩, lput l d (some (nextVer l d, b)) :: h)
def ldCells (cs : List AV) (n : Nat) (agg : Bool) : Option AV :=
  if n ≤ cs.length then
    if agg then some (.agg ((cs.take n).map uf)) else match cs with | v :: _ => some (uf v) | [] => none
  else none
def ldAt (gl : Nat → List AV) (hp : Heap) (a : AV) (n : Nat) (agg : Bool) : Option AV :=
  match a with
  | .ptr r off => match cellsAt hp r with | some vs => ldCells (vs.drop off) n agg | none => none
  | .elp cs => ldCells cs n agg
  | .gptr g => ldCells (gl g) n agg
  | _ => none
def drop1 (fr : List AV) : XArg → List AV
  | .tmp t => match fget fr t with
    | .lst .own z es => fput fr t (.lst .none z es)
    | .lst .uniq _ _ => fput fr t .undef
    | _ => fr
  | _ => fr
def rawArg (fr : List AV) : XArg → AV
  | .tmp t => fget fr t
  | .cst v => v
  | .glob g => .gptr g
def stAt (hp : Heap) (a : AV) (vs : List AV) : Option Heap :=
  match a with
  | .ptr r off =>
    match cellsAt hp r with
    | some cs => if off + vs.length ≤ cs.length ∧ (r.lev + 1 = hp.length ∨ refFreeL vs = true) then some (hput hp r (.cells (splice cs off vs))) else none
    | none => none
  | _ => none
def listOf (hp : Heap) (z : Nat) : AV → Option (List (List AV))
  | .nilsl => some []
  | .lst _ z' es => if z' = z then some es else none
  | .sl r z' off len =>
    if z' = z then
      match cellsAt hp r with
      | some cs => if off + len * z ≤ cs.length then some (chunks z len (cs.drop off)) else none
      | none => none
    else none
  | _ => none
def bytesOfL : List (List AV) → Option (List UInt8)
  | [] => some []
  | [.int .u8 n] :: l => (bytesOfL l).map fun r => UInt8.ofNat n.toNat :: r
  | _ => none
def listOfBytes (s : List UInt8) : List (List AV) := s.map fun b => [.int .u8 b.toNat]
def appMay : Own → Bool → Bool
  | .none, _ => false
  | .own, u => !u
  | .tight, _ => true
  | .uniq, u => u
def room : Nat := 140737488355328
def optNat : Option AV → Nat → Option Nat
  | none, d => some d
  | some (.int _ n), _ => if 0 ≤ n then some n.toNat else none
  | some _, _ => none
def decF : Nat → Nat → List UInt8
  | 0, _ => []
  | n + 1, u => if u < 10 then [UInt8.ofNat (48 + u)] else decF n (u / 10) ++ [UInt8.ofNat (48 + u % 10)]
def decI (n : Int) : List UInt8 := if n < 0 then 45 :: decF 20 n.natAbs else decF 20 n.toNat
def parI (s : List UInt8) : Int := match Go.Lib.parseIntB 64 s with | .ok v => v | .range => Go.Lib.intSat 64 s | _ => 0
def atoI (s : List UInt8) : Int := match Go.Lib.atoiAll s with | .ok v => v | .range => Go.Lib.atoiSat s | _ => 0
def primZ (T : Nat) : List AV → Option AV
  | [.str s, .int .i64 b, .int .i64 k] => if b = 10 ∧ k = 64 ∧ s.length ≤ 281474976710656 ∧ T < 500 then some (.tup [.int .i64 (parI s), match Go.Lib.parseIntB 64 s with | .ok _ => .nilif | _ => .ifc T .undef]) else none
  | [.str s] => if 500 ≤ T ∧ s.length ≤ 281474976710656 then some (.tup [.int .i64 (atoI s), match Go.Lib.atoiAll s with | .ok _ => .nilif | _ => .ifc (T - 500) .undef]) else none
  | _ => none
def primN (T : Nat) : List AV → Option AV
  | [.nilif] => some (.int .i64 0)
  | [.ifc t (.agg [.int .i64 e])] => if t = T then some (.int .i64 e) else none
  | _ => none
def primY (id : Nat) (as : List AV) : Option AV := if id < 1000 then none else if id < 2000 then primZ (id - 1000) as else primN (id - 2000) as
def cutL (c : UInt8) : List UInt8 → List (List UInt8)
  | [] => [[]]
  | b :: s => if b == c then [] :: cutL c s else match cutL c s with | [] => [[b]] | x :: r => (b :: x) :: r
def lstR : AV → Option (List (List AV))
  | .nilsl => some []
  | .lst .uniq _ _ => none
  | .lst _ z es => if z = 1 then some es else none
  | _ => none
def strsOf : List (List AV) → Option (List (List UInt8))
  | [] => some []
  | [.str s] :: l => match strsOf l with | some r => some (s :: r) | none => none
  | _ => none
def primX : Nat → List AV → Option AV
  | 0, [.int .u64 x, .int .u64 y, .int .u64 k] => if 0 ≤ x ∧ 0 ≤ y ∧ 0 ≤ k ∧ k ≤ 1 then
      some (.tup [.int .u64 ((x + y + k) % 18446744073709551616), .int .u64 ((x + y + k) / 18446744073709551616)]) else none
  | 1, [.int .u64 x, .int .u64 y, .int .u64 k] => if 0 ≤ x ∧ x < 18446744073709551616 ∧ 0 ≤ y ∧ y < 18446744073709551616 ∧ 0 ≤ k ∧ k ≤ 1 then
      some (.tup [.int .u64 ((x - y - k) % 18446744073709551616), .int .u64 (if x < y + k then 1 else 0)]) else none
  | 2, [.str s, .int .u8 c] => some (.int .i64 (match s.findIdx? (fun b => b == UInt8.ofNat c.toNat) with | some i => (i : Int) | none => -1))
  | 3, [.str s, .str t] => some (.int .i64 (if s == t then 0 else if bless s t then -1 else 1))
  | 4, [.str s] => if s.length ≤ 281474976710656 then some (.str s) else none
  | 5, [.int .i64 n, .int .i64 b] => if b = 10 ∧ -9223372036854775808 ≤ n ∧ n ≤ 9223372036854775807 then some (.str (decI n)) else none
  | 6, [.str s, .int .i64 b, .int .i64 k] => if b = 10 ∧ k = 64 ∧ s.length ≤ 281474976710656 then some (.tup [.int .i64 (parI s), .undef]) else none
  | 7, [.str s, .str t] => match t with | [c] => if s.length < 4294967281 then some (.lst .tight 1 ((cutL c s).map fun x => [.str x])) else none | _ => none
  | 8, [x, .str t] => match lstR x with
    | some es => match strsOf es with
      | some ws => if ws.length ≤ 140737488355328 ∧ (t.intercalate ws).length ≤ 140737488355328 then some (.str (t.intercalate ws)) else none
      | none => none
    | none => none
  | 9, [.int .i64 n] => if -9223372036854775808 ≤ n ∧ n ≤ 9223372036854775807 then some (.str (decI n)) else none
  | 10, [.str s, .str t] => match t with | [c] => some (.int .i64 ((s.count c : Nat) : Int)) | _ => none
  | 11, [.str s] => if s.length < 4294967281 then some (.lst .tight 1 ((Go.Lib.fieldsD s).map fun x => [.str x])) else none
  | 12, [.str s, .str t] => if s.length < 4294967281 then some (.int .i64 (Go.Lib.index s t)) else none
  | id, as => primY id as
def insL (x : List UInt8) : List (List UInt8) → List (List UInt8)
  | [] => [x]
  | y :: l => if bless y x then y :: insL x l else x :: y :: l
def isortL : List (List UInt8) → List (List UInt8)
  | [] => []
  | x :: l => insL x (isortL l)
def dedupL : List (List UInt8) → List (List UInt8)
  | [] => []
  | x :: l => match l with
    | [] => [x]
    | y :: _ => if x == y then dedupL l else x :: dedupL l
def riseL (l : List (List UInt8)) : List (List UInt8) := dedupL (isortL l)
def primM : Nat → List (List AV) → Option (List (List AV))
  | 100, es => match strsOf es with | some ss => if es.length ≤ room then some ((riseL ss).map fun s => [.str s]) else none | none => none
  | _, _ => none
def decodeAt (s : List UInt8) (pos : Nat) : Nat × Nat := Go.Utf8.decode ⟨s.toArray⟩ pos
def bareV : AV → Bool
  | .int _ _ | .bool _ | .str _ | .nilptr | .nilsl | .nilif | .nilfn => true
  | _ => false
def sameVers : Level → Level → Bool
  | [], [] => true
  | none :: l, none :: m => sameVers l m
  | some (v, _) :: l, some (u, _) :: m => v == u && sameVers l m
  | _, _ => false
def sameTop : Heap → Heap → Bool
  | l :: h, m :: k => sameVers l m && h.length == k.length
  | [], [] => true
  | _, _ => false
def onesOf : IntKind → Int
  | .u8 => 255
  | .u16 => 65535
  | .u32 => 4294967295
  | .u64 => 18446744073709551615
  | _ => -1
def evOp (C : CallT) (gl : Nat → List AV) (d : Nat) (x : XOp) (fr : List AV) (hp : Heap) : Option (AV × List AV × Heap) :=
  let pure (v : AV) : Option (AV × List AV × Heap) := some (v, fr, hp)
  let opt (v : Option AV) : Option (AV × List AV × Heap) := match v with | some v => some (v, fr, hp) | none => none
  match x with
  | .mov a => pure (earg fr a)
  | .own s => some (fget fr s, drop1 fr (.tmp s), hp)
  | .ownl s => match fget fr s with
    | .lst .uniq z es => if z < 1000 then some (.lst .uniq z es, fput fr s (.lenv es.length), hp) else none
    | v => some (v, drop1 fr (.tmp s), hp)
  | .ownd s => match fget fr s with
    | .lst .uniq z es => if z < 1000 then some (.lst .own z es, drop1 fr (.tmp s), hp) else none
    | v => some (v, drop1 fr (.tmp s), hp)
  | .extm s => match fget fr s with
    | .lst .uniq z (cs :: es) => if 1000 ≤ z ∧ z < 2000 then some (.lst .uniq (z - 1000) es, fput fr s (.tup (.undef :: cs)), hp) else none
    | .tup (c :: cs) => some (uf c, fput fr s (.tup (c :: cs)), hp)
    | _ => none
  | .pick c a b => match earg fr c with | .bool true => pure (earg fr a) | .bool false => pure (earg fr b) | _ => none
  | .alloc zero => match mkBlk hp d (.cells zero) with | some (r, hp') => some (.ptr r 0, fr, hp') | none => none
  | .allocb t e => match mkBlk hp d (.bld t e []) with | some (r, hp') => some (.ptr r 0, fr, hp') | none => none
  | .box a n =>
    let cs := cellsOf (earg fr a)
    if cs.length = n ∧ cs.all plain1 = true then match mkBlk hp d (.cells cs) with | some (r, hp') => some (.ptr r 0, fr, hp') | none => none else none
  | .boxe a n =>
    let cs := cellsOf (earg fr a)
    if cs.length = n ∧ cs.all plain1 = true ∧ refFreeL cs = true then pure (.elp cs) else none
  | .loade a n agg => match earg fr a with
    | .elp cs => opt (ldCells cs n agg)
    | _ => none
  | .build zero parts => match fillX fr parts zero with | some cs => pure (.agg cs) | none => none
  | .bslice z zero parts => match fillX fr parts zero with
    | some cs => if refFreeL cs = true ∧ 0 < z then pure (.lst .tight z (chunks z (cs.length / z) cs)) else none
    | none => none
  | .bslu z zero parts => match fillX fr parts zero with
    | some cs => if refFreeL cs = true ∧ 0 < z ∧ z < 1000 then pure (.lst .uniq z (chunks z (cs.length / z) cs)) else none
    | none => none
  | .cnvb s => match fget fr s with
    | .lst .uniq z es => if z = 1 then some (.lst .own 1 es, drop1 fr (.tmp s), hp) else none
    | _ => none
  | .load a n agg => opt (ldAt gl hp (earg fr a) n agg)
  | .lown a => match earg fr a with
    | .ptr r off => match cellsAt hp r with
      | some cs => match cs.drop off with
        | .lst .own z es :: _ => some (.lst .own z es, fr, hput hp r (.cells (splice cs off [.lst .none z es])))
        | v :: _ => pure (uf v)
        | [] => none
      | none => none
    | _ => none
  | .store a y n =>
    let vs := cellsOf (rawArg fr y)
    if vs.length = n ∧ vs.all plain1 = true then match stAt hp (earg fr a) vs with | some hp' => some (.undef, drop1 fr y, hp') | none => none else none
  | .nilck a => match earg fr a with
    | .ptr r off => pure (.ptr r off)
    | .elp cs => pure (.elp cs)
    | .fn f ds cs => pure (.fn f ds cs)
    | _ => none
  | .bin b a c => opt (binX b (earg fr a) (earg fr c))
  | .beq n a c => match earg fr a, earg fr c with | .bool x, .bool y => pure (.bool ((x == y) != n)) | _, _ => none
  | .eqnil kd n a => match isNil kd (earg fr a) with | some r => pure (.bool (r != n)) | none => none
  | .eqif n ts a c => match eqIfV ts (earg fr a) (earg fr c) with | some r => pure (.bool (r != n)) | none => none
  | .eqagg n sh a c => match earg fr a, earg fr c with
    | .agg l, .agg m => match eqCells sh l m with | some r => pure (.bool (r != n)) | none => none
    | _, _ => none
  | .neg a => match earg fr a with | .int k n => pure (.int k (wr k (0 - n))) | _ => none
  | .not a => match earg fr a with | .bool b => pure (.bool !b) | _ => none
  | .cpl a => match earg fr a with | .int k n => opt (ints k .xor (onesOf k) n) | _ => none
  | .conv k a => match earg fr a with | .int _ n => pure (.int k (wr k n)) | _ => none
  | .same a => match earg fr a with | .str s => pure (.str s) | _ => none
  | .bstr a => match listOf hp 1 (earg fr a) with
    | some es => match bytesOfL es with | some s => pure (.str s) | none => none
    | none => none
  | .strb a => match earg fr a with | .str s => if s.length ≤ room then pure (.lst .own 1 (listOfBytes s)) else none | _ => none
  | .mkif t a => pure (.ifc t (earg fr a))
  | .tas t ok zero a => match earg fr a with
    | .ifc t' v => if t' = t then pure (if ok then .tup [v, .bool true] else uf v) else if ok then pure (.tup [zero, .bool false]) else none
    | .nilif => if ok then pure (.tup [zero, .bool false]) else none
    | _ => none
  | .mkfn f ds cs => pure (.fn f (eargs fr ds) (eargs fr cs))
  | .mks z zero l c => match asNat (earg fr l), asNat (earg fr c) with
    | some n, some m =>
      if n = m ∧ n * (32 * z) ≤ room then match mkBlk hp d (.cells (List.replicate n zero).flatten) with | some (r, hp') => some (.sl r z 0 n, fr, hp') | none => none
      else none
    | _, _ => none
  | .sstr a lo hi => match earg fr a with
    | .str s => match optNat (lo.map (earg fr)) 0, optNat (hi.map (earg fr)) s.length with
      | some l, some h => if l ≤ h ∧ h ≤ s.length then pure (.str ((s.take h).drop l)) else none
      | _, _ => none
    | _ => none
  | .ssl z a lo hi mx => match earg fr a with
    | .nilsl => match mx, optNat (lo.map (earg fr)) 0, optNat (hi.map (earg fr)) 0 with
      | none, some 0, some 0 => pure .nilsl
      | _, _, _ => none
    | .lst o z' es => match optNat (lo.map (earg fr)) 0, optNat (hi.map (earg fr)) es.length with
      | some l, some h =>
        if z' = z ∧ l ≤ h ∧ h ≤ es.length then
          match mx with
          | none => pure (.lst (if o = .tight ∧ hi.isNone then .tight else .none) z ((es.take h).drop l))
          | some m => if optNat (some (earg fr m)) 0 = some h ∧ es ≠ [] then pure (.lst .tight z ((es.take h).drop l)) else none
        else none
      | _, _ => none
    | .sl r z' off len => match mx, optNat (lo.map (earg fr)) 0, optNat (hi.map (earg fr)) len with
      | none, some l, some h => if z' = z ∧ l ≤ h ∧ h ≤ len ∧ (l < len ∨ l = 0) then pure (.sl r z (off + l * z) (h - l)) else none
      | _, _, _ => none
    | _ => none
  | .sarr n z a lo hi => match earg fr a with
    | .ptr r off => match optNat (lo.map (earg fr)) 0, optNat (hi.map (earg fr)) n, cellsAt hp r with
      | some l, some h, some cs => if l ≤ h ∧ h ≤ n ∧ (l < n ∨ l = 0) ∧ off + n * z ≤ cs.length then pure (.sl r z (off + l * z) (h - l)) else none
      | _, _, _ => none
    | _ => none
  | .faddr a k => match earg fr a with
    | .ptr r off => pure (.ptr r (off + k))
    | .elp cs => if k ≤ cs.length then pure (.elp (cs.drop k)) else none
    | _ => none
  | .field a off n agg => match earg fr a with
    | .agg cs => opt (if off + n ≤ cs.length then ldCells (cs.drop off) n agg else none)
    | _ => none
  | .iaddr z a i => match earg fr a, asNat (earg fr i) with
    | .lst _ z' es, some k => if z' = z ∧ k < es.length then pure (.elp (es.getD k [])) else none
    | .sl r z' off len, some k => if z' = z ∧ k < len then pure (.ptr r (off + k * z)) else none
    | _, _ => none
  | .iarr n z a i => match earg fr a, asNat (earg fr i) with
    | .ptr r off, some k => if k < n then pure (.ptr r (off + k * z)) else none
    | .elp cs, some k => if k < n ∧ k * z ≤ cs.length then pure (.elp (cs.drop (k * z))) else none
    | _, _ => none
  | .idxs a i => match earg fr a, asNat (earg fr i) with
    | .str s, some k => if k < s.length then pure (.int .u8 (s.getD k 0).toNat) else none
    | _, _ => none
  | .idxa n z agg a i => match earg fr a, asNat (earg fr i) with
    | .agg cs, some k => opt (if k < n ∧ k * z + z ≤ cs.length then ldCells (cs.drop (k * z)) z agg else none)
    | _, _ => none
  | .ext s i => match fget fr s with
    | .tup vs => match vs[i]? with | some v => pure (uf v) | none => none
    | .lst .uniq z (cs :: _) => if 1000 ≤ z ∧ 1 ≤ i then (match cs[i - 1]? with | some v => pure (uf v) | none => none) else none
    | _ => none
  | .callq f as =>
    let vs := eargs fr as
    if refFreeL vs = true then match C f vs [] with | some (v, _) => some (v, fr, hp) | none => none else none
  | .callqd f as =>
    let vs := eargs fr as
    if refFreeL vs = true then match C f vs [] with | some (v, _) => some (demV v, fr, hp) | none => none else none
  | .callw f as => match C f (eargs fr as) hp with | some (v, hp') => if sameTop hp hp' = true then some (v, fr, hp') else none | none => none
  | .callm f s as => match C f (fget fr s :: eargs fr as) hp with | some (v, hp') => if sameTop hp hp' = true then some (v, drop1 fr (.tmp s), hp') else none | none => none
  | .thw s => match fget fr s with
    | .lst .uniq z es => if z < 1000 then if es.all (fun e => e.all bareV) = true then match mkBlk hp d (.cells es.flatten) with
      | some (r, hp') => some (.sl r z 0 es.length, fput fr s (.sl r z 0 es.length), hp')
      | none => none else none else none
    | .sl r z off len => pure (.sl r z off len)
    | .nilsl => pure .nilsl
    | _ => none
  | .calld g as => match earg fr g with
    | .fn f ds cs => match C f ((ds ++ eargs fr as ++ cs).map uf) hp with
      | some (v, hp') => if sameTop hp hp' = true then some (v, fr, hp') else none
      | none => none
    | _ => none
  | .calldq g as => match earg fr g with
    | .fn f ds cs =>
      if refFreeL ((ds ++ eargs fr as ++ cs).map uf) = true then match C f ((ds ++ eargs fr as ++ cs).map uf) [] with | some (v, _) => some (v, fr, hp) | none => none else none
    | _ => none
  | .inv tab a as => match earg fr a with
    | .ifc t v => match tab.lookup t with
      | some f => let vs := v :: eargs fr as
        if refFreeL vs = true then match C f vs [] with | some (v, _) => some (v, fr, hp) | none => none else none
      | none => none
    | _ => none
  | .lens st a => match st, rawArg fr a with
    | true, .str s => pure (.int .i64 s.length)
    | false, .lst o z es => if lenB o z = true then pure (.int .i64 es.length) else none
    | false, .nilsl => pure (.int .i64 0)
    | false, .sl _ _ _ n => pure (.int .i64 n)
    | false, .lenv n => pure (.int .i64 n)
    | _, _ => none
  | .app u z bytes s a => match listOf hp z (rawArg fr a) with
    | some new =>
      if new = [] then (match fget fr s with
        | .nilsl => some (.nilsl, drop1 fr (.tmp s), hp)
        | .lst o z' es => if lenB o z' = true then some (.lst o z' es, drop1 fr (.tmp s), hp) else none
        | _ => none)
      else if refFreeL new.flatten = true ∧ new.flatten.all plain1 = true then
        match fget fr s with
        | .nilsl => if new.length * bytes ≤ room then pure (.lst (if u then .uniq else .own) z new) else none
        | .lst o z' es => if z' = z ∧ appMay o u = true ∧ (es.length + new.length) * bytes ≤ room then some (.lst (if u then .uniq else .own) z (es ++ new), drop1 fr (.tmp s), hp) else none
        | _ => none
      else none
    | none => none
  | .appstr u s a => match earg fr a with
    | .str b =>
      if b = [] then (match fget fr s with
        | .nilsl => some (.nilsl, drop1 fr (.tmp s), hp)
        | .lst o z' es => if lenB o z' = true then some (.lst o z' es, drop1 fr (.tmp s), hp) else none
        | _ => none)
      else match fget fr s with
        | .nilsl => if b.length ≤ room then pure (.lst (if u then .uniq else .own) 1 (listOfBytes b)) else none
        | .lst o z' es => if z' = 1 ∧ appMay o u = true ∧ es.length + b.length ≤ room then some (.lst (if u then .uniq else .own) 1 (es ++ listOfBytes b), drop1 fr (.tmp s), hp) else none
        | _ => none
    | _ => none
  | .copy _ _ _ => none
  | .mx a b => match earg fr a, earg fr b with | .int k x, .int k' y => if k = k' then pure (.int k (if y > x then y else x)) else none | _, _ => none
  | .mn a b => match earg fr a, earg fr b with | .int k x, .int k' y => if k = k' then pure (.int k (if y < x then y else x)) else none | _, _ => none
  | .rngs a => match earg fr a with
    | .str s => match mkBlk hp d (.iter s 0) with | some (r, hp') => some (.ptr r 0, fr, hp') | none => none
    | _ => none
  | .nexts a => match earg fr a with
    | .ptr r 0 => match hget hp r with
      | some (.iter s pos) =>
        if pos < s.length then
          let (c, w) := decodeAt s pos
          some (.tup [.bool true, .int .i64 pos, .int .i32 c], fr, hput hp r (.iter s (pos + w)))
        else pure (.tup [.bool false])
      | _ => none
    | _ => none
  | .prim id _ as => opt (primX id (eargs fr as))
  | .primm id _ s => match fget fr s with
    | .lst .uniq z es => if z = 1 then (match primM id es with | some es' => some (.lst .uniq 1 es', drop1 fr (.tmp s), hp) | none => none) else none
    | .nilsl => match primM id [] with | some _ => pure .nilsl | none => none
    | _ => none
  | .clr z zero a => match earg fr a with
    | .nilsl => pure (.tup [])
    | .sl r z' off len => if z' = z ∧ zero.length = z then
        match stAt hp (.ptr r off) (List.replicate len zero).flatten with | some hp' => some (.tup [], fr, hp') | none => none
      else none
    | .lst _ _ [] => pure (.tup [])
    | _ => none
  | .stop => none

def evO (C : CallT) (gl : Nat → List AV) (o : XO) (fr : List AV) (hp : Heap) : Option (List AV × Heap) :=
  let fin (fr : List AV) (v : AV) : List AV := match o.dst with | some d => fput fr d v | none => fr
  let go : Option (List AV × Heap) := match evOp C gl (o.dst.getD 0) o.op fr hp with
    | some (v, fr', hp') => some (fin fr' v, hp')
    | none => none
  match o.guard with
  | none => go
  | some (t, b) => match fget fr t with
    | .bool c => if c = b then go else some (fin fr (.tup []), hp)
    | .tup [] => some (fin fr (.tup []), hp)
    | _ => none
def evOps (C : CallT) (gl : Nat → List AV) : List XO → List AV → Heap → Option (List AV × Heap)
  | [], fr, hp => some (fr, hp)
  | o :: rest, fr, hp => match evO C gl o fr hp with
    | some (fr', hp') => evOps C gl rest fr' hp'
    | none => none
def apartV : AV → AV → Bool
  | .ptr r _, .ptr q _ => !(decide (r = q))
  | _, _ => true
def apsOk (fr : List AV) : List (Nat × Nat) → Bool
  | [] => true
  | (a, b) :: l => apartV (fget fr a) (fget fr b) && apsOk fr l
inductive XExit where
  | normal | exit (id : Nat) | goto (l : Nat) | ret
  deriving DecidableEq, Inhabited
structure St where
  fr : List AV
  hp : Heap
def evLoop (f : St → Option (XExit × St)) : Nat → St → Option (XExit × St)
  | 0, _ => none
  | n + 1, s => match f s with
    | some (.normal, s') => evLoop f n s'
    | r => r
def hasLab : XCode → Nat → Bool
  | .seq a b, l => hasLab a l || hasLab b l
  | .label l', l => l' == l
  | _, _ => false
def evJump (f : Option Nat → St → Option (XExit × St)) : Nat → Option Nat → St → Option (XExit × St)
  | 0, _, _ => none
  | n + 1, o, s => match f o s with
    | some (.goto l, s') => evJump f n (some l) s'
    | r => r
mutual
def evCode (C : CallT) (gl : Nat → List AV) (n : Nat) : XCode → St → Option (XExit × St)
  | .skip, s => some (.normal, s)
  | .region _ ops aps, s => match evOps C gl ops s.fr s.hp with | some (fr, hp) => if apsOk fr aps = true then some (.normal, ⟨fr, hp⟩) else none | none => none
  | .seq a b, s => match evCode C gl n a s with
    | some (.normal, s') => evCode C gl n b s'
    | r => r
  | .cond c a b, s => match earg s.fr c with
    | .bool true => evCode C gl n a s
    | .bool false => evCode C gl n b s
    | _ => none
  | .block id c, s => match evCode C gl n c s with
    | some (.exit i, s') => if i = id then some (.normal, s') else some (.exit i, s')
    | r => r
  | .loop c, s => evLoop (fun s => evCode C gl n c s) n s
  | .exit id, s => some (.exit id, s)
  | .scope c, s => evJump (fun o s => match o with | none => evCode C gl n c s | some l => evLab C gl n c l s) n none s
  | .label _, s => some (.normal, s)
  | .goto l, s => some (.goto l, s)
  | .ret, s => some (.ret, s)
def evLab (C : CallT) (gl : Nat → List AV) (n : Nat) : XCode → Nat → St → Option (XExit × St)
  | .seq a b, l, s => if hasLab a l = true then (match evLab C gl n a l s with
      | some (.normal, s') => evCode C gl n b s'
      | r => r) else evLab C gl n b l s
  | .label l', l, s => if l' = l then some (.normal, s) else none
  | _, _, _ => none
end
def mapO (f : AV → Option AV) : List AV → Option (List AV)
  | [] => some []
  | v :: l => match f v with
    | some v' => match mapO f l with | some l' => some (v' :: l') | none => none
    | none => none
def shut (hp : Heap) (lev : Nat) : Nat → AV → Option AV
  | 0, _ => none
  | n + 1, v => match v with
    | .ptr r off =>
      if r.lev = lev then
        match cellsAt hp r with
        | some vs => match mapO (shut hp lev n) (vs.drop off) with
          | some cs => if refFreeL cs = true then some (.elp cs) else none
          | none => none
        | none => none
      else some (.ptr r off)
    | .sl r z off len =>
      if r.lev = lev then
        match cellsAt hp r with
        | some vs => match mapO (shut hp lev n) ((vs.drop off).take (len * z)) with
          | some cs => if refFreeL cs = true ∧ off + len * z ≤ vs.length then some (.lst .none z (chunks z len cs)) else none
          | none => none
        | none => none
      else some (.sl r z off len)
    | .agg cs => (mapO (shut hp lev n) cs).map .agg
    | .tup cs => (mapO (shut hp lev n) cs).map .tup
    | .ifc t v => (shut hp lev n v).map (.ifc t)
    | .fn f ds cs => match mapO (shut hp lev n) ds with | some ds => (mapO (shut hp lev n) cs).map (.fn f ds) | none => none
    | v => some (uf v)
def shutDepth : Nat := 6
def evRes (s : St) : XRes → Option AV
  | .tmp t => some (fget s.fr t)
  | .cell t n agg => match fget s.fr t with
    | .ptr r off => match cellsAt s.hp r with | some vs => ldCells (vs.drop off) n agg | none => none
    | _ => none
def evResL (s : St) : List XRes → Option (List AV)
  | [] => some []
  | r :: l => match evRes s r with
    | some v => match evResL s l with | some l' => some (v :: l') | none => none
    | none => none
def retOf (hp : Heap) (lev : Nat) : List AV → Option AV
  | [.lst o z es] => some (.lst o z es)
  | [.sl r z off len] => match shut hp lev shutDepth (.sl r z off len) with
    | some (.lst _ z es) => if es.all (fun e => e.all bareV) = true ∧ z < 1000 then some (.lst .uniq z es) else none
    | _ => none
  | [v] => shut hp lev shutDepth v
  | .lst .uniq z es :: us => if z < 1000 then match mapO (shut hp lev shutDepth) us with
    | some cs => if refFreeL cs = true then some (.lst .uniq (z + 1000) (cs :: es)) else none
    | none => none else none
  | vs => (mapO (shut hp lev shutDepth) vs).map .tup
def finish (s : St) (rs : List XRes) : Option (AV × Heap) :=
  match s.hp with
  | [] => none
  | _ :: hp' => match evResL s rs with
    | some vs => match retOf s.hp hp'.length vs with | some v => some (v, hp') | none => none
    | none => none
def hprimX (id : Nat) (args : List AV) (hp : Heap) : Option (AV × Heap) := match args with
  | [.ptr r off, .str s] => if off = 0 ∧ id / 1000000 = 1 then (match hget hp r with
    | some (.bld t e bs) => if id % 1000000 = t * 1000 + e ∧ bs.length + s.length ≤ 140737488355328 then some (.tup [.int .i64 s.length, .nilif], hput hp r (.bld t e (bs ++ s))) else none
    | _ => none) else none
  | [.ptr r off] => if off = 0 ∧ id / 1000000 = 2 then (match hget hp r with
    | some (.bld t e bs) => if id % 1000000 = t * 1000 + e then some (.str bs, hput hp r (.cells [.undef, .undef])) else none
    | _ => none) else none
  | _ => none
def spec (fn : XFn) : Option Nat := match fn.body with | .exit id => some id | _ => none
def evCall (X : List (Option XFn)) (gl : Nat → List AV) : Nat → CallT
  | 0, _, _, _ => none
  | n + 1, f, args, hp => match X[f]? with
    | some (some fn) => match spec fn with
      | some id => hprimX id args hp
      | none => match evCode (evCall X gl n) gl n fn.body ⟨args, [] :: hp⟩ with
        | some (.normal, s) => finish s fn.results
        | some (.ret, s) => finish s fn.results
        | _ => none
    | _ => none
end Go.Proofs.YtjbgceogkgpjpaaGreatDoor.Sx
