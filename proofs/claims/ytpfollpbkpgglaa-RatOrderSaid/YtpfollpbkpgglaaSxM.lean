/- SX, part M: is a text of the small language the compiled form of a function. -/
import Derived.Test.YtpfollpbkpgglaaSxL
set_option linter.unusedVariables false
set_option linter.unusedSimpArgs false
namespace Go.Proofs.Ytpfollpbkpgglaa.Sx
open Go

def typeIs (P : Program) (T : TypeId) (n : Nat) (agg : Bool) : Bool :=
  match P.info? T, P.underlying T with
  | some i, some d => i.size == n && aggOf d == agg
  | _, _ => false
def sizeIs (P : Program) (T : TypeId) (n : Nat) : Bool :=
  match P.info? T with
  | some i => i.size == n
  | none => false
def hasType (P : Program) (T : TypeId) : Bool := (P.underlying T).isSome
def isU8 (P : Program) (E : TypeId) : Bool := match P.underlying E with | some (.int .u8) => true | _ => false
def zeroVal (v : AV) (x : Value) : Bool :=
  match v, x with
  | .agg cs, .agg xs => constCells cs xs.toList
  | .agg _, _ => false
  | v, x => constOk v x && plain1 v
def bodied (P : Program) (f : Nat) : Bool := match P.funcs[f]? with | some fn => fn.body.isSome && !(fn.name == "runtime.NumGoroutine") | none => false
/-- a call of a function that is named -/
def callFn : Op → Option (Nat × List Operand)
  | .call c => (match c.callee with | .value (.func g) => some (g, c.args.toList) | _ => none)
  | _ => none
def callVal : Op → Option (Operand × List Operand)
  | .call c => (match c.callee with | .value g => some (g, c.args.toList) | _ => none)
  | _ => none
def callB : Op → Option (Builtin × List Operand × List TypeId)
  | .call c => (match c.callee with | .builtin b => some (b, c.args.toList, c.argTypes.toList) | _ => none)
  | _ => none
def chkOp (P : Program) (prims : List (Nat × Nat)) (x : XOp) (o : Oper) : Bool :=
  match x with
  | .mov a => match o.op with
    | .move b => argOk a b
    | .assign b => argOk a b
    | _ => false
  | .own s => match o.op with
    | .move (.tmp t) => s == t
    | .assign (.tmp t) => s == t
    | _ => false
  | .ownd s => match o.op with
    | .move (.tmp t) => s == t
    | .assign (.tmp t) => s == t
    | _ => false
  | .thw s => match o.op with
    | .move (.tmp t) => s == t
    | _ => false
  | .pick c a b => match o.op with
    | .pick c' a' b' => argOk c c' && argOk a a' && argOk b b'
    | _ => false
  | .alloc zs => match o.op with
    | .alloc T => zeroOk P T zs
    | _ => false
  | .box a _ => match o.op with
    | .box _ b => argOk a b
    | _ => false
  | .build zs ps => match o.op with
    | .build T qs => zeroOk P T zs && (match P.underlying T with
      | some (.struct fs) => fs.toList.all (fun f => (P.info? f.type).isSome) && partsOk (structPlaces P fs) ps qs.toList
      | some (.array _ e) => (match P.info? e with | some i => partsOk (fun k => some (k * i.size, i.size)) ps qs.toList | none => false)
      | _ => false)
    | _ => false
  | .bslice z zs ps => match o.op with
    | .buildSlice T len qs => (match P.underlying T with
      | some (.slice E) => (match P.info? E with
        | some i => (match i.zero with
          | some zv => i.size == z && zs.length == len * z && decide (len * z ≤ 2 ^ 24) && constCells zs (initCells (if len * z = 0 then #[] else zv.cells) (len * z)).toList && partsOk (fun k => some (k * z, z)) ps qs.toList
          | none => false)
        | none => false)
      | _ => false)
    | _ => false
  | .load a n agg => match o.op with
    | .load T b => argOk a b && typeIs P T n agg
    | _ => false
  | .lown a => match o.op with
    | .load T b => argOk a b && typeIs P T 1 false
    | _ => false
  | .store a y n => match o.op with
    | .store T b c => argOk a b && argOk y c && sizeIs P T n
    | _ => false
  | .nilck a => match o.op with
    | .nilCheck b => argOk a b
    | _ => false
  | .bin b x y => match o.op with
    | .binOp op _ x' y' _ => decide (op = xbin b) && argOk x x' && argOk y y'
    | _ => false
  | .beq n x y => match o.op with
    | .binOp op T x' y' _ => decide (op = if n then .neq else .eql) && argOk x x' && argOk y y' && (match P.underlying T with | some .bool => true | _ => false)
    | _ => false
  | .eqnil kd n x => match o.op with
    | .binOp op T x' (.const c) _ => decide (op = if n then .neq else .eql) && argOk x x' && (match P.underlying T with | some d => nilKind kd d | none => false) && nilConst kd c
    | _ => false
  | .eqagg n sh x y => match o.op with
    | .binOp op T x' y' _ => decide (op = if n then .neq else .eql) && argOk x x' && argOk y y' && decide (eqT P 50 T = some sh) && !P.eqGuardType P.depth T &&
      (match P.underlying T with | some d => aggOf d | none => false)
    | _ => false
  | .neg a => match o.op with
    | .unOp .neg _ b => argOk a b
    | _ => false
  | .not a => match o.op with
    | .unOp .not _ b => argOk a b
    | _ => false
  | .cpl a => match o.op with
    | .unOp .xor _ b => argOk a b
    | _ => false
  | .conv k a => match o.op with
    | .convert S D b => argOk a b && hasType P S && (match P.underlying D with | some (.int j) => decide (j = k) | _ => false)
    | _ => false
  | .same a => match o.op with
    | .convert S D b => argOk a b && hasType P S && (match P.underlying D with | some .string => true | _ => false)
    | _ => false
  | .bstr a => match o.op with
    | .convert S D b => argOk a b && (match P.underlying S with | some (.slice e) => isU8 P e | _ => false) && (match P.underlying D with | some .string => true | _ => false)
    | _ => false
  | .strb a => match o.op with
    | .convert S D b => argOk a b && (match P.underlying S with | some .string => true | _ => false) && (match P.underlying D with | some (.slice e) => isU8 P e | _ => false)
    | _ => false
  | .mkif t a => match o.op with
    | .makeInterface T b => t == T && argOk a b && (match P.underlying T with | some (.interface _) => false | some _ => true | none => false)
    | _ => false
  | .tas t ok zero a => match o.op with
    | .typeAssert b _ t' ok' => t == t' && ok == ok' && argOk a b && (match P.underlying t with | some (.interface _) => false | some _ => true | none => false) &&
      (match P.info? t with | some i => (match i.zero with | some zv => zeroVal zero zv | none => false) | none => false)
    | _ => false
  | .mkfn f ds cs => match o.op with
    | .makeFunc (.func g) ds' cs' => f == g && argsOk ds ds'.toList && argsOk cs cs'.toList
    | _ => false
  | .mks z zero l c => match o.op with
    | .makeSlice T l' c' => argOk l l' && argOk c c' && (match P.underlying T with
      | some (.slice E) => (match P.info? E with | some i => i.size == z && decide (i.bytes ≤ 32 * z) && zeroOk P E zero | none => false)
      | _ => false)
    | _ => false
  | .sstr a lo hi => match o.op with
    | .slice T b lo' hi' none => argOk a b && optOk lo lo' && optOk hi hi' && (match P.underlying T with | some .string => true | _ => false)
    | _ => false
  | .ssl z a lo hi mx => match o.op with
    | .slice T b lo' hi' mx' => argOk a b && optOk lo lo' && optOk hi hi' && optOk mx mx' && (match P.underlying T with | some (.slice E) => sizeIs P E z | _ => false) && (mx.isNone || hi.isSome)
    | _ => false
  | .sarr n z a lo hi => match o.op with
    | .slice T b lo' hi' none => argOk a b && optOk lo lo' && optOk hi hi' && (match P.underlying T with
      | some (.array m E) => m == n && sizeIs P E z
      | some (.pointer A) => (match P.underlying A with | some (.array m E) => m == n && sizeIs P E z | _ => false)
      | _ => false)
    | _ => false
  | .faddr a k => match o.op with
    | .fieldAddr S b j => argOk a b && (match P.underlying S with
      | some (.struct fs) => (match fs[j]? with | some f => f.offset == k && (match P.info? f.type with | some i => !(i.size == 0) | none => false) | none => false)
      | _ => false)
    | _ => false
  | .field a off n agg => match o.op with
    | .field S b j => argOk a b && (match P.underlying S with
      | some (.struct fs) => (match fs[j]? with | some f => f.offset == off && typeIs P f.type n agg | none => false)
      | _ => false)
    | _ => false
  | .iaddr z a i => match o.op with
    | .indexAddr T b c => argOk a b && argOk i c && (match P.underlying T with | some (.slice E) => sizeIs P E z | _ => false)
    | _ => false
  | .iarr n z a i => match o.op with
    | .indexAddr T b c => argOk a b && argOk i c && (match P.underlying T with | some (.array m E) => m == n && sizeIs P E z | _ => false)
    | _ => false
  | .idxs a i => match o.op with
    | .index T b c => argOk a b && argOk i c && (match P.underlying T with | some .string => true | _ => false)
    | _ => false
  | .idxa n z agg a i => match o.op with
    | .index T b c => argOk a b && argOk i c && (match P.underlying T with | some (.array m E) => m == n && typeIs P E z agg | _ => false)
    | _ => false
  | .ext s i => match o.op with
    | .extract (.tmp t) j => s == t && i == j
    | _ => false
  | .callq f as => match callFn o.op with | some (g, bs) => f == g && argsOk as bs && bodied P g | _ => false
  | .callw f as => match callFn o.op with | some (g, bs) => f == g && argsOk as bs && bodied P g | _ => false
  | .callm f as => match callFn o.op with | some (g, bs) => f == g && argsOk as bs && bodied P g | _ => false
  | .prim id f as => match callFn o.op with | some (g, bs) => f == g && argsOk as bs && prims.contains (f, id) | _ => false
  | .calld g as => match callVal o.op with | some (h, bs) => argOk g h && argsOk as bs | _ => false
  | .lens st a => match callB o.op with | some (.len, [b], [T]) => argOk a b && (match P.underlying T with | some .string => st | some (.slice _) => !st | _ => false) | _ => false
  | .app _ z bytes s a => match callB o.op with
    | some (.append, [.tmp t, b], [T, T2]) => s == t && argOk a b && (match P.underlying T, P.underlying T2 with
      | some (.slice E), some (.slice _) => (match P.info? E with | some i => i.size == z && i.bytes == bytes && decide (0 < z) && decide (0 < bytes) && i.zero.isSome | none => false)
      | _, _ => false)
    | _ => false
  | .appstr _ s a => match callB o.op with
    | some (.append, [.tmp t, b], [T, T2]) => s == t && argOk a b && (match P.underlying T, P.underlying T2 with
      | some (.slice E), some .string => (match P.info? E with | some i => i.size == 1 && i.bytes == 1 && i.zero.isSome | none => false)
      | _, _ => false)
    | _ => false
  | .mx a b => match callB o.op with | some (.max, [c, d], _) => argOk a c && argOk b d | _ => false
  | .mn a b => match callB o.op with | some (.min, [c, d], _) => argOk a c && argOk b d | _ => false
  | .rngs a => match o.op with
    | .range T b => argOk a b && (match P.underlying T with | some .string => true | _ => false)
    | _ => false
  | .nexts a => match o.op with
    | .next b true => argOk a b
    | _ => false
  | .clr z zero a => match callB o.op with
    | some (.clear, [b], [T]) => argOk a b && (match P.underlying T with | some (.slice E) => sizeIs P E z && zeroOk P E zero | _ => false)
    | _ => false
  | .stop => true
  | _ => false

/-! ### which slots, which memory -/
def ats : List XArg → List Nat
  | [] => []
  | .tmp t :: l => t :: ats l
  | _ :: l => ats l
def oat (a : Option XArg) : List XArg := a.toList
/-- the slots that an operation reads -/
def rds : XOp → List Nat
  | .mov a | .box a _ | .load a _ _ | .lown a | .nilck a | .neg a | .not a | .cpl a | .conv _ a | .same a | .bstr a | .strb a | .mkif _ a | .tas _ _ _ a | .faddr a _ | .field a _ _ _ | .lens _ a | .rngs a | .nexts a | .clr _ _ a | .eqnil _ _ a => ats [a]
  | .own s | .ownd s | .thw s | .ext s _ => [s]
  | .pick c a b => ats [c, a, b]
  | .alloc _ | .stop => []
  | .build _ ps | .bslice _ _ ps => ats (ps.map fun p => p.2.2)
  | .store a b _ | .bin _ a b | .beq _ a b | .eqagg _ _ a b | .iaddr _ a b | .iarr _ _ a b | .idxs a b | .idxa _ _ _ a b | .mx a b | .mn a b | .mks _ _ a b | .copy _ a b => ats [a, b]
  | .mkfn _ ds cs => ats (ds ++ cs)
  | .sstr a l h => ats (a :: oat l ++ oat h)
  | .ssl _ a l h m => ats (a :: oat l ++ oat h ++ oat m)
  | .sarr _ _ a l h => ats (a :: oat l ++ oat h)
  | .callq _ as | .callw _ as | .callm _ as | .prim _ _ as => ats as
  | .calld g as => ats (g :: as)
  | .inv _ a as => ats (a :: as)
  | .app _ _ _ s a | .appstr _ s a => s :: ats [a]
/-- the slots whose lists are handed on -/
def mvs : XOp → List Nat
  | .own s | .ownd s | .thw s | .app _ _ _ s _ | .appstr _ s _ => [s]
  | .store _ b _ => ats [b]
  | .callm _ as => ats as
  | _ => []
/-- 0: no block of the call's own; 1: reads them; 2: makes one; 3: may write them -/
def cls : XOp → Nat
  | .load _ _ _ | .bstr _ | .sarr _ _ _ _ _ | .app _ _ _ _ _ => 1
  | .alloc _ | .box _ _ | .mks _ _ _ _ | .rngs _ | .thw _ => 2
  | .store _ _ _ | .lown _ | .callw _ _ | .calld _ _ | .nexts _ | .clr _ _ _ | .inv _ _ _ | .copy _ _ _ => 3
  | _ => 0
def XO.wr (o : XO) : List Nat := o.dst.toList ++ mvs o.op
def XO.nm (o : XO) : List Nat := o.wr ++ rds o.op ++ (match o.guard with | some (t, _) => [t] | none => [])
def meets (a b : List Nat) : Bool := a.any b.contains
def conflict (a b : XO) : Bool := meets a.wr b.nm || meets b.wr a.nm || (cls a.op == 3 && decide (1 ≤ cls b.op)) || (cls b.op == 3 && decide (1 ≤ cls a.op))
/-- what must stand ahead of an operation -/
def edges (o : Oper) : List Nat := o.after.toList.filterMap fun e => if Region.binds .any e then some e.on else none
def masks : List Oper → List Nat → List Nat
  | [], acc => acc
  | o :: l, acc => masks l (acc ++ [(edges o).foldl (fun s e => s ||| (2 ^ e ||| acc.getD e 0)) 0])
def ptrSlot : XOp → Option Nat
  | .load (.tmp a) _ _ | .lown (.tmp a) | .store (.tmp a) _ _ => some a
  | _ => none
/-- no operation from this place on writes the slot -/
def standing (xs : List XO) (i a : Nat) : Bool := (xs.drop i).all fun x => !(x.wr.contains a)
/-- Unordered, and told apart by their pointers alone. -/
def exempt (xs : List XO) (aps : List (Nat × Nat)) (i j : Nat) (x y : XO) : Bool :=
  !meets x.wr y.nm && !meets y.wr x.nm && (match ptrSlot x.op, ptrSlot y.op with
    | some a, some b => aps.contains (a, b) && standing xs i a && standing xs j b
    | _, _ => false)
def drawOk (xs : List XO) (ops : List Oper) (aps : List (Nat × Nat)) : Bool :=
  let ms := masks ops []
  (List.range xs.length).all fun j => ((ops[j]?).map fun o => (edges o).all fun e => decide (e < j)).getD false &&
    (List.range j).all fun i => match xs[i]?, xs[j]? with
      | some a, some b => !conflict a b || (ms.getD j 0).testBit i || exempt xs aps i j a b
      | _, _ => false
def chkXO (P : Program) (prims : List (Nat × Nat)) (nt : Nat) (ops : List Oper) (x : XO) (o : Oper) : Bool :=
  decide (x.dst = o.dst) && (match o.dst with | some d => decide (d < nt) | none => true) && chkOp P prims x.op o &&
  (match x.guard, o.guard with
    | none, none => true
    | some (t, b), some (j, c) => (match ops[j]? with | some q => decide (q.dst = some t) | none => false) && b == c
    | _, _ => false)
def chkOps (P : Program) (prims : List (Nat × Nat)) (nt : Nat) (all : List Oper) : List XO → List Oper → Bool
  | [], [] => true
  | x :: l, o :: m => chkXO P prims nt all x o && chkOps P prims nt all l m
  | _, _ => false
def chkCode (P : Program) (prims : List (Nat × Nat)) (nt : Nat) : XCode → Code → Bool
  | .skip, .skip => true
  | .region dr xs aps, .region _ ops dr' => dr == dr' && chkOps P prims nt ops.toList xs ops.toList && (!dr || drawOk xs ops.toList aps)
  | .seq a b, .seq c d => chkCode P prims nt a c && chkCode P prims nt b d
  | .cond x a b, .cond y c d => argOk x y && chkCode P prims nt a c && chkCode P prims nt b d
  | .block i a, .block j b => i == j && chkCode P prims nt a b
  | .loop a, .loop b => chkCode P prims nt a b
  | .exit i, .exit j => i == j
  | .scope a, .scope b => chkCode P prims nt a b
  | .label i, .label j => i == j
  | .goto i, .goto j => i == j
  | .ret, .ret => true
  | _, _ => false
def chkRes (P : Program) : List XRes → List ResultVar → Bool
  | [], [] => true
  | .tmp t :: l, .tmp u :: m => t == u && chkRes P l m
  | .cell t n agg :: l, .cell u T :: m => t == u && typeIs P T n agg && chkRes P l m
  | _, _ => false
def chkFn (P : Program) (prims : List (Nat × Nat)) (x : XFn) (f : Func) : Bool :=
  !(f.name == "runtime.NumGoroutine") && x.ntmps == f.ntmps && chkRes P x.results f.results.toList && (match f.body with | some c => chkCode P prims f.ntmps x.body c | none => false)
def chkAll (P : Program) (prims : List (Nat × Nat)) : List (Option XFn) → Nat → Bool
  | [], _ => true
  | none :: l, i => chkAll P prims l (i + 1)
  | some x :: l, i => (match P.funcs[i]? with | some f => chkFn P prims x f | none => false) && chkAll P prims l (i + 1)
end Go.Proofs.Ytpfollpbkpgglaa.Sx
