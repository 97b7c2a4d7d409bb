/- EV, part B: the rules by which a text of the small language is run for values that are not known. -/
import Derived.Test.YtjbgceogkgpjpaaGreatDoorEvA
import Derived.Attr
set_option linter.unusedVariables false
set_option linter.unusedSimpArgs false
namespace Go.Proofs.YtjbgceogkgpjpaaGreatDoor.Sx

/-! ### frames -/
theorem fget_zero (v : AV) (l : List AV) : fget (v :: l) 0 = v := rfl
theorem fget_succ (v : AV) (l : List AV) (n : Nat) : fget (v :: l) (n + 1) = fget l n := rfl
theorem fget_ite (c : Prop) [Decidable c] (a b : List AV) (t : Nat) : fget (if c then a else b) t = if c then fget a t else fget b t := by split <;> rfl
theorem uf_ite (c : Prop) [Decidable c] (a b : AV) : uf (if c then a else b) = if c then uf a else uf b := by split <;> rfl

/-! ### the top level's blocks -/
def lcells (l : Level) (s v : Nat) : Option (List AV) := match lget l s with
  | some (u, .cells vs) => if u = v then some vs else none
  | _ => none
def lputc (l : Level) (s v : Nat) (cs : List AV) : Level := lput l s (some (v, .cells cs))
theorem lcells_put (l : Level) (d u : Nat) (cs : List AV) (s v : Nat) : lcells (lputc l d u cs) s v = if s = d then (if u = v then some cs else none) else lcells l s v := by
  unfold lcells lputc
  rw [lget_lput]
  by_cases h : s = d
  · simp [h]
  · simp [h]
theorem lcells_nil (s v : Nat) : lcells [] s v = none := by simp [lcells, lget_nil]
theorem lcells_ite (c : Prop) [Decidable c] (a b : Level) (s v : Nat) : lcells (if c then a else b) s v = if c then lcells a s v else lcells b s v := by split <;> rfl
theorem nextVer_put (l : Level) (d u : Nat) (cs : List AV) (s : Nat) : nextVer (lputc l d u cs) s = if s = d then u + 1 else nextVer l s := by
  unfold nextVer lputc
  rw [lget_lput]
  by_cases h : s = d <;> simp [h]
theorem nextVer_nil (s : Nat) : nextVer [] s = 0 := by simp [nextVer, lget_nil]
theorem nextVer_ite (c : Prop) [Decidable c] (a b : Level) (s : Nat) : nextVer (if c then a else b) s = if c then nextVer a s else nextVer b s := by split <;> rfl
theorem cellsAt_top (l : Level) (h : Heap) (s v : Nat) : cellsAt (l :: h) ⟨h.length, s, v⟩ = lcells l s v := by
  unfold cellsAt hget lcells
  simp only [if_true]
  cases hl : lget l s with
  | none => rfl
  | some p =>
    obtain ⟨u, b⟩ := p
    cases b with
    | cells vs => by_cases hu : u = v <;> simp [hu]
    | iter x q => by_cases hu : u = v <;> simp [hu]
    | bld x q z => by_cases hu : u = v <;> simp [hu]
def stK (l : Level) (h : Heap) (s v off : Nat) (vs : List AV) (r : Option (List AV)) : Option Heap := match r with
  | some cs => if off + vs.length ≤ cs.length then some (lputc l s v (splice cs off vs) :: h) else none
  | none => none
theorem stK_some (l : Level) (h : Heap) (s v off : Nat) (vs cs : List AV) : stK l h s v off vs (some cs) = if off + vs.length ≤ cs.length then some (lputc l s v (splice cs off vs) :: h) else none := rfl
theorem stAt_top (l : Level) (h : Heap) (s v off : Nat) (vs : List AV) : stAt (l :: h) (.ptr ⟨h.length, s, v⟩ off) vs = stK l h s v off vs (lcells l s v) := by
  simp only [stAt, cellsAt_top]
  cases lcells l s v with
  | none => rfl
  | some cs => simp [stK, hput, lputc]
def ldK (n : Nat) (agg : Bool) (off : Nat) (r : Option (List AV)) : Option AV := match r with
  | some vs => ldCells (vs.drop off) n agg
  | none => none
theorem ldK_some (n : Nat) (agg : Bool) (off : Nat) (vs : List AV) : ldK n agg off (some vs) = ldCells (vs.drop off) n agg := rfl
theorem ldAt_top (gl : Nat → List AV) (l : Level) (h : Heap) (s v off n : Nat) (agg : Bool) : ldAt gl (l :: h) (.ptr ⟨h.length, s, v⟩ off) n agg = ldK n agg off (lcells l s v) := by
  simp only [ldAt, cellsAt_top]
  cases lcells l s v <;> rfl
theorem ldAt_elp (gl : Nat → List AV) (hp : Heap) (cs : List AV) (n : Nat) (agg : Bool) : ldAt gl hp (.elp cs) n agg = ldCells cs n agg := rfl
theorem ldCells_agg (cs : List AV) (n : Nat) : ldCells cs n true = if n ≤ cs.length then some (.agg ((cs.take n).map uf)) else none := by
  unfold ldCells; split <;> rfl
theorem ldCells_one (v : AV) (cs : List AV) : ldCells (v :: cs) 1 false = some (uf v) := by
  simp [ldCells]
theorem hp_ite (c : Prop) [Decidable c] (a b : Level) (h : Heap) : (if c then a :: h else b :: h) = (if c then a else b) :: h := by split <;> rfl

/-! ### what goes on behind an operation -/
def opsK (r : Option (List AV × Heap)) (k : List AV → Heap → Option (List AV × Heap)) : Option (List AV × Heap) := match r with
  | some (fr, hp) => k fr hp
  | none => none
theorem opsK_some (fr : List AV) (hp : Heap) (k : List AV → Heap → Option (List AV × Heap)) : opsK (some (fr, hp)) k = k fr hp := rfl
theorem opsK_none (k : List AV → Heap → Option (List AV × Heap)) : opsK none k = none := rfl
theorem opsK_ite (c : Prop) [Decidable c] (a b : Option (List AV × Heap)) (k : List AV → Heap → Option (List AV × Heap)) : opsK (if c then a else b) k = if c then opsK a k else opsK b k := by split <;> rfl
def fin1 (dst : Option Nat) (fr : List AV) (v : AV) : List AV := match dst with | some d => fput fr d v | none => fr
theorem fin1_some (d : Nat) (fr : List AV) (v : AV) : fin1 (some d) fr v = fput fr d v := rfl
theorem fin1_none (fr : List AV) (v : AV) : fin1 none fr v = fr := rfl
def evO1 (C : CallT) (gl : Nat → List AV) (dst : Option Nat) (x : XOp) (fr : List AV) (hp : Heap) : Option (List AV × Heap) := match evOp C gl (dst.getD 0) x fr hp with
  | some (v, fr', hp') => some (fin1 dst fr' v, hp')
  | none => none
def gK {α : Type} (g : AV) (b : Bool) (go skip bad : α) : α := match g with
  | .bool c => if c = b then go else skip
  | .tup [] => skip
  | _ => bad
theorem gK_tup {α : Type} (b : Bool) (go skip bad : α) : gK (.tup []) b go skip bad = skip := rfl
theorem gK_ite {α : Type} (c : Prop) [Decidable c] (u v : AV) (b : Bool) (go skip bad : α) : gK (if c then u else v) b go skip bad = if c then gK u b go skip bad else gK v b go skip bad := by split <;> rfl
section
variable {C : CallT} {gl : Nat → List AV}
theorem evOps_nil (fr : List AV) (hp : Heap) : evOps C gl [] fr hp = some (fr, hp) := rfl
theorem evOps_cons (dst : Option Nat) (x : XOp) (rest : List XO) (fr : List AV) (hp : Heap) : evOps C gl (⟨dst, x, none⟩ :: rest) fr hp = opsK (evO1 C gl dst x fr hp) (evOps C gl rest) := by
  simp only [evOps, evO, evO1]
  cases evOp C gl (dst.getD 0) x fr hp <;> rfl
theorem evOps_guard (dst : Option Nat) (x : XOp) (t : Nat) (b : Bool) (rest : List XO) (fr : List AV) (hp : Heap) :
    evOps C gl (⟨dst, x, some (t, b)⟩ :: rest) fr hp = opsK (gK (fget fr t) b (evO1 C gl dst x fr hp) (some (fin1 dst fr (.tup []), hp)) none) (evOps C gl rest) := by
  have : evO C gl ⟨dst, x, some (t, b)⟩ fr hp = gK (fget fr t) b (evO1 C gl dst x fr hp) (some (fin1 dst fr (.tup []), hp)) none := by
    unfold evO evO1
    simp only
    generalize fget fr t = g
    cases g with
    | tup l => cases l <;> rfl
    | _ => rfl
  simp only [evOps, this]
  generalize gK (fget fr t) b (evO1 C gl dst x fr hp) (some (fin1 dst fr (.tup []), hp)) none = r
  cases r <;> rfl
theorem some_ite (c : Prop) [Decidable c] (fr : List AV) (d : Nat) (v w : AV) (hp : Heap) : (if c then some (fput fr d v, hp) else some (fput fr d w, hp)) = some (fput fr d (if c then v else w), hp) := by split <;> rfl
theorem some_ite_n (c : Prop) [Decidable c] (fr fr' : List AV) (hp hp' : Heap) : (if c then some (XExit.normal, St.mk fr hp) else some (XExit.normal, St.mk fr' hp')) = some (XExit.normal, St.mk (if c then fr else fr') (if c then hp else hp')) := by split <;> rfl

/-! ### values -/
theorem int_ite (c : Prop) [Decidable c] (k : IntKind) (a b : Int) : (if c then AV.int k a else AV.int k b) = AV.int k (if c then a else b) := by split <;> rfl
theorem bool_ite (c : Prop) [Decidable c] (a b : Bool) : (if c then AV.bool a else AV.bool b) = AV.bool (if c then a else b) := by split <;> rfl
theorem str_ite (c : Prop) [Decidable c] (a b : List UInt8) : (if c then AV.str a else AV.str b) = AV.str (if c then a else b) := by split <;> rfl
theorem agg_ite (c : Prop) [Decidable c] (a b : List AV) : (if c then AV.agg a else AV.agg b) = AV.agg (if c then a else b) := by split <;> rfl
theorem cons_ite (c : Prop) [Decidable c] (x y : AV) (a b : List AV) : (if c then x :: a else y :: b) = (if c then x else y) :: (if c then a else b) := by split <;> rfl
theorem somel_ite (c : Prop) [Decidable c] (a b : List AV) : (if c then some a else some b) = some (if c then a else b) := by split <;> rfl
theorem bite_f (c : Prop) [Decidable c] (a : Bool) : (if c then a else false) = (decide c && a) := by by_cases h : c <;> simp [h]
theorem bite_t (c : Prop) [Decidable c] (a : Bool) : (if c then true else a) = (decide c || a) := by by_cases h : c <;> simp [h]
/-! ### operations -/
theorem o_mov (d : Nat) (a : XArg) (fr : List AV) (hp : Heap) : evO1 C gl (some d) (.mov a) fr hp = some (fput fr d (earg fr a), hp) := rfl
theorem earg_tmp (fr : List AV) (t : Nat) : earg fr (.tmp t) = uf (fget fr t) := rfl
theorem earg_cst (fr : List AV) (v : AV) : earg fr (.cst v) = v := rfl
theorem rawArg_tmp (fr : List AV) (t : Nat) : rawArg fr (.tmp t) = fget fr t := rfl
theorem rawArg_cst (fr : List AV) (v : AV) : rawArg fr (.cst v) = v := rfl
def drop1K (v : AV) (fr : List AV) (t : Nat) : List AV := match v with
  | .lst .own z es => fput fr t (.lst .none z es)
  | .lst .uniq _ _ => fput fr t .undef
  | _ => fr
theorem drop1_tmp (fr : List AV) (t : Nat) : drop1 fr (.tmp t) = drop1K (fget fr t) fr t := rfl
theorem drop1_cst (fr : List AV) (v : AV) : drop1 fr (.cst v) = fr := rfl
theorem drop1K_ite (c : Prop) [Decidable c] (a b : AV) (fr : List AV) (t : Nat) : drop1K (if c then a else b) fr t = if c then drop1K a fr t else drop1K b fr t := by split <;> rfl
theorem drop1K_int (k : IntKind) (n : Int) (fr : List AV) (t : Nat) : drop1K (.int k n) fr t = fr := rfl
theorem drop1K_bool (n : Bool) (fr : List AV) (t : Nat) : drop1K (.bool n) fr t = fr := rfl
theorem drop1K_str (n : List UInt8) (fr : List AV) (t : Nat) : drop1K (.str n) fr t = fr := rfl
theorem drop1K_agg (n : List AV) (fr : List AV) (t : Nat) : drop1K (.agg n) fr t = fr := rfl
theorem drop1K_tup (n : List AV) (fr : List AV) (t : Nat) : drop1K (.tup n) fr t = fr := rfl
theorem drop1K_nilsl (fr : List AV) (t : Nat) : drop1K .nilsl fr t = fr := rfl
theorem drop1K_ptr (r : Ref) (off : Nat) (fr : List AV) (t : Nat) : drop1K (.ptr r off) fr t = fr := rfl
theorem drop1K_elp (cs : List AV) (fr : List AV) (t : Nat) : drop1K (.elp cs) fr t = fr := rfl
theorem drop1K_own (z : Nat) (es : List (List AV)) (fr : List AV) (t : Nat) : drop1K (.lst .own z es) fr t = fput fr t (.lst .none z es) := rfl
theorem drop1K_uniq (z : Nat) (es : List (List AV)) (fr : List AV) (t : Nat) : drop1K (.lst .uniq z es) fr t = fput fr t .undef := rfl
theorem drop1K_none (z : Nat) (es : List (List AV)) (fr : List AV) (t : Nat) : drop1K (.lst .none z es) fr t = fr := rfl
theorem drop1K_tight (z : Nat) (es : List (List AV)) (fr : List AV) (t : Nat) : drop1K (.lst .tight z es) fr t = fr := rfl
theorem o_own (d s : Nat) (fr : List AV) (hp : Heap) : evO1 C gl (some d) (.own s) fr hp = some (fput (drop1K (fget fr s) fr s) d (fget fr s), hp) := rfl
def vK (r : Option AV) (k : AV → Option (List AV × Heap)) : Option (List AV × Heap) := match r with | some v => k v | none => none
theorem vK_some (v : AV) (k : AV → Option (List AV × Heap)) : vK (some v) k = k v := rfl
theorem vK_none (k : AV → Option (List AV × Heap)) : vK none k = none := rfl
theorem vK_ite (c : Prop) [Decidable c] (a b : Option AV) (k : AV → Option (List AV × Heap)) : vK (if c then a else b) k = if c then vK a k else vK b k := by split <;> rfl
def pickK (c a b : AV) : Option AV := match c with | .bool true => some a | .bool false => some b | _ => none
theorem pickK_bool (e : Bool) (a b : AV) : pickK (.bool e) a b = some (if e = true then a else b) := by cases e <;> rfl
theorem o_pick (d : Nat) (c a b : XArg) (fr : List AV) (hp : Heap) : evO1 C gl (some d) (.pick c a b) fr hp = vK (pickK (earg fr c) (earg fr a) (earg fr b)) (fun v => some (fput fr d v, hp)) := by
  simp only [evO1, evOp, pickK]
  generalize earg fr c = u
  cases u <;> try rfl
  rename_i l
  cases l <;> rfl
theorem o_alloc (d : Nat) (zero : List AV) (fr : List AV) (l : Level) (h : Heap) : evO1 C gl (some d) (.alloc zero) fr (l :: h) = some (fput fr d (.ptr ⟨h.length, d, nextVer l d⟩ 0), lputc l d (nextVer l d) zero :: h) := rfl
theorem o_box (d : Nat) (a : XArg) (n : Nat) (fr : List AV) (l : Level) (h : Heap) : evO1 C gl (some d) (.box a n) fr (l :: h) =
    if (cellsOf (earg fr a)).length = n ∧ (cellsOf (earg fr a)).all plain1 = true then some (fput fr d (.ptr ⟨h.length, d, nextVer l d⟩ 0), lputc l d (nextVer l d) (cellsOf (earg fr a)) :: h) else none := by
  simp only [evO1, evOp, mkBlk, Option.getD]
  by_cases hc : (cellsOf (earg fr a)).length = n ∧ (cellsOf (earg fr a)).all plain1 = true
  · rw [if_pos hc, if_pos hc]
    rfl
  · rw [if_neg hc, if_neg hc]
theorem cellsOf_agg (cs : List AV) : cellsOf (.agg cs) = cs.map uf := rfl
theorem cellsOf_int (k : IntKind) (n : Int) : cellsOf (.int k n) = [.int k n] := rfl
theorem cellsOf_bool (n : Bool) : cellsOf (.bool n) = [.bool n] := rfl
theorem cellsOf_str (n : List UInt8) : cellsOf (.str n) = [.str n] := rfl
def buildK (r : Option (List AV)) (k : AV → Option (List AV × Heap)) : Option (List AV × Heap) := match r with | some cs => k (.agg cs) | none => none
theorem buildK_some (cs : List AV) (k : AV → Option (List AV × Heap)) : buildK (some cs) k = k (.agg cs) := rfl
theorem o_build (d : Nat) (zero : List AV) (parts : List (Nat × Nat × XArg)) (fr : List AV) (hp : Heap) : evO1 C gl (some d) (.build zero parts) fr hp = buildK (fillX fr parts zero) (fun v => some (fput fr d v, hp)) := by
  simp only [evO1, evOp]
  cases fillX fr parts zero <;> rfl
theorem fillX_nil (fr cs : List AV) : fillX fr [] cs = some cs := rfl
theorem fillX_cons (fr : List AV) (off n : Nat) (x : XArg) (rest : List (Nat × Nat × XArg)) (cs : List AV) : fillX fr ((off, n, x) :: rest) cs =
    if (cellsOf (earg fr x)).length = n ∧ off + n ≤ cs.length ∧ solid (earg fr x) = true then fillX fr rest (splice cs off (cellsOf (earg fr x))) else none := rfl
theorem o_load (d : Nat) (a : XArg) (n : Nat) (agg : Bool) (fr : List AV) (hp : Heap) : evO1 C gl (some d) (.load a n agg) fr hp = vK (ldAt gl hp (earg fr a) n agg) (fun v => some (fput fr d v, hp)) := by
  simp only [evO1, evOp]
  cases ldAt gl hp (earg fr a) n agg <;> rfl
def hK (r : Option Heap) (k : Heap → Option (List AV × Heap)) : Option (List AV × Heap) := match r with | some v => k v | none => none
theorem hK_some (v : Heap) (k : Heap → Option (List AV × Heap)) : hK (some v) k = k v := rfl
theorem hK_none (k : Heap → Option (List AV × Heap)) : hK none k = none := rfl
theorem o_store (a x : XArg) (n : Nat) (fr : List AV) (hp : Heap) : evO1 C gl none (.store a x n) fr hp =
    if (cellsOf (rawArg fr x)).length = n ∧ (cellsOf (rawArg fr x)).all plain1 = true then hK (stAt hp (earg fr a) (cellsOf (rawArg fr x))) (fun hp' => some (drop1 fr x, hp')) else none := by
  simp only [evO1, evOp]
  by_cases hc : (cellsOf (rawArg fr x)).length = n ∧ (cellsOf (rawArg fr x)).all plain1 = true
  · rw [if_pos hc, if_pos hc]
    cases stAt hp (earg fr a) (cellsOf (rawArg fr x)) <;> rfl
  · rw [if_neg hc, if_neg hc]
theorem o_bin (d : Nat) (b : XBin) (a c : XArg) (fr : List AV) (hp : Heap) : evO1 C gl (some d) (.bin b a c) fr hp = vK (binX b (earg fr a) (earg fr c)) (fun v => some (fput fr d v, hp)) := by
  simp only [evO1, evOp]
  cases binX b (earg fr a) (earg fr c) <;> rfl
theorem binX_int (b : XBin) (k : IntKind) (x y : Int) : binX b (.int k x) (.int k y) = ints k b x y := by simp [binX]
theorem binX_str (b : XBin) (x y : List UInt8) : binX b (.str x) (.str y) = strs b x y := rfl
theorem binX_shl (k j : IntKind) (x y : Int) : binX .shl (.int k x) (.int j y) = ints k .shl x y := by simp [binX]
theorem binX_shr (k j : IntKind) (x y : Int) : binX .shr (.int k x) (.int j y) = ints k .shr x y := by simp [binX]
def boolK (a c : AV) (f : Bool → Bool → AV) : Option AV := match a, c with | .bool x, .bool y => some (f x y) | _, _ => none
theorem boolK_bool (x y : Bool) (f : Bool → Bool → AV) : boolK (.bool x) (.bool y) f = some (f x y) := rfl
theorem o_beq (d : Nat) (n : Bool) (a c : XArg) (fr : List AV) (hp : Heap) : evO1 C gl (some d) (.beq n a c) fr hp = vK (boolK (earg fr a) (earg fr c) fun x y => .bool ((x == y) != n)) (fun v => some (fput fr d v, hp)) := by
  simp only [evO1, evOp, boolK]
  generalize earg fr a = u
  generalize earg fr c = v
  cases u <;> try rfl
  all_goals cases v <;> try rfl
def eqifK (n : Bool) : Option Bool → Option AV
  | some r => some (.bool (r != n))
  | none => none
theorem eqifK_some (n r : Bool) : eqifK n (some r) = some (.bool (r != n)) := rfl
theorem eqIfV_nr (ts : List Nat) (t : Nat) (v : AV) : eqIfV ts .nilif (.ifc t v) = some false := rfl
theorem eqIfV_nl (ts : List Nat) (t : Nat) (v : AV) : eqIfV ts (.ifc t v) .nilif = some false := rfl
theorem eqIfV_if (ts : List Nat) (t t' : Nat) (k k' : IntKind) (a b : Int) : eqIfV ts (.ifc t (.int k a)) (.ifc t' (.int k' b)) =
    if t = t' then (if ts.contains t = true then (if k = k' then some (a == b) else none) else none) else some false := rfl
theorem o_eqif (d : Nat) (n : Bool) (ts : List Nat) (a c : XArg) (fr : List AV) (hp : Heap) : evO1 C gl (some d) (.eqif n ts a c) fr hp = vK (eqifK n (eqIfV ts (earg fr a) (earg fr c))) (fun v => some (fput fr d v, hp)) := by
  simp only [evO1, evOp]
  cases eqIfV ts (earg fr a) (earg fr c) <;> rfl
def eqaK (n : Bool) (sh : List Nat) (a c : AV) : Option AV := match a, c with
  | .agg l, .agg m => match eqCells sh l m with | some r => some (.bool (r != n)) | none => none
  | _, _ => none
theorem eqaK_agg (n : Bool) (sh : List Nat) (l m : List AV) : eqaK n sh (.agg l) (.agg m) = match eqCells sh l m with | some r => some (.bool (r != n)) | none => none := rfl
theorem o_eqagg (d : Nat) (n : Bool) (sh : List Nat) (a c : XArg) (fr : List AV) (hp : Heap) : evO1 C gl (some d) (.eqagg n sh a c) fr hp = vK (eqaK n sh (earg fr a) (earg fr c)) (fun v => some (fput fr d v, hp)) := by
  simp only [evO1, evOp, eqaK]
  generalize earg fr a = u
  generalize earg fr c = v
  cases u <;> try rfl
  all_goals cases v <;> try rfl
  rename_i l m
  simp only
  cases eqCells sh l m <;> rfl
theorem eqCells_nil : eqCells [] [] [] = some true := rfl
theorem eqCells_int (s : List Nat) (k : IntKind) (x y : Int) (l m : List AV) : eqCells (1 :: s) (.int k x :: l) (.int k y :: m) = (eqCells s l m).map fun r => (x == y) && r := by simp [eqCells]
theorem eqCells_bool (s : List Nat) (x y : Bool) (l m : List AV) : eqCells (0 :: s) (.bool x :: l) (.bool y :: m) = (eqCells s l m).map fun r => (x == y) && r := by simp [eqCells]
theorem eqCells_str (s : List Nat) (x y : List UInt8) (l m : List AV) : eqCells (2 :: s) (.str x :: l) (.str y :: m) = (eqCells s l m).map fun r => (x == y) && r := by simp [eqCells]
def intK (a : AV) (f : IntKind → Int → Option AV) : Option AV := match a with | .int k n => f k n | _ => none
theorem intK_int (k : IntKind) (n : Int) (f : IntKind → Int → Option AV) : intK (.int k n) f = f k n := rfl
theorem o_neg (d : Nat) (a : XArg) (fr : List AV) (hp : Heap) : evO1 C gl (some d) (.neg a) fr hp = vK (intK (earg fr a) fun k n => some (.int k (wr k (0 - n)))) (fun v => some (fput fr d v, hp)) := by
  simp only [evO1, evOp, intK]
  generalize earg fr a = u
  cases u <;> rfl
theorem o_conv (d : Nat) (j : IntKind) (a : XArg) (fr : List AV) (hp : Heap) : evO1 C gl (some d) (.conv j a) fr hp = vK (intK (earg fr a) fun _ n => some (.int j (wr j n))) (fun v => some (fput fr d v, hp)) := by
  simp only [evO1, evOp, intK]
  generalize earg fr a = u
  cases u <;> rfl
def notK (a : AV) : Option AV := match a with | .bool b => some (.bool !b) | _ => none
theorem notK_bool (b : Bool) : notK (.bool b) = some (.bool !b) := rfl
theorem o_not (d : Nat) (a : XArg) (fr : List AV) (hp : Heap) : evO1 C gl (some d) (.not a) fr hp = vK (notK (earg fr a)) (fun v => some (fput fr d v, hp)) := by
  simp only [evO1, evOp, notK]
  generalize earg fr a = u
  cases u <;> rfl
def faddrK (a : AV) (k : Nat) : Option AV := match a with
  | .ptr r off => some (.ptr r (off + k))
  | .elp cs => if k ≤ cs.length then some (.elp (cs.drop k)) else none
  | _ => none
theorem faddrK_ptr (r : Ref) (off k : Nat) : faddrK (.ptr r off) k = some (.ptr r (off + k)) := rfl
theorem faddrK_elp (cs : List AV) (k : Nat) : faddrK (.elp cs) k = if k ≤ cs.length then some (.elp (cs.drop k)) else none := rfl
theorem o_faddr (d : Nat) (a : XArg) (k : Nat) (fr : List AV) (hp : Heap) : evO1 C gl (some d) (.faddr a k) fr hp = vK (faddrK (earg fr a) k) (fun v => some (fput fr d v, hp)) := by
  simp only [evO1, evOp, faddrK]
  cases earg fr a <;> simp only [vK, fin1]
  rename_i cs
  by_cases h : k ≤ cs.length <;> simp [h, vK, fin1]
def fieldK (a : AV) (off n : Nat) (agg : Bool) : Option AV := match a with
  | .agg cs => if off + n ≤ cs.length then ldCells (cs.drop off) n agg else none
  | _ => none
theorem fieldK_agg (cs : List AV) (off n : Nat) (agg : Bool) : fieldK (.agg cs) off n agg = if off + n ≤ cs.length then ldCells (cs.drop off) n agg else none := rfl
def iarrK (n z : Nat) (a : AV) (i : Option Nat) : Option AV := match a, i with
  | .ptr r off, some k => if k < n then some (.ptr r (off + k * z)) else none
  | .elp cs, some k => if k < n ∧ k * z ≤ cs.length then some (.elp (cs.drop (k * z))) else none
  | _, _ => none
theorem iarrK_ptr (n z : Nat) (r : Ref) (off k : Nat) : iarrK n z (.ptr r off) (some k) = if k < n then some (.ptr r (off + k * z)) else none := rfl
def idxaK (n z : Nat) (agg : Bool) (a : AV) (i : Option Nat) : Option AV := match a, i with
  | .agg cs, some k => if k < n ∧ k * z + z ≤ cs.length then ldCells (cs.drop (k * z)) z agg else none
  | _, _ => none
theorem idxaK_agg (n z : Nat) (agg : Bool) (cs : List AV) (k : Nat) : idxaK n z agg (.agg cs) (some k) = if k < n ∧ k * z + z ≤ cs.length then ldCells (cs.drop (k * z)) z agg else none := rfl
theorem asNat_nat (k : IntKind) (n : Nat) : asNat (.int k (n : Int)) = some n := by simp [asNat]
theorem asNat_int (k : IntKind) (n : Int) : asNat (.int k n) = if 0 ≤ n then some n.toNat else none := rfl
def extK (v : AV) (i : Nat) : Option AV := match v with
  | .tup vs => match vs[i]? with | some v => some (uf v) | none => none
  | .lst .uniq z (cs :: _) => if 1000 ≤ z ∧ 1 ≤ i then (match cs[i - 1]? with | some v => some (uf v) | none => none) else none
  | _ => none
theorem extK_held (z : Nat) (cs : List AV) (es : List (List AV)) (i : Nat) : extK (.lst .uniq z (cs :: es)) i = if 1000 ≤ z ∧ 1 ≤ i then (match cs[i - 1]? with | some v => some (uf v) | none => none) else none := rfl
theorem extK_tup (vs : List AV) (i : Nat) : extK (.tup vs) i = match vs[i]? with | some v => some (uf v) | none => none := rfl
theorem extK_ite (c : Prop) [Decidable c] (a b : AV) (i : Nat) : extK (if c then a else b) i = if c then extK a i else extK b i := by split <;> rfl
theorem o_ext (d s i : Nat) (fr : List AV) (hp : Heap) : evO1 C gl (some d) (.ext s i) fr hp = vK (extK (fget fr s) i) (fun v => some (fput fr d v, hp)) := by
  simp only [evO1, evOp, extK]
  cases fget fr s with
  | tup cs =>
    simp only
    cases cs[i]? <;> rfl
  | lst ow z es =>
    cases ow with
    | uniq =>
      cases es with
      | nil => rfl
      | cons cs es =>
        simp only
        by_cases h : 1000 ≤ z ∧ 1 ≤ i
        · rw [if_pos h, if_pos h]
          cases cs[i - 1]? <;> rfl
        · rw [if_neg h, if_neg h]; rfl
    | _ => rfl
  | _ => rfl
def callK (r : Option (AV × Heap)) (k : AV → Heap → Option (List AV × Heap)) : Option (List AV × Heap) := match r with | some (v, h) => k v h | none => none
theorem callK_some (v : AV) (h : Heap) (k : AV → Heap → Option (List AV × Heap)) : callK (some (v, h)) k = k v h := rfl
theorem callK_none (k : AV → Heap → Option (List AV × Heap)) : callK none k = none := rfl
theorem callK_ite (c : Prop) [Decidable c] (a b : Option (AV × Heap)) (k : AV → Heap → Option (List AV × Heap)) : callK (if c then a else b) k = if c then callK a k else callK b k := by split <;> rfl
theorem o_callq (d f : Nat) (as : List XArg) (fr : List AV) (hp : Heap) : evO1 C gl (some d) (.callq f as) fr hp =
    if refFreeL (eargs fr as) = true then callK (C f (eargs fr as) []) (fun v _ => some (fput fr d v, hp)) else none := by
  simp only [evO1, evOp]
  by_cases hc : refFreeL (eargs fr as) = true
  · rw [if_pos hc, if_pos hc]
    cases C f (eargs fr as) [] <;> rfl
  · rw [if_neg hc, if_neg hc]
theorem o_prim (d id f : Nat) (as : List XArg) (fr : List AV) (hp : Heap) : evO1 C gl (some d) (.prim id f as) fr hp = vK (primX id (eargs fr as)) (fun v => some (fput fr d v, hp)) := by
  simp only [evO1, evOp]
  cases primX id (eargs fr as) <;> rfl
end
/-! ### code -/
theorem seqK_n (s : St) (k : St → Option (XExit × St)) : seqK (some (.normal, s)) k = k s := rfl
theorem seqK_r (s : St) (k : St → Option (XExit × St)) : seqK (some (.ret, s)) k = some (.ret, s) := rfl
theorem seqK_e (i : Nat) (s : St) (k : St → Option (XExit × St)) : seqK (some (.exit i, s)) k = some (.exit i, s) := rfl
theorem seqK_none (k : St → Option (XExit × St)) : seqK none k = none := rfl
theorem seqK_ite (c : Prop) [Decidable c] (a b : Option (XExit × St)) (k : St → Option (XExit × St)) : seqK (if c then a else b) k = if c then seqK a k else seqK b k := by split <;> rfl
theorem blockK_n (id : Nat) (s : St) : blockK id (some (.normal, s)) = some (.normal, s) := rfl
theorem blockK_r (id : Nat) (s : St) : blockK id (some (.ret, s)) = some (.ret, s) := rfl
theorem blockK_e (id i : Nat) (s : St) : blockK id (some (.exit i, s)) = if i = id then some (.normal, s) else some (.exit i, s) := rfl
theorem blockK_none (id : Nat) : blockK id none = none := rfl
theorem blockK_ite (c : Prop) [Decidable c] (id : Nat) (a b : Option (XExit × St)) : blockK id (if c then a else b) = if c then blockK id a else blockK id b := by split <;> rfl
theorem regK_none (aps : List (Nat × Nat)) : regK aps none = none := rfl
theorem regK_ite (c : Prop) [Decidable c] (aps : List (Nat × Nat)) (a b : Option (List AV × Heap)) : regK aps (if c then a else b) = if c then regK aps a else regK aps b := by split <;> rfl
theorem condK_bool (e : Bool) (a b : Option (XExit × St)) : condK (.bool e) a b = if e = true then a else b := by cases e <;> rfl
theorem condK_ite (c : Prop) [Decidable c] (u v : AV) (a b : Option (XExit × St)) : condK (if c then u else v) a b = if c then condK u a b else condK v a b := by split <;> rfl
theorem finK_r (rs : List XRes) (fr : List AV) (l : Level) (h : Heap) : finK rs (some (.ret, ⟨fr, l :: h⟩)) = match evResL ⟨fr, l :: h⟩ rs with
    | some vs => match retOf (l :: h) h.length vs with | some v => some (v, h) | none => none
    | none => none := rfl
theorem finK_n (rs : List XRes) (fr : List AV) (l : Level) (h : Heap) : finK rs (some (.normal, ⟨fr, l :: h⟩)) = match evResL ⟨fr, l :: h⟩ rs with
    | some vs => match retOf (l :: h) h.length vs with | some v => some (v, h) | none => none
    | none => none := rfl
theorem finK_none (rs : List XRes) : finK rs none = none := rfl
theorem finK_ite (c : Prop) [Decidable c] (rs : List XRes) (a b : Option (XExit × St)) : finK rs (if c then a else b) = if c then finK rs a else finK rs b := by split <;> rfl
theorem evRes_tmp (s : St) (t : Nat) : evRes s (.tmp t) = some (fget s.fr t) := rfl
def ecellK (hp : Heap) (v : AV) (n : Nat) (agg : Bool) : Option AV := match v with
  | .ptr r off => match cellsAt hp r with | some vs => ldCells (vs.drop off) n agg | none => none
  | _ => none
theorem evRes_cell (s : St) (t n : Nat) (agg : Bool) : evRes s (.cell t n agg) = ecellK s.hp (fget s.fr t) n agg := by
  unfold evRes ecellK
  rfl
theorem ecellK_top (l : Level) (h : Heap) (s v off n : Nat) (agg : Bool) : ecellK (l :: h) (.ptr ⟨h.length, s, v⟩ off) n agg = ldK n agg off (lcells l s v) := by
  simp only [ecellK, cellsAt_top]
  cases lcells l s v <;> rfl
end Go.Proofs.YtjbgceogkgpjpaaGreatDoor.Sx
namespace Go.Proofs.YtjbgceogkgpjpaaGreatDoor.Sx
theorem uf_int (k : IntKind) (n : Int) : uf (.int k n) = .int k n := rfl
theorem uf_bool (b : Bool) : uf (.bool b) = .bool b := rfl
theorem uf_str (s : List UInt8) : uf (.str s) = .str s := rfl
theorem uf_agg (s : List AV) : uf (.agg s) = .agg s := rfl
theorem uf_tup (s : List AV) : uf (.tup s) = .tup s := rfl
theorem uf_ptr (r : Ref) (o : Nat) : uf (.ptr r o) = .ptr r o := rfl
theorem uf_elp (s : List AV) : uf (.elp s) = .elp s := rfl
theorem uf_nilsl : uf .nilsl = .nilsl := rfl
theorem uf_nilptr : uf .nilptr = .nilptr := rfl
theorem uf_none (z : Nat) (es : List (List AV)) : uf (.lst .none z es) = .lst .none z es := rfl
theorem uf_tight (z : Nat) (es : List (List AV)) : uf (.lst .tight z es) = .lst .tight z es := rfl
theorem uf_own (z : Nat) (es : List (List AV)) : uf (.lst .own z es) = .lst .none z es := rfl
theorem uf_uniq (z : Nat) (es : List (List AV)) : uf (.lst .uniq z es) = .undef := rfl
theorem uf_undef : uf .undef = .undef := rfl
theorem plain1_int (k : IntKind) (n : Int) : plain1 (.int k n) = true := rfl
theorem plain1_bool (b : Bool) : plain1 (.bool b) = true := rfl
theorem plain1_str (s : List UInt8) : plain1 (.str s) = true := rfl
theorem plain1_ptr (r : Ref) (o : Nat) : plain1 (.ptr r o) = true := rfl
theorem plain1_nilsl : plain1 .nilsl = true := rfl
theorem plain1_none (z : Nat) (es : List (List AV)) : plain1 (.lst .none z es) = true := rfl
theorem plain1_own (z : Nat) (es : List (List AV)) : plain1 (.lst .own z es) = true := rfl
theorem plain1_tight (z : Nat) (es : List (List AV)) : plain1 (.lst .tight z es) = true := rfl
theorem solid_agg (s : List AV) : solid (.agg s) = true := rfl
theorem solid_int (k : IntKind) (n : Int) : solid (.int k n) = true := rfl
theorem solid_bool (b : Bool) : solid (.bool b) = true := rfl
theorem solid_str (s : List UInt8) : solid (.str s) = true := rfl
theorem solid_nilsl : solid .nilsl = true := rfl
theorem solid_none (z : Nat) (es : List (List AV)) : solid (.lst .none z es) = true := rfl
theorem solid_own (z : Nat) (es : List (List AV)) : solid (.lst .own z es) = true := rfl
theorem solid_tight (z : Nat) (es : List (List AV)) : solid (.lst .tight z es) = true := rfl
theorem refFreeL_nil : refFreeL [] = true := by simp [refFreeL]
theorem refFreeL_cons (v : AV) (l : List AV) : refFreeL (v :: l) = (refFree v && refFreeL l) := by simp [refFreeL]
theorem refFree_int (k : IntKind) (n : Int) : refFree (.int k n) = true := by simp [refFree]
theorem refFree_bool (b : Bool) : refFree (.bool b) = true := by simp [refFree]
theorem refFree_str (s : List UInt8) : refFree (.str s) = true := by simp [refFree]
theorem refFree_agg (s : List AV) : refFree (.agg s) = refFreeL s := by simp [refFree]
theorem refFree_lst (o : Own) (z : Nat) (es : List (List AV)) : refFree (.lst o z es) = true := by simp [refFree]
theorem refFree_nilsl : refFree .nilsl = true := by simp [refFree]
theorem refFree_elp (cs : List AV) : refFree (.elp cs) = true := by simp [refFree]
theorem shut_int (hp : Heap) (lev n : Nat) (k : IntKind) (x : Int) : shut hp lev (n + 1) (.int k x) = some (.int k x) := rfl
theorem shut_bool (hp : Heap) (lev n : Nat) (x : Bool) : shut hp lev (n + 1) (.bool x) = some (.bool x) := rfl
theorem shut_str (hp : Heap) (lev n : Nat) (x : List UInt8) : shut hp lev (n + 1) (.str x) = some (.str x) := rfl
theorem shut_nilsl (hp : Heap) (lev n : Nat) : shut hp lev (n + 1) .nilsl = some .nilsl := rfl
theorem shut_none (hp : Heap) (lev n z : Nat) (es : List (List AV)) : shut hp lev (n + 1) (.lst .none z es) = some (.lst .none z es) := rfl
theorem shut_own (hp : Heap) (lev n z : Nat) (es : List (List AV)) : shut hp lev (n + 1) (.lst .own z es) = some (.lst .none z es) := rfl
theorem shut_tight (hp : Heap) (lev n z : Nat) (es : List (List AV)) : shut hp lev (n + 1) (.lst .tight z es) = some (.lst .tight z es) := rfl
theorem shut_agg (hp : Heap) (lev n : Nat) (cs : List AV) : shut hp lev (n + 1) (.agg cs) = (mapO (shut hp lev n) cs).map .agg := rfl
theorem mapO_nil (f : AV → Option AV) : mapO f [] = some [] := rfl
theorem mapO_cons (f : AV → Option AV) (v : AV) (l : List AV) : mapO f (v :: l) = match f v with
    | some v' => match mapO f l with | some l' => some (v' :: l') | none => none
    | none => none := rfl
theorem retOf_int (hp : Heap) (lev : Nat) (k : IntKind) (x : Int) : retOf hp lev [.int k x] = some (.int k x) := rfl
theorem retOf_bool (hp : Heap) (lev : Nat) (x : Bool) : retOf hp lev [.bool x] = some (.bool x) := rfl
theorem retOf_str (hp : Heap) (lev : Nat) (x : List UInt8) : retOf hp lev [.str x] = some (.str x) := rfl
theorem retOf_agg (hp : Heap) (lev : Nat) (x : List AV) : retOf hp lev [.agg x] = shut hp lev (5 + 1) (.agg x) := rfl
theorem retOf_nilsl (hp : Heap) (lev : Nat) : retOf hp lev [.nilsl] = some .nilsl := rfl
theorem retOf_lst (hp : Heap) (lev : Nat) (o : Own) (z : Nat) (es : List (List AV)) : retOf hp lev [.lst o z es] = some (.lst o z es) := rfl
def isU : AV → Bool
  | .lst .uniq _ _ => true
  | _ => false
theorem isU_int (k : IntKind) (x : Int) : isU (.int k x) = false := rfl
theorem isU_bool (b : Bool) : isU (.bool b) = false := rfl
theorem isU_str (s : List UInt8) : isU (.str s) = false := rfl
theorem isU_agg (l : List AV) : isU (.agg l) = false := rfl
theorem isU_tup (l : List AV) : isU (.tup l) = false := rfl
theorem isU_nilsl  : isU (.nilsl) = false := rfl
theorem isU_nilif  : isU (.nilif) = false := rfl
theorem isU_nilptr  : isU (.nilptr) = false := rfl
theorem isU_nilfn  : isU (.nilfn) = false := rfl
theorem isU_undef  : isU (.undef) = false := rfl
theorem isU_elp (l : List AV) : isU (.elp l) = false := rfl
theorem isU_ifc (n : Nat) (v : AV) : isU (.ifc n v) = false := rfl
theorem isU_fn (f : Nat) (a b : List AV) : isU (.fn f a b) = false := rfl
theorem isU_ptr (r : Ref) (n : Nat) : isU (.ptr r n) = false := rfl
theorem isU_sl (r : Ref) (a b c : Nat) : isU (.sl r a b c) = false := rfl
theorem isU_none (z : Nat) (es : List (List AV)) : isU (.lst .none z es) = false := rfl
theorem isU_own (z : Nat) (es : List (List AV)) : isU (.lst .own z es) = false := rfl
theorem isU_tight (z : Nat) (es : List (List AV)) : isU (.lst .tight z es) = false := rfl
theorem isU_uniq (z : Nat) (es : List (List AV)) : isU (.lst .uniq z es) = true := rfl
def heldR (hp : Heap) (lev : Nat) (u : AV) (us : List AV) : Option AV := match u with
  | .lst .uniq z es => if z < 1000 then match mapO (shut hp lev (5 + 1)) us with
    | some cs => if refFreeL cs = true then some (.lst .uniq (z + 1000) (cs :: es)) else none
    | none => none else none
  | _ => none
theorem heldR_uniq (hp : Heap) (lev z : Nat) (es : List (List AV)) (us : List AV) : heldR hp lev (.lst .uniq z es) us = if z < 1000 then match mapO (shut hp lev (5 + 1)) us with
    | some cs => if refFreeL cs = true then some (.lst .uniq (z + 1000) (cs :: es)) else none
    | none => none else none := rfl
theorem retOf_two (hp : Heap) (lev : Nat) (u v : AV) (l : List AV) : retOf hp lev (u :: v :: l) = if isU u = true then heldR hp lev u (v :: l) else (mapO (shut hp lev (5 + 1)) (u :: v :: l)).map .tup := by
  cases u <;> (try rfl)
  rename_i o z es
  cases o <;> rfl
theorem splice_nil (l : List AV) (n : Nat) : splice l n [] = l := by cases l <;> cases n <;> rfl
theorem splice_zero (x v : AV) (l vs : List AV) : splice (x :: l) 0 (v :: vs) = v :: splice l 0 vs := rfl
theorem splice_succ (x v : AV) (l vs : List AV) (n : Nat) : splice (x :: l) (n + 1) (v :: vs) = x :: splice l n (v :: vs) := rfl
theorem apsOk_nil (fr : List AV) : apsOk fr [] = true := rfl
theorem evResL_nil (s : St) : evResL s [] = some [] := rfl
theorem evResL_cons (s : St) (r : XRes) (l : List XRes) : evResL s (r :: l) = match evRes s r with
    | some v => match evResL s l with | some l' => some (v :: l') | none => none
    | none => none := rfl
theorem eargs_nil (fr : List AV) : eargs fr [] = [] := rfl
theorem eargs_cons (fr : List AV) (a : XArg) (l : List XArg) : eargs fr (a :: l) = earg fr a :: eargs fr l := rfl
def u64 (n : Int) : Nat := (n % 18446744073709551616).toNat
theorem wr_u64_n (n : Int) : wr .u64 n = (u64 n : Int) := by simp only [wr, u64]; omega
theorem u64_nat (n : Nat) : u64 (n : Int) = n % 18446744073709551616 := by simp only [u64]; omega
theorem u64_add (a b : Nat) : u64 ((a : Int) + b) = (a + b) % 18446744073709551616 := by simp only [u64]; omega
theorem u64_mul (a b : Nat) : u64 ((a : Int) * b) = (a * b) % 18446744073709551616 := by
  rw [← Int.natCast_mul, u64_nat]
theorem tmod_nat (a b : Nat) : (a : Int).tmod b = ((a % b : Nat) : Int) := (Int.ofNat_tmod a b).symm
theorem wr_i64 (n : Int) (h : -9223372036854775808 ≤ n ∧ n < 9223372036854775808) : wr .i64 n = n := by
  simp only [wr]
  split <;> omega
theorem tmod_lit (n k : Nat) : (n : Int).tmod (no_index (OfNat.ofNat k) : Int) = ((n % (OfNat.ofNat k : Nat) : Nat) : Int) := (Int.ofNat_tmod n k).symm
theorem u64_add_lit (n k : Nat) : u64 ((n : Int) + (no_index (OfNat.ofNat k) : Int)) = (n + (OfNat.ofNat k : Nat)) % 18446744073709551616 := u64_add n k
theorem u64_lit_sub (n k : Nat) : u64 ((no_index (OfNat.ofNat k) : Int) - (n : Int)) = u64 (((OfNat.ofNat k : Nat) : Int) - (n : Int)) := rfl
theorem tdiv_lit (n k : Nat) : (n : Int).tdiv (no_index (OfNat.ofNat k) : Int) = ((n / (OfNat.ofNat k : Nat) : Nat) : Int) := (Int.ofNat_tdiv n k).symm
theorem tdiv_nat (a b : Nat) : (a : Int).tdiv b = ((a / b : Nat) : Int) := (Int.ofNat_tdiv a b).symm
theorem nat_lt_zero (n : Nat) : ((n : Int) < 0) = False := by simp
theorem wr_i64_nat (n : Nat) (h : n < 9223372036854775808) : wr .i64 (n : Int) = (n : Int) := wr_i64 _ (by omega)
theorem fdiv_pow (d s : Nat) : (d : Int).fdiv (2 ^ s) = ((d / 2 ^ s : Nat) : Int) := by
  rw [Int.fdiv_eq_ediv_of_nonneg _ (Int.le_of_lt (Int.pow_pos (by omega)))]
  rw [show (2 : Int) ^ s = ((2 ^ s : Nat) : Int) by simp]
  rfl
theorem regK_some (aps : List (Nat × Nat)) (fr : List AV) (hp : Heap) : regK aps (some (fr, hp)) = if apsOk fr aps = true then some (.normal, ⟨fr, hp⟩) else none := rfl
theorem apsOk_cons (fr : List AV) (a b : Nat) (l : List (Nat × Nat)) : apsOk fr ((a, b) :: l) = (apartV (fget fr a) (fget fr b) && apsOk fr l) := rfl
theorem apartV_ptr (r q : Ref) (o p : Nat) : apartV (.ptr r o) (.ptr q p) = !(decide (r = q)) := rfl
theorem elimL {s : Option (XExit × St)} {O : Option (XExit × St) → Prop} (K : Option (XExit × St) → Prop) (h : O s) (hk : ∀ r, O r → K r) : K s := hk s h
theorem u64_mul_lit (n k : Nat) : u64 ((n : Int) * (no_index (OfNat.ofNat k) : Int)) = (n * (OfNat.ofNat k : Nat)) % 18446744073709551616 := u64_mul n k
theorem neg_back (p : Nat) (h : p ≤ 9223372036854775808) : wr .i64 (wr .i64 (-wr .i64 (u64 ((p : Int) - 1) : Int)) - 1) = -(p : Int) := by
  by_cases h0 : p = 0
  · subst h0; rfl
  · have e : (u64 ((p : Int) - 1) : Int) = (p : Int) - 1 := by simp only [u64]; omega
    rw [e, wr_i64 ((p : Int) - 1) (by omega), wr_i64 (-((p : Int) - 1)) (by omega), wr_i64 _ (by omega)]
    omega
theorem gK_true {α : Type} (e : Bool) (go skip bad : α) : gK (.bool e) true go skip bad = if e = true then go else skip := rfl
theorem gK_false {α : Type} (e : Bool) (go skip bad : α) : gK (.bool e) false go skip bad = if e = true then skip else go := by cases e <;> rfl
theorem not_b (b : Bool) : ((!b) = true) = ¬(b = true) := by cases b <;> simp
theorem eq_false_b (b : Bool) : (b = false) = ¬(b = true) := by cases b <;> simp
theorem bite_f' (c : Prop) [Decidable c] (a : Bool) : (if c then false else a) = (!decide c && a) := by by_cases h : c <;> simp [h]
theorem bite_t' (c : Prop) [Decidable c] (a : Bool) : (if c then a else true) = (!decide c || a) := by by_cases h : c <;> simp [h]
theorem ints_add (k : IntKind) (x y : Int) : ints k .add x y = some (.int k (wr k (x + y))) := rfl
theorem ints_sub (k : IntKind) (x y : Int) : ints k .sub x y = some (.int k (wr k (x - y))) := rfl
theorem ints_mul (k : IntKind) (x y : Int) : ints k .mul x y = some (.int k (wr k (x * y))) := rfl
theorem ints_quo (k : IntKind) (x y : Int) : ints k .quo x y = if y = 0 then none else some (.int k (wr k (x.tdiv y))) := rfl
theorem ints_rem (k : IntKind) (x y : Int) : ints k .rem x y = if y = 0 then none else some (.int k (x.tmod y)) := rfl
theorem ints_shl (k : IntKind) (x y : Int) : ints k .shl x y = if y < 0 then none else some (.int k (wr k (x * 2 ^ (min y.toNat (bitsOf k))))) := rfl
theorem ints_shr (k : IntKind) (x y : Int) : ints k .shr x y = if y < 0 then none else some (.int k (x.fdiv (2 ^ (min y.toNat (bitsOf k))))) := rfl
theorem ints_eql (k : IntKind) (x y : Int) : ints k .eql x y = some (.bool (x == y)) := rfl
theorem ints_neq (k : IntKind) (x y : Int) : ints k .neq x y = some (.bool (x != y)) := rfl
theorem ints_lss (k : IntKind) (x y : Int) : ints k .lss x y = some (.bool (x < y)) := rfl
theorem ints_leq (k : IntKind) (x y : Int) : ints k .leq x y = some (.bool (x ≤ y)) := rfl
theorem ints_gtr (k : IntKind) (x y : Int) : ints k .gtr x y = some (.bool (x > y)) := rfl
theorem ints_geq (k : IntKind) (x y : Int) : ints k .geq x y = some (.bool (x ≥ y)) := rfl
theorem bits_64 : bitsOf .u64 = 64 := rfl
theorem bits_8 : bitsOf .u8 = 8 := rfl
theorem bv_nat (a : Nat) : (BitVec.ofInt 64 (a : Int)).toNat = a % 2 ^ 64 := by
  simp only [BitVec.toNat_ofInt]
  omega
theorem ints_and_nat (a b : Nat) : ints .u64 .and (a : Int) (b : Int) = some (.int .u64 ((a &&& b) % 18446744073709551616 : Nat)) := by
  show some (AV.int .u64 (wr .u64 (BitVec.ofInt 64 (a : Int) &&& BitVec.ofInt 64 (b : Int)).toNat)) = _
  rw [BitVec.toNat_and, bv_nat, bv_nat, ← Nat.and_mod_two_pow, wr_u64_n, u64_nat]
  congr 3
  omega
theorem ints_and_lit (a b : Nat) : ints .u64 .and (a : Int) (no_index (OfNat.ofNat b) : Int) = some (.int .u64 ((a &&& (OfNat.ofNat b : Nat)) % 18446744073709551616 : Nat)) := ints_and_nat a b
theorem ints_or_nat (a b : Nat) : ints .u64 .or (a : Int) (b : Int) = some (.int .u64 ((a ||| b) % 18446744073709551616 : Nat)) := by
  show some (AV.int .u64 (wr .u64 (BitVec.ofInt 64 (a : Int) ||| BitVec.ofInt 64 (b : Int)).toNat)) = _
  rw [BitVec.toNat_or, bv_nat, bv_nat, ← Nat.or_mod_two_pow, wr_u64_n, u64_nat]
  congr 3
  omega
theorem and_mask32 (a : Nat) : a &&& 4294967295 = a % 4294967296 := by
  have e1 : 4294967295 = 2 ^ 32 - 1 := by decide
  rw [e1, Nat.and_two_pow_sub_one_eq_mod]
def idxsK (a : AV) (i : Option Nat) : Option AV := match a, i with
  | .str s, some k => if k < s.length then some (.int .u8 (s.getD k 0).toNat) else none
  | _, _ => none
theorem idxsK_str (s : List UInt8) (k : Nat) : idxsK (.str s) (some k) = if k < s.length then some (.int .u8 (s.getD k 0).toNat) else none := rfl
theorem o_idxs {C : CallT} {gl : Nat → List AV} (d : Nat) (a i : XArg) (fr : List AV) (hp : Heap) : evO1 C gl (some d) (.idxs a i) fr hp = vK (idxsK (earg fr a) (asNat (earg fr i))) (fun v => some (fput fr d v, hp)) := by
  simp only [evO1, evOp, idxsK]
  cases earg fr a <;> cases asNat (earg fr i) <;> simp only [vK, fin1]
  rename_i s k
  by_cases h : k < s.length <;> simp [h]
theorem wr_u8_nat (n : Nat) (h : n < 256) : wr .u8 (n : Int) = (n : Int) := by simp only [wr]; omega
theorem u64_lit_mul (n k : Nat) : u64 ((no_index (OfNat.ofNat k) : Int) * (n : Int)) = ((OfNat.ofNat k : Nat) * n) % 18446744073709551616 := u64_mul k n
theorem u64_mul_pow (n k : Nat) : u64 ((n : Int) * 2 ^ k) = (n * 2 ^ k) % 18446744073709551616 := by
  rw [show (2 : Int) ^ k = ((2 ^ k : Nat) : Int) by simp, u64_mul]
def G0 : Nat → List AV := fun _ => []
attribute [go_sem] LC_region LC_seq LC_cond LC_block LC_skip LC_ret LC_exit evOps_nil evOps_cons evOps_guard opsK_some opsK_none opsK_ite fin1_some fin1_none gK_tup gK_ite some_ite some_ite_n int_ite bool_ite str_ite agg_ite cons_ite somel_ite bite_f bite_t fget_fput fget_zero fget_succ fget_ite uf_ite lcells_put lcells_nil lcells_ite nextVer_put nextVer_nil nextVer_ite stK_some stAt_top ldK_some ldAt_top ldAt_elp ldCells_agg ldCells_one hp_ite o_mov earg_tmp earg_cst rawArg_tmp rawArg_cst drop1_tmp drop1_cst drop1K_ite drop1K_int drop1K_bool drop1K_str drop1K_agg drop1K_tup drop1K_nilsl drop1K_ptr drop1K_elp drop1K_own drop1K_uniq drop1K_none drop1K_tight o_own vK_some vK_none vK_ite pickK_bool o_pick o_alloc o_box cellsOf_agg cellsOf_int cellsOf_bool cellsOf_str buildK_some o_build fillX_nil fillX_cons o_load hK_some hK_none o_store o_bin binX_int binX_str binX_shl binX_shr boolK_bool o_beq eqaK_agg o_eqagg eqifK_some eqIfV_nr eqIfV_nl eqIfV_if o_eqif eqCells_nil eqCells_int eqCells_bool eqCells_str intK_int o_neg o_conv notK_bool o_not faddrK_ptr faddrK_elp o_faddr fieldK_agg iarrK_ptr idxaK_agg asNat_nat extK_tup extK_held extK_ite o_ext callK_some callK_none callK_ite o_callq o_prim seqK_n seqK_r seqK_e seqK_none seqK_ite blockK_n blockK_r blockK_e blockK_none blockK_ite regK_some regK_none regK_ite condK_bool condK_ite finK_r finK_n finK_none finK_ite evRes_tmp evRes_cell ecellK_top uf_int uf_bool uf_str uf_agg uf_tup uf_ptr uf_elp uf_nilsl uf_nilptr uf_none uf_tight uf_own uf_uniq uf_undef plain1_int plain1_bool plain1_str plain1_ptr plain1_nilsl plain1_none plain1_own plain1_tight solid_agg solid_int solid_bool solid_str solid_nilsl solid_none solid_own solid_tight refFreeL_nil refFreeL_cons refFree_int refFree_bool refFree_str refFree_agg refFree_lst refFree_nilsl refFree_elp shut_int shut_bool shut_str shut_nilsl shut_none shut_own shut_tight shut_agg mapO_nil mapO_cons retOf_int retOf_bool retOf_str retOf_agg retOf_nilsl retOf_lst retOf_two isU_int isU_bool isU_str isU_agg isU_tup isU_nilsl isU_nilif isU_nilptr isU_nilfn isU_undef isU_elp isU_ifc isU_fn isU_ptr isU_sl isU_none isU_own isU_tight isU_uniq heldR_uniq splice_nil splice_zero splice_succ apsOk_nil evResL_nil evResL_cons eargs_nil eargs_cons if_true if_false List.length_cons List.length_nil List.all_cons List.all_nil Bool.and_true Bool.true_and Bool.and_self List.map_cons List.map_nil List.drop_zero List.drop_succ_cons List.take_zero List.take_succ_cons List.take_nil List.drop_nil Nat.zero_add Nat.add_zero Option.map_some Option.map_none true_and and_true and_self eq_self beq_iff_eq bne_iff_ne decide_eq_true_eq Bool.and_eq_true Bool.or_eq_true Bool.not_true Bool.not_false Bool.false_eq_true ite_self beq_self_eq_true ne_eq not_true_eq_false not_false_eq_true Bool.bne_false Bool.bne_true List.getElem?_cons_zero List.getElem?_cons_succ Nat.le_refl List.getElem?_nil XFn.body XFn.results wr_u64_n u64_nat u64_add u64_mul tmod_nat Int.natCast_eq_zero ge_iff_le gt_iff_lt decide_true decide_false asNat_int tmod_lit tdiv_lit tdiv_nat Int.tdiv_one wr_i64 Int.sub_zero Int.zero_sub Int.natCast_nonneg Int.toNat_natCast Int.add_zero Int.zero_add u64_add_lit u64_lit_sub nat_lt_zero wr_i64_nat fdiv_pow Nat.mul_one apsOk_cons apartV_ptr Ref.mk.injEq u64_mul_lit gK_true gK_false not_b eq_false_b ite_not bite_f' bite_t' Decidable.not_not ints_add ints_sub ints_mul ints_quo ints_rem ints_shl ints_shr ints_eql ints_neq ints_lss ints_leq ints_gtr ints_geq ints_and_nat ints_or_nat ints_and_lit and_mask32 bits_64 bits_8 o_idxs idxsK_str u64_lit_mul u64_mul_pow
end Go.Proofs.YtjbgceogkgpjpaaGreatDoor.Sx
namespace Go.Proofs.YtjbgceogkgpjpaaGreatDoor.Sx
def lensK (st : Bool) (v : AV) : Option AV := match st, v with
  | true, .str s => some (.int .i64 s.length)
  | false, .lst o z es => if lenB o z = true then some (.int .i64 es.length) else none
  | false, .nilsl => some (.int .i64 0)
  | false, .sl _ _ _ n => some (.int .i64 n)
  | false, .lenv n => some (.int .i64 n)
  | _, _ => none
theorem lensK_lenv (n : Nat) : lensK false (.lenv n) = some (.int .i64 n) := rfl
theorem uf_lenv (n : Nat) : uf (.lenv n) = .lenv n := rfl
theorem lensK_str (s : List UInt8) : lensK true (.str s) = some (.int .i64 s.length) := rfl
theorem lensK_lst (o : Own) (z : Nat) (es : List (List AV)) : lensK false (.lst o z es) = if lenB o z = true then some (.int .i64 es.length) else none := rfl
theorem lenB_1 (o : Own) : lenB o 1 = true := by cases o <;> rfl
theorem lenB_none (z : Nat) : lenB .none z = true := rfl
theorem lenB_own (z : Nat) : lenB .own z = true := rfl
theorem lenB_tight (z : Nat) : lenB .tight z = true := rfl
theorem lenB_uniq (z : Nat) : lenB .uniq z = decide (z < 1000) := rfl
theorem lensK_nil : lensK false .nilsl = some (.int .i64 0) := rfl
theorem o_lens {C : CallT} {gl : Nat → List AV} (d : Nat) (st : Bool) (a : XArg) (fr : List AV) (hp : Heap) : evO1 C gl (some d) (.lens st a) fr hp = vK (lensK st (rawArg fr a)) (fun v => some (fput fr d v, hp)) := by
  simp only [evO1, evOp]
  cases st <;> cases rawArg fr a <;> simp only [lensK, vK, fin1]
  rename_i o z es
  by_cases h : lenB o z = true <;> simp [h]
def sstrK (v : AV) (lo hi : Option AV) : Option AV := match v with
  | .str s => match optNat lo 0, optNat hi s.length with
    | some l, some h => if l ≤ h ∧ h ≤ s.length then some (.str ((s.take h).drop l)) else none
    | _, _ => none
  | _ => none
theorem optNat_nat (k : IntKind) (n d : Nat) : optNat (some (.int k (n : Int))) d = some n := by simp [optNat]
theorem sstrK_lo (s : List UInt8) (k : IntKind) (l : Nat) : sstrK (.str s) (some (.int k (l : Int))) none = if l ≤ s.length then some (.str (s.drop l)) else none := by
  simp only [sstrK, optNat_nat, show optNat none s.length = some s.length from rfl]
  by_cases h : l ≤ s.length
  · rw [if_pos ⟨h, Nat.le_refl _⟩, if_pos h, List.take_length]
  · rw [if_neg (fun e => h e.1), if_neg h]
theorem sstrK_hi (s : List UInt8) (k : IntKind) (h : Nat) : sstrK (.str s) none (some (.int k (h : Int))) = if h ≤ s.length then some (.str (s.take h)) else none := by
  simp only [sstrK, optNat_nat, show optNat none 0 = some 0 from rfl]
  by_cases hh : h ≤ s.length
  · rw [if_pos ⟨Nat.zero_le _, hh⟩, if_pos hh, List.drop_zero]
  · rw [if_neg (fun e => hh e.2), if_neg hh]
theorem sstrK_two (s : List UInt8) (k j : IntKind) (l h : Nat) : sstrK (.str s) (some (.int k (l : Int))) (some (.int j (h : Int))) = if l ≤ h ∧ h ≤ s.length then some (.str ((s.take h).drop l)) else none := by
  simp only [sstrK, optNat_nat]
theorem o_sstr {C : CallT} {gl : Nat → List AV} (d : Nat) (a : XArg) (lo hi : Option XArg) (fr : List AV) (hp : Heap) :
    evO1 C gl (some d) (.sstr a lo hi) fr hp = vK (sstrK (earg fr a) (lo.map (earg fr)) (hi.map (earg fr))) (fun v => some (fput fr d v, hp)) := by
  simp only [evO1, evOp, sstrK]
  cases earg fr a <;> simp only [vK, fin1]
  rename_i s
  cases optNat (lo.map (earg fr)) 0 <;> cases optNat (hi.map (earg fr)) s.length <;> simp only [vK]
  rename_i l h
  by_cases hc : l ≤ h ∧ h ≤ s.length <;> simp [hc, vK]
theorem bytesOfL_bytes : ∀ s : List UInt8, bytesOfL (listOfBytes s) = some s
  | [] => rfl
  | b :: l => by
    have := bytesOfL_bytes l
    simp only [listOfBytes, List.map_cons] at this ⊢
    simp only [bytesOfL, this, Option.map_some]
    congr 2
    simp
def bstrK (hp : Heap) (v : AV) : Option AV := match listOf hp 1 v with
  | some es => match bytesOfL es with | some s => some (.str s) | none => none
  | none => none
theorem bstrK_bytes (hp : Heap) (o : Own) (s : List UInt8) : bstrK hp (.lst o 1 (listOfBytes s)) = some (.str s) := by simp [bstrK, listOf, bytesOfL_bytes]
theorem bstrK_nil (hp : Heap) : bstrK hp .nilsl = some (.str []) := rfl
theorem o_bstr {C : CallT} {gl : Nat → List AV} (d : Nat) (a : XArg) (fr : List AV) (hp : Heap) : evO1 C gl (some d) (.bstr a) fr hp = vK (bstrK hp (earg fr a)) (fun v => some (fput fr d v, hp)) := by
  simp only [evO1, evOp, bstrK]
  cases listOf hp 1 (earg fr a) <;> simp only [vK, fin1]
  rename_i es
  cases bytesOfL es <;> simp only [vK]
def strbK (v : AV) : Option AV := match v with | .str s => if s.length ≤ room then some (.lst .own 1 (listOfBytes s)) else none | _ => none
theorem strbK_str (s : List UInt8) : strbK (.str s) = if s.length ≤ room then some (.lst .own 1 (listOfBytes s)) else none := rfl
theorem o_strb {C : CallT} {gl : Nat → List AV} (d : Nat) (a : XArg) (fr : List AV) (hp : Heap) : evO1 C gl (some d) (.strb a) fr hp = vK (strbK (earg fr a)) (fun v => some (fput fr d v, hp)) := by
  simp only [evO1, evOp, strbK]
  cases earg fr a <;> simp only [vK, fin1]
  rename_i s
  by_cases h : s.length ≤ room <;> simp [h, vK]
def bslK (z : Nat) (r : Option (List AV)) : Option AV := match r with
  | some cs => if refFreeL cs = true ∧ 0 < z then some (.lst .tight z (chunks z (cs.length / z) cs)) else none
  | none => none
theorem bslK_some (z : Nat) (cs : List AV) : bslK z (some cs) = if refFreeL cs = true ∧ 0 < z then some (.lst .tight z (chunks z (cs.length / z) cs)) else none := rfl
theorem o_bslice {C : CallT} {gl : Nat → List AV} (d z : Nat) (zero : List AV) (parts : List (Nat × Nat × XArg)) (fr : List AV) (hp : Heap) : evO1 C gl (some d) (.bslice z zero parts) fr hp = vK (bslK z (fillX fr parts zero)) (fun v => some (fput fr d v, hp)) := by
  simp only [evO1, evOp, bslK]
  cases fillX fr parts zero <;> simp only [vK, fin1]
  rename_i cs
  by_cases h : refFreeL cs = true ∧ 0 < z <;> simp [h, vK]
theorem chunks_zero (z : Nat) (l : List AV) : chunks z 0 l = [] := rfl
theorem chunks_succ (z n : Nat) (l : List AV) : chunks z (n + 1) l = l.take z :: chunks z n (l.drop z) := rfl
def appK (u : Bool) (z bytes : Nat) (sv : AV) (nw : Option (List (List AV))) : Option AV := match nw with
  | none => none
  | some new =>
    if new = [] then (match sv with | .nilsl => some .nilsl | .lst o z' es => if lenB o z' = true then some (.lst o z' es) else none | _ => none)
    else if refFreeL new.flatten = true ∧ new.flatten.all plain1 = true then
      match sv with
      | .nilsl => if new.length * bytes ≤ room then some (.lst (if u then .uniq else .own) z new) else none
      | .lst o z' es => if z' = z ∧ appMay o u = true ∧ (es.length + new.length) * bytes ≤ room then some (.lst (if u then .uniq else .own) z (es ++ new)) else none
      | _ => none
    else none
theorem o_app {C : CallT} {gl : Nat → List AV} (d : Nat) (u : Bool) (z bytes s : Nat) (a : XArg) (fr : List AV) (hp : Heap) :
    evO1 C gl (some d) (.app u z bytes s a) fr hp = vK (appK u z bytes (fget fr s) (listOf hp z (rawArg fr a))) (fun v => some (fput (drop1K (fget fr s) fr s) d v, hp)) := by
  simp only [evO1, evOp, appK]
  cases listOf hp z (rawArg fr a) with
  | none => rfl
  | some new =>
    simp only
    by_cases hn : new = []
    · subst hn
      simp only [if_true]
      cases hv : fget fr s <;> simp [vK, fin1, drop1, drop1K, hv]
      rename_i o z' es
      by_cases hB : lenB o z' = true <;> cases o <;> simp [drop1, hv, hB]
    · simp only [if_neg hn]
      by_cases hr : refFreeL new.flatten = true ∧ new.flatten.all plain1 = true
      · simp only [if_pos hr]
        cases hv : fget fr s <;> simp only [vK]
        · by_cases h : new.length * bytes ≤ room <;> simp [h, vK, fin1, drop1K]
        · rename_i o z' es
          by_cases h : z' = z ∧ appMay o u = true ∧ (es.length + new.length) * bytes ≤ room
          · simp only [if_pos h, vK, fin1]
            cases o <;> simp [drop1, drop1K, hv]
          · simp only [if_neg h, vK]
      · simp only [if_neg hr, vK]
theorem appK_nilsl (u : Bool) (z bytes : Nat) (new : List (List AV)) : appK u z bytes .nilsl (some new) =
    if new = [] then some .nilsl else if refFreeL new.flatten = true ∧ new.flatten.all plain1 = true then (if new.length * bytes ≤ room then some (.lst (if u then .uniq else .own) z new) else none) else none := rfl
theorem appK_lst (u : Bool) (z bytes : Nat) (o : Own) (z' : Nat) (es new : List (List AV)) : appK u z bytes (.lst o z' es) (some new) =
    if new = [] then (if lenB o z' = true then some (.lst o z' es) else none) else if refFreeL new.flatten = true ∧ new.flatten.all plain1 = true then (if z' = z ∧ appMay o u = true ∧ (es.length + new.length) * bytes ≤ room then some (.lst (if u then .uniq else .own) z (es ++ new)) else none) else none := rfl
theorem listOf_nilsl (hp : Heap) (z : Nat) : listOf hp z .nilsl = some [] := rfl
theorem listOf_lst (hp : Heap) (z : Nat) (o : Own) (z' : Nat) (es : List (List AV)) : listOf hp z (.lst o z' es) = if z' = z then some es else none := rfl
theorem appMay_own : appMay .own false = true := rfl
theorem appMay_tight (u : Bool) : appMay .tight u = true := by cases u <;> rfl
theorem appMay_uniq : appMay .uniq true = true := rfl
def iaddrK (z : Nat) (a : AV) (i : Option Nat) : Option AV := match a, i with
  | .lst _ z' es, some k => if z' = z ∧ k < es.length then some (.elp (es.getD k [])) else none
  | .sl r z' off len, some k => if z' = z ∧ k < len then some (.ptr r (off + k * z)) else none
  | _, _ => none
theorem iaddrK_lst (z : Nat) (o : Own) (z' : Nat) (es : List (List AV)) (k : Nat) : iaddrK z (.lst o z' es) (some k) = if z' = z ∧ k < es.length then some (.elp (es.getD k [])) else none := rfl
theorem o_iaddr {C : CallT} {gl : Nat → List AV} (d z : Nat) (a i : XArg) (fr : List AV) (hp : Heap) : evO1 C gl (some d) (.iaddr z a i) fr hp = vK (iaddrK z (earg fr a) (asNat (earg fr i))) (fun v => some (fput fr d v, hp)) := by
  simp only [evO1, evOp, iaddrK]
  cases earg fr a <;> cases asNat (earg fr i) <;> simp only [vK, fin1]
  · rename_i r z' off len k
    by_cases h : z' = z ∧ k < len <;> simp [h]
  · rename_i o z' es k
    by_cases h : z' = z ∧ k < es.length <;> simp [h]
def int2K (a b : AV) (f : Int → Int → Int) : Option AV := match a, b with
  | .int k x, .int k' y => if k = k' then some (.int k (f x y)) else none
  | _, _ => none
theorem int2K_int (k : IntKind) (x y : Int) (f : Int → Int → Int) : int2K (.int k x) (.int k y) f = some (.int k (f x y)) := by simp [int2K]
theorem o_mx {C : CallT} {gl : Nat → List AV} (d : Nat) (a b : XArg) (fr : List AV) (hp : Heap) : evO1 C gl (some d) (.mx a b) fr hp = vK (int2K (earg fr a) (earg fr b) fun x y => if y > x then y else x) (fun v => some (fput fr d v, hp)) := by
  simp only [evO1, evOp, int2K]
  cases earg fr a <;> cases earg fr b <;> simp only [vK, fin1] <;> (split <;> simp_all)
def fnK (v : AV) (k : Nat → List AV → List AV → Option (List AV × Heap)) : Option (List AV × Heap) := match v with | .fn f ds cs => k f ds cs | _ => none
theorem fnK_fn (f : Nat) (ds cs : List AV) (k : Nat → List AV → List AV → Option (List AV × Heap)) : fnK (.fn f ds cs) k = k f ds cs := rfl
theorem refFree_fn (f : Nat) (ds cs : List AV) : refFree (.fn f ds cs) = (refFreeL ds && refFreeL cs) := by simp [refFree]
theorem uf_fn (f : Nat) (ds cs : List AV) : uf (.fn f ds cs) = .fn f ds cs := rfl
theorem plain1_fn (f : Nat) (ds cs : List AV) : plain1 (.fn f ds cs) = true := rfl
theorem solid_fn (f : Nat) (ds cs : List AV) : solid (.fn f ds cs) = true := rfl
theorem cellsOf_fn (f : Nat) (ds cs : List AV) : cellsOf (.fn f ds cs) = [.fn f ds cs] := rfl
theorem cellsOf_nilsl : cellsOf .nilsl = [.nilsl] := rfl
theorem cellsOf_lst (o : Own) (z : Nat) (es : List (List AV)) : cellsOf (.lst o z es) = [.lst o z es] := rfl
theorem bytes_snoc (s : List UInt8) (b : UInt8) : listOfBytes s ++ [[.int .u8 (b.toNat : Int)]] = listOfBytes (s ++ [b]) := by simp [listOfBytes]
theorem bytes_len (s : List UInt8) : (listOfBytes s).length = s.length := by simp [listOfBytes]
theorem strs_eql (x y : List UInt8) : strs .eql x y = some (.bool (decide (x = y))) := by simp only [strs]; congr 2; by_cases h : x = y <;> simp [h]
theorem strs_neq (x y : List UInt8) : strs .neq x y = some (.bool (!decide (x = y))) := by simp only [strs]; congr 2; by_cases h : x = y <;> simp [h]
theorem strs_lss (x y : List UInt8) : strs .lss x y = some (.bool (bless x y)) := rfl
theorem strs_add (x y : List UInt8) : strs .add x y = if x.length + y.length ≤ 140737488355328 then some (.str (x ++ y)) else none := rfl
attribute [go_sem] lenB_1 lensK_lenv uf_lenv List.nil_append List.cons_append List.append_nil strs_eql strs_neq strs_lss strs_add lensK_str lensK_lst lenB_none lenB_own lenB_tight lenB_uniq lensK_nil o_lens sstrK_lo sstrK_hi sstrK_two o_sstr bstrK_bytes bstrK_nil o_bstr strbK_str o_strb bslK_some o_bslice chunks_zero chunks_succ o_app appK_nilsl appK_lst listOf_nilsl listOf_lst appMay_own appMay_tight appMay_uniq iaddrK_lst o_iaddr int2K_int o_mx fnK_fn refFree_fn uf_fn plain1_fn solid_fn cellsOf_fn cellsOf_nilsl cellsOf_lst
end Go.Proofs.YtjbgceogkgpjpaaGreatDoor.Sx
