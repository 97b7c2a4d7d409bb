/- EV, part C: values of one form. -/
import Derived.Attr
import Derived.Test.YtpfollpbkpgglaaEvB
set_option linter.unusedVariables false
set_option linter.unusedSimpArgs false
namespace Go.Proofs.Ytpfollpbkpgglaa.Sx
theorem uf_int (k : IntKind) (n : Int) : uf (.int k n) = .int k n := rfl
theorem uf_bool (b : Bool) : uf (.bool b) = .bool b := rfl
theorem uf_str (s : List UInt8) : uf (.str s) = .str s := rfl
theorem uf_agg (s : List AV) : uf (.agg s) = .agg s := rfl
theorem uf_tup (s : List AV) : uf (.tup s) = .tup s := rfl
theorem uf_ptr (r : Ref) (o : Nat) : uf (.ptr r o) = .ptr r o := rfl
theorem uf_elp (s : List AV) : uf (.elp s) = .elp s := rfl
theorem uf_nilsl : uf .nilsl = .nilsl := rfl
theorem uf_nilptr : uf .nilptr = .nilptr := rfl
theorem uf_none (z : Nat) (es : List (List AV)) : uf (.lst .none z es) = .lst .none z es := rfl
theorem uf_tight (z : Nat) (es : List (List AV)) : uf (.lst .tight z es) = .lst .tight z es := rfl
theorem uf_own (z : Nat) (es : List (List AV)) : uf (.lst .own z es) = .lst .none z es := rfl
theorem uf_uniq (z : Nat) (es : List (List AV)) : uf (.lst .uniq z es) = .undef := rfl
theorem uf_undef : uf .undef = .undef := rfl
theorem plain1_int (k : IntKind) (n : Int) : plain1 (.int k n) = true := rfl
theorem plain1_bool (b : Bool) : plain1 (.bool b) = true := rfl
theorem plain1_str (s : List UInt8) : plain1 (.str s) = true := rfl
theorem plain1_ptr (r : Ref) (o : Nat) : plain1 (.ptr r o) = true := rfl
theorem plain1_nilsl : plain1 .nilsl = true := rfl
theorem plain1_none (z : Nat) (es : List (List AV)) : plain1 (.lst .none z es) = true := rfl
theorem plain1_own (z : Nat) (es : List (List AV)) : plain1 (.lst .own z es) = true := rfl
theorem plain1_tight (z : Nat) (es : List (List AV)) : plain1 (.lst .tight z es) = true := rfl
theorem solid_agg (s : List AV) : solid (.agg s) = true := rfl
theorem solid_int (k : IntKind) (n : Int) : solid (.int k n) = true := rfl
theorem solid_bool (b : Bool) : solid (.bool b) = true := rfl
theorem solid_str (s : List UInt8) : solid (.str s) = true := rfl
theorem solid_nilsl : solid .nilsl = true := rfl
theorem solid_none (z : Nat) (es : List (List AV)) : solid (.lst .none z es) = true := rfl
theorem solid_own (z : Nat) (es : List (List AV)) : solid (.lst .own z es) = true := rfl
theorem solid_tight (z : Nat) (es : List (List AV)) : solid (.lst .tight z es) = true := rfl
theorem refFreeL_nil : refFreeL [] = true := by simp [refFreeL]
theorem refFreeL_cons (v : AV) (l : List AV) : refFreeL (v :: l) = (refFree v && refFreeL l) := by simp [refFreeL]
theorem refFree_int (k : IntKind) (n : Int) : refFree (.int k n) = true := by simp [refFree]
theorem refFree_bool (b : Bool) : refFree (.bool b) = true := by simp [refFree]
theorem refFree_str (s : List UInt8) : refFree (.str s) = true := by simp [refFree]
theorem refFree_agg (s : List AV) : refFree (.agg s) = refFreeL s := by simp [refFree]
theorem refFree_lst (o : Own) (z : Nat) (es : List (List AV)) : refFree (.lst o z es) = true := by simp [refFree]
theorem refFree_nilsl : refFree .nilsl = true := by simp [refFree]
theorem refFree_elp (cs : List AV) : refFree (.elp cs) = true := by simp [refFree]
theorem shut_int (hp : Heap) (lev n : Nat) (k : IntKind) (x : Int) : shut hp lev (n + 1) (.int k x) = some (.int k x) := rfl
theorem shut_bool (hp : Heap) (lev n : Nat) (x : Bool) : shut hp lev (n + 1) (.bool x) = some (.bool x) := rfl
theorem shut_str (hp : Heap) (lev n : Nat) (x : List UInt8) : shut hp lev (n + 1) (.str x) = some (.str x) := rfl
theorem shut_nilsl (hp : Heap) (lev n : Nat) : shut hp lev (n + 1) .nilsl = some .nilsl := rfl
theorem shut_none (hp : Heap) (lev n z : Nat) (es : List (List AV)) : shut hp lev (n + 1) (.lst .none z es) = some (.lst .none z es) := rfl
theorem shut_own (hp : Heap) (lev n z : Nat) (es : List (List AV)) : shut hp lev (n + 1) (.lst .own z es) = some (.lst .none z es) := rfl
theorem shut_tight (hp : Heap) (lev n z : Nat) (es : List (List AV)) : shut hp lev (n + 1) (.lst .tight z es) = some (.lst .tight z es) := rfl
theorem shut_agg (hp : Heap) (lev n : Nat) (cs : List AV) : shut hp lev (n + 1) (.agg cs) = (mapO (shut hp lev n) cs).map .agg := rfl
theorem mapO_nil (f : AV → Option AV) : mapO f [] = some [] := rfl
theorem mapO_cons (f : AV → Option AV) (v : AV) (l : List AV) : mapO f (v :: l) = match f v with
    | some v' => match mapO f l with | some l' => some (v' :: l') | none => none
    | none => none := rfl
theorem shut6 (hp : Heap) (lev : Nat) (v : AV) : shut hp lev shutDepth v = shut hp lev (5 + 1) v := rfl
theorem retOf_int (hp : Heap) (lev : Nat) (k : IntKind) (x : Int) : retOf hp lev [.int k x] = some (.int k x) := rfl
theorem retOf_bool (hp : Heap) (lev : Nat) (x : Bool) : retOf hp lev [.bool x] = some (.bool x) := rfl
theorem retOf_str (hp : Heap) (lev : Nat) (x : List UInt8) : retOf hp lev [.str x] = some (.str x) := rfl
theorem retOf_agg (hp : Heap) (lev : Nat) (x : List AV) : retOf hp lev [.agg x] = shut hp lev (5 + 1) (.agg x) := rfl
theorem retOf_nilsl (hp : Heap) (lev : Nat) : retOf hp lev [.nilsl] = some .nilsl := rfl
theorem retOf_lst (hp : Heap) (lev : Nat) (o : Own) (z : Nat) (es : List (List AV)) : retOf hp lev [.lst o z es] = some (.lst o z es) := rfl
theorem retOf_two (hp : Heap) (lev : Nat) (u v : AV) (l : List AV) : retOf hp lev (u :: v :: l) = (mapO (shut hp lev (5 + 1)) (u :: v :: l)).map .tup := by
  cases u <;> rfl
theorem splice_nil (l : List AV) (n : Nat) : splice l n [] = l := by cases l <;> cases n <;> rfl
theorem splice_zero (x v : AV) (l vs : List AV) : splice (x :: l) 0 (v :: vs) = v :: splice l 0 vs := rfl
theorem splice_succ (x v : AV) (l vs : List AV) (n : Nat) : splice (x :: l) (n + 1) (v :: vs) = x :: splice l n (v :: vs) := rfl
theorem apsOk_nil (fr : List AV) : apsOk fr [] = true := rfl
theorem evResL_nil (s : St) : evResL s [] = some [] := rfl
theorem evResL_cons (s : St) (r : XRes) (l : List XRes) : evResL s (r :: l) = match evRes s r with
    | some v => match evResL s l with | some l' => some (v :: l') | none => none
    | none => none := rfl
theorem eargs_nil (fr : List AV) : eargs fr [] = [] := rfl
theorem eargs_cons (fr : List AV) (a : XArg) (l : List XArg) : eargs fr (a :: l) = earg fr a :: eargs fr l := rfl
/-- A number of 64 bits, as it lies. -/
def u64 (n : Int) : Nat := (n % 18446744073709551616).toNat
theorem wr_u64_n (n : Int) : wr .u64 n = (u64 n : Int) := by simp only [wr, u64]; omega
theorem u64_nat (n : Nat) : u64 (n : Int) = n % 18446744073709551616 := by simp only [u64]; omega
theorem u64_lt (n : Int) : u64 n < 18446744073709551616 := by simp only [u64]; omega
theorem u64_add (a b : Nat) : u64 ((a : Int) + b) = (a + b) % 18446744073709551616 := by simp only [u64]; omega
theorem u64_mul (a b : Nat) : u64 ((a : Int) * b) = (a * b) % 18446744073709551616 := by
  rw [← Int.natCast_mul, u64_nat]
theorem u64_tdiv (a b : Nat) : u64 ((a : Int).tdiv b) = (a / b) % 18446744073709551616 := by
  rw [← Int.ofNat_tdiv, u64_nat]
theorem tmod_nat (a b : Nat) : (a : Int).tmod b = ((a % b : Nat) : Int) := (Int.ofNat_tmod a b).symm
theorem wr_i64 (n : Int) (h : -9223372036854775808 ≤ n ∧ n < 9223372036854775808) : wr .i64 n = n := by
  simp only [wr]
  split <;> omega
theorem tmod_lit (n k : Nat) : (n : Int).tmod (no_index (OfNat.ofNat k) : Int) = ((n % (OfNat.ofNat k : Nat) : Nat) : Int) := (Int.ofNat_tmod n k).symm
theorem u64_tdiv_lit (n k : Nat) : u64 ((n : Int).tdiv (no_index (OfNat.ofNat k) : Int)) = (n / (OfNat.ofNat k : Nat)) % 18446744073709551616 := u64_tdiv n k
theorem u64_add_lit (n k : Nat) : u64 ((n : Int) + (no_index (OfNat.ofNat k) : Int)) = (n + (OfNat.ofNat k : Nat)) % 18446744073709551616 := u64_add n k
theorem u64_lit_sub (n k : Nat) : u64 ((no_index (OfNat.ofNat k) : Int) - (n : Int)) = u64 (((OfNat.ofNat k : Nat) : Int) - (n : Int)) := rfl
theorem u64_sub (a b : Nat) (h : b ≤ a) : u64 ((a : Int) - (b : Int)) = (a - b) % 18446744073709551616 := by simp only [u64]; omega
theorem tdiv_lit (n k : Nat) : (n : Int).tdiv (no_index (OfNat.ofNat k) : Int) = ((n / (OfNat.ofNat k : Nat) : Nat) : Int) := (Int.ofNat_tdiv n k).symm
theorem tdiv_nat (a b : Nat) : (a : Int).tdiv b = ((a / b : Nat) : Int) := (Int.ofNat_tdiv a b).symm
theorem nat_lt_zero (n : Nat) : ((n : Int) < 0) = False := by simp
theorem wr_i64_nat (n : Nat) (h : n < 9223372036854775808) : wr .i64 (n : Int) = (n : Int) := wr_i64 _ (by omega)
theorem fdiv_pow (d s : Nat) : (d : Int).fdiv (2 ^ s) = ((d / 2 ^ s : Nat) : Int) := by
  rw [Int.fdiv_eq_ediv_of_nonneg _ (Int.le_of_lt (Int.pow_pos (by omega)))]
  rw [show (2 : Int) ^ s = ((2 ^ s : Nat) : Int) by simp]
  rfl
theorem regK_some (aps : List (Nat × Nat)) (fr : List AV) (hp : Heap) : regK aps (some (fr, hp)) = if apsOk fr aps = true then some (.normal, ⟨fr, hp⟩) else none := rfl
theorem apsOk_cons (fr : List AV) (a b : Nat) (l : List (Nat × Nat)) : apsOk fr ((a, b) :: l) = (apartV (fget fr a) (fget fr b) && apsOk fr l) := rfl
theorem apartV_ptr (r q : Ref) (o p : Nat) : apartV (.ptr r o) (.ptr q p) = !(decide (r = q)) := rfl
theorem elimL {s : Option (XExit × St)} {O : Option (XExit × St) → Prop} (K : Option (XExit × St) → Prop) (h : O s) (hk : ∀ r, O r → K r) : K s := hk s h
theorem u64_mul_lit (n k : Nat) : u64 ((n : Int) * (no_index (OfNat.ofNat k) : Int)) = (n * (OfNat.ofNat k : Nat)) % 18446744073709551616 := u64_mul n k
theorem neg_back (p : Nat) (h : p ≤ 9223372036854775808) : wr .i64 (wr .i64 (-wr .i64 (u64 ((p : Int) - 1) : Int)) - 1) = -(p : Int) := by
  by_cases h0 : p = 0
  · subst h0; rfl
  · have e : (u64 ((p : Int) - 1) : Int) = (p : Int) - 1 := by simp only [u64]; omega
    rw [e, wr_i64 ((p : Int) - 1) (by omega), wr_i64 (-((p : Int) - 1)) (by omega), wr_i64 _ (by omega)]
    omega
theorem gK_true {α : Type} (e : Bool) (go skip bad : α) : gK (.bool e) true go skip bad = if e = true then go else skip := rfl
theorem gK_false {α : Type} (e : Bool) (go skip bad : α) : gK (.bool e) false go skip bad = if e = true then skip else go := by cases e <;> rfl
theorem not_b (b : Bool) : ((!b) = true) = ¬(b = true) := by cases b <;> simp
theorem eq_false_b (b : Bool) : (b = false) = ¬(b = true) := by cases b <;> simp
theorem bite_f' (c : Prop) [Decidable c] (a : Bool) : (if c then false else a) = (!decide c && a) := by by_cases h : c <;> simp [h]
theorem bite_t' (c : Prop) [Decidable c] (a : Bool) : (if c then a else true) = (!decide c || a) := by by_cases h : c <;> simp [h]
theorem ints_add (k : IntKind) (x y : Int) : ints k .add x y = some (.int k (wr k (x + y))) := rfl
theorem ints_sub (k : IntKind) (x y : Int) : ints k .sub x y = some (.int k (wr k (x - y))) := rfl
theorem ints_mul (k : IntKind) (x y : Int) : ints k .mul x y = some (.int k (wr k (x * y))) := rfl
theorem ints_quo (k : IntKind) (x y : Int) : ints k .quo x y = if y = 0 then none else some (.int k (wr k (x.tdiv y))) := rfl
theorem ints_rem (k : IntKind) (x y : Int) : ints k .rem x y = if y = 0 then none else some (.int k (x.tmod y)) := rfl
theorem ints_shl (k : IntKind) (x y : Int) : ints k .shl x y = if y < 0 then none else some (.int k (wr k (x * 2 ^ (min y.toNat (bitsOf k))))) := rfl
theorem ints_shr (k : IntKind) (x y : Int) : ints k .shr x y = if y < 0 then none else some (.int k (x.fdiv (2 ^ (min y.toNat (bitsOf k))))) := rfl
theorem ints_eql (k : IntKind) (x y : Int) : ints k .eql x y = some (.bool (x == y)) := rfl
theorem ints_neq (k : IntKind) (x y : Int) : ints k .neq x y = some (.bool (x != y)) := rfl
theorem ints_lss (k : IntKind) (x y : Int) : ints k .lss x y = some (.bool (x < y)) := rfl
theorem ints_leq (k : IntKind) (x y : Int) : ints k .leq x y = some (.bool (x ≤ y)) := rfl
theorem ints_gtr (k : IntKind) (x y : Int) : ints k .gtr x y = some (.bool (x > y)) := rfl
theorem ints_geq (k : IntKind) (x y : Int) : ints k .geq x y = some (.bool (x ≥ y)) := rfl
theorem bits_64 : bitsOf .u64 = 64 := rfl
theorem bits_8 : bitsOf .u8 = 8 := rfl
theorem bv_nat (a : Nat) : (BitVec.ofInt 64 (a : Int)).toNat = a % 2 ^ 64 := by
  simp only [BitVec.toNat_ofInt]
  omega
theorem ints_and_nat (a b : Nat) : ints .u64 .and (a : Int) (b : Int) = some (.int .u64 ((a &&& b) % 18446744073709551616 : Nat)) := by
  show some (AV.int .u64 (wr .u64 (BitVec.ofInt 64 (a : Int) &&& BitVec.ofInt 64 (b : Int)).toNat)) = _
  rw [BitVec.toNat_and, bv_nat, bv_nat, ← Nat.and_mod_two_pow, wr_u64_n, u64_nat]
  congr 3
  omega
theorem ints_and_lit (a b : Nat) : ints .u64 .and (a : Int) (no_index (OfNat.ofNat b) : Int) = some (.int .u64 ((a &&& (OfNat.ofNat b : Nat)) % 18446744073709551616 : Nat)) := ints_and_nat a b
theorem ints_or_nat (a b : Nat) : ints .u64 .or (a : Int) (b : Int) = some (.int .u64 ((a ||| b) % 18446744073709551616 : Nat)) := by
  show some (AV.int .u64 (wr .u64 (BitVec.ofInt 64 (a : Int) ||| BitVec.ofInt 64 (b : Int)).toNat)) = _
  rw [BitVec.toNat_or, bv_nat, bv_nat, ← Nat.or_mod_two_pow, wr_u64_n, u64_nat]
  congr 3
  omega
theorem and_mask32 (a : Nat) : a &&& 4294967295 = a % 4294967296 := by
  have e1 : 4294967295 = 2 ^ 32 - 1 := by decide
  rw [e1, Nat.and_two_pow_sub_one_eq_mod]
def idxsK (a : AV) (i : Option Nat) : Option AV := match a, i with
  | .str s, some k => if k < s.length then some (.int .u8 (s.getD k 0).toNat) else none
  | _, _ => none
theorem idxsK_str (s : List UInt8) (k : Nat) : idxsK (.str s) (some k) = if k < s.length then some (.int .u8 (s.getD k 0).toNat) else none := rfl
theorem o_idxs {C : CallT} {gl : Nat → List AV} (d : Nat) (a i : XArg) (fr : List AV) (hp : Heap) : evO1 C gl (some d) (.idxs a i) fr hp = vK (idxsK (earg fr a) (asNat (earg fr i))) (fun v => some (fput fr d v, hp)) := by
  simp only [evO1, evOp, idxsK]
  cases earg fr a <;> cases asNat (earg fr i) <;> simp only [vK, fin1]
  rename_i s k
  by_cases h : k < s.length <;> simp [h]
theorem wr_u8_nat (n : Nat) (h : n < 256) : wr .u8 (n : Int) = (n : Int) := by simp only [wr]; omega
theorem u64_lit_mul (n k : Nat) : u64 ((no_index (OfNat.ofNat k) : Int) * (n : Int)) = ((OfNat.ofNat k : Nat) * n) % 18446744073709551616 := u64_mul k n
theorem u64_mul_pow (n k : Nat) : u64 ((n : Int) * 2 ^ k) = (n * 2 ^ k) % 18446744073709551616 := by
  rw [show (2 : Int) ^ k = ((2 ^ k : Nat) : Int) by simp, u64_mul]
def G0 : Nat → List AV := fun _ => []
attribute [go_sem] LC_region LC_seq LC_cond LC_block LC_skip LC_ret LC_exit evOps_nil evOps_cons evOps_guard opsK_some opsK_none opsK_ite fin1_some fin1_none gK_tup gK_ite some_ite some_ite_n int_ite bool_ite str_ite agg_ite cons_ite somel_ite bite_f bite_t fget_fput fget_zero fget_succ fget_ite uf_ite lcells_put lcells_nil lcells_ite nextVer_put nextVer_nil nextVer_ite stK_some stAt_top ldK_some ldAt_top ldAt_elp ldCells_agg ldCells_one hp_ite o_mov earg_tmp earg_cst rawArg_tmp rawArg_cst drop1_tmp drop1_cst drop1K_ite drop1K_int drop1K_bool drop1K_str drop1K_agg drop1K_tup drop1K_nilsl drop1K_ptr drop1K_elp drop1K_own drop1K_uniq drop1K_none drop1K_tight o_own vK_some vK_none vK_ite pickK_bool o_pick o_alloc o_box cellsOf_agg cellsOf_int cellsOf_bool cellsOf_str buildK_some o_build fillX_nil fillX_cons o_load hK_some hK_none o_store o_bin binX_int binX_str binX_shl binX_shr boolK_bool o_beq eqaK_agg o_eqagg eqCells_nil eqCells_int eqCells_bool eqCells_str intK_int o_neg o_conv notK_bool o_not faddrK_ptr faddrK_elp o_faddr fieldK_agg o_field iarrK_ptr o_iarr idxaK_agg o_idxa asNat_nat extK_tup extK_ite o_ext callK_some callK_none callK_ite o_callq o_prim seqK_n seqK_r seqK_e seqK_none seqK_ite blockK_n blockK_r blockK_e blockK_none blockK_ite regK_some regK_none regK_ite condK_bool condK_ite finK_r finK_n finK_none finK_ite evRes_tmp evRes_cell ecellK_top uf_int uf_bool uf_str uf_agg uf_tup uf_ptr uf_elp uf_nilsl uf_nilptr uf_none uf_tight uf_own uf_uniq uf_undef plain1_int plain1_bool plain1_str plain1_ptr plain1_nilsl plain1_none plain1_own plain1_tight solid_agg solid_int solid_bool solid_str solid_nilsl solid_none solid_own solid_tight refFreeL_nil refFreeL_cons refFree_int refFree_bool refFree_str refFree_agg refFree_lst refFree_nilsl refFree_elp shut_int shut_bool shut_str shut_nilsl shut_none shut_own shut_tight shut_agg mapO_nil mapO_cons retOf_int retOf_bool retOf_str retOf_agg retOf_nilsl retOf_lst retOf_two splice_nil splice_zero splice_succ apsOk_nil evResL_nil evResL_cons eargs_nil eargs_cons if_true if_false List.length_cons List.length_nil List.all_cons List.all_nil Bool.and_true Bool.true_and Bool.and_self List.map_cons List.map_nil List.drop_zero List.drop_succ_cons List.take_zero List.take_succ_cons List.take_nil List.drop_nil Nat.zero_add Nat.add_zero Option.map_some Option.map_none true_and and_true and_self eq_self beq_iff_eq bne_iff_ne decide_eq_true_eq Bool.and_eq_true Bool.or_eq_true Bool.not_true Bool.not_false Bool.false_eq_true ite_self beq_self_eq_true ne_eq not_true_eq_false not_false_eq_true Bool.bne_false Bool.bne_true List.getElem?_cons_zero List.getElem?_cons_succ Nat.le_refl List.getElem?_nil XFn.body XFn.results wr_u64_n u64_nat u64_add u64_mul tmod_nat Int.natCast_eq_zero ge_iff_le gt_iff_lt decide_true decide_false asNat_int tmod_lit tdiv_lit tdiv_nat Int.tdiv_one wr_i64 Int.sub_zero Int.zero_sub Int.natCast_nonneg Int.toNat_natCast Int.add_zero Int.zero_add u64_add_lit u64_lit_sub nat_lt_zero wr_i64_nat fdiv_pow Nat.mul_one apsOk_cons apartV_ptr Ref.mk.injEq u64_mul_lit gK_true gK_false not_b eq_false_b ite_not bite_f' bite_t' Decidable.not_not ints_add ints_sub ints_mul ints_quo ints_rem ints_shl ints_shr ints_eql ints_neq ints_lss ints_leq ints_gtr ints_geq ints_and_nat ints_or_nat ints_and_lit and_mask32 bits_64 bits_8 o_idxs idxsK_str u64_lit_mul u64_mul_pow
end Go.Proofs.Ytpfollpbkpgglaa.Sx
