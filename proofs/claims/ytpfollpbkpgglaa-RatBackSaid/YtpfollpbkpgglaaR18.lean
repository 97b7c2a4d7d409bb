/- Layer 1, part 18: the laws that compare with the document. -/
import Derived.Test.YtpfollpbkpgglaaR17
import Derived.KernelRfl
set_option linter.unusedVariables false
set_option linter.unusedSimpArgs false
namespace Go.Proofs.Ytpfollpbkpgglaa.Sx.T
open Go Go.Proofs.Ytpfollpbkpgglaa.Sx
set_option maxRecDepth 100000
set_option maxHeartbeats 4000000
theorem r16 (a b : Int) (hp : Heap) : CL X G0 16 [.agg [.int .i64 a, .int .i64 b]] hp = some (.agg [.int .i64 a, .int .i64 b], hp) := by
  rw [CL_eq (fn := x16) rfl]
  simp (config := {contextual := true, maxSteps := 10000000, implicitDefEqProofs := false}) only [x16, go_sem, ↓reduceIte, reduceCtorEq, Nat.reduceEqDiff, Nat.reduceAdd, Nat.reduceLeDiff, Nat.reduceMul, Int.reduceEq, Int.reduceLT, Int.reduceLE, Int.reduceAdd, Int.reduceSub, Int.reduceMul, Int.reduceNeg, Int.reduceToNat, Int.reduceNe, Int.reduceBEq, Int.reduceBNe, Nat.reduceLT, Nat.reduceSub, Nat.reduceDiv, Nat.reduceMod, Int.reduceTDiv, Int.reduceTMod]
theorem r14 (a b c d : Int) (hp : Heap) : CL X G0 14 [.agg [.int .i64 a, .int .i64 b], .agg [.int .i64 c, .int .i64 d]] hp = some (.bool (a == c && b == d), hp) := by
  rw [CL_eq (fn := x14) rfl]
  simp (config := {contextual := true, maxSteps := 10000000, implicitDefEqProofs := false}) only [x14, go_sem, ↓reduceIte, reduceCtorEq, Nat.reduceEqDiff, Nat.reduceAdd, Nat.reduceLeDiff, Nat.reduceMul, Int.reduceEq, Int.reduceLT, Int.reduceLE, Int.reduceAdd, Int.reduceSub, Int.reduceMul, Int.reduceNeg, Int.reduceToNat, Int.reduceNe, Int.reduceBEq, Int.reduceBNe, Nat.reduceLT, Nat.reduceSub, Nat.reduceDiv, Nat.reduceMod, Int.reduceTDiv, Int.reduceTMod]
  rw [show (a == c) = decide (a = c) by rw [Bool.eq_iff_iff]; simp]
theorem live0 : evCall X G0 300 12 [] [] = some (.bool true, []) := by kernel_rfl
theorem r12 : CL X G0 12 [] [] = some (.bool true, []) := CL_iff.2 ⟨300, live0⟩
theorem r4 (n d : Int) (hn : I64 n) (hd : I64 d) (hp : Heap) : CL X G0 4 [.int .i64 n, .int .i64 d] hp = some (.bool true, hp) := by
  rw [CL_eq (fn := x4) rfl]
  have a1 := r10 n d hn hd
  have a2 := r13 n d hn hd
  simp (config := {contextual := true, maxSteps := 10000000, implicitDefEqProofs := false}) only [x4, go_sem, ↓reduceIte, reduceCtorEq, Nat.reduceEqDiff, Nat.reduceAdd, Nat.reduceLeDiff, Nat.reduceMul, Int.reduceEq, Int.reduceLT, Int.reduceLE, Int.reduceAdd, Int.reduceSub, Int.reduceMul, Int.reduceNeg, Int.reduceToNat, Int.reduceNe, Int.reduceBEq, Int.reduceBNe, Nat.reduceLT, Nat.reduceSub, Nat.reduceDiv, Nat.reduceMod, Int.reduceTDiv, Int.reduceTMod, a1, a2, r12, r14, rt_eq]
theorem r5 (a b c d : Int) (ha : I64 a) (hb : I64 b) (hc : I64 c) (hd : I64 d) (hp : Heap) : CL X G0 5 [.agg [.int .i64 a, .int .i64 b], .agg [.int .i64 c, .int .i64 d]] hp = some (.bool true, hp) := by
  rw [CL_eq (fn := x5) rfl]
  have a1 := r15 a b c d ha hb hc hd
  have a2 := r17 a b c d ha hb hc hd
  simp (config := {contextual := true, maxSteps := 10000000, implicitDefEqProofs := false}) only [x5, go_sem, ↓reduceIte, reduceCtorEq, Nat.reduceEqDiff, Nat.reduceAdd, Nat.reduceLeDiff, Nat.reduceMul, Int.reduceEq, Int.reduceLT, Int.reduceLE, Int.reduceAdd, Int.reduceSub, Int.reduceMul, Int.reduceNeg, Int.reduceToNat, Int.reduceNe, Int.reduceBEq, Int.reduceBNe, Nat.reduceLT, Nat.reduceSub, Nat.reduceDiv, Nat.reduceMod, Int.reduceTDiv, Int.reduceTMod, a1, a2, r12, r16, rt_eq]
theorem r6 (a b c d : Int) (ha : I64 a) (hb : I64 b) (hc : I64 c) (hd : I64 d) (hp : Heap) : CL X G0 6 [.agg [.int .i64 a, .int .i64 b], .agg [.int .i64 c, .int .i64 d]] hp = some (.bool true, hp) := by
  rw [CL_eq (fn := x6) rfl]
  have a1 := r11 a b c d ha hb hc hd
  have a2 := r18 a b c d ha hb hc hd
  have a3 := r19 a b c d ha hb hc hd
  have a4 := r20 a b c d ha hb hc hd
  simp (config := {contextual := true, maxSteps := 10000000, implicitDefEqProofs := false}) only [x6, go_sem, ↓reduceIte, reduceCtorEq, Nat.reduceEqDiff, Nat.reduceAdd, Nat.reduceLeDiff, Nat.reduceMul, Int.reduceEq, Int.reduceLT, Int.reduceLE, Int.reduceAdd, Int.reduceSub, Int.reduceMul, Int.reduceNeg, Int.reduceToNat, Int.reduceNe, Int.reduceBEq, Int.reduceBNe, Nat.reduceLT, Nat.reduceSub, Nat.reduceDiv, Nat.reduceMod, Int.reduceTDiv, Int.reduceTMod, a1, a2, a3, a4, r12, r14, r16, rt_eq]
theorem r8 (a b c d : Int) (ha : I64 a) (hb : I64 b) (hc : I64 c) (hd : I64 d) (hp : Heap) : CL X G0 8 [.agg [.int .i64 a, .int .i64 b], .agg [.int .i64 c, .int .i64 d]] hp = some (.bool true, hp) := by
  rw [CL_eq (fn := x8) rfl]
  have a1 := r22 a b c d ha hb hc hd
  have a2 := r23 a b c d ha hb hc hd
  have a3 := r24 a b c d ha hb hc hd
  have a4 := r25 a b c d ha hb hc hd
  simp (config := {contextual := true, maxSteps := 10000000, implicitDefEqProofs := false}) only [x8, go_sem, ↓reduceIte, reduceCtorEq, Nat.reduceEqDiff, Nat.reduceAdd, Nat.reduceLeDiff, Nat.reduceMul, Int.reduceEq, Int.reduceLT, Int.reduceLE, Int.reduceAdd, Int.reduceSub, Int.reduceMul, Int.reduceNeg, Int.reduceToNat, Int.reduceNe, Int.reduceBEq, Int.reduceBNe, Nat.reduceLT, Nat.reduceSub, Nat.reduceDiv, Nat.reduceMod, Int.reduceTDiv, Int.reduceTMod, a1, a2, a3, a4, r12, r14, r16, rt_eq]
theorem len2 {ns : List Int} (h : ns.length = 2) : ∃ a b, ns = [a, b] := by
  match ns, h with
  | [a, b], _ => exact ⟨a, b, rfl⟩
theorem len4 {ns : List Int} (h : ns.length = 4) : ∃ a b c d, ns = [a, b, c, d] := by
  match ns, h with
  | [a, b, c, d], _ => exact ⟨a, b, c, d, rfl⟩
end Go.Proofs.Ytpfollpbkpgglaa.Sx.T
