/- EV, part R: a loop over a text's letters. -/
import Derived.Test.YtjbgceogkgpjpaaGreatDoorEvB
import Derived.Laws.RangeAny
set_option linter.unusedVariables false
set_option linter.unusedSimpArgs false
namespace Go.Proofs.YtjbgceogkgpjpaaGreatDoor.Sx
open Go
def lputi (l : Level) (s v : Nat) (x : List UInt8) (p : Nat) : Level := lput l s (some (v, .iter x p))
theorem lput_lput (l : Level) (s : Nat) (a b : Option (Nat × Blk)) : lput (lput l s a) s b = lput l s b := by
  induction l generalizing s with
  | nil =>
    induction s with
    | zero => rfl
    | succ s ih => simp only [lput]; rw [ih]
  | cons x l ih =>
    cases s with
    | zero => rfl
    | succ s => simp only [lput]; rw [ih]
def rngK (v : AV) : Option (List UInt8) := match v with | .str s => some s | _ => none
theorem rngK_str (s : List UInt8) : rngK (.str s) = some s := rfl
def rngP (d : Nat) (fr : List AV) (l : Level) (h : Heap) (o : Option (List UInt8)) : Option (List AV × Heap) :=
  match o with | some s => some (fput fr d (.ptr ⟨h.length, d, nextVer l d⟩ 0), lputi l d (nextVer l d) s 0 :: h) | none => none
theorem rngP_some (d : Nat) (fr : List AV) (l : Level) (h : Heap) (s : List UInt8) : rngP d fr l h (some s) = some (fput fr d (.ptr ⟨h.length, d, nextVer l d⟩ 0), lputi l d (nextVer l d) s 0 :: h) := rfl
theorem o_rngs {C : CallT} {gl : Nat → List AV} (d : Nat) (a : XArg) (fr : List AV) (l : Level) (h : Heap) : evO1 C gl (some d) (.rngs a) fr (l :: h) = rngP d fr l h (rngK (earg fr a)) := by
  simp only [evO1, evOp, mkBlk, Option.getD]
  cases earg fr a <;> rfl
theorem hget_i (l : Level) (h : Heap) (s v : Nat) (x : List UInt8) (p : Nat) : hget (lputi l s v x p :: h) ⟨h.length, s, v⟩ = some (.iter x p) := by
  simp [hget, lputi, lget_lput]
theorem hput_i (l : Level) (h : Heap) (s v : Nat) (x : List UInt8) (p q : Nat) : hput (lputi l s v x p :: h) ⟨h.length, s, v⟩ (.iter x q) = lputi l s v x q :: h := by
  simp only [hput, if_true, lputi, lput_lput]
theorem o_nexts {C : CallT} {gl : Nat → List AV} (d : Nat) (a : XArg) (fr : List AV) (l : Level) (h : Heap) (s v : Nat) (x : List UInt8) (p : Nat) (ha : earg fr a = .ptr ⟨h.length, s, v⟩ 0) :
    evO1 C gl (some d) (.nexts a) fr (lputi l s v x p :: h) =
      if p < x.length then some (fput fr d (.tup [.bool true, .int .i64 p, .int .i32 (decodeAt x p).1]), lputi l s v x (p + (decodeAt x p).2) :: h) else some (fput fr d (.tup [.bool false]), lputi l s v x p :: h) := by
  simp only [evO1, evOp, ha, hget_i, hput_i, Option.getD]
  by_cases hc : p < x.length
  · simp only [hc, if_true]; rfl
  · simp only [hc, if_false]; rfl
theorem dec_low (s : List UInt8) (i : Nat) (h : i < s.length) (hc : (s.getD i 0).toNat < 128) : decodeAt s i = ((s.getD i 0).toNat, 1) := by
  have e : s.getD i 0 = s[i] := by simp [List.getD, h]
  rw [e] at hc ⊢
  exact Go.decode_ascii ⟨s.toArray⟩ i h hc
theorem dec_high (s : List UInt8) (i : Nat) (h : i < s.length) (hc : 128 ≤ (s.getD i 0).toNat) : 128 ≤ (decodeAt s i).1 := by
  have e : s.getD i 0 = s[i] := by simp [List.getD, h]
  rw [e] at hc
  exact (Go.decode_high ⟨s.toArray⟩ i h hc).1
end Go.Proofs.YtjbgceogkgpjpaaGreatDoor.Sx
