/- EV, part S: slices of slices, lists that become blocks, calls that are handed one. -/
import Derived.Test.YtnmaahfipddkmaaGreatEvP
set_option linter.unusedVariables false
set_option linter.unusedSimpArgs false
namespace Go.Proofs.YtnmaahfipddkmaaGreat.Sx
open Go
def sslK (z : Nat) (v : AV) (lo hi mx : Option AV) : Option AV := match v with
  | .nilsl => match mx, optNat lo 0, optNat hi 0 with
    | none, some 0, some 0 => some .nilsl
    | _, _, _ => none
  | .lst o z' es => match optNat lo 0, optNat hi es.length with
    | some l, some h =>
      if z' = z ∧ l ≤ h ∧ h ≤ es.length then
        match mx with
        | none => some (.lst (if o = .tight ∧ hi.isNone then .tight else .none) z ((es.take h).drop l))
        | some m => if optNat (some m) 0 = some h ∧ es ≠ [] then some (.lst .tight z ((es.take h).drop l)) else none
      else none
    | _, _ => none
  | .sl r z' off len => match mx, optNat lo 0, optNat hi len with
    | none, some l, some h => if z' = z ∧ l ≤ h ∧ h ≤ len ∧ (l < len ∨ l = 0) then some (.sl r z (off + l * z) (h - l)) else none
    | _, _, _ => none
  | _ => none
theorem o_ssl {C : CallT} {gl : Nat → List AV} (d z : Nat) (a : XArg) (lo hi mx : Option XArg) (fr : List AV) (hp : Heap) :
    evO1 C gl (some d) (.ssl z a lo hi mx) fr hp = vK (sslK z (earg fr a) (lo.map (earg fr)) (hi.map (earg fr)) (mx.map (earg fr))) (fun v => some (fput fr d v, hp)) := by
  simp only [evO1, evOp, sslK]
  cases earg fr a with
  | nilsl =>
    cases mx <;> rcases optNat (lo.map (earg fr)) 0 with _ | _ | l <;> rcases optNat (hi.map (earg fr)) 0 with _ | _ | h <;> rfl
  | lst o z' es =>
    simp only
    cases optNat (lo.map (earg fr)) 0 <;> cases optNat (hi.map (earg fr)) es.length <;> try rfl
    rename_i l h
    simp only
    by_cases hc : z' = z ∧ l ≤ h ∧ h ≤ es.length
    · simp only [if_pos hc]
      cases mx with
      | none => cases hi <;> rfl
      | some m =>
        simp only [Option.map_some]
        by_cases h2 : optNat (some (earg fr m)) 0 = some h ∧ es ≠ []
        · simp only [if_pos h2]; rfl
        · simp only [if_neg h2]; rfl
    · simp only [if_neg hc]; rfl
  | sl r z' off len =>
    simp only
    cases mx with
    | some m => rfl
    | none =>
      cases optNat (lo.map (earg fr)) 0 <;> cases optNat (hi.map (earg fr)) len <;> try rfl
      rename_i l h
      simp only [Option.map_none]
      by_cases hc : z' = z ∧ l ≤ h ∧ h ≤ len ∧ (l < len ∨ l = 0)
      · simp only [if_pos hc]; rfl
      · simp only [if_neg hc]; rfl
  | _ => rfl
theorem sslK_lo (z z' : Nat) (es : List (List AV)) (k : IntKind) (l : Nat) : sslK z (.lst .none z' es) (some (.int k (l : Int))) none none = if z' = z ∧ l ≤ es.length then some (.lst .none z (es.drop l)) else none := by
  simp [sslK, optNat]
theorem sslK_lo1 (z z' : Nat) (es : List (List AV)) (k : IntKind) : sslK z (.lst .none z' es) (some (.int k 1)) none none = if z' = z ∧ 1 ≤ es.length then some (.lst .none z (es.drop 1)) else none := sslK_lo z z' es k 1
theorem sslK_hi (z z' : Nat) (o : Own) (es : List (List AV)) (k : IntKind) (l : Nat) : sslK z (.lst o z' es) none (some (.int k (l : Int))) none = if z' = z ∧ l ≤ es.length then some (.lst .none z (es.take l)) else none := by
  simp [sslK, optNat]
theorem sslK_slo (z z' off len : Nat) (r : Ref) (k : IntKind) (l : Nat) : sslK z (.sl r z' off len) (some (.int k (l : Int))) none none = if z' = z ∧ l ≤ len ∧ (l < len ∨ l = 0) then some (.sl r z (off + l * z) (len - l)) else none := by
  simp [sslK, optNat]
theorem sslK_shi (z z' off len : Nat) (r : Ref) (k : IntKind) (h : Nat) : sslK z (.sl r z' off len) none (some (.int k (h : Int))) none = if z' = z ∧ h ≤ len then some (.sl r z off h) else none := by
  simp [sslK, optNat]
theorem sslK_nil_hi (z : Nat) (k : IntKind) : sslK z .nilsl none (some (.int k 0)) none = some .nilsl := by simp [sslK, optNat]
theorem sslK_nil_lo (z : Nat) (k : IntKind) : sslK z .nilsl (some (.int k 0)) none none = some .nilsl := by simp [sslK, optNat]
theorem sslK_hi0 (z z' : Nat) (o : Own) (es : List (List AV)) (k : IntKind) : sslK z (.lst o z' es) none (some (.int k 0)) none = if z' = z then some (.lst .none z []) else none := by simp [sslK, optNat]
theorem sslK_lo00 (z z' : Nat) (es : List (List AV)) (k : IntKind) : sslK z (.lst .none z' es) (some (.int k 0)) none none = if z' = z then some (.lst .none z es) else none := by simp [sslK, optNat]
def clrK (hp : Heap) (z : Nat) (zero : List AV) (v : AV) : Option Heap := match v with
  | .nilsl => some hp
  | .sl r z' off len => if z' = z ∧ zero.length = z then stAt hp (.ptr r off) (List.replicate len zero).flatten else none
  | .lst _ _ [] => some hp
  | _ => none
theorem o_clr {C : CallT} {gl : Nat → List AV} (z : Nat) (zero : List AV) (a : XArg) (fr : List AV) (hp : Heap) : evO1 C gl none (.clr z zero a) fr hp = hK (clrK hp z zero (earg fr a)) (fun hp' => some (fr, hp')) := by
  simp only [evO1, evOp, clrK]
  cases earg fr a with
  | nilsl => rfl
  | sl r z' off len =>
    simp only
    by_cases hc : z' = z ∧ zero.length = z
    · simp only [if_pos hc]
      cases stAt hp (.ptr r off) (List.replicate len zero).flatten <;> rfl
    · simp only [if_neg hc]; rfl
  | lst o z' es => cases es <;> rfl
  | _ => rfl
theorem clrK_sl (hp : Heap) (z : Nat) (zero : List AV) (r : Ref) (z' off len : Nat) : clrK hp z zero (.sl r z' off len) = if z' = z ∧ zero.length = z then stAt hp (.ptr r off) (List.replicate len zero).flatten else none := rfl
def thwK (d s : Nat) (fr : List AV) (l : Level) (h : Heap) (v : AV) : Option (List AV × Heap) := match v with
  | .lst .uniq z es => if z < 1000 then if es.all (fun e => e.all bareV) = true then some (fput (fput fr s (.sl ⟨h.length, d, nextVer l d⟩ z 0 es.length)) d (.sl ⟨h.length, d, nextVer l d⟩ z 0 es.length), lputc l d (nextVer l d) es.flatten :: h) else none else none
  | .sl r z off len => some (fput fr d (.sl r z off len), l :: h)
  | .nilsl => some (fput fr d .nilsl, l :: h)
  | _ => none
theorem o_thw {C : CallT} {gl : Nat → List AV} (d s : Nat) (fr : List AV) (l : Level) (h : Heap) : evO1 C gl (some d) (.thw s) fr (l :: h) = thwK d s fr l h (fget fr s) := by
  simp only [evO1, evOp, thwK, mkBlk, Option.getD]
  cases fget fr s with
  | lst o z es =>
    cases o with
    | uniq =>
      simp only
      by_cases hz : z < 1000
      · simp only [if_pos hz]
        by_cases hc : es.all (fun e => e.all bareV) = true
        · simp only [if_pos hc]; rfl
        · simp only [if_neg hc]
      · simp only [if_neg hz]
    | _ => rfl
  | _ => rfl
theorem thwK_uniq (d s : Nat) (fr : List AV) (l : Level) (h : Heap) (z : Nat) (es : List (List AV)) : thwK d s fr l h (.lst .uniq z es) =
    if z < 1000 then if es.all (fun e => e.all bareV) = true then some (fput (fput fr s (.sl ⟨h.length, d, nextVer l d⟩ z 0 es.length)) d (.sl ⟨h.length, d, nextVer l d⟩ z 0 es.length), lputc l d (nextVer l d) es.flatten :: h) else none else none := rfl
theorem thwK_sl (d s : Nat) (fr : List AV) (l : Level) (h : Heap) (r : Ref) (z off len : Nat) : thwK d s fr l h (.sl r z off len) = some (fput fr d (.sl r z off len), l :: h) := rfl
theorem thwK_nil (d s : Nat) (fr : List AV) (l : Level) (h : Heap) : thwK d s fr l h .nilsl = some (fput fr d .nilsl, l :: h) := rfl
theorem o_callm {C : CallT} {gl : Nat → List AV} (d f s : Nat) (as : List XArg) (fr : List AV) (hp : Heap) : evO1 C gl (some d) (.callm f s as) fr hp = cwK hp d (drop1K (fget fr s) fr s) (C f (fget fr s :: eargs fr as) hp) := by
  simp only [evO1, evOp, cwK]
  cases C f (fget fr s :: eargs fr as) hp with
  | none => rfl
  | some q =>
    obtain ⟨v, hp'⟩ := q
    simp only
    by_cases hs : sameTop hp hp' = true
    · simp only [if_pos hs]; rfl
    · simp only [if_neg hs]
def primmK (d s id : Nat) (fr : List AV) (hp : Heap) (v : AV) : Option (List AV × Heap) := match v with
  | .lst .uniq z es => if z = 1 then (match primM id es with | some es' => some (fput (fput fr s .undef) d (.lst .uniq 1 es'), hp) | none => none) else none
  | .nilsl => match primM id [] with | some _ => some (fput fr d .nilsl, hp) | none => none
  | _ => none
theorem o_primm {C : CallT} {gl : Nat → List AV} (d id f s : Nat) (fr : List AV) (hp : Heap) : evO1 C gl (some d) (.primm id f s) fr hp = primmK d s id fr hp (fget fr s) := by
  simp only [evO1, evOp, primmK]
  cases h : fget fr s with
  | lst o z es =>
    cases o with
    | uniq =>
      simp only
      by_cases hc : z = 1
      · simp only [if_pos hc]
        cases primM id es <;> simp [fin1, drop1, h]
      · simp only [if_neg hc]
    | _ => rfl
  | nilsl =>
    simp only
    cases primM id [] <;> rfl
  | _ => rfl
theorem primmK_uniq (d s id : Nat) (fr : List AV) (hp : Heap) (es : List (List AV)) : primmK d s id fr hp (.lst .uniq 1 es) = (match primM id es with | some es' => some (fput (fput fr s .undef) d (.lst .uniq 1 es'), hp) | none => none) := by simp [primmK]
theorem primmK_nil (d s id : Nat) (fr : List AV) (hp : Heap) : primmK d s id fr hp .nilsl = (match primM id [] with | some _ => some (fput fr d .nilsl, hp) | none => none) := rfl
def owndK (v : AV) : Option AV := match v with | .lst .uniq z es => if z < 1000 then some (.lst .own z es) else none | v => some v
theorem o_ownd {C : CallT} {gl : Nat → List AV} (d s : Nat) (fr : List AV) (hp : Heap) : evO1 C gl (some d) (.ownd s) fr hp = vK (owndK (fget fr s)) (fun v => some (fput (drop1K (fget fr s) fr s) d v, hp)) := by
  simp only [evO1, evOp, owndK, fin1, drop1_tmp]
  cases fget fr s with
  | lst o z es =>
    cases o with
    | uniq => by_cases hz : z < 1000 <;> simp [hz, vK]
    | _ => rfl
  | _ => rfl
def ownlK (d s : Nat) (fr : List AV) (hp : Heap) (v : AV) : Option (List AV × Heap) := match v with
  | .lst .uniq z es => if z < 1000 then some (fput (fput fr s (.lenv es.length)) d (.lst .uniq z es), hp) else none
  | v => some (fput (drop1K v fr s) d v, hp)
theorem o_ownl {C : CallT} {gl : Nat → List AV} (d s : Nat) (fr : List AV) (hp : Heap) : evO1 C gl (some d) (.ownl s) fr hp = ownlK d s fr hp (fget fr s) := by
  simp only [evO1, evOp, ownlK, fin1, drop1_tmp]
  cases fget fr s with
  | lst o z es =>
    cases o with
    | uniq => by_cases hz : z < 1000 <;> simp [hz]
    | _ => rfl
  | _ => rfl
theorem ownlK_uniq (d s : Nat) (fr : List AV) (hp : Heap) (z : Nat) (es : List (List AV)) : ownlK d s fr hp (.lst .uniq z es) = if z < 1000 then some (fput (fput fr s (.lenv es.length)) d (.lst .uniq z es), hp) else none := rfl
theorem ownlK_nil (d s : Nat) (fr : List AV) (hp : Heap) : ownlK d s fr hp .nilsl = some (fput fr d .nilsl, hp) := rfl
theorem iaddrK_sl (z : Nat) (r : Ref) (z' off len k : Nat) : iaddrK z (.sl r z' off len) (some k) = if z' = z ∧ k < len then some (.ptr r (off + k * z)) else none := rfl
theorem lensK_sl (r : Ref) (z off len : Nat) : lensK false (.sl r z off len) = some (.int .i64 len) := rfl
theorem uf_sl (r : Ref) (z off len : Nat) : uf (.sl r z off len) = .sl r z off len := rfl
theorem drop1K_sl (r : Ref) (z off len : Nat) (fr : List AV) (t : Nat) : drop1K (.sl r z off len) fr t = fr := rfl
theorem o_mkfn {C : CallT} {gl : Nat → List AV} (d f : Nat) (ds cs : List XArg) (fr : List AV) (hp : Heap) : evO1 C gl (some d) (.mkfn f ds cs) fr hp = some (fput fr d (.fn f (eargs fr ds) (eargs fr cs)), hp) := rfl
def nckK (v : AV) : Option AV := match v with
  | .ptr r off => some (.ptr r off)
  | .elp cs => some (.elp cs)
  | .fn f ds cs => some (.fn f ds cs)
  | _ => none
theorem nckK_ptr (r : Ref) (off : Nat) : nckK (.ptr r off) = some (.ptr r off) := rfl
theorem nckK_elp (cs : List AV) : nckK (.elp cs) = some (.elp cs) := rfl
theorem o_nilck {C : CallT} {gl : Nat → List AV} (d : Nat) (a : XArg) (fr : List AV) (hp : Heap) : evO1 C gl (some d) (.nilck a) fr hp = vK (nckK (earg fr a)) (fun v => some (fput fr d v, hp)) := by
  simp only [evO1, evOp, nckK]
  cases earg fr a <;> rfl
theorem cwK_top {l : Level} {h h' : Heap} (hl : h'.length = h.length) (d : Nat) (fr : List AV) (v : AV) : cwK (l :: h) d fr (some (v, l :: h')) = some (fput fr d v, l :: h') := by
  simp [cwK, sameTop, sameVers_refl, hl]
theorem cwK_put {l : Level} {h : Heap} {s u : Nat} {cs0 : List AV} (hl : lcells l s u = some cs0) (d : Nat) (fr : List AV) (v : AV) (cs : List AV) : cwK (l :: h) d fr (some (v, lputc l s u cs :: h)) = some (fput fr d v, lputc l s u cs :: h) := by
  unfold lcells at hl
  cases hg : lget l s with
  | none => simp [hg] at hl
  | some p =>
    obtain ⟨w, b⟩ := p
    cases b with
    | iter x q => simp [hg] at hl
    | cells vs =>
      simp only [hg] at hl
      split at hl
      · rename_i e
        subst e
        simp [cwK, sameTop, lputc, sameVers_put hg]
      · cases hl
theorem shut_str_all (hp : Heap) (lev n : Nat) (ws : List (List UInt8)) : mapO (shut hp lev (n + 1)) (ws.map fun w => AV.str w) = some (ws.map fun w => AV.str w) := by
  induction ws with
  | nil => rfl
  | cons w ws ih => simp only [List.map_cons, mapO, ih]; rfl
theorem chunks1_str : ∀ ws : List (List UInt8), chunks 1 ws.length (ws.map fun w => AV.str w) = ws.map fun w => [AV.str w]
  | [] => rfl
  | w :: ws => by simp only [List.length_cons, chunks, List.map_cons, List.take_succ_cons, List.take_zero, List.drop_succ_cons, List.drop_zero, chunks1_str ws]
theorem refFreeL_strs : ∀ ws : List (List UInt8), refFreeL (ws.map fun w => AV.str w) = true
  | [] => by simp [refFreeL]
  | w :: ws => by simp [refFreeL, refFree, refFreeL_strs ws]
theorem shut_sl (hp : Heap) (lev n : Nat) (r : Ref) (z off len : Nat) : shut hp lev (n + 1) (.sl r z off len) = if r.lev = lev then
        match cellsAt hp r with
        | some vs => match mapO (shut hp lev n) ((vs.drop off).take (len * z)) with
          | some cs => if refFreeL cs = true ∧ off + len * z ≤ vs.length then some (.lst .none z (chunks z len cs)) else none
          | none => none
        | none => none
      else some (.sl r z off len) := rfl
theorem bare_strs (ws : List (List UInt8)) : (ws.map fun w => [AV.str w]).all (fun e => e.all bareV) = true := by
  simp [bareV]
theorem retOf_strs {l : Level} {h : Heap} {s u off len : Nat} {vs : List AV} {ws : List (List UInt8)} (hl : lcells l s u = some vs) (hv : (vs.drop off).take len = ws.map fun w => AV.str w) (hn : ws.length = len) (hfit : off + len ≤ vs.length) :
    retOf (l :: h) h.length [.sl ⟨h.length, s, u⟩ 1 off len] = some (.lst .uniq 1 (ws.map fun w => [AV.str w])) := by
  have hc : cellsAt (l :: h) ⟨h.length, s, u⟩ = some vs := by rw [cellsAt_top]; exact hl
  have hs : shut (l :: h) h.length shutDepth (.sl ⟨h.length, s, u⟩ 1 off len) = some (.lst .none 1 (ws.map fun w => [AV.str w])) := by
    rw [shut6, shut_sl, if_pos rfl, hc]
    simp only [Nat.mul_one]
    rw [hv, shut_str_all (l :: h) h.length 4 ws]
    simp only [refFreeL_strs, true_and, if_pos hfit]
    rw [← hn, chunks1_str]
  simp only [retOf, hs, bare_strs, true_and, Nat.reduceLT, and_self, if_true]
theorem o_callqd {C : CallT} {gl : Nat → List AV} (d f : Nat) (as : List XArg) (fr : List AV) (hp : Heap) : evO1 C gl (some d) (.callqd f as) fr hp =
    if refFreeL (eargs fr as) = true then callK (C f (eargs fr as) []) (fun v _ => some (fput fr d (demV v), hp)) else none := by
  simp only [evO1, evOp]
  by_cases hc : refFreeL (eargs fr as) = true
  · rw [if_pos hc, if_pos hc]
    cases C f (eargs fr as) [] <;> rfl
  · rw [if_neg hc, if_neg hc]
theorem demV_uniq (z : Nat) (es : List (List AV)) : demV (.lst .uniq z es) = if z < 1000 then .lst .own z es else .undef := rfl
theorem demV_nil : demV .nilsl = .nilsl := rfl
theorem demV_tight (z : Nat) (es : List (List AV)) : demV (.lst .tight z es) = .lst .none z es := rfl
def extmK (d s : Nat) (fr : List AV) (hp : Heap) (v : AV) : Option (List AV × Heap) := match v with
  | .lst .uniq z (cs :: es) => if 1000 ≤ z ∧ z < 2000 then some (fput (fput fr s (.tup (.undef :: cs))) d (.lst .uniq (z - 1000) es), hp) else none
  | .tup (c :: cs) => some (fput (fput fr s (.tup (c :: cs))) d (uf c), hp)
  | _ => none
theorem o_extm {C : CallT} {gl : Nat → List AV} (d s : Nat) (fr : List AV) (hp : Heap) : evO1 C gl (some d) (.extm s) fr hp = extmK d s fr hp (fget fr s) := by
  simp only [evO1, evOp, extmK]
  cases fget fr s with
  | lst o z es =>
    cases o with
    | uniq =>
      cases es with
      | nil => rfl
      | cons cs es => by_cases hz : 1000 ≤ z ∧ z < 2000 <;> simp [hz, fin1]
    | _ => rfl
  | tup l => cases l <;> rfl
  | _ => rfl
theorem extmK_held (d s : Nat) (fr : List AV) (hp : Heap) (z : Nat) (cs : List AV) (es : List (List AV)) : extmK d s fr hp (.lst .uniq z (cs :: es)) = if 1000 ≤ z ∧ z < 2000 then some (fput (fput fr s (.tup (.undef :: cs))) d (.lst .uniq (z - 1000) es), hp) else none := rfl
theorem extmK_tup (d s : Nat) (fr : List AV) (hp : Heap) (c : AV) (cs : List AV) : extmK d s fr hp (.tup (c :: cs)) = some (fput (fput fr s (.tup (c :: cs))) d (uf c), hp) := rfl
theorem stAt_topc {l : Level} {h : Heap} {n s v off : Nat} {vs : List AV} (hn : n = h.length) : stAt (l :: h) (.ptr ⟨n, s, v⟩ off) vs = stK l h s v off vs (lcells l s v) := by subst hn; exact stAt_top l h s v off vs
theorem ldAt_topc {gl : Nat → List AV} {l : Level} {h : Heap} {m s v off n : Nat} {agg : Bool} (hn : m = h.length) : ldAt gl (l :: h) (.ptr ⟨m, s, v⟩ off) n agg = ldK n agg off (lcells l s v) := by subst hn; exact ldAt_top gl l h s v off n agg
theorem cellsAt_topc {l : Level} {h : Heap} {m s v : Nat} (hn : m = h.length) : cellsAt (l :: h) ⟨m, s, v⟩ = lcells l s v := by subst hn; exact cellsAt_top l h s v
theorem bput_topc {l : Level} {h : Heap} {m s v : Nat} {cs : List AV} (hn : m = h.length) : bput (l :: h) ⟨m, s, v⟩ cs = lputc l s v cs :: h := by subst hn; exact bput_top l h s v cs
theorem retOf_none (hp : Heap) (lev : Nat) : retOf hp lev [] = some (.tup []) := rfl
attribute [go_sem] o_callqd demV_uniq demV_nil demV_tight retOf_none o_nilck nckK_ptr nckK_elp o_mkfn
end Go.Proofs.YtnmaahfipddkmaaGreat.Sx
