/- SX, part Y: the evaluator's answers are the machine's. -/
import Derived.Test.YtpfollpbkpgglaaSxX
set_option linter.unusedVariables false
set_option linter.unusedSimpArgs false
namespace Go.Proofs.Ytpfollpbkpgglaa.Sx
open Go
section
variable {P : Program} {N : Nat} {G0 G : Gh} {w0 w : World} {sz : Nat} {df : List Deferred} {fr : List AV} {l : Level} {hp : Heap} {act : Act}
def outOf (ys : List Value) : Value := match ys with | [y] => y | ys => .tuple ys.toArray
structure Back (N : Nat) (G0 : Gh) (w0 : World) (hp : Heap) (G' : Gh) (w : World) (v : AV) (y : Value) : Prop where
  ext : Ext (fun b => ∃ l, G0.o l = some b) G0 w0 G' w
  valid : Valid G' w N
  rel : RelV G' w v y
  res : OwnOk G' w .res v y
  heap : RelHeap G' w hp
  mm : G'.m = G0.m
  own : ∀ l b, G'.o l = some b → (∃ l', G0.o l' = some b) ∨ w0.heap.size ≤ b
theorem back_of (hF : FInv (N + 1) G0 w0 sz df fr (l :: hp) G act w) (hv0 : Valid G0 w0 N) {bres ores : Option Nat} (hb : ∀ b, bres = some b → OwnLev N G b) (ho : ∀ b, ores = some b → (∃ t, G.o (.slot t) = some b) ∨ bres = some b)
    {v : AV} {y : Value} (h1 : RelV (closeG N G bres ores) w v y) (h2 : OwnOk (closeG N G bres ores) w .res v y) : Back N G0 w0 hp (closeG N G bres ores) w v y :=
  ⟨close_ext hF hv0 hb, close_valid hF hb ho, h1, h2, close_heap hF hb, close_mm hF hv0, fun _ _ h => close_own hF hv0 hb ho h⟩
theorem done1 (hF : FInv (N + 1) G0 w0 sz df fr (l :: hp) G act w) (hv0 : Valid G0 w0 N) {u v : AV} {y : Value} (hs : shut (l :: hp) N shutDepth u = some v) (hr : RelV G w u y) : ∃ G', Back N G0 w0 hp G' w v y := by
  obtain ⟨h1, h2⟩ := shut_rel (close_shuts (ores := none) hF) shutDepth u v y hs hr
  exact ⟨_, back_of hF hv0 (bres := none) (ores := none) (fun _ h => by cases h) (fun _ h => by cases h) h1 (.of_noFlag h2)⟩
theorem done_tup (hF : FInv (N + 1) G0 w0 sz df fr (l :: hp) G act w) (hv0 : Valid G0 w0 N) {us : List AV} {v : AV} {ys : List Value} (hl : ys.length = us.length)
    (hr : ∀ (j : Nat) (u : AV) (y : Value), us[j]? = some u → ys[j]? = some y → RelV G w u y) (hs : (mapO (shut (l :: hp) N shutDepth) us).map .tup = some v) : ∃ G', Back N G0 w0 hp G' w v (.tuple ys.toArray) := by
  simp only [Option.map_eq_some_iff] at hs
  obtain ⟨cs, h1, rfl⟩ := hs
  obtain ⟨h2, h3⟩ := mapO_spec h1
  refine ⟨_, back_of hF hv0 (bres := none) (ores := none) (fun _ h => by cases h) (fun _ h => by cases h) (.tup cs ys.toArray (by simp [h2, hl]) fun j c y hc hy => ?_) (.of_noFlag trivial)⟩
  obtain ⟨u, h4, h5⟩ := h3 j c hc
  exact (shut_rel (close_shuts (ores := none) hF) shutDepth u c y h5 (hr j u y h4 (by simpa using hy))).1
theorem done (hF : FInv (N + 1) G0 w0 sz df fr (l :: hp) G act w) (hv0 : Valid G0 w0 N) {us : List AV} {v : AV} {ys : List Value} (hl : ys.length = us.length)
    (hr : ∀ (j : Nat) (u : AV) (y : Value), us[j]? = some u → ys[j]? = some y → RelV G w u y ∧ (noFlag u ∨ ∃ t, OwnOk G w (.slot t) u y)) (hs : retOf (l :: hp) N us = some v) : ∃ G', Back N G0 w0 hp G' w v (outOf ys) := by
  unfold retOf at hs
  split at hs
  · rename_i o z es
    injection hs with hs
    subst hs
    match ys, hl with
    | [y], _ =>
      obtain ⟨h1, h2⟩ := hr 0 _ y rfl rfl
      show ∃ G', Back N G0 w0 hp G' w _ y
      rcases h2 with h2 | ⟨t, h2⟩
      · exact ⟨_, back_of hF hv0 (bres := none) (ores := none) (fun _ h => by cases h) (fun _ h => by cases h) (h1.noRef2 (fun b _ h => close_st hF (fun _ h => by cases h) h) (fun b f _ h => close_gr hF (fun _ h => by cases h) h) rfl) (.of_noFlag h2)⟩
      · refine ⟨_, back_of hF hv0 (bres := none) (ores := G.o (.slot t)) (fun _ h => by cases h) (fun b h => .inl ⟨t, h⟩) (h1.noRef2 (fun b _ h => close_st hF (fun _ h => by cases h) h) (fun b f _ h => close_gr hF (fun _ h => by cases h) h) rfl) ?_⟩
        refine h2.mapG (fun b _ h => close_st hF (fun _ h => by cases h) h) (fun b f _ h => close_gr hF (fun _ h => by cases h) h) fun b hb => ⟨hb, ?_⟩
        refine close_k' hF.valid (fun _ h => by cases h) ?_
        rcases (hF.valid.ok _ _ hb).2 with ⟨f, h6⟩ | h6 <;> rw [h6] <;> simp
  · rename_i r z off len
    match ys, hl with
    | [y], _ =>
      obtain ⟨h1, _⟩ := hr 0 _ y rfl rfl
      show ∃ G', Back N G0 w0 hp G' w _ y
      split at hs
      · rename_i o2 z2 es hsh
        split at hs
        · rename_i hbare
          injection hs with hs
          subst hs
          obtain ⟨h3, h4⟩ := shut_rel (close_shuts (ores := none) hF) shutDepth _ _ y hsh h1
          have hlev : r.lev = N := by
            refine Classical.byContradiction fun hne => ?_
            simp only [shutDepth, shut] at hsh
            rw [if_neg hne] at hsh
            cases hsh
          obtain ⟨b, base, cap, rfl, hm, hcap, cs, T, fz, hc1, hc2⟩ := sl_form h1
          have hown : OwnLev N G b := ⟨r, base, hm, hlev⟩
          have hz2 : z2 = z := by
            simp only [shutDepth, shut] at hsh
            rw [if_pos hlev] at hsh
            split at hsh
            · split at hsh
              · split at hsh
                · injection hsh with hsh; injection hsh with _ e _; exact e.symm
                · cases hsh
              · cases hsh
            · cases hsh
          subst hz2
          obtain ⟨b', q, cap', X, e1, hl', _, hA⟩ := lst_form h3 (noFlag_lst h4).2
          injection e1 with e1 e2 e3
          injection e1 with e1
          injection e1 with e1 e4 e5
          subst e1 e2 e3 e4
          have hblk : ∃ ds, w.heap[b]? = some (.cells ds T (0, 0)) ∧ ds = cs := by
            have hcell : ∃ vs, cellsAt (l :: hp) r = some vs := by
              simp only [shutDepth, shut] at hsh
              rw [if_pos hlev] at hsh
              split at hsh
              · exact ⟨_, by assumption⟩
              · cases hsh
            obtain ⟨vs, hvs⟩ := hcell
            obtain ⟨ds, T', g1, _, _⟩ := hF.heap r b base _ hm (cellsAt_get hvs)
            rw [hc1] at g1
            injection g1 with g1
            injection g1 with g1 g2 g3
            subst g1 g2 g3
            exact ⟨_, hc1, rfl⟩
          obtain ⟨ds, hd1, rfl⟩ := hblk
          refine ⟨_, back_of hF hv0 (bres := some b) (ores := some b) (fun _ h => by injection h with h; subst h; exact hown) (fun c h => .inr h) (.uniq _ _ _) ?_⟩
          refine ⟨b, base + off, cap, rfl, hl', rfl, ⟨ds, T, (0, 0), hd1, hc2, fun i _ _ h => Nat.not_lt_zero _ h.2⟩, (fun h => by cases h), fun _ => ⟨by simp [closeG], ⟨ds, T, hd1⟩, X, hA.hz, fun i e j u hi hj => ?_⟩⟩
          have hbu : bareV u = true := List.all_eq_true.1 (List.all_eq_true.1 hbare e (List.mem_of_getElem? hi)) u (List.mem_of_getElem? hj)
          exact ⟨bare_free hbu, hA.hx i e j u hi hj, bare_rel hbu (hA.hr i e j u hi hj)⟩
        · cases hs
      · cases hs
  · rename_i u _ _
    match ys, hl with
    | [y], _ => exact done1 hF hv0 hs (hr 0 _ y rfl rfl).1
  · rename_i h1 h2 h3
    have e : outOf ys = .tuple ys.toArray := by
      match ys, hl with
      | [], _ => rfl
      | [y], hl =>
        match us, hl with
        | [u], _ => exact absurd rfl (h3 u)
      | _ :: _ :: _, _ => rfl
    rw [e]
    exact done_tup hF hv0 hl (fun j u y hu hy => (hr j u y hu hy).1) hs
theorem results_gen (rs : Array ResultVar) (f : ResultVar → Sem Value) (hf : ∀ t, f t = resRun act t) :
    (do let vs ← rs.mapM f; pure (if h : vs.size = 1 then vs[0] else Value.tuple vs) : Sem Value).run P w = ((rs.toList.mapM (resRun act)).run P w).andThen fun ys w => .ok (outOf ys) w := by
  rw [show f = resRun act from funext hf, Array.mapM_eq_mapM_toList]
  simp only [Sem.run_bind, Sem.run_map]
  cases (rs.toList.mapM (resRun act)).run P w with
  | halt x w' => rfl
  | ok ys w' =>
    simp only [Result.andThen_ok, Sem.run_pure]
    congr 1
    match ys with
    | [] => rfl
    | [y] => rfl
    | _ :: _ :: _ => simp [outOf]
theorem run_results {fn : Func} (hF : FInv (N + 1) G0 w0 sz df fr (l :: hp) G act w) {xs : List XRes} (hc : chkRes P xs fn.results.toList = true) {us : List AV} (he : evResL ⟨fr, l :: hp⟩ xs = some us) :
    ∃ ys : List Value, (results fn act.tmps).run P w = .ok (outOf ys) w ∧ ys.length = us.length ∧ ∀ (j : Nat) (v : AV) (y : Value), us[j]? = some v → ys[j]? = some y → RelV G w v y ∧ (noFlag v ∨ ∃ t, OwnOk G w (.slot t) v y) := by
  obtain ⟨ys, h1, h2, h3⟩ := run_res (gl := fun _ => []) hF hc he
  refine ⟨ys, ?_, h2, h3⟩
  have h4 : (results fn act.tmps).run P w = ((fn.results.toList.mapM (resRun act)).run P w).andThen fun ys w => .ok (outOf ys) w :=
    results_gen fn.results _ (fun t => by cases t <;> rfl)
  rw [h4, h1]
  rfl
end
/-- What is checked of a list of functions. -/
def Checked0 (P : Program) (prims : List (Nat × Nat)) (X : List (Option XFn)) : Prop :=
  ∀ (f : Nat) (x : XFn), X[f]? = some (some x) → ∃ F, P.funcs[f]? = some F ∧ chkFn P prims x F = true ∧ supCode x.body = true
theorem evCall_ok {P : Program} {prims : List (Nat × Nat)} {X : List (Option XFn)} {gl : Nat → List AV} (hX : Checked0 P prims X) (hP : PrimOk P prims) (hmix : P.follows .mixedOrders = true) : ∀ n, CallOk P gl (evCall X gl n)
  | 0 => fun f args hp v hp' h => by cases h
  | n + 1 => by
    intro f args hp v hp' h G0 w0 xs hv0 hlen hargs hH hg
    simp only [evCall] at h
    split at h
    · rename_i x hx
      obtain ⟨F, hF, hchk, hsup⟩ := hX f x hx
      simp only [chkFn, Bool.and_eq_true, beq_iff_eq] at hchk
      obtain ⟨⟨⟨hname, hnt⟩, hres⟩, hbody⟩ := hchk
      split at hbody
      · rename_i c hc
        have hv1 : Valid G0 w0 (hp.length + 1) := ⟨fun r x h => Nat.lt_succ_of_lt (hv0.lev r x h), hv0.inj, hv0.mkk, hv0.oinj, hv0.ok⟩
        let act : Act := { tmps := xs ++ Array.replicate (F.ntmps - xs.size) undef, defers := [] }
        have hinit : FInv (hp.length + 1) G0 w0 act.tmps.size [] args ([] :: hp) G0 act w0 := {
          valid := hv1
          size := rfl
          defers := rfl
          slot := fun t => by
            unfold RelS
            rcases Nat.lt_or_ge t args.length with hlt | hge
            · have e1 : args[t]? = some (fget args t) := by
                clear hargs h hlen act
                induction args generalizing t with
                | nil => simp at hlt
                | cons a l ih =>
                  cases t with
                  | zero => rfl
                  | succ t => simpa [fget] using ih t (by simpa using hlt)
              have e2 : xs[t]? = some (act.tmps.getD t undef) := by
                have ht : t < xs.size := by omega
                simp [act, Array.getElem?_append, ht]
              exact hargs t _ _ e1 e2
            · have e1 : fget args t = .undef := by
                clear hargs h hlen act
                induction args generalizing t with
                | nil => exact fget_nil t
                | cons a l ih =>
                  cases t with
                  | zero => simp at hge
                  | succ t => simpa [fget] using ih t (by simpa using hge)
              rw [e1]
              exact ⟨.undef _, .of_noFlag trivial⟩
          heap := fun r b base blk hm hb => by
            refine hH r b base blk hm ?_
            simp only [hget] at hb
            split at hb
            · simp [lget] at hb
            · exact hb
          names := fun r h1 h2 => by
            obtain ⟨a, ha⟩ := Option.ne_none_iff_exists'.1 h1
            have := hv0.lev r a ha
            omega
          ext := .refl _ _ _
          own := fun l b h => .inl ⟨l, h⟩
          fresh := fun r b base h => .inl h
          low := fun r h => .inl h
          hN := rfl }
        have hsz : F.ntmps ≤ act.tmps.size := by
          simp [act]; omega
        have fin : ∀ {s : St}, finish s x.results = some (v, hp') → ∀ {G : Gh} {a : Act} {w : World}, FInv (hp.length + 1) G0 w0 act.tmps.size [] s.fr s.hp G a w →
            a.defers = [] ∧ ∃ z, (results F a.tmps).run P w = .ok z w ∧ ∃ G', Back hp.length G0 w0 hp' G' w v z := by
          intro s hs G a w hI
          obtain ⟨fr, shp⟩ := s
          cases shp with
          | nil => simp [finish] at hs
          | cons l hp2 =>
            have hl2 : hp2.length = hp.length := by have := hI.hN; simpa using this
            simp only [finish] at hs
            split at hs
            · rename_i us hus
              split at hs
              · rename_i v' hv'
                injection hs with hs
                injection hs with hs1 hs2
                subst hs1 hs2
                rw [hl2] at hv'
                obtain ⟨ys, h1, h2, h3⟩ := run_results hI hres hus
                exact ⟨hI.defers, _, h1, done hI hv0 h2 h3 hv'⟩
              · cases hs
            · cases hs
        refine ⟨by unfold bodied; rw [hF]; simp only [hc, Option.isSome_some, Bool.true_and]; exact hname, ?_⟩
        refine calls_of_wp hF hc ?_
        have hg1 : GlOk G0 w0 gl := hg
        split at h
        · rename_i s hev
          refine wp_code (evCall_ok hX hP hmix n) hP hg1 hv1 hmix hsz n x.body c (by rw [← hnt] at *; exact hbody) hsup hev hinit fun G' a' w' hI => ?_
          obtain ⟨h1, z, h2, G2, h3⟩ := fin h hI
          exact ⟨h1, z, h2, z, G2, rfl, h3.ext, h3.valid, h3.rel, h3.res, h3.heap, h3.mm, h3.own⟩
        · rename_i s hev
          refine wp_code (evCall_ok hX hP hmix n) hP hg1 hv1 hmix hsz n x.body c (by rw [← hnt] at *; exact hbody) hsup hev hinit fun G' a' w' hI => ?_
          obtain ⟨h1, z, h2, G2, h3⟩ := fin h hI
          exact ⟨h1, z, h2, z, G2, rfl, h3.ext, h3.valid, h3.rel, h3.res, h3.heap, h3.mm, h3.own⟩
        · cases h
      · cases hbody
    · cases h
end Go.Proofs.Ytpfollpbkpgglaa.Sx
