/- known, formed: which values can be stored. -/
import Derived.Test.YtldeokfhipjbfaaDoorH6
set_option linter.unusedVariables false
set_option linter.unusedSimpArgs false
namespace Go.Proofs.Vg
open Go Go.RowKit
def kindF (n : Int) : Option Value := if 1 ≤ n ∧ n ≤ 8 then some (.int .i64 n) else none
def rankL : List Value := [.int .i64 0, .int .i64 1, .int .i64 2, .int .i64 3, .int .i64 4, .int .i64 5, .int .i64 6, .int .i64 7, .int .i64 8, .int .i64 0]
/-- The package's variables. -/
structure Glob (w : World) (mk : Nat) : Prop where
  kc : w.cell? ⟨0, 0, none⟩ = some (.map (some mk))
  km : MapI w mk kindF
  rk : cellsAt w ⟨1, 0, none⟩ rankL
theorem Glob.ext {w w' : World} {mk : Nat} (h : Glob w mk) (he : Ext w w') : Glob w' mk := ⟨he.cell h.kc, h.km.ext he, he.cellsAt h.rk⟩
mutual
def knownV : Val → Bool
  | .mk k _ _ args => decide (1 ≤ k ∧ k ≤ 8) && knownVs args
def knownVs : List Val → Bool
  | [] => true
  | x :: xs => knownV x && knownVs xs
end
def wellV (k n : Int) (t : ByteArray) (len : Nat) : Bool :=
  if k = 1 ∨ k = 2 then decide (t = ⟨#[]⟩) && decide (len = 0)
  else if k = 3 then decide (n = 0) && decide (len = 0)
  else if k = 8 then decide (t = ⟨#[]⟩) && decide (0 ≤ n) && decide (len = 0)
  else if k = 7 then decide (t = ⟨#[]⟩) && decide (n = 0)
  else decide (t = ⟨#[]⟩) && decide (0 ≤ n)
mutual
def formedV : Val → Bool
  | .mk k n t args => wellV k n t args.length && formedVs args
def formedVs : List Val → Bool
  | [] => true
  | x :: xs => formedV x && formedVs xs
end
theorem knownVs_iff : ∀ (l : List Val), knownVs l = true ↔ ∀ (i : Nat) (x : Val), l[i]? = some x → knownV x = true
  | [] => by simp [knownVs]
  | x :: xs => by
    simp only [knownVs, Bool.and_eq_true, knownVs_iff xs]
    constructor
    · rintro ⟨h1, h2⟩ i y hy
      cases i with
      | zero => simp at hy; subst hy; exact h1
      | succ i => exact h2 i y (by simpa using hy)
    · intro h
      exact ⟨h 0 x rfl, fun i y hy => h (i + 1) y (by simpa using hy)⟩
theorem formedVs_iff : ∀ (l : List Val), formedVs l = true ↔ ∀ (i : Nat) (x : Val), l[i]? = some x → formedV x = true
  | [] => by simp [formedVs]
  | x :: xs => by
    simp only [formedVs, Bool.and_eq_true, formedVs_iff xs]
    constructor
    · rintro ⟨h1, h2⟩ i y hy
      cases i with
      | zero => simp at hy; subst hy; exact h1
      | succ i => exact h2 i y (by simpa using hy)
    · intro h
      exact ⟨h 0 x rfl, fun i y hy => h (i + 1) y (by simpa using hy)⟩
theorem VRow.len {w : World} {r : List Value} {x : Val} (h : VRow w r x) : r.length = 4 := by
  cases x; simp only [VRow] at h; obtain ⟨_, rfl, _⟩ := h; rfl
theorem VRow.one {w : World} {r : List Value} {x : Val} (h : VRow w r x) : ∀ u ∈ r, u.oneCell' = true := by
  cases x; simp only [VRow] at h
  obtain ⟨v, rfl, h1, h2, _⟩ := h
  intro u hu; simp at hu; rcases hu with rfl | rfl | rfl | rfl <;> first | rfl | exact h1
theorem VRow.cells {w : World} {r : List Value} {x : Val} (h : VRow w r x) : (Value.agg r.toArray).cells = r.toArray := rfl
def SliS (w : World) (S : Nat → Prop) (sz : Nat) (v : Value) (rows : List (List Value)) : Prop :=
  ∃ A c, v = .slice A rows.length c ∧ rows.length ≤ 140737488355328 ∧ ∀ (j : Nat) (row : List Value), rows[j]? = some row → ∃ b o, A = some ⟨b, o, none⟩ ∧ S b ∧ cellsAt w ⟨b, o + j * sz, none⟩ row
theorem SliS.sli {w : World} {S : Nat → Prop} {sz : Nat} {v : Value} {rows : List (List Value)} (h : SliS w S sz v rows) : Sli w sz v rows := by
  obtain ⟨A, c, h1, h2, h3⟩ := h
  exact ⟨A, c, h1, h2, fun j row hj => by obtain ⟨b, o, h4, _, h5⟩ := h3 j row hj; exact ⟨b, o, h4, h5⟩⟩
mutual
/-- Four cells that read as a value; what they lead to lies in 'S'. -/
def VRowS (w : World) (S : Nat → Prop) : List Value → Val → Prop
  | row, .mk k n t args => ∃ v, row = [.int .i64 k, .int .i64 n, .string t, v] ∧ v.oneCell' = true ∧ v.cells = #[v] ∧ ∃ rows, SliS w S 4 v rows ∧ VRowsS w S rows args
def VRowsS (w : World) (S : Nat → Prop) : List (List Value) → List Val → Prop
  | [], [] => True
  | r :: rs, x :: xs => VRowS w S r x ∧ VRowsS w S rs xs
  | _, _ => False
end
mutual
theorem VRowS.row {w : World} {S : Nat → Prop} : ∀ (row : List Value) (x : Val), VRowS w S row x → VRow w row x
  | row, .mk k n t args, h => by
    simp only [VRowS] at h
    simp only [VRow]
    obtain ⟨v, h1, h2, h3, rows, h4, h5⟩ := h
    exact ⟨v, h1, h2, h3, rows, h4.sli, VRowsS.rows rows args h5⟩
theorem VRowsS.rows {w : World} {S : Nat → Prop} : ∀ (rows : List (List Value)) (xs : List Val), VRowsS w S rows xs → VRows w rows xs
  | [], [], _ => by simp only [VRows]
  | r :: rs, x :: xs, h => by
    simp only [VRowsS] at h
    simp only [VRows]
    exact ⟨VRowS.row r x h.1, VRowsS.rows rs xs h.2⟩
  | [], _ :: _, h => by simp [VRowsS] at h
  | _ :: _, [], h => by simp [VRowsS] at h
end
mutual
theorem VRowS.chg {w w' : World} {S S' T : Nat → Prop} (hc : Chg T w w') (hs : ∀ k, S k → S' k ∧ ¬ T k) : ∀ (row : List Value) (x : Val), VRowS w S row x → VRowS w' S' row x
  | row, .mk k n t args, h => by
    simp only [VRowS] at h ⊢
    obtain ⟨v, h1, h2, h3, rows, ⟨A, c, h6, h7, h8⟩, h5⟩ := h
    refine ⟨v, h1, h2, h3, rows, ⟨A, c, h6, h7, fun j row hj => ?_⟩, VRowsS.chg hc hs rows args h5⟩
    obtain ⟨b, o, h9, h10, h11⟩ := h8 j row hj
    exact ⟨b, o, h9, (hs b h10).1, hc.cellsAt h11 (hs b h10).2⟩
theorem VRowsS.chg {w w' : World} {S S' T : Nat → Prop} (hc : Chg T w w') (hs : ∀ k, S k → S' k ∧ ¬ T k) : ∀ (rows : List (List Value)) (xs : List Val), VRowsS w S rows xs → VRowsS w' S' rows xs
  | [], [], _ => by simp only [VRowsS]
  | r :: rs, x :: xs, h => by
    simp only [VRowsS] at h ⊢
    exact ⟨VRowS.chg hc hs r x h.1, VRowsS.chg hc hs rs xs h.2⟩
  | [], _ :: _, h => by simp [VRowsS] at h
  | _ :: _, [], h => by simp [VRowsS] at h
end
theorem VRowsS.snoc {w : World} {S : Nat → Prop} {r : List Value} {x : Val} : ∀ (rows : List (List Value)) (xs : List Val), VRowsS w S rows xs → VRowS w S r x → VRowsS w S (rows ++ [r]) (xs ++ [x])
  | [], [], _, h => by simp only [List.nil_append, VRowsS]; exact ⟨h, trivial⟩
  | r' :: rs, x' :: xs, h, h' => by
    simp only [List.cons_append, VRowsS] at h ⊢
    exact ⟨h.1, VRowsS.snoc rs xs h.2 h'⟩
  | [], _ :: _, h, _ => by simp [VRowsS] at h
  | _ :: _, [], h, _ => by simp [VRowsS] at h
theorem VRowsS.length {w : World} {S : Nat → Prop} {rows : List (List Value)} {xs : List Val} (h : VRowsS w S rows xs) : rows.length = xs.length := (VRowsS.rows rows xs h).length
theorem VRowsS.len4 {w : World} {S : Nat → Prop} : ∀ (rows : List (List Value)) (xs : List Val), VRowsS w S rows xs → ∀ r ∈ rows, r.length = 4
  | [], [], _ => by simp
  | r' :: rs, x' :: xs, h => by
    simp only [VRowsS] at h
    intro r hr
    rcases List.mem_cons.1 hr with rfl | hr
    · exact (VRowS.row _ _ h.1).len
    · exact VRowsS.len4 rs xs h.2 r hr
  | [], _ :: _, h => by simp [VRowsS] at h
  | _ :: _, [], h => by simp [VRowsS] at h
mutual
/-- What reads leads below the world's size. -/
theorem VRow.toS {w : World} : ∀ (row : List Value) (x : Val), VRow w row x → VRowS w (fun k => k < w.heap.size) row x
  | row, .mk k n t args, h => by
    simp only [VRow] at h
    simp only [VRowS]
    obtain ⟨v, h1, h2, h3, rows, ⟨A, c, h6, h7, h8⟩, h5⟩ := h
    refine ⟨v, h1, h2, h3, rows, ⟨A, c, h6, h7, fun j row hj => ?_⟩, VRows.toS rows args h5⟩
    obtain ⟨b, o, h9, h10⟩ := h8 j row hj
    refine ⟨b, o, h9, ?_, h10⟩
    have hjl : j < args.length := by have := (List.getElem?_eq_some_iff.1 hj).1; rw [← VRows.length h5]; exact this
    obtain ⟨r, hr, hv⟩ := VRows.get h5 j _ (List.getElem?_eq_getElem hjl)
    rw [hj] at hr; cases hr
    have hl := hv.len
    have hc := h10 0 (row[0]'(by omega)) (List.getElem?_eq_getElem _)
    have := World.block_lt_of_cell? w _ hc
    simpa [add_at] using this
theorem VRows.toS {w : World} : ∀ (rows : List (List Value)) (xs : List Val), VRows w rows xs → VRowsS w (fun k => k < w.heap.size) rows xs
  | [], [], _ => by simp only [VRowsS]
  | r :: rs, x :: xs, h => by
    simp only [VRows] at h
    simp only [VRowsS]
    exact ⟨VRow.toS r x h.1, VRows.toS rs xs h.2⟩
  | [], _ :: _, h => by simp [VRows] at h
  | _ :: _, [], h => by simp [VRows] at h
end
theorem VRowsS.get {w : World} {S : Nat → Prop} : ∀ {rows : List (List Value)} {xs : List Val}, VRowsS w S rows xs → ∀ (i : Nat) (x : Val), xs[i]? = some x → ∃ r, rows[i]? = some r ∧ VRowS w S r x
  | [], [], _, i, x, hx => by simp at hx
  | r :: rs, y :: xs, h, i, x, hx => by
    simp only [VRowsS] at h
    cases i with
    | zero => simp at hx; subst hx; exact ⟨r, rfl, h.1⟩
    | succ i => exact VRowsS.get h.2 i x (by simpa using hx)
  | [], _ :: _, h, _, _, _ => by simp [VRowsS] at h
  | _ :: _, [], h, _, _, _ => by simp [VRowsS] at h
theorem VRowS.ext {w w' : World} {S : Nat → Prop} {row : List Value} {x : Val} (h : VRowS w S row x) (he : Ext w w') : VRowS w' S row x := VRowS.chg (he.chg (fun _ => False)) (fun k hk => ⟨hk, id⟩) row x h
theorem Glob.chg {w w' : World} {mk : Nat} {T : Nat → Prop} (h : Glob w mk) (hc : Chg T w w') (h0 : ¬ T 0) (h1 : ¬ T 1) (hm : ¬ T mk) : Glob w' mk := ⟨hc.cell h.kc h0, h.km.chg hc hm, hc.cellsAt h.rk h1⟩
theorem Glob.lt {w : World} {mk : Nat} (h : Glob w mk) : 0 < w.heap.size ∧ 1 < w.heap.size ∧ mk < w.heap.size :=
  ⟨World.block_lt_of_cell? w _ h.kc, by have := World.block_lt_of_cell? w _ (h.rk 0 _ rfl); simpa [add_at] using this, h.km.lt⟩
end Go.Proofs.Vg
namespace Go.Proofs.YtldeokfhipjbfaaDoor
open Go Go.Proofs.Vg Go.RowKit

-- -- function 26
set_option maxHeartbeats 2000000 in
set_option maxRecDepth 8000 in
theorem known_ok : ∀ (m : Nat) (x : Val) (w : World) (r : List Value) (mk : Nat), SizeOf.sizeOf x ≤ m → VRow w r x → Glob w mk → Rets Tryd.prog 26 [.agg r.toArray] w (fun v w' => v = .int .i64 (if knownV x then 0 else 3) ∧ Ext w w') := by
  intro m
  induction m with
  | zero => intro x w r mk hm; cases x; simp at hm
  | succ m ih =>
    rintro ⟨k, n, t, a⟩ w r mk hm hr hg
    simp only [VRow] at hr
    obtain ⟨v, rfl, hv1, hv2, rows, hsl, hrows⟩ := hr
    obtain ⟨A, cp, rfl, hlen, hcell⟩ := hsl
    have hl := hrows.length
    refine rets_of_ok Tryd.func26 rfl rfl ?_
    refine ok_seq (fun M hM => ok_region rfl ?_)
    repeat ((try first | (refine ofX3 hX ?_; clear hX X) | (refine ofX2 hX ?_; clear hX X)); (first | refine wpL_step (fun X hX => ?_) | refine wpH_step (fun X hX => ?_) | refine wpE_step (fun X hX => ?_) | refine wpL_end ?_ | refine wpH_end ?_ | refine wpE_end ?_); try simp only [ oweC, oweP, opF, opH, ev, evs, evp, evo, Env.get, Env.set, putE, gdst, S0, S1, thenN, inBlockN, argEnv, builtinR, retE, fin, callR, reduceIte, Nat.reduceEqDiff, Nat.reduceAdd, reduceCtorEq, forall_const, Tryd.results26, Fx.ag22, Fx.ag24, Fx.ag3, Fx.ag85, Fx.es22, Fx.fo24_0, Fx.fo24_3, Fx.isl22])
    refine Runs.box (fun w1 he1 hz1 hb1 => ?_)
    generalize hB1 : w.heap.size = B1 at hz1 hb1
    simp only [Value.cells] at hb1
    repeat ((try first | (refine ofX3 hX ?_; clear hX X) | (refine ofX2 hX ?_; clear hX X)); (first | refine wpL_step (fun X hX => ?_) | refine wpH_step (fun X hX => ?_) | refine wpE_step (fun X hX => ?_) | refine wpL_end ?_ | refine wpH_end ?_ | refine wpE_end ?_); try simp only [ oweC, oweP, opF, opH, ev, evs, evp, evo, Env.get, Env.set, putE, gdst, S0, S1, thenN, inBlockN, argEnv, builtinR, retE, fin, callR, reduceIte, Nat.reduceEqDiff, Nat.reduceAdd, reduceCtorEq, forall_const, Tryd.results26, Fx.ag22, Fx.ag24, Fx.ag3, Fx.ag85, Fx.es22, Fx.fo24_0, Fx.fo24_3, Fx.isl22])
    refine hM _ _ _ ?_; clear hM M
    rw [hl] at hb1
    refine ok_join [(1, ptrOf B1)] (fun w' => Ext w w' ∧ Ext w1 w' ∧ 1 ≤ k ∧ k ≤ 8) ?_ ?_
    · refine ok_seq (fun M hM => ok_region rfl ?_)
      repeat ((try first | (refine ofX3 hX ?_; clear hX X) | (refine ofX2 hX ?_; clear hX X)); (first | refine wpL_step (fun X hX => ?_) | refine wpH_step (fun X hX => ?_) | refine wpE_step (fun X hX => ?_) | refine wpL_end ?_ | refine wpH_end ?_ | refine wpE_end ?_); try simp only [ oweC, oweP, opF, opH, ev, evs, evp, evo, Env.get, Env.set, putE, gdst, S0, S1, thenN, inBlockN, argEnv, builtinR, retE, fin, callR, reduceIte, Nat.reduceEqDiff, Nat.reduceAdd, reduceCtorEq, forall_const, Tryd.results26, Fx.ag22, Fx.ag24, Fx.ag3, Fx.ag85, Fx.es22, Fx.fo24_0, Fx.fo24_3, Fx.isl22])
      refine ⟨_, (hg.ext he1).kc, ?_⟩
      repeat ((try first | (refine ofX3 hX ?_; clear hX X) | (refine ofX2 hX ?_; clear hX X)); (first | refine wpL_step (fun X hX => ?_) | refine wpH_step (fun X hX => ?_) | refine wpE_step (fun X hX => ?_) | refine wpL_end ?_ | refine wpH_end ?_ | refine wpE_end ?_); try simp only [ oweC, oweP, opF, opH, ev, evs, evp, evo, Env.get, Env.set, putE, gdst, S0, S1, thenN, inBlockN, argEnv, builtinR, retE, fin, callR, reduceIte, Nat.reduceEqDiff, Nat.reduceAdd, reduceCtorEq, forall_const, Tryd.results26, Fx.ag22, Fx.ag24, Fx.ag3, Fx.ag85, Fx.es22, Fx.fo24_0, Fx.fo24_3, Fx.isl22])
      refine ⟨_, hb1.cell (j := 0) rfl, ?_⟩
      repeat ((try first | (refine ofX3 hX ?_; clear hX X) | (refine ofX2 hX ?_; clear hX X)); (first | refine wpL_step (fun X hX => ?_) | refine wpH_step (fun X hX => ?_) | refine wpE_step (fun X hX => ?_) | refine wpL_end ?_ | refine wpH_end ?_ | refine wpE_end ?_); try simp only [ oweC, oweP, opF, opH, ev, evs, evp, evo, Env.get, Env.set, putE, gdst, S0, S1, thenN, inBlockN, argEnv, builtinR, retE, fin, callR, reduceIte, Nat.reduceEqDiff, Nat.reduceAdd, reduceCtorEq, forall_const, Tryd.results26, Fx.ag22, Fx.ag24, Fx.ag3, Fx.ag85, Fx.es22, Fx.fo24_0, Fx.fo24_3, Fx.isl22])
      refine Runs.lookupI Fx.un85 Fx.un3 Fx.zi3 (hg.ext he1).km k ?_
      repeat ((try first | (refine ofX3 hX ?_; clear hX X) | (refine ofX2 hX ?_; clear hX X)); (first | refine wpL_step (fun X hX => ?_) | refine wpH_step (fun X hX => ?_) | refine wpE_step (fun X hX => ?_) | refine wpL_end ?_ | refine wpH_end ?_ | refine wpE_end ?_); try simp only [ oweC, oweP, opF, opH, ev, evs, evp, evo, Env.get, Env.set, putE, gdst, S0, S1, thenN, inBlockN, argEnv, builtinR, retE, fin, callR, reduceIte, Nat.reduceEqDiff, Nat.reduceAdd, reduceCtorEq, forall_const, Tryd.results26, Fx.ag22, Fx.ag24, Fx.ag3, Fx.ag85, Fx.es22, Fx.fo24_0, Fx.fo24_3, Fx.isl22])
      refine hM _ _ _ ?_; clear hM M
      refine ok_seq (fun M hM => ok_region rfl ?_)
      repeat ((try first | (refine ofX3 hX ?_; clear hX X) | (refine ofX2 hX ?_; clear hX X)); (first | refine wpL_step (fun X hX => ?_) | refine wpH_step (fun X hX => ?_) | refine wpE_step (fun X hX => ?_) | refine wpL_end ?_ | refine wpH_end ?_ | refine wpE_end ?_); try simp only [ oweC, oweP, opF, opH, ev, evs, evp, evo, Env.get, Env.set, putE, gdst, S0, S1, thenN, inBlockN, argEnv, builtinR, retE, fin, callR, reduceIte, Nat.reduceEqDiff, Nat.reduceAdd, reduceCtorEq, forall_const, Tryd.results26, Fx.ag22, Fx.ag24, Fx.ag3, Fx.ag85, Fx.es22, Fx.fo24_0, Fx.fo24_3, Fx.isl22])
      by_cases hk : 1 ≤ k ∧ k ≤ 8
      · have : kindF k = some (.int .i64 k) := by unfold kindF; rw [if_pos hk]
        simp only [this, Option.isSome_some]
        repeat ((try first | (refine ofX3 hX ?_; clear hX X) | (refine ofX2 hX ?_; clear hX X)); (first | refine wpL_step (fun X hX => ?_) | refine wpH_step (fun X hX => ?_) | refine wpE_step (fun X hX => ?_) | refine wpL_end ?_ | refine wpH_end ?_ | refine wpE_end ?_); try simp only [ oweC, oweP, opF, opH, ev, evs, evp, evo, Env.get, Env.set, putE, gdst, S0, S1, thenN, inBlockN, argEnv, builtinR, retE, fin, callR, reduceIte, Nat.reduceEqDiff, Nat.reduceAdd, reduceCtorEq, forall_const, Tryd.results26, Fx.ag22, Fx.ag24, Fx.ag3, Fx.ag85, Fx.es22, Fx.fo24_0, Fx.fo24_3, Fx.isl22])
        refine hM _ _ _ ?_; clear hM M
        refine ok_cond rfl (fun h => by cases h) (fun h => ok_skip ?_)
        try simp only [wpL, wpH, wpE, oweC, oweP, opF, opH, ev, evs, evp, evo, Env.get, Env.set, putE, gdst, S0, S1, thenN, inBlockN, argEnv, builtinR, retE, fin, callR, reduceIte, Nat.reduceEqDiff, Nat.reduceAdd, reduceCtorEq, forall_const, Tryd.results26, Fx.ag22, Fx.ag24, Fx.ag3, Fx.ag85, Fx.es22, Fx.fo24_0, Fx.fo24_3, Fx.isl22]
        exact ⟨by simp [sub, Env.get], he1, Ext.refl _, hk.1, hk.2⟩
      · have : kindF k = none := by unfold kindF; rw [if_neg hk]
        simp only [this, Option.isSome_none]
        repeat ((try first | (refine ofX3 hX ?_; clear hX X) | (refine ofX2 hX ?_; clear hX X)); (first | refine wpL_step (fun X hX => ?_) | refine wpH_step (fun X hX => ?_) | refine wpE_step (fun X hX => ?_) | refine wpL_end ?_ | refine wpH_end ?_ | refine wpE_end ?_); try simp only [ oweC, oweP, opF, opH, ev, evs, evp, evo, Env.get, Env.set, putE, gdst, S0, S1, thenN, inBlockN, argEnv, builtinR, retE, fin, callR, reduceIte, Nat.reduceEqDiff, Nat.reduceAdd, reduceCtorEq, forall_const, Tryd.results26, Fx.ag22, Fx.ag24, Fx.ag3, Fx.ag85, Fx.es22, Fx.fo24_0, Fx.fo24_3, Fx.isl22])
        refine hM _ _ _ ?_; clear hM M
        refine ok_cond rfl (fun _ => ?_) (fun h => by cases h)
        refine ok_seq (fun M hM => ok_region rfl ?_); repeat ((try first | (refine ofX3 hX ?_; clear hX X) | (refine ofX2 hX ?_; clear hX X)); (first | refine wpL_step (fun X hX => ?_) | refine wpH_step (fun X hX => ?_) | refine wpE_step (fun X hX => ?_) | refine wpL_end ?_ | refine wpH_end ?_ | refine wpE_end ?_); try simp only [ oweC, oweP, opF, opH, ev, evs, evp, evo, Env.get, Env.set, putE, gdst, S0, S1, thenN, inBlockN, argEnv, builtinR, retE, fin, callR, reduceIte, Nat.reduceEqDiff, Nat.reduceAdd, reduceCtorEq, forall_const, Tryd.results26, Fx.ag22, Fx.ag24, Fx.ag3, Fx.ag85, Fx.es22, Fx.fo24_0, Fx.fo24_3, Fx.isl22])
        refine hM _ _ _ ?_; clear hM M
        refine ok_ret ?_
        try simp only [wpL, wpH, wpE, oweC, oweP, opF, opH, ev, evs, evp, evo, Env.get, Env.set, putE, gdst, S0, S1, thenN, inBlockN, argEnv, builtinR, retE, fin, callR, reduceIte, Nat.reduceEqDiff, Nat.reduceAdd, reduceCtorEq, forall_const, Tryd.results26, Fx.ag22, Fx.ag24, Fx.ag3, Fx.ag85, Fx.es22, Fx.fo24_0, Fx.fo24_3, Fx.isl22]
        refine ⟨?_, he1⟩
        simp [knownV, hk]
    rintro w2 ⟨he2, he12, hk1, hk2⟩
    have hb2 := hb1.ext he12
    refine ok_seq (fun M0 hM0 => ?_)
    refine ok_seq (fun M hM => ok_region rfl ?_)
    repeat ((try first | (refine ofX3 hX ?_; clear hX X) | (refine ofX2 hX ?_; clear hX X)); (first | refine wpL_step (fun X hX => ?_) | refine wpH_step (fun X hX => ?_) | refine wpE_step (fun X hX => ?_) | refine wpL_end ?_ | refine wpH_end ?_ | refine wpE_end ?_); try simp only [ oweC, oweP, opF, opH, ev, evs, evp, evo, Env.get, Env.set, putE, gdst, S0, S1, thenN, inBlockN, argEnv, builtinR, retE, fin, callR, reduceIte, Nat.reduceEqDiff, Nat.reduceAdd, reduceCtorEq, forall_const, Tryd.results26, Fx.ag22, Fx.ag24, Fx.ag3, Fx.ag85, Fx.es22, Fx.fo24_0, Fx.fo24_3, Fx.isl22])
    refine ⟨_, hb2.cell (j := 3) rfl, ?_⟩
    repeat ((try first | (refine ofX3 hX ?_; clear hX X) | (refine ofX2 hX ?_; clear hX X)); (first | refine wpL_step (fun X hX => ?_) | refine wpH_step (fun X hX => ?_) | refine wpE_step (fun X hX => ?_) | refine wpL_end ?_ | refine wpH_end ?_ | refine wpE_end ?_); try simp only [ oweC, oweP, opF, opH, ev, evs, evp, evo, Env.get, Env.set, putE, gdst, S0, S1, thenN, inBlockN, argEnv, builtinR, retE, fin, callR, reduceIte, Nat.reduceEqDiff, Nat.reduceAdd, reduceCtorEq, forall_const, Tryd.results26, Fx.ag22, Fx.ag24, Fx.ag3, Fx.ag85, Fx.es22, Fx.fo24_0, Fx.fo24_3, Fx.isl22])
    refine hM _ _ _ ?_; clear hM M
    refine ok_block ?_
    refine ok_loop (S := Nat) (fun i => [(1, ptrOf B1), (18, .slice A a.length cp), (19, .int .i64 (a.length : Int)), (20, .int .i64 (i : Int))]) (fun i w' => Ext w2 w' ∧ i ≤ a.length ∧ ∀ (j : Nat) (x : Val), j < i → a[j]? = some x → knownV x = true) (fun i => a.length - i) 0 ?_ ?_ ?_
    · simp [sub, Env.get]
    · exact ⟨Ext.refl _, Nat.zero_le _, fun j x h => absurd h (Nat.not_lt_zero _)⟩
    rintro i w4 ⟨he4, hi, hall⟩
    refine ok_seq (fun M hM => ok_region rfl ?_); repeat ((try first | (refine ofX3 hX ?_; clear hX X) | (refine ofX2 hX ?_; clear hX X)); (first | refine wpL_step (fun X hX => ?_) | refine wpH_step (fun X hX => ?_) | refine wpE_step (fun X hX => ?_) | refine wpL_end ?_ | refine wpH_end ?_ | refine wpE_end ?_); try simp only [ oweC, oweP, opF, opH, ev, evs, evp, evo, Env.get, Env.set, putE, gdst, S0, S1, thenN, inBlockN, argEnv, builtinR, retE, fin, callR, reduceIte, Nat.reduceEqDiff, Nat.reduceAdd, reduceCtorEq, forall_const, Tryd.results26, Fx.ag22, Fx.ag24, Fx.ag3, Fx.ag85, Fx.es22, Fx.fo24_0, Fx.fo24_3, Fx.isl22])
    refine hM _ _ _ ?_; clear hM M
    refine ok_seq (fun M1 hM1 => ?_)
    refine ok_if rfl (fun hc => ok_skip ?_) (fun hc => ok_exit ?_)
    rotate_left
    · try simp only [wpL, wpH, wpE, oweC, oweP, opF, opH, ev, evs, evp, evo, Env.get, Env.set, putE, gdst, S0, S1, thenN, inBlockN, argEnv, builtinR, retE, fin, callR, reduceIte, Nat.reduceEqDiff, Nat.reduceAdd, reduceCtorEq, forall_const, Tryd.results26, Fx.ag22, Fx.ag24, Fx.ag3, Fx.ag85, Fx.es22, Fx.fo24_0, Fx.fo24_3, Fx.isl22]
      refine hM0 _ _ _ ?_; clear hM0 M0 hM1 M1
      refine ok_seq (fun M hM => ok_region rfl ?_); repeat ((try first | (refine ofX3 hX ?_; clear hX X) | (refine ofX2 hX ?_; clear hX X)); (first | refine wpL_step (fun X hX => ?_) | refine wpH_step (fun X hX => ?_) | refine wpE_step (fun X hX => ?_) | refine wpL_end ?_ | refine wpH_end ?_ | refine wpE_end ?_); try simp only [ oweC, oweP, opF, opH, ev, evs, evp, evo, Env.get, Env.set, putE, gdst, S0, S1, thenN, inBlockN, argEnv, builtinR, retE, fin, callR, reduceIte, Nat.reduceEqDiff, Nat.reduceAdd, reduceCtorEq, forall_const, Tryd.results26, Fx.ag22, Fx.ag24, Fx.ag3, Fx.ag85, Fx.es22, Fx.fo24_0, Fx.fo24_3, Fx.isl22])
      refine hM _ _ _ ?_; clear hM M
      refine ok_ret ?_
      try simp only [wpL, wpH, wpE, oweC, oweP, opF, opH, ev, evs, evp, evo, Env.get, Env.set, putE, gdst, S0, S1, thenN, inBlockN, argEnv, builtinR, retE, fin, callR, reduceIte, Nat.reduceEqDiff, Nat.reduceAdd, reduceCtorEq, forall_const, Tryd.results26, Fx.ag22, Fx.ag24, Fx.ag3, Fx.ag85, Fx.es22, Fx.fo24_0, Fx.fo24_3, Fx.isl22]
      refine ⟨?_, he2.trans he4⟩
      have : knownVs a = true := (knownVs_iff a).2 fun j x hx => hall j x (by have := (List.getElem?_eq_some_iff.1 hx).1; omega) hx
      simp [knownV, this, hk1, hk2]
    · try simp only [wpL, wpH, wpE, oweC, oweP, opF, opH, ev, evs, evp, evo, Env.get, Env.set, putE, gdst, S0, S1, thenN, inBlockN, argEnv, builtinR, retE, fin, callR, reduceIte, Nat.reduceEqDiff, Nat.reduceAdd, reduceCtorEq, forall_const, Tryd.results26, Fx.ag22, Fx.ag24, Fx.ag3, Fx.ag85, Fx.es22, Fx.fo24_0, Fx.fo24_3, Fx.isl22]
      refine hM1 _ _ _ ?_; clear hM1 M1
      have hil : i < a.length := by omega
      have hxi : a[i]? = some a[i] := List.getElem?_eq_getElem hil
      obtain ⟨rr, hrr, hvr⟩ := hrows.get i _ hxi
      obtain ⟨b, o, rfl, hcr⟩ := hcell i rr hrr
      have hr4 := hvr.len
      have hsz : SizeOf.sizeOf a[i] ≤ m := by
        have := List.sizeOf_lt_of_mem (List.getElem_mem hil)
        simp at hm
        omega
      refine ok_seq (fun M1 hM1 => ok_block ?_)
      refine ok_seq (fun M hM => ok_region rfl ?_)
      repeat ((try first | (refine ofX3 hX ?_; clear hX X) | (refine ofX2 hX ?_; clear hX X)); (first | refine wpL_step (fun X hX => ?_) | refine wpH_step (fun X hX => ?_) | refine wpE_step (fun X hX => ?_) | refine wpL_end ?_ | refine wpH_end ?_ | refine wpE_end ?_); try simp only [ oweC, oweP, opF, opH, ev, evs, evp, evo, Env.get, Env.set, putE, gdst, S0, S1, thenN, inBlockN, argEnv, builtinR, retE, fin, callR, reduceIte, Nat.reduceEqDiff, Nat.reduceAdd, reduceCtorEq, forall_const, Tryd.results26, Fx.ag22, Fx.ag24, Fx.ag3, Fx.ag85, Fx.es22, Fx.fo24_0, Fx.fo24_3, Fx.isl22])
      refine ⟨by omega, by omega, ?_⟩
      repeat ((try first | (refine ofX3 hX ?_; clear hX X) | (refine ofX2 hX ?_; clear hX X)); (first | refine wpL_step (fun X hX => ?_) | refine wpH_step (fun X hX => ?_) | refine wpE_step (fun X hX => ?_) | refine wpL_end ?_ | refine wpH_end ?_ | refine wpE_end ?_); try simp only [ oweC, oweP, opF, opH, ev, evs, evp, evo, Env.get, Env.set, putE, gdst, S0, S1, thenN, inBlockN, argEnv, builtinR, retE, fin, callR, reduceIte, Nat.reduceEqDiff, Nat.reduceAdd, reduceCtorEq, forall_const, Tryd.results26, Fx.ag22, Fx.ag24, Fx.ag3, Fx.ag85, Fx.es22, Fx.fo24_0, Fx.fo24_3, Fx.isl22])
      refine ⟨rr, hr4, he4.cellsAt (he2.cellsAt hcr), ?_⟩
      repeat ((try first | (refine ofX3 hX ?_; clear hX X) | (refine ofX2 hX ?_; clear hX X)); (first | refine wpL_step (fun X hX => ?_) | refine wpH_step (fun X hX => ?_) | refine wpE_step (fun X hX => ?_) | refine wpL_end ?_ | refine wpH_end ?_ | refine wpE_end ?_); try simp only [ oweC, oweP, opF, opH, ev, evs, evp, evo, Env.get, Env.set, putE, gdst, S0, S1, thenN, inBlockN, argEnv, builtinR, retE, fin, callR, reduceIte, Nat.reduceEqDiff, Nat.reduceAdd, reduceCtorEq, forall_const, Tryd.results26, Fx.ag22, Fx.ag24, Fx.ag3, Fx.ag85, Fx.es22, Fx.fo24_0, Fx.fo24_3, Fx.isl22])
      refine Runs.alloc Fx.zi24 (fun w5 he5 hs5 hb5 => ?_)
      generalize hB5 : w4.heap.size = B5 at hs5 hb5
      repeat ((try first | (refine ofX3 hX ?_; clear hX X) | (refine ofX2 hX ?_; clear hX X)); (first | refine wpL_step (fun X hX => ?_) | refine wpH_step (fun X hX => ?_) | refine wpE_step (fun X hX => ?_) | refine wpL_end ?_ | refine wpH_end ?_ | refine wpE_end ?_); try simp only [ oweC, oweP, opF, opH, ev, evs, evp, evo, Env.get, Env.set, putE, gdst, S0, S1, thenN, inBlockN, argEnv, builtinR, retE, fin, callR, reduceIte, Nat.reduceEqDiff, Nat.reduceAdd, reduceCtorEq, forall_const, Tryd.results26, Fx.ag22, Fx.ag24, Fx.ag3, Fx.ag85, Fx.es22, Fx.fo24_0, Fx.fo24_3, Fx.isl22])
      refine Runs.store hb5 Fx.zi24 (by simpa [Value.cells] using hr4) (by simpa [Value.cells] using hvr.one) (by simp [Value.cells]) (fun w6 hc6 hs6 hb6 => ?_)
      rw [splice_all _ _ (by simp [Value.cells, hr4])] at hb6
      simp only [Value.cells] at hb6
      have he6 : Ext w4 w6 := he5.chg_trans hc6 (fun i hi => by omega)
      have hw6 := (he2.trans he4).trans he6
      repeat ((try first | (refine ofX3 hX ?_; clear hX X) | (refine ofX2 hX ?_; clear hX X)); (first | refine wpL_step (fun X hX => ?_) | refine wpH_step (fun X hX => ?_) | refine wpE_step (fun X hX => ?_) | refine wpL_end ?_ | refine wpH_end ?_ | refine wpE_end ?_); try simp only [ oweC, oweP, opF, opH, ev, evs, evp, evo, Env.get, Env.set, putE, gdst, S0, S1, thenN, inBlockN, argEnv, builtinR, retE, fin, callR, reduceIte, Nat.reduceEqDiff, Nat.reduceAdd, reduceCtorEq, forall_const, Tryd.results26, Fx.ag22, Fx.ag24, Fx.ag3, Fx.ag85, Fx.es22, Fx.fo24_0, Fx.fo24_3, Fx.isl22])
      refine hM _ _ _ ?_; clear hM M
      refine ok_seq (fun M hM => ok_region rfl ?_)
      repeat ((try first | (refine ofX3 hX ?_; clear hX X) | (refine ofX2 hX ?_; clear hX X)); (first | refine wpL_step (fun X hX => ?_) | refine wpH_step (fun X hX => ?_) | refine wpE_step (fun X hX => ?_) | refine wpL_end ?_ | refine wpH_end ?_ | refine wpE_end ?_); try simp only [ oweC, oweP, opF, opH, ev, evs, evp, evo, Env.get, Env.set, putE, gdst, S0, S1, thenN, inBlockN, argEnv, builtinR, retE, fin, callR, reduceIte, Nat.reduceEqDiff, Nat.reduceAdd, reduceCtorEq, forall_const, Tryd.results26, Fx.ag22, Fx.ag24, Fx.ag3, Fx.ag85, Fx.es22, Fx.fo24_0, Fx.fo24_3, Fx.isl22])
      refine ⟨rr, hr4, hb6.cells (o := 0) (fun j u hj => by simpa using hj), ?_⟩
      repeat ((try first | (refine ofX3 hX ?_; clear hX X) | (refine ofX2 hX ?_; clear hX X)); (first | refine wpL_step (fun X hX => ?_) | refine wpH_step (fun X hX => ?_) | refine wpE_step (fun X hX => ?_) | refine wpL_end ?_ | refine wpH_end ?_ | refine wpE_end ?_); try simp only [ oweC, oweP, opF, opH, ev, evs, evp, evo, Env.get, Env.set, putE, gdst, S0, S1, thenN, inBlockN, argEnv, builtinR, retE, fin, callR, reduceIte, Nat.reduceEqDiff, Nat.reduceAdd, reduceCtorEq, forall_const, Tryd.results26, Fx.ag22, Fx.ag24, Fx.ag3, Fx.ag85, Fx.es22, Fx.fo24_0, Fx.fo24_3, Fx.isl22])
      refine Inv.call Fx.en26 (ih a[i] w6 rr mk hsz (VRow.ext hw6 _ _ hvr) (hg.ext hw6)) ?_
      rintro v w7 ⟨rfl, he7⟩
      repeat ((try first | (refine ofX3 hX ?_; clear hX X) | (refine ofX2 hX ?_; clear hX X)); (first | refine wpL_step (fun X hX => ?_) | refine wpH_step (fun X hX => ?_) | refine wpE_step (fun X hX => ?_) | refine wpL_end ?_ | refine wpH_end ?_ | refine wpE_end ?_); try simp only [ oweC, oweP, opF, opH, ev, evs, evp, evo, Env.get, Env.set, putE, gdst, S0, S1, thenN, inBlockN, argEnv, builtinR, retE, fin, callR, reduceIte, Nat.reduceEqDiff, Nat.reduceAdd, reduceCtorEq, forall_const, Tryd.results26, Fx.ag22, Fx.ag24, Fx.ag3, Fx.ag85, Fx.es22, Fx.fo24_0, Fx.fo24_3, Fx.isl22])
      refine hM _ _ _ ?_; clear hM M
      refine ok_seq (fun M hM => ok_region rfl ?_); repeat ((try first | (refine ofX3 hX ?_; clear hX X) | (refine ofX2 hX ?_; clear hX X)); (first | refine wpL_step (fun X hX => ?_) | refine wpH_step (fun X hX => ?_) | refine wpE_step (fun X hX => ?_) | refine wpL_end ?_ | refine wpH_end ?_ | refine wpE_end ?_); try simp only [ oweC, oweP, opF, opH, ev, evs, evp, evo, Env.get, Env.set, putE, gdst, S0, S1, thenN, inBlockN, argEnv, builtinR, retE, fin, callR, reduceIte, Nat.reduceEqDiff, Nat.reduceAdd, reduceCtorEq, forall_const, Tryd.results26, Fx.ag22, Fx.ag24, Fx.ag3, Fx.ag85, Fx.es22, Fx.fo24_0, Fx.fo24_3, Fx.isl22])
      refine hM _ _ _ ?_; clear hM M
      cases hkn : knownV a[i] with
      | false =>
        refine ok_cond (b := true) rfl (fun _ => ?_) (fun h => by cases h)
        refine ok_seq (fun M hM => ok_region rfl ?_); repeat ((try first | (refine ofX3 hX ?_; clear hX X) | (refine ofX2 hX ?_; clear hX X)); (first | refine wpL_step (fun X hX => ?_) | refine wpH_step (fun X hX => ?_) | refine wpE_step (fun X hX => ?_) | refine wpL_end ?_ | refine wpH_end ?_ | refine wpE_end ?_); try simp only [ oweC, oweP, opF, opH, ev, evs, evp, evo, Env.get, Env.set, putE, gdst, S0, S1, thenN, inBlockN, argEnv, builtinR, retE, fin, callR, reduceIte, Nat.reduceEqDiff, Nat.reduceAdd, reduceCtorEq, forall_const, Tryd.results26, Fx.ag22, Fx.ag24, Fx.ag3, Fx.ag85, Fx.es22, Fx.fo24_0, Fx.fo24_3, Fx.isl22])
        refine hM _ _ _ ?_; clear hM M
        refine ok_ret ?_
        try simp only [wpL, wpH, wpE, oweC, oweP, opF, opH, ev, evs, evp, evo, Env.get, Env.set, putE, gdst, S0, S1, thenN, inBlockN, argEnv, builtinR, retE, fin, callR, reduceIte, Nat.reduceEqDiff, Nat.reduceAdd, reduceCtorEq, forall_const, Tryd.results26, Fx.ag22, Fx.ag24, Fx.ag3, Fx.ag85, Fx.es22, Fx.fo24_0, Fx.fo24_3, Fx.isl22]
        refine ⟨?_, hw6.trans he7⟩
        have : knownVs a = false := by
          cases hx : knownVs a with
          | false => rfl
          | true => have := (knownVs_iff a).1 hx i _ hxi; rw [this] at hkn; cases hkn
        simp [knownV, this]
      | true =>
        refine ok_cond (b := false) rfl (fun h => by cases h) (fun _ => ok_skip ?_)
        try simp only [wpL, wpH, wpE, oweC, oweP, opF, opH, ev, evs, evp, evo, Env.get, Env.set, putE, gdst, S0, S1, thenN, inBlockN, argEnv, builtinR, retE, fin, callR, reduceIte, Nat.reduceEqDiff, Nat.reduceAdd, reduceCtorEq, forall_const, Tryd.results26, Fx.ag22, Fx.ag24, Fx.ag3, Fx.ag85, Fx.es22, Fx.fo24_0, Fx.fo24_3, Fx.isl22]
        refine hM1 _ _ _ ?_; clear hM1 M1
        refine ok_region rfl ?_
        repeat ((try first | (refine ofX3 hX ?_; clear hX X) | (refine ofX2 hX ?_; clear hX X)); (first | refine wpL_step (fun X hX => ?_) | refine wpH_step (fun X hX => ?_) | refine wpE_step (fun X hX => ?_) | refine wpL_end ?_ | refine wpH_end ?_ | refine wpE_end ?_); try simp only [ oweC, oweP, opF, opH, ev, evs, evp, evo, Env.get, Env.set, putE, gdst, S0, S1, thenN, inBlockN, argEnv, builtinR, retE, fin, callR, reduceIte, Nat.reduceEqDiff, Nat.reduceAdd, reduceCtorEq, forall_const, Tryd.results26, Fx.ag22, Fx.ag24, Fx.ag3, Fx.ag85, Fx.es22, Fx.fo24_0, Fx.fo24_3, Fx.isl22])
        refine ⟨by simp only [inI]; omega, ?_⟩
        repeat ((try first | (refine ofX3 hX ?_; clear hX X) | (refine ofX2 hX ?_; clear hX X)); (first | refine wpL_step (fun X hX => ?_) | refine wpH_step (fun X hX => ?_) | refine wpE_step (fun X hX => ?_) | refine wpL_end ?_ | refine wpH_end ?_ | refine wpE_end ?_); try simp only [ oweC, oweP, opF, opH, ev, evs, evp, evo, Env.get, Env.set, putE, gdst, S0, S1, thenN, inBlockN, argEnv, builtinR, retE, fin, callR, reduceIte, Nat.reduceEqDiff, Nat.reduceAdd, reduceCtorEq, forall_const, Tryd.results26, Fx.ag22, Fx.ag24, Fx.ag3, Fx.ag85, Fx.es22, Fx.fo24_0, Fx.fo24_3, Fx.isl22])
        refine ⟨i + 1, by simp [sub, Env.get], ⟨he4.trans (he6.trans he7), by omega, fun j x hj hx => ?_⟩, by omega⟩
        rcases Nat.lt_or_ge j i with h | h
        · exact hall j x h hx
        · have : j = i := by omega
          subst this
          rw [hxi] at hx
          cases hx
          exact hkn
end Go.Proofs.YtldeokfhipjbfaaDoor
