/- Equal of values (the reference of chapter 7). -/
import Derived.Test.YtldeokfhipjbfaaDoorL1
set_option linter.unusedVariables false
set_option linter.unusedSimpArgs false
namespace Go.Proofs.YtldeokfhipjbfaaDoor
open Go Go.Proofs.Vg Go.RowKit

mutual
def eqV : Val → Val → Bool
  | .mk k n t a, .mk k' n' t' a' => decide (k = k') && decide (n = n') && decide (t = t') && eqVs a a'
def eqVs : List Val → List Val → Bool
  | [], [] => true
  | x :: xs, y :: ys => eqV x y && eqVs xs ys
  | _, _ => false
end
theorem eqVs_iff : ∀ (a b : List Val), eqVs a b = true ↔ a.length = b.length ∧ ∀ (i : Nat) (x y : Val), a[i]? = some x → b[i]? = some y → eqV x y = true
  | [], [] => by simp [eqVs]
  | [], y :: ys => by simp [eqVs]
  | x :: xs, [] => by simp [eqVs]
  | x :: xs, y :: ys => by
    simp only [eqVs, Bool.and_eq_true, eqVs_iff xs ys, List.length_cons]
    constructor
    · rintro ⟨h1, h2, h3⟩
      refine ⟨by omega, fun i x' y' hx hy => ?_⟩
      cases i with
      | zero => simp at hx hy; subst hx; subst hy; exact h1
      | succ i => exact h3 i x' y' (by simpa using hx) (by simpa using hy)
    · rintro ⟨h1, h2⟩
      exact ⟨h2 0 x y rfl rfl, by omega, fun i x' y' hx hy => h2 (i + 1) x' y' (by simpa using hx) (by simpa using hy)⟩

-- -- function 12
set_option maxHeartbeats 2000000 in
set_option maxRecDepth 8000 in
theorem equal_ok : ∀ (m : Nat) (x y : Val) (w : World) (r s : List Value), SizeOf.sizeOf x ≤ m → VRow w r x → VRow w s y → Rets Tryd.prog 12 [.agg r.toArray, .agg s.toArray] w (fun v w' => v = .bool (eqV x y) ∧ Ext w w') := by
  intro m
  induction m with
  | zero => intro x y w r s hm; cases x; simp at hm
  | succ m ih =>
    rintro ⟨k, n, t, a⟩ ⟨k', n', t', a'⟩ w r s hm hr hs
    simp only [VRow] at hr hs
    obtain ⟨v, rfl, hv1, hv2, rows, hsl, hrows⟩ := hr
    obtain ⟨v', rfl, hv1', hv2', rows', hsl', hrows'⟩ := hs
    obtain ⟨A, cp, rfl, hlen, hcell⟩ := hsl
    obtain ⟨A', cp', rfl, hlen', hcell'⟩ := hsl'
    have hl := hrows.length
    have hl' := hrows'.length
    refine rets_of_ok Tryd.func12 rfl rfl ?_
    refine ok_seq (fun M hM => ok_region rfl ?_)
    repeat ((try first | (refine ofX3 hX ?_; clear hX X) | (refine ofX2 hX ?_; clear hX X)); (first | refine wpL_step (fun X hX => ?_) | refine wpH_step (fun X hX => ?_) | refine wpE_step (fun X hX => ?_) | refine wpL_end ?_ | refine wpH_end ?_ | refine wpE_end ?_); try simp only [ oweC, oweP, opF, opH, ev, evs, evp, evo, Env.get, Env.set, putE, gdst, S0, S1, thenN, inBlockN, argEnv, builtinR, retE, fin, callR, reduceIte, Nat.reduceEqDiff, Nat.reduceAdd, reduceCtorEq, forall_const, Tryd.results12, Fx.ag2, Fx.ag22, Fx.ag24, Fx.ag3, Fx.ag9, Fx.es22, Fx.fo24_0, Fx.fo24_1, Fx.fo24_2, Fx.fo24_3, Fx.isl22])
    refine Runs.box (fun w1 he1 hz1 hb1 => ?_)
    repeat ((try first | (refine ofX3 hX ?_; clear hX X) | (refine ofX2 hX ?_; clear hX X)); (first | refine wpL_step (fun X hX => ?_) | refine wpH_step (fun X hX => ?_) | refine wpE_step (fun X hX => ?_) | refine wpL_end ?_ | refine wpH_end ?_ | refine wpE_end ?_); try simp only [ oweC, oweP, opF, opH, ev, evs, evp, evo, Env.get, Env.set, putE, gdst, S0, S1, thenN, inBlockN, argEnv, builtinR, retE, fin, callR, reduceIte, Nat.reduceEqDiff, Nat.reduceAdd, reduceCtorEq, forall_const, Tryd.results12, Fx.ag2, Fx.ag22, Fx.ag24, Fx.ag3, Fx.ag9, Fx.es22, Fx.fo24_0, Fx.fo24_1, Fx.fo24_2, Fx.fo24_3, Fx.isl22])
    refine Runs.box (fun w2 he2 hz2 hb2 => ?_)
    repeat ((try first | (refine ofX3 hX ?_; clear hX X) | (refine ofX2 hX ?_; clear hX X)); (first | refine wpL_step (fun X hX => ?_) | refine wpH_step (fun X hX => ?_) | refine wpE_step (fun X hX => ?_) | refine wpL_end ?_ | refine wpH_end ?_ | refine wpE_end ?_); try simp only [ oweC, oweP, opF, opH, ev, evs, evp, evo, Env.get, Env.set, putE, gdst, S0, S1, thenN, inBlockN, argEnv, builtinR, retE, fin, callR, reduceIte, Nat.reduceEqDiff, Nat.reduceAdd, reduceCtorEq, forall_const, Tryd.results12, Fx.ag2, Fx.ag22, Fx.ag24, Fx.ag3, Fx.ag9, Fx.es22, Fx.fo24_0, Fx.fo24_1, Fx.fo24_2, Fx.fo24_3, Fx.isl22])
    refine hM _ _ _ ?_; clear hM M
    generalize hB1 : w.heap.size = B1 at *
    generalize hB2 : w1.heap.size = B2 at *
    have hb1' := hb1.ext he2
    simp only [Value.cells] at hb1' hb2
    have he02 := he1.trans he2
    have hA1 : ∀ j u, [Value.int .i64 k, .int .i64 n, .string t, .slice A rows.length cp][j]? = some u → w2.cell? ⟨B1, j, none⟩ = some u := fun j u hj => hb1'.cell hj
    have hA2 : ∀ j u, [Value.int .i64 k', .int .i64 n', .string t', .slice A' rows'.length cp'][j]? = some u → w2.cell? ⟨B2, j, none⟩ = some u := fun j u hj => hb2.cell hj
    rw [hl] at hA1
    rw [hl'] at hA2
    clear hb1 hb2 hb1'
    refine ok_join [(2, .pointer (some ⟨B1, 0, none⟩)), (3, .pointer (some ⟨B2, 0, none⟩))] (fun w' => w' = w2 ∧ k = k' ∧ n = n' ∧ t = t' ∧ a.length = a'.length) ?_ ?_
    · refine ok_seq (fun M hM => ok_region rfl ?_)
      repeat ((try first | (refine ofX3 hX ?_; clear hX X) | (refine ofX2 hX ?_; clear hX X)); (first | refine wpL_step (fun X hX => ?_) | refine wpH_step (fun X hX => ?_) | refine wpE_step (fun X hX => ?_) | refine wpL_end ?_ | refine wpH_end ?_ | refine wpE_end ?_); try simp only [ oweC, oweP, opF, opH, ev, evs, evp, evo, Env.get, Env.set, putE, gdst, S0, S1, thenN, inBlockN, argEnv, builtinR, retE, fin, callR, reduceIte, Nat.reduceEqDiff, Nat.reduceAdd, reduceCtorEq, forall_const, Tryd.results12, Fx.ag2, Fx.ag22, Fx.ag24, Fx.ag3, Fx.ag9, Fx.es22, Fx.fo24_0, Fx.fo24_1, Fx.fo24_2, Fx.fo24_3, Fx.isl22])
      refine ⟨_, hA1 0 _ rfl, ?_⟩
      repeat ((try first | (refine ofX3 hX ?_; clear hX X) | (refine ofX2 hX ?_; clear hX X)); (first | refine wpL_step (fun X hX => ?_) | refine wpH_step (fun X hX => ?_) | refine wpE_step (fun X hX => ?_) | refine wpL_end ?_ | refine wpH_end ?_ | refine wpE_end ?_); try simp only [ oweC, oweP, opF, opH, ev, evs, evp, evo, Env.get, Env.set, putE, gdst, S0, S1, thenN, inBlockN, argEnv, builtinR, retE, fin, callR, reduceIte, Nat.reduceEqDiff, Nat.reduceAdd, reduceCtorEq, forall_const, Tryd.results12, Fx.ag2, Fx.ag22, Fx.ag24, Fx.ag3, Fx.ag9, Fx.es22, Fx.fo24_0, Fx.fo24_1, Fx.fo24_2, Fx.fo24_3, Fx.isl22])
      refine ⟨_, hA2 0 _ rfl, ?_⟩
      repeat ((try first | (refine ofX3 hX ?_; clear hX X) | (refine ofX2 hX ?_; clear hX X)); (first | refine wpL_step (fun X hX => ?_) | refine wpH_step (fun X hX => ?_) | refine wpE_step (fun X hX => ?_) | refine wpL_end ?_ | refine wpH_end ?_ | refine wpE_end ?_); try simp only [ oweC, oweP, opF, opH, ev, evs, evp, evo, Env.get, Env.set, putE, gdst, S0, S1, thenN, inBlockN, argEnv, builtinR, retE, fin, callR, reduceIte, Nat.reduceEqDiff, Nat.reduceAdd, reduceCtorEq, forall_const, Tryd.results12, Fx.ag2, Fx.ag22, Fx.ag24, Fx.ag3, Fx.ag9, Fx.es22, Fx.fo24_0, Fx.fo24_1, Fx.fo24_2, Fx.fo24_3, Fx.isl22])
      refine ⟨fun h => ?_, fun h => ?_⟩
      · have e1 : k = k' := by simpa using h
        clear h
        repeat ((try first | (refine ofX3 hX ?_; clear hX X) | (refine ofX2 hX ?_; clear hX X)); (first | refine wpL_step (fun X hX => ?_) | refine wpH_step (fun X hX => ?_) | refine wpE_step (fun X hX => ?_) | refine wpL_end ?_ | refine wpH_end ?_ | refine wpE_end ?_); try simp only [ oweC, oweP, opF, opH, ev, evs, evp, evo, Env.get, Env.set, putE, gdst, S0, S1, thenN, inBlockN, argEnv, builtinR, retE, fin, callR, reduceIte, Nat.reduceEqDiff, Nat.reduceAdd, reduceCtorEq, forall_const, Tryd.results12, Fx.ag2, Fx.ag22, Fx.ag24, Fx.ag3, Fx.ag9, Fx.es22, Fx.fo24_0, Fx.fo24_1, Fx.fo24_2, Fx.fo24_3, Fx.isl22])
        refine ⟨_, hA1 1 _ rfl, ?_⟩
        repeat ((try first | (refine ofX3 hX ?_; clear hX X) | (refine ofX2 hX ?_; clear hX X)); (first | refine wpL_step (fun X hX => ?_) | refine wpH_step (fun X hX => ?_) | refine wpE_step (fun X hX => ?_) | refine wpL_end ?_ | refine wpH_end ?_ | refine wpE_end ?_); try simp only [ oweC, oweP, opF, opH, ev, evs, evp, evo, Env.get, Env.set, putE, gdst, S0, S1, thenN, inBlockN, argEnv, builtinR, retE, fin, callR, reduceIte, Nat.reduceEqDiff, Nat.reduceAdd, reduceCtorEq, forall_const, Tryd.results12, Fx.ag2, Fx.ag22, Fx.ag24, Fx.ag3, Fx.ag9, Fx.es22, Fx.fo24_0, Fx.fo24_1, Fx.fo24_2, Fx.fo24_3, Fx.isl22])
        refine ⟨_, hA2 1 _ rfl, ?_⟩
        repeat ((try first | (refine ofX3 hX ?_; clear hX X) | (refine ofX2 hX ?_; clear hX X)); (first | refine wpL_step (fun X hX => ?_) | refine wpH_step (fun X hX => ?_) | refine wpE_step (fun X hX => ?_) | refine wpL_end ?_ | refine wpH_end ?_ | refine wpE_end ?_); try simp only [ oweC, oweP, opF, opH, ev, evs, evp, evo, Env.get, Env.set, putE, gdst, S0, S1, thenN, inBlockN, argEnv, builtinR, retE, fin, callR, reduceIte, Nat.reduceEqDiff, Nat.reduceAdd, reduceCtorEq, forall_const, Tryd.results12, Fx.ag2, Fx.ag22, Fx.ag24, Fx.ag3, Fx.ag9, Fx.es22, Fx.fo24_0, Fx.fo24_1, Fx.fo24_2, Fx.fo24_3, Fx.isl22])
        refine ⟨fun h => ?_, fun h => ?_⟩
        · have e2 : n = n' := by simpa using h
          clear h
          repeat ((try first | (refine ofX3 hX ?_; clear hX X) | (refine ofX2 hX ?_; clear hX X)); (first | refine wpL_step (fun X hX => ?_) | refine wpH_step (fun X hX => ?_) | refine wpE_step (fun X hX => ?_) | refine wpL_end ?_ | refine wpH_end ?_ | refine wpE_end ?_); try simp only [ oweC, oweP, opF, opH, ev, evs, evp, evo, Env.get, Env.set, putE, gdst, S0, S1, thenN, inBlockN, argEnv, builtinR, retE, fin, callR, reduceIte, Nat.reduceEqDiff, Nat.reduceAdd, reduceCtorEq, forall_const, Tryd.results12, Fx.ag2, Fx.ag22, Fx.ag24, Fx.ag3, Fx.ag9, Fx.es22, Fx.fo24_0, Fx.fo24_1, Fx.fo24_2, Fx.fo24_3, Fx.isl22])
          refine ⟨_, hA1 2 _ rfl, ?_⟩
          repeat ((try first | (refine ofX3 hX ?_; clear hX X) | (refine ofX2 hX ?_; clear hX X)); (first | refine wpL_step (fun X hX => ?_) | refine wpH_step (fun X hX => ?_) | refine wpE_step (fun X hX => ?_) | refine wpL_end ?_ | refine wpH_end ?_ | refine wpE_end ?_); try simp only [ oweC, oweP, opF, opH, ev, evs, evp, evo, Env.get, Env.set, putE, gdst, S0, S1, thenN, inBlockN, argEnv, builtinR, retE, fin, callR, reduceIte, Nat.reduceEqDiff, Nat.reduceAdd, reduceCtorEq, forall_const, Tryd.results12, Fx.ag2, Fx.ag22, Fx.ag24, Fx.ag3, Fx.ag9, Fx.es22, Fx.fo24_0, Fx.fo24_1, Fx.fo24_2, Fx.fo24_3, Fx.isl22])
          refine ⟨_, hA2 2 _ rfl, ?_⟩
          repeat ((try first | (refine ofX3 hX ?_; clear hX X) | (refine ofX2 hX ?_; clear hX X)); (first | refine wpL_step (fun X hX => ?_) | refine wpH_step (fun X hX => ?_) | refine wpE_step (fun X hX => ?_) | refine wpL_end ?_ | refine wpH_end ?_ | refine wpE_end ?_); try simp only [ oweC, oweP, opF, opH, ev, evs, evp, evo, Env.get, Env.set, putE, gdst, S0, S1, thenN, inBlockN, argEnv, builtinR, retE, fin, callR, reduceIte, Nat.reduceEqDiff, Nat.reduceAdd, reduceCtorEq, forall_const, Tryd.results12, Fx.ag2, Fx.ag22, Fx.ag24, Fx.ag3, Fx.ag9, Fx.es22, Fx.fo24_0, Fx.fo24_1, Fx.fo24_2, Fx.fo24_3, Fx.isl22])
          refine ⟨fun h => ?_, fun h => ?_⟩
          · have e3 : t = t' := by simpa using h
            clear h
            repeat ((try first | (refine ofX3 hX ?_; clear hX X) | (refine ofX2 hX ?_; clear hX X)); (first | refine wpL_step (fun X hX => ?_) | refine wpH_step (fun X hX => ?_) | refine wpE_step (fun X hX => ?_) | refine wpL_end ?_ | refine wpH_end ?_ | refine wpE_end ?_); try simp only [ oweC, oweP, opF, opH, ev, evs, evp, evo, Env.get, Env.set, putE, gdst, S0, S1, thenN, inBlockN, argEnv, builtinR, retE, fin, callR, reduceIte, Nat.reduceEqDiff, Nat.reduceAdd, reduceCtorEq, forall_const, Tryd.results12, Fx.ag2, Fx.ag22, Fx.ag24, Fx.ag3, Fx.ag9, Fx.es22, Fx.fo24_0, Fx.fo24_1, Fx.fo24_2, Fx.fo24_3, Fx.isl22])
            refine ⟨_, hA1 3 _ rfl, ?_⟩
            repeat ((try first | (refine ofX3 hX ?_; clear hX X) | (refine ofX2 hX ?_; clear hX X)); (first | refine wpL_step (fun X hX => ?_) | refine wpH_step (fun X hX => ?_) | refine wpE_step (fun X hX => ?_) | refine wpL_end ?_ | refine wpH_end ?_ | refine wpE_end ?_); try simp only [ oweC, oweP, opF, opH, ev, evs, evp, evo, Env.get, Env.set, putE, gdst, S0, S1, thenN, inBlockN, argEnv, builtinR, retE, fin, callR, reduceIte, Nat.reduceEqDiff, Nat.reduceAdd, reduceCtorEq, forall_const, Tryd.results12, Fx.ag2, Fx.ag22, Fx.ag24, Fx.ag3, Fx.ag9, Fx.es22, Fx.fo24_0, Fx.fo24_1, Fx.fo24_2, Fx.fo24_3, Fx.isl22])
            refine ⟨_, hA2 3 _ rfl, ?_⟩
            repeat ((try first | (refine ofX3 hX ?_; clear hX X) | (refine ofX2 hX ?_; clear hX X)); (first | refine wpL_step (fun X hX => ?_) | refine wpH_step (fun X hX => ?_) | refine wpE_step (fun X hX => ?_) | refine wpL_end ?_ | refine wpH_end ?_ | refine wpE_end ?_); try simp only [ oweC, oweP, opF, opH, ev, evs, evp, evo, Env.get, Env.set, putE, gdst, S0, S1, thenN, inBlockN, argEnv, builtinR, retE, fin, callR, reduceIte, Nat.reduceEqDiff, Nat.reduceAdd, reduceCtorEq, forall_const, Tryd.results12, Fx.ag2, Fx.ag22, Fx.ag24, Fx.ag3, Fx.ag9, Fx.es22, Fx.fo24_0, Fx.fo24_1, Fx.fo24_2, Fx.fo24_3, Fx.isl22])
            refine hM _ _ _ ?_; clear hM M
            refine ok_ifn rfl (fun hc => ?_) (fun hc => ok_skip ?_)
            · refine ok_seq (fun M hM => ok_region rfl ?_); repeat ((try first | (refine ofX3 hX ?_; clear hX X) | (refine ofX2 hX ?_; clear hX X)); (first | refine wpL_step (fun X hX => ?_) | refine wpH_step (fun X hX => ?_) | refine wpE_step (fun X hX => ?_) | refine wpL_end ?_ | refine wpH_end ?_ | refine wpE_end ?_); try simp only [ oweC, oweP, opF, opH, ev, evs, evp, evo, Env.get, Env.set, putE, gdst, S0, S1, thenN, inBlockN, argEnv, builtinR, retE, fin, callR, reduceIte, Nat.reduceEqDiff, Nat.reduceAdd, reduceCtorEq, forall_const, Tryd.results12, Fx.ag2, Fx.ag22, Fx.ag24, Fx.ag3, Fx.ag9, Fx.es22, Fx.fo24_0, Fx.fo24_1, Fx.fo24_2, Fx.fo24_3, Fx.isl22])
              refine hM _ _ _ ?_; clear hM M
              refine ok_ret ?_
              try simp only [wpL, wpH, wpE, oweC, oweP, opF, opH, ev, evs, evp, evo, Env.get, Env.set, putE, gdst, S0, S1, thenN, inBlockN, argEnv, builtinR, retE, fin, callR, reduceIte, Nat.reduceEqDiff, Nat.reduceAdd, reduceCtorEq, forall_const, Tryd.results12, Fx.ag2, Fx.ag22, Fx.ag24, Fx.ag3, Fx.ag9, Fx.es22, Fx.fo24_0, Fx.fo24_1, Fx.fo24_2, Fx.fo24_3, Fx.isl22]
              refine ⟨?_, he02⟩
              have hne : eqVs a a' = false := by
                cases hx : eqVs a a' with
                | false => rfl
                | true => have := ((eqVs_iff a a').1 hx).1; omega
              simp [eqV, hne]
            · try simp only [wpL, wpH, wpE, oweC, oweP, opF, opH, ev, evs, evp, evo, Env.get, Env.set, putE, gdst, S0, S1, thenN, inBlockN, argEnv, builtinR, retE, fin, callR, reduceIte, Nat.reduceEqDiff, Nat.reduceAdd, reduceCtorEq, forall_const, Tryd.results12, Fx.ag2, Fx.ag22, Fx.ag24, Fx.ag3, Fx.ag9, Fx.es22, Fx.fo24_0, Fx.fo24_1, Fx.fo24_2, Fx.fo24_3, Fx.isl22]
              exact ⟨by simp [sub, Env.get], e1, e2, e3, by omega⟩
          · repeat ((try first | (refine ofX3 hX ?_; clear hX X) | (refine ofX2 hX ?_; clear hX X)); (first | refine wpL_step (fun X hX => ?_) | refine wpH_step (fun X hX => ?_) | refine wpE_step (fun X hX => ?_) | refine wpL_end ?_ | refine wpH_end ?_ | refine wpE_end ?_); try simp only [ oweC, oweP, opF, opH, ev, evs, evp, evo, Env.get, Env.set, putE, gdst, S0, S1, thenN, inBlockN, argEnv, builtinR, retE, fin, callR, reduceIte, Nat.reduceEqDiff, Nat.reduceAdd, reduceCtorEq, forall_const, Tryd.results12, Fx.ag2, Fx.ag22, Fx.ag24, Fx.ag3, Fx.ag9, Fx.es22, Fx.fo24_0, Fx.fo24_1, Fx.fo24_2, Fx.fo24_3, Fx.isl22])
            refine hM _ _ _ ?_; clear hM M
            refine ok_cond rfl (fun _ => ?_) (fun h => by cases h)
            refine ok_seq (fun M hM => ok_region rfl ?_); repeat ((try first | (refine ofX3 hX ?_; clear hX X) | (refine ofX2 hX ?_; clear hX X)); (first | refine wpL_step (fun X hX => ?_) | refine wpH_step (fun X hX => ?_) | refine wpE_step (fun X hX => ?_) | refine wpL_end ?_ | refine wpH_end ?_ | refine wpE_end ?_); try simp only [ oweC, oweP, opF, opH, ev, evs, evp, evo, Env.get, Env.set, putE, gdst, S0, S1, thenN, inBlockN, argEnv, builtinR, retE, fin, callR, reduceIte, Nat.reduceEqDiff, Nat.reduceAdd, reduceCtorEq, forall_const, Tryd.results12, Fx.ag2, Fx.ag22, Fx.ag24, Fx.ag3, Fx.ag9, Fx.es22, Fx.fo24_0, Fx.fo24_1, Fx.fo24_2, Fx.fo24_3, Fx.isl22])
            refine hM _ _ _ ?_; clear hM M
            refine ok_ret ?_
            try simp only [wpL, wpH, wpE, oweC, oweP, opF, opH, ev, evs, evp, evo, Env.get, Env.set, putE, gdst, S0, S1, thenN, inBlockN, argEnv, builtinR, retE, fin, callR, reduceIte, Nat.reduceEqDiff, Nat.reduceAdd, reduceCtorEq, forall_const, Tryd.results12, Fx.ag2, Fx.ag22, Fx.ag24, Fx.ag3, Fx.ag9, Fx.es22, Fx.fo24_0, Fx.fo24_1, Fx.fo24_2, Fx.fo24_3, Fx.isl22]
            refine ⟨?_, he02⟩
            have hne : ¬ t = t' := by simpa using h
            simp [eqV, hne]
        · repeat ((try first | (refine ofX3 hX ?_; clear hX X) | (refine ofX2 hX ?_; clear hX X)); (first | refine wpL_step (fun X hX => ?_) | refine wpH_step (fun X hX => ?_) | refine wpE_step (fun X hX => ?_) | refine wpL_end ?_ | refine wpH_end ?_ | refine wpE_end ?_); try simp only [ oweC, oweP, opF, opH, ev, evs, evp, evo, Env.get, Env.set, putE, gdst, S0, S1, thenN, inBlockN, argEnv, builtinR, retE, fin, callR, reduceIte, Nat.reduceEqDiff, Nat.reduceAdd, reduceCtorEq, forall_const, Tryd.results12, Fx.ag2, Fx.ag22, Fx.ag24, Fx.ag3, Fx.ag9, Fx.es22, Fx.fo24_0, Fx.fo24_1, Fx.fo24_2, Fx.fo24_3, Fx.isl22])
          refine hM _ _ _ ?_; clear hM M
          refine ok_cond rfl (fun _ => ?_) (fun h => by cases h)
          refine ok_seq (fun M hM => ok_region rfl ?_); repeat ((try first | (refine ofX3 hX ?_; clear hX X) | (refine ofX2 hX ?_; clear hX X)); (first | refine wpL_step (fun X hX => ?_) | refine wpH_step (fun X hX => ?_) | refine wpE_step (fun X hX => ?_) | refine wpL_end ?_ | refine wpH_end ?_ | refine wpE_end ?_); try simp only [ oweC, oweP, opF, opH, ev, evs, evp, evo, Env.get, Env.set, putE, gdst, S0, S1, thenN, inBlockN, argEnv, builtinR, retE, fin, callR, reduceIte, Nat.reduceEqDiff, Nat.reduceAdd, reduceCtorEq, forall_const, Tryd.results12, Fx.ag2, Fx.ag22, Fx.ag24, Fx.ag3, Fx.ag9, Fx.es22, Fx.fo24_0, Fx.fo24_1, Fx.fo24_2, Fx.fo24_3, Fx.isl22])
          refine hM _ _ _ ?_; clear hM M
          refine ok_ret ?_
          try simp only [wpL, wpH, wpE, oweC, oweP, opF, opH, ev, evs, evp, evo, Env.get, Env.set, putE, gdst, S0, S1, thenN, inBlockN, argEnv, builtinR, retE, fin, callR, reduceIte, Nat.reduceEqDiff, Nat.reduceAdd, reduceCtorEq, forall_const, Tryd.results12, Fx.ag2, Fx.ag22, Fx.ag24, Fx.ag3, Fx.ag9, Fx.es22, Fx.fo24_0, Fx.fo24_1, Fx.fo24_2, Fx.fo24_3, Fx.isl22]
          refine ⟨?_, he02⟩
          have hne : ¬ n = n' := by simpa using h
          simp [eqV, hne]
      · repeat ((try first | (refine ofX3 hX ?_; clear hX X) | (refine ofX2 hX ?_; clear hX X)); (first | refine wpL_step (fun X hX => ?_) | refine wpH_step (fun X hX => ?_) | refine wpE_step (fun X hX => ?_) | refine wpL_end ?_ | refine wpH_end ?_ | refine wpE_end ?_); try simp only [ oweC, oweP, opF, opH, ev, evs, evp, evo, Env.get, Env.set, putE, gdst, S0, S1, thenN, inBlockN, argEnv, builtinR, retE, fin, callR, reduceIte, Nat.reduceEqDiff, Nat.reduceAdd, reduceCtorEq, forall_const, Tryd.results12, Fx.ag2, Fx.ag22, Fx.ag24, Fx.ag3, Fx.ag9, Fx.es22, Fx.fo24_0, Fx.fo24_1, Fx.fo24_2, Fx.fo24_3, Fx.isl22])
        refine hM _ _ _ ?_; clear hM M
        refine ok_cond rfl (fun _ => ?_) (fun h => by cases h)
        refine ok_seq (fun M hM => ok_region rfl ?_); repeat ((try first | (refine ofX3 hX ?_; clear hX X) | (refine ofX2 hX ?_; clear hX X)); (first | refine wpL_step (fun X hX => ?_) | refine wpH_step (fun X hX => ?_) | refine wpE_step (fun X hX => ?_) | refine wpL_end ?_ | refine wpH_end ?_ | refine wpE_end ?_); try simp only [ oweC, oweP, opF, opH, ev, evs, evp, evo, Env.get, Env.set, putE, gdst, S0, S1, thenN, inBlockN, argEnv, builtinR, retE, fin, callR, reduceIte, Nat.reduceEqDiff, Nat.reduceAdd, reduceCtorEq, forall_const, Tryd.results12, Fx.ag2, Fx.ag22, Fx.ag24, Fx.ag3, Fx.ag9, Fx.es22, Fx.fo24_0, Fx.fo24_1, Fx.fo24_2, Fx.fo24_3, Fx.isl22])
        refine hM _ _ _ ?_; clear hM M
        refine ok_ret ?_
        try simp only [wpL, wpH, wpE, oweC, oweP, opF, opH, ev, evs, evp, evo, Env.get, Env.set, putE, gdst, S0, S1, thenN, inBlockN, argEnv, builtinR, retE, fin, callR, reduceIte, Nat.reduceEqDiff, Nat.reduceAdd, reduceCtorEq, forall_const, Tryd.results12, Fx.ag2, Fx.ag22, Fx.ag24, Fx.ag3, Fx.ag9, Fx.es22, Fx.fo24_0, Fx.fo24_1, Fx.fo24_2, Fx.fo24_3, Fx.isl22]
        refine ⟨?_, he02⟩
        have hne : ¬ k = k' := by simpa using h
        simp [eqV, hne]
    rintro w3 ⟨rfl, rfl, rfl, rfl, hll⟩
    refine ok_seq (fun M0 hM0 => ?_)
    refine ok_seq (fun M hM => ok_region rfl ?_); repeat ((try first | (refine ofX3 hX ?_; clear hX X) | (refine ofX2 hX ?_; clear hX X)); (first | refine wpL_step (fun X hX => ?_) | refine wpH_step (fun X hX => ?_) | refine wpE_step (fun X hX => ?_) | refine wpL_end ?_ | refine wpH_end ?_ | refine wpE_end ?_); try simp only [ oweC, oweP, opF, opH, ev, evs, evp, evo, Env.get, Env.set, putE, gdst, S0, S1, thenN, inBlockN, argEnv, builtinR, retE, fin, callR, reduceIte, Nat.reduceEqDiff, Nat.reduceAdd, reduceCtorEq, forall_const, Tryd.results12, Fx.ag2, Fx.ag22, Fx.ag24, Fx.ag3, Fx.ag9, Fx.es22, Fx.fo24_0, Fx.fo24_1, Fx.fo24_2, Fx.fo24_3, Fx.isl22])
    refine hM _ _ _ ?_; clear hM M
    refine ok_block ?_
    refine ok_loop (S := Nat) (fun i => [(2, .pointer (some ⟨B1, 0, none⟩)), (3, .pointer (some ⟨B2, 0, none⟩)), (5, .int .i64 (i : Int))]) (fun i w' => Ext w3 w' ∧ i ≤ a.length ∧ ∀ (j : Nat) (x y : Val), j < i → a[j]? = some x → a'[j]? = some y → eqV x y = true) (fun i => a.length - i) 0 ?_ ?_ ?_
    · simp [sub, Env.get]
    · exact ⟨Ext.refl _, Nat.zero_le _, fun j x y h => absurd h (Nat.not_lt_zero _)⟩
    rintro i w4 ⟨he4, hi, hall⟩
    refine ok_seq (fun M1 hM1 => ?_)
    refine ok_seq (fun M hM => ok_region rfl ?_)
    repeat ((try first | (refine ofX3 hX ?_; clear hX X) | (refine ofX2 hX ?_; clear hX X)); (first | refine wpL_step (fun X hX => ?_) | refine wpH_step (fun X hX => ?_) | refine wpE_step (fun X hX => ?_) | refine wpL_end ?_ | refine wpH_end ?_ | refine wpE_end ?_); try simp only [ oweC, oweP, opF, opH, ev, evs, evp, evo, Env.get, Env.set, putE, gdst, S0, S1, thenN, inBlockN, argEnv, builtinR, retE, fin, callR, reduceIte, Nat.reduceEqDiff, Nat.reduceAdd, reduceCtorEq, forall_const, Tryd.results12, Fx.ag2, Fx.ag22, Fx.ag24, Fx.ag3, Fx.ag9, Fx.es22, Fx.fo24_0, Fx.fo24_1, Fx.fo24_2, Fx.fo24_3, Fx.isl22])
    refine ⟨_, he4.cell (hA1 3 _ rfl), ?_⟩
    repeat ((try first | (refine ofX3 hX ?_; clear hX X) | (refine ofX2 hX ?_; clear hX X)); (first | refine wpL_step (fun X hX => ?_) | refine wpH_step (fun X hX => ?_) | refine wpE_step (fun X hX => ?_) | refine wpL_end ?_ | refine wpH_end ?_ | refine wpE_end ?_); try simp only [ oweC, oweP, opF, opH, ev, evs, evp, evo, Env.get, Env.set, putE, gdst, S0, S1, thenN, inBlockN, argEnv, builtinR, retE, fin, callR, reduceIte, Nat.reduceEqDiff, Nat.reduceAdd, reduceCtorEq, forall_const, Tryd.results12, Fx.ag2, Fx.ag22, Fx.ag24, Fx.ag3, Fx.ag9, Fx.es22, Fx.fo24_0, Fx.fo24_1, Fx.fo24_2, Fx.fo24_3, Fx.isl22])
    refine hM _ _ _ ?_; clear hM M
    refine ok_if rfl (fun hc => ok_skip ?_) (fun hc => ok_exit ?_)
    rotate_left
    · try simp only [wpL, wpH, wpE, oweC, oweP, opF, opH, ev, evs, evp, evo, Env.get, Env.set, putE, gdst, S0, S1, thenN, inBlockN, argEnv, builtinR, retE, fin, callR, reduceIte, Nat.reduceEqDiff, Nat.reduceAdd, reduceCtorEq, forall_const, Tryd.results12, Fx.ag2, Fx.ag22, Fx.ag24, Fx.ag3, Fx.ag9, Fx.es22, Fx.fo24_0, Fx.fo24_1, Fx.fo24_2, Fx.fo24_3, Fx.isl22]
      refine hM0 _ _ _ ?_; clear hM0 M0 hM1 M1
      refine ok_seq (fun M hM => ok_region rfl ?_); repeat ((try first | (refine ofX3 hX ?_; clear hX X) | (refine ofX2 hX ?_; clear hX X)); (first | refine wpL_step (fun X hX => ?_) | refine wpH_step (fun X hX => ?_) | refine wpE_step (fun X hX => ?_) | refine wpL_end ?_ | refine wpH_end ?_ | refine wpE_end ?_); try simp only [ oweC, oweP, opF, opH, ev, evs, evp, evo, Env.get, Env.set, putE, gdst, S0, S1, thenN, inBlockN, argEnv, builtinR, retE, fin, callR, reduceIte, Nat.reduceEqDiff, Nat.reduceAdd, reduceCtorEq, forall_const, Tryd.results12, Fx.ag2, Fx.ag22, Fx.ag24, Fx.ag3, Fx.ag9, Fx.es22, Fx.fo24_0, Fx.fo24_1, Fx.fo24_2, Fx.fo24_3, Fx.isl22])
      refine hM _ _ _ ?_; clear hM M
      refine ok_ret ?_
      try simp only [wpL, wpH, wpE, oweC, oweP, opF, opH, ev, evs, evp, evo, Env.get, Env.set, putE, gdst, S0, S1, thenN, inBlockN, argEnv, builtinR, retE, fin, callR, reduceIte, Nat.reduceEqDiff, Nat.reduceAdd, reduceCtorEq, forall_const, Tryd.results12, Fx.ag2, Fx.ag22, Fx.ag24, Fx.ag3, Fx.ag9, Fx.es22, Fx.fo24_0, Fx.fo24_1, Fx.fo24_2, Fx.fo24_3, Fx.isl22]
      refine ⟨?_, he02.trans he4⟩
      have : eqVs a a' = true := (eqVs_iff a a').2 ⟨hll, fun j x y hx hy => hall j x y (by have := (List.getElem?_eq_some_iff.1 hx).1; omega) hx hy⟩
      simp [eqV, this]
    · try simp only [wpL, wpH, wpE, oweC, oweP, opF, opH, ev, evs, evp, evo, Env.get, Env.set, putE, gdst, S0, S1, thenN, inBlockN, argEnv, builtinR, retE, fin, callR, reduceIte, Nat.reduceEqDiff, Nat.reduceAdd, reduceCtorEq, forall_const, Tryd.results12, Fx.ag2, Fx.ag22, Fx.ag24, Fx.ag3, Fx.ag9, Fx.es22, Fx.fo24_0, Fx.fo24_1, Fx.fo24_2, Fx.fo24_3, Fx.isl22]
      refine hM1 _ _ _ ?_; clear hM1 M1
      have hil : i < a.length := by omega
      have hxi : a[i]? = some a[i] := List.getElem?_eq_getElem hil
      have hyi : a'[i]? = some (a'[i]'(by omega)) := List.getElem?_eq_getElem (by omega)
      obtain ⟨rr, hrr, hvr⟩ := hrows.get i _ hxi
      obtain ⟨ss, hss, hvs⟩ := hrows'.get i _ hyi
      obtain ⟨b, o, rfl, hcr⟩ := hcell i rr hrr
      obtain ⟨b', o', rfl, hcs⟩ := hcell' i ss hss
      have hr4 : rr.length = 4 := by generalize a[i] = q at hvr; cases q; simp only [VRow] at hvr; obtain ⟨_, rfl, _⟩ := hvr; rfl
      have hs4 : ss.length = 4 := by generalize a'[i] = q at hvs; cases q; simp only [VRow] at hvs; obtain ⟨_, rfl, _⟩ := hvs; rfl
      have hsz : SizeOf.sizeOf a[i] ≤ m := by
        have := List.sizeOf_lt_of_mem (List.getElem_mem hil)
        simp at hm
        omega
      refine ok_seq (fun M1 hM1 => ok_block ?_)
      refine ok_seq (fun M hM => ok_draw 12 [] (Ext _) Fx.mixed (by decide) rfl (by decide +kernel) (by decide +kernel) (Ext.drew _) ?_); repeat ((try first | (refine ofX3 hX ?_; clear hX X) | (refine ofX2 hX ?_; clear hX X)); (first | refine wpL_step (fun X hX => ?_) | refine wpH_step (fun X hX => ?_) | refine wpE_step (fun X hX => ?_) | refine wpL_end ?_ | refine wpH_end ?_ | refine wpE_end ?_); try simp only [ oweC, oweP, opF, opH, ev, evs, evp, evo, Env.get, Env.set, putE, gdst, S0, S1, thenN, inBlockN, argEnv, builtinR, retE, fin, callR, reduceIte, Nat.reduceEqDiff, Nat.reduceAdd, reduceCtorEq, forall_const, Tryd.results12, Fx.ag2, Fx.ag22, Fx.ag24, Fx.ag3, Fx.ag9, Fx.es22, Fx.fo24_0, Fx.fo24_1, Fx.fo24_2, Fx.fo24_3, Fx.isl22])
      refine ⟨_, fun w5 h => h.cell (he4.cell (hA1 3 _ rfl)), ?_⟩
      repeat ((try first | (refine ofX3 hX ?_; clear hX X) | (refine ofX2 hX ?_; clear hX X)); (first | refine wpL_step (fun X hX => ?_) | refine wpH_step (fun X hX => ?_) | refine wpE_step (fun X hX => ?_) | refine wpL_end ?_ | refine wpH_end ?_ | refine wpE_end ?_); try simp only [ oweC, oweP, opF, opH, ev, evs, evp, evo, Env.get, Env.set, putE, gdst, S0, S1, thenN, inBlockN, argEnv, builtinR, retE, fin, callR, reduceIte, Nat.reduceEqDiff, Nat.reduceAdd, reduceCtorEq, forall_const, Tryd.results12, Fx.ag2, Fx.ag22, Fx.ag24, Fx.ag3, Fx.ag9, Fx.es22, Fx.fo24_0, Fx.fo24_1, Fx.fo24_2, Fx.fo24_3, Fx.isl22])
      refine ⟨by omega, by omega, ?_⟩
      repeat ((try first | (refine ofX3 hX ?_; clear hX X) | (refine ofX2 hX ?_; clear hX X)); (first | refine wpL_step (fun X hX => ?_) | refine wpH_step (fun X hX => ?_) | refine wpE_step (fun X hX => ?_) | refine wpL_end ?_ | refine wpH_end ?_ | refine wpE_end ?_); try simp only [ oweC, oweP, opF, opH, ev, evs, evp, evo, Env.get, Env.set, putE, gdst, S0, S1, thenN, inBlockN, argEnv, builtinR, retE, fin, callR, reduceIte, Nat.reduceEqDiff, Nat.reduceAdd, reduceCtorEq, forall_const, Tryd.results12, Fx.ag2, Fx.ag22, Fx.ag24, Fx.ag3, Fx.ag9, Fx.es22, Fx.fo24_0, Fx.fo24_1, Fx.fo24_2, Fx.fo24_3, Fx.isl22])
      refine ⟨rr, hr4, fun w5 h => h.cellsAt (he4.cellsAt (he02.cellsAt hcr)), ?_⟩
      repeat ((try first | (refine ofX3 hX ?_; clear hX X) | (refine ofX2 hX ?_; clear hX X)); (first | refine wpL_step (fun X hX => ?_) | refine wpH_step (fun X hX => ?_) | refine wpE_step (fun X hX => ?_) | refine wpL_end ?_ | refine wpH_end ?_ | refine wpE_end ?_); try simp only [ oweC, oweP, opF, opH, ev, evs, evp, evo, Env.get, Env.set, putE, gdst, S0, S1, thenN, inBlockN, argEnv, builtinR, retE, fin, callR, reduceIte, Nat.reduceEqDiff, Nat.reduceAdd, reduceCtorEq, forall_const, Tryd.results12, Fx.ag2, Fx.ag22, Fx.ag24, Fx.ag3, Fx.ag9, Fx.es22, Fx.fo24_0, Fx.fo24_1, Fx.fo24_2, Fx.fo24_3, Fx.isl22])
      refine ⟨_, fun w5 h => h.cell (he4.cell (hA2 3 _ rfl)), ?_⟩
      repeat ((try first | (refine ofX3 hX ?_; clear hX X) | (refine ofX2 hX ?_; clear hX X)); (first | refine wpL_step (fun X hX => ?_) | refine wpH_step (fun X hX => ?_) | refine wpE_step (fun X hX => ?_) | refine wpL_end ?_ | refine wpH_end ?_ | refine wpE_end ?_); try simp only [ oweC, oweP, opF, opH, ev, evs, evp, evo, Env.get, Env.set, putE, gdst, S0, S1, thenN, inBlockN, argEnv, builtinR, retE, fin, callR, reduceIte, Nat.reduceEqDiff, Nat.reduceAdd, reduceCtorEq, forall_const, Tryd.results12, Fx.ag2, Fx.ag22, Fx.ag24, Fx.ag3, Fx.ag9, Fx.es22, Fx.fo24_0, Fx.fo24_1, Fx.fo24_2, Fx.fo24_3, Fx.isl22])
      refine ⟨by omega, by omega, ?_⟩
      repeat ((try first | (refine ofX3 hX ?_; clear hX X) | (refine ofX2 hX ?_; clear hX X)); (first | refine wpL_step (fun X hX => ?_) | refine wpH_step (fun X hX => ?_) | refine wpE_step (fun X hX => ?_) | refine wpL_end ?_ | refine wpH_end ?_ | refine wpE_end ?_); try simp only [ oweC, oweP, opF, opH, ev, evs, evp, evo, Env.get, Env.set, putE, gdst, S0, S1, thenN, inBlockN, argEnv, builtinR, retE, fin, callR, reduceIte, Nat.reduceEqDiff, Nat.reduceAdd, reduceCtorEq, forall_const, Tryd.results12, Fx.ag2, Fx.ag22, Fx.ag24, Fx.ag3, Fx.ag9, Fx.es22, Fx.fo24_0, Fx.fo24_1, Fx.fo24_2, Fx.fo24_3, Fx.isl22])
      refine ⟨ss, hs4, fun w5 h => h.cellsAt (he4.cellsAt (he02.cellsAt hcs)), ?_⟩
      repeat ((try first | (refine ofX3 hX ?_; clear hX X) | (refine ofX2 hX ?_; clear hX X)); (first | refine wpL_step (fun X hX => ?_) | refine wpH_step (fun X hX => ?_) | refine wpE_step (fun X hX => ?_) | refine wpL_end ?_ | refine wpH_end ?_ | refine wpE_end ?_); try simp only [ oweC, oweP, opF, opH, ev, evs, evp, evo, Env.get, Env.set, putE, gdst, S0, S1, thenN, inBlockN, argEnv, builtinR, retE, fin, callR, reduceIte, Nat.reduceEqDiff, Nat.reduceAdd, reduceCtorEq, forall_const, Tryd.results12, Fx.ag2, Fx.ag22, Fx.ag24, Fx.ag3, Fx.ag9, Fx.es22, Fx.fo24_0, Fx.fo24_1, Fx.fo24_2, Fx.fo24_3, Fx.isl22])
      refine ⟨.bool (eqV a[i] (a'[i]'(by omega))), fun w5 h5 => Inv.call Fx.en12 (ih a[i] (a'[i]'(by omega)) w5 rr ss hsz (VRow.ext ((he02.trans he4).trans h5) _ _ hvr) (VRow.ext ((he02.trans he4).trans h5) _ _ hvs)) (fun v w6 ⟨h1, h2⟩ => ⟨h1, h5.trans h2⟩), ?_⟩
      repeat ((try first | (refine ofX3 hX ?_; clear hX X) | (refine ofX2 hX ?_; clear hX X)); (first | refine wpL_step (fun X hX => ?_) | refine wpH_step (fun X hX => ?_) | refine wpE_step (fun X hX => ?_) | refine wpL_end ?_ | refine wpH_end ?_ | refine wpE_end ?_); try simp only [ oweC, oweP, opF, opH, ev, evs, evp, evo, Env.get, Env.set, putE, gdst, S0, S1, thenN, inBlockN, argEnv, builtinR, retE, fin, callR, reduceIte, Nat.reduceEqDiff, Nat.reduceAdd, reduceCtorEq, forall_const, Tryd.results12, Fx.ag2, Fx.ag22, Fx.ag24, Fx.ag3, Fx.ag9, Fx.es22, Fx.fo24_0, Fx.fo24_1, Fx.fo24_2, Fx.fo24_3, Fx.isl22])
      intro w5 he5
      repeat ((try first | (refine ofX3 hX ?_; clear hX X) | (refine ofX2 hX ?_; clear hX X)); (first | refine wpL_step (fun X hX => ?_) | refine wpH_step (fun X hX => ?_) | refine wpE_step (fun X hX => ?_) | refine wpL_end ?_ | refine wpH_end ?_ | refine wpE_end ?_); try simp only [ oweC, oweP, opF, opH, ev, evs, evp, evo, Env.get, Env.set, putE, gdst, S0, S1, thenN, inBlockN, argEnv, builtinR, retE, fin, callR, reduceIte, Nat.reduceEqDiff, Nat.reduceAdd, reduceCtorEq, forall_const, Tryd.results12, Fx.ag2, Fx.ag22, Fx.ag24, Fx.ag3, Fx.ag9, Fx.es22, Fx.fo24_0, Fx.fo24_1, Fx.fo24_2, Fx.fo24_3, Fx.isl22])
      refine hM _ _ _ ?_; clear hM M
      refine ok_cond rfl (fun hc2 => ?_) (fun hc2 => ok_skip ?_)
      · refine ok_seq (fun M hM => ok_region rfl ?_); repeat ((try first | (refine ofX3 hX ?_; clear hX X) | (refine ofX2 hX ?_; clear hX X)); (first | refine wpL_step (fun X hX => ?_) | refine wpH_step (fun X hX => ?_) | refine wpE_step (fun X hX => ?_) | refine wpL_end ?_ | refine wpH_end ?_ | refine wpE_end ?_); try simp only [ oweC, oweP, opF, opH, ev, evs, evp, evo, Env.get, Env.set, putE, gdst, S0, S1, thenN, inBlockN, argEnv, builtinR, retE, fin, callR, reduceIte, Nat.reduceEqDiff, Nat.reduceAdd, reduceCtorEq, forall_const, Tryd.results12, Fx.ag2, Fx.ag22, Fx.ag24, Fx.ag3, Fx.ag9, Fx.es22, Fx.fo24_0, Fx.fo24_1, Fx.fo24_2, Fx.fo24_3, Fx.isl22])
        refine hM _ _ _ ?_; clear hM M
        refine ok_ret ?_
        try simp only [wpL, wpH, wpE, oweC, oweP, opF, opH, ev, evs, evp, evo, Env.get, Env.set, putE, gdst, S0, S1, thenN, inBlockN, argEnv, builtinR, retE, fin, callR, reduceIte, Nat.reduceEqDiff, Nat.reduceAdd, reduceCtorEq, forall_const, Tryd.results12, Fx.ag2, Fx.ag22, Fx.ag24, Fx.ag3, Fx.ag9, Fx.es22, Fx.fo24_0, Fx.fo24_1, Fx.fo24_2, Fx.fo24_3, Fx.isl22]
        refine ⟨?_, (he02.trans he4).trans he5⟩
        have hne : eqVs a a' = false := by
          cases hx : eqVs a a' with
          | false => rfl
          | true =>
            have := ((eqVs_iff a a').1 hx).2 i _ _ hxi hyi
            rw [this] at hc2; cases hc2
        simp [eqV, hne]
      · try simp only [wpL, wpH, wpE, oweC, oweP, opF, opH, ev, evs, evp, evo, Env.get, Env.set, putE, gdst, S0, S1, thenN, inBlockN, argEnv, builtinR, retE, fin, callR, reduceIte, Nat.reduceEqDiff, Nat.reduceAdd, reduceCtorEq, forall_const, Tryd.results12, Fx.ag2, Fx.ag22, Fx.ag24, Fx.ag3, Fx.ag9, Fx.es22, Fx.fo24_0, Fx.fo24_1, Fx.fo24_2, Fx.fo24_3, Fx.isl22]
        refine hM1 _ _ _ ?_; clear hM1 M1
        refine ok_region rfl ?_
        repeat ((try first | (refine ofX3 hX ?_; clear hX X) | (refine ofX2 hX ?_; clear hX X)); (first | refine wpL_step (fun X hX => ?_) | refine wpH_step (fun X hX => ?_) | refine wpE_step (fun X hX => ?_) | refine wpL_end ?_ | refine wpH_end ?_ | refine wpE_end ?_); try simp only [ oweC, oweP, opF, opH, ev, evs, evp, evo, Env.get, Env.set, putE, gdst, S0, S1, thenN, inBlockN, argEnv, builtinR, retE, fin, callR, reduceIte, Nat.reduceEqDiff, Nat.reduceAdd, reduceCtorEq, forall_const, Tryd.results12, Fx.ag2, Fx.ag22, Fx.ag24, Fx.ag3, Fx.ag9, Fx.es22, Fx.fo24_0, Fx.fo24_1, Fx.fo24_2, Fx.fo24_3, Fx.isl22])
        refine ⟨by simp only [inI]; omega, ?_⟩
        repeat ((try first | (refine ofX3 hX ?_; clear hX X) | (refine ofX2 hX ?_; clear hX X)); (first | refine wpL_step (fun X hX => ?_) | refine wpH_step (fun X hX => ?_) | refine wpE_step (fun X hX => ?_) | refine wpL_end ?_ | refine wpH_end ?_ | refine wpE_end ?_); try simp only [ oweC, oweP, opF, opH, ev, evs, evp, evo, Env.get, Env.set, putE, gdst, S0, S1, thenN, inBlockN, argEnv, builtinR, retE, fin, callR, reduceIte, Nat.reduceEqDiff, Nat.reduceAdd, reduceCtorEq, forall_const, Tryd.results12, Fx.ag2, Fx.ag22, Fx.ag24, Fx.ag3, Fx.ag9, Fx.es22, Fx.fo24_0, Fx.fo24_1, Fx.fo24_2, Fx.fo24_3, Fx.isl22])
        refine ⟨i + 1, by simp [sub, Env.get], ⟨he4.trans he5, by omega, fun j x y hj hx hy => ?_⟩, by omega⟩
        rcases Nat.lt_or_ge j i with h | h
        · exact hall j x y h hx hy
        · have : j = i := by omega
          subst this
          rw [hxi] at hx; rw [hyi] at hy
          cases hx; cases hy
          simpa using hc2
end Go.Proofs.YtldeokfhipjbfaaDoor
