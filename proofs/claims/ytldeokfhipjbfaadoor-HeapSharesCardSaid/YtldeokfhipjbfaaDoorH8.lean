/- formed: the shape of a value that can be stored. -/
import Derived.Test.YtldeokfhipjbfaaDoorH7
set_option linter.unusedVariables false
set_option linter.unusedSimpArgs false
namespace Go.Proofs.YtldeokfhipjbfaaDoor
open Go Go.Proofs.Vg Go.RowKit

-- -- function 51
set_option maxHeartbeats 2000000 in
set_option maxRecDepth 8000 in
theorem formed1_ok (w : World) (r : List Value) (x : Val) (hr : VRow w r x) (h : ∀ w', Ext w w' → Rets Tryd.prog 27 [.agg r.toArray] w' (fun v w'' => v = .bool (formedV x) ∧ Ext w' w'')) : Rets Tryd.prog 51 [.agg r.toArray] w (fun v w' => v = .bool (!formedV x) ∧ Ext w w') := by
  refine rets_of_ok Tryd.func51 rfl rfl ?_
  refine ok_seq (fun M hM => ok_region rfl ?_)
  repeat ((try first | (refine ofX3 hX ?_; clear hX X) | (refine ofX2 hX ?_; clear hX X)); (first | refine wpL_step (fun X hX => ?_) | refine wpH_step (fun X hX => ?_) | refine wpE_step (fun X hX => ?_) | refine wpL_end ?_ | refine wpH_end ?_ | refine wpE_end ?_); try simp only [ oweC, oweP, opF, opH, ev, evs, evp, evo, Env.get, Env.set, putE, gdst, S0, S1, thenN, inBlockN, argEnv, builtinR, retE, fin, callR, reduceIte, Nat.reduceEqDiff, Nat.reduceAdd, reduceCtorEq, forall_const, Tryd.results51, Fx.ag24])
  refine Runs.box (fun w1 he1 hz1 hb1 => ?_)
  generalize hB1 : w.heap.size = B1 at hz1 hb1
  simp only [Value.cells] at hb1
  repeat ((try first | (refine ofX3 hX ?_; clear hX X) | (refine ofX2 hX ?_; clear hX X)); (first | refine wpL_step (fun X hX => ?_) | refine wpH_step (fun X hX => ?_) | refine wpE_step (fun X hX => ?_) | refine wpL_end ?_ | refine wpH_end ?_ | refine wpE_end ?_); try simp only [ oweC, oweP, opF, opH, ev, evs, evp, evo, Env.get, Env.set, putE, gdst, S0, S1, thenN, inBlockN, argEnv, builtinR, retE, fin, callR, reduceIte, Nat.reduceEqDiff, Nat.reduceAdd, reduceCtorEq, forall_const, Tryd.results51, Fx.ag24])
  refine hM _ _ _ ?_; clear hM M
  refine ok_seq (fun M hM => ok_region rfl ?_)
  repeat ((try first | (refine ofX3 hX ?_; clear hX X) | (refine ofX2 hX ?_; clear hX X)); (first | refine wpL_step (fun X hX => ?_) | refine wpH_step (fun X hX => ?_) | refine wpE_step (fun X hX => ?_) | refine wpL_end ?_ | refine wpH_end ?_ | refine wpE_end ?_); try simp only [ oweC, oweP, opF, opH, ev, evs, evp, evo, Env.get, Env.set, putE, gdst, S0, S1, thenN, inBlockN, argEnv, builtinR, retE, fin, callR, reduceIte, Nat.reduceEqDiff, Nat.reduceAdd, reduceCtorEq, forall_const, Tryd.results51, Fx.ag24])
  refine ⟨r, hr.len, hb1.cells (o := 0) (fun j u hj => by simpa using hj), ?_⟩
  repeat ((try first | (refine ofX3 hX ?_; clear hX X) | (refine ofX2 hX ?_; clear hX X)); (first | refine wpL_step (fun X hX => ?_) | refine wpH_step (fun X hX => ?_) | refine wpE_step (fun X hX => ?_) | refine wpL_end ?_ | refine wpH_end ?_ | refine wpE_end ?_); try simp only [ oweC, oweP, opF, opH, ev, evs, evp, evo, Env.get, Env.set, putE, gdst, S0, S1, thenN, inBlockN, argEnv, builtinR, retE, fin, callR, reduceIte, Nat.reduceEqDiff, Nat.reduceAdd, reduceCtorEq, forall_const, Tryd.results51, Fx.ag24])
  refine Inv.call Fx.en27 (h w1 he1) ?_
  rintro v w7 ⟨rfl, he7⟩
  repeat ((try first | (refine ofX3 hX ?_; clear hX X) | (refine ofX2 hX ?_; clear hX X)); (first | refine wpL_step (fun X hX => ?_) | refine wpH_step (fun X hX => ?_) | refine wpE_step (fun X hX => ?_) | refine wpL_end ?_ | refine wpH_end ?_ | refine wpE_end ?_); try simp only [ oweC, oweP, opF, opH, ev, evs, evp, evo, Env.get, Env.set, putE, gdst, S0, S1, thenN, inBlockN, argEnv, builtinR, retE, fin, callR, reduceIte, Nat.reduceEqDiff, Nat.reduceAdd, reduceCtorEq, forall_const, Tryd.results51, Fx.ag24])
  refine hM _ _ _ ?_; clear hM M
  refine ok_ret ?_
  try simp only [wpL, wpH, wpE, oweC, oweP, opF, opH, ev, evs, evp, evo, Env.get, Env.set, putE, gdst, S0, S1, thenN, inBlockN, argEnv, builtinR, retE, fin, callR, reduceIte, Nat.reduceEqDiff, Nat.reduceAdd, reduceCtorEq, forall_const, Tryd.results51, Fx.ag24]
  exact he1.trans he7

-- -- function 27
set_option maxHeartbeats 2000000 in
set_option maxRecDepth 8000 in
theorem formed_ok : ∀ (m : Nat) (x : Val) (w : World) (r : List Value), SizeOf.sizeOf x ≤ m → VRow w r x → Rets Tryd.prog 27 [.agg r.toArray] w (fun v w' => v = .bool (formedV x) ∧ Ext w w') := by
  intro m
  induction m with
  | zero => intro x w r hm; cases x; simp at hm
  | succ m ih =>
    rintro ⟨k, n, t, a⟩ w r hm hr
    simp only [VRow] at hr
    obtain ⟨v, rfl, hv1, hv2, rows, hsl, hrows⟩ := hr
    obtain ⟨A, cp, rfl, hlen, hcell⟩ := hsl
    have hl := hrows.length
    refine rets_of_ok Tryd.func27 rfl rfl ?_
    refine ok_seq (fun M hM => ok_region rfl ?_)
    repeat ((try first | (refine ofX3 hX ?_; clear hX X) | (refine ofX2 hX ?_; clear hX X)); (first | refine wpL_step (fun X hX => ?_) | refine wpH_step (fun X hX => ?_) | refine wpE_step (fun X hX => ?_) | refine wpL_end ?_ | refine wpH_end ?_ | refine wpE_end ?_); try simp only [ oweC, oweP, opF, opH, ev, evs, evp, evo, Env.get, Env.set, putE, gdst, S0, S1, thenN, inBlockN, argEnv, builtinR, retE, fin, callR, reduceIte, Nat.reduceEqDiff, Nat.reduceAdd, reduceCtorEq, forall_const, Tryd.results27, Fx.ag2, Fx.ag22, Fx.ag3, Fx.ag9, Fx.fo24_0, Fx.fo24_1, Fx.fo24_2, Fx.fo24_3, Fx.isl22])
    refine Runs.box (fun w1 he1 hz1 hb1 => ?_)
    generalize hB1 : w.heap.size = B1 at hz1 hb1
    simp only [Value.cells] at hb1
    repeat ((try first | (refine ofX3 hX ?_; clear hX X) | (refine ofX2 hX ?_; clear hX X)); (first | refine wpL_step (fun X hX => ?_) | refine wpH_step (fun X hX => ?_) | refine wpE_step (fun X hX => ?_) | refine wpL_end ?_ | refine wpH_end ?_ | refine wpE_end ?_); try simp only [ oweC, oweP, opF, opH, ev, evs, evp, evo, Env.get, Env.set, putE, gdst, S0, S1, thenN, inBlockN, argEnv, builtinR, retE, fin, callR, reduceIte, Nat.reduceEqDiff, Nat.reduceAdd, reduceCtorEq, forall_const, Tryd.results27, Fx.ag2, Fx.ag22, Fx.ag3, Fx.ag9, Fx.fo24_0, Fx.fo24_1, Fx.fo24_2, Fx.fo24_3, Fx.isl22])
    refine hM _ _ _ ?_; clear hM M
    rw [hl] at hb1
    refine ok_seq (fun M hM => ok_region rfl ?_)
    repeat ((try first | (refine ofX3 hX ?_; clear hX X) | (refine ofX2 hX ?_; clear hX X)); (first | refine wpL_step (fun X hX => ?_) | refine wpH_step (fun X hX => ?_) | refine wpE_step (fun X hX => ?_) | refine wpL_end ?_ | refine wpH_end ?_ | refine wpE_end ?_); try simp only [ oweC, oweP, opF, opH, ev, evs, evp, evo, Env.get, Env.set, putE, gdst, S0, S1, thenN, inBlockN, argEnv, builtinR, retE, fin, callR, reduceIte, Nat.reduceEqDiff, Nat.reduceAdd, reduceCtorEq, forall_const, Tryd.results27, Fx.ag2, Fx.ag22, Fx.ag3, Fx.ag9, Fx.fo24_0, Fx.fo24_1, Fx.fo24_2, Fx.fo24_3, Fx.isl22])
    refine ⟨_, hb1.cell (j := 2) rfl, ?_⟩
    repeat ((try first | (refine ofX3 hX ?_; clear hX X) | (refine ofX2 hX ?_; clear hX X)); (first | refine wpL_step (fun X hX => ?_) | refine wpH_step (fun X hX => ?_) | refine wpE_step (fun X hX => ?_) | refine wpL_end ?_ | refine wpH_end ?_ | refine wpE_end ?_); try simp only [ oweC, oweP, opF, opH, ev, evs, evp, evo, Env.get, Env.set, putE, gdst, S0, S1, thenN, inBlockN, argEnv, builtinR, retE, fin, callR, reduceIte, Nat.reduceEqDiff, Nat.reduceAdd, reduceCtorEq, forall_const, Tryd.results27, Fx.ag2, Fx.ag22, Fx.ag3, Fx.ag9, Fx.fo24_0, Fx.fo24_1, Fx.fo24_2, Fx.fo24_3, Fx.isl22])
    refine hM _ _ _ ?_; clear hM M
    refine ok_join [(1, ptrOf B1), (3, .bool (wellV k n t a.length))] (fun w' => w' = w1) ?_ ?_
    · refine ok_seq (fun M hM => ok_region rfl ?_)
      repeat ((try first | (refine ofX3 hX ?_; clear hX X) | (refine ofX2 hX ?_; clear hX X)); (first | refine wpL_step (fun X hX => ?_) | refine wpH_step (fun X hX => ?_) | refine wpE_step (fun X hX => ?_) | refine wpL_end ?_ | refine wpH_end ?_ | refine wpE_end ?_); try simp only [ oweC, oweP, opF, opH, ev, evs, evp, evo, Env.get, Env.set, putE, gdst, S0, S1, thenN, inBlockN, argEnv, builtinR, retE, fin, callR, reduceIte, Nat.reduceEqDiff, Nat.reduceAdd, reduceCtorEq, forall_const, Tryd.results27, Fx.ag2, Fx.ag22, Fx.ag3, Fx.ag9, Fx.fo24_0, Fx.fo24_1, Fx.fo24_2, Fx.fo24_3, Fx.isl22])
      refine ⟨_, hb1.cell (j := 0) rfl, ?_⟩
      repeat ((try first | (refine ofX3 hX ?_; clear hX X) | (refine ofX2 hX ?_; clear hX X)); (first | refine wpL_step (fun X hX => ?_) | refine wpH_step (fun X hX => ?_) | refine wpE_step (fun X hX => ?_) | refine wpL_end ?_ | refine wpH_end ?_ | refine wpE_end ?_); try simp only [ oweC, oweP, opF, opH, ev, evs, evp, evo, Env.get, Env.set, putE, gdst, S0, S1, thenN, inBlockN, argEnv, builtinR, retE, fin, callR, reduceIte, Nat.reduceEqDiff, Nat.reduceAdd, reduceCtorEq, forall_const, Tryd.results27, Fx.ag2, Fx.ag22, Fx.ag3, Fx.ag9, Fx.fo24_0, Fx.fo24_1, Fx.fo24_2, Fx.fo24_3, Fx.isl22])
      refine hM _ _ _ ?_; clear hM M
      refine ok_block ?_
      refine ok_join [(1, ptrOf B1), (3, .bool (decide (t = ⟨#[]⟩))), (8, .int .i64 k), (15, .bool (decide (k = 1 ∨ k = 2)))] (fun w' => w' = w1) ?_ ?_
      · refine ok_seq (fun M hM => ok_region rfl ?_); repeat ((try first | (refine ofX3 hX ?_; clear hX X) | (refine ofX2 hX ?_; clear hX X)); (first | refine wpL_step (fun X hX => ?_) | refine wpH_step (fun X hX => ?_) | refine wpE_step (fun X hX => ?_) | refine wpL_end ?_ | refine wpH_end ?_ | refine wpE_end ?_); try simp only [ oweC, oweP, opF, opH, ev, evs, evp, evo, Env.get, Env.set, putE, gdst, S0, S1, thenN, inBlockN, argEnv, builtinR, retE, fin, callR, reduceIte, Nat.reduceEqDiff, Nat.reduceAdd, reduceCtorEq, forall_const, Tryd.results27, Fx.ag2, Fx.ag22, Fx.ag3, Fx.ag9, Fx.fo24_0, Fx.fo24_1, Fx.fo24_2, Fx.fo24_3, Fx.isl22])
        refine hM _ _ _ ?_; clear hM M
        refine ok_if rfl (fun hk => ok_skip ?_) (fun hk => ?_)
        · try simp only [wpL, wpH, wpE, oweC, oweP, opF, opH, ev, evs, evp, evo, Env.get, Env.set, putE, gdst, S0, S1, thenN, inBlockN, argEnv, builtinR, retE, fin, callR, reduceIte, Nat.reduceEqDiff, Nat.reduceAdd, reduceCtorEq, forall_const, Tryd.results27, Fx.ag2, Fx.ag22, Fx.ag3, Fx.ag9, Fx.fo24_0, Fx.fo24_1, Fx.fo24_2, Fx.fo24_3, Fx.isl22]
          simp [sub, Env.get, hk]
        · refine ok_region rfl ?_
          repeat ((try first | (refine ofX3 hX ?_; clear hX X) | (refine ofX2 hX ?_; clear hX X)); (first | refine wpL_step (fun X hX => ?_) | refine wpH_step (fun X hX => ?_) | refine wpE_step (fun X hX => ?_) | refine wpL_end ?_ | refine wpH_end ?_ | refine wpE_end ?_); try simp only [ oweC, oweP, opF, opH, ev, evs, evp, evo, Env.get, Env.set, putE, gdst, S0, S1, thenN, inBlockN, argEnv, builtinR, retE, fin, callR, reduceIte, Nat.reduceEqDiff, Nat.reduceAdd, reduceCtorEq, forall_const, Tryd.results27, Fx.ag2, Fx.ag22, Fx.ag3, Fx.ag9, Fx.fo24_0, Fx.fo24_1, Fx.fo24_2, Fx.fo24_3, Fx.isl22])
          simp [sub, Env.get, hk]
      rintro w2 rfl
      refine ok_if rfl (fun hk => ?_) (fun hk => ?_)
      · refine ok_region rfl ?_
        repeat ((try first | (refine ofX3 hX ?_; clear hX X) | (refine ofX2 hX ?_; clear hX X)); (first | refine wpL_step (fun X hX => ?_) | refine wpH_step (fun X hX => ?_) | refine wpE_step (fun X hX => ?_) | refine wpL_end ?_ | refine wpH_end ?_ | refine wpE_end ?_); try simp only [ oweC, oweP, opF, opH, ev, evs, evp, evo, Env.get, Env.set, putE, gdst, S0, S1, thenN, inBlockN, argEnv, builtinR, retE, fin, callR, reduceIte, Nat.reduceEqDiff, Nat.reduceAdd, reduceCtorEq, forall_const, Tryd.results27, Fx.ag2, Fx.ag22, Fx.ag3, Fx.ag9, Fx.fo24_0, Fx.fo24_1, Fx.fo24_2, Fx.fo24_3, Fx.isl22])
        refine ⟨fun h => ?_, fun h => ?_⟩
        · have ht : t = ⟨#[]⟩ := by simpa using h
          repeat ((try first | (refine ofX3 hX ?_; clear hX X) | (refine ofX2 hX ?_; clear hX X)); (first | refine wpL_step (fun X hX => ?_) | refine wpH_step (fun X hX => ?_) | refine wpE_step (fun X hX => ?_) | refine wpL_end ?_ | refine wpH_end ?_ | refine wpE_end ?_); try simp only [ oweC, oweP, opF, opH, ev, evs, evp, evo, Env.get, Env.set, putE, gdst, S0, S1, thenN, inBlockN, argEnv, builtinR, retE, fin, callR, reduceIte, Nat.reduceEqDiff, Nat.reduceAdd, reduceCtorEq, forall_const, Tryd.results27, Fx.ag2, Fx.ag22, Fx.ag3, Fx.ag9, Fx.fo24_0, Fx.fo24_1, Fx.fo24_2, Fx.fo24_3, Fx.isl22])
          refine ⟨_, hb1.cell (j := 3) rfl, ?_⟩
          repeat ((try first | (refine ofX3 hX ?_; clear hX X) | (refine ofX2 hX ?_; clear hX X)); (first | refine wpL_step (fun X hX => ?_) | refine wpH_step (fun X hX => ?_) | refine wpE_step (fun X hX => ?_) | refine wpL_end ?_ | refine wpH_end ?_ | refine wpE_end ?_); try simp only [ oweC, oweP, opF, opH, ev, evs, evp, evo, Env.get, Env.set, putE, gdst, S0, S1, thenN, inBlockN, argEnv, builtinR, retE, fin, callR, reduceIte, Nat.reduceEqDiff, Nat.reduceAdd, reduceCtorEq, forall_const, Tryd.results27, Fx.ag2, Fx.ag22, Fx.ag3, Fx.ag9, Fx.fo24_0, Fx.fo24_1, Fx.fo24_2, Fx.fo24_3, Fx.isl22])
          simp [sub, Env.get, wellV, hk, ht]
        · have ht : ¬ t = ⟨#[]⟩ := by simpa using h
          repeat ((try first | (refine ofX3 hX ?_; clear hX X) | (refine ofX2 hX ?_; clear hX X)); (first | refine wpL_step (fun X hX => ?_) | refine wpH_step (fun X hX => ?_) | refine wpE_step (fun X hX => ?_) | refine wpL_end ?_ | refine wpH_end ?_ | refine wpE_end ?_); try simp only [ oweC, oweP, opF, opH, ev, evs, evp, evo, Env.get, Env.set, putE, gdst, S0, S1, thenN, inBlockN, argEnv, builtinR, retE, fin, callR, reduceIte, Nat.reduceEqDiff, Nat.reduceAdd, reduceCtorEq, forall_const, Tryd.results27, Fx.ag2, Fx.ag22, Fx.ag3, Fx.ag9, Fx.fo24_0, Fx.fo24_1, Fx.fo24_2, Fx.fo24_3, Fx.isl22])
          simp [sub, Env.get, wellV, hk, ht]
      · refine ok_seq (fun M hM => ok_region rfl ?_); repeat ((try first | (refine ofX3 hX ?_; clear hX X) | (refine ofX2 hX ?_; clear hX X)); (first | refine wpL_step (fun X hX => ?_) | refine wpH_step (fun X hX => ?_) | refine wpE_step (fun X hX => ?_) | refine wpL_end ?_ | refine wpH_end ?_ | refine wpE_end ?_); try simp only [ oweC, oweP, opF, opH, ev, evs, evp, evo, Env.get, Env.set, putE, gdst, S0, S1, thenN, inBlockN, argEnv, builtinR, retE, fin, callR, reduceIte, Nat.reduceEqDiff, Nat.reduceAdd, reduceCtorEq, forall_const, Tryd.results27, Fx.ag2, Fx.ag22, Fx.ag3, Fx.ag9, Fx.fo24_0, Fx.fo24_1, Fx.fo24_2, Fx.fo24_3, Fx.isl22])
        refine hM _ _ _ ?_; clear hM M
        refine ok_if rfl (fun hk3 => ?_) (fun hk3 => ?_)
        · refine ok_region rfl ?_
          repeat ((try first | (refine ofX3 hX ?_; clear hX X) | (refine ofX2 hX ?_; clear hX X)); (first | refine wpL_step (fun X hX => ?_) | refine wpH_step (fun X hX => ?_) | refine wpE_step (fun X hX => ?_) | refine wpL_end ?_ | refine wpH_end ?_ | refine wpE_end ?_); try simp only [ oweC, oweP, opF, opH, ev, evs, evp, evo, Env.get, Env.set, putE, gdst, S0, S1, thenN, inBlockN, argEnv, builtinR, retE, fin, callR, reduceIte, Nat.reduceEqDiff, Nat.reduceAdd, reduceCtorEq, forall_const, Tryd.results27, Fx.ag2, Fx.ag22, Fx.ag3, Fx.ag9, Fx.fo24_0, Fx.fo24_1, Fx.fo24_2, Fx.fo24_3, Fx.isl22])
          refine ⟨_, hb1.cell (j := 1) rfl, ?_⟩
          repeat ((try first | (refine ofX3 hX ?_; clear hX X) | (refine ofX2 hX ?_; clear hX X)); (first | refine wpL_step (fun X hX => ?_) | refine wpH_step (fun X hX => ?_) | refine wpE_step (fun X hX => ?_) | refine wpL_end ?_ | refine wpH_end ?_ | refine wpE_end ?_); try simp only [ oweC, oweP, opF, opH, ev, evs, evp, evo, Env.get, Env.set, putE, gdst, S0, S1, thenN, inBlockN, argEnv, builtinR, retE, fin, callR, reduceIte, Nat.reduceEqDiff, Nat.reduceAdd, reduceCtorEq, forall_const, Tryd.results27, Fx.ag2, Fx.ag22, Fx.ag3, Fx.ag9, Fx.fo24_0, Fx.fo24_1, Fx.fo24_2, Fx.fo24_3, Fx.isl22])
          refine ⟨fun h => ?_, fun h => ?_⟩
          · have ht : n = 0 := by simpa using h
            repeat ((try first | (refine ofX3 hX ?_; clear hX X) | (refine ofX2 hX ?_; clear hX X)); (first | refine wpL_step (fun X hX => ?_) | refine wpH_step (fun X hX => ?_) | refine wpE_step (fun X hX => ?_) | refine wpL_end ?_ | refine wpH_end ?_ | refine wpE_end ?_); try simp only [ oweC, oweP, opF, opH, ev, evs, evp, evo, Env.get, Env.set, putE, gdst, S0, S1, thenN, inBlockN, argEnv, builtinR, retE, fin, callR, reduceIte, Nat.reduceEqDiff, Nat.reduceAdd, reduceCtorEq, forall_const, Tryd.results27, Fx.ag2, Fx.ag22, Fx.ag3, Fx.ag9, Fx.fo24_0, Fx.fo24_1, Fx.fo24_2, Fx.fo24_3, Fx.isl22])
            refine ⟨_, hb1.cell (j := 3) rfl, ?_⟩
            repeat ((try first | (refine ofX3 hX ?_; clear hX X) | (refine ofX2 hX ?_; clear hX X)); (first | refine wpL_step (fun X hX => ?_) | refine wpH_step (fun X hX => ?_) | refine wpE_step (fun X hX => ?_) | refine wpL_end ?_ | refine wpH_end ?_ | refine wpE_end ?_); try simp only [ oweC, oweP, opF, opH, ev, evs, evp, evo, Env.get, Env.set, putE, gdst, S0, S1, thenN, inBlockN, argEnv, builtinR, retE, fin, callR, reduceIte, Nat.reduceEqDiff, Nat.reduceAdd, reduceCtorEq, forall_const, Tryd.results27, Fx.ag2, Fx.ag22, Fx.ag3, Fx.ag9, Fx.fo24_0, Fx.fo24_1, Fx.fo24_2, Fx.fo24_3, Fx.isl22])
            simp [sub, Env.get, wellV, hk, hk3, ht]
          · have ht : ¬ n = 0 := by simpa using h
            repeat ((try first | (refine ofX3 hX ?_; clear hX X) | (refine ofX2 hX ?_; clear hX X)); (first | refine wpL_step (fun X hX => ?_) | refine wpH_step (fun X hX => ?_) | refine wpE_step (fun X hX => ?_) | refine wpL_end ?_ | refine wpH_end ?_ | refine wpE_end ?_); try simp only [ oweC, oweP, opF, opH, ev, evs, evp, evo, Env.get, Env.set, putE, gdst, S0, S1, thenN, inBlockN, argEnv, builtinR, retE, fin, callR, reduceIte, Nat.reduceEqDiff, Nat.reduceAdd, reduceCtorEq, forall_const, Tryd.results27, Fx.ag2, Fx.ag22, Fx.ag3, Fx.ag9, Fx.fo24_0, Fx.fo24_1, Fx.fo24_2, Fx.fo24_3, Fx.isl22])
            simp [sub, Env.get, wellV, hk, hk3, ht]
        · refine ok_seq (fun M hM => ok_region rfl ?_); repeat ((try first | (refine ofX3 hX ?_; clear hX X) | (refine ofX2 hX ?_; clear hX X)); (first | refine wpL_step (fun X hX => ?_) | refine wpH_step (fun X hX => ?_) | refine wpE_step (fun X hX => ?_) | refine wpL_end ?_ | refine wpH_end ?_ | refine wpE_end ?_); try simp only [ oweC, oweP, opF, opH, ev, evs, evp, evo, Env.get, Env.set, putE, gdst, S0, S1, thenN, inBlockN, argEnv, builtinR, retE, fin, callR, reduceIte, Nat.reduceEqDiff, Nat.reduceAdd, reduceCtorEq, forall_const, Tryd.results27, Fx.ag2, Fx.ag22, Fx.ag3, Fx.ag9, Fx.fo24_0, Fx.fo24_1, Fx.fo24_2, Fx.fo24_3, Fx.isl22])
          refine hM _ _ _ ?_; clear hM M
          refine ok_if rfl (fun hk8 => ?_) (fun hk8 => ?_)
          · refine ok_region rfl ?_
            repeat ((try first | (refine ofX3 hX ?_; clear hX X) | (refine ofX2 hX ?_; clear hX X)); (first | refine wpL_step (fun X hX => ?_) | refine wpH_step (fun X hX => ?_) | refine wpE_step (fun X hX => ?_) | refine wpL_end ?_ | refine wpH_end ?_ | refine wpE_end ?_); try simp only [ oweC, oweP, opF, opH, ev, evs, evp, evo, Env.get, Env.set, putE, gdst, S0, S1, thenN, inBlockN, argEnv, builtinR, retE, fin, callR, reduceIte, Nat.reduceEqDiff, Nat.reduceAdd, reduceCtorEq, forall_const, Tryd.results27, Fx.ag2, Fx.ag22, Fx.ag3, Fx.ag9, Fx.fo24_0, Fx.fo24_1, Fx.fo24_2, Fx.fo24_3, Fx.isl22])
            refine ⟨fun h => ?_, fun h => ?_⟩
            · have ht : t = ⟨#[]⟩ := by simpa using h
              repeat ((try first | (refine ofX3 hX ?_; clear hX X) | (refine ofX2 hX ?_; clear hX X)); (first | refine wpL_step (fun X hX => ?_) | refine wpH_step (fun X hX => ?_) | refine wpE_step (fun X hX => ?_) | refine wpL_end ?_ | refine wpH_end ?_ | refine wpE_end ?_); try simp only [ oweC, oweP, opF, opH, ev, evs, evp, evo, Env.get, Env.set, putE, gdst, S0, S1, thenN, inBlockN, argEnv, builtinR, retE, fin, callR, reduceIte, Nat.reduceEqDiff, Nat.reduceAdd, reduceCtorEq, forall_const, Tryd.results27, Fx.ag2, Fx.ag22, Fx.ag3, Fx.ag9, Fx.fo24_0, Fx.fo24_1, Fx.fo24_2, Fx.fo24_3, Fx.isl22])
              refine ⟨_, hb1.cell (j := 1) rfl, ?_⟩
              repeat ((try first | (refine ofX3 hX ?_; clear hX X) | (refine ofX2 hX ?_; clear hX X)); (first | refine wpL_step (fun X hX => ?_) | refine wpH_step (fun X hX => ?_) | refine wpE_step (fun X hX => ?_) | refine wpL_end ?_ | refine wpH_end ?_ | refine wpE_end ?_); try simp only [ oweC, oweP, opF, opH, ev, evs, evp, evo, Env.get, Env.set, putE, gdst, S0, S1, thenN, inBlockN, argEnv, builtinR, retE, fin, callR, reduceIte, Nat.reduceEqDiff, Nat.reduceAdd, reduceCtorEq, forall_const, Tryd.results27, Fx.ag2, Fx.ag22, Fx.ag3, Fx.ag9, Fx.fo24_0, Fx.fo24_1, Fx.fo24_2, Fx.fo24_3, Fx.isl22])
              refine ⟨fun h => ?_, fun h => ?_⟩
              · have hn : 0 ≤ n := by simpa using h
                repeat ((try first | (refine ofX3 hX ?_; clear hX X) | (refine ofX2 hX ?_; clear hX X)); (first | refine wpL_step (fun X hX => ?_) | refine wpH_step (fun X hX => ?_) | refine wpE_step (fun X hX => ?_) | refine wpL_end ?_ | refine wpH_end ?_ | refine wpE_end ?_); try simp only [ oweC, oweP, opF, opH, ev, evs, evp, evo, Env.get, Env.set, putE, gdst, S0, S1, thenN, inBlockN, argEnv, builtinR, retE, fin, callR, reduceIte, Nat.reduceEqDiff, Nat.reduceAdd, reduceCtorEq, forall_const, Tryd.results27, Fx.ag2, Fx.ag22, Fx.ag3, Fx.ag9, Fx.fo24_0, Fx.fo24_1, Fx.fo24_2, Fx.fo24_3, Fx.isl22])
                refine ⟨_, hb1.cell (j := 3) rfl, ?_⟩
                repeat ((try first | (refine ofX3 hX ?_; clear hX X) | (refine ofX2 hX ?_; clear hX X)); (first | refine wpL_step (fun X hX => ?_) | refine wpH_step (fun X hX => ?_) | refine wpE_step (fun X hX => ?_) | refine wpL_end ?_ | refine wpH_end ?_ | refine wpE_end ?_); try simp only [ oweC, oweP, opF, opH, ev, evs, evp, evo, Env.get, Env.set, putE, gdst, S0, S1, thenN, inBlockN, argEnv, builtinR, retE, fin, callR, reduceIte, Nat.reduceEqDiff, Nat.reduceAdd, reduceCtorEq, forall_const, Tryd.results27, Fx.ag2, Fx.ag22, Fx.ag3, Fx.ag9, Fx.fo24_0, Fx.fo24_1, Fx.fo24_2, Fx.fo24_3, Fx.isl22])
                simp [sub, Env.get, wellV, hk, hk3, hk8, ht, hn]
              · have hn : ¬ 0 ≤ n := by simpa using h
                repeat ((try first | (refine ofX3 hX ?_; clear hX X) | (refine ofX2 hX ?_; clear hX X)); (first | refine wpL_step (fun X hX => ?_) | refine wpH_step (fun X hX => ?_) | refine wpE_step (fun X hX => ?_) | refine wpL_end ?_ | refine wpH_end ?_ | refine wpE_end ?_); try simp only [ oweC, oweP, opF, opH, ev, evs, evp, evo, Env.get, Env.set, putE, gdst, S0, S1, thenN, inBlockN, argEnv, builtinR, retE, fin, callR, reduceIte, Nat.reduceEqDiff, Nat.reduceAdd, reduceCtorEq, forall_const, Tryd.results27, Fx.ag2, Fx.ag22, Fx.ag3, Fx.ag9, Fx.fo24_0, Fx.fo24_1, Fx.fo24_2, Fx.fo24_3, Fx.isl22])
                simp [sub, Env.get, wellV, hk, hk3, hk8, ht, hn]
            · have ht : ¬ t = ⟨#[]⟩ := by simpa using h
              repeat ((try first | (refine ofX3 hX ?_; clear hX X) | (refine ofX2 hX ?_; clear hX X)); (first | refine wpL_step (fun X hX => ?_) | refine wpH_step (fun X hX => ?_) | refine wpE_step (fun X hX => ?_) | refine wpL_end ?_ | refine wpH_end ?_ | refine wpE_end ?_); try simp only [ oweC, oweP, opF, opH, ev, evs, evp, evo, Env.get, Env.set, putE, gdst, S0, S1, thenN, inBlockN, argEnv, builtinR, retE, fin, callR, reduceIte, Nat.reduceEqDiff, Nat.reduceAdd, reduceCtorEq, forall_const, Tryd.results27, Fx.ag2, Fx.ag22, Fx.ag3, Fx.ag9, Fx.fo24_0, Fx.fo24_1, Fx.fo24_2, Fx.fo24_3, Fx.isl22])
              simp [sub, Env.get, wellV, hk, hk3, hk8, ht]
          · refine ok_seq (fun M hM => ok_region rfl ?_); repeat ((try first | (refine ofX3 hX ?_; clear hX X) | (refine ofX2 hX ?_; clear hX X)); (first | refine wpL_step (fun X hX => ?_) | refine wpH_step (fun X hX => ?_) | refine wpE_step (fun X hX => ?_) | refine wpL_end ?_ | refine wpH_end ?_ | refine wpE_end ?_); try simp only [ oweC, oweP, opF, opH, ev, evs, evp, evo, Env.get, Env.set, putE, gdst, S0, S1, thenN, inBlockN, argEnv, builtinR, retE, fin, callR, reduceIte, Nat.reduceEqDiff, Nat.reduceAdd, reduceCtorEq, forall_const, Tryd.results27, Fx.ag2, Fx.ag22, Fx.ag3, Fx.ag9, Fx.fo24_0, Fx.fo24_1, Fx.fo24_2, Fx.fo24_3, Fx.isl22])
            refine hM _ _ _ ?_; clear hM M
            refine ok_if rfl (fun hk7 => ?_) (fun hk7 => ?_)
            · refine ok_region rfl ?_
              repeat ((try first | (refine ofX3 hX ?_; clear hX X) | (refine ofX2 hX ?_; clear hX X)); (first | refine wpL_step (fun X hX => ?_) | refine wpH_step (fun X hX => ?_) | refine wpE_step (fun X hX => ?_) | refine wpL_end ?_ | refine wpH_end ?_ | refine wpE_end ?_); try simp only [ oweC, oweP, opF, opH, ev, evs, evp, evo, Env.get, Env.set, putE, gdst, S0, S1, thenN, inBlockN, argEnv, builtinR, retE, fin, callR, reduceIte, Nat.reduceEqDiff, Nat.reduceAdd, reduceCtorEq, forall_const, Tryd.results27, Fx.ag2, Fx.ag22, Fx.ag3, Fx.ag9, Fx.fo24_0, Fx.fo24_1, Fx.fo24_2, Fx.fo24_3, Fx.isl22])
              refine ⟨fun h => ?_, fun h => ?_⟩
              · have ht : t = ⟨#[]⟩ := by simpa using h
                repeat ((try first | (refine ofX3 hX ?_; clear hX X) | (refine ofX2 hX ?_; clear hX X)); (first | refine wpL_step (fun X hX => ?_) | refine wpH_step (fun X hX => ?_) | refine wpE_step (fun X hX => ?_) | refine wpL_end ?_ | refine wpH_end ?_ | refine wpE_end ?_); try simp only [ oweC, oweP, opF, opH, ev, evs, evp, evo, Env.get, Env.set, putE, gdst, S0, S1, thenN, inBlockN, argEnv, builtinR, retE, fin, callR, reduceIte, Nat.reduceEqDiff, Nat.reduceAdd, reduceCtorEq, forall_const, Tryd.results27, Fx.ag2, Fx.ag22, Fx.ag3, Fx.ag9, Fx.fo24_0, Fx.fo24_1, Fx.fo24_2, Fx.fo24_3, Fx.isl22])
                refine ⟨_, hb1.cell (j := 1) rfl, ?_⟩
                repeat ((try first | (refine ofX3 hX ?_; clear hX X) | (refine ofX2 hX ?_; clear hX X)); (first | refine wpL_step (fun X hX => ?_) | refine wpH_step (fun X hX => ?_) | refine wpE_step (fun X hX => ?_) | refine wpL_end ?_ | refine wpH_end ?_ | refine wpE_end ?_); try simp only [ oweC, oweP, opF, opH, ev, evs, evp, evo, Env.get, Env.set, putE, gdst, S0, S1, thenN, inBlockN, argEnv, builtinR, retE, fin, callR, reduceIte, Nat.reduceEqDiff, Nat.reduceAdd, reduceCtorEq, forall_const, Tryd.results27, Fx.ag2, Fx.ag22, Fx.ag3, Fx.ag9, Fx.fo24_0, Fx.fo24_1, Fx.fo24_2, Fx.fo24_3, Fx.isl22])
                simp [sub, Env.get, wellV, hk, hk3, hk8, hk7, ht]
              · have ht : ¬ t = ⟨#[]⟩ := by simpa using h
                repeat ((try first | (refine ofX3 hX ?_; clear hX X) | (refine ofX2 hX ?_; clear hX X)); (first | refine wpL_step (fun X hX => ?_) | refine wpH_step (fun X hX => ?_) | refine wpE_step (fun X hX => ?_) | refine wpL_end ?_ | refine wpH_end ?_ | refine wpE_end ?_); try simp only [ oweC, oweP, opF, opH, ev, evs, evp, evo, Env.get, Env.set, putE, gdst, S0, S1, thenN, inBlockN, argEnv, builtinR, retE, fin, callR, reduceIte, Nat.reduceEqDiff, Nat.reduceAdd, reduceCtorEq, forall_const, Tryd.results27, Fx.ag2, Fx.ag22, Fx.ag3, Fx.ag9, Fx.fo24_0, Fx.fo24_1, Fx.fo24_2, Fx.fo24_3, Fx.isl22])
                simp [sub, Env.get, wellV, hk, hk3, hk8, hk7, ht]
            · refine ok_region rfl ?_
              repeat ((try first | (refine ofX3 hX ?_; clear hX X) | (refine ofX2 hX ?_; clear hX X)); (first | refine wpL_step (fun X hX => ?_) | refine wpH_step (fun X hX => ?_) | refine wpE_step (fun X hX => ?_) | refine wpL_end ?_ | refine wpH_end ?_ | refine wpE_end ?_); try simp only [ oweC, oweP, opF, opH, ev, evs, evp, evo, Env.get, Env.set, putE, gdst, S0, S1, thenN, inBlockN, argEnv, builtinR, retE, fin, callR, reduceIte, Nat.reduceEqDiff, Nat.reduceAdd, reduceCtorEq, forall_const, Tryd.results27, Fx.ag2, Fx.ag22, Fx.ag3, Fx.ag9, Fx.fo24_0, Fx.fo24_1, Fx.fo24_2, Fx.fo24_3, Fx.isl22])
              refine ⟨fun h => ?_, fun h => ?_⟩
              · have ht : t = ⟨#[]⟩ := by simpa using h
                repeat ((try first | (refine ofX3 hX ?_; clear hX X) | (refine ofX2 hX ?_; clear hX X)); (first | refine wpL_step (fun X hX => ?_) | refine wpH_step (fun X hX => ?_) | refine wpE_step (fun X hX => ?_) | refine wpL_end ?_ | refine wpH_end ?_ | refine wpE_end ?_); try simp only [ oweC, oweP, opF, opH, ev, evs, evp, evo, Env.get, Env.set, putE, gdst, S0, S1, thenN, inBlockN, argEnv, builtinR, retE, fin, callR, reduceIte, Nat.reduceEqDiff, Nat.reduceAdd, reduceCtorEq, forall_const, Tryd.results27, Fx.ag2, Fx.ag22, Fx.ag3, Fx.ag9, Fx.fo24_0, Fx.fo24_1, Fx.fo24_2, Fx.fo24_3, Fx.isl22])
                refine ⟨_, hb1.cell (j := 1) rfl, ?_⟩
                repeat ((try first | (refine ofX3 hX ?_; clear hX X) | (refine ofX2 hX ?_; clear hX X)); (first | refine wpL_step (fun X hX => ?_) | refine wpH_step (fun X hX => ?_) | refine wpE_step (fun X hX => ?_) | refine wpL_end ?_ | refine wpH_end ?_ | refine wpE_end ?_); try simp only [ oweC, oweP, opF, opH, ev, evs, evp, evo, Env.get, Env.set, putE, gdst, S0, S1, thenN, inBlockN, argEnv, builtinR, retE, fin, callR, reduceIte, Nat.reduceEqDiff, Nat.reduceAdd, reduceCtorEq, forall_const, Tryd.results27, Fx.ag2, Fx.ag22, Fx.ag3, Fx.ag9, Fx.fo24_0, Fx.fo24_1, Fx.fo24_2, Fx.fo24_3, Fx.isl22])
                simp [sub, Env.get, wellV, hk, hk3, hk8, hk7, ht]
              · have ht : ¬ t = ⟨#[]⟩ := by simpa using h
                repeat ((try first | (refine ofX3 hX ?_; clear hX X) | (refine ofX2 hX ?_; clear hX X)); (first | refine wpL_step (fun X hX => ?_) | refine wpH_step (fun X hX => ?_) | refine wpE_step (fun X hX => ?_) | refine wpL_end ?_ | refine wpH_end ?_ | refine wpE_end ?_); try simp only [ oweC, oweP, opF, opH, ev, evs, evp, evo, Env.get, Env.set, putE, gdst, S0, S1, thenN, inBlockN, argEnv, builtinR, retE, fin, callR, reduceIte, Nat.reduceEqDiff, Nat.reduceAdd, reduceCtorEq, forall_const, Tryd.results27, Fx.ag2, Fx.ag22, Fx.ag3, Fx.ag9, Fx.fo24_0, Fx.fo24_1, Fx.fo24_2, Fx.fo24_3, Fx.isl22])
                simp [sub, Env.get, wellV, hk, hk3, hk8, hk7, ht]
    rintro w2 rfl
    refine ok_seq (fun M hM => ok_region rfl ?_)
    repeat ((try first | (refine ofX3 hX ?_; clear hX X) | (refine ofX2 hX ?_; clear hX X)); (first | refine wpL_step (fun X hX => ?_) | refine wpH_step (fun X hX => ?_) | refine wpE_step (fun X hX => ?_) | refine wpL_end ?_ | refine wpH_end ?_ | refine wpE_end ?_); try simp only [ oweC, oweP, opF, opH, ev, evs, evp, evo, Env.get, Env.set, putE, gdst, S0, S1, thenN, inBlockN, argEnv, builtinR, retE, fin, callR, reduceIte, Nat.reduceEqDiff, Nat.reduceAdd, reduceCtorEq, forall_const, Tryd.results27, Fx.ag2, Fx.ag22, Fx.ag3, Fx.ag9, Fx.fo24_0, Fx.fo24_1, Fx.fo24_2, Fx.fo24_3, Fx.isl22])
    refine ⟨fun h => ?_, fun h => ?_⟩
    · have hw : wellV k n t a.length = true := h
      repeat ((try first | (refine ofX3 hX ?_; clear hX X) | (refine ofX2 hX ?_; clear hX X)); (first | refine wpL_step (fun X hX => ?_) | refine wpH_step (fun X hX => ?_) | refine wpE_step (fun X hX => ?_) | refine wpL_end ?_ | refine wpH_end ?_ | refine wpE_end ?_); try simp only [ oweC, oweP, opF, opH, ev, evs, evp, evo, Env.get, Env.set, putE, gdst, S0, S1, thenN, inBlockN, argEnv, builtinR, retE, fin, callR, reduceIte, Nat.reduceEqDiff, Nat.reduceAdd, reduceCtorEq, forall_const, Tryd.results27, Fx.ag2, Fx.ag22, Fx.ag3, Fx.ag9, Fx.fo24_0, Fx.fo24_1, Fx.fo24_2, Fx.fo24_3, Fx.isl22])
      refine ⟨_, hb1.cell (j := 3) rfl, ?_⟩
      repeat ((try first | (refine ofX3 hX ?_; clear hX X) | (refine ofX2 hX ?_; clear hX X)); (first | refine wpL_step (fun X hX => ?_) | refine wpH_step (fun X hX => ?_) | refine wpE_step (fun X hX => ?_) | refine wpL_end ?_ | refine wpH_end ?_ | refine wpE_end ?_); try simp only [ oweC, oweP, opF, opH, ev, evs, evp, evo, Env.get, Env.set, putE, gdst, S0, S1, thenN, inBlockN, argEnv, builtinR, retE, fin, callR, reduceIte, Nat.reduceEqDiff, Nat.reduceAdd, reduceCtorEq, forall_const, Tryd.results27, Fx.ag2, Fx.ag22, Fx.ag3, Fx.ag9, Fx.fo24_0, Fx.fo24_1, Fx.fo24_2, Fx.fo24_3, Fx.isl22])
      refine Inv.call Fx.en23 (containsV_ok w2 A a.length cp _ (by omega) (fun i w' => Ext w2 w' ∧ ∀ (j : Nat) (x : Val), j < i → a[j]? = some x → formedV x = true) (fun w' => Ext w2 w' ∧ formedVs a = false) ⟨Ext.refl _, fun j x h => absurd h (Nat.not_lt_zero _)⟩ ?_) ?_
      · rintro i w' hil ⟨he', hall⟩
        have hxi : a[i]? = some a[i] := List.getElem?_eq_getElem hil
        obtain ⟨rr, hrr, hvr⟩ := hrows.get i _ hxi
        obtain ⟨b, o, rfl, hcr⟩ := hcell i rr hrr
        have hsz : SizeOf.sizeOf a[i] ≤ m := by
          have := List.sizeOf_lt_of_mem (List.getElem_mem hil)
          simp at hm
          omega
        have hvr' := VRow.ext (he1.trans he') _ _ hvr
        refine ⟨rr, hvr.len, ⟨b, o, rfl, (he1.trans he').cellsAt hcr⟩, Inv.call Fx.en51 (formed1_ok w' rr a[i] hvr' (fun w'' he'' => ih a[i] w'' rr hsz (VRow.ext he'' _ _ hvr'))) ?_⟩
        rintro v w'' ⟨rfl, he''⟩
        refine ⟨_, rfl, fun hb => ⟨he'.trans he'', ?_⟩, fun hb => ⟨he'.trans he'', fun j x hj hx => ?_⟩⟩
        · cases hx : formedVs a with
          | false => rfl
          | true => have := (formedVs_iff a).1 hx i _ hxi; rw [this] at hb; cases hb
        · rcases Nat.lt_or_ge j i with h | h
          · exact hall j x h hx
          · have : j = i := by omega
            subst this
            rw [hxi] at hx
            cases hx
            simpa using hb
      rintro v w' ⟨b, rfl, hbt, hbf⟩
      repeat ((try first | (refine ofX3 hX ?_; clear hX X) | (refine ofX2 hX ?_; clear hX X)); (first | refine wpL_step (fun X hX => ?_) | refine wpH_step (fun X hX => ?_) | refine wpE_step (fun X hX => ?_) | refine wpL_end ?_ | refine wpH_end ?_ | refine wpE_end ?_); try simp only [ oweC, oweP, opF, opH, ev, evs, evp, evo, Env.get, Env.set, putE, gdst, S0, S1, thenN, inBlockN, argEnv, builtinR, retE, fin, callR, reduceIte, Nat.reduceEqDiff, Nat.reduceAdd, reduceCtorEq, forall_const, Tryd.results27, Fx.ag2, Fx.ag22, Fx.ag3, Fx.ag9, Fx.fo24_0, Fx.fo24_1, Fx.fo24_2, Fx.fo24_3, Fx.isl22])
      refine hM _ _ _ ?_; clear hM M
      refine ok_ret ?_
      try simp only [wpL, wpH, wpE, oweC, oweP, opF, opH, ev, evs, evp, evo, Env.get, Env.set, putE, gdst, S0, S1, thenN, inBlockN, argEnv, builtinR, retE, fin, callR, reduceIte, Nat.reduceEqDiff, Nat.reduceAdd, reduceCtorEq, forall_const, Tryd.results27, Fx.ag2, Fx.ag22, Fx.ag3, Fx.ag9, Fx.fo24_0, Fx.fo24_1, Fx.fo24_2, Fx.fo24_3, Fx.isl22]
      cases b with
      | true =>
        obtain ⟨he', hf⟩ := hbt rfl
        exact ⟨by simp [formedV, hf], he1.trans he'⟩
      | false =>
        obtain ⟨he', hall⟩ := hbf rfl
        have : formedVs a = true := (formedVs_iff a).2 fun j x hx => hall j x (List.getElem?_eq_some_iff.1 hx).1 hx
        exact ⟨by simp [formedV, hw, this], he1.trans he'⟩
    · have hw : wellV k n t a.length = false := h
      repeat ((try first | (refine ofX3 hX ?_; clear hX X) | (refine ofX2 hX ?_; clear hX X)); (first | refine wpL_step (fun X hX => ?_) | refine wpH_step (fun X hX => ?_) | refine wpE_step (fun X hX => ?_) | refine wpL_end ?_ | refine wpH_end ?_ | refine wpE_end ?_); try simp only [ oweC, oweP, opF, opH, ev, evs, evp, evo, Env.get, Env.set, putE, gdst, S0, S1, thenN, inBlockN, argEnv, builtinR, retE, fin, callR, reduceIte, Nat.reduceEqDiff, Nat.reduceAdd, reduceCtorEq, forall_const, Tryd.results27, Fx.ag2, Fx.ag22, Fx.ag3, Fx.ag9, Fx.fo24_0, Fx.fo24_1, Fx.fo24_2, Fx.fo24_3, Fx.isl22])
      refine hM _ _ _ ?_; clear hM M
      refine ok_ret ?_
      try simp only [wpL, wpH, wpE, oweC, oweP, opF, opH, ev, evs, evp, evo, Env.get, Env.set, putE, gdst, S0, S1, thenN, inBlockN, argEnv, builtinR, retE, fin, callR, reduceIte, Nat.reduceEqDiff, Nat.reduceAdd, reduceCtorEq, forall_const, Tryd.results27, Fx.ag2, Fx.ag22, Fx.ag3, Fx.ag9, Fx.fo24_0, Fx.fo24_1, Fx.fo24_2, Fx.fo24_3, Fx.isl22]
      exact ⟨by simp [formedV, hw], he1⟩
end Go.Proofs.YtldeokfhipjbfaaDoor
