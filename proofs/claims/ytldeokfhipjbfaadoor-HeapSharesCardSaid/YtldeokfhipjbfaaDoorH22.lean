/- few: values with few parts. -/
import Derived.Test.YtldeokfhipjbfaaDoorH21
set_option linter.unusedVariables false
set_option linter.unusedSimpArgs false
namespace Go.Proofs.YtldeokfhipjbfaaDoor
open Go Go.Proofs.Vg Go.RowKit
theorem eqV_refl : ∀ (m : Nat) (x : Val), SizeOf.sizeOf x ≤ m → eqV x x = true := by
  intro m
  induction m with
  | zero => intro x h; cases x; simp at h
  | succ m ih =>
    rintro ⟨k, n, t, a⟩ h
    simp only [eqV, decide_true, Bool.true_and]
    refine (eqVs_iff a a).2 ⟨rfl, fun i x y hx hy => ?_⟩
    rw [hx] at hy; cases hy
    have := List.sizeOf_lt_of_mem (List.mem_of_getElem? hx)
    simp at h
    exact ih x (by omega)
theorem Fx.zi27' : zinfo Tryd.prog 27 = some (some (.pointer none), 1, 8) := Fx.zi27

-- -- function 24
set_option maxHeartbeats 2000000 in
set_option maxRecDepth 8000 in
theorem few1_ok (w : World) (r : List Value) (hr4 : r.length = 4) (B3 Bl : Nat) (hB : w.cell? ⟨B3, 0, none⟩ = some (ptrOf Bl)) {R : Value → World → Prop} (h : ∀ w', Ext w w' → Rets Tryd.prog 7 [.agg r.toArray, ptrOf Bl] w' (fun v w'' => ∃ b, v = .bool b ∧ R (.bool (!b)) w'')) : Rets Tryd.prog 24 [.agg r.toArray, ptrOf B3] w R := by
  refine rets_of_ok Tryd.func24 rfl rfl ?_
  refine ok_seq (fun M hM => ok_region rfl ?_)
  repeat ((try first | (refine ofX3 hX ?_; clear hX X) | (refine ofX2 hX ?_; clear hX X)); (first | refine wpL_step (fun X hX => ?_) | refine wpH_step (fun X hX => ?_) | refine wpE_step (fun X hX => ?_) | refine wpL_end ?_ | refine wpH_end ?_ | refine wpE_end ?_); try simp only [ oweC, oweP, opF, opH, ev, evs, evp, evo, Env.get, Env.set, putE, gdst, S0, S1, thenN, inBlockN, argEnv, builtinR, retE, fin, callR, reduceIte, Nat.reduceEqDiff, Nat.reduceAdd, reduceCtorEq, forall_const, Tryd.results24, Fx.ag24, Fx.ag27])
  refine Runs.box (fun w1 he1 hz1 hb1 => ?_)
  simp only [Value.cells] at hb1
  repeat ((try first | (refine ofX3 hX ?_; clear hX X) | (refine ofX2 hX ?_; clear hX X)); (first | refine wpL_step (fun X hX => ?_) | refine wpH_step (fun X hX => ?_) | refine wpE_step (fun X hX => ?_) | refine wpL_end ?_ | refine wpH_end ?_ | refine wpE_end ?_); try simp only [ oweC, oweP, opF, opH, ev, evs, evp, evo, Env.get, Env.set, putE, gdst, S0, S1, thenN, inBlockN, argEnv, builtinR, retE, fin, callR, reduceIte, Nat.reduceEqDiff, Nat.reduceAdd, reduceCtorEq, forall_const, Tryd.results24, Fx.ag24, Fx.ag27])
  refine hM _ _ _ ?_; clear hM M
  refine ok_seq (fun M hM => ok_region rfl ?_)
  repeat ((try first | (refine ofX3 hX ?_; clear hX X) | (refine ofX2 hX ?_; clear hX X)); (first | refine wpL_step (fun X hX => ?_) | refine wpH_step (fun X hX => ?_) | refine wpE_step (fun X hX => ?_) | refine wpL_end ?_ | refine wpH_end ?_ | refine wpE_end ?_); try simp only [ oweC, oweP, opF, opH, ev, evs, evp, evo, Env.get, Env.set, putE, gdst, S0, S1, thenN, inBlockN, argEnv, builtinR, retE, fin, callR, reduceIte, Nat.reduceEqDiff, Nat.reduceAdd, reduceCtorEq, forall_const, Tryd.results24, Fx.ag24, Fx.ag27])
  refine ⟨r, hr4, hb1.cells (o := 0) (fun j u hj => by simpa using hj), ?_⟩
  repeat ((try first | (refine ofX3 hX ?_; clear hX X) | (refine ofX2 hX ?_; clear hX X)); (first | refine wpL_step (fun X hX => ?_) | refine wpH_step (fun X hX => ?_) | refine wpE_step (fun X hX => ?_) | refine wpL_end ?_ | refine wpH_end ?_ | refine wpE_end ?_); try simp only [ oweC, oweP, opF, opH, ev, evs, evp, evo, Env.get, Env.set, putE, gdst, S0, S1, thenN, inBlockN, argEnv, builtinR, retE, fin, callR, reduceIte, Nat.reduceEqDiff, Nat.reduceAdd, reduceCtorEq, forall_const, Tryd.results24, Fx.ag24, Fx.ag27])
  refine ⟨_, he1.cell hB, ?_⟩
  repeat ((try first | (refine ofX3 hX ?_; clear hX X) | (refine ofX2 hX ?_; clear hX X)); (first | refine wpL_step (fun X hX => ?_) | refine wpH_step (fun X hX => ?_) | refine wpE_step (fun X hX => ?_) | refine wpL_end ?_ | refine wpH_end ?_ | refine wpE_end ?_); try simp only [ oweC, oweP, opF, opH, ev, evs, evp, evo, Env.get, Env.set, putE, gdst, S0, S1, thenN, inBlockN, argEnv, builtinR, retE, fin, callR, reduceIte, Nat.reduceEqDiff, Nat.reduceAdd, reduceCtorEq, forall_const, Tryd.results24, Fx.ag24, Fx.ag27])
  refine Inv.call Fx.en7 (h w1 he1) ?_
  rintro v w2 ⟨b, rfl, hR⟩
  repeat ((try first | (refine ofX3 hX ?_; clear hX X) | (refine ofX2 hX ?_; clear hX X)); (first | refine wpL_step (fun X hX => ?_) | refine wpH_step (fun X hX => ?_) | refine wpE_step (fun X hX => ?_) | refine wpL_end ?_ | refine wpH_end ?_ | refine wpE_end ?_); try simp only [ oweC, oweP, opF, opH, ev, evs, evp, evo, Env.get, Env.set, putE, gdst, S0, S1, thenN, inBlockN, argEnv, builtinR, retE, fin, callR, reduceIte, Nat.reduceEqDiff, Nat.reduceAdd, reduceCtorEq, forall_const, Tryd.results24, Fx.ag24, Fx.ag27])
  refine hM _ _ _ ?_; clear hM M
  refine ok_ret ?_
  try simp only [wpL, wpH, wpE, oweC, oweP, opF, opH, ev, evs, evp, evo, Env.get, Env.set, putE, gdst, S0, S1, thenN, inBlockN, argEnv, builtinR, retE, fin, callR, reduceIte, Nat.reduceEqDiff, Nat.reduceAdd, reduceCtorEq, forall_const, Tryd.results24, Fx.ag24, Fx.ag27]
  exact hR

-- -- function 7
set_option maxHeartbeats 4000000 in
set_option maxRecDepth 8000 in
theorem few_ok : ∀ (m : Nat) (x : Val) (w : World) (S : Nat → Prop) (r : List Value) (Bl : Nat) (L : Int), SizeOf.sizeOf x ≤ m → VRowS w S r x → ¬ S Bl → Blk w Bl [.int .i64 L] 3 → 0 ≤ L → L ≤ 1000000 →
    Rets Tryd.prog 7 [.agg r.toArray, ptrOf Bl] w (fun v w' => ∃ b L', v = .bool b ∧ Blk w' Bl [.int .i64 L'] 3 ∧ Chg (· = Bl) w w' ∧ (b = true → L' = L - cntV x ∧ 0 ≤ L')) := by
  intro m
  induction m with
  | zero => intro x w S r Bl L hm; cases x; simp at hm
  | succ m ih =>
    rintro ⟨k, n, t, a⟩ w S r Bl L hm hr hS hBl h0 h1
    have hrow := VRowS.row _ _ hr
    simp only [VRowS] at hr
    obtain ⟨v, rfl, hv1, hv2, rows, hsl, hrows⟩ := hr
    obtain ⟨A, cp, rfl, hlen, hcell⟩ := hsl
    have hl := hrows.length
    have hBll := hBl.lt
    refine rets_of_ok Tryd.func7 rfl rfl ?_
    refine ok_seq (fun M hM => ok_region rfl ?_)
    repeat ((try first | (refine ofX3 hX ?_; clear hX X) | (refine ofX2 hX ?_; clear hX X)); (first | refine wpL_step (fun X hX => ?_) | refine wpH_step (fun X hX => ?_) | refine wpE_step (fun X hX => ?_) | refine wpL_end ?_ | refine wpH_end ?_ | refine wpE_end ?_); try simp only [ oweC, oweP, opF, opH, ev, evs, evp, evo, Env.get, Env.set, putE, gdst, S0, S1, thenN, inBlockN, argEnv, builtinR, retE, fin, callR, reduceIte, Nat.reduceEqDiff, Nat.reduceAdd, reduceCtorEq, forall_const, Tryd.results7, Fx.ag22, Fx.ag27, Fx.ag3, Fx.ag9, Fx.fo24_2, Fx.fo24_3, Fx.ist9])
    refine Runs.box (fun w1 he1 hz1 hb1 => ?_)
    generalize hB1 : w.heap.size = B1 at hz1 hb1
    simp only [Value.cells] at hb1
    rw [hl] at hb1
    repeat ((try first | (refine ofX3 hX ?_; clear hX X) | (refine ofX2 hX ?_; clear hX X)); (first | refine wpL_step (fun X hX => ?_) | refine wpH_step (fun X hX => ?_) | refine wpE_step (fun X hX => ?_) | refine wpL_end ?_ | refine wpH_end ?_ | refine wpE_end ?_); try simp only [ oweC, oweP, opF, opH, ev, evs, evp, evo, Env.get, Env.set, putE, gdst, S0, S1, thenN, inBlockN, argEnv, builtinR, retE, fin, callR, reduceIte, Nat.reduceEqDiff, Nat.reduceAdd, reduceCtorEq, forall_const, Tryd.results7, Fx.ag22, Fx.ag27, Fx.ag3, Fx.ag9, Fx.fo24_2, Fx.fo24_3, Fx.ist9])
    refine Runs.box (fun w2 he2 hz2 hb2 => ?_)
    generalize hB2 : w1.heap.size = B2 at hz2 hb2
    simp only [Value.cells] at hb2
    repeat ((try first | (refine ofX3 hX ?_; clear hX X) | (refine ofX2 hX ?_; clear hX X)); (first | refine wpL_step (fun X hX => ?_) | refine wpH_step (fun X hX => ?_) | refine wpE_step (fun X hX => ?_) | refine wpL_end ?_ | refine wpH_end ?_ | refine wpE_end ?_); try simp only [ oweC, oweP, opF, opH, ev, evs, evp, evo, Env.get, Env.set, putE, gdst, S0, S1, thenN, inBlockN, argEnv, builtinR, retE, fin, callR, reduceIte, Nat.reduceEqDiff, Nat.reduceAdd, reduceCtorEq, forall_const, Tryd.results7, Fx.ag22, Fx.ag27, Fx.ag3, Fx.ag9, Fx.fo24_2, Fx.fo24_3, Fx.ist9])
    refine hM _ _ _ ?_; clear hM M
    have hb12 := hb1.ext he2
    have hBl2 := (hBl.ext he1).ext he2
    refine ok_seq (fun M hM => ok_region rfl ?_)
    repeat ((try first | (refine ofX3 hX ?_; clear hX X) | (refine ofX2 hX ?_; clear hX X)); (first | refine wpL_step (fun X hX => ?_) | refine wpH_step (fun X hX => ?_) | refine wpE_step (fun X hX => ?_) | refine wpL_end ?_ | refine wpH_end ?_ | refine wpE_end ?_); try simp only [ oweC, oweP, opF, opH, ev, evs, evp, evo, Env.get, Env.set, putE, gdst, S0, S1, thenN, inBlockN, argEnv, builtinR, retE, fin, callR, reduceIte, Nat.reduceEqDiff, Nat.reduceAdd, reduceCtorEq, forall_const, Tryd.results7, Fx.ag22, Fx.ag27, Fx.ag3, Fx.ag9, Fx.fo24_2, Fx.fo24_3, Fx.ist9])
    refine ⟨_, hb2.cell (j := 0) rfl, ?_⟩
    repeat ((try first | (refine ofX3 hX ?_; clear hX X) | (refine ofX2 hX ?_; clear hX X)); (first | refine wpL_step (fun X hX => ?_) | refine wpH_step (fun X hX => ?_) | refine wpE_step (fun X hX => ?_) | refine wpL_end ?_ | refine wpH_end ?_ | refine wpE_end ?_); try simp only [ oweC, oweP, opF, opH, ev, evs, evp, evo, Env.get, Env.set, putE, gdst, S0, S1, thenN, inBlockN, argEnv, builtinR, retE, fin, callR, reduceIte, Nat.reduceEqDiff, Nat.reduceAdd, reduceCtorEq, forall_const, Tryd.results7, Fx.ag22, Fx.ag27, Fx.ag3, Fx.ag9, Fx.fo24_2, Fx.fo24_3, Fx.ist9])
    refine ⟨_, hBl2.cell (j := 0) rfl, ?_⟩
    repeat ((try first | (refine ofX3 hX ?_; clear hX X) | (refine ofX2 hX ?_; clear hX X)); (first | refine wpL_step (fun X hX => ?_) | refine wpH_step (fun X hX => ?_) | refine wpE_step (fun X hX => ?_) | refine wpL_end ?_ | refine wpH_end ?_ | refine wpE_end ?_); try simp only [ oweC, oweP, opF, opH, ev, evs, evp, evo, Env.get, Env.set, putE, gdst, S0, S1, thenN, inBlockN, argEnv, builtinR, retE, fin, callR, reduceIte, Nat.reduceEqDiff, Nat.reduceAdd, reduceCtorEq, forall_const, Tryd.results7, Fx.ag22, Fx.ag27, Fx.ag3, Fx.ag9, Fx.fo24_2, Fx.fo24_3, Fx.ist9])
    refine ⟨by simp only [inI]; omega, ?_⟩
    repeat ((try first | (refine ofX3 hX ?_; clear hX X) | (refine ofX2 hX ?_; clear hX X)); (first | refine wpL_step (fun X hX => ?_) | refine wpH_step (fun X hX => ?_) | refine wpE_step (fun X hX => ?_) | refine wpL_end ?_ | refine wpH_end ?_ | refine wpE_end ?_); try simp only [ oweC, oweP, opF, opH, ev, evs, evp, evo, Env.get, Env.set, putE, gdst, S0, S1, thenN, inBlockN, argEnv, builtinR, retE, fin, callR, reduceIte, Nat.reduceEqDiff, Nat.reduceAdd, reduceCtorEq, forall_const, Tryd.results7, Fx.ag22, Fx.ag27, Fx.ag3, Fx.ag9, Fx.fo24_2, Fx.fo24_3, Fx.ist9])
    refine Runs.store hBl2 Fx.zi3 rfl (by intro u hu; simp [Value.cells] at hu; subst hu; rfl) (by simp) (fun w3 hc3 hs3 hb3 => ?_)
    rw [splice_all _ _ (by simp [Value.cells])] at hb3
    simp only [Value.cells] at hb3
    repeat ((try first | (refine ofX3 hX ?_; clear hX X) | (refine ofX2 hX ?_; clear hX X)); (first | refine wpL_step (fun X hX => ?_) | refine wpH_step (fun X hX => ?_) | refine wpE_step (fun X hX => ?_) | refine wpL_end ?_ | refine wpH_end ?_ | refine wpE_end ?_); try simp only [ oweC, oweP, opF, opH, ev, evs, evp, evo, Env.get, Env.set, putE, gdst, S0, S1, thenN, inBlockN, argEnv, builtinR, retE, fin, callR, reduceIte, Nat.reduceEqDiff, Nat.reduceAdd, reduceCtorEq, forall_const, Tryd.results7, Fx.ag22, Fx.ag27, Fx.ag3, Fx.ag9, Fx.fo24_2, Fx.fo24_3, Fx.ist9])
    refine hM _ _ _ ?_; clear hM M
    have hcA : Chg (· = Bl) w w3 := ((he1.trans he2).chg _).trans hc3
    have hb13 := hb12.chg hc3 (by omega)
    have hb23 := hb2.chg hc3 (by omega)
    refine ok_seq (fun M hM => ok_region rfl ?_)
    repeat ((try first | (refine ofX3 hX ?_; clear hX X) | (refine ofX2 hX ?_; clear hX X)); (first | refine wpL_step (fun X hX => ?_) | refine wpH_step (fun X hX => ?_) | refine wpE_step (fun X hX => ?_) | refine wpL_end ?_ | refine wpH_end ?_ | refine wpE_end ?_); try simp only [ oweC, oweP, opF, opH, ev, evs, evp, evo, Env.get, Env.set, putE, gdst, S0, S1, thenN, inBlockN, argEnv, builtinR, retE, fin, callR, reduceIte, Nat.reduceEqDiff, Nat.reduceAdd, reduceCtorEq, forall_const, Tryd.results7, Fx.ag22, Fx.ag27, Fx.ag3, Fx.ag9, Fx.fo24_2, Fx.fo24_3, Fx.ist9])
    refine ⟨_, hb23.cell (j := 0) rfl, ?_⟩
    repeat ((try first | (refine ofX3 hX ?_; clear hX X) | (refine ofX2 hX ?_; clear hX X)); (first | refine wpL_step (fun X hX => ?_) | refine wpH_step (fun X hX => ?_) | refine wpE_step (fun X hX => ?_) | refine wpL_end ?_ | refine wpH_end ?_ | refine wpE_end ?_); try simp only [ oweC, oweP, opF, opH, ev, evs, evp, evo, Env.get, Env.set, putE, gdst, S0, S1, thenN, inBlockN, argEnv, builtinR, retE, fin, callR, reduceIte, Nat.reduceEqDiff, Nat.reduceAdd, reduceCtorEq, forall_const, Tryd.results7, Fx.ag22, Fx.ag27, Fx.ag3, Fx.ag9, Fx.fo24_2, Fx.fo24_3, Fx.ist9])
    refine ⟨_, hb3.cell (j := 0) rfl, ?_⟩
    repeat ((try first | (refine ofX3 hX ?_; clear hX X) | (refine ofX2 hX ?_; clear hX X)); (first | refine wpL_step (fun X hX => ?_) | refine wpH_step (fun X hX => ?_) | refine wpE_step (fun X hX => ?_) | refine wpL_end ?_ | refine wpH_end ?_ | refine wpE_end ?_); try simp only [ oweC, oweP, opF, opH, ev, evs, evp, evo, Env.get, Env.set, putE, gdst, S0, S1, thenN, inBlockN, argEnv, builtinR, retE, fin, callR, reduceIte, Nat.reduceEqDiff, Nat.reduceAdd, reduceCtorEq, forall_const, Tryd.results7, Fx.ag22, Fx.ag27, Fx.ag3, Fx.ag9, Fx.fo24_2, Fx.fo24_3, Fx.ist9])
    refine ⟨fun h => ?_, fun h => ?_⟩
    rotate_left
    · repeat ((try first | (refine ofX3 hX ?_; clear hX X) | (refine ofX2 hX ?_; clear hX X)); (first | refine wpL_step (fun X hX => ?_) | refine wpH_step (fun X hX => ?_) | refine wpE_step (fun X hX => ?_) | refine wpL_end ?_ | refine wpH_end ?_ | refine wpE_end ?_); try simp only [ oweC, oweP, opF, opH, ev, evs, evp, evo, Env.get, Env.set, putE, gdst, S0, S1, thenN, inBlockN, argEnv, builtinR, retE, fin, callR, reduceIte, Nat.reduceEqDiff, Nat.reduceAdd, reduceCtorEq, forall_const, Tryd.results7, Fx.ag22, Fx.ag27, Fx.ag3, Fx.ag9, Fx.fo24_2, Fx.fo24_3, Fx.ist9])
      refine hM _ _ _ ?_; clear hM M
      refine ok_ret ?_
      try simp only [wpL, wpH, wpE, oweC, oweP, opF, opH, ev, evs, evp, evo, Env.get, Env.set, putE, gdst, S0, S1, thenN, inBlockN, argEnv, builtinR, retE, fin, callR, reduceIte, Nat.reduceEqDiff, Nat.reduceAdd, reduceCtorEq, forall_const, Tryd.results7, Fx.ag22, Fx.ag27, Fx.ag3, Fx.ag9, Fx.fo24_2, Fx.fo24_3, Fx.ist9]
      exact ⟨false, L - 1, rfl, hb3, hcA, fun h => by cases h⟩
    have hL1 : 0 ≤ L - 1 := by simpa using h
    repeat ((try first | (refine ofX3 hX ?_; clear hX X) | (refine ofX2 hX ?_; clear hX X)); (first | refine wpL_step (fun X hX => ?_) | refine wpH_step (fun X hX => ?_) | refine wpE_step (fun X hX => ?_) | refine wpL_end ?_ | refine wpH_end ?_ | refine wpE_end ?_); try simp only [ oweC, oweP, opF, opH, ev, evs, evp, evo, Env.get, Env.set, putE, gdst, S0, S1, thenN, inBlockN, argEnv, builtinR, retE, fin, callR, reduceIte, Nat.reduceEqDiff, Nat.reduceAdd, reduceCtorEq, forall_const, Tryd.results7, Fx.ag22, Fx.ag27, Fx.ag3, Fx.ag9, Fx.fo24_2, Fx.fo24_3, Fx.ist9])
    refine ⟨_, hb13.cell (j := 2) rfl, ?_⟩
    repeat ((try first | (refine ofX3 hX ?_; clear hX X) | (refine ofX2 hX ?_; clear hX X)); (first | refine wpL_step (fun X hX => ?_) | refine wpH_step (fun X hX => ?_) | refine wpE_step (fun X hX => ?_) | refine wpL_end ?_ | refine wpH_end ?_ | refine wpE_end ?_); try simp only [ oweC, oweP, opF, opH, ev, evs, evp, evo, Env.get, Env.set, putE, gdst, S0, S1, thenN, inBlockN, argEnv, builtinR, retE, fin, callR, reduceIte, Nat.reduceEqDiff, Nat.reduceAdd, reduceCtorEq, forall_const, Tryd.results7, Fx.ag22, Fx.ag27, Fx.ag3, Fx.ag9, Fx.fo24_2, Fx.fo24_3, Fx.ist9])
    refine ⟨fun h => ?_, fun h => ?_⟩
    rotate_left
    · repeat ((try first | (refine ofX3 hX ?_; clear hX X) | (refine ofX2 hX ?_; clear hX X)); (first | refine wpL_step (fun X hX => ?_) | refine wpH_step (fun X hX => ?_) | refine wpE_step (fun X hX => ?_) | refine wpL_end ?_ | refine wpH_end ?_ | refine wpE_end ?_); try simp only [ oweC, oweP, opF, opH, ev, evs, evp, evo, Env.get, Env.set, putE, gdst, S0, S1, thenN, inBlockN, argEnv, builtinR, retE, fin, callR, reduceIte, Nat.reduceEqDiff, Nat.reduceAdd, reduceCtorEq, forall_const, Tryd.results7, Fx.ag22, Fx.ag27, Fx.ag3, Fx.ag9, Fx.fo24_2, Fx.fo24_3, Fx.ist9])
      refine hM _ _ _ ?_; clear hM M
      refine ok_ret ?_
      try simp only [wpL, wpH, wpE, oweC, oweP, opF, opH, ev, evs, evp, evo, Env.get, Env.set, putE, gdst, S0, S1, thenN, inBlockN, argEnv, builtinR, retE, fin, callR, reduceIte, Nat.reduceEqDiff, Nat.reduceAdd, reduceCtorEq, forall_const, Tryd.results7, Fx.ag22, Fx.ag27, Fx.ag3, Fx.ag9, Fx.fo24_2, Fx.fo24_3, Fx.ist9]
      exact ⟨false, L - 1, rfl, hb3, hcA, fun h => by cases h⟩
    repeat ((try first | (refine ofX3 hX ?_; clear hX X) | (refine ofX2 hX ?_; clear hX X)); (first | refine wpL_step (fun X hX => ?_) | refine wpH_step (fun X hX => ?_) | refine wpE_step (fun X hX => ?_) | refine wpL_end ?_ | refine wpH_end ?_ | refine wpE_end ?_); try simp only [ oweC, oweP, opF, opH, ev, evs, evp, evo, Env.get, Env.set, putE, gdst, S0, S1, thenN, inBlockN, argEnv, builtinR, retE, fin, callR, reduceIte, Nat.reduceEqDiff, Nat.reduceAdd, reduceCtorEq, forall_const, Tryd.results7, Fx.ag22, Fx.ag27, Fx.ag3, Fx.ag9, Fx.fo24_2, Fx.fo24_3, Fx.ist9])
    refine ⟨_, hb13.cell (j := 3) rfl, ?_⟩
    repeat ((try first | (refine ofX3 hX ?_; clear hX X) | (refine ofX2 hX ?_; clear hX X)); (first | refine wpL_step (fun X hX => ?_) | refine wpH_step (fun X hX => ?_) | refine wpE_step (fun X hX => ?_) | refine wpL_end ?_ | refine wpH_end ?_ | refine wpE_end ?_); try simp only [ oweC, oweP, opF, opH, ev, evs, evp, evo, Env.get, Env.set, putE, gdst, S0, S1, thenN, inBlockN, argEnv, builtinR, retE, fin, callR, reduceIte, Nat.reduceEqDiff, Nat.reduceAdd, reduceCtorEq, forall_const, Tryd.results7, Fx.ag22, Fx.ag27, Fx.ag3, Fx.ag9, Fx.fo24_2, Fx.fo24_3, Fx.ist9])
    refine Inv.call Fx.en23 (containsV_ok w3 A a.length cp _ (by omega)
      (fun i w' => ∃ Li, Blk w' Bl [.int .i64 Li] 3 ∧ Chg (· = Bl) w3 w' ∧ Li = L - 1 - cntVs (a.take i) ∧ 0 ≤ Li)
      (fun w' => ∃ Li, Blk w' Bl [.int .i64 Li] 3 ∧ Chg (· = Bl) w3 w') ⟨L - 1, hb3, Chg.refl _ _, by simp [cntVs], hL1⟩ ?_) ?_
    · rintro i w4 hil ⟨Li, hb4, hc4, hLi, hLi0⟩
      have hxi : a[i]? = some a[i] := List.getElem?_eq_getElem hil
      obtain ⟨rr, hrr, hvr⟩ := hrows.get i _ hxi
      obtain ⟨b, o, rfl, hbS, hcr⟩ := hcell i rr hrr
      have hsz : SizeOf.sizeOf a[i] ≤ m := by
        have := List.sizeOf_lt_of_mem (List.getElem_mem hil)
        simp at hm
        omega
      have hc04 := hcA.trans hc4
      have hvr4 : VRowS w4 S rr a[i] := VRowS.chg hc04 (fun k hk => ⟨hk, fun e => hS (e ▸ hk)⟩) _ _ hvr
      have hr4 := (VRowS.row _ _ hvr).len
      refine ⟨rr, hr4, ⟨b, o, rfl, hc04.cellsAt hcr (fun e => hS (e ▸ hbS))⟩, Inv.clos (cap := [ptrOf B2]) (R := fun v w5 => ∃ b L', v = .bool (!b) ∧ Blk w5 Bl [.int .i64 L'] 3 ∧ Chg (· = Bl) w4 w5 ∧ (b = true → L' = Li - cntV a[i] ∧ 0 ≤ L')) Fx.en24 (few1_ok w4 rr hr4 B2 Bl ((hb23.chg hc4 (by omega)).cell (j := 0) rfl) (fun w5 he5 => (ih a[i] w5 S rr Bl Li hsz (VRowS.ext hvr4 he5) hS (hb4.ext he5) hLi0 (by omega)).mono ?_)) ?_⟩
      · rintro v w6 ⟨b, L', rfl, h2, h3, h4⟩
        exact ⟨b, rfl, b, L', rfl, h2, (he5.chg _).trans h3, h4⟩
      · rintro v w5 ⟨b, L', rfl, h2, h3, h4⟩
        refine ⟨_, rfl, fun hb => ⟨L', h2, hc4.trans h3⟩, fun hb => ?_⟩
        have hbt : b = true := by simpa using hb
        obtain ⟨h5, h6⟩ := h4 hbt
        refine ⟨L', h2, hc4.trans h3, ?_, h6⟩
        rw [List.take_succ_eq_append_getElem hil, cntVs_app]
        simp only [cntVs]
        rw [h5, hLi]
        push_cast
        omega
    rintro v w4 ⟨b, rfl, hbt, hbf⟩
    repeat ((try first | (refine ofX3 hX ?_; clear hX X) | (refine ofX2 hX ?_; clear hX X)); (first | refine wpL_step (fun X hX => ?_) | refine wpH_step (fun X hX => ?_) | refine wpE_step (fun X hX => ?_) | refine wpL_end ?_ | refine wpH_end ?_ | refine wpE_end ?_); try simp only [ oweC, oweP, opF, opH, ev, evs, evp, evo, Env.get, Env.set, putE, gdst, S0, S1, thenN, inBlockN, argEnv, builtinR, retE, fin, callR, reduceIte, Nat.reduceEqDiff, Nat.reduceAdd, reduceCtorEq, forall_const, Tryd.results7, Fx.ag22, Fx.ag27, Fx.ag3, Fx.ag9, Fx.fo24_2, Fx.fo24_3, Fx.ist9])
    refine hM _ _ _ ?_; clear hM M
    refine ok_ret ?_
    try simp only [wpL, wpH, wpE, oweC, oweP, opF, opH, ev, evs, evp, evo, Env.get, Env.set, putE, gdst, S0, S1, thenN, inBlockN, argEnv, builtinR, retE, fin, callR, reduceIte, Nat.reduceEqDiff, Nat.reduceAdd, reduceCtorEq, forall_const, Tryd.results7, Fx.ag22, Fx.ag27, Fx.ag3, Fx.ag9, Fx.fo24_2, Fx.fo24_3, Fx.ist9]
    cases b with
    | true =>
      obtain ⟨Li, h2, h3⟩ := hbt rfl
      exact ⟨false, Li, rfl, h2, hcA.trans h3, fun h => by cases h⟩
    | false =>
      obtain ⟨Li, h2, h3, h4, h5⟩ := hbf rfl
      rw [List.take_of_length_le (Nat.le_refl _)] at h4
      refine ⟨true, Li, rfl, h2, hcA.trans h3, fun _ => ⟨?_, h5⟩⟩
      simp only [cntV]
      rw [h4]; push_cast; omega
end Go.Proofs.YtldeokfhipjbfaaDoor
