/- Contracts: slices.IndexFunc, slices.ContainsFunc, slices.Index, slices.Contains over []int. -/
import Derived.Test.YtafjfcameabbmaaFx
set_option linter.unusedVariables false
set_option linter.unusedSimpArgs false
namespace Go.Proofs.Ytafjfcameabbmaa
open Go Go.Proofs.Vg Go.RowKit

/-- A predicate over ints, as a function value. -/
def PredI (fv : Value) (w : World) (xs : List Int) (p : Int → Bool) : Prop :=
  ∀ x ∈ xs, ∀ w', Ext w w' → ∀ (nx : Value → World → Prop), (∀ w'', Ext w' w'' → nx (.bool (p x)) w'') → Inv Try.prog fv [.int .i64 x] w' (callR nx fun _ _ => False)

-- -- function 49
theorem indexFunc_ok (w : World) (va fv : Value) (xs : List Int) (p : Int → Bool) (ha : SlI w va xs) (hp : PredI fv w xs p) :
    Rets Try.prog 49 [va, fv] w (fun v w' => (∃ i : Int, v = .int .i64 i ∧ (0 ≤ i ↔ xs.any p = true)) ∧ Ext w w') := by
  obtain ⟨A, ca, rfl, hla, hca⟩ := ha.at_
  clear ha
  refine rets_of_ok Try.func49 rfl rfl ?_
  refine ok_seq (fun M hM => ok_region rfl ?_); try simp only [wpL, wpH, wpE, oweC, oweP, List.headD_cons, List.tail_cons, opF, opH, ev, evs, evp, evo, Env.get, Env.set, putE, gdst, bvAdd, bvSub, bvMul, bvEql, bvNeq, bvLss, bvLeq, bvGtr, bvGeq, bvSEql, bvSNeq, bvBEql, bvBNeq, thenN, inBlockN, argEnv, builtinR, retE, fin, callR, List.take_succ_cons, List.take_zero, List.drop_succ_cons, List.drop_zero, List.getElem?_cons_zero, List.getElem?_cons_succ, reduceIte, Nat.reduceEqDiff, Nat.reduceAdd, Bool.not_true, Bool.not_false, true_and, and_true, reduceCtorEq, forall_const, false_implies, true_implies, List.toList_toArray, List.cons_append, List.nil_append, Int.toNat_natCast, add_at, Nat.mul_one, Nat.add_zero, Try.results49, Fx.ag3, Fx.es26, Fx.isl26]
  refine hM _ _ _ ?_; clear hM M
  refine ok_seq (fun M0 hM0 => ?_)
  refine ok_seq (fun M hM => ok_region rfl ?_); try simp only [wpL, wpH, wpE, oweC, oweP, List.headD_cons, List.tail_cons, opF, opH, ev, evs, evp, evo, Env.get, Env.set, putE, gdst, bvAdd, bvSub, bvMul, bvEql, bvNeq, bvLss, bvLeq, bvGtr, bvGeq, bvSEql, bvSNeq, bvBEql, bvBNeq, thenN, inBlockN, argEnv, builtinR, retE, fin, callR, List.take_succ_cons, List.take_zero, List.drop_succ_cons, List.drop_zero, List.getElem?_cons_zero, List.getElem?_cons_succ, reduceIte, Nat.reduceEqDiff, Nat.reduceAdd, Bool.not_true, Bool.not_false, true_and, and_true, reduceCtorEq, forall_const, false_implies, true_implies, List.toList_toArray, List.cons_append, List.nil_append, Int.toNat_natCast, add_at, Nat.mul_one, Nat.add_zero, Try.results49, Fx.ag3, Fx.es26, Fx.isl26]
  refine hM _ _ _ ?_; clear hM M
  refine ok_block ?_
  refine ok_loop (S := Nat) (fun k => [(0, .slice A xs.length ca), (1, fv), (7, .int .i64 (xs.length : Int)), (8, .int .i64 (k : Int))]) (fun k w' => Ext w w' ∧ k ≤ xs.length ∧ (xs.take k).any p = false) (fun k => xs.length - k) 0 ?_ ?_ ?_
  · simp [sub, Env.get, argEnv]
  · exact ⟨Ext.refl _, Nat.zero_le _, by simp⟩
  rintro k w' ⟨he, hk, hno⟩
  refine ok_seq (fun M hM => ok_region rfl ?_); try simp only [wpL, wpH, wpE, oweC, oweP, List.headD_cons, List.tail_cons, opF, opH, ev, evs, evp, evo, Env.get, Env.set, putE, gdst, bvAdd, bvSub, bvMul, bvEql, bvNeq, bvLss, bvLeq, bvGtr, bvGeq, bvSEql, bvSNeq, bvBEql, bvBNeq, thenN, inBlockN, argEnv, builtinR, retE, fin, callR, List.take_succ_cons, List.take_zero, List.drop_succ_cons, List.drop_zero, List.getElem?_cons_zero, List.getElem?_cons_succ, reduceIte, Nat.reduceEqDiff, Nat.reduceAdd, Bool.not_true, Bool.not_false, true_and, and_true, reduceCtorEq, forall_const, false_implies, true_implies, List.toList_toArray, List.cons_append, List.nil_append, Int.toNat_natCast, add_at, Nat.mul_one, Nat.add_zero, Try.results49, Fx.ag3, Fx.es26, Fx.isl26]
  refine hM _ _ _ ?_; clear hM M
  refine ok_seq (fun M hM => ok_if rfl (fun hc => ok_skip ?_) (fun hc => ok_exit ?_))
  · try simp only [wpL, wpH, wpE, oweC, oweP, List.headD_cons, List.tail_cons, opF, opH, ev, evs, evp, evo, Env.get, Env.set, putE, gdst, bvAdd, bvSub, bvMul, bvEql, bvNeq, bvLss, bvLeq, bvGtr, bvGeq, bvSEql, bvSNeq, bvBEql, bvBNeq, thenN, inBlockN, argEnv, builtinR, retE, fin, callR, List.take_succ_cons, List.take_zero, List.drop_succ_cons, List.drop_zero, List.getElem?_cons_zero, List.getElem?_cons_succ, reduceIte, Nat.reduceEqDiff, Nat.reduceAdd, Bool.not_true, Bool.not_false, true_and, and_true, reduceCtorEq, forall_const, false_implies, true_implies, List.toList_toArray, List.cons_append, List.nil_append, Int.toNat_natCast, add_at, Nat.mul_one, Nat.add_zero, Try.results49, Fx.ag3, Fx.es26, Fx.isl26]
    refine hM _ _ _ ?_; clear hM M
    have hkl : k < xs.length := by omega
    obtain ⟨b, o, rfl, hcx⟩ := hca k hkl
    refine ok_seq (fun M1 hM1 => ok_block ?_)
    refine ok_seq (fun M hM => ok_region rfl ?_); try simp only [wpL, wpH, wpE, oweC, oweP, List.headD_cons, List.tail_cons, opF, opH, ev, evs, evp, evo, Env.get, Env.set, putE, gdst, bvAdd, bvSub, bvMul, bvEql, bvNeq, bvLss, bvLeq, bvGtr, bvGeq, bvSEql, bvSNeq, bvBEql, bvBNeq, thenN, inBlockN, argEnv, builtinR, retE, fin, callR, List.take_succ_cons, List.take_zero, List.drop_succ_cons, List.drop_zero, List.getElem?_cons_zero, List.getElem?_cons_succ, reduceIte, Nat.reduceEqDiff, Nat.reduceAdd, Bool.not_true, Bool.not_false, true_and, and_true, reduceCtorEq, forall_const, false_implies, true_implies, List.toList_toArray, List.cons_append, List.nil_append, Int.toNat_natCast, add_at, Nat.mul_one, Nat.add_zero, Try.results49, Fx.ag3, Fx.es26, Fx.isl26]
    refine hM _ _ _ ?_; clear hM M
    refine ok_seq (fun M hM => ok_region rfl ?_)
    try simp only [wpL, wpH, wpE, oweC, oweP, List.headD_cons, List.tail_cons, opF, opH, ev, evs, evp, evo, Env.get, Env.set, putE, gdst, bvAdd, bvSub, bvMul, bvEql, bvNeq, bvLss, bvLeq, bvGtr, bvGeq, bvSEql, bvSNeq, bvBEql, bvBNeq, thenN, inBlockN, argEnv, builtinR, retE, fin, callR, List.take_succ_cons, List.take_zero, List.drop_succ_cons, List.drop_zero, List.getElem?_cons_zero, List.getElem?_cons_succ, reduceIte, Nat.reduceEqDiff, Nat.reduceAdd, Bool.not_true, Bool.not_false, true_and, and_true, reduceCtorEq, forall_const, false_implies, true_implies, List.toList_toArray, List.cons_append, List.nil_append, Int.toNat_natCast, add_at, Nat.mul_one, Nat.add_zero, Try.results49, Fx.ag3, Fx.es26, Fx.isl26]
    refine ⟨by omega, by omega, _, he.cell hcx, ?_⟩
    try simp only [wpL, wpH, wpE, oweC, oweP, List.headD_cons, List.tail_cons, opF, opH, ev, evs, evp, evo, Env.get, Env.set, putE, gdst, bvAdd, bvSub, bvMul, bvEql, bvNeq, bvLss, bvLeq, bvGtr, bvGeq, bvSEql, bvSNeq, bvBEql, bvBNeq, thenN, inBlockN, argEnv, builtinR, retE, fin, callR, List.take_succ_cons, List.take_zero, List.drop_succ_cons, List.drop_zero, List.getElem?_cons_zero, List.getElem?_cons_succ, reduceIte, Nat.reduceEqDiff, Nat.reduceAdd, Bool.not_true, Bool.not_false, true_and, and_true, reduceCtorEq, forall_const, false_implies, true_implies, List.toList_toArray, List.cons_append, List.nil_append, Int.toNat_natCast, add_at, Nat.mul_one, Nat.add_zero, Try.results49, Fx.ag3, Fx.es26, Fx.isl26]
    refine hp _ (List.getElem_mem hkl) w' he _ (fun w2 he2 => ?_)
    refine hM _ _ _ ?_; clear hM M
    refine ok_cond rfl (fun hc => ?_) (fun hc => ok_skip ?_)
    · refine ok_seq (fun M hM => ok_region rfl ?_); try simp only [wpL, wpH, wpE, oweC, oweP, List.headD_cons, List.tail_cons, opF, opH, ev, evs, evp, evo, Env.get, Env.set, putE, gdst, bvAdd, bvSub, bvMul, bvEql, bvNeq, bvLss, bvLeq, bvGtr, bvGeq, bvSEql, bvSNeq, bvBEql, bvBNeq, thenN, inBlockN, argEnv, builtinR, retE, fin, callR, List.take_succ_cons, List.take_zero, List.drop_succ_cons, List.drop_zero, List.getElem?_cons_zero, List.getElem?_cons_succ, reduceIte, Nat.reduceEqDiff, Nat.reduceAdd, Bool.not_true, Bool.not_false, true_and, and_true, reduceCtorEq, forall_const, false_implies, true_implies, List.toList_toArray, List.cons_append, List.nil_append, Int.toNat_natCast, add_at, Nat.mul_one, Nat.add_zero, Try.results49, Fx.ag3, Fx.es26, Fx.isl26]
      refine hM _ _ _ ?_; clear hM M
      refine ok_ret ?_
      try simp only [wpL, wpH, wpE, oweC, oweP, List.headD_cons, List.tail_cons, opF, opH, ev, evs, evp, evo, Env.get, Env.set, putE, gdst, bvAdd, bvSub, bvMul, bvEql, bvNeq, bvLss, bvLeq, bvGtr, bvGeq, bvSEql, bvSNeq, bvBEql, bvBNeq, thenN, inBlockN, argEnv, builtinR, retE, fin, callR, List.take_succ_cons, List.take_zero, List.drop_succ_cons, List.drop_zero, List.getElem?_cons_zero, List.getElem?_cons_succ, reduceIte, Nat.reduceEqDiff, Nat.reduceAdd, Bool.not_true, Bool.not_false, true_and, and_true, reduceCtorEq, forall_const, false_implies, true_implies, List.toList_toArray, List.cons_append, List.nil_append, Int.toNat_natCast, add_at, Nat.mul_one, Nat.add_zero, Try.results49, Fx.ag3, Fx.es26, Fx.isl26]
      refine ⟨⟨k, rfl, ?_⟩, he.trans he2⟩
      have : xs.any p = true := List.any_eq_true.2 ⟨_, List.getElem_mem hkl, hc⟩
      simp [this]
    · try simp only [wpL, wpH, wpE, oweC, oweP, List.headD_cons, List.tail_cons, opF, opH, ev, evs, evp, evo, Env.get, Env.set, putE, gdst, bvAdd, bvSub, bvMul, bvEql, bvNeq, bvLss, bvLeq, bvGtr, bvGeq, bvSEql, bvSNeq, bvBEql, bvBNeq, thenN, inBlockN, argEnv, builtinR, retE, fin, callR, List.take_succ_cons, List.take_zero, List.drop_succ_cons, List.drop_zero, List.getElem?_cons_zero, List.getElem?_cons_succ, reduceIte, Nat.reduceEqDiff, Nat.reduceAdd, Bool.not_true, Bool.not_false, true_and, and_true, reduceCtorEq, forall_const, false_implies, true_implies, List.toList_toArray, List.cons_append, List.nil_append, Int.toNat_natCast, add_at, Nat.mul_one, Nat.add_zero, Try.results49, Fx.ag3, Fx.es26, Fx.isl26]
      refine hM1 _ _ _ ?_; clear hM1 M1
      refine ok_region rfl ?_
      try simp only [wpL, wpH, wpE, oweC, oweP, List.headD_cons, List.tail_cons, opF, opH, ev, evs, evp, evo, Env.get, Env.set, putE, gdst, bvAdd, bvSub, bvMul, bvEql, bvNeq, bvLss, bvLeq, bvGtr, bvGeq, bvSEql, bvSNeq, bvBEql, bvBNeq, thenN, inBlockN, argEnv, builtinR, retE, fin, callR, List.take_succ_cons, List.take_zero, List.drop_succ_cons, List.drop_zero, List.getElem?_cons_zero, List.getElem?_cons_succ, reduceIte, Nat.reduceEqDiff, Nat.reduceAdd, Bool.not_true, Bool.not_false, true_and, and_true, reduceCtorEq, forall_const, false_implies, true_implies, List.toList_toArray, List.cons_append, List.nil_append, Int.toNat_natCast, add_at, Nat.mul_one, Nat.add_zero, Try.results49, Fx.ag3, Fx.es26, Fx.isl26]
      refine ⟨by simp only [inI]; omega, k + 1, by simp [sub, Env.get], ⟨he.trans he2, by omega, ?_⟩, by omega⟩
      rw [List.take_succ_eq_append_getElem hkl, List.any_append, hno]
      simp [hc]
  · try simp only [wpL, wpH, wpE, oweC, oweP, List.headD_cons, List.tail_cons, opF, opH, ev, evs, evp, evo, Env.get, Env.set, putE, gdst, bvAdd, bvSub, bvMul, bvEql, bvNeq, bvLss, bvLeq, bvGtr, bvGeq, bvSEql, bvSNeq, bvBEql, bvBNeq, thenN, inBlockN, argEnv, builtinR, retE, fin, callR, List.take_succ_cons, List.take_zero, List.drop_succ_cons, List.drop_zero, List.getElem?_cons_zero, List.getElem?_cons_succ, reduceIte, Nat.reduceEqDiff, Nat.reduceAdd, Bool.not_true, Bool.not_false, true_and, and_true, reduceCtorEq, forall_const, false_implies, true_implies, List.toList_toArray, List.cons_append, List.nil_append, Int.toNat_natCast, add_at, Nat.mul_one, Nat.add_zero, Try.results49, Fx.ag3, Fx.es26, Fx.isl26]
    refine hM0 _ _ _ ?_; clear hM0 M0 hM M
    refine ok_seq (fun M hM => ok_region rfl ?_); try simp only [wpL, wpH, wpE, oweC, oweP, List.headD_cons, List.tail_cons, opF, opH, ev, evs, evp, evo, Env.get, Env.set, putE, gdst, bvAdd, bvSub, bvMul, bvEql, bvNeq, bvLss, bvLeq, bvGtr, bvGeq, bvSEql, bvSNeq, bvBEql, bvBNeq, thenN, inBlockN, argEnv, builtinR, retE, fin, callR, List.take_succ_cons, List.take_zero, List.drop_succ_cons, List.drop_zero, List.getElem?_cons_zero, List.getElem?_cons_succ, reduceIte, Nat.reduceEqDiff, Nat.reduceAdd, Bool.not_true, Bool.not_false, true_and, and_true, reduceCtorEq, forall_const, false_implies, true_implies, List.toList_toArray, List.cons_append, List.nil_append, Int.toNat_natCast, add_at, Nat.mul_one, Nat.add_zero, Try.results49, Fx.ag3, Fx.es26, Fx.isl26]
    refine hM _ _ _ ?_; clear hM M
    refine ok_ret ?_
    try simp only [wpL, wpH, wpE, oweC, oweP, List.headD_cons, List.tail_cons, opF, opH, ev, evs, evp, evo, Env.get, Env.set, putE, gdst, bvAdd, bvSub, bvMul, bvEql, bvNeq, bvLss, bvLeq, bvGtr, bvGeq, bvSEql, bvSNeq, bvBEql, bvBNeq, thenN, inBlockN, argEnv, builtinR, retE, fin, callR, List.take_succ_cons, List.take_zero, List.drop_succ_cons, List.drop_zero, List.getElem?_cons_zero, List.getElem?_cons_succ, reduceIte, Nat.reduceEqDiff, Nat.reduceAdd, Bool.not_true, Bool.not_false, true_and, and_true, reduceCtorEq, forall_const, false_implies, true_implies, List.toList_toArray, List.cons_append, List.nil_append, Int.toNat_natCast, add_at, Nat.mul_one, Nat.add_zero, Try.results49, Fx.ag3, Fx.es26, Fx.isl26]
    refine ⟨⟨-1, rfl, ?_⟩, he⟩
    rw [List.take_of_length_le (by omega)] at hno
    simp [hno]

-- -- function 28
theorem containsFunc_ok (w : World) (va fv : Value) (xs : List Int) (p : Int → Bool) (ha : SlI w va xs) (hp : PredI fv w xs p) :
    Rets Try.prog 28 [va, fv] w (fun v w' => v = .bool (xs.any p) ∧ Ext w w') := by
  refine rets_of_ok Try.func28 rfl rfl ?_
  refine ok_seq (fun M hM => ok_region rfl ?_); try simp only [wpL, wpH, wpE, oweC, oweP, List.headD_cons, List.tail_cons, opF, opH, ev, evs, evp, evo, Env.get, Env.set, putE, gdst, bvAdd, bvSub, bvMul, bvEql, bvNeq, bvLss, bvLeq, bvGtr, bvGeq, bvSEql, bvSNeq, bvBEql, bvBNeq, thenN, inBlockN, argEnv, builtinR, retE, fin, callR, List.take_succ_cons, List.take_zero, List.drop_succ_cons, List.drop_zero, List.getElem?_cons_zero, List.getElem?_cons_succ, reduceIte, Nat.reduceEqDiff, Nat.reduceAdd, Bool.not_true, Bool.not_false, true_and, and_true, reduceCtorEq, forall_const, false_implies, true_implies, List.toList_toArray, List.cons_append, List.nil_append, Int.toNat_natCast, add_at, Nat.mul_one, Nat.add_zero, Try.results28]
  refine hM _ _ _ ?_; clear hM M
  refine ok_seq (fun M hM => ok_region rfl ?_)
  try simp only [wpL, wpH, wpE, oweC, oweP, List.headD_cons, List.tail_cons, opF, opH, ev, evs, evp, evo, Env.get, Env.set, putE, gdst, bvAdd, bvSub, bvMul, bvEql, bvNeq, bvLss, bvLeq, bvGtr, bvGeq, bvSEql, bvSNeq, bvBEql, bvBNeq, thenN, inBlockN, argEnv, builtinR, retE, fin, callR, List.take_succ_cons, List.take_zero, List.drop_succ_cons, List.drop_zero, List.getElem?_cons_zero, List.getElem?_cons_succ, reduceIte, Nat.reduceEqDiff, Nat.reduceAdd, Bool.not_true, Bool.not_false, true_and, and_true, reduceCtorEq, forall_const, false_implies, true_implies, List.toList_toArray, List.cons_append, List.nil_append, Int.toNat_natCast, add_at, Nat.mul_one, Nat.add_zero, Try.results28]
  refine Inv.call Fx.en49 (indexFunc_ok w va fv xs p ha hp) ?_
  rintro v w' ⟨⟨i, rfl, hi⟩, he⟩
  try simp only [wpL, wpH, wpE, oweC, oweP, List.headD_cons, List.tail_cons, opF, opH, ev, evs, evp, evo, Env.get, Env.set, putE, gdst, bvAdd, bvSub, bvMul, bvEql, bvNeq, bvLss, bvLeq, bvGtr, bvGeq, bvSEql, bvSNeq, bvBEql, bvBNeq, thenN, inBlockN, argEnv, builtinR, retE, fin, callR, List.take_succ_cons, List.take_zero, List.drop_succ_cons, List.drop_zero, List.getElem?_cons_zero, List.getElem?_cons_succ, reduceIte, Nat.reduceEqDiff, Nat.reduceAdd, Bool.not_true, Bool.not_false, true_and, and_true, reduceCtorEq, forall_const, false_implies, true_implies, List.toList_toArray, List.cons_append, List.nil_append, Int.toNat_natCast, add_at, Nat.mul_one, Nat.add_zero, Try.results28]
  refine hM _ _ _ ?_; clear hM M
  refine ok_ret ?_
  try simp only [wpL, wpH, wpE, oweC, oweP, List.headD_cons, List.tail_cons, opF, opH, ev, evs, evp, evo, Env.get, Env.set, putE, gdst, bvAdd, bvSub, bvMul, bvEql, bvNeq, bvLss, bvLeq, bvGtr, bvGeq, bvSEql, bvSNeq, bvBEql, bvBNeq, thenN, inBlockN, argEnv, builtinR, retE, fin, callR, List.take_succ_cons, List.take_zero, List.drop_succ_cons, List.drop_zero, List.getElem?_cons_zero, List.getElem?_cons_succ, reduceIte, Nat.reduceEqDiff, Nat.reduceAdd, Bool.not_true, Bool.not_false, true_and, and_true, reduceCtorEq, forall_const, false_implies, true_implies, List.toList_toArray, List.cons_append, List.nil_append, Int.toNat_natCast, add_at, Nat.mul_one, Nat.add_zero, Try.results28]
  refine ⟨?_, he⟩
  cases h : xs.any p <;> simp [h] at hi ⊢ <;> omega
end Go.Proofs.Ytafjfcameabbmaa
