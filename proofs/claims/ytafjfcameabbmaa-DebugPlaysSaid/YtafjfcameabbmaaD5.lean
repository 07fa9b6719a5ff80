/- slices.Backward over nodes; weights. -/
import Derived.Test.YtafjfcameabbmaaD4
set_option linter.unusedVariables false
set_option linter.unusedSimpArgs false
namespace Go.Proofs.Ytafjfcameabbmaa
open Go Go.Proofs.Vg Go.RowKit Dbg

-- -- function 56
theorem backward_ok (w : World) (A : Option Addr) (n cp : Nat) :
    Rets Try.prog 56 [.slice A n cp] w (fun v w' => ∃ b1, w.heap.size ≤ b1 ∧ v = .func (.func 62) #[] #[.pointer (some ⟨b1, 0, none⟩)] ∧ Blk w' b1 [.slice A n cp] 22 ∧ Ext w w') := by
  refine rets_of_ok Try.func56 rfl rfl ?_
  refine ok_seq (fun M hM => ok_region rfl ?_)
  try simp only [wpL, wpH, wpE, oweC, oweP, List.headD_cons, List.tail_cons, opF, opH, ev, evs, evp, evo, Env.get, Env.set, putE, gdst, bvAdd, bvSub, bvMul, bvEql, bvNeq, bvLss, bvLeq, bvGtr, bvGeq, bvSEql, bvSNeq, bvBEql, bvBNeq, thenN, inBlockN, argEnv, builtinR, retE, fin, callR, List.take_succ_cons, List.take_zero, List.drop_succ_cons, List.drop_zero, List.getElem?_cons_zero, List.getElem?_cons_succ, reduceIte, Nat.reduceEqDiff, Nat.reduceAdd, Bool.not_true, Bool.not_false, true_and, and_true, reduceCtorEq, forall_const, false_implies, true_implies, List.toList_toArray, List.cons_append, List.nil_append, Int.toNat_natCast, add_at, Nat.mul_one, Nat.add_zero, Try.results56]
  refine Runs.box (fun w3 he3 hz3 hb3 => ?_)
  try simp only [wpL, wpH, wpE, oweC, oweP, List.headD_cons, List.tail_cons, opF, opH, ev, evs, evp, evo, Env.get, Env.set, putE, gdst, bvAdd, bvSub, bvMul, bvEql, bvNeq, bvLss, bvLeq, bvGtr, bvGeq, bvSEql, bvSNeq, bvBEql, bvBNeq, thenN, inBlockN, argEnv, builtinR, retE, fin, callR, List.take_succ_cons, List.take_zero, List.drop_succ_cons, List.drop_zero, List.getElem?_cons_zero, List.getElem?_cons_succ, reduceIte, Nat.reduceEqDiff, Nat.reduceAdd, Bool.not_true, Bool.not_false, true_and, and_true, reduceCtorEq, forall_const, false_implies, true_implies, List.toList_toArray, List.cons_append, List.nil_append, Int.toNat_natCast, add_at, Nat.mul_one, Nat.add_zero, Try.results56]
  refine hM _ _ _ ?_; clear hM M
  refine ok_seq (fun M hM => ok_region rfl ?_); try simp only [wpL, wpH, wpE, oweC, oweP, List.headD_cons, List.tail_cons, opF, opH, ev, evs, evp, evo, Env.get, Env.set, putE, gdst, bvAdd, bvSub, bvMul, bvEql, bvNeq, bvLss, bvLeq, bvGtr, bvGeq, bvSEql, bvSNeq, bvBEql, bvBNeq, thenN, inBlockN, argEnv, builtinR, retE, fin, callR, List.take_succ_cons, List.take_zero, List.drop_succ_cons, List.drop_zero, List.getElem?_cons_zero, List.getElem?_cons_succ, reduceIte, Nat.reduceEqDiff, Nat.reduceAdd, Bool.not_true, Bool.not_false, true_and, and_true, reduceCtorEq, forall_const, false_implies, true_implies, List.toList_toArray, List.cons_append, List.nil_append, Int.toNat_natCast, add_at, Nat.mul_one, Nat.add_zero, Try.results56]
  refine hM _ _ _ ?_; clear hM M
  refine ok_ret ?_
  try simp only [wpL, wpH, wpE, oweC, oweP, List.headD_cons, List.tail_cons, opF, opH, ev, evs, evp, evo, Env.get, Env.set, putE, gdst, bvAdd, bvSub, bvMul, bvEql, bvNeq, bvLss, bvLeq, bvGtr, bvGeq, bvSEql, bvSNeq, bvBEql, bvBNeq, thenN, inBlockN, argEnv, builtinR, retE, fin, callR, List.take_succ_cons, List.take_zero, List.drop_succ_cons, List.drop_zero, List.getElem?_cons_zero, List.getElem?_cons_succ, reduceIte, Nat.reduceEqDiff, Nat.reduceAdd, Bool.not_true, Bool.not_false, true_and, and_true, reduceCtorEq, forall_const, false_implies, true_implies, List.toList_toArray, List.cons_append, List.nil_append, Int.toNat_natCast, add_at, Nat.mul_one, Nat.add_zero, Try.results56]
  exact ⟨_, Nat.le_refl _, rfl, by simpa [Value.cells] using hb3, he3⟩

-- -- function 62
theorem backward1_ok {J' : Nat → World → Prop} {Jx' : World → Prop} (W : World) (l b1 : Nat) (A : Option Addr) (n cp : Nat) (rows : Nat → List Value) (hn : n ≤ 140737488355328) (h5 : ∀ i, i < n → (rows i).length = 5)
    (hJ : ∀ s W, J' s W → W.cell? ⟨b1, 0, none⟩ = some (.slice A n cp) ∧ s ≤ n ∧ ∀ i, i < n → ∃ b o, A = some ⟨b, o, none⟩ ∧ cellsAt W ⟨b, o + i * 5, none⟩ (rows i))
    (h0 : J' n W)
    (hy : ∀ s W, 0 < s → J' s W → Vg.Yields Try.prog l [.int .i64 ((s : Int) - 1), .agg (rows (s - 1)).toArray] W (fun b W' => (b = true ∧ ∃ s', s = s' + 1 ∧ J' s' W') ∨ (b = false ∧ Jx' W'))) :
    Rets Try.prog 62 [.func (.yield l) #[] #[], .pointer (some ⟨b1, 0, none⟩)] W (fun _ W' => J' 0 W' ∨ Jx' W') := by
  refine rets_of_ok Try.func62 rfl rfl ?_
  refine ok_seq (fun M hM => ok_region rfl ?_)
  try simp only [wpL, wpH, wpE, oweC, oweP, List.headD_cons, List.tail_cons, opF, opH, ev, evs, evp, evo, Env.get, Env.set, putE, gdst, bvAdd, bvSub, bvMul, bvEql, bvNeq, bvLss, bvLeq, bvGtr, bvGeq, bvSEql, bvSNeq, bvBEql, bvBNeq, thenN, inBlockN, argEnv, builtinR, retE, fin, callR, List.take_succ_cons, List.take_zero, List.drop_succ_cons, List.drop_zero, List.getElem?_cons_zero, List.getElem?_cons_succ, reduceIte, Nat.reduceEqDiff, Nat.reduceAdd, Bool.not_true, Bool.not_false, true_and, and_true, reduceCtorEq, forall_const, false_implies, true_implies, List.toList_toArray, List.cons_append, List.nil_append, Int.toNat_natCast, add_at, Nat.mul_one, Nat.add_zero, Try.results62, Fx.ag22, Fx.ag37, Fx.es22, Fx.isl22]
  refine ⟨_, (hJ _ _ h0).1, ?_⟩
  try simp only [wpL, wpH, wpE, oweC, oweP, List.headD_cons, List.tail_cons, opF, opH, ev, evs, evp, evo, Env.get, Env.set, putE, gdst, bvAdd, bvSub, bvMul, bvEql, bvNeq, bvLss, bvLeq, bvGtr, bvGeq, bvSEql, bvSNeq, bvBEql, bvBNeq, thenN, inBlockN, argEnv, builtinR, retE, fin, callR, List.take_succ_cons, List.take_zero, List.drop_succ_cons, List.drop_zero, List.getElem?_cons_zero, List.getElem?_cons_succ, reduceIte, Nat.reduceEqDiff, Nat.reduceAdd, Bool.not_true, Bool.not_false, true_and, and_true, reduceCtorEq, forall_const, false_implies, true_implies, List.toList_toArray, List.cons_append, List.nil_append, Int.toNat_natCast, add_at, Nat.mul_one, Nat.add_zero, Try.results62, Fx.ag22, Fx.ag37, Fx.es22, Fx.isl22]
  refine ⟨by simp only [inI]; omega, ?_⟩
  refine hM _ _ _ ?_; clear hM M
  refine ok_block ?_
  refine ok_loop (S := Nat) (fun s => [(0, .func (.yield l) #[] #[]), (1, .pointer (some ⟨b1, 0, none⟩)), (3, .int .i64 ((s : Int) - 1))]) (fun s w' => J' s w') (fun s => s) n ?_ ?_ ?_
  · simp [sub, Env.get, argEnv]
  · exact h0
  intro s W2 hs
  obtain ⟨hc, hsn, hr⟩ := hJ _ _ hs
  refine ok_seq (fun M1 hM1 => ?_)
  refine ok_seq (fun M hM => ok_region rfl ?_); try simp only [wpL, wpH, wpE, oweC, oweP, List.headD_cons, List.tail_cons, opF, opH, ev, evs, evp, evo, Env.get, Env.set, putE, gdst, bvAdd, bvSub, bvMul, bvEql, bvNeq, bvLss, bvLeq, bvGtr, bvGeq, bvSEql, bvSNeq, bvBEql, bvBNeq, thenN, inBlockN, argEnv, builtinR, retE, fin, callR, List.take_succ_cons, List.take_zero, List.drop_succ_cons, List.drop_zero, List.getElem?_cons_zero, List.getElem?_cons_succ, reduceIte, Nat.reduceEqDiff, Nat.reduceAdd, Bool.not_true, Bool.not_false, true_and, and_true, reduceCtorEq, forall_const, false_implies, true_implies, List.toList_toArray, List.cons_append, List.nil_append, Int.toNat_natCast, add_at, Nat.mul_one, Nat.add_zero, Try.results62, Fx.ag22, Fx.ag37, Fx.es22, Fx.isl22]
  refine hM _ _ _ ?_; clear hM M
  refine ok_if rfl (fun hc2 => ok_skip ?_) (fun hc2 => ok_exit ?_)
  · try simp only [wpL, wpH, wpE, oweC, oweP, List.headD_cons, List.tail_cons, opF, opH, ev, evs, evp, evo, Env.get, Env.set, putE, gdst, bvAdd, bvSub, bvMul, bvEql, bvNeq, bvLss, bvLeq, bvGtr, bvGeq, bvSEql, bvSNeq, bvBEql, bvBNeq, thenN, inBlockN, argEnv, builtinR, retE, fin, callR, List.take_succ_cons, List.take_zero, List.drop_succ_cons, List.drop_zero, List.getElem?_cons_zero, List.getElem?_cons_succ, reduceIte, Nat.reduceEqDiff, Nat.reduceAdd, Bool.not_true, Bool.not_false, true_and, and_true, reduceCtorEq, forall_const, false_implies, true_implies, List.toList_toArray, List.cons_append, List.nil_append, Int.toNat_natCast, add_at, Nat.mul_one, Nat.add_zero, Try.results62, Fx.ag22, Fx.ag37, Fx.es22, Fx.isl22]
    refine hM1 _ _ _ ?_; clear hM1 M1
    have hs0 : 0 < s := by omega
    obtain ⟨b, o, rfl, hcc⟩ := hr (s - 1) (by omega)
    refine ok_seq (fun M1 hM1 => ok_block ?_)
    refine ok_seq (fun M hM => ok_region rfl ?_)
    try simp only [wpL, wpH, wpE, oweC, oweP, List.headD_cons, List.tail_cons, opF, opH, ev, evs, evp, evo, Env.get, Env.set, putE, gdst, bvAdd, bvSub, bvMul, bvEql, bvNeq, bvLss, bvLeq, bvGtr, bvGeq, bvSEql, bvSNeq, bvBEql, bvBNeq, thenN, inBlockN, argEnv, builtinR, retE, fin, callR, List.take_succ_cons, List.take_zero, List.drop_succ_cons, List.drop_zero, List.getElem?_cons_zero, List.getElem?_cons_succ, reduceIte, Nat.reduceEqDiff, Nat.reduceAdd, Bool.not_true, Bool.not_false, true_and, and_true, reduceCtorEq, forall_const, false_implies, true_implies, List.toList_toArray, List.cons_append, List.nil_append, Int.toNat_natCast, add_at, Nat.mul_one, Nat.add_zero, Try.results62, Fx.ag22, Fx.ag37, Fx.es22, Fx.isl22]
    refine ⟨_, hc, ?_⟩
    try simp only [wpL, wpH, wpE, oweC, oweP, List.headD_cons, List.tail_cons, opF, opH, ev, evs, evp, evo, Env.get, Env.set, putE, gdst, bvAdd, bvSub, bvMul, bvEql, bvNeq, bvLss, bvLeq, bvGtr, bvGeq, bvSEql, bvSNeq, bvBEql, bvBNeq, thenN, inBlockN, argEnv, builtinR, retE, fin, callR, List.take_succ_cons, List.take_zero, List.drop_succ_cons, List.drop_zero, List.getElem?_cons_zero, List.getElem?_cons_succ, reduceIte, Nat.reduceEqDiff, Nat.reduceAdd, Bool.not_true, Bool.not_false, true_and, and_true, reduceCtorEq, forall_const, false_implies, true_implies, List.toList_toArray, List.cons_append, List.nil_append, Int.toNat_natCast, add_at, Nat.mul_one, Nat.add_zero, Try.results62, Fx.ag22, Fx.ag37, Fx.es22, Fx.isl22]
    have he : ((s : Int) - 1).toNat = s - 1 := by omega
    refine ⟨by omega, by omega, rows (s - 1), h5 _ (by omega), by rw [he]; exact hcc, ?_⟩
    refine Inv.yield (hy s W2 hs0 hs) ?_
    rintro t W3 hq
    try simp only [wpL, wpH, wpE, oweC, oweP, List.headD_cons, List.tail_cons, opF, opH, ev, evs, evp, evo, Env.get, Env.set, putE, gdst, bvAdd, bvSub, bvMul, bvEql, bvNeq, bvLss, bvLeq, bvGtr, bvGeq, bvSEql, bvSNeq, bvBEql, bvBNeq, thenN, inBlockN, argEnv, builtinR, retE, fin, callR, List.take_succ_cons, List.take_zero, List.drop_succ_cons, List.drop_zero, List.getElem?_cons_zero, List.getElem?_cons_succ, reduceIte, Nat.reduceEqDiff, Nat.reduceAdd, Bool.not_true, Bool.not_false, true_and, and_true, reduceCtorEq, forall_const, false_implies, true_implies, List.toList_toArray, List.cons_append, List.nil_append, Int.toNat_natCast, add_at, Nat.mul_one, Nat.add_zero, Try.results62, Fx.ag22, Fx.ag37, Fx.es22, Fx.isl22]
    refine hM _ _ _ ?_; clear hM M
    rcases hq with ⟨rfl, s', rfl, hj⟩ | ⟨rfl, hj⟩
    · refine ok_cond rfl (fun h => by cases h) (fun _ => ok_skip ?_)
      try simp only [wpL, wpH, wpE, oweC, oweP, List.headD_cons, List.tail_cons, opF, opH, ev, evs, evp, evo, Env.get, Env.set, putE, gdst, bvAdd, bvSub, bvMul, bvEql, bvNeq, bvLss, bvLeq, bvGtr, bvGeq, bvSEql, bvSNeq, bvBEql, bvBNeq, thenN, inBlockN, argEnv, builtinR, retE, fin, callR, List.take_succ_cons, List.take_zero, List.drop_succ_cons, List.drop_zero, List.getElem?_cons_zero, List.getElem?_cons_succ, reduceIte, Nat.reduceEqDiff, Nat.reduceAdd, Bool.not_true, Bool.not_false, true_and, and_true, reduceCtorEq, forall_const, false_implies, true_implies, List.toList_toArray, List.cons_append, List.nil_append, Int.toNat_natCast, add_at, Nat.mul_one, Nat.add_zero, Try.results62, Fx.ag22, Fx.ag37, Fx.es22, Fx.isl22]
      refine hM1 _ _ _ ?_; clear hM1 M1
      refine ok_region rfl ?_
      try simp only [wpL, wpH, wpE, oweC, oweP, List.headD_cons, List.tail_cons, opF, opH, ev, evs, evp, evo, Env.get, Env.set, putE, gdst, bvAdd, bvSub, bvMul, bvEql, bvNeq, bvLss, bvLeq, bvGtr, bvGeq, bvSEql, bvSNeq, bvBEql, bvBNeq, thenN, inBlockN, argEnv, builtinR, retE, fin, callR, List.take_succ_cons, List.take_zero, List.drop_succ_cons, List.drop_zero, List.getElem?_cons_zero, List.getElem?_cons_succ, reduceIte, Nat.reduceEqDiff, Nat.reduceAdd, Bool.not_true, Bool.not_false, true_and, and_true, reduceCtorEq, forall_const, false_implies, true_implies, List.toList_toArray, List.cons_append, List.nil_append, Int.toNat_natCast, add_at, Nat.mul_one, Nat.add_zero, Try.results62, Fx.ag22, Fx.ag37, Fx.es22, Fx.isl22]
      refine ⟨by simp only [inI]; omega, s', ?_, hj, by omega⟩
      simp [sub, Env.get]
    · refine ok_cond rfl (fun _ => ok_ret ?_) (fun h => by cases h)
      try simp only [wpL, wpH, wpE, oweC, oweP, List.headD_cons, List.tail_cons, opF, opH, ev, evs, evp, evo, Env.get, Env.set, putE, gdst, bvAdd, bvSub, bvMul, bvEql, bvNeq, bvLss, bvLeq, bvGtr, bvGeq, bvSEql, bvSNeq, bvBEql, bvBNeq, thenN, inBlockN, argEnv, builtinR, retE, fin, callR, List.take_succ_cons, List.take_zero, List.drop_succ_cons, List.drop_zero, List.getElem?_cons_zero, List.getElem?_cons_succ, reduceIte, Nat.reduceEqDiff, Nat.reduceAdd, Bool.not_true, Bool.not_false, true_and, and_true, reduceCtorEq, forall_const, false_implies, true_implies, List.toList_toArray, List.cons_append, List.nil_append, Int.toNat_natCast, add_at, Nat.mul_one, Nat.add_zero, Try.results62, Fx.ag22, Fx.ag37, Fx.es22, Fx.isl22]
      exact .inr hj
  · try simp only [wpL, wpH, wpE, oweC, oweP, List.headD_cons, List.tail_cons, opF, opH, ev, evs, evp, evo, Env.get, Env.set, putE, gdst, bvAdd, bvSub, bvMul, bvEql, bvNeq, bvLss, bvLeq, bvGtr, bvGeq, bvSEql, bvSNeq, bvBEql, bvBNeq, thenN, inBlockN, argEnv, builtinR, retE, fin, callR, List.take_succ_cons, List.take_zero, List.drop_succ_cons, List.drop_zero, List.getElem?_cons_zero, List.getElem?_cons_succ, reduceIte, Nat.reduceEqDiff, Nat.reduceAdd, Bool.not_true, Bool.not_false, true_and, and_true, reduceCtorEq, forall_const, false_implies, true_implies, List.toList_toArray, List.cons_append, List.nil_append, Int.toNat_natCast, add_at, Nat.mul_one, Nat.add_zero, Try.results62, Fx.ag22, Fx.ag37, Fx.es22, Fx.isl22]
    have : s = 0 := by omega
    subst this
    exact .inl hs
end Go.Proofs.Ytafjfcameabbmaa
