/- debug.formed. -/
import Derived.Test.YtafjfcameabbmaaD0
import Derived.Test.YtafjfcameabbmaaD1
set_option linter.unusedVariables false
set_option linter.unusedSimpArgs false
namespace Go.Proofs.Ytafjfcameabbmaa
open Go Go.Proofs.Vg Go.RowKit Dbg

-- -- function 42
theorem notOne_ok (w : World) (x : Int) : Rets Try.prog 42 [.int .i64 x] w (fun v w' => v = .bool (!decide (x = 1)) ∧ Ext w w') := by
  refine rets_of_ok Try.func42 rfl rfl ?_
  refine ok_seq (fun M hM => ok_region rfl ?_); try simp only [wpL, wpH, wpE, oweC, oweP, List.headD_cons, List.tail_cons, opF, opH, ev, evs, evp, evo, Env.get, Env.set, putE, gdst, bvAdd, bvSub, bvMul, bvEql, bvNeq, bvLss, bvLeq, bvGtr, bvGeq, bvSEql, bvSNeq, bvBEql, bvBNeq, thenN, inBlockN, argEnv, builtinR, retE, fin, callR, List.take_succ_cons, List.take_zero, List.drop_succ_cons, List.drop_zero, List.getElem?_cons_zero, List.getElem?_cons_succ, reduceIte, Nat.reduceEqDiff, Nat.reduceAdd, Bool.not_true, Bool.not_false, true_and, and_true, reduceCtorEq, forall_const, false_implies, true_implies, List.toList_toArray, List.cons_append, List.nil_append, Int.toNat_natCast, add_at, Nat.mul_one, Nat.add_zero, Try.results42]
  refine hM _ _ _ ?_; clear hM M
  refine ok_seq (fun M hM => ok_region rfl ?_); try simp only [wpL, wpH, wpE, oweC, oweP, List.headD_cons, List.tail_cons, opF, opH, ev, evs, evp, evo, Env.get, Env.set, putE, gdst, bvAdd, bvSub, bvMul, bvEql, bvNeq, bvLss, bvLeq, bvGtr, bvGeq, bvSEql, bvSNeq, bvBEql, bvBNeq, thenN, inBlockN, argEnv, builtinR, retE, fin, callR, List.take_succ_cons, List.take_zero, List.drop_succ_cons, List.drop_zero, List.getElem?_cons_zero, List.getElem?_cons_succ, reduceIte, Nat.reduceEqDiff, Nat.reduceAdd, Bool.not_true, Bool.not_false, true_and, and_true, reduceCtorEq, forall_const, false_implies, true_implies, List.toList_toArray, List.cons_append, List.nil_append, Int.toNat_natCast, add_at, Nat.mul_one, Nat.add_zero, Try.results42]
  refine hM _ _ _ ?_; clear hM M
  refine ok_ret ?_
  try simp only [wpL, wpH, wpE, oweC, oweP, List.headD_cons, List.tail_cons, opF, opH, ev, evs, evp, evo, Env.get, Env.set, putE, gdst, bvAdd, bvSub, bvMul, bvEql, bvNeq, bvLss, bvLeq, bvGtr, bvGeq, bvSEql, bvSNeq, bvBEql, bvBNeq, thenN, inBlockN, argEnv, builtinR, retE, fin, callR, List.take_succ_cons, List.take_zero, List.drop_succ_cons, List.drop_zero, List.getElem?_cons_zero, List.getElem?_cons_succ, reduceIte, Nat.reduceEqDiff, Nat.reduceAdd, Bool.not_true, Bool.not_false, true_and, and_true, reduceCtorEq, forall_const, false_implies, true_implies, List.toList_toArray, List.cons_append, List.nil_append, Int.toNat_natCast, add_at, Nat.mul_one, Nat.add_zero, Try.results42]
  exact Ext.refl _

def iv (xs : List Int) : List Value := xs.map fun x => .int .i64 x
@[simp] theorem iv_length (xs : List Int) : (iv xs).length = xs.length := by simp [iv]
theorem iv_get (xs : List Int) (j : Nat) (h : j < xs.length) : (iv xs)[j]? = some (.int .i64 xs[j]) := by simp [iv, h]
theorem iv_set (xs : List Int) (j : Nat) (x : Int) : iv (xs.set j x) = (iv xs).set j (.int .i64 x) := by simp [iv, List.map_set]
/-- A block of ints, as a slice. -/
theorem Blk.slI {w : World} {b : Nat} {xs : List Int} {e : TypeId} (h : Blk w b (iv xs) e) (hl : xs.length ≤ 140737488355328) (c : Nat) : SlI w (.slice (some ⟨b, 0, none⟩) xs.length c) xs :=
  ⟨_, c, by simp, by simpa using hl, fun j row hj => ⟨b, 0, rfl, by
    have hlt : j < xs.length := by have := (List.getElem?_eq_some_iff.1 hj).1; simpa using this
    simp [ints, hlt] at hj
    subst hj
    refine h.cells fun k u hk => ?_
    cases k with
    | zero => simp at hk; subst hk; simp [iv, hlt]
    | succ k => simp at hk⟩⟩

-- -- function 20
set_option maxHeartbeats 1000000 in
theorem formed_ok (w : World) (vn : Value) (ks : List (List Int)) (hn : NodesG w vn ks) (hs : ks.length + ks.flatten.length ≤ 1000) :
    Rets Try.prog 20 [vn] w (fun v w' => v = .bool (formedB ks) ∧ Ext w w') := by
  obtain ⟨A, cp, rfl, hlen, hrow⟩ := hn.at_
  clear hn
  refine rets_of_ok Try.func20 rfl rfl ?_
  refine ok_seq (fun M hM => ok_region rfl ?_); try simp only [wpL, wpH, wpE, oweC, oweP, List.headD_cons, List.tail_cons, opF, opH, ev, evs, evp, evo, Env.get, Env.set, putE, gdst, bvAdd, bvSub, bvMul, bvEql, bvNeq, bvLss, bvLeq, bvGtr, bvGeq, bvSEql, bvSNeq, bvBEql, bvBNeq, thenN, inBlockN, argEnv, builtinR, retE, fin, callR, List.take_succ_cons, List.take_zero, List.drop_succ_cons, List.drop_zero, List.getElem?_cons_zero, List.getElem?_cons_succ, reduceIte, Nat.reduceEqDiff, Nat.reduceAdd, Bool.not_true, Bool.not_false, true_and, and_true, reduceCtorEq, forall_const, false_implies, true_implies, List.toList_toArray, List.cons_append, List.nil_append, Int.toNat_natCast, add_at, Nat.mul_one, Nat.add_zero, Try.results20, Fx.ag26, Fx.ag3, Fx.ag37, Fx.es22, Fx.es26, Fx.fo37_4, Fx.isl22, Fx.isl26]
  refine hM _ _ _ ?_; clear hM M
  refine ok_seq (fun M hM => ok_region rfl ?_)
  try simp only [wpL, wpH, wpE, oweC, oweP, List.headD_cons, List.tail_cons, opF, opH, ev, evs, evp, evo, Env.get, Env.set, putE, gdst, bvAdd, bvSub, bvMul, bvEql, bvNeq, bvLss, bvLeq, bvGtr, bvGeq, bvSEql, bvSNeq, bvBEql, bvBNeq, thenN, inBlockN, argEnv, builtinR, retE, fin, callR, List.take_succ_cons, List.take_zero, List.drop_succ_cons, List.drop_zero, List.getElem?_cons_zero, List.getElem?_cons_succ, reduceIte, Nat.reduceEqDiff, Nat.reduceAdd, Bool.not_true, Bool.not_false, true_and, and_true, reduceCtorEq, forall_const, false_implies, true_implies, List.toList_toArray, List.cons_append, List.nil_append, Int.toNat_natCast, add_at, Nat.mul_one, Nat.add_zero, Try.results20, Fx.ag26, Fx.ag3, Fx.ag37, Fx.es22, Fx.es26, Fx.fo37_4, Fx.isl22, Fx.isl26]
  refine Runs.make1 Fx.un26 Fx.zi3 rfl (by omega) (by omega) (by omega) (fun w1 he1 hz1 hb1 => ?_)
  try simp only [wpL, wpH, wpE, oweC, oweP, List.headD_cons, List.tail_cons, opF, opH, ev, evs, evp, evo, Env.get, Env.set, putE, gdst, bvAdd, bvSub, bvMul, bvEql, bvNeq, bvLss, bvLeq, bvGtr, bvGeq, bvSEql, bvSNeq, bvBEql, bvBNeq, thenN, inBlockN, argEnv, builtinR, retE, fin, callR, List.take_succ_cons, List.take_zero, List.drop_succ_cons, List.drop_zero, List.getElem?_cons_zero, List.getElem?_cons_succ, reduceIte, Nat.reduceEqDiff, Nat.reduceAdd, Bool.not_true, Bool.not_false, true_and, and_true, reduceCtorEq, forall_const, false_implies, true_implies, List.toList_toArray, List.cons_append, List.nil_append, Int.toNat_natCast, add_at, Nat.mul_one, Nat.add_zero, Try.results20, Fx.ag26, Fx.ag3, Fx.ag37, Fx.es22, Fx.es26, Fx.fo37_4, Fx.isl22, Fx.isl26]
  refine hM _ _ _ ?_; clear hM M
  generalize hB : w.heap.size = B at *
  have hb1' : Blk w1 B (iv (counts ks.length [])) 3 := by
    rw [counts_nil]; simpa [iv] using hb1
  clear hb1
  refine ok_seq (fun M0 hM0 => ?_)
  refine ok_seq (fun M hM => ok_region rfl ?_); try simp only [wpL, wpH, wpE, oweC, oweP, List.headD_cons, List.tail_cons, opF, opH, ev, evs, evp, evo, Env.get, Env.set, putE, gdst, bvAdd, bvSub, bvMul, bvEql, bvNeq, bvLss, bvLeq, bvGtr, bvGeq, bvSEql, bvSNeq, bvBEql, bvBNeq, thenN, inBlockN, argEnv, builtinR, retE, fin, callR, List.take_succ_cons, List.take_zero, List.drop_succ_cons, List.drop_zero, List.getElem?_cons_zero, List.getElem?_cons_succ, reduceIte, Nat.reduceEqDiff, Nat.reduceAdd, Bool.not_true, Bool.not_false, true_and, and_true, reduceCtorEq, forall_const, false_implies, true_implies, List.toList_toArray, List.cons_append, List.nil_append, Int.toNat_natCast, add_at, Nat.mul_one, Nat.add_zero, Try.results20, Fx.ag26, Fx.ag3, Fx.ag37, Fx.es22, Fx.es26, Fx.fo37_4, Fx.isl22, Fx.isl26]
  refine hM _ _ _ ?_; clear hM M
  refine ok_block ?_
  refine ok_loop (S := Nat) (fun i => [(0, .slice A ks.length cp), (3, .slice (some ⟨B, 0, none⟩) ks.length ks.length), (11, .slice A ks.length cp), (12, .int .i64 (ks.length : Int)), (13, .int .i64 (i : Int))])
    (fun i w' => Ext w w' ∧ i ≤ ks.length ∧ Blk w' B (iv (counts ks.length (upto ks i 0))) 3 ∧ ∀ i', i' < i → (kidsOf ks i').all (edgeB ks.length i') = true) (fun i => ks.length - i) 0 ?_ ?_ ?_
  · simp [sub, Env.get, argEnv]
  · exact ⟨he1, Nat.zero_le _, by rw [upto_zero]; exact hb1', fun i' h => absurd h (Nat.not_lt_zero _)⟩
  rintro i w2 ⟨he2, hi, hb2, hall⟩
  refine ok_seq (fun M hM => ok_region rfl ?_); try simp only [wpL, wpH, wpE, oweC, oweP, List.headD_cons, List.tail_cons, opF, opH, ev, evs, evp, evo, Env.get, Env.set, putE, gdst, bvAdd, bvSub, bvMul, bvEql, bvNeq, bvLss, bvLeq, bvGtr, bvGeq, bvSEql, bvSNeq, bvBEql, bvBNeq, thenN, inBlockN, argEnv, builtinR, retE, fin, callR, List.take_succ_cons, List.take_zero, List.drop_succ_cons, List.drop_zero, List.getElem?_cons_zero, List.getElem?_cons_succ, reduceIte, Nat.reduceEqDiff, Nat.reduceAdd, Bool.not_true, Bool.not_false, true_and, and_true, reduceCtorEq, forall_const, false_implies, true_implies, List.toList_toArray, List.cons_append, List.nil_append, Int.toNat_natCast, add_at, Nat.mul_one, Nat.add_zero, Try.results20, Fx.ag26, Fx.ag3, Fx.ag37, Fx.es22, Fx.es26, Fx.fo37_4, Fx.isl22, Fx.isl26]
  refine hM _ _ _ ?_; clear hM M
  refine ok_seq (fun M hM => ok_if rfl (fun hc => ok_skip ?_) (fun hc => ok_exit ?_))
  rotate_left
  · -- behind the loops
    try simp only [wpL, wpH, wpE, oweC, oweP, List.headD_cons, List.tail_cons, opF, opH, ev, evs, evp, evo, Env.get, Env.set, putE, gdst, bvAdd, bvSub, bvMul, bvEql, bvNeq, bvLss, bvLeq, bvGtr, bvGeq, bvSEql, bvSNeq, bvBEql, bvBNeq, thenN, inBlockN, argEnv, builtinR, retE, fin, callR, List.take_succ_cons, List.take_zero, List.drop_succ_cons, List.drop_zero, List.getElem?_cons_zero, List.getElem?_cons_succ, reduceIte, Nat.reduceEqDiff, Nat.reduceAdd, Bool.not_true, Bool.not_false, true_and, and_true, reduceCtorEq, forall_const, false_implies, true_implies, List.toList_toArray, List.cons_append, List.nil_append, Int.toNat_natCast, add_at, Nat.mul_one, Nat.add_zero, Try.results20, Fx.ag26, Fx.ag3, Fx.ag37, Fx.es22, Fx.es26, Fx.fo37_4, Fx.isl22, Fx.isl26]
    refine hM0 _ _ _ ?_; clear hM0 M0 hM M
    have hil : i = ks.length := by omega
    subst hil
    refine ok_seq (fun M hM => ok_region rfl ?_)
    try simp only [wpL, wpH, wpE, oweC, oweP, List.headD_cons, List.tail_cons, opF, opH, ev, evs, evp, evo, Env.get, Env.set, putE, gdst, bvAdd, bvSub, bvMul, bvEql, bvNeq, bvLss, bvLeq, bvGtr, bvGeq, bvSEql, bvSNeq, bvBEql, bvBNeq, thenN, inBlockN, argEnv, builtinR, retE, fin, callR, List.take_succ_cons, List.take_zero, List.drop_succ_cons, List.drop_zero, List.getElem?_cons_zero, List.getElem?_cons_succ, reduceIte, Nat.reduceEqDiff, Nat.reduceAdd, Bool.not_true, Bool.not_false, true_and, and_true, reduceCtorEq, forall_const, false_implies, true_implies, List.toList_toArray, List.cons_append, List.nil_append, Int.toNat_natCast, add_at, Nat.mul_one, Nat.add_zero, Try.results20, Fx.ag26, Fx.ag3, Fx.ag37, Fx.es22, Fx.es26, Fx.fo37_4, Fx.isl22, Fx.isl26]
    have hedges : edgesB ks = true := by
      simp only [edgesB, List.all_eq_true, List.mem_range]
      exact fun i hi => List.all_eq_true.1 (hall i hi)
    refine ⟨fun h0 => ?_, fun h0 => ?_⟩
    · have h0' : 0 < ks.length := by simpa using h0
      rw [upto_end] at hb2
      have hsl := Blk.slI hb2 (by simpa using hlen) ks.length
      simp only [counts_length] at hsl
      refine Runs.sliceLo Fx.un26 Fx.zi3 hsl (Nat.le_refl _) 1 h0' rfl (fun A' c' hrd => ?_)
      try simp only [wpL, wpH, wpE, oweC, oweP, List.headD_cons, List.tail_cons, opF, opH, ev, evs, evp, evo, Env.get, Env.set, putE, gdst, bvAdd, bvSub, bvMul, bvEql, bvNeq, bvLss, bvLeq, bvGtr, bvGeq, bvSEql, bvSNeq, bvBEql, bvBNeq, thenN, inBlockN, argEnv, builtinR, retE, fin, callR, List.take_succ_cons, List.take_zero, List.drop_succ_cons, List.drop_zero, List.getElem?_cons_zero, List.getElem?_cons_succ, reduceIte, Nat.reduceEqDiff, Nat.reduceAdd, Bool.not_true, Bool.not_false, true_and, and_true, reduceCtorEq, forall_const, false_implies, true_implies, List.toList_toArray, List.cons_append, List.nil_append, Int.toNat_natCast, add_at, Nat.mul_one, Nat.add_zero, Try.results20, Fx.ag26, Fx.ag3, Fx.ag37, Fx.es22, Fx.es26, Fx.fo37_4, Fx.isl22, Fx.isl26]
      have hrd' : SlI w2 (.slice A' (ks.length - 1) c') ((counts ks.length ks.flatten).drop 1) := by
        simp only [SlI, ints, List.map_drop] at hrd ⊢
        exact hrd
      refine Inv.call Fx.en28 (containsFunc_ok w2 _ _ _ (fun x => !decide (x = 1)) hrd' (fun x _ w' he nx hnx => Inv.call Fx.en42 (notOne_ok w' x) (fun v w'' ⟨hv, he''⟩ => by rw [hv]; exact hnx _ he''))) ?_
      rintro v w3 ⟨rfl, he3⟩
      try simp only [wpL, wpH, wpE, oweC, oweP, List.headD_cons, List.tail_cons, opF, opH, ev, evs, evp, evo, Env.get, Env.set, putE, gdst, bvAdd, bvSub, bvMul, bvEql, bvNeq, bvLss, bvLeq, bvGtr, bvGeq, bvSEql, bvSNeq, bvBEql, bvBNeq, thenN, inBlockN, argEnv, builtinR, retE, fin, callR, List.take_succ_cons, List.take_zero, List.drop_succ_cons, List.drop_zero, List.getElem?_cons_zero, List.getElem?_cons_succ, reduceIte, Nat.reduceEqDiff, Nat.reduceAdd, Bool.not_true, Bool.not_false, true_and, and_true, reduceCtorEq, forall_const, false_implies, true_implies, List.toList_toArray, List.cons_append, List.nil_append, Int.toNat_natCast, add_at, Nat.mul_one, Nat.add_zero, Try.results20, Fx.ag26, Fx.ag3, Fx.ag37, Fx.es22, Fx.es26, Fx.fo37_4, Fx.isl22, Fx.isl26]
      refine hM _ _ _ ?_; clear hM M
      refine ok_ret ?_
      try simp only [wpL, wpH, wpE, oweC, oweP, List.headD_cons, List.tail_cons, opF, opH, ev, evs, evp, evo, Env.get, Env.set, putE, gdst, bvAdd, bvSub, bvMul, bvEql, bvNeq, bvLss, bvLeq, bvGtr, bvGeq, bvSEql, bvSNeq, bvBEql, bvBNeq, thenN, inBlockN, argEnv, builtinR, retE, fin, callR, List.take_succ_cons, List.take_zero, List.drop_succ_cons, List.drop_zero, List.getElem?_cons_zero, List.getElem?_cons_succ, reduceIte, Nat.reduceEqDiff, Nat.reduceAdd, Bool.not_true, Bool.not_false, true_and, and_true, reduceCtorEq, forall_const, false_implies, true_implies, List.toList_toArray, List.cons_append, List.nil_append, Int.toNat_natCast, add_at, Nat.mul_one, Nat.add_zero, Try.results20, Fx.ag26, Fx.ag3, Fx.ag37, Fx.es22, Fx.es26, Fx.fo37_4, Fx.isl22, Fx.isl26]
      refine ⟨?_, he2.trans he3⟩
      have : List.any (List.drop 1 (counts ks.length ks.flatten)) (fun x => !decide (x = 1)) = !onesB ks := onesB_iff ks
      rw [this]
      simp [formedB, hedges, h0']
    · try simp only [wpL, wpH, wpE, oweC, oweP, List.headD_cons, List.tail_cons, opF, opH, ev, evs, evp, evo, Env.get, Env.set, putE, gdst, bvAdd, bvSub, bvMul, bvEql, bvNeq, bvLss, bvLeq, bvGtr, bvGeq, bvSEql, bvSNeq, bvBEql, bvBNeq, thenN, inBlockN, argEnv, builtinR, retE, fin, callR, List.take_succ_cons, List.take_zero, List.drop_succ_cons, List.drop_zero, List.getElem?_cons_zero, List.getElem?_cons_succ, reduceIte, Nat.reduceEqDiff, Nat.reduceAdd, Bool.not_true, Bool.not_false, true_and, and_true, reduceCtorEq, forall_const, false_implies, true_implies, List.toList_toArray, List.cons_append, List.nil_append, Int.toNat_natCast, add_at, Nat.mul_one, Nat.add_zero, Try.results20, Fx.ag26, Fx.ag3, Fx.ag37, Fx.es22, Fx.es26, Fx.fo37_4, Fx.isl22, Fx.isl26]
      refine hM _ _ _ ?_; clear hM M
      refine ok_ret ?_
      try simp only [wpL, wpH, wpE, oweC, oweP, List.headD_cons, List.tail_cons, opF, opH, ev, evs, evp, evo, Env.get, Env.set, putE, gdst, bvAdd, bvSub, bvMul, bvEql, bvNeq, bvLss, bvLeq, bvGtr, bvGeq, bvSEql, bvSNeq, bvBEql, bvBNeq, thenN, inBlockN, argEnv, builtinR, retE, fin, callR, List.take_succ_cons, List.take_zero, List.drop_succ_cons, List.drop_zero, List.getElem?_cons_zero, List.getElem?_cons_succ, reduceIte, Nat.reduceEqDiff, Nat.reduceAdd, Bool.not_true, Bool.not_false, true_and, and_true, reduceCtorEq, forall_const, false_implies, true_implies, List.toList_toArray, List.cons_append, List.nil_append, Int.toNat_natCast, add_at, Nat.mul_one, Nat.add_zero, Try.results20, Fx.ag26, Fx.ag3, Fx.ag37, Fx.es22, Fx.es26, Fx.fo37_4, Fx.isl22, Fx.isl26]
      refine ⟨?_, he2⟩
      have h0' : ¬ 0 < ks.length := by simpa using h0
      simp [formedB, h0']
  · try simp only [wpL, wpH, wpE, oweC, oweP, List.headD_cons, List.tail_cons, opF, opH, ev, evs, evp, evo, Env.get, Env.set, putE, gdst, bvAdd, bvSub, bvMul, bvEql, bvNeq, bvLss, bvLeq, bvGtr, bvGeq, bvSEql, bvSNeq, bvBEql, bvBNeq, thenN, inBlockN, argEnv, builtinR, retE, fin, callR, List.take_succ_cons, List.take_zero, List.drop_succ_cons, List.drop_zero, List.getElem?_cons_zero, List.getElem?_cons_succ, reduceIte, Nat.reduceEqDiff, Nat.reduceAdd, Bool.not_true, Bool.not_false, true_and, and_true, reduceCtorEq, forall_const, false_implies, true_implies, List.toList_toArray, List.cons_append, List.nil_append, Int.toNat_natCast, add_at, Nat.mul_one, Nat.add_zero, Try.results20, Fx.ag26, Fx.ag3, Fx.ag37, Fx.es22, Fx.es26, Fx.fo37_4, Fx.isl22, Fx.isl26]
    refine hM _ _ _ ?_; clear hM M
    have hil : i < ks.length := by omega
    have hki : kidsOf ks i = ks[i] := kidsOf_get ks i hil
    obtain ⟨b, o, c, p, vi, vo, vk, rfl, hcells, h1, h2, h3, h4, hk⟩ := hrow i hil
    obtain ⟨A2, c2, rfl, hl2, hk⟩ := hk.at_
    refine ok_seq (fun M1 hM1 => ok_block ?_)
    refine ok_seq (fun M hM => ok_region rfl ?_)
    try simp only [wpL, wpH, wpE, oweC, oweP, List.headD_cons, List.tail_cons, opF, opH, ev, evs, evp, evo, Env.get, Env.set, putE, gdst, bvAdd, bvSub, bvMul, bvEql, bvNeq, bvLss, bvLeq, bvGtr, bvGeq, bvSEql, bvSNeq, bvBEql, bvBNeq, thenN, inBlockN, argEnv, builtinR, retE, fin, callR, List.take_succ_cons, List.take_zero, List.drop_succ_cons, List.drop_zero, List.getElem?_cons_zero, List.getElem?_cons_succ, reduceIte, Nat.reduceEqDiff, Nat.reduceAdd, Bool.not_true, Bool.not_false, true_and, and_true, reduceCtorEq, forall_const, false_implies, true_implies, List.toList_toArray, List.cons_append, List.nil_append, Int.toNat_natCast, add_at, Nat.mul_one, Nat.add_zero, Try.results20, Fx.ag26, Fx.ag3, Fx.ag37, Fx.es22, Fx.es26, Fx.fo37_4, Fx.isl22, Fx.isl26]
    refine ⟨by omega, by omega, _, rfl, he2.cellsAt hcells, ?_⟩
    refine Runs.alloc Fx.zi37 (fun w3 he3 hz3 hb3 => ?_)
    try simp only [wpL, wpH, wpE, oweC, oweP, List.headD_cons, List.tail_cons, opF, opH, ev, evs, evp, evo, Env.get, Env.set, putE, gdst, bvAdd, bvSub, bvMul, bvEql, bvNeq, bvLss, bvLeq, bvGtr, bvGeq, bvSEql, bvSNeq, bvBEql, bvBNeq, thenN, inBlockN, argEnv, builtinR, retE, fin, callR, List.take_succ_cons, List.take_zero, List.drop_succ_cons, List.drop_zero, List.getElem?_cons_zero, List.getElem?_cons_succ, reduceIte, Nat.reduceEqDiff, Nat.reduceAdd, Bool.not_true, Bool.not_false, true_and, and_true, reduceCtorEq, forall_const, false_implies, true_implies, List.toList_toArray, List.cons_append, List.nil_append, Int.toNat_natCast, add_at, Nat.mul_one, Nat.add_zero, Try.results20, Fx.ag26, Fx.ag3, Fx.ag37, Fx.es22, Fx.es26, Fx.fo37_4, Fx.isl22, Fx.isl26]
    refine Runs.store hb3 Fx.zi37 rfl (by intro u hu; simp [Value.cells] at hu; rcases hu with rfl | rfl | rfl | rfl | rfl <;> first | rfl | assumption) (by simp [Value.cells]) (fun w4 hc4 hz4 hb4 => ?_)
    try simp only [wpL, wpH, wpE, oweC, oweP, List.headD_cons, List.tail_cons, opF, opH, ev, evs, evp, evo, Env.get, Env.set, putE, gdst, bvAdd, bvSub, bvMul, bvEql, bvNeq, bvLss, bvLeq, bvGtr, bvGeq, bvSEql, bvSNeq, bvBEql, bvBNeq, thenN, inBlockN, argEnv, builtinR, retE, fin, callR, List.take_succ_cons, List.take_zero, List.drop_succ_cons, List.drop_zero, List.getElem?_cons_zero, List.getElem?_cons_succ, reduceIte, Nat.reduceEqDiff, Nat.reduceAdd, Bool.not_true, Bool.not_false, true_and, and_true, reduceCtorEq, forall_const, false_implies, true_implies, List.toList_toArray, List.cons_append, List.nil_append, Int.toNat_natCast, add_at, Nat.mul_one, Nat.add_zero, Try.results20, Fx.ag26, Fx.ag3, Fx.ag37, Fx.es22, Fx.es26, Fx.fo37_4, Fx.isl22, Fx.isl26]
    refine hM _ _ _ ?_; clear hM M
    have hBlt : B < w2.heap.size := hb2.lt
    have hwlt : w.heap.size ≤ w2.heap.size := he2.size
    have he4 : Ext w w4 := (he2.trans he3).chg_trans hc4 (fun k hk => by subst hk; exact hwlt)
    have hb4' : Blk w4 B (iv (counts ks.length (upto ks i 0))) 3 := (hb2.ext he3).chg hc4 (by omega)
    have hv4 : w4.cell? ⟨w2.heap.size, 4, none⟩ = some (.slice A2 ks[i].length c2) := hb4.cell (by simp [splice, Value.cells])
    clear hb4 hb3 he3 hz3 hc4 hz4
    refine ok_seq (fun M hM => ok_region rfl ?_); try simp only [wpL, wpH, wpE, oweC, oweP, List.headD_cons, List.tail_cons, opF, opH, ev, evs, evp, evo, Env.get, Env.set, putE, gdst, bvAdd, bvSub, bvMul, bvEql, bvNeq, bvLss, bvLeq, bvGtr, bvGeq, bvSEql, bvSNeq, bvBEql, bvBNeq, thenN, inBlockN, argEnv, builtinR, retE, fin, callR, List.take_succ_cons, List.take_zero, List.drop_succ_cons, List.drop_zero, List.getElem?_cons_zero, List.getElem?_cons_succ, reduceIte, Nat.reduceEqDiff, Nat.reduceAdd, Bool.not_true, Bool.not_false, true_and, and_true, reduceCtorEq, forall_const, false_implies, true_implies, List.toList_toArray, List.cons_append, List.nil_append, Int.toNat_natCast, add_at, Nat.mul_one, Nat.add_zero, Try.results20, Fx.ag26, Fx.ag3, Fx.ag37, Fx.es22, Fx.es26, Fx.fo37_4, Fx.isl22, Fx.isl26]
    refine ⟨_, hv4, ?_⟩
    try simp only [wpL, wpH, wpE, oweC, oweP, List.headD_cons, List.tail_cons, opF, opH, ev, evs, evp, evo, Env.get, Env.set, putE, gdst, bvAdd, bvSub, bvMul, bvEql, bvNeq, bvLss, bvLeq, bvGtr, bvGeq, bvSEql, bvSNeq, bvBEql, bvBNeq, thenN, inBlockN, argEnv, builtinR, retE, fin, callR, List.take_succ_cons, List.take_zero, List.drop_succ_cons, List.drop_zero, List.getElem?_cons_zero, List.getElem?_cons_succ, reduceIte, Nat.reduceEqDiff, Nat.reduceAdd, Bool.not_true, Bool.not_false, true_and, and_true, reduceCtorEq, forall_const, false_implies, true_implies, List.toList_toArray, List.cons_append, List.nil_append, Int.toNat_natCast, add_at, Nat.mul_one, Nat.add_zero, Try.results20, Fx.ag26, Fx.ag3, Fx.ag37, Fx.es22, Fx.es26, Fx.fo37_4, Fx.isl22, Fx.isl26]
    refine hM _ _ _ ?_; clear hM M
    refine ok_block ?_
    refine ok_loop (S := Nat) (fun j => [(0, .slice (some ⟨b, o, none⟩) ks.length cp), (3, .slice (some ⟨B, 0, none⟩) ks.length ks.length), (4, .int .i64 (i : Int)), (11, .slice (some ⟨b, o, none⟩) ks.length cp), (12, .int .i64 (ks.length : Int)), (13, .int .i64 (i : Int)),
        (19, .slice A2 ks[i].length c2), (20, .int .i64 (ks[i].length : Int)), (21, .int .i64 (j : Int))])
      (fun j w' => Ext w w' ∧ j ≤ ks[i].length ∧ Blk w' B (iv (counts ks.length (upto ks i j))) 3 ∧ ((kidsOf ks i).take j).all (edgeB ks.length i) = true) (fun j => ks[i].length - j) 0 ?_ ?_ ?_
    · simp [sub, Env.get, argEnv]
    · exact ⟨he4, Nat.zero_le _, hb4', by simp⟩
    clear hb4' he4 hv4 w4
    rintro j w4 ⟨he4, hj, hb4, hallj⟩
    refine ok_seq (fun M hM => ok_region rfl ?_); try simp only [wpL, wpH, wpE, oweC, oweP, List.headD_cons, List.tail_cons, opF, opH, ev, evs, evp, evo, Env.get, Env.set, putE, gdst, bvAdd, bvSub, bvMul, bvEql, bvNeq, bvLss, bvLeq, bvGtr, bvGeq, bvSEql, bvSNeq, bvBEql, bvBNeq, thenN, inBlockN, argEnv, builtinR, retE, fin, callR, List.take_succ_cons, List.take_zero, List.drop_succ_cons, List.drop_zero, List.getElem?_cons_zero, List.getElem?_cons_succ, reduceIte, Nat.reduceEqDiff, Nat.reduceAdd, Bool.not_true, Bool.not_false, true_and, and_true, reduceCtorEq, forall_const, false_implies, true_implies, List.toList_toArray, List.cons_append, List.nil_append, Int.toNat_natCast, add_at, Nat.mul_one, Nat.add_zero, Try.results20, Fx.ag26, Fx.ag3, Fx.ag37, Fx.es22, Fx.es26, Fx.fo37_4, Fx.isl22, Fx.isl26]
    refine hM _ _ _ ?_; clear hM M
    refine ok_seq (fun M hM => ok_if rfl (fun hc => ok_skip ?_) (fun hc => ok_exit ?_))
    rotate_left
    · -- the kids are through
      try simp only [wpL, wpH, wpE, oweC, oweP, List.headD_cons, List.tail_cons, opF, opH, ev, evs, evp, evo, Env.get, Env.set, putE, gdst, bvAdd, bvSub, bvMul, bvEql, bvNeq, bvLss, bvLeq, bvGtr, bvGeq, bvSEql, bvSNeq, bvBEql, bvBNeq, thenN, inBlockN, argEnv, builtinR, retE, fin, callR, List.take_succ_cons, List.take_zero, List.drop_succ_cons, List.drop_zero, List.getElem?_cons_zero, List.getElem?_cons_succ, reduceIte, Nat.reduceEqDiff, Nat.reduceAdd, Bool.not_true, Bool.not_false, true_and, and_true, reduceCtorEq, forall_const, false_implies, true_implies, List.toList_toArray, List.cons_append, List.nil_append, Int.toNat_natCast, add_at, Nat.mul_one, Nat.add_zero, Try.results20, Fx.ag26, Fx.ag3, Fx.ag37, Fx.es22, Fx.es26, Fx.fo37_4, Fx.isl22, Fx.isl26]
      clear hM M
      refine hM1 _ _ _ ?_; clear hM1 M1
      refine ok_region rfl ?_
      try simp only [wpL, wpH, wpE, oweC, oweP, List.headD_cons, List.tail_cons, opF, opH, ev, evs, evp, evo, Env.get, Env.set, putE, gdst, bvAdd, bvSub, bvMul, bvEql, bvNeq, bvLss, bvLeq, bvGtr, bvGeq, bvSEql, bvSNeq, bvBEql, bvBNeq, thenN, inBlockN, argEnv, builtinR, retE, fin, callR, List.take_succ_cons, List.take_zero, List.drop_succ_cons, List.drop_zero, List.getElem?_cons_zero, List.getElem?_cons_succ, reduceIte, Nat.reduceEqDiff, Nat.reduceAdd, Bool.not_true, Bool.not_false, true_and, and_true, reduceCtorEq, forall_const, false_implies, true_implies, List.toList_toArray, List.cons_append, List.nil_append, Int.toNat_natCast, add_at, Nat.mul_one, Nat.add_zero, Try.results20, Fx.ag26, Fx.ag3, Fx.ag37, Fx.es22, Fx.es26, Fx.fo37_4, Fx.isl22, Fx.isl26]
      have hjl : j = ks[i].length := by omega
      refine ⟨by simp only [inI]; omega, i + 1, by simp [sub, Env.get], ⟨he4, by omega, ?_, fun i' hi' => ?_⟩, by omega⟩
      · rw [hjl, ← hki, upto_node ks i hil] at hb4
        exact hb4
      · rcases Nat.lt_or_ge i' i with h | h
        · exact hall i' h
        · have : i' = i := by omega
          subst this
          rw [List.take_of_length_le (by rw [hki]; omega)] at hallj
          exact hallj
    · try simp only [wpL, wpH, wpE, oweC, oweP, List.headD_cons, List.tail_cons, opF, opH, ev, evs, evp, evo, Env.get, Env.set, putE, gdst, bvAdd, bvSub, bvMul, bvEql, bvNeq, bvLss, bvLeq, bvGtr, bvGeq, bvSEql, bvSNeq, bvBEql, bvBNeq, thenN, inBlockN, argEnv, builtinR, retE, fin, callR, List.take_succ_cons, List.take_zero, List.drop_succ_cons, List.drop_zero, List.getElem?_cons_zero, List.getElem?_cons_succ, reduceIte, Nat.reduceEqDiff, Nat.reduceAdd, Bool.not_true, Bool.not_false, true_and, and_true, reduceCtorEq, forall_const, false_implies, true_implies, List.toList_toArray, List.cons_append, List.nil_append, Int.toNat_natCast, add_at, Nat.mul_one, Nat.add_zero, Try.results20, Fx.ag26, Fx.ag3, Fx.ag37, Fx.es22, Fx.es26, Fx.fo37_4, Fx.isl22, Fx.isl26]
      refine hM _ _ _ ?_; clear hM M
      have hjl : j < ks[i].length := by omega
      obtain ⟨bk, ok_, rfl, hkj⟩ := hk j hjl
      have hsnoc := upto_kid ks i j (by rw [hki]; exact hjl)
      have hulen := upto_length ks i j hil
      have htk : (kidsOf ks i).take (j + 1) = (kidsOf ks i).take j ++ [ks[i][j]] := by
        rw [List.take_succ_eq_append_getElem (by rw [hki]; exact hjl)]
        simp only [hki]
      have hmem : ks[i][j] ∈ kidsOf ks i := by rw [hki]; exact List.getElem_mem _
      have hgj : (kidsOf ks i)[j]'(by rw [hki]; exact hjl) = ks[i][j] := by simp only [hki]
      rw [hgj] at hsnoc
      generalize ks[i][j] = k at *
      have hbad : edgeB ks.length i k = false → formedB ks = false := fun h => by
        have : edgesB ks = false := by
          simp only [edgesB, List.all_eq_false, List.mem_range]
          exact ⟨i, hil, by simp only [Bool.not_eq_true, List.all_eq_false]; exact ⟨k, hmem, by simp [h]⟩⟩
        simp [formedB, this]
      refine ok_seq (fun M2 hM2 => ok_block ?_)
      refine ok_seq (fun M hM => ok_region rfl ?_); try simp only [wpL, wpH, wpE, oweC, oweP, List.headD_cons, List.tail_cons, opF, opH, ev, evs, evp, evo, Env.get, Env.set, putE, gdst, bvAdd, bvSub, bvMul, bvEql, bvNeq, bvLss, bvLeq, bvGtr, bvGeq, bvSEql, bvSNeq, bvBEql, bvBNeq, thenN, inBlockN, argEnv, builtinR, retE, fin, callR, List.take_succ_cons, List.take_zero, List.drop_succ_cons, List.drop_zero, List.getElem?_cons_zero, List.getElem?_cons_succ, reduceIte, Nat.reduceEqDiff, Nat.reduceAdd, Bool.not_true, Bool.not_false, true_and, and_true, reduceCtorEq, forall_const, false_implies, true_implies, List.toList_toArray, List.cons_append, List.nil_append, Int.toNat_natCast, add_at, Nat.mul_one, Nat.add_zero, Try.results20, Fx.ag26, Fx.ag3, Fx.ag37, Fx.es22, Fx.es26, Fx.fo37_4, Fx.isl22, Fx.isl26]
      refine ⟨by omega, by omega, _, he4.cell hkj, ?_⟩
      try simp only [wpL, wpH, wpE, oweC, oweP, List.headD_cons, List.tail_cons, opF, opH, ev, evs, evp, evo, Env.get, Env.set, putE, gdst, bvAdd, bvSub, bvMul, bvEql, bvNeq, bvLss, bvLeq, bvGtr, bvGeq, bvSEql, bvSNeq, bvBEql, bvBNeq, thenN, inBlockN, argEnv, builtinR, retE, fin, callR, List.take_succ_cons, List.take_zero, List.drop_succ_cons, List.drop_zero, List.getElem?_cons_zero, List.getElem?_cons_succ, reduceIte, Nat.reduceEqDiff, Nat.reduceAdd, Bool.not_true, Bool.not_false, true_and, and_true, reduceCtorEq, forall_const, false_implies, true_implies, List.toList_toArray, List.cons_append, List.nil_append, Int.toNat_natCast, add_at, Nat.mul_one, Nat.add_zero, Try.results20, Fx.ag26, Fx.ag3, Fx.ag37, Fx.es22, Fx.es26, Fx.fo37_4, Fx.isl22, Fx.isl26]
      refine hM _ _ _ ?_; clear hM M
      refine ok_seq (fun M3 hM3 => ?_)
      refine ok_seq (fun M hM => ok_region rfl ?_); try simp only [wpL, wpH, wpE, oweC, oweP, List.headD_cons, List.tail_cons, opF, opH, ev, evs, evp, evo, Env.get, Env.set, putE, gdst, bvAdd, bvSub, bvMul, bvEql, bvNeq, bvLss, bvLeq, bvGtr, bvGeq, bvSEql, bvSNeq, bvBEql, bvBNeq, thenN, inBlockN, argEnv, builtinR, retE, fin, callR, List.take_succ_cons, List.take_zero, List.drop_succ_cons, List.drop_zero, List.getElem?_cons_zero, List.getElem?_cons_succ, reduceIte, Nat.reduceEqDiff, Nat.reduceAdd, Bool.not_true, Bool.not_false, true_and, and_true, reduceCtorEq, forall_const, false_implies, true_implies, List.toList_toArray, List.cons_append, List.nil_append, Int.toNat_natCast, add_at, Nat.mul_one, Nat.add_zero, Try.results20, Fx.ag26, Fx.ag3, Fx.ag37, Fx.es22, Fx.es26, Fx.fo37_4, Fx.isl22, Fx.isl26]
      refine ⟨fun hle => ?_, fun hle => ?_⟩
      · refine hM _ _ _ ?_; clear hM M
        have hle' : ¬ k ≤ (i : Int) := of_decide_eq_false hle
        refine ok_if rfl (fun hc2 => ?_) (fun hc2 => ok_skip ?_)
        · refine ok_seq (fun M hM => ok_region rfl ?_); try simp only [wpL, wpH, wpE, oweC, oweP, List.headD_cons, List.tail_cons, opF, opH, ev, evs, evp, evo, Env.get, Env.set, putE, gdst, bvAdd, bvSub, bvMul, bvEql, bvNeq, bvLss, bvLeq, bvGtr, bvGeq, bvSEql, bvSNeq, bvBEql, bvBNeq, thenN, inBlockN, argEnv, builtinR, retE, fin, callR, List.take_succ_cons, List.take_zero, List.drop_succ_cons, List.drop_zero, List.getElem?_cons_zero, List.getElem?_cons_succ, reduceIte, Nat.reduceEqDiff, Nat.reduceAdd, Bool.not_true, Bool.not_false, true_and, and_true, reduceCtorEq, forall_const, false_implies, true_implies, List.toList_toArray, List.cons_append, List.nil_append, Int.toNat_natCast, add_at, Nat.mul_one, Nat.add_zero, Try.results20, Fx.ag26, Fx.ag3, Fx.ag37, Fx.es22, Fx.es26, Fx.fo37_4, Fx.isl22, Fx.isl26]
          refine hM _ _ _ ?_; clear hM M
          refine ok_ret ?_
          try simp only [wpL, wpH, wpE, oweC, oweP, List.headD_cons, List.tail_cons, opF, opH, ev, evs, evp, evo, Env.get, Env.set, putE, gdst, bvAdd, bvSub, bvMul, bvEql, bvNeq, bvLss, bvLeq, bvGtr, bvGeq, bvSEql, bvSNeq, bvBEql, bvBNeq, thenN, inBlockN, argEnv, builtinR, retE, fin, callR, List.take_succ_cons, List.take_zero, List.drop_succ_cons, List.drop_zero, List.getElem?_cons_zero, List.getElem?_cons_succ, reduceIte, Nat.reduceEqDiff, Nat.reduceAdd, Bool.not_true, Bool.not_false, true_and, and_true, reduceCtorEq, forall_const, false_implies, true_implies, List.toList_toArray, List.cons_append, List.nil_append, Int.toNat_natCast, add_at, Nat.mul_one, Nat.add_zero, Try.results20, Fx.ag26, Fx.ag3, Fx.ag37, Fx.es22, Fx.es26, Fx.fo37_4, Fx.isl22, Fx.isl26]
          refine ⟨?_, he4⟩
          rw [hbad (by simp [edgeB]; omega)]
        · try simp only [wpL, wpH, wpE, oweC, oweP, List.headD_cons, List.tail_cons, opF, opH, ev, evs, evp, evo, Env.get, Env.set, putE, gdst, bvAdd, bvSub, bvMul, bvEql, bvNeq, bvLss, bvLeq, bvGtr, bvGeq, bvSEql, bvSNeq, bvBEql, bvBNeq, thenN, inBlockN, argEnv, builtinR, retE, fin, callR, List.take_succ_cons, List.take_zero, List.drop_succ_cons, List.drop_zero, List.getElem?_cons_zero, List.getElem?_cons_succ, reduceIte, Nat.reduceEqDiff, Nat.reduceAdd, Bool.not_true, Bool.not_false, true_and, and_true, reduceCtorEq, forall_const, false_implies, true_implies, List.toList_toArray, List.cons_append, List.nil_append, Int.toNat_natCast, add_at, Nat.mul_one, Nat.add_zero, Try.results20, Fx.ag26, Fx.ag3, Fx.ag37, Fx.es22, Fx.es26, Fx.fo37_4, Fx.isl22, Fx.isl26]
          refine hM3 _ _ _ ?_; clear hM3 M3
          refine ok_region rfl ?_
          try simp only [wpL, wpH, wpE, oweC, oweP, List.headD_cons, List.tail_cons, opF, opH, ev, evs, evp, evo, Env.get, Env.set, putE, gdst, bvAdd, bvSub, bvMul, bvEql, bvNeq, bvLss, bvLeq, bvGtr, bvGeq, bvSEql, bvSNeq, bvBEql, bvBNeq, thenN, inBlockN, argEnv, builtinR, retE, fin, callR, List.take_succ_cons, List.take_zero, List.drop_succ_cons, List.drop_zero, List.getElem?_cons_zero, List.getElem?_cons_succ, reduceIte, Nat.reduceEqDiff, Nat.reduceAdd, Bool.not_true, Bool.not_false, true_and, and_true, reduceCtorEq, forall_const, false_implies, true_implies, List.toList_toArray, List.cons_append, List.nil_append, Int.toNat_natCast, add_at, Nat.mul_one, Nat.add_zero, Try.results20, Fx.ag26, Fx.ag3, Fx.ag37, Fx.es22, Fx.es26, Fx.fo37_4, Fx.isl22, Fx.isl26]
          have hk0 : 0 ≤ k := by omega
          have hkn : k.toNat < (counts ks.length (upto ks i j)).length := by simp; omega
          have hcg := counts_get ks.length (upto ks i j) k.toNat (by omega)
          have hkk : ((k.toNat : Nat) : Int) = k := by omega
          rw [hkk] at hcg
          have hcell := hb4.cell (j := k.toNat) (u := .int .i64 ((List.count k (upto ks i j) : Nat) : Int)) (by simp [iv, hcg])
          have hcle : List.count k (upto ks i j) ≤ (upto ks i j).length := List.count_le_length
          refine ⟨by omega, by omega, _, by simpa using hcell, ?_⟩
          try simp only [wpL, wpH, wpE, oweC, oweP, List.headD_cons, List.tail_cons, opF, opH, ev, evs, evp, evo, Env.get, Env.set, putE, gdst, bvAdd, bvSub, bvMul, bvEql, bvNeq, bvLss, bvLeq, bvGtr, bvGeq, bvSEql, bvSNeq, bvBEql, bvBNeq, thenN, inBlockN, argEnv, builtinR, retE, fin, callR, List.take_succ_cons, List.take_zero, List.drop_succ_cons, List.drop_zero, List.getElem?_cons_zero, List.getElem?_cons_succ, reduceIte, Nat.reduceEqDiff, Nat.reduceAdd, Bool.not_true, Bool.not_false, true_and, and_true, reduceCtorEq, forall_const, false_implies, true_implies, List.toList_toArray, List.cons_append, List.nil_append, Int.toNat_natCast, add_at, Nat.mul_one, Nat.add_zero, Try.results20, Fx.ag26, Fx.ag3, Fx.ag37, Fx.es22, Fx.es26, Fx.fo37_4, Fx.isl22, Fx.isl26]
          refine ⟨by simp only [inI]; omega, by omega, by omega, ?_⟩
          refine Runs.store (o := 0 + k.toNat) hb4 Fx.zi3 rfl (by simp [Value.cells, Value.oneCell']) (by simp; omega) (fun w5 hc5 hz5 hb5 => ?_)
          try simp only [wpL, wpH, wpE, oweC, oweP, List.headD_cons, List.tail_cons, opF, opH, ev, evs, evp, evo, Env.get, Env.set, putE, gdst, bvAdd, bvSub, bvMul, bvEql, bvNeq, bvLss, bvLeq, bvGtr, bvGeq, bvSEql, bvSNeq, bvBEql, bvBNeq, thenN, inBlockN, argEnv, builtinR, retE, fin, callR, List.take_succ_cons, List.take_zero, List.drop_succ_cons, List.drop_zero, List.getElem?_cons_zero, List.getElem?_cons_succ, reduceIte, Nat.reduceEqDiff, Nat.reduceAdd, Bool.not_true, Bool.not_false, true_and, and_true, reduceCtorEq, forall_const, false_implies, true_implies, List.toList_toArray, List.cons_append, List.nil_append, Int.toNat_natCast, add_at, Nat.mul_one, Nat.add_zero, Try.results20, Fx.ag26, Fx.ag3, Fx.ag37, Fx.es22, Fx.es26, Fx.fo37_4, Fx.isl22, Fx.isl26]
          refine hM2 _ _ _ ?_; clear hM2 M2
          refine ok_region rfl ?_
          try simp only [wpL, wpH, wpE, oweC, oweP, List.headD_cons, List.tail_cons, opF, opH, ev, evs, evp, evo, Env.get, Env.set, putE, gdst, bvAdd, bvSub, bvMul, bvEql, bvNeq, bvLss, bvLeq, bvGtr, bvGeq, bvSEql, bvSNeq, bvBEql, bvBNeq, thenN, inBlockN, argEnv, builtinR, retE, fin, callR, List.take_succ_cons, List.take_zero, List.drop_succ_cons, List.drop_zero, List.getElem?_cons_zero, List.getElem?_cons_succ, reduceIte, Nat.reduceEqDiff, Nat.reduceAdd, Bool.not_true, Bool.not_false, true_and, and_true, reduceCtorEq, forall_const, false_implies, true_implies, List.toList_toArray, List.cons_append, List.nil_append, Int.toNat_natCast, add_at, Nat.mul_one, Nat.add_zero, Try.results20, Fx.ag26, Fx.ag3, Fx.ag37, Fx.es22, Fx.es26, Fx.fo37_4, Fx.isl22, Fx.isl26]
          refine ⟨by simp only [inI]; omega, j + 1, by simp [sub, Env.get], ⟨he4.chg_trans hc5 (fun q hq => by subst hq; omega), by omega, ?_, ?_⟩, by omega⟩
          · rw [hsnoc, counts_snoc _ _ _ hk0 (by omega), iv_set]
            have : splice (iv (counts ks.length (upto ks i j))) (0 + k.toNat) (Value.int IntKind.i64 (((List.count k (upto ks i j) : Nat) : Int) + 1)).cells.toList = (iv (counts ks.length (upto ks i j))).set k.toNat (.int .i64 (((List.count k (upto ks i j) : Nat) : Int) + 1)) := by
              rw [Nat.zero_add]
              exact splice_one _ _ _ (by simpa using hkn)
            rw [← this]
            exact hb5
          · rw [htk, List.all_append, hallj]
            simp [edgeB]
            omega
      · try simp only [wpL, wpH, wpE, oweC, oweP, List.headD_cons, List.tail_cons, opF, opH, ev, evs, evp, evo, Env.get, Env.set, putE, gdst, bvAdd, bvSub, bvMul, bvEql, bvNeq, bvLss, bvLeq, bvGtr, bvGeq, bvSEql, bvSNeq, bvBEql, bvBNeq, thenN, inBlockN, argEnv, builtinR, retE, fin, callR, List.take_succ_cons, List.take_zero, List.drop_succ_cons, List.drop_zero, List.getElem?_cons_zero, List.getElem?_cons_succ, reduceIte, Nat.reduceEqDiff, Nat.reduceAdd, Bool.not_true, Bool.not_false, true_and, and_true, reduceCtorEq, forall_const, false_implies, true_implies, List.toList_toArray, List.cons_append, List.nil_append, Int.toNat_natCast, add_at, Nat.mul_one, Nat.add_zero, Try.results20, Fx.ag26, Fx.ag3, Fx.ag37, Fx.es22, Fx.es26, Fx.fo37_4, Fx.isl22, Fx.isl26]
        refine hM _ _ _ ?_; clear hM M
        refine ok_cond rfl (fun hc2 => ?_) (fun hc2 => by cases hc2)
        refine ok_seq (fun M hM => ok_region rfl ?_); try simp only [wpL, wpH, wpE, oweC, oweP, List.headD_cons, List.tail_cons, opF, opH, ev, evs, evp, evo, Env.get, Env.set, putE, gdst, bvAdd, bvSub, bvMul, bvEql, bvNeq, bvLss, bvLeq, bvGtr, bvGeq, bvSEql, bvSNeq, bvBEql, bvBNeq, thenN, inBlockN, argEnv, builtinR, retE, fin, callR, List.take_succ_cons, List.take_zero, List.drop_succ_cons, List.drop_zero, List.getElem?_cons_zero, List.getElem?_cons_succ, reduceIte, Nat.reduceEqDiff, Nat.reduceAdd, Bool.not_true, Bool.not_false, true_and, and_true, reduceCtorEq, forall_const, false_implies, true_implies, List.toList_toArray, List.cons_append, List.nil_append, Int.toNat_natCast, add_at, Nat.mul_one, Nat.add_zero, Try.results20, Fx.ag26, Fx.ag3, Fx.ag37, Fx.es22, Fx.es26, Fx.fo37_4, Fx.isl22, Fx.isl26]
        refine hM _ _ _ ?_; clear hM M
        refine ok_ret ?_
        try simp only [wpL, wpH, wpE, oweC, oweP, List.headD_cons, List.tail_cons, opF, opH, ev, evs, evp, evo, Env.get, Env.set, putE, gdst, bvAdd, bvSub, bvMul, bvEql, bvNeq, bvLss, bvLeq, bvGtr, bvGeq, bvSEql, bvSNeq, bvBEql, bvBNeq, thenN, inBlockN, argEnv, builtinR, retE, fin, callR, List.take_succ_cons, List.take_zero, List.drop_succ_cons, List.drop_zero, List.getElem?_cons_zero, List.getElem?_cons_succ, reduceIte, Nat.reduceEqDiff, Nat.reduceAdd, Bool.not_true, Bool.not_false, true_and, and_true, reduceCtorEq, forall_const, false_implies, true_implies, List.toList_toArray, List.cons_append, List.nil_append, Int.toNat_natCast, add_at, Nat.mul_one, Nat.add_zero, Try.results20, Fx.ag26, Fx.ag3, Fx.ag37, Fx.es22, Fx.es26, Fx.fo37_4, Fx.isl22, Fx.isl26]
        refine ⟨?_, he4⟩
        have hle' : k ≤ (i : Int) := by simpa using hle
        rw [hbad (by simp [edgeB]; omega)]
end Go.Proofs.Ytafjfcameabbmaa
