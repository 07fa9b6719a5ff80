/- Objects, Make.  -/
import Derived.Test.YtldeokfhipjbfaaDoorH14
set_option linter.unusedVariables false
set_option linter.unusedSimpArgs false
namespace Go.Proofs.YtldeokfhipjbfaaDoor
open Go Go.Proofs.Vg Go.RowKit

-- -- function 11
set_option maxHeartbeats 4000000 in
set_option maxRecDepth 8000 in
theorem objects_ok (w : World) (hb rb : Nat) (H : List Ob) (F : Nat → Prop) (hH : HeapW w hb rb H F) (hl : H.length ≤ 1073741824) : Rets Tryd.prog 11 [ptrOf hb] w (fun v w' => v = .int .i64 (H.length : Int) ∧ w' = w) := by
  obtain ⟨vs, ps, gs, hR, -⟩ := hH
  obtain ⟨A, c, hv, hlen, hcell⟩ := hR.sli hl
  have hL : (ps.map fun p => [ptrOf p]).length = H.length := by simp [hR.lenp]
  rw [hL] at hv
  subst hv
  refine rets_of_ok Tryd.func11 rfl rfl ?_
  refine ok_seq (fun M hM => ok_region rfl ?_); repeat ((try first | (refine ofX3 hX ?_; clear hX X) | (refine ofX2 hX ?_; clear hX X)); (first | refine wpL_step (fun X hX => ?_) | refine wpH_step (fun X hX => ?_) | refine wpE_step (fun X hX => ?_) | refine wpL_end ?_ | refine wpH_end ?_ | refine wpE_end ?_); try simp only [ oweC, oweP, opF, opH, ev, evs, evp, evo, Env.get, Env.set, putE, gdst, S0, S1, thenN, inBlockN, argEnv, builtinR, retE, fin, finC, retC, oneC, callR, reduceIte, Nat.reduceEqDiff, Nat.reduceAdd, reduceCtorEq, forall_const, Tryd.results11, Fx.ag56, Fx.fo59_0, Fx.isl56])
  refine hM _ _ _ ?_; clear hM M
  refine ok_join [(0, ptrOf hb)] (fun w' => w' = w) ?_ ?_
  · refine ok_seq (fun M hM => ok_region rfl ?_)
    repeat ((try first | (refine ofX3 hX ?_; clear hX X) | (refine ofX2 hX ?_; clear hX X)); (first | refine wpL_step (fun X hX => ?_) | refine wpH_step (fun X hX => ?_) | refine wpE_step (fun X hX => ?_) | refine wpL_end ?_ | refine wpH_end ?_ | refine wpE_end ?_); try simp only [ oweC, oweP, opF, opH, ev, evs, evp, evo, Env.get, Env.set, putE, gdst, S0, S1, thenN, inBlockN, argEnv, builtinR, retE, fin, finC, retC, oneC, callR, reduceIte, Nat.reduceEqDiff, Nat.reduceAdd, reduceCtorEq, forall_const, Tryd.results11, Fx.ag56, Fx.fo59_0, Fx.isl56])
    refine Runs.ptrEq Fx.un28 ?_
    repeat ((try first | (refine ofX3 hX ?_; clear hX X) | (refine ofX2 hX ?_; clear hX X)); (first | refine wpL_step (fun X hX => ?_) | refine wpH_step (fun X hX => ?_) | refine wpE_step (fun X hX => ?_) | refine wpL_end ?_ | refine wpH_end ?_ | refine wpE_end ?_); try simp only [ oweC, oweP, opF, opH, ev, evs, evp, evo, Env.get, Env.set, putE, gdst, S0, S1, thenN, inBlockN, argEnv, builtinR, retE, fin, finC, retC, oneC, callR, reduceIte, Nat.reduceEqDiff, Nat.reduceAdd, reduceCtorEq, forall_const, Tryd.results11, Fx.ag56, Fx.fo59_0, Fx.isl56])
    refine hM _ _ _ ?_; clear hM M
    refine ok_cond rfl (fun h => by cases h) (fun _ => ok_skip ?_)
    try simp only [wpL, wpH, wpE, oweC, oweP, opF, opH, ev, evs, evp, evo, Env.get, Env.set, putE, gdst, S0, S1, thenN, inBlockN, argEnv, builtinR, retE, fin, finC, retC, oneC, callR, reduceIte, Nat.reduceEqDiff, Nat.reduceAdd, reduceCtorEq, forall_const, Tryd.results11, Fx.ag56, Fx.fo59_0, Fx.isl56]
    simp [sub, Env.get]
  rintro w' rfl
  refine ok_seq (fun M hM => ok_region rfl ?_)
  repeat ((try first | (refine ofX3 hX ?_; clear hX X) | (refine ofX2 hX ?_; clear hX X)); (first | refine wpL_step (fun X hX => ?_) | refine wpH_step (fun X hX => ?_) | refine wpE_step (fun X hX => ?_) | refine wpL_end ?_ | refine wpH_end ?_ | refine wpE_end ?_); try simp only [ oweC, oweP, opF, opH, ev, evs, evp, evo, Env.get, Env.set, putE, gdst, S0, S1, thenN, inBlockN, argEnv, builtinR, retE, fin, finC, retC, oneC, callR, reduceIte, Nat.reduceEqDiff, Nat.reduceAdd, reduceCtorEq, forall_const, Tryd.results11, Fx.ag56, Fx.fo59_0, Fx.isl56])
  refine ⟨_, hR.head.cell (j := 0) rfl, ?_⟩
  repeat ((try first | (refine ofX3 hX ?_; clear hX X) | (refine ofX2 hX ?_; clear hX X)); (first | refine wpL_step (fun X hX => ?_) | refine wpH_step (fun X hX => ?_) | refine wpE_step (fun X hX => ?_) | refine wpL_end ?_ | refine wpH_end ?_ | refine wpE_end ?_); try simp only [ oweC, oweP, opF, opH, ev, evs, evp, evo, Env.get, Env.set, putE, gdst, S0, S1, thenN, inBlockN, argEnv, builtinR, retE, fin, finC, retC, oneC, callR, reduceIte, Nat.reduceEqDiff, Nat.reduceAdd, reduceCtorEq, forall_const, Tryd.results11, Fx.ag56, Fx.fo59_0, Fx.isl56])
  refine hM _ _ _ ?_; clear hM M
  refine ok_ret ?_
  try simp only [wpL, wpH, wpE, oweC, oweP, opF, opH, ev, evs, evp, evo, Env.get, Env.set, putE, gdst, S0, S1, thenN, inBlockN, argEnv, builtinR, retE, fin, finC, retC, oneC, callR, reduceIte, Nat.reduceEqDiff, Nat.reduceAdd, reduceCtorEq, forall_const, Tryd.results11, Fx.ag56, Fx.fo59_0, Fx.isl56]

def badArg (H : List Ob) (x : Wd) : Bool := !rightW H x || decide (x.k = 0) || decide (x.k = 9)
def makeE (H : List Ob) (k n : Int) (l : List Wd) : Int := if k = 4 ∨ k = 5 ∨ k = 6 ∨ k = 7 then if n < 0 ∨ (k = 7 ∧ n ≠ 0) then 5 else if l.any (badArg H) = true then 2 else 0 else 3

-- -- function 33
set_option maxHeartbeats 4000000 in
set_option maxRecDepth 8000 in
theorem make1_ok (w : World) (hb rb : Nat) (H : List Ob) (F : Nat → Prop) (hH : HeapW w hb rb H F) (hl : H.length ≤ 1073741824) (x : Wd) (B : Nat) (hB : w.cell? ⟨B, 0, none⟩ = some (ptrOf hb)) :
    Rets Tryd.prog 33 [wv x, ptrOf B] w (fun v w' => v = .bool (badArg H x) ∧ Ext w w') := by
  refine rets_of_ok Tryd.func33 rfl rfl ?_
  refine ok_seq (fun M hM => ok_region rfl ?_)
  repeat ((try first | (refine ofX3 hX ?_; clear hX X) | (refine ofX2 hX ?_; clear hX X)); (first | refine wpL_step (fun X hX => ?_) | refine wpH_step (fun X hX => ?_) | refine wpE_step (fun X hX => ?_) | refine wpL_end ?_ | refine wpH_end ?_ | refine wpE_end ?_); try simp only [ oweC, oweP, opF, opH, ev, evs, evp, evo, Env.get, Env.set, putE, gdst, S0, S1, thenN, inBlockN, argEnv, builtinR, retE, fin, finC, retC, oneC, callR, reduceIte, Nat.reduceEqDiff, Nat.reduceAdd, reduceCtorEq, forall_const, Tryd.results33, Fx.ag28, Fx.ag3, Fx.ag31, Fx.fo31_0])
  refine Runs.box (fun w1 he1 hz1 hb1 => ?_)
  generalize hB1 : w.heap.size = B1 at hz1 hb1
  simp only [Value.cells] at hb1
  repeat ((try first | (refine ofX3 hX ?_; clear hX X) | (refine ofX2 hX ?_; clear hX X)); (first | refine wpL_step (fun X hX => ?_) | refine wpH_step (fun X hX => ?_) | refine wpE_step (fun X hX => ?_) | refine wpL_end ?_ | refine wpH_end ?_ | refine wpE_end ?_); try simp only [ oweC, oweP, opF, opH, ev, evs, evp, evo, Env.get, Env.set, putE, gdst, S0, S1, thenN, inBlockN, argEnv, builtinR, retE, fin, finC, retC, oneC, callR, reduceIte, Nat.reduceEqDiff, Nat.reduceAdd, reduceCtorEq, forall_const, Tryd.results33, Fx.ag28, Fx.ag3, Fx.ag31, Fx.fo31_0])
  refine hM _ _ _ ?_; clear hM M
  refine ok_seq (fun M hM => ok_region rfl ?_)
  repeat ((try first | (refine ofX3 hX ?_; clear hX X) | (refine ofX2 hX ?_; clear hX X)); (first | refine wpL_step (fun X hX => ?_) | refine wpH_step (fun X hX => ?_) | refine wpE_step (fun X hX => ?_) | refine wpL_end ?_ | refine wpH_end ?_ | refine wpE_end ?_); try simp only [ oweC, oweP, opF, opH, ev, evs, evp, evo, Env.get, Env.set, putE, gdst, S0, S1, thenN, inBlockN, argEnv, builtinR, retE, fin, finC, retC, oneC, callR, reduceIte, Nat.reduceEqDiff, Nat.reduceAdd, reduceCtorEq, forall_const, Tryd.results33, Fx.ag28, Fx.ag3, Fx.ag31, Fx.fo31_0])
  refine ⟨_, he1.cell hB, ?_⟩
  repeat ((try first | (refine ofX3 hX ?_; clear hX X) | (refine ofX2 hX ?_; clear hX X)); (first | refine wpL_step (fun X hX => ?_) | refine wpH_step (fun X hX => ?_) | refine wpE_step (fun X hX => ?_) | refine wpL_end ?_ | refine wpH_end ?_ | refine wpE_end ?_); try simp only [ oweC, oweP, opF, opH, ev, evs, evp, evo, Env.get, Env.set, putE, gdst, S0, S1, thenN, inBlockN, argEnv, builtinR, retE, fin, finC, retC, oneC, callR, reduceIte, Nat.reduceEqDiff, Nat.reduceAdd, reduceCtorEq, forall_const, Tryd.results33, Fx.ag28, Fx.ag3, Fx.ag31, Fx.fo31_0])
  refine ⟨x.row, rfl, hb1.cells (o := 0) (fun j u hj => by simpa using hj), ?_⟩
  repeat ((try first | (refine ofX3 hX ?_; clear hX X) | (refine ofX2 hX ?_; clear hX X)); (first | refine wpL_step (fun X hX => ?_) | refine wpH_step (fun X hX => ?_) | refine wpE_step (fun X hX => ?_) | refine wpL_end ?_ | refine wpH_end ?_ | refine wpE_end ?_); try simp only [ oweC, oweP, opF, opH, ev, evs, evp, evo, Env.get, Env.set, putE, gdst, S0, S1, thenN, inBlockN, argEnv, builtinR, retE, fin, finC, retC, oneC, callR, reduceIte, Nat.reduceEqDiff, Nat.reduceAdd, reduceCtorEq, forall_const, Tryd.results33, Fx.ag28, Fx.ag3, Fx.ag31, Fx.fo31_0])
  refine Inv.call Fx.en13 (right_ok w1 hb rb H F (hH.ext he1) hl x) ?_
  rintro v w2 ⟨rfl, he2⟩
  repeat ((try first | (refine ofX3 hX ?_; clear hX X) | (refine ofX2 hX ?_; clear hX X)); (first | refine wpL_step (fun X hX => ?_) | refine wpH_step (fun X hX => ?_) | refine wpE_step (fun X hX => ?_) | refine wpL_end ?_ | refine wpH_end ?_ | refine wpE_end ?_); try simp only [ oweC, oweP, opF, opH, ev, evs, evp, evo, Env.get, Env.set, putE, gdst, S0, S1, thenN, inBlockN, argEnv, builtinR, retE, fin, finC, retC, oneC, callR, reduceIte, Nat.reduceEqDiff, Nat.reduceAdd, reduceCtorEq, forall_const, Tryd.results33, Fx.ag28, Fx.ag3, Fx.ag31, Fx.fo31_0])
  have hk0 : w2.cell? ⟨B1, 0, none⟩ = some (.int .i64 x.k) := (hb1.ext he2).cell rfl
  refine ⟨fun h => ?_, fun h => ?_⟩
  rotate_left
  · have hr : rightW H x = false := by simpa using h
    repeat ((try first | (refine ofX3 hX ?_; clear hX X) | (refine ofX2 hX ?_; clear hX X)); (first | refine wpL_step (fun X hX => ?_) | refine wpH_step (fun X hX => ?_) | refine wpE_step (fun X hX => ?_) | refine wpL_end ?_ | refine wpH_end ?_ | refine wpE_end ?_); try simp only [ oweC, oweP, opF, opH, ev, evs, evp, evo, Env.get, Env.set, putE, gdst, S0, S1, thenN, inBlockN, argEnv, builtinR, retE, fin, finC, retC, oneC, callR, reduceIte, Nat.reduceEqDiff, Nat.reduceAdd, reduceCtorEq, forall_const, Tryd.results33, Fx.ag28, Fx.ag3, Fx.ag31, Fx.fo31_0])
    refine hM _ _ _ ?_; clear hM M
    refine ok_ret ?_
    try simp only [wpL, wpH, wpE, oweC, oweP, opF, opH, ev, evs, evp, evo, Env.get, Env.set, putE, gdst, S0, S1, thenN, inBlockN, argEnv, builtinR, retE, fin, finC, retC, oneC, callR, reduceIte, Nat.reduceEqDiff, Nat.reduceAdd, reduceCtorEq, forall_const, Tryd.results33, Fx.ag28, Fx.ag3, Fx.ag31, Fx.fo31_0]
    exact ⟨by simp [badArg, hr], he1.trans he2⟩
  · have hr : rightW H x = true := by simpa using h
    repeat ((try first | (refine ofX3 hX ?_; clear hX X) | (refine ofX2 hX ?_; clear hX X)); (first | refine wpL_step (fun X hX => ?_) | refine wpH_step (fun X hX => ?_) | refine wpE_step (fun X hX => ?_) | refine wpL_end ?_ | refine wpH_end ?_ | refine wpE_end ?_); try simp only [ oweC, oweP, opF, opH, ev, evs, evp, evo, Env.get, Env.set, putE, gdst, S0, S1, thenN, inBlockN, argEnv, builtinR, retE, fin, finC, retC, oneC, callR, reduceIte, Nat.reduceEqDiff, Nat.reduceAdd, reduceCtorEq, forall_const, Tryd.results33, Fx.ag28, Fx.ag3, Fx.ag31, Fx.fo31_0])
    refine ⟨_, hk0, ?_⟩
    simp only [hr, Bool.not_true]
    repeat ((try first | (refine ofX3 hX ?_; clear hX X) | (refine ofX2 hX ?_; clear hX X)); (first | refine wpL_step (fun X hX => ?_) | refine wpH_step (fun X hX => ?_) | refine wpE_step (fun X hX => ?_) | refine wpL_end ?_ | refine wpH_end ?_ | refine wpE_end ?_); try simp only [ oweC, oweP, opF, opH, ev, evs, evp, evo, Env.get, Env.set, putE, gdst, S0, S1, thenN, inBlockN, argEnv, builtinR, retE, fin, finC, retC, oneC, callR, reduceIte, Nat.reduceEqDiff, Nat.reduceAdd, reduceCtorEq, forall_const, Tryd.results33, Fx.ag28, Fx.ag3, Fx.ag31, Fx.fo31_0])
    refine ⟨fun h => ?_, fun h => ?_⟩
    · have h0 : ¬ x.k = 0 := by simpa using h
      repeat ((try first | (refine ofX3 hX ?_; clear hX X) | (refine ofX2 hX ?_; clear hX X)); (first | refine wpL_step (fun X hX => ?_) | refine wpH_step (fun X hX => ?_) | refine wpE_step (fun X hX => ?_) | refine wpL_end ?_ | refine wpH_end ?_ | refine wpE_end ?_); try simp only [ oweC, oweP, opF, opH, ev, evs, evp, evo, Env.get, Env.set, putE, gdst, S0, S1, thenN, inBlockN, argEnv, builtinR, retE, fin, finC, retC, oneC, callR, reduceIte, Nat.reduceEqDiff, Nat.reduceAdd, reduceCtorEq, forall_const, Tryd.results33, Fx.ag28, Fx.ag3, Fx.ag31, Fx.fo31_0])
      refine ⟨_, hk0, ?_⟩
      simp only [h0, decide_false]
      repeat ((try first | (refine ofX3 hX ?_; clear hX X) | (refine ofX2 hX ?_; clear hX X)); (first | refine wpL_step (fun X hX => ?_) | refine wpH_step (fun X hX => ?_) | refine wpE_step (fun X hX => ?_) | refine wpL_end ?_ | refine wpH_end ?_ | refine wpE_end ?_); try simp only [ oweC, oweP, opF, opH, ev, evs, evp, evo, Env.get, Env.set, putE, gdst, S0, S1, thenN, inBlockN, argEnv, builtinR, retE, fin, finC, retC, oneC, callR, reduceIte, Nat.reduceEqDiff, Nat.reduceAdd, reduceCtorEq, forall_const, Tryd.results33, Fx.ag28, Fx.ag3, Fx.ag31, Fx.fo31_0])
      refine hM _ _ _ ?_; clear hM M
      refine ok_ret ?_
      try simp only [wpL, wpH, wpE, oweC, oweP, opF, opH, ev, evs, evp, evo, Env.get, Env.set, putE, gdst, S0, S1, thenN, inBlockN, argEnv, builtinR, retE, fin, finC, retC, oneC, callR, reduceIte, Nat.reduceEqDiff, Nat.reduceAdd, reduceCtorEq, forall_const, Tryd.results33, Fx.ag28, Fx.ag3, Fx.ag31, Fx.fo31_0]
      exact ⟨by simp [badArg, hr, h0], he1.trans he2⟩
    · have h0 : x.k = 0 := by simpa using h
      repeat ((try first | (refine ofX3 hX ?_; clear hX X) | (refine ofX2 hX ?_; clear hX X)); (first | refine wpL_step (fun X hX => ?_) | refine wpH_step (fun X hX => ?_) | refine wpE_step (fun X hX => ?_) | refine wpL_end ?_ | refine wpH_end ?_ | refine wpE_end ?_); try simp only [ oweC, oweP, opF, opH, ev, evs, evp, evo, Env.get, Env.set, putE, gdst, S0, S1, thenN, inBlockN, argEnv, builtinR, retE, fin, finC, retC, oneC, callR, reduceIte, Nat.reduceEqDiff, Nat.reduceAdd, reduceCtorEq, forall_const, Tryd.results33, Fx.ag28, Fx.ag3, Fx.ag31, Fx.fo31_0])
      refine hM _ _ _ ?_; clear hM M
      refine ok_ret ?_
      try simp only [wpL, wpH, wpE, oweC, oweP, opF, opH, ev, evs, evp, evo, Env.get, Env.set, putE, gdst, S0, S1, thenN, inBlockN, argEnv, builtinR, retE, fin, finC, retC, oneC, callR, reduceIte, Nat.reduceEqDiff, Nat.reduceAdd, reduceCtorEq, forall_const, Tryd.results33, Fx.ag28, Fx.ag3, Fx.ag31, Fx.fo31_0]
      exact ⟨by simp [badArg, hr, h0], he1.trans he2⟩

-- -- function 14
set_option maxHeartbeats 4000000 in
set_option maxRecDepth 8000 in
theorem Make_ok (w : World) (hb rb : Nat) (H : List Ob) (F : Nat → Prop) (hH : HeapW w hb rb H F) (hF : ∀ k, F k → k < w.heap.size) (hl : H.length ≤ 1048576) (k n : Int) (av : Value) (l : List Wd) (hav : SlW w av l) (hll : l.length ≤ 1073741824) :
    Rets Tryd.prog 14 [ptrOf hb, .int .i64 k, .int .i64 n, av] w (fun v w' => v = .tuple #[wv (if makeE H k n l = 0 then (mkW H k n l).2 else ⟨0, 0, 0⟩), .int .i64 (makeE H k n l)] ∧ Grown w w' hb rb (if makeE H k n l = 0 then (mkW H k n l).1 else H) F) := by
  obtain ⟨A, c, rfl, hlen, hcell⟩ := id hav
  rw [wd_len] at hav hlen ⊢
  have zero : ∀ (w1 w2 : World) (B2 : Nat) (e : Int), makeE H k n l = e → e ≠ 0 → Ext w w1 → w.heap.size ≤ B2 → Chg (· = B2) w1 w2 → Blk w2 B2 [.int .i64 0, .int .i64 0, .int .i64 0] 31 →
      ∃ cs, cs.length = 3 ∧ cellsAt w2 ⟨B2, 0, none⟩ cs ∧ Value.tuple #[.agg cs.toArray, .int .i64 e] = .tuple #[wv (if makeE H k n l = 0 then (mkW H k n l).2 else ⟨0, 0, 0⟩), .int .i64 (makeE H k n l)] ∧ Grown w w2 hb rb (if makeE H k n l = 0 then (mkW H k n l).1 else H) F := by
    intro w1 w2 B2 e he hne he1 hB hc hb
    have h0 : ¬ makeE H k n l = 0 := by rw [he]; exact hne
    rw [if_neg h0, if_neg h0, he]
    exact ⟨_, rfl, hb.cells (o := 0) (row := Wd.row ⟨0, 0, 0⟩) (fun j u hj => by simpa [Wd.row] using hj), rfl, Grown.ext hH (he1.chg_trans hc (fun k hk => by omega))⟩
  refine rets_of_okC Tryd.func14 rfl rfl ?_
  refine ok_seq (fun M hM => ok_region rfl ?_)
  repeat ((try first | (refine ofX3 hX ?_; clear hX X) | (refine ofX2 hX ?_; clear hX X)); (first | refine wpL_step (fun X hX => ?_) | refine wpH_step (fun X hX => ?_) | refine wpE_step (fun X hX => ?_) | refine wpL_end ?_ | refine wpH_end ?_ | refine wpE_end ?_); try simp only [ oweC, oweP, opF, opH, ev, evs, evp, evo, Env.get, Env.set, putE, gdst, S0, S1, thenN, inBlockN, argEnv, builtinR, retE, fin, finC, retC, oneC, callR, reduceIte, Nat.reduceEqDiff, Nat.reduceAdd, reduceCtorEq, forall_const, Tryd.results14, Fx.ag28])
  refine Runs.box (fun w1 he1 hz1 hb1 => ?_)
  generalize hB1 : w.heap.size = B1 at hz1 hb1
  simp only [Value.cells] at hb1
  repeat ((try first | (refine ofX3 hX ?_; clear hX X) | (refine ofX2 hX ?_; clear hX X)); (first | refine wpL_step (fun X hX => ?_) | refine wpH_step (fun X hX => ?_) | refine wpE_step (fun X hX => ?_) | refine wpL_end ?_ | refine wpH_end ?_ | refine wpE_end ?_); try simp only [ oweC, oweP, opF, opH, ev, evs, evp, evo, Env.get, Env.set, putE, gdst, S0, S1, thenN, inBlockN, argEnv, builtinR, retE, fin, finC, retC, oneC, callR, reduceIte, Nat.reduceEqDiff, Nat.reduceAdd, reduceCtorEq, forall_const, Tryd.results14, Fx.ag28])
  refine Runs.alloc Fx.zi31 (fun w2 he2 hz2 hb2 => ?_)
  generalize hB2 : w1.heap.size = B2 at hz2 hb2
  simp only [Value.cells] at hb2
  repeat ((try first | (refine ofX3 hX ?_; clear hX X) | (refine ofX2 hX ?_; clear hX X)); (first | refine wpL_step (fun X hX => ?_) | refine wpH_step (fun X hX => ?_) | refine wpE_step (fun X hX => ?_) | refine wpL_end ?_ | refine wpH_end ?_ | refine wpE_end ?_); try simp only [ oweC, oweP, opF, opH, ev, evs, evp, evo, Env.get, Env.set, putE, gdst, S0, S1, thenN, inBlockN, argEnv, builtinR, retE, fin, finC, retC, oneC, callR, reduceIte, Nat.reduceEqDiff, Nat.reduceAdd, reduceCtorEq, forall_const, Tryd.results14, Fx.ag28])
  refine hM _ _ _ ?_; clear hM M
  have hb12 := hb1.ext he2
  have he02 := he1.trans he2
  refine ok_join [(1, .int .i64 k), (2, .int .i64 n), (3, .slice A l.length c), (4, ptrOf B1), (8, ptrOf B2)] (fun w' => w' = w2 ∧ (k = 4 ∨ k = 5 ∨ k = 6 ∨ k = 7) ∧ ¬ (n < 0 ∨ (k = 7 ∧ n ≠ 0))) ?_ ?_
  · refine ok_block ?_
    refine ok_seq (fun M hM => ok_region rfl ?_)
    repeat ((try first | (refine ofX3 hX ?_; clear hX X) | (refine ofX2 hX ?_; clear hX X)); (first | refine wpL_step (fun X hX => ?_) | refine wpH_step (fun X hX => ?_) | refine wpE_step (fun X hX => ?_) | refine wpL_end ?_ | refine wpH_end ?_ | refine wpE_end ?_); try simp only [ oweC, oweP, opF, opH, ev, evs, evp, evo, Env.get, Env.set, putE, gdst, S0, S1, thenN, inBlockN, argEnv, builtinR, retE, fin, finC, retC, oneC, callR, reduceIte, Nat.reduceEqDiff, Nat.reduceAdd, reduceCtorEq, forall_const, Tryd.results14, Fx.ag28])
    refine ⟨_, hb12.cell (j := 0) rfl, ?_⟩
    repeat ((try first | (refine ofX3 hX ?_; clear hX X) | (refine ofX2 hX ?_; clear hX X)); (first | refine wpL_step (fun X hX => ?_) | refine wpH_step (fun X hX => ?_) | refine wpE_step (fun X hX => ?_) | refine wpL_end ?_ | refine wpH_end ?_ | refine wpE_end ?_); try simp only [ oweC, oweP, opF, opH, ev, evs, evp, evo, Env.get, Env.set, putE, gdst, S0, S1, thenN, inBlockN, argEnv, builtinR, retE, fin, finC, retC, oneC, callR, reduceIte, Nat.reduceEqDiff, Nat.reduceAdd, reduceCtorEq, forall_const, Tryd.results14, Fx.ag28])
    refine Runs.ptrEq Fx.un28 ?_
    repeat ((try first | (refine ofX3 hX ?_; clear hX X) | (refine ofX2 hX ?_; clear hX X)); (first | refine wpL_step (fun X hX => ?_) | refine wpH_step (fun X hX => ?_) | refine wpE_step (fun X hX => ?_) | refine wpL_end ?_ | refine wpH_end ?_ | refine wpE_end ?_); try simp only [ oweC, oweP, opF, opH, ev, evs, evp, evo, Env.get, Env.set, putE, gdst, S0, S1, thenN, inBlockN, argEnv, builtinR, retE, fin, finC, retC, oneC, callR, reduceIte, Nat.reduceEqDiff, Nat.reduceAdd, reduceCtorEq, forall_const, Tryd.results14, Fx.ag28])
    refine hM _ _ _ ?_; clear hM M
    refine ok_cond rfl (fun h => by cases h) (fun _ => ?_)
    refine ok_join [(1, .int .i64 k), (2, .int .i64 n), (3, .slice A l.length c), (4, ptrOf B1), (8, ptrOf B2), (14, .bool (!decide (k = 4 ∨ k = 5 ∨ k = 6 ∨ k = 7)))] (fun w' => w' = w2) ?_ ?_
    · refine ok_region rfl ?_
      repeat ((try first | (refine ofX3 hX ?_; clear hX X) | (refine ofX2 hX ?_; clear hX X)); (first | refine wpL_step (fun X hX => ?_) | refine wpH_step (fun X hX => ?_) | refine wpE_step (fun X hX => ?_) | refine wpL_end ?_ | refine wpH_end ?_ | refine wpE_end ?_); try simp only [ oweC, oweP, opF, opH, ev, evs, evp, evo, Env.get, Env.set, putE, gdst, S0, S1, thenN, inBlockN, argEnv, builtinR, retE, fin, finC, retC, oneC, callR, reduceIte, Nat.reduceEqDiff, Nat.reduceAdd, reduceCtorEq, forall_const, Tryd.results14, Fx.ag28])
      refine ⟨fun h => ?_, fun h => ?_⟩
      · have h4 : ¬ k = 4 := by simpa using h
        repeat ((try first | (refine ofX3 hX ?_; clear hX X) | (refine ofX2 hX ?_; clear hX X)); (first | refine wpL_step (fun X hX => ?_) | refine wpH_step (fun X hX => ?_) | refine wpE_step (fun X hX => ?_) | refine wpL_end ?_ | refine wpH_end ?_ | refine wpE_end ?_); try simp only [ oweC, oweP, opF, opH, ev, evs, evp, evo, Env.get, Env.set, putE, gdst, S0, S1, thenN, inBlockN, argEnv, builtinR, retE, fin, finC, retC, oneC, callR, reduceIte, Nat.reduceEqDiff, Nat.reduceAdd, reduceCtorEq, forall_const, Tryd.results14, Fx.ag28])
        refine ⟨fun h => ?_, fun h => ?_⟩
        · have h5 : ¬ k = 5 := by simpa using h
          repeat ((try first | (refine ofX3 hX ?_; clear hX X) | (refine ofX2 hX ?_; clear hX X)); (first | refine wpL_step (fun X hX => ?_) | refine wpH_step (fun X hX => ?_) | refine wpE_step (fun X hX => ?_) | refine wpL_end ?_ | refine wpH_end ?_ | refine wpE_end ?_); try simp only [ oweC, oweP, opF, opH, ev, evs, evp, evo, Env.get, Env.set, putE, gdst, S0, S1, thenN, inBlockN, argEnv, builtinR, retE, fin, finC, retC, oneC, callR, reduceIte, Nat.reduceEqDiff, Nat.reduceAdd, reduceCtorEq, forall_const, Tryd.results14, Fx.ag28])
          refine ⟨fun h => ?_, fun h => ?_⟩
          · have h6 : ¬ k = 6 := by simpa using h
            repeat ((try first | (refine ofX3 hX ?_; clear hX X) | (refine ofX2 hX ?_; clear hX X)); (first | refine wpL_step (fun X hX => ?_) | refine wpH_step (fun X hX => ?_) | refine wpE_step (fun X hX => ?_) | refine wpL_end ?_ | refine wpH_end ?_ | refine wpE_end ?_); try simp only [ oweC, oweP, opF, opH, ev, evs, evp, evo, Env.get, Env.set, putE, gdst, S0, S1, thenN, inBlockN, argEnv, builtinR, retE, fin, finC, retC, oneC, callR, reduceIte, Nat.reduceEqDiff, Nat.reduceAdd, reduceCtorEq, forall_const, Tryd.results14, Fx.ag28])
            simp [sub, Env.get, h4, h5, h6]
          · have h6 : k = 6 := by simpa using h
            repeat ((try first | (refine ofX3 hX ?_; clear hX X) | (refine ofX2 hX ?_; clear hX X)); (first | refine wpL_step (fun X hX => ?_) | refine wpH_step (fun X hX => ?_) | refine wpE_step (fun X hX => ?_) | refine wpL_end ?_ | refine wpH_end ?_ | refine wpE_end ?_); try simp only [ oweC, oweP, opF, opH, ev, evs, evp, evo, Env.get, Env.set, putE, gdst, S0, S1, thenN, inBlockN, argEnv, builtinR, retE, fin, finC, retC, oneC, callR, reduceIte, Nat.reduceEqDiff, Nat.reduceAdd, reduceCtorEq, forall_const, Tryd.results14, Fx.ag28])
            simp [sub, Env.get, h6]
        · have h5 : k = 5 := by simpa using h
          repeat ((try first | (refine ofX3 hX ?_; clear hX X) | (refine ofX2 hX ?_; clear hX X)); (first | refine wpL_step (fun X hX => ?_) | refine wpH_step (fun X hX => ?_) | refine wpE_step (fun X hX => ?_) | refine wpL_end ?_ | refine wpH_end ?_ | refine wpE_end ?_); try simp only [ oweC, oweP, opF, opH, ev, evs, evp, evo, Env.get, Env.set, putE, gdst, S0, S1, thenN, inBlockN, argEnv, builtinR, retE, fin, finC, retC, oneC, callR, reduceIte, Nat.reduceEqDiff, Nat.reduceAdd, reduceCtorEq, forall_const, Tryd.results14, Fx.ag28])
          simp [sub, Env.get, h5]
      · have h4 : k = 4 := by simpa using h
        repeat ((try first | (refine ofX3 hX ?_; clear hX X) | (refine ofX2 hX ?_; clear hX X)); (first | refine wpL_step (fun X hX => ?_) | refine wpH_step (fun X hX => ?_) | refine wpE_step (fun X hX => ?_) | refine wpL_end ?_ | refine wpH_end ?_ | refine wpE_end ?_); try simp only [ oweC, oweP, opF, opH, ev, evs, evp, evo, Env.get, Env.set, putE, gdst, S0, S1, thenN, inBlockN, argEnv, builtinR, retE, fin, finC, retC, oneC, callR, reduceIte, Nat.reduceEqDiff, Nat.reduceAdd, reduceCtorEq, forall_const, Tryd.results14, Fx.ag28])
        simp [sub, Env.get, h4]
    rintro w' rfl
    refine ok_ifn rfl (fun hk => ?_) (fun hk => ?_)
    · refine ok_seq (fun M hM => ok_region rfl ?_)
      repeat ((try first | (refine ofX3 hX ?_; clear hX X) | (refine ofX2 hX ?_; clear hX X)); (first | refine wpL_step (fun X hX => ?_) | refine wpH_step (fun X hX => ?_) | refine wpE_step (fun X hX => ?_) | refine wpL_end ?_ | refine wpH_end ?_ | refine wpE_end ?_); try simp only [ oweC, oweP, opF, opH, ev, evs, evp, evo, Env.get, Env.set, putE, gdst, S0, S1, thenN, inBlockN, argEnv, builtinR, retE, fin, finC, retC, oneC, callR, reduceIte, Nat.reduceEqDiff, Nat.reduceAdd, reduceCtorEq, forall_const, Tryd.results14, Fx.ag28])
      refine ⟨_, w', run_build (P := Tryd.prog) w' 31 _ #[.int .i64 0, .int .i64 0, .int .i64 0] (by kernel_rfl), ?_⟩
      repeat ((try first | (refine ofX3 hX ?_; clear hX X) | (refine ofX2 hX ?_; clear hX X)); (first | refine wpL_step (fun X hX => ?_) | refine wpH_step (fun X hX => ?_) | refine wpE_step (fun X hX => ?_) | refine wpL_end ?_ | refine wpH_end ?_ | refine wpE_end ?_); try simp only [ oweC, oweP, opF, opH, ev, evs, evp, evo, Env.get, Env.set, putE, gdst, S0, S1, thenN, inBlockN, argEnv, builtinR, retE, fin, finC, retC, oneC, callR, reduceIte, Nat.reduceEqDiff, Nat.reduceAdd, reduceCtorEq, forall_const, Tryd.results14, Fx.ag28])
      refine Runs.store hb2 Fx.zi31 rfl (by intro u hu; simp [Value.cells] at hu; subst hu; rfl) (by simp) (fun w5 hc5 hs5 hb5 => ?_)
      rw [splice_all _ _ (by simp [Value.cells])] at hb5
      simp only [Value.cells] at hb5
      repeat ((try first | (refine ofX3 hX ?_; clear hX X) | (refine ofX2 hX ?_; clear hX X)); (first | refine wpL_step (fun X hX => ?_) | refine wpH_step (fun X hX => ?_) | refine wpE_step (fun X hX => ?_) | refine wpL_end ?_ | refine wpH_end ?_ | refine wpE_end ?_); try simp only [ oweC, oweP, opF, opH, ev, evs, evp, evo, Env.get, Env.set, putE, gdst, S0, S1, thenN, inBlockN, argEnv, builtinR, retE, fin, finC, retC, oneC, callR, reduceIte, Nat.reduceEqDiff, Nat.reduceAdd, reduceCtorEq, forall_const, Tryd.results14, Fx.ag28])
      refine hM _ _ _ ?_; clear hM M
      refine ok_ret ?_
      try simp only [wpL, wpH, wpE, oweC, oweP, opF, opH, ev, evs, evp, evo, Env.get, Env.set, putE, gdst, S0, S1, thenN, inBlockN, argEnv, builtinR, retE, fin, finC, retC, oneC, callR, reduceIte, Nat.reduceEqDiff, Nat.reduceAdd, reduceCtorEq, forall_const, Tryd.results14, Fx.ag28]
      exact zero w' w5 B2 3 (by simp [makeE, hk]) (by decide) he02 (by omega) hc5 hb5
    · refine ok_join [(1, .int .i64 k), (2, .int .i64 n), (3, .slice A l.length c), (4, ptrOf B1), (8, ptrOf B2), (30, .bool (decide (n < 0 ∨ (k = 7 ∧ n ≠ 0))))] (fun w2 => w2 = w') ?_ ?_
      · refine ok_region rfl ?_
        repeat ((try first | (refine ofX3 hX ?_; clear hX X) | (refine ofX2 hX ?_; clear hX X)); (first | refine wpL_step (fun X hX => ?_) | refine wpH_step (fun X hX => ?_) | refine wpE_step (fun X hX => ?_) | refine wpL_end ?_ | refine wpH_end ?_ | refine wpE_end ?_); try simp only [ oweC, oweP, opF, opH, ev, evs, evp, evo, Env.get, Env.set, putE, gdst, S0, S1, thenN, inBlockN, argEnv, builtinR, retE, fin, finC, retC, oneC, callR, reduceIte, Nat.reduceEqDiff, Nat.reduceAdd, reduceCtorEq, forall_const, Tryd.results14, Fx.ag28])
        refine ⟨fun h => ?_, fun h => ?_⟩
        · have hn : ¬ n < 0 := by simpa using h
          repeat ((try first | (refine ofX3 hX ?_; clear hX X) | (refine ofX2 hX ?_; clear hX X)); (first | refine wpL_step (fun X hX => ?_) | refine wpH_step (fun X hX => ?_) | refine wpE_step (fun X hX => ?_) | refine wpL_end ?_ | refine wpH_end ?_ | refine wpE_end ?_); try simp only [ oweC, oweP, opF, opH, ev, evs, evp, evo, Env.get, Env.set, putE, gdst, S0, S1, thenN, inBlockN, argEnv, builtinR, retE, fin, finC, retC, oneC, callR, reduceIte, Nat.reduceEqDiff, Nat.reduceAdd, reduceCtorEq, forall_const, Tryd.results14, Fx.ag28])
          refine ⟨fun h => ?_, fun h => ?_⟩
          · have h7 : k = 7 := by simpa using h
            simp only [hn, decide_false]
            repeat ((try first | (refine ofX3 hX ?_; clear hX X) | (refine ofX2 hX ?_; clear hX X)); (first | refine wpL_step (fun X hX => ?_) | refine wpH_step (fun X hX => ?_) | refine wpE_step (fun X hX => ?_) | refine wpL_end ?_ | refine wpH_end ?_ | refine wpE_end ?_); try simp only [ oweC, oweP, opF, opH, ev, evs, evp, evo, Env.get, Env.set, putE, gdst, S0, S1, thenN, inBlockN, argEnv, builtinR, retE, fin, finC, retC, oneC, callR, reduceIte, Nat.reduceEqDiff, Nat.reduceAdd, reduceCtorEq, forall_const, Tryd.results14, Fx.ag28])
            by_cases hn0 : n = 0 <;> simp [sub, Env.get, hn, h7, hn0]
          · have h7 : ¬ k = 7 := by simpa using h
            simp only [hn, decide_false]
            repeat ((try first | (refine ofX3 hX ?_; clear hX X) | (refine ofX2 hX ?_; clear hX X)); (first | refine wpL_step (fun X hX => ?_) | refine wpH_step (fun X hX => ?_) | refine wpE_step (fun X hX => ?_) | refine wpL_end ?_ | refine wpH_end ?_ | refine wpE_end ?_); try simp only [ oweC, oweP, opF, opH, ev, evs, evp, evo, Env.get, Env.set, putE, gdst, S0, S1, thenN, inBlockN, argEnv, builtinR, retE, fin, finC, retC, oneC, callR, reduceIte, Nat.reduceEqDiff, Nat.reduceAdd, reduceCtorEq, forall_const, Tryd.results14, Fx.ag28])
            simp [sub, Env.get, hn, h7]
        · have hn : n < 0 := by simpa using h
          repeat ((try first | (refine ofX3 hX ?_; clear hX X) | (refine ofX2 hX ?_; clear hX X)); (first | refine wpL_step (fun X hX => ?_) | refine wpH_step (fun X hX => ?_) | refine wpE_step (fun X hX => ?_) | refine wpL_end ?_ | refine wpH_end ?_ | refine wpE_end ?_); try simp only [ oweC, oweP, opF, opH, ev, evs, evp, evo, Env.get, Env.set, putE, gdst, S0, S1, thenN, inBlockN, argEnv, builtinR, retE, fin, finC, retC, oneC, callR, reduceIte, Nat.reduceEqDiff, Nat.reduceAdd, reduceCtorEq, forall_const, Tryd.results14, Fx.ag28])
          simp [sub, Env.get, hn]
      rintro w'' rfl
      refine ok_if rfl (fun hn => ?_) (fun hn => ok_skip ?_)
      · refine ok_seq (fun M hM => ok_region rfl ?_)
        repeat ((try first | (refine ofX3 hX ?_; clear hX X) | (refine ofX2 hX ?_; clear hX X)); (first | refine wpL_step (fun X hX => ?_) | refine wpH_step (fun X hX => ?_) | refine wpE_step (fun X hX => ?_) | refine wpL_end ?_ | refine wpH_end ?_ | refine wpE_end ?_); try simp only [ oweC, oweP, opF, opH, ev, evs, evp, evo, Env.get, Env.set, putE, gdst, S0, S1, thenN, inBlockN, argEnv, builtinR, retE, fin, finC, retC, oneC, callR, reduceIte, Nat.reduceEqDiff, Nat.reduceAdd, reduceCtorEq, forall_const, Tryd.results14, Fx.ag28])
        refine ⟨_, w'', run_build (P := Tryd.prog) w'' 31 _ #[.int .i64 0, .int .i64 0, .int .i64 0] (by kernel_rfl), ?_⟩
        repeat ((try first | (refine ofX3 hX ?_; clear hX X) | (refine ofX2 hX ?_; clear hX X)); (first | refine wpL_step (fun X hX => ?_) | refine wpH_step (fun X hX => ?_) | refine wpE_step (fun X hX => ?_) | refine wpL_end ?_ | refine wpH_end ?_ | refine wpE_end ?_); try simp only [ oweC, oweP, opF, opH, ev, evs, evp, evo, Env.get, Env.set, putE, gdst, S0, S1, thenN, inBlockN, argEnv, builtinR, retE, fin, finC, retC, oneC, callR, reduceIte, Nat.reduceEqDiff, Nat.reduceAdd, reduceCtorEq, forall_const, Tryd.results14, Fx.ag28])
        refine Runs.store hb2 Fx.zi31 rfl (by intro u hu; simp [Value.cells] at hu; subst hu; rfl) (by simp) (fun w5 hc5 hs5 hb5 => ?_)
        rw [splice_all _ _ (by simp [Value.cells])] at hb5
        simp only [Value.cells] at hb5
        repeat ((try first | (refine ofX3 hX ?_; clear hX X) | (refine ofX2 hX ?_; clear hX X)); (first | refine wpL_step (fun X hX => ?_) | refine wpH_step (fun X hX => ?_) | refine wpE_step (fun X hX => ?_) | refine wpL_end ?_ | refine wpH_end ?_ | refine wpE_end ?_); try simp only [ oweC, oweP, opF, opH, ev, evs, evp, evo, Env.get, Env.set, putE, gdst, S0, S1, thenN, inBlockN, argEnv, builtinR, retE, fin, finC, retC, oneC, callR, reduceIte, Nat.reduceEqDiff, Nat.reduceAdd, reduceCtorEq, forall_const, Tryd.results14, Fx.ag28])
        refine hM _ _ _ ?_; clear hM M
        refine ok_ret ?_
        try simp only [wpL, wpH, wpE, oweC, oweP, opF, opH, ev, evs, evp, evo, Env.get, Env.set, putE, gdst, S0, S1, thenN, inBlockN, argEnv, builtinR, retE, fin, finC, retC, oneC, callR, reduceIte, Nat.reduceEqDiff, Nat.reduceAdd, reduceCtorEq, forall_const, Tryd.results14, Fx.ag28]
        exact zero w'' w5 B2 5 (by simp only [makeE]; rw [if_pos hk, if_pos hn]) (by decide) he02 (by omega) hc5 hb5
      · try simp only [wpL, wpH, wpE, oweC, oweP, opF, opH, ev, evs, evp, evo, Env.get, Env.set, putE, gdst, S0, S1, thenN, inBlockN, argEnv, builtinR, retE, fin, finC, retC, oneC, callR, reduceIte, Nat.reduceEqDiff, Nat.reduceAdd, reduceCtorEq, forall_const, Tryd.results14, Fx.ag28]
        exact ⟨by simp [sub, Env.get], hk, hn⟩
  rintro w' ⟨rfl, hk, hn⟩
  refine ok_join [(1, .int .i64 k), (2, .int .i64 n), (3, .slice A l.length c), (4, ptrOf B1), (8, ptrOf B2)] (fun w3 => Ext w' w3 ∧ makeE H k n l = 0) ?_ ?_
  · refine ok_seq (fun M hM => ok_region rfl ?_)
    repeat ((try first | (refine ofX3 hX ?_; clear hX X) | (refine ofX2 hX ?_; clear hX X)); (first | refine wpL_step (fun X hX => ?_) | refine wpH_step (fun X hX => ?_) | refine wpE_step (fun X hX => ?_) | refine wpL_end ?_ | refine wpH_end ?_ | refine wpE_end ?_); try simp only [ oweC, oweP, opF, opH, ev, evs, evp, evo, Env.get, Env.set, putE, gdst, S0, S1, thenN, inBlockN, argEnv, builtinR, retE, fin, finC, retC, oneC, callR, reduceIte, Nat.reduceEqDiff, Nat.reduceAdd, reduceCtorEq, forall_const, Tryd.results14, Fx.ag28])
    refine Inv.call Fx.en32 (containsW_ok w' A l.length c _ hlen
      (fun i w4 => Ext w' w4 ∧ ∀ (j : Nat) (x : Wd), j < i → l[j]? = some x → badArg H x = false)
      (fun w4 => Ext w' w4 ∧ l.any (badArg H) = true) ⟨Ext.refl _, fun j x h => absurd h (Nat.not_lt_zero _)⟩ ?_) ?_
    · rintro i w4 hil ⟨he4, hall⟩
      have hxi : l[i]? = some l[i] := List.getElem?_eq_getElem hil
      obtain ⟨b, o, hA, hcc⟩ := hcell i l[i].row (by rw [List.getElem?_map, hxi]; rfl)
      refine ⟨l[i].row, rfl, ⟨b, o, hA, (he02.trans he4).cellsAt hcc⟩, Inv.clos (cap := [ptrOf B1]) Fx.en33 (make1_ok w4 hb rb H F (hH.ext (he02.trans he4)) (by omega) l[i] B1 (he4.cell (hb12.cell (j := 0) rfl))) ?_⟩
      rintro v w5 ⟨rfl, he5⟩
      refine ⟨_, rfl, fun hb => ⟨he4.trans he5, List.any_eq_true.2 ⟨_, List.getElem_mem hil, hb⟩⟩, fun hb => ⟨he4.trans he5, fun j x hj hx => ?_⟩⟩
      rcases Nat.lt_or_ge j i with h | h
      · exact hall j x h hx
      · have : j = i := by omega
        subst this
        rw [hxi] at hx
        cases hx
        exact hb
    rintro v w4 ⟨b, rfl, hbt, hbf⟩
    repeat ((try first | (refine ofX3 hX ?_; clear hX X) | (refine ofX2 hX ?_; clear hX X)); (first | refine wpL_step (fun X hX => ?_) | refine wpH_step (fun X hX => ?_) | refine wpE_step (fun X hX => ?_) | refine wpL_end ?_ | refine wpH_end ?_ | refine wpE_end ?_); try simp only [ oweC, oweP, opF, opH, ev, evs, evp, evo, Env.get, Env.set, putE, gdst, S0, S1, thenN, inBlockN, argEnv, builtinR, retE, fin, finC, retC, oneC, callR, reduceIte, Nat.reduceEqDiff, Nat.reduceAdd, reduceCtorEq, forall_const, Tryd.results14, Fx.ag28])
    refine hM _ _ _ ?_; clear hM M
    cases b with
    | true =>
      obtain ⟨he4, hany⟩ := hbt rfl
      refine ok_cond rfl (fun _ => ?_) (fun h => by cases h)
      refine ok_seq (fun M hM => ok_region rfl ?_)
      repeat ((try first | (refine ofX3 hX ?_; clear hX X) | (refine ofX2 hX ?_; clear hX X)); (first | refine wpL_step (fun X hX => ?_) | refine wpH_step (fun X hX => ?_) | refine wpE_step (fun X hX => ?_) | refine wpL_end ?_ | refine wpH_end ?_ | refine wpE_end ?_); try simp only [ oweC, oweP, opF, opH, ev, evs, evp, evo, Env.get, Env.set, putE, gdst, S0, S1, thenN, inBlockN, argEnv, builtinR, retE, fin, finC, retC, oneC, callR, reduceIte, Nat.reduceEqDiff, Nat.reduceAdd, reduceCtorEq, forall_const, Tryd.results14, Fx.ag28])
      refine ⟨_, w4, run_build (P := Tryd.prog) w4 31 _ #[.int .i64 0, .int .i64 0, .int .i64 0] (by kernel_rfl), ?_⟩
      repeat ((try first | (refine ofX3 hX ?_; clear hX X) | (refine ofX2 hX ?_; clear hX X)); (first | refine wpL_step (fun X hX => ?_) | refine wpH_step (fun X hX => ?_) | refine wpE_step (fun X hX => ?_) | refine wpL_end ?_ | refine wpH_end ?_ | refine wpE_end ?_); try simp only [ oweC, oweP, opF, opH, ev, evs, evp, evo, Env.get, Env.set, putE, gdst, S0, S1, thenN, inBlockN, argEnv, builtinR, retE, fin, finC, retC, oneC, callR, reduceIte, Nat.reduceEqDiff, Nat.reduceAdd, reduceCtorEq, forall_const, Tryd.results14, Fx.ag28])
      refine Runs.store (hb2.ext he4) Fx.zi31 rfl (by intro u hu; simp [Value.cells] at hu; subst hu; rfl) (by simp) (fun w5 hc5 hs5 hb5 => ?_)
      rw [splice_all _ _ (by simp [Value.cells])] at hb5
      simp only [Value.cells] at hb5
      repeat ((try first | (refine ofX3 hX ?_; clear hX X) | (refine ofX2 hX ?_; clear hX X)); (first | refine wpL_step (fun X hX => ?_) | refine wpH_step (fun X hX => ?_) | refine wpE_step (fun X hX => ?_) | refine wpL_end ?_ | refine wpH_end ?_ | refine wpE_end ?_); try simp only [ oweC, oweP, opF, opH, ev, evs, evp, evo, Env.get, Env.set, putE, gdst, S0, S1, thenN, inBlockN, argEnv, builtinR, retE, fin, finC, retC, oneC, callR, reduceIte, Nat.reduceEqDiff, Nat.reduceAdd, reduceCtorEq, forall_const, Tryd.results14, Fx.ag28])
      refine hM _ _ _ ?_; clear hM M
      refine ok_ret ?_
      try simp only [wpL, wpH, wpE, oweC, oweP, opF, opH, ev, evs, evp, evo, Env.get, Env.set, putE, gdst, S0, S1, thenN, inBlockN, argEnv, builtinR, retE, fin, finC, retC, oneC, callR, reduceIte, Nat.reduceEqDiff, Nat.reduceAdd, reduceCtorEq, forall_const, Tryd.results14, Fx.ag28]
      exact zero w4 w5 B2 2 (by simp only [makeE]; rw [if_pos hk, if_neg hn, if_pos hany]) (by decide) (he02.trans he4) (by omega) hc5 hb5
    | false =>
      obtain ⟨he4, hall⟩ := hbf rfl
      refine ok_cond rfl (fun h => by cases h) (fun _ => ok_skip ?_)
      try simp only [wpL, wpH, wpE, oweC, oweP, opF, opH, ev, evs, evp, evo, Env.get, Env.set, putE, gdst, S0, S1, thenN, inBlockN, argEnv, builtinR, retE, fin, finC, retC, oneC, callR, reduceIte, Nat.reduceEqDiff, Nat.reduceAdd, reduceCtorEq, forall_const, Tryd.results14, Fx.ag28]
      have hany : l.any (badArg H) = false := by
        rw [List.any_eq_false]
        intro x hx hb
        obtain ⟨j, hj⟩ := List.mem_iff_getElem?.1 hx
        rw [hall j x (List.getElem?_eq_some_iff.1 hj).1 hj] at hb
        cases hb
      exact ⟨by simp [sub, Env.get], he4, by simp only [makeE]; rw [if_pos hk, if_neg hn, hany]; rfl⟩
  rintro w3 ⟨he3, herr⟩
  rw [if_pos herr, if_pos herr, herr]
  have he03 := he02.trans he3
  have hs03 := he03.size
  have hl2 := (hb2.ext he3).lt
  refine ok_seq (fun M hM => ok_region rfl ?_)
  repeat ((try first | (refine ofX3 hX ?_; clear hX X) | (refine ofX2 hX ?_; clear hX X)); (first | refine wpL_step (fun X hX => ?_) | refine wpH_step (fun X hX => ?_) | refine wpE_step (fun X hX => ?_) | refine wpL_end ?_ | refine wpH_end ?_ | refine wpE_end ?_); try simp only [ oweC, oweP, opF, opH, ev, evs, evp, evo, Env.get, Env.set, putE, gdst, S0, S1, thenN, inBlockN, argEnv, builtinR, retE, fin, finC, retC, oneC, callR, reduceIte, Nat.reduceEqDiff, Nat.reduceAdd, reduceCtorEq, forall_const, Tryd.results14, Fx.ag28])
  refine ⟨_, (hb12.ext he3).cell (j := 0) rfl, ?_⟩
  repeat ((try first | (refine ofX3 hX ?_; clear hX X) | (refine ofX2 hX ?_; clear hX X)); (first | refine wpL_step (fun X hX => ?_) | refine wpH_step (fun X hX => ?_) | refine wpE_step (fun X hX => ?_) | refine wpL_end ?_ | refine wpH_end ?_ | refine wpE_end ?_); try simp only [ oweC, oweP, opF, opH, ev, evs, evp, evo, Env.get, Env.set, putE, gdst, S0, S1, thenN, inBlockN, argEnv, builtinR, retE, fin, finC, retC, oneC, callR, reduceIte, Nat.reduceEqDiff, Nat.reduceAdd, reduceCtorEq, forall_const, Tryd.results14, Fx.ag28])
  refine Inv.call Fx.en34 (make_ok w3 hb rb H F (hH.ext he03) (fun k hk => by have := hF k hk; omega) hl k n _ l (hav.ext he03) hll) ?_
  rintro v w4 ⟨rfl, hc4, F4, hH4, hF4⟩
  have hs4 := hc4.size
  have hrb := hH.lt
  repeat ((try first | (refine ofX3 hX ?_; clear hX X) | (refine ofX2 hX ?_; clear hX X)); (first | refine wpL_step (fun X hX => ?_) | refine wpH_step (fun X hX => ?_) | refine wpE_step (fun X hX => ?_) | refine wpL_end ?_ | refine wpH_end ?_ | refine wpE_end ?_); try simp only [ oweC, oweP, opF, opH, ev, evs, evp, evo, Env.get, Env.set, putE, gdst, S0, S1, thenN, inBlockN, argEnv, builtinR, retE, fin, finC, retC, oneC, callR, reduceIte, Nat.reduceEqDiff, Nat.reduceAdd, reduceCtorEq, forall_const, Tryd.results14, Fx.ag28])
  have hnF : ¬ F B2 := fun h => by have := hF B2 h; omega
  refine Runs.store ((hb2.ext he3).chg hc4 hnF) Fx.zi31 rfl (by intro u hu; simp [Value.cells, Wd.row] at hu; rcases hu with rfl | rfl | rfl <;> rfl) (by simp) (fun w5 hc5 hs5 hb5 => ?_)
  rw [splice_all _ _ (by simp [Value.cells])] at hb5
  simp only [Value.cells] at hb5
  repeat ((try first | (refine ofX3 hX ?_; clear hX X) | (refine ofX2 hX ?_; clear hX X)); (first | refine wpL_step (fun X hX => ?_) | refine wpH_step (fun X hX => ?_) | refine wpE_step (fun X hX => ?_) | refine wpL_end ?_ | refine wpH_end ?_ | refine wpE_end ?_); try simp only [ oweC, oweP, opF, opH, ev, evs, evp, evo, Env.get, Env.set, putE, gdst, S0, S1, thenN, inBlockN, argEnv, builtinR, retE, fin, finC, retC, oneC, callR, reduceIte, Nat.reduceEqDiff, Nat.reduceAdd, reduceCtorEq, forall_const, Tryd.results14, Fx.ag28])
  refine hM _ _ _ ?_; clear hM M
  refine ok_ret ?_
  try simp only [wpL, wpH, wpE, oweC, oweP, opF, opH, ev, evs, evp, evo, Env.get, Env.set, putE, gdst, S0, S1, thenN, inBlockN, argEnv, builtinR, retE, fin, finC, retC, oneC, callR, reduceIte, Nat.reduceEqDiff, Nat.reduceAdd, reduceCtorEq, forall_const, Tryd.results14, Fx.ag28]
  refine ⟨_, rfl, hb5.cells (o := 0) (row := (mkW H k n l).2.row) (fun j u hj => by simpa using hj), rfl, ?_⟩
  have hnB : ¬ F4 B2 := fun h => by rcases hF4 B2 h with h | h <;> first | exact hnF h | omega
  refine ⟨((he03.chg F).trans hc4).trans_new hc5 (fun k hk => by omega), F4, hH4.chg hc5 (fun k hk e => hnB (e ▸ hk)) (by omega), fun k hk => ?_⟩
  rcases hF4 k hk with h | h
  · exact .inl h
  · exact .inr (by omega)
end Go.Proofs.YtldeokfhipjbfaaDoor
