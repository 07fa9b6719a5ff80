/- Part 4 of 14: D3, D4, D17, Vg19, F1, F2, Vg26, Vg22, G0. -/
import Derived.Test.YtafjfcameabbmaaM3
import Derived.Laws.Tables
import Derived.Test.YtafjfcameabbmaaRows
import Derived.Maps.AppendAt
/- math/bits.Mul at small numbers, slices.Repeat of one bool, debug.begin. -/
set_option linter.unusedVariables false
set_option linter.unusedSimpArgs false
namespace Go.Proofs.Ytafjfcameabbmaa
open Go Go.Proofs.Vg Go.RowKit Dbg

-- -- function 61
theorem mul64_ok (w : World) (x y : Int) (hx0 : 0 ≤ x) (hx : x < 65536) (hy0 : 0 ≤ y) (hy : y < 65536) : Rets Try.prog 61 [.int .u64 x, .int .u64 y] w (fun v w' => v = .tuple #[.int .u64 0, .int .u64 (x * y)] ∧ Ext w w') := by
  have hxy0 : 0 ≤ x * y := Int.mul_nonneg hx0 hy0
  have hxy : x * y < 4294967296 := by
    have : x * y ≤ 65535 * 65535 := Int.mul_le_mul (by omega) (by omega) hy0 (by omega)
    omega
  refine rets_of_ok Try.func61 rfl rfl ?_
  refine ok_seq (fun M hM => ok_region rfl ?_); try simp only [wpL, wpH, wpE, oweC, oweP, opF, opH, ev, evs, evp, evo, Env.get, Env.set, putE, gdst, S0, S1, thenN, inBlockN, argEnv, builtinR, retE, fin, callR, reduceIte, Nat.reduceEqDiff, Nat.reduceAdd, reduceCtorEq, forall_const, Q61]
  refine hM _ _ _ ?_; clear hM M
  refine ok_seq (fun M hM => ok_region rfl ?_)
  try simp only [wpL, wpH, wpE, oweC, oweP, opF, opH, ev, evs, evp, evo, Env.get, Env.set, putE, gdst, S0, S1, thenN, inBlockN, argEnv, builtinR, retE, fin, callR, reduceIte, Nat.reduceEqDiff, Nat.reduceAdd, reduceCtorEq, forall_const, Q61]
  refine Runs.and32 hx0 (by omega) ?_
  try simp only [wpL, wpH, wpE, oweC, oweP, opF, opH, ev, evs, evp, evo, Env.get, Env.set, putE, gdst, S0, S1, thenN, inBlockN, argEnv, builtinR, retE, fin, callR, reduceIte, Nat.reduceEqDiff, Nat.reduceAdd, reduceCtorEq, forall_const, Q61]
  refine hM _ _ _ ?_; clear hM M
  refine ok_seq (fun M hM => ok_region rfl ?_)
  try simp only [wpL, wpH, wpE, oweC, oweP, opF, opH, ev, evs, evp, evo, Env.get, Env.set, putE, gdst, S0, S1, thenN, inBlockN, argEnv, builtinR, retE, fin, callR, reduceIte, Nat.reduceEqDiff, Nat.reduceAdd, reduceCtorEq, forall_const, Q61]
  refine Runs.shr32 hx0 (by omega) ?_
  try simp only [wpL, wpH, wpE, oweC, oweP, opF, opH, ev, evs, evp, evo, Env.get, Env.set, putE, gdst, S0, S1, thenN, inBlockN, argEnv, builtinR, retE, fin, callR, reduceIte, Nat.reduceEqDiff, Nat.reduceAdd, reduceCtorEq, forall_const, Q61]
  refine hM _ _ _ ?_; clear hM M
  refine ok_seq (fun M hM => ok_region rfl ?_)
  try simp only [wpL, wpH, wpE, oweC, oweP, opF, opH, ev, evs, evp, evo, Env.get, Env.set, putE, gdst, S0, S1, thenN, inBlockN, argEnv, builtinR, retE, fin, callR, reduceIte, Nat.reduceEqDiff, Nat.reduceAdd, reduceCtorEq, forall_const, Q61]
  refine Runs.and32 hy0 (by omega) ?_
  try simp only [wpL, wpH, wpE, oweC, oweP, opF, opH, ev, evs, evp, evo, Env.get, Env.set, putE, gdst, S0, S1, thenN, inBlockN, argEnv, builtinR, retE, fin, callR, reduceIte, Nat.reduceEqDiff, Nat.reduceAdd, reduceCtorEq, forall_const, Q61]
  refine hM _ _ _ ?_; clear hM M
  refine ok_seq (fun M hM => ok_region rfl ?_)
  try simp only [wpL, wpH, wpE, oweC, oweP, opF, opH, ev, evs, evp, evo, Env.get, Env.set, putE, gdst, S0, S1, thenN, inBlockN, argEnv, builtinR, retE, fin, callR, reduceIte, Nat.reduceEqDiff, Nat.reduceAdd, reduceCtorEq, forall_const, Q61]
  refine Runs.shr32 hy0 (by omega) ?_
  try simp only [wpL, wpH, wpE, oweC, oweP, opF, opH, ev, evs, evp, evo, Env.get, Env.set, putE, gdst, S0, S1, thenN, inBlockN, argEnv, builtinR, retE, fin, callR, reduceIte, Nat.reduceEqDiff, Nat.reduceAdd, reduceCtorEq, forall_const, Q61]
  refine hM _ _ _ ?_; clear hM M
  refine ok_seq (fun M hM => ok_region rfl ?_); try simp only [wpL, wpH, wpE, oweC, oweP, opF, opH, ev, evs, evp, evo, Env.get, Env.set, putE, gdst, S0, S1, thenN, inBlockN, argEnv, builtinR, retE, fin, callR, reduceIte, Nat.reduceEqDiff, Nat.reduceAdd, reduceCtorEq, forall_const, Q61]
  refine ⟨by simp only [inI]; omega, ?_⟩
  try simp only [wpL, wpH, wpE, oweC, oweP, opF, opH, ev, evs, evp, evo, Env.get, Env.set, putE, gdst, S0, S1, thenN, inBlockN, argEnv, builtinR, retE, fin, callR, reduceIte, Nat.reduceEqDiff, Nat.reduceAdd, reduceCtorEq, forall_const, Q61]
  refine hM _ _ _ ?_; clear hM M
  refine ok_seq (fun M hM => ok_region rfl ?_); try simp only [wpL, wpH, wpE, oweC, oweP, opF, opH, ev, evs, evp, evo, Env.get, Env.set, putE, gdst, S0, S1, thenN, inBlockN, argEnv, builtinR, retE, fin, callR, reduceIte, Nat.reduceEqDiff, Nat.reduceAdd, reduceCtorEq, forall_const, Q61]
  refine ⟨by simp only [inI]; omega, ?_⟩
  try simp only [wpL, wpH, wpE, oweC, oweP, opF, opH, ev, evs, evp, evo, Env.get, Env.set, putE, gdst, S0, S1, thenN, inBlockN, argEnv, builtinR, retE, fin, callR, reduceIte, Nat.reduceEqDiff, Nat.reduceAdd, reduceCtorEq, forall_const, Q61]
  refine Runs.shr32 hxy0 hxy ?_
  try simp only [wpL, wpH, wpE, oweC, oweP, opF, opH, ev, evs, evp, evo, Env.get, Env.set, putE, gdst, S0, S1, thenN, inBlockN, argEnv, builtinR, retE, fin, callR, reduceIte, Nat.reduceEqDiff, Nat.reduceAdd, reduceCtorEq, forall_const, Q61]
  refine ⟨by simp only [inI]; omega, ?_⟩
  try simp only [wpL, wpH, wpE, oweC, oweP, opF, opH, ev, evs, evp, evo, Env.get, Env.set, putE, gdst, S0, S1, thenN, inBlockN, argEnv, builtinR, retE, fin, callR, reduceIte, Nat.reduceEqDiff, Nat.reduceAdd, reduceCtorEq, forall_const, Q61]
  refine hM _ _ _ ?_; clear hM M
  refine ok_seq (fun M hM => ok_region rfl ?_)
  try simp only [wpL, wpH, wpE, oweC, oweP, opF, opH, ev, evs, evp, evo, Env.get, Env.set, putE, gdst, S0, S1, thenN, inBlockN, argEnv, builtinR, retE, fin, callR, reduceIte, Nat.reduceEqDiff, Nat.reduceAdd, reduceCtorEq, forall_const, Q61]
  refine Runs.and32 (by omega) (by omega) ?_
  try simp only [wpL, wpH, wpE, oweC, oweP, opF, opH, ev, evs, evp, evo, Env.get, Env.set, putE, gdst, S0, S1, thenN, inBlockN, argEnv, builtinR, retE, fin, callR, reduceIte, Nat.reduceEqDiff, Nat.reduceAdd, reduceCtorEq, forall_const, Q61]
  refine hM _ _ _ ?_; clear hM M
  refine ok_seq (fun M hM => ok_region rfl ?_)
  try simp only [wpL, wpH, wpE, oweC, oweP, opF, opH, ev, evs, evp, evo, Env.get, Env.set, putE, gdst, S0, S1, thenN, inBlockN, argEnv, builtinR, retE, fin, callR, reduceIte, Nat.reduceEqDiff, Nat.reduceAdd, reduceCtorEq, forall_const, Q61]
  refine Runs.shr32 (by omega) (by omega) ?_
  try simp only [wpL, wpH, wpE, oweC, oweP, opF, opH, ev, evs, evp, evo, Env.get, Env.set, putE, gdst, S0, S1, thenN, inBlockN, argEnv, builtinR, retE, fin, callR, reduceIte, Nat.reduceEqDiff, Nat.reduceAdd, reduceCtorEq, forall_const, Q61]
  refine hM _ _ _ ?_; clear hM M
  refine ok_seq (fun M hM => ok_region rfl ?_); try simp only [wpL, wpH, wpE, oweC, oweP, opF, opH, ev, evs, evp, evo, Env.get, Env.set, putE, gdst, S0, S1, thenN, inBlockN, argEnv, builtinR, retE, fin, callR, reduceIte, Nat.reduceEqDiff, Nat.reduceAdd, reduceCtorEq, forall_const, Q61]
  refine ⟨by simp only [inI]; omega, by simp only [inI]; omega, ?_⟩
  try simp only [wpL, wpH, wpE, oweC, oweP, opF, opH, ev, evs, evp, evo, Env.get, Env.set, putE, gdst, S0, S1, thenN, inBlockN, argEnv, builtinR, retE, fin, callR, reduceIte, Nat.reduceEqDiff, Nat.reduceAdd, reduceCtorEq, forall_const, Q61]
  refine hM _ _ _ ?_; clear hM M
  refine ok_seq (fun M hM => ok_region rfl ?_); try simp only [wpL, wpH, wpE, oweC, oweP, opF, opH, ev, evs, evp, evo, Env.get, Env.set, putE, gdst, S0, S1, thenN, inBlockN, argEnv, builtinR, retE, fin, callR, reduceIte, Nat.reduceEqDiff, Nat.reduceAdd, reduceCtorEq, forall_const, Q61]
  refine ⟨by simp only [inI]; omega, by simp only [inI]; omega, ?_⟩
  try simp only [wpL, wpH, wpE, oweC, oweP, opF, opH, ev, evs, evp, evo, Env.get, Env.set, putE, gdst, S0, S1, thenN, inBlockN, argEnv, builtinR, retE, fin, callR, reduceIte, Nat.reduceEqDiff, Nat.reduceAdd, reduceCtorEq, forall_const, Q61]
  refine Runs.shr32 (by omega) (by omega) ?_
  try simp only [wpL, wpH, wpE, oweC, oweP, opF, opH, ev, evs, evp, evo, Env.get, Env.set, putE, gdst, S0, S1, thenN, inBlockN, argEnv, builtinR, retE, fin, callR, reduceIte, Nat.reduceEqDiff, Nat.reduceAdd, reduceCtorEq, forall_const, Q61]
  refine ⟨by simp only [inI]; omega, ?_⟩
  try simp only [wpL, wpH, wpE, oweC, oweP, opF, opH, ev, evs, evp, evo, Env.get, Env.set, putE, gdst, S0, S1, thenN, inBlockN, argEnv, builtinR, retE, fin, callR, reduceIte, Nat.reduceEqDiff, Nat.reduceAdd, reduceCtorEq, forall_const, Q61]
  refine hM _ _ _ ?_; clear hM M
  refine ok_seq (fun M hM => ok_region rfl ?_); try simp only [wpL, wpH, wpE, oweC, oweP, opF, opH, ev, evs, evp, evo, Env.get, Env.set, putE, gdst, S0, S1, thenN, inBlockN, argEnv, builtinR, retE, fin, callR, reduceIte, Nat.reduceEqDiff, Nat.reduceAdd, reduceCtorEq, forall_const, Q61]
  refine ⟨by simp only [inI]; omega, ?_⟩
  try simp only [wpL, wpH, wpE, oweC, oweP, opF, opH, ev, evs, evp, evo, Env.get, Env.set, putE, gdst, S0, S1, thenN, inBlockN, argEnv, builtinR, retE, fin, callR, reduceIte, Nat.reduceEqDiff, Nat.reduceAdd, reduceCtorEq, forall_const, Q61]
  refine hM _ _ _ ?_; clear hM M
  refine ok_ret ?_
  try simp only [wpL, wpH, wpE, oweC, oweP, opF, opH, ev, evs, evp, evo, Env.get, Env.set, putE, gdst, S0, S1, thenN, inBlockN, argEnv, builtinR, retE, fin, callR, reduceIte, Nat.reduceEqDiff, Nat.reduceAdd, reduceCtorEq, forall_const, Q61]
  refine ⟨?_, Ext.refl _⟩
  simp

-- -- function 55
theorem mul_ok (w : World) (x y : Int) (hx0 : 0 ≤ x) (hx : x < 65536) (hy0 : 0 ≤ y) (hy : y < 65536) : Rets Try.prog 55 [.int .u64 x, .int .u64 y] w (fun v w' => v = .tuple #[.int .u64 0, .int .u64 (x * y)] ∧ Ext w w') := by
  refine rets_of_ok Try.func55 rfl rfl ?_
  refine ok_seq (fun M hM => ok_region rfl ?_); try simp only [wpL, wpH, wpE, oweC, oweP, opF, opH, ev, evs, evp, evo, Env.get, Env.set, putE, gdst, S0, S1, thenN, inBlockN, argEnv, builtinR, retE, fin, callR, reduceIte, Nat.reduceEqDiff, Nat.reduceAdd, reduceCtorEq, forall_const, Q55]
  refine hM _ _ _ ?_; clear hM M
  refine ok_seq (fun M hM => ok_cond rfl (fun hc => by cases hc) (fun _ => ok_skip ?_))
  try simp only [wpL, wpH, wpE, oweC, oweP, opF, opH, ev, evs, evp, evo, Env.get, Env.set, putE, gdst, S0, S1, thenN, inBlockN, argEnv, builtinR, retE, fin, callR, reduceIte, Nat.reduceEqDiff, Nat.reduceAdd, reduceCtorEq, forall_const, Q55]
  refine hM _ _ _ ?_; clear hM M
  refine ok_seq (fun M hM => ok_region rfl ?_)
  try simp only [wpL, wpH, wpE, oweC, oweP, opF, opH, ev, evs, evp, evo, Env.get, Env.set, putE, gdst, S0, S1, thenN, inBlockN, argEnv, builtinR, retE, fin, callR, reduceIte, Nat.reduceEqDiff, Nat.reduceAdd, reduceCtorEq, forall_const, Q55]
  refine Inv.call Fx.en61 (mul64_ok w x y hx0 hx hy0 hy) ?_
  rintro v w2 ⟨rfl, he2⟩
  try simp only [wpL, wpH, wpE, oweC, oweP, opF, opH, ev, evs, evp, evo, Env.get, Env.set, putE, gdst, S0, S1, thenN, inBlockN, argEnv, builtinR, retE, fin, callR, reduceIte, Nat.reduceEqDiff, Nat.reduceAdd, reduceCtorEq, forall_const, Q55]
  refine hM _ _ _ ?_; clear hM M
  refine ok_seq (fun M hM => ok_region rfl ?_); try simp only [wpL, wpH, wpE, oweC, oweP, opF, opH, ev, evs, evp, evo, Env.get, Env.set, putE, gdst, S0, S1, thenN, inBlockN, argEnv, builtinR, retE, fin, callR, reduceIte, Nat.reduceEqDiff, Nat.reduceAdd, reduceCtorEq, forall_const, Q55]
  refine hM _ _ _ ?_; clear hM M
  refine ok_ret ?_
  try simp only [wpL, wpH, wpE, oweC, oweP, opF, opH, ev, evs, evp, evo, Env.get, Env.set, putE, gdst, S0, S1, thenN, inBlockN, argEnv, builtinR, retE, fin, callR, reduceIte, Nat.reduceEqDiff, Nat.reduceAdd, reduceCtorEq, forall_const, Q55]
  exact he2
def bv (xs : List Bool) : List Value := xs.map .bool
@[simp] theorem bv_length (xs : List Bool) : (bv xs).length = xs.length := by simp [bv]

-- -- function 43
set_option maxHeartbeats 1000000 in
theorem repeat_ok (w : World) (b o cap n : Nat) (te : TypeId) (hx : Blk w b [.bool true] te) (hn1 : 1 ≤ n) (hn : n ≤ 1000) :
    Rets Try.prog 43 [.slice (some ⟨b, 0, none⟩) 1 cap, .int .i64 (n : Int)] w (fun v w' => ∃ B, v = .slice (some ⟨B, 0, none⟩) n n ∧ w.heap.size ≤ B ∧ Blk w' B (bv (List.replicate n true)) 4 ∧ Ext w w') := by
  refine rets_of_ok Try.func43 rfl rfl ?_
  refine ok_seq (fun M hM => ok_region rfl ?_); try simp only [wpL, wpH, wpE, oweC, oweP, opF, opH, ev, evs, evp, evo, Env.get, Env.set, putE, gdst, S0, S1, thenN, inBlockN, argEnv, builtinR, retE, fin, callR, reduceIte, Nat.reduceEqDiff, Nat.reduceAdd, reduceCtorEq, forall_const, Q43]
  refine hM _ _ _ ?_; clear hM M
  refine ok_seq (fun M0 hM0 => ?_)
  refine ok_seq (fun M hM => ok_region rfl ?_); try simp only [wpL, wpH, wpE, oweC, oweP, opF, opH, ev, evs, evp, evo, Env.get, Env.set, putE, gdst, S0, S1, thenN, inBlockN, argEnv, builtinR, retE, fin, callR, reduceIte, Nat.reduceEqDiff, Nat.reduceAdd, reduceCtorEq, forall_const, Q43]
  refine hM _ _ _ ?_; clear hM M
  refine ok_if rfl (fun hc => by omega) (fun _ => ok_skip ?_)
  try simp only [wpL, wpH, wpE, oweC, oweP, opF, opH, ev, evs, evp, evo, Env.get, Env.set, putE, gdst, S0, S1, thenN, inBlockN, argEnv, builtinR, retE, fin, callR, reduceIte, Nat.reduceEqDiff, Nat.reduceAdd, reduceCtorEq, forall_const, Q43]
  refine hM0 _ _ _ ?_; clear hM0 M0
  refine ok_seq (fun M hM => ok_region rfl ?_)
  try simp only [wpL, wpH, wpE, oweC, oweP, opF, opH, ev, evs, evp, evo, Env.get, Env.set, putE, gdst, S0, S1, thenN, inBlockN, argEnv, builtinR, retE, fin, callR, reduceIte, Nat.reduceEqDiff, Nat.reduceAdd, reduceCtorEq, forall_const, Q43]
  refine Runs.conv Fx.un3 Fx.un103 (by simp only [inI]; omega) ?_
  try simp only [wpL, wpH, wpE, oweC, oweP, opF, opH, ev, evs, evp, evo, Env.get, Env.set, putE, gdst, S0, S1, thenN, inBlockN, argEnv, builtinR, retE, fin, callR, reduceIte, Nat.reduceEqDiff, Nat.reduceAdd, reduceCtorEq, forall_const, Q43]
  refine Runs.conv Fx.un3 Fx.un103 (by simp only [inI]; omega) ?_
  try simp only [wpL, wpH, wpE, oweC, oweP, opF, opH, ev, evs, evp, evo, Env.get, Env.set, putE, gdst, S0, S1, thenN, inBlockN, argEnv, builtinR, retE, fin, callR, reduceIte, Nat.reduceEqDiff, Nat.reduceAdd, reduceCtorEq, forall_const, Q43]
  refine Inv.call Fx.en55 (mul_ok w _ _ (by omega) (by omega) (by omega) (by omega)) ?_
  rintro v w1 ⟨rfl, he1⟩
  try simp only [wpL, wpH, wpE, oweC, oweP, opF, opH, ev, evs, evp, evo, Env.get, Env.set, putE, gdst, S0, S1, thenN, inBlockN, argEnv, builtinR, retE, fin, callR, reduceIte, Nat.reduceEqDiff, Nat.reduceAdd, reduceCtorEq, forall_const, Q43]
  refine hM _ _ _ ?_; clear hM M
  rw [show ((1 : Nat) : Int) * (n : Int) = (n : Int) by omega]
  refine ok_seq (fun M0 hM0 => ?_)
  refine ok_seq (fun M hM => ok_region rfl ?_); try simp only [wpL, wpH, wpE, oweC, oweP, opF, opH, ev, evs, evp, evo, Env.get, Env.set, putE, gdst, S0, S1, thenN, inBlockN, argEnv, builtinR, retE, fin, callR, reduceIte, Nat.reduceEqDiff, Nat.reduceAdd, reduceCtorEq, forall_const, Q43]
  refine ⟨fun _ => ?_, fun h => by simp at h⟩
  refine hM _ _ _ ?_; clear hM M
  refine ok_if rfl (fun hc => by omega) (fun _ => ok_skip ?_)
  try simp only [wpL, wpH, wpE, oweC, oweP, opF, opH, ev, evs, evp, evo, Env.get, Env.set, putE, gdst, S0, S1, thenN, inBlockN, argEnv, builtinR, retE, fin, callR, reduceIte, Nat.reduceEqDiff, Nat.reduceAdd, reduceCtorEq, forall_const, Q43]
  refine hM0 _ _ _ ?_; clear hM0 M0
  refine ok_seq (fun M hM => ok_region rfl ?_)
  try simp only [wpL, wpH, wpE, oweC, oweP, opF, opH, ev, evs, evp, evo, Env.get, Env.set, putE, gdst, S0, S1, thenN, inBlockN, argEnv, builtinR, retE, fin, callR, reduceIte, Nat.reduceEqDiff, Nat.reduceAdd, reduceCtorEq, forall_const, Q43]
  refine Runs.conv Fx.un103 Fx.un3 (by simp only [inI]; omega) ?_
  try simp only [wpL, wpH, wpE, oweC, oweP, opF, opH, ev, evs, evp, evo, Env.get, Env.set, putE, gdst, S0, S1, thenN, inBlockN, argEnv, builtinR, retE, fin, callR, reduceIte, Nat.reduceEqDiff, Nat.reduceAdd, reduceCtorEq, forall_const, Q43]
  refine Runs.make1 Fx.un23 Fx.zi4 rfl (by omega) (by omega) (by omega) (fun w2 he2 hz2 hb2 => ?_)
  try simp only [wpL, wpH, wpE, oweC, oweP, opF, opH, ev, evs, evp, evo, Env.get, Env.set, putE, gdst, S0, S1, thenN, inBlockN, argEnv, builtinR, retE, fin, callR, reduceIte, Nat.reduceEqDiff, Nat.reduceAdd, reduceCtorEq, forall_const, Q43]
  refine hM _ _ _ ?_; clear hM M
  have hB : w.heap.size ≤ w1.heap.size := he1.size
  generalize hBe : w1.heap.size = B at *
  refine ok_seq (fun M hM => ok_region rfl ?_)
  try simp only [wpL, wpH, wpE, oweC, oweP, opF, opH, ev, evs, evp, evo, Env.get, Env.set, putE, gdst, S0, S1, thenN, inBlockN, argEnv, builtinR, retE, fin, callR, reduceIte, Nat.reduceEqDiff, Nat.reduceAdd, reduceCtorEq, forall_const, Q43]
  have hx2 := (hx.ext he1).ext he2
  refine Runs.copy Fx.un23 Fx.zi4 hb2 (cs := [.bool true]) (by show 1 = min 1 n; omega) (hx2.cells (fun j u hj => by simpa using hj)) (by simp; omega) (by simp [Value.oneCell']) (fun w3 hc3 hz3 hb3 => ?_)
  try simp only [wpL, wpH, wpE, oweC, oweP, opF, opH, ev, evs, evp, evo, Env.get, Env.set, putE, gdst, S0, S1, thenN, inBlockN, argEnv, builtinR, retE, fin, callR, reduceIte, Nat.reduceEqDiff, Nat.reduceAdd, reduceCtorEq, forall_const, Q43]
  refine hM _ _ _ ?_; clear hM M
  have hb3' : Blk w3 B (bv (List.replicate 1 true ++ List.replicate (n - 1) false)) 4 := by
    have : splice (List.replicate n (Value.bool false)) 0 [Value.bool true] = bv (List.replicate 1 true ++ List.replicate (n - 1) false) := by
      obtain ⟨m, rfl⟩ : ∃ m, n = m + 1 := ⟨n - 1, by omega⟩
      simp [splice, bv, List.replicate_succ]
    rw [← this]; simpa using hb3
  have he3 : Ext w w3 := (he1.trans he2).chg_trans hc3 (fun k hk => by subst hk; exact hB)
  clear hb3 hc3 hz3 hb2 hx2
  refine ok_seq (fun M0 hM0 => ok_block ?_)
  refine ok_loop (S := Nat) (fun c => [(7, .slice (some ⟨B, 0, none⟩) n n), (8, .int .i64 (c : Int))]) (fun c w' => 1 ≤ c ∧ c ≤ n ∧ Ext w w' ∧ Blk w' B (bv (List.replicate c true ++ List.replicate (n - c) false)) 4) (fun c => n - c) 1 ?_ ?_ ?_
  · simp [sub, Env.get]
  · exact ⟨Nat.le_refl _, hn1, he3, hb3'⟩
  clear hb3' he3 w3
  rintro c w3 ⟨hc1, hcn, he3, hb3⟩
  refine ok_seq (fun M1 hM1 => ?_)
  refine ok_seq (fun M hM => ok_region rfl ?_); try simp only [wpL, wpH, wpE, oweC, oweP, opF, opH, ev, evs, evp, evo, Env.get, Env.set, putE, gdst, S0, S1, thenN, inBlockN, argEnv, builtinR, retE, fin, callR, reduceIte, Nat.reduceEqDiff, Nat.reduceAdd, reduceCtorEq, forall_const, Q43]
  refine hM _ _ _ ?_; clear hM M
  refine ok_if rfl (fun hc => ok_skip ?_) (fun hc => ok_exit ?_)
  · try simp only [wpL, wpH, wpE, oweC, oweP, opF, opH, ev, evs, evp, evo, Env.get, Env.set, putE, gdst, S0, S1, thenN, inBlockN, argEnv, builtinR, retE, fin, callR, reduceIte, Nat.reduceEqDiff, Nat.reduceAdd, reduceCtorEq, forall_const, Q43]
    refine hM1 _ _ _ ?_; clear hM1 M1
    have hlt : c < n := by omega
    refine ok_block (ok_draw 7 [(false, false), (false, true), (false, true)] (Ext _) Fx.mixed (by decide) rfl (by decide +kernel) (by decide +kernel) (Ext.drew _) ?_)
    try simp only [wpL, wpH, wpE, oweC, oweP, opF, opH, ev, evs, evp, evo, Env.get, Env.set, putE, gdst, S0, S1, thenN, inBlockN, argEnv, builtinR, retE, fin, callR, reduceIte, Nat.reduceEqDiff, Nat.reduceAdd, reduceCtorEq, forall_const, Q43]
    refine ⟨_, fun w' _ => run_sliceAt (P := Try.prog) Fx.un23 Fx.zi4 (some ⟨B, 0, none⟩) n n (some c) none .i64 .i64 (by simp) (by simp; omega) w', ?_⟩
    try simp only [wpL, wpH, wpE, oweC, oweP, opF, opH, ev, evs, evp, evo, Env.get, Env.set, putE, gdst, S0, S1, thenN, inBlockN, argEnv, builtinR, retE, fin, callR, reduceIte, Nat.reduceEqDiff, Nat.reduceAdd, reduceCtorEq, forall_const, Q43]
    refine ⟨_, fun w' _ => run_sliceAt (P := Try.prog) Fx.un23 Fx.zi4 (some ⟨B, 0, none⟩) n n none (some c) .i64 .i64 (by simp; omega) (by simp) w', ?_⟩
    intro w4 he4
    have hnc : ¬ n = c := by omega
    have hn0 : ¬ n = 0 := by omega
    simp only [Option.getD_some, Option.getD_none, if_neg hnc, Option.map_some, Nat.zero_mul, Nat.sub_zero, if_neg hn0]
    try simp only [wpL, wpH, wpE, oweC, oweP, opF, opH, ev, evs, evp, evo, Env.get, Env.set, putE, gdst, S0, S1, thenN, inBlockN, argEnv, builtinR, retE, fin, callR, reduceIte, Nat.reduceEqDiff, Nat.reduceAdd, reduceCtorEq, forall_const, Q43]
    have hlen : (List.replicate (min c (n - c)) (Value.bool true)).length = Nat.min c (n - c) := by simp
    have hsp : splice (bv (List.replicate c true ++ List.replicate (n - c) false)) (0 + c) (List.replicate (min c (n - c)) (Value.bool true)) = bv (List.replicate (c + min c (n - c)) true ++ List.replicate (n - (c + min c (n - c))) false) := by
      simp only [splice, bv, List.map_append, List.map_replicate, List.length_replicate, Nat.zero_add]
      rw [List.take_append_of_le_length (by simp), List.take_of_length_le (by simp), List.drop_append, List.drop_eq_nil_of_le (by simp)]
      simp only [List.length_replicate, List.nil_append, List.drop_replicate, List.replicate_append_replicate]
      congr 2
      omega
    refine Runs.copy Fx.un23 Fx.zi4 (hb3.ext he4) hlen ((hb3.ext he4).cells (o := 0) (fun j u hj => ?_)) (by simp; omega) (by intro v hv; rw [List.eq_of_mem_replicate hv]; rfl) (fun w5 hc5 hz5 hb5 => ?_)
    · have hj' : j < min c (n - c) := by have := (List.getElem?_eq_some_iff.1 hj).1; simpa using this
      have hu : u = Value.bool true := by
        rw [List.getElem?_replicate] at hj; split at hj <;> simp_all
      subst hu
      simp only [bv, List.map_append, List.map_replicate]
      rw [List.getElem?_append_left (by simp; omega), List.getElem?_replicate, if_pos (by omega)]
    try simp only [wpL, wpH, wpE, oweC, oweP, opF, opH, ev, evs, evp, evo, Env.get, Env.set, putE, gdst, S0, S1, thenN, inBlockN, argEnv, builtinR, retE, fin, callR, reduceIte, Nat.reduceEqDiff, Nat.reduceAdd, reduceCtorEq, forall_const, Q43]
    rw [hsp] at hb5
    refine ⟨by simp only [inI]; simp; omega, c + min c (n - c), ?_, ⟨by omega, by omega, (he3.trans he4).chg_trans hc5 (fun k hk => by subst hk; exact hB), hb5⟩, by omega⟩
    simp [sub, Env.get]
  · try simp only [wpL, wpH, wpE, oweC, oweP, opF, opH, ev, evs, evp, evo, Env.get, Env.set, putE, gdst, S0, S1, thenN, inBlockN, argEnv, builtinR, retE, fin, callR, reduceIte, Nat.reduceEqDiff, Nat.reduceAdd, reduceCtorEq, forall_const, Q43]
    refine hM0 _ _ _ ?_; clear hM0 M0 hM1 M1
    refine ok_seq (fun M hM => ok_region rfl ?_); try simp only [wpL, wpH, wpE, oweC, oweP, opF, opH, ev, evs, evp, evo, Env.get, Env.set, putE, gdst, S0, S1, thenN, inBlockN, argEnv, builtinR, retE, fin, callR, reduceIte, Nat.reduceEqDiff, Nat.reduceAdd, reduceCtorEq, forall_const, Q43]
    refine hM _ _ _ ?_; clear hM M
    refine ok_ret ?_
    try simp only [wpL, wpH, wpE, oweC, oweP, opF, opH, ev, evs, evp, evo, Env.get, Env.set, putE, gdst, S0, S1, thenN, inBlockN, argEnv, builtinR, retE, fin, callR, reduceIte, Nat.reduceEqDiff, Nat.reduceAdd, reduceCtorEq, forall_const, Q43]
    have hcn' : c = n := by omega
    subst hcn'
    refine ⟨B, rfl, hB, by simpa using hb3, he3⟩
end Go.Proofs.Ytafjfcameabbmaa
/- debug.begin: a search; what it is in memory. -/
set_option linter.unusedVariables false
set_option linter.unusedSimpArgs false
namespace Go.Proofs.Ytafjfcameabbmaa
open Go Go.Proofs.Vg Go.RowKit Dbg

/-- A search in memory. 'q': its block, 'B': the suspects' block; both newer than the world w0. -/
structure Srch (w0 w : World) (q B : Nat) (vn : Value) (sus : List Bool) (root : Nat) : Prop where
  ext : Ext w0 w
  hq : w0.heap.size ≤ q
  hB : w0.heap.size ≤ B
  ne : q ≠ B
  blk : Blk w q [vn, .slice (some ⟨B, 0, none⟩) sus.length sus.length, .int .i64 (root : Int)] 55
  sus : Blk w B (bv sus) 4
theorem Srch.mono {w0 w w' : World} {q B : Nat} {vn : Value} {sus : List Bool} {root : Nat} (h : Srch w0 w q B vn sus root) (he : Ext w w') : Srch w0 w' q B vn sus root :=
  ⟨h.ext.trans he, h.hq, h.hB, h.ne, h.blk.ext he, h.sus.ext he⟩

-- -- function 21
theorem begin_ok (w : World) (vn : Value) (ks : List (List Int)) (hn : NodesG w vn ks) (h1 : 1 ≤ ks.length) (h2 : ks.length ≤ 1000) :
    Rets Try.prog 21 [vn] w (fun v w' => ∃ q B, v = .pointer (some ⟨q, 0, none⟩) ∧ Srch w w' q B vn (List.replicate ks.length true) 0) := by
  obtain ⟨A, cp, rfl, hlen, hrow⟩ := hn.at_
  clear hn hrow
  refine rets_of_ok Try.func21 rfl rfl ?_
  refine ok_seq (fun M hM => ok_region rfl ?_); try simp only [wpL, wpH, wpE, oweC, oweP, opF, opH, ev, evs, evp, evo, Env.get, Env.set, putE, gdst, S0, S1, thenN, inBlockN, argEnv, builtinR, retE, fin, callR, reduceIte, Nat.reduceEqDiff, Nat.reduceAdd, reduceCtorEq, forall_const, Q21]
  refine hM _ _ _ ?_; clear hM M
  refine ok_seq (fun M hM => ok_region rfl ?_)
  try simp only [wpL, wpH, wpE, oweC, oweP, opF, opH, ev, evs, evp, evo, Env.get, Env.set, putE, gdst, S0, S1, thenN, inBlockN, argEnv, builtinR, retE, fin, callR, reduceIte, Nat.reduceEqDiff, Nat.reduceAdd, reduceCtorEq, forall_const, Q21]
  refine Runs.lit (cs := bv [true]) Fx.un23 Fx.zi4 (by decide) (by kernel_rfl) (by decide) (fun w1 he1 hz1 hb1 => ?_)
  try simp only [wpL, wpH, wpE, oweC, oweP, opF, opH, ev, evs, evp, evo, Env.get, Env.set, putE, gdst, S0, S1, thenN, inBlockN, argEnv, builtinR, retE, fin, callR, reduceIte, Nat.reduceEqDiff, Nat.reduceAdd, reduceCtorEq, forall_const, Q21]
  refine Inv.call Fx.en43 (repeat_ok w1 w.heap.size 0 1 ks.length 4 hb1 h1 (by omega)) ?_
  rintro v w2 ⟨B, rfl, hB, hb2, he2⟩
  try simp only [wpL, wpH, wpE, oweC, oweP, opF, opH, ev, evs, evp, evo, Env.get, Env.set, putE, gdst, S0, S1, thenN, inBlockN, argEnv, builtinR, retE, fin, callR, reduceIte, Nat.reduceEqDiff, Nat.reduceAdd, reduceCtorEq, forall_const, Q21]
  refine ⟨_, w2, run_build (P := Try.prog) w2 55 _ #[.slice A ks.length cp, .slice (some ⟨B, 0, none⟩) ks.length ks.length, .int .i64 0] (by kernel_rfl), ?_⟩
  try simp only [wpL, wpH, wpE, oweC, oweP, opF, opH, ev, evs, evp, evo, Env.get, Env.set, putE, gdst, S0, S1, thenN, inBlockN, argEnv, builtinR, retE, fin, callR, reduceIte, Nat.reduceEqDiff, Nat.reduceAdd, reduceCtorEq, forall_const, Q21]
  refine Runs.box (fun w3 he3 hz3 hb3 => ?_)
  try simp only [wpL, wpH, wpE, oweC, oweP, opF, opH, ev, evs, evp, evo, Env.get, Env.set, putE, gdst, S0, S1, thenN, inBlockN, argEnv, builtinR, retE, fin, callR, reduceIte, Nat.reduceEqDiff, Nat.reduceAdd, reduceCtorEq, forall_const, Q21]
  refine hM _ _ _ ?_; clear hM M
  refine ok_ret ?_
  try simp only [wpL, wpH, wpE, oweC, oweP, opF, opH, ev, evs, evp, evo, Env.get, Env.set, putE, gdst, S0, S1, thenN, inBlockN, argEnv, builtinR, retE, fin, callR, reduceIte, Nat.reduceEqDiff, Nat.reduceAdd, reduceCtorEq, forall_const, Q21]
  have := hb2.lt
  refine ⟨_, B, rfl, (he1.trans he2).trans he3, (he1.trans he2).size, by have := he1.size; omega, by omega, by simpa [Value.cells] using hb3, by simpa using hb2.ext he3⟩
end Go.Proofs.Ytafjfcameabbmaa
/- What the laws of chapter 41 are handed. -/
set_option linter.unusedVariables false
set_option linter.unusedSimpArgs false
namespace Go.Proofs.Ytafjfcameabbmaa
open Go Go.Proofs.Vg Go.RowKit Dbg Go.Deep Go.ChangeShapes Go.WideShapes Go.ChangeAt

theorem ce37 : Try.prog.cellsOf 37 = 5 := by kernel_rfl
theorem ce3 : Try.prog.cellsOf 3 = 1 := by kernel_rfl
theorem ce4 : Try.prog.cellsOf 4 = 1 := by kernel_rfl
theorem ce35 : Try.prog.cellsOf 35 = 1 := by kernel_rfl
theorem ce26 : Try.prog.cellsOf 26 = 1 := by kernel_rfl
theorem by37 : 0 < Try.prog.bytesOf 37 := by decide +kernel
theorem by3 : 0 < Try.prog.bytesOf 3 := by decide +kernel
theorem by4 : 0 < Try.prog.bytesOf 4 := by decide +kernel
theorem fl0 : fld Try.prog 37 0 = some (3, 0) := by kernel_rfl
theorem fl1 : fld Try.prog 37 1 = some (3, 1) := by kernel_rfl
theorem fl2 : fld Try.prog 37 2 = some (35, 2) := by kernel_rfl
theorem fl3 : fld Try.prog 37 3 = some (35, 3) := by kernel_rfl
theorem fl4 : fld Try.prog 37 4 = some (26, 4) := by kernel_rfl
theorem is35 : isSlice Try.prog 35 = true := by kernel_rfl

section
variable {H : Type} {enc : TypeId × Value → H} {w : World} {base : Nat} {spare : Nat → Bool} {held : Bool}
theorem rd_nodes {fuel : Nat} {cs : List Value} {x : DataW H × List MemPlace} (h : DataW.trod enc Try.prog w base spare held fuel 22 cs = some x) (hs : Small Try.prog 22 x.1) : ∃ v ks, cs = [v] ∧ NodesG w v ks := by
  obtain ⟨v, rows, rfl, hsl, h1, h2, hr⟩ := rd_slice Fx.un22 ce37 (by decide) by37 h hs
  have key : ∀ i, i < rows.length → ∃ kids : List Int, ∃ (c p : Int) (vi vo vk : Value), rows[i]? = some [.int .i64 c, .int .i64 p, vi, vo, vk] ∧ vi.oneCell' = true ∧ vo.oneCell' = true ∧ vi.cells = #[vi] ∧ vo.cells = #[vo] ∧ SlI w vk kids := by
    intro i hi
    obtain ⟨hl, f, y, hy, hsy⟩ := hr i rows[i] (List.getElem?_eq_getElem hi)
    generalize hrow : rows[i] = row at *
    match row, hl with
    | [r0, r1, r2, r3, r4], _ =>
      obtain ⟨n0, y0, k0, _⟩ := rd_fld fl0 hy hsy
      obtain ⟨n1, y1, k1, _⟩ := rd_fld fl1 hy hsy
      obtain ⟨n2, y2, k2, _⟩ := rd_fld fl2 hy hsy
      obtain ⟨n3, y3, k3, _⟩ := rd_fld fl3 hy hsy
      obtain ⟨n4, y4, k4, s4⟩ := rd_fld fl4 hy hsy
      rw [ce3] at k0 k1
      rw [ce35] at k2 k3
      rw [ce26] at k4
      obtain ⟨c, e0, _⟩ := DataW.trod_int Fx.un3 k0
      obtain ⟨p, e1, _⟩ := DataW.trod_int Fx.un3 k1
      obtain ⟨vi, e2, a2, b2⟩ := rd_anySlice is35 k2
      obtain ⟨vo, e3, a3, b3⟩ := rd_anySlice is35 k3
      obtain ⟨vk, xs, e4, sl, _, _⟩ := rd_ints Fx.un26 Fx.un3 ce3 by3 k4 s4
      simp at e0 e1 e2 e3 e4
      subst e0 e1 e2 e3 e4
      exact ⟨xs, c, p, _, _, _, by rw [List.getElem?_eq_getElem hi, hrow], a2, a3, b2, b3, sl⟩
  obtain ⟨K, hK⟩ := choose_lt (α := List Int) (p := fun i kids => ∃ (c p : Int) (vi vo vk : Value), rows[i]? = some [.int .i64 c, .int .i64 p, vi, vo, vk] ∧ vi.oneCell' = true ∧ vo.oneCell' = true ∧ vi.cells = #[vi] ∧ vo.cells = #[vo] ∧ SlI w vk kids) key
  refine ⟨v, (List.range rows.length).map K, rfl, rows, hsl, by simp, fun i hi => ?_⟩
  have hi' : i < rows.length := by simpa using hi
  obtain ⟨c, p, vi, vo, vk, h⟩ := hK i hi'
  exact ⟨c, p, vi, vo, vk, by simpa using h⟩
end
theorem own41 : ownKnob Try.prog.godebug = none := by kernel_rfl
theorem laid41 : laidOutB Try.prog = true := by kernel_rfl
theorem rr22 : Try.prog.readableRec 22 = true := by kernel_rfl
theorem rr23 : Try.prog.readableRec 23 = true := by kernel_rfl
theorem rr26 : Try.prog.readableRec 26 = true := by kernel_rfl
theorem sz26 : 26 < Try.prog.types.size := by decide +kernel
end Go.Proofs.Ytafjfcameabbmaa
/- Values as trees: api.Value in memory (Kind, Num, Text, Args: four cells). -/
set_option linter.unusedVariables false
set_option linter.unusedSimpArgs false
namespace Go.Proofs.Vg
open Go Go.RowKit

inductive Val where
  | mk (kind num : Int) (text : ByteArray) (args : List Val)
mutual
/-- Four cells that read as a value. -/
def VRow (w : World) : List Value → Val → Prop
  | row, .mk k n t args => ∃ v, row = [.int .i64 k, .int .i64 n, .string t, v] ∧ v.oneCell' = true ∧ v.cells = #[v] ∧ ∃ rows, Sli w 4 v rows ∧ VRows w rows args
def VRows (w : World) : List (List Value) → List Val → Prop
  | [], [] => True
  | r :: rs, x :: xs => VRow w r x ∧ VRows w rs xs
  | _, _ => False
end
/-- A slice that reads as values. -/
def VSl (w : World) (v : Value) (xs : List Val) : Prop := v.oneCell' = true ∧ v.cells = #[v] ∧ ∃ rows, Sli w 4 v rows ∧ VRows w rows xs
mutual
theorem VRow.ext {w w' : World} (he : Ext w w') : ∀ (row : List Value) (x : Val), VRow w row x → VRow w' row x
  | row, .mk k n t args, h => by
    simp only [VRow] at h ⊢
    obtain ⟨v, h1, h2, h3, rows, h4, h5⟩ := h
    exact ⟨v, h1, h2, h3, rows, h4.ext he, VRows.ext he rows args h5⟩
theorem VRows.ext {w w' : World} (he : Ext w w') : ∀ (rows : List (List Value)) (xs : List Val), VRows w rows xs → VRows w' rows xs
  | [], [], _ => by simp only [VRows]
  | r :: rs, x :: xs, h => by
    simp only [VRows] at h ⊢
    exact ⟨VRow.ext he r x h.1, VRows.ext he rs xs h.2⟩
  | [], _ :: _, h => by simp [VRows] at h
  | _ :: _, [], h => by simp [VRows] at h
end
theorem VSl.ext {w w' : World} {v : Value} {xs : List Val} (h : VSl w v xs) (he : Ext w w') : VSl w' v xs := by
  obtain ⟨h1, h2, rows, h3, h4⟩ := h
  exact ⟨h1, h2, rows, h3.ext he, VRows.ext he _ _ h4⟩
theorem VRows.length {w : World} : ∀ {rows : List (List Value)} {xs : List Val}, VRows w rows xs → rows.length = xs.length
  | [], [], _ => rfl
  | r :: rs, x :: xs, h => by simp only [VRows] at h; simp [VRows.length h.2]
  | [], _ :: _, h => by simp [VRows] at h
  | _ :: _, [], h => by simp [VRows] at h
theorem VRows.get {w : World} : ∀ {rows : List (List Value)} {xs : List Val}, VRows w rows xs → ∀ (i : Nat) (x : Val), xs[i]? = some x → ∃ r, rows[i]? = some r ∧ VRow w r x
  | [], [], _, i, x, hx => by simp at hx
  | r :: rs, y :: xs, h, i, x, hx => by
    simp only [VRows] at h
    cases i with
    | zero => simp at hx; subst hx; exact ⟨r, rfl, h.1⟩
    | succ i => exact VRows.get h.2 i x (by simpa using hx)
  | [], _ :: _, h, _, _, _ => by simp [VRows] at h
  | _ :: _, [], h, _, _, _ => by simp [VRows] at h
end Go.Proofs.Vg
/- Equal of values (the reference of chapter 7), values of law 41. -/
set_option linter.unusedVariables false
set_option linter.unusedSimpArgs false
namespace Go.Proofs.Ytafjfcameabbmaa
open Go Go.Proofs.Vg Go.RowKit

mutual
def eqV : Val → Val → Bool
  | .mk k n t a, .mk k' n' t' a' => decide (k = k') && decide (n = n') && decide (t = t') && eqVs a a'
def eqVs : List Val → List Val → Bool
  | [], [] => true
  | x :: xs, y :: ys => eqV x y && eqVs xs ys
  | _, _ => false
end
theorem eqVs_iff : ∀ (a b : List Val), eqVs a b = true ↔ a.length = b.length ∧ ∀ (i : Nat) (x y : Val), a[i]? = some x → b[i]? = some y → eqV x y = true
  | [], [] => by simp [eqVs]
  | [], y :: ys => by simp [eqVs]
  | x :: xs, [] => by simp [eqVs]
  | x :: xs, y :: ys => by
    simp only [eqVs, Bool.and_eq_true, eqVs_iff xs ys, List.length_cons]
    constructor
    · rintro ⟨h1, h2, h3⟩
      refine ⟨by omega, fun i x' y' hx hy => ?_⟩
      cases i with
      | zero => simp at hx hy; subst hx; subst hy; exact h1
      | succ i => exact h3 i x' y' (by simpa using hx) (by simpa using hy)
    · rintro ⟨h1, h2⟩
      exact ⟨h2 0 x y rfl rfl, by omega, fun i x' y' hx hy => h2 (i + 1) x' y' (by simpa using hx) (by simpa using hy)⟩

-- -- function 54
set_option maxHeartbeats 2000000 in
set_option maxRecDepth 8000 in
theorem equal_ok : ∀ (m : Nat) (x y : Val) (w : World) (r s : List Value), SizeOf.sizeOf x ≤ m → VRow w r x → VRow w s y → Rets Try.prog 54 [.agg r.toArray, .agg s.toArray] w (fun v w' => v = .bool (eqV x y) ∧ Ext w w') := by
  intro m
  induction m with
  | zero => intro x y w r s hm; cases x; simp at hm
  | succ m ih =>
    rintro ⟨k, n, t, a⟩ ⟨k', n', t', a'⟩ w r s hm hr hs
    simp only [VRow] at hr hs
    obtain ⟨v, rfl, hv1, hv2, rows, hsl, hrows⟩ := hr
    obtain ⟨v', rfl, hv1', hv2', rows', hsl', hrows'⟩ := hs
    obtain ⟨A, cp, rfl, hlen, hcell⟩ := hsl
    obtain ⟨A', cp', rfl, hlen', hcell'⟩ := hsl'
    have hl := hrows.length
    have hl' := hrows'.length
    refine rets_of_ok Try.func54 rfl rfl ?_
    refine ok_seq (fun M hM => ok_region rfl ?_)
    repeat ((try first | (refine z3 hX ?_; clear hX X) | (refine z2 hX ?_; clear hX X)); (first | refine zL fun X hX => ?_ | refine zH fun X hX => ?_ | refine zE fun X hX => ?_ | refine zl ?_ | refine zh ?_ | refine ze ?_); try simp only [oweC, oweP, opF, opH, ev, evs, evp, evo, Env.get, Env.set, putE, gdst, S0, S1, thenN, inBlockN, argEnv, builtinR, retE, fin, callR, reduceIte, Nat.reduceEqDiff, Nat.reduceAdd, reduceCtorEq, forall_const, Q54])
    refine Runs.box (fun w1 he1 hz1 hb1 => ?_)
    repeat ((try first | (refine z3 hX ?_; clear hX X) | (refine z2 hX ?_; clear hX X)); (first | refine zL fun X hX => ?_ | refine zH fun X hX => ?_ | refine zE fun X hX => ?_ | refine zl ?_ | refine zh ?_ | refine ze ?_); try simp only [oweC, oweP, opF, opH, ev, evs, evp, evo, Env.get, Env.set, putE, gdst, S0, S1, thenN, inBlockN, argEnv, builtinR, retE, fin, callR, reduceIte, Nat.reduceEqDiff, Nat.reduceAdd, reduceCtorEq, forall_const, Q54])
    refine Runs.box (fun w2 he2 hz2 hb2 => ?_)
    repeat ((try first | (refine z3 hX ?_; clear hX X) | (refine z2 hX ?_; clear hX X)); (first | refine zL fun X hX => ?_ | refine zH fun X hX => ?_ | refine zE fun X hX => ?_ | refine zl ?_ | refine zh ?_ | refine ze ?_); try simp only [oweC, oweP, opF, opH, ev, evs, evp, evo, Env.get, Env.set, putE, gdst, S0, S1, thenN, inBlockN, argEnv, builtinR, retE, fin, callR, reduceIte, Nat.reduceEqDiff, Nat.reduceAdd, reduceCtorEq, forall_const, Q54])
    refine hM _ _ _ ?_; clear hM M
    generalize hB1 : w.heap.size = B1 at *
    generalize hB2 : w1.heap.size = B2 at *
    have hb1' := hb1.ext he2
    simp only [Value.cells] at hb1' hb2
    have he02 := he1.trans he2
    have hA1 : ∀ j u, [Value.int .i64 k, .int .i64 n, .string t, .slice A rows.length cp][j]? = some u → w2.cell? ⟨B1, j, none⟩ = some u := fun j u hj => hb1'.cell hj
    have hA2 : ∀ j u, [Value.int .i64 k', .int .i64 n', .string t', .slice A' rows'.length cp'][j]? = some u → w2.cell? ⟨B2, j, none⟩ = some u := fun j u hj => hb2.cell hj
    rw [hl] at hA1
    rw [hl'] at hA2
    clear hb1 hb2 hb1'
    refine ok_join [(2, .pointer (some ⟨B1, 0, none⟩)), (3, .pointer (some ⟨B2, 0, none⟩))] (fun w' => w' = w2 ∧ k = k' ∧ n = n' ∧ t = t' ∧ a.length = a'.length) ?_ ?_
    · refine ok_seq (fun M hM => ok_region rfl ?_)
      repeat ((try first | (refine z3 hX ?_; clear hX X) | (refine z2 hX ?_; clear hX X)); (first | refine zL fun X hX => ?_ | refine zH fun X hX => ?_ | refine zE fun X hX => ?_ | refine zl ?_ | refine zh ?_ | refine ze ?_); try simp only [oweC, oweP, opF, opH, ev, evs, evp, evo, Env.get, Env.set, putE, gdst, S0, S1, thenN, inBlockN, argEnv, builtinR, retE, fin, callR, reduceIte, Nat.reduceEqDiff, Nat.reduceAdd, reduceCtorEq, forall_const, Q54])
      refine ⟨_, hA1 0 _ rfl, ?_⟩
      repeat ((try first | (refine z3 hX ?_; clear hX X) | (refine z2 hX ?_; clear hX X)); (first | refine zL fun X hX => ?_ | refine zH fun X hX => ?_ | refine zE fun X hX => ?_ | refine zl ?_ | refine zh ?_ | refine ze ?_); try simp only [oweC, oweP, opF, opH, ev, evs, evp, evo, Env.get, Env.set, putE, gdst, S0, S1, thenN, inBlockN, argEnv, builtinR, retE, fin, callR, reduceIte, Nat.reduceEqDiff, Nat.reduceAdd, reduceCtorEq, forall_const, Q54])
      refine ⟨_, hA2 0 _ rfl, ?_⟩
      repeat ((try first | (refine z3 hX ?_; clear hX X) | (refine z2 hX ?_; clear hX X)); (first | refine zL fun X hX => ?_ | refine zH fun X hX => ?_ | refine zE fun X hX => ?_ | refine zl ?_ | refine zh ?_ | refine ze ?_); try simp only [oweC, oweP, opF, opH, ev, evs, evp, evo, Env.get, Env.set, putE, gdst, S0, S1, thenN, inBlockN, argEnv, builtinR, retE, fin, callR, reduceIte, Nat.reduceEqDiff, Nat.reduceAdd, reduceCtorEq, forall_const, Q54])
      refine ⟨fun h => ?_, fun h => ?_⟩
      · have e1 : k = k' := by simpa using h
        clear h
        repeat ((try first | (refine z3 hX ?_; clear hX X) | (refine z2 hX ?_; clear hX X)); (first | refine zL fun X hX => ?_ | refine zH fun X hX => ?_ | refine zE fun X hX => ?_ | refine zl ?_ | refine zh ?_ | refine ze ?_); try simp only [oweC, oweP, opF, opH, ev, evs, evp, evo, Env.get, Env.set, putE, gdst, S0, S1, thenN, inBlockN, argEnv, builtinR, retE, fin, callR, reduceIte, Nat.reduceEqDiff, Nat.reduceAdd, reduceCtorEq, forall_const, Q54])
        refine ⟨_, hA1 1 _ rfl, ?_⟩
        repeat ((try first | (refine z3 hX ?_; clear hX X) | (refine z2 hX ?_; clear hX X)); (first | refine zL fun X hX => ?_ | refine zH fun X hX => ?_ | refine zE fun X hX => ?_ | refine zl ?_ | refine zh ?_ | refine ze ?_); try simp only [oweC, oweP, opF, opH, ev, evs, evp, evo, Env.get, Env.set, putE, gdst, S0, S1, thenN, inBlockN, argEnv, builtinR, retE, fin, callR, reduceIte, Nat.reduceEqDiff, Nat.reduceAdd, reduceCtorEq, forall_const, Q54])
        refine ⟨_, hA2 1 _ rfl, ?_⟩
        repeat ((try first | (refine z3 hX ?_; clear hX X) | (refine z2 hX ?_; clear hX X)); (first | refine zL fun X hX => ?_ | refine zH fun X hX => ?_ | refine zE fun X hX => ?_ | refine zl ?_ | refine zh ?_ | refine ze ?_); try simp only [oweC, oweP, opF, opH, ev, evs, evp, evo, Env.get, Env.set, putE, gdst, S0, S1, thenN, inBlockN, argEnv, builtinR, retE, fin, callR, reduceIte, Nat.reduceEqDiff, Nat.reduceAdd, reduceCtorEq, forall_const, Q54])
        refine ⟨fun h => ?_, fun h => ?_⟩
        · have e2 : n = n' := by simpa using h
          clear h
          repeat ((try first | (refine z3 hX ?_; clear hX X) | (refine z2 hX ?_; clear hX X)); (first | refine zL fun X hX => ?_ | refine zH fun X hX => ?_ | refine zE fun X hX => ?_ | refine zl ?_ | refine zh ?_ | refine ze ?_); try simp only [oweC, oweP, opF, opH, ev, evs, evp, evo, Env.get, Env.set, putE, gdst, S0, S1, thenN, inBlockN, argEnv, builtinR, retE, fin, callR, reduceIte, Nat.reduceEqDiff, Nat.reduceAdd, reduceCtorEq, forall_const, Q54])
          refine ⟨_, hA1 2 _ rfl, ?_⟩
          repeat ((try first | (refine z3 hX ?_; clear hX X) | (refine z2 hX ?_; clear hX X)); (first | refine zL fun X hX => ?_ | refine zH fun X hX => ?_ | refine zE fun X hX => ?_ | refine zl ?_ | refine zh ?_ | refine ze ?_); try simp only [oweC, oweP, opF, opH, ev, evs, evp, evo, Env.get, Env.set, putE, gdst, S0, S1, thenN, inBlockN, argEnv, builtinR, retE, fin, callR, reduceIte, Nat.reduceEqDiff, Nat.reduceAdd, reduceCtorEq, forall_const, Q54])
          refine ⟨_, hA2 2 _ rfl, ?_⟩
          repeat ((try first | (refine z3 hX ?_; clear hX X) | (refine z2 hX ?_; clear hX X)); (first | refine zL fun X hX => ?_ | refine zH fun X hX => ?_ | refine zE fun X hX => ?_ | refine zl ?_ | refine zh ?_ | refine ze ?_); try simp only [oweC, oweP, opF, opH, ev, evs, evp, evo, Env.get, Env.set, putE, gdst, S0, S1, thenN, inBlockN, argEnv, builtinR, retE, fin, callR, reduceIte, Nat.reduceEqDiff, Nat.reduceAdd, reduceCtorEq, forall_const, Q54])
          refine ⟨fun h => ?_, fun h => ?_⟩
          · have e3 : t = t' := by simpa using h
            clear h
            repeat ((try first | (refine z3 hX ?_; clear hX X) | (refine z2 hX ?_; clear hX X)); (first | refine zL fun X hX => ?_ | refine zH fun X hX => ?_ | refine zE fun X hX => ?_ | refine zl ?_ | refine zh ?_ | refine ze ?_); try simp only [oweC, oweP, opF, opH, ev, evs, evp, evo, Env.get, Env.set, putE, gdst, S0, S1, thenN, inBlockN, argEnv, builtinR, retE, fin, callR, reduceIte, Nat.reduceEqDiff, Nat.reduceAdd, reduceCtorEq, forall_const, Q54])
            refine ⟨_, hA1 3 _ rfl, ?_⟩
            repeat ((try first | (refine z3 hX ?_; clear hX X) | (refine z2 hX ?_; clear hX X)); (first | refine zL fun X hX => ?_ | refine zH fun X hX => ?_ | refine zE fun X hX => ?_ | refine zl ?_ | refine zh ?_ | refine ze ?_); try simp only [oweC, oweP, opF, opH, ev, evs, evp, evo, Env.get, Env.set, putE, gdst, S0, S1, thenN, inBlockN, argEnv, builtinR, retE, fin, callR, reduceIte, Nat.reduceEqDiff, Nat.reduceAdd, reduceCtorEq, forall_const, Q54])
            refine ⟨_, hA2 3 _ rfl, ?_⟩
            repeat ((try first | (refine z3 hX ?_; clear hX X) | (refine z2 hX ?_; clear hX X)); (first | refine zL fun X hX => ?_ | refine zH fun X hX => ?_ | refine zE fun X hX => ?_ | refine zl ?_ | refine zh ?_ | refine ze ?_); try simp only [oweC, oweP, opF, opH, ev, evs, evp, evo, Env.get, Env.set, putE, gdst, S0, S1, thenN, inBlockN, argEnv, builtinR, retE, fin, callR, reduceIte, Nat.reduceEqDiff, Nat.reduceAdd, reduceCtorEq, forall_const, Q54])
            refine hM _ _ _ ?_; clear hM M
            refine ok_ifn rfl (fun hc => ?_) (fun hc => ok_skip ?_)
            · refine ok_seq (fun M hM => ok_region rfl ?_); repeat ((try first | (refine z3 hX ?_; clear hX X) | (refine z2 hX ?_; clear hX X)); (first | refine zL fun X hX => ?_ | refine zH fun X hX => ?_ | refine zE fun X hX => ?_ | refine zl ?_ | refine zh ?_ | refine ze ?_); try simp only [oweC, oweP, opF, opH, ev, evs, evp, evo, Env.get, Env.set, putE, gdst, S0, S1, thenN, inBlockN, argEnv, builtinR, retE, fin, callR, reduceIte, Nat.reduceEqDiff, Nat.reduceAdd, reduceCtorEq, forall_const, Q54])
              refine hM _ _ _ ?_; clear hM M
              refine ok_ret ?_
              try simp only [wpL, wpH, wpE, oweC, oweP, opF, opH, ev, evs, evp, evo, Env.get, Env.set, putE, gdst, S0, S1, thenN, inBlockN, argEnv, builtinR, retE, fin, callR, reduceIte, Nat.reduceEqDiff, Nat.reduceAdd, reduceCtorEq, forall_const, Q54]
              refine ⟨?_, he02⟩
              have hne : eqVs a a' = false := by
                cases hx : eqVs a a' with
                | false => rfl
                | true => have := ((eqVs_iff a a').1 hx).1; omega
              simp [eqV, hne]
            · try simp only [wpL, wpH, wpE, oweC, oweP, opF, opH, ev, evs, evp, evo, Env.get, Env.set, putE, gdst, S0, S1, thenN, inBlockN, argEnv, builtinR, retE, fin, callR, reduceIte, Nat.reduceEqDiff, Nat.reduceAdd, reduceCtorEq, forall_const, Q54]
              exact ⟨by simp [sub, Env.get], e1, e2, e3, by omega⟩
          · repeat ((try first | (refine z3 hX ?_; clear hX X) | (refine z2 hX ?_; clear hX X)); (first | refine zL fun X hX => ?_ | refine zH fun X hX => ?_ | refine zE fun X hX => ?_ | refine zl ?_ | refine zh ?_ | refine ze ?_); try simp only [oweC, oweP, opF, opH, ev, evs, evp, evo, Env.get, Env.set, putE, gdst, S0, S1, thenN, inBlockN, argEnv, builtinR, retE, fin, callR, reduceIte, Nat.reduceEqDiff, Nat.reduceAdd, reduceCtorEq, forall_const, Q54])
            refine hM _ _ _ ?_; clear hM M
            refine ok_cond rfl (fun _ => ?_) (fun h => by cases h)
            refine ok_seq (fun M hM => ok_region rfl ?_); repeat ((try first | (refine z3 hX ?_; clear hX X) | (refine z2 hX ?_; clear hX X)); (first | refine zL fun X hX => ?_ | refine zH fun X hX => ?_ | refine zE fun X hX => ?_ | refine zl ?_ | refine zh ?_ | refine ze ?_); try simp only [oweC, oweP, opF, opH, ev, evs, evp, evo, Env.get, Env.set, putE, gdst, S0, S1, thenN, inBlockN, argEnv, builtinR, retE, fin, callR, reduceIte, Nat.reduceEqDiff, Nat.reduceAdd, reduceCtorEq, forall_const, Q54])
            refine hM _ _ _ ?_; clear hM M
            refine ok_ret ?_
            try simp only [wpL, wpH, wpE, oweC, oweP, opF, opH, ev, evs, evp, evo, Env.get, Env.set, putE, gdst, S0, S1, thenN, inBlockN, argEnv, builtinR, retE, fin, callR, reduceIte, Nat.reduceEqDiff, Nat.reduceAdd, reduceCtorEq, forall_const, Q54]
            refine ⟨?_, he02⟩
            have hne : ¬ t = t' := by simpa using h
            simp [eqV, hne]
        · repeat ((try first | (refine z3 hX ?_; clear hX X) | (refine z2 hX ?_; clear hX X)); (first | refine zL fun X hX => ?_ | refine zH fun X hX => ?_ | refine zE fun X hX => ?_ | refine zl ?_ | refine zh ?_ | refine ze ?_); try simp only [oweC, oweP, opF, opH, ev, evs, evp, evo, Env.get, Env.set, putE, gdst, S0, S1, thenN, inBlockN, argEnv, builtinR, retE, fin, callR, reduceIte, Nat.reduceEqDiff, Nat.reduceAdd, reduceCtorEq, forall_const, Q54])
          refine hM _ _ _ ?_; clear hM M
          refine ok_cond rfl (fun _ => ?_) (fun h => by cases h)
          refine ok_seq (fun M hM => ok_region rfl ?_); repeat ((try first | (refine z3 hX ?_; clear hX X) | (refine z2 hX ?_; clear hX X)); (first | refine zL fun X hX => ?_ | refine zH fun X hX => ?_ | refine zE fun X hX => ?_ | refine zl ?_ | refine zh ?_ | refine ze ?_); try simp only [oweC, oweP, opF, opH, ev, evs, evp, evo, Env.get, Env.set, putE, gdst, S0, S1, thenN, inBlockN, argEnv, builtinR, retE, fin, callR, reduceIte, Nat.reduceEqDiff, Nat.reduceAdd, reduceCtorEq, forall_const, Q54])
          refine hM _ _ _ ?_; clear hM M
          refine ok_ret ?_
          try simp only [wpL, wpH, wpE, oweC, oweP, opF, opH, ev, evs, evp, evo, Env.get, Env.set, putE, gdst, S0, S1, thenN, inBlockN, argEnv, builtinR, retE, fin, callR, reduceIte, Nat.reduceEqDiff, Nat.reduceAdd, reduceCtorEq, forall_const, Q54]
          refine ⟨?_, he02⟩
          have hne : ¬ n = n' := by simpa using h
          simp [eqV, hne]
      · repeat ((try first | (refine z3 hX ?_; clear hX X) | (refine z2 hX ?_; clear hX X)); (first | refine zL fun X hX => ?_ | refine zH fun X hX => ?_ | refine zE fun X hX => ?_ | refine zl ?_ | refine zh ?_ | refine ze ?_); try simp only [oweC, oweP, opF, opH, ev, evs, evp, evo, Env.get, Env.set, putE, gdst, S0, S1, thenN, inBlockN, argEnv, builtinR, retE, fin, callR, reduceIte, Nat.reduceEqDiff, Nat.reduceAdd, reduceCtorEq, forall_const, Q54])
        refine hM _ _ _ ?_; clear hM M
        refine ok_cond rfl (fun _ => ?_) (fun h => by cases h)
        refine ok_seq (fun M hM => ok_region rfl ?_); repeat ((try first | (refine z3 hX ?_; clear hX X) | (refine z2 hX ?_; clear hX X)); (first | refine zL fun X hX => ?_ | refine zH fun X hX => ?_ | refine zE fun X hX => ?_ | refine zl ?_ | refine zh ?_ | refine ze ?_); try simp only [oweC, oweP, opF, opH, ev, evs, evp, evo, Env.get, Env.set, putE, gdst, S0, S1, thenN, inBlockN, argEnv, builtinR, retE, fin, callR, reduceIte, Nat.reduceEqDiff, Nat.reduceAdd, reduceCtorEq, forall_const, Q54])
        refine hM _ _ _ ?_; clear hM M
        refine ok_ret ?_
        try simp only [wpL, wpH, wpE, oweC, oweP, opF, opH, ev, evs, evp, evo, Env.get, Env.set, putE, gdst, S0, S1, thenN, inBlockN, argEnv, builtinR, retE, fin, callR, reduceIte, Nat.reduceEqDiff, Nat.reduceAdd, reduceCtorEq, forall_const, Q54]
        refine ⟨?_, he02⟩
        have hne : ¬ k = k' := by simpa using h
        simp [eqV, hne]
    rintro w3 ⟨rfl, rfl, rfl, rfl, hll⟩
    refine ok_seq (fun M0 hM0 => ?_)
    refine ok_seq (fun M hM => ok_region rfl ?_); repeat ((try first | (refine z3 hX ?_; clear hX X) | (refine z2 hX ?_; clear hX X)); (first | refine zL fun X hX => ?_ | refine zH fun X hX => ?_ | refine zE fun X hX => ?_ | refine zl ?_ | refine zh ?_ | refine ze ?_); try simp only [oweC, oweP, opF, opH, ev, evs, evp, evo, Env.get, Env.set, putE, gdst, S0, S1, thenN, inBlockN, argEnv, builtinR, retE, fin, callR, reduceIte, Nat.reduceEqDiff, Nat.reduceAdd, reduceCtorEq, forall_const, Q54])
    refine hM _ _ _ ?_; clear hM M
    refine ok_block ?_
    refine ok_loop (S := Nat) (fun i => [(2, .pointer (some ⟨B1, 0, none⟩)), (3, .pointer (some ⟨B2, 0, none⟩)), (5, .int .i64 (i : Int))]) (fun i w' => Ext w3 w' ∧ i ≤ a.length ∧ ∀ (j : Nat) (x y : Val), j < i → a[j]? = some x → a'[j]? = some y → eqV x y = true) (fun i => a.length - i) 0 ?_ ?_ ?_
    · simp [sub, Env.get]
    · exact ⟨Ext.refl _, Nat.zero_le _, fun j x y h => absurd h (Nat.not_lt_zero _)⟩
    rintro i w4 ⟨he4, hi, hall⟩
    refine ok_seq (fun M1 hM1 => ?_)
    refine ok_seq (fun M hM => ok_region rfl ?_)
    repeat ((try first | (refine z3 hX ?_; clear hX X) | (refine z2 hX ?_; clear hX X)); (first | refine zL fun X hX => ?_ | refine zH fun X hX => ?_ | refine zE fun X hX => ?_ | refine zl ?_ | refine zh ?_ | refine ze ?_); try simp only [oweC, oweP, opF, opH, ev, evs, evp, evo, Env.get, Env.set, putE, gdst, S0, S1, thenN, inBlockN, argEnv, builtinR, retE, fin, callR, reduceIte, Nat.reduceEqDiff, Nat.reduceAdd, reduceCtorEq, forall_const, Q54])
    refine ⟨_, he4.cell (hA1 3 _ rfl), ?_⟩
    repeat ((try first | (refine z3 hX ?_; clear hX X) | (refine z2 hX ?_; clear hX X)); (first | refine zL fun X hX => ?_ | refine zH fun X hX => ?_ | refine zE fun X hX => ?_ | refine zl ?_ | refine zh ?_ | refine ze ?_); try simp only [oweC, oweP, opF, opH, ev, evs, evp, evo, Env.get, Env.set, putE, gdst, S0, S1, thenN, inBlockN, argEnv, builtinR, retE, fin, callR, reduceIte, Nat.reduceEqDiff, Nat.reduceAdd, reduceCtorEq, forall_const, Q54])
    refine hM _ _ _ ?_; clear hM M
    refine ok_if rfl (fun hc => ok_skip ?_) (fun hc => ok_exit ?_)
    rotate_left
    · try simp only [wpL, wpH, wpE, oweC, oweP, opF, opH, ev, evs, evp, evo, Env.get, Env.set, putE, gdst, S0, S1, thenN, inBlockN, argEnv, builtinR, retE, fin, callR, reduceIte, Nat.reduceEqDiff, Nat.reduceAdd, reduceCtorEq, forall_const, Q54]
      refine hM0 _ _ _ ?_; clear hM0 M0 hM1 M1
      refine ok_seq (fun M hM => ok_region rfl ?_); repeat ((try first | (refine z3 hX ?_; clear hX X) | (refine z2 hX ?_; clear hX X)); (first | refine zL fun X hX => ?_ | refine zH fun X hX => ?_ | refine zE fun X hX => ?_ | refine zl ?_ | refine zh ?_ | refine ze ?_); try simp only [oweC, oweP, opF, opH, ev, evs, evp, evo, Env.get, Env.set, putE, gdst, S0, S1, thenN, inBlockN, argEnv, builtinR, retE, fin, callR, reduceIte, Nat.reduceEqDiff, Nat.reduceAdd, reduceCtorEq, forall_const, Q54])
      refine hM _ _ _ ?_; clear hM M
      refine ok_ret ?_
      try simp only [wpL, wpH, wpE, oweC, oweP, opF, opH, ev, evs, evp, evo, Env.get, Env.set, putE, gdst, S0, S1, thenN, inBlockN, argEnv, builtinR, retE, fin, callR, reduceIte, Nat.reduceEqDiff, Nat.reduceAdd, reduceCtorEq, forall_const, Q54]
      refine ⟨?_, he02.trans he4⟩
      have : eqVs a a' = true := (eqVs_iff a a').2 ⟨hll, fun j x y hx hy => hall j x y (by have := (List.getElem?_eq_some_iff.1 hx).1; omega) hx hy⟩
      simp [eqV, this]
    · try simp only [wpL, wpH, wpE, oweC, oweP, opF, opH, ev, evs, evp, evo, Env.get, Env.set, putE, gdst, S0, S1, thenN, inBlockN, argEnv, builtinR, retE, fin, callR, reduceIte, Nat.reduceEqDiff, Nat.reduceAdd, reduceCtorEq, forall_const, Q54]
      refine hM1 _ _ _ ?_; clear hM1 M1
      have hil : i < a.length := by omega
      have hxi : a[i]? = some a[i] := List.getElem?_eq_getElem hil
      have hyi : a'[i]? = some (a'[i]'(by omega)) := List.getElem?_eq_getElem (by omega)
      obtain ⟨rr, hrr, hvr⟩ := hrows.get i _ hxi
      obtain ⟨ss, hss, hvs⟩ := hrows'.get i _ hyi
      obtain ⟨b, o, rfl, hcr⟩ := hcell i rr hrr
      obtain ⟨b', o', rfl, hcs⟩ := hcell' i ss hss
      have hr4 : rr.length = 4 := by generalize a[i] = q at hvr; cases q; simp only [VRow] at hvr; obtain ⟨_, rfl, _⟩ := hvr; rfl
      have hs4 : ss.length = 4 := by generalize a'[i] = q at hvs; cases q; simp only [VRow] at hvs; obtain ⟨_, rfl, _⟩ := hvs; rfl
      have hsz : SizeOf.sizeOf a[i] ≤ m := by
        have := List.sizeOf_lt_of_mem (List.getElem_mem hil)
        simp at hm
        omega
      refine ok_seq (fun M1 hM1 => ok_block ?_)
      refine ok_seq (fun M hM => ok_draw 12 [] (Ext _) Fx.mixed (by decide) rfl (by decide +kernel) (by decide +kernel) (Ext.drew _) ?_); repeat ((try first | (refine z3 hX ?_; clear hX X) | (refine z2 hX ?_; clear hX X)); (first | refine zL fun X hX => ?_ | refine zH fun X hX => ?_ | refine zE fun X hX => ?_ | refine zl ?_ | refine zh ?_ | refine ze ?_); try simp only [oweC, oweP, opF, opH, ev, evs, evp, evo, Env.get, Env.set, putE, gdst, S0, S1, thenN, inBlockN, argEnv, builtinR, retE, fin, callR, reduceIte, Nat.reduceEqDiff, Nat.reduceAdd, reduceCtorEq, forall_const, Q54])
      refine ⟨_, fun w5 h => h.cell (he4.cell (hA1 3 _ rfl)), ?_⟩
      repeat ((try first | (refine z3 hX ?_; clear hX X) | (refine z2 hX ?_; clear hX X)); (first | refine zL fun X hX => ?_ | refine zH fun X hX => ?_ | refine zE fun X hX => ?_ | refine zl ?_ | refine zh ?_ | refine ze ?_); try simp only [oweC, oweP, opF, opH, ev, evs, evp, evo, Env.get, Env.set, putE, gdst, S0, S1, thenN, inBlockN, argEnv, builtinR, retE, fin, callR, reduceIte, Nat.reduceEqDiff, Nat.reduceAdd, reduceCtorEq, forall_const, Q54])
      refine ⟨by omega, by omega, ?_⟩
      repeat ((try first | (refine z3 hX ?_; clear hX X) | (refine z2 hX ?_; clear hX X)); (first | refine zL fun X hX => ?_ | refine zH fun X hX => ?_ | refine zE fun X hX => ?_ | refine zl ?_ | refine zh ?_ | refine ze ?_); try simp only [oweC, oweP, opF, opH, ev, evs, evp, evo, Env.get, Env.set, putE, gdst, S0, S1, thenN, inBlockN, argEnv, builtinR, retE, fin, callR, reduceIte, Nat.reduceEqDiff, Nat.reduceAdd, reduceCtorEq, forall_const, Q54])
      refine ⟨rr, hr4, fun w5 h => h.cellsAt (he4.cellsAt (he02.cellsAt hcr)), ?_⟩
      repeat ((try first | (refine z3 hX ?_; clear hX X) | (refine z2 hX ?_; clear hX X)); (first | refine zL fun X hX => ?_ | refine zH fun X hX => ?_ | refine zE fun X hX => ?_ | refine zl ?_ | refine zh ?_ | refine ze ?_); try simp only [oweC, oweP, opF, opH, ev, evs, evp, evo, Env.get, Env.set, putE, gdst, S0, S1, thenN, inBlockN, argEnv, builtinR, retE, fin, callR, reduceIte, Nat.reduceEqDiff, Nat.reduceAdd, reduceCtorEq, forall_const, Q54])
      refine ⟨_, fun w5 h => h.cell (he4.cell (hA2 3 _ rfl)), ?_⟩
      repeat ((try first | (refine z3 hX ?_; clear hX X) | (refine z2 hX ?_; clear hX X)); (first | refine zL fun X hX => ?_ | refine zH fun X hX => ?_ | refine zE fun X hX => ?_ | refine zl ?_ | refine zh ?_ | refine ze ?_); try simp only [oweC, oweP, opF, opH, ev, evs, evp, evo, Env.get, Env.set, putE, gdst, S0, S1, thenN, inBlockN, argEnv, builtinR, retE, fin, callR, reduceIte, Nat.reduceEqDiff, Nat.reduceAdd, reduceCtorEq, forall_const, Q54])
      refine ⟨by omega, by omega, ?_⟩
      repeat ((try first | (refine z3 hX ?_; clear hX X) | (refine z2 hX ?_; clear hX X)); (first | refine zL fun X hX => ?_ | refine zH fun X hX => ?_ | refine zE fun X hX => ?_ | refine zl ?_ | refine zh ?_ | refine ze ?_); try simp only [oweC, oweP, opF, opH, ev, evs, evp, evo, Env.get, Env.set, putE, gdst, S0, S1, thenN, inBlockN, argEnv, builtinR, retE, fin, callR, reduceIte, Nat.reduceEqDiff, Nat.reduceAdd, reduceCtorEq, forall_const, Q54])
      refine ⟨ss, hs4, fun w5 h => h.cellsAt (he4.cellsAt (he02.cellsAt hcs)), ?_⟩
      repeat ((try first | (refine z3 hX ?_; clear hX X) | (refine z2 hX ?_; clear hX X)); (first | refine zL fun X hX => ?_ | refine zH fun X hX => ?_ | refine zE fun X hX => ?_ | refine zl ?_ | refine zh ?_ | refine ze ?_); try simp only [oweC, oweP, opF, opH, ev, evs, evp, evo, Env.get, Env.set, putE, gdst, S0, S1, thenN, inBlockN, argEnv, builtinR, retE, fin, callR, reduceIte, Nat.reduceEqDiff, Nat.reduceAdd, reduceCtorEq, forall_const, Q54])
      refine ⟨.bool (eqV a[i] (a'[i]'(by omega))), fun w5 h5 => Inv.call Fx.en54 (ih a[i] (a'[i]'(by omega)) w5 rr ss hsz (VRow.ext ((he02.trans he4).trans h5) _ _ hvr) (VRow.ext ((he02.trans he4).trans h5) _ _ hvs)) (fun v w6 ⟨h1, h2⟩ => ⟨h1, h5.trans h2⟩), ?_⟩
      repeat ((try first | (refine z3 hX ?_; clear hX X) | (refine z2 hX ?_; clear hX X)); (first | refine zL fun X hX => ?_ | refine zH fun X hX => ?_ | refine zE fun X hX => ?_ | refine zl ?_ | refine zh ?_ | refine ze ?_); try simp only [oweC, oweP, opF, opH, ev, evs, evp, evo, Env.get, Env.set, putE, gdst, S0, S1, thenN, inBlockN, argEnv, builtinR, retE, fin, callR, reduceIte, Nat.reduceEqDiff, Nat.reduceAdd, reduceCtorEq, forall_const, Q54])
      intro w5 he5
      repeat ((try first | (refine z3 hX ?_; clear hX X) | (refine z2 hX ?_; clear hX X)); (first | refine zL fun X hX => ?_ | refine zH fun X hX => ?_ | refine zE fun X hX => ?_ | refine zl ?_ | refine zh ?_ | refine ze ?_); try simp only [oweC, oweP, opF, opH, ev, evs, evp, evo, Env.get, Env.set, putE, gdst, S0, S1, thenN, inBlockN, argEnv, builtinR, retE, fin, callR, reduceIte, Nat.reduceEqDiff, Nat.reduceAdd, reduceCtorEq, forall_const, Q54])
      refine hM _ _ _ ?_; clear hM M
      refine ok_cond rfl (fun hc2 => ?_) (fun hc2 => ok_skip ?_)
      · refine ok_seq (fun M hM => ok_region rfl ?_); repeat ((try first | (refine z3 hX ?_; clear hX X) | (refine z2 hX ?_; clear hX X)); (first | refine zL fun X hX => ?_ | refine zH fun X hX => ?_ | refine zE fun X hX => ?_ | refine zl ?_ | refine zh ?_ | refine ze ?_); try simp only [oweC, oweP, opF, opH, ev, evs, evp, evo, Env.get, Env.set, putE, gdst, S0, S1, thenN, inBlockN, argEnv, builtinR, retE, fin, callR, reduceIte, Nat.reduceEqDiff, Nat.reduceAdd, reduceCtorEq, forall_const, Q54])
        refine hM _ _ _ ?_; clear hM M
        refine ok_ret ?_
        try simp only [wpL, wpH, wpE, oweC, oweP, opF, opH, ev, evs, evp, evo, Env.get, Env.set, putE, gdst, S0, S1, thenN, inBlockN, argEnv, builtinR, retE, fin, callR, reduceIte, Nat.reduceEqDiff, Nat.reduceAdd, reduceCtorEq, forall_const, Q54]
        refine ⟨?_, (he02.trans he4).trans he5⟩
        have hne : eqVs a a' = false := by
          cases hx : eqVs a a' with
          | false => rfl
          | true =>
            have := ((eqVs_iff a a').1 hx).2 i _ _ hxi hyi
            rw [this] at hc2; cases hc2
        simp [eqV, hne]
      · try simp only [wpL, wpH, wpE, oweC, oweP, opF, opH, ev, evs, evp, evo, Env.get, Env.set, putE, gdst, S0, S1, thenN, inBlockN, argEnv, builtinR, retE, fin, callR, reduceIte, Nat.reduceEqDiff, Nat.reduceAdd, reduceCtorEq, forall_const, Q54]
        refine hM1 _ _ _ ?_; clear hM1 M1
        refine ok_region rfl ?_
        repeat ((try first | (refine z3 hX ?_; clear hX X) | (refine z2 hX ?_; clear hX X)); (first | refine zL fun X hX => ?_ | refine zH fun X hX => ?_ | refine zE fun X hX => ?_ | refine zl ?_ | refine zh ?_ | refine ze ?_); try simp only [oweC, oweP, opF, opH, ev, evs, evp, evo, Env.get, Env.set, putE, gdst, S0, S1, thenN, inBlockN, argEnv, builtinR, retE, fin, callR, reduceIte, Nat.reduceEqDiff, Nat.reduceAdd, reduceCtorEq, forall_const, Q54])
        refine ⟨by simp only [inI]; omega, ?_⟩
        repeat ((try first | (refine z3 hX ?_; clear hX X) | (refine z2 hX ?_; clear hX X)); (first | refine zL fun X hX => ?_ | refine zH fun X hX => ?_ | refine zE fun X hX => ?_ | refine zl ?_ | refine zh ?_ | refine ze ?_); try simp only [oweC, oweP, opF, opH, ev, evs, evp, evo, Env.get, Env.set, putE, gdst, S0, S1, thenN, inBlockN, argEnv, builtinR, retE, fin, callR, reduceIte, Nat.reduceEqDiff, Nat.reduceAdd, reduceCtorEq, forall_const, Q54])
        refine ⟨i + 1, by simp [sub, Env.get], ⟨he4.trans he5, by omega, fun j x y hj hx hy => ?_⟩, by omega⟩
        rcases Nat.lt_or_ge j i with h | h
        · exact hall j x y h hx hy
        · have : j = i := by omega
          subst this
          rw [hxi] at hx; rw [hyi] at hy
          cases hx; cases hy
          simpa using hc2
end Go.Proofs.Ytafjfcameabbmaa
/- values of law 41. -/
set_option linter.unusedVariables false
set_option linter.unusedSimpArgs false
namespace Go.Proofs.Ytafjfcameabbmaa
open Go Go.Proofs.Vg Go.RowKit

-- -- function 41
set_option maxHeartbeats 2000000 in
set_option maxRecDepth 8000 in
theorem values_ok (w : World) (va vb : Value) (a a' : List Val) (ha : VSl w va a) (hb : VSl w vb a') : Rets Try.prog 41 [va, vb] w (fun v w' => v = .bool (eqVs a a') ∧ Ext w w') := by
  obtain ⟨-, -, rows, ⟨A, cp, rfl, hlen, hcell⟩, hrows⟩ := ha
  obtain ⟨-, -, rows', ⟨A', cp', rfl, hlen', hcell'⟩, hrows'⟩ := hb
  have hl := hrows.length
  have hl' := hrows'.length
  rw [hl, hl']
  refine rets_of_ok Try.func41 rfl rfl ?_
  refine ok_seq (fun M hM => ok_region rfl ?_); repeat ((try first | (refine z3 hX ?_; clear hX X) | (refine z2 hX ?_; clear hX X)); (first | refine zL fun X hX => ?_ | refine zH fun X hX => ?_ | refine zE fun X hX => ?_ | refine zl ?_ | refine zh ?_ | refine ze ?_); try simp only [oweC, oweP, opF, opH, ev, evs, evp, evo, Env.get, Env.set, putE, gdst, S0, S1, thenN, inBlockN, argEnv, builtinR, retE, fin, callR, reduceIte, Nat.reduceEqDiff, Nat.reduceAdd, reduceCtorEq, forall_const, Q41])
  refine hM _ _ _ ?_; clear hM M
  refine ok_join [(0, .slice A a.length cp), (1, .slice A' a'.length cp')] (fun w' => w' = w ∧ a.length = a'.length) ?_ ?_
  · refine ok_seq (fun M hM => ok_region rfl ?_); repeat ((try first | (refine z3 hX ?_; clear hX X) | (refine z2 hX ?_; clear hX X)); (first | refine zL fun X hX => ?_ | refine zH fun X hX => ?_ | refine zE fun X hX => ?_ | refine zl ?_ | refine zh ?_ | refine ze ?_); try simp only [oweC, oweP, opF, opH, ev, evs, evp, evo, Env.get, Env.set, putE, gdst, S0, S1, thenN, inBlockN, argEnv, builtinR, retE, fin, callR, reduceIte, Nat.reduceEqDiff, Nat.reduceAdd, reduceCtorEq, forall_const, Q41])
    refine hM _ _ _ ?_; clear hM M
    refine ok_ifn rfl (fun hc => ?_) (fun hc => ok_skip ?_)
    · refine ok_seq (fun M hM => ok_region rfl ?_); repeat ((try first | (refine z3 hX ?_; clear hX X) | (refine z2 hX ?_; clear hX X)); (first | refine zL fun X hX => ?_ | refine zH fun X hX => ?_ | refine zE fun X hX => ?_ | refine zl ?_ | refine zh ?_ | refine ze ?_); try simp only [oweC, oweP, opF, opH, ev, evs, evp, evo, Env.get, Env.set, putE, gdst, S0, S1, thenN, inBlockN, argEnv, builtinR, retE, fin, callR, reduceIte, Nat.reduceEqDiff, Nat.reduceAdd, reduceCtorEq, forall_const, Q41])
      refine hM _ _ _ ?_; clear hM M
      refine ok_ret ?_
      try simp only [wpL, wpH, wpE, oweC, oweP, opF, opH, ev, evs, evp, evo, Env.get, Env.set, putE, gdst, S0, S1, thenN, inBlockN, argEnv, builtinR, retE, fin, callR, reduceIte, Nat.reduceEqDiff, Nat.reduceAdd, reduceCtorEq, forall_const, Q41]
      refine ⟨?_, Ext.refl _⟩
      have hne : eqVs a a' = false := by
        cases hx : eqVs a a' with
        | false => rfl
        | true => have := ((eqVs_iff a a').1 hx).1; omega
      simp [hne]
    · try simp only [wpL, wpH, wpE, oweC, oweP, opF, opH, ev, evs, evp, evo, Env.get, Env.set, putE, gdst, S0, S1, thenN, inBlockN, argEnv, builtinR, retE, fin, callR, reduceIte, Nat.reduceEqDiff, Nat.reduceAdd, reduceCtorEq, forall_const, Q41]
      exact ⟨by simp [sub, Env.get], by omega⟩
  rintro w3 ⟨rfl, hll⟩
  refine ok_seq (fun M0 hM0 => ?_)
  refine ok_seq (fun M hM => ok_region rfl ?_); repeat ((try first | (refine z3 hX ?_; clear hX X) | (refine z2 hX ?_; clear hX X)); (first | refine zL fun X hX => ?_ | refine zH fun X hX => ?_ | refine zE fun X hX => ?_ | refine zl ?_ | refine zh ?_ | refine ze ?_); try simp only [oweC, oweP, opF, opH, ev, evs, evp, evo, Env.get, Env.set, putE, gdst, S0, S1, thenN, inBlockN, argEnv, builtinR, retE, fin, callR, reduceIte, Nat.reduceEqDiff, Nat.reduceAdd, reduceCtorEq, forall_const, Q41])
  refine hM _ _ _ ?_; clear hM M
  refine ok_block ?_
  refine ok_loop (S := Nat) (fun i => [(0, .slice A a.length cp), (1, .slice A' a'.length cp'), (5, .int .i64 (i : Int))]) (fun i w' => Ext w3 w' ∧ i ≤ a.length ∧ ∀ (j : Nat) (x y : Val), j < i → a[j]? = some x → a'[j]? = some y → eqV x y = true) (fun i => a.length - i) 0 ?_ ?_ ?_
  · simp [sub, Env.get]
  · exact ⟨Ext.refl _, Nat.zero_le _, fun j x y h => absurd h (Nat.not_lt_zero _)⟩
  rintro i w4 ⟨he4, hi, hall⟩
  refine ok_seq (fun M1 hM1 => ?_)
  refine ok_seq (fun M hM => ok_region rfl ?_); repeat ((try first | (refine z3 hX ?_; clear hX X) | (refine z2 hX ?_; clear hX X)); (first | refine zL fun X hX => ?_ | refine zH fun X hX => ?_ | refine zE fun X hX => ?_ | refine zl ?_ | refine zh ?_ | refine ze ?_); try simp only [oweC, oweP, opF, opH, ev, evs, evp, evo, Env.get, Env.set, putE, gdst, S0, S1, thenN, inBlockN, argEnv, builtinR, retE, fin, callR, reduceIte, Nat.reduceEqDiff, Nat.reduceAdd, reduceCtorEq, forall_const, Q41])
  refine hM _ _ _ ?_; clear hM M
  refine ok_if rfl (fun hc => ok_skip ?_) (fun hc => ok_exit ?_)
  rotate_left
  · try simp only [wpL, wpH, wpE, oweC, oweP, opF, opH, ev, evs, evp, evo, Env.get, Env.set, putE, gdst, S0, S1, thenN, inBlockN, argEnv, builtinR, retE, fin, callR, reduceIte, Nat.reduceEqDiff, Nat.reduceAdd, reduceCtorEq, forall_const, Q41]
    refine hM0 _ _ _ ?_; clear hM0 M0 hM1 M1
    refine ok_seq (fun M hM => ok_region rfl ?_); repeat ((try first | (refine z3 hX ?_; clear hX X) | (refine z2 hX ?_; clear hX X)); (first | refine zL fun X hX => ?_ | refine zH fun X hX => ?_ | refine zE fun X hX => ?_ | refine zl ?_ | refine zh ?_ | refine ze ?_); try simp only [oweC, oweP, opF, opH, ev, evs, evp, evo, Env.get, Env.set, putE, gdst, S0, S1, thenN, inBlockN, argEnv, builtinR, retE, fin, callR, reduceIte, Nat.reduceEqDiff, Nat.reduceAdd, reduceCtorEq, forall_const, Q41])
    refine hM _ _ _ ?_; clear hM M
    refine ok_ret ?_
    try simp only [wpL, wpH, wpE, oweC, oweP, opF, opH, ev, evs, evp, evo, Env.get, Env.set, putE, gdst, S0, S1, thenN, inBlockN, argEnv, builtinR, retE, fin, callR, reduceIte, Nat.reduceEqDiff, Nat.reduceAdd, reduceCtorEq, forall_const, Q41]
    refine ⟨?_, he4⟩
    have : eqVs a a' = true := (eqVs_iff a a').2 ⟨hll, fun j x y hx hy => hall j x y (by have := (List.getElem?_eq_some_iff.1 hx).1; omega) hx hy⟩
    simp [this]
  · try simp only [wpL, wpH, wpE, oweC, oweP, opF, opH, ev, evs, evp, evo, Env.get, Env.set, putE, gdst, S0, S1, thenN, inBlockN, argEnv, builtinR, retE, fin, callR, reduceIte, Nat.reduceEqDiff, Nat.reduceAdd, reduceCtorEq, forall_const, Q41]
    refine hM1 _ _ _ ?_; clear hM1 M1
    have hil : i < a.length := by omega
    have hxi : a[i]? = some a[i] := List.getElem?_eq_getElem hil
    have hyi : a'[i]? = some (a'[i]'(by omega)) := List.getElem?_eq_getElem (by omega)
    obtain ⟨rr, hrr, hvr⟩ := hrows.get i _ hxi
    obtain ⟨ss, hss, hvs⟩ := hrows'.get i _ hyi
    obtain ⟨b, o, rfl, hcr⟩ := hcell i rr hrr
    obtain ⟨b', o', rfl, hcs⟩ := hcell' i ss hss
    have hr4 : rr.length = 4 := by generalize a[i] = q at hvr; cases q; simp only [VRow] at hvr; obtain ⟨_, rfl, _⟩ := hvr; rfl
    have hs4 : ss.length = 4 := by generalize a'[i] = q at hvs; cases q; simp only [VRow] at hvs; obtain ⟨_, rfl, _⟩ := hvs; rfl
    refine ok_seq (fun M1 hM1 => ok_block ?_)
    refine ok_seq (fun M hM => ok_draw 10 [] (Ext _) Fx.mixed (by decide) rfl (by decide +kernel) (by decide +kernel) (Ext.drew _) ?_); repeat ((try first | (refine z3 hX ?_; clear hX X) | (refine z2 hX ?_; clear hX X)); (first | refine zL fun X hX => ?_ | refine zH fun X hX => ?_ | refine zE fun X hX => ?_ | refine zl ?_ | refine zh ?_ | refine ze ?_); try simp only [oweC, oweP, opF, opH, ev, evs, evp, evo, Env.get, Env.set, putE, gdst, S0, S1, thenN, inBlockN, argEnv, builtinR, retE, fin, callR, reduceIte, Nat.reduceEqDiff, Nat.reduceAdd, reduceCtorEq, forall_const, Q41])
    refine ⟨by omega, by omega, ?_⟩
    repeat ((try first | (refine z3 hX ?_; clear hX X) | (refine z2 hX ?_; clear hX X)); (first | refine zL fun X hX => ?_ | refine zH fun X hX => ?_ | refine zE fun X hX => ?_ | refine zl ?_ | refine zh ?_ | refine ze ?_); try simp only [oweC, oweP, opF, opH, ev, evs, evp, evo, Env.get, Env.set, putE, gdst, S0, S1, thenN, inBlockN, argEnv, builtinR, retE, fin, callR, reduceIte, Nat.reduceEqDiff, Nat.reduceAdd, reduceCtorEq, forall_const, Q41])
    refine ⟨rr, hr4, fun w5 h => h.cellsAt (he4.cellsAt hcr), ?_⟩
    repeat ((try first | (refine z3 hX ?_; clear hX X) | (refine z2 hX ?_; clear hX X)); (first | refine zL fun X hX => ?_ | refine zH fun X hX => ?_ | refine zE fun X hX => ?_ | refine zl ?_ | refine zh ?_ | refine ze ?_); try simp only [oweC, oweP, opF, opH, ev, evs, evp, evo, Env.get, Env.set, putE, gdst, S0, S1, thenN, inBlockN, argEnv, builtinR, retE, fin, callR, reduceIte, Nat.reduceEqDiff, Nat.reduceAdd, reduceCtorEq, forall_const, Q41])
    refine ⟨by omega, by omega, ?_⟩
    repeat ((try first | (refine z3 hX ?_; clear hX X) | (refine z2 hX ?_; clear hX X)); (first | refine zL fun X hX => ?_ | refine zH fun X hX => ?_ | refine zE fun X hX => ?_ | refine zl ?_ | refine zh ?_ | refine ze ?_); try simp only [oweC, oweP, opF, opH, ev, evs, evp, evo, Env.get, Env.set, putE, gdst, S0, S1, thenN, inBlockN, argEnv, builtinR, retE, fin, callR, reduceIte, Nat.reduceEqDiff, Nat.reduceAdd, reduceCtorEq, forall_const, Q41])
    refine ⟨ss, hs4, fun w5 h => h.cellsAt (he4.cellsAt hcs), ?_⟩
    repeat ((try first | (refine z3 hX ?_; clear hX X) | (refine z2 hX ?_; clear hX X)); (first | refine zL fun X hX => ?_ | refine zH fun X hX => ?_ | refine zE fun X hX => ?_ | refine zl ?_ | refine zh ?_ | refine ze ?_); try simp only [oweC, oweP, opF, opH, ev, evs, evp, evo, Env.get, Env.set, putE, gdst, S0, S1, thenN, inBlockN, argEnv, builtinR, retE, fin, callR, reduceIte, Nat.reduceEqDiff, Nat.reduceAdd, reduceCtorEq, forall_const, Q41])
    refine ⟨.bool (eqV a[i] (a'[i]'(by omega))), fun w5 h5 => Inv.call Fx.en54 (equal_ok _ a[i] (a'[i]'(by omega)) w5 rr ss (Nat.le_refl _) (VRow.ext (he4.trans h5) _ _ hvr) (VRow.ext (he4.trans h5) _ _ hvs)) (fun v w6 ⟨h1, h2⟩ => ⟨h1, h5.trans h2⟩), ?_⟩
    repeat ((try first | (refine z3 hX ?_; clear hX X) | (refine z2 hX ?_; clear hX X)); (first | refine zL fun X hX => ?_ | refine zH fun X hX => ?_ | refine zE fun X hX => ?_ | refine zl ?_ | refine zh ?_ | refine ze ?_); try simp only [oweC, oweP, opF, opH, ev, evs, evp, evo, Env.get, Env.set, putE, gdst, S0, S1, thenN, inBlockN, argEnv, builtinR, retE, fin, callR, reduceIte, Nat.reduceEqDiff, Nat.reduceAdd, reduceCtorEq, forall_const, Q41])
    intro w5 he5
    repeat ((try first | (refine z3 hX ?_; clear hX X) | (refine z2 hX ?_; clear hX X)); (first | refine zL fun X hX => ?_ | refine zH fun X hX => ?_ | refine zE fun X hX => ?_ | refine zl ?_ | refine zh ?_ | refine ze ?_); try simp only [oweC, oweP, opF, opH, ev, evs, evp, evo, Env.get, Env.set, putE, gdst, S0, S1, thenN, inBlockN, argEnv, builtinR, retE, fin, callR, reduceIte, Nat.reduceEqDiff, Nat.reduceAdd, reduceCtorEq, forall_const, Q41])
    refine hM _ _ _ ?_; clear hM M
    refine ok_cond rfl (fun hc2 => ?_) (fun hc2 => ok_skip ?_)
    · refine ok_seq (fun M hM => ok_region rfl ?_); repeat ((try first | (refine z3 hX ?_; clear hX X) | (refine z2 hX ?_; clear hX X)); (first | refine zL fun X hX => ?_ | refine zH fun X hX => ?_ | refine zE fun X hX => ?_ | refine zl ?_ | refine zh ?_ | refine ze ?_); try simp only [oweC, oweP, opF, opH, ev, evs, evp, evo, Env.get, Env.set, putE, gdst, S0, S1, thenN, inBlockN, argEnv, builtinR, retE, fin, callR, reduceIte, Nat.reduceEqDiff, Nat.reduceAdd, reduceCtorEq, forall_const, Q41])
      refine hM _ _ _ ?_; clear hM M
      refine ok_ret ?_
      try simp only [wpL, wpH, wpE, oweC, oweP, opF, opH, ev, evs, evp, evo, Env.get, Env.set, putE, gdst, S0, S1, thenN, inBlockN, argEnv, builtinR, retE, fin, callR, reduceIte, Nat.reduceEqDiff, Nat.reduceAdd, reduceCtorEq, forall_const, Q41]
      refine ⟨?_, he4.trans he5⟩
      have hne : eqVs a a' = false := by
        cases hx : eqVs a a' with
        | false => rfl
        | true =>
          have := ((eqVs_iff a a').1 hx).2 i _ _ hxi hyi
          rw [this] at hc2; cases hc2
      simp [hne]
    · try simp only [wpL, wpH, wpE, oweC, oweP, opF, opH, ev, evs, evp, evo, Env.get, Env.set, putE, gdst, S0, S1, thenN, inBlockN, argEnv, builtinR, retE, fin, callR, reduceIte, Nat.reduceEqDiff, Nat.reduceAdd, reduceCtorEq, forall_const, Q41]
      refine hM1 _ _ _ ?_; clear hM1 M1
      refine ok_region rfl ?_
      repeat ((try first | (refine z3 hX ?_; clear hX X) | (refine z2 hX ?_; clear hX X)); (first | refine zL fun X hX => ?_ | refine zH fun X hX => ?_ | refine zE fun X hX => ?_ | refine zl ?_ | refine zh ?_ | refine ze ?_); try simp only [oweC, oweP, opF, opH, ev, evs, evp, evo, Env.get, Env.set, putE, gdst, S0, S1, thenN, inBlockN, argEnv, builtinR, retE, fin, callR, reduceIte, Nat.reduceEqDiff, Nat.reduceAdd, reduceCtorEq, forall_const, Q41])
      refine ⟨by simp only [inI]; omega, ?_⟩
      repeat ((try first | (refine z3 hX ?_; clear hX X) | (refine z2 hX ?_; clear hX X)); (first | refine zL fun X hX => ?_ | refine zH fun X hX => ?_ | refine zE fun X hX => ?_ | refine zl ?_ | refine zh ?_ | refine ze ?_); try simp only [oweC, oweP, opF, opH, ev, evs, evp, evo, Env.get, Env.set, putE, gdst, S0, S1, thenN, inBlockN, argEnv, builtinR, retE, fin, callR, reduceIte, Nat.reduceEqDiff, Nat.reduceAdd, reduceCtorEq, forall_const, Q41])
      refine ⟨i + 1, by simp [sub, Env.get], ⟨he4.trans he5, by omega, fun j x y hj hx hy => ?_⟩, by omega⟩
      rcases Nat.lt_or_ge j i with h | h
      · exact hall j x y h hx hy
      · have : j = i := by omega
        subst this
        rw [hxi] at hx; rw [hyi] at hy
        cases hx; cases hy
        simpa using hc2
end Go.Proofs.Ytafjfcameabbmaa
/- Values with a footprint: what they lead to lies in S. -/
set_option linter.unusedVariables false
set_option linter.unusedSimpArgs false
namespace Go.Proofs.Vg
open Go Go.RowKit
theorem VRow.len {w : World} {r : List Value} {x : Val} (h : VRow w r x) : r.length = 4 := by
  cases x; simp only [VRow] at h; obtain ⟨_, rfl, _⟩ := h; rfl
theorem VRow.one {w : World} {r : List Value} {x : Val} (h : VRow w r x) : ∀ u ∈ r, u.oneCell' = true := by
  cases x; simp only [VRow] at h
  obtain ⟨v, rfl, h1, h2, _⟩ := h
  intro u hu; simp at hu; rcases hu with rfl | rfl | rfl | rfl <;> first | rfl | exact h1
theorem VRow.cells {w : World} {r : List Value} {x : Val} (h : VRow w r x) : (Value.agg r.toArray).cells = r.toArray := rfl
def SliS (w : World) (S : Nat → Prop) (sz : Nat) (v : Value) (rows : List (List Value)) : Prop :=
  ∃ A c, v = .slice A rows.length c ∧ rows.length ≤ 140737488355328 ∧ ∀ (j : Nat) (row : List Value), rows[j]? = some row → ∃ b o, A = some ⟨b, o, none⟩ ∧ S b ∧ cellsAt w ⟨b, o + j * sz, none⟩ row
theorem SliS.sli {w : World} {S : Nat → Prop} {sz : Nat} {v : Value} {rows : List (List Value)} (h : SliS w S sz v rows) : Sli w sz v rows := by
  obtain ⟨A, c, h1, h2, h3⟩ := h
  exact ⟨A, c, h1, h2, fun j row hj => by obtain ⟨b, o, h4, _, h5⟩ := h3 j row hj; exact ⟨b, o, h4, h5⟩⟩
mutual
/-- Four cells that read as a value; what they lead to lies in 'S'. -/
def VRowS (w : World) (S : Nat → Prop) : List Value → Val → Prop
  | row, .mk k n t args => ∃ v, row = [.int .i64 k, .int .i64 n, .string t, v] ∧ v.oneCell' = true ∧ v.cells = #[v] ∧ ∃ rows, SliS w S 4 v rows ∧ VRowsS w S rows args
def VRowsS (w : World) (S : Nat → Prop) : List (List Value) → List Val → Prop
  | [], [] => True
  | r :: rs, x :: xs => VRowS w S r x ∧ VRowsS w S rs xs
  | _, _ => False
end
mutual
theorem VRowS.row {w : World} {S : Nat → Prop} : ∀ (row : List Value) (x : Val), VRowS w S row x → VRow w row x
  | row, .mk k n t args, h => by
    simp only [VRowS] at h
    simp only [VRow]
    obtain ⟨v, h1, h2, h3, rows, h4, h5⟩ := h
    exact ⟨v, h1, h2, h3, rows, h4.sli, VRowsS.rows rows args h5⟩
theorem VRowsS.rows {w : World} {S : Nat → Prop} : ∀ (rows : List (List Value)) (xs : List Val), VRowsS w S rows xs → VRows w rows xs
  | [], [], _ => by simp only [VRows]
  | r :: rs, x :: xs, h => by
    simp only [VRowsS] at h
    simp only [VRows]
    exact ⟨VRowS.row r x h.1, VRowsS.rows rs xs h.2⟩
  | [], _ :: _, h => by simp [VRowsS] at h
  | _ :: _, [], h => by simp [VRowsS] at h
end
mutual
theorem VRowS.chg {w w' : World} {S S' T : Nat → Prop} (hc : Chg T w w') (hs : ∀ k, S k → S' k ∧ ¬ T k) : ∀ (row : List Value) (x : Val), VRowS w S row x → VRowS w' S' row x
  | row, .mk k n t args, h => by
    simp only [VRowS] at h ⊢
    obtain ⟨v, h1, h2, h3, rows, ⟨A, c, h6, h7, h8⟩, h5⟩ := h
    refine ⟨v, h1, h2, h3, rows, ⟨A, c, h6, h7, fun j row hj => ?_⟩, VRowsS.chg hc hs rows args h5⟩
    obtain ⟨b, o, h9, h10, h11⟩ := h8 j row hj
    exact ⟨b, o, h9, (hs b h10).1, hc.cellsAt h11 (hs b h10).2⟩
theorem VRowsS.chg {w w' : World} {S S' T : Nat → Prop} (hc : Chg T w w') (hs : ∀ k, S k → S' k ∧ ¬ T k) : ∀ (rows : List (List Value)) (xs : List Val), VRowsS w S rows xs → VRowsS w' S' rows xs
  | [], [], _ => by simp only [VRowsS]
  | r :: rs, x :: xs, h => by
    simp only [VRowsS] at h ⊢
    exact ⟨VRowS.chg hc hs r x h.1, VRowsS.chg hc hs rs xs h.2⟩
  | [], _ :: _, h => by simp [VRowsS] at h
  | _ :: _, [], h => by simp [VRowsS] at h
end
theorem VRowsS.snoc {w : World} {S : Nat → Prop} {r : List Value} {x : Val} : ∀ (rows : List (List Value)) (xs : List Val), VRowsS w S rows xs → VRowS w S r x → VRowsS w S (rows ++ [r]) (xs ++ [x])
  | [], [], _, h => by simp only [List.nil_append, VRowsS]; exact ⟨h, trivial⟩
  | r' :: rs, x' :: xs, h, h' => by
    simp only [List.cons_append, VRowsS] at h ⊢
    exact ⟨h.1, VRowsS.snoc rs xs h.2 h'⟩
  | [], _ :: _, h, _ => by simp [VRowsS] at h
  | _ :: _, [], h, _ => by simp [VRowsS] at h
theorem VRowsS.length {w : World} {S : Nat → Prop} {rows : List (List Value)} {xs : List Val} (h : VRowsS w S rows xs) : rows.length = xs.length := (VRowsS.rows rows xs h).length
theorem VRowsS.len4 {w : World} {S : Nat → Prop} : ∀ (rows : List (List Value)) (xs : List Val), VRowsS w S rows xs → ∀ r ∈ rows, r.length = 4
  | [], [], _ => by simp
  | r' :: rs, x' :: xs, h => by
    simp only [VRowsS] at h
    intro r hr
    rcases List.mem_cons.1 hr with rfl | hr
    · exact (VRowS.row _ _ h.1).len
    · exact VRowsS.len4 rs xs h.2 r hr
  | [], _ :: _, h => by simp [VRowsS] at h
  | _ :: _, [], h => by simp [VRowsS] at h
mutual
/-- What reads leads below the world's size. -/
theorem VRow.toS {w : World} : ∀ (row : List Value) (x : Val), VRow w row x → VRowS w (fun k => k < w.heap.size) row x
  | row, .mk k n t args, h => by
    simp only [VRow] at h
    simp only [VRowS]
    obtain ⟨v, h1, h2, h3, rows, ⟨A, c, h6, h7, h8⟩, h5⟩ := h
    refine ⟨v, h1, h2, h3, rows, ⟨A, c, h6, h7, fun j row hj => ?_⟩, VRows.toS rows args h5⟩
    obtain ⟨b, o, h9, h10⟩ := h8 j row hj
    refine ⟨b, o, h9, ?_, h10⟩
    have hjl : j < args.length := by have := (List.getElem?_eq_some_iff.1 hj).1; rw [← VRows.length h5]; exact this
    obtain ⟨r, hr, hv⟩ := VRows.get h5 j _ (List.getElem?_eq_getElem hjl)
    rw [hj] at hr; cases hr
    have hl := hv.len
    have hc := h10 0 (row[0]'(by omega)) (List.getElem?_eq_getElem _)
    have := World.block_lt_of_cell? w _ hc
    simpa [add_at] using this
theorem VRows.toS {w : World} : ∀ (rows : List (List Value)) (xs : List Val), VRows w rows xs → VRowsS w (fun k => k < w.heap.size) rows xs
  | [], [], _ => by simp only [VRowsS]
  | r :: rs, x :: xs, h => by
    simp only [VRows] at h
    simp only [VRowsS]
    exact ⟨VRow.toS r x h.1, VRows.toS rs xs h.2⟩
  | [], _ :: _, h => by simp [VRows] at h
  | _ :: _, [], h => by simp [VRows] at h
end
theorem VRowsS.get {w : World} {S : Nat → Prop} : ∀ {rows : List (List Value)} {xs : List Val}, VRowsS w S rows xs → ∀ (i : Nat) (x : Val), xs[i]? = some x → ∃ r, rows[i]? = some r ∧ VRowS w S r x
  | [], [], _, i, x, hx => by simp at hx
  | r :: rs, y :: xs, h, i, x, hx => by
    simp only [VRowsS] at h
    cases i with
    | zero => simp at hx; subst hx; exact ⟨r, rfl, h.1⟩
    | succ i => exact VRowsS.get h.2 i x (by simpa using hx)
  | [], _ :: _, h, _, _, _ => by simp [VRowsS] at h
  | _ :: _, [], h, _, _, _ => by simp [VRowsS] at h
theorem VRowS.ext {w w' : World} {S : Nat → Prop} {row : List Value} {x : Val} (h : VRowS w S row x) (he : Ext w w') : VRowS w' S row x := VRowS.chg (he.chg (fun _ => False)) (fun k hk => ⟨hk, id⟩) row x h
end Go.Proofs.Vg
/- append of rows to one's own row; empty literals; structs built of parts. -/
set_option linter.unusedVariables false
set_option linter.unusedSimpArgs false
namespace Go.Proofs.Vg
open Go Go.RowKit
/-- An empty literal. -/
theorem Runs.lit00 {P : Program} {w : World} {t : TypeId} {e : Nat} {nx : Value → World → Prop} {z : Option Value} {sz by_ : Nat} (ht : P.underlying t = some (.slice e)) (hz : zinfo P e = some (z, sz, by_))
    (h : ∀ w1, Ext w w1 → w1.heap.size = w.heap.size + 1 → Blk w1 w.heap.size [] e → nx (.slice (some ⟨w.heap.size, 0, none⟩) 0 0) w1) : Runs P (Instr.buildSlice t 0 (#[] : Array (Nat × Value))) w nx := by
  obtain ⟨i, hi, hzz, hs, hb⟩ := zinfo_some hz
  refine ⟨_, newW w [] e, ?_, h _ (newW_ext _ _ _) (newW_size _ _ _) (newW_blk _ _ _)⟩
  simp [Instr.buildSlice, run_underlying ht, sizeOf, typeInfo, hi, newRow, newObj, Sem.run, newW, Instr.fill]
  congr 2
  exact Array.ext (by simp) (fun i h => by simp at h)
/-- A struct's places and zero cells. -/
def stInf (P : Program) (t : TypeId) : Option (List (Nat × Nat) × Array Value) := match P.info? t, P.underlying t with
  | some it, some (.struct fields) => (match it.zero, fields.toList.mapM (fun f => (P.info? f.type).map fun i => (f.offset, i.size)) with
    | some z, some places => some (places, z.cells)
    | _, _ => none)
  | _, _ => none
theorem built_of {P : Program} {t : TypeId} {pl : List (Nat × Nat)} {zc : Array Value} {parts : List (Nat × Value)} (h : stInf P t = some (pl, zc)) : P.built t parts = Instr.fill (pl.toArray[·]?) zc parts := by
  unfold stInf at h
  unfold Program.built
  split at h
  · rename_i it fields h1 h2
    rw [h1, h2]
    simp only
    split at h
    · rename_i z places h3 h4
      rw [h3, h4]
      cases h
      rfl
    · cases h
  · cases h
theorem run_append_none' {P : Program} {w : World} (base : Nat) (t ty e : TypeId) (i : TypeInfo) (size : Nat) (ht : P.underlying t = some (.slice e)) (hi : P.info? e = some i)
    (v : Value) (n c : Nat) (xs : List Value) (hown : w.ownsRow base e size v n xs) :
    (Builtin.append_ #[t, t] ty #[v, .slice none 0 c]).run P w = .ok v w := by
  rcases hown.2 with ⟨rfl, rfl⟩ | ⟨g, cap, cur, rfl, _, _, hnc, _⟩
  · simp [Builtin.append_, run_underlying ht, sizeOf, typeInfo, hi, Builtin.lenOf, Builtin.firstCells]
  · simp [Builtin.append_, run_underlying ht, sizeOf, typeInfo, hi, Builtin.lenOf, Builtin.firstCells, hnc, storeCells]
theorem flat_get {sz : Nat} : ∀ (rows : List (List Value)), (∀ r ∈ rows, r.length = sz) → ∀ (m : Nat) (u : Value), rows.flatten[m]? = some u → 0 < sz → ∃ j k row, rows[j]? = some row ∧ row[k]? = some u ∧ m = j * sz + k := by
  intro rows
  induction rows with
  | nil => intro _ m u h; simp at h
  | cons r rs ih =>
    intro hr m u h hs
    have h0 := hr r List.mem_cons_self
    rw [List.flatten_cons] at h
    rcases Nat.lt_or_ge m r.length with hm | hm
    · rw [List.getElem?_append_left hm] at h
      exact ⟨0, m, r, rfl, h, by omega⟩
    · rw [List.getElem?_append_right hm] at h
      obtain ⟨j, k, row, h1, h2, h3⟩ := ih (fun x hx => hr x (List.mem_cons_of_mem _ hx)) _ u h hs
      exact ⟨j + 1, k, row, by simpa using h1, h2, by rw [Nat.add_mul]; omega⟩
/-- append of a slice's rows to one's own row. -/
theorem Runs.appendR {P : Program} {w : World} {t ty e : TypeId} {z : Value} {sz by_ base : Nat} (ht : P.underlying t = some (.slice e)) (hz : zinfo P e = some (some z, sz, by_)) (hzs : z.cells.size = sz) (hsz : 0 < sz)
    {v vs : Value} {n : Nat} {xs : List Value} {rows : List (List Value)} (hown : w.ownsRow base e sz v n xs) (hs : Sli w sz vs rows) (hr : ∀ r ∈ rows, r.length = sz ∧ ∀ u ∈ r, u.oneCell' = true)
    (h63 : n + rows.length ≤ maxLen) (hbytes : (n + rows.length) * by_ ≤ 140737488355328) (hbase : base ≤ w.heap.size) {cs : Array Bool} {nx : Value → World → Prop}
    (h : ∀ v' w', w'.ownsRow base e sz v' (n + rows.length) (xs ++ rows.flatten) → w.grownBy w' v.ownBlock → (v'.ownBlock = v.ownBlock ∨ v'.ownBlock = some w.heap.size) → nx v' w') :
    Runs P (builtin .append #[t, t] ty cs [v, vs].toArray) w (builtinR nx) := by
  obtain ⟨i, hi, hzz, hsi, hbb⟩ := zinfo_some hz
  obtain ⟨A, c, rfl, hl, hcell⟩ := hs
  have fin : ∀ v' w', (Builtin.append_ #[t, t] ty #[v, .slice A rows.length c]).run P w = .ok v' w' → nx v' w' → Runs P (builtin .append #[t, t] ty cs [v, .slice A rows.length c].toArray) w (builtinR nx) := fun v' w' hr hn => by
    refine ⟨.value v', w', ?_, hn⟩
    simp only [builtin]
    rw [Sem.run_bind]
    have : [v, Value.slice A rows.length c].toArray = #[v, .slice A rows.length c] := rfl
    rw [this, hr]
    rfl
  cases hA : A with
  | none =>
    subst hA
    have hy : rows = [] := by
      cases rows with
      | nil => rfl
      | cons y ys => obtain ⟨b, o, h1, _⟩ := hcell 0 y rfl; cases h1
    subst hy
    refine fin v w (run_append_none' base t ty e i sz ht hi v n c xs hown) (h v w ?_ ⟨rfl, rfl, rfl, Nat.le_refl _, fun _ _ _ => rfl⟩ (.inl rfl))
    simpa using hown
  | some a =>
    subst hA
    have hlen : ∀ (rs : List (List Value)), (∀ r ∈ rs, r.length = sz) → rs.flatten.length = rs.length * sz := by
      intro rs
      induction rs with
      | nil => intro _; simp
      | cons r rs ih => intro h; rw [List.flatten_cons, List.length_append, h r List.mem_cons_self, ih (fun x hx => h x (List.mem_cons_of_mem _ hx)), List.length_cons, Nat.add_mul]; omega
    obtain ⟨v', w', hr2, ho, hg, _, hown2⟩ := run_append_own_at (P := P) w base t ty e i z sz by_ ht hi hzz hsi hbb hzs hsz v n xs hown a rows.length c rows.flatten (hlen rows fun r hr' => (hr r hr').1)
      (fun m u hm => by
        obtain ⟨j, k, row, h1, h2, h3⟩ := flat_get rows (fun r hr' => (hr r hr').1) m u hm hsz
        obtain ⟨b, o, h4, h5⟩ := hcell j row h1
        cases h4
        have := h5 k u h2
        rw [add_at] at this ⊢
        rw [h3, ← Nat.add_assoc]; exact this)
      (fun u hu => by obtain ⟨r, hr1, hr2⟩ := List.mem_flatten.1 hu; exact (hr r hr1).2 u hr2) h63 hbytes hbase
    exact fin v' w' hr2 (h v' w' ho hg hown2)
/-- append of one element that lies in a block of its own: where the row lies then. -/
theorem Runs.append1' {P : Program} {w : World} {t ty e : TypeId} {z : Value} {sz by_ base : Nat} (ht : P.underlying t = some (.slice e)) (hz : zinfo P e = some (some z, sz, by_)) (hzs : z.cells.size = sz) (hsz : 0 < sz)
    {v : Value} {n : Nat} {xs : List Value} (hown : w.ownsRow base e sz v n xs) {b : Nat} {news : List Value} {c : Nat} {eb : TypeId} (hb : Blk w b news eb) (hl : news.length = sz) (h1 : ∀ u ∈ news, u.oneCell' = true)
    (h63 : n + 1 ≤ maxLen) (hbytes : (n + 1) * by_ ≤ 140737488355328) (hbase : base ≤ w.heap.size) {cs : Array Bool} {nx : Value → World → Prop}
    (h : ∀ v' w', w'.ownsRow base e sz v' (n + 1) (xs ++ news) → w.grownBy w' v.ownBlock → (v'.ownBlock = v.ownBlock ∨ v'.ownBlock = some w.heap.size) → nx v' w') :
    Runs P (builtin .append #[t, t] ty cs [v, .slice (some ⟨b, 0, none⟩) 1 c].toArray) w (builtinR nx) := by
  refine Runs.appendR (rows := [news]) ht hz hzs hsz hown ⟨some ⟨b, 0, none⟩, c, rfl, by simp, fun j row hj => ⟨b, 0, rfl, ?_⟩⟩ (by simpa using ⟨hl, h1⟩) h63 hbytes hbase (by simpa using h)
  have hj0 : j = 0 := by have := (List.getElem?_eq_some_iff.1 hj).1; simp at this; exact this
  subst hj0
  simp at hj; subst hj
  rw [Nat.zero_mul]
  exact hb.cells (o := 0) (fun j u hj => by simpa using hj)
end Go.Proofs.Vg
/- Values: how many parts; copies.  -/
set_option linter.unusedVariables false
set_option linter.unusedSimpArgs false
namespace Go.Proofs.Vg
open Go Go.RowKit
mutual
/-- No list within is longer than memory lets it be. -/
def smV : Val → Prop
  | .mk _ _ _ args => args.length ≤ 2513169434843 ∧ smE args
def smE : List Val → Prop
  | [] => True
  | x :: xs => smV x ∧ smE xs
end
def SmVs (l : List Val) : Prop := l.length ≤ 2513169434843 ∧ smE l
theorem smE_get (l : List Val) : ∀ (i : Nat) (x : Val), smE l → l[i]? = some x → smV x := by
  induction l with
  | nil => intro i x _ h; simp at h
  | cons y l ih =>
    intro i x hs h
    simp only [smE] at hs
    cases i with
    | zero => simp at h; subst h; exact hs.1
    | succ i => exact ih i x hs.2 (by simpa using h)
theorem SmVs.get {l : List Val} (h : SmVs l) {i : Nat} {k n : Int} {t : ByteArray} {a : List Val} (hx : l[i]? = some (.mk k n t a)) : SmVs a := by
  have := smE_get l i _ h.2 hx
  simp only [smV] at this
  exact this
/-- A slice of values, what it leads to in S. -/
def VSlS (w : World) (S : Nat → Prop) (v : Value) (xs : List Val) : Prop := v.oneCell' = true ∧ v.cells = #[v] ∧ ∃ rows, SliS w S 4 v rows ∧ VRowsS w S rows xs
theorem VSlS.vsl {w : World} {S : Nat → Prop} {v : Value} {xs : List Val} (h : VSlS w S v xs) : VSl w v xs := by
  obtain ⟨h1, h2, rows, h3, h4⟩ := h
  exact ⟨h1, h2, rows, h3.sli, VRowsS.rows _ _ h4⟩
theorem SliS.chg {w w' : World} {S S' T : Nat → Prop} {sz : Nat} {v : Value} {rows : List (List Value)} (h : SliS w S sz v rows) (hc : Chg T w w') (hs : ∀ k, S k → S' k ∧ ¬ T k) : SliS w' S' sz v rows := by
  obtain ⟨A, c, h1, h2, h3⟩ := h
  refine ⟨A, c, h1, h2, fun j row hj => ?_⟩
  obtain ⟨b, o, h4, h5, h6⟩ := h3 j row hj
  exact ⟨b, o, h4, (hs b h5).1, hc.cellsAt h6 (hs b h5).2⟩
theorem VSlS.chg {w w' : World} {S S' T : Nat → Prop} {v : Value} {xs : List Val} (h : VSlS w S v xs) (hc : Chg T w w') (hs : ∀ k, S k → S' k ∧ ¬ T k) : VSlS w' S' v xs := by
  obtain ⟨h1, h2, rows, h3, h4⟩ := h
  exact ⟨h1, h2, rows, h3.chg hc hs, VRowsS.chg hc hs _ _ h4⟩
theorem VSlS.nil (w : World) (S : Nat → Prop) : VSlS w S (.slice none 0 0) [] := ⟨rfl, rfl, [], ⟨none, 0, rfl, by simp, fun j row hj => by simp at hj⟩, by simp only [VRowsS]⟩
theorem VSl.toS {w : World} {v : Value} {xs : List Val} (h : VSl w v xs) : VSlS w (fun k => k < w.heap.size) v xs := by
  obtain ⟨h1, h2, rows, ⟨A, c, h3, h4, h5⟩, h6⟩ := h
  refine ⟨h1, h2, rows, ⟨A, c, h3, h4, fun j row hj => ?_⟩, VRows.toS _ _ h6⟩
  obtain ⟨b, o, h7, h8⟩ := h5 j row hj
  refine ⟨b, o, h7, ?_, h8⟩
  have hjl : j < xs.length := by have := (List.getElem?_eq_some_iff.1 hj).1; rw [← VRows.length h6]; exact this
  obtain ⟨r, hr, hv⟩ := VRows.get h6 j _ (List.getElem?_eq_getElem hjl)
  rw [hj] at hr; cases hr
  have hl := hv.len
  have hc := h8 0 (row[0]'(by omega)) (List.getElem?_eq_getElem _)
  have := World.block_lt_of_cell? w _ hc
  simpa [add_at] using this
theorem owns_chg' {w w' : World} {S : Nat → Prop} {base e sz n : Nat} {v : Value} {xs : List Value} (h : w.ownsRow base e sz v n xs) (hc : Chg S w w') (hs : ∀ k, v.ownBlock = some k → ¬ S k) : w'.ownsRow base e sz v n xs := by
  refine ⟨h.1, ?_⟩
  rcases h.2 with hn | ⟨g, cap, cur, rfl, hb, hgg, rest⟩
  · exact .inl hn
  · refine .inr ⟨g, cap, cur, rfl, hb, ?_, rest⟩
    rw [hc.block g (Array.getElem?_eq_some_iff.1 hgg).1 (hs g rfl)]
    exact hgg
theorem grown_chg {w w' : World} {v : Value} (hg : w.grownBy w' v.ownBlock) : Chg (fun k => v.ownBlock = some k) w w' :=
  ⟨hg.os, hg.tape, hg.output, hg.size, fun k hk hs => hg.block k hk (fun e => hs e.symm)⟩
end Go.Proofs.Vg
namespace Go.Proofs.Ytafjfcameabbmaa
open Go Go.Proofs.Vg Go.RowKit
theorem Fx.zi93' : zinfo Try.prog 93 = some (some (.agg #[.int .i64 0, .int .i64 0, .string ByteArray.empty, .slice none 0 0]), 4, 56) := by kernel_rfl
theorem Fx.zi35' : zinfo Try.prog 35 = some (some (.slice none 0 0), 1, 24) := by kernel_rfl
theorem Fx.un35' : Try.prog.underlying 35 = some (.slice 93) := by kernel_rfl
end Go.Proofs.Ytafjfcameabbmaa
