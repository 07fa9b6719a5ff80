/- DebugTrees: for every slice of events and every number, whatever they are, the law returns true, and what came in reads as it did. No condition but the row's own. -/
import Derived.Test.YtafjfcameabbmaaM13
import Derived.Test.YtafjfcameabbmaaM3
import Derived.Test.YtafjfcameabbmaaM12
import Derived.Test.YtafjfcameabbmaaM4
/- large, awake. -/
set_option linter.unusedVariables false
set_option linter.unusedSimpArgs false
namespace Go.Proofs.Ytafjfcameabbmaa
open Go Go.Proofs.Vg Go.RowKit Dbg

-- -- function 8
set_option maxRecDepth 4000 in
theorem large_ok (w : World) (vn : Value) (ks : List (List Int)) (hn : NodesG w vn ks) : Rets Try.prog 8 [vn] w (fun v w' => v = .bool (decide (200 < ks.length + ks.flatten.length)) ∧ w' = w) := by
  obtain ⟨A, cp, rfl, hlen, hrow⟩ := hn.at_
  clear hn
  refine rets_of_ok Try.func8 rfl rfl ?_
  refine ok_seq (fun M hM => ok_region rfl ?_); repeat ((try first | (refine z3 hX ?_; clear hX X) | (refine z2 hX ?_; clear hX X)); (first | refine zL fun X hX => ?_ | refine zH fun X hX => ?_ | refine zE fun X hX => ?_ | refine zl ?_ | refine zh ?_ | refine ze ?_); try simp only [oweC, oweP, opF, opH, ev, evs, evp, evo, Env.get, Env.set, putE, gdst, S0, S1, thenN, inBlockN, argEnv, builtinR, retE, fin, callR, reduceIte, Nat.reduceEqDiff, Nat.reduceAdd, reduceCtorEq, forall_const, Q8])
  refine hM _ _ _ ?_; clear hM M
  refine ok_seq (fun M hM => ok_region rfl ?_); repeat ((try first | (refine z3 hX ?_; clear hX X) | (refine z2 hX ?_; clear hX X)); (first | refine zL fun X hX => ?_ | refine zH fun X hX => ?_ | refine zE fun X hX => ?_ | refine zl ?_ | refine zh ?_ | refine ze ?_); try simp only [oweC, oweP, opF, opH, ev, evs, evp, evo, Env.get, Env.set, putE, gdst, S0, S1, thenN, inBlockN, argEnv, builtinR, retE, fin, callR, reduceIte, Nat.reduceEqDiff, Nat.reduceAdd, reduceCtorEq, forall_const, Q8])
  refine hM _ _ _ ?_; clear hM M
  refine ok_seq (fun M0 hM0 => ?_)
  refine ok_seq (fun M hM => ok_region rfl ?_); repeat ((try first | (refine z3 hX ?_; clear hX X) | (refine z2 hX ?_; clear hX X)); (first | refine zL fun X hX => ?_ | refine zH fun X hX => ?_ | refine zE fun X hX => ?_ | refine zl ?_ | refine zh ?_ | refine ze ?_); try simp only [oweC, oweP, opF, opH, ev, evs, evp, evo, Env.get, Env.set, putE, gdst, S0, S1, thenN, inBlockN, argEnv, builtinR, retE, fin, callR, reduceIte, Nat.reduceEqDiff, Nat.reduceAdd, reduceCtorEq, forall_const, Q8])
  refine hM _ _ _ ?_; clear hM M
  refine ok_block ?_
  refine ok_loop (S := Nat) (fun i => [(0, .slice A ks.length cp), (3, .int .i64 ((ks.length : Int) + ((upto ks i 0).length : Nat))), (4, .int .i64 (i : Int))]) (fun i w' => w' = w ∧ i ≤ ks.length ∧ (0 < i → ks.length + (upto ks i 0).length ≤ 200 + 140737488355328)) (fun i => ks.length - i) 0 ?_ ?_ ?_
  · simp [sub, Env.get, argEnv, upto]
  · exact ⟨rfl, Nat.zero_le _, fun h => absurd h (by decide)⟩
  rintro i w2 ⟨rfl, hi, hb⟩
  have hle : (upto ks i 0).length ≤ ks.flatten.length := by
    rcases Nat.lt_or_ge i ks.length with h | h
    · exact upto_length ks i 0 h
    · have : i = ks.length := by omega
      rw [this, upto_end]; exact Nat.le_refl _
  refine ok_join [(0, .slice A ks.length cp), (3, .int .i64 ((ks.length : Int) + ((upto ks i 0).length : Nat))), (4, .int .i64 (i : Int))] (fun w' => w' = w2 ∧ i < ks.length ∧ ks.length + (upto ks i 0).length ≤ 200) ?_ ?_
  · refine ok_seq (fun M hM => ok_region rfl ?_)
    repeat ((try first | (refine z3 hX ?_; clear hX X) | (refine z2 hX ?_; clear hX X)); (first | refine zL fun X hX => ?_ | refine zH fun X hX => ?_ | refine zE fun X hX => ?_ | refine zl ?_ | refine zh ?_ | refine ze ?_); try simp only [oweC, oweP, opF, opH, ev, evs, evp, evo, Env.get, Env.set, putE, gdst, S0, S1, thenN, inBlockN, argEnv, builtinR, retE, fin, callR, reduceIte, Nat.reduceEqDiff, Nat.reduceAdd, reduceCtorEq, forall_const, Q8])
    refine ⟨fun h => ?_, fun h => ?_⟩
    · repeat ((try first | (refine z3 hX ?_; clear hX X) | (refine z2 hX ?_; clear hX X)); (first | refine zL fun X hX => ?_ | refine zH fun X hX => ?_ | refine zE fun X hX => ?_ | refine zl ?_ | refine zh ?_ | refine ze ?_); try simp only [oweC, oweP, opF, opH, ev, evs, evp, evo, Env.get, Env.set, putE, gdst, S0, S1, thenN, inBlockN, argEnv, builtinR, retE, fin, callR, reduceIte, Nat.reduceEqDiff, Nat.reduceAdd, reduceCtorEq, forall_const, Q8])
      refine hM _ _ _ ?_; clear hM M
      refine ok_if rfl (fun hc => ok_skip ?_) (fun hc => ok_exit ?_)
      · try simp only [wpL, wpH, wpE, oweC, oweP, opF, opH, ev, evs, evp, evo, Env.get, Env.set, putE, gdst, S0, S1, thenN, inBlockN, argEnv, builtinR, retE, fin, callR, reduceIte, Nat.reduceEqDiff, Nat.reduceAdd, reduceCtorEq, forall_const, Q8]
        have : i < ks.length := by simpa using h
        refine ⟨by simp [sub, Env.get], by omega, by omega⟩
      · try simp only [wpL, wpH, wpE, oweC, oweP, opF, opH, ev, evs, evp, evo, Env.get, Env.set, putE, gdst, S0, S1, thenN, inBlockN, argEnv, builtinR, retE, fin, callR, reduceIte, Nat.reduceEqDiff, Nat.reduceAdd, reduceCtorEq, forall_const, Q8]
        refine hM0 _ _ _ ?_; clear hM0 M0
        refine ok_seq (fun M hM => ok_region rfl ?_); repeat ((try first | (refine z3 hX ?_; clear hX X) | (refine z2 hX ?_; clear hX X)); (first | refine zL fun X hX => ?_ | refine zH fun X hX => ?_ | refine zE fun X hX => ?_ | refine zl ?_ | refine zh ?_ | refine ze ?_); try simp only [oweC, oweP, opF, opH, ev, evs, evp, evo, Env.get, Env.set, putE, gdst, S0, S1, thenN, inBlockN, argEnv, builtinR, retE, fin, callR, reduceIte, Nat.reduceEqDiff, Nat.reduceAdd, reduceCtorEq, forall_const, Q8])
        refine hM _ _ _ ?_; clear hM M
        refine ok_ret ?_
        try simp only [wpL, wpH, wpE, oweC, oweP, opF, opH, ev, evs, evp, evo, Env.get, Env.set, putE, gdst, S0, S1, thenN, inBlockN, argEnv, builtinR, retE, fin, callR, reduceIte, Nat.reduceEqDiff, Nat.reduceAdd, reduceCtorEq, forall_const, Q8]
        simp only [Value.bool.injEq, decide_eq_decide]
        omega
    · repeat ((try first | (refine z3 hX ?_; clear hX X) | (refine z2 hX ?_; clear hX X)); (first | refine zL fun X hX => ?_ | refine zH fun X hX => ?_ | refine zE fun X hX => ?_ | refine zl ?_ | refine zh ?_ | refine ze ?_); try simp only [oweC, oweP, opF, opH, ev, evs, evp, evo, Env.get, Env.set, putE, gdst, S0, S1, thenN, inBlockN, argEnv, builtinR, retE, fin, callR, reduceIte, Nat.reduceEqDiff, Nat.reduceAdd, reduceCtorEq, forall_const, Q8])
      refine hM _ _ _ ?_; clear hM M
      refine ok_cond rfl (fun h => by cases h) (fun _ => ok_exit ?_)
      try simp only [wpL, wpH, wpE, oweC, oweP, opF, opH, ev, evs, evp, evo, Env.get, Env.set, putE, gdst, S0, S1, thenN, inBlockN, argEnv, builtinR, retE, fin, callR, reduceIte, Nat.reduceEqDiff, Nat.reduceAdd, reduceCtorEq, forall_const, Q8]
      refine hM0 _ _ _ ?_; clear hM0 M0
      refine ok_seq (fun M hM => ok_region rfl ?_); repeat ((try first | (refine z3 hX ?_; clear hX X) | (refine z2 hX ?_; clear hX X)); (first | refine zL fun X hX => ?_ | refine zH fun X hX => ?_ | refine zE fun X hX => ?_ | refine zl ?_ | refine zh ?_ | refine ze ?_); try simp only [oweC, oweP, opF, opH, ev, evs, evp, evo, Env.get, Env.set, putE, gdst, S0, S1, thenN, inBlockN, argEnv, builtinR, retE, fin, callR, reduceIte, Nat.reduceEqDiff, Nat.reduceAdd, reduceCtorEq, forall_const, Q8])
      refine hM _ _ _ ?_; clear hM M
      refine ok_ret ?_
      try simp only [wpL, wpH, wpE, oweC, oweP, opF, opH, ev, evs, evp, evo, Env.get, Env.set, putE, gdst, S0, S1, thenN, inBlockN, argEnv, builtinR, retE, fin, callR, reduceIte, Nat.reduceEqDiff, Nat.reduceAdd, reduceCtorEq, forall_const, Q8]
      have h' : ¬ i < ks.length := by simpa using h
      have : i = ks.length := by omega
      rw [this, upto_end]
      simp only [Value.bool.injEq, decide_eq_decide]
      omega
  rintro w3 ⟨rfl, hil, hk⟩
  obtain ⟨b, o, c, p, vi, vo, vk, rfl, hcells, h1, h2, h3, h4, hkk⟩ := hrow i hil
  obtain ⟨A2, c2, rfl, hl2, -⟩ := hkk.at_
  have hnode := upto_node ks i hil
  have hn1 : (upto ks (i + 1) 0).length = (upto ks i 0).length + ks[i].length := by
    rw [← hnode]; unfold upto; simp [kidsOf_get ks i hil]
  refine ok_seq (fun M hM => ok_block ?_)
  refine ok_region rfl ?_
  repeat ((try first | (refine z3 hX ?_; clear hX X) | (refine z2 hX ?_; clear hX X)); (first | refine zL fun X hX => ?_ | refine zH fun X hX => ?_ | refine zE fun X hX => ?_ | refine zl ?_ | refine zh ?_ | refine ze ?_); try simp only [oweC, oweP, opF, opH, ev, evs, evp, evo, Env.get, Env.set, putE, gdst, S0, S1, thenN, inBlockN, argEnv, builtinR, retE, fin, callR, reduceIte, Nat.reduceEqDiff, Nat.reduceAdd, reduceCtorEq, forall_const, Q8])
  refine ⟨by omega, by omega, ?_⟩
  repeat ((try first | (refine z3 hX ?_; clear hX X) | (refine z2 hX ?_; clear hX X)); (first | refine zL fun X hX => ?_ | refine zH fun X hX => ?_ | refine zE fun X hX => ?_ | refine zl ?_ | refine zh ?_ | refine ze ?_); try simp only [oweC, oweP, opF, opH, ev, evs, evp, evo, Env.get, Env.set, putE, gdst, S0, S1, thenN, inBlockN, argEnv, builtinR, retE, fin, callR, reduceIte, Nat.reduceEqDiff, Nat.reduceAdd, reduceCtorEq, forall_const, Q8])
  have hc4 : w3.cell? ⟨b, o + i * 5 + 4, none⟩ = some (.slice A2 ks[i].length c2) := by simpa [add_at] using hcells 4 _ rfl
  refine ⟨_, hc4, ?_⟩
  repeat ((try first | (refine z3 hX ?_; clear hX X) | (refine z2 hX ?_; clear hX X)); (first | refine zL fun X hX => ?_ | refine zH fun X hX => ?_ | refine zE fun X hX => ?_ | refine zl ?_ | refine zh ?_ | refine ze ?_); try simp only [oweC, oweP, opF, opH, ev, evs, evp, evo, Env.get, Env.set, putE, gdst, S0, S1, thenN, inBlockN, argEnv, builtinR, retE, fin, callR, reduceIte, Nat.reduceEqDiff, Nat.reduceAdd, reduceCtorEq, forall_const, Q8])
  refine ⟨by simp only [inI]; omega, ?_⟩
  repeat ((try first | (refine z3 hX ?_; clear hX X) | (refine z2 hX ?_; clear hX X)); (first | refine zL fun X hX => ?_ | refine zH fun X hX => ?_ | refine zE fun X hX => ?_ | refine zl ?_ | refine zh ?_ | refine ze ?_); try simp only [oweC, oweP, opF, opH, ev, evs, evp, evo, Env.get, Env.set, putE, gdst, S0, S1, thenN, inBlockN, argEnv, builtinR, retE, fin, callR, reduceIte, Nat.reduceEqDiff, Nat.reduceAdd, reduceCtorEq, forall_const, Q8])
  refine hM _ _ _ ?_; clear hM M
  refine ok_region rfl ?_
  repeat ((try first | (refine z3 hX ?_; clear hX X) | (refine z2 hX ?_; clear hX X)); (first | refine zL fun X hX => ?_ | refine zH fun X hX => ?_ | refine zE fun X hX => ?_ | refine zl ?_ | refine zh ?_ | refine ze ?_); try simp only [oweC, oweP, opF, opH, ev, evs, evp, evo, Env.get, Env.set, putE, gdst, S0, S1, thenN, inBlockN, argEnv, builtinR, retE, fin, callR, reduceIte, Nat.reduceEqDiff, Nat.reduceAdd, reduceCtorEq, forall_const, Q8])
  refine ⟨by simp only [inI]; omega, ?_⟩
  repeat ((try first | (refine z3 hX ?_; clear hX X) | (refine z2 hX ?_; clear hX X)); (first | refine zL fun X hX => ?_ | refine zH fun X hX => ?_ | refine zE fun X hX => ?_ | refine zl ?_ | refine zh ?_ | refine ze ?_); try simp only [oweC, oweP, opF, opH, ev, evs, evp, evo, Env.get, Env.set, putE, gdst, S0, S1, thenN, inBlockN, argEnv, builtinR, retE, fin, callR, reduceIte, Nat.reduceEqDiff, Nat.reduceAdd, reduceCtorEq, forall_const, Q8])
  refine ⟨i + 1, ?_, ⟨by omega, fun _ => by omega⟩, by omega⟩
  simp [sub, Env.get]
  omega
end Go.Proofs.Ytafjfcameabbmaa
/- awake. -/
set_option linter.unusedVariables false
set_option linter.unusedSimpArgs false
namespace Go.Proofs.Ytafjfcameabbmaa
open Go Go.Proofs.Vg Go.RowKit Dbg
namespace Dbg
def ks0 : List (List Int) := [[1, 2], [], [3], []]
def ws0 : List Bool := [true, false, true, false]
theorem ends0 : Dbg.Ends ks0 (fun v => ws0.getD v false) 2 := by
  refine ⟨fun j hj => ?_, by decide +kernel⟩
  rcases (by omega : j = 0 ∨ j = 1) with rfl | rfl <;> decide +kernel
theorem root0 : (st ks0 (fun v => ws0.getD v false) 2).root = 2 := by decide +kernel
theorem blame0 {r e : Int} {a : List Int} (h : BlameR ks0 ws0 r a e) : r = 2 ∧ a.length = 2 ∧ e = 0 := by
  unfold BlameR at h
  rw [if_pos (by decide +kernel), if_pos (by decide +kernel)] at h
  obtain ⟨k, hk, rfl, rfl, rfl⟩ := h
  rw [hk.same ends0, root0, asked_length]
  exact ⟨rfl, rfl, rfl⟩
end Dbg

-- -- function 9
set_option maxRecDepth 4000 in
theorem awake_ok (w : World) : Rets Try.prog 9 [] w (fun v w' => v = .bool true ∧ Ext w w') := by
  refine rets_of_ok Try.func9 rfl rfl ?_
  refine ok_seq (fun M hM => ok_region rfl ?_); repeat ((try first | (refine z3 hX ?_; clear hX X) | (refine z2 hX ?_; clear hX X)); (first | refine zL fun X hX => ?_ | refine zH fun X hX => ?_ | refine zE fun X hX => ?_ | refine zl ?_ | refine zh ?_ | refine ze ?_); try simp only [oweC, oweP, opF, opH, ev, evs, evp, evo, Env.get, Env.set, putE, gdst, S0, S1, thenN, inBlockN, argEnv, builtinR, retE, fin, callR, reduceIte, Nat.reduceEqDiff, Nat.reduceAdd, reduceCtorEq, forall_const, Q9])
  refine hM _ _ _ ?_; clear hM M
  refine ok_seq (fun M hM => ok_region rfl ?_)
  repeat ((try first | (refine z3 hX ?_; clear hX X) | (refine z2 hX ?_; clear hX X)); (first | refine zL fun X hX => ?_ | refine zH fun X hX => ?_ | refine zE fun X hX => ?_ | refine zl ?_ | refine zh ?_ | refine ze ?_); try simp only [oweC, oweP, opF, opH, ev, evs, evp, evo, Env.get, Env.set, putE, gdst, S0, S1, thenN, inBlockN, argEnv, builtinR, retE, fin, callR, reduceIte, Nat.reduceEqDiff, Nat.reduceAdd, reduceCtorEq, forall_const, Q9])
  refine Runs.lit (cs := iv [1, 2]) Fx.un26 Fx.zi3 (by decide) (by kernel_rfl) (by decide) (fun w1 he1 hz1 hb1 => ?_)
  repeat ((try first | (refine z3 hX ?_; clear hX X) | (refine z2 hX ?_; clear hX X)); (first | refine zL fun X hX => ?_ | refine zH fun X hX => ?_ | refine zE fun X hX => ?_ | refine zl ?_ | refine zh ?_ | refine ze ?_); try simp only [oweC, oweP, opF, opH, ev, evs, evp, evo, Env.get, Env.set, putE, gdst, S0, S1, thenN, inBlockN, argEnv, builtinR, retE, fin, callR, reduceIte, Nat.reduceEqDiff, Nat.reduceAdd, reduceCtorEq, forall_const, Q9])
  generalize hB1 : w.heap.size = B1 at *
  refine ⟨_, w1, run_build (P := Try.prog) w1 37 _ #[.int .i64 0, .int .i64 0, .slice none 0 0, .slice none 0 0, .slice (some ⟨B1, 0, none⟩) 2 2] (by kernel_rfl), ?_⟩
  repeat ((try first | (refine z3 hX ?_; clear hX X) | (refine z2 hX ?_; clear hX X)); (first | refine zL fun X hX => ?_ | refine zH fun X hX => ?_ | refine zE fun X hX => ?_ | refine zl ?_ | refine zh ?_ | refine ze ?_); try simp only [oweC, oweP, opF, opH, ev, evs, evp, evo, Env.get, Env.set, putE, gdst, S0, S1, thenN, inBlockN, argEnv, builtinR, retE, fin, callR, reduceIte, Nat.reduceEqDiff, Nat.reduceAdd, reduceCtorEq, forall_const, Q9])
  refine ⟨_, w1, run_build (P := Try.prog) w1 37 _ #[.int .i64 0, .int .i64 0, .slice none 0 0, .slice none 0 0, .slice none 0 0] (by kernel_rfl), ?_⟩
  repeat ((try first | (refine z3 hX ?_; clear hX X) | (refine z2 hX ?_; clear hX X)); (first | refine zL fun X hX => ?_ | refine zH fun X hX => ?_ | refine zE fun X hX => ?_ | refine zl ?_ | refine zh ?_ | refine ze ?_); try simp only [oweC, oweP, opF, opH, ev, evs, evp, evo, Env.get, Env.set, putE, gdst, S0, S1, thenN, inBlockN, argEnv, builtinR, retE, fin, callR, reduceIte, Nat.reduceEqDiff, Nat.reduceAdd, reduceCtorEq, forall_const, Q9])
  refine Runs.lit (cs := iv [3]) Fx.un26 Fx.zi3 (by decide) (by kernel_rfl) (by decide) (fun w2 he2 hz2 hb2 => ?_)
  repeat ((try first | (refine z3 hX ?_; clear hX X) | (refine z2 hX ?_; clear hX X)); (first | refine zL fun X hX => ?_ | refine zH fun X hX => ?_ | refine zE fun X hX => ?_ | refine zl ?_ | refine zh ?_ | refine ze ?_); try simp only [oweC, oweP, opF, opH, ev, evs, evp, evo, Env.get, Env.set, putE, gdst, S0, S1, thenN, inBlockN, argEnv, builtinR, retE, fin, callR, reduceIte, Nat.reduceEqDiff, Nat.reduceAdd, reduceCtorEq, forall_const, Q9])
  generalize hB2 : w1.heap.size = B2 at *
  refine ⟨_, w2, run_build (P := Try.prog) w2 37 _ #[.int .i64 0, .int .i64 0, .slice none 0 0, .slice none 0 0, .slice (some ⟨B2, 0, none⟩) 1 1] (by kernel_rfl), ?_⟩
  repeat ((try first | (refine z3 hX ?_; clear hX X) | (refine z2 hX ?_; clear hX X)); (first | refine zL fun X hX => ?_ | refine zH fun X hX => ?_ | refine zE fun X hX => ?_ | refine zl ?_ | refine zh ?_ | refine ze ?_); try simp only [oweC, oweP, opF, opH, ev, evs, evp, evo, Env.get, Env.set, putE, gdst, S0, S1, thenN, inBlockN, argEnv, builtinR, retE, fin, callR, reduceIte, Nat.reduceEqDiff, Nat.reduceAdd, reduceCtorEq, forall_const, Q9])
  refine ⟨_, w2, run_build (P := Try.prog) w2 37 _ #[.int .i64 0, .int .i64 0, .slice none 0 0, .slice none 0 0, .slice none 0 0] (by kernel_rfl), ?_⟩
  repeat ((try first | (refine z3 hX ?_; clear hX X) | (refine z2 hX ?_; clear hX X)); (first | refine zL fun X hX => ?_ | refine zH fun X hX => ?_ | refine zE fun X hX => ?_ | refine zl ?_ | refine zh ?_ | refine ze ?_); try simp only [oweC, oweP, opF, opH, ev, evs, evp, evo, Env.get, Env.set, putE, gdst, S0, S1, thenN, inBlockN, argEnv, builtinR, retE, fin, callR, reduceIte, Nat.reduceEqDiff, Nat.reduceAdd, reduceCtorEq, forall_const, Q9])
  let rows : List (List Value) := [[.int .i64 0, .int .i64 0, .slice none 0 0, .slice none 0 0, .slice (some ⟨B1, 0, none⟩) 2 2], [.int .i64 0, .int .i64 0, .slice none 0 0, .slice none 0 0, .slice none 0 0],
    [.int .i64 0, .int .i64 0, .slice none 0 0, .slice none 0 0, .slice (some ⟨B2, 0, none⟩) 1 1], [.int .i64 0, .int .i64 0, .slice none 0 0, .slice none 0 0, .slice none 0 0]]
  refine Runs.lit (cs := rows.flatten) Fx.un22 Fx.zi37 (by decide) (by kernel_rfl) (by decide) (fun w3 he3 hz3 hb3 => ?_)
  repeat ((try first | (refine z3 hX ?_; clear hX X) | (refine z2 hX ?_; clear hX X)); (first | refine zL fun X hX => ?_ | refine zH fun X hX => ?_ | refine zE fun X hX => ?_ | refine zl ?_ | refine zh ?_ | refine ze ?_); try simp only [oweC, oweP, opF, opH, ev, evs, evp, evo, Env.get, Env.set, putE, gdst, S0, S1, thenN, inBlockN, argEnv, builtinR, retE, fin, callR, reduceIte, Nat.reduceEqDiff, Nat.reduceAdd, reduceCtorEq, forall_const, Q9])
  refine hM _ _ _ ?_; clear hM M
  generalize hB3 : w2.heap.size = B3 at *
  refine ok_seq (fun M hM => ok_region rfl ?_)
  repeat ((try first | (refine z3 hX ?_; clear hX X) | (refine z2 hX ?_; clear hX X)); (first | refine zL fun X hX => ?_ | refine zH fun X hX => ?_ | refine zE fun X hX => ?_ | refine zl ?_ | refine zh ?_ | refine ze ?_); try simp only [oweC, oweP, opF, opH, ev, evs, evp, evo, Env.get, Env.set, putE, gdst, S0, S1, thenN, inBlockN, argEnv, builtinR, retE, fin, callR, reduceIte, Nat.reduceEqDiff, Nat.reduceAdd, reduceCtorEq, forall_const, Q9])
  refine Runs.lit (cs := bv ws0) Fx.un23 Fx.zi4 (by decide) (by kernel_rfl) (by decide) (fun w4 he4 hz4 hb4 => ?_)
  repeat ((try first | (refine z3 hX ?_; clear hX X) | (refine z2 hX ?_; clear hX X)); (first | refine zL fun X hX => ?_ | refine zH fun X hX => ?_ | refine zE fun X hX => ?_ | refine zl ?_ | refine zh ?_ | refine ze ?_); try simp only [oweC, oweP, opF, opH, ev, evs, evp, evo, Env.get, Env.set, putE, gdst, S0, S1, thenN, inBlockN, argEnv, builtinR, retE, fin, callR, reduceIte, Nat.reduceEqDiff, Nat.reduceAdd, reduceCtorEq, forall_const, Q9])
  generalize hB4 : w3.heap.size = B4 at *
  have hn : NodesG w4 (.slice (some ⟨B3, 0, none⟩) 4 4) ks0 := by
    refine ⟨rows, ⟨_, _, rfl, by show (4 : Nat) ≤ 140737488355328; decide, fun j row hj => ⟨B3, 0, rfl, ?_⟩⟩, rfl, fun i hi => ?_⟩
    · refine (hb3.ext he4).cells fun k u hk => ?_
      have hj4 : j < 4 := (List.getElem?_eq_some_iff.1 hj).1
      rcases (by omega : j = 0 ∨ j = 1 ∨ j = 2 ∨ j = 3) with rfl | rfl | rfl | rfl
      all_goals
        simp [rows] at hj
        subst hj
        have hk5 : k < 5 := (List.getElem?_eq_some_iff.1 hk).1
        rcases (by omega : k = 0 ∨ k = 1 ∨ k = 2 ∨ k = 3 ∨ k = 4) with rfl | rfl | rfl | rfl | rfl <;> simpa [rows] using hk
    · have hnil : ∀ w, SlI w (.slice none 0 0) [] := fun w => ⟨none, 0, rfl, by simp, fun j row hj => by simp [ints] at hj⟩
      have hi4 : i < 4 := hi
      rcases (by omega : i = 0 ∨ i = 1 ∨ i = 2 ∨ i = 3) with rfl | rfl | rfl | rfl
      · exact ⟨0, 0, _, _, _, rfl, rfl, rfl, rfl, rfl, Blk.slI (((hb1.ext he2).ext he3).ext he4) (by decide) 2⟩
      · exact ⟨0, 0, _, _, _, rfl, rfl, rfl, rfl, rfl, hnil _⟩
      · exact ⟨0, 0, _, _, _, rfl, rfl, rfl, rfl, rfl, Blk.slI ((hb2.ext he3).ext he4) (by decide) 1⟩
      · exact ⟨0, 0, _, _, _, rfl, rfl, rfl, rfl, rfl, hnil _⟩
  have hws : SlB w4 (.slice (some ⟨B4, 0, none⟩) 4 4) ws0 := ⟨_, 4, rfl, by decide, fun j row hj => ⟨B4, 0, rfl, hb4.cells fun k u hk => by
    have hlt : j < ws0.length := by have := (List.getElem?_eq_some_iff.1 hj).1; simpa using this
    simp [bls, hlt] at hj
    subst hj
    cases k with
    | zero => simp at hk; subst hk; simp [bv, hlt]
    | succ k => simp at hk⟩⟩
  refine Inv.call Fx.en10 (blame_ok w4 _ _ ks0 ws0 hn hws (by decide)) ?_
  rintro v w5 ⟨he5, r, e, va, asked, rfl, hsa, hbr⟩
  obtain ⟨rfl, hal, rfl⟩ := blame0 hbr
  obtain ⟨Aa, ca, rfl, -, -⟩ := hsa.at_
  rw [hal]
  repeat ((try first | (refine z3 hX ?_; clear hX X) | (refine z2 hX ?_; clear hX X)); (first | refine zL fun X hX => ?_ | refine zH fun X hX => ?_ | refine zE fun X hX => ?_ | refine zl ?_ | refine zh ?_ | refine ze ?_); try simp only [oweC, oweP, opF, opH, ev, evs, evp, evo, Env.get, Env.set, putE, gdst, S0, S1, thenN, inBlockN, argEnv, builtinR, retE, fin, callR, reduceIte, Nat.reduceEqDiff, Nat.reduceAdd, reduceCtorEq, forall_const, Q9])
  refine hM _ _ _ ?_; clear hM M
  refine ok_seq (fun M hM => ok_region rfl ?_)
  repeat ((try first | (refine z3 hX ?_; clear hX X) | (refine z2 hX ?_; clear hX X)); (first | refine zL fun X hX => ?_ | refine zH fun X hX => ?_ | refine zE fun X hX => ?_ | refine zl ?_ | refine zh ?_ | refine ze ?_); try simp only [oweC, oweP, opF, opH, ev, evs, evp, evo, Env.get, Env.set, putE, gdst, S0, S1, thenN, inBlockN, argEnv, builtinR, retE, fin, callR, reduceIte, Nat.reduceEqDiff, Nat.reduceAdd, reduceCtorEq, forall_const, Q9])
  refine ⟨fun _ => ?_, fun h => absurd h (by decide)⟩
  repeat ((try first | (refine z3 hX ?_; clear hX X) | (refine z2 hX ?_; clear hX X)); (first | refine zL fun X hX => ?_ | refine zH fun X hX => ?_ | refine zE fun X hX => ?_ | refine zl ?_ | refine zh ?_ | refine ze ?_); try simp only [oweC, oweP, opF, opH, ev, evs, evp, evo, Env.get, Env.set, putE, gdst, S0, S1, thenN, inBlockN, argEnv, builtinR, retE, fin, callR, reduceIte, Nat.reduceEqDiff, Nat.reduceAdd, reduceCtorEq, forall_const, Q9])
  refine hM _ _ _ ?_; clear hM M
  refine ok_ret ?_
  try simp only [wpL, wpH, wpE, oweC, oweP, opF, opH, ev, evs, evp, evo, Env.get, Env.set, putE, gdst, S0, S1, thenN, inBlockN, argEnv, builtinR, retE, fin, callR, reduceIte, Nat.reduceEqDiff, Nat.reduceAdd, reduceCtorEq, forall_const, Q9]
  exact ⟨by simp, (((he1.trans he2).trans he3).trans he4).trans he5⟩
end Go.Proofs.Ytafjfcameabbmaa
/- DebugTrees: the law returns true.  -/
set_option linter.unusedVariables false
set_option linter.unusedSimpArgs false
namespace Go.Proofs.Vg
open Go Go.RowKit
theorem kidsF_kl (g : Int → Nat → List DN) (nds : List Nd) (m : Nat) (hg : ∀ k b, ∀ d ∈ g k b, d.kids.length ≤ m) : ∀ (ks : List Int) (b : Nat), (∀ d ∈ (kidsF g nds ks b).1, d.kids.length ≤ m) ∧ (kidsF g nds ks b).2.length ≤ ks.length
  | [], b => ⟨fun d hd => by simp [kidsF] at hd, by simp [kidsF]⟩
  | k :: ks, b => by
    simp only [kidsF]
    split
    · have h := kidsF_kl g nds m hg ks (b + (g k b).length)
      refine ⟨fun d hd => ?_, by simpa using h.2⟩
      rcases List.mem_append.1 hd with hd | hd
      · exact hg k b d hd
      · exact h.1 d hd
    · have h := kidsF_kl g nds m hg ks b
      exact ⟨h.1, by have := h.2; simp; omega⟩
theorem growF_kl (nds : List Nd) (m : Nat) (h : ∀ d ∈ nds, d.kids.length ≤ m) : ∀ (f : Nat) (c : Int) (b : Nat), ∀ d ∈ growF nds f c b, d.kids.length ≤ m
  | 0, c, b, d, hd => by simp [growF] at hd
  | f + 1, c, b, d, hd => by
    have hk := kidsF_kl (growF nds f) nds m (growF_kl nds m h f)
    simp only [growF] at hd
    cases ha : atN nds c with
    | none => rw [ha] at hd; simp at hd
    | some d0 =>
      rw [ha] at hd
      have h0 : d0 ∈ nds := by
        unfold atN at ha
        split at ha
        · exact List.mem_of_getElem? ha
        · cases ha
      simp only [List.mem_cons] at hd
      rcases hd with rfl | hd
      · exact Nat.le_trans (hk d0.kids (b + 1)).2 (h d0 h0)
      · exact (hk d0.kids (b + 1)).1 d hd
theorem treeN_small {es : List Ev} (hl : es.length ≤ 400) (k : Int) : (treeN es k).1.length ≤ 400 ∧ ∀ d ∈ (treeN es k).1, d.kids.length ≤ 400 := by
  unfold treeN
  split
  · exact ⟨by simp, fun d hd => by simp at hd⟩
  · rename_i hr
    cases hm : momN es k with
    | none => exact ⟨by simp, fun d hd => by simp at hd⟩
    | some j =>
      simp only
      have hok := okTo_of_right (es := es) (by omega)
      obtain ⟨hjl, -⟩ := momN_some hm
      have hokj := hok.take (n := j + 1) (by omega)
      have hlj : (es.take (j + 1)).length = j + 1 := by rw [List.length_take, Nat.min_eq_left (by omega)]
      obtain ⟨hwf, hki⟩ := hokj.wf (i := j + 1) (by omega)
      rw [List.take_take, Nat.min_eq_left (Nat.le_refl _)] at hwf hki
      have hn := hwf.n
      refine ⟨?_, growF_kl _ 400 (fun d hd => ?_) _ _ _⟩
      · rw [growF_len]
        have := size_root hwf hki ((stepsN (es.take (j + 1))).length + 1)
        omega
      · obtain ⟨i, hi⟩ := List.mem_iff_getElem?.1 hd
        have := (hwf.kids i d hi).1
        omega
end Go.Proofs.Vg
namespace Go.Proofs.Ytafjfcameabbmaa
open Go Go.Proofs.Vg Go.RowKit

-- -- function 7
set_option maxHeartbeats 4000000 in
set_option maxRecDepth 8000 in
theorem trees_ok (w : World) (S : Nat → Prop) (v : Value) (es : List Ev) (h : EvSl w S v es) (hcap : ∀ A n c, v = .slice A n c → n ≤ c) (hS : ∀ k, S k → k < w.heap.size) (hsm : ∀ e ∈ es, SmVs e.args) (k : Int) (hk : inI .i64 k) :
    Rets Try.prog 7 [v, .int .i64 k] w (fun r w' => r = .bool true ∧ Ext w w') := by
  refine rets_of_ok Try.func7 rfl rfl ?_
  refine ok_seq (fun M hM => ok_region rfl ?_); repeat ((try first | (refine z3 hX ?_; clear hX X) | (refine z2 hX ?_; clear hX X)); (first | refine zL fun X hX => ?_ | refine zH fun X hX => ?_ | refine zE fun X hX => ?_ | refine zl ?_ | refine zh ?_ | refine ze ?_); try simp only [oweC, oweP, opF, opH, ev, evs, evp, evo, Env.get, Env.set, putE, gdst, S0, S1, thenN, inBlockN, argEnv, builtinR, retE, fin, callR, reduceIte, Nat.reduceEqDiff, Nat.reduceAdd, reduceCtorEq, forall_const, Q7])
  refine hM _ _ _ ?_; clear hM M
  refine ok_join [(0, v), (1, .int .i64 k)] (fun w' => Ext w w' ∧ es.length ≤ 400) ?_ ?_
  · refine ok_seq (fun M hM => ok_region rfl ?_)
    repeat ((try first | (refine z3 hX ?_; clear hX X) | (refine z2 hX ?_; clear hX X)); (first | refine zL fun X hX => ?_ | refine zH fun X hX => ?_ | refine zE fun X hX => ?_ | refine zl ?_ | refine zh ?_ | refine ze ?_); try simp only [oweC, oweP, opF, opH, ev, evs, evp, evo, Env.get, Env.set, putE, gdst, S0, S1, thenN, inBlockN, argEnv, builtinR, retE, fin, callR, reduceIte, Nat.reduceEqDiff, Nat.reduceAdd, reduceCtorEq, forall_const, Q7])
    refine Inv.call Fx.en16 (tlarge_ok w S v es h) ?_
    rintro r w1 ⟨rfl, he1⟩
    repeat ((try first | (refine z3 hX ?_; clear hX X) | (refine z2 hX ?_; clear hX X)); (first | refine zL fun X hX => ?_ | refine zH fun X hX => ?_ | refine zE fun X hX => ?_ | refine zl ?_ | refine zh ?_ | refine ze ?_); try simp only [oweC, oweP, opF, opH, ev, evs, evp, evo, Env.get, Env.set, putE, gdst, S0, S1, thenN, inBlockN, argEnv, builtinR, retE, fin, callR, reduceIte, Nat.reduceEqDiff, Nat.reduceAdd, reduceCtorEq, forall_const, Q7])
    refine hM _ _ _ ?_; clear hM M
    cases hlg : largeN es with
    | true =>
      refine ok_cond (b := true) rfl (fun _ => ?_) (fun h => by cases h)
      refine ok_seq (fun M hM => ok_region rfl ?_)
      repeat ((try first | (refine z3 hX ?_; clear hX X) | (refine z2 hX ?_; clear hX X)); (first | refine zL fun X hX => ?_ | refine zH fun X hX => ?_ | refine zE fun X hX => ?_ | refine zl ?_ | refine zh ?_ | refine ze ?_); try simp only [oweC, oweP, opF, opH, ev, evs, evp, evo, Env.get, Env.set, putE, gdst, S0, S1, thenN, inBlockN, argEnv, builtinR, retE, fin, callR, reduceIte, Nat.reduceEqDiff, Nat.reduceAdd, reduceCtorEq, forall_const, Q7])
      refine Inv.call Fx.en9 (awake_ok w1) ?_
      rintro r w2 ⟨rfl, he2⟩
      repeat ((try first | (refine z3 hX ?_; clear hX X) | (refine z2 hX ?_; clear hX X)); (first | refine zL fun X hX => ?_ | refine zH fun X hX => ?_ | refine zE fun X hX => ?_ | refine zl ?_ | refine zh ?_ | refine ze ?_); try simp only [oweC, oweP, opF, opH, ev, evs, evp, evo, Env.get, Env.set, putE, gdst, S0, S1, thenN, inBlockN, argEnv, builtinR, retE, fin, callR, reduceIte, Nat.reduceEqDiff, Nat.reduceAdd, reduceCtorEq, forall_const, Q7])
      refine hM _ _ _ ?_; clear hM M
      refine ok_ret ?_
      try simp only [wpL, wpH, wpE, oweC, oweP, opF, opH, ev, evs, evp, evo, Env.get, Env.set, putE, gdst, S0, S1, thenN, inBlockN, argEnv, builtinR, retE, fin, callR, reduceIte, Nat.reduceEqDiff, Nat.reduceAdd, reduceCtorEq, forall_const, Q7]
      exact he1.trans he2
    | false =>
      refine ok_cond (b := false) rfl (fun h => by cases h) (fun _ => ok_skip ?_)
      try simp only [wpL, wpH, wpE, oweC, oweP, opF, opH, ev, evs, evp, evo, Env.get, Env.set, putE, gdst, S0, S1, thenN, inBlockN, argEnv, builtinR, retE, fin, callR, reduceIte, Nat.reduceEqDiff, Nat.reduceAdd, reduceCtorEq, forall_const, Q7]
      refine ⟨by simp [sub, Env.get, argEnv], he1, ?_⟩
      simp [largeN] at hlg
      omega
  rintro w1 ⟨he1, hl⟩
  have hs1 := he1.size
  obtain ⟨ht1, ht2⟩ := treeN_small hl k
  refine ok_seq (fun M hM => ok_region rfl ?_)
  repeat ((try first | (refine z3 hX ?_; clear hX X) | (refine z2 hX ?_; clear hX X)); (first | refine zL fun X hX => ?_ | refine zH fun X hX => ?_ | refine zE fun X hX => ?_ | refine zl ?_ | refine zh ?_ | refine ze ?_); try simp only [oweC, oweP, opF, opH, ev, evs, evp, evo, Env.get, Env.set, putE, gdst, S0, S1, thenN, inBlockN, argEnv, builtinR, retE, fin, callR, reduceIte, Nat.reduceEqDiff, Nat.reduceAdd, reduceCtorEq, forall_const, Q7])
  refine Inv.call Fx.en17 (debugTree_ok w1 S v es (h.ext he1) hcap hl (fun k hk => by have := hS k hk; omega) hsm k hk) ?_
  rintro r w2 ⟨he2, va, vks1, rows1, T1, rfl, hd1, hT1⟩
  have hs2 := he2.size
  repeat ((try first | (refine z3 hX ?_; clear hX X) | (refine z2 hX ?_; clear hX X)); (first | refine zL fun X hX => ?_ | refine zH fun X hX => ?_ | refine zE fun X hX => ?_ | refine zl ?_ | refine zh ?_ | refine ze ?_); try simp only [oweC, oweP, opF, opH, ev, evs, evp, evo, Env.get, Env.set, putE, gdst, S0, S1, thenN, inBlockN, argEnv, builtinR, retE, fin, callR, reduceIte, Nat.reduceEqDiff, Nat.reduceAdd, reduceCtorEq, forall_const, Q7])
  refine hM _ _ _ ?_; clear hM M
  refine ok_seq (fun M hM => ok_region rfl ?_)
  repeat ((try first | (refine z3 hX ?_; clear hX X) | (refine z2 hX ?_; clear hX X)); (first | refine zL fun X hX => ?_ | refine zH fun X hX => ?_ | refine zE fun X hX => ?_ | refine zl ?_ | refine zh ?_ | refine ze ?_); try simp only [oweC, oweP, opF, opH, ev, evs, evp, evo, Env.get, Env.set, putE, gdst, S0, S1, thenN, inBlockN, argEnv, builtinR, retE, fin, callR, reduceIte, Nat.reduceEqDiff, Nat.reduceAdd, reduceCtorEq, forall_const, Q7])
  refine Inv.call Fx.en18 (refTree_ok w2 S v es (h.ext (he1.trans he2)) hcap hl (fun k hk => by have := hS k hk; omega) k) ?_
  rintro r w3 ⟨he3, vb, vks2, rows2, T2, rfl, hd2⟩
  repeat ((try first | (refine z3 hX ?_; clear hX X) | (refine z2 hX ?_; clear hX X)); (first | refine zL fun X hX => ?_ | refine zH fun X hX => ?_ | refine zE fun X hX => ?_ | refine zl ?_ | refine zh ?_ | refine ze ?_); try simp only [oweC, oweP, opF, opH, ev, evs, evp, evo, Env.get, Env.set, putE, gdst, S0, S1, thenN, inBlockN, argEnv, builtinR, retE, fin, callR, reduceIte, Nat.reduceEqDiff, Nat.reduceAdd, reduceCtorEq, forall_const, Q7])
  refine hM _ _ _ ?_; clear hM M
  refine ok_seq (fun M hM => ok_region rfl ?_)
  repeat ((try first | (refine z3 hX ?_; clear hX X) | (refine z2 hX ?_; clear hX X)); (first | refine zL fun X hX => ?_ | refine zH fun X hX => ?_ | refine zE fun X hX => ?_ | refine zl ?_ | refine zh ?_ | refine ze ?_); try simp only [oweC, oweP, opF, opH, ev, evs, evp, evo, Env.get, Env.set, putE, gdst, S0, S1, thenN, inBlockN, argEnv, builtinR, retE, fin, callR, reduceIte, Nat.reduceEqDiff, Nat.reduceAdd, reduceCtorEq, forall_const, Q7])
  refine Inv.call Fx.en19 (same_ok w3 T1 T2 va vb vks1 vks2 rows1 rows2 _ (by omega) (fun d hd => by have := ht2 d hd; omega) (hd1.ext he3) hd2) ?_
  rintro r w4 ⟨rfl, he4⟩
  repeat ((try first | (refine z3 hX ?_; clear hX X) | (refine z2 hX ?_; clear hX X)); (first | refine zL fun X hX => ?_ | refine zH fun X hX => ?_ | refine zE fun X hX => ?_ | refine zl ?_ | refine zh ?_ | refine ze ?_); try simp only [oweC, oweP, opF, opH, ev, evs, evp, evo, Env.get, Env.set, putE, gdst, S0, S1, thenN, inBlockN, argEnv, builtinR, retE, fin, callR, reduceIte, Nat.reduceEqDiff, Nat.reduceAdd, reduceCtorEq, forall_const, Q7])
  refine Inv.call Fx.en9 (awake_ok w4) ?_
  rintro r w5 ⟨rfl, he5⟩
  repeat ((try first | (refine z3 hX ?_; clear hX X) | (refine z2 hX ?_; clear hX X)); (first | refine zL fun X hX => ?_ | refine zH fun X hX => ?_ | refine zE fun X hX => ?_ | refine zl ?_ | refine zh ?_ | refine ze ?_); try simp only [oweC, oweP, opF, opH, ev, evs, evp, evo, Env.get, Env.set, putE, gdst, S0, S1, thenN, inBlockN, argEnv, builtinR, retE, fin, callR, reduceIte, Nat.reduceEqDiff, Nat.reduceAdd, reduceCtorEq, forall_const, Q7])
  refine hM _ _ _ ?_; clear hM M
  refine ok_ret ?_
  try simp only [wpL, wpH, wpE, oweC, oweP, opF, opH, ev, evs, evp, evo, Env.get, Env.set, putE, gdst, S0, S1, thenN, inBlockN, argEnv, builtinR, retE, fin, callR, reduceIte, Nat.reduceEqDiff, Nat.reduceAdd, reduceCtorEq, forall_const, Q7]
  exact (((he1.trans he2).trans he3).trans he4).trans he5
end Go.Proofs.Ytafjfcameabbmaa
/- DebugTrees: for every slice of events and every number, whatever they are, the law returns true, and what came in reads as it did. No condition but the row's own. -/
set_option linter.unusedVariables false
set_option linter.unusedSimpArgs false
namespace Go.Proofs.Ytafjfcameabbmaa
open Go Go.Proofs.Vg Go.RowKit Dbg Go.Deep Go.ChangeShapes Go.WideShapes Go.ChangeAt

theorem ce69 : Try.prog.cellsOf 69 = 6 := by kernel_rfl
theorem ce93 : Try.prog.cellsOf 93 = 4 := by kernel_rfl
theorem ce2 : Try.prog.cellsOf 2 = 1 := by kernel_rfl
theorem ce9 : Try.prog.cellsOf 9 = 1 := by kernel_rfl
theorem by69 : 0 < Try.prog.bytesOf 69 := by decide +kernel
theorem by93 : Try.prog.bytesOf 93 = 56 := by kernel_rfl
theorem vf0 : fld Try.prog 93 0 = some (3, 0) := by kernel_rfl
theorem vf1 : fld Try.prog 93 1 = some (2, 1) := by kernel_rfl
theorem vf2 : fld Try.prog 93 2 = some (9, 2) := by kernel_rfl
theorem vf3 : fld Try.prog 93 3 = some (35, 3) := by kernel_rfl
theorem ef0 : fld Try.prog 69 0 = some (3, 0) := by kernel_rfl
theorem ef1 : fld Try.prog 69 1 = some (3, 1) := by kernel_rfl
theorem ef2 : fld Try.prog 69 2 = some (3, 2) := by kernel_rfl
theorem ef3 : fld Try.prog 69 3 = some (3, 3) := by kernel_rfl
theorem ef4 : fld Try.prog 69 4 = some (3, 4) := by kernel_rfl
theorem ef5 : fld Try.prog 69 5 = some (35, 5) := by kernel_rfl
theorem un9' : Try.prog.underlying 9 = some .string := by kernel_rfl
theorem rr42 : Try.prog.readableRec 42 = true := by kernel_rfl
theorem rr3 : Try.prog.readableRec 3 = true := by kernel_rfl

section
variable {H : Type} {enc : TypeId × Value → H} {w : World} {base : Nat} {spare : Nat → Bool} {held : Bool}
theorem rd_bound {P : Program} {t e : TypeId} {fuel : Nat} {cs : List Value} {x : DataW H × List MemPlace} (ht : P.underlying t = some (.slice e)) (h : DataW.trod enc P w base spare held fuel t cs = some x) (hs : Small P t x.1) {A : Option Addr} {n c : Nat} (hv : cs = [.slice A n c]) : n ≤ c ∧ n * P.bytesOf e ≤ reachBytes := by
  rcases open_slice ht h with ⟨h1, _⟩ | ⟨a, len, cap, m, n', D, Pl, h1, _, hl, _, hmm, rfl, _⟩
  · rw [hv] at h1
    simp only [List.cons.injEq, Value.slice.injEq, and_true] at h1
    obtain ⟨_, rfl, rfl⟩ := h1
    simp
  · rw [hv] at h1
    simp only [List.cons.injEq, Value.slice.injEq, and_true] at h1
    obtain ⟨_, rfl, rfl⟩ := h1
    refine ⟨hl, ?_⟩
    have := hs ((n + (m - n)) * P.bytesOf e) (by simp [DataW.weights, ht])
    exact Nat.le_trans (Nat.mul_le_mul_right _ (by omega)) this
theorem rd_vall : ∀ (m : Nat) (fuel : Nat) (cs : List Value) (x : DataW H × List MemPlace), SizeOf.sizeOf x.1 ≤ m → DataW.trod enc Try.prog w base spare held fuel 93 cs = some x → Small Try.prog 93 x.1 → cs.length = 4 → ∃ v, VRow w cs v ∧ smV v := by
  intro m
  induction m with
  | zero =>
    intro fuel cs x hm
    have : 0 < SizeOf.sizeOf x.1 := by cases x.1 <;> simp <;> omega
    omega
  | succ m ih =>
    intro fuel cs x hm h hs hl
    match cs, hl with
    | [r0, r1, r2, r3], _ =>
      obtain ⟨n0, y0, k0, _, _⟩ := rd_fld' vf0 h hs
      obtain ⟨n1, y1, k1, _, _⟩ := rd_fld' vf1 h hs
      obtain ⟨n2, y2, k2, _, _⟩ := rd_fld' vf2 h hs
      obtain ⟨n3, y3, k3, s3, z3⟩ := rd_fld' vf3 h hs
      rw [ce3] at k0
      rw [ce2] at k1
      rw [ce9] at k2
      rw [ce35] at k3
      obtain ⟨k, e0, _⟩ := DataW.trod_int Fx.un3 k0
      obtain ⟨n, e1, _⟩ := DataW.trod_int Fx.un2 k1
      obtain ⟨t, e2, _⟩ := DataW.trod_string un9' k2
      obtain ⟨v, rows, e3, hsl, h1, h2, hr⟩ := rd_slice' Fx.un35 ce93 (by decide) (by rw [by93]; decide) k3 s3
      obtain ⟨A, c, hvA, -, -⟩ := id hsl
      have hb := (rd_bound Fx.un35 k3 s3 (by rw [e3, hvA])).2
      rw [by93] at hb
      simp at e0 e1 e2 e3
      subst e0 e1 e2 e3
      have : ∃ args, VRows w rows args ∧ smE args := by
        clear hsl hb hvA
        induction rows with
        | nil => exact ⟨[], by simp only [VRows], by simp only [smE]⟩
        | cons r rows ihr =>
          obtain ⟨args, ha, hb⟩ := ihr (fun i row hi => hr (i + 1) row (by simpa using hi))
          obtain ⟨hl0, f, y, hy, hsy, hzy⟩ := hr 0 r rfl
          obtain ⟨a, ha0, hb0⟩ := ih f r y (by omega) hy hsy hl0
          exact ⟨a :: args, by simp only [VRows]; exact ⟨ha0, ha⟩, by simp only [smE]; exact ⟨hb0, hb⟩⟩
      obtain ⟨args, ha, hbb⟩ := this
      have hlen := ha.length
      have hrb : reachBytes = 140737488351232 := by decide
      exact ⟨.mk k n t args, by simp only [VRow]; exact ⟨_, rfl, h1, h2, rows, hsl, ha⟩, by simp only [smV]; exact ⟨by omega, hbb⟩⟩
theorem rd_vals {fuel : Nat} {cs : List Value} {x : DataW H × List MemPlace} (h : DataW.trod enc Try.prog w base spare held fuel 35 cs = some x) (hs : Small Try.prog 35 x.1) : ∃ v xs, cs = [v] ∧ VSl w v xs ∧ SmVs xs := by
  obtain ⟨v, rows, e3, hsl, h1, h2, hr⟩ := rd_slice' Fx.un35 ce93 (by decide) (by rw [by93]; decide) h hs
  obtain ⟨A, c, hvA, -, -⟩ := id hsl
  have hb := (rd_bound Fx.un35 h hs (by rw [e3, hvA])).2
  rw [by93] at hb
  have : ∃ args, VRows w rows args ∧ smE args := by
    clear hsl hb hvA
    induction rows with
    | nil => exact ⟨[], by simp only [VRows], by simp only [smE]⟩
    | cons r rows ihr =>
      obtain ⟨args, ha, hb⟩ := ihr (fun i row hi => hr (i + 1) row (by simpa using hi))
      obtain ⟨hl0, f, y, hy, hsy, hzy⟩ := hr 0 r rfl
      obtain ⟨a, ha0, hb0⟩ := rd_vall _ f r y (Nat.le_refl _) hy hsy hl0
      exact ⟨a :: args, by simp only [VRows]; exact ⟨ha0, ha⟩, by simp only [smE]; exact ⟨hb0, hb⟩⟩
  obtain ⟨args, ha, hbb⟩ := this
  have hlen := ha.length
  have hrb : reachBytes = 140737488351232 := by decide
  exact ⟨v, args, e3, ⟨h1, h2, rows, hsl, ha⟩, by omega, hbb⟩
theorem rd_events {fuel : Nat} {cs : List Value} {x : DataW H × List MemPlace} (h : DataW.trod enc Try.prog w base spare held fuel 42 cs = some x) (hs : Small Try.prog 42 x.1) : ∃ v es, cs = [v] ∧ EvSl w (fun k => k < w.heap.size) v es ∧ ∀ e ∈ es, SmVs e.args := by
  obtain ⟨v, rows, rfl, hsl, h1, h2, hr⟩ := rd_slice Fx.un42 ce69 (by decide) by69 h hs
  obtain ⟨A, c, hv, hlen, hcell⟩ := hsl
  have key : ∀ i, i < rows.length → ∃ e : Ev, EvRow w (fun k => k < w.heap.size) rows[i]! e ∧ SmVs e.args := by
    intro i hi
    obtain ⟨hl, f, y, hy, hsy⟩ := hr i rows[i] (List.getElem?_eq_getElem hi)
    have hri : rows[i]! = rows[i] := by simp [hi]
    rw [hri]
    generalize hrow : rows[i] = row at *
    match row, hl with
    | [r0, r1, r2, r3, r4, r5], _ =>
      obtain ⟨n0, y0, k0, _⟩ := rd_fld ef0 hy hsy
      obtain ⟨n1, y1, k1, _⟩ := rd_fld ef1 hy hsy
      obtain ⟨n2, y2, k2, _⟩ := rd_fld ef2 hy hsy
      obtain ⟨n3, y3, k3, _⟩ := rd_fld ef3 hy hsy
      obtain ⟨n4, y4, k4, _⟩ := rd_fld ef4 hy hsy
      obtain ⟨n5, y5, k5, s5⟩ := rd_fld ef5 hy hsy
      rw [ce3] at k0 k1 k2 k3 k4
      rw [ce35] at k5
      obtain ⟨a0, e0, _⟩ := DataW.trod_int Fx.un3 k0
      obtain ⟨a1, e1, _⟩ := DataW.trod_int Fx.un3 k1
      obtain ⟨a2, e2, _⟩ := DataW.trod_int Fx.un3 k2
      obtain ⟨a3, e3, _⟩ := DataW.trod_int Fx.un3 k3
      obtain ⟨a4, e4, _⟩ := DataW.trod_int Fx.un3 k4
      obtain ⟨v5, xs, e5, hv5, hsm⟩ := rd_vals k5 s5
      simp at e0 e1 e2 e3 e4 e5
      subst e0 e1 e2 e3 e4 e5
      exact ⟨⟨a0, a1, a2, a3, a4, xs⟩, ⟨_, rfl, hv5.toS⟩, hsm⟩
  haveI : Inhabited Ev := ⟨⟨0, 0, 0, 0, 0, []⟩⟩
  obtain ⟨E, hE⟩ := choose_lt (α := Ev) (p := fun i e => EvRow w (fun k => k < w.heap.size) rows[i]! e ∧ SmVs e.args) key
  refine ⟨v, (List.range rows.length).map E, rfl, ⟨rows, ⟨A, c, hv, hlen, fun j row hj => ?_⟩, by simp, fun i r e hri he => ?_⟩, fun e he => ?_⟩
  · obtain ⟨b, o, h3, h4⟩ := hcell j row hj
    refine ⟨b, o, h3, ?_, h4⟩
    have hl := (hr j row hj).1
    have hc := h4 0 (row[0]'(by omega)) (List.getElem?_eq_getElem _)
    have := World.block_lt_of_cell? w _ hc
    simpa [add_at] using this
  · have hil := (List.getElem?_eq_some_iff.1 hri).1
    have h3 := (hE i hil).1
    have h4 : rows[i]! = r := by simp [hri]
    rw [h4] at h3
    simp [hil] at he
    rw [← he]; exact h3
  · obtain ⟨i, hi, rfl⟩ := List.mem_map.1 he
    exact (hE i (List.mem_range.1 hi)).2
end

set_option maxRecDepth 100000 in
theorem debugTrees_lifted (os : Os) (started : os.Started) (H : Type) (enc : TypeId × Value → H) :
    ReturnsInHanded {} Try.checked os 7 .any (Rows.debugTreesSpec.pre6 enc Try.prog Try.f7 Rows.debugTreesRow.domain false) (Rows.debugTreesSpec.post enc Try.prog Try.f7 false true false false) := by
  refine returnsInHanded_of_change_sized (C := Try.checked) own41 started (by kernel_rfl) Try.func7
    (ChangeSpec.witness6 (enc := enc) (C := Try.checked) false ⟨#[], #[.slice none 0 0, .int .i64 0], []⟩ 8 (by kernel_rfl) (by kernel_rfl) (by kernel_rfl) (by kernel_rfl)) ?_
  intro W base args ds gs before hval0 hW hcnd hsz0 _
  have hval : ∀ (j : Nat) t v, Try.f7.params[j]? = some t → args[j]? = some v → Value.okWide Try.prog W .any base t v := hval0
  have hW' := hW
  obtain ⟨p, q, hA0, hV, rfl, hfz, hnd⟩ := hW
  have hA : DataW.TrodAll enc Try.prog W 0 (fun _ => true) true Try.f7.params.toList args.toList ds p := hA0
  have hsz : (DataW.weightsEach Try.prog (Try.f7.params.toList ++ []) (ds ++ gs)).all (· ≤ reachBytes) = true := hsz0
  rw [Try.params7] at hA hsz hval
  obtain ⟨v0, v1, d0, d1, p0, p1, rfl, rfl, rfl, h0, h1⟩ := trodAll_two hA
  obtain ⟨rfl, rfl⟩ := trodVars_none hV
  clear hA0 hval0 hsz0
  simp only [List.append_nil] at hW'
  have h0' := h0
  have h1' := h1
  obtain ⟨n0, g0⟩ := h0
  obtain ⟨n1, g1⟩ := h1
  obtain ⟨u0, es, e0, hes, hsm⟩ := rd_events g0 (small_of_all hsz (j := 0) rfl rfl)
  obtain ⟨k, e1, -, hwf⟩ := DataW.trod_int Fx.un3 g1
  obtain ⟨a0, l0, c0, rfl⟩ := okWide_slice Fx.un42 (hval 0 42 v0 rfl rfl)
  obtain ⟨k', rfl⟩ := okWide_int Fx.un3 (hval 1 3 v1 rfl rfl)
  obtain rfl : Value.slice a0 l0 c0 = u0 := by simpa [Value.cells] using e0
  obtain rfl : k' = k := by simpa [Value.cells] using e1
  have hcap := (rd_bound Fx.un42 g0 (small_of_all hsz (j := 0) rfl rfl) (A := a0) (n := l0) (c := c0) (by simp [Value.cells])).1
  have hk : inI .i64 k' := by
    have h1 : IntKind.i64.min = -9223372036854775808 := by decide
    have h2 : IntKind.i64.max = 9223372036854775807 := by decide
    simp [Lit.wf] at hwf
    simp only [inI]
    omega
  have hlt := hW'.lt
  refine Calls.mono (trees_ok W _ _ es hes (fun A n c h => by cases h; exact hcap) (fun _ h => h) hsm k' hk) fun e W' he => ?_
  cases e <;> simp only [callR] at he
  obtain ⟨rfl, hx⟩ := he
  exact ⟨_, rfl, post_ext rfl hW' hx (fun _ _ _ => trodAll_mk1 (shut_bool Fx.un4 _))
    (fun sp hsp => trodAll_mk2 (Trod_ext laid41 rr42 (by decide +kernel) h0' hx (fun x hx => hlt x (List.mem_append_left _ hx)) (fun x hx => hsp x (List.mem_append_left _ hx)))
      (Trod_ext laid41 rr3 (by decide +kernel) h1' hx (fun x hx => hlt x (List.mem_append_right _ hx)) (fun x hx => hsp x (List.mem_append_right _ hx)))) rfl⟩

theorem debugTrees_holds : Rows.DebugTreesSaid :=
  OpenClaim.holds_of_wide 7 Try.f7 rfl rfl rfl rfl rfl rfl rfl ⟨rfl, rfl, rfl, rfl, rfl⟩ rfl rfl rfl rfl rfl (by kernel_rfl) Try.func7 (by kernel_rfl)
    (of_decide_eq_true (by kernel_rfl)) (by unfold Func.isWrapper; first | (rw [if_pos (by decide +kernel)]; kernel_rfl) | (rw [if_neg (by decide +kernel)]; exact ⟨rfl, rfl⟩))
    (fun os started H enc _ => debugTrees_lifted os started H enc)
#print axioms debugTrees_holds
end Go.Proofs.Ytafjfcameabbmaa
