/- Part 12 of 14: G22, T1, G23, D5, D6. -/
import Derived.Test.YtafjfcameabbmaaM11
import Derived.Test.YtafjfcameabbmaaM3
import Derived.Test.YtafjfcameabbmaaM2
import Derived.Test.YtafjfcameabbmaaM4
/- The reference's tree of an answer: Tree.  -/
set_option linter.unusedVariables false
set_option linter.unusedSimpArgs false
namespace Go.Proofs.Ytafjfcameabbmaa
open Go Go.Proofs.Vg Go.RowKit

-- -- function 18
set_option maxHeartbeats 4000000 in
set_option maxRecDepth 8000 in
theorem refTree_ok (w : World) (S : Nat → Prop) (v : Value) (es : List Ev) (h : EvSl w S v es) (hcap : ∀ A n c, v = .slice A n c → n ≤ c) (hl : es.length ≤ 400) (hS : ∀ k, S k → k < w.heap.size) (k : Int) :
    Rets Try.prog 18 [v, .int .i64 k] w (fun r w' => Ext w w' ∧ ∃ vn dvks drows S', r = .tuple #[vn, .int .i64 (treeN es k).2] ∧ DM w' 61 S' vn dvks drows (treeN es k).1) := by
  obtain ⟨A, c, hv⟩ : ∃ A c, v = .slice A es.length c := by
    obtain ⟨rws, ⟨A, c, h1, -⟩, h2, -⟩ := id h
    exact ⟨A, c, by rw [h1, h2]⟩
  have hc := hcap _ _ _ hv
  subst hv
  refine rets_of_ok Try.func18 rfl rfl ?_
  refine ok_seq (fun M hM => ok_region rfl ?_); repeat ((try first | (refine z3 hX ?_; clear hX X) | (refine z2 hX ?_; clear hX X)); (first | refine zL fun X hX => ?_ | refine zH fun X hX => ?_ | refine zE fun X hX => ?_ | refine zl ?_ | refine zh ?_ | refine ze ?_); try simp only [oweC, oweP, opF, opH, ev, evs, evp, evo, Env.get, Env.set, putE, gdst, S0, S1, thenN, inBlockN, argEnv, builtinR, retE, fin, callR, reduceIte, Nat.reduceEqDiff, Nat.reduceAdd, reduceCtorEq, forall_const, Q18])
  refine hM _ _ _ ?_; clear hM M
  refine ok_join [(0, .slice A es.length c), (1, .int .i64 k)] (fun w' => Ext w w' ∧ rightN es < 0) ?_ ?_
  · refine ok_seq (fun M hM => ok_region rfl ?_)
    repeat ((try first | (refine z3 hX ?_; clear hX X) | (refine z2 hX ?_; clear hX X)); (first | refine zL fun X hX => ?_ | refine zH fun X hX => ?_ | refine zE fun X hX => ?_ | refine zl ?_ | refine zh ?_ | refine ze ?_); try simp only [oweC, oweP, opF, opH, ev, evs, evp, evo, Env.get, Env.set, putE, gdst, S0, S1, thenN, inBlockN, argEnv, builtinR, retE, fin, callR, reduceIte, Nat.reduceEqDiff, Nat.reduceAdd, reduceCtorEq, forall_const, Q18])
    refine Inv.call Fx.en38 (refRight_ok w S _ es h hl hS) ?_
    rintro r w1 ⟨rfl, he1⟩
    repeat ((try first | (refine z3 hX ?_; clear hX X) | (refine z2 hX ?_; clear hX X)); (first | refine zL fun X hX => ?_ | refine zH fun X hX => ?_ | refine zE fun X hX => ?_ | refine zl ?_ | refine zh ?_ | refine ze ?_); try simp only [oweC, oweP, opF, opH, ev, evs, evp, evo, Env.get, Env.set, putE, gdst, S0, S1, thenN, inBlockN, argEnv, builtinR, retE, fin, callR, reduceIte, Nat.reduceEqDiff, Nat.reduceAdd, reduceCtorEq, forall_const, Q18])
    refine hM _ _ _ ?_; clear hM M
    refine ok_if rfl (fun hr => ?_) (fun hr => ok_skip ?_)
    · refine ok_seq (fun M hM => ok_region rfl ?_); repeat ((try first | (refine z3 hX ?_; clear hX X) | (refine z2 hX ?_; clear hX X)); (first | refine zL fun X hX => ?_ | refine zH fun X hX => ?_ | refine zE fun X hX => ?_ | refine zl ?_ | refine zh ?_ | refine ze ?_); try simp only [oweC, oweP, opF, opH, ev, evs, evp, evo, Env.get, Env.set, putE, gdst, S0, S1, thenN, inBlockN, argEnv, builtinR, retE, fin, callR, reduceIte, Nat.reduceEqDiff, Nat.reduceAdd, reduceCtorEq, forall_const, Q18])
      refine hM _ _ _ ?_; clear hM M
      refine ok_ret ?_
      try simp only [wpL, wpH, wpE, oweC, oweP, opF, opH, ev, evs, evp, evo, Env.get, Env.set, putE, gdst, S0, S1, thenN, inBlockN, argEnv, builtinR, retE, fin, callR, reduceIte, Nat.reduceEqDiff, Nat.reduceAdd, reduceCtorEq, forall_const, Q18]
      have ht : treeN es k = ([], 2) := by unfold treeN; rw [if_pos hr]
      rw [ht]
      exact ⟨he1, _, _, _, fun _ => False, rfl, DM.nil _ _ _⟩
    · try simp only [wpL, wpH, wpE, oweC, oweP, opF, opH, ev, evs, evp, evo, Env.get, Env.set, putE, gdst, S0, S1, thenN, inBlockN, argEnv, builtinR, retE, fin, callR, reduceIte, Nat.reduceEqDiff, Nat.reduceAdd, reduceCtorEq, forall_const, Q18]
      exact ⟨by simp [sub, Env.get, argEnv], he1, by omega⟩
  rintro w1 ⟨he1, hr⟩
  have hrt : treeN es k = match momN es k with
    | none => ([], 8)
    | some j => (growF (stepsN (es.take (j + 1))) ((stepsN (es.take (j + 1))).length + 1) 1 0, 0) := by unfold treeN; rw [if_neg (by omega)]; rfl
  have hok := okTo_of_right hr
  refine ok_seq (fun M hM => ok_region rfl ?_); repeat ((try first | (refine z3 hX ?_; clear hX X) | (refine z2 hX ?_; clear hX X)); (first | refine zL fun X hX => ?_ | refine zH fun X hX => ?_ | refine zE fun X hX => ?_ | refine zl ?_ | refine zh ?_ | refine ze ?_); try simp only [oweC, oweP, opF, opH, ev, evs, evp, evo, Env.get, Env.set, putE, gdst, S0, S1, thenN, inBlockN, argEnv, builtinR, retE, fin, callR, reduceIte, Nat.reduceEqDiff, Nat.reduceAdd, reduceCtorEq, forall_const, Q18])
  refine hM _ _ _ ?_; clear hM M
  refine ok_seq (fun M0 hM0 => ?_)
  refine ok_seq (fun M hM => ok_region rfl ?_); repeat ((try first | (refine z3 hX ?_; clear hX X) | (refine z2 hX ?_; clear hX X)); (first | refine zL fun X hX => ?_ | refine zH fun X hX => ?_ | refine zE fun X hX => ?_ | refine zl ?_ | refine zh ?_ | refine ze ?_); try simp only [oweC, oweP, opF, opH, ev, evs, evp, evo, Env.get, Env.set, putE, gdst, S0, S1, thenN, inBlockN, argEnv, builtinR, retE, fin, callR, reduceIte, Nat.reduceEqDiff, Nat.reduceAdd, reduceCtorEq, forall_const, Q18])
  refine hM _ _ _ ?_; clear hM M
  refine ok_block ?_
  refine ok_loop (S := Nat) (fun i => [(0, .slice A es.length c), (1, .int .i64 k), (6, .int .i64 ((exits es i : Nat) : Int)), (7, .int .i64 (i : Int))])
    (fun i w' => Ext w w' ∧ i ≤ es.length ∧ ∀ j, j < i → momAt es k j = false) (fun i => es.length - i) 0 ?_ ?_ ?_
  · simp [sub, Env.get, argEnv, exits]
  · exact ⟨he1, Nat.zero_le _, fun j hj => absurd hj (Nat.not_lt_zero _)⟩
  rintro i w2 ⟨he2, hi, hnone⟩
  refine ok_seq (fun M1 hM1 => ?_)
  refine ok_seq (fun M hM => ok_region rfl ?_); repeat ((try first | (refine z3 hX ?_; clear hX X) | (refine z2 hX ?_; clear hX X)); (first | refine zL fun X hX => ?_ | refine zH fun X hX => ?_ | refine zE fun X hX => ?_ | refine zl ?_ | refine zh ?_ | refine ze ?_); try simp only [oweC, oweP, opF, opH, ev, evs, evp, evo, Env.get, Env.set, putE, gdst, S0, S1, thenN, inBlockN, argEnv, builtinR, retE, fin, callR, reduceIte, Nat.reduceEqDiff, Nat.reduceAdd, reduceCtorEq, forall_const, Q18])
  refine hM _ _ _ ?_; clear hM M
  refine ok_if rfl (fun hc => ok_skip ?_) (fun hc => ok_exit ?_)
  rotate_left
  · try simp only [wpL, wpH, wpE, oweC, oweP, opF, opH, ev, evs, evp, evo, Env.get, Env.set, putE, gdst, S0, S1, thenN, inBlockN, argEnv, builtinR, retE, fin, callR, reduceIte, Nat.reduceEqDiff, Nat.reduceAdd, reduceCtorEq, forall_const, Q18]
    refine hM0 _ _ _ ?_; clear hM0 M0 hM1 M1
    have hia : i = es.length := by omega
    subst hia
    refine ok_seq (fun M hM => ok_region rfl ?_); repeat ((try first | (refine z3 hX ?_; clear hX X) | (refine z2 hX ?_; clear hX X)); (first | refine zL fun X hX => ?_ | refine zH fun X hX => ?_ | refine zE fun X hX => ?_ | refine zl ?_ | refine zh ?_ | refine ze ?_); try simp only [oweC, oweP, opF, opH, ev, evs, evp, evo, Env.get, Env.set, putE, gdst, S0, S1, thenN, inBlockN, argEnv, builtinR, retE, fin, callR, reduceIte, Nat.reduceEqDiff, Nat.reduceAdd, reduceCtorEq, forall_const, Q18])
    refine hM _ _ _ ?_; clear hM M
    refine ok_ret ?_
    try simp only [wpL, wpH, wpE, oweC, oweP, opF, opH, ev, evs, evp, evo, Env.get, Env.set, putE, gdst, S0, S1, thenN, inBlockN, argEnv, builtinR, retE, fin, callR, reduceIte, Nat.reduceEqDiff, Nat.reduceAdd, reduceCtorEq, forall_const, Q18]
    have hm : momN es k = none := firstP_none hnone
    rw [hm] at hrt
    simp only at hrt
    rw [hrt]
    exact ⟨he2, _, _, _, fun _ => False, rfl, DM.nil _ _ _⟩
  try simp only [wpL, wpH, wpE, oweC, oweP, opF, opH, ev, evs, evp, evo, Env.get, Env.set, putE, gdst, S0, S1, thenN, inBlockN, argEnv, builtinR, retE, fin, callR, reduceIte, Nat.reduceEqDiff, Nat.reduceAdd, reduceCtorEq, forall_const, Q18]
  refine hM1 _ _ _ ?_; clear hM1 M1
  have hil : i < es.length := by omega
  have h2 := h.ext he2
  obtain ⟨rws, ⟨A', c', hv', hlen, hcell⟩, hrl, hrow⟩ := id h2
  rw [hrl] at hv'
  cases hv'
  have hei : es[i]? = some es[i] := List.getElem?_eq_getElem hil
  generalize es[i] = e at hei
  have hri : rws[i]? = some (rws[i]'(by omega)) := List.getElem?_eq_getElem (by omega)
  generalize (rws[i]'(by omega)) = r at hri
  have hre := hrow i r e hri hei
  obtain ⟨b, o, rfl, hbS, hcr⟩ := hcell i r hri
  obtain ⟨ve, rfl, -⟩ := hre
  have hst := exits_step hei
  have hle := exits_le es (i + 1)
  have q0 := hcr 0 _ rfl
  have q1 := hcr 1 _ rfl
  simp only [add_at] at q0 q1
  refine ok_seq (fun M1 hM1 => ok_block ?_)
  have nxt : ∀ (K : Env), (sub [(0, .slice (some ⟨b, o, none⟩) es.length c), (1, .int .i64 k), (6, .int .i64 ((exits es (i + 1) : Nat) : Int)), (7, .int .i64 (i : Int))] K) → momAt es k i = false → M1 K [] w2 := by
    intro K hsub hm
    refine hM1 _ _ _ ?_; clear hM1 M1
    refine ok_less _ hsub ?_
    refine ok_region rfl ?_
    repeat ((try first | (refine z3 hX ?_; clear hX X) | (refine z2 hX ?_; clear hX X)); (first | refine zL fun X hX => ?_ | refine zH fun X hX => ?_ | refine zE fun X hX => ?_ | refine zl ?_ | refine zh ?_ | refine ze ?_); try simp only [oweC, oweP, opF, opH, ev, evs, evp, evo, Env.get, Env.set, putE, gdst, S0, S1, thenN, inBlockN, argEnv, builtinR, retE, fin, callR, reduceIte, Nat.reduceEqDiff, Nat.reduceAdd, reduceCtorEq, forall_const, Q18])
    refine ⟨by simp only [inI]; omega, ?_⟩
    repeat ((try first | (refine z3 hX ?_; clear hX X) | (refine z2 hX ?_; clear hX X)); (first | refine zL fun X hX => ?_ | refine zH fun X hX => ?_ | refine zE fun X hX => ?_ | refine zl ?_ | refine zh ?_ | refine ze ?_); try simp only [oweC, oweP, opF, opH, ev, evs, evp, evo, Env.get, Env.set, putE, gdst, S0, S1, thenN, inBlockN, argEnv, builtinR, retE, fin, callR, reduceIte, Nat.reduceEqDiff, Nat.reduceAdd, reduceCtorEq, forall_const, Q18])
    refine ⟨i + 1, by simp [sub, Env.get], ⟨he2, by omega, fun j hj => ?_⟩, by omega⟩
    rcases Nat.lt_or_ge j i with h1 | h1
    · exact hnone j h1
    · have : j = i := by omega
      subst this; exact hm
  refine ok_seq (fun M hM => ok_region rfl ?_)
  repeat ((try first | (refine z3 hX ?_; clear hX X) | (refine z2 hX ?_; clear hX X)); (first | refine zL fun X hX => ?_ | refine zH fun X hX => ?_ | refine zE fun X hX => ?_ | refine zl ?_ | refine zh ?_ | refine ze ?_); try simp only [oweC, oweP, opF, opH, ev, evs, evp, evo, Env.get, Env.set, putE, gdst, S0, S1, thenN, inBlockN, argEnv, builtinR, retE, fin, callR, reduceIte, Nat.reduceEqDiff, Nat.reduceAdd, reduceCtorEq, forall_const, Q18])
  refine ⟨by omega, by omega, ?_⟩
  repeat ((try first | (refine z3 hX ?_; clear hX X) | (refine z2 hX ?_; clear hX X)); (first | refine zL fun X hX => ?_ | refine zH fun X hX => ?_ | refine zE fun X hX => ?_ | refine zl ?_ | refine zh ?_ | refine ze ?_); try simp only [oweC, oweP, opF, opH, ev, evs, evp, evo, Env.get, Env.set, putE, gdst, S0, S1, thenN, inBlockN, argEnv, builtinR, retE, fin, callR, reduceIte, Nat.reduceEqDiff, Nat.reduceAdd, reduceCtorEq, forall_const, Q18])
  refine ⟨.int .i64 e.port, by simpa using q0, ?_⟩
  repeat ((try first | (refine z3 hX ?_; clear hX X) | (refine z2 hX ?_; clear hX X)); (first | refine zL fun X hX => ?_ | refine zH fun X hX => ?_ | refine zE fun X hX => ?_ | refine zl ?_ | refine zh ?_ | refine ze ?_); try simp only [oweC, oweP, opF, opH, ev, evs, evp, evo, Env.get, Env.set, putE, gdst, S0, S1, thenN, inBlockN, argEnv, builtinR, retE, fin, callR, reduceIte, Nat.reduceEqDiff, Nat.reduceAdd, reduceCtorEq, forall_const, Q18])
  by_cases hport : e.port = 1
  rotate_left
  · simp only [hport, decide_false]
    repeat ((try first | (refine z3 hX ?_; clear hX X) | (refine z2 hX ?_; clear hX X)); (first | refine zL fun X hX => ?_ | refine zH fun X hX => ?_ | refine zE fun X hX => ?_ | refine zl ?_ | refine zh ?_ | refine ze ?_); try simp only [oweC, oweP, opF, opH, ev, evs, evp, evo, Env.get, Env.set, putE, gdst, S0, S1, thenN, inBlockN, argEnv, builtinR, retE, fin, callR, reduceIte, Nat.reduceEqDiff, Nat.reduceAdd, reduceCtorEq, forall_const, Q18])
    refine ⟨fun h => (by cases h), fun _ => ?_⟩
    repeat ((try first | (refine z3 hX ?_; clear hX X) | (refine z2 hX ?_; clear hX X)); (first | refine zL fun X hX => ?_ | refine zH fun X hX => ?_ | refine zE fun X hX => ?_ | refine zl ?_ | refine zh ?_ | refine ze ?_); try simp only [oweC, oweP, opF, opH, ev, evs, evp, evo, Env.get, Env.set, putE, gdst, S0, S1, thenN, inBlockN, argEnv, builtinR, retE, fin, callR, reduceIte, Nat.reduceEqDiff, Nat.reduceAdd, reduceCtorEq, forall_const, Q18])
    refine hM _ _ _ ?_; clear hM M
    refine ok_cond (b := false) rfl (fun h => by cases h) (fun _ => ok_skip ?_)
    try simp only [wpL, wpH, wpE, oweC, oweP, opF, opH, ev, evs, evp, evo, Env.get, Env.set, putE, gdst, S0, S1, thenN, inBlockN, argEnv, builtinR, retE, fin, callR, reduceIte, Nat.reduceEqDiff, Nat.reduceAdd, reduceCtorEq, forall_const, Q18]
    have hx : isEx e = false := by simp [isEx, hport]
    rw [hx] at hst
    exact nxt _ (by simp [sub, Env.get, hst]) (by simp [momAt, hei, hx])
  simp only [hport, decide_true]
  repeat ((try first | (refine z3 hX ?_; clear hX X) | (refine z2 hX ?_; clear hX X)); (first | refine zL fun X hX => ?_ | refine zH fun X hX => ?_ | refine zE fun X hX => ?_ | refine zl ?_ | refine zh ?_ | refine ze ?_); try simp only [oweC, oweP, opF, opH, ev, evs, evp, evo, Env.get, Env.set, putE, gdst, S0, S1, thenN, inBlockN, argEnv, builtinR, retE, fin, callR, reduceIte, Nat.reduceEqDiff, Nat.reduceAdd, reduceCtorEq, forall_const, Q18])
  refine ⟨fun _ => ?_, fun h => (by cases h)⟩
  repeat ((try first | (refine z3 hX ?_; clear hX X) | (refine z2 hX ?_; clear hX X)); (first | refine zL fun X hX => ?_ | refine zH fun X hX => ?_ | refine zE fun X hX => ?_ | refine zl ?_ | refine zh ?_ | refine ze ?_); try simp only [oweC, oweP, opF, opH, ev, evs, evp, evo, Env.get, Env.set, putE, gdst, S0, S1, thenN, inBlockN, argEnv, builtinR, retE, fin, callR, reduceIte, Nat.reduceEqDiff, Nat.reduceAdd, reduceCtorEq, forall_const, Q18])
  refine ⟨by omega, by omega, ?_⟩
  repeat ((try first | (refine z3 hX ?_; clear hX X) | (refine z2 hX ?_; clear hX X)); (first | refine zL fun X hX => ?_ | refine zH fun X hX => ?_ | refine zE fun X hX => ?_ | refine zl ?_ | refine zh ?_ | refine ze ?_); try simp only [oweC, oweP, opF, opH, ev, evs, evp, evo, Env.get, Env.set, putE, gdst, S0, S1, thenN, inBlockN, argEnv, builtinR, retE, fin, callR, reduceIte, Nat.reduceEqDiff, Nat.reduceAdd, reduceCtorEq, forall_const, Q18])
  refine ⟨.int .i64 e.call, by simpa using q1, ?_⟩
  repeat ((try first | (refine z3 hX ?_; clear hX X) | (refine z2 hX ?_; clear hX X)); (first | refine zL fun X hX => ?_ | refine zH fun X hX => ?_ | refine zE fun X hX => ?_ | refine zl ?_ | refine zh ?_ | refine ze ?_); try simp only [oweC, oweP, opF, opH, ev, evs, evp, evo, Env.get, Env.set, putE, gdst, S0, S1, thenN, inBlockN, argEnv, builtinR, retE, fin, callR, reduceIte, Nat.reduceEqDiff, Nat.reduceAdd, reduceCtorEq, forall_const, Q18])
  by_cases hcall : e.call = 1
  rotate_left
  · simp only [hcall, decide_false]
    repeat ((try first | (refine z3 hX ?_; clear hX X) | (refine z2 hX ?_; clear hX X)); (first | refine zL fun X hX => ?_ | refine zH fun X hX => ?_ | refine zE fun X hX => ?_ | refine zl ?_ | refine zh ?_ | refine ze ?_); try simp only [oweC, oweP, opF, opH, ev, evs, evp, evo, Env.get, Env.set, putE, gdst, S0, S1, thenN, inBlockN, argEnv, builtinR, retE, fin, callR, reduceIte, Nat.reduceEqDiff, Nat.reduceAdd, reduceCtorEq, forall_const, Q18])
    refine hM _ _ _ ?_; clear hM M
    refine ok_cond (b := false) rfl (fun h => by cases h) (fun _ => ok_skip ?_)
    try simp only [wpL, wpH, wpE, oweC, oweP, opF, opH, ev, evs, evp, evo, Env.get, Env.set, putE, gdst, S0, S1, thenN, inBlockN, argEnv, builtinR, retE, fin, callR, reduceIte, Nat.reduceEqDiff, Nat.reduceAdd, reduceCtorEq, forall_const, Q18]
    have hx : isEx e = false := by simp [isEx, hcall]
    rw [hx] at hst
    exact nxt _ (by simp [sub, Env.get, hst]) (by simp [momAt, hei, hx])
  simp only [hcall, decide_true]
  have hx : isEx e = true := by simp [isEx, hport, hcall]
  rw [hx] at hst
  simp only [if_true] at hst
  repeat ((try first | (refine z3 hX ?_; clear hX X) | (refine z2 hX ?_; clear hX X)); (first | refine zL fun X hX => ?_ | refine zH fun X hX => ?_ | refine zE fun X hX => ?_ | refine zl ?_ | refine zh ?_ | refine ze ?_); try simp only [oweC, oweP, opF, opH, ev, evs, evp, evo, Env.get, Env.set, putE, gdst, S0, S1, thenN, inBlockN, argEnv, builtinR, retE, fin, callR, reduceIte, Nat.reduceEqDiff, Nat.reduceAdd, reduceCtorEq, forall_const, Q18])
  refine hM _ _ _ ?_; clear hM M
  refine ok_cond (b := true) rfl (fun _ => ?_) (fun h => by cases h)
  refine ok_seq (fun M hM => ok_region rfl ?_)
  repeat ((try first | (refine z3 hX ?_; clear hX X) | (refine z2 hX ?_; clear hX X)); (first | refine zL fun X hX => ?_ | refine zH fun X hX => ?_ | refine zE fun X hX => ?_ | refine zl ?_ | refine zh ?_ | refine ze ?_); try simp only [oweC, oweP, opF, opH, ev, evs, evp, evo, Env.get, Env.set, putE, gdst, S0, S1, thenN, inBlockN, argEnv, builtinR, retE, fin, callR, reduceIte, Nat.reduceEqDiff, Nat.reduceAdd, reduceCtorEq, forall_const, Q18])
  refine ⟨by simp only [inI]; omega, ?_⟩
  have hst' : ((exits es i : Nat) : Int) + 1 = ((exits es (i + 1) : Nat) : Int) := by omega
  rw [hst']
  repeat ((try first | (refine z3 hX ?_; clear hX X) | (refine z2 hX ?_; clear hX X)); (first | refine zL fun X hX => ?_ | refine zH fun X hX => ?_ | refine zE fun X hX => ?_ | refine zl ?_ | refine zh ?_ | refine ze ?_); try simp only [oweC, oweP, opF, opH, ev, evs, evp, evo, Env.get, Env.set, putE, gdst, S0, S1, thenN, inBlockN, argEnv, builtinR, retE, fin, callR, reduceIte, Nat.reduceEqDiff, Nat.reduceAdd, reduceCtorEq, forall_const, Q18])
  refine hM _ _ _ ?_; clear hM M
  refine ok_seq (fun M hM => ok_region rfl ?_); repeat ((try first | (refine z3 hX ?_; clear hX X) | (refine z2 hX ?_; clear hX X)); (first | refine zL fun X hX => ?_ | refine zH fun X hX => ?_ | refine zE fun X hX => ?_ | refine zl ?_ | refine zh ?_ | refine ze ?_); try simp only [oweC, oweP, opF, opH, ev, evs, evp, evo, Env.get, Env.set, putE, gdst, S0, S1, thenN, inBlockN, argEnv, builtinR, retE, fin, callR, reduceIte, Nat.reduceEqDiff, Nat.reduceAdd, reduceCtorEq, forall_const, Q18])
  refine hM _ _ _ ?_; clear hM M
  refine ok_if rfl (fun hc2 => ?_) (fun hc2 => ok_skip ?_)
  rotate_left
  · try simp only [wpL, wpH, wpE, oweC, oweP, opF, opH, ev, evs, evp, evo, Env.get, Env.set, putE, gdst, S0, S1, thenN, inBlockN, argEnv, builtinR, retE, fin, callR, reduceIte, Nat.reduceEqDiff, Nat.reduceAdd, reduceCtorEq, forall_const, Q18]
    exact nxt _ (by simp [sub, Env.get]) (by simp [momAt, hei, hc2])
  have hm : momN es k = some i := firstP_at hil hnone (by simp [momAt, hei, hx, hc2])
  rw [hm] at hrt
  simp only at hrt
  have hfc := first_call hok hm
  have hokj := hok.take (n := i + 1) (by omega)
  have hlj : (es.take (i + 1)).length = i + 1 := by rw [List.length_take, Nat.min_eq_left (by omega)]
  obtain ⟨hwf, hki⟩ := hokj.wf (i := i + 1) (by omega)
  rw [List.take_take, Nat.min_eq_left (Nat.le_refl _)] at hwf hki
  have hrj : rightN (es.take (i + 1)) = -1 := rightN_ok (by rw [hlj]; exact hokj)
  have hs2 := he2.size
  have hsl := fun (w' : World) => run_sliceAt (P := Try.prog) Fx.un42 Fx.zi69 (some ⟨b, o, none⟩) es.length c none (some (i + 1)) .i64 .i64 (by simp; omega) (by simp) w'
  simp only [Option.map_none, Option.map_some, Option.getD_none, Option.getD_some, Nat.sub_zero] at hsl
  have hj1 : (((i + 1 : Nat) : Int)) = (i : Int) + 1 := by omega
  rw [hj1] at hsl
  refine ok_seq (fun M hM => ok_region rfl ?_)
  repeat ((try first | (refine z3 hX ?_; clear hX X) | (refine z2 hX ?_; clear hX X)); (first | refine zL fun X hX => ?_ | refine zH fun X hX => ?_ | refine zE fun X hX => ?_ | refine zl ?_ | refine zh ?_ | refine ze ?_); try simp only [oweC, oweP, opF, opH, ev, evs, evp, evo, Env.get, Env.set, putE, gdst, S0, S1, thenN, inBlockN, argEnv, builtinR, retE, fin, callR, reduceIte, Nat.reduceEqDiff, Nat.reduceAdd, reduceCtorEq, forall_const, Q18])
  refine ⟨by simp only [inI]; omega, ?_⟩
  repeat ((try first | (refine z3 hX ?_; clear hX X) | (refine z2 hX ?_; clear hX X)); (first | refine zL fun X hX => ?_ | refine zH fun X hX => ?_ | refine zE fun X hX => ?_ | refine zl ?_ | refine zh ?_ | refine ze ?_); try simp only [oweC, oweP, opF, opH, ev, evs, evp, evo, Env.get, Env.set, putE, gdst, S0, S1, thenN, inBlockN, argEnv, builtinR, retE, fin, callR, reduceIte, Nat.reduceEqDiff, Nat.reduceAdd, reduceCtorEq, forall_const, Q18])
  refine ⟨_, _, hsl _, ?_⟩
  have hA : (if c = 0 then some (⟨b, o, none⟩ : Addr) else some (Addr.add ⟨b, o, none⟩ (0 * 6))) = some ⟨b, o, none⟩ := by
    split
    · rfl
    · simp [Addr.add]
  rw [hA]
  repeat ((try first | (refine z3 hX ?_; clear hX X) | (refine z2 hX ?_; clear hX X)); (first | refine zL fun X hX => ?_ | refine zH fun X hX => ?_ | refine zE fun X hX => ?_ | refine zl ?_ | refine zh ?_ | refine ze ?_); try simp only [oweC, oweP, opF, opH, ev, evs, evp, evo, Env.get, Env.set, putE, gdst, S0, S1, thenN, inBlockN, argEnv, builtinR, retE, fin, callR, reduceIte, Nat.reduceEqDiff, Nat.reduceAdd, reduceCtorEq, forall_const, Q18])
  refine Inv.call Fx.en39 (refTraceTree_ok w2 S (.slice (some ⟨b, o, none⟩) (i + 1) c) (es.take (i + 1)) (h2.take (by omega) c) (by omega) (fun k hk => by have := hS k hk; omega) hrj) ?_
  rintro r w3 ⟨vc, rfl, he3, cvks, crows, hnm3⟩
  have hs3 := he3.size
  generalize hnds : stepsN (es.take (i + 1)) = nds at hwf hki hnm3 hfc hrt
  have hn := hwf.n
  have hsz := size_root hwf hki (nds.length + 1)
  repeat ((try first | (refine z3 hX ?_; clear hX X) | (refine z2 hX ?_; clear hX X)); (first | refine zL fun X hX => ?_ | refine zH fun X hX => ?_ | refine zE fun X hX => ?_ | refine zl ?_ | refine zh ?_ | refine ze ?_); try simp only [oweC, oweP, opF, opH, ev, evs, evp, evo, Env.get, Env.set, putE, gdst, S0, S1, thenN, inBlockN, argEnv, builtinR, retE, fin, callR, reduceIte, Nat.reduceEqDiff, Nat.reduceAdd, reduceCtorEq, forall_const, Q18])
  refine hM _ _ _ ?_; clear hM M
  refine ok_seq (fun M hM => ok_region rfl ?_)
  repeat ((try first | (refine z3 hX ?_; clear hX X) | (refine z2 hX ?_; clear hX X)); (first | refine zL fun X hX => ?_ | refine zH fun X hX => ?_ | refine zE fun X hX => ?_ | refine zl ?_ | refine zh ?_ | refine ze ?_); try simp only [oweC, oweP, opF, opH, ev, evs, evp, evo, Env.get, Env.set, putE, gdst, S0, S1, thenN, inBlockN, argEnv, builtinR, retE, fin, callR, reduceIte, Nat.reduceEqDiff, Nat.reduceAdd, reduceCtorEq, forall_const, Q18])
  refine Inv.call Fx.en40 (grow_ok w3.heap.size S vc cvks crows nds (i + 1) hwf (by omega) (fun k hk => by have := hS k hk; omega) hnm3.flt (nds.length + 1) 1 w3 _ _ _ [] (by omega) (by omega) (by omega) (by simp; omega) hnm3 (DM.nil _ _ _) (Nat.le_refl _) (fun k hk => (NFoot.nil hk).elim)) ?_
  rintro r w4 ⟨⟨dvks4, drows4, hout4, -⟩, hc4⟩
  repeat ((try first | (refine z3 hX ?_; clear hX X) | (refine z2 hX ?_; clear hX X)); (first | refine zL fun X hX => ?_ | refine zH fun X hX => ?_ | refine zE fun X hX => ?_ | refine zl ?_ | refine zh ?_ | refine ze ?_); try simp only [oweC, oweP, opF, opH, ev, evs, evp, evo, Env.get, Env.set, putE, gdst, S0, S1, thenN, inBlockN, argEnv, builtinR, retE, fin, callR, reduceIte, Nat.reduceEqDiff, Nat.reduceAdd, reduceCtorEq, forall_const, Q18])
  refine hM _ _ _ ?_; clear hM M
  refine ok_ret ?_
  try simp only [wpL, wpH, wpE, oweC, oweP, opF, opH, ev, evs, evp, evo, Env.get, Env.set, putE, gdst, S0, S1, thenN, inBlockN, argEnv, builtinR, retE, fin, callR, reduceIte, Nat.reduceEqDiff, Nat.reduceAdd, reduceCtorEq, forall_const, Q18]
  rw [hrt]
  exact ⟨(he2.trans he3).chg_trans hc4 (fun k hk => (NFoot.nil hk).elim), r, dvks4, drows4, _, rfl, by simpa using hout4⟩
end Go.Proofs.Ytafjfcameabbmaa
set_option linter.unusedVariables false
set_option linter.unusedSimpArgs false
namespace Go.Proofs.Ytafjfcameabbmaa
open Go Go.Proofs.Vg Go.RowKit
-- -- function 13
theorem ints_ok (w : World) (va vb : Value) (xs ys : List Int) (ha : SlI w va xs) (hb : SlI w vb ys) : Rets Try.prog 13 [va, vb] w (fun v w' => v = .bool (decide (xs = ys)) ∧ Ext w w') := by
  obtain ⟨A, ca, rfl, hla, hca⟩ := ha.at_
  obtain ⟨B, cb, rfl, hlb, hcb⟩ := hb.at_
  clear ha hb
  refine rets_of_ok Try.func13 rfl rfl ?_
  refine ok_seq (fun M hM => ok_region rfl ?_); try simp only [wpL, wpH, wpE, oweC, oweP, opF, opH, ev, evs, evp, evo, Env.get, Env.set, putE, gdst, S0, S1, thenN, inBlockN, argEnv, builtinR, retE, fin, callR, reduceIte, Nat.reduceEqDiff, Nat.reduceAdd, reduceCtorEq, forall_const, Q13]
  refine hM _ _ _ ?_; clear hM M
  refine ok_seq (fun M0 hM0 => ?_)
  refine ok_seq (fun M hM => ok_region rfl ?_); try simp only [wpL, wpH, wpE, oweC, oweP, opF, opH, ev, evs, evp, evo, Env.get, Env.set, putE, gdst, S0, S1, thenN, inBlockN, argEnv, builtinR, retE, fin, callR, reduceIte, Nat.reduceEqDiff, Nat.reduceAdd, reduceCtorEq, forall_const, Q13]
  refine hM _ _ _ ?_; clear hM M
  refine ok_ifn rfl (fun hc => ?_) (fun hc => ?_)
  · refine ok_seq (fun M hM => ok_region rfl ?_); try simp only [wpL, wpH, wpE, oweC, oweP, opF, opH, ev, evs, evp, evo, Env.get, Env.set, putE, gdst, S0, S1, thenN, inBlockN, argEnv, builtinR, retE, fin, callR, reduceIte, Nat.reduceEqDiff, Nat.reduceAdd, reduceCtorEq, forall_const, Q13]
    refine hM _ _ _ ?_; clear hM M
    refine ok_ret ?_
    try simp only [wpL, wpH, wpE, oweC, oweP, opF, opH, ev, evs, evp, evo, Env.get, Env.set, putE, gdst, S0, S1, thenN, inBlockN, argEnv, builtinR, retE, fin, callR, reduceIte, Nat.reduceEqDiff, Nat.reduceAdd, reduceCtorEq, forall_const, Q13]
    refine ⟨?_, Ext.refl _⟩
    have : xs ≠ ys := fun e => by subst e; simp at hc
    simp [this]
  refine ok_skip ?_
  try simp only [wpL, wpH, wpE, oweC, oweP, opF, opH, ev, evs, evp, evo, Env.get, Env.set, putE, gdst, S0, S1, thenN, inBlockN, argEnv, builtinR, retE, fin, callR, reduceIte, Nat.reduceEqDiff, Nat.reduceAdd, reduceCtorEq, forall_const, Q13]
  refine hM0 _ _ _ ?_; clear hM0 M0
  have hlen : xs.length = ys.length := by omega
  refine ok_seq (fun M0 hM0 => ?_)
  refine ok_seq (fun M hM => ok_region rfl ?_); try simp only [wpL, wpH, wpE, oweC, oweP, opF, opH, ev, evs, evp, evo, Env.get, Env.set, putE, gdst, S0, S1, thenN, inBlockN, argEnv, builtinR, retE, fin, callR, reduceIte, Nat.reduceEqDiff, Nat.reduceAdd, reduceCtorEq, forall_const, Q13]
  refine hM _ _ _ ?_; clear hM M
  refine ok_block ?_
  refine ok_loop (S := Nat) (fun k => [(0, .slice A xs.length ca), (1, .slice B ys.length cb), (5, .int .i64 (k : Int))]) (fun k w' => Ext w w' ∧ k ≤ xs.length ∧ xs.take k = ys.take k) (fun k => xs.length - k) 0 ?_ ?_ ?_
  · simp [sub, Env.get, argEnv]
  · exact ⟨Ext.refl _, Nat.zero_le _, by simp⟩
  rintro k w' ⟨he, hk, hp⟩
  refine ok_seq (fun M1 hM1 => ?_)
  refine ok_seq (fun M hM => ok_region rfl ?_); try simp only [wpL, wpH, wpE, oweC, oweP, opF, opH, ev, evs, evp, evo, Env.get, Env.set, putE, gdst, S0, S1, thenN, inBlockN, argEnv, builtinR, retE, fin, callR, reduceIte, Nat.reduceEqDiff, Nat.reduceAdd, reduceCtorEq, forall_const, Q13]
  refine hM _ _ _ ?_; clear hM M
  refine ok_if rfl (fun hc => ok_skip ?_) (fun hc => ok_exit ?_)
  · try simp only [wpL, wpH, wpE, oweC, oweP, opF, opH, ev, evs, evp, evo, Env.get, Env.set, putE, gdst, S0, S1, thenN, inBlockN, argEnv, builtinR, retE, fin, callR, reduceIte, Nat.reduceEqDiff, Nat.reduceAdd, reduceCtorEq, forall_const, Q13]
    refine hM1 _ _ _ ?_; clear hM1 M1
    have hkl : k < xs.length := by omega
    obtain ⟨b, o, rfl, hcx⟩ := hca k hkl
    obtain ⟨b', o', rfl, hcy⟩ := hcb k (by omega)
    refine ok_seq (fun M1 hM1 => ok_block ?_)
    refine ok_seq (fun M hM => ok_draw 9 [] (Ext _) Fx.mixed (by decide) rfl (by decide +kernel) (by decide +kernel) (Ext.drew _) ?_); try simp only [wpL, wpH, wpE, oweC, oweP, opF, opH, ev, evs, evp, evo, Env.get, Env.set, putE, gdst, S0, S1, thenN, inBlockN, argEnv, builtinR, retE, fin, callR, reduceIte, Nat.reduceEqDiff, Nat.reduceAdd, reduceCtorEq, forall_const, Q13]
    refine ⟨by omega, by omega, _, fun w2 h => h.cell (he.cell hcx), by omega, by omega, _, fun w2 h => h.cell (he.cell hcy), ?_⟩
    try simp only [wpL, wpH, wpE, oweC, oweP, opF, opH, ev, evs, evp, evo, Env.get, Env.set, putE, gdst, S0, S1, thenN, inBlockN, argEnv, builtinR, retE, fin, callR, reduceIte, Nat.reduceEqDiff, Nat.reduceAdd, reduceCtorEq, forall_const, Q13]
    intro w2 he2
    refine hM _ _ _ ?_; clear hM M
    refine ok_ifn rfl (fun hc => ?_) (fun hc => ok_skip ?_)
    · refine ok_seq (fun M hM => ok_region rfl ?_); try simp only [wpL, wpH, wpE, oweC, oweP, opF, opH, ev, evs, evp, evo, Env.get, Env.set, putE, gdst, S0, S1, thenN, inBlockN, argEnv, builtinR, retE, fin, callR, reduceIte, Nat.reduceEqDiff, Nat.reduceAdd, reduceCtorEq, forall_const, Q13]
      refine hM _ _ _ ?_; clear hM M
      refine ok_ret ?_
      try simp only [wpL, wpH, wpE, oweC, oweP, opF, opH, ev, evs, evp, evo, Env.get, Env.set, putE, gdst, S0, S1, thenN, inBlockN, argEnv, builtinR, retE, fin, callR, reduceIte, Nat.reduceEqDiff, Nat.reduceAdd, reduceCtorEq, forall_const, Q13]
      refine ⟨?_, he.trans he2⟩
      have : xs ≠ ys := fun e => by subst e; simp at hc
      simp [this]
    · try simp only [wpL, wpH, wpE, oweC, oweP, opF, opH, ev, evs, evp, evo, Env.get, Env.set, putE, gdst, S0, S1, thenN, inBlockN, argEnv, builtinR, retE, fin, callR, reduceIte, Nat.reduceEqDiff, Nat.reduceAdd, reduceCtorEq, forall_const, Q13]
      refine hM1 _ _ _ ?_; clear hM1 M1
      refine ok_region rfl ?_
      try simp only [wpL, wpH, wpE, oweC, oweP, opF, opH, ev, evs, evp, evo, Env.get, Env.set, putE, gdst, S0, S1, thenN, inBlockN, argEnv, builtinR, retE, fin, callR, reduceIte, Nat.reduceEqDiff, Nat.reduceAdd, reduceCtorEq, forall_const, Q13]
      refine ⟨by simp only [inI]; omega, k + 1, by simp [sub, Env.get], ⟨he.trans he2, by omega, ?_⟩, by omega⟩
      rw [List.take_succ_eq_append_getElem hkl, List.take_succ_eq_append_getElem (by omega), hp, hc]
  · try simp only [wpL, wpH, wpE, oweC, oweP, opF, opH, ev, evs, evp, evo, Env.get, Env.set, putE, gdst, S0, S1, thenN, inBlockN, argEnv, builtinR, retE, fin, callR, reduceIte, Nat.reduceEqDiff, Nat.reduceAdd, reduceCtorEq, forall_const, Q13]
    refine hM0 _ _ _ ?_; clear hM0 M0 hM1 M1
    refine ok_seq (fun M hM => ok_region rfl ?_); try simp only [wpL, wpH, wpE, oweC, oweP, opF, opH, ev, evs, evp, evo, Env.get, Env.set, putE, gdst, S0, S1, thenN, inBlockN, argEnv, builtinR, retE, fin, callR, reduceIte, Nat.reduceEqDiff, Nat.reduceAdd, reduceCtorEq, forall_const, Q13]
    refine hM _ _ _ ?_; clear hM M
    refine ok_ret ?_
    try simp only [wpL, wpH, wpE, oweC, oweP, opF, opH, ev, evs, evp, evo, Env.get, Env.set, putE, gdst, S0, S1, thenN, inBlockN, argEnv, builtinR, retE, fin, callR, reduceIte, Nat.reduceEqDiff, Nat.reduceAdd, reduceCtorEq, forall_const, Q13]
    refine ⟨?_, he⟩
    have : xs = ys := by
      have hk' : xs.length ≤ k := by omega
      rw [List.take_of_length_le hk', List.take_of_length_le (by omega)] at hp
      exact hp
    simp [this]
end Go.Proofs.Ytafjfcameabbmaa
/- law.same.  -/
set_option linter.unusedVariables false
set_option linter.unusedSimpArgs false
namespace Go.Proofs.Vg
open Go Go.RowKit
/-- What has come of the two nodes that are copied. -/
structure J6 (w0 : World) (vn1 vn2 : Value) (a1 a2 : Addr) (r1 r2 : List Value) (i : Int) (L : Nat → Bool) (K : Env) (w : World) : Prop where
  ext : Ext w0 w
  e0 : K.get 0 = some vn1
  e1 : K.get 1 = some vn2
  e5 : K.get 5 = some (.int .i64 i)
  h0 : L 0 = true → K.get 19 = some (vn1)
  h1 : L 1 = true → K.get 20 = some (.int .i64 i)
  h2 : L 2 = true → K.get 21 = some (.pointer (some a1))
  h3 : L 3 = true → K.get 22 = some (.agg r1.toArray)
  h4 : L 4 = true → K.get 23 = some (vn2)
  h5 : L 5 = true → K.get 24 = some (.int .i64 i)
  h6 : L 6 = true → K.get 25 = some (.pointer (some a2))
  h7 : L 7 = true → K.get 26 = some (.agg r2.toArray)
  h8 : L 8 = true → ∃ B cs, K.get 6 = some (.pointer (some ⟨B, 0, none⟩)) ∧ w0.heap.size ≤ B ∧ Blk w B cs 37 ∧ cs.length = 5 ∧ (L 10 = true → cs = r1)
  h9 : L 9 = true → ∃ B cs, K.get 7 = some (.pointer (some ⟨B, 0, none⟩)) ∧ w0.heap.size ≤ B ∧ Blk w B cs 61 ∧ cs.length = 5 ∧ (L 11 = true → cs = r2)
  ne : L 8 = true → L 9 = true → K.get 6 ≠ K.get 7
  c10 : L 10 = true → L 8 = true
  c11 : L 11 = true → L 9 = true
section
variable {w0 w : World} {vn1 vn2 : Value} {a1 a2 : Addr} {r1 r2 : List Value} {i : Int} {L : Nat → Bool} {K : Env}
theorem J6.s0 (h : J6 w0 vn1 vn2 a1 a2 r1 r2 i L K w) : J6 w0 vn1 vn2 a1 a2 r1 r2 i (up L 0) ((19, vn1) :: K) w :=
  ⟨h.ext,
   by simpa [Env.get] using h.e0,
   by simpa [Env.get] using h.e1,
   by simpa [Env.get] using h.e5,
   fun _ => by simp [Env.get],
   fun hh => by simpa [Env.get] using h.h1 (by simpa [up] using hh),
   fun hh => by simpa [Env.get] using h.h2 (by simpa [up] using hh),
   fun hh => by simpa [Env.get] using h.h3 (by simpa [up] using hh),
   fun hh => by simpa [Env.get] using h.h4 (by simpa [up] using hh),
   fun hh => by simpa [Env.get] using h.h5 (by simpa [up] using hh),
   fun hh => by simpa [Env.get] using h.h6 (by simpa [up] using hh),
   fun hh => by simpa [Env.get] using h.h7 (by simpa [up] using hh),
   fun hh => by simpa [Env.get, up] using h.h8 (by simpa [up] using hh),
   fun hh => by simpa [Env.get, up] using h.h9 (by simpa [up] using hh),
   fun ha hb => by simpa [Env.get] using h.ne (by simpa [up] using ha) (by simpa [up] using hb),
   fun hh => by simpa [up] using h.c10 (by simpa [up] using hh),
   fun hh => by simpa [up] using h.c11 (by simpa [up] using hh)⟩
theorem J6.s1 (h : J6 w0 vn1 vn2 a1 a2 r1 r2 i L K w) : J6 w0 vn1 vn2 a1 a2 r1 r2 i (up L 1) ((20, .int .i64 i) :: K) w :=
  ⟨h.ext,
   by simpa [Env.get] using h.e0,
   by simpa [Env.get] using h.e1,
   by simpa [Env.get] using h.e5,
   fun hh => by simpa [Env.get] using h.h0 (by simpa [up] using hh),
   fun _ => by simp [Env.get],
   fun hh => by simpa [Env.get] using h.h2 (by simpa [up] using hh),
   fun hh => by simpa [Env.get] using h.h3 (by simpa [up] using hh),
   fun hh => by simpa [Env.get] using h.h4 (by simpa [up] using hh),
   fun hh => by simpa [Env.get] using h.h5 (by simpa [up] using hh),
   fun hh => by simpa [Env.get] using h.h6 (by simpa [up] using hh),
   fun hh => by simpa [Env.get] using h.h7 (by simpa [up] using hh),
   fun hh => by simpa [Env.get, up] using h.h8 (by simpa [up] using hh),
   fun hh => by simpa [Env.get, up] using h.h9 (by simpa [up] using hh),
   fun ha hb => by simpa [Env.get] using h.ne (by simpa [up] using ha) (by simpa [up] using hb),
   fun hh => by simpa [up] using h.c10 (by simpa [up] using hh),
   fun hh => by simpa [up] using h.c11 (by simpa [up] using hh)⟩
theorem J6.s2 (h : J6 w0 vn1 vn2 a1 a2 r1 r2 i L K w) : J6 w0 vn1 vn2 a1 a2 r1 r2 i (up L 2) ((21, .pointer (some a1)) :: K) w :=
  ⟨h.ext,
   by simpa [Env.get] using h.e0,
   by simpa [Env.get] using h.e1,
   by simpa [Env.get] using h.e5,
   fun hh => by simpa [Env.get] using h.h0 (by simpa [up] using hh),
   fun hh => by simpa [Env.get] using h.h1 (by simpa [up] using hh),
   fun _ => by simp [Env.get],
   fun hh => by simpa [Env.get] using h.h3 (by simpa [up] using hh),
   fun hh => by simpa [Env.get] using h.h4 (by simpa [up] using hh),
   fun hh => by simpa [Env.get] using h.h5 (by simpa [up] using hh),
   fun hh => by simpa [Env.get] using h.h6 (by simpa [up] using hh),
   fun hh => by simpa [Env.get] using h.h7 (by simpa [up] using hh),
   fun hh => by simpa [Env.get, up] using h.h8 (by simpa [up] using hh),
   fun hh => by simpa [Env.get, up] using h.h9 (by simpa [up] using hh),
   fun ha hb => by simpa [Env.get] using h.ne (by simpa [up] using ha) (by simpa [up] using hb),
   fun hh => by simpa [up] using h.c10 (by simpa [up] using hh),
   fun hh => by simpa [up] using h.c11 (by simpa [up] using hh)⟩
theorem J6.s3 (h : J6 w0 vn1 vn2 a1 a2 r1 r2 i L K w) : J6 w0 vn1 vn2 a1 a2 r1 r2 i (up L 3) ((22, .agg r1.toArray) :: K) w :=
  ⟨h.ext,
   by simpa [Env.get] using h.e0,
   by simpa [Env.get] using h.e1,
   by simpa [Env.get] using h.e5,
   fun hh => by simpa [Env.get] using h.h0 (by simpa [up] using hh),
   fun hh => by simpa [Env.get] using h.h1 (by simpa [up] using hh),
   fun hh => by simpa [Env.get] using h.h2 (by simpa [up] using hh),
   fun _ => by simp [Env.get],
   fun hh => by simpa [Env.get] using h.h4 (by simpa [up] using hh),
   fun hh => by simpa [Env.get] using h.h5 (by simpa [up] using hh),
   fun hh => by simpa [Env.get] using h.h6 (by simpa [up] using hh),
   fun hh => by simpa [Env.get] using h.h7 (by simpa [up] using hh),
   fun hh => by simpa [Env.get, up] using h.h8 (by simpa [up] using hh),
   fun hh => by simpa [Env.get, up] using h.h9 (by simpa [up] using hh),
   fun ha hb => by simpa [Env.get] using h.ne (by simpa [up] using ha) (by simpa [up] using hb),
   fun hh => by simpa [up] using h.c10 (by simpa [up] using hh),
   fun hh => by simpa [up] using h.c11 (by simpa [up] using hh)⟩
theorem J6.s4 (h : J6 w0 vn1 vn2 a1 a2 r1 r2 i L K w) : J6 w0 vn1 vn2 a1 a2 r1 r2 i (up L 4) ((23, vn2) :: K) w :=
  ⟨h.ext,
   by simpa [Env.get] using h.e0,
   by simpa [Env.get] using h.e1,
   by simpa [Env.get] using h.e5,
   fun hh => by simpa [Env.get] using h.h0 (by simpa [up] using hh),
   fun hh => by simpa [Env.get] using h.h1 (by simpa [up] using hh),
   fun hh => by simpa [Env.get] using h.h2 (by simpa [up] using hh),
   fun hh => by simpa [Env.get] using h.h3 (by simpa [up] using hh),
   fun _ => by simp [Env.get],
   fun hh => by simpa [Env.get] using h.h5 (by simpa [up] using hh),
   fun hh => by simpa [Env.get] using h.h6 (by simpa [up] using hh),
   fun hh => by simpa [Env.get] using h.h7 (by simpa [up] using hh),
   fun hh => by simpa [Env.get, up] using h.h8 (by simpa [up] using hh),
   fun hh => by simpa [Env.get, up] using h.h9 (by simpa [up] using hh),
   fun ha hb => by simpa [Env.get] using h.ne (by simpa [up] using ha) (by simpa [up] using hb),
   fun hh => by simpa [up] using h.c10 (by simpa [up] using hh),
   fun hh => by simpa [up] using h.c11 (by simpa [up] using hh)⟩
theorem J6.s5 (h : J6 w0 vn1 vn2 a1 a2 r1 r2 i L K w) : J6 w0 vn1 vn2 a1 a2 r1 r2 i (up L 5) ((24, .int .i64 i) :: K) w :=
  ⟨h.ext,
   by simpa [Env.get] using h.e0,
   by simpa [Env.get] using h.e1,
   by simpa [Env.get] using h.e5,
   fun hh => by simpa [Env.get] using h.h0 (by simpa [up] using hh),
   fun hh => by simpa [Env.get] using h.h1 (by simpa [up] using hh),
   fun hh => by simpa [Env.get] using h.h2 (by simpa [up] using hh),
   fun hh => by simpa [Env.get] using h.h3 (by simpa [up] using hh),
   fun hh => by simpa [Env.get] using h.h4 (by simpa [up] using hh),
   fun _ => by simp [Env.get],
   fun hh => by simpa [Env.get] using h.h6 (by simpa [up] using hh),
   fun hh => by simpa [Env.get] using h.h7 (by simpa [up] using hh),
   fun hh => by simpa [Env.get, up] using h.h8 (by simpa [up] using hh),
   fun hh => by simpa [Env.get, up] using h.h9 (by simpa [up] using hh),
   fun ha hb => by simpa [Env.get] using h.ne (by simpa [up] using ha) (by simpa [up] using hb),
   fun hh => by simpa [up] using h.c10 (by simpa [up] using hh),
   fun hh => by simpa [up] using h.c11 (by simpa [up] using hh)⟩
theorem J6.s6 (h : J6 w0 vn1 vn2 a1 a2 r1 r2 i L K w) : J6 w0 vn1 vn2 a1 a2 r1 r2 i (up L 6) ((25, .pointer (some a2)) :: K) w :=
  ⟨h.ext,
   by simpa [Env.get] using h.e0,
   by simpa [Env.get] using h.e1,
   by simpa [Env.get] using h.e5,
   fun hh => by simpa [Env.get] using h.h0 (by simpa [up] using hh),
   fun hh => by simpa [Env.get] using h.h1 (by simpa [up] using hh),
   fun hh => by simpa [Env.get] using h.h2 (by simpa [up] using hh),
   fun hh => by simpa [Env.get] using h.h3 (by simpa [up] using hh),
   fun hh => by simpa [Env.get] using h.h4 (by simpa [up] using hh),
   fun hh => by simpa [Env.get] using h.h5 (by simpa [up] using hh),
   fun _ => by simp [Env.get],
   fun hh => by simpa [Env.get] using h.h7 (by simpa [up] using hh),
   fun hh => by simpa [Env.get, up] using h.h8 (by simpa [up] using hh),
   fun hh => by simpa [Env.get, up] using h.h9 (by simpa [up] using hh),
   fun ha hb => by simpa [Env.get] using h.ne (by simpa [up] using ha) (by simpa [up] using hb),
   fun hh => by simpa [up] using h.c10 (by simpa [up] using hh),
   fun hh => by simpa [up] using h.c11 (by simpa [up] using hh)⟩
theorem J6.s7 (h : J6 w0 vn1 vn2 a1 a2 r1 r2 i L K w) : J6 w0 vn1 vn2 a1 a2 r1 r2 i (up L 7) ((26, .agg r2.toArray) :: K) w :=
  ⟨h.ext,
   by simpa [Env.get] using h.e0,
   by simpa [Env.get] using h.e1,
   by simpa [Env.get] using h.e5,
   fun hh => by simpa [Env.get] using h.h0 (by simpa [up] using hh),
   fun hh => by simpa [Env.get] using h.h1 (by simpa [up] using hh),
   fun hh => by simpa [Env.get] using h.h2 (by simpa [up] using hh),
   fun hh => by simpa [Env.get] using h.h3 (by simpa [up] using hh),
   fun hh => by simpa [Env.get] using h.h4 (by simpa [up] using hh),
   fun hh => by simpa [Env.get] using h.h5 (by simpa [up] using hh),
   fun hh => by simpa [Env.get] using h.h6 (by simpa [up] using hh),
   fun _ => by simp [Env.get],
   fun hh => by simpa [Env.get, up] using h.h8 (by simpa [up] using hh),
   fun hh => by simpa [Env.get, up] using h.h9 (by simpa [up] using hh),
   fun ha hb => by simpa [Env.get] using h.ne (by simpa [up] using ha) (by simpa [up] using hb),
   fun hh => by simpa [up] using h.c10 (by simpa [up] using hh),
   fun hh => by simpa [up] using h.c11 (by simpa [up] using hh)⟩
theorem J6.s8 {w' : World} {cs : List Value} (h : J6 w0 vn1 vn2 a1 a2 r1 r2 i L K w) (hL : L 8 = false) (he : Ext w w') (hb : Blk w' w.heap.size cs 37) (hcs : cs.length = 5) : J6 w0 vn1 vn2 a1 a2 r1 r2 i (up L 8) ((6, .pointer (some ⟨w.heap.size, 0, none⟩)) :: K) w' :=
  ⟨h.ext.trans he,
   by simpa [Env.get] using h.e0,
   by simpa [Env.get] using h.e1,
   by simpa [Env.get] using h.e5,
   fun hh => by simpa [Env.get] using h.h0 (by simpa [up] using hh),
   fun hh => by simpa [Env.get] using h.h1 (by simpa [up] using hh),
   fun hh => by simpa [Env.get] using h.h2 (by simpa [up] using hh),
   fun hh => by simpa [Env.get] using h.h3 (by simpa [up] using hh),
   fun hh => by simpa [Env.get] using h.h4 (by simpa [up] using hh),
   fun hh => by simpa [Env.get] using h.h5 (by simpa [up] using hh),
   fun hh => by simpa [Env.get] using h.h6 (by simpa [up] using hh),
   fun hh => by simpa [Env.get] using h.h7 (by simpa [up] using hh),
   fun _ => ⟨w.heap.size, cs, by simp [Env.get], h.ext.size, hb, hcs, fun h1 => by have := h.c10 (by simpa [up] using h1); rw [hL] at this; cases this⟩,
   fun hh => by
     obtain ⟨B, cs', q1, q2, q3, q4, q5⟩ := h.h9 (by simpa [up] using hh)
     exact ⟨B, cs', by simpa [Env.get] using q1, q2, q3.ext he, q4, fun h1 => q5 (by simpa [up] using h1)⟩,
   fun ha hb' => by
     obtain ⟨B, cs', q1, q2, q3, q4, q5⟩ := h.h9 (by simpa [up] using hb')
     have hlt := q3.lt
     simp only [Env.get]
     simp [q1] <;> omega,
   fun hh => by simp only [up, Bool.or_eq_true, decide_eq_true_eq] at hh ⊢; first | exact .inr (h.c10 (hh.resolve_left (by decide))) | exact .inl rfl,
   fun hh => by simp only [up, Bool.or_eq_true, decide_eq_true_eq] at hh ⊢; first | exact .inr (h.c11 (hh.resolve_left (by decide))) | exact .inl rfl⟩
theorem J6.s9 {w' : World} {cs : List Value} (h : J6 w0 vn1 vn2 a1 a2 r1 r2 i L K w) (hL : L 9 = false) (he : Ext w w') (hb : Blk w' w.heap.size cs 61) (hcs : cs.length = 5) : J6 w0 vn1 vn2 a1 a2 r1 r2 i (up L 9) ((7, .pointer (some ⟨w.heap.size, 0, none⟩)) :: K) w' :=
  ⟨h.ext.trans he,
   by simpa [Env.get] using h.e0,
   by simpa [Env.get] using h.e1,
   by simpa [Env.get] using h.e5,
   fun hh => by simpa [Env.get] using h.h0 (by simpa [up] using hh),
   fun hh => by simpa [Env.get] using h.h1 (by simpa [up] using hh),
   fun hh => by simpa [Env.get] using h.h2 (by simpa [up] using hh),
   fun hh => by simpa [Env.get] using h.h3 (by simpa [up] using hh),
   fun hh => by simpa [Env.get] using h.h4 (by simpa [up] using hh),
   fun hh => by simpa [Env.get] using h.h5 (by simpa [up] using hh),
   fun hh => by simpa [Env.get] using h.h6 (by simpa [up] using hh),
   fun hh => by simpa [Env.get] using h.h7 (by simpa [up] using hh),
   fun hh => by
     obtain ⟨B, cs', q1, q2, q3, q4, q5⟩ := h.h8 (by simpa [up] using hh)
     exact ⟨B, cs', by simpa [Env.get] using q1, q2, q3.ext he, q4, fun h1 => q5 (by simpa [up] using h1)⟩,
   fun _ => ⟨w.heap.size, cs, by simp [Env.get], h.ext.size, hb, hcs, fun h1 => by have := h.c11 (by simpa [up] using h1); rw [hL] at this; cases this⟩,
   fun ha hb' => by
     obtain ⟨B, cs', q1, q2, q3, q4, q5⟩ := h.h8 (by simpa [up] using ha)
     have hlt := q3.lt
     simp only [Env.get]
     simp [q1] <;> omega,
   fun hh => by simp only [up, Bool.or_eq_true, decide_eq_true_eq] at hh ⊢; first | exact .inr (h.c10 (hh.resolve_left (by decide))) | exact .inl rfl,
   fun hh => by simp only [up, Bool.or_eq_true, decide_eq_true_eq] at hh ⊢; first | exact .inr (h.c11 (hh.resolve_left (by decide))) | exact .inl rfl⟩
theorem J6.s10 {w' : World} {B : Nat} (h : J6 w0 vn1 vn2 a1 a2 r1 r2 i L K w) (ha : L 8 = true) (hk : K.get 6 = some (.pointer (some ⟨B, 0, none⟩))) (hB : w0.heap.size ≤ B) (hc : Chg (· = B) w w') (hb : Blk w' B r1 37) (hr : r1.length = 5) : J6 w0 vn1 vn2 a1 a2 r1 r2 i (up L 10) K w' :=
  ⟨h.ext.chg_trans hc (fun k hk => by rw [hk]; exact hB),
   h.e0,
   h.e1,
   h.e5,
   fun hh => h.h0 (by simpa [up] using hh),
   fun hh => h.h1 (by simpa [up] using hh),
   fun hh => h.h2 (by simpa [up] using hh),
   fun hh => h.h3 (by simpa [up] using hh),
   fun hh => h.h4 (by simpa [up] using hh),
   fun hh => h.h5 (by simpa [up] using hh),
   fun hh => h.h6 (by simpa [up] using hh),
   fun hh => h.h7 (by simpa [up] using hh),
   fun _ => ⟨B, r1, hk, hB, hb, hr, fun _ => rfl⟩,
   fun hh => by
     have hh' : L 9 = true := by simpa [up] using hh
     obtain ⟨B', cs', q1, q2, q3, q4, q5⟩ := h.h9 hh'
     have hne : B' ≠ B := fun e => by
       have := h.ne ha hh'
       rw [hk, q1, e] at this
       exact this rfl
     exact ⟨B', cs', q1, q2, q3.chg hc (fun e => hne e), q4, fun h1 => q5 (by simpa [up] using h1)⟩,
   fun h8 h9 => h.ne (by simpa [up] using h8) (by simpa [up] using h9),
   fun hh => by simp only [up, Bool.or_eq_true, decide_eq_true_eq] at hh ⊢; first | exact .inr (h.c10 (hh.resolve_left (by decide))) | exact .inr ha,
   fun hh => by simp only [up, Bool.or_eq_true, decide_eq_true_eq] at hh ⊢; first | exact .inr (h.c11 (hh.resolve_left (by decide))) | exact .inr ha⟩
theorem J6.s11 {w' : World} {B : Nat} (h : J6 w0 vn1 vn2 a1 a2 r1 r2 i L K w) (ha : L 9 = true) (hk : K.get 7 = some (.pointer (some ⟨B, 0, none⟩))) (hB : w0.heap.size ≤ B) (hc : Chg (· = B) w w') (hb : Blk w' B r2 61) (hr : r2.length = 5) : J6 w0 vn1 vn2 a1 a2 r1 r2 i (up L 11) K w' :=
  ⟨h.ext.chg_trans hc (fun k hk => by rw [hk]; exact hB),
   h.e0,
   h.e1,
   h.e5,
   fun hh => h.h0 (by simpa [up] using hh),
   fun hh => h.h1 (by simpa [up] using hh),
   fun hh => h.h2 (by simpa [up] using hh),
   fun hh => h.h3 (by simpa [up] using hh),
   fun hh => h.h4 (by simpa [up] using hh),
   fun hh => h.h5 (by simpa [up] using hh),
   fun hh => h.h6 (by simpa [up] using hh),
   fun hh => h.h7 (by simpa [up] using hh),
   fun hh => by
     have hh' : L 8 = true := by simpa [up] using hh
     obtain ⟨B', cs', q1, q2, q3, q4, q5⟩ := h.h8 hh'
     have hne : B' ≠ B := fun e => by
       have := h.ne hh' ha
       rw [hk, q1, e] at this
       exact this rfl
     exact ⟨B', cs', q1, q2, q3.chg hc (fun e => hne e), q4, fun h1 => q5 (by simpa [up] using h1)⟩,
   fun _ => ⟨B, r2, hk, hB, hb, hr, fun _ => rfl⟩,
   fun h8 h9 => h.ne (by simpa [up] using h8) (by simpa [up] using h9),
   fun hh => by simp only [up, Bool.or_eq_true, decide_eq_true_eq] at hh ⊢; first | exact .inr (h.c10 (hh.resolve_left (by decide))) | exact .inr ha,
   fun hh => by simp only [up, Bool.or_eq_true, decide_eq_true_eq] at hh ⊢; first | exact .inr (h.c11 (hh.resolve_left (by decide))) | exact .inr ha⟩
end
end Go.Proofs.Vg
namespace Go.Proofs.Ytafjfcameabbmaa
open Go Go.Proofs.Vg Go.RowKit
mutual
theorem eqV_refl : ∀ x : Val, eqV x x = true
  | .mk k n t a => by simp [eqV, eqVs_refl a]
theorem eqVs_refl : ∀ xs : List Val, eqVs xs xs = true
  | [] => by simp [eqVs]
  | x :: xs => by simp [eqVs, eqV_refl x, eqVs_refl xs]
end

-- -- function 19
set_option maxHeartbeats 4000000 in
set_option maxRecDepth 8000 in
theorem same_ok (w : World) (Sa Sb : Nat → Prop) (vn1 vn2 : Value) (vks1 vks2 : List Value) (rows1 rows2 : List (List Value)) (dns : List DN) (hl : dns.length ≤ 1048576) (hkl : ∀ d ∈ dns, d.kids.length ≤ 1048576) (h1 : DM w 37 Sa vn1 vks1 rows1 dns) (h2 : DM w 61 Sb vn2 vks2 rows2 dns) :
    Rets Try.prog 19 [vn1, vn2] w (fun r w' => r = .bool true ∧ Ext w w') := by
  obtain ⟨A1, c1, rfl⟩ := h1.len
  obtain ⟨A2, c2, rfl⟩ := h2.len
  refine rets_of_ok Try.func19 rfl rfl ?_
  refine ok_seq (fun M hM => ok_region rfl ?_); repeat ((try first | (refine z3 hX ?_; clear hX X) | (refine z2 hX ?_; clear hX X)); (first | refine zL fun X hX => ?_ | refine zH fun X hX => ?_ | refine zE fun X hX => ?_ | refine zl ?_ | refine zh ?_ | refine ze ?_); try simp only [oweC, oweP, opF, opH, ev, evs, evp, evo, Env.get, Env.set, putE, gdst, S0, S1, thenN, inBlockN, argEnv, builtinR, retE, fin, callR, reduceIte, Nat.reduceEqDiff, Nat.reduceAdd, reduceCtorEq, forall_const, Q19])
  refine hM _ _ _ ?_; clear hM M
  refine ok_seq (fun M hM => ?_)
  refine ok_seq (fun M hM => ok_region rfl ?_); repeat ((try first | (refine z3 hX ?_; clear hX X) | (refine z2 hX ?_; clear hX X)); (first | refine zL fun X hX => ?_ | refine zH fun X hX => ?_ | refine zE fun X hX => ?_ | refine zl ?_ | refine zh ?_ | refine ze ?_); try simp only [oweC, oweP, opF, opH, ev, evs, evp, evo, Env.get, Env.set, putE, gdst, S0, S1, thenN, inBlockN, argEnv, builtinR, retE, fin, callR, reduceIte, Nat.reduceEqDiff, Nat.reduceAdd, reduceCtorEq, forall_const, Q19])
  refine hM _ _ _ ?_; clear hM M
  refine ok_cond (b := false) (by simp [ev, Env.get]) (fun h => by cases h) (fun _ => ok_skip ?_)
  try simp only [wpL, wpH, wpE, oweC, oweP, opF, opH, ev, evs, evp, evo, Env.get, Env.set, putE, gdst, S0, S1, thenN, inBlockN, argEnv, builtinR, retE, fin, callR, reduceIte, Nat.reduceEqDiff, Nat.reduceAdd, reduceCtorEq, forall_const, Q19]
  refine hM _ _ _ ?_; clear hM M
  refine ok_seq (fun M0 hM0 => ?_)
  refine ok_seq (fun M hM => ok_region rfl ?_); repeat ((try first | (refine z3 hX ?_; clear hX X) | (refine z2 hX ?_; clear hX X)); (first | refine zL fun X hX => ?_ | refine zH fun X hX => ?_ | refine zE fun X hX => ?_ | refine zl ?_ | refine zh ?_ | refine ze ?_); try simp only [oweC, oweP, opF, opH, ev, evs, evp, evo, Env.get, Env.set, putE, gdst, S0, S1, thenN, inBlockN, argEnv, builtinR, retE, fin, callR, reduceIte, Nat.reduceEqDiff, Nat.reduceAdd, reduceCtorEq, forall_const, Q19])
  refine hM _ _ _ ?_; clear hM M
  refine ok_block ?_
  refine ok_loop (S := Nat) (fun i => [(0, .slice A1 dns.length c1), (1, .slice A2 dns.length c2), (5, .int .i64 (i : Int))]) (fun i w' => Ext w w' ∧ i ≤ dns.length) (fun i => dns.length - i) 0 ?_ ?_ ?_
  · simp [sub, Env.get, argEnv]
  · exact ⟨Ext.refl _, Nat.zero_le _⟩
  rintro i w2 ⟨he2, hi⟩
  refine ok_seq (fun M1 hM1 => ?_)
  refine ok_seq (fun M hM => ok_region rfl ?_); repeat ((try first | (refine z3 hX ?_; clear hX X) | (refine z2 hX ?_; clear hX X)); (first | refine zL fun X hX => ?_ | refine zH fun X hX => ?_ | refine zE fun X hX => ?_ | refine zl ?_ | refine zh ?_ | refine ze ?_); try simp only [oweC, oweP, opF, opH, ev, evs, evp, evo, Env.get, Env.set, putE, gdst, S0, S1, thenN, inBlockN, argEnv, builtinR, retE, fin, callR, reduceIte, Nat.reduceEqDiff, Nat.reduceAdd, reduceCtorEq, forall_const, Q19])
  refine hM _ _ _ ?_; clear hM M
  refine ok_if rfl (fun hc => ok_skip ?_) (fun hc => ok_exit ?_)
  rotate_left
  · try simp only [wpL, wpH, wpE, oweC, oweP, opF, opH, ev, evs, evp, evo, Env.get, Env.set, putE, gdst, S0, S1, thenN, inBlockN, argEnv, builtinR, retE, fin, callR, reduceIte, Nat.reduceEqDiff, Nat.reduceAdd, reduceCtorEq, forall_const, Q19]
    refine hM0 _ _ _ ?_; clear hM0 M0 hM1 M1
    refine ok_seq (fun M hM => ok_region rfl ?_); repeat ((try first | (refine z3 hX ?_; clear hX X) | (refine z2 hX ?_; clear hX X)); (first | refine zL fun X hX => ?_ | refine zH fun X hX => ?_ | refine zE fun X hX => ?_ | refine zl ?_ | refine zh ?_ | refine ze ?_); try simp only [oweC, oweP, opF, opH, ev, evs, evp, evo, Env.get, Env.set, putE, gdst, S0, S1, thenN, inBlockN, argEnv, builtinR, retE, fin, callR, reduceIte, Nat.reduceEqDiff, Nat.reduceAdd, reduceCtorEq, forall_const, Q19])
    refine hM _ _ _ ?_; clear hM M
    refine ok_ret ?_
    try simp only [wpL, wpH, wpE, oweC, oweP, opF, opH, ev, evs, evp, evo, Env.get, Env.set, putE, gdst, S0, S1, thenN, inBlockN, argEnv, builtinR, retE, fin, callR, reduceIte, Nat.reduceEqDiff, Nat.reduceAdd, reduceCtorEq, forall_const, Q19]
    exact he2
  try simp only [wpL, wpH, wpE, oweC, oweP, opF, opH, ev, evs, evp, evo, Env.get, Env.set, putE, gdst, S0, S1, thenN, inBlockN, argEnv, builtinR, retE, fin, callR, reduceIte, Nat.reduceEqDiff, Nat.reduceAdd, reduceCtorEq, forall_const, Q19]
  refine hM1 _ _ _ ?_; clear hM1 M1
  have hil : i < dns.length := by omega
  have hd : dns[i]? = some dns[i] := List.getElem?_eq_getElem hil
  generalize dns[i] = d at hd
  have hkd := hkl d (List.mem_of_getElem? hd)
  have h12 := h1.ext he2
  have h22 := h2.ext he2
  obtain ⟨g1, cap1, vi1, vo1, vk1, hv1, hvk1, -, hcell1, hvi1, hvo1, hown1⟩ := h12.at_ hl hd
  cases hv1
  obtain ⟨g2, cap2, vi2, vo2, vk2, hv2, hvk2, -, hcell2, hvi2, hvo2, hown2⟩ := h22.at_ hl hd
  cases hv2
  obtain ⟨hk1o, hk1c, -⟩ := owns_one hown1
  obtain ⟨hk2o, hk2c, -⟩ := owns_one hown2
  refine ok_seq (fun M1 hM1 => ok_block ?_)
  refine ok_seq (fun M hM => ?_)
  obtain ⟨a1, ha1⟩ : ∃ a1 : Addr, a1 = ⟨g1, i * 5, none⟩ := ⟨_, rfl⟩
  obtain ⟨a2, ha2⟩ : ∃ a2 : Addr, a2 = ⟨g2, i * 5, none⟩ := ⟨_, rfl⟩
  have hca1 : cellsAt w2 a1 (d.row vi1 vo1 vk1) := fun j u hj => by rw [ha1, add_at]; exact hcell1 j u hj
  have hca2 : cellsAt w2 a2 (d.row vi2 vo2 vk2) := fun j u hj => by rw [ha2, add_at]; exact hcell2 j u hj
  have one1 : ∀ u ∈ d.row vi1 vo1 vk1, u.oneCell' = true := by
    intro u hu
    simp only [DN.row, List.mem_cons, List.not_mem_nil, or_false] at hu
    rcases hu with rfl | rfl | rfl | rfl | rfl <;> first | rfl | exact hvi1.1 | exact hvo1.1 | exact hk1o
  have one2 : ∀ u ∈ d.row vi2 vo2 vk2, u.oneCell' = true := by
    intro u hu
    simp only [DN.row, List.mem_cons, List.not_mem_nil, or_false] at hu
    rcases hu with rfl | rfl | rfl | rfl | rfl <;> first | rfl | exact hvi2.1 | exact hvo2.1 | exact hk2o
  have nd : ∀ {L : Nat → Bool} {o : Oper} (k : Nat), (∀ k ∈ needs o, L k = true) → k ∈ needs o → L k = true := fun k h hk => h k hk
  have hadd1 : (⟨g1, 0, none⟩ : Addr).add ((i : Int).toNat * 5) = a1 := by rw [ha1, add_at]; simp
  have hadd2 : (⟨g2, 0, none⟩ : Addr).add ((i : Int).toNat * 5) = a2 := by rw [ha2, add_at]; simp
  refine ok_any (J6 w2 (.slice (some ⟨g1, 0, none⟩) dns.length c1) (.slice (some ⟨g2, 0, none⟩) dns.length c2) a1 a2 (d.row vi1 vo1 vk1) (d.row vi2 vo2 vk2) (i : Int)) Fx.mixed (by decide) (by decide +kernel) [(0, .slice (some ⟨g1, 0, none⟩) dns.length c1), (1, .slice (some ⟨g2, 0, none⟩) dns.length c2), (5, .int .i64 (i : Int))] (by simp [sub, Env.get]) ?_ ?_ ?_
  · exact ⟨Ext.drew _, by simp [Env.get], by simp [Env.get], by simp [Env.get], fun h => (by cases h), fun h => (by cases h), fun h => (by cases h), fun h => (by cases h), fun h => (by cases h), fun h => (by cases h), fun h => (by cases h), fun h => (by cases h), fun h => (by cases h), fun h => (by cases h), fun h => (by cases h), fun h => (by cases h), fun h => (by cases h)⟩
  · intro L K w' j o hJ ho hLj hn
    have hj : j < 12 := by have := (List.getElem?_eq_some_iff.1 ho).1; simpa using this
    have hjj : j = 0 ∨ j = 1 ∨ j = 2 ∨ j = 3 ∨ j = 4 ∨ j = 5 ∨ j = 6 ∨ j = 7 ∨ j = 8 ∨ j = 9 ∨ j = 10 ∨ j = 11 := by omega
    rcases hjj with rfl | rfl | rfl | rfl | rfl | rfl | rfl | rfl | rfl | rfl | rfl | rfl <;> simp only [List.getElem?_cons_zero, List.getElem?_cons_succ, Option.some.injEq] at ho <;> subst ho
    · simp only [wpL, opF, ev, hJ.e0]; exact hJ.s0
    · simp only [wpL, opF, ev, hJ.e5]; exact hJ.s1
    · simp only [wpL, opF, ev, hJ.h0 (hn 0 (by simp [needs, Region.binds])), hJ.h1 (hn 1 (by simp [needs, Region.binds])), Fx.es22]
      refine ⟨by omega, by omega, ?_⟩
      rw [hadd1]; exact hJ.s2
    · simp only [wpL, opF, ev, hJ.h2 (hn 2 (by simp [needs, Region.binds])), Fx.ag37]
      exact ⟨_, rfl, hJ.ext.cellsAt hca1, hJ.s3⟩
    · simp only [wpL, opF, ev, hJ.e1]; exact hJ.s4
    · simp only [wpL, opF, ev, hJ.e5]; exact hJ.s5
    · simp only [wpL, opF, ev, hJ.h4 (hn 4 (by simp [needs, Region.binds])), hJ.h5 (hn 5 (by simp [needs, Region.binds])), Fx.es31]
      refine ⟨by omega, by omega, ?_⟩
      rw [hadd2]; exact hJ.s6
    · simp only [wpL, opF, ev, hJ.h6 (hn 6 (by simp [needs, Region.binds])), Fx.ag61]
      exact ⟨_, rfl, hJ.ext.cellsAt hca2, hJ.s7⟩
    · simp only [wpL, opF]
      refine Runs.alloc Fx.zi37 (fun w1 he1 hs1 hb1 => ?_)
      exact hJ.s8 hLj he1 hb1 (by simp [Value.cells])
    · simp only [wpL, opF]
      refine Runs.alloc Fx.zi61 (fun w1 he1 hs1 hb1 => ?_)
      exact hJ.s9 hLj he1 hb1 (by simp [Value.cells])
    · have h8 := hn 8 (by simp [needs, Region.binds])
      obtain ⟨B, cs, q1, q2, q3, q4, q5⟩ := hJ.h8 h8
      simp only [wpL, opF, ev, q1, hJ.h3 (hn 3 (by simp [needs, Region.binds]))]
      refine Runs.store q3 Fx.zi37 rfl (by simpa [Value.cells] using one1) (by rw [q4]; simp [Value.cells, DN.row]) (fun w1 hc1 hs1 hb1 => ?_)
      rw [splice_all _ _ (by rw [q4]; simp [Value.cells, DN.row])] at hb1
      exact hJ.s10 h8 q1 q2 hc1 hb1 rfl
    · have h9 := hn 9 (by simp [needs, Region.binds])
      obtain ⟨B, cs, q1, q2, q3, q4, q5⟩ := hJ.h9 h9
      simp only [wpL, opF, ev, q1, hJ.h7 (hn 7 (by simp [needs, Region.binds]))]
      refine Runs.store q3 Fx.zi61 rfl (by simpa [Value.cells] using one2) (by rw [q4]; simp [Value.cells, DN.row]) (fun w1 hc1 hs1 hb1 => ?_)
      rw [splice_all _ _ (by rw [q4]; simp [Value.cells, DN.row])] at hb1
      exact hJ.s11 h9 q1 q2 hc1 hb1 rfl
  intro K w3 hJ
  obtain ⟨B6, cs6, e6, hB6, hb6, -, hcs6⟩ := hJ.h8 (by simp)
  obtain ⟨B7, cs7, e7, hB7, hb7, -, hcs7⟩ := hJ.h9 (by simp)
  obtain rfl := hcs6 (by simp)
  obtain rfl := hcs7 (by simp)
  have he3 := hJ.ext
  have hsub : sub [(0, .slice (some ⟨g1, 0, none⟩) dns.length c1), (1, .slice (some ⟨g2, 0, none⟩) dns.length c2), (5, .int .i64 (i : Int)), (6, .pointer (some ⟨B6, 0, none⟩)), (7, .pointer (some ⟨B7, 0, none⟩))] K := ⟨hJ.e0, hJ.e1, hJ.e5, e6, e7, trivial⟩
  refine hM _ _ _ ?_; clear hM M
  refine ok_less _ hsub ?_
  clear hsub hJ e6 e7
  have c0 := hb6.cell (j := 0) rfl
  have c1' := hb6.cell (j := 1) rfl
  have c2' := hb6.cell (j := 2) rfl
  have c3 := hb6.cell (j := 3) rfl
  have c4 := hb6.cell (j := 4) rfl
  have d0 := hb7.cell (j := 0) rfl
  have d1 := hb7.cell (j := 1) rfl
  have d2 := hb7.cell (j := 2) rfl
  have d3 := hb7.cell (j := 3) rfl
  have d4 := hb7.cell (j := 4) rfl
  have hsl1 : SlI w3 vk1 d.kids := Sli.of_own (owns_chg' hown1 (he3.chg (fun _ => False)) (fun _ _ h => h)) (ivs_rows _) (by simp [ints]) (by simp [ints]) (by omega)
  have hsl2 : SlI w3 vk2 d.kids := Sli.of_own (owns_chg' hown2 (he3.chg (fun _ => False)) (fun _ _ h => h)) (ivs_rows _) (by simp [ints]) (by simp [ints]) (by omega)
  refine ok_seq (fun M hM => ok_region rfl ?_)
  repeat ((try first | (refine z3 hX ?_; clear hX X) | (refine z2 hX ?_; clear hX X)); (first | refine zL fun X hX => ?_ | refine zH fun X hX => ?_ | refine zE fun X hX => ?_ | refine zl ?_ | refine zh ?_ | refine ze ?_); try simp only [oweC, oweP, opF, opH, ev, evs, evp, evo, Env.get, Env.set, putE, gdst, S0, S1, thenN, inBlockN, argEnv, builtinR, retE, fin, callR, reduceIte, Nat.reduceEqDiff, Nat.reduceAdd, reduceCtorEq, forall_const, Q19])
  refine ⟨_, c0, ?_⟩
  repeat ((try first | (refine z3 hX ?_; clear hX X) | (refine z2 hX ?_; clear hX X)); (first | refine zL fun X hX => ?_ | refine zH fun X hX => ?_ | refine zE fun X hX => ?_ | refine zl ?_ | refine zh ?_ | refine ze ?_); try simp only [oweC, oweP, opF, opH, ev, evs, evp, evo, Env.get, Env.set, putE, gdst, S0, S1, thenN, inBlockN, argEnv, builtinR, retE, fin, callR, reduceIte, Nat.reduceEqDiff, Nat.reduceAdd, reduceCtorEq, forall_const, Q19])
  refine ⟨_, d0, ?_⟩
  repeat ((try first | (refine z3 hX ?_; clear hX X) | (refine z2 hX ?_; clear hX X)); (first | refine zL fun X hX => ?_ | refine zH fun X hX => ?_ | refine zE fun X hX => ?_ | refine zl ?_ | refine zh ?_ | refine ze ?_); try simp only [oweC, oweP, opF, opH, ev, evs, evp, evo, Env.get, Env.set, putE, gdst, S0, S1, thenN, inBlockN, argEnv, builtinR, retE, fin, callR, reduceIte, Nat.reduceEqDiff, Nat.reduceAdd, reduceCtorEq, forall_const, Q19])
  refine ⟨_, c1', ?_⟩
  repeat ((try first | (refine z3 hX ?_; clear hX X) | (refine z2 hX ?_; clear hX X)); (first | refine zL fun X hX => ?_ | refine zH fun X hX => ?_ | refine zE fun X hX => ?_ | refine zl ?_ | refine zh ?_ | refine ze ?_); try simp only [oweC, oweP, opF, opH, ev, evs, evp, evo, Env.get, Env.set, putE, gdst, S0, S1, thenN, inBlockN, argEnv, builtinR, retE, fin, callR, reduceIte, Nat.reduceEqDiff, Nat.reduceAdd, reduceCtorEq, forall_const, Q19])
  refine ⟨_, d1, ?_⟩
  repeat ((try first | (refine z3 hX ?_; clear hX X) | (refine z2 hX ?_; clear hX X)); (first | refine zL fun X hX => ?_ | refine zH fun X hX => ?_ | refine zE fun X hX => ?_ | refine zl ?_ | refine zh ?_ | refine ze ?_); try simp only [oweC, oweP, opF, opH, ev, evs, evp, evo, Env.get, Env.set, putE, gdst, S0, S1, thenN, inBlockN, argEnv, builtinR, retE, fin, callR, reduceIte, Nat.reduceEqDiff, Nat.reduceAdd, reduceCtorEq, forall_const, Q19])
  refine ⟨_, c2', ?_⟩
  repeat ((try first | (refine z3 hX ?_; clear hX X) | (refine z2 hX ?_; clear hX X)); (first | refine zL fun X hX => ?_ | refine zH fun X hX => ?_ | refine zE fun X hX => ?_ | refine zl ?_ | refine zh ?_ | refine ze ?_); try simp only [oweC, oweP, opF, opH, ev, evs, evp, evo, Env.get, Env.set, putE, gdst, S0, S1, thenN, inBlockN, argEnv, builtinR, retE, fin, callR, reduceIte, Nat.reduceEqDiff, Nat.reduceAdd, reduceCtorEq, forall_const, Q19])
  refine ⟨_, d2, ?_⟩
  repeat ((try first | (refine z3 hX ?_; clear hX X) | (refine z2 hX ?_; clear hX X)); (first | refine zL fun X hX => ?_ | refine zH fun X hX => ?_ | refine zE fun X hX => ?_ | refine zl ?_ | refine zh ?_ | refine ze ?_); try simp only [oweC, oweP, opF, opH, ev, evs, evp, evo, Env.get, Env.set, putE, gdst, S0, S1, thenN, inBlockN, argEnv, builtinR, retE, fin, callR, reduceIte, Nat.reduceEqDiff, Nat.reduceAdd, reduceCtorEq, forall_const, Q19])
  refine Inv.call Fx.en41 (values_ok w3 vi1 vi2 d.in_ d.in_ (hvi1.vsl.ext he3) (hvi2.vsl.ext he3)) ?_
  rintro r w4 ⟨rfl, he4⟩
  rw [eqVs_refl]
  repeat ((try first | (refine z3 hX ?_; clear hX X) | (refine z2 hX ?_; clear hX X)); (first | refine zL fun X hX => ?_ | refine zH fun X hX => ?_ | refine zE fun X hX => ?_ | refine zl ?_ | refine zh ?_ | refine ze ?_); try simp only [oweC, oweP, opF, opH, ev, evs, evp, evo, Env.get, Env.set, putE, gdst, S0, S1, thenN, inBlockN, argEnv, builtinR, retE, fin, callR, reduceIte, Nat.reduceEqDiff, Nat.reduceAdd, reduceCtorEq, forall_const, Q19])
  refine ⟨_, he4.cell c3, ?_⟩
  repeat ((try first | (refine z3 hX ?_; clear hX X) | (refine z2 hX ?_; clear hX X)); (first | refine zL fun X hX => ?_ | refine zH fun X hX => ?_ | refine zE fun X hX => ?_ | refine zl ?_ | refine zh ?_ | refine ze ?_); try simp only [oweC, oweP, opF, opH, ev, evs, evp, evo, Env.get, Env.set, putE, gdst, S0, S1, thenN, inBlockN, argEnv, builtinR, retE, fin, callR, reduceIte, Nat.reduceEqDiff, Nat.reduceAdd, reduceCtorEq, forall_const, Q19])
  refine ⟨_, he4.cell d3, ?_⟩
  repeat ((try first | (refine z3 hX ?_; clear hX X) | (refine z2 hX ?_; clear hX X)); (first | refine zL fun X hX => ?_ | refine zH fun X hX => ?_ | refine zE fun X hX => ?_ | refine zl ?_ | refine zh ?_ | refine ze ?_); try simp only [oweC, oweP, opF, opH, ev, evs, evp, evo, Env.get, Env.set, putE, gdst, S0, S1, thenN, inBlockN, argEnv, builtinR, retE, fin, callR, reduceIte, Nat.reduceEqDiff, Nat.reduceAdd, reduceCtorEq, forall_const, Q19])
  refine Inv.call Fx.en41 (values_ok w4 vo1 vo2 d.out d.out (hvo1.vsl.ext (he3.trans he4)) (hvo2.vsl.ext (he3.trans he4))) ?_
  rintro r w5 ⟨rfl, he5⟩
  rw [eqVs_refl]
  repeat ((try first | (refine z3 hX ?_; clear hX X) | (refine z2 hX ?_; clear hX X)); (first | refine zL fun X hX => ?_ | refine zH fun X hX => ?_ | refine zE fun X hX => ?_ | refine zl ?_ | refine zh ?_ | refine ze ?_); try simp only [oweC, oweP, opF, opH, ev, evs, evp, evo, Env.get, Env.set, putE, gdst, S0, S1, thenN, inBlockN, argEnv, builtinR, retE, fin, callR, reduceIte, Nat.reduceEqDiff, Nat.reduceAdd, reduceCtorEq, forall_const, Q19])
  refine ⟨_, he5.cell (he4.cell c4), ?_⟩
  repeat ((try first | (refine z3 hX ?_; clear hX X) | (refine z2 hX ?_; clear hX X)); (first | refine zL fun X hX => ?_ | refine zH fun X hX => ?_ | refine zE fun X hX => ?_ | refine zl ?_ | refine zh ?_ | refine ze ?_); try simp only [oweC, oweP, opF, opH, ev, evs, evp, evo, Env.get, Env.set, putE, gdst, S0, S1, thenN, inBlockN, argEnv, builtinR, retE, fin, callR, reduceIte, Nat.reduceEqDiff, Nat.reduceAdd, reduceCtorEq, forall_const, Q19])
  refine ⟨_, he5.cell (he4.cell d4), ?_⟩
  repeat ((try first | (refine z3 hX ?_; clear hX X) | (refine z2 hX ?_; clear hX X)); (first | refine zL fun X hX => ?_ | refine zH fun X hX => ?_ | refine zE fun X hX => ?_ | refine zl ?_ | refine zh ?_ | refine ze ?_); try simp only [oweC, oweP, opF, opH, ev, evs, evp, evo, Env.get, Env.set, putE, gdst, S0, S1, thenN, inBlockN, argEnv, builtinR, retE, fin, callR, reduceIte, Nat.reduceEqDiff, Nat.reduceAdd, reduceCtorEq, forall_const, Q19])
  refine Inv.call Fx.en13 (ints_ok w5 vk1 vk2 d.kids d.kids (hsl1.ext (he4.trans he5)) (hsl2.ext (he4.trans he5))) ?_
  rintro r w6 ⟨rfl, he6⟩
  repeat ((try first | (refine z3 hX ?_; clear hX X) | (refine z2 hX ?_; clear hX X)); (first | refine zL fun X hX => ?_ | refine zH fun X hX => ?_ | refine zE fun X hX => ?_ | refine zl ?_ | refine zh ?_ | refine ze ?_); try simp only [oweC, oweP, opF, opH, ev, evs, evp, evo, Env.get, Env.set, putE, gdst, S0, S1, thenN, inBlockN, argEnv, builtinR, retE, fin, callR, reduceIte, Nat.reduceEqDiff, Nat.reduceAdd, reduceCtorEq, forall_const, Q19])
  refine hM _ _ _ ?_; clear hM M
  refine ok_cond (b := false) (by simp [ev, Env.get]) (fun h => by cases h) (fun _ => ok_skip ?_)
  try simp only [wpL, wpH, wpE, oweC, oweP, opF, opH, ev, evs, evp, evo, Env.get, Env.set, putE, gdst, S0, S1, thenN, inBlockN, argEnv, builtinR, retE, fin, callR, reduceIte, Nat.reduceEqDiff, Nat.reduceAdd, reduceCtorEq, forall_const, Q19]
  refine hM1 _ _ _ ?_; clear hM1 M1
  refine ok_region rfl ?_
  repeat ((try first | (refine z3 hX ?_; clear hX X) | (refine z2 hX ?_; clear hX X)); (first | refine zL fun X hX => ?_ | refine zH fun X hX => ?_ | refine zE fun X hX => ?_ | refine zl ?_ | refine zh ?_ | refine ze ?_); try simp only [oweC, oweP, opF, opH, ev, evs, evp, evo, Env.get, Env.set, putE, gdst, S0, S1, thenN, inBlockN, argEnv, builtinR, retE, fin, callR, reduceIte, Nat.reduceEqDiff, Nat.reduceAdd, reduceCtorEq, forall_const, Q19])
  refine ⟨by simp only [inI]; omega, ?_⟩
  repeat ((try first | (refine z3 hX ?_; clear hX X) | (refine z2 hX ?_; clear hX X)); (first | refine zL fun X hX => ?_ | refine zH fun X hX => ?_ | refine zE fun X hX => ?_ | refine zl ?_ | refine zh ?_ | refine ze ?_); try simp only [oweC, oweP, opF, opH, ev, evs, evp, evo, Env.get, Env.set, putE, gdst, S0, S1, thenN, inBlockN, argEnv, builtinR, retE, fin, callR, reduceIte, Nat.reduceEqDiff, Nat.reduceAdd, reduceCtorEq, forall_const, Q19])
  exact ⟨i + 1, by simp [sub, Env.get], ⟨(((he2.trans he3).trans he4).trans he5).trans he6, by omega⟩, by omega⟩

end Go.Proofs.Ytafjfcameabbmaa
/- slices.Backward over nodes; weights. -/
set_option linter.unusedVariables false
set_option linter.unusedSimpArgs false
namespace Go.Proofs.Ytafjfcameabbmaa
open Go Go.Proofs.Vg Go.RowKit Dbg

-- -- function 56
theorem backward_ok (w : World) (A : Option Addr) (n cp : Nat) :
    Rets Try.prog 56 [.slice A n cp] w (fun v w' => ∃ b1, w.heap.size ≤ b1 ∧ v = .func (.func 62) #[] #[.pointer (some ⟨b1, 0, none⟩)] ∧ Blk w' b1 [.slice A n cp] 22 ∧ Ext w w') := by
  refine rets_of_ok Try.func56 rfl rfl ?_
  refine ok_seq (fun M hM => ok_region rfl ?_)
  try simp only [wpL, wpH, wpE, oweC, oweP, opF, opH, ev, evs, evp, evo, Env.get, Env.set, putE, gdst, S0, S1, thenN, inBlockN, argEnv, builtinR, retE, fin, callR, reduceIte, Nat.reduceEqDiff, Nat.reduceAdd, reduceCtorEq, forall_const, Q56]
  refine Runs.box (fun w3 he3 hz3 hb3 => ?_)
  try simp only [wpL, wpH, wpE, oweC, oweP, opF, opH, ev, evs, evp, evo, Env.get, Env.set, putE, gdst, S0, S1, thenN, inBlockN, argEnv, builtinR, retE, fin, callR, reduceIte, Nat.reduceEqDiff, Nat.reduceAdd, reduceCtorEq, forall_const, Q56]
  refine hM _ _ _ ?_; clear hM M
  refine ok_seq (fun M hM => ok_region rfl ?_); try simp only [wpL, wpH, wpE, oweC, oweP, opF, opH, ev, evs, evp, evo, Env.get, Env.set, putE, gdst, S0, S1, thenN, inBlockN, argEnv, builtinR, retE, fin, callR, reduceIte, Nat.reduceEqDiff, Nat.reduceAdd, reduceCtorEq, forall_const, Q56]
  refine hM _ _ _ ?_; clear hM M
  refine ok_ret ?_
  try simp only [wpL, wpH, wpE, oweC, oweP, opF, opH, ev, evs, evp, evo, Env.get, Env.set, putE, gdst, S0, S1, thenN, inBlockN, argEnv, builtinR, retE, fin, callR, reduceIte, Nat.reduceEqDiff, Nat.reduceAdd, reduceCtorEq, forall_const, Q56]
  exact ⟨_, Nat.le_refl _, rfl, by simpa [Value.cells] using hb3, he3⟩

-- -- function 62
theorem backward1_ok {J' : Nat → World → Prop} {Jx' : World → Prop} (W : World) (l b1 : Nat) (A : Option Addr) (n cp : Nat) (rows : Nat → List Value) (hn : n ≤ 140737488355328) (h5 : ∀ i, i < n → (rows i).length = 5)
    (hJ : ∀ s W, J' s W → W.cell? ⟨b1, 0, none⟩ = some (.slice A n cp) ∧ s ≤ n ∧ ∀ i, i < n → ∃ b o, A = some ⟨b, o, none⟩ ∧ cellsAt W ⟨b, o + i * 5, none⟩ (rows i))
    (h0 : J' n W)
    (hy : ∀ s W, 0 < s → J' s W → Vg.Yields Try.prog l [.int .i64 ((s : Int) - 1), .agg (rows (s - 1)).toArray] W (fun b W' => (b = true ∧ ∃ s', s = s' + 1 ∧ J' s' W') ∨ (b = false ∧ Jx' W'))) :
    Rets Try.prog 62 [.func (.yield l) #[] #[], .pointer (some ⟨b1, 0, none⟩)] W (fun _ W' => J' 0 W' ∨ Jx' W') := by
  refine rets_of_ok Try.func62 rfl rfl ?_
  refine ok_seq (fun M hM => ok_region rfl ?_)
  try simp only [wpL, wpH, wpE, oweC, oweP, opF, opH, ev, evs, evp, evo, Env.get, Env.set, putE, gdst, S0, S1, thenN, inBlockN, argEnv, builtinR, retE, fin, callR, reduceIte, Nat.reduceEqDiff, Nat.reduceAdd, reduceCtorEq, forall_const, Q62]
  refine ⟨_, (hJ _ _ h0).1, ?_⟩
  try simp only [wpL, wpH, wpE, oweC, oweP, opF, opH, ev, evs, evp, evo, Env.get, Env.set, putE, gdst, S0, S1, thenN, inBlockN, argEnv, builtinR, retE, fin, callR, reduceIte, Nat.reduceEqDiff, Nat.reduceAdd, reduceCtorEq, forall_const, Q62]
  refine ⟨by simp only [inI]; omega, ?_⟩
  refine hM _ _ _ ?_; clear hM M
  refine ok_block ?_
  refine ok_loop (S := Nat) (fun s => [(0, .func (.yield l) #[] #[]), (1, .pointer (some ⟨b1, 0, none⟩)), (3, .int .i64 ((s : Int) - 1))]) (fun s w' => J' s w') (fun s => s) n ?_ ?_ ?_
  · simp [sub, Env.get, argEnv]
  · exact h0
  intro s W2 hs
  obtain ⟨hc, hsn, hr⟩ := hJ _ _ hs
  refine ok_seq (fun M1 hM1 => ?_)
  refine ok_seq (fun M hM => ok_region rfl ?_); try simp only [wpL, wpH, wpE, oweC, oweP, opF, opH, ev, evs, evp, evo, Env.get, Env.set, putE, gdst, S0, S1, thenN, inBlockN, argEnv, builtinR, retE, fin, callR, reduceIte, Nat.reduceEqDiff, Nat.reduceAdd, reduceCtorEq, forall_const, Q62]
  refine hM _ _ _ ?_; clear hM M
  refine ok_if rfl (fun hc2 => ok_skip ?_) (fun hc2 => ok_exit ?_)
  · try simp only [wpL, wpH, wpE, oweC, oweP, opF, opH, ev, evs, evp, evo, Env.get, Env.set, putE, gdst, S0, S1, thenN, inBlockN, argEnv, builtinR, retE, fin, callR, reduceIte, Nat.reduceEqDiff, Nat.reduceAdd, reduceCtorEq, forall_const, Q62]
    refine hM1 _ _ _ ?_; clear hM1 M1
    have hs0 : 0 < s := by omega
    obtain ⟨b, o, rfl, hcc⟩ := hr (s - 1) (by omega)
    refine ok_seq (fun M1 hM1 => ok_block ?_)
    refine ok_seq (fun M hM => ok_region rfl ?_)
    try simp only [wpL, wpH, wpE, oweC, oweP, opF, opH, ev, evs, evp, evo, Env.get, Env.set, putE, gdst, S0, S1, thenN, inBlockN, argEnv, builtinR, retE, fin, callR, reduceIte, Nat.reduceEqDiff, Nat.reduceAdd, reduceCtorEq, forall_const, Q62]
    refine ⟨_, hc, ?_⟩
    try simp only [wpL, wpH, wpE, oweC, oweP, opF, opH, ev, evs, evp, evo, Env.get, Env.set, putE, gdst, S0, S1, thenN, inBlockN, argEnv, builtinR, retE, fin, callR, reduceIte, Nat.reduceEqDiff, Nat.reduceAdd, reduceCtorEq, forall_const, Q62]
    have he : ((s : Int) - 1).toNat = s - 1 := by omega
    refine ⟨by omega, by omega, rows (s - 1), h5 _ (by omega), by rw [he]; exact hcc, ?_⟩
    refine Inv.yield (hy s W2 hs0 hs) ?_
    rintro t W3 hq
    try simp only [wpL, wpH, wpE, oweC, oweP, opF, opH, ev, evs, evp, evo, Env.get, Env.set, putE, gdst, S0, S1, thenN, inBlockN, argEnv, builtinR, retE, fin, callR, reduceIte, Nat.reduceEqDiff, Nat.reduceAdd, reduceCtorEq, forall_const, Q62]
    refine hM _ _ _ ?_; clear hM M
    rcases hq with ⟨rfl, s', rfl, hj⟩ | ⟨rfl, hj⟩
    · refine ok_cond rfl (fun h => by cases h) (fun _ => ok_skip ?_)
      try simp only [wpL, wpH, wpE, oweC, oweP, opF, opH, ev, evs, evp, evo, Env.get, Env.set, putE, gdst, S0, S1, thenN, inBlockN, argEnv, builtinR, retE, fin, callR, reduceIte, Nat.reduceEqDiff, Nat.reduceAdd, reduceCtorEq, forall_const, Q62]
      refine hM1 _ _ _ ?_; clear hM1 M1
      refine ok_region rfl ?_
      try simp only [wpL, wpH, wpE, oweC, oweP, opF, opH, ev, evs, evp, evo, Env.get, Env.set, putE, gdst, S0, S1, thenN, inBlockN, argEnv, builtinR, retE, fin, callR, reduceIte, Nat.reduceEqDiff, Nat.reduceAdd, reduceCtorEq, forall_const, Q62]
      refine ⟨by simp only [inI]; omega, s', ?_, hj, by omega⟩
      simp [sub, Env.get]
    · refine ok_cond rfl (fun _ => ok_ret ?_) (fun h => by cases h)
      try simp only [wpL, wpH, wpE, oweC, oweP, opF, opH, ev, evs, evp, evo, Env.get, Env.set, putE, gdst, S0, S1, thenN, inBlockN, argEnv, builtinR, retE, fin, callR, reduceIte, Nat.reduceEqDiff, Nat.reduceAdd, reduceCtorEq, forall_const, Q62]
      exact .inr hj
  · try simp only [wpL, wpH, wpE, oweC, oweP, opF, opH, ev, evs, evp, evo, Env.get, Env.set, putE, gdst, S0, S1, thenN, inBlockN, argEnv, builtinR, retE, fin, callR, reduceIte, Nat.reduceEqDiff, Nat.reduceAdd, reduceCtorEq, forall_const, Q62]
    have : s = 0 := by omega
    subst this
    exact .inl hs
end Go.Proofs.Ytafjfcameabbmaa
/- weights. -/
set_option linter.unusedVariables false
set_option linter.unusedSimpArgs false
namespace Go.Proofs.Ytafjfcameabbmaa
open Go Go.Proofs.Vg Go.RowKit Dbg

/-- The weights when the nodes from s on are through. -/
def wlist (n : Nat) (wt : Nat → Int) (s : Nat) : List Int := (List.range n).map fun v => if s ≤ v then wt v else 0
@[simp] theorem wlist_length (n : Nat) (wt : Nat → Int) (s : Nat) : (wlist n wt s).length = n := by simp [wlist]
theorem wlist_get (n : Nat) (wt : Nat → Int) (s v : Nat) (h : v < n) : (wlist n wt s)[v]? = some (if s ≤ v then wt v else 0) := by simp [wlist, h]
theorem wlist_top (n : Nat) (wt : Nat → Int) : wlist n wt n = List.replicate n 0 := by
  apply List.ext_getElem?
  intro v
  rcases Nat.lt_or_ge v n with hv | hv
  · rw [wlist_get _ _ _ _ hv, List.getElem?_replicate, if_pos hv, if_neg (by omega)]
  · rw [List.getElem?_eq_none (by simp; omega), List.getElem?_eq_none (by simp; omega)]
theorem wlist_low (n : Nat) (wt : Nat → Int) (i : Nat) : (wlist n wt (i + 1)).set i 0 = wlist n wt (i + 1) := by
  apply List.ext_getElem?
  intro v
  rw [List.getElem?_set]
  split
  · rename_i h
    subst h
    split
    · rename_i h2
      rw [wlist_get _ _ _ _ (by simpa using h2), if_neg (by omega)]
    · rename_i h2
      rw [List.getElem?_eq_none (by simpa using h2)]
  · rfl
theorem wlist_next (n : Nat) (wt : Nat → Int) (i : Nat) : (wlist n wt (i + 1)).set i (wt i) = wlist n wt i := by
  apply List.ext_getElem?
  intro v
  rw [List.getElem?_set]
  split
  · rename_i h
    subst h
    split
    · rename_i h2
      rw [wlist_get _ _ _ _ (by simpa using h2), if_pos (by omega)]
    · rename_i h2
      rw [List.getElem?_eq_none (by simpa using h2)]
  · rename_i h
    rcases Nat.lt_or_ge v n with hv | hv
    · rw [wlist_get _ _ _ _ hv, wlist_get _ _ _ _ hv]
      congr 1
      by_cases h2 : i + 1 ≤ v
      · rw [if_pos h2, if_pos (by omega)]
      · rw [if_neg h2, if_neg (by omega)]
    · rw [List.getElem?_eq_none (by simp; omega), List.getElem?_eq_none (by simp; omega)]
/-- The weights of the first kids. -/
def part (wt : Nat → Int) (l : List Int) (j : Nat) : Int := ((l.take j).map fun k => wt k.toNat).sum
theorem part_succ (wt : Nat → Int) (l : List Int) (j : Nat) (h : j < l.length) : part wt l (j + 1) = part wt l j + wt l[j].toNat := by
  unfold part
  rw [List.take_succ_eq_append_getElem h, List.map_append, List.sum_append]
  simp
theorem part_nonneg (wt : Nat → Int) (h0 : ∀ i, 0 ≤ wt i) (l : List Int) (j : Nat) : 0 ≤ part wt l j := by
  unfold part
  generalize l.take j = m
  induction m with
  | nil => simp
  | cons x m ih => simp only [List.map_cons, List.sum_cons]; have := h0 x.toNat; omega
theorem part_le (wt : Nat → Int) (h0 : ∀ i, 0 ≤ wt i) (l : List Int) (j : Nat) : part wt l j ≤ (l.map fun k => wt k.toNat).sum := by
  unfold part
  conv => rhs; rw [← List.take_append_drop j l]
  rw [List.map_append, List.sum_append]
  have : 0 ≤ ((l.drop j).map fun k => wt k.toNat).sum := by
    generalize l.drop j = m
    induction m with
    | nil => simp
    | cons x m ih => simp only [List.map_cons, List.sum_cons]; have := h0 x.toNat; omega
  omega
theorem part_all (wt : Nat → Int) (l : List Int) : part wt l l.length = (l.map fun k => wt k.toNat).sum := by simp [part]
theorem kids_edge {ks : List (List Int)} (h : edgesB ks = true) {i : Nat} (hi : i < ks.length) {k : Int} (hk : k ∈ kidsOf ks i) : (i : Int) < k ∧ k < (ks.length : Int) := by
  simp only [edgesB, List.all_eq_true, List.mem_range, edgeB, Bool.and_eq_true, decide_eq_true_eq] at h
  exact h i hi k hk
theorem bv_get (xs : List Bool) (j : Nat) (h : j < xs.length) : (bv xs)[j]? = some (.bool xs[j]) := by simp [bv, h]

-- -- function 44
set_option maxHeartbeats 2000000 in
theorem weights_ok (w0 w : World) (q B : Nat) (vn : Value) (ks : List (List Int)) (sus : List Bool) (root : Nat) (hn : NodesG w0 vn ks) (hs : Srch w0 w q B vn sus root) (hl : sus.length = ks.length) (hbd : ks.length ≤ 1000) (hed : edgesB ks = true)
    (wt : Nat → Int) (hwt : ∀ i, i < ks.length → wt i = (if sus.getD i false then 1 else 0) + ((kidsOf ks i).map fun k => wt k.toNat).sum) (hw0 : ∀ i, 0 ≤ wt i) (hw1 : ∀ i, wt i ≤ 1000) :
    Rets Try.prog 44 [.pointer (some ⟨q, 0, none⟩)] w (fun v w' => ∃ B3, v = .slice (some ⟨B3, 0, none⟩) ks.length ks.length ∧ Blk w' B3 (iv (wlist ks.length wt 0)) 3 ∧ Ext w w') := by
  obtain ⟨rows, ⟨A, cp, hv, hlen, hc⟩, hlr, hr⟩ := hn
  rw [hlr] at hv hlen
  subst hv
  obtain ⟨hext, hq, hB, hqB, hbq, hbB⟩ := hs
  have hqlt := hbq.lt
  have hBlt := hbB.lt
  refine rets_of_okM Try.func44 rfl rfl ?_
  refine ok_seq (fun M hM => ok_region rfl ?_)
  try simp only [wpL, wpH, wpE, oweC, oweP, opF, opH, ev, evs, evp, evo, Env.get, Env.set, putE, gdst, S0, S1, thenN, inBlockN, argEnv, builtinR, retE, fin, callR, reduceIte, Nat.reduceEqDiff, Nat.reduceAdd, reduceCtorEq, forall_const, Q44]
  refine Runs.box (fun w1 he1 hz1 hb1 => ?_)
  try simp only [wpL, wpH, wpE, oweC, oweP, opF, opH, ev, evs, evp, evo, Env.get, Env.set, putE, gdst, S0, S1, thenN, inBlockN, argEnv, builtinR, retE, fin, callR, reduceIte, Nat.reduceEqDiff, Nat.reduceAdd, reduceCtorEq, forall_const, Q44]
  refine hM _ _ _ ?_; clear hM M
  generalize hBs : w.heap.size = Bs at *
  refine ok_seq (fun M hM => ok_region rfl ?_)
  try simp only [wpL, wpH, wpE, oweC, oweP, opF, opH, ev, evs, evp, evo, Env.get, Env.set, putE, gdst, S0, S1, thenN, inBlockN, argEnv, builtinR, retE, fin, callR, reduceIte, Nat.reduceEqDiff, Nat.reduceAdd, reduceCtorEq, forall_const, Q44]
  refine ⟨_, hb1.cell rfl, ?_⟩
  try simp only [wpL, wpH, wpE, oweC, oweP, opF, opH, ev, evs, evp, evo, Env.get, Env.set, putE, gdst, S0, S1, thenN, inBlockN, argEnv, builtinR, retE, fin, callR, reduceIte, Nat.reduceEqDiff, Nat.reduceAdd, reduceCtorEq, forall_const, Q44]
  refine ⟨_, (hbq.ext he1).cell rfl, ?_⟩
  try simp only [wpL, wpH, wpE, oweC, oweP, opF, opH, ev, evs, evp, evo, Env.get, Env.set, putE, gdst, S0, S1, thenN, inBlockN, argEnv, builtinR, retE, fin, callR, reduceIte, Nat.reduceEqDiff, Nat.reduceAdd, reduceCtorEq, forall_const, Q44]
  refine Runs.make1 Fx.un26 Fx.zi3 rfl (by omega) (by omega) (by omega) (fun w2 he2 hz2 hb2 => ?_)
  try simp only [wpL, wpH, wpE, oweC, oweP, opF, opH, ev, evs, evp, evo, Env.get, Env.set, putE, gdst, S0, S1, thenN, inBlockN, argEnv, builtinR, retE, fin, callR, reduceIte, Nat.reduceEqDiff, Nat.reduceAdd, reduceCtorEq, forall_const, Q44]
  refine Runs.alloc Fx.zi26 (fun w3 he3 hz3 hb3 => ?_)
  try simp only [wpL, wpH, wpE, oweC, oweP, opF, opH, ev, evs, evp, evo, Env.get, Env.set, putE, gdst, S0, S1, thenN, inBlockN, argEnv, builtinR, retE, fin, callR, reduceIte, Nat.reduceEqDiff, Nat.reduceAdd, reduceCtorEq, forall_const, Q44]
  refine Runs.store hb3 Fx.zi26 rfl (by simp [Value.cells, Value.oneCell']) (by simp [Value.cells]) (fun w4 hc4 hz4 hb4 => ?_)
  try simp only [wpL, wpH, wpE, oweC, oweP, opF, opH, ev, evs, evp, evo, Env.get, Env.set, putE, gdst, S0, S1, thenN, inBlockN, argEnv, builtinR, retE, fin, callR, reduceIte, Nat.reduceEqDiff, Nat.reduceAdd, reduceCtorEq, forall_const, Q44]
  refine hM _ _ _ ?_; clear hM M
  generalize hB3 : w1.heap.size = B3 at *
  generalize hB4 : w2.heap.size = B4 at *
  have he4 : Ext w w4 := ((he1.trans he2).trans he3).chg_trans hc4 (fun k hk => by subst hk; have := he1.size; omega)
  have hb1' : Blk w4 Bs [.pointer (some ⟨q, 0, none⟩)] 50 := by
    have : Blk w4 Bs _ 50 := ((hb1.ext he2).ext he3).chg hc4 (by omega)
    simpa [Value.cells] using this
  have hb2' : Blk w4 B3 (iv (wlist ks.length wt ks.length)) 3 := by
    have : Blk w4 B3 _ 3 := (hb2.ext he3).chg hc4 (by omega)
    rw [wlist_top]; simpa [iv] using this
  have hb4' : Blk w4 B4 [.slice (some ⟨B3, 0, none⟩) ks.length ks.length] 26 := by
    simpa [splice, Value.cells] using hb4
  clear hb1 hb2 hb3 hb4 hc4 he3 he2 he1
  refine ok_seq (fun M0 hM0 => ?_)
  refine ok_seq (fun M hM => ok_region rfl ?_)
  try simp only [wpL, wpH, wpE, oweC, oweP, opF, opH, ev, evs, evp, evo, Env.get, Env.set, putE, gdst, S0, S1, thenN, inBlockN, argEnv, builtinR, retE, fin, callR, reduceIte, Nat.reduceEqDiff, Nat.reduceAdd, reduceCtorEq, forall_const, Q44]
  refine ⟨_, hb1'.cell rfl, ?_⟩
  try simp only [wpL, wpH, wpE, oweC, oweP, opF, opH, ev, evs, evp, evo, Env.get, Env.set, putE, gdst, S0, S1, thenN, inBlockN, argEnv, builtinR, retE, fin, callR, reduceIte, Nat.reduceEqDiff, Nat.reduceAdd, reduceCtorEq, forall_const, Q44]
  refine ⟨_, (hbq.ext he4).cell rfl, ?_⟩
  try simp only [wpL, wpH, wpE, oweC, oweP, opF, opH, ev, evs, evp, evo, Env.get, Env.set, putE, gdst, S0, S1, thenN, inBlockN, argEnv, builtinR, retE, fin, callR, reduceIte, Nat.reduceEqDiff, Nat.reduceAdd, reduceCtorEq, forall_const, Q44]
  refine Inv.call Fx.en56 (backward_ok w4 _ _ _) ?_
  rintro v w5 ⟨b1, hb1ge, rfl, hb5, he5⟩
  try simp only [wpL, wpH, wpE, oweC, oweP, opF, opH, ev, evs, evp, evo, Env.get, Env.set, putE, gdst, S0, S1, thenN, inBlockN, argEnv, builtinR, retE, fin, callR, reduceIte, Nat.reduceEqDiff, Nat.reduceAdd, reduceCtorEq, forall_const, Q44]
  refine hM _ _ _ ?_; clear hM M
  have he5' : Ext w w5 := he4.trans he5
  have hs1 := hb1'.ext he5
  have hs2 := hb2'.ext he5
  have hs4 := hb4'.ext he5
  have hB3lt4 := hb2'.lt
  have hrow : ∀ i, i < ks.length → (rows.getD i []).length = 5 := fun i hi => by
    obtain ⟨c, p, vi, vo, vk, h1, _⟩ := hr i hi
    simp [List.getD_eq_getElem?_getD, h1]
  have hb5lt := hb5.lt
  have hB3lt := hs2.lt
  have hB1lt := hs1.lt
  have hB4lt := hs4.lt
  refine ok_block ?_
  refine ok_range (S := Nat) (cap := [.pointer (some ⟨b1, 0, none⟩)]) (fun s W => Chg (· = B3) w5 W ∧ s ≤ ks.length ∧ Blk W B3 (iv (wlist ks.length wt s)) 3) (fun _ _ => False) ks.length (fun s => [.int .i64 ((s : Int) - 1), .agg (rows.getD (s - 1) []).toArray]) (fun s => 0 < s) (fun s => s = 0) (fun s s' => s = s' + 1)
    rfl Fx.en62 (by decide) (fun s _ => rfl) ?_ (fun _ _ _ _ h => h) ?_ ?_ ?_ ?_ ?_ (fun _ h => h.elim) (fun _ _ h => h.elim)
  · rintro s W W' ho ⟨h1, h2, h3⟩
    refine ⟨⟨ho.os.trans h1.os, ho.tape.trans h1.tape, ho.output.trans h1.output, by rw [ho.size]; exact h1.size, fun k hk hk3 => (ho.block k (by omega) (by omega)).trans (h1.block k hk hk3)⟩, h2, (ho.block B3 (by omega) (by omega)).trans h3⟩
  · rintro s W W' he ⟨h1, h2, h3⟩
    exact ⟨h1.trans (he.chg _), h2, h3.ext he⟩
  · intro W he _
    exact ⟨he.chg _, Nat.le_refl _, hs2.ext he⟩
  · -- one round
    rintro s W hs0 ⟨hch, hsn, hbw⟩ hWsz
    obtain ⟨i, rfl⟩ : ∃ i, s = i + 1 := ⟨s - 1, by omega⟩
    have hi : i < ks.length := by omega
    simp only [bindE, Nat.add_sub_cancel]
    refine ok_region rfl ?_
    try simp only [wpL, wpH, wpE, oweC, oweP, opF, opH, ev, evs, evp, evo, Env.get, Env.set, putE, gdst, S0, S1, thenN, inBlockN, argEnv, builtinR, retE, fin, callR, reduceIte, Nat.reduceEqDiff, Nat.reduceAdd, reduceCtorEq, forall_const, Q44]
    refine ⟨Keep.refl _ _, fun W2 ho => ?_⟩
    have hW2sz : W2.heap.size = W.heap.size := ho.size
    have hch2 : Chg (· = B3) w5 W2 := ⟨ho.os.trans hch.os, ho.tape.trans hch.tape, ho.output.trans hch.output, by rw [hW2sz]; exact hch.size, fun k hk hk3 => (ho.block k (by omega) (by omega)).trans (hch.block k hk hk3)⟩
    have hbw2 : Blk W2 B3 (iv (wlist ks.length wt (i + 1))) 3 := (ho.block B3 (by omega) (by omega)).trans hbw
    clear hbw hch ho
    have hii : ((i + 1 : Nat) : Int) - 1 = (i : Int) := by omega
    rw [hii]
    obtain ⟨c, p, vi, vo, vk, hrw, _, _, _, _, hk⟩ := hr i hi
    obtain ⟨b, o, rfl, hcc⟩ := hc i _ hrw
    have hki : kidsOf ks i = ks[i] := kidsOf_get ks i hi
    have hbn : ∀ {W : World} {a : Addr} {u : Value}, Chg (· = B3) w5 W → w0.cell? a = some u → W.cell? a = some u := fun hW ha => hW.cell (he5'.cell (hext.cell ha)) (by
      have := World.block_lt_of_cell? w0 _ ha
      have := hext.size
      show ¬ _ = _
      omega)
    refine ok_block ?_
    have hgetD : sus.getD i false = sus[i]'(by omega) := by simp [List.getD_eq_getElem?_getD, show i < sus.length by omega]
    refine ok_join [(0, .pointer (some ⟨q, 0, none⟩)), (1, .pointer (some ⟨Bs, 0, none⟩)), (3, .pointer (some ⟨B4, 0, none⟩)), (4, .int .i64 (i : Int))]
      (fun W3 => Chg (· = B3) w5 W3 ∧ Chg (· = B3) W2 W3 ∧ Blk W3 B3 (iv ((wlist ks.length wt (i + 1)).set i (if sus.getD i false then 1 else 0))) 3) ?_ ?_
    · refine ok_seq (fun M hM => ok_region rfl ?_)
      try simp only [wpL, wpH, wpE, oweC, oweP, opF, opH, ev, evs, evp, evo, Env.get, Env.set, putE, gdst, S0, S1, thenN, inBlockN, argEnv, builtinR, retE, fin, callR, reduceIte, Nat.reduceEqDiff, Nat.reduceAdd, reduceCtorEq, forall_const, Q44]
      refine ⟨_, (hs1.chg hch2 (by omega)).cell rfl, ?_⟩
      try simp only [wpL, wpH, wpE, oweC, oweP, opF, opH, ev, evs, evp, evo, Env.get, Env.set, putE, gdst, S0, S1, thenN, inBlockN, argEnv, builtinR, retE, fin, callR, reduceIte, Nat.reduceEqDiff, Nat.reduceAdd, reduceCtorEq, forall_const, Q44]
      refine ⟨_, ((hbq.ext he5').chg hch2 (by omega)).cell rfl, ?_⟩
      try simp only [wpL, wpH, wpE, oweC, oweP, opF, opH, ev, evs, evp, evo, Env.get, Env.set, putE, gdst, S0, S1, thenN, inBlockN, argEnv, builtinR, retE, fin, callR, reduceIte, Nat.reduceEqDiff, Nat.reduceAdd, reduceCtorEq, forall_const, Q44]
      refine ⟨by omega, by omega, _, by simpa using ((hbB.ext he5').chg hch2 (by omega)).cell (bv_get _ _ (by omega)), ?_⟩
      try simp only [wpL, wpH, wpE, oweC, oweP, opF, opH, ev, evs, evp, evo, Env.get, Env.set, putE, gdst, S0, S1, thenN, inBlockN, argEnv, builtinR, retE, fin, callR, reduceIte, Nat.reduceEqDiff, Nat.reduceAdd, reduceCtorEq, forall_const, Q44]
      refine hM _ _ _ ?_; clear hM M
      refine ok_cond rfl (fun ht => ?_) (fun hf => ok_skip ?_)
      · refine ok_region rfl ?_
        try simp only [wpL, wpH, wpE, oweC, oweP, opF, opH, ev, evs, evp, evo, Env.get, Env.set, putE, gdst, S0, S1, thenN, inBlockN, argEnv, builtinR, retE, fin, callR, reduceIte, Nat.reduceEqDiff, Nat.reduceAdd, reduceCtorEq, forall_const, Q44]
        refine ⟨_, (hs4.chg hch2 (by omega)).cell rfl, ?_⟩
        try simp only [wpL, wpH, wpE, oweC, oweP, opF, opH, ev, evs, evp, evo, Env.get, Env.set, putE, gdst, S0, S1, thenN, inBlockN, argEnv, builtinR, retE, fin, callR, reduceIte, Nat.reduceEqDiff, Nat.reduceAdd, reduceCtorEq, forall_const, Q44]
        have hg0 : (iv (wlist ks.length wt (i + 1)))[i]? = some (.int .i64 0) := by
          simp only [iv, List.getElem?_map, wlist_get _ _ _ _ hi, if_neg (show ¬ i + 1 ≤ i by omega), Option.map_some]
        refine ⟨by omega, by omega, _, by simpa using hbw2.cell hg0, ?_⟩
        try simp only [wpL, wpH, wpE, oweC, oweP, opF, opH, ev, evs, evp, evo, Env.get, Env.set, putE, gdst, S0, S1, thenN, inBlockN, argEnv, builtinR, retE, fin, callR, reduceIte, Nat.reduceEqDiff, Nat.reduceAdd, reduceCtorEq, forall_const, Q44]
        refine ⟨by simp only [inI]; omega, by omega, by omega, ?_⟩
        refine Runs.store (o := 0 + i) hbw2 Fx.zi3 rfl (by simp [Value.cells, Value.oneCell']) (by simp; omega) (fun W3 hc3 hz3 hb3 => ?_)
        try simp only [wpL, wpH, wpE, oweC, oweP, opF, opH, ev, evs, evp, evo, Env.get, Env.set, putE, gdst, S0, S1, thenN, inBlockN, argEnv, builtinR, retE, fin, callR, reduceIte, Nat.reduceEqDiff, Nat.reduceAdd, reduceCtorEq, forall_const, Q44]
        refine ⟨by simp [sub, Env.get], hch2.trans hc3, hc3, ?_⟩
        rw [hgetD, ht]
        simp only [if_true, iv_set]
        rw [Nat.zero_add] at hb3
        have : splice (iv (wlist ks.length wt (i + 1))) i (Value.int IntKind.i64 (0 + 1)).cells.toList = (iv (wlist ks.length wt (i + 1))).set i (.int .i64 1) := splice_one _ _ _ (by simpa using hi)
        rw [← this]
        exact hb3
      · try simp only [wpL, wpH, wpE, oweC, oweP, opF, opH, ev, evs, evp, evo, Env.get, Env.set, putE, gdst, S0, S1, thenN, inBlockN, argEnv, builtinR, retE, fin, callR, reduceIte, Nat.reduceEqDiff, Nat.reduceAdd, reduceCtorEq, forall_const, Q44]
        refine ⟨by simp [sub, Env.get], hch2, Chg.refl _ _, ?_⟩
        rw [hgetD, hf]
        simp only [Bool.false_eq_true, if_false, wlist_low]
        exact hbw2
    clear hbw2 hch2
    rintro W3 ⟨hch3, hc23, hb3⟩
    obtain ⟨A2, c2, rfl, hl2, hk⟩ := hk.at_
    refine ok_seq (fun M hM => ok_region rfl ?_)
    try simp only [wpL, wpH, wpE, oweC, oweP, opF, opH, ev, evs, evp, evo, Env.get, Env.set, putE, gdst, S0, S1, thenN, inBlockN, argEnv, builtinR, retE, fin, callR, reduceIte, Nat.reduceEqDiff, Nat.reduceAdd, reduceCtorEq, forall_const, Q44]
    refine ⟨_, (hs1.chg hch3 (by omega)).cell rfl, ?_⟩
    try simp only [wpL, wpH, wpE, oweC, oweP, opF, opH, ev, evs, evp, evo, Env.get, Env.set, putE, gdst, S0, S1, thenN, inBlockN, argEnv, builtinR, retE, fin, callR, reduceIte, Nat.reduceEqDiff, Nat.reduceAdd, reduceCtorEq, forall_const, Q44]
    refine ⟨_, ((hbq.ext he5').chg hch3 (by omega)).cell rfl, ?_⟩
    try simp only [wpL, wpH, wpE, oweC, oweP, opF, opH, ev, evs, evp, evo, Env.get, Env.set, putE, gdst, S0, S1, thenN, inBlockN, argEnv, builtinR, retE, fin, callR, reduceIte, Nat.reduceEqDiff, Nat.reduceAdd, reduceCtorEq, forall_const, Q44]
    have hc4 := hcc 4 _ rfl
    simp only [add_at] at hc4
    refine ⟨by omega, by omega, _, hbn hch3 hc4, ?_⟩
    try simp only [wpL, wpH, wpE, oweC, oweP, opF, opH, ev, evs, evp, evo, Env.get, Env.set, putE, gdst, S0, S1, thenN, inBlockN, argEnv, builtinR, retE, fin, callR, reduceIte, Nat.reduceEqDiff, Nat.reduceAdd, reduceCtorEq, forall_const, Q44]
    refine hM _ _ _ ?_; clear hM M
    refine ok_block ?_
    refine ok_loop (S := Nat) (fun j => [(0, .pointer (some ⟨q, 0, none⟩)), (1, .pointer (some ⟨Bs, 0, none⟩)), (3, .pointer (some ⟨B4, 0, none⟩)), (4, .int .i64 (i : Int)), (40, .slice A2 ks[i].length c2), (41, .int .i64 (ks[i].length : Int)), (42, .int .i64 (j : Int))])
      (fun j W' => Chg (· = B3) w5 W' ∧ Chg (· = B3) W2 W' ∧ j ≤ ks[i].length ∧ Blk W' B3 (iv ((wlist ks.length wt (i + 1)).set i ((if sus.getD i false then 1 else 0) + part wt (kidsOf ks i) j))) 3) (fun j => ks[i].length - j) 0 ?_ ?_ ?_
    · simp [sub, Env.get]
    · exact ⟨hch3, hc23, Nat.zero_le _, by simpa [part] using hb3⟩
    clear hch3 hc23 hb3 W3
    rintro j W3 ⟨hch3, hc23, hj, hb3⟩
    refine ok_seq (fun M hM => ok_region rfl ?_); try simp only [wpL, wpH, wpE, oweC, oweP, opF, opH, ev, evs, evp, evo, Env.get, Env.set, putE, gdst, S0, S1, thenN, inBlockN, argEnv, builtinR, retE, fin, callR, reduceIte, Nat.reduceEqDiff, Nat.reduceAdd, reduceCtorEq, forall_const, Q44]
    refine hM _ _ _ ?_; clear hM M
    refine ok_seq (fun M hM => ok_if rfl (fun hc => ok_skip ?_) (fun hc => ok_exit ?_))
    rotate_left
    · try simp only [wpL, wpH, wpE, oweC, oweP, opF, opH, ev, evs, evp, evo, Env.get, Env.set, putE, gdst, S0, S1, thenN, inBlockN, argEnv, builtinR, retE, fin, callR, reduceIte, Nat.reduceEqDiff, Nat.reduceAdd, reduceCtorEq, forall_const, Q44]
      have hje : j = (kidsOf ks i).length := by rw [hki]; omega
      subst hje
      refine ⟨Keep.chg hc23 (by omega) (by omega) (by omega), i, rfl, hch3, by omega, ?_⟩
      rw [part_all, ← hwt i hi, wlist_next] at hb3
      exact hb3
    · try simp only [wpL, wpH, wpE, oweC, oweP, opF, opH, ev, evs, evp, evo, Env.get, Env.set, putE, gdst, S0, S1, thenN, inBlockN, argEnv, builtinR, retE, fin, callR, reduceIte, Nat.reduceEqDiff, Nat.reduceAdd, reduceCtorEq, forall_const, Q44]
      refine hM _ _ _ ?_; clear hM M
      have hjl : j < ks[i].length := by omega
      have hjl' : j < (kidsOf ks i).length := by rw [hki]; exact hjl
      obtain ⟨bk, ok_, rfl, hkj⟩ := hk j hjl
      have hps := part_succ wt (kidsOf ks i) j hjl'
      have hpn := part_nonneg wt hw0 (kidsOf ks i) j
      have hpl := part_le wt hw0 (kidsOf ks i) (j + 1)
      have hwi := hwt i hi
      have hw1i := hw1 i
      have hmem : (kidsOf ks i)[j] ∈ kidsOf ks i := List.getElem_mem _
      have hed1 := kids_edge hed hi hmem
      have hgj : (kidsOf ks i)[j]'hjl' = ks[i][j] := by simp only [hki]
      rw [hgj] at hps hed1
      have hkk := hbn hch3 hkj
      generalize ks[i][j] = k at *
      have hb01 : (0 : Int) ≤ (if sus.getD i false = true then 1 else 0) := by split <;> omega
      generalize (if sus.getD i false = true then (1 : Int) else 0) = d0 at *
      generalize part wt (kidsOf ks i) j = pj at *
      have hwk := hw0 k.toNat
      refine ok_seq (fun M2 hM2 => ok_block ?_)
      refine ok_seq (fun M hM => ok_region rfl ?_); try simp only [wpL, wpH, wpE, oweC, oweP, opF, opH, ev, evs, evp, evo, Env.get, Env.set, putE, gdst, S0, S1, thenN, inBlockN, argEnv, builtinR, retE, fin, callR, reduceIte, Nat.reduceEqDiff, Nat.reduceAdd, reduceCtorEq, forall_const, Q44]
      refine ⟨by omega, by omega, _, hkk, ?_⟩
      try simp only [wpL, wpH, wpE, oweC, oweP, opF, opH, ev, evs, evp, evo, Env.get, Env.set, putE, gdst, S0, S1, thenN, inBlockN, argEnv, builtinR, retE, fin, callR, reduceIte, Nat.reduceEqDiff, Nat.reduceAdd, reduceCtorEq, forall_const, Q44]
      refine hM _ _ _ ?_; clear hM M
      have hkn : k.toNat < ks.length := by omega
      have hki2 : ¬ i = k.toNat := by omega
      refine (ok_draw 10 [(false, true)] (Ext _) Fx.mixed (by decide) rfl (by decide +kernel) (by decide +kernel) (Ext.drew _) ?_)
      try simp only [wpL, wpH, wpE, oweC, oweP, opF, opH, ev, evs, evp, evo, Env.get, Env.set, putE, gdst, S0, S1, thenN, inBlockN, argEnv, builtinR, retE, fin, callR, reduceIte, Nat.reduceEqDiff, Nat.reduceAdd, reduceCtorEq, forall_const, Q44]
      have hgi : (iv ((wlist ks.length wt (i + 1)).set i (d0 + pj)))[i]? = some (.int .i64 (d0 + pj)) := by
        simp [iv, hi]
      have hgk : (iv ((wlist ks.length wt (i + 1)).set i (d0 + pj)))[k.toNat]? = some (.int .i64 (wt k.toNat)) := by
        simp only [iv, List.getElem?_map, List.getElem?_set, if_neg hki2, wlist_get _ _ _ _ hkn, if_pos (show i + 1 ≤ k.toNat by omega), Option.map_some]
      refine ⟨_, fun w2 h => h.cell ((hs4.chg hch3 (by omega)).cell rfl), ?_⟩
      try simp only [wpL, wpH, wpE, oweC, oweP, opF, opH, ev, evs, evp, evo, Env.get, Env.set, putE, gdst, S0, S1, thenN, inBlockN, argEnv, builtinR, retE, fin, callR, reduceIte, Nat.reduceEqDiff, Nat.reduceAdd, reduceCtorEq, forall_const, Q44]
      refine ⟨by omega, by omega, _, fun w2 h => by simpa using (hb3.ext h).cell hgi, _, fun w2 h => h.cell ((hs4.chg hch3 (by omega)).cell rfl), ?_⟩
      try simp only [wpL, wpH, wpE, oweC, oweP, opF, opH, ev, evs, evp, evo, Env.get, Env.set, putE, gdst, S0, S1, thenN, inBlockN, argEnv, builtinR, retE, fin, callR, reduceIte, Nat.reduceEqDiff, Nat.reduceAdd, reduceCtorEq, forall_const, Q44]
      refine ⟨by omega, by omega, _, fun w2 h => by simpa using (hb3.ext h).cell hgk, ?_⟩
      try simp only [wpL, wpH, wpE, oweC, oweP, opF, opH, ev, evs, evp, evo, Env.get, Env.set, putE, gdst, S0, S1, thenN, inBlockN, argEnv, builtinR, retE, fin, callR, reduceIte, Nat.reduceEqDiff, Nat.reduceAdd, reduceCtorEq, forall_const, Q44]
      refine ⟨by simp only [inI]; omega, by omega, by omega, fun w6 he6 => ?_⟩
      refine Runs.store (o := 0 + i) (hb3.ext he6) Fx.zi3 rfl (by simp [Value.cells, Value.oneCell']) (by simp; omega) (fun W4 hc4 hz4 hb4 => ?_)
      try simp only [wpL, wpH, wpE, oweC, oweP, opF, opH, ev, evs, evp, evo, Env.get, Env.set, putE, gdst, S0, S1, thenN, inBlockN, argEnv, builtinR, retE, fin, callR, reduceIte, Nat.reduceEqDiff, Nat.reduceAdd, reduceCtorEq, forall_const, Q44]
      refine hM2 _ _ _ ?_; clear hM2 M2
      refine ok_region rfl ?_
      try simp only [wpL, wpH, wpE, oweC, oweP, opF, opH, ev, evs, evp, evo, Env.get, Env.set, putE, gdst, S0, S1, thenN, inBlockN, argEnv, builtinR, retE, fin, callR, reduceIte, Nat.reduceEqDiff, Nat.reduceAdd, reduceCtorEq, forall_const, Q44]
      refine ⟨by simp only [inI]; omega, j + 1, by simp [sub, Env.get], ⟨(hch3.trans (he6.chg _)).trans hc4, (hc23.trans (he6.chg _)).trans hc4, by omega, ?_⟩, by omega⟩
      have : splice (iv ((wlist ks.length wt (i + 1)).set i (d0 + pj))) (0 + i) (Value.int IntKind.i64 (d0 + pj + wt k.toNat)).cells.toList = iv ((wlist ks.length wt (i + 1)).set i (d0 + part wt (kidsOf ks i) (j + 1))) := by
        rw [Nat.zero_add, hps]
        have := splice_one (iv ((wlist ks.length wt (i + 1)).set i (d0 + pj))) i (.int .i64 (d0 + pj + wt k.toNat)) (by simpa using hi)
        rw [show (Value.int IntKind.i64 (d0 + pj + wt k.toNat)).cells.toList = [.int .i64 (d0 + pj + wt k.toNat)] from rfl, this, ← iv_set, List.set_set, Int.add_assoc]
      rw [← this]
      exact hb4
  · -- the iterator
    intro J' Jx' W hm hJ h0 hy
    refine Rets.mono (backward1_ok (J' := J') (Jx' := Jx') W _ b1 A ks.length cp (fun i => rows.getD i []) hlen hrow ?_ h0 ?_) ?_
    · intro s W hj
      obtain ⟨h1, h2, h3⟩ := hJ s W hj
      refine ⟨(hb5.chg h1 (by omega)).cell rfl, h2, fun i hi => ?_⟩
      obtain ⟨c, p, vi, vo, vk, hrw, _⟩ := hr i hi
      obtain ⟨b, o, hA, hcc⟩ := hc i _ hrw
      refine ⟨b, o, hA, ?_⟩
      have : rows.getD i [] = [.int .i64 c, .int .i64 p, vi, vo, vk] := by simp [List.getD_eq_getElem?_getD, hrw]
      rw [this]
      refine h1.cellsAt (he5'.cellsAt (hext.cellsAt hcc)) ?_
      have hlt : b < w0.heap.size := World.block_lt_of_cell? w0 ⟨b, o + i * 5, none⟩ (by simpa [add_at] using hcc 0 _ rfl)
      have := hext.size
      show ¬ b = B3
      omega
    · intro s W hs hj
      exact hy s W hs hj
    · rintro v W' (h | h)
      · exact .inl ⟨0, rfl, h⟩
      · exact .inr h
  · -- behind the range
    rintro s W rfl ⟨h1, h2, h3⟩ hd
    try simp only [wpL, wpH, wpE, oweC, oweP, opF, opH, ev, evs, evp, evo, Env.get, Env.set, putE, gdst, S0, S1, thenN, inBlockN, argEnv, builtinR, retE, fin, callR, reduceIte, Nat.reduceEqDiff, Nat.reduceAdd, reduceCtorEq, forall_const, Q44]
    refine hM0 _ _ _ ?_; clear hM0 M0
    refine ok_seq (fun M hM => ok_region rfl ?_)
    try simp only [wpL, wpH, wpE, oweC, oweP, opF, opH, ev, evs, evp, evo, Env.get, Env.set, putE, gdst, S0, S1, thenN, inBlockN, argEnv, builtinR, retE, fin, callR, reduceIte, Nat.reduceEqDiff, Nat.reduceAdd, reduceCtorEq, forall_const, Q44]
    refine ⟨_, (hs4.chg h1 (by omega)).cell rfl, ?_⟩
    try simp only [wpL, wpH, wpE, oweC, oweP, opF, opH, ev, evs, evp, evo, Env.get, Env.set, putE, gdst, S0, S1, thenN, inBlockN, argEnv, builtinR, retE, fin, callR, reduceIte, Nat.reduceEqDiff, Nat.reduceAdd, reduceCtorEq, forall_const, Q44]
    refine hM _ _ _ ?_; clear hM M
    refine ok_ret ?_
    refine .inr ⟨_, rfl, hd, ?_⟩
    try simp only [wpL, wpH, wpE, oweC, oweP, opF, opH, ev, evs, evp, evo, Env.get, Env.set, putE, gdst, S0, S1, thenN, inBlockN, argEnv, builtinR, retE, fin, callR, reduceIte, Nat.reduceEqDiff, Nat.reduceAdd, reduceCtorEq, forall_const, Q44]
    have hlt := (Array.getElem?_eq_some_iff.1 hd).1
    refine ⟨B3, rfl, ?_, ?_⟩
    · exact (World.putObj_heap_other (by omega)).trans h3
    · have hx : Chg (fun k => k = B3 ∨ k = w5.heap.size) w5 (W.putObj w5.heap.size (.deferred none)) := ⟨h1.os, h1.tape, h1.output, by simpa using h1.size, fun k hk hk2 => (World.putObj_heap_other (by omega)).trans (h1.block k hk (by omega))⟩
      exact he5'.chg_trans hx (fun k hk => by omega)
end Go.Proofs.Ytafjfcameabbmaa
