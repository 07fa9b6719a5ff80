/- Part 5 of 14: G1, Vg27, G2, G3, G4, G5. -/
import Derived.Test.YtafjfcameabbmaaM4
import Derived.Test.YtafjfcameabbmaaM3
/- copied: values that share nothing with what was.  -/
set_option linter.unusedVariables false
set_option linter.unusedSimpArgs false
namespace Go.Proofs.Ytafjfcameabbmaa
open Go Go.Proofs.Vg Go.RowKit

-- -- function 37
set_option maxHeartbeats 4000000 in
set_option maxRecDepth 8000 in
theorem copied37_ok : ∀ (m : Nat) (xs : List Val) (v : Value) (w : World), SizeOf.sizeOf xs ≤ m → SmVs xs → VSl w v xs → Rets Try.prog 37 [v] w (fun v' w' => VSlS w' (fun k => w.heap.size ≤ k ∧ k < w'.heap.size) v' xs ∧ Ext w w') := by
  intro m
  induction m with
  | zero => intro xs v w hm; cases xs <;> simp at hm
  | succ m ih =>
    intro xs v w hm hcn hv
    obtain ⟨hv1, hv2, rows, ⟨A, c, rfl, hlen, hcell⟩, hrows⟩ := hv
    have hl := hrows.length
    rw [hl]
    have hcl := hcn.1
    refine rets_of_ok Try.func37 rfl rfl ?_
    refine ok_seq (fun M hM => ok_region rfl ?_); repeat ((try first | (refine z3 hX ?_; clear hX X) | (refine z2 hX ?_; clear hX X)); (first | refine zL fun X hX => ?_ | refine zH fun X hX => ?_ | refine zE fun X hX => ?_ | refine zl ?_ | refine zh ?_ | refine ze ?_); try simp only [oweC, oweP, opF, opH, ev, evs, evp, evo, Env.get, Env.set, putE, gdst, S0, S1, thenN, inBlockN, argEnv, builtinR, retE, fin, callR, reduceIte, Nat.reduceEqDiff, Nat.reduceAdd, reduceCtorEq, forall_const, Q37])
    refine hM _ _ _ ?_; clear hM M
    refine ok_seq (fun M hM => ok_region rfl ?_); repeat ((try first | (refine z3 hX ?_; clear hX X) | (refine z2 hX ?_; clear hX X)); (first | refine zL fun X hX => ?_ | refine zH fun X hX => ?_ | refine zE fun X hX => ?_ | refine zl ?_ | refine zh ?_ | refine ze ?_); try simp only [oweC, oweP, opF, opH, ev, evs, evp, evo, Env.get, Env.set, putE, gdst, S0, S1, thenN, inBlockN, argEnv, builtinR, retE, fin, callR, reduceIte, Nat.reduceEqDiff, Nat.reduceAdd, reduceCtorEq, forall_const, Q37])
    refine hM _ _ _ ?_; clear hM M
    refine ok_seq (fun M0 hM0 => ?_)
    refine ok_seq (fun M hM => ok_region rfl ?_); repeat ((try first | (refine z3 hX ?_; clear hX X) | (refine z2 hX ?_; clear hX X)); (first | refine zL fun X hX => ?_ | refine zH fun X hX => ?_ | refine zE fun X hX => ?_ | refine zl ?_ | refine zh ?_ | refine ze ?_); try simp only [oweC, oweP, opF, opH, ev, evs, evp, evo, Env.get, Env.set, putE, gdst, S0, S1, thenN, inBlockN, argEnv, builtinR, retE, fin, callR, reduceIte, Nat.reduceEqDiff, Nat.reduceAdd, reduceCtorEq, forall_const, Q37])
    refine hM _ _ _ ?_; clear hM M
    refine ok_block ?_
    refine ok_loop (S := Nat × Value × List (List Value)) (fun s => [(3, s.2.1), (6, .slice A xs.length c), (7, .int .i64 (xs.length : Int)), (8, .int .i64 (s.1 : Int))])
      (fun s w' => Ext w w' ∧ s.1 ≤ xs.length ∧ w'.ownsRow w.heap.size 93 4 s.2.1 s.1 s.2.2.flatten ∧ VRowsS w' (fun k => w.heap.size ≤ k ∧ k < w'.heap.size ∧ s.2.1.ownBlock ≠ some k) s.2.2 (xs.take s.1)) (fun s => xs.length - s.1) (0, .slice none 0 0, []) ?_ ?_ ?_
    · simp [sub, Env.get, argEnv]
    · exact ⟨Ext.refl _, Nat.zero_le _, World.ownsRow_nil _ _ _ _, by simp only [List.take_zero, VRowsS]⟩
    rintro ⟨i, va, rs⟩ w1 ⟨he1, hi, hown, hrs⟩
    simp only at hi hown hrs ⊢
    have hs1 := he1.size
    have hrl := hrs.length
    rw [List.length_take, Nat.min_eq_left hi] at hrl
    refine ok_seq (fun M hM => ok_region rfl ?_); repeat ((try first | (refine z3 hX ?_; clear hX X) | (refine z2 hX ?_; clear hX X)); (first | refine zL fun X hX => ?_ | refine zH fun X hX => ?_ | refine zE fun X hX => ?_ | refine zl ?_ | refine zh ?_ | refine ze ?_); try simp only [oweC, oweP, opF, opH, ev, evs, evp, evo, Env.get, Env.set, putE, gdst, S0, S1, thenN, inBlockN, argEnv, builtinR, retE, fin, callR, reduceIte, Nat.reduceEqDiff, Nat.reduceAdd, reduceCtorEq, forall_const, Q37])
    refine hM _ _ _ ?_; clear hM M
    refine ok_seq (fun M1 hM1 => ?_)
    refine ok_if rfl (fun hc => ok_skip ?_) (fun hc => ok_exit ?_)
    rotate_left
    · try simp only [wpL, wpH, wpE, oweC, oweP, opF, opH, ev, evs, evp, evo, Env.get, Env.set, putE, gdst, S0, S1, thenN, inBlockN, argEnv, builtinR, retE, fin, callR, reduceIte, Nat.reduceEqDiff, Nat.reduceAdd, reduceCtorEq, forall_const, Q37]
      refine hM0 _ _ _ ?_; clear hM0 M0 hM1 M1
      have hia : i = xs.length := by omega
      subst hia
      rw [List.take_of_length_le (Nat.le_refl _)] at hrs
      have hva1 : va.oneCell' = true ∧ va.cells = #[va] := by
        rcases hown.2 with ⟨rfl, _⟩ | ⟨g, cap, cur, rfl, _⟩ <;> exact ⟨rfl, rfl⟩
      have hSl : Sli w1 4 va rs := Sli.of_own hown rfl (VRowsS.len4 _ _ hrs) hrl (by omega)
      refine ok_seq (fun M hM => ok_region rfl ?_); repeat ((try first | (refine z3 hX ?_; clear hX X) | (refine z2 hX ?_; clear hX X)); (first | refine zL fun X hX => ?_ | refine zH fun X hX => ?_ | refine zE fun X hX => ?_ | refine zl ?_ | refine zh ?_ | refine ze ?_); try simp only [oweC, oweP, opF, opH, ev, evs, evp, evo, Env.get, Env.set, putE, gdst, S0, S1, thenN, inBlockN, argEnv, builtinR, retE, fin, callR, reduceIte, Nat.reduceEqDiff, Nat.reduceAdd, reduceCtorEq, forall_const, Q37])
      refine hM _ _ _ ?_; clear hM M
      refine ok_ret ?_
      try simp only [wpL, wpH, wpE, oweC, oweP, opF, opH, ev, evs, evp, evo, Env.get, Env.set, putE, gdst, S0, S1, thenN, inBlockN, argEnv, builtinR, retE, fin, callR, reduceIte, Nat.reduceEqDiff, Nat.reduceAdd, reduceCtorEq, forall_const, Q37]
      refine ⟨⟨hva1.1, hva1.2, rs, ?_, VRowsS.chg (Chg.refl (fun _ => False) _) (fun k hk => ⟨⟨hk.1, hk.2.1⟩, id⟩) _ _ hrs⟩, he1⟩
      obtain ⟨A', c', rfl, h2, h3⟩ := hSl
      refine ⟨A', c', rfl, h2, fun j row hj => ?_⟩
      obtain ⟨b, o, rfl, h5⟩ := h3 j row hj
      have hbl := hown.lt b rfl
      exact ⟨b, o, rfl, by omega, h5⟩
    try simp only [wpL, wpH, wpE, oweC, oweP, opF, opH, ev, evs, evp, evo, Env.get, Env.set, putE, gdst, S0, S1, thenN, inBlockN, argEnv, builtinR, retE, fin, callR, reduceIte, Nat.reduceEqDiff, Nat.reduceAdd, reduceCtorEq, forall_const, Q37]
    refine hM1 _ _ _ ?_; clear hM1 M1
    have hil : i < xs.length := by omega
    have hxi : xs[i]? = some xs[i] := List.getElem?_eq_getElem hil
    have htk : xs.take (i + 1) = xs.take i ++ [xs[i]] := List.take_succ_eq_append_getElem hil
    have hszx := List.sizeOf_lt_of_mem (List.getElem_mem hil)
    generalize xs[i] = x at hxi htk hszx
    obtain ⟨rr, hrr, hvr⟩ := hrows.get i _ hxi
    obtain ⟨b, o, rfl, hcr⟩ := hcell i rr hrr
    obtain ⟨k, n, t, a⟩ := x
    simp only [VRow] at hvr
    obtain ⟨va0, rfl, h1, h2, rows2, h3, h4⟩ := hvr
    simp at hszx
    have hcnx := hcn.get hxi
    refine ok_seq (fun M1 hM1 => ok_block ?_)
    refine ok_seq (fun M hM => ok_region rfl ?_)
    repeat ((try first | (refine z3 hX ?_; clear hX X) | (refine z2 hX ?_; clear hX X)); (first | refine zL fun X hX => ?_ | refine zH fun X hX => ?_ | refine zE fun X hX => ?_ | refine zl ?_ | refine zh ?_ | refine ze ?_); try simp only [oweC, oweP, opF, opH, ev, evs, evp, evo, Env.get, Env.set, putE, gdst, S0, S1, thenN, inBlockN, argEnv, builtinR, retE, fin, callR, reduceIte, Nat.reduceEqDiff, Nat.reduceAdd, reduceCtorEq, forall_const, Q37])
    refine ⟨by omega, by omega, ?_⟩
    repeat ((try first | (refine z3 hX ?_; clear hX X) | (refine z2 hX ?_; clear hX X)); (first | refine zL fun X hX => ?_ | refine zH fun X hX => ?_ | refine zE fun X hX => ?_ | refine zl ?_ | refine zh ?_ | refine ze ?_); try simp only [oweC, oweP, opF, opH, ev, evs, evp, evo, Env.get, Env.set, putE, gdst, S0, S1, thenN, inBlockN, argEnv, builtinR, retE, fin, callR, reduceIte, Nat.reduceEqDiff, Nat.reduceAdd, reduceCtorEq, forall_const, Q37])
    refine ⟨[.int .i64 k, .int .i64 n, .string t, va0], rfl, he1.cellsAt hcr, ?_⟩
    repeat ((try first | (refine z3 hX ?_; clear hX X) | (refine z2 hX ?_; clear hX X)); (first | refine zL fun X hX => ?_ | refine zH fun X hX => ?_ | refine zE fun X hX => ?_ | refine zl ?_ | refine zh ?_ | refine ze ?_); try simp only [oweC, oweP, opF, opH, ev, evs, evp, evo, Env.get, Env.set, putE, gdst, S0, S1, thenN, inBlockN, argEnv, builtinR, retE, fin, callR, reduceIte, Nat.reduceEqDiff, Nat.reduceAdd, reduceCtorEq, forall_const, Q37])
    refine Runs.alloc Fx.zi93' (fun w2 he2 hs2 hb2 => ?_)
    generalize hB2 : w1.heap.size = B2 at hs2 hb2
    repeat ((try first | (refine z3 hX ?_; clear hX X) | (refine z2 hX ?_; clear hX X)); (first | refine zL fun X hX => ?_ | refine zH fun X hX => ?_ | refine zE fun X hX => ?_ | refine zl ?_ | refine zh ?_ | refine ze ?_); try simp only [oweC, oweP, opF, opH, ev, evs, evp, evo, Env.get, Env.set, putE, gdst, S0, S1, thenN, inBlockN, argEnv, builtinR, retE, fin, callR, reduceIte, Nat.reduceEqDiff, Nat.reduceAdd, reduceCtorEq, forall_const, Q37])
    refine Runs.store hb2 Fx.zi93' rfl (by intro u hu; simp [Value.cells] at hu; rcases hu with rfl | rfl | rfl | rfl <;> first | rfl | exact h1) (by simp [Value.cells]) (fun w3 hc3 hs3 hb3 => ?_)
    rw [splice_all _ _ (by simp [Value.cells])] at hb3
    simp only [Value.cells] at hb3
    have he13 : Ext w1 w3 := he2.chg_trans hc3 (fun i hi => by omega)
    have he3 := he1.trans he13
    repeat ((try first | (refine z3 hX ?_; clear hX X) | (refine z2 hX ?_; clear hX X)); (first | refine zL fun X hX => ?_ | refine zH fun X hX => ?_ | refine zE fun X hX => ?_ | refine zl ?_ | refine zh ?_ | refine ze ?_); try simp only [oweC, oweP, opF, opH, ev, evs, evp, evo, Env.get, Env.set, putE, gdst, S0, S1, thenN, inBlockN, argEnv, builtinR, retE, fin, callR, reduceIte, Nat.reduceEqDiff, Nat.reduceAdd, reduceCtorEq, forall_const, Q37])
    refine hM _ _ _ ?_; clear hM M
    refine ok_seq (fun M hM => ok_region rfl ?_)
    repeat ((try first | (refine z3 hX ?_; clear hX X) | (refine z2 hX ?_; clear hX X)); (first | refine zL fun X hX => ?_ | refine zH fun X hX => ?_ | refine zE fun X hX => ?_ | refine zl ?_ | refine zh ?_ | refine ze ?_); try simp only [oweC, oweP, opF, opH, ev, evs, evp, evo, Env.get, Env.set, putE, gdst, S0, S1, thenN, inBlockN, argEnv, builtinR, retE, fin, callR, reduceIte, Nat.reduceEqDiff, Nat.reduceAdd, reduceCtorEq, forall_const, Q37])
    refine ⟨_, hb3.cell (j := 3) rfl, ?_⟩
    repeat ((try first | (refine z3 hX ?_; clear hX X) | (refine z2 hX ?_; clear hX X)); (first | refine zL fun X hX => ?_ | refine zH fun X hX => ?_ | refine zE fun X hX => ?_ | refine zl ?_ | refine zh ?_ | refine ze ?_); try simp only [oweC, oweP, opF, opH, ev, evs, evp, evo, Env.get, Env.set, putE, gdst, S0, S1, thenN, inBlockN, argEnv, builtinR, retE, fin, callR, reduceIte, Nat.reduceEqDiff, Nat.reduceAdd, reduceCtorEq, forall_const, Q37])
    refine Inv.call Fx.en37 (ih a va0 w3 (by omega) hcnx ⟨h1, h2, rows2, h3.ext he3, VRows.ext he3 _ _ h4⟩) ?_
    rintro v' w4 ⟨hv', he4⟩
    repeat ((try first | (refine z3 hX ?_; clear hX X) | (refine z2 hX ?_; clear hX X)); (first | refine zL fun X hX => ?_ | refine zH fun X hX => ?_ | refine zE fun X hX => ?_ | refine zl ?_ | refine zh ?_ | refine ze ?_); try simp only [oweC, oweP, opF, opH, ev, evs, evp, evo, Env.get, Env.set, putE, gdst, S0, S1, thenN, inBlockN, argEnv, builtinR, retE, fin, callR, reduceIte, Nat.reduceEqDiff, Nat.reduceAdd, reduceCtorEq, forall_const, Q37])
    have hb34 := hb3.ext he4
    refine Runs.store hb34 Fx.zi35' (by rw [hv'.2.1]; rfl) (by rw [hv'.2.1]; intro u hu; simp at hu; subst hu; exact hv'.1) (by simp) (fun w5 hc5 hs5 hb5 => ?_)
    rw [hv'.2.1] at hb5
    simp only [splice, List.take_succ_cons, List.take_zero, List.cons_append, List.nil_append, List.length_singleton, Nat.reduceAdd, List.drop_succ_cons, List.drop_zero, List.append_nil, List.drop_nil] at hb5
    have he15 : Ext w1 w5 := (he13.trans he4).chg_trans hc5 (fun i hi => by omega)
    repeat ((try first | (refine z3 hX ?_; clear hX X) | (refine z2 hX ?_; clear hX X)); (first | refine zL fun X hX => ?_ | refine zH fun X hX => ?_ | refine zE fun X hX => ?_ | refine zl ?_ | refine zh ?_ | refine ze ?_); try simp only [oweC, oweP, opF, opH, ev, evs, evp, evo, Env.get, Env.set, putE, gdst, S0, S1, thenN, inBlockN, argEnv, builtinR, retE, fin, callR, reduceIte, Nat.reduceEqDiff, Nat.reduceAdd, reduceCtorEq, forall_const, Q37])
    refine hM _ _ _ ?_; clear hM M
    refine ok_region rfl ?_
    repeat ((try first | (refine z3 hX ?_; clear hX X) | (refine z2 hX ?_; clear hX X)); (first | refine zL fun X hX => ?_ | refine zH fun X hX => ?_ | refine zE fun X hX => ?_ | refine zl ?_ | refine zh ?_ | refine ze ?_); try simp only [oweC, oweP, opF, opH, ev, evs, evp, evo, Env.get, Env.set, putE, gdst, S0, S1, thenN, inBlockN, argEnv, builtinR, retE, fin, callR, reduceIte, Nat.reduceEqDiff, Nat.reduceAdd, reduceCtorEq, forall_const, Q37])
    refine ⟨[.int .i64 k, .int .i64 n, .string t, v'], rfl, hb5.cells (o := 0) (fun j u hj => by simpa using hj), ?_⟩
    repeat ((try first | (refine z3 hX ?_; clear hX X) | (refine z2 hX ?_; clear hX X)); (first | refine zL fun X hX => ?_ | refine zH fun X hX => ?_ | refine zE fun X hX => ?_ | refine zl ?_ | refine zh ?_ | refine ze ?_); try simp only [oweC, oweP, opF, opH, ev, evs, evp, evo, Env.get, Env.set, putE, gdst, S0, S1, thenN, inBlockN, argEnv, builtinR, retE, fin, callR, reduceIte, Nat.reduceEqDiff, Nat.reduceAdd, reduceCtorEq, forall_const, Q37])
    refine Runs.lit (cs := [.int .i64 k, .int .i64 n, .string t, v']) Fx.un35' Fx.zi93' (by decide) (by kernel_rfl) (by decide) (fun w6 he6 hs6 hb6 => ?_)
    repeat ((try first | (refine z3 hX ?_; clear hX X) | (refine z2 hX ?_; clear hX X)); (first | refine zL fun X hX => ?_ | refine zH fun X hX => ?_ | refine zE fun X hX => ?_ | refine zl ?_ | refine zh ?_ | refine ze ?_); try simp only [oweC, oweP, opF, opH, ev, evs, evp, evo, Env.get, Env.set, putE, gdst, S0, S1, thenN, inBlockN, argEnv, builtinR, retE, fin, callR, reduceIte, Nat.reduceEqDiff, Nat.reduceAdd, reduceCtorEq, forall_const, Q37])
    have he16 := he15.trans he6
    have hs16 := he16.size
    have hown6 := owns_chg' hown (he16.chg (fun _ => False)) (fun _ _ h => h)
    refine Runs.append1' Fx.un35' Fx.zi93' rfl (by decide) hown6 hb6 rfl (by intro u hu; simp at hu; rcases hu with rfl | rfl | rfl | rfl <;> first | rfl | exact hv'.1) (by simp [maxLen]; omega) (by omega) (by omega) (fun v2 w7 hown7 hg7 hblk => ?_)
    have hc7 := grown_chg hg7
    have hs7 := hc7.size
    have hvl : ∀ k, va.ownBlock = some k → w.heap.size ≤ k ∧ k < w1.heap.size := fun k hk => hown.lt k hk
    repeat ((try first | (refine z3 hX ?_; clear hX X) | (refine z2 hX ?_; clear hX X)); (first | refine zL fun X hX => ?_ | refine zH fun X hX => ?_ | refine zE fun X hX => ?_ | refine zl ?_ | refine zh ?_ | refine ze ?_); try simp only [oweC, oweP, opF, opH, ev, evs, evp, evo, Env.get, Env.set, putE, gdst, S0, S1, thenN, inBlockN, argEnv, builtinR, retE, fin, callR, reduceIte, Nat.reduceEqDiff, Nat.reduceAdd, reduceCtorEq, forall_const, Q37])
    refine hM1 _ _ _ ?_; clear hM1 M1
    refine ok_region rfl ?_
    repeat ((try first | (refine z3 hX ?_; clear hX X) | (refine z2 hX ?_; clear hX X)); (first | refine zL fun X hX => ?_ | refine zH fun X hX => ?_ | refine zE fun X hX => ?_ | refine zl ?_ | refine zh ?_ | refine ze ?_); try simp only [oweC, oweP, opF, opH, ev, evs, evp, evo, Env.get, Env.set, putE, gdst, S0, S1, thenN, inBlockN, argEnv, builtinR, retE, fin, callR, reduceIte, Nat.reduceEqDiff, Nat.reduceAdd, reduceCtorEq, forall_const, Q37])
    refine ⟨by simp only [inI]; omega, ?_⟩
    repeat ((try first | (refine z3 hX ?_; clear hX X) | (refine z2 hX ?_; clear hX X)); (first | refine zL fun X hX => ?_ | refine zH fun X hX => ?_ | refine zE fun X hX => ?_ | refine zl ?_ | refine zh ?_ | refine ze ?_); try simp only [oweC, oweP, opF, opH, ev, evs, evp, evo, Env.get, Env.set, putE, gdst, S0, S1, thenN, inBlockN, argEnv, builtinR, retE, fin, callR, reduceIte, Nat.reduceEqDiff, Nat.reduceAdd, reduceCtorEq, forall_const, Q37])
    have hnew : ∀ k, v2.ownBlock = some k → va.ownBlock = some k ∨ k = w6.heap.size := fun k h => by
      rcases hblk with h' | h'
      · exact .inl (h' ▸ h)
      · rw [h'] at h; cases h; exact .inr rfl
    have hs34 := he4.size
    have hs13 := he13.size
    have hc57 : Chg (fun k => va.ownBlock = some k) w5 w7 := (he6.chg _).trans hc7
    refine ⟨(i + 1, v2, rs ++ [[.int .i64 k, .int .i64 n, .string t, v']]), by simp [sub, Env.get], ⟨?_, by omega, ?_, ?_⟩, by omega⟩
    · exact (he1.trans he16).chg_trans hc7 (fun k hk => (hvl k hk).1)
    · simp only [List.flatten_append, List.flatten_cons, List.flatten_nil, List.append_nil]
      exact hown7
    · simp only [htk]
      refine VRowsS.snoc _ _ (VRowsS.chg ((he16.chg _).trans hc7) (fun k hk => ?_) _ _ hrs) ?_
      · refine ⟨⟨hk.1, by omega, fun h => ?_⟩, hk.2.2⟩
        rcases hnew k h with h' | h'
        · exact hk.2.2 h'
        · omega
      · simp only [VRowS]
        have hs4 := hv'.chg (S' := fun k => w.heap.size ≤ k ∧ k < w7.heap.size ∧ v2.ownBlock ≠ some k) ((hc5.mono (S' := fun k => k = B2 ∨ va.ownBlock = some k) (fun k _ h => .inl h)).trans (hc57.mono (fun k _ h => .inr h))) (fun k hk => by
          refine ⟨⟨by omega, by omega, fun h => ?_⟩, fun h => ?_⟩
          · rcases hnew k h with h' | h'
            · have := hvl k h'; omega
            · omega
          · rcases h with h | h
            · omega
            · have := hvl k h; omega)
        obtain ⟨h5, h6, rows3, h7, h8⟩ := hs4
        exact ⟨v', rfl, h5, h6, rows3, h7, h8⟩


-- -- function 52
set_option maxHeartbeats 4000000 in
set_option maxRecDepth 8000 in
theorem copied52_ok : ∀ (m : Nat) (xs : List Val) (v : Value) (w : World), SizeOf.sizeOf xs ≤ m → SmVs xs → VSl w v xs → Rets Try.prog 52 [v] w (fun v' w' => VSlS w' (fun k => w.heap.size ≤ k ∧ k < w'.heap.size) v' xs ∧ Ext w w') := by
  intro m
  induction m with
  | zero => intro xs v w hm; cases xs <;> simp at hm
  | succ m ih =>
    intro xs v w hm hcn hv
    obtain ⟨hv1, hv2, rows, ⟨A, c, rfl, hlen, hcell⟩, hrows⟩ := hv
    have hl := hrows.length
    rw [hl]
    have hcl := hcn.1
    refine rets_of_ok Try.func52 rfl rfl ?_
    refine ok_seq (fun M hM => ok_region rfl ?_); repeat ((try first | (refine z3 hX ?_; clear hX X) | (refine z2 hX ?_; clear hX X)); (first | refine zL fun X hX => ?_ | refine zH fun X hX => ?_ | refine zE fun X hX => ?_ | refine zl ?_ | refine zh ?_ | refine ze ?_); try simp only [oweC, oweP, opF, opH, ev, evs, evp, evo, Env.get, Env.set, putE, gdst, S0, S1, thenN, inBlockN, argEnv, builtinR, retE, fin, callR, reduceIte, Nat.reduceEqDiff, Nat.reduceAdd, reduceCtorEq, forall_const, Q52])
    refine hM _ _ _ ?_; clear hM M
    refine ok_seq (fun M hM => ok_region rfl ?_); repeat ((try first | (refine z3 hX ?_; clear hX X) | (refine z2 hX ?_; clear hX X)); (first | refine zL fun X hX => ?_ | refine zH fun X hX => ?_ | refine zE fun X hX => ?_ | refine zl ?_ | refine zh ?_ | refine ze ?_); try simp only [oweC, oweP, opF, opH, ev, evs, evp, evo, Env.get, Env.set, putE, gdst, S0, S1, thenN, inBlockN, argEnv, builtinR, retE, fin, callR, reduceIte, Nat.reduceEqDiff, Nat.reduceAdd, reduceCtorEq, forall_const, Q52])
    refine hM _ _ _ ?_; clear hM M
    refine ok_seq (fun M0 hM0 => ?_)
    refine ok_seq (fun M hM => ok_region rfl ?_); repeat ((try first | (refine z3 hX ?_; clear hX X) | (refine z2 hX ?_; clear hX X)); (first | refine zL fun X hX => ?_ | refine zH fun X hX => ?_ | refine zE fun X hX => ?_ | refine zl ?_ | refine zh ?_ | refine ze ?_); try simp only [oweC, oweP, opF, opH, ev, evs, evp, evo, Env.get, Env.set, putE, gdst, S0, S1, thenN, inBlockN, argEnv, builtinR, retE, fin, callR, reduceIte, Nat.reduceEqDiff, Nat.reduceAdd, reduceCtorEq, forall_const, Q52])
    refine hM _ _ _ ?_; clear hM M
    refine ok_block ?_
    refine ok_loop (S := Nat × Value × List (List Value)) (fun s => [(3, s.2.1), (6, .slice A xs.length c), (7, .int .i64 (xs.length : Int)), (8, .int .i64 (s.1 : Int))])
      (fun s w' => Ext w w' ∧ s.1 ≤ xs.length ∧ w'.ownsRow w.heap.size 93 4 s.2.1 s.1 s.2.2.flatten ∧ VRowsS w' (fun k => w.heap.size ≤ k ∧ k < w'.heap.size ∧ s.2.1.ownBlock ≠ some k) s.2.2 (xs.take s.1)) (fun s => xs.length - s.1) (0, .slice none 0 0, []) ?_ ?_ ?_
    · simp [sub, Env.get, argEnv]
    · exact ⟨Ext.refl _, Nat.zero_le _, World.ownsRow_nil _ _ _ _, by simp only [List.take_zero, VRowsS]⟩
    rintro ⟨i, va, rs⟩ w1 ⟨he1, hi, hown, hrs⟩
    simp only at hi hown hrs ⊢
    have hs1 := he1.size
    have hrl := hrs.length
    rw [List.length_take, Nat.min_eq_left hi] at hrl
    refine ok_seq (fun M hM => ok_region rfl ?_); repeat ((try first | (refine z3 hX ?_; clear hX X) | (refine z2 hX ?_; clear hX X)); (first | refine zL fun X hX => ?_ | refine zH fun X hX => ?_ | refine zE fun X hX => ?_ | refine zl ?_ | refine zh ?_ | refine ze ?_); try simp only [oweC, oweP, opF, opH, ev, evs, evp, evo, Env.get, Env.set, putE, gdst, S0, S1, thenN, inBlockN, argEnv, builtinR, retE, fin, callR, reduceIte, Nat.reduceEqDiff, Nat.reduceAdd, reduceCtorEq, forall_const, Q52])
    refine hM _ _ _ ?_; clear hM M
    refine ok_seq (fun M1 hM1 => ?_)
    refine ok_if rfl (fun hc => ok_skip ?_) (fun hc => ok_exit ?_)
    rotate_left
    · try simp only [wpL, wpH, wpE, oweC, oweP, opF, opH, ev, evs, evp, evo, Env.get, Env.set, putE, gdst, S0, S1, thenN, inBlockN, argEnv, builtinR, retE, fin, callR, reduceIte, Nat.reduceEqDiff, Nat.reduceAdd, reduceCtorEq, forall_const, Q52]
      refine hM0 _ _ _ ?_; clear hM0 M0 hM1 M1
      have hia : i = xs.length := by omega
      subst hia
      rw [List.take_of_length_le (Nat.le_refl _)] at hrs
      have hva1 : va.oneCell' = true ∧ va.cells = #[va] := by
        rcases hown.2 with ⟨rfl, _⟩ | ⟨g, cap, cur, rfl, _⟩ <;> exact ⟨rfl, rfl⟩
      have hSl : Sli w1 4 va rs := Sli.of_own hown rfl (VRowsS.len4 _ _ hrs) hrl (by omega)
      refine ok_seq (fun M hM => ok_region rfl ?_); repeat ((try first | (refine z3 hX ?_; clear hX X) | (refine z2 hX ?_; clear hX X)); (first | refine zL fun X hX => ?_ | refine zH fun X hX => ?_ | refine zE fun X hX => ?_ | refine zl ?_ | refine zh ?_ | refine ze ?_); try simp only [oweC, oweP, opF, opH, ev, evs, evp, evo, Env.get, Env.set, putE, gdst, S0, S1, thenN, inBlockN, argEnv, builtinR, retE, fin, callR, reduceIte, Nat.reduceEqDiff, Nat.reduceAdd, reduceCtorEq, forall_const, Q52])
      refine hM _ _ _ ?_; clear hM M
      refine ok_ret ?_
      try simp only [wpL, wpH, wpE, oweC, oweP, opF, opH, ev, evs, evp, evo, Env.get, Env.set, putE, gdst, S0, S1, thenN, inBlockN, argEnv, builtinR, retE, fin, callR, reduceIte, Nat.reduceEqDiff, Nat.reduceAdd, reduceCtorEq, forall_const, Q52]
      refine ⟨⟨hva1.1, hva1.2, rs, ?_, VRowsS.chg (Chg.refl (fun _ => False) _) (fun k hk => ⟨⟨hk.1, hk.2.1⟩, id⟩) _ _ hrs⟩, he1⟩
      obtain ⟨A', c', rfl, h2, h3⟩ := hSl
      refine ⟨A', c', rfl, h2, fun j row hj => ?_⟩
      obtain ⟨b, o, rfl, h5⟩ := h3 j row hj
      have hbl := hown.lt b rfl
      exact ⟨b, o, rfl, by omega, h5⟩
    try simp only [wpL, wpH, wpE, oweC, oweP, opF, opH, ev, evs, evp, evo, Env.get, Env.set, putE, gdst, S0, S1, thenN, inBlockN, argEnv, builtinR, retE, fin, callR, reduceIte, Nat.reduceEqDiff, Nat.reduceAdd, reduceCtorEq, forall_const, Q52]
    refine hM1 _ _ _ ?_; clear hM1 M1
    have hil : i < xs.length := by omega
    have hxi : xs[i]? = some xs[i] := List.getElem?_eq_getElem hil
    have htk : xs.take (i + 1) = xs.take i ++ [xs[i]] := List.take_succ_eq_append_getElem hil
    have hszx := List.sizeOf_lt_of_mem (List.getElem_mem hil)
    generalize xs[i] = x at hxi htk hszx
    obtain ⟨rr, hrr, hvr⟩ := hrows.get i _ hxi
    obtain ⟨b, o, rfl, hcr⟩ := hcell i rr hrr
    obtain ⟨k, n, t, a⟩ := x
    simp only [VRow] at hvr
    obtain ⟨va0, rfl, h1, h2, rows2, h3, h4⟩ := hvr
    simp at hszx
    have hcnx := hcn.get hxi
    refine ok_seq (fun M1 hM1 => ok_block ?_)
    refine ok_seq (fun M hM => ok_region rfl ?_)
    repeat ((try first | (refine z3 hX ?_; clear hX X) | (refine z2 hX ?_; clear hX X)); (first | refine zL fun X hX => ?_ | refine zH fun X hX => ?_ | refine zE fun X hX => ?_ | refine zl ?_ | refine zh ?_ | refine ze ?_); try simp only [oweC, oweP, opF, opH, ev, evs, evp, evo, Env.get, Env.set, putE, gdst, S0, S1, thenN, inBlockN, argEnv, builtinR, retE, fin, callR, reduceIte, Nat.reduceEqDiff, Nat.reduceAdd, reduceCtorEq, forall_const, Q52])
    refine ⟨by omega, by omega, ?_⟩
    repeat ((try first | (refine z3 hX ?_; clear hX X) | (refine z2 hX ?_; clear hX X)); (first | refine zL fun X hX => ?_ | refine zH fun X hX => ?_ | refine zE fun X hX => ?_ | refine zl ?_ | refine zh ?_ | refine ze ?_); try simp only [oweC, oweP, opF, opH, ev, evs, evp, evo, Env.get, Env.set, putE, gdst, S0, S1, thenN, inBlockN, argEnv, builtinR, retE, fin, callR, reduceIte, Nat.reduceEqDiff, Nat.reduceAdd, reduceCtorEq, forall_const, Q52])
    refine ⟨[.int .i64 k, .int .i64 n, .string t, va0], rfl, he1.cellsAt hcr, ?_⟩
    repeat ((try first | (refine z3 hX ?_; clear hX X) | (refine z2 hX ?_; clear hX X)); (first | refine zL fun X hX => ?_ | refine zH fun X hX => ?_ | refine zE fun X hX => ?_ | refine zl ?_ | refine zh ?_ | refine ze ?_); try simp only [oweC, oweP, opF, opH, ev, evs, evp, evo, Env.get, Env.set, putE, gdst, S0, S1, thenN, inBlockN, argEnv, builtinR, retE, fin, callR, reduceIte, Nat.reduceEqDiff, Nat.reduceAdd, reduceCtorEq, forall_const, Q52])
    refine Runs.alloc Fx.zi93' (fun w2 he2 hs2 hb2 => ?_)
    generalize hB2 : w1.heap.size = B2 at hs2 hb2
    repeat ((try first | (refine z3 hX ?_; clear hX X) | (refine z2 hX ?_; clear hX X)); (first | refine zL fun X hX => ?_ | refine zH fun X hX => ?_ | refine zE fun X hX => ?_ | refine zl ?_ | refine zh ?_ | refine ze ?_); try simp only [oweC, oweP, opF, opH, ev, evs, evp, evo, Env.get, Env.set, putE, gdst, S0, S1, thenN, inBlockN, argEnv, builtinR, retE, fin, callR, reduceIte, Nat.reduceEqDiff, Nat.reduceAdd, reduceCtorEq, forall_const, Q52])
    refine Runs.store hb2 Fx.zi93' rfl (by intro u hu; simp [Value.cells] at hu; rcases hu with rfl | rfl | rfl | rfl <;> first | rfl | exact h1) (by simp [Value.cells]) (fun w3 hc3 hs3 hb3 => ?_)
    rw [splice_all _ _ (by simp [Value.cells])] at hb3
    simp only [Value.cells] at hb3
    have he13 : Ext w1 w3 := he2.chg_trans hc3 (fun i hi => by omega)
    have he3 := he1.trans he13
    repeat ((try first | (refine z3 hX ?_; clear hX X) | (refine z2 hX ?_; clear hX X)); (first | refine zL fun X hX => ?_ | refine zH fun X hX => ?_ | refine zE fun X hX => ?_ | refine zl ?_ | refine zh ?_ | refine ze ?_); try simp only [oweC, oweP, opF, opH, ev, evs, evp, evo, Env.get, Env.set, putE, gdst, S0, S1, thenN, inBlockN, argEnv, builtinR, retE, fin, callR, reduceIte, Nat.reduceEqDiff, Nat.reduceAdd, reduceCtorEq, forall_const, Q52])
    refine hM _ _ _ ?_; clear hM M
    refine ok_seq (fun M hM => ok_region rfl ?_)
    repeat ((try first | (refine z3 hX ?_; clear hX X) | (refine z2 hX ?_; clear hX X)); (first | refine zL fun X hX => ?_ | refine zH fun X hX => ?_ | refine zE fun X hX => ?_ | refine zl ?_ | refine zh ?_ | refine ze ?_); try simp only [oweC, oweP, opF, opH, ev, evs, evp, evo, Env.get, Env.set, putE, gdst, S0, S1, thenN, inBlockN, argEnv, builtinR, retE, fin, callR, reduceIte, Nat.reduceEqDiff, Nat.reduceAdd, reduceCtorEq, forall_const, Q52])
    refine ⟨_, hb3.cell (j := 3) rfl, ?_⟩
    repeat ((try first | (refine z3 hX ?_; clear hX X) | (refine z2 hX ?_; clear hX X)); (first | refine zL fun X hX => ?_ | refine zH fun X hX => ?_ | refine zE fun X hX => ?_ | refine zl ?_ | refine zh ?_ | refine ze ?_); try simp only [oweC, oweP, opF, opH, ev, evs, evp, evo, Env.get, Env.set, putE, gdst, S0, S1, thenN, inBlockN, argEnv, builtinR, retE, fin, callR, reduceIte, Nat.reduceEqDiff, Nat.reduceAdd, reduceCtorEq, forall_const, Q52])
    refine Inv.call Fx.en52 (ih a va0 w3 (by omega) hcnx ⟨h1, h2, rows2, h3.ext he3, VRows.ext he3 _ _ h4⟩) ?_
    rintro v' w4 ⟨hv', he4⟩
    repeat ((try first | (refine z3 hX ?_; clear hX X) | (refine z2 hX ?_; clear hX X)); (first | refine zL fun X hX => ?_ | refine zH fun X hX => ?_ | refine zE fun X hX => ?_ | refine zl ?_ | refine zh ?_ | refine ze ?_); try simp only [oweC, oweP, opF, opH, ev, evs, evp, evo, Env.get, Env.set, putE, gdst, S0, S1, thenN, inBlockN, argEnv, builtinR, retE, fin, callR, reduceIte, Nat.reduceEqDiff, Nat.reduceAdd, reduceCtorEq, forall_const, Q52])
    have hb34 := hb3.ext he4
    refine Runs.store hb34 Fx.zi35' (by rw [hv'.2.1]; rfl) (by rw [hv'.2.1]; intro u hu; simp at hu; subst hu; exact hv'.1) (by simp) (fun w5 hc5 hs5 hb5 => ?_)
    rw [hv'.2.1] at hb5
    simp only [splice, List.take_succ_cons, List.take_zero, List.cons_append, List.nil_append, List.length_singleton, Nat.reduceAdd, List.drop_succ_cons, List.drop_zero, List.append_nil, List.drop_nil] at hb5
    have he15 : Ext w1 w5 := (he13.trans he4).chg_trans hc5 (fun i hi => by omega)
    repeat ((try first | (refine z3 hX ?_; clear hX X) | (refine z2 hX ?_; clear hX X)); (first | refine zL fun X hX => ?_ | refine zH fun X hX => ?_ | refine zE fun X hX => ?_ | refine zl ?_ | refine zh ?_ | refine ze ?_); try simp only [oweC, oweP, opF, opH, ev, evs, evp, evo, Env.get, Env.set, putE, gdst, S0, S1, thenN, inBlockN, argEnv, builtinR, retE, fin, callR, reduceIte, Nat.reduceEqDiff, Nat.reduceAdd, reduceCtorEq, forall_const, Q52])
    refine hM _ _ _ ?_; clear hM M
    refine ok_region rfl ?_
    repeat ((try first | (refine z3 hX ?_; clear hX X) | (refine z2 hX ?_; clear hX X)); (first | refine zL fun X hX => ?_ | refine zH fun X hX => ?_ | refine zE fun X hX => ?_ | refine zl ?_ | refine zh ?_ | refine ze ?_); try simp only [oweC, oweP, opF, opH, ev, evs, evp, evo, Env.get, Env.set, putE, gdst, S0, S1, thenN, inBlockN, argEnv, builtinR, retE, fin, callR, reduceIte, Nat.reduceEqDiff, Nat.reduceAdd, reduceCtorEq, forall_const, Q52])
    refine ⟨[.int .i64 k, .int .i64 n, .string t, v'], rfl, hb5.cells (o := 0) (fun j u hj => by simpa using hj), ?_⟩
    repeat ((try first | (refine z3 hX ?_; clear hX X) | (refine z2 hX ?_; clear hX X)); (first | refine zL fun X hX => ?_ | refine zH fun X hX => ?_ | refine zE fun X hX => ?_ | refine zl ?_ | refine zh ?_ | refine ze ?_); try simp only [oweC, oweP, opF, opH, ev, evs, evp, evo, Env.get, Env.set, putE, gdst, S0, S1, thenN, inBlockN, argEnv, builtinR, retE, fin, callR, reduceIte, Nat.reduceEqDiff, Nat.reduceAdd, reduceCtorEq, forall_const, Q52])
    refine Runs.lit (cs := [.int .i64 k, .int .i64 n, .string t, v']) Fx.un35' Fx.zi93' (by decide) (by kernel_rfl) (by decide) (fun w6 he6 hs6 hb6 => ?_)
    repeat ((try first | (refine z3 hX ?_; clear hX X) | (refine z2 hX ?_; clear hX X)); (first | refine zL fun X hX => ?_ | refine zH fun X hX => ?_ | refine zE fun X hX => ?_ | refine zl ?_ | refine zh ?_ | refine ze ?_); try simp only [oweC, oweP, opF, opH, ev, evs, evp, evo, Env.get, Env.set, putE, gdst, S0, S1, thenN, inBlockN, argEnv, builtinR, retE, fin, callR, reduceIte, Nat.reduceEqDiff, Nat.reduceAdd, reduceCtorEq, forall_const, Q52])
    have he16 := he15.trans he6
    have hs16 := he16.size
    have hown6 := owns_chg' hown (he16.chg (fun _ => False)) (fun _ _ h => h)
    refine Runs.append1' Fx.un35' Fx.zi93' rfl (by decide) hown6 hb6 rfl (by intro u hu; simp at hu; rcases hu with rfl | rfl | rfl | rfl <;> first | rfl | exact hv'.1) (by simp [maxLen]; omega) (by omega) (by omega) (fun v2 w7 hown7 hg7 hblk => ?_)
    have hc7 := grown_chg hg7
    have hs7 := hc7.size
    have hvl : ∀ k, va.ownBlock = some k → w.heap.size ≤ k ∧ k < w1.heap.size := fun k hk => hown.lt k hk
    repeat ((try first | (refine z3 hX ?_; clear hX X) | (refine z2 hX ?_; clear hX X)); (first | refine zL fun X hX => ?_ | refine zH fun X hX => ?_ | refine zE fun X hX => ?_ | refine zl ?_ | refine zh ?_ | refine ze ?_); try simp only [oweC, oweP, opF, opH, ev, evs, evp, evo, Env.get, Env.set, putE, gdst, S0, S1, thenN, inBlockN, argEnv, builtinR, retE, fin, callR, reduceIte, Nat.reduceEqDiff, Nat.reduceAdd, reduceCtorEq, forall_const, Q52])
    refine hM1 _ _ _ ?_; clear hM1 M1
    refine ok_region rfl ?_
    repeat ((try first | (refine z3 hX ?_; clear hX X) | (refine z2 hX ?_; clear hX X)); (first | refine zL fun X hX => ?_ | refine zH fun X hX => ?_ | refine zE fun X hX => ?_ | refine zl ?_ | refine zh ?_ | refine ze ?_); try simp only [oweC, oweP, opF, opH, ev, evs, evp, evo, Env.get, Env.set, putE, gdst, S0, S1, thenN, inBlockN, argEnv, builtinR, retE, fin, callR, reduceIte, Nat.reduceEqDiff, Nat.reduceAdd, reduceCtorEq, forall_const, Q52])
    refine ⟨by simp only [inI]; omega, ?_⟩
    repeat ((try first | (refine z3 hX ?_; clear hX X) | (refine z2 hX ?_; clear hX X)); (first | refine zL fun X hX => ?_ | refine zH fun X hX => ?_ | refine zE fun X hX => ?_ | refine zl ?_ | refine zh ?_ | refine ze ?_); try simp only [oweC, oweP, opF, opH, ev, evs, evp, evo, Env.get, Env.set, putE, gdst, S0, S1, thenN, inBlockN, argEnv, builtinR, retE, fin, callR, reduceIte, Nat.reduceEqDiff, Nat.reduceAdd, reduceCtorEq, forall_const, Q52])
    have hnew : ∀ k, v2.ownBlock = some k → va.ownBlock = some k ∨ k = w6.heap.size := fun k h => by
      rcases hblk with h' | h'
      · exact .inl (h' ▸ h)
      · rw [h'] at h; cases h; exact .inr rfl
    have hs34 := he4.size
    have hs13 := he13.size
    have hc57 : Chg (fun k => va.ownBlock = some k) w5 w7 := (he6.chg _).trans hc7
    refine ⟨(i + 1, v2, rs ++ [[.int .i64 k, .int .i64 n, .string t, v']]), by simp [sub, Env.get], ⟨?_, by omega, ?_, ?_⟩, by omega⟩
    · exact (he1.trans he16).chg_trans hc7 (fun k hk => (hvl k hk).1)
    · simp only [List.flatten_append, List.flatten_cons, List.flatten_nil, List.append_nil]
      exact hown7
    · simp only [htk]
      refine VRowsS.snoc _ _ (VRowsS.chg ((he16.chg _).trans hc7) (fun k hk => ?_) _ _ hrs) ?_
      · refine ⟨⟨hk.1, by omega, fun h => ?_⟩, hk.2.2⟩
        rcases hnew k h with h' | h'
        · exact hk.2.2 h'
        · omega
      · simp only [VRowS]
        have hs4 := hv'.chg (S' := fun k => w.heap.size ≤ k ∧ k < w7.heap.size ∧ v2.ownBlock ≠ some k) ((hc5.mono (S' := fun k => k = B2 ∨ va.ownBlock = some k) (fun k _ h => .inl h)).trans (hc57.mono (fun k _ h => .inr h))) (fun k hk => by
          refine ⟨⟨by omega, by omega, fun h => ?_⟩, fun h => ?_⟩
          · rcases hnew k h with h' | h'
            · have := hvl k h'; omega
            · omega
          · rcases h with h | h
            · omega
            · have := hvl k h; omega)
        obtain ⟨h5, h6, rows3, h7, h8⟩ := hs4
        exact ⟨v', rfl, h5, h6, rows3, h7, h8⟩

end Go.Proofs.Ytafjfcameabbmaa
/- Own rows: one row's cells turned in place. -/
set_option linter.unusedVariables false
set_option linter.unusedSimpArgs false
namespace Go.Proofs.Vg
open Go Go.RowKit
theorem splice_right (a b : List Value) (o : Nat) (vs : List Value) : splice (a ++ b) (a.length + o) vs = a ++ splice b o vs := by
  unfold splice
  rw [List.take_append, List.drop_append]
  have h1 : a.take (a.length + o) = a := List.take_of_length_le (by omega)
  have h2 : a.drop (a.length + o + vs.length) = [] := List.drop_of_length_le (by omega)
  rw [h1, h2]
  have h3 : a.length + o - a.length = o := by omega
  have h4 : a.length + o + vs.length - a.length = o + vs.length := by omega
  rw [h3, h4]
  simp
theorem splice_left (a b : List Value) (o : Nat) (vs : List Value) (h : o + vs.length ≤ a.length) : splice (a ++ b) o vs = splice a o vs ++ b := by
  unfold splice
  rw [List.take_append_of_le_length (by omega), List.drop_append_of_le_length (by omega)]
  simp
theorem flat_upd {sz : Nat} (vs : List Value) (off : Nat) (hoff : off + vs.length ≤ sz) : ∀ (rows : List (List Value)) (i : Nat) (row : List Value) (rest : List Value), (∀ r ∈ rows, r.length = sz) → rows[i]? = some row →
    splice (rows.flatten ++ rest) (i * sz + off) vs = (rows.set i (splice row off vs)).flatten ++ rest := by
  intro rows
  induction rows with
  | nil => intro i row rest _ h; simp at h
  | cons r rs ih =>
    intro i row rest hr h
    have h0 := hr r List.mem_cons_self
    cases i with
    | zero =>
      simp at h; subst h
      simp only [Nat.zero_mul, Nat.zero_add, List.flatten_cons, List.set_cons_zero, List.append_assoc]
      rw [splice_left _ _ _ _ (by omega)]
    | succ i =>
      have := ih i row rest (fun x hx => hr x (List.mem_cons_of_mem _ hx)) (by simpa using h)
      simp only [List.flatten_cons, List.set_cons_succ, List.append_assoc]
      rw [← this]
      have e : (i + 1) * sz + off = r.length + (i * sz + off) := by rw [h0, Nat.add_mul]; omega
      rw [e, splice_right]
theorem flat_len {sz : Nat} : ∀ (rows : List (List Value)), (∀ r ∈ rows, r.length = sz) → rows.flatten.length = rows.length * sz := by
  intro rows
  induction rows with
  | nil => intro _; simp
  | cons r rs ih => intro h; rw [List.flatten_cons, List.length_append, h r List.mem_cons_self, ih (fun x hx => h x (List.mem_cons_of_mem _ hx)), List.length_cons, Nat.add_mul]; omega
/-- A store into a row that one owns. -/
theorem own_store {w : World} {base e sz n : Nat} {v : Value} {rows : List (List Value)} (h : w.ownsRow base e sz v n rows.flatten) (hr : ∀ r ∈ rows, r.length = sz) {i : Nat} {row : List Value} (hi : rows[i]? = some row) (hsz : 0 < sz) {off : Nat} {vs : List Value} (hoff : off + vs.length ≤ sz) (hvs : 0 < vs.length) :
    ∃ g cap cur, v = .slice (some ⟨g, 0, none⟩) n cap ∧ Blk w g cur e ∧ i * sz + off + vs.length ≤ cur.length ∧ n = rows.length ∧ base ≤ g ∧
      ∀ w', Blk w' g (splice cur (i * sz + off) vs) e → w'.ownsRow base e sz v n (rows.set i (splice row off vs)).flatten := by
  have hfl := flat_len rows hr
  have hil := (List.getElem?_eq_some_iff.1 hi).1
  have hrow : row.length = sz := hr row (List.mem_of_getElem? hi)
  have hn : n = rows.length := by
    have h1 := h.1
    rw [hfl] at h1
    exact (Nat.eq_of_mul_eq_mul_right hsz h1).symm
  rcases h.2 with ⟨h1, h2⟩ | ⟨g, cap, cur, h1, hb, hg, hnc, hm, hs, ht⟩
  · omega
  have hle : n * sz ≤ cap * sz := Nat.mul_le_mul_right sz hnc
  have hcl : cur.toList.length = cap * sz := by simpa using hs
  have hin : i * sz + sz ≤ n * sz := by
    have : (i + 1) * sz ≤ n * sz := Nat.mul_le_mul_right sz (by omega)
    rw [Nat.add_mul] at this; omega
  refine ⟨g, cap, cur.toList, h1, by simpa [Blk] using hg, by omega, hn, hb, fun w' hb' => ?_⟩
  have hset : ∀ r ∈ rows.set i (splice row off vs), r.length = sz := fun r hr' => by
    rcases List.mem_or_eq_of_mem_set hr' with h3 | h3
    · exact hr r h3
    · rw [h3, splice_length _ _ _ (by omega), hrow]
  have hcur : cur.toList = rows.flatten ++ cur.toList.drop (n * sz) := by rw [← ht]; exact (List.take_append_drop _ _).symm
  have hsp : splice cur.toList (i * sz + off) vs = (rows.set i (splice row off vs)).flatten ++ cur.toList.drop (n * sz) := by
    rw [hcur, flat_upd vs off hoff rows i row _ hr hi]
    congr 1
    rw [← hcur]
  have hfs := flat_len _ hset
  rw [List.length_set] at hfs
  refine ⟨by rw [hfs, hn], .inr ⟨g, cap, (splice cur.toList (i * sz + off) vs).toArray, h1, hb, hb', hnc, hm, ?_, ?_⟩⟩
  · rw [List.size_toArray, splice_length _ _ _ (by omega), hcl]
  · rw [hsp, List.take_append_of_le_length (by rw [hfs, hn]; exact Nat.le_refl _), List.take_of_length_le (by rw [hfs, hn]; exact Nat.le_refl _)]
/-- A row of one's own, read. -/
theorem own_row {w : World} {base e sz n : Nat} {v : Value} {rows : List (List Value)} (h : w.ownsRow base e sz v n rows.flatten) (hr : ∀ r ∈ rows, r.length = sz) {i : Nat} {row : List Value} (hi : rows[i]? = some row) (hsz : 0 < sz) (hb : rows.length ≤ 140737488355328) :
    ∃ g cap, v = .slice (some ⟨g, 0, none⟩) n cap ∧ n = rows.length ∧ cellsAt w ⟨g, i * sz, none⟩ row := by
  obtain ⟨g, cap, cur, h1, -, -, hn, -, -⟩ := own_store h hr hi hsz (off := 0) (vs := [.int .i64 0]) (by simp; omega) (by simp)
  have hs := Sli.of_own h rfl hr hn.symm (by omega)
  obtain ⟨A, c, hv, -, hc⟩ := hs
  rw [h1] at hv
  injection hv with hA _ _
  obtain ⟨b, o, hA2, hcc⟩ := hc i row hi
  rw [← hA] at hA2
  cases hA2
  exact ⟨g, cap, h1, hn, by simpa using hcc⟩
end Go.Proofs.Vg
/- The calls of a list of events, in memory.  -/
set_option linter.unusedVariables false
set_option linter.unusedSimpArgs false
namespace Go.Proofs.Vg
open Go Go.RowKit

structure Ev where
  port : Int
  call : Int
  parent : Int
  proc : Int
  at_ : Int
  args : List Val
structure Nd where
  proc : Int
  parent : Int
  at_ : Int
  ports : List Int
  args : List Val
  last : List Val
  kids : List Int
  state : Int
def ivs (l : List Int) : List Value := l.map (Value.int .i64)
def Nd.row (d : Nd) (va vl vk : Value) : List Value := [.int .i64 d.proc, .int .i64 d.parent, .int .i64 d.at_] ++ (ivs d.ports ++ [va, vl, vk, .int .i64 d.state])
theorem Nd.row_len {d : Nd} (h : d.ports.length = 5) (va vl vk : Value) : (d.row va vl vk).length = 12 := by simp [Nd.row, ivs, h]
/-- An event's six cells. -/
def EvRow (w : World) (S : Nat → Prop) (row : List Value) (e : Ev) : Prop :=
  ∃ v, row = [.int .i64 e.port, .int .i64 e.call, .int .i64 e.parent, .int .i64 e.proc, .int .i64 e.at_, v] ∧ VSlS w S v e.args
/-- The calls in memory: a row of one's own; each call's kids in a row of one's own; what else it leads to in S. -/
structure NM (w : World) (et : TypeId) (S : Nat → Prop) (vn : Value) (vks : List Value) (rows : List (List Value)) (nds : List Nd) : Prop where
  own : w.ownsRow 0 et 12 vn nds.length rows.flatten
  lr : rows.length = nds.length
  lk : vks.length = nds.length
  row : ∀ (i : Nat) (d : Nd), nds[i]? = some d → d.ports.length = 5 ∧ ∃ va vl vk, vks[i]? = some vk ∧ rows[i]? = some (d.row va vl vk) ∧ VSlS w S va d.args ∧ VSlS w S vl d.last ∧ w.ownsRow 0 3 1 vk d.kids.length (ivs d.kids)
  apart : ∀ (i j : Nat) (u v : Value) (k : Nat), vks[i]? = some u → vks[j]? = some v → u.ownBlock = some k → v.ownBlock = some k → i = j
  top : ∀ k, vn.ownBlock = some k → ¬ S k ∧ ∀ (i : Nat) (v : Value), vks[i]? = some v → v.ownBlock ≠ some k
  sk : ∀ (i : Nat) (v : Value) (k : Nat), vks[i]? = some v → v.ownBlock = some k → ¬ S k
def NFoot (vn : Value) (vks : List Value) (k : Nat) : Prop := vn.ownBlock = some k ∨ ∃ (i : Nat) (v : Value), vks[i]? = some v ∧ v.ownBlock = some k
theorem NM.rlen {w : World} {et : TypeId} {S : Nat → Prop} {vn : Value} {vks : List Value} {rows : List (List Value)} {nds : List Nd} (h : NM w et S vn vks rows nds) : ∀ r ∈ rows, r.length = 12 := by
  intro r hr
  obtain ⟨i, hi⟩ := List.mem_iff_getElem?.1 hr
  have hil := (List.getElem?_eq_some_iff.1 hi).1
  have hd : nds[i]? = some (nds[i]'(by rw [← h.lr]; exact hil)) := List.getElem?_eq_getElem _
  obtain ⟨h5, va, vl, vk, -, h1, -⟩ := h.row i _ hd
  rw [hi] at h1; cases h1
  exact Nd.row_len h5 va vl vk
theorem NM.chg {w w' : World} {et : TypeId} {S T : Nat → Prop} {vn : Value} {vks : List Value} {rows : List (List Value)} {nds : List Nd} (h : NM w et S vn vks rows nds) (hc : Chg T w w') (hf : ∀ k, NFoot vn vks k → ¬ T k) (hs : ∀ k, S k → ¬ T k) : NM w' et S vn vks rows nds := by
  refine ⟨owns_chg' h.own hc (fun k hk => hf k (.inl hk)), h.lr, h.lk, fun i d hd => ?_, h.apart, h.top, h.sk⟩
  obtain ⟨h5, va, vl, vk, h1, h2, h3, h4, h6⟩ := h.row i d hd
  exact ⟨h5, va, vl, vk, h1, h2, h3.chg hc (fun k hk => ⟨hk, hs k hk⟩), h4.chg hc (fun k hk => ⟨hk, hs k hk⟩), owns_chg' h6 hc (fun k hk => hf k (.inr ⟨i, vk, h1, hk⟩))⟩
theorem NM.ext {w w' : World} {et : TypeId} {S : Nat → Prop} {vn : Value} {vks : List Value} {rows : List (List Value)} {nds : List Nd} (h : NM w et S vn vks rows nds) (he : Ext w w') : NM w' et S vn vks rows nds := h.chg (he.chg (fun _ => False)) (fun _ _ => id) (fun _ _ => id)
/-- A number of a call is turned. -/
theorem NM.turn {w : World} {et : TypeId} {S : Nat → Prop} {vn : Value} {vks : List Value} {rows : List (List Value)} {nds : List Nd} (h : NM w et S vn vks rows nds) {i : Nat} {d d' : Nd} (hd : nds[i]? = some d) {off : Nat} {u : Value} (ho : off < 12)
    (hrow : ∀ va vl vk, splice (d.row va vl vk) off [u] = d'.row va vl vk) (ha : d'.args = d.args) (hla : d'.last = d.last) (hk : d'.kids = d.kids) (hp : d'.ports.length = 5) :
    ∃ g cap cur, vn = .slice (some ⟨g, 0, none⟩) nds.length cap ∧ Blk w g cur et ∧ i * 12 + off + 1 ≤ cur.length ∧
      ∀ w', Chg (· = g) w w' → Blk w' g (splice cur (i * 12 + off) [u]) et → ∃ rows', NM w' et S vn vks rows' (nds.set i d') := by
  obtain ⟨h5, va, vl, vk, h1, h2, h3, h4, h6⟩ := h.row i d hd
  obtain ⟨g, cap, cur, hv, hb, hle, hn, -, hw⟩ := own_store h.own h.rlen h2 (by decide) (off := off) (vs := [u]) (by simp only [List.length_singleton]; omega) (by simp)
  have hil := (List.getElem?_eq_some_iff.1 hd).1
  have hvo : vn.ownBlock = some g := by rw [hv]; rfl
  refine ⟨g, cap, cur, hv, hb, by simpa using hle, fun w' hc hb' => ⟨rows.set i (d'.row va vl vk), ?_⟩⟩
  have hown := hw w' hb'
  rw [hrow va vl vk] at hown
  have hsT : ∀ k, S k → ¬ k = g := fun k hk e => (h.top g hvo).1 (e ▸ hk)
  refine ⟨by rw [List.length_set]; exact hown, by simp [h.lr], by simp [h.lk], fun j e he => ?_, h.apart, h.top, h.sk⟩
  by_cases hji : j = i
  · subst hji
    rw [List.getElem?_set_self hil] at he
    cases he
    refine ⟨hp, va, vl, vk, h1, by rw [List.getElem?_set_self (by rw [h.lr]; exact hil)], ?_, ?_, ?_⟩
    · rw [ha]; exact h3.chg hc (fun k hk => ⟨hk, hsT k hk⟩)
    · rw [hla]; exact h4.chg hc (fun k hk => ⟨hk, hsT k hk⟩)
    · rw [hk]; exact owns_chg' h6 hc (fun k hk e => (h.top g hvo).2 j vk h1 (e ▸ hk))
  · rw [List.getElem?_set_ne (fun e => hji e.symm)] at he
    obtain ⟨g5, wa, wl, wk, g1, g2, g3, g4, g6⟩ := h.row j e he
    refine ⟨g5, wa, wl, wk, g1, by rw [List.getElem?_set_ne (fun e => hji e.symm)]; exact g2, g3.chg hc (fun k hk => ⟨hk, hsT k hk⟩), g4.chg hc (fun k hk => ⟨hk, hsT k hk⟩), owns_chg' g6 hc (fun k hk e => (h.top g hvo).2 j wk g1 (e ▸ hk))⟩
/-- A call, read. -/
theorem NM.at_ {w : World} {et : TypeId} {S : Nat → Prop} {vn : Value} {vks : List Value} {rows : List (List Value)} {nds : List Nd} (h : NM w et S vn vks rows nds) (hl : nds.length ≤ 1048576) {i : Nat} {d : Nd} (hd : nds[i]? = some d) :
    ∃ g cap va vl vk, vn = .slice (some ⟨g, 0, none⟩) nds.length cap ∧ vks[i]? = some vk ∧ d.ports.length = 5 ∧ (∀ (j : Nat) (u : Value), (d.row va vl vk)[j]? = some u → w.cell? ⟨g, i * 12 + j, none⟩ = some u) ∧ VSlS w S va d.args ∧ VSlS w S vl d.last ∧ w.ownsRow 0 3 1 vk d.kids.length (ivs d.kids) := by
  obtain ⟨h5, va, vl, vk, h1, h2, h3, h4, h6⟩ := h.row i d hd
  obtain ⟨g, cap, hv, -, hc⟩ := own_row h.own h.rlen h2 (by decide) (by rw [h.lr]; omega)
  exact ⟨g, cap, va, vl, vk, hv, h1, h5, fun j u hj => by have := hc j u hj; simpa [add_at] using this, h3, h4, h6⟩
theorem NM.len {w : World} {et : TypeId} {S : Nat → Prop} {vn : Value} {vks : List Value} {rows : List (List Value)} {nds : List Nd} (h : NM w et S vn vks rows nds) : ∃ A c, vn = .slice A nds.length c := by
  rcases h.own.2 with ⟨h1, h2⟩ | ⟨g, cap, cur, h1, _⟩
  · exact ⟨none, 0, by rw [h1, h2]⟩
  · exact ⟨_, _, h1⟩
end Go.Proofs.Vg
/- The builder: state, enter.  -/
set_option linter.unusedVariables false
set_option linter.unusedSimpArgs false
namespace Go.Proofs.Vg
open Go Go.RowKit
/-- The builder at 'bb'; what belongs to it lies in F. -/
structure BM (w : World) (bb : Nat) (S : Nat → Prop) (vn vb : Value) (vks : List Value) (rows : List (List Value)) (nds : List Nd) (busy : List Int) : Prop where
  head : Blk w bb [vn, vb] 98
  nm : NM w 79 S vn vks rows nds
  bz : w.ownsRow 0 3 1 vb nds.length (ivs busy)
  lb : busy.length = nds.length
  hs : ¬ S bb
  hn : ¬ NFoot vn vks bb
  bs : ∀ k, vb.ownBlock = some k → ¬ S k ∧ k ≠ bb ∧ ¬ NFoot vn vks k
def BFoot (bb : Nat) (vn vb : Value) (vks : List Value) (k : Nat) : Prop := k = bb ∨ vb.ownBlock = some k ∨ NFoot vn vks k
theorem BM.chg {w w' : World} {bb : Nat} {S T : Nat → Prop} {vn vb : Value} {vks : List Value} {rows : List (List Value)} {nds : List Nd} {busy : List Int} (h : BM w bb S vn vb vks rows nds busy) (hc : Chg T w w') (hf : ∀ k, BFoot bb vn vb vks k → ¬ T k) (hs : ∀ k, S k → ¬ T k) : BM w' bb S vn vb vks rows nds busy :=
  ⟨h.head.chg hc (hf _ (.inl rfl)), h.nm.chg hc (fun k hk => hf k (.inr (.inr hk))) hs, owns_chg' h.bz hc (fun k hk => hf k (.inr (.inl hk))), h.lb, h.hs, h.hn, h.bs⟩
theorem BM.ext {w w' : World} {bb : Nat} {S : Nat → Prop} {vn vb : Value} {vks : List Value} {rows : List (List Value)} {nds : List Nd} {busy : List Int} (h : BM w bb S vn vb vks rows nds busy) (he : Ext w w') : BM w' bb S vn vb vks rows nds busy := h.chg (he.chg (fun _ => False)) (fun _ _ => id) (fun _ _ => id)
def stateN (nds : List Nd) (c : Int) : Int := if 1 ≤ c then (match nds[(c - 1).toNat]? with | some d => d.state | none => 0) else 0
theorem row_state {d : Nd} (h : d.ports.length = 5) (va vl vk : Value) : (d.row va vl vk)[11]? = some (.int .i64 d.state) := by
  unfold Nd.row
  rw [List.getElem?_append_right (by simp), List.getElem?_append_right (by simp [ivs, h])]
  simp [ivs, h]
theorem row_parent {d : Nd} (va vl vk : Value) : (d.row va vl vk)[1]? = some (.int .i64 d.parent) := rfl
theorem row_set_state {d : Nd} (h : d.ports.length = 5) (s : Int) (va vl vk : Value) : splice (d.row va vl vk) 11 [.int .i64 s] = ({ d with state := s } : Nd).row va vl vk := by
  have h1 : d.row va vl vk = ([.int .i64 d.proc, .int .i64 d.parent, .int .i64 d.at_] ++ (ivs d.ports ++ [va, vl, vk])) ++ [.int .i64 d.state] := by simp [Nd.row]
  have h2 : ({ d with state := s } : Nd).row va vl vk = ([.int .i64 d.proc, .int .i64 d.parent, .int .i64 d.at_] ++ (ivs d.ports ++ [va, vl, vk])) ++ [.int .i64 s] := by simp [Nd.row]
  rw [h1, h2]
  have h3 : ([Value.int .i64 d.proc, .int .i64 d.parent, .int .i64 d.at_] ++ (ivs d.ports ++ [va, vl, vk])).length = 11 := by simp [ivs, h]
  have := splice_right ([Value.int .i64 d.proc, .int .i64 d.parent, .int .i64 d.at_] ++ (ivs d.ports ++ [va, vl, vk])) [.int .i64 d.state] 0 [.int .i64 s]
  rw [h3] at this
  rw [this]
  simp [splice]
/-- One number of an own row of numbers, turned. -/
theorem ivs_rows (l : List Int) : ivs l = (l.map fun x => [Value.int .i64 x]).flatten := by
  induction l with
  | nil => rfl
  | cons x xs ih => simp only [ivs, List.map_cons, List.flatten_cons] at ih ⊢; rw [ih]; rfl
theorem own_int {w : World} {base n : Nat} {v : Value} {l : List Int} (h : w.ownsRow base 3 1 v n (ivs l)) {i : Nat} {x : Int} (hi : l[i]? = some x) (hb : l.length ≤ 140737488355328) :
    ∃ g cap cur, v = .slice (some ⟨g, 0, none⟩) n cap ∧ n = l.length ∧ w.cell? ⟨g, i, none⟩ = some (.int .i64 x) ∧ Blk w g cur 3 ∧ i + 1 ≤ cur.length ∧
      ∀ w' y, Blk w' g (splice cur i [.int .i64 y]) 3 → w'.ownsRow base 3 1 v n (ivs (l.set i y)) := by
  rw [ivs_rows] at h
  have hr : ∀ r ∈ l.map (fun x => [Value.int .i64 x]), r.length = 1 := by simp
  have hi' : (l.map fun x => [Value.int .i64 x])[i]? = some [.int .i64 x] := by rw [List.getElem?_map, hi]; rfl
  obtain ⟨g, cap, hv, hn, hc⟩ := own_row h hr hi' (by decide) (by simpa using hb)
  obtain ⟨g2, cap2, cur, hv2, hb2, hle, _, _, _⟩ := own_store h hr hi' (by decide) (off := 0) (vs := [.int .i64 0]) (by simp) (by simp)
  rw [hv] at hv2
  cases hv2
  refine ⟨g, cap, cur, hv, by simpa using hn, by have := hc 0 _ rfl; simpa [add_at] using this, hb2, by simpa using hle, fun w' y hb' => ?_⟩
  obtain ⟨g3, cap3, cur3, hv3, hb3, _, _, _, hw⟩ := own_store h hr hi' (by decide) (off := 0) (vs := [.int .i64 y]) (by simp) (by simp)
  rw [hv] at hv3
  cases hv3
  have hcur : cur3 = cur := by
    unfold Blk at hb2 hb3
    rw [hb2] at hb3
    injection hb3 with hb3
    injection hb3 with hb3 _ _
    simpa using hb3.symm
  subst hcur
  have := hw w' (by simpa using hb')
  rw [ivs_rows, List.map_set]
  simpa [splice] using this
end Go.Proofs.Vg
namespace Go.Proofs.Ytafjfcameabbmaa
open Go Go.Proofs.Vg Go.RowKit

-- -- function 65
set_option maxHeartbeats 4000000 in
set_option maxRecDepth 8000 in
theorem state_ok (w : World) (bb : Nat) (S : Nat → Prop) (vn vb : Value) (vks : List Value) (rows : List (List Value)) (nds : List Nd) (busy : List Int) (h : BM w bb S vn vb vks rows nds busy) (hl : nds.length ≤ 1048576) (c : Int) :
    Rets Try.prog 65 [.pointer (some ⟨bb, 0, none⟩), .int .i64 c] w (fun v w' => v = .int .i64 (stateN nds c) ∧ w' = w) := by
  obtain ⟨A, cp, hvn⟩ := h.nm.len
  subst hvn
  refine rets_of_ok Try.func65 rfl rfl ?_
  refine ok_seq (fun M hM => ok_region rfl ?_); repeat ((try first | (refine z3 hX ?_; clear hX X) | (refine z2 hX ?_; clear hX X)); (first | refine zL fun X hX => ?_ | refine zH fun X hX => ?_ | refine zE fun X hX => ?_ | refine zl ?_ | refine zh ?_ | refine ze ?_); try simp only [oweC, oweP, opF, opH, ev, evs, evp, evo, Env.get, Env.set, putE, gdst, S0, S1, thenN, inBlockN, argEnv, builtinR, retE, fin, callR, reduceIte, Nat.reduceEqDiff, Nat.reduceAdd, reduceCtorEq, forall_const, Q65])
  refine hM _ _ _ ?_; clear hM M
  refine ok_join [(0, .pointer (some ⟨bb, 0, none⟩)), (1, .int .i64 c)] (fun w' => w' = w ∧ 1 ≤ c ∧ c ≤ (nds.length : Int)) ?_ ?_
  · refine ok_seq (fun M hM => ok_region rfl ?_)
    repeat ((try first | (refine z3 hX ?_; clear hX X) | (refine z2 hX ?_; clear hX X)); (first | refine zL fun X hX => ?_ | refine zH fun X hX => ?_ | refine zE fun X hX => ?_ | refine zl ?_ | refine zh ?_ | refine ze ?_); try simp only [oweC, oweP, opF, opH, ev, evs, evp, evo, Env.get, Env.set, putE, gdst, S0, S1, thenN, inBlockN, argEnv, builtinR, retE, fin, callR, reduceIte, Nat.reduceEqDiff, Nat.reduceAdd, reduceCtorEq, forall_const, Q65])
    refine ⟨fun hh => ?_, fun hh => ?_⟩
    · have h1 : ¬ c < 1 := by simpa using hh
      repeat ((try first | (refine z3 hX ?_; clear hX X) | (refine z2 hX ?_; clear hX X)); (first | refine zL fun X hX => ?_ | refine zH fun X hX => ?_ | refine zE fun X hX => ?_ | refine zl ?_ | refine zh ?_ | refine ze ?_); try simp only [oweC, oweP, opF, opH, ev, evs, evp, evo, Env.get, Env.set, putE, gdst, S0, S1, thenN, inBlockN, argEnv, builtinR, retE, fin, callR, reduceIte, Nat.reduceEqDiff, Nat.reduceAdd, reduceCtorEq, forall_const, Q65])
      refine ⟨_, h.head.cell (j := 0) rfl, ?_⟩
      simp only [h1, decide_false]
      repeat ((try first | (refine z3 hX ?_; clear hX X) | (refine z2 hX ?_; clear hX X)); (first | refine zL fun X hX => ?_ | refine zH fun X hX => ?_ | refine zE fun X hX => ?_ | refine zl ?_ | refine zh ?_ | refine ze ?_); try simp only [oweC, oweP, opF, opH, ev, evs, evp, evo, Env.get, Env.set, putE, gdst, S0, S1, thenN, inBlockN, argEnv, builtinR, retE, fin, callR, reduceIte, Nat.reduceEqDiff, Nat.reduceAdd, reduceCtorEq, forall_const, Q65])
      refine hM _ _ _ ?_; clear hM M
      refine ok_if rfl (fun hc => ?_) (fun hc => ok_skip ?_)
      · refine ok_seq (fun M hM => ok_region rfl ?_); repeat ((try first | (refine z3 hX ?_; clear hX X) | (refine z2 hX ?_; clear hX X)); (first | refine zL fun X hX => ?_ | refine zH fun X hX => ?_ | refine zE fun X hX => ?_ | refine zl ?_ | refine zh ?_ | refine ze ?_); try simp only [oweC, oweP, opF, opH, ev, evs, evp, evo, Env.get, Env.set, putE, gdst, S0, S1, thenN, inBlockN, argEnv, builtinR, retE, fin, callR, reduceIte, Nat.reduceEqDiff, Nat.reduceAdd, reduceCtorEq, forall_const, Q65])
        refine hM _ _ _ ?_; clear hM M
        refine ok_ret ?_
        try simp only [wpL, wpH, wpE, oweC, oweP, opF, opH, ev, evs, evp, evo, Env.get, Env.set, putE, gdst, S0, S1, thenN, inBlockN, argEnv, builtinR, retE, fin, callR, reduceIte, Nat.reduceEqDiff, Nat.reduceAdd, reduceCtorEq, forall_const, Q65]
        have : nds[(c - 1).toNat]? = none := List.getElem?_eq_none (by omega)
        simp only [stateN, this]
        split <;> rfl
      · try simp only [wpL, wpH, wpE, oweC, oweP, opF, opH, ev, evs, evp, evo, Env.get, Env.set, putE, gdst, S0, S1, thenN, inBlockN, argEnv, builtinR, retE, fin, callR, reduceIte, Nat.reduceEqDiff, Nat.reduceAdd, reduceCtorEq, forall_const, Q65]
        exact ⟨by simp [sub, Env.get], by omega, by omega⟩
    · have h1 : c < 1 := by simpa using hh
      repeat ((try first | (refine z3 hX ?_; clear hX X) | (refine z2 hX ?_; clear hX X)); (first | refine zL fun X hX => ?_ | refine zH fun X hX => ?_ | refine zE fun X hX => ?_ | refine zl ?_ | refine zh ?_ | refine ze ?_); try simp only [oweC, oweP, opF, opH, ev, evs, evp, evo, Env.get, Env.set, putE, gdst, S0, S1, thenN, inBlockN, argEnv, builtinR, retE, fin, callR, reduceIte, Nat.reduceEqDiff, Nat.reduceAdd, reduceCtorEq, forall_const, Q65])
      refine hM _ _ _ ?_; clear hM M
      refine ok_cond rfl (fun _ => ?_) (fun h => by cases h)
      refine ok_seq (fun M hM => ok_region rfl ?_); repeat ((try first | (refine z3 hX ?_; clear hX X) | (refine z2 hX ?_; clear hX X)); (first | refine zL fun X hX => ?_ | refine zH fun X hX => ?_ | refine zE fun X hX => ?_ | refine zl ?_ | refine zh ?_ | refine ze ?_); try simp only [oweC, oweP, opF, opH, ev, evs, evp, evo, Env.get, Env.set, putE, gdst, S0, S1, thenN, inBlockN, argEnv, builtinR, retE, fin, callR, reduceIte, Nat.reduceEqDiff, Nat.reduceAdd, reduceCtorEq, forall_const, Q65])
      refine hM _ _ _ ?_; clear hM M
      refine ok_ret ?_
      try simp only [wpL, wpH, wpE, oweC, oweP, opF, opH, ev, evs, evp, evo, Env.get, Env.set, putE, gdst, S0, S1, thenN, inBlockN, argEnv, builtinR, retE, fin, callR, reduceIte, Nat.reduceEqDiff, Nat.reduceAdd, reduceCtorEq, forall_const, Q65]
      have : ¬ 1 ≤ c := by omega
      simp [stateN, this]
  rintro w' ⟨rfl, h1, h2⟩
  obtain ⟨i, rfl⟩ : ∃ i : Nat, c = (i : Int) + 1 := ⟨(c - 1).toNat, by omega⟩
  have hil : i < nds.length := by omega
  have hd : nds[i]? = some nds[i] := List.getElem?_eq_getElem hil
  generalize nds[i] = d at hd
  obtain ⟨g, cap, va, vl, vk, hv, -, h5, hcell, -⟩ := h.nm.at_ hl hd
  injection hv with hA hB hC
  subst hA
  have e1 : ((i : Int) + 1 - 1).toNat = i := by omega
  refine ok_seq (fun M hM => ok_region rfl ?_)
  repeat ((try first | (refine z3 hX ?_; clear hX X) | (refine z2 hX ?_; clear hX X)); (first | refine zL fun X hX => ?_ | refine zH fun X hX => ?_ | refine zE fun X hX => ?_ | refine zl ?_ | refine zh ?_ | refine ze ?_); try simp only [oweC, oweP, opF, opH, ev, evs, evp, evo, Env.get, Env.set, putE, gdst, S0, S1, thenN, inBlockN, argEnv, builtinR, retE, fin, callR, reduceIte, Nat.reduceEqDiff, Nat.reduceAdd, reduceCtorEq, forall_const, Q65])
  refine ⟨_, h.head.cell (j := 0) rfl, ?_⟩
  repeat ((try first | (refine z3 hX ?_; clear hX X) | (refine z2 hX ?_; clear hX X)); (first | refine zL fun X hX => ?_ | refine zH fun X hX => ?_ | refine zE fun X hX => ?_ | refine zl ?_ | refine zh ?_ | refine ze ?_); try simp only [oweC, oweP, opF, opH, ev, evs, evp, evo, Env.get, Env.set, putE, gdst, S0, S1, thenN, inBlockN, argEnv, builtinR, retE, fin, callR, reduceIte, Nat.reduceEqDiff, Nat.reduceAdd, reduceCtorEq, forall_const, Q65])
  refine ⟨by simp only [inI]; omega, ?_⟩
  repeat ((try first | (refine z3 hX ?_; clear hX X) | (refine z2 hX ?_; clear hX X)); (first | refine zL fun X hX => ?_ | refine zH fun X hX => ?_ | refine zE fun X hX => ?_ | refine zl ?_ | refine zh ?_ | refine ze ?_); try simp only [oweC, oweP, opF, opH, ev, evs, evp, evo, Env.get, Env.set, putE, gdst, S0, S1, thenN, inBlockN, argEnv, builtinR, retE, fin, callR, reduceIte, Nat.reduceEqDiff, Nat.reduceAdd, reduceCtorEq, forall_const, Q65])
  refine ⟨by omega, by omega, ?_⟩
  repeat ((try first | (refine z3 hX ?_; clear hX X) | (refine z2 hX ?_; clear hX X)); (first | refine zL fun X hX => ?_ | refine zH fun X hX => ?_ | refine zE fun X hX => ?_ | refine zl ?_ | refine zh ?_ | refine ze ?_); try simp only [oweC, oweP, opF, opH, ev, evs, evp, evo, Env.get, Env.set, putE, gdst, S0, S1, thenN, inBlockN, argEnv, builtinR, retE, fin, callR, reduceIte, Nat.reduceEqDiff, Nat.reduceAdd, reduceCtorEq, forall_const, Q65])
  refine ⟨.int .i64 d.state, by rw [e1]; simpa [add_at, Nat.zero_add] using hcell 11 _ (row_state h5 va vl vk), ?_⟩
  repeat ((try first | (refine z3 hX ?_; clear hX X) | (refine z2 hX ?_; clear hX X)); (first | refine zL fun X hX => ?_ | refine zH fun X hX => ?_ | refine zE fun X hX => ?_ | refine zl ?_ | refine zh ?_ | refine ze ?_); try simp only [oweC, oweP, opF, opH, ev, evs, evp, evo, Env.get, Env.set, putE, gdst, S0, S1, thenN, inBlockN, argEnv, builtinR, retE, fin, callR, reduceIte, Nat.reduceEqDiff, Nat.reduceAdd, reduceCtorEq, forall_const, Q65])
  refine hM _ _ _ ?_; clear hM M
  refine ok_ret ?_
  try simp only [wpL, wpH, wpE, oweC, oweP, opF, opH, ev, evs, evp, evo, Env.get, Env.set, putE, gdst, S0, S1, thenN, inBlockN, argEnv, builtinR, retE, fin, callR, reduceIte, Nat.reduceEqDiff, Nat.reduceAdd, reduceCtorEq, forall_const, Q65]
  simp only [stateN]
  rw [if_pos (by omega), e1, hd]
end Go.Proofs.Ytafjfcameabbmaa
/- The builder: enter.  -/
set_option linter.unusedVariables false
set_option linter.unusedSimpArgs false
namespace Go.Proofs.Vg
open Go Go.RowKit
def busyE (d : Nd) (s : Int) (busy : List Int) : List Int :=
  if 0 < d.parent then
    if d.state ≠ 1 ∧ s = 1 then busy.set (d.parent - 1).toNat (busy.getD (d.parent - 1).toNat 0 + 1)
    else if d.state = 1 ∧ s ≠ 1 then busy.set (d.parent - 1).toNat (busy.getD (d.parent - 1).toNat 0 - 1) else busy
  else busy
theorem BM.busyTurn {w : World} {bb : Nat} {S : Nat → Prop} {vn vb : Value} {vks : List Value} {rows : List (List Value)} {nds : List Nd} {busy : List Int} (h : BM w bb S vn vb vks rows nds busy) (hl : nds.length ≤ 1048576) {j : Nat} (hj : j < nds.length) :
    ∃ g cap cur x, vb = .slice (some ⟨g, 0, none⟩) nds.length cap ∧ busy[j]? = some x ∧ w.cell? ⟨g, j, none⟩ = some (.int .i64 x) ∧ Blk w g cur 3 ∧ j + 1 ≤ cur.length ∧
      ∀ w' y, Chg (· = g) w w' → Blk w' g (splice cur j [.int .i64 y]) 3 → BM w' bb S vn vb vks rows nds (busy.set j y) := by
  have hx : busy[j]? = some (busy[j]'(by rw [h.lb]; exact hj)) := List.getElem?_eq_getElem _
  generalize (busy[j]'(by rw [h.lb]; exact hj)) = x at hx
  obtain ⟨g, cap, cur, h1, h2, h3, h4, h5, h6⟩ := own_int h.bz hx (by rw [h.lb]; omega)
  have hvo : vb.ownBlock = some g := by rw [h1]; rfl
  obtain ⟨b1, b2, b3⟩ := h.bs g hvo
  exact ⟨g, cap, cur, x, h1, hx, h3, h4, h5, fun w' y hc hb' => ⟨h.head.chg hc (fun e => b2 e.symm), h.nm.chg hc (fun k hk e => b3 (e ▸ hk)) (fun k hk e => b1 (e ▸ hk)), h6 w' y hb', by simp [h.lb], h.hs, h.hn, h.bs⟩⟩
end Go.Proofs.Vg
namespace Go.Proofs.Ytafjfcameabbmaa
open Go Go.Proofs.Vg Go.RowKit

-- -- function 64
set_option maxHeartbeats 4000000 in
set_option maxRecDepth 8000 in
theorem enter_ok (w : World) (bb : Nat) (S : Nat → Prop) (vn vb : Value) (vks : List Value) (rows : List (List Value)) (nds : List Nd) (busy : List Int) (h : BM w bb S vn vb vks rows nds busy) (hl : nds.length ≤ 1048576) (i : Nat) (d : Nd) (hd : nds[i]? = some d) (hp : d.parent ≤ (nds.length : Int)) (hb : ∀ x ∈ busy, -1048576 ≤ x ∧ x ≤ 1048576) (s : Int) :
    Rets Try.prog 64 [.pointer (some ⟨bb, 0, none⟩), .int .i64 ((i : Int) + 1), .int .i64 s] w (fun _ w' => ∃ rows', BM w' bb S vn vb vks rows' (nds.set i { d with state := s }) (busyE d s busy) ∧ Chg (BFoot bb vn vb vks) w w') := by
  have hil := (List.getElem?_eq_some_iff.1 hd).1
  obtain ⟨g, cap, va, vl, vk, hv, -, h5, hcell, -⟩ := h.nm.at_ hl hd
  have hvo : vn.ownBlock = some g := by rw [hv]; rfl
  have e1 : ((i : Int) + 1 - 1).toNat = i := by omega
  have hst : w.cell? ⟨g, i * 12 + 11, none⟩ = some (.int .i64 d.state) := hcell 11 _ (row_state h5 va vl vk)
  have hpa : w.cell? ⟨g, i * 12 + 1, none⟩ = some (.int .i64 d.parent) := hcell 1 _ (row_parent va vl vk)
  refine rets_of_ok Try.func64 rfl rfl ?_
  refine ok_seq (fun M hM => ok_region rfl ?_)
  repeat ((try first | (refine z3 hX ?_; clear hX X) | (refine z2 hX ?_; clear hX X)); (first | refine zL fun X hX => ?_ | refine zH fun X hX => ?_ | refine zE fun X hX => ?_ | refine zl ?_ | refine zh ?_ | refine ze ?_); try simp only [oweC, oweP, opF, opH, ev, evs, evp, evo, Env.get, Env.set, putE, gdst, S0, S1, thenN, inBlockN, argEnv, builtinR, retE, fin, callR, reduceIte, Nat.reduceEqDiff, Nat.reduceAdd, reduceCtorEq, forall_const, Q64])
  refine ⟨_, h.head.cell (j := 0) rfl, ?_⟩
  rw [hv]
  repeat ((try first | (refine z3 hX ?_; clear hX X) | (refine z2 hX ?_; clear hX X)); (first | refine zL fun X hX => ?_ | refine zH fun X hX => ?_ | refine zE fun X hX => ?_ | refine zl ?_ | refine zh ?_ | refine ze ?_); try simp only [oweC, oweP, opF, opH, ev, evs, evp, evo, Env.get, Env.set, putE, gdst, S0, S1, thenN, inBlockN, argEnv, builtinR, retE, fin, callR, reduceIte, Nat.reduceEqDiff, Nat.reduceAdd, reduceCtorEq, forall_const, Q64])
  refine ⟨by simp only [inI]; omega, ?_⟩
  repeat ((try first | (refine z3 hX ?_; clear hX X) | (refine z2 hX ?_; clear hX X)); (first | refine zL fun X hX => ?_ | refine zH fun X hX => ?_ | refine zE fun X hX => ?_ | refine zl ?_ | refine zh ?_ | refine ze ?_); try simp only [oweC, oweP, opF, opH, ev, evs, evp, evo, Env.get, Env.set, putE, gdst, S0, S1, thenN, inBlockN, argEnv, builtinR, retE, fin, callR, reduceIte, Nat.reduceEqDiff, Nat.reduceAdd, reduceCtorEq, forall_const, Q64])
  refine ⟨by omega, by omega, ?_⟩
  rw [e1]
  repeat ((try first | (refine z3 hX ?_; clear hX X) | (refine z2 hX ?_; clear hX X)); (first | refine zL fun X hX => ?_ | refine zH fun X hX => ?_ | refine zE fun X hX => ?_ | refine zl ?_ | refine zh ?_ | refine ze ?_); try simp only [oweC, oweP, opF, opH, ev, evs, evp, evo, Env.get, Env.set, putE, gdst, S0, S1, thenN, inBlockN, argEnv, builtinR, retE, fin, callR, reduceIte, Nat.reduceEqDiff, Nat.reduceAdd, reduceCtorEq, forall_const, Q64])
  simp only [Nat.zero_add]
  refine hM _ _ _ ?_; clear hM M
  refine ok_join [(2, .int .i64 s), (6, .pointer (some ⟨g, i * 12, none⟩))] (fun w' => BM w' bb S vn vb vks rows nds (busyE d s busy) ∧ Chg (BFoot bb vn vb vks) w w') ?_ ?_
  · refine ok_seq (fun M hM => ok_region rfl ?_)
    repeat ((try first | (refine z3 hX ?_; clear hX X) | (refine z2 hX ?_; clear hX X)); (first | refine zL fun X hX => ?_ | refine zH fun X hX => ?_ | refine zE fun X hX => ?_ | refine zl ?_ | refine zh ?_ | refine ze ?_); try simp only [oweC, oweP, opF, opH, ev, evs, evp, evo, Env.get, Env.set, putE, gdst, S0, S1, thenN, inBlockN, argEnv, builtinR, retE, fin, callR, reduceIte, Nat.reduceEqDiff, Nat.reduceAdd, reduceCtorEq, forall_const, Q64])
    refine ⟨_, hpa, ?_⟩
    repeat ((try first | (refine z3 hX ?_; clear hX X) | (refine z2 hX ?_; clear hX X)); (first | refine zL fun X hX => ?_ | refine zH fun X hX => ?_ | refine zE fun X hX => ?_ | refine zl ?_ | refine zh ?_ | refine ze ?_); try simp only [oweC, oweP, opF, opH, ev, evs, evp, evo, Env.get, Env.set, putE, gdst, S0, S1, thenN, inBlockN, argEnv, builtinR, retE, fin, callR, reduceIte, Nat.reduceEqDiff, Nat.reduceAdd, reduceCtorEq, forall_const, Q64])
    refine hM _ _ _ ?_; clear hM M
    refine ok_if rfl (fun hpar => ?_) (fun hpar => ok_skip ?_)
    rotate_left
    · try simp only [wpL, wpH, wpE, oweC, oweP, opF, opH, ev, evs, evp, evo, Env.get, Env.set, putE, gdst, S0, S1, thenN, inBlockN, argEnv, builtinR, retE, fin, callR, reduceIte, Nat.reduceEqDiff, Nat.reduceAdd, reduceCtorEq, forall_const, Q64]
      have : busyE d s busy = busy := by unfold busyE; rw [if_neg (by omega)]
      rw [this]
      exact ⟨by simp [sub, Env.get], h, Chg.refl _ _⟩
    obtain ⟨gb, capb, cur, x, hvb, hx, hxc, hbb, hcl, hturn⟩ := h.busyTurn hl (j := (d.parent - 1).toNat) (by omega)
    have hxb := hb x (List.mem_of_getElem? hx)
    have hgd : busy.getD (d.parent - 1).toNat 0 = x := by rw [List.getD_eq_getElem?_getD, hx]; rfl
    have hgbF : BFoot bb vn vb vks gb := .inr (.inl (by rw [hvb]; rfl))
    have hvb0 : w.cell? ⟨bb, 1, none⟩ = some (.slice (some ⟨gb, 0, none⟩) nds.length capb) := by rw [← hvb]; exact h.head.cell (j := 1) rfl
    have hgne : g ≠ gb := fun e => (h.bs gb (by rw [hvb]; rfl)).2.2 (.inl (e ▸ hvo))
    refine ok_join [(0, .pointer (some ⟨bb, 0, none⟩)), (2, .int .i64 s), (6, .pointer (some ⟨g, i * 12, none⟩))] (fun w' => (if d.state ≠ 1 ∧ s = 1 then BM w' bb S vn vb vks rows nds (busy.set (d.parent - 1).toNat (x + 1)) else w' = w) ∧ Chg (BFoot bb vn vb vks) w w' ∧ w'.cell? ⟨g, i * 12 + 11, none⟩ = some (.int .i64 d.state)) ?_ ?_
    · refine ok_join [(0, .pointer (some ⟨bb, 0, none⟩)), (2, .int .i64 s), (6, .pointer (some ⟨g, i * 12, none⟩)), (27, .bool (decide (d.state ≠ 1 ∧ s = 1)))] (fun w' => w' = w) ?_ ?_
      · refine ok_region rfl ?_
        repeat ((try first | (refine z3 hX ?_; clear hX X) | (refine z2 hX ?_; clear hX X)); (first | refine zL fun X hX => ?_ | refine zH fun X hX => ?_ | refine zE fun X hX => ?_ | refine zl ?_ | refine zh ?_ | refine ze ?_); try simp only [oweC, oweP, opF, opH, ev, evs, evp, evo, Env.get, Env.set, putE, gdst, S0, S1, thenN, inBlockN, argEnv, builtinR, retE, fin, callR, reduceIte, Nat.reduceEqDiff, Nat.reduceAdd, reduceCtorEq, forall_const, Q64])
        refine ⟨_, hst, ?_⟩
        repeat ((try first | (refine z3 hX ?_; clear hX X) | (refine z2 hX ?_; clear hX X)); (first | refine zL fun X hX => ?_ | refine zH fun X hX => ?_ | refine zE fun X hX => ?_ | refine zl ?_ | refine zh ?_ | refine ze ?_); try simp only [oweC, oweP, opF, opH, ev, evs, evp, evo, Env.get, Env.set, putE, gdst, S0, S1, thenN, inBlockN, argEnv, builtinR, retE, fin, callR, reduceIte, Nat.reduceEqDiff, Nat.reduceAdd, reduceCtorEq, forall_const, Q64])
        by_cases h1 : d.state = 1
        · simp only [h1, decide_true, Bool.not_true]
          refine ⟨fun h => (by cases h), fun _ => ?_⟩
          repeat ((try first | (refine z3 hX ?_; clear hX X) | (refine z2 hX ?_; clear hX X)); (first | refine zL fun X hX => ?_ | refine zH fun X hX => ?_ | refine zE fun X hX => ?_ | refine zl ?_ | refine zh ?_ | refine ze ?_); try simp only [oweC, oweP, opF, opH, ev, evs, evp, evo, Env.get, Env.set, putE, gdst, S0, S1, thenN, inBlockN, argEnv, builtinR, retE, fin, callR, reduceIte, Nat.reduceEqDiff, Nat.reduceAdd, reduceCtorEq, forall_const, Q64])
          simp [sub, Env.get, h1]
        · simp only [h1, decide_false, Bool.not_false]
          refine ⟨fun _ => ?_, fun h => by cases h⟩
          repeat ((try first | (refine z3 hX ?_; clear hX X) | (refine z2 hX ?_; clear hX X)); (first | refine zL fun X hX => ?_ | refine zH fun X hX => ?_ | refine zE fun X hX => ?_ | refine zl ?_ | refine zh ?_ | refine ze ?_); try simp only [oweC, oweP, opF, opH, ev, evs, evp, evo, Env.get, Env.set, putE, gdst, S0, S1, thenN, inBlockN, argEnv, builtinR, retE, fin, callR, reduceIte, Nat.reduceEqDiff, Nat.reduceAdd, reduceCtorEq, forall_const, Q64])
          by_cases h2 : s = 1 <;> simp [sub, Env.get, h1, h2]
      rintro w' rfl
      refine ok_if rfl (fun hq => ?_) (fun hq => ok_skip ?_)
      rotate_left
      · try simp only [wpL, wpH, wpE, oweC, oweP, opF, opH, ev, evs, evp, evo, Env.get, Env.set, putE, gdst, S0, S1, thenN, inBlockN, argEnv, builtinR, retE, fin, callR, reduceIte, Nat.reduceEqDiff, Nat.reduceAdd, reduceCtorEq, forall_const, Q64]
        rw [if_neg hq]
        exact ⟨by simp [sub, Env.get], trivial, Chg.refl _ _, hst⟩
      refine (ok_draw 13 [(false, true)] (Ext _) Fx.mixed (by decide) rfl (by decide +kernel) (by decide +kernel) (Ext.drew _) ?_)
      repeat ((try first | (refine z3 hX ?_; clear hX X) | (refine z2 hX ?_; clear hX X)); (first | refine zL fun X hX => ?_ | refine zH fun X hX => ?_ | refine zE fun X hX => ?_ | refine zl ?_ | refine zh ?_ | refine ze ?_); try simp only [oweC, oweP, opF, opH, ev, evs, evp, evo, Env.get, Env.set, putE, gdst, S0, S1, thenN, inBlockN, argEnv, builtinR, retE, fin, callR, reduceIte, Nat.reduceEqDiff, Nat.reduceAdd, reduceCtorEq, forall_const, Q64])
      refine ⟨_, fun w2 he => he.cell hvb0, ?_⟩
      repeat ((try first | (refine z3 hX ?_; clear hX X) | (refine z2 hX ?_; clear hX X)); (first | refine zL fun X hX => ?_ | refine zH fun X hX => ?_ | refine zE fun X hX => ?_ | refine zl ?_ | refine zh ?_ | refine ze ?_); try simp only [oweC, oweP, opF, opH, ev, evs, evp, evo, Env.get, Env.set, putE, gdst, S0, S1, thenN, inBlockN, argEnv, builtinR, retE, fin, callR, reduceIte, Nat.reduceEqDiff, Nat.reduceAdd, reduceCtorEq, forall_const, Q64])
      refine ⟨_, fun w2 he => he.cell hpa, ?_⟩
      repeat ((try first | (refine z3 hX ?_; clear hX X) | (refine z2 hX ?_; clear hX X)); (first | refine zL fun X hX => ?_ | refine zH fun X hX => ?_ | refine zE fun X hX => ?_ | refine zl ?_ | refine zh ?_ | refine ze ?_); try simp only [oweC, oweP, opF, opH, ev, evs, evp, evo, Env.get, Env.set, putE, gdst, S0, S1, thenN, inBlockN, argEnv, builtinR, retE, fin, callR, reduceIte, Nat.reduceEqDiff, Nat.reduceAdd, reduceCtorEq, forall_const, Q64])
      refine ⟨by simp only [inI]; omega, ?_⟩
      repeat ((try first | (refine z3 hX ?_; clear hX X) | (refine z2 hX ?_; clear hX X)); (first | refine zL fun X hX => ?_ | refine zH fun X hX => ?_ | refine zE fun X hX => ?_ | refine zl ?_ | refine zh ?_ | refine ze ?_); try simp only [oweC, oweP, opF, opH, ev, evs, evp, evo, Env.get, Env.set, putE, gdst, S0, S1, thenN, inBlockN, argEnv, builtinR, retE, fin, callR, reduceIte, Nat.reduceEqDiff, Nat.reduceAdd, reduceCtorEq, forall_const, Q64])
      refine ⟨by omega, by omega, ?_⟩
      repeat ((try first | (refine z3 hX ?_; clear hX X) | (refine z2 hX ?_; clear hX X)); (first | refine zL fun X hX => ?_ | refine zH fun X hX => ?_ | refine zE fun X hX => ?_ | refine zl ?_ | refine zh ?_ | refine ze ?_); try simp only [oweC, oweP, opF, opH, ev, evs, evp, evo, Env.get, Env.set, putE, gdst, S0, S1, thenN, inBlockN, argEnv, builtinR, retE, fin, callR, reduceIte, Nat.reduceEqDiff, Nat.reduceAdd, reduceCtorEq, forall_const, Q64])
      refine ⟨_, fun w2 he => he.cell (by simpa [add_at] using hxc), ?_⟩
      repeat ((try first | (refine z3 hX ?_; clear hX X) | (refine z2 hX ?_; clear hX X)); (first | refine zL fun X hX => ?_ | refine zH fun X hX => ?_ | refine zE fun X hX => ?_ | refine zl ?_ | refine zh ?_ | refine ze ?_); try simp only [oweC, oweP, opF, opH, ev, evs, evp, evo, Env.get, Env.set, putE, gdst, S0, S1, thenN, inBlockN, argEnv, builtinR, retE, fin, callR, reduceIte, Nat.reduceEqDiff, Nat.reduceAdd, reduceCtorEq, forall_const, Q64])
      refine ⟨by simp only [inI]; omega, ?_⟩
      repeat ((try first | (refine z3 hX ?_; clear hX X) | (refine z2 hX ?_; clear hX X)); (first | refine zL fun X hX => ?_ | refine zH fun X hX => ?_ | refine zE fun X hX => ?_ | refine zl ?_ | refine zh ?_ | refine ze ?_); try simp only [oweC, oweP, opF, opH, ev, evs, evp, evo, Env.get, Env.set, putE, gdst, S0, S1, thenN, inBlockN, argEnv, builtinR, retE, fin, callR, reduceIte, Nat.reduceEqDiff, Nat.reduceAdd, reduceCtorEq, forall_const, Q64])
      refine ⟨by omega, by omega, ?_⟩
      repeat ((try first | (refine z3 hX ?_; clear hX X) | (refine z2 hX ?_; clear hX X)); (first | refine zL fun X hX => ?_ | refine zH fun X hX => ?_ | refine zE fun X hX => ?_ | refine zl ?_ | refine zh ?_ | refine ze ?_); try simp only [oweC, oweP, opF, opH, ev, evs, evp, evo, Env.get, Env.set, putE, gdst, S0, S1, thenN, inBlockN, argEnv, builtinR, retE, fin, callR, reduceIte, Nat.reduceEqDiff, Nat.reduceAdd, reduceCtorEq, forall_const, Q64])
      intro w2 he2
      repeat ((try first | (refine z3 hX ?_; clear hX X) | (refine z2 hX ?_; clear hX X)); (first | refine zL fun X hX => ?_ | refine zH fun X hX => ?_ | refine zE fun X hX => ?_ | refine zl ?_ | refine zh ?_ | refine ze ?_); try simp only [oweC, oweP, opF, opH, ev, evs, evp, evo, Env.get, Env.set, putE, gdst, S0, S1, thenN, inBlockN, argEnv, builtinR, retE, fin, callR, reduceIte, Nat.reduceEqDiff, Nat.reduceAdd, reduceCtorEq, forall_const, Q64])
      simp only [Nat.zero_add]
      refine Runs.store (hbb.ext he2) Fx.zi3 rfl (by intro u hu; simp [Value.cells] at hu; subst hu; rfl) (by omega) (fun w3 hc3 hs3 hb3 => ?_)
      repeat ((try first | (refine z3 hX ?_; clear hX X) | (refine z2 hX ?_; clear hX X)); (first | refine zL fun X hX => ?_ | refine zH fun X hX => ?_ | refine zE fun X hX => ?_ | refine zl ?_ | refine zh ?_ | refine ze ?_); try simp only [oweC, oweP, opF, opH, ev, evs, evp, evo, Env.get, Env.set, putE, gdst, S0, S1, thenN, inBlockN, argEnv, builtinR, retE, fin, callR, reduceIte, Nat.reduceEqDiff, Nat.reduceAdd, reduceCtorEq, forall_const, Q64])
      rw [if_pos hq]
      have hc13 : Chg (· = gb) w' w3 := (he2.chg _).trans hc3
      exact ⟨by simp [sub, Env.get], hturn w3 (x + 1) hc13 hb3, hc13.mono (fun k _ hk => by rw [hk]; exact hgbF), hc13.cell hst (fun e => hgne e)⟩
    rintro w4 ⟨hB4, hc4, hst4⟩
    -- what the builder is now
    refine ok_join [(0, .pointer (some ⟨bb, 0, none⟩)), (2, .int .i64 s), (6, .pointer (some ⟨g, i * 12, none⟩)), (49, .bool (decide (d.state = 1 ∧ s ≠ 1)))] (fun w' => w' = w4) ?_ ?_
    · refine ok_region rfl ?_
      repeat ((try first | (refine z3 hX ?_; clear hX X) | (refine z2 hX ?_; clear hX X)); (first | refine zL fun X hX => ?_ | refine zH fun X hX => ?_ | refine zE fun X hX => ?_ | refine zl ?_ | refine zh ?_ | refine ze ?_); try simp only [oweC, oweP, opF, opH, ev, evs, evp, evo, Env.get, Env.set, putE, gdst, S0, S1, thenN, inBlockN, argEnv, builtinR, retE, fin, callR, reduceIte, Nat.reduceEqDiff, Nat.reduceAdd, reduceCtorEq, forall_const, Q64])
      refine ⟨_, hst4, ?_⟩
      repeat ((try first | (refine z3 hX ?_; clear hX X) | (refine z2 hX ?_; clear hX X)); (first | refine zL fun X hX => ?_ | refine zH fun X hX => ?_ | refine zE fun X hX => ?_ | refine zl ?_ | refine zh ?_ | refine ze ?_); try simp only [oweC, oweP, opF, opH, ev, evs, evp, evo, Env.get, Env.set, putE, gdst, S0, S1, thenN, inBlockN, argEnv, builtinR, retE, fin, callR, reduceIte, Nat.reduceEqDiff, Nat.reduceAdd, reduceCtorEq, forall_const, Q64])
      refine ⟨fun hh => ?_, fun hh => ?_⟩
      · have h1 : d.state = 1 := by simpa using hh
        repeat ((try first | (refine z3 hX ?_; clear hX X) | (refine z2 hX ?_; clear hX X)); (first | refine zL fun X hX => ?_ | refine zH fun X hX => ?_ | refine zE fun X hX => ?_ | refine zl ?_ | refine zh ?_ | refine ze ?_); try simp only [oweC, oweP, opF, opH, ev, evs, evp, evo, Env.get, Env.set, putE, gdst, S0, S1, thenN, inBlockN, argEnv, builtinR, retE, fin, callR, reduceIte, Nat.reduceEqDiff, Nat.reduceAdd, reduceCtorEq, forall_const, Q64])
        by_cases h2 : s = 1 <;> simp [sub, Env.get, h1, h2]
      · have h1 : ¬ d.state = 1 := by simpa using hh
        repeat ((try first | (refine z3 hX ?_; clear hX X) | (refine z2 hX ?_; clear hX X)); (first | refine zL fun X hX => ?_ | refine zH fun X hX => ?_ | refine zE fun X hX => ?_ | refine zl ?_ | refine zh ?_ | refine ze ?_); try simp only [oweC, oweP, opF, opH, ev, evs, evp, evo, Env.get, Env.set, putE, gdst, S0, S1, thenN, inBlockN, argEnv, builtinR, retE, fin, callR, reduceIte, Nat.reduceEqDiff, Nat.reduceAdd, reduceCtorEq, forall_const, Q64])
        simp [sub, Env.get, h1]
    rintro w' rfl
    refine ok_if rfl (fun hq => ?_) (fun hq => ok_skip ?_)
    rotate_left
    · try simp only [wpL, wpH, wpE, oweC, oweP, opF, opH, ev, evs, evp, evo, Env.get, Env.set, putE, gdst, S0, S1, thenN, inBlockN, argEnv, builtinR, retE, fin, callR, reduceIte, Nat.reduceEqDiff, Nat.reduceAdd, reduceCtorEq, forall_const, Q64]
      refine ⟨by simp [sub, Env.get], ?_, hc4⟩
      unfold busyE
      rw [if_pos (by omega), hgd]
      split at hB4
      · rename_i h1
        rw [if_pos h1]; exact hB4
      · rename_i h1
        rw [if_neg h1, if_neg hq, hB4]; exact h
    have hn1 : ¬ (d.state ≠ 1 ∧ s = 1) := fun h1 => h1.1 hq.1
    rw [if_neg hn1] at hB4
    subst hB4
    refine (ok_draw 13 [(false, true)] (Ext _) Fx.mixed (by decide) rfl (by decide +kernel) (by decide +kernel) (Ext.drew _) ?_)
    repeat ((try first | (refine z3 hX ?_; clear hX X) | (refine z2 hX ?_; clear hX X)); (first | refine zL fun X hX => ?_ | refine zH fun X hX => ?_ | refine zE fun X hX => ?_ | refine zl ?_ | refine zh ?_ | refine ze ?_); try simp only [oweC, oweP, opF, opH, ev, evs, evp, evo, Env.get, Env.set, putE, gdst, S0, S1, thenN, inBlockN, argEnv, builtinR, retE, fin, callR, reduceIte, Nat.reduceEqDiff, Nat.reduceAdd, reduceCtorEq, forall_const, Q64])
    refine ⟨_, fun w2 he => he.cell hvb0, ?_⟩
    repeat ((try first | (refine z3 hX ?_; clear hX X) | (refine z2 hX ?_; clear hX X)); (first | refine zL fun X hX => ?_ | refine zH fun X hX => ?_ | refine zE fun X hX => ?_ | refine zl ?_ | refine zh ?_ | refine ze ?_); try simp only [oweC, oweP, opF, opH, ev, evs, evp, evo, Env.get, Env.set, putE, gdst, S0, S1, thenN, inBlockN, argEnv, builtinR, retE, fin, callR, reduceIte, Nat.reduceEqDiff, Nat.reduceAdd, reduceCtorEq, forall_const, Q64])
    refine ⟨_, fun w2 he => he.cell hpa, ?_⟩
    repeat ((try first | (refine z3 hX ?_; clear hX X) | (refine z2 hX ?_; clear hX X)); (first | refine zL fun X hX => ?_ | refine zH fun X hX => ?_ | refine zE fun X hX => ?_ | refine zl ?_ | refine zh ?_ | refine ze ?_); try simp only [oweC, oweP, opF, opH, ev, evs, evp, evo, Env.get, Env.set, putE, gdst, S0, S1, thenN, inBlockN, argEnv, builtinR, retE, fin, callR, reduceIte, Nat.reduceEqDiff, Nat.reduceAdd, reduceCtorEq, forall_const, Q64])
    refine ⟨by simp only [inI]; omega, ?_⟩
    repeat ((try first | (refine z3 hX ?_; clear hX X) | (refine z2 hX ?_; clear hX X)); (first | refine zL fun X hX => ?_ | refine zH fun X hX => ?_ | refine zE fun X hX => ?_ | refine zl ?_ | refine zh ?_ | refine ze ?_); try simp only [oweC, oweP, opF, opH, ev, evs, evp, evo, Env.get, Env.set, putE, gdst, S0, S1, thenN, inBlockN, argEnv, builtinR, retE, fin, callR, reduceIte, Nat.reduceEqDiff, Nat.reduceAdd, reduceCtorEq, forall_const, Q64])
    refine ⟨by omega, by omega, ?_⟩
    repeat ((try first | (refine z3 hX ?_; clear hX X) | (refine z2 hX ?_; clear hX X)); (first | refine zL fun X hX => ?_ | refine zH fun X hX => ?_ | refine zE fun X hX => ?_ | refine zl ?_ | refine zh ?_ | refine ze ?_); try simp only [oweC, oweP, opF, opH, ev, evs, evp, evo, Env.get, Env.set, putE, gdst, S0, S1, thenN, inBlockN, argEnv, builtinR, retE, fin, callR, reduceIte, Nat.reduceEqDiff, Nat.reduceAdd, reduceCtorEq, forall_const, Q64])
    refine ⟨_, fun w2 he => he.cell (by simpa [add_at] using hxc), ?_⟩
    repeat ((try first | (refine z3 hX ?_; clear hX X) | (refine z2 hX ?_; clear hX X)); (first | refine zL fun X hX => ?_ | refine zH fun X hX => ?_ | refine zE fun X hX => ?_ | refine zl ?_ | refine zh ?_ | refine ze ?_); try simp only [oweC, oweP, opF, opH, ev, evs, evp, evo, Env.get, Env.set, putE, gdst, S0, S1, thenN, inBlockN, argEnv, builtinR, retE, fin, callR, reduceIte, Nat.reduceEqDiff, Nat.reduceAdd, reduceCtorEq, forall_const, Q64])
    refine ⟨by simp only [inI]; omega, ?_⟩
    repeat ((try first | (refine z3 hX ?_; clear hX X) | (refine z2 hX ?_; clear hX X)); (first | refine zL fun X hX => ?_ | refine zH fun X hX => ?_ | refine zE fun X hX => ?_ | refine zl ?_ | refine zh ?_ | refine ze ?_); try simp only [oweC, oweP, opF, opH, ev, evs, evp, evo, Env.get, Env.set, putE, gdst, S0, S1, thenN, inBlockN, argEnv, builtinR, retE, fin, callR, reduceIte, Nat.reduceEqDiff, Nat.reduceAdd, reduceCtorEq, forall_const, Q64])
    refine ⟨by omega, by omega, ?_⟩
    repeat ((try first | (refine z3 hX ?_; clear hX X) | (refine z2 hX ?_; clear hX X)); (first | refine zL fun X hX => ?_ | refine zH fun X hX => ?_ | refine zE fun X hX => ?_ | refine zl ?_ | refine zh ?_ | refine ze ?_); try simp only [oweC, oweP, opF, opH, ev, evs, evp, evo, Env.get, Env.set, putE, gdst, S0, S1, thenN, inBlockN, argEnv, builtinR, retE, fin, callR, reduceIte, Nat.reduceEqDiff, Nat.reduceAdd, reduceCtorEq, forall_const, Q64])
    intro w2 he2
    repeat ((try first | (refine z3 hX ?_; clear hX X) | (refine z2 hX ?_; clear hX X)); (first | refine zL fun X hX => ?_ | refine zH fun X hX => ?_ | refine zE fun X hX => ?_ | refine zl ?_ | refine zh ?_ | refine ze ?_); try simp only [oweC, oweP, opF, opH, ev, evs, evp, evo, Env.get, Env.set, putE, gdst, S0, S1, thenN, inBlockN, argEnv, builtinR, retE, fin, callR, reduceIte, Nat.reduceEqDiff, Nat.reduceAdd, reduceCtorEq, forall_const, Q64])
    simp only [Nat.zero_add]
    refine Runs.store (hbb.ext he2) Fx.zi3 rfl (by intro u hu; simp [Value.cells] at hu; subst hu; rfl) (by omega) (fun w3 hc3 hs3 hb3 => ?_)
    repeat ((try first | (refine z3 hX ?_; clear hX X) | (refine z2 hX ?_; clear hX X)); (first | refine zL fun X hX => ?_ | refine zH fun X hX => ?_ | refine zE fun X hX => ?_ | refine zl ?_ | refine zh ?_ | refine ze ?_); try simp only [oweC, oweP, opF, opH, ev, evs, evp, evo, Env.get, Env.set, putE, gdst, S0, S1, thenN, inBlockN, argEnv, builtinR, retE, fin, callR, reduceIte, Nat.reduceEqDiff, Nat.reduceAdd, reduceCtorEq, forall_const, Q64])
    have hc13 : Chg (· = gb) w' w3 := (he2.chg _).trans hc3
    refine ⟨by simp [sub, Env.get], ?_, hc13.mono (fun k _ hk => by rw [hk]; exact hgbF)⟩
    unfold busyE
    rw [if_pos (by omega), if_neg hn1, if_pos hq, hgd]
    exact hturn w3 (x - 1) hc13 hb3
  rintro w1 ⟨hB1, hc1⟩
  obtain ⟨g2, cap2, cur2, hv2, hb2, hle2, hturn2⟩ := hB1.nm.turn hd (d' := { d with state := s }) (off := 11) (u := .int .i64 s) (by decide) (fun va vl vk => row_set_state h5 s va vl vk) rfl rfl rfl h5
  rw [hv] at hv2
  cases hv2
  refine ok_region rfl ?_
  repeat ((try first | (refine z3 hX ?_; clear hX X) | (refine z2 hX ?_; clear hX X)); (first | refine zL fun X hX => ?_ | refine zH fun X hX => ?_ | refine zE fun X hX => ?_ | refine zl ?_ | refine zh ?_ | refine ze ?_); try simp only [oweC, oweP, opF, opH, ev, evs, evp, evo, Env.get, Env.set, putE, gdst, S0, S1, thenN, inBlockN, argEnv, builtinR, retE, fin, callR, reduceIte, Nat.reduceEqDiff, Nat.reduceAdd, reduceCtorEq, forall_const, Q64])
  refine Runs.store hb2 Fx.zi3 rfl (by intro u hu; simp [Value.cells] at hu; subst hu; rfl) (by omega) (fun w3 hc3 hs3 hb3 => ?_)
  repeat ((try first | (refine z3 hX ?_; clear hX X) | (refine z2 hX ?_; clear hX X)); (first | refine zL fun X hX => ?_ | refine zH fun X hX => ?_ | refine zE fun X hX => ?_ | refine zl ?_ | refine zh ?_ | refine ze ?_); try simp only [oweC, oweP, opF, opH, ev, evs, evp, evo, Env.get, Env.set, putE, gdst, S0, S1, thenN, inBlockN, argEnv, builtinR, retE, fin, callR, reduceIte, Nat.reduceEqDiff, Nat.reduceAdd, reduceCtorEq, forall_const, Q64])
  obtain ⟨rows', hNM⟩ := hturn2 w3 hc3 hb3
  have hgF : BFoot bb vn vb vks g := .inr (.inr (.inl hvo))
  have hgbb : ¬ bb = g := fun e => hB1.hn (.inl (e ▸ hvo))
  refine ⟨rows', ⟨hB1.head.chg hc3 hgbb, hNM, ?_, by simp [hB1.lb], hB1.hs, hB1.hn, hB1.bs⟩, hc1.trans (hc3.mono (fun k _ hk => by rw [hk]; exact hgF))⟩
  rw [List.length_set]
  exact owns_chg' hB1.bz hc3 (fun k hk e => (hB1.bs k hk).2.2 (.inl (e ▸ hvo)))
end Go.Proofs.Ytafjfcameabbmaa
/- The builder: a new call; a kid more.  -/
set_option linter.unusedVariables false
set_option linter.unusedSimpArgs false
namespace Go.Proofs.Vg
open Go Go.RowKit
theorem NM.push {w w' : World} {et : TypeId} {S : Nat → Prop} {vn vn' : Value} {vks : List Value} {rows : List (List Value)} {nds : List Nd} {d : Nd} {va vl : Value} (h : NM w et S vn vks rows nds) (hS : ∀ k, S k → k < w.heap.size) (hc : Chg (fun k => vn.ownBlock = some k) w w')
    (hown : w'.ownsRow 0 et 12 vn' (nds.length + 1) (rows.flatten ++ d.row va vl (.slice none 0 0))) (hblk : ∀ k, vn'.ownBlock = some k → vn.ownBlock = some k ∨ w.heap.size ≤ k)
    (h5 : d.ports.length = 5) (hk : d.kids = []) (ha : VSlS w' S va d.args) (hl : VSlS w' S vl d.last) : NM w' et S vn' (vks ++ [.slice none 0 0]) (rows ++ [d.row va vl (.slice none 0 0)]) (nds ++ [d]) := by
  have hnil : ∀ k, (Value.slice none 0 0).ownBlock = some k → False := fun k hk => by simp [Value.ownBlock] at hk
  have get : ∀ (i : Nat) (v : Value) (k : Nat), (vks ++ [Value.slice none 0 0])[i]? = some v → v.ownBlock = some k → vks[i]? = some v := fun i v k hi hk => by
    rcases Nat.lt_or_ge i vks.length with h1 | h1
    · rwa [List.getElem?_append_left h1] at hi
    · rw [List.getElem?_append_right h1] at hi
      have h2 := (List.getElem?_eq_some_iff.1 hi).1
      simp at h2
      have h3 : i - vks.length = 0 := by omega
      rw [h3] at hi
      simp at hi; subst hi
      exact (hnil k hk).elim
  have hvk : ∀ (i : Nat) (v : Value) (k : Nat), vks[i]? = some v → v.ownBlock = some k → k < w.heap.size := fun i v k hi hk => by
    have hil := (List.getElem?_eq_some_iff.1 hi).1
    obtain ⟨_, _, _, vk, h1, _, _, _, h2⟩ := h.row i (nds[i]'(by rw [← h.lk]; exact hil)) (List.getElem?_eq_getElem _)
    rw [hi] at h1; cases h1
    exact (h2.lt k hk).2
  refine ⟨by simpa using hown, by simp [h.lr], by simp [h.lk], fun i e he => ?_, fun i j u v k hi hj hu hv => h.apart i j u v k (get i u k hi hu) (get j v k hj hv) hu hv, fun k hk => ⟨fun hs => ?_, fun i v hi hv => ?_⟩, fun i v k hi hv => h.sk i v k (get i v k hi hv) hv⟩
  · rcases Nat.lt_or_ge i nds.length with h1 | h1
    · rw [List.getElem?_append_left h1] at he
      obtain ⟨g5, wa, wl, wk, g1, g2, g3, g4, g6⟩ := h.row i e he
      refine ⟨g5, wa, wl, wk, by rw [List.getElem?_append_left (by rw [h.lk]; exact h1)]; exact g1, by rw [List.getElem?_append_left (by rw [h.lr]; exact h1)]; exact g2, g3.chg hc (fun k hk => ⟨hk, fun e => (h.top k e).1 hk⟩), g4.chg hc (fun k hk => ⟨hk, fun e => (h.top k e).1 hk⟩), owns_chg' g6 hc (fun k hk e => (h.top k e).2 i wk g1 hk)⟩
    · rw [List.getElem?_append_right h1] at he
      have h2 := (List.getElem?_eq_some_iff.1 he).1
      simp at h2
      have h3 : i = nds.length := by omega
      subst h3
      simp at he; subst he
      refine ⟨h5, va, vl, .slice none 0 0, by rw [List.getElem?_append_right (by rw [h.lk]; exact Nat.le_refl _)]; simp [h.lk], by rw [List.getElem?_append_right (by rw [h.lr]; exact Nat.le_refl _)]; simp [h.lr], ha, hl, ?_⟩
      rw [hk]; exact World.ownsRow_nil _ _ _ _
  · rcases hblk k hk with h1 | h1
    · exact (h.top k h1).1 hs
    · have := hS k hs; omega
  · have hi' := get i v k hi hv
    rcases hblk k hk with h1 | h1
    · exact (h.top k h1).2 i v hi' hv
    · have := hvk i v k hi' hv; omega
theorem row_set_kids {d : Nd} (h : d.ports.length = 5) (ks : List Int) (va vl vk vk' : Value) : splice (d.row va vl vk) 10 [vk'] = ({ d with kids := ks } : Nd).row va vl vk' := by
  have h1 : d.row va vl vk = ([.int .i64 d.proc, .int .i64 d.parent, .int .i64 d.at_] ++ (ivs d.ports ++ [va, vl])) ++ [vk, .int .i64 d.state] := by simp [Nd.row]
  have h2 : ({ d with kids := ks } : Nd).row va vl vk' = ([.int .i64 d.proc, .int .i64 d.parent, .int .i64 d.at_] ++ (ivs d.ports ++ [va, vl])) ++ [vk', .int .i64 d.state] := by simp [Nd.row]
  rw [h1, h2]
  have h3 : ([Value.int .i64 d.proc, .int .i64 d.parent, .int .i64 d.at_] ++ (ivs d.ports ++ [va, vl])).length = 10 := by simp [ivs, h]
  have := splice_right ([Value.int .i64 d.proc, .int .i64 d.parent, .int .i64 d.at_] ++ (ivs d.ports ++ [va, vl])) [vk, .int .i64 d.state] 0 [vk']
  rw [h3] at this
  rw [this]
  simp [splice]
theorem row_kids {d : Nd} (h : d.ports.length = 5) (va vl vk : Value) : (d.row va vl vk)[10]? = some vk := by
  unfold Nd.row
  rw [List.getElem?_append_right (by simp), List.getElem?_append_right (by simp [ivs, h])]
  simp [ivs, h]
/-- A call's kids, one more: the row of kids has grown; its head is stored. -/
theorem NM.kid {w w1 : World} {et : TypeId} {S : Nat → Prop} {vn vk vk' : Value} {vks : List Value} {rows : List (List Value)} {nds : List Nd} {i : Nat} {d : Nd} {c : Int} (h : NM w et S vn vks rows nds) (hd : nds[i]? = some d) (hvk : vks[i]? = some vk) (hS : ∀ k, S k → k < w.heap.size) (hvn : ∀ k, vn.ownBlock = some k → k < w.heap.size)
    (hc1 : Chg (fun k => vk.ownBlock = some k) w w1) (hown : w1.ownsRow 0 3 1 vk' (d.kids.length + 1) (ivs d.kids ++ [.int .i64 c])) (hblk : ∀ k, vk'.ownBlock = some k → vk.ownBlock = some k ∨ w.heap.size ≤ k) :
    ∃ g cap cur, vn = .slice (some ⟨g, 0, none⟩) nds.length cap ∧ Blk w1 g cur et ∧ i * 12 + 10 + 1 ≤ cur.length ∧
      ∀ w2, Chg (· = g) w1 w2 → Blk w2 g (splice cur (i * 12 + 10) [vk']) et → ∃ rows', NM w2 et S vn (vks.set i vk') rows' (nds.set i { d with kids := d.kids ++ [c] }) := by
  obtain ⟨h5, va, vl, vk0, h1, h2, h3, h4, h6⟩ := h.row i d hd
  rw [hvk] at h1; cases h1
  have hil := (List.getElem?_eq_some_iff.1 hd).1
  have hown1 := owns_chg' h.own hc1 (fun k hk e => (h.top k hk).2 i vk hvk e)
  obtain ⟨g, cap, cur, hv, hb, hle, hn, -, hw⟩ := own_store hown1 h.rlen h2 (by decide) (off := 10) (vs := [vk']) (by simp) (by simp)
  have hvo : vn.ownBlock = some g := by rw [hv]; rfl
  have hgl := hvn g hvo
  have hvkl : ∀ (j : Nat) (v : Value) (k : Nat), vks[j]? = some v → v.ownBlock = some k → k < w.heap.size := fun j v k hi hk => by
    have hjl := (List.getElem?_eq_some_iff.1 hi).1
    obtain ⟨_, _, _, vk, g1, _, _, _, g2⟩ := h.row j (nds[j]'(by rw [← h.lk]; exact hjl)) (List.getElem?_eq_getElem _)
    rw [hi] at g1; cases g1
    exact (g2.lt k hk).2
  refine ⟨g, cap, cur, hv, hb, by simpa using hle, fun w2 hc2 hb2 => ⟨rows.set i (({ d with kids := d.kids ++ [c] } : Nd).row va vl vk'), ?_⟩⟩
  have hown2 := hw w2 hb2
  rw [row_set_kids h5 (d.kids ++ [c])] at hown2
  have hc12 : Chg (fun k => vk.ownBlock = some k ∨ k = g) w w2 := (hc1.mono fun k _ h => .inl h).trans (hc2.mono fun k _ h => .inr h)
  have hsT : ∀ k, S k → ¬ (vk.ownBlock = some k ∨ k = g) := fun k hk hh => by
    rcases hh with hh | hh
    · exact h.sk i vk k hvk hh hk
    · exact (h.top g hvo).1 (hh ▸ hk)
  have get : ∀ (j : Nat) (v : Value), (vks.set i vk')[j]? = some v → (j = i ∧ v = vk') ∨ (j ≠ i ∧ vks[j]? = some v) := fun j v hj => by
    by_cases hji : j = i
    · subst hji
      rw [List.getElem?_set_self (by rw [h.lk]; exact hil)] at hj
      cases hj; exact .inl ⟨rfl, rfl⟩
    · rw [List.getElem?_set_ne (fun e => hji e.symm)] at hj
      exact .inr ⟨hji, hj⟩
  have newne : ∀ (j : Nat) (v : Value) (k : Nat), j ≠ i → vks[j]? = some v → v.ownBlock = some k → vk'.ownBlock ≠ some k := fun j v k hji hj hk hk' => by
    rcases hblk k hk' with h7 | h7
    · exact hji (h.apart j i v vk k hj hvk hk h7)
    · have := hvkl j v k hj hk; omega
  have hkidl := (hown.lt)
  refine ⟨by rw [List.length_set]; exact hown2, by simp [h.lr], by simp [h.lk], fun j e he => ?_, fun a b u v k ha hb' hu hv' => ?_, fun k hk => ⟨(h.top k hk).1, fun j v hj hjk => ?_⟩, fun j v k hj hk hs => ?_⟩
  · by_cases hji : j = i
    · subst hji
      rw [List.getElem?_set_self hil] at he
      cases he
      refine ⟨h5, va, vl, vk', by rw [List.getElem?_set_self (by rw [h.lk]; exact hil)], by rw [List.getElem?_set_self (by rw [h.lr]; exact hil)], h3.chg hc12 (fun k hk => ⟨hk, hsT k hk⟩), h4.chg hc12 (fun k hk => ⟨hk, hsT k hk⟩), ?_⟩
      have : w1.ownsRow 0 3 1 vk' (d.kids ++ [c]).length (ivs (d.kids ++ [c])) := by simpa [ivs] using hown
      refine owns_chg' this hc2 (fun k hk e => ?_)
      rcases hblk k hk with h7 | h7
      · exact (h.top g hvo).2 j vk hvk (e ▸ h7)
      · omega
    · rw [List.getElem?_set_ne (fun e => hji e.symm)] at he
      obtain ⟨g5, wa, wl, wk, g1, g2, g3, g4, g6⟩ := h.row j e he
      refine ⟨g5, wa, wl, wk, by rw [List.getElem?_set_ne (fun e => hji e.symm)]; exact g1, by rw [List.getElem?_set_ne (fun e => hji e.symm)]; exact g2, g3.chg hc12 (fun k hk => ⟨hk, hsT k hk⟩), g4.chg hc12 (fun k hk => ⟨hk, hsT k hk⟩), owns_chg' g6 hc12 (fun k hk hh => ?_)⟩
      rcases hh with hh | hh
      · exact hji (h.apart j i wk vk k g1 hvk hk hh)
      · exact (h.top g hvo).2 j wk g1 (hh ▸ hk)
  · rcases get a u ha with ⟨rfl, rfl⟩ | ⟨ha1, ha2⟩
    · rcases get b v hb' with ⟨rfl, rfl⟩ | ⟨hb1, hb2'⟩
      · rfl
      · exact absurd hu (newne b v k hb1 hb2' hv')
    · rcases get b v hb' with ⟨rfl, rfl⟩ | ⟨hb1, hb2'⟩
      · exact absurd hv' (newne a u k ha1 ha2 hu)
      · exact h.apart a b u v k ha2 hb2' hu hv'
  · rcases get j v hj with ⟨rfl, rfl⟩ | ⟨h7, h8⟩
    · rcases hblk k hjk with h7 | h7
      · exact (h.top k hk).2 j vk hvk h7
      · have := hvn k hk; omega
    · exact (h.top k hk).2 j v h8 hjk
  · rcases get j v hj with ⟨rfl, rfl⟩ | ⟨h7, h8⟩
    · rcases hblk k hk with h7 | h7
      · exact h.sk j vk k hvk h7 hs
      · have := hS k hs; omega
    · exact h.sk j v k h8 hk hs
end Go.Proofs.Vg
