/- args, Clone, add, Text, make.  -/
import Derived.Test.YtldeokfhipjbfaaDoorH3
import Derived.Test.YtldeokfhipjbfaaDoorVg22
set_option linter.unusedVariables false
set_option linter.unusedSimpArgs false
namespace Go.Proofs.YtldeokfhipjbfaaDoor
open Go Go.Proofs.Vg Go.RowKit

abbrev SlW (w : World) (v : Value) (l : List Wd) : Prop := Sli w 3 v (l.map Wd.row)
theorem wd_len (l : List Wd) : (l.map Wd.row).length = l.length := by simp

-- -- function 37
set_option maxHeartbeats 2000000 in
set_option maxRecDepth 8000 in
theorem args_ok (w : World) (hb rb : Nat) (H : List Ob) (F : Nat → Prop) (hH : HeapW w hb rb H F) (hl : H.length ≤ 1073741824) (x : Wd) :
    Rets Tryd.prog 37 [ptrOf hb, wv x] w (fun v w' => (∃ A c, v = .slice A (argsOf H x).length c) ∧ SlW w v (argsOf H x) ∧ Ext w w' ∧ ∃ g, WL w g v (argsOf H x) ∧ (argsOf H x ≠ [] → F g)) := by
  refine rets_of_ok Tryd.func37 rfl rfl ?_
  refine ok_seq (fun M hM => ok_region rfl ?_)
  repeat ((try first | (refine ofX3 hX ?_; clear hX X) | (refine ofX2 hX ?_; clear hX X)); (first | refine wpL_step (fun X hX => ?_) | refine wpH_step (fun X hX => ?_) | refine wpE_step (fun X hX => ?_) | refine wpL_end ?_ | refine wpH_end ?_ | refine wpE_end ?_); try simp only [ oweC, oweP, opF, opH, ev, evs, evp, evo, Env.get, Env.set, putE, gdst, S0, S1, thenN, inBlockN, argEnv, builtinR, retE, fin, finC, retC, oneC, callR, reduceIte, Nat.reduceEqDiff, Nat.reduceAdd, reduceCtorEq, forall_const, Tryd.results37, Fx.ag3, Fx.ag4, Fx.ag42, Fx.fo31_2, Fx.fo70_0, Fx.fo72_0, Fx.fo72_2])
  refine Runs.box (fun w1 he1 hs1 hb1 => ?_)
  generalize hB : w.heap.size = B at *
  simp only [Value.cells, Wd.row] at hb1
  obtain ⟨vs, ps, gs, hR0, hf, -⟩ := hH
  have hR := hR0.ext he1
  repeat ((try first | (refine ofX3 hX ?_; clear hX X) | (refine ofX2 hX ?_; clear hX X)); (first | refine wpL_step (fun X hX => ?_) | refine wpH_step (fun X hX => ?_) | refine wpE_step (fun X hX => ?_) | refine wpL_end ?_ | refine wpH_end ?_ | refine wpE_end ?_); try simp only [ oweC, oweP, opF, opH, ev, evs, evp, evo, Env.get, Env.set, putE, gdst, S0, S1, thenN, inBlockN, argEnv, builtinR, retE, fin, finC, retC, oneC, callR, reduceIte, Nat.reduceEqDiff, Nat.reduceAdd, reduceCtorEq, forall_const, Tryd.results37, Fx.ag3, Fx.ag4, Fx.ag42, Fx.fo31_2, Fx.fo70_0, Fx.fo72_0, Fx.fo72_2])
  refine hM _ _ _ ?_; clear hM M
  refine ok_join [] (fun w' => w' = w1 ∧ argsOf H x = []) ?_ ?_
  · refine ok_seq (fun M hM => ok_region rfl ?_)
    repeat ((try first | (refine ofX3 hX ?_; clear hX X) | (refine ofX2 hX ?_; clear hX X)); (first | refine wpL_step (fun X hX => ?_) | refine wpH_step (fun X hX => ?_) | refine wpE_step (fun X hX => ?_) | refine wpL_end ?_ | refine wpH_end ?_ | refine wpE_end ?_); try simp only [ oweC, oweP, opF, opH, ev, evs, evp, evo, Env.get, Env.set, putE, gdst, S0, S1, thenN, inBlockN, argEnv, builtinR, retE, fin, finC, retC, oneC, callR, reduceIte, Nat.reduceEqDiff, Nat.reduceAdd, reduceCtorEq, forall_const, Tryd.results37, Fx.ag3, Fx.ag4, Fx.ag42, Fx.fo31_2, Fx.fo70_0, Fx.fo72_0, Fx.fo72_2])
    refine ⟨_, hb1.cell (j := 2) rfl, ?_⟩
    repeat ((try first | (refine ofX3 hX ?_; clear hX X) | (refine ofX2 hX ?_; clear hX X)); (first | refine wpL_step (fun X hX => ?_) | refine wpH_step (fun X hX => ?_) | refine wpE_step (fun X hX => ?_) | refine wpL_end ?_ | refine wpH_end ?_ | refine wpE_end ?_); try simp only [ oweC, oweP, opF, opH, ev, evs, evp, evo, Env.get, Env.set, putE, gdst, S0, S1, thenN, inBlockN, argEnv, builtinR, retE, fin, finC, retC, oneC, callR, reduceIte, Nat.reduceEqDiff, Nat.reduceAdd, reduceCtorEq, forall_const, Tryd.results37, Fx.ag3, Fx.ag4, Fx.ag42, Fx.fo31_2, Fx.fo70_0, Fx.fo72_0, Fx.fo72_2])
    refine Inv.call Fx.en35 (object_ok w1 hb rb vs ps gs H hR hl x.r) ?_
    rintro v w' ⟨rfl, hv⟩
    repeat ((try first | (refine ofX3 hX ?_; clear hX X) | (refine ofX2 hX ?_; clear hX X)); (first | refine wpL_step (fun X hX => ?_) | refine wpH_step (fun X hX => ?_) | refine wpE_step (fun X hX => ?_) | refine wpL_end ?_ | refine wpH_end ?_ | refine wpE_end ?_); try simp only [ oweC, oweP, opF, opH, ev, evs, evp, evo, Env.get, Env.set, putE, gdst, S0, S1, thenN, inBlockN, argEnv, builtinR, retE, fin, finC, retC, oneC, callR, reduceIte, Nat.reduceEqDiff, Nat.reduceAdd, reduceCtorEq, forall_const, Tryd.results37, Fx.ag3, Fx.ag4, Fx.ag42, Fx.fo31_2, Fx.fo70_0, Fx.fo72_0, Fx.fo72_2])
    refine hM _ _ _ ?_; clear hM M
    refine ok_seq (fun M hM => ok_region rfl ?_)
    repeat ((try first | (refine ofX3 hX ?_; clear hX X) | (refine ofX2 hX ?_; clear hX X)); (first | refine wpL_step (fun X hX => ?_) | refine wpH_step (fun X hX => ?_) | refine wpE_step (fun X hX => ?_) | refine wpL_end ?_ | refine wpH_end ?_ | refine wpE_end ?_); try simp only [ oweC, oweP, opF, opH, ev, evs, evp, evo, Env.get, Env.set, putE, gdst, S0, S1, thenN, inBlockN, argEnv, builtinR, retE, fin, finC, retC, oneC, callR, reduceIte, Nat.reduceEqDiff, Nat.reduceAdd, reduceCtorEq, forall_const, Tryd.results37, Fx.ag3, Fx.ag4, Fx.ag42, Fx.fo31_2, Fx.fo70_0, Fx.fo72_0, Fx.fo72_2])
    rcases hv with ⟨ho, rfl⟩ | ⟨i, p, g, o, ho, hr, hi, hp, hg, rfl⟩
    · refine Runs.ptrNe Fx.un73 ?_
      repeat ((try first | (refine ofX3 hX ?_; clear hX X) | (refine ofX2 hX ?_; clear hX X)); (first | refine wpL_step (fun X hX => ?_) | refine wpH_step (fun X hX => ?_) | refine wpE_step (fun X hX => ?_) | refine wpL_end ?_ | refine wpH_end ?_ | refine wpE_end ?_); try simp only [ oweC, oweP, opF, opH, ev, evs, evp, evo, Env.get, Env.set, putE, gdst, S0, S1, thenN, inBlockN, argEnv, builtinR, retE, fin, finC, retC, oneC, callR, reduceIte, Nat.reduceEqDiff, Nat.reduceAdd, reduceCtorEq, forall_const, Tryd.results37, Fx.ag3, Fx.ag4, Fx.ag42, Fx.fo31_2, Fx.fo70_0, Fx.fo72_0, Fx.fo72_2])
      refine hM _ _ _ ?_; clear hM M
      refine ok_cond rfl (fun h => by cases h) (fun h => ok_skip ?_)
      try simp only [wpL, wpH, wpE, oweC, oweP, opF, opH, ev, evs, evp, evo, Env.get, Env.set, putE, gdst, S0, S1, thenN, inBlockN, argEnv, builtinR, retE, fin, finC, retC, oneC, callR, reduceIte, Nat.reduceEqDiff, Nat.reduceAdd, reduceCtorEq, forall_const, Tryd.results37, Fx.ag3, Fx.ag4, Fx.ag42, Fx.fo31_2, Fx.fo70_0, Fx.fo72_0, Fx.fo72_2]
      simp [sub, argsOf, argsO, ho]
    · refine Runs.ptrNe Fx.un73 ?_
      repeat ((try first | (refine ofX3 hX ?_; clear hX X) | (refine ofX2 hX ?_; clear hX X)); (first | refine wpL_step (fun X hX => ?_) | refine wpH_step (fun X hX => ?_) | refine wpE_step (fun X hX => ?_) | refine wpL_end ?_ | refine wpH_end ?_ | refine wpE_end ?_); try simp only [ oweC, oweP, opF, opH, ev, evs, evp, evo, Env.get, Env.set, putE, gdst, S0, S1, thenN, inBlockN, argEnv, builtinR, retE, fin, finC, retC, oneC, callR, reduceIte, Nat.reduceEqDiff, Nat.reduceAdd, reduceCtorEq, forall_const, Tryd.results37, Fx.ag3, Fx.ag4, Fx.ag42, Fx.fo31_2, Fx.fo70_0, Fx.fo72_0, Fx.fo72_2])
      have hob := hR.obj i p g o hp hg hi
      refine ⟨_, ObW.text hob, ?_⟩
      repeat ((try first | (refine ofX3 hX ?_; clear hX X) | (refine ofX2 hX ?_; clear hX X)); (first | refine wpL_step (fun X hX => ?_) | refine wpH_step (fun X hX => ?_) | refine wpE_step (fun X hX => ?_) | refine wpL_end ?_ | refine wpH_end ?_ | refine wpE_end ?_); try simp only [ oweC, oweP, opF, opH, ev, evs, evp, evo, Env.get, Env.set, putE, gdst, S0, S1, thenN, inBlockN, argEnv, builtinR, retE, fin, finC, retC, oneC, callR, reduceIte, Nat.reduceEqDiff, Nat.reduceAdd, reduceCtorEq, forall_const, Tryd.results37, Fx.ag3, Fx.ag4, Fx.ag42, Fx.fo31_2, Fx.fo70_0, Fx.fo72_0, Fx.fo72_2])
      refine hM _ _ _ ?_; clear hM M
      cases o with
      | text s =>
        refine ok_cond (b := false) rfl (fun h => by cases h) (fun h => ok_skip ?_)
        try simp only [wpL, wpH, wpE, oweC, oweP, opF, opH, ev, evs, evp, evo, Env.get, Env.set, putE, gdst, S0, S1, thenN, inBlockN, argEnv, builtinR, retE, fin, finC, retC, oneC, callR, reduceIte, Nat.reduceEqDiff, Nat.reduceAdd, reduceCtorEq, forall_const, Tryd.results37, Fx.ag3, Fx.ag4, Fx.ag42, Fx.fo31_2, Fx.fo70_0, Fx.fo72_0, Fx.fo72_2]
        simp [sub, argsOf, argsO, ho]
      | words s l =>
        refine ok_cond (b := true) rfl (fun _ => ?_) (fun h => by cases h)
        obtain ⟨lv, h1, h2⟩ := hR0.obj i p g _ hp hg hi
        refine ok_seq (fun M hM => ok_region rfl ?_)
        repeat ((try first | (refine ofX3 hX ?_; clear hX X) | (refine ofX2 hX ?_; clear hX X)); (first | refine wpL_step (fun X hX => ?_) | refine wpH_step (fun X hX => ?_) | refine wpE_step (fun X hX => ?_) | refine wpL_end ?_ | refine wpH_end ?_ | refine wpE_end ?_); try simp only [ oweC, oweP, opF, opH, ev, evs, evp, evo, Env.get, Env.set, putE, gdst, S0, S1, thenN, inBlockN, argEnv, builtinR, retE, fin, finC, retC, oneC, callR, reduceIte, Nat.reduceEqDiff, Nat.reduceAdd, reduceCtorEq, forall_const, Tryd.results37, Fx.ag3, Fx.ag4, Fx.ag42, Fx.fo31_2, Fx.fo70_0, Fx.fo72_0, Fx.fo72_2])
        refine ⟨_, (h1.ext he1).cell (j := 0) rfl, ?_⟩
        repeat ((try first | (refine ofX3 hX ?_; clear hX X) | (refine ofX2 hX ?_; clear hX X)); (first | refine wpL_step (fun X hX => ?_) | refine wpH_step (fun X hX => ?_) | refine wpE_step (fun X hX => ?_) | refine wpL_end ?_ | refine wpH_end ?_ | refine wpE_end ?_); try simp only [ oweC, oweP, opF, opH, ev, evs, evp, evo, Env.get, Env.set, putE, gdst, S0, S1, thenN, inBlockN, argEnv, builtinR, retE, fin, finC, retC, oneC, callR, reduceIte, Nat.reduceEqDiff, Nat.reduceAdd, reduceCtorEq, forall_const, Tryd.results37, Fx.ag3, Fx.ag4, Fx.ag42, Fx.fo31_2, Fx.fo70_0, Fx.fo72_0, Fx.fo72_2])
        refine hM _ _ _ ?_; clear hM M
        refine ok_ret ?_
        try simp only [wpL, wpH, wpE, oweC, oweP, opF, opH, ev, evs, evp, evo, Env.get, Env.set, putE, gdst, S0, S1, thenN, inBlockN, argEnv, builtinR, retE, fin, finC, retC, oneC, callR, reduceIte, Nat.reduceEqDiff, Nat.reduceAdd, reduceCtorEq, forall_const, Tryd.results37, Fx.ag3, Fx.ag4, Fx.ag42, Fx.fo31_2, Fx.fo70_0, Fx.fo72_0, Fx.fo72_2]
        obtain ⟨A, c, rfl, -⟩ := id h2
        have : argsOf H x = l := by simp [argsOf, argsO, ho]
        rw [this]
        exact ⟨⟨A, c, rfl⟩, h2.sli, he1, g, h2, fun _ => (hf g (.inr (.inr (.inr (List.mem_of_getElem? hg))))).1⟩
  rintro w' ⟨rfl, hnil⟩
  refine ok_seq (fun M hM => ok_region rfl ?_); repeat ((try first | (refine ofX3 hX ?_; clear hX X) | (refine ofX2 hX ?_; clear hX X)); (first | refine wpL_step (fun X hX => ?_) | refine wpH_step (fun X hX => ?_) | refine wpE_step (fun X hX => ?_) | refine wpL_end ?_ | refine wpH_end ?_ | refine wpE_end ?_); try simp only [ oweC, oweP, opF, opH, ev, evs, evp, evo, Env.get, Env.set, putE, gdst, S0, S1, thenN, inBlockN, argEnv, builtinR, retE, fin, finC, retC, oneC, callR, reduceIte, Nat.reduceEqDiff, Nat.reduceAdd, reduceCtorEq, forall_const, Tryd.results37, Fx.ag3, Fx.ag4, Fx.ag42, Fx.fo31_2, Fx.fo70_0, Fx.fo72_0, Fx.fo72_2])
  refine hM _ _ _ ?_; clear hM M
  refine ok_ret ?_
  try simp only [wpL, wpH, wpE, oweC, oweP, opF, opH, ev, evs, evp, evo, Env.get, Env.set, putE, gdst, S0, S1, thenN, inBlockN, argEnv, builtinR, retE, fin, finC, retC, oneC, callR, reduceIte, Nat.reduceEqDiff, Nat.reduceAdd, reduceCtorEq, forall_const, Tryd.results37, Fx.ag3, Fx.ag4, Fx.ag42, Fx.fo31_2, Fx.fo70_0, Fx.fo72_0, Fx.fo72_2]
  rw [hnil]
  exact ⟨⟨none, 0, rfl⟩, ⟨none, 0, rfl, by simp, fun j row hj => by simp at hj⟩, he1, 0, ⟨none, 0, rfl, by simp, by simp, fun h => absurd rfl h⟩, fun h => absurd rfl h⟩

theorem words_rows (l : List Wd) : ∀ r ∈ l.map Wd.row, r.length = 3 ∧ ∀ u ∈ r, u.oneCell' = true := by
  intro r hr
  obtain ⟨x, -, rfl⟩ := List.mem_map.1 hr
  refine ⟨rfl, fun u hu => ?_⟩
  simp [Wd.row] at hu
  rcases hu with rfl | rfl | rfl <;> rfl
theorem flat_words (l : List Wd) : (l.map Wd.row).flatten.length = l.length * 3 := by
  induction l with
  | nil => rfl
  | cons x xs ih => rw [List.map_cons, List.flatten_cons, List.length_append, ih, List.length_cons]; simp [Wd.row]; omega
/-- An own row of words is a list of words in its block. -/
theorem WL.of_own {w : World} {base : Nat} {v : Value} {l : List Wd} (h : w.ownsRow base 31 3 v l.length (l.map Wd.row).flatten) (hl : l.length ≤ 1073741824) : ∃ g, WL w g v l ∧ (l ≠ [] → v.ownBlock = some g) := by
  rcases h.2 with ⟨rfl, h0⟩ | ⟨g, cap, cur, rfl, hbase, hb, hnc, hcap, hcs, htk⟩
  · have : l = [] := List.length_eq_zero_iff.1 h0
    subst this
    exact ⟨0, ⟨none, 0, rfl, by simp, by simp, fun h => absurd rfl h⟩, fun h => absurd rfl h⟩
  · exact ⟨g, ⟨_, cap, rfl, hl, hnc, fun _ => ⟨rfl, cur.toList, by simpa [Blk] using hb, htk⟩⟩, fun _ => rfl⟩

-- -- function 36
set_option maxHeartbeats 2000000 in
set_option maxRecDepth 8000 in
theorem clone_ok (w : World) (v : Value) (l : List Wd) (hv : SlW w v l) (hl : l.length ≤ 1073741824) :
    Rets Tryd.prog 36 [v] w (fun v' w' => (∃ A c, v' = .slice A l.length c) ∧ (∃ g, WL w' g v' l ∧ (l ≠ [] → w.heap.size ≤ g)) ∧ Ext w w') := by
  obtain ⟨A, c, rfl, hlen, hcell⟩ := id hv
  rw [wd_len] at hv ⊢
  refine rets_of_ok Tryd.func36 rfl rfl ?_
  refine ok_seq (fun M hM => ok_region rfl ?_); repeat ((try first | (refine ofX3 hX ?_; clear hX X) | (refine ofX2 hX ?_; clear hX X)); (first | refine wpL_step (fun X hX => ?_) | refine wpH_step (fun X hX => ?_) | refine wpE_step (fun X hX => ?_) | refine wpL_end ?_ | refine wpH_end ?_ | refine wpE_end ?_); try simp only [ oweC, oweP, opF, opH, ev, evs, evp, evo, Env.get, Env.set, putE, gdst, S0, S1, thenN, inBlockN, argEnv, builtinR, retE, fin, finC, retC, oneC, callR, reduceIte, Nat.reduceEqDiff, Nat.reduceAdd, reduceCtorEq, forall_const, Tryd.results36])
  refine hM _ _ _ ?_; clear hM M
  cases A with
  | none =>
    have hnil : l = [] := by
      cases l with
      | nil => rfl
      | cons x xs => obtain ⟨b, o, h1, _⟩ := hcell 0 x.row rfl; cases h1
    subst hnil
    refine ok_seq (fun M0 hM0 => ?_)
    refine ok_seq (fun M hM => ok_region rfl ?_)
    repeat ((try first | (refine ofX3 hX ?_; clear hX X) | (refine ofX2 hX ?_; clear hX X)); (first | refine wpL_step (fun X hX => ?_) | refine wpH_step (fun X hX => ?_) | refine wpE_step (fun X hX => ?_) | refine wpL_end ?_ | refine wpH_end ?_ | refine wpE_end ?_); try simp only [ oweC, oweP, opF, opH, ev, evs, evp, evo, Env.get, Env.set, putE, gdst, S0, S1, thenN, inBlockN, argEnv, builtinR, retE, fin, finC, retC, oneC, callR, reduceIte, Nat.reduceEqDiff, Nat.reduceAdd, reduceCtorEq, forall_const, Tryd.results36])
    refine Runs.slEq Fx.un42 ?_
    repeat ((try first | (refine ofX3 hX ?_; clear hX X) | (refine ofX2 hX ?_; clear hX X)); (first | refine wpL_step (fun X hX => ?_) | refine wpH_step (fun X hX => ?_) | refine wpE_step (fun X hX => ?_) | refine wpL_end ?_ | refine wpH_end ?_ | refine wpE_end ?_); try simp only [ oweC, oweP, opF, opH, ev, evs, evp, evo, Env.get, Env.set, putE, gdst, S0, S1, thenN, inBlockN, argEnv, builtinR, retE, fin, finC, retC, oneC, callR, reduceIte, Nat.reduceEqDiff, Nat.reduceAdd, reduceCtorEq, forall_const, Tryd.results36])
    refine hM _ _ _ ?_; clear hM M
    refine ok_cond rfl (fun _ => ?_) (fun h => by cases h)
    refine ok_seq (fun M hM => ok_region rfl ?_); repeat ((try first | (refine ofX3 hX ?_; clear hX X) | (refine ofX2 hX ?_; clear hX X)); (first | refine wpL_step (fun X hX => ?_) | refine wpH_step (fun X hX => ?_) | refine wpE_step (fun X hX => ?_) | refine wpL_end ?_ | refine wpH_end ?_ | refine wpE_end ?_); try simp only [ oweC, oweP, opF, opH, ev, evs, evp, evo, Env.get, Env.set, putE, gdst, S0, S1, thenN, inBlockN, argEnv, builtinR, retE, fin, finC, retC, oneC, callR, reduceIte, Nat.reduceEqDiff, Nat.reduceAdd, reduceCtorEq, forall_const, Tryd.results36])
    refine hM _ _ _ ?_; clear hM M
    refine ok_ret ?_
    try simp only [wpL, wpH, wpE, oweC, oweP, opF, opH, ev, evs, evp, evo, Env.get, Env.set, putE, gdst, S0, S1, thenN, inBlockN, argEnv, builtinR, retE, fin, finC, retC, oneC, callR, reduceIte, Nat.reduceEqDiff, Nat.reduceAdd, reduceCtorEq, forall_const, Tryd.results36]
    exact ⟨⟨none, 0, rfl⟩, ⟨0, ⟨none, 0, rfl, by simp, by simp, fun h => absurd rfl h⟩, fun h => absurd rfl h⟩, Ext.refl _⟩
  | some a =>
    refine ok_join [(0, .slice (some a) l.length c)] (fun w' => w' = w) ?_ ?_
    · refine ok_seq (fun M hM => ok_region rfl ?_)
      repeat ((try first | (refine ofX3 hX ?_; clear hX X) | (refine ofX2 hX ?_; clear hX X)); (first | refine wpL_step (fun X hX => ?_) | refine wpH_step (fun X hX => ?_) | refine wpE_step (fun X hX => ?_) | refine wpL_end ?_ | refine wpH_end ?_ | refine wpE_end ?_); try simp only [ oweC, oweP, opF, opH, ev, evs, evp, evo, Env.get, Env.set, putE, gdst, S0, S1, thenN, inBlockN, argEnv, builtinR, retE, fin, finC, retC, oneC, callR, reduceIte, Nat.reduceEqDiff, Nat.reduceAdd, reduceCtorEq, forall_const, Tryd.results36])
      refine Runs.slEq Fx.un42 ?_
      repeat ((try first | (refine ofX3 hX ?_; clear hX X) | (refine ofX2 hX ?_; clear hX X)); (first | refine wpL_step (fun X hX => ?_) | refine wpH_step (fun X hX => ?_) | refine wpE_step (fun X hX => ?_) | refine wpL_end ?_ | refine wpH_end ?_ | refine wpE_end ?_); try simp only [ oweC, oweP, opF, opH, ev, evs, evp, evo, Env.get, Env.set, putE, gdst, S0, S1, thenN, inBlockN, argEnv, builtinR, retE, fin, finC, retC, oneC, callR, reduceIte, Nat.reduceEqDiff, Nat.reduceAdd, reduceCtorEq, forall_const, Tryd.results36])
      refine hM _ _ _ ?_; clear hM M
      refine ok_cond rfl (fun h => by cases h) (fun h => ok_skip ?_)
      try simp only [wpL, wpH, wpE, oweC, oweP, opF, opH, ev, evs, evp, evo, Env.get, Env.set, putE, gdst, S0, S1, thenN, inBlockN, argEnv, builtinR, retE, fin, finC, retC, oneC, callR, reduceIte, Nat.reduceEqDiff, Nat.reduceAdd, reduceCtorEq, forall_const, Tryd.results36]
      simp [sub, Env.get]
    rintro w' rfl
    refine ok_seq (fun M hM => ok_region rfl ?_)
    repeat ((try first | (refine ofX3 hX ?_; clear hX X) | (refine ofX2 hX ?_; clear hX X)); (first | refine wpL_step (fun X hX => ?_) | refine wpH_step (fun X hX => ?_) | refine wpE_step (fun X hX => ?_) | refine wpL_end ?_ | refine wpH_end ?_ | refine wpE_end ?_); try simp only [ oweC, oweP, opF, opH, ev, evs, evp, evo, Env.get, Env.set, putE, gdst, S0, S1, thenN, inBlockN, argEnv, builtinR, retE, fin, finC, retC, oneC, callR, reduceIte, Nat.reduceEqDiff, Nat.reduceAdd, reduceCtorEq, forall_const, Tryd.results36])
    refine Runs.lit00 Fx.un42 Fx.zi31 (fun w1 he1 hs1 hb1 => ?_)
    repeat ((try first | (refine ofX3 hX ?_; clear hX X) | (refine ofX2 hX ?_; clear hX X)); (first | refine wpL_step (fun X hX => ?_) | refine wpH_step (fun X hX => ?_) | refine wpE_step (fun X hX => ?_) | refine wpL_end ?_ | refine wpH_end ?_ | refine wpE_end ?_); try simp only [ oweC, oweP, opF, opH, ev, evs, evp, evo, Env.get, Env.set, putE, gdst, S0, S1, thenN, inBlockN, argEnv, builtinR, retE, fin, finC, retC, oneC, callR, reduceIte, Nat.reduceEqDiff, Nat.reduceAdd, reduceCtorEq, forall_const, Tryd.results36])
    refine Runs.appendR (base := w'.heap.size) (n := 0) (xs := []) (rows := l.map Wd.row) Fx.un42 Fx.zi31 rfl (by decide) ⟨rfl, .inr ⟨w'.heap.size, 0, #[], rfl, Nat.le_refl _, by simpa [Blk] using hb1, Nat.le_refl _, Nat.zero_le _, rfl, rfl⟩⟩ (hv.ext he1) (words_rows l) (by simp [maxLen]; omega) (by simp; omega) (by omega) (fun v' w2 hown hg hb2 => ?_)
    rw [wd_len, Nat.zero_add, List.nil_append] at hown
    repeat ((try first | (refine ofX3 hX ?_; clear hX X) | (refine ofX2 hX ?_; clear hX X)); (first | refine wpL_step (fun X hX => ?_) | refine wpH_step (fun X hX => ?_) | refine wpE_step (fun X hX => ?_) | refine wpL_end ?_ | refine wpH_end ?_ | refine wpE_end ?_); try simp only [ oweC, oweP, opF, opH, ev, evs, evp, evo, Env.get, Env.set, putE, gdst, S0, S1, thenN, inBlockN, argEnv, builtinR, retE, fin, finC, retC, oneC, callR, reduceIte, Nat.reduceEqDiff, Nat.reduceAdd, reduceCtorEq, forall_const, Tryd.results36])
    refine hM _ _ _ ?_; clear hM M
    refine ok_ret ?_
    try simp only [wpL, wpH, wpE, oweC, oweP, opF, opH, ev, evs, evp, evo, Env.get, Env.set, putE, gdst, S0, S1, thenN, inBlockN, argEnv, builtinR, retE, fin, finC, retC, oneC, callR, reduceIte, Nat.reduceEqDiff, Nat.reduceAdd, reduceCtorEq, forall_const, Tryd.results36]
    obtain ⟨g, hW, hg2⟩ := WL.of_own hown hl
    obtain ⟨A', c', hv', -⟩ := id hW
    refine ⟨⟨A', c', hv'⟩, ⟨g, hW, fun hne => (hown.lt g (hg2 hne)).1⟩, he1.chg_trans (S := fun k => w'.heap.size ≤ k) ⟨hg.os, hg.tape, hg.output, hg.size, fun k hk hs => hg.block k hk (fun e => hs (by simp [Value.ownBlock] at e; omega))⟩ (fun k h => h)⟩

/-- A heap grows by an object. -/
theorem HeapR.push {w w' : World} {hb rb : Nat} {vs vs' : Value} {ps gs : List Nat} {H : List Ob} {F S : Nat → Prop} {p g : Nat} {o : Ob} (h : HeapR w hb rb vs ps gs H) (hf : ∀ k, Foot hb vs ps gs k → F k) (hrb : ¬ F rb)
    (hc : Chg S w w') (hS : ∀ k, S k → k = hb ∨ vs.ownBlock = some k) (hhead : Blk w' hb [vs', .map (some rb)] 59) (hown : w'.ownsRow 0 73 1 vs' (H.length + 1) (ps.map ptrOf ++ [ptrOf p]))
    (ho : ObW w' p g o) (hp : ¬ F p) (hg : ¬ F g) (hv' : ∀ k, vs'.ownBlock = some k → vs.ownBlock = some k ∨ (k ≠ hb ∧ k ∉ ps ∧ k ∉ gs ∧ k ≠ p ∧ k ≠ g)) : HeapR w' hb rb vs' (ps ++ [p]) (gs ++ [g]) (H ++ [o]) := by
  have hn : ∀ k, k ∈ ps ∨ k ∈ gs → ¬ S k := by
    intro k hk hs
    rcases hS k hs with rfl | h2
    · rcases hk with h3 | h3
      · exact h.ap.1.1 h3
      · exact h.ap.1.2 h3
    · rcases hk with h3 | h3
      · exact (h.ap.2 k h2).2.1 h3
      · exact (h.ap.2 k h2).2.2 h3
  refine ⟨hhead, h.rules.chg hc (fun hs => hrb (by rcases hS rb hs with h1 | h1; exact hf _ (.inl h1); exact hf _ (.inr (.inl h1)))), by simpa using hown, by simp [h.lenp], by simp [h.leng], ?_, ?_, ⟨⟨?_, ?_⟩, ?_⟩, ?_⟩
  · refine List.nodup_append.2 ⟨h.ndp, List.pairwise_singleton _ _, fun a ha b hb2 e => ?_⟩
    simp at hb2
    exact hp (hb2 ▸ e ▸ hf a (.inr (.inr (.inl ha))))
  · refine List.nodup_append.2 ⟨h.ndg, List.pairwise_singleton _ _, fun a ha b hb2 e => ?_⟩
    simp at hb2
    exact hg (hb2 ▸ e ▸ hf a (.inr (.inr (.inr ha))))
  · simp only [List.mem_append, List.mem_singleton, not_or]
    exact ⟨h.ap.1.1, fun e => hp (e ▸ hf hb (.inl rfl))⟩
  · simp only [List.mem_append, List.mem_singleton, not_or]
    exact ⟨h.ap.1.2, fun e => hg (e ▸ hf hb (.inl rfl))⟩
  · intro k hk
    simp only [List.mem_append, List.mem_singleton, not_or]
    rcases hv' k hk with h2 | ⟨h2, h3, h4, h5, h6⟩
    · exact ⟨(h.ap.2 k h2).1, ⟨(h.ap.2 k h2).2.1, fun e => hp (e ▸ hf k (.inr (.inl h2)))⟩, ⟨(h.ap.2 k h2).2.2, fun e => hg (e ▸ hf k (.inr (.inl h2)))⟩⟩
    · exact ⟨h2, ⟨h3, h5⟩, ⟨h4, h6⟩⟩
  · intro i p' g' o' h1 h2 h3
    rcases Nat.lt_or_ge i H.length with hi | hi
    · rw [List.getElem?_append_left (by rw [h.lenp]; exact hi)] at h1
      rw [List.getElem?_append_left (by rw [h.leng]; exact hi)] at h2
      rw [List.getElem?_append_left hi] at h3
      exact (h.obj i p' g' o' h1 h2 h3).chg hc (hn _ (.inl (List.mem_of_getElem? h1))) (hn _ (.inr (List.mem_of_getElem? h2)))
    · rw [List.getElem?_append_right (by rw [h.lenp]; exact hi)] at h1
      rw [List.getElem?_append_right (by rw [h.leng]; exact hi)] at h2
      rw [List.getElem?_append_right hi] at h3
      have hi0 : i = H.length := by have := (List.getElem?_eq_some_iff.1 h3).1; simp at this; omega
      subst hi0
      simp [h.lenp] at h1; simp [h.leng] at h2; simp at h3
      subst h1; subst h2; subst h3
      exact ho

-- -- function 44
set_option maxHeartbeats 2000000 in
set_option maxRecDepth 8000 in
theorem add_ok (w : World) (hb rb : Nat) (H : List Ob) (F : Nat → Prop) (hH : HeapW w hb rb H F) (hl : H.length ≤ 1048576) (p g : Nat) (o : Ob) (ho : ObW w p g o) (hp : ¬ F p) (hg : ¬ F g) (hps : p < w.heap.size) (hgs : g < w.heap.size) (hpr : p ≠ rb) (hgr : g ≠ rb) :
    Rets Tryd.prog 44 [ptrOf hb, ptrOf p] w (fun v w' => v = .int .i64 ((H.length : Int) + 1) ∧ Chg F w w' ∧ ∃ F', HeapW w' hb rb (H ++ [o]) F' ∧ ∀ k, F' k → F k ∨ k = p ∨ k = g ∨ (w.heap.size ≤ k ∧ k < w'.heap.size)) := by
  obtain ⟨vs, ps, gs, hR, hf, hrb⟩ := hH
  obtain ⟨A, c, hv, hlen, hcell⟩ := hR.sli (by omega)
  have hL : (ps.map fun p => [ptrOf p]).length = H.length := by simp [hR.lenp]
  rw [hL] at hv
  subst hv
  refine rets_of_ok Tryd.func44 rfl rfl ?_
  refine ok_seq (fun M hM => ok_region rfl ?_); repeat ((try first | (refine ofX3 hX ?_; clear hX X) | (refine ofX2 hX ?_; clear hX X)); (first | refine wpL_step (fun X hX => ?_) | refine wpH_step (fun X hX => ?_) | refine wpE_step (fun X hX => ?_) | refine wpL_end ?_ | refine wpH_end ?_ | refine wpE_end ?_); try simp only [ oweC, oweP, opF, opH, ev, evs, evp, evo, Env.get, Env.set, putE, gdst, S0, S1, thenN, inBlockN, argEnv, builtinR, retE, fin, finC, retC, oneC, callR, reduceIte, Nat.reduceEqDiff, Nat.reduceAdd, reduceCtorEq, forall_const, Tryd.results44, Fx.ag56, Fx.fo59_0, Fx.isl56])
  refine hM _ _ _ ?_; clear hM M
  refine ok_seq (fun M hM => ok_region rfl ?_)
  repeat ((try first | (refine ofX3 hX ?_; clear hX X) | (refine ofX2 hX ?_; clear hX X)); (first | refine wpL_step (fun X hX => ?_) | refine wpH_step (fun X hX => ?_) | refine wpE_step (fun X hX => ?_) | refine wpL_end ?_ | refine wpH_end ?_ | refine wpE_end ?_); try simp only [ oweC, oweP, opF, opH, ev, evs, evp, evo, Env.get, Env.set, putE, gdst, S0, S1, thenN, inBlockN, argEnv, builtinR, retE, fin, finC, retC, oneC, callR, reduceIte, Nat.reduceEqDiff, Nat.reduceAdd, reduceCtorEq, forall_const, Tryd.results44, Fx.ag56, Fx.fo59_0, Fx.isl56])
  refine ⟨_, hR.head.cell (j := 0) rfl, ?_⟩
  repeat ((try first | (refine ofX3 hX ?_; clear hX X) | (refine ofX2 hX ?_; clear hX X)); (first | refine wpL_step (fun X hX => ?_) | refine wpH_step (fun X hX => ?_) | refine wpE_step (fun X hX => ?_) | refine wpL_end ?_ | refine wpH_end ?_ | refine wpE_end ?_); try simp only [ oweC, oweP, opF, opH, ev, evs, evp, evo, Env.get, Env.set, putE, gdst, S0, S1, thenN, inBlockN, argEnv, builtinR, retE, fin, finC, retC, oneC, callR, reduceIte, Nat.reduceEqDiff, Nat.reduceAdd, reduceCtorEq, forall_const, Tryd.results44, Fx.ag56, Fx.fo59_0, Fx.isl56])
  refine Runs.lit (cs := [ptrOf p]) Fx.un56 Fx.zi73 (by decide) (by kernel_rfl) (by decide) (fun w1 he1 hs1 hb1 => ?_)
  repeat ((try first | (refine ofX3 hX ?_; clear hX X) | (refine ofX2 hX ?_; clear hX X)); (first | refine wpL_step (fun X hX => ?_) | refine wpH_step (fun X hX => ?_) | refine wpE_step (fun X hX => ?_) | refine wpL_end ?_ | refine wpH_end ?_ | refine wpE_end ?_); try simp only [ oweC, oweP, opF, opH, ev, evs, evp, evo, Env.get, Env.set, putE, gdst, S0, S1, thenN, inBlockN, argEnv, builtinR, retE, fin, finC, retC, oneC, callR, reduceIte, Nat.reduceEqDiff, Nat.reduceAdd, reduceCtorEq, forall_const, Tryd.results44, Fx.ag56, Fx.fo59_0, Fx.isl56])
  have hown1 := owns_chg' hR.own (he1.chg (fun _ => False)) (fun _ _ h => h)
  refine Runs.append1' Fx.un56 Fx.zi73 rfl (by decide) hown1 hb1 rfl (by intro u hu; simp at hu; subst hu; rfl) (by simp [maxLen]; omega) (by omega) (by omega) (fun v' w2 hown2 hg2 hblk => ?_)
  repeat ((try first | (refine ofX3 hX ?_; clear hX X) | (refine ofX2 hX ?_; clear hX X)); (first | refine wpL_step (fun X hX => ?_) | refine wpH_step (fun X hX => ?_) | refine wpE_step (fun X hX => ?_) | refine wpL_end ?_ | refine wpH_end ?_ | refine wpE_end ?_); try simp only [ oweC, oweP, opF, opH, ev, evs, evp, evo, Env.get, Env.set, putE, gdst, S0, S1, thenN, inBlockN, argEnv, builtinR, retE, fin, finC, retC, oneC, callR, reduceIte, Nat.reduceEqDiff, Nat.reduceAdd, reduceCtorEq, forall_const, Tryd.results44, Fx.ag56, Fx.fo59_0, Fx.isl56])
  have hc12 : Chg (fun k => (Value.slice A H.length c).ownBlock = some k) w1 w2 := ⟨hg2.os, hg2.tape, hg2.output, hg2.size, fun k hk hs => hg2.block k hk (fun e => hs e.symm)⟩
  have hhb : ¬ (Value.slice A H.length c).ownBlock = some hb := fun h => (hR.ap.2 hb h).1 rfl
  have hb2 : Blk w2 hb [.slice A H.length c, .map (some rb)] 59 := (hR.head.ext he1).chg hc12 hhb
  obtain ⟨g', cap, hvn⟩ : ∃ g' cap, v' = .slice (some ⟨g', 0, none⟩) (H.length + 1) cap := by
    rcases hown2.2 with ⟨-, h0⟩ | ⟨g', cap, cur, h1, _⟩
    · omega
    · exact ⟨g', cap, h1⟩
  subst hvn
  refine Runs.store hb2 Fx.zi56 rfl (by intro u hu; simp [Value.cells] at hu; subst hu; rfl) (by simp) (fun w3 hc3 hs3 hb3 => ?_)
  simp only [splice, Value.cells, List.take_zero, List.nil_append, List.singleton_append, List.length_singleton, Nat.zero_add, List.drop_succ_cons, List.drop_zero] at hb3
  repeat ((try first | (refine ofX3 hX ?_; clear hX X) | (refine ofX2 hX ?_; clear hX X)); (first | refine wpL_step (fun X hX => ?_) | refine wpH_step (fun X hX => ?_) | refine wpE_step (fun X hX => ?_) | refine wpL_end ?_ | refine wpH_end ?_ | refine wpE_end ?_); try simp only [ oweC, oweP, opF, opH, ev, evs, evp, evo, Env.get, Env.set, putE, gdst, S0, S1, thenN, inBlockN, argEnv, builtinR, retE, fin, finC, retC, oneC, callR, reduceIte, Nat.reduceEqDiff, Nat.reduceAdd, reduceCtorEq, forall_const, Tryd.results44, Fx.ag56, Fx.fo59_0, Fx.isl56])
  refine hM _ _ _ ?_; clear hM M
  refine ok_seq (fun M hM => ok_region rfl ?_)
  repeat ((try first | (refine ofX3 hX ?_; clear hX X) | (refine ofX2 hX ?_; clear hX X)); (first | refine wpL_step (fun X hX => ?_) | refine wpH_step (fun X hX => ?_) | refine wpE_step (fun X hX => ?_) | refine wpL_end ?_ | refine wpH_end ?_ | refine wpE_end ?_); try simp only [ oweC, oweP, opF, opH, ev, evs, evp, evo, Env.get, Env.set, putE, gdst, S0, S1, thenN, inBlockN, argEnv, builtinR, retE, fin, finC, retC, oneC, callR, reduceIte, Nat.reduceEqDiff, Nat.reduceAdd, reduceCtorEq, forall_const, Tryd.results44, Fx.ag56, Fx.fo59_0, Fx.isl56])
  refine ⟨_, hb3.cell (j := 0) rfl, ?_⟩
  repeat ((try first | (refine ofX3 hX ?_; clear hX X) | (refine ofX2 hX ?_; clear hX X)); (first | refine wpL_step (fun X hX => ?_) | refine wpH_step (fun X hX => ?_) | refine wpE_step (fun X hX => ?_) | refine wpL_end ?_ | refine wpH_end ?_ | refine wpE_end ?_); try simp only [ oweC, oweP, opF, opH, ev, evs, evp, evo, Env.get, Env.set, putE, gdst, S0, S1, thenN, inBlockN, argEnv, builtinR, retE, fin, finC, retC, oneC, callR, reduceIte, Nat.reduceEqDiff, Nat.reduceAdd, reduceCtorEq, forall_const, Tryd.results44, Fx.ag56, Fx.fo59_0, Fx.isl56])
  refine hM _ _ _ ?_; clear hM M
  refine ok_ret ?_
  try simp only [wpL, wpH, wpE, oweC, oweP, opF, opH, ev, evs, evp, evo, Env.get, Env.set, putE, gdst, S0, S1, thenN, inBlockN, argEnv, builtinR, retE, fin, finC, retC, oneC, callR, reduceIte, Nat.reduceEqDiff, Nat.reduceAdd, reduceCtorEq, forall_const, Tryd.results44, Fx.ag56, Fx.fo59_0, Fx.isl56]
  have hcF : Chg F w w3 := (he1.chg F).trans ((hc12.mono (fun k _ hk => hf k (.inr (.inl hk)) |>.1)).trans (hc3.mono (fun k _ hk => by subst hk; exact (hf k (.inl rfl)).1)))
  refine ⟨by push_cast; rfl, hcF, fun k => F k ∨ k = p ∨ k = g ∨ k = g', ⟨_, ps ++ [p], gs ++ [g], HeapR.push (S := fun k => k = hb ∨ (Value.slice A H.length c).ownBlock = some k) hR (fun k hk => (hf k hk).1) hrb ?_ (fun k h => h) hb3 ?_ ?_ hp hg ?_, ?_, ?_⟩, ?_⟩
  · exact (he1.chg _).trans ((hc12.mono (fun k _ hk => .inr hk)).trans (hc3.mono (fun k _ hk => .inl hk)))
  · exact owns_chg' hown2 hc3 (fun k hk hs => by
      rcases hblk with h1 | h1
      · exact hhb (hs ▸ h1 ▸ hk)
      · rw [h1] at hk; cases hk; have := (hf hb (.inl rfl)).2; omega)
  · refine ((ho.chg (he1.chg (fun _ => False)) id id).chg hc12 ?_ ?_).chg hc3 ?_ ?_
    · exact fun h => hp (hf p (.inr (.inl h))).1
    · exact fun h => hg (hf g (.inr (.inl h))).1
    · exact fun h => hp (h ▸ (hf hb (.inl rfl)).1)
    · exact fun h => hg (h ▸ (hf hb (.inl rfl)).1)
  · intro k hk
    rcases hblk with h1 | h1
    · exact .inl (h1 ▸ hk)
    · rw [h1] at hk; cases hk
      refine .inr ⟨?_, ?_, ?_, by omega, by omega⟩
      · intro e; have := (hf hb (.inl rfl)).2; omega
      · intro e; have := (hf _ (.inr (.inr (.inl e)))).2; omega
      · intro e; have := (hf _ (.inr (.inr (.inr e)))).2; omega
  · intro k hk
    have hs13 : w.heap.size ≤ w3.heap.size := hcF.size
    rcases hk with rfl | hk | hk | hk
    · exact ⟨.inl (hf _ (.inl rfl)).1, by have := (hf _ (.inl rfl)).2; omega⟩
    · simp [Value.ownBlock] at hk; subst hk
      refine ⟨.inr (.inr (.inr rfl)), ?_⟩
      have := (hown2.lt g' rfl).2
      omega
    · rcases List.mem_append.1 hk with hk | hk
      · exact ⟨.inl (hf _ (.inr (.inr (.inl hk)))).1, by have := (hf _ (.inr (.inr (.inl hk)))).2; omega⟩
      · simp at hk; subst hk; exact ⟨.inr (.inl rfl), by omega⟩
    · rcases List.mem_append.1 hk with hk | hk
      · exact ⟨.inl (hf _ (.inr (.inr (.inr hk)))).1, by have := (hf _ (.inr (.inr (.inr hk)))).2; omega⟩
      · simp at hk; subst hk; exact ⟨.inr (.inr (.inl rfl)), by omega⟩
  · rintro (h | h | h | h)
    · exact hrb h
    · exact hpr h.symm
    · exact hgr h.symm
    · rcases hblk with h1 | h1
      · exact hrb (h ▸ (hf g' (.inr (.inl (h1 ▸ rfl)))).1)
      · simp [Value.ownBlock] at h1; have := hR.rules.lt; omega
  · rintro k (h | h | h | h)
    · exact .inl h
    · exact .inr (.inl h)
    · exact .inr (.inr (.inl h))
    · subst h
      rcases hblk with h1 | h1
      · exact .inl (hf k (.inr (.inl (h1 ▸ rfl)))).1
      · simp [Value.ownBlock] at h1; refine .inr (.inr (.inr ⟨by omega, ?_⟩)); have := (hown2.lt k rfl).2; omega
end Go.Proofs.YtldeokfhipjbfaaDoor
