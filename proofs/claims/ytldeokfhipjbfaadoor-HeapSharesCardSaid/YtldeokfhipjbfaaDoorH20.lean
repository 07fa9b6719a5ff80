/- awake: the examples of the chapter. -/
import Derived.Test.YtldeokfhipjbfaaDoorH19
set_option linter.unusedVariables false
set_option linter.unusedSimpArgs false
namespace Go.Proofs.YtldeokfhipjbfaaDoor
open Go Go.Proofs.Vg Go.RowKit

def xA : Val := .mk 4 1 ⟨#[]⟩ [.mk 1 1 ⟨#[]⟩ [], .mk 4 0 ⟨#[]⟩ []]
def obA : Ob := .words 4 [⟨1, 1, 0⟩, ⟨4, 0, 0⟩]
def wA : Wd := ⟨4, 1, 1⟩
def aA : Wd := ⟨7, 0, 2⟩
def H2A : List Ob := [obA, .words 7 [wA]]
def H3A : List Ob := [obA, .words 7 [aA]]
theorem storeA : storeS [] xA = ([obA], wA, 0) := by rfl
theorem makeA : makeE [obA] 7 0 [wA] = 0 := by rfl
theorem makeA2 : mkW [obA] 7 0 [wA] = (H2A, aA) := by rfl
theorem setA : setE H2A aA 0 aA = 0 := by rfl
theorem setA2 : setH H2A aA 0 aA = H3A := by rfl
theorem errA : errL H3A aA = 13 := by rfl
theorem collA : (collH H3A [wA]).length = 1 := by rfl
theorem anyA : [wA].any (fun x => !rightW H3A x) = false := by rfl
theorem rightA : rightW H3A aA = true := by rfl
theorem ringA : ringF H3A [aA] = true := by rfl
theorem wfA : Wf H3A := by
  intro o ho x hx
  simp [H3A, obA] at ho
  rcases ho with rfl | rfl
  · simp [Ob.list] at hx; rcases hx with rfl | rfl <;> simp [H3A]
  · simp [Ob.list] at hx; subst hx; simp [aA, H3A]
theorem limA : ∀ x, (argsOf H3A x).length ≤ 1048576 := by
  intro x
  unfold argsOf
  cases h : objAt H3A x.r with
  | none => simp [argsO]
  | some o =>
    have hm : o ∈ H3A := by
      unfold objAt at h
      split at h
      · exact List.mem_of_getElem? h
      · cases h
    simp [H3A, obA] at hm
    rcases hm with rfl | rfl <;> simp [argsO]

/-- What is known between the acts: the heap, what belongs to it, that all else grew. -/
structure AW (w0 w : World) (hb rb : Nat) (H : List Ob) (F : Nat → Prop) : Prop where
  hp : HeapW w hb rb H F
  ext : Ext w0 w
  lt : ∀ k, F k → w0.heap.size ≤ k ∧ k < w.heap.size
theorem AW.ex {w0 w w' : World} {hb rb : Nat} {H : List Ob} {F : Nat → Prop} (h : AW w0 w hb rb H F) (he : Ext w w') : AW w0 w' hb rb H F :=
  ⟨h.hp.ext he, h.ext.trans he, fun k hk => ⟨(h.lt k hk).1, Nat.lt_of_lt_of_le (h.lt k hk).2 he.size⟩⟩
theorem AW.grown {w0 w w' : World} {hb rb : Nat} {H H' : List Ob} {F : Nat → Prop} (h : AW w0 w hb rb H F) (hg : Grown w w' hb rb H' F) : ∃ F', AW w0 w' hb rb H' F' ∧ Chg F w w' ∧ ∀ k, F' k → F k ∨ (w.heap.size ≤ k ∧ k < w'.heap.size) := by
  obtain ⟨hc, F', h1, h2⟩ := hg
  have hs := h.ext.size
  have hs2 := hc.size
  refine ⟨F', ⟨h1, h.ext.chg_trans hc (fun k hk => (h.lt k hk).1), fun k hk => ?_⟩, hc, h2⟩
  rcases h2 k hk with h3 | h3
  · have := h.lt k h3; omega
  · omega

-- -- function 6
set_option maxHeartbeats 4000000 in
set_option maxRecDepth 8000 in
theorem awake_ok (w : World) (mk : Nat) (hg : Glob w mk) : Rets Tryd.prog 6 [] w (fun v w' => v = .bool true ∧ Ext w w') := by
  have hglt := hg.lt
  refine rets_of_ok Tryd.func6 rfl rfl ?_
  refine ok_seq (fun M hM => ok_region rfl ?_); repeat ((try first | (refine ofX3 hX ?_; clear hX X) | (refine ofX2 hX ?_; clear hX X)); (first | refine wpL_step (fun X hX => ?_) | refine wpH_step (fun X hX => ?_) | refine wpE_step (fun X hX => ?_) | refine wpL_end ?_ | refine wpH_end ?_ | refine wpE_end ?_); try simp only [ oweC, oweP, opF, opH, ev, evs, evp, evo, Env.get, Env.set, putE, gdst, S0, S1, thenN, inBlockN, argEnv, builtinR, retE, fin, callR, reduceIte, Nat.reduceEqDiff, Nat.reduceAdd, reduceCtorEq, forall_const, Tryd.results6, Fx.ag3, Fx.ag31, Fx.fo31_2, Fx.isl42])
  refine hM _ _ _ ?_; clear hM M
  refine ok_seq (fun M hM => ok_region rfl ?_)
  repeat ((try first | (refine ofX3 hX ?_; clear hX X) | (refine ofX2 hX ?_; clear hX X)); (first | refine wpL_step (fun X hX => ?_) | refine wpH_step (fun X hX => ?_) | refine wpE_step (fun X hX => ?_) | refine wpL_end ?_ | refine wpH_end ?_ | refine wpE_end ?_); try simp only [ oweC, oweP, opF, opH, ev, evs, evp, evo, Env.get, Env.set, putE, gdst, S0, S1, thenN, inBlockN, argEnv, builtinR, retE, fin, callR, reduceIte, Nat.reduceEqDiff, Nat.reduceAdd, reduceCtorEq, forall_const, Tryd.results6, Fx.ag3, Fx.ag31, Fx.fo31_2, Fx.isl42])
  refine Inv.call Fx.en8 (new_ok w) ?_
  rintro v w1 ⟨hb, rb, rfl, hH1, he1, hhb, hrb⟩
  have hA1 : AW w w1 hb rb [] (fun k => k = hb) := ⟨hH1, he1, fun k hk => by subst hk; obtain ⟨vs, ps, gs, h1, h2, h3⟩ := hH1; exact ⟨hhb, (h2 _ (.inl rfl)).2⟩⟩
  repeat ((try first | (refine ofX3 hX ?_; clear hX X) | (refine ofX2 hX ?_; clear hX X)); (first | refine wpL_step (fun X hX => ?_) | refine wpH_step (fun X hX => ?_) | refine wpE_step (fun X hX => ?_) | refine wpL_end ?_ | refine wpH_end ?_ | refine wpE_end ?_); try simp only [ oweC, oweP, opF, opH, ev, evs, evp, evo, Env.get, Env.set, putE, gdst, S0, S1, thenN, inBlockN, argEnv, builtinR, retE, fin, callR, reduceIte, Nat.reduceEqDiff, Nat.reduceAdd, reduceCtorEq, forall_const, Tryd.results6, Fx.ag3, Fx.ag31, Fx.fo31_2, Fx.isl42])
  refine hM _ _ _ ?_; clear hM M
  refine ok_join [(1, ptrOf hb)] (fun w' => w' = w1) ?_ ?_
  · refine ok_seq (fun M hM => ok_region rfl ?_)
    repeat ((try first | (refine ofX3 hX ?_; clear hX X) | (refine ofX2 hX ?_; clear hX X)); (first | refine wpL_step (fun X hX => ?_) | refine wpH_step (fun X hX => ?_) | refine wpE_step (fun X hX => ?_) | refine wpL_end ?_ | refine wpH_end ?_ | refine wpE_end ?_); try simp only [ oweC, oweP, opF, opH, ev, evs, evp, evo, Env.get, Env.set, putE, gdst, S0, S1, thenN, inBlockN, argEnv, builtinR, retE, fin, callR, reduceIte, Nat.reduceEqDiff, Nat.reduceAdd, reduceCtorEq, forall_const, Tryd.results6, Fx.ag3, Fx.ag31, Fx.fo31_2, Fx.isl42])
    refine Runs.ptrEq Fx.un28 ?_
    repeat ((try first | (refine ofX3 hX ?_; clear hX X) | (refine ofX2 hX ?_; clear hX X)); (first | refine wpL_step (fun X hX => ?_) | refine wpH_step (fun X hX => ?_) | refine wpE_step (fun X hX => ?_) | refine wpL_end ?_ | refine wpH_end ?_ | refine wpE_end ?_); try simp only [ oweC, oweP, opF, opH, ev, evs, evp, evo, Env.get, Env.set, putE, gdst, S0, S1, thenN, inBlockN, argEnv, builtinR, retE, fin, callR, reduceIte, Nat.reduceEqDiff, Nat.reduceAdd, reduceCtorEq, forall_const, Tryd.results6, Fx.ag3, Fx.ag31, Fx.fo31_2, Fx.isl42])
    refine hM _ _ _ ?_; clear hM M
    refine ok_cond rfl (fun h => by cases h) (fun _ => ok_skip ?_)
    try simp only [wpL, wpH, wpE, oweC, oweP, opF, opH, ev, evs, evp, evo, Env.get, Env.set, putE, gdst, S0, S1, thenN, inBlockN, argEnv, builtinR, retE, fin, callR, reduceIte, Nat.reduceEqDiff, Nat.reduceAdd, reduceCtorEq, forall_const, Tryd.results6, Fx.ag3, Fx.ag31, Fx.fo31_2, Fx.isl42]
    simp [sub, Env.get]
  rintro w' rfl
  refine ok_seq (fun M hM => ok_region rfl ?_)
  repeat ((try first | (refine ofX3 hX ?_; clear hX X) | (refine ofX2 hX ?_; clear hX X)); (first | refine wpL_step (fun X hX => ?_) | refine wpH_step (fun X hX => ?_) | refine wpE_step (fun X hX => ?_) | refine wpL_end ?_ | refine wpH_end ?_ | refine wpE_end ?_); try simp only [ oweC, oweP, opF, opH, ev, evs, evp, evo, Env.get, Env.set, putE, gdst, S0, S1, thenN, inBlockN, argEnv, builtinR, retE, fin, callR, reduceIte, Nat.reduceEqDiff, Nat.reduceAdd, reduceCtorEq, forall_const, Tryd.results6, Fx.ag3, Fx.ag31, Fx.fo31_2, Fx.isl42])
  refine Inv.call Fx.en18 (num_ok w' 1) ?_
  rintro v w2 ⟨rfl, he2⟩
  repeat ((try first | (refine ofX3 hX ?_; clear hX X) | (refine ofX2 hX ?_; clear hX X)); (first | refine wpL_step (fun X hX => ?_) | refine wpH_step (fun X hX => ?_) | refine wpE_step (fun X hX => ?_) | refine wpL_end ?_ | refine wpH_end ?_ | refine wpE_end ?_); try simp only [ oweC, oweP, opF, opH, ev, evs, evp, evo, Env.get, Env.set, putE, gdst, S0, S1, thenN, inBlockN, argEnv, builtinR, retE, fin, callR, reduceIte, Nat.reduceEqDiff, Nat.reduceAdd, reduceCtorEq, forall_const, Tryd.results6, Fx.ag3, Fx.ag31, Fx.fo31_2, Fx.isl42])
  refine ⟨_, w2, run_build (P := Tryd.prog) w2 24 _ #[.int .i64 4, .int .i64 0, .string ⟨#[]⟩, .slice none 0 0] (by kernel_rfl), ?_⟩
  repeat ((try first | (refine ofX3 hX ?_; clear hX X) | (refine ofX2 hX ?_; clear hX X)); (first | refine wpL_step (fun X hX => ?_) | refine wpH_step (fun X hX => ?_) | refine wpE_step (fun X hX => ?_) | refine wpL_end ?_ | refine wpH_end ?_ | refine wpE_end ?_); try simp only [ oweC, oweP, opF, opH, ev, evs, evp, evo, Env.get, Env.set, putE, gdst, S0, S1, thenN, inBlockN, argEnv, builtinR, retE, fin, callR, reduceIte, Nat.reduceEqDiff, Nat.reduceAdd, reduceCtorEq, forall_const, Tryd.results6, Fx.ag3, Fx.ag31, Fx.fo31_2, Fx.isl42])
  refine Runs.lit (cs := [.int .i64 1, .int .i64 1, .string ⟨#[]⟩, .slice none 0 0, .int .i64 4, .int .i64 0, .string ⟨#[]⟩, .slice none 0 0]) Fx.un22 Fx.zi24 (by decide) (by kernel_rfl) (by decide) (fun w3 he3 hs3 hb3 => ?_)
  generalize hB3 : w2.heap.size = B3 at hs3 hb3
  repeat ((try first | (refine ofX3 hX ?_; clear hX X) | (refine ofX2 hX ?_; clear hX X)); (first | refine wpL_step (fun X hX => ?_) | refine wpH_step (fun X hX => ?_) | refine wpE_step (fun X hX => ?_) | refine wpL_end ?_ | refine wpH_end ?_ | refine wpE_end ?_); try simp only [ oweC, oweP, opF, opH, ev, evs, evp, evo, Env.get, Env.set, putE, gdst, S0, S1, thenN, inBlockN, argEnv, builtinR, retE, fin, callR, reduceIte, Nat.reduceEqDiff, Nat.reduceAdd, reduceCtorEq, forall_const, Tryd.results6, Fx.ag3, Fx.ag31, Fx.fo31_2, Fx.isl42])
  refine ⟨_, w3, run_build (P := Tryd.prog) w3 24 _ #[.int .i64 4, .int .i64 1, .string ⟨#[]⟩, .slice (some ⟨B3, 0, none⟩) 2 2] (by kernel_rfl), ?_⟩
  repeat ((try first | (refine ofX3 hX ?_; clear hX X) | (refine ofX2 hX ?_; clear hX X)); (first | refine wpL_step (fun X hX => ?_) | refine wpH_step (fun X hX => ?_) | refine wpE_step (fun X hX => ?_) | refine wpL_end ?_ | refine wpH_end ?_ | refine wpE_end ?_); try simp only [ oweC, oweP, opF, opH, ev, evs, evp, evo, Env.get, Env.set, putE, gdst, S0, S1, thenN, inBlockN, argEnv, builtinR, retE, fin, callR, reduceIte, Nat.reduceEqDiff, Nat.reduceAdd, reduceCtorEq, forall_const, Tryd.results6, Fx.ag3, Fx.ag31, Fx.fo31_2, Fx.isl42])
  have hA3 := hA1.ex (he2.trans he3)
  have hs1 := he1.size
  have hs2 := he2.size
  have hl1 := hA1.lt
  have hxA : VRowS w3 (fun k => k = B3) [.int .i64 4, .int .i64 1, .string ⟨#[]⟩, .slice (some ⟨B3, 0, none⟩) 2 2] xA := by
    simp only [xA, VRowS]
    refine ⟨_, rfl, rfl, rfl, [[.int .i64 1, .int .i64 1, .string ⟨#[]⟩, .slice none 0 0], [.int .i64 4, .int .i64 0, .string ⟨#[]⟩, .slice none 0 0]], ⟨_, 2, rfl, by simp, fun j row hj => ?_⟩, ?_⟩
    · have hjl := (List.getElem?_eq_some_iff.1 hj).1
      simp at hjl
      have : j = 0 ∨ j = 1 := by omega
      rcases this with rfl | rfl
      · simp at hj; subst hj
        exact ⟨B3, 0, rfl, rfl, hb3.cells (o := 0) (fun j u hj => by
          have := (List.getElem?_eq_some_iff.1 hj).1
          simp at this
          have : j = 0 ∨ j = 1 ∨ j = 2 ∨ j = 3 := by omega
          rcases this with rfl | rfl | rfl | rfl <;> simpa using hj)⟩
      · simp at hj; subst hj
        exact ⟨B3, 0, rfl, rfl, hb3.cells (o := 4) (fun j u hj => by
          have := (List.getElem?_eq_some_iff.1 hj).1
          simp at this
          have : j = 0 ∨ j = 1 ∨ j = 2 ∨ j = 3 := by omega
          rcases this with rfl | rfl | rfl | rfl <;> simpa using hj)⟩
    · have nilS : ∀ (S : Nat → Prop), SliS w3 S 4 (.slice none 0 0) [] := fun S => ⟨none, 0, rfl, by simp, fun j row hj => by simp at hj⟩
      simp only [VRowsS, VRowS]
      exact ⟨⟨_, rfl, rfl, rfl, [], nilS _, by simp only [VRowsS]⟩, ⟨_, rfl, rfl, rfl, [], nilS _, by simp only [VRowsS]⟩, trivial⟩
  refine Inv.call Fx.en9 (Store_ok xA w3 _ _ mk hb rb [] _ hxA (fun k hk => ⟨fun h => by have := hl1 k h; omega, by omega⟩) (hg.ext hA3.ext) ⟨by omega, by omega, by omega⟩ hA3.hp (fun k hk => (hA3.lt k hk).2) (by simp [xA, cntV, cntVs])) ?_
  rw [storeA]
  rintro v w4 ⟨rfl, hG4⟩
  obtain ⟨F4, hA4, hc4, hF4⟩ := hA3.grown hG4
  repeat ((try first | (refine ofX3 hX ?_; clear hX X) | (refine ofX2 hX ?_; clear hX X)); (first | refine wpL_step (fun X hX => ?_) | refine wpH_step (fun X hX => ?_) | refine wpE_step (fun X hX => ?_) | refine wpL_end ?_ | refine wpH_end ?_ | refine wpE_end ?_); try simp only [ oweC, oweP, opF, opH, ev, evs, evp, evo, Env.get, Env.set, putE, gdst, S0, S1, thenN, inBlockN, argEnv, builtinR, retE, fin, callR, reduceIte, Nat.reduceEqDiff, Nat.reduceAdd, reduceCtorEq, forall_const, Tryd.results6, Fx.ag3, Fx.ag31, Fx.fo31_2, Fx.isl42])
  refine Runs.alloc Fx.zi31 (fun w5 he5 hs5 hb5 => ?_)
  generalize hC2 : w4.heap.size = C2 at hs5 hb5
  repeat ((try first | (refine ofX3 hX ?_; clear hX X) | (refine ofX2 hX ?_; clear hX X)); (first | refine wpL_step (fun X hX => ?_) | refine wpH_step (fun X hX => ?_) | refine wpE_step (fun X hX => ?_) | refine wpL_end ?_ | refine wpH_end ?_ | refine wpE_end ?_); try simp only [ oweC, oweP, opF, opH, ev, evs, evp, evo, Env.get, Env.set, putE, gdst, S0, S1, thenN, inBlockN, argEnv, builtinR, retE, fin, callR, reduceIte, Nat.reduceEqDiff, Nat.reduceAdd, reduceCtorEq, forall_const, Tryd.results6, Fx.ag3, Fx.ag31, Fx.fo31_2, Fx.isl42])
  refine Runs.store hb5 Fx.zi31 rfl (by intro u hu; simp [Value.cells, Wd.row] at hu; rcases hu with rfl | rfl | rfl <;> rfl) (by simp [Value.cells]) (fun w6 hc6 hs6 hb6 => ?_)
  rw [splice_all _ _ (by simp [Value.cells])] at hb6
  simp only [Value.cells] at hb6
  have hA6 := hA4.ex (he5.chg_trans hc6 (fun k hk => by omega))
  have hl4 := hA4.lt
  repeat ((try first | (refine ofX3 hX ?_; clear hX X) | (refine ofX2 hX ?_; clear hX X)); (first | refine wpL_step (fun X hX => ?_) | refine wpH_step (fun X hX => ?_) | refine wpE_step (fun X hX => ?_) | refine wpL_end ?_ | refine wpH_end ?_ | refine wpE_end ?_); try simp only [ oweC, oweP, opF, opH, ev, evs, evp, evo, Env.get, Env.set, putE, gdst, S0, S1, thenN, inBlockN, argEnv, builtinR, retE, fin, callR, reduceIte, Nat.reduceEqDiff, Nat.reduceAdd, reduceCtorEq, forall_const, Tryd.results6, Fx.ag3, Fx.ag31, Fx.fo31_2, Fx.isl42])
  refine hM _ _ _ ?_; clear hM M
  -- Make
  refine ok_seq (fun M hM => ok_region rfl ?_)
  repeat ((try first | (refine ofX3 hX ?_; clear hX X) | (refine ofX2 hX ?_; clear hX X)); (first | refine wpL_step (fun X hX => ?_) | refine wpH_step (fun X hX => ?_) | refine wpE_step (fun X hX => ?_) | refine wpL_end ?_ | refine wpH_end ?_ | refine wpE_end ?_); try simp only [ oweC, oweP, opF, opH, ev, evs, evp, evo, Env.get, Env.set, putE, gdst, S0, S1, thenN, inBlockN, argEnv, builtinR, retE, fin, callR, reduceIte, Nat.reduceEqDiff, Nat.reduceAdd, reduceCtorEq, forall_const, Tryd.results6, Fx.ag3, Fx.ag31, Fx.fo31_2, Fx.isl42])
  refine ⟨wA.row, rfl, hb6.cells (o := 0) (fun j u hj => by simpa using hj), ?_⟩
  repeat ((try first | (refine ofX3 hX ?_; clear hX X) | (refine ofX2 hX ?_; clear hX X)); (first | refine wpL_step (fun X hX => ?_) | refine wpH_step (fun X hX => ?_) | refine wpE_step (fun X hX => ?_) | refine wpL_end ?_ | refine wpH_end ?_ | refine wpE_end ?_); try simp only [ oweC, oweP, opF, opH, ev, evs, evp, evo, Env.get, Env.set, putE, gdst, S0, S1, thenN, inBlockN, argEnv, builtinR, retE, fin, callR, reduceIte, Nat.reduceEqDiff, Nat.reduceAdd, reduceCtorEq, forall_const, Tryd.results6, Fx.ag3, Fx.ag31, Fx.fo31_2, Fx.isl42])
  refine Runs.lit (cs := wA.row) Fx.un42 Fx.zi31 (by decide) (by kernel_rfl) (by decide) (fun w7 he7 hs7 hb7 => ?_)
  generalize hB7 : w6.heap.size = B7 at hs7 hb7
  have one : ∀ (W : World) (B : Nat) (x : Wd), Blk W B x.row 31 → SlW W (.slice (some ⟨B, 0, none⟩) 1 1) [x] := fun W B x hbx => ⟨some ⟨B, 0, none⟩, 1, rfl, by simp, fun j row hj => by
    have hj0 : j = 0 := by have := (List.getElem?_eq_some_iff.1 hj).1; simp at this; exact this
    subst hj0
    simp at hj; subst hj
    exact ⟨B, 0, rfl, hbx.cells (o := 0) (fun j u hj => by simpa using hj)⟩⟩
  have hA7 := hA6.ex he7
  repeat ((try first | (refine ofX3 hX ?_; clear hX X) | (refine ofX2 hX ?_; clear hX X)); (first | refine wpL_step (fun X hX => ?_) | refine wpH_step (fun X hX => ?_) | refine wpE_step (fun X hX => ?_) | refine wpL_end ?_ | refine wpH_end ?_ | refine wpE_end ?_); try simp only [ oweC, oweP, opF, opH, ev, evs, evp, evo, Env.get, Env.set, putE, gdst, S0, S1, thenN, inBlockN, argEnv, builtinR, retE, fin, callR, reduceIte, Nat.reduceEqDiff, Nat.reduceAdd, reduceCtorEq, forall_const, Tryd.results6, Fx.ag3, Fx.ag31, Fx.fo31_2, Fx.isl42])
  refine Inv.call Fx.en14 (Make_ok w7 hb rb [obA] F4 hA7.hp (fun k hk => (hA7.lt k hk).2) (by decide) 7 0 _ [wA] (one w7 B7 wA hb7) (by decide)) ?_
  rw [makeA, makeA2]
  rintro v w8 ⟨rfl, hG8⟩
  simp only [if_true] at hG8 ⊢
  obtain ⟨F8, hA8, hc8, hF8⟩ := hA7.grown hG8
  have hs8 := hc8.size
  have hb8 : Blk w8 C2 wA.row 31 := (hb6.ext he7).chg hc8 (fun h => by have := hl4 C2 h; omega)
  repeat ((try first | (refine ofX3 hX ?_; clear hX X) | (refine ofX2 hX ?_; clear hX X)); (first | refine wpL_step (fun X hX => ?_) | refine wpH_step (fun X hX => ?_) | refine wpE_step (fun X hX => ?_) | refine wpL_end ?_ | refine wpH_end ?_ | refine wpE_end ?_); try simp only [ oweC, oweP, opF, opH, ev, evs, evp, evo, Env.get, Env.set, putE, gdst, S0, S1, thenN, inBlockN, argEnv, builtinR, retE, fin, callR, reduceIte, Nat.reduceEqDiff, Nat.reduceAdd, reduceCtorEq, forall_const, Tryd.results6, Fx.ag3, Fx.ag31, Fx.fo31_2, Fx.isl42])
  refine Runs.alloc Fx.zi31 (fun w9 he9 hs9 hb9 => ?_)
  generalize hC4 : w8.heap.size = C4 at hs9 hb9
  repeat ((try first | (refine ofX3 hX ?_; clear hX X) | (refine ofX2 hX ?_; clear hX X)); (first | refine wpL_step (fun X hX => ?_) | refine wpH_step (fun X hX => ?_) | refine wpE_step (fun X hX => ?_) | refine wpL_end ?_ | refine wpH_end ?_ | refine wpE_end ?_); try simp only [ oweC, oweP, opF, opH, ev, evs, evp, evo, Env.get, Env.set, putE, gdst, S0, S1, thenN, inBlockN, argEnv, builtinR, retE, fin, callR, reduceIte, Nat.reduceEqDiff, Nat.reduceAdd, reduceCtorEq, forall_const, Tryd.results6, Fx.ag3, Fx.ag31, Fx.fo31_2, Fx.isl42])
  refine Runs.store hb9 Fx.zi31 rfl (by intro u hu; simp [Value.cells, Wd.row] at hu; rcases hu with rfl | rfl | rfl <;> rfl) (by simp [Value.cells]) (fun w10 hc10 hs10 hb10 => ?_)
  rw [splice_all _ _ (by simp [Value.cells])] at hb10
  simp only [Value.cells] at hb10
  have hA10 := hA8.ex (he9.chg_trans hc10 (fun k hk => by omega))
  have hl8 := hA8.lt
  have hC2F8 : ¬ F8 C2 := fun h => by
    rcases hF8 C2 h with h | h
    · have := hl4 C2 h; omega
    · omega
  have hC2l := hb8.lt
  have hb10' : Blk w10 C2 wA.row 31 := (hb8.ext he9).chg hc10 (by omega)
  repeat ((try first | (refine ofX3 hX ?_; clear hX X) | (refine ofX2 hX ?_; clear hX X)); (first | refine wpL_step (fun X hX => ?_) | refine wpH_step (fun X hX => ?_) | refine wpE_step (fun X hX => ?_) | refine wpL_end ?_ | refine wpH_end ?_ | refine wpE_end ?_); try simp only [ oweC, oweP, opF, opH, ev, evs, evp, evo, Env.get, Env.set, putE, gdst, S0, S1, thenN, inBlockN, argEnv, builtinR, retE, fin, callR, reduceIte, Nat.reduceEqDiff, Nat.reduceAdd, reduceCtorEq, forall_const, Tryd.results6, Fx.ag3, Fx.ag31, Fx.fo31_2, Fx.isl42])
  refine hM _ _ _ ?_; clear hM M
  -- Set
  refine ok_seq (fun M hM => ok_region rfl ?_)
  repeat ((try first | (refine ofX3 hX ?_; clear hX X) | (refine ofX2 hX ?_; clear hX X)); (first | refine wpL_step (fun X hX => ?_) | refine wpH_step (fun X hX => ?_) | refine wpE_step (fun X hX => ?_) | refine wpL_end ?_ | refine wpH_end ?_ | refine wpE_end ?_); try simp only [ oweC, oweP, opF, opH, ev, evs, evp, evo, Env.get, Env.set, putE, gdst, S0, S1, thenN, inBlockN, argEnv, builtinR, retE, fin, callR, reduceIte, Nat.reduceEqDiff, Nat.reduceAdd, reduceCtorEq, forall_const, Tryd.results6, Fx.ag3, Fx.ag31, Fx.fo31_2, Fx.isl42])
  refine ⟨aA.row, rfl, hb10.cells (o := 0) (fun j u hj => by simpa using hj), ?_⟩
  repeat ((try first | (refine ofX3 hX ?_; clear hX X) | (refine ofX2 hX ?_; clear hX X)); (first | refine wpL_step (fun X hX => ?_) | refine wpH_step (fun X hX => ?_) | refine wpE_step (fun X hX => ?_) | refine wpL_end ?_ | refine wpH_end ?_ | refine wpE_end ?_); try simp only [ oweC, oweP, opF, opH, ev, evs, evp, evo, Env.get, Env.set, putE, gdst, S0, S1, thenN, inBlockN, argEnv, builtinR, retE, fin, callR, reduceIte, Nat.reduceEqDiff, Nat.reduceAdd, reduceCtorEq, forall_const, Tryd.results6, Fx.ag3, Fx.ag31, Fx.fo31_2, Fx.isl42])
  refine ⟨aA.row, rfl, hb10.cells (o := 0) (fun j u hj => by simpa using hj), ?_⟩
  repeat ((try first | (refine ofX3 hX ?_; clear hX X) | (refine ofX2 hX ?_; clear hX X)); (first | refine wpL_step (fun X hX => ?_) | refine wpH_step (fun X hX => ?_) | refine wpE_step (fun X hX => ?_) | refine wpL_end ?_ | refine wpH_end ?_ | refine wpE_end ?_); try simp only [ oweC, oweP, opF, opH, ev, evs, evp, evo, Env.get, Env.set, putE, gdst, S0, S1, thenN, inBlockN, argEnv, builtinR, retE, fin, callR, reduceIte, Nat.reduceEqDiff, Nat.reduceAdd, reduceCtorEq, forall_const, Tryd.results6, Fx.ag3, Fx.ag31, Fx.fo31_2, Fx.isl42])
  refine Inv.call Fx.en15 (Set_ok w10 hb rb H2A F8 hA10.hp (by decide) aA 0 aA) ?_
  rw [setA, setA2]
  rintro v w11 ⟨rfl, hG11⟩
  obtain ⟨F11, hA11, hc11, hF11⟩ := hA10.grown hG11
  have hC4F8 : ¬ F8 C4 := fun h => by have := hl8 C4 h; omega
  have hs11 := hc11.size
  have hb112 : Blk w11 C2 wA.row 31 := hb10'.chg hc11 hC2F8
  have hb114 : Blk w11 C4 aA.row 31 := hb10.chg hc11 hC4F8
  repeat ((try first | (refine ofX3 hX ?_; clear hX X) | (refine ofX2 hX ?_; clear hX X)); (first | refine wpL_step (fun X hX => ?_) | refine wpH_step (fun X hX => ?_) | refine wpE_step (fun X hX => ?_) | refine wpL_end ?_ | refine wpH_end ?_ | refine wpE_end ?_); try simp only [ oweC, oweP, opF, opH, ev, evs, evp, evo, Env.get, Env.set, putE, gdst, S0, S1, thenN, inBlockN, argEnv, builtinR, retE, fin, callR, reduceIte, Nat.reduceEqDiff, Nat.reduceAdd, reduceCtorEq, forall_const, Tryd.results6, Fx.ag3, Fx.ag31, Fx.fo31_2, Fx.isl42])
  refine hM _ _ _ ?_; clear hM M
  -- Load
  refine ok_seq (fun M hM => ok_region rfl ?_)
  repeat ((try first | (refine ofX3 hX ?_; clear hX X) | (refine ofX2 hX ?_; clear hX X)); (first | refine wpL_step (fun X hX => ?_) | refine wpH_step (fun X hX => ?_) | refine wpE_step (fun X hX => ?_) | refine wpL_end ?_ | refine wpH_end ?_ | refine wpE_end ?_); try simp only [ oweC, oweP, opF, opH, ev, evs, evp, evo, Env.get, Env.set, putE, gdst, S0, S1, thenN, inBlockN, argEnv, builtinR, retE, fin, callR, reduceIte, Nat.reduceEqDiff, Nat.reduceAdd, reduceCtorEq, forall_const, Tryd.results6, Fx.ag3, Fx.ag31, Fx.fo31_2, Fx.isl42])
  refine ⟨aA.row, rfl, hb114.cells (o := 0) (fun j u hj => by simpa using hj), ?_⟩
  repeat ((try first | (refine ofX3 hX ?_; clear hX X) | (refine ofX2 hX ?_; clear hX X)); (first | refine wpL_step (fun X hX => ?_) | refine wpH_step (fun X hX => ?_) | refine wpE_step (fun X hX => ?_) | refine wpL_end ?_ | refine wpH_end ?_ | refine wpE_end ?_); try simp only [ oweC, oweP, opF, opH, ev, evs, evp, evo, Env.get, Env.set, putE, gdst, S0, S1, thenN, inBlockN, argEnv, builtinR, retE, fin, callR, reduceIte, Nat.reduceEqDiff, Nat.reduceAdd, reduceCtorEq, forall_const, Tryd.results6, Fx.ag3, Fx.ag31, Fx.fo31_2, Fx.isl42])
  refine Inv.call Fx.en10 (Load_ok hb rb H3A F11 (by decide) limA wfA mk zeroVal aA w11 (fun _ h _ => by rw [ringA] at h; cases h) hA11.hp (hg.ext hA11.ext)) ?_
  rw [errA]
  rintro v w12 ⟨cs, rfl, hcs, he12⟩
  have hcl := hcs.len
  repeat ((try first | (refine ofX3 hX ?_; clear hX X) | (refine ofX2 hX ?_; clear hX X)); (first | refine wpL_step (fun X hX => ?_) | refine wpH_step (fun X hX => ?_) | refine wpE_step (fun X hX => ?_) | refine wpL_end ?_ | refine wpH_end ?_ | refine wpE_end ?_); try simp only [ oweC, oweP, opF, opH, ev, evs, evp, evo, Env.get, Env.set, putE, gdst, S0, S1, thenN, inBlockN, argEnv, builtinR, retE, fin, callR, reduceIte, Nat.reduceEqDiff, Nat.reduceAdd, reduceCtorEq, forall_const, Tryd.results6, Fx.ag3, Fx.ag31, Fx.fo31_2, Fx.isl42])
  refine Runs.alloc Fx.zi24 (fun w13 he13 hs13 hb13 => ?_)
  generalize hC7 : w12.heap.size = C7 at hs13 hb13
  repeat ((try first | (refine ofX3 hX ?_; clear hX X) | (refine ofX2 hX ?_; clear hX X)); (first | refine wpL_step (fun X hX => ?_) | refine wpH_step (fun X hX => ?_) | refine wpE_step (fun X hX => ?_) | refine wpL_end ?_ | refine wpH_end ?_ | refine wpE_end ?_); try simp only [ oweC, oweP, opF, opH, ev, evs, evp, evo, Env.get, Env.set, putE, gdst, S0, S1, thenN, inBlockN, argEnv, builtinR, retE, fin, callR, reduceIte, Nat.reduceEqDiff, Nat.reduceAdd, reduceCtorEq, forall_const, Tryd.results6, Fx.ag3, Fx.ag31, Fx.fo31_2, Fx.isl42])
  refine Runs.store hb13 Fx.zi24 (by simpa [Value.cells] using hcl) (by simpa [Value.cells] using hcs.one) (by simp [Value.cells]) (fun w14 hc14 hs14 hb14 => ?_)
  have he14 : Ext w11 w14 := he12.trans (he13.chg_trans hc14 (fun k hk => by omega))
  have hA14 := hA11.ex he14
  repeat ((try first | (refine ofX3 hX ?_; clear hX X) | (refine ofX2 hX ?_; clear hX X)); (first | refine wpL_step (fun X hX => ?_) | refine wpH_step (fun X hX => ?_) | refine wpE_step (fun X hX => ?_) | refine wpL_end ?_ | refine wpH_end ?_ | refine wpE_end ?_); try simp only [ oweC, oweP, opF, opH, ev, evs, evp, evo, Env.get, Env.set, putE, gdst, S0, S1, thenN, inBlockN, argEnv, builtinR, retE, fin, callR, reduceIte, Nat.reduceEqDiff, Nat.reduceAdd, reduceCtorEq, forall_const, Tryd.results6, Fx.ag3, Fx.ag31, Fx.fo31_2, Fx.isl42])
  refine hM _ _ _ ?_; clear hM M
  -- Collect
  refine ok_seq (fun M hM => ok_region rfl ?_)
  repeat ((try first | (refine ofX3 hX ?_; clear hX X) | (refine ofX2 hX ?_; clear hX X)); (first | refine wpL_step (fun X hX => ?_) | refine wpH_step (fun X hX => ?_) | refine wpE_step (fun X hX => ?_) | refine wpL_end ?_ | refine wpH_end ?_ | refine wpE_end ?_); try simp only [ oweC, oweP, opF, opH, ev, evs, evp, evo, Env.get, Env.set, putE, gdst, S0, S1, thenN, inBlockN, argEnv, builtinR, retE, fin, callR, reduceIte, Nat.reduceEqDiff, Nat.reduceAdd, reduceCtorEq, forall_const, Tryd.results6, Fx.ag3, Fx.ag31, Fx.fo31_2, Fx.isl42])
  refine ⟨wA.row, rfl, (hb112.ext he14).cells (o := 0) (fun j u hj => by simpa using hj), ?_⟩
  repeat ((try first | (refine ofX3 hX ?_; clear hX X) | (refine ofX2 hX ?_; clear hX X)); (first | refine wpL_step (fun X hX => ?_) | refine wpH_step (fun X hX => ?_) | refine wpE_step (fun X hX => ?_) | refine wpL_end ?_ | refine wpH_end ?_ | refine wpE_end ?_); try simp only [ oweC, oweP, opF, opH, ev, evs, evp, evo, Env.get, Env.set, putE, gdst, S0, S1, thenN, inBlockN, argEnv, builtinR, retE, fin, callR, reduceIte, Nat.reduceEqDiff, Nat.reduceAdd, reduceCtorEq, forall_const, Tryd.results6, Fx.ag3, Fx.ag31, Fx.fo31_2, Fx.isl42])
  refine Runs.lit (cs := wA.row) Fx.un42 Fx.zi31 (by decide) (by kernel_rfl) (by decide) (fun w15 he15 hs15 hb15 => ?_)
  generalize hB15 : w14.heap.size = B15 at hs15 hb15
  have hA15 := hA14.ex he15
  have hl14 := hA14.lt
  repeat ((try first | (refine ofX3 hX ?_; clear hX X) | (refine ofX2 hX ?_; clear hX X)); (first | refine wpL_step (fun X hX => ?_) | refine wpH_step (fun X hX => ?_) | refine wpE_step (fun X hX => ?_) | refine wpL_end ?_ | refine wpH_end ?_ | refine wpE_end ?_); try simp only [ oweC, oweP, opF, opH, ev, evs, evp, evo, Env.get, Env.set, putE, gdst, S0, S1, thenN, inBlockN, argEnv, builtinR, retE, fin, callR, reduceIte, Nat.reduceEqDiff, Nat.reduceAdd, reduceCtorEq, forall_const, Tryd.results6, Fx.ag3, Fx.ag31, Fx.fo31_2, Fx.isl42])
  refine Inv.call Fx.en20 (collect_ok w15 hb rb H3A F11 hA15.hp (fun k hk => (hA15.lt k hk).2) (by decide) wfA _ [wA] (fun W' hc => one W' B15 wA (hb15.chg hc (fun h => by have := hl14 B15 h; omega))) (by decide)) ?_
  rintro v w16 ⟨-, hcol⟩
  obtain ⟨A16, c16, rfl, hG16⟩ := hcol anyA
  obtain ⟨F16, hA16, hc16, hF16⟩ := hA15.grown hG16
  have hb16 : Blk w16 C2 wA.row 31 := ((hb112.ext he14).ext he15).chg hc16 (fun h => by
    rcases hF11 C2 h with h | h
    · exact hC2F8 h
    · have := hb10'.lt; omega)
  repeat ((try first | (refine ofX3 hX ?_; clear hX X) | (refine ofX2 hX ?_; clear hX X)); (first | refine wpL_step (fun X hX => ?_) | refine wpH_step (fun X hX => ?_) | refine wpE_step (fun X hX => ?_) | refine wpL_end ?_ | refine wpH_end ?_ | refine wpE_end ?_); try simp only [ oweC, oweP, opF, opH, ev, evs, evp, evo, Env.get, Env.set, putE, gdst, S0, S1, thenN, inBlockN, argEnv, builtinR, retE, fin, callR, reduceIte, Nat.reduceEqDiff, Nat.reduceAdd, reduceCtorEq, forall_const, Tryd.results6, Fx.ag3, Fx.ag31, Fx.fo31_2, Fx.isl42])
  refine hM _ _ _ ?_; clear hM M
  refine ok_seq (fun M hM => ok_region rfl ?_)
  repeat ((try first | (refine ofX3 hX ?_; clear hX X) | (refine ofX2 hX ?_; clear hX X)); (first | refine wpL_step (fun X hX => ?_) | refine wpH_step (fun X hX => ?_) | refine wpE_step (fun X hX => ?_) | refine wpL_end ?_ | refine wpH_end ?_ | refine wpE_end ?_); try simp only [ oweC, oweP, opF, opH, ev, evs, evp, evo, Env.get, Env.set, putE, gdst, S0, S1, thenN, inBlockN, argEnv, builtinR, retE, fin, callR, reduceIte, Nat.reduceEqDiff, Nat.reduceAdd, reduceCtorEq, forall_const, Tryd.results6, Fx.ag3, Fx.ag31, Fx.fo31_2, Fx.isl42])
  simp only [List.length_singleton]
  refine ⟨.int .i64 1, hb16.cell (j := 2) rfl, ?_⟩
  repeat ((try first | (refine ofX3 hX ?_; clear hX X) | (refine ofX2 hX ?_; clear hX X)); (first | refine wpL_step (fun X hX => ?_) | refine wpH_step (fun X hX => ?_) | refine wpE_step (fun X hX => ?_) | refine wpL_end ?_ | refine wpH_end ?_ | refine wpE_end ?_); try simp only [ oweC, oweP, opF, opH, ev, evs, evp, evo, Env.get, Env.set, putE, gdst, S0, S1, thenN, inBlockN, argEnv, builtinR, retE, fin, callR, reduceIte, Nat.reduceEqDiff, Nat.reduceAdd, reduceCtorEq, forall_const, Tryd.results6, Fx.ag3, Fx.ag31, Fx.fo31_2, Fx.isl42])
  simp only [show (((1 : Nat) : Int) = 1) = True from eq_true rfl, decide_true]
  refine ⟨fun _ => ?_, fun h => by cases h⟩
  repeat ((try first | (refine ofX3 hX ?_; clear hX X) | (refine ofX2 hX ?_; clear hX X)); (first | refine wpL_step (fun X hX => ?_) | refine wpH_step (fun X hX => ?_) | refine wpE_step (fun X hX => ?_) | refine wpL_end ?_ | refine wpH_end ?_ | refine wpE_end ?_); try simp only [ oweC, oweP, opF, opH, ev, evs, evp, evo, Env.get, Env.set, putE, gdst, S0, S1, thenN, inBlockN, argEnv, builtinR, retE, fin, callR, reduceIte, Nat.reduceEqDiff, Nat.reduceAdd, reduceCtorEq, forall_const, Tryd.results6, Fx.ag3, Fx.ag31, Fx.fo31_2, Fx.isl42])
  refine Inv.call Fx.en11 (objects_ok w16 hb rb _ F16 hA16.hp (by rw [collA]; decide)) ?_
  rw [collA]
  rintro v w17 ⟨rfl, rfl⟩
  repeat ((try first | (refine ofX3 hX ?_; clear hX X) | (refine ofX2 hX ?_; clear hX X)); (first | refine wpL_step (fun X hX => ?_) | refine wpH_step (fun X hX => ?_) | refine wpE_step (fun X hX => ?_) | refine wpL_end ?_ | refine wpH_end ?_ | refine wpE_end ?_); try simp only [ oweC, oweP, opF, opH, ev, evs, evp, evo, Env.get, Env.set, putE, gdst, S0, S1, thenN, inBlockN, argEnv, builtinR, retE, fin, callR, reduceIte, Nat.reduceEqDiff, Nat.reduceAdd, reduceCtorEq, forall_const, Tryd.results6, Fx.ag3, Fx.ag31, Fx.fo31_2, Fx.isl42])
  refine hM _ _ _ ?_; clear hM M
  refine ok_ret ?_
  try simp only [wpL, wpH, wpE, oweC, oweP, opF, opH, ev, evs, evp, evo, Env.get, Env.set, putE, gdst, S0, S1, thenN, inBlockN, argEnv, builtinR, retE, fin, callR, reduceIte, Nat.reduceEqDiff, Nat.reduceAdd, reduceCtorEq, forall_const, Tryd.results6, Fx.ag3, Fx.ag31, Fx.fo31_2, Fx.isl42]
  exact ⟨rfl, hA16.ext⟩
end Go.Proofs.YtldeokfhipjbfaaDoor
