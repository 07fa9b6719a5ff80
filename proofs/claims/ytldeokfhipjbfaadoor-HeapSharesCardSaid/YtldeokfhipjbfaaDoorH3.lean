/- The rules of words; Right; args. -/
import Derived.Test.YtldeokfhipjbfaaDoorH2
set_option linter.unusedVariables false
set_option linter.unusedSimpArgs false
namespace Go.Proofs.Vg
open Go Go.RowKit
theorem Inv.bound {P : Program} {w : World} {R : Value → World → Prop} {next : Value → World → Prop} {pan : List PanicEntry → World → Prop} {f : FuncId} {first args : List Value} (hen : ∀ (xs : Array Value) (w : World), (callFunc f xs).run P w = .ok (.enter f xs) w) (h : Rets P f (first ++ args) w R) (hn : ∀ v w', R v w' → next v w') :
    Inv P (.func (.func f) first.toArray #[]) args w (callR next pan) := by
  have := Inv.clos (P := P) (w := w) (R := R) (next := next) (pan := pan) (f := f) (args := first ++ args) (cap := []) hen (by simpa using h) hn
  rcases this with ⟨f', fi, ca, h1, h2, h3⟩ | ⟨l, fi, ca, fn, tmps, assign, body, h1, _⟩
  · cases h1
    exact .inl ⟨f, first.toArray, #[], rfl, h2, by simpa using h3⟩
  · cases h1
end Go.Proofs.Vg
namespace Go.Proofs.YtldeokfhipjbfaaDoor
open Go Go.Proofs.Vg Go.RowKit

/-- What an object tells: is it a text, its sort. -/
def obText : Ob → Bool
  | .text _ => true
  | _ => false
def obSort : Ob → Int
  | .text _ => 0
  | .words s _ => s
theorem ObW.text {w : World} {p g : Nat} {o : Ob} (h : ObW w p g o) : w.cell? ⟨p, 2, none⟩ = some (.bool (obText o)) := by
  cases o with
  | text s => exact Blk.cell h rfl
  | words s l => obtain ⟨lv, h1, h2⟩ := h; exact h1.cell rfl
theorem ObW.sort {w : World} {p g : Nat} {o : Ob} (h : ObW w p g o) : w.cell? ⟨p, 3, none⟩ = some (.int .i64 (obSort o)) := by
  cases o with
  | text s => exact Blk.cell h rfl
  | words s l => obtain ⟨lv, h1, h2⟩ := h; exact h1.cell rfl
theorem isDataO_some (o : Ob) : isDataO (some o) = (!obText o && !decide (obSort o = 7)) := by cases o with
  | text s => rfl
  | words s l => by_cases h : s = 7 <;> simp [isDataO, obText, obSort, h]
theorem isArrO_some (o : Ob) : isArrO (some o) = (!obText o && decide (obSort o = 7)) := by cases o with
  | text s => rfl
  | words s l => by_cases h : s = 7 <;> simp [isArrO, obText, obSort, h]

-- -- function 49
set_option maxHeartbeats 2000000 in
set_option maxRecDepth 8000 in
theorem isData_ok (w : World) (hb rb : Nat) (H : List Ob) (F : Nat → Prop) (hH : HeapW w hb rb H F) (hl : H.length ≤ 1073741824) (x : Wd) :
    Rets Tryd.prog 49 [ptrOf hb, wv x] w (fun v w' => v = .bool (decide (x.r = 0) || isDataO (objAt H x.r)) ∧ Ext w w') := by
  refine rets_of_ok Tryd.func49 rfl rfl ?_
  refine ok_seq (fun M hM => ok_region rfl ?_)
  repeat ((try first | (refine ofX3 hX ?_; clear hX X) | (refine ofX2 hX ?_; clear hX X)); (first | refine wpL_step (fun X hX => ?_) | refine wpH_step (fun X hX => ?_) | refine wpE_step (fun X hX => ?_) | refine wpL_end ?_ | refine wpH_end ?_ | refine wpE_end ?_); try simp only [ oweC, oweP, opF, opH, ev, evs, evp, evo, Env.get, Env.set, putE, gdst, S0, S1, thenN, inBlockN, argEnv, builtinR, retE, fin, callR, reduceIte, Nat.reduceEqDiff, Nat.reduceAdd, reduceCtorEq, forall_const, Tryd.results49, Fx.ag3, Fx.ag4, Fx.fo31_2, Fx.fo72_2, Fx.fo72_3])
  refine Runs.box (fun w1 he1 hs1 hb1 => ?_)
  simp only [Value.cells, Wd.row] at hb1
  obtain ⟨vs, ps, gs, hR, -⟩ := hH.ext he1
  repeat ((try first | (refine ofX3 hX ?_; clear hX X) | (refine ofX2 hX ?_; clear hX X)); (first | refine wpL_step (fun X hX => ?_) | refine wpH_step (fun X hX => ?_) | refine wpE_step (fun X hX => ?_) | refine wpL_end ?_ | refine wpH_end ?_ | refine wpE_end ?_); try simp only [ oweC, oweP, opF, opH, ev, evs, evp, evo, Env.get, Env.set, putE, gdst, S0, S1, thenN, inBlockN, argEnv, builtinR, retE, fin, callR, reduceIte, Nat.reduceEqDiff, Nat.reduceAdd, reduceCtorEq, forall_const, Tryd.results49, Fx.ag3, Fx.ag4, Fx.fo31_2, Fx.fo72_2, Fx.fo72_3])
  refine hM _ _ _ ?_; clear hM M
  refine ok_seq (fun M hM => ok_region rfl ?_)
  repeat ((try first | (refine ofX3 hX ?_; clear hX X) | (refine ofX2 hX ?_; clear hX X)); (first | refine wpL_step (fun X hX => ?_) | refine wpH_step (fun X hX => ?_) | refine wpE_step (fun X hX => ?_) | refine wpL_end ?_ | refine wpH_end ?_ | refine wpE_end ?_); try simp only [ oweC, oweP, opF, opH, ev, evs, evp, evo, Env.get, Env.set, putE, gdst, S0, S1, thenN, inBlockN, argEnv, builtinR, retE, fin, callR, reduceIte, Nat.reduceEqDiff, Nat.reduceAdd, reduceCtorEq, forall_const, Tryd.results49, Fx.ag3, Fx.ag4, Fx.fo31_2, Fx.fo72_2, Fx.fo72_3])
  refine ⟨_, hb1.cell (j := 2) rfl, ?_⟩
  repeat ((try first | (refine ofX3 hX ?_; clear hX X) | (refine ofX2 hX ?_; clear hX X)); (first | refine wpL_step (fun X hX => ?_) | refine wpH_step (fun X hX => ?_) | refine wpE_step (fun X hX => ?_) | refine wpL_end ?_ | refine wpH_end ?_ | refine wpE_end ?_); try simp only [ oweC, oweP, opF, opH, ev, evs, evp, evo, Env.get, Env.set, putE, gdst, S0, S1, thenN, inBlockN, argEnv, builtinR, retE, fin, callR, reduceIte, Nat.reduceEqDiff, Nat.reduceAdd, reduceCtorEq, forall_const, Tryd.results49, Fx.ag3, Fx.ag4, Fx.fo31_2, Fx.fo72_2, Fx.fo72_3])
  refine Inv.call Fx.en35 (object_ok w1 hb rb vs ps gs H hR hl x.r) ?_
  rintro v w' ⟨rfl, hv⟩
  repeat ((try first | (refine ofX3 hX ?_; clear hX X) | (refine ofX2 hX ?_; clear hX X)); (first | refine wpL_step (fun X hX => ?_) | refine wpH_step (fun X hX => ?_) | refine wpE_step (fun X hX => ?_) | refine wpL_end ?_ | refine wpH_end ?_ | refine wpE_end ?_); try simp only [ oweC, oweP, opF, opH, ev, evs, evp, evo, Env.get, Env.set, putE, gdst, S0, S1, thenN, inBlockN, argEnv, builtinR, retE, fin, callR, reduceIte, Nat.reduceEqDiff, Nat.reduceAdd, reduceCtorEq, forall_const, Tryd.results49, Fx.ag3, Fx.ag4, Fx.fo31_2, Fx.fo72_2, Fx.fo72_3])
  refine hM _ _ _ ?_; clear hM M
  refine ok_seq (fun M hM => ok_region rfl ?_)
  repeat ((try first | (refine ofX3 hX ?_; clear hX X) | (refine ofX2 hX ?_; clear hX X)); (first | refine wpL_step (fun X hX => ?_) | refine wpH_step (fun X hX => ?_) | refine wpE_step (fun X hX => ?_) | refine wpL_end ?_ | refine wpH_end ?_ | refine wpE_end ?_); try simp only [ oweC, oweP, opF, opH, ev, evs, evp, evo, Env.get, Env.set, putE, gdst, S0, S1, thenN, inBlockN, argEnv, builtinR, retE, fin, callR, reduceIte, Nat.reduceEqDiff, Nat.reduceAdd, reduceCtorEq, forall_const, Tryd.results49, Fx.ag3, Fx.ag4, Fx.fo31_2, Fx.fo72_2, Fx.fo72_3])
  refine ⟨_, hb1.cell (j := 2) rfl, ?_⟩
  repeat ((try first | (refine ofX3 hX ?_; clear hX X) | (refine ofX2 hX ?_; clear hX X)); (first | refine wpL_step (fun X hX => ?_) | refine wpH_step (fun X hX => ?_) | refine wpE_step (fun X hX => ?_) | refine wpL_end ?_ | refine wpH_end ?_ | refine wpE_end ?_); try simp only [ oweC, oweP, opF, opH, ev, evs, evp, evo, Env.get, Env.set, putE, gdst, S0, S1, thenN, inBlockN, argEnv, builtinR, retE, fin, callR, reduceIte, Nat.reduceEqDiff, Nat.reduceAdd, reduceCtorEq, forall_const, Tryd.results49, Fx.ag3, Fx.ag4, Fx.fo31_2, Fx.fo72_2, Fx.fo72_3])
  refine ⟨fun h => ?_, fun h => ?_⟩
  · have hn : ¬ x.r = 0 := by simpa using h
    rcases hv with ⟨ho, rfl⟩ | ⟨i, p, g, o, ho, hr, hi, hp, hg, rfl⟩
    · repeat ((try first | (refine ofX3 hX ?_; clear hX X) | (refine ofX2 hX ?_; clear hX X)); (first | refine wpL_step (fun X hX => ?_) | refine wpH_step (fun X hX => ?_) | refine wpE_step (fun X hX => ?_) | refine wpL_end ?_ | refine wpH_end ?_ | refine wpE_end ?_); try simp only [ oweC, oweP, opF, opH, ev, evs, evp, evo, Env.get, Env.set, putE, gdst, S0, S1, thenN, inBlockN, argEnv, builtinR, retE, fin, callR, reduceIte, Nat.reduceEqDiff, Nat.reduceAdd, reduceCtorEq, forall_const, Tryd.results49, Fx.ag3, Fx.ag4, Fx.fo31_2, Fx.fo72_2, Fx.fo72_3])
      refine Runs.ptrNe Fx.un73 ?_
      repeat ((try first | (refine ofX3 hX ?_; clear hX X) | (refine ofX2 hX ?_; clear hX X)); (first | refine wpL_step (fun X hX => ?_) | refine wpH_step (fun X hX => ?_) | refine wpE_step (fun X hX => ?_) | refine wpL_end ?_ | refine wpH_end ?_ | refine wpE_end ?_); try simp only [ oweC, oweP, opF, opH, ev, evs, evp, evo, Env.get, Env.set, putE, gdst, S0, S1, thenN, inBlockN, argEnv, builtinR, retE, fin, callR, reduceIte, Nat.reduceEqDiff, Nat.reduceAdd, reduceCtorEq, forall_const, Tryd.results49, Fx.ag3, Fx.ag4, Fx.fo31_2, Fx.fo72_2, Fx.fo72_3])
      simp only [hn, decide_false]
      repeat ((try first | (refine ofX3 hX ?_; clear hX X) | (refine ofX2 hX ?_; clear hX X)); (first | refine wpL_step (fun X hX => ?_) | refine wpH_step (fun X hX => ?_) | refine wpE_step (fun X hX => ?_) | refine wpL_end ?_ | refine wpH_end ?_ | refine wpE_end ?_); try simp only [ oweC, oweP, opF, opH, ev, evs, evp, evo, Env.get, Env.set, putE, gdst, S0, S1, thenN, inBlockN, argEnv, builtinR, retE, fin, callR, reduceIte, Nat.reduceEqDiff, Nat.reduceAdd, reduceCtorEq, forall_const, Tryd.results49, Fx.ag3, Fx.ag4, Fx.fo31_2, Fx.fo72_2, Fx.fo72_3])
      refine hM _ _ _ ?_; clear hM M
      refine ok_ret ?_
      try simp only [wpL, wpH, wpE, oweC, oweP, opF, opH, ev, evs, evp, evo, Env.get, Env.set, putE, gdst, S0, S1, thenN, inBlockN, argEnv, builtinR, retE, fin, callR, reduceIte, Nat.reduceEqDiff, Nat.reduceAdd, reduceCtorEq, forall_const, Tryd.results49, Fx.ag3, Fx.ag4, Fx.fo31_2, Fx.fo72_2, Fx.fo72_3]
      simp [hn, ho, isDataO, he1]
    · repeat ((try first | (refine ofX3 hX ?_; clear hX X) | (refine ofX2 hX ?_; clear hX X)); (first | refine wpL_step (fun X hX => ?_) | refine wpH_step (fun X hX => ?_) | refine wpE_step (fun X hX => ?_) | refine wpL_end ?_ | refine wpH_end ?_ | refine wpE_end ?_); try simp only [ oweC, oweP, opF, opH, ev, evs, evp, evo, Env.get, Env.set, putE, gdst, S0, S1, thenN, inBlockN, argEnv, builtinR, retE, fin, callR, reduceIte, Nat.reduceEqDiff, Nat.reduceAdd, reduceCtorEq, forall_const, Tryd.results49, Fx.ag3, Fx.ag4, Fx.fo31_2, Fx.fo72_2, Fx.fo72_3])
      refine Runs.ptrNe Fx.un73 ?_
      repeat ((try first | (refine ofX3 hX ?_; clear hX X) | (refine ofX2 hX ?_; clear hX X)); (first | refine wpL_step (fun X hX => ?_) | refine wpH_step (fun X hX => ?_) | refine wpE_step (fun X hX => ?_) | refine wpL_end ?_ | refine wpH_end ?_ | refine wpE_end ?_); try simp only [ oweC, oweP, opF, opH, ev, evs, evp, evo, Env.get, Env.set, putE, gdst, S0, S1, thenN, inBlockN, argEnv, builtinR, retE, fin, callR, reduceIte, Nat.reduceEqDiff, Nat.reduceAdd, reduceCtorEq, forall_const, Tryd.results49, Fx.ag3, Fx.ag4, Fx.fo31_2, Fx.fo72_2, Fx.fo72_3])
      have hob := hR.obj i p g o hp hg hi
      refine ⟨_, ObW.text hob, ?_⟩
      repeat ((try first | (refine ofX3 hX ?_; clear hX X) | (refine ofX2 hX ?_; clear hX X)); (first | refine wpL_step (fun X hX => ?_) | refine wpH_step (fun X hX => ?_) | refine wpE_step (fun X hX => ?_) | refine wpL_end ?_ | refine wpH_end ?_ | refine wpE_end ?_); try simp only [ oweC, oweP, opF, opH, ev, evs, evp, evo, Env.get, Env.set, putE, gdst, S0, S1, thenN, inBlockN, argEnv, builtinR, retE, fin, callR, reduceIte, Nat.reduceEqDiff, Nat.reduceAdd, reduceCtorEq, forall_const, Tryd.results49, Fx.ag3, Fx.ag4, Fx.fo31_2, Fx.fo72_2, Fx.fo72_3])
      simp only [hn, decide_false]
      repeat ((try first | (refine ofX3 hX ?_; clear hX X) | (refine ofX2 hX ?_; clear hX X)); (first | refine wpL_step (fun X hX => ?_) | refine wpH_step (fun X hX => ?_) | refine wpE_step (fun X hX => ?_) | refine wpL_end ?_ | refine wpH_end ?_ | refine wpE_end ?_); try simp only [ oweC, oweP, opF, opH, ev, evs, evp, evo, Env.get, Env.set, putE, gdst, S0, S1, thenN, inBlockN, argEnv, builtinR, retE, fin, callR, reduceIte, Nat.reduceEqDiff, Nat.reduceAdd, reduceCtorEq, forall_const, Tryd.results49, Fx.ag3, Fx.ag4, Fx.fo31_2, Fx.fo72_2, Fx.fo72_3])
      refine ⟨fun h => ?_, fun h => ?_⟩
      · repeat ((try first | (refine ofX3 hX ?_; clear hX X) | (refine ofX2 hX ?_; clear hX X)); (first | refine wpL_step (fun X hX => ?_) | refine wpH_step (fun X hX => ?_) | refine wpE_step (fun X hX => ?_) | refine wpL_end ?_ | refine wpH_end ?_ | refine wpE_end ?_); try simp only [ oweC, oweP, opF, opH, ev, evs, evp, evo, Env.get, Env.set, putE, gdst, S0, S1, thenN, inBlockN, argEnv, builtinR, retE, fin, callR, reduceIte, Nat.reduceEqDiff, Nat.reduceAdd, reduceCtorEq, forall_const, Tryd.results49, Fx.ag3, Fx.ag4, Fx.fo31_2, Fx.fo72_2, Fx.fo72_3])
        refine ⟨_, ObW.sort hob, ?_⟩
        repeat ((try first | (refine ofX3 hX ?_; clear hX X) | (refine ofX2 hX ?_; clear hX X)); (first | refine wpL_step (fun X hX => ?_) | refine wpH_step (fun X hX => ?_) | refine wpE_step (fun X hX => ?_) | refine wpL_end ?_ | refine wpH_end ?_ | refine wpE_end ?_); try simp only [ oweC, oweP, opF, opH, ev, evs, evp, evo, Env.get, Env.set, putE, gdst, S0, S1, thenN, inBlockN, argEnv, builtinR, retE, fin, callR, reduceIte, Nat.reduceEqDiff, Nat.reduceAdd, reduceCtorEq, forall_const, Tryd.results49, Fx.ag3, Fx.ag4, Fx.fo31_2, Fx.fo72_2, Fx.fo72_3])
        refine hM _ _ _ ?_; clear hM M
        refine ok_ret ?_
        try simp only [wpL, wpH, wpE, oweC, oweP, opF, opH, ev, evs, evp, evo, Env.get, Env.set, putE, gdst, S0, S1, thenN, inBlockN, argEnv, builtinR, retE, fin, callR, reduceIte, Nat.reduceEqDiff, Nat.reduceAdd, reduceCtorEq, forall_const, Tryd.results49, Fx.ag3, Fx.ag4, Fx.fo31_2, Fx.fo72_2, Fx.fo72_3]
        have ht : obText o = false := by simpa using h
        simp [hn, ho, he1, isDataO_some, ht]
      · repeat ((try first | (refine ofX3 hX ?_; clear hX X) | (refine ofX2 hX ?_; clear hX X)); (first | refine wpL_step (fun X hX => ?_) | refine wpH_step (fun X hX => ?_) | refine wpE_step (fun X hX => ?_) | refine wpL_end ?_ | refine wpH_end ?_ | refine wpE_end ?_); try simp only [ oweC, oweP, opF, opH, ev, evs, evp, evo, Env.get, Env.set, putE, gdst, S0, S1, thenN, inBlockN, argEnv, builtinR, retE, fin, callR, reduceIte, Nat.reduceEqDiff, Nat.reduceAdd, reduceCtorEq, forall_const, Tryd.results49, Fx.ag3, Fx.ag4, Fx.fo31_2, Fx.fo72_2, Fx.fo72_3])
        refine hM _ _ _ ?_; clear hM M
        refine ok_ret ?_
        try simp only [wpL, wpH, wpE, oweC, oweP, opF, opH, ev, evs, evp, evo, Env.get, Env.set, putE, gdst, S0, S1, thenN, inBlockN, argEnv, builtinR, retE, fin, callR, reduceIte, Nat.reduceEqDiff, Nat.reduceAdd, reduceCtorEq, forall_const, Tryd.results49, Fx.ag3, Fx.ag4, Fx.fo31_2, Fx.fo72_2, Fx.fo72_3]
        have ht : obText o = true := by simpa using h
        simp [hn, ho, he1, isDataO_some, ht]
  · repeat ((try first | (refine ofX3 hX ?_; clear hX X) | (refine ofX2 hX ?_; clear hX X)); (first | refine wpL_step (fun X hX => ?_) | refine wpH_step (fun X hX => ?_) | refine wpE_step (fun X hX => ?_) | refine wpL_end ?_ | refine wpH_end ?_ | refine wpE_end ?_); try simp only [ oweC, oweP, opF, opH, ev, evs, evp, evo, Env.get, Env.set, putE, gdst, S0, S1, thenN, inBlockN, argEnv, builtinR, retE, fin, callR, reduceIte, Nat.reduceEqDiff, Nat.reduceAdd, reduceCtorEq, forall_const, Tryd.results49, Fx.ag3, Fx.ag4, Fx.fo31_2, Fx.fo72_2, Fx.fo72_3])
    refine hM _ _ _ ?_; clear hM M
    refine ok_ret ?_
    try simp only [wpL, wpH, wpE, oweC, oweP, opF, opH, ev, evs, evp, evo, Env.get, Env.set, putE, gdst, S0, S1, thenN, inBlockN, argEnv, builtinR, retE, fin, callR, reduceIte, Nat.reduceEqDiff, Nat.reduceAdd, reduceCtorEq, forall_const, Tryd.results49, Fx.ag3, Fx.ag4, Fx.fo31_2, Fx.fo72_2, Fx.fo72_3]
    have : x.r = 0 := by simpa using h
    simp [this, he1]

-- -- function 50
set_option maxHeartbeats 2000000 in
set_option maxRecDepth 8000 in
theorem isArray_ok (w : World) (hb rb : Nat) (H : List Ob) (F : Nat → Prop) (hH : HeapW w hb rb H F) (hl : H.length ≤ 1073741824) (x : Wd) :
    Rets Tryd.prog 50 [ptrOf hb, wv x] w (fun v w' => v = .bool (decide (x.n = 0) && isArrO (objAt H x.r)) ∧ Ext w w') := by
  refine rets_of_ok Tryd.func50 rfl rfl ?_
  refine ok_seq (fun M hM => ok_region rfl ?_)
  repeat ((try first | (refine ofX3 hX ?_; clear hX X) | (refine ofX2 hX ?_; clear hX X)); (first | refine wpL_step (fun X hX => ?_) | refine wpH_step (fun X hX => ?_) | refine wpE_step (fun X hX => ?_) | refine wpL_end ?_ | refine wpH_end ?_ | refine wpE_end ?_); try simp only [ oweC, oweP, opF, opH, ev, evs, evp, evo, Env.get, Env.set, putE, gdst, S0, S1, thenN, inBlockN, argEnv, builtinR, retE, fin, callR, reduceIte, Nat.reduceEqDiff, Nat.reduceAdd, reduceCtorEq, forall_const, Tryd.results50, Fx.ag2, Fx.ag3, Fx.ag4, Fx.fo31_1, Fx.fo31_2, Fx.fo72_2, Fx.fo72_3])
  refine Runs.box (fun w1 he1 hs1 hb1 => ?_)
  simp only [Value.cells, Wd.row] at hb1
  obtain ⟨vs, ps, gs, hR, -⟩ := hH.ext he1
  repeat ((try first | (refine ofX3 hX ?_; clear hX X) | (refine ofX2 hX ?_; clear hX X)); (first | refine wpL_step (fun X hX => ?_) | refine wpH_step (fun X hX => ?_) | refine wpE_step (fun X hX => ?_) | refine wpL_end ?_ | refine wpH_end ?_ | refine wpE_end ?_); try simp only [ oweC, oweP, opF, opH, ev, evs, evp, evo, Env.get, Env.set, putE, gdst, S0, S1, thenN, inBlockN, argEnv, builtinR, retE, fin, callR, reduceIte, Nat.reduceEqDiff, Nat.reduceAdd, reduceCtorEq, forall_const, Tryd.results50, Fx.ag2, Fx.ag3, Fx.ag4, Fx.fo31_1, Fx.fo31_2, Fx.fo72_2, Fx.fo72_3])
  refine hM _ _ _ ?_; clear hM M
  refine ok_seq (fun M hM => ok_region rfl ?_)
  repeat ((try first | (refine ofX3 hX ?_; clear hX X) | (refine ofX2 hX ?_; clear hX X)); (first | refine wpL_step (fun X hX => ?_) | refine wpH_step (fun X hX => ?_) | refine wpE_step (fun X hX => ?_) | refine wpL_end ?_ | refine wpH_end ?_ | refine wpE_end ?_); try simp only [ oweC, oweP, opF, opH, ev, evs, evp, evo, Env.get, Env.set, putE, gdst, S0, S1, thenN, inBlockN, argEnv, builtinR, retE, fin, callR, reduceIte, Nat.reduceEqDiff, Nat.reduceAdd, reduceCtorEq, forall_const, Tryd.results50, Fx.ag2, Fx.ag3, Fx.ag4, Fx.fo31_1, Fx.fo31_2, Fx.fo72_2, Fx.fo72_3])
  refine ⟨_, hb1.cell (j := 2) rfl, ?_⟩
  repeat ((try first | (refine ofX3 hX ?_; clear hX X) | (refine ofX2 hX ?_; clear hX X)); (first | refine wpL_step (fun X hX => ?_) | refine wpH_step (fun X hX => ?_) | refine wpE_step (fun X hX => ?_) | refine wpL_end ?_ | refine wpH_end ?_ | refine wpE_end ?_); try simp only [ oweC, oweP, opF, opH, ev, evs, evp, evo, Env.get, Env.set, putE, gdst, S0, S1, thenN, inBlockN, argEnv, builtinR, retE, fin, callR, reduceIte, Nat.reduceEqDiff, Nat.reduceAdd, reduceCtorEq, forall_const, Tryd.results50, Fx.ag2, Fx.ag3, Fx.ag4, Fx.fo31_1, Fx.fo31_2, Fx.fo72_2, Fx.fo72_3])
  refine Inv.call Fx.en35 (object_ok w1 hb rb vs ps gs H hR hl x.r) ?_
  rintro v w' ⟨rfl, hv⟩
  repeat ((try first | (refine ofX3 hX ?_; clear hX X) | (refine ofX2 hX ?_; clear hX X)); (first | refine wpL_step (fun X hX => ?_) | refine wpH_step (fun X hX => ?_) | refine wpE_step (fun X hX => ?_) | refine wpL_end ?_ | refine wpH_end ?_ | refine wpE_end ?_); try simp only [ oweC, oweP, opF, opH, ev, evs, evp, evo, Env.get, Env.set, putE, gdst, S0, S1, thenN, inBlockN, argEnv, builtinR, retE, fin, callR, reduceIte, Nat.reduceEqDiff, Nat.reduceAdd, reduceCtorEq, forall_const, Tryd.results50, Fx.ag2, Fx.ag3, Fx.ag4, Fx.fo31_1, Fx.fo31_2, Fx.fo72_2, Fx.fo72_3])
  refine hM _ _ _ ?_; clear hM M
  refine ok_seq (fun M hM => ok_region rfl ?_)
  repeat ((try first | (refine ofX3 hX ?_; clear hX X) | (refine ofX2 hX ?_; clear hX X)); (first | refine wpL_step (fun X hX => ?_) | refine wpH_step (fun X hX => ?_) | refine wpE_step (fun X hX => ?_) | refine wpL_end ?_ | refine wpH_end ?_ | refine wpE_end ?_); try simp only [ oweC, oweP, opF, opH, ev, evs, evp, evo, Env.get, Env.set, putE, gdst, S0, S1, thenN, inBlockN, argEnv, builtinR, retE, fin, callR, reduceIte, Nat.reduceEqDiff, Nat.reduceAdd, reduceCtorEq, forall_const, Tryd.results50, Fx.ag2, Fx.ag3, Fx.ag4, Fx.fo31_1, Fx.fo31_2, Fx.fo72_2, Fx.fo72_3])
  refine ⟨_, hb1.cell (j := 1) rfl, ?_⟩
  repeat ((try first | (refine ofX3 hX ?_; clear hX X) | (refine ofX2 hX ?_; clear hX X)); (first | refine wpL_step (fun X hX => ?_) | refine wpH_step (fun X hX => ?_) | refine wpE_step (fun X hX => ?_) | refine wpL_end ?_ | refine wpH_end ?_ | refine wpE_end ?_); try simp only [ oweC, oweP, opF, opH, ev, evs, evp, evo, Env.get, Env.set, putE, gdst, S0, S1, thenN, inBlockN, argEnv, builtinR, retE, fin, callR, reduceIte, Nat.reduceEqDiff, Nat.reduceAdd, reduceCtorEq, forall_const, Tryd.results50, Fx.ag2, Fx.ag3, Fx.ag4, Fx.fo31_1, Fx.fo31_2, Fx.fo72_2, Fx.fo72_3])
  refine ⟨fun h => ?_, fun h => ?_⟩
  · have hn : x.n = 0 := by simpa using h
    rcases hv with ⟨ho, rfl⟩ | ⟨i, p, g, o, ho, hr, hi, hp, hg, rfl⟩
    · repeat ((try first | (refine ofX3 hX ?_; clear hX X) | (refine ofX2 hX ?_; clear hX X)); (first | refine wpL_step (fun X hX => ?_) | refine wpH_step (fun X hX => ?_) | refine wpE_step (fun X hX => ?_) | refine wpL_end ?_ | refine wpH_end ?_ | refine wpE_end ?_); try simp only [ oweC, oweP, opF, opH, ev, evs, evp, evo, Env.get, Env.set, putE, gdst, S0, S1, thenN, inBlockN, argEnv, builtinR, retE, fin, callR, reduceIte, Nat.reduceEqDiff, Nat.reduceAdd, reduceCtorEq, forall_const, Tryd.results50, Fx.ag2, Fx.ag3, Fx.ag4, Fx.fo31_1, Fx.fo31_2, Fx.fo72_2, Fx.fo72_3])
      refine Runs.ptrNe Fx.un73 ?_
      repeat ((try first | (refine ofX3 hX ?_; clear hX X) | (refine ofX2 hX ?_; clear hX X)); (first | refine wpL_step (fun X hX => ?_) | refine wpH_step (fun X hX => ?_) | refine wpE_step (fun X hX => ?_) | refine wpL_end ?_ | refine wpH_end ?_ | refine wpE_end ?_); try simp only [ oweC, oweP, opF, opH, ev, evs, evp, evo, Env.get, Env.set, putE, gdst, S0, S1, thenN, inBlockN, argEnv, builtinR, retE, fin, callR, reduceIte, Nat.reduceEqDiff, Nat.reduceAdd, reduceCtorEq, forall_const, Tryd.results50, Fx.ag2, Fx.ag3, Fx.ag4, Fx.fo31_1, Fx.fo31_2, Fx.fo72_2, Fx.fo72_3])
      refine hM _ _ _ ?_; clear hM M
      refine ok_ret ?_
      try simp only [wpL, wpH, wpE, oweC, oweP, opF, opH, ev, evs, evp, evo, Env.get, Env.set, putE, gdst, S0, S1, thenN, inBlockN, argEnv, builtinR, retE, fin, callR, reduceIte, Nat.reduceEqDiff, Nat.reduceAdd, reduceCtorEq, forall_const, Tryd.results50, Fx.ag2, Fx.ag3, Fx.ag4, Fx.fo31_1, Fx.fo31_2, Fx.fo72_2, Fx.fo72_3]
      simp [hn, ho, isArrO, he1]
    · repeat ((try first | (refine ofX3 hX ?_; clear hX X) | (refine ofX2 hX ?_; clear hX X)); (first | refine wpL_step (fun X hX => ?_) | refine wpH_step (fun X hX => ?_) | refine wpE_step (fun X hX => ?_) | refine wpL_end ?_ | refine wpH_end ?_ | refine wpE_end ?_); try simp only [ oweC, oweP, opF, opH, ev, evs, evp, evo, Env.get, Env.set, putE, gdst, S0, S1, thenN, inBlockN, argEnv, builtinR, retE, fin, callR, reduceIte, Nat.reduceEqDiff, Nat.reduceAdd, reduceCtorEq, forall_const, Tryd.results50, Fx.ag2, Fx.ag3, Fx.ag4, Fx.fo31_1, Fx.fo31_2, Fx.fo72_2, Fx.fo72_3])
      refine Runs.ptrNe Fx.un73 ?_
      repeat ((try first | (refine ofX3 hX ?_; clear hX X) | (refine ofX2 hX ?_; clear hX X)); (first | refine wpL_step (fun X hX => ?_) | refine wpH_step (fun X hX => ?_) | refine wpE_step (fun X hX => ?_) | refine wpL_end ?_ | refine wpH_end ?_ | refine wpE_end ?_); try simp only [ oweC, oweP, opF, opH, ev, evs, evp, evo, Env.get, Env.set, putE, gdst, S0, S1, thenN, inBlockN, argEnv, builtinR, retE, fin, callR, reduceIte, Nat.reduceEqDiff, Nat.reduceAdd, reduceCtorEq, forall_const, Tryd.results50, Fx.ag2, Fx.ag3, Fx.ag4, Fx.fo31_1, Fx.fo31_2, Fx.fo72_2, Fx.fo72_3])
      have hob := hR.obj i p g o hp hg hi
      refine ⟨_, ObW.text hob, ?_⟩
      repeat ((try first | (refine ofX3 hX ?_; clear hX X) | (refine ofX2 hX ?_; clear hX X)); (first | refine wpL_step (fun X hX => ?_) | refine wpH_step (fun X hX => ?_) | refine wpE_step (fun X hX => ?_) | refine wpL_end ?_ | refine wpH_end ?_ | refine wpE_end ?_); try simp only [ oweC, oweP, opF, opH, ev, evs, evp, evo, Env.get, Env.set, putE, gdst, S0, S1, thenN, inBlockN, argEnv, builtinR, retE, fin, callR, reduceIte, Nat.reduceEqDiff, Nat.reduceAdd, reduceCtorEq, forall_const, Tryd.results50, Fx.ag2, Fx.ag3, Fx.ag4, Fx.fo31_1, Fx.fo31_2, Fx.fo72_2, Fx.fo72_3])
      refine ⟨fun h => ?_, fun h => ?_⟩
      · repeat ((try first | (refine ofX3 hX ?_; clear hX X) | (refine ofX2 hX ?_; clear hX X)); (first | refine wpL_step (fun X hX => ?_) | refine wpH_step (fun X hX => ?_) | refine wpE_step (fun X hX => ?_) | refine wpL_end ?_ | refine wpH_end ?_ | refine wpE_end ?_); try simp only [ oweC, oweP, opF, opH, ev, evs, evp, evo, Env.get, Env.set, putE, gdst, S0, S1, thenN, inBlockN, argEnv, builtinR, retE, fin, callR, reduceIte, Nat.reduceEqDiff, Nat.reduceAdd, reduceCtorEq, forall_const, Tryd.results50, Fx.ag2, Fx.ag3, Fx.ag4, Fx.fo31_1, Fx.fo31_2, Fx.fo72_2, Fx.fo72_3])
        refine ⟨_, ObW.sort hob, ?_⟩
        repeat ((try first | (refine ofX3 hX ?_; clear hX X) | (refine ofX2 hX ?_; clear hX X)); (first | refine wpL_step (fun X hX => ?_) | refine wpH_step (fun X hX => ?_) | refine wpE_step (fun X hX => ?_) | refine wpL_end ?_ | refine wpH_end ?_ | refine wpE_end ?_); try simp only [ oweC, oweP, opF, opH, ev, evs, evp, evo, Env.get, Env.set, putE, gdst, S0, S1, thenN, inBlockN, argEnv, builtinR, retE, fin, callR, reduceIte, Nat.reduceEqDiff, Nat.reduceAdd, reduceCtorEq, forall_const, Tryd.results50, Fx.ag2, Fx.ag3, Fx.ag4, Fx.fo31_1, Fx.fo31_2, Fx.fo72_2, Fx.fo72_3])
        refine hM _ _ _ ?_; clear hM M
        refine ok_ret ?_
        try simp only [wpL, wpH, wpE, oweC, oweP, opF, opH, ev, evs, evp, evo, Env.get, Env.set, putE, gdst, S0, S1, thenN, inBlockN, argEnv, builtinR, retE, fin, callR, reduceIte, Nat.reduceEqDiff, Nat.reduceAdd, reduceCtorEq, forall_const, Tryd.results50, Fx.ag2, Fx.ag3, Fx.ag4, Fx.fo31_1, Fx.fo31_2, Fx.fo72_2, Fx.fo72_3]
        have ht : obText o = false := by simpa using h
        simp [hn, ho, he1, isArrO_some, ht]
      · repeat ((try first | (refine ofX3 hX ?_; clear hX X) | (refine ofX2 hX ?_; clear hX X)); (first | refine wpL_step (fun X hX => ?_) | refine wpH_step (fun X hX => ?_) | refine wpE_step (fun X hX => ?_) | refine wpL_end ?_ | refine wpH_end ?_ | refine wpE_end ?_); try simp only [ oweC, oweP, opF, opH, ev, evs, evp, evo, Env.get, Env.set, putE, gdst, S0, S1, thenN, inBlockN, argEnv, builtinR, retE, fin, callR, reduceIte, Nat.reduceEqDiff, Nat.reduceAdd, reduceCtorEq, forall_const, Tryd.results50, Fx.ag2, Fx.ag3, Fx.ag4, Fx.fo31_1, Fx.fo31_2, Fx.fo72_2, Fx.fo72_3])
        refine hM _ _ _ ?_; clear hM M
        refine ok_ret ?_
        try simp only [wpL, wpH, wpE, oweC, oweP, opF, opH, ev, evs, evp, evo, Env.get, Env.set, putE, gdst, S0, S1, thenN, inBlockN, argEnv, builtinR, retE, fin, callR, reduceIte, Nat.reduceEqDiff, Nat.reduceAdd, reduceCtorEq, forall_const, Tryd.results50, Fx.ag2, Fx.ag3, Fx.ag4, Fx.fo31_1, Fx.fo31_2, Fx.fo72_2, Fx.fo72_3]
        have ht : obText o = true := by simpa using h
        simp [hn, ho, he1, isArrO_some, ht]
  · repeat ((try first | (refine ofX3 hX ?_; clear hX X) | (refine ofX2 hX ?_; clear hX X)); (first | refine wpL_step (fun X hX => ?_) | refine wpH_step (fun X hX => ?_) | refine wpE_step (fun X hX => ?_) | refine wpL_end ?_ | refine wpH_end ?_ | refine wpE_end ?_); try simp only [ oweC, oweP, opF, opH, ev, evs, evp, evo, Env.get, Env.set, putE, gdst, S0, S1, thenN, inBlockN, argEnv, builtinR, retE, fin, callR, reduceIte, Nat.reduceEqDiff, Nat.reduceAdd, reduceCtorEq, forall_const, Tryd.results50, Fx.ag2, Fx.ag3, Fx.ag4, Fx.fo31_1, Fx.fo31_2, Fx.fo72_2, Fx.fo72_3])
    refine hM _ _ _ ?_; clear hM M
    refine ok_ret ?_
    try simp only [wpL, wpH, wpE, oweC, oweP, opF, opH, ev, evs, evp, evo, Env.get, Env.set, putE, gdst, S0, S1, thenN, inBlockN, argEnv, builtinR, retE, fin, callR, reduceIte, Nat.reduceEqDiff, Nat.reduceAdd, reduceCtorEq, forall_const, Tryd.results50, Fx.ag2, Fx.ag3, Fx.ag4, Fx.fo31_1, Fx.fo31_2, Fx.fo72_2, Fx.fo72_3]
    have : ¬ x.n = 0 := by simpa using h
    simp [this, he1]

theorem rule_ok {w : World} {hb rb : Nat} {H : List Ob} {F : Nat → Prop} (hH : HeapW w hb rb H F) (hl : H.length ≤ 1073741824) {x : Wd} {fv : Value} (hf : ruleF hb x.k = some fv) {next : Value → World → Prop} {pan : List PanicEntry → World → Prop}
    (hn : ∀ w', Ext w w' → next (.bool (rightW H x)) w') : Inv Tryd.prog fv [wv x] w (callR next pan) := by
  unfold ruleF at hf
  split at hf
  · rename_i h0
    cases hf
    refine Inv.call Fx.en47 (none_ok w x) ?_
    rintro v w' ⟨rfl, he⟩
    have := hn w' he
    unfold rightW at this
    rwa [if_pos h0] at this
  rename_i h0
  split at hf
  · rename_i h1
    cases hf
    refine Inv.call Fx.en46 (number_ok w x) ?_
    rintro v w' ⟨rfl, he⟩
    have := hn w' he
    unfold rightW at this
    rwa [if_neg h0, if_pos h1] at this
  rename_i h1
  split at hf
  · rename_i h2
    cases hf
    refine Inv.bound (first := [ptrOf hb]) Fx.en48 (isText_ok w hb rb H F hH hl x) ?_
    rintro v w' ⟨rfl, he⟩
    have := hn w' he
    unfold rightW at this
    rwa [if_neg h0, if_neg h1, if_pos h2] at this
  rename_i h2
  split at hf
  · rename_i h3
    cases hf
    refine Inv.bound (first := [ptrOf hb]) Fx.en49 (isData_ok w hb rb H F hH hl x) ?_
    rintro v w' ⟨rfl, he⟩
    have := hn w' he
    unfold rightW at this
    rwa [if_neg h0, if_neg h1, if_neg h2, if_pos h3] at this
  rename_i h3
  split at hf
  · rename_i h4
    cases hf
    refine Inv.bound (first := [ptrOf hb]) Fx.en50 (isArray_ok w hb rb H F hH hl x) ?_
    rintro v w' ⟨rfl, he⟩
    have := hn w' he
    unfold rightW at this
    rwa [if_neg h0, if_neg h1, if_neg h2, if_neg h3, if_pos h4] at this
  · cases hf
theorem rule_none {H : List Ob} {hb : Nat} {x : Wd} (hf : ruleF hb x.k = none) : rightW H x = false := by
  unfold ruleF at hf
  unfold rightW
  split at hf
  · cases hf
  split at hf
  · cases hf
  split at hf
  · cases hf
  split at hf
  · cases hf
  split at hf
  · cases hf
  simp [*]

-- -- function 13
set_option maxHeartbeats 2000000 in
set_option maxRecDepth 8000 in
theorem right_ok (w : World) (hb rb : Nat) (H : List Ob) (F : Nat → Prop) (hH : HeapW w hb rb H F) (hl : H.length ≤ 1073741824) (x : Wd) :
    Rets Tryd.prog 13 [ptrOf hb, wv x] w (fun v w' => v = .bool (rightW H x) ∧ Ext w w') := by
  refine rets_of_ok Tryd.func13 rfl rfl ?_
  refine ok_seq (fun M hM => ok_region rfl ?_)
  repeat ((try first | (refine ofX3 hX ?_; clear hX X) | (refine ofX2 hX ?_; clear hX X)); (first | refine wpL_step (fun X hX => ?_) | refine wpH_step (fun X hX => ?_) | refine wpE_step (fun X hX => ?_) | refine wpL_end ?_ | refine wpH_end ?_ | refine wpE_end ?_); try simp only [ oweC, oweP, opF, opH, ev, evs, evp, evo, Env.get, Env.set, putE, gdst, S0, S1, thenN, inBlockN, argEnv, builtinR, retE, fin, callR, reduceIte, Nat.reduceEqDiff, Nat.reduceAdd, reduceCtorEq, forall_const, Tryd.results13, Fx.ag3, Fx.ag31, Fx.ag57, Fx.fo31_0, Fx.fo59_1])
  refine Runs.box (fun w1 he1 hs1 hb1 => ?_)
  generalize hB : w.heap.size = B at *
  simp only [Value.cells, Wd.row] at hb1
  have hH1 := hH.ext he1
  repeat ((try first | (refine ofX3 hX ?_; clear hX X) | (refine ofX2 hX ?_; clear hX X)); (first | refine wpL_step (fun X hX => ?_) | refine wpH_step (fun X hX => ?_) | refine wpE_step (fun X hX => ?_) | refine wpL_end ?_ | refine wpH_end ?_ | refine wpE_end ?_); try simp only [ oweC, oweP, opF, opH, ev, evs, evp, evo, Env.get, Env.set, putE, gdst, S0, S1, thenN, inBlockN, argEnv, builtinR, retE, fin, callR, reduceIte, Nat.reduceEqDiff, Nat.reduceAdd, reduceCtorEq, forall_const, Tryd.results13, Fx.ag3, Fx.ag31, Fx.ag57, Fx.fo31_0, Fx.fo59_1])
  refine hM _ _ _ ?_; clear hM M
  refine ok_join [(0, ptrOf hb), (3, ptrOf B)] (fun w' => w' = w1) ?_ ?_
  · refine ok_seq (fun M hM => ok_region rfl ?_)
    repeat ((try first | (refine ofX3 hX ?_; clear hX X) | (refine ofX2 hX ?_; clear hX X)); (first | refine wpL_step (fun X hX => ?_) | refine wpH_step (fun X hX => ?_) | refine wpE_step (fun X hX => ?_) | refine wpL_end ?_ | refine wpH_end ?_ | refine wpE_end ?_); try simp only [ oweC, oweP, opF, opH, ev, evs, evp, evo, Env.get, Env.set, putE, gdst, S0, S1, thenN, inBlockN, argEnv, builtinR, retE, fin, callR, reduceIte, Nat.reduceEqDiff, Nat.reduceAdd, reduceCtorEq, forall_const, Tryd.results13, Fx.ag3, Fx.ag31, Fx.ag57, Fx.fo31_0, Fx.fo59_1])
    refine Runs.ptrEq Fx.un28 ?_
    repeat ((try first | (refine ofX3 hX ?_; clear hX X) | (refine ofX2 hX ?_; clear hX X)); (first | refine wpL_step (fun X hX => ?_) | refine wpH_step (fun X hX => ?_) | refine wpE_step (fun X hX => ?_) | refine wpL_end ?_ | refine wpH_end ?_ | refine wpE_end ?_); try simp only [ oweC, oweP, opF, opH, ev, evs, evp, evo, Env.get, Env.set, putE, gdst, S0, S1, thenN, inBlockN, argEnv, builtinR, retE, fin, callR, reduceIte, Nat.reduceEqDiff, Nat.reduceAdd, reduceCtorEq, forall_const, Tryd.results13, Fx.ag3, Fx.ag31, Fx.ag57, Fx.fo31_0, Fx.fo59_1])
    refine hM _ _ _ ?_; clear hM M
    refine ok_cond rfl (fun h => by cases h) (fun h => ok_skip ?_)
    try simp only [wpL, wpH, wpE, oweC, oweP, opF, opH, ev, evs, evp, evo, Env.get, Env.set, putE, gdst, S0, S1, thenN, inBlockN, argEnv, builtinR, retE, fin, callR, reduceIte, Nat.reduceEqDiff, Nat.reduceAdd, reduceCtorEq, forall_const, Tryd.results13, Fx.ag3, Fx.ag31, Fx.ag57, Fx.fo31_0, Fx.fo59_1]
    simp [sub, Env.get]
  rintro w' rfl
  obtain ⟨vs, ps, gs, hR, -⟩ := id hH1
  refine ok_seq (fun M hM => ok_draw 12 [] (Ext _) Fx.mixed (by decide) rfl (by decide +kernel) (by decide +kernel) (Ext.drew _) ?_); repeat ((try first | (refine ofX3 hX ?_; clear hX X) | (refine ofX2 hX ?_; clear hX X)); (first | refine wpL_step (fun X hX => ?_) | refine wpH_step (fun X hX => ?_) | refine wpE_step (fun X hX => ?_) | refine wpL_end ?_ | refine wpH_end ?_ | refine wpE_end ?_); try simp only [ oweC, oweP, opF, opH, ev, evs, evp, evo, Env.get, Env.set, putE, gdst, S0, S1, thenN, inBlockN, argEnv, builtinR, retE, fin, callR, reduceIte, Nat.reduceEqDiff, Nat.reduceAdd, reduceCtorEq, forall_const, Tryd.results13, Fx.ag3, Fx.ag31, Fx.ag57, Fx.fo31_0, Fx.fo59_1])
  refine ⟨_, fun w5 h => h.cell (hR.head.cell (j := 1) rfl), ?_⟩
  repeat ((try first | (refine ofX3 hX ?_; clear hX X) | (refine ofX2 hX ?_; clear hX X)); (first | refine wpL_step (fun X hX => ?_) | refine wpH_step (fun X hX => ?_) | refine wpE_step (fun X hX => ?_) | refine wpL_end ?_ | refine wpH_end ?_ | refine wpE_end ?_); try simp only [ oweC, oweP, opF, opH, ev, evs, evp, evo, Env.get, Env.set, putE, gdst, S0, S1, thenN, inBlockN, argEnv, builtinR, retE, fin, callR, reduceIte, Nat.reduceEqDiff, Nat.reduceAdd, reduceCtorEq, forall_const, Tryd.results13, Fx.ag3, Fx.ag31, Fx.ag57, Fx.fo31_0, Fx.fo59_1])
  refine ⟨_, fun w5 h => h.cell (hb1.cell (j := 0) rfl), ?_⟩
  repeat ((try first | (refine ofX3 hX ?_; clear hX X) | (refine ofX2 hX ?_; clear hX X)); (first | refine wpL_step (fun X hX => ?_) | refine wpH_step (fun X hX => ?_) | refine wpE_step (fun X hX => ?_) | refine wpL_end ?_ | refine wpH_end ?_ | refine wpE_end ?_); try simp only [ oweC, oweP, opF, opH, ev, evs, evp, evo, Env.get, Env.set, putE, gdst, S0, S1, thenN, inBlockN, argEnv, builtinR, retE, fin, callR, reduceIte, Nat.reduceEqDiff, Nat.reduceAdd, reduceCtorEq, forall_const, Tryd.results13, Fx.ag3, Fx.ag31, Fx.ag57, Fx.fo31_0, Fx.fo59_1])
  refine ⟨_, fun w5 h => run_lookupI Fx.un57 Fx.un3 Fx.zi39 (hR.rules.ext h) x.k, ?_⟩
  repeat ((try first | (refine ofX3 hX ?_; clear hX X) | (refine ofX2 hX ?_; clear hX X)); (first | refine wpL_step (fun X hX => ?_) | refine wpH_step (fun X hX => ?_) | refine wpE_step (fun X hX => ?_) | refine wpL_end ?_ | refine wpH_end ?_ | refine wpE_end ?_); try simp only [ oweC, oweP, opF, opH, ev, evs, evp, evo, Env.get, Env.set, putE, gdst, S0, S1, thenN, inBlockN, argEnv, builtinR, retE, fin, callR, reduceIte, Nat.reduceEqDiff, Nat.reduceAdd, reduceCtorEq, forall_const, Tryd.results13, Fx.ag3, Fx.ag31, Fx.ag57, Fx.fo31_0, Fx.fo59_1])
  intro w2 he2
  repeat ((try first | (refine ofX3 hX ?_; clear hX X) | (refine ofX2 hX ?_; clear hX X)); (first | refine wpL_step (fun X hX => ?_) | refine wpH_step (fun X hX => ?_) | refine wpE_step (fun X hX => ?_) | refine wpL_end ?_ | refine wpH_end ?_ | refine wpE_end ?_); try simp only [ oweC, oweP, opF, opH, ev, evs, evp, evo, Env.get, Env.set, putE, gdst, S0, S1, thenN, inBlockN, argEnv, builtinR, retE, fin, callR, reduceIte, Nat.reduceEqDiff, Nat.reduceAdd, reduceCtorEq, forall_const, Tryd.results13, Fx.ag3, Fx.ag31, Fx.ag57, Fx.fo31_0, Fx.fo59_1])
  refine hM _ _ _ ?_; clear hM M
  refine ok_seq (fun M hM => ok_region rfl ?_)
  repeat ((try first | (refine ofX3 hX ?_; clear hX X) | (refine ofX2 hX ?_; clear hX X)); (first | refine wpL_step (fun X hX => ?_) | refine wpH_step (fun X hX => ?_) | refine wpE_step (fun X hX => ?_) | refine wpL_end ?_ | refine wpH_end ?_ | refine wpE_end ?_); try simp only [ oweC, oweP, opF, opH, ev, evs, evp, evo, Env.get, Env.set, putE, gdst, S0, S1, thenN, inBlockN, argEnv, builtinR, retE, fin, callR, reduceIte, Nat.reduceEqDiff, Nat.reduceAdd, reduceCtorEq, forall_const, Tryd.results13, Fx.ag3, Fx.ag31, Fx.ag57, Fx.fo31_0, Fx.fo59_1])
  cases hf : ruleF hb x.k with
  | none =>
    simp only [Option.isSome_none]
    refine ⟨fun h => (by cases h), fun _ => ?_⟩
    repeat ((try first | (refine ofX3 hX ?_; clear hX X) | (refine ofX2 hX ?_; clear hX X)); (first | refine wpL_step (fun X hX => ?_) | refine wpH_step (fun X hX => ?_) | refine wpE_step (fun X hX => ?_) | refine wpL_end ?_ | refine wpH_end ?_ | refine wpE_end ?_); try simp only [ oweC, oweP, opF, opH, ev, evs, evp, evo, Env.get, Env.set, putE, gdst, S0, S1, thenN, inBlockN, argEnv, builtinR, retE, fin, callR, reduceIte, Nat.reduceEqDiff, Nat.reduceAdd, reduceCtorEq, forall_const, Tryd.results13, Fx.ag3, Fx.ag31, Fx.ag57, Fx.fo31_0, Fx.fo59_1])
    repeat ((try first | (refine ofX3 hX ?_; clear hX X) | (refine ofX2 hX ?_; clear hX X)); (first | refine wpL_step (fun X hX => ?_) | refine wpH_step (fun X hX => ?_) | refine wpE_step (fun X hX => ?_) | refine wpL_end ?_ | refine wpH_end ?_ | refine wpE_end ?_); try simp only [ oweC, oweP, opF, opH, ev, evs, evp, evo, Env.get, Env.set, putE, gdst, S0, S1, thenN, inBlockN, argEnv, builtinR, retE, fin, callR, reduceIte, Nat.reduceEqDiff, Nat.reduceAdd, reduceCtorEq, forall_const, Tryd.results13, Fx.ag3, Fx.ag31, Fx.ag57, Fx.fo31_0, Fx.fo59_1])
    refine hM _ _ _ ?_; clear hM M
    refine ok_ret ?_
    try simp only [wpL, wpH, wpE, oweC, oweP, opF, opH, ev, evs, evp, evo, Env.get, Env.set, putE, gdst, S0, S1, thenN, inBlockN, argEnv, builtinR, retE, fin, callR, reduceIte, Nat.reduceEqDiff, Nat.reduceAdd, reduceCtorEq, forall_const, Tryd.results13, Fx.ag3, Fx.ag31, Fx.ag57, Fx.fo31_0, Fx.fo59_1]
    rw [rule_none hf]
    simp [he1.trans he2]
  | some fv =>
    simp only [Option.isSome_some, Option.getD_some]
    refine ⟨fun _ => ?_, fun h => by cases h⟩
    repeat ((try first | (refine ofX3 hX ?_; clear hX X) | (refine ofX2 hX ?_; clear hX X)); (first | refine wpL_step (fun X hX => ?_) | refine wpH_step (fun X hX => ?_) | refine wpE_step (fun X hX => ?_) | refine wpL_end ?_ | refine wpH_end ?_ | refine wpE_end ?_); try simp only [ oweC, oweP, opF, opH, ev, evs, evp, evo, Env.get, Env.set, putE, gdst, S0, S1, thenN, inBlockN, argEnv, builtinR, retE, fin, callR, reduceIte, Nat.reduceEqDiff, Nat.reduceAdd, reduceCtorEq, forall_const, Tryd.results13, Fx.ag3, Fx.ag31, Fx.ag57, Fx.fo31_0, Fx.fo59_1])
    refine ⟨x.row, rfl, (hb1.ext he2).cells (row := x.row) (o := 0) (fun j u hj => by simpa [Wd.row] using hj), ?_⟩
    repeat ((try first | (refine ofX3 hX ?_; clear hX X) | (refine ofX2 hX ?_; clear hX X)); (first | refine wpL_step (fun X hX => ?_) | refine wpH_step (fun X hX => ?_) | refine wpE_step (fun X hX => ?_) | refine wpL_end ?_ | refine wpH_end ?_ | refine wpE_end ?_); try simp only [ oweC, oweP, opF, opH, ev, evs, evp, evo, Env.get, Env.set, putE, gdst, S0, S1, thenN, inBlockN, argEnv, builtinR, retE, fin, callR, reduceIte, Nat.reduceEqDiff, Nat.reduceAdd, reduceCtorEq, forall_const, Tryd.results13, Fx.ag3, Fx.ag31, Fx.ag57, Fx.fo31_0, Fx.fo59_1])
    refine rule_ok (hH1.ext he2) hl hf (fun w3 he3 => ?_)
    repeat ((try first | (refine ofX3 hX ?_; clear hX X) | (refine ofX2 hX ?_; clear hX X)); (first | refine wpL_step (fun X hX => ?_) | refine wpH_step (fun X hX => ?_) | refine wpE_step (fun X hX => ?_) | refine wpL_end ?_ | refine wpH_end ?_ | refine wpE_end ?_); try simp only [ oweC, oweP, opF, opH, ev, evs, evp, evo, Env.get, Env.set, putE, gdst, S0, S1, thenN, inBlockN, argEnv, builtinR, retE, fin, callR, reduceIte, Nat.reduceEqDiff, Nat.reduceAdd, reduceCtorEq, forall_const, Tryd.results13, Fx.ag3, Fx.ag31, Fx.ag57, Fx.fo31_0, Fx.fo59_1])
    refine hM _ _ _ ?_; clear hM M
    refine ok_ret ?_
    try simp only [wpL, wpH, wpE, oweC, oweP, opF, opH, ev, evs, evp, evo, Env.get, Env.set, putE, gdst, S0, S1, thenN, inBlockN, argEnv, builtinR, retE, fin, callR, reduceIte, Nat.reduceEqDiff, Nat.reduceAdd, reduceCtorEq, forall_const, Tryd.results13, Fx.ag3, Fx.ag31, Fx.ag57, Fx.fo31_0, Fx.fo59_1]
    exact he1.trans (he2.trans he3)
end Go.Proofs.YtldeokfhipjbfaaDoor
