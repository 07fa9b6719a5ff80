/- Set, Args, num.  -/
import Derived.Test.YtldeokfhipjbfaaDoorH18
set_option linter.unusedVariables false
set_option linter.unusedSimpArgs false
namespace Go.Proofs.Vg
open Go Go.RowKit
theorem flat_set (y : Wd) : ∀ (l : List Wd) (i : Nat) (rest : List Value), i < l.length → splice ((l.map Wd.row).flatten ++ rest) (i * 3) y.row = ((l.set i y).map Wd.row).flatten ++ rest := by
  intro l
  induction l with
  | nil => intro i rest h; simp at h
  | cons x xs ih =>
    intro i rest h
    cases i with
    | zero => simp [splice, Wd.row]
    | succ i =>
      have := ih i rest (by simpa using h)
      simp only [List.map_cons, List.flatten_cons, List.set_cons_succ, List.append_assoc]
      rw [← this]
      have e2 : x.row = [.int .i64 x.k, .int .i64 x.n, .int .i64 x.r] := rfl
      have e3 : (i + 1) * 3 = i * 3 + 1 + 1 + 1 := by omega
      have e4 : i * 3 + 1 + 1 + 1 + y.row.length = (i * 3 + y.row.length) + 1 + 1 + 1 := by omega
      simp only [splice]
      rw [e3, e4, e2]
      simp only [List.cons_append, List.nil_append, List.take_succ_cons, List.drop_succ_cons]
def setE (H : List Ob) (x : Wd) (i : Int) (y : Wd) : Int :=
  if rightW H x = true ∧ rightW H y = true ∧ y.k ≠ 0 ∧ y.k ≠ 9 then if x.k = 7 then if 0 ≤ i ∧ i < ((argsOf H x).length : Int) then 0 else 24 else 3 else 2
def setH (H : List Ob) (x : Wd) (i : Int) (y : Wd) : List Ob := if setE H x i y = 0 then H.set (x.r - 1).toNat (.words 7 ((argsOf H x).set i.toNat y)) else H
theorem right7 {H : List Ob} {x : Wd} (h : rightW H x = true) (h7 : x.k = 7) : ∃ l, objAt H x.r = some (.words 7 l) := by
  unfold rightW at h
  rw [h7] at h
  simp at h
  have h2 := h.2
  cases ho : objAt H x.r with
  | none => rw [ho] at h2; simp [isArrO] at h2
  | some o =>
    rw [ho] at h2
    cases o with
    | text s => simp [isArrO] at h2
    | words s l => simp [isArrO] at h2; subst h2; exact ⟨l, rfl⟩
end Go.Proofs.Vg
namespace Go.Proofs.YtldeokfhipjbfaaDoor
open Go Go.Proofs.Vg Go.RowKit

-- -- function 18
set_option maxHeartbeats 2000000 in
set_option maxRecDepth 8000 in
theorem num_ok (w : World) (n : Int) : Rets Tryd.prog 18 [.int .i64 n] w (fun v w' => v = .agg #[.int .i64 1, .int .i64 n, .string ⟨#[]⟩, .slice none 0 0] ∧ Ext w w') := by
  refine rets_of_okC Tryd.func18 rfl rfl ?_
  refine ok_seq (fun M hM => ok_region rfl ?_)
  repeat ((try first | (refine ofX3 hX ?_; clear hX X) | (refine ofX2 hX ?_; clear hX X)); (first | refine wpL_step (fun X hX => ?_) | refine wpH_step (fun X hX => ?_) | refine wpE_step (fun X hX => ?_) | refine wpL_end ?_ | refine wpH_end ?_ | refine wpE_end ?_); try simp only [ oweC, oweP, opF, opH, ev, evs, evp, evo, Env.get, Env.set, putE, gdst, S0, S1, thenN, inBlockN, argEnv, builtinR, retE, fin, finC, retC, oneC, callR, reduceIte, Nat.reduceEqDiff, Nat.reduceAdd, reduceCtorEq, forall_const, Tryd.results18])
  refine Runs.alloc Fx.zi24 (fun w1 he1 hs1 hb1 => ?_)
  simp only [Value.cells] at hb1
  generalize hB : w.heap.size = B at hs1 hb1
  repeat ((try first | (refine ofX3 hX ?_; clear hX X) | (refine ofX2 hX ?_; clear hX X)); (first | refine wpL_step (fun X hX => ?_) | refine wpH_step (fun X hX => ?_) | refine wpE_step (fun X hX => ?_) | refine wpL_end ?_ | refine wpH_end ?_ | refine wpE_end ?_); try simp only [ oweC, oweP, opF, opH, ev, evs, evp, evo, Env.get, Env.set, putE, gdst, S0, S1, thenN, inBlockN, argEnv, builtinR, retE, fin, finC, retC, oneC, callR, reduceIte, Nat.reduceEqDiff, Nat.reduceAdd, reduceCtorEq, forall_const, Tryd.results18])
  refine hM _ _ _ ?_; clear hM M
  refine ok_seq (fun M hM => ok_region rfl ?_)
  repeat ((try first | (refine ofX3 hX ?_; clear hX X) | (refine ofX2 hX ?_; clear hX X)); (first | refine wpL_step (fun X hX => ?_) | refine wpH_step (fun X hX => ?_) | refine wpE_step (fun X hX => ?_) | refine wpL_end ?_ | refine wpH_end ?_ | refine wpE_end ?_); try simp only [ oweC, oweP, opF, opH, ev, evs, evp, evo, Env.get, Env.set, putE, gdst, S0, S1, thenN, inBlockN, argEnv, builtinR, retE, fin, finC, retC, oneC, callR, reduceIte, Nat.reduceEqDiff, Nat.reduceAdd, reduceCtorEq, forall_const, Tryd.results18])
  refine ⟨_, w1, run_build (P := Tryd.prog) w1 24 _ #[.int .i64 1, .int .i64 n, .string ⟨#[]⟩, .slice none 0 0] (by kernel_rfl), ?_⟩
  repeat ((try first | (refine ofX3 hX ?_; clear hX X) | (refine ofX2 hX ?_; clear hX X)); (first | refine wpL_step (fun X hX => ?_) | refine wpH_step (fun X hX => ?_) | refine wpE_step (fun X hX => ?_) | refine wpL_end ?_ | refine wpH_end ?_ | refine wpE_end ?_); try simp only [ oweC, oweP, opF, opH, ev, evs, evp, evo, Env.get, Env.set, putE, gdst, S0, S1, thenN, inBlockN, argEnv, builtinR, retE, fin, finC, retC, oneC, callR, reduceIte, Nat.reduceEqDiff, Nat.reduceAdd, reduceCtorEq, forall_const, Tryd.results18])
  refine Runs.store hb1 Fx.zi24 rfl (by intro u hu; simp [Value.cells] at hu; rcases hu with rfl | rfl | rfl | rfl <;> rfl) (by simp) (fun w2 hc2 hs2 hb2 => ?_)
  rw [splice_all _ _ (by simp [Value.cells])] at hb2
  simp only [Value.cells] at hb2
  repeat ((try first | (refine ofX3 hX ?_; clear hX X) | (refine ofX2 hX ?_; clear hX X)); (first | refine wpL_step (fun X hX => ?_) | refine wpH_step (fun X hX => ?_) | refine wpE_step (fun X hX => ?_) | refine wpL_end ?_ | refine wpH_end ?_ | refine wpE_end ?_); try simp only [ oweC, oweP, opF, opH, ev, evs, evp, evo, Env.get, Env.set, putE, gdst, S0, S1, thenN, inBlockN, argEnv, builtinR, retE, fin, finC, retC, oneC, callR, reduceIte, Nat.reduceEqDiff, Nat.reduceAdd, reduceCtorEq, forall_const, Tryd.results18])
  refine hM _ _ _ ?_; clear hM M
  refine ok_ret ?_
  try simp only [wpL, wpH, wpE, oweC, oweP, opF, opH, ev, evs, evp, evo, Env.get, Env.set, putE, gdst, S0, S1, thenN, inBlockN, argEnv, builtinR, retE, fin, finC, retC, oneC, callR, reduceIte, Nat.reduceEqDiff, Nat.reduceAdd, reduceCtorEq, forall_const, Tryd.results18]
  exact ⟨[.int .i64 1, .int .i64 n, .string ⟨#[]⟩, .slice none 0 0], rfl, hb2.cells (o := 0) (fun j u hj => by simpa using hj), rfl, he1.chg_trans hc2 (fun k hk => by omega)⟩

-- -- function 15
set_option maxHeartbeats 4000000 in
set_option maxRecDepth 8000 in
theorem Set_ok (w : World) (hb rb : Nat) (H : List Ob) (F : Nat → Prop) (hH : HeapW w hb rb H F) (hl : H.length ≤ 1048576) (x : Wd) (i : Int) (y : Wd) :
    Rets Tryd.prog 15 [ptrOf hb, wv x, .int .i64 i, wv y] w (fun v w' => v = .int .i64 (setE H x i y) ∧ Grown w w' hb rb (setH H x i y) F) := by
  have keep : ∀ (w' : World) (e : Int), setE H x i y = e → e ≠ 0 → Ext w w' → .int .i64 e = Value.int .i64 (setE H x i y) ∧ Grown w w' hb rb (setH H x i y) F := by
    intro w' e he hne h
    have : setH H x i y = H := by unfold setH; rw [if_neg (by rw [he]; exact hne)]
    rw [this, he]
    exact ⟨rfl, Grown.ext hH h⟩
  refine rets_of_ok Tryd.func15 rfl rfl ?_
  refine ok_seq (fun M hM => ok_region rfl ?_)
  repeat ((try first | (refine ofX3 hX ?_; clear hX X) | (refine ofX2 hX ?_; clear hX X)); (first | refine wpL_step (fun X hX => ?_) | refine wpH_step (fun X hX => ?_) | refine wpE_step (fun X hX => ?_) | refine wpL_end ?_ | refine wpH_end ?_ | refine wpE_end ?_); try simp only [ oweC, oweP, opF, opH, ev, evs, evp, evo, Env.get, Env.set, putE, gdst, S0, S1, thenN, inBlockN, argEnv, builtinR, retE, fin, finC, retC, oneC, callR, reduceIte, Nat.reduceEqDiff, Nat.reduceAdd, reduceCtorEq, forall_const, Tryd.results15, Fx.ag3, Fx.ag31, Fx.ag42, Fx.es42, Fx.fo31_0, Fx.fo31_2, Fx.fo70_0, Fx.fo72_0, Fx.isl42])
  refine Runs.box (fun w1 he1 hz1 hb1 => ?_)
  generalize hB1 : w.heap.size = B1 at hz1 hb1
  simp only [Value.cells] at hb1
  repeat ((try first | (refine ofX3 hX ?_; clear hX X) | (refine ofX2 hX ?_; clear hX X)); (first | refine wpL_step (fun X hX => ?_) | refine wpH_step (fun X hX => ?_) | refine wpE_step (fun X hX => ?_) | refine wpL_end ?_ | refine wpH_end ?_ | refine wpE_end ?_); try simp only [ oweC, oweP, opF, opH, ev, evs, evp, evo, Env.get, Env.set, putE, gdst, S0, S1, thenN, inBlockN, argEnv, builtinR, retE, fin, finC, retC, oneC, callR, reduceIte, Nat.reduceEqDiff, Nat.reduceAdd, reduceCtorEq, forall_const, Tryd.results15, Fx.ag3, Fx.ag31, Fx.ag42, Fx.es42, Fx.fo31_0, Fx.fo31_2, Fx.fo70_0, Fx.fo72_0, Fx.isl42])
  refine Runs.box (fun w2 he2 hz2 hb2 => ?_)
  generalize hB2 : w1.heap.size = B2 at hz2 hb2
  simp only [Value.cells] at hb2
  have hb12 := hb1.ext he2
  have he02 := he1.trans he2
  repeat ((try first | (refine ofX3 hX ?_; clear hX X) | (refine ofX2 hX ?_; clear hX X)); (first | refine wpL_step (fun X hX => ?_) | refine wpH_step (fun X hX => ?_) | refine wpE_step (fun X hX => ?_) | refine wpL_end ?_ | refine wpH_end ?_ | refine wpE_end ?_); try simp only [ oweC, oweP, opF, opH, ev, evs, evp, evo, Env.get, Env.set, putE, gdst, S0, S1, thenN, inBlockN, argEnv, builtinR, retE, fin, finC, retC, oneC, callR, reduceIte, Nat.reduceEqDiff, Nat.reduceAdd, reduceCtorEq, forall_const, Tryd.results15, Fx.ag3, Fx.ag31, Fx.ag42, Fx.es42, Fx.fo31_0, Fx.fo31_2, Fx.fo70_0, Fx.fo72_0, Fx.isl42])
  refine hM _ _ _ ?_; clear hM M
  refine ok_join [(0, ptrOf hb), (2, .int .i64 i), (5, ptrOf B1), (7, ptrOf B2)] (fun w' => Ext w2 w' ∧ rightW H x = true ∧ (rightW H y = true ∧ y.k ≠ 0 ∧ y.k ≠ 9) ∧ x.k = 7) ?_ ?_
  · refine ok_block ?_
    refine ok_seq (fun M hM => ok_region rfl ?_)
    repeat ((try first | (refine ofX3 hX ?_; clear hX X) | (refine ofX2 hX ?_; clear hX X)); (first | refine wpL_step (fun X hX => ?_) | refine wpH_step (fun X hX => ?_) | refine wpE_step (fun X hX => ?_) | refine wpL_end ?_ | refine wpH_end ?_ | refine wpE_end ?_); try simp only [ oweC, oweP, opF, opH, ev, evs, evp, evo, Env.get, Env.set, putE, gdst, S0, S1, thenN, inBlockN, argEnv, builtinR, retE, fin, finC, retC, oneC, callR, reduceIte, Nat.reduceEqDiff, Nat.reduceAdd, reduceCtorEq, forall_const, Tryd.results15, Fx.ag3, Fx.ag31, Fx.ag42, Fx.es42, Fx.fo31_0, Fx.fo31_2, Fx.fo70_0, Fx.fo72_0, Fx.isl42])
    refine Runs.ptrEq Fx.un28 ?_
    repeat ((try first | (refine ofX3 hX ?_; clear hX X) | (refine ofX2 hX ?_; clear hX X)); (first | refine wpL_step (fun X hX => ?_) | refine wpH_step (fun X hX => ?_) | refine wpE_step (fun X hX => ?_) | refine wpL_end ?_ | refine wpH_end ?_ | refine wpE_end ?_); try simp only [ oweC, oweP, opF, opH, ev, evs, evp, evo, Env.get, Env.set, putE, gdst, S0, S1, thenN, inBlockN, argEnv, builtinR, retE, fin, finC, retC, oneC, callR, reduceIte, Nat.reduceEqDiff, Nat.reduceAdd, reduceCtorEq, forall_const, Tryd.results15, Fx.ag3, Fx.ag31, Fx.ag42, Fx.es42, Fx.fo31_0, Fx.fo31_2, Fx.fo70_0, Fx.fo72_0, Fx.isl42])
    refine hM _ _ _ ?_; clear hM M
    refine ok_cond rfl (fun h => by cases h) (fun _ => ?_)
    refine ok_join [(0, ptrOf hb), (2, .int .i64 i), (5, ptrOf B1), (7, ptrOf B2), (13, .bool (!decide (rightW H x = true ∧ rightW H y = true ∧ y.k ≠ 0 ∧ y.k ≠ 9)))] (fun w' => Ext w2 w') ?_ ?_
    · refine ok_region rfl ?_
      repeat ((try first | (refine ofX3 hX ?_; clear hX X) | (refine ofX2 hX ?_; clear hX X)); (first | refine wpL_step (fun X hX => ?_) | refine wpH_step (fun X hX => ?_) | refine wpE_step (fun X hX => ?_) | refine wpL_end ?_ | refine wpH_end ?_ | refine wpE_end ?_); try simp only [ oweC, oweP, opF, opH, ev, evs, evp, evo, Env.get, Env.set, putE, gdst, S0, S1, thenN, inBlockN, argEnv, builtinR, retE, fin, finC, retC, oneC, callR, reduceIte, Nat.reduceEqDiff, Nat.reduceAdd, reduceCtorEq, forall_const, Tryd.results15, Fx.ag3, Fx.ag31, Fx.ag42, Fx.es42, Fx.fo31_0, Fx.fo31_2, Fx.fo70_0, Fx.fo72_0, Fx.isl42])
      refine ⟨x.row, rfl, hb12.cells (o := 0) (fun j u hj => by simpa using hj), ?_⟩
      repeat ((try first | (refine ofX3 hX ?_; clear hX X) | (refine ofX2 hX ?_; clear hX X)); (first | refine wpL_step (fun X hX => ?_) | refine wpH_step (fun X hX => ?_) | refine wpE_step (fun X hX => ?_) | refine wpL_end ?_ | refine wpH_end ?_ | refine wpE_end ?_); try simp only [ oweC, oweP, opF, opH, ev, evs, evp, evo, Env.get, Env.set, putE, gdst, S0, S1, thenN, inBlockN, argEnv, builtinR, retE, fin, finC, retC, oneC, callR, reduceIte, Nat.reduceEqDiff, Nat.reduceAdd, reduceCtorEq, forall_const, Tryd.results15, Fx.ag3, Fx.ag31, Fx.ag42, Fx.es42, Fx.fo31_0, Fx.fo31_2, Fx.fo70_0, Fx.fo72_0, Fx.isl42])
      refine Inv.call Fx.en13 (right_ok w2 hb rb H F (hH.ext he02) (by omega) x) ?_
      rintro v w3 ⟨rfl, he3⟩
      repeat ((try first | (refine ofX3 hX ?_; clear hX X) | (refine ofX2 hX ?_; clear hX X)); (first | refine wpL_step (fun X hX => ?_) | refine wpH_step (fun X hX => ?_) | refine wpE_step (fun X hX => ?_) | refine wpL_end ?_ | refine wpH_end ?_ | refine wpE_end ?_); try simp only [ oweC, oweP, opF, opH, ev, evs, evp, evo, Env.get, Env.set, putE, gdst, S0, S1, thenN, inBlockN, argEnv, builtinR, retE, fin, finC, retC, oneC, callR, reduceIte, Nat.reduceEqDiff, Nat.reduceAdd, reduceCtorEq, forall_const, Tryd.results15, Fx.ag3, Fx.ag31, Fx.ag42, Fx.es42, Fx.fo31_0, Fx.fo31_2, Fx.fo70_0, Fx.fo72_0, Fx.isl42])
      refine ⟨fun h => ?_, fun h => ?_⟩
      rotate_left
      · have hr : rightW H x = false := by simpa using h
        repeat ((try first | (refine ofX3 hX ?_; clear hX X) | (refine ofX2 hX ?_; clear hX X)); (first | refine wpL_step (fun X hX => ?_) | refine wpH_step (fun X hX => ?_) | refine wpE_step (fun X hX => ?_) | refine wpL_end ?_ | refine wpH_end ?_ | refine wpE_end ?_); try simp only [ oweC, oweP, opF, opH, ev, evs, evp, evo, Env.get, Env.set, putE, gdst, S0, S1, thenN, inBlockN, argEnv, builtinR, retE, fin, finC, retC, oneC, callR, reduceIte, Nat.reduceEqDiff, Nat.reduceAdd, reduceCtorEq, forall_const, Tryd.results15, Fx.ag3, Fx.ag31, Fx.ag42, Fx.es42, Fx.fo31_0, Fx.fo31_2, Fx.fo70_0, Fx.fo72_0, Fx.isl42])
        simp [sub, Env.get, hr, he3]
      have hr : rightW H x = true := by simpa using h
      repeat ((try first | (refine ofX3 hX ?_; clear hX X) | (refine ofX2 hX ?_; clear hX X)); (first | refine wpL_step (fun X hX => ?_) | refine wpH_step (fun X hX => ?_) | refine wpE_step (fun X hX => ?_) | refine wpL_end ?_ | refine wpH_end ?_ | refine wpE_end ?_); try simp only [ oweC, oweP, opF, opH, ev, evs, evp, evo, Env.get, Env.set, putE, gdst, S0, S1, thenN, inBlockN, argEnv, builtinR, retE, fin, finC, retC, oneC, callR, reduceIte, Nat.reduceEqDiff, Nat.reduceAdd, reduceCtorEq, forall_const, Tryd.results15, Fx.ag3, Fx.ag31, Fx.ag42, Fx.es42, Fx.fo31_0, Fx.fo31_2, Fx.fo70_0, Fx.fo72_0, Fx.isl42])
      refine ⟨y.row, rfl, (hb2.ext he3).cells (o := 0) (fun j u hj => by simpa using hj), ?_⟩
      repeat ((try first | (refine ofX3 hX ?_; clear hX X) | (refine ofX2 hX ?_; clear hX X)); (first | refine wpL_step (fun X hX => ?_) | refine wpH_step (fun X hX => ?_) | refine wpE_step (fun X hX => ?_) | refine wpL_end ?_ | refine wpH_end ?_ | refine wpE_end ?_); try simp only [ oweC, oweP, opF, opH, ev, evs, evp, evo, Env.get, Env.set, putE, gdst, S0, S1, thenN, inBlockN, argEnv, builtinR, retE, fin, finC, retC, oneC, callR, reduceIte, Nat.reduceEqDiff, Nat.reduceAdd, reduceCtorEq, forall_const, Tryd.results15, Fx.ag3, Fx.ag31, Fx.ag42, Fx.es42, Fx.fo31_0, Fx.fo31_2, Fx.fo70_0, Fx.fo72_0, Fx.isl42])
      refine Inv.call Fx.en13 (right_ok w3 hb rb H F (hH.ext (he02.trans he3)) (by omega) y) ?_
      rintro v w4 ⟨rfl, he4⟩
      have he34 := he3.trans he4
      have hk0 : w4.cell? ⟨B2, 0, none⟩ = some (.int .i64 y.k) := (hb2.ext he34).cell rfl
      repeat ((try first | (refine ofX3 hX ?_; clear hX X) | (refine ofX2 hX ?_; clear hX X)); (first | refine wpL_step (fun X hX => ?_) | refine wpH_step (fun X hX => ?_) | refine wpE_step (fun X hX => ?_) | refine wpL_end ?_ | refine wpH_end ?_ | refine wpE_end ?_); try simp only [ oweC, oweP, opF, opH, ev, evs, evp, evo, Env.get, Env.set, putE, gdst, S0, S1, thenN, inBlockN, argEnv, builtinR, retE, fin, finC, retC, oneC, callR, reduceIte, Nat.reduceEqDiff, Nat.reduceAdd, reduceCtorEq, forall_const, Tryd.results15, Fx.ag3, Fx.ag31, Fx.ag42, Fx.es42, Fx.fo31_0, Fx.fo31_2, Fx.fo70_0, Fx.fo72_0, Fx.isl42])
      simp only [hr, Bool.not_true]
      repeat ((try first | (refine ofX3 hX ?_; clear hX X) | (refine ofX2 hX ?_; clear hX X)); (first | refine wpL_step (fun X hX => ?_) | refine wpH_step (fun X hX => ?_) | refine wpE_step (fun X hX => ?_) | refine wpL_end ?_ | refine wpH_end ?_ | refine wpE_end ?_); try simp only [ oweC, oweP, opF, opH, ev, evs, evp, evo, Env.get, Env.set, putE, gdst, S0, S1, thenN, inBlockN, argEnv, builtinR, retE, fin, finC, retC, oneC, callR, reduceIte, Nat.reduceEqDiff, Nat.reduceAdd, reduceCtorEq, forall_const, Tryd.results15, Fx.ag3, Fx.ag31, Fx.ag42, Fx.es42, Fx.fo31_0, Fx.fo31_2, Fx.fo70_0, Fx.fo72_0, Fx.isl42])
      refine ⟨fun h => ?_, fun h => ?_⟩
      rotate_left
      · have hry : rightW H y = false := by simpa using h
        repeat ((try first | (refine ofX3 hX ?_; clear hX X) | (refine ofX2 hX ?_; clear hX X)); (first | refine wpL_step (fun X hX => ?_) | refine wpH_step (fun X hX => ?_) | refine wpE_step (fun X hX => ?_) | refine wpL_end ?_ | refine wpH_end ?_ | refine wpE_end ?_); try simp only [ oweC, oweP, opF, opH, ev, evs, evp, evo, Env.get, Env.set, putE, gdst, S0, S1, thenN, inBlockN, argEnv, builtinR, retE, fin, finC, retC, oneC, callR, reduceIte, Nat.reduceEqDiff, Nat.reduceAdd, reduceCtorEq, forall_const, Tryd.results15, Fx.ag3, Fx.ag31, Fx.ag42, Fx.es42, Fx.fo31_0, Fx.fo31_2, Fx.fo70_0, Fx.fo72_0, Fx.isl42])
        simp [sub, Env.get, hr, hry, he34]
      have hry : rightW H y = true := by simpa using h
      repeat ((try first | (refine ofX3 hX ?_; clear hX X) | (refine ofX2 hX ?_; clear hX X)); (first | refine wpL_step (fun X hX => ?_) | refine wpH_step (fun X hX => ?_) | refine wpE_step (fun X hX => ?_) | refine wpL_end ?_ | refine wpH_end ?_ | refine wpE_end ?_); try simp only [ oweC, oweP, opF, opH, ev, evs, evp, evo, Env.get, Env.set, putE, gdst, S0, S1, thenN, inBlockN, argEnv, builtinR, retE, fin, finC, retC, oneC, callR, reduceIte, Nat.reduceEqDiff, Nat.reduceAdd, reduceCtorEq, forall_const, Tryd.results15, Fx.ag3, Fx.ag31, Fx.ag42, Fx.es42, Fx.fo31_0, Fx.fo31_2, Fx.fo70_0, Fx.fo72_0, Fx.isl42])
      refine ⟨_, hk0, ?_⟩
      simp only [hry, Bool.not_true]
      repeat ((try first | (refine ofX3 hX ?_; clear hX X) | (refine ofX2 hX ?_; clear hX X)); (first | refine wpL_step (fun X hX => ?_) | refine wpH_step (fun X hX => ?_) | refine wpE_step (fun X hX => ?_) | refine wpL_end ?_ | refine wpH_end ?_ | refine wpE_end ?_); try simp only [ oweC, oweP, opF, opH, ev, evs, evp, evo, Env.get, Env.set, putE, gdst, S0, S1, thenN, inBlockN, argEnv, builtinR, retE, fin, finC, retC, oneC, callR, reduceIte, Nat.reduceEqDiff, Nat.reduceAdd, reduceCtorEq, forall_const, Tryd.results15, Fx.ag3, Fx.ag31, Fx.ag42, Fx.es42, Fx.fo31_0, Fx.fo31_2, Fx.fo70_0, Fx.fo72_0, Fx.isl42])
      refine ⟨fun h => ?_, fun h => ?_⟩
      · have h0 : ¬ y.k = 0 := by simpa using h
        repeat ((try first | (refine ofX3 hX ?_; clear hX X) | (refine ofX2 hX ?_; clear hX X)); (first | refine wpL_step (fun X hX => ?_) | refine wpH_step (fun X hX => ?_) | refine wpE_step (fun X hX => ?_) | refine wpL_end ?_ | refine wpH_end ?_ | refine wpE_end ?_); try simp only [ oweC, oweP, opF, opH, ev, evs, evp, evo, Env.get, Env.set, putE, gdst, S0, S1, thenN, inBlockN, argEnv, builtinR, retE, fin, finC, retC, oneC, callR, reduceIte, Nat.reduceEqDiff, Nat.reduceAdd, reduceCtorEq, forall_const, Tryd.results15, Fx.ag3, Fx.ag31, Fx.ag42, Fx.es42, Fx.fo31_0, Fx.fo31_2, Fx.fo70_0, Fx.fo72_0, Fx.isl42])
        refine ⟨_, hk0, ?_⟩
        simp only [h0, decide_false]
        repeat ((try first | (refine ofX3 hX ?_; clear hX X) | (refine ofX2 hX ?_; clear hX X)); (first | refine wpL_step (fun X hX => ?_) | refine wpH_step (fun X hX => ?_) | refine wpE_step (fun X hX => ?_) | refine wpL_end ?_ | refine wpH_end ?_ | refine wpE_end ?_); try simp only [ oweC, oweP, opF, opH, ev, evs, evp, evo, Env.get, Env.set, putE, gdst, S0, S1, thenN, inBlockN, argEnv, builtinR, retE, fin, finC, retC, oneC, callR, reduceIte, Nat.reduceEqDiff, Nat.reduceAdd, reduceCtorEq, forall_const, Tryd.results15, Fx.ag3, Fx.ag31, Fx.ag42, Fx.es42, Fx.fo31_0, Fx.fo31_2, Fx.fo70_0, Fx.fo72_0, Fx.isl42])
        by_cases h9 : y.k = 9 <;> simp [sub, Env.get, hr, hry, h0, h9, he34]
      · have h0 : y.k = 0 := by simpa using h
        repeat ((try first | (refine ofX3 hX ?_; clear hX X) | (refine ofX2 hX ?_; clear hX X)); (first | refine wpL_step (fun X hX => ?_) | refine wpH_step (fun X hX => ?_) | refine wpE_step (fun X hX => ?_) | refine wpL_end ?_ | refine wpH_end ?_ | refine wpE_end ?_); try simp only [ oweC, oweP, opF, opH, ev, evs, evp, evo, Env.get, Env.set, putE, gdst, S0, S1, thenN, inBlockN, argEnv, builtinR, retE, fin, finC, retC, oneC, callR, reduceIte, Nat.reduceEqDiff, Nat.reduceAdd, reduceCtorEq, forall_const, Tryd.results15, Fx.ag3, Fx.ag31, Fx.ag42, Fx.es42, Fx.fo31_0, Fx.fo31_2, Fx.fo70_0, Fx.fo72_0, Fx.isl42])
        simp [sub, Env.get, hr, hry, h0, he34]
    intro w3 he3
    refine ok_ifn rfl (fun hq => ?_) (fun hq => ?_)
    · refine ok_seq (fun M hM => ok_region rfl ?_); repeat ((try first | (refine ofX3 hX ?_; clear hX X) | (refine ofX2 hX ?_; clear hX X)); (first | refine wpL_step (fun X hX => ?_) | refine wpH_step (fun X hX => ?_) | refine wpE_step (fun X hX => ?_) | refine wpL_end ?_ | refine wpH_end ?_ | refine wpE_end ?_); try simp only [ oweC, oweP, opF, opH, ev, evs, evp, evo, Env.get, Env.set, putE, gdst, S0, S1, thenN, inBlockN, argEnv, builtinR, retE, fin, finC, retC, oneC, callR, reduceIte, Nat.reduceEqDiff, Nat.reduceAdd, reduceCtorEq, forall_const, Tryd.results15, Fx.ag3, Fx.ag31, Fx.ag42, Fx.es42, Fx.fo31_0, Fx.fo31_2, Fx.fo70_0, Fx.fo72_0, Fx.isl42])
      refine hM _ _ _ ?_; clear hM M
      refine ok_ret ?_
      try simp only [wpL, wpH, wpE, oweC, oweP, opF, opH, ev, evs, evp, evo, Env.get, Env.set, putE, gdst, S0, S1, thenN, inBlockN, argEnv, builtinR, retE, fin, finC, retC, oneC, callR, reduceIte, Nat.reduceEqDiff, Nat.reduceAdd, reduceCtorEq, forall_const, Tryd.results15, Fx.ag3, Fx.ag31, Fx.ag42, Fx.es42, Fx.fo31_0, Fx.fo31_2, Fx.fo70_0, Fx.fo72_0, Fx.isl42]
      exact keep w3 2 (by simp only [setE]; rw [if_neg hq]) (by decide) (he02.trans he3)
    · refine ok_seq (fun M hM => ok_region rfl ?_)
      repeat ((try first | (refine ofX3 hX ?_; clear hX X) | (refine ofX2 hX ?_; clear hX X)); (first | refine wpL_step (fun X hX => ?_) | refine wpH_step (fun X hX => ?_) | refine wpE_step (fun X hX => ?_) | refine wpL_end ?_ | refine wpH_end ?_ | refine wpE_end ?_); try simp only [ oweC, oweP, opF, opH, ev, evs, evp, evo, Env.get, Env.set, putE, gdst, S0, S1, thenN, inBlockN, argEnv, builtinR, retE, fin, finC, retC, oneC, callR, reduceIte, Nat.reduceEqDiff, Nat.reduceAdd, reduceCtorEq, forall_const, Tryd.results15, Fx.ag3, Fx.ag31, Fx.ag42, Fx.es42, Fx.fo31_0, Fx.fo31_2, Fx.fo70_0, Fx.fo72_0, Fx.isl42])
      refine ⟨_, (hb12.ext he3).cell (j := 0) (by rfl : _ = some (Value.int .i64 x.k)), ?_⟩
      repeat ((try first | (refine ofX3 hX ?_; clear hX X) | (refine ofX2 hX ?_; clear hX X)); (first | refine wpL_step (fun X hX => ?_) | refine wpH_step (fun X hX => ?_) | refine wpE_step (fun X hX => ?_) | refine wpL_end ?_ | refine wpH_end ?_ | refine wpE_end ?_); try simp only [ oweC, oweP, opF, opH, ev, evs, evp, evo, Env.get, Env.set, putE, gdst, S0, S1, thenN, inBlockN, argEnv, builtinR, retE, fin, finC, retC, oneC, callR, reduceIte, Nat.reduceEqDiff, Nat.reduceAdd, reduceCtorEq, forall_const, Tryd.results15, Fx.ag3, Fx.ag31, Fx.ag42, Fx.es42, Fx.fo31_0, Fx.fo31_2, Fx.fo70_0, Fx.fo72_0, Fx.isl42])
      refine hM _ _ _ ?_; clear hM M
      refine ok_ifn rfl (fun h7 => ?_) (fun h7 => ok_skip ?_)
      · refine ok_seq (fun M hM => ok_region rfl ?_); repeat ((try first | (refine ofX3 hX ?_; clear hX X) | (refine ofX2 hX ?_; clear hX X)); (first | refine wpL_step (fun X hX => ?_) | refine wpH_step (fun X hX => ?_) | refine wpE_step (fun X hX => ?_) | refine wpL_end ?_ | refine wpH_end ?_ | refine wpE_end ?_); try simp only [ oweC, oweP, opF, opH, ev, evs, evp, evo, Env.get, Env.set, putE, gdst, S0, S1, thenN, inBlockN, argEnv, builtinR, retE, fin, finC, retC, oneC, callR, reduceIte, Nat.reduceEqDiff, Nat.reduceAdd, reduceCtorEq, forall_const, Tryd.results15, Fx.ag3, Fx.ag31, Fx.ag42, Fx.es42, Fx.fo31_0, Fx.fo31_2, Fx.fo70_0, Fx.fo72_0, Fx.isl42])
        refine hM _ _ _ ?_; clear hM M
        refine ok_ret ?_
        try simp only [wpL, wpH, wpE, oweC, oweP, opF, opH, ev, evs, evp, evo, Env.get, Env.set, putE, gdst, S0, S1, thenN, inBlockN, argEnv, builtinR, retE, fin, finC, retC, oneC, callR, reduceIte, Nat.reduceEqDiff, Nat.reduceAdd, reduceCtorEq, forall_const, Tryd.results15, Fx.ag3, Fx.ag31, Fx.ag42, Fx.es42, Fx.fo31_0, Fx.fo31_2, Fx.fo70_0, Fx.fo72_0, Fx.isl42]
        exact keep w3 3 (by simp only [setE]; rw [if_pos hq, if_neg h7]) (by decide) (he02.trans he3)
      · try simp only [wpL, wpH, wpE, oweC, oweP, opF, opH, ev, evs, evp, evo, Env.get, Env.set, putE, gdst, S0, S1, thenN, inBlockN, argEnv, builtinR, retE, fin, finC, retC, oneC, callR, reduceIte, Nat.reduceEqDiff, Nat.reduceAdd, reduceCtorEq, forall_const, Tryd.results15, Fx.ag3, Fx.ag31, Fx.ag42, Fx.es42, Fx.fo31_0, Fx.fo31_2, Fx.fo70_0, Fx.fo72_0, Fx.isl42]
        exact ⟨by simp [sub, Env.get], he3, hq.1, hq.2, h7⟩
  rintro w3 ⟨he3, hr, hry, h7⟩
  have he03 := he02.trans he3
  obtain ⟨l, hol⟩ := right7 hr h7
  have hal : argsOf H x = l := by simp [argsOf, argsO, hol]
  obtain ⟨vs, ps, gs, hR, hf, hrb⟩ := hH.ext he03
  refine ok_seq (fun M hM => ok_region rfl ?_)
  repeat ((try first | (refine ofX3 hX ?_; clear hX X) | (refine ofX2 hX ?_; clear hX X)); (first | refine wpL_step (fun X hX => ?_) | refine wpH_step (fun X hX => ?_) | refine wpE_step (fun X hX => ?_) | refine wpL_end ?_ | refine wpH_end ?_ | refine wpE_end ?_); try simp only [ oweC, oweP, opF, opH, ev, evs, evp, evo, Env.get, Env.set, putE, gdst, S0, S1, thenN, inBlockN, argEnv, builtinR, retE, fin, finC, retC, oneC, callR, reduceIte, Nat.reduceEqDiff, Nat.reduceAdd, reduceCtorEq, forall_const, Tryd.results15, Fx.ag3, Fx.ag31, Fx.ag42, Fx.es42, Fx.fo31_0, Fx.fo31_2, Fx.fo70_0, Fx.fo72_0, Fx.isl42])
  refine ⟨_, (hb12.ext he3).cell (j := 2) (by rfl : _ = some (Value.int .i64 x.r)), ?_⟩
  repeat ((try first | (refine ofX3 hX ?_; clear hX X) | (refine ofX2 hX ?_; clear hX X)); (first | refine wpL_step (fun X hX => ?_) | refine wpH_step (fun X hX => ?_) | refine wpE_step (fun X hX => ?_) | refine wpL_end ?_ | refine wpH_end ?_ | refine wpE_end ?_); try simp only [ oweC, oweP, opF, opH, ev, evs, evp, evo, Env.get, Env.set, putE, gdst, S0, S1, thenN, inBlockN, argEnv, builtinR, retE, fin, finC, retC, oneC, callR, reduceIte, Nat.reduceEqDiff, Nat.reduceAdd, reduceCtorEq, forall_const, Tryd.results15, Fx.ag3, Fx.ag31, Fx.ag42, Fx.es42, Fx.fo31_0, Fx.fo31_2, Fx.fo70_0, Fx.fo72_0, Fx.isl42])
  refine Inv.call Fx.en35 (object_ok w3 hb rb vs ps gs H hR (by omega) x.r) ?_
  rintro v w4 ⟨rfl, hv⟩
  rcases hv with ⟨ho, rfl⟩ | ⟨t, p, g, o, ho, hxr, hi, hp, hg, rfl⟩
  · rw [hol] at ho; cases ho
  rw [hol] at ho; cases ho
  obtain ⟨lv, hbp, hWL⟩ := hR.obj t p g _ hp hg hi
  obtain ⟨A, c, rfl, hll, hlc, hne⟩ := id hWL
  repeat ((try first | (refine ofX3 hX ?_; clear hX X) | (refine ofX2 hX ?_; clear hX X)); (first | refine wpL_step (fun X hX => ?_) | refine wpH_step (fun X hX => ?_) | refine wpE_step (fun X hX => ?_) | refine wpL_end ?_ | refine wpH_end ?_ | refine wpE_end ?_); try simp only [ oweC, oweP, opF, opH, ev, evs, evp, evo, Env.get, Env.set, putE, gdst, S0, S1, thenN, inBlockN, argEnv, builtinR, retE, fin, finC, retC, oneC, callR, reduceIte, Nat.reduceEqDiff, Nat.reduceAdd, reduceCtorEq, forall_const, Tryd.results15, Fx.ag3, Fx.ag31, Fx.ag42, Fx.es42, Fx.fo31_0, Fx.fo31_2, Fx.fo70_0, Fx.fo72_0, Fx.isl42])
  refine ⟨_, hbp.cell (j := 0) rfl, ?_⟩
  repeat ((try first | (refine ofX3 hX ?_; clear hX X) | (refine ofX2 hX ?_; clear hX X)); (first | refine wpL_step (fun X hX => ?_) | refine wpH_step (fun X hX => ?_) | refine wpE_step (fun X hX => ?_) | refine wpL_end ?_ | refine wpH_end ?_ | refine wpE_end ?_); try simp only [ oweC, oweP, opF, opH, ev, evs, evp, evo, Env.get, Env.set, putE, gdst, S0, S1, thenN, inBlockN, argEnv, builtinR, retE, fin, finC, retC, oneC, callR, reduceIte, Nat.reduceEqDiff, Nat.reduceAdd, reduceCtorEq, forall_const, Tryd.results15, Fx.ag3, Fx.ag31, Fx.ag42, Fx.es42, Fx.fo31_0, Fx.fo31_2, Fx.fo70_0, Fx.fo72_0, Fx.isl42])
  refine hM _ _ _ ?_; clear hM M
  refine ok_join [(2, .int .i64 i), (7, ptrOf B2), (9, .slice A l.length c)] (fun w' => w' = w4 ∧ 0 ≤ i ∧ i < (l.length : Int)) ?_ ?_
  · refine ok_join [(2, .int .i64 i), (7, ptrOf B2), (9, .slice A l.length c), (53, .bool (!decide (0 ≤ i ∧ i < (l.length : Int))))] (fun w' => w' = w4) ?_ ?_
    · refine ok_region rfl ?_
      repeat ((try first | (refine ofX3 hX ?_; clear hX X) | (refine ofX2 hX ?_; clear hX X)); (first | refine wpL_step (fun X hX => ?_) | refine wpH_step (fun X hX => ?_) | refine wpE_step (fun X hX => ?_) | refine wpL_end ?_ | refine wpH_end ?_ | refine wpE_end ?_); try simp only [ oweC, oweP, opF, opH, ev, evs, evp, evo, Env.get, Env.set, putE, gdst, S0, S1, thenN, inBlockN, argEnv, builtinR, retE, fin, finC, retC, oneC, callR, reduceIte, Nat.reduceEqDiff, Nat.reduceAdd, reduceCtorEq, forall_const, Tryd.results15, Fx.ag3, Fx.ag31, Fx.ag42, Fx.es42, Fx.fo31_0, Fx.fo31_2, Fx.fo70_0, Fx.fo72_0, Fx.isl42])
      refine ⟨fun h => ?_, fun h => ?_⟩
      · have h0 : ¬ i < 0 := by simpa using h
        simp only [h0, decide_false]
        repeat ((try first | (refine ofX3 hX ?_; clear hX X) | (refine ofX2 hX ?_; clear hX X)); (first | refine wpL_step (fun X hX => ?_) | refine wpH_step (fun X hX => ?_) | refine wpE_step (fun X hX => ?_) | refine wpL_end ?_ | refine wpH_end ?_ | refine wpE_end ?_); try simp only [ oweC, oweP, opF, opH, ev, evs, evp, evo, Env.get, Env.set, putE, gdst, S0, S1, thenN, inBlockN, argEnv, builtinR, retE, fin, finC, retC, oneC, callR, reduceIte, Nat.reduceEqDiff, Nat.reduceAdd, reduceCtorEq, forall_const, Tryd.results15, Fx.ag3, Fx.ag31, Fx.ag42, Fx.es42, Fx.fo31_0, Fx.fo31_2, Fx.fo70_0, Fx.fo72_0, Fx.isl42])
        have h0' : 0 ≤ i := by omega
        by_cases h1 : (l.length : Int) ≤ i
        · have h2 : ¬ i < (l.length : Int) := by omega
          simp [sub, Env.get, h0', h1, h2]
        · have h2 : i < (l.length : Int) := by omega
          simp [sub, Env.get, h0', h1, h2]
      · have h0 : i < 0 := by simpa using h
        repeat ((try first | (refine ofX3 hX ?_; clear hX X) | (refine ofX2 hX ?_; clear hX X)); (first | refine wpL_step (fun X hX => ?_) | refine wpH_step (fun X hX => ?_) | refine wpE_step (fun X hX => ?_) | refine wpL_end ?_ | refine wpH_end ?_ | refine wpE_end ?_); try simp only [ oweC, oweP, opF, opH, ev, evs, evp, evo, Env.get, Env.set, putE, gdst, S0, S1, thenN, inBlockN, argEnv, builtinR, retE, fin, finC, retC, oneC, callR, reduceIte, Nat.reduceEqDiff, Nat.reduceAdd, reduceCtorEq, forall_const, Tryd.results15, Fx.ag3, Fx.ag31, Fx.ag42, Fx.es42, Fx.fo31_0, Fx.fo31_2, Fx.fo70_0, Fx.fo72_0, Fx.isl42])
        have h0' : ¬ 0 ≤ i := by omega
        simp [sub, Env.get, h0']
    rintro w' rfl
    refine ok_ifn rfl (fun hq => ?_) (fun hq => ok_skip ?_)
    · refine ok_seq (fun M hM => ok_region rfl ?_); repeat ((try first | (refine ofX3 hX ?_; clear hX X) | (refine ofX2 hX ?_; clear hX X)); (first | refine wpL_step (fun X hX => ?_) | refine wpH_step (fun X hX => ?_) | refine wpE_step (fun X hX => ?_) | refine wpL_end ?_ | refine wpH_end ?_ | refine wpE_end ?_); try simp only [ oweC, oweP, opF, opH, ev, evs, evp, evo, Env.get, Env.set, putE, gdst, S0, S1, thenN, inBlockN, argEnv, builtinR, retE, fin, finC, retC, oneC, callR, reduceIte, Nat.reduceEqDiff, Nat.reduceAdd, reduceCtorEq, forall_const, Tryd.results15, Fx.ag3, Fx.ag31, Fx.ag42, Fx.es42, Fx.fo31_0, Fx.fo31_2, Fx.fo70_0, Fx.fo72_0, Fx.isl42])
      refine hM _ _ _ ?_; clear hM M
      refine ok_ret ?_
      try simp only [wpL, wpH, wpE, oweC, oweP, opF, opH, ev, evs, evp, evo, Env.get, Env.set, putE, gdst, S0, S1, thenN, inBlockN, argEnv, builtinR, retE, fin, finC, retC, oneC, callR, reduceIte, Nat.reduceEqDiff, Nat.reduceAdd, reduceCtorEq, forall_const, Tryd.results15, Fx.ag3, Fx.ag31, Fx.ag42, Fx.es42, Fx.fo31_0, Fx.fo31_2, Fx.fo70_0, Fx.fo72_0, Fx.isl42]
      exact keep w' 24 (by simp only [setE]; rw [if_pos ⟨hr, hry⟩, if_pos h7, hal, if_neg hq]) (by decide) he03
    · try simp only [wpL, wpH, wpE, oweC, oweP, opF, opH, ev, evs, evp, evo, Env.get, Env.set, putE, gdst, S0, S1, thenN, inBlockN, argEnv, builtinR, retE, fin, finC, retC, oneC, callR, reduceIte, Nat.reduceEqDiff, Nat.reduceAdd, reduceCtorEq, forall_const, Tryd.results15, Fx.ag3, Fx.ag31, Fx.ag42, Fx.es42, Fx.fo31_0, Fx.fo31_2, Fx.fo70_0, Fx.fo72_0, Fx.isl42]
      exact ⟨by simp [sub, Env.get], hq.1, hq.2⟩
  rintro w' ⟨rfl, h0, h1⟩
  have hse : setE H x i y = 0 := by simp only [setE]; rw [if_pos ⟨hr, hry⟩, if_pos h7, hal, if_pos ⟨h0, h1⟩]
  have hsh : setH H x i y = H.set t (.words 7 (l.set i.toNat y)) := by
    unfold setH; rw [if_pos hse, hal]
    have : (x.r - 1).toNat = t := by omega
    rw [this]
  rw [hse, hsh]
  have hlne : l ≠ [] := by intro e; subst e; simp at h1; omega
  obtain ⟨rfl, cs, hbg, htk⟩ := hne hlne
  have hil : i.toNat < l.length := by omega
  have hcsl : l.length * 3 ≤ cs.length := by
    have h5 : (cs.take (l.length * 3)).length = l.length * 3 := by rw [htk, flat_words]
    rw [List.length_take] at h5
    omega
  refine ok_seq (fun M hM => ok_region rfl ?_)
  repeat ((try first | (refine ofX3 hX ?_; clear hX X) | (refine ofX2 hX ?_; clear hX X)); (first | refine wpL_step (fun X hX => ?_) | refine wpH_step (fun X hX => ?_) | refine wpE_step (fun X hX => ?_) | refine wpL_end ?_ | refine wpH_end ?_ | refine wpE_end ?_); try simp only [ oweC, oweP, opF, opH, ev, evs, evp, evo, Env.get, Env.set, putE, gdst, S0, S1, thenN, inBlockN, argEnv, builtinR, retE, fin, finC, retC, oneC, callR, reduceIte, Nat.reduceEqDiff, Nat.reduceAdd, reduceCtorEq, forall_const, Tryd.results15, Fx.ag3, Fx.ag31, Fx.ag42, Fx.es42, Fx.fo31_0, Fx.fo31_2, Fx.fo70_0, Fx.fo72_0, Fx.isl42])
  refine ⟨y.row, rfl, (hb2.ext he3).cells (o := 0) (fun j u hj => by simpa using hj), ?_⟩
  repeat ((try first | (refine ofX3 hX ?_; clear hX X) | (refine ofX2 hX ?_; clear hX X)); (first | refine wpL_step (fun X hX => ?_) | refine wpH_step (fun X hX => ?_) | refine wpE_step (fun X hX => ?_) | refine wpL_end ?_ | refine wpH_end ?_ | refine wpE_end ?_); try simp only [ oweC, oweP, opF, opH, ev, evs, evp, evo, Env.get, Env.set, putE, gdst, S0, S1, thenN, inBlockN, argEnv, builtinR, retE, fin, finC, retC, oneC, callR, reduceIte, Nat.reduceEqDiff, Nat.reduceAdd, reduceCtorEq, forall_const, Tryd.results15, Fx.ag3, Fx.ag31, Fx.ag42, Fx.es42, Fx.fo31_0, Fx.fo31_2, Fx.fo70_0, Fx.fo72_0, Fx.isl42])
  refine ⟨by omega, by omega, ?_⟩
  repeat ((try first | (refine ofX3 hX ?_; clear hX X) | (refine ofX2 hX ?_; clear hX X)); (first | refine wpL_step (fun X hX => ?_) | refine wpH_step (fun X hX => ?_) | refine wpE_step (fun X hX => ?_) | refine wpL_end ?_ | refine wpH_end ?_ | refine wpE_end ?_); try simp only [ oweC, oweP, opF, opH, ev, evs, evp, evo, Env.get, Env.set, putE, gdst, S0, S1, thenN, inBlockN, argEnv, builtinR, retE, fin, finC, retC, oneC, callR, reduceIte, Nat.reduceEqDiff, Nat.reduceAdd, reduceCtorEq, forall_const, Tryd.results15, Fx.ag3, Fx.ag31, Fx.ag42, Fx.es42, Fx.fo31_0, Fx.fo31_2, Fx.fo70_0, Fx.fo72_0, Fx.isl42])
  simp only [Nat.zero_add]
  refine Runs.store (b := g) (o := i.toNat * 3) (v := wv y) hbg Fx.zi31 rfl (by intro u hu; simp [Value.cells, Wd.row] at hu; rcases hu with rfl | rfl | rfl <;> rfl) (by omega) (fun w5 hc5 hs5 hb5 => ?_)
  repeat ((try first | (refine ofX3 hX ?_; clear hX X) | (refine ofX2 hX ?_; clear hX X)); (first | refine wpL_step (fun X hX => ?_) | refine wpH_step (fun X hX => ?_) | refine wpE_step (fun X hX => ?_) | refine wpL_end ?_ | refine wpH_end ?_ | refine wpE_end ?_); try simp only [ oweC, oweP, opF, opH, ev, evs, evp, evo, Env.get, Env.set, putE, gdst, S0, S1, thenN, inBlockN, argEnv, builtinR, retE, fin, finC, retC, oneC, callR, reduceIte, Nat.reduceEqDiff, Nat.reduceAdd, reduceCtorEq, forall_const, Tryd.results15, Fx.ag3, Fx.ag31, Fx.ag42, Fx.es42, Fx.fo31_0, Fx.fo31_2, Fx.fo70_0, Fx.fo72_0, Fx.isl42])
  refine hM _ _ _ ?_; clear hM M
  refine ok_seq (fun M hM => ok_region rfl ?_); repeat ((try first | (refine ofX3 hX ?_; clear hX X) | (refine ofX2 hX ?_; clear hX X)); (first | refine wpL_step (fun X hX => ?_) | refine wpH_step (fun X hX => ?_) | refine wpE_step (fun X hX => ?_) | refine wpL_end ?_ | refine wpH_end ?_ | refine wpE_end ?_); try simp only [ oweC, oweP, opF, opH, ev, evs, evp, evo, Env.get, Env.set, putE, gdst, S0, S1, thenN, inBlockN, argEnv, builtinR, retE, fin, finC, retC, oneC, callR, reduceIte, Nat.reduceEqDiff, Nat.reduceAdd, reduceCtorEq, forall_const, Tryd.results15, Fx.ag3, Fx.ag31, Fx.ag42, Fx.es42, Fx.fo31_0, Fx.fo31_2, Fx.fo70_0, Fx.fo72_0, Fx.isl42])
  refine hM _ _ _ ?_; clear hM M
  refine ok_ret ?_
  try simp only [wpL, wpH, wpE, oweC, oweP, opF, opH, ev, evs, evp, evo, Env.get, Env.set, putE, gdst, S0, S1, thenN, inBlockN, argEnv, builtinR, retE, fin, finC, retC, oneC, callR, reduceIte, Nat.reduceEqDiff, Nat.reduceAdd, reduceCtorEq, forall_const, Tryd.results15, Fx.ag3, Fx.ag31, Fx.ag42, Fx.es42, Fx.fo31_0, Fx.fo31_2, Fx.fo70_0, Fx.fo72_0, Fx.isl42]
  have hgm : g ∈ gs := List.mem_of_getElem? hg
  have hgF := hf g (.inr (.inr (.inr hgm)))
  have hgp : g ∉ ps := hR.gnp hp hg hi hlne
  have htl := (List.getElem?_eq_some_iff.1 hi).1
  have hws := he03.size
  refine ⟨?_, F, ⟨vs, ps, gs, ⟨hR.head.chg hc5 (fun e => hR.ap.1.2 (e ▸ hgm)), hR.rules.chg hc5 (fun e => hrb (e ▸ hgF.1)), ?_, by simp [hR.lenp], by simp [hR.leng], hR.ndp, hR.ndg, hR.ap, fun t' p' g' o' h2 h3 h4 => ?_⟩, fun k hk => ⟨(hf k hk).1, by have := (hf k hk).2; omega⟩, hrb⟩, fun k hk => .inl hk⟩
  · exact (he03.chg F).trans (hc5.mono fun k _ hk => by rw [hk]; exact hgF.1)
  · rw [List.length_set]
    exact owns_chg' hR.own hc5 (fun k hk e => (hR.ap.2 k hk).2.2 (e ▸ hgm))
  · by_cases htt : t' = t
    · subst htt
      rw [hp] at h2; cases h2
      rw [hg] at h3; cases h3
      rw [List.getElem?_set_self htl] at h4
      cases h4
      refine ⟨_, hbp.chg hc5 (fun e => hgp (e ▸ List.mem_of_getElem? hp)), _, c, by rw [List.length_set], by simpa using hll, by simpa using hlc, fun _ => ⟨rfl, _, hb5, ?_⟩⟩
      have hcs : cs = (l.map Wd.row).flatten ++ cs.drop (l.length * 3) := by rw [← htk]; exact (List.take_append_drop _ _).symm
      rw [hcs, show (Value.cells (wv y)).toList = y.row from rfl, flat_set y l i.toNat _ hil]
      rw [List.take_append_of_le_length (by rw [flat_words]; exact Nat.le_refl _), List.take_of_length_le (by rw [flat_words]; exact Nat.le_refl _)]
    · rw [List.getElem?_set_ne (fun e => htt e.symm)] at h4
      refine (hR.obj t' p' g' o' h2 h3 h4).chg hc5 (fun e => hgp (e ▸ List.mem_of_getElem? h2)) (fun e => ?_)
      have h5 := List.getElem?_eq_some_iff.1 h3
      have h6 := List.getElem?_eq_some_iff.1 hg
      have := (List.getElem_inj hR.ndg).1 (h5.2.trans (e.trans h6.2.symm))
      exact htt this
end Go.Proofs.YtldeokfhipjbfaaDoor
