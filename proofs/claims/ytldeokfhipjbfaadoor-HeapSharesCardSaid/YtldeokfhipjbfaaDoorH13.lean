/- load: a word's value.  -/
import Derived.Test.YtldeokfhipjbfaaDoorH12
set_option linter.unusedVariables false
set_option linter.unusedSimpArgs false
namespace Go.Proofs.Vg
open Go Go.RowKit
mutual
/-- What a word reads as. -/
def Lds (H : List Ob) : Wd → Val → Prop
  | x, .mk k n t args => if x.k = 0 ∨ x.k = 9 then k = 0 ∧ n = 0 ∧ t = ⟨#[]⟩ ∧ args = [] ∧ x.r = 0
    else if x.k = 3 then k = 3 ∧ n = 0 ∧ args = [] ∧ objAt H x.r = some (.text t)
    else 1 ≤ x.k ∧ x.k ≤ 8 ∧ k = x.k ∧ n = x.n ∧ t = ⟨#[]⟩ ∧ LdsL H (argsOf H x) args
def LdsL (H : List Ob) : List Wd → List Val → Prop
  | [], [] => True
  | x :: xs, v :: vs => Lds H x v ∧ LdsL H xs vs
  | _, _ => False
end
theorem LdsL.length {H : List Ob} : ∀ (xs : List Wd) (vs : List Val), LdsL H xs vs → xs.length = vs.length
  | [], [], _ => rfl
  | x :: xs, v :: vs, h => by simp only [LdsL] at h; simp [LdsL.length xs vs h.2]
  | [], _ :: _, h => by simp [LdsL] at h
  | _ :: _, [], h => by simp [LdsL] at h
theorem LdsL.get {H : List Ob} : ∀ (xs : List Wd) (vs : List Val), LdsL H xs vs → ∀ (i : Nat) (x : Wd) (v : Val), xs[i]? = some x → vs[i]? = some v → Lds H x v
  | [], [], _, i, x, v, h, _ => by simp at h
  | x :: xs, v :: vs, h, i, y, u, h1, h2 => by
    simp only [LdsL] at h
    cases i with
    | zero => simp at h1 h2; subst h1; subst h2; exact h.1
    | succ i => exact LdsL.get xs vs h.2 i y u (by simpa using h1) (by simpa using h2)
  | [], _ :: _, h, _, _, _, _, _ => by simp [LdsL] at h
  | _ :: _, [], h, _, _, _, _, _ => by simp [LdsL] at h
end Go.Proofs.Vg
namespace Go.Proofs.YtldeokfhipjbfaaDoor
open Go Go.Proofs.Vg Go.RowKit

theorem Fx.zi22 : zinfo Tryd.prog 22 = some (some (.slice none 0 0), 1, 24) := by kernel_rfl
theorem rank_get {k : Int} (h1 : 1 ≤ k) (h2 : k ≤ 8) : rankL[k.toNat]? = some (.int .i64 k) := by
  have : k = 1 ∨ k = 2 ∨ k = 3 ∨ k = 4 ∨ k = 5 ∨ k = 6 ∨ k = 7 ∨ k = 8 := by omega
  rcases this with rfl | rfl | rfl | rfl | rfl | rfl | rfl | rfl <;> rfl

-- -- function 31
set_option maxHeartbeats 4000000 in
set_option maxRecDepth 8000 in
theorem load_ok (hb rb : Nat) (H : List Ob) (F : Nat → Prop) (hl : H.length ≤ 1073741824) (hLim : ∀ x, (argsOf H x).length ≤ 1048576) (mk : Nat) : ∀ (m : Nat) (u : Val) (x : Wd) (w : World), SizeOf.sizeOf u ≤ m → Lds H x u → HeapW w hb rb H F → Glob w mk →
    Rets Tryd.prog 31 [ptrOf hb, wv x] w (fun v w' => ∃ cs : List Value, v = .agg cs.toArray ∧ VRowS w' (fun k => w.heap.size ≤ k ∧ k < w'.heap.size) cs u ∧ Ext w w') := by
  intro m
  induction m with
  | zero => intro u x w hm; cases u; simp at hm
  | succ m ih =>
    rintro ⟨k, n, t, a⟩ x w hm hL hH hg
    have nilS : ∀ (w' : World) (S : Nat → Prop), SliS w' S 4 (.slice none 0 0) [] := fun w' S => ⟨none, 0, rfl, by simp, fun j row hj => by simp at hj⟩
    simp only [Lds] at hL
    refine rets_of_okC Tryd.func31 rfl rfl ?_
    refine ok_seq (fun M hM => ok_region rfl ?_)
    repeat ((try first | (refine ofX3 hX ?_; clear hX X) | (refine ofX2 hX ?_; clear hX X)); (first | refine wpL_step (fun X hX => ?_) | refine wpH_step (fun X hX => ?_) | refine wpE_step (fun X hX => ?_) | refine wpL_end ?_ | refine wpH_end ?_ | refine wpE_end ?_); try simp only [ oweC, oweP, opF, opH, ev, evs, evp, evo, Env.get, Env.set, putE, gdst, S0, S1, thenN, inBlockN, argEnv, builtinR, retE, fin, finC, retC, oneC, callR, reduceIte, Nat.reduceEqDiff, Nat.reduceAdd, reduceCtorEq, forall_const, Tryd.results31, Fx.ag2, Fx.ag22, Fx.ag24, Fx.ag3, Fx.ag31, Fx.ag9, Fx.ar87, Fx.es42, Fx.fo24_0, Fx.fo24_3, Fx.fo31_0, Fx.fo31_1, Fx.fo31_2, Fx.fo72_1, Fx.isl42])
    refine Runs.box (fun w1 he1 hz1 hb1 => ?_)
    generalize hB1 : w.heap.size = B1 at hz1 hb1
    simp only [Value.cells] at hb1
    repeat ((try first | (refine ofX3 hX ?_; clear hX X) | (refine ofX2 hX ?_; clear hX X)); (first | refine wpL_step (fun X hX => ?_) | refine wpH_step (fun X hX => ?_) | refine wpE_step (fun X hX => ?_) | refine wpL_end ?_ | refine wpH_end ?_ | refine wpE_end ?_); try simp only [ oweC, oweP, opF, opH, ev, evs, evp, evo, Env.get, Env.set, putE, gdst, S0, S1, thenN, inBlockN, argEnv, builtinR, retE, fin, finC, retC, oneC, callR, reduceIte, Nat.reduceEqDiff, Nat.reduceAdd, reduceCtorEq, forall_const, Tryd.results31, Fx.ag2, Fx.ag22, Fx.ag24, Fx.ag3, Fx.ag31, Fx.ag9, Fx.ar87, Fx.es42, Fx.fo24_0, Fx.fo24_3, Fx.fo31_0, Fx.fo31_1, Fx.fo31_2, Fx.fo72_1, Fx.isl42])
    refine Runs.alloc Fx.zi24 (fun w2 he2 hz2 hb2 => ?_)
    generalize hB2 : w1.heap.size = B2 at hz2 hb2
    simp only [Value.cells] at hb2
    repeat ((try first | (refine ofX3 hX ?_; clear hX X) | (refine ofX2 hX ?_; clear hX X)); (first | refine wpL_step (fun X hX => ?_) | refine wpH_step (fun X hX => ?_) | refine wpE_step (fun X hX => ?_) | refine wpL_end ?_ | refine wpH_end ?_ | refine wpE_end ?_); try simp only [ oweC, oweP, opF, opH, ev, evs, evp, evo, Env.get, Env.set, putE, gdst, S0, S1, thenN, inBlockN, argEnv, builtinR, retE, fin, finC, retC, oneC, callR, reduceIte, Nat.reduceEqDiff, Nat.reduceAdd, reduceCtorEq, forall_const, Tryd.results31, Fx.ag2, Fx.ag22, Fx.ag24, Fx.ag3, Fx.ag31, Fx.ag9, Fx.ar87, Fx.es42, Fx.fo24_0, Fx.fo24_3, Fx.fo31_0, Fx.fo31_1, Fx.fo31_2, Fx.fo72_1, Fx.isl42])
    refine hM _ _ _ ?_; clear hM M
    have hb12 := hb1.ext he2
    refine ok_seq (fun M hM => ok_region rfl ?_)
    repeat ((try first | (refine ofX3 hX ?_; clear hX X) | (refine ofX2 hX ?_; clear hX X)); (first | refine wpL_step (fun X hX => ?_) | refine wpH_step (fun X hX => ?_) | refine wpE_step (fun X hX => ?_) | refine wpL_end ?_ | refine wpH_end ?_ | refine wpE_end ?_); try simp only [ oweC, oweP, opF, opH, ev, evs, evp, evo, Env.get, Env.set, putE, gdst, S0, S1, thenN, inBlockN, argEnv, builtinR, retE, fin, finC, retC, oneC, callR, reduceIte, Nat.reduceEqDiff, Nat.reduceAdd, reduceCtorEq, forall_const, Tryd.results31, Fx.ag2, Fx.ag22, Fx.ag24, Fx.ag3, Fx.ag31, Fx.ag9, Fx.ar87, Fx.es42, Fx.fo24_0, Fx.fo24_3, Fx.fo31_0, Fx.fo31_1, Fx.fo31_2, Fx.fo72_1, Fx.isl42])
    refine ⟨_, hb12.cell (j := 1) (by rfl : _ = some (Value.int .i64 x.n)), ?_⟩
    repeat ((try first | (refine ofX3 hX ?_; clear hX X) | (refine ofX2 hX ?_; clear hX X)); (first | refine wpL_step (fun X hX => ?_) | refine wpH_step (fun X hX => ?_) | refine wpE_step (fun X hX => ?_) | refine wpL_end ?_ | refine wpH_end ?_ | refine wpE_end ?_); try simp only [ oweC, oweP, opF, opH, ev, evs, evp, evo, Env.get, Env.set, putE, gdst, S0, S1, thenN, inBlockN, argEnv, builtinR, retE, fin, finC, retC, oneC, callR, reduceIte, Nat.reduceEqDiff, Nat.reduceAdd, reduceCtorEq, forall_const, Tryd.results31, Fx.ag2, Fx.ag22, Fx.ag24, Fx.ag3, Fx.ag31, Fx.ag9, Fx.ar87, Fx.es42, Fx.fo24_0, Fx.fo24_3, Fx.fo31_0, Fx.fo31_1, Fx.fo31_2, Fx.fo72_1, Fx.isl42])
    refine ⟨_, w2, run_build (P := Tryd.prog) w2 24 _ #[.int .i64 0, .int .i64 x.n, .string ⟨#[]⟩, .slice none 0 0] (by kernel_rfl), ?_⟩
    repeat ((try first | (refine ofX3 hX ?_; clear hX X) | (refine ofX2 hX ?_; clear hX X)); (first | refine wpL_step (fun X hX => ?_) | refine wpH_step (fun X hX => ?_) | refine wpE_step (fun X hX => ?_) | refine wpL_end ?_ | refine wpH_end ?_ | refine wpE_end ?_); try simp only [ oweC, oweP, opF, opH, ev, evs, evp, evo, Env.get, Env.set, putE, gdst, S0, S1, thenN, inBlockN, argEnv, builtinR, retE, fin, finC, retC, oneC, callR, reduceIte, Nat.reduceEqDiff, Nat.reduceAdd, reduceCtorEq, forall_const, Tryd.results31, Fx.ag2, Fx.ag22, Fx.ag24, Fx.ag3, Fx.ag31, Fx.ag9, Fx.ar87, Fx.es42, Fx.fo24_0, Fx.fo24_3, Fx.fo31_0, Fx.fo31_1, Fx.fo31_2, Fx.fo72_1, Fx.isl42])
    refine Runs.alloc Fx.zi24 (fun w3 he3 hz3 hb3 => ?_)
    generalize hB3 : w2.heap.size = B3 at hz3 hb3
    simp only [Value.cells] at hb3
    repeat ((try first | (refine ofX3 hX ?_; clear hX X) | (refine ofX2 hX ?_; clear hX X)); (first | refine wpL_step (fun X hX => ?_) | refine wpH_step (fun X hX => ?_) | refine wpE_step (fun X hX => ?_) | refine wpL_end ?_ | refine wpH_end ?_ | refine wpE_end ?_); try simp only [ oweC, oweP, opF, opH, ev, evs, evp, evo, Env.get, Env.set, putE, gdst, S0, S1, thenN, inBlockN, argEnv, builtinR, retE, fin, finC, retC, oneC, callR, reduceIte, Nat.reduceEqDiff, Nat.reduceAdd, reduceCtorEq, forall_const, Tryd.results31, Fx.ag2, Fx.ag22, Fx.ag24, Fx.ag3, Fx.ag31, Fx.ag9, Fx.ar87, Fx.es42, Fx.fo24_0, Fx.fo24_3, Fx.fo31_0, Fx.fo31_1, Fx.fo31_2, Fx.fo72_1, Fx.isl42])
    refine Runs.store hb3 Fx.zi24 rfl (by intro u hu; simp [Value.cells] at hu; rcases hu with rfl | rfl | rfl | rfl <;> rfl) (by simp) (fun w4 hc4 hz4 hb4 => ?_)
    rw [splice_all _ _ (by simp [Value.cells])] at hb4
    simp only [Value.cells] at hb4
    have he04 : Ext w w4 := ((he1.trans he2).trans he3).chg_trans hc4 (fun i hi => by omega)
    have hb14 : Blk w4 B1 x.row 31 := (hb12.ext he3).chg hc4 (by omega)
    have hb24 : Blk w4 B2 _ 24 := (hb2.ext he3).chg hc4 (by omega)
    repeat ((try first | (refine ofX3 hX ?_; clear hX X) | (refine ofX2 hX ?_; clear hX X)); (first | refine wpL_step (fun X hX => ?_) | refine wpH_step (fun X hX => ?_) | refine wpE_step (fun X hX => ?_) | refine wpL_end ?_ | refine wpH_end ?_ | refine wpE_end ?_); try simp only [ oweC, oweP, opF, opH, ev, evs, evp, evo, Env.get, Env.set, putE, gdst, S0, S1, thenN, inBlockN, argEnv, builtinR, retE, fin, finC, retC, oneC, callR, reduceIte, Nat.reduceEqDiff, Nat.reduceAdd, reduceCtorEq, forall_const, Tryd.results31, Fx.ag2, Fx.ag22, Fx.ag24, Fx.ag3, Fx.ag31, Fx.ag9, Fx.ar87, Fx.es42, Fx.fo24_0, Fx.fo24_3, Fx.fo31_0, Fx.fo31_1, Fx.fo31_2, Fx.fo72_1, Fx.isl42])
    refine hM _ _ _ ?_; clear hM M
    refine ok_join [(0, ptrOf hb), (3, ptrOf B1), (4, ptrOf B2), (5, ptrOf B3)] (fun w' => w' = w4 ∧ ¬ (x.k = 0 ∨ x.k = 9) ∧ ¬ x.k = 3) ?_ ?_
    · refine ok_seq (fun M hM => ok_region rfl ?_)
      repeat ((try first | (refine ofX3 hX ?_; clear hX X) | (refine ofX2 hX ?_; clear hX X)); (first | refine wpL_step (fun X hX => ?_) | refine wpH_step (fun X hX => ?_) | refine wpE_step (fun X hX => ?_) | refine wpL_end ?_ | refine wpH_end ?_ | refine wpE_end ?_); try simp only [ oweC, oweP, opF, opH, ev, evs, evp, evo, Env.get, Env.set, putE, gdst, S0, S1, thenN, inBlockN, argEnv, builtinR, retE, fin, finC, retC, oneC, callR, reduceIte, Nat.reduceEqDiff, Nat.reduceAdd, reduceCtorEq, forall_const, Tryd.results31, Fx.ag2, Fx.ag22, Fx.ag24, Fx.ag3, Fx.ag31, Fx.ag9, Fx.ar87, Fx.es42, Fx.fo24_0, Fx.fo24_3, Fx.fo31_0, Fx.fo31_1, Fx.fo31_2, Fx.fo72_1, Fx.isl42])
      refine ⟨_, hb14.cell (j := 0) (by rfl : _ = some (Value.int .i64 x.k)), ?_⟩
      repeat ((try first | (refine ofX3 hX ?_; clear hX X) | (refine ofX2 hX ?_; clear hX X)); (first | refine wpL_step (fun X hX => ?_) | refine wpH_step (fun X hX => ?_) | refine wpE_step (fun X hX => ?_) | refine wpL_end ?_ | refine wpH_end ?_ | refine wpE_end ?_); try simp only [ oweC, oweP, opF, opH, ev, evs, evp, evo, Env.get, Env.set, putE, gdst, S0, S1, thenN, inBlockN, argEnv, builtinR, retE, fin, finC, retC, oneC, callR, reduceIte, Nat.reduceEqDiff, Nat.reduceAdd, reduceCtorEq, forall_const, Tryd.results31, Fx.ag2, Fx.ag22, Fx.ag24, Fx.ag3, Fx.ag31, Fx.ag9, Fx.ar87, Fx.es42, Fx.fo24_0, Fx.fo24_3, Fx.fo31_0, Fx.fo31_1, Fx.fo31_2, Fx.fo72_1, Fx.isl42])
      refine hM _ _ _ ?_; clear hM M
      refine ok_block ?_
      refine ok_join [(0, ptrOf hb), (3, ptrOf B1), (4, ptrOf B2), (5, ptrOf B3), (12, .int .i64 x.k), (13, .bool (decide (x.k = 0 ∨ x.k = 9)))] (fun w' => w' = w4) ?_ ?_
      · refine ok_seq (fun M hM => ok_region rfl ?_); repeat ((try first | (refine ofX3 hX ?_; clear hX X) | (refine ofX2 hX ?_; clear hX X)); (first | refine wpL_step (fun X hX => ?_) | refine wpH_step (fun X hX => ?_) | refine wpE_step (fun X hX => ?_) | refine wpL_end ?_ | refine wpH_end ?_ | refine wpE_end ?_); try simp only [ oweC, oweP, opF, opH, ev, evs, evp, evo, Env.get, Env.set, putE, gdst, S0, S1, thenN, inBlockN, argEnv, builtinR, retE, fin, finC, retC, oneC, callR, reduceIte, Nat.reduceEqDiff, Nat.reduceAdd, reduceCtorEq, forall_const, Tryd.results31, Fx.ag2, Fx.ag22, Fx.ag24, Fx.ag3, Fx.ag31, Fx.ag9, Fx.ar87, Fx.es42, Fx.fo24_0, Fx.fo24_3, Fx.fo31_0, Fx.fo31_1, Fx.fo31_2, Fx.fo72_1, Fx.isl42])
        refine hM _ _ _ ?_; clear hM M
        refine ok_if rfl (fun hk => ok_skip ?_) (fun hk => ?_)
        · try simp only [wpL, wpH, wpE, oweC, oweP, opF, opH, ev, evs, evp, evo, Env.get, Env.set, putE, gdst, S0, S1, thenN, inBlockN, argEnv, builtinR, retE, fin, finC, retC, oneC, callR, reduceIte, Nat.reduceEqDiff, Nat.reduceAdd, reduceCtorEq, forall_const, Tryd.results31, Fx.ag2, Fx.ag22, Fx.ag24, Fx.ag3, Fx.ag31, Fx.ag9, Fx.ar87, Fx.es42, Fx.fo24_0, Fx.fo24_3, Fx.fo31_0, Fx.fo31_1, Fx.fo31_2, Fx.fo72_1, Fx.isl42]
          simp [sub, Env.get, hk]
        · refine ok_region rfl ?_
          repeat ((try first | (refine ofX3 hX ?_; clear hX X) | (refine ofX2 hX ?_; clear hX X)); (first | refine wpL_step (fun X hX => ?_) | refine wpH_step (fun X hX => ?_) | refine wpE_step (fun X hX => ?_) | refine wpL_end ?_ | refine wpH_end ?_ | refine wpE_end ?_); try simp only [ oweC, oweP, opF, opH, ev, evs, evp, evo, Env.get, Env.set, putE, gdst, S0, S1, thenN, inBlockN, argEnv, builtinR, retE, fin, finC, retC, oneC, callR, reduceIte, Nat.reduceEqDiff, Nat.reduceAdd, reduceCtorEq, forall_const, Tryd.results31, Fx.ag2, Fx.ag22, Fx.ag24, Fx.ag3, Fx.ag31, Fx.ag9, Fx.ar87, Fx.es42, Fx.fo24_0, Fx.fo24_3, Fx.fo31_0, Fx.fo31_1, Fx.fo31_2, Fx.fo72_1, Fx.isl42])
          simp [sub, Env.get, hk]
      rintro w' rfl
      refine ok_if rfl (fun hk => ?_) (fun hk => ?_)
      · rw [if_pos hk] at hL
        obtain ⟨rfl, rfl, rfl, rfl, -⟩ := hL
        refine ok_seq (fun M hM => ok_region rfl ?_)
        repeat ((try first | (refine ofX3 hX ?_; clear hX X) | (refine ofX2 hX ?_; clear hX X)); (first | refine wpL_step (fun X hX => ?_) | refine wpH_step (fun X hX => ?_) | refine wpE_step (fun X hX => ?_) | refine wpL_end ?_ | refine wpH_end ?_ | refine wpE_end ?_); try simp only [ oweC, oweP, opF, opH, ev, evs, evp, evo, Env.get, Env.set, putE, gdst, S0, S1, thenN, inBlockN, argEnv, builtinR, retE, fin, finC, retC, oneC, callR, reduceIte, Nat.reduceEqDiff, Nat.reduceAdd, reduceCtorEq, forall_const, Tryd.results31, Fx.ag2, Fx.ag22, Fx.ag24, Fx.ag3, Fx.ag31, Fx.ag9, Fx.ar87, Fx.es42, Fx.fo24_0, Fx.fo24_3, Fx.fo31_0, Fx.fo31_1, Fx.fo31_2, Fx.fo72_1, Fx.isl42])
        refine ⟨_, w', run_build (P := Tryd.prog) w' 24 _ #[.int .i64 0, .int .i64 0, .string ⟨#[]⟩, .slice none 0 0] (by kernel_rfl), ?_⟩
        repeat ((try first | (refine ofX3 hX ?_; clear hX X) | (refine ofX2 hX ?_; clear hX X)); (first | refine wpL_step (fun X hX => ?_) | refine wpH_step (fun X hX => ?_) | refine wpE_step (fun X hX => ?_) | refine wpL_end ?_ | refine wpH_end ?_ | refine wpE_end ?_); try simp only [ oweC, oweP, opF, opH, ev, evs, evp, evo, Env.get, Env.set, putE, gdst, S0, S1, thenN, inBlockN, argEnv, builtinR, retE, fin, finC, retC, oneC, callR, reduceIte, Nat.reduceEqDiff, Nat.reduceAdd, reduceCtorEq, forall_const, Tryd.results31, Fx.ag2, Fx.ag22, Fx.ag24, Fx.ag3, Fx.ag31, Fx.ag9, Fx.ar87, Fx.es42, Fx.fo24_0, Fx.fo24_3, Fx.fo31_0, Fx.fo31_1, Fx.fo31_2, Fx.fo72_1, Fx.isl42])
        refine Runs.store hb24 Fx.zi24 rfl (by intro u hu; simp [Value.cells] at hu; rcases hu with rfl | rfl | rfl <;> rfl) (by simp) (fun w5 hc5 hs5 hb5 => ?_)
        rw [splice_all _ _ (by simp [Value.cells])] at hb5
        simp only [Value.cells] at hb5
        repeat ((try first | (refine ofX3 hX ?_; clear hX X) | (refine ofX2 hX ?_; clear hX X)); (first | refine wpL_step (fun X hX => ?_) | refine wpH_step (fun X hX => ?_) | refine wpE_step (fun X hX => ?_) | refine wpL_end ?_ | refine wpH_end ?_ | refine wpE_end ?_); try simp only [ oweC, oweP, opF, opH, ev, evs, evp, evo, Env.get, Env.set, putE, gdst, S0, S1, thenN, inBlockN, argEnv, builtinR, retE, fin, finC, retC, oneC, callR, reduceIte, Nat.reduceEqDiff, Nat.reduceAdd, reduceCtorEq, forall_const, Tryd.results31, Fx.ag2, Fx.ag22, Fx.ag24, Fx.ag3, Fx.ag31, Fx.ag9, Fx.ar87, Fx.es42, Fx.fo24_0, Fx.fo24_3, Fx.fo31_0, Fx.fo31_1, Fx.fo31_2, Fx.fo72_1, Fx.isl42])
        refine hM _ _ _ ?_; clear hM M
        refine ok_ret ?_
        try simp only [wpL, wpH, wpE, oweC, oweP, opF, opH, ev, evs, evp, evo, Env.get, Env.set, putE, gdst, S0, S1, thenN, inBlockN, argEnv, builtinR, retE, fin, finC, retC, oneC, callR, reduceIte, Nat.reduceEqDiff, Nat.reduceAdd, reduceCtorEq, forall_const, Tryd.results31, Fx.ag2, Fx.ag22, Fx.ag24, Fx.ag3, Fx.ag31, Fx.ag9, Fx.ar87, Fx.es42, Fx.fo24_0, Fx.fo24_3, Fx.fo31_0, Fx.fo31_1, Fx.fo31_2, Fx.fo72_1, Fx.isl42]
        refine ⟨_, rfl, hb5.cells (o := 0) (row := [.int .i64 0, .int .i64 0, .string ⟨#[]⟩, .slice none 0 0]) (fun j u hj => by simpa using hj), _, rfl, ?_, he04.chg_trans hc5 (fun i hi => by omega)⟩
        simp only [VRowS]
        exact ⟨_, rfl, rfl, rfl, [], nilS _ _, by simp only [VRowsS]⟩
      · rw [if_neg hk] at hL
        refine ok_seq (fun M hM => ok_region rfl ?_); repeat ((try first | (refine ofX3 hX ?_; clear hX X) | (refine ofX2 hX ?_; clear hX X)); (first | refine wpL_step (fun X hX => ?_) | refine wpH_step (fun X hX => ?_) | refine wpE_step (fun X hX => ?_) | refine wpL_end ?_ | refine wpH_end ?_ | refine wpE_end ?_); try simp only [ oweC, oweP, opF, opH, ev, evs, evp, evo, Env.get, Env.set, putE, gdst, S0, S1, thenN, inBlockN, argEnv, builtinR, retE, fin, finC, retC, oneC, callR, reduceIte, Nat.reduceEqDiff, Nat.reduceAdd, reduceCtorEq, forall_const, Tryd.results31, Fx.ag2, Fx.ag22, Fx.ag24, Fx.ag3, Fx.ag31, Fx.ag9, Fx.ar87, Fx.es42, Fx.fo24_0, Fx.fo24_3, Fx.fo31_0, Fx.fo31_1, Fx.fo31_2, Fx.fo72_1, Fx.isl42])
        refine hM _ _ _ ?_; clear hM M
        refine ok_if rfl (fun hk3 => ?_) (fun hk3 => ok_skip ?_)
        rotate_left
        · try simp only [wpL, wpH, wpE, oweC, oweP, opF, opH, ev, evs, evp, evo, Env.get, Env.set, putE, gdst, S0, S1, thenN, inBlockN, argEnv, builtinR, retE, fin, finC, retC, oneC, callR, reduceIte, Nat.reduceEqDiff, Nat.reduceAdd, reduceCtorEq, forall_const, Tryd.results31, Fx.ag2, Fx.ag22, Fx.ag24, Fx.ag3, Fx.ag31, Fx.ag9, Fx.ar87, Fx.es42, Fx.fo24_0, Fx.fo24_3, Fx.fo31_0, Fx.fo31_1, Fx.fo31_2, Fx.fo72_1, Fx.isl42]
          exact ⟨by simp [sub, Env.get], hk, hk3⟩
        rw [if_pos hk3] at hL
        obtain ⟨rfl, rfl, rfl, hobj⟩ := hL
        obtain ⟨vs, ps, gs, hR, -⟩ := hH.ext he04
        refine ok_seq (fun M hM => ok_region rfl ?_)
        repeat ((try first | (refine ofX3 hX ?_; clear hX X) | (refine ofX2 hX ?_; clear hX X)); (first | refine wpL_step (fun X hX => ?_) | refine wpH_step (fun X hX => ?_) | refine wpE_step (fun X hX => ?_) | refine wpL_end ?_ | refine wpH_end ?_ | refine wpE_end ?_); try simp only [ oweC, oweP, opF, opH, ev, evs, evp, evo, Env.get, Env.set, putE, gdst, S0, S1, thenN, inBlockN, argEnv, builtinR, retE, fin, finC, retC, oneC, callR, reduceIte, Nat.reduceEqDiff, Nat.reduceAdd, reduceCtorEq, forall_const, Tryd.results31, Fx.ag2, Fx.ag22, Fx.ag24, Fx.ag3, Fx.ag31, Fx.ag9, Fx.ar87, Fx.es42, Fx.fo24_0, Fx.fo24_3, Fx.fo31_0, Fx.fo31_1, Fx.fo31_2, Fx.fo72_1, Fx.isl42])
        refine ⟨_, hb14.cell (j := 2) (by rfl : _ = some (Value.int .i64 x.r)), ?_⟩
        repeat ((try first | (refine ofX3 hX ?_; clear hX X) | (refine ofX2 hX ?_; clear hX X)); (first | refine wpL_step (fun X hX => ?_) | refine wpH_step (fun X hX => ?_) | refine wpE_step (fun X hX => ?_) | refine wpL_end ?_ | refine wpH_end ?_ | refine wpE_end ?_); try simp only [ oweC, oweP, opF, opH, ev, evs, evp, evo, Env.get, Env.set, putE, gdst, S0, S1, thenN, inBlockN, argEnv, builtinR, retE, fin, finC, retC, oneC, callR, reduceIte, Nat.reduceEqDiff, Nat.reduceAdd, reduceCtorEq, forall_const, Tryd.results31, Fx.ag2, Fx.ag22, Fx.ag24, Fx.ag3, Fx.ag31, Fx.ag9, Fx.ar87, Fx.es42, Fx.fo24_0, Fx.fo24_3, Fx.fo31_0, Fx.fo31_1, Fx.fo31_2, Fx.fo72_1, Fx.isl42])
        refine Inv.call Fx.en35 (object_ok w' hb rb vs ps gs H hR hl x.r) ?_
        rintro v w5 ⟨rfl, hv⟩
        rcases hv with ⟨ho, rfl⟩ | ⟨i, p, g, o, ho, hr, hi, hp, hgg, rfl⟩
        · rw [hobj] at ho; cases ho
        rw [hobj] at ho
        cases ho
        have hob := hR.obj i p g _ hp hgg hi
        repeat ((try first | (refine ofX3 hX ?_; clear hX X) | (refine ofX2 hX ?_; clear hX X)); (first | refine wpL_step (fun X hX => ?_) | refine wpH_step (fun X hX => ?_) | refine wpE_step (fun X hX => ?_) | refine wpL_end ?_ | refine wpH_end ?_ | refine wpE_end ?_); try simp only [ oweC, oweP, opF, opH, ev, evs, evp, evo, Env.get, Env.set, putE, gdst, S0, S1, thenN, inBlockN, argEnv, builtinR, retE, fin, finC, retC, oneC, callR, reduceIte, Nat.reduceEqDiff, Nat.reduceAdd, reduceCtorEq, forall_const, Tryd.results31, Fx.ag2, Fx.ag22, Fx.ag24, Fx.ag3, Fx.ag31, Fx.ag9, Fx.ar87, Fx.es42, Fx.fo24_0, Fx.fo24_3, Fx.fo31_0, Fx.fo31_1, Fx.fo31_2, Fx.fo72_1, Fx.isl42])
        refine ⟨_, Blk.cell hob (j := 1) rfl, ?_⟩
        repeat ((try first | (refine ofX3 hX ?_; clear hX X) | (refine ofX2 hX ?_; clear hX X)); (first | refine wpL_step (fun X hX => ?_) | refine wpH_step (fun X hX => ?_) | refine wpE_step (fun X hX => ?_) | refine wpL_end ?_ | refine wpH_end ?_ | refine wpE_end ?_); try simp only [ oweC, oweP, opF, opH, ev, evs, evp, evo, Env.get, Env.set, putE, gdst, S0, S1, thenN, inBlockN, argEnv, builtinR, retE, fin, finC, retC, oneC, callR, reduceIte, Nat.reduceEqDiff, Nat.reduceAdd, reduceCtorEq, forall_const, Tryd.results31, Fx.ag2, Fx.ag22, Fx.ag24, Fx.ag3, Fx.ag31, Fx.ag9, Fx.ar87, Fx.es42, Fx.fo24_0, Fx.fo24_3, Fx.fo31_0, Fx.fo31_1, Fx.fo31_2, Fx.fo72_1, Fx.isl42])
        refine ⟨_, w5, run_build (P := Tryd.prog) w5 24 _ #[.int .i64 3, .int .i64 0, .string t, .slice none 0 0] (by kernel_rfl), ?_⟩
        repeat ((try first | (refine ofX3 hX ?_; clear hX X) | (refine ofX2 hX ?_; clear hX X)); (first | refine wpL_step (fun X hX => ?_) | refine wpH_step (fun X hX => ?_) | refine wpE_step (fun X hX => ?_) | refine wpL_end ?_ | refine wpH_end ?_ | refine wpE_end ?_); try simp only [ oweC, oweP, opF, opH, ev, evs, evp, evo, Env.get, Env.set, putE, gdst, S0, S1, thenN, inBlockN, argEnv, builtinR, retE, fin, finC, retC, oneC, callR, reduceIte, Nat.reduceEqDiff, Nat.reduceAdd, reduceCtorEq, forall_const, Tryd.results31, Fx.ag2, Fx.ag22, Fx.ag24, Fx.ag3, Fx.ag31, Fx.ag9, Fx.ar87, Fx.es42, Fx.fo24_0, Fx.fo24_3, Fx.fo31_0, Fx.fo31_1, Fx.fo31_2, Fx.fo72_1, Fx.isl42])
        refine Runs.store hb24 Fx.zi24 rfl (by intro u hu; simp [Value.cells] at hu; rcases hu with rfl | rfl | rfl | rfl <;> rfl) (by simp) (fun w6 hc6 hs6 hb6 => ?_)
        rw [splice_all _ _ (by simp [Value.cells])] at hb6
        simp only [Value.cells] at hb6
        repeat ((try first | (refine ofX3 hX ?_; clear hX X) | (refine ofX2 hX ?_; clear hX X)); (first | refine wpL_step (fun X hX => ?_) | refine wpH_step (fun X hX => ?_) | refine wpE_step (fun X hX => ?_) | refine wpL_end ?_ | refine wpH_end ?_ | refine wpE_end ?_); try simp only [ oweC, oweP, opF, opH, ev, evs, evp, evo, Env.get, Env.set, putE, gdst, S0, S1, thenN, inBlockN, argEnv, builtinR, retE, fin, finC, retC, oneC, callR, reduceIte, Nat.reduceEqDiff, Nat.reduceAdd, reduceCtorEq, forall_const, Tryd.results31, Fx.ag2, Fx.ag22, Fx.ag24, Fx.ag3, Fx.ag31, Fx.ag9, Fx.ar87, Fx.es42, Fx.fo24_0, Fx.fo24_3, Fx.fo31_0, Fx.fo31_1, Fx.fo31_2, Fx.fo72_1, Fx.isl42])
        refine hM _ _ _ ?_; clear hM M
        refine ok_ret ?_
        try simp only [wpL, wpH, wpE, oweC, oweP, opF, opH, ev, evs, evp, evo, Env.get, Env.set, putE, gdst, S0, S1, thenN, inBlockN, argEnv, builtinR, retE, fin, finC, retC, oneC, callR, reduceIte, Nat.reduceEqDiff, Nat.reduceAdd, reduceCtorEq, forall_const, Tryd.results31, Fx.ag2, Fx.ag22, Fx.ag24, Fx.ag3, Fx.ag31, Fx.ag9, Fx.ar87, Fx.es42, Fx.fo24_0, Fx.fo24_3, Fx.fo31_0, Fx.fo31_1, Fx.fo31_2, Fx.fo72_1, Fx.isl42]
        refine ⟨_, rfl, hb6.cells (o := 0) (row := [.int .i64 3, .int .i64 0, .string t, .slice none 0 0]) (fun j u hj => by simpa using hj), _, rfl, ?_, he04.chg_trans hc6 (fun i hi => by omega)⟩
        simp only [VRowS]
        exact ⟨_, rfl, rfl, rfl, [], nilS _ _, by simp only [VRowsS]⟩
    rintro w' ⟨rfl, hk, hk3⟩
    rw [if_neg hk, if_neg hk3] at hL
    obtain ⟨h1, h8, rfl, rfl, rfl, hLL⟩ := hL
    have hlen := LdsL.length _ _ hLL
    have hLimx := hLim x
    have hs04 := he04.size
    refine ok_seq (fun M hM => ok_region rfl ?_)
    repeat ((try first | (refine ofX3 hX ?_; clear hX X) | (refine ofX2 hX ?_; clear hX X)); (first | refine wpL_step (fun X hX => ?_) | refine wpH_step (fun X hX => ?_) | refine wpE_step (fun X hX => ?_) | refine wpL_end ?_ | refine wpH_end ?_ | refine wpE_end ?_); try simp only [ oweC, oweP, opF, opH, ev, evs, evp, evo, Env.get, Env.set, putE, gdst, S0, S1, thenN, inBlockN, argEnv, builtinR, retE, fin, finC, retC, oneC, callR, reduceIte, Nat.reduceEqDiff, Nat.reduceAdd, reduceCtorEq, forall_const, Tryd.results31, Fx.ag2, Fx.ag22, Fx.ag24, Fx.ag3, Fx.ag31, Fx.ag9, Fx.ar87, Fx.es42, Fx.fo24_0, Fx.fo24_3, Fx.fo31_0, Fx.fo31_1, Fx.fo31_2, Fx.fo72_1, Fx.isl42])
    refine ⟨_, hb14.cell (j := 0) (by rfl : _ = some (Value.int .i64 x.k)), ?_⟩
    repeat ((try first | (refine ofX3 hX ?_; clear hX X) | (refine ofX2 hX ?_; clear hX X)); (first | refine wpL_step (fun X hX => ?_) | refine wpH_step (fun X hX => ?_) | refine wpE_step (fun X hX => ?_) | refine wpL_end ?_ | refine wpH_end ?_ | refine wpE_end ?_); try simp only [ oweC, oweP, opF, opH, ev, evs, evp, evo, Env.get, Env.set, putE, gdst, S0, S1, thenN, inBlockN, argEnv, builtinR, retE, fin, finC, retC, oneC, callR, reduceIte, Nat.reduceEqDiff, Nat.reduceAdd, reduceCtorEq, forall_const, Tryd.results31, Fx.ag2, Fx.ag22, Fx.ag24, Fx.ag3, Fx.ag31, Fx.ag9, Fx.ar87, Fx.es42, Fx.fo24_0, Fx.fo24_3, Fx.fo31_0, Fx.fo31_1, Fx.fo31_2, Fx.fo72_1, Fx.isl42])
    refine ⟨by omega, by omega, ?_⟩
    repeat ((try first | (refine ofX3 hX ?_; clear hX X) | (refine ofX2 hX ?_; clear hX X)); (first | refine wpL_step (fun X hX => ?_) | refine wpH_step (fun X hX => ?_) | refine wpE_step (fun X hX => ?_) | refine wpL_end ?_ | refine wpH_end ?_ | refine wpE_end ?_); try simp only [ oweC, oweP, opF, opH, ev, evs, evp, evo, Env.get, Env.set, putE, gdst, S0, S1, thenN, inBlockN, argEnv, builtinR, retE, fin, finC, retC, oneC, callR, reduceIte, Nat.reduceEqDiff, Nat.reduceAdd, reduceCtorEq, forall_const, Tryd.results31, Fx.ag2, Fx.ag22, Fx.ag24, Fx.ag3, Fx.ag31, Fx.ag9, Fx.ar87, Fx.es42, Fx.fo24_0, Fx.fo24_3, Fx.fo31_0, Fx.fo31_1, Fx.fo31_2, Fx.fo72_1, Fx.isl42])
    refine ⟨.int .i64 x.k, by have := (hg.ext he04).rk x.k.toNat _ (rank_get h1 h8); simpa [add_at] using this, ?_⟩
    repeat ((try first | (refine ofX3 hX ?_; clear hX X) | (refine ofX2 hX ?_; clear hX X)); (first | refine wpL_step (fun X hX => ?_) | refine wpH_step (fun X hX => ?_) | refine wpE_step (fun X hX => ?_) | refine wpL_end ?_ | refine wpH_end ?_ | refine wpE_end ?_); try simp only [ oweC, oweP, opF, opH, ev, evs, evp, evo, Env.get, Env.set, putE, gdst, S0, S1, thenN, inBlockN, argEnv, builtinR, retE, fin, finC, retC, oneC, callR, reduceIte, Nat.reduceEqDiff, Nat.reduceAdd, reduceCtorEq, forall_const, Tryd.results31, Fx.ag2, Fx.ag22, Fx.ag24, Fx.ag3, Fx.ag31, Fx.ag9, Fx.ar87, Fx.es42, Fx.fo24_0, Fx.fo24_3, Fx.fo31_0, Fx.fo31_1, Fx.fo31_2, Fx.fo72_1, Fx.isl42])
    refine Runs.store hb4 Fx.zi3 rfl (by intro u hu; simp [Value.cells] at hu; subst hu; rfl) (by simp) (fun w5 hc5 hs5 hb5 => ?_)
    simp only [splice, Value.cells, List.take_zero, List.nil_append, List.singleton_append, List.length_singleton, Nat.zero_add, List.drop_succ_cons, List.drop_zero] at hb5
    have he05 : Ext w w5 := he04.chg_trans hc5 (fun i hi => by omega)
    have hb15 : Blk w5 B1 x.row 31 := hb14.chg hc5 (by omega)
    have hb25 := hb24.chg hc5 (by omega)
    repeat ((try first | (refine ofX3 hX ?_; clear hX X) | (refine ofX2 hX ?_; clear hX X)); (first | refine wpL_step (fun X hX => ?_) | refine wpH_step (fun X hX => ?_) | refine wpE_step (fun X hX => ?_) | refine wpL_end ?_ | refine wpH_end ?_ | refine wpE_end ?_); try simp only [ oweC, oweP, opF, opH, ev, evs, evp, evo, Env.get, Env.set, putE, gdst, S0, S1, thenN, inBlockN, argEnv, builtinR, retE, fin, finC, retC, oneC, callR, reduceIte, Nat.reduceEqDiff, Nat.reduceAdd, reduceCtorEq, forall_const, Tryd.results31, Fx.ag2, Fx.ag22, Fx.ag24, Fx.ag3, Fx.ag31, Fx.ag9, Fx.ar87, Fx.es42, Fx.fo24_0, Fx.fo24_3, Fx.fo31_0, Fx.fo31_1, Fx.fo31_2, Fx.fo72_1, Fx.isl42])
    refine hM _ _ _ ?_; clear hM M
    refine ok_seq (fun M0 hM0 => ?_)
    refine ok_seq (fun M hM => ok_region rfl ?_)
    repeat ((try first | (refine ofX3 hX ?_; clear hX X) | (refine ofX2 hX ?_; clear hX X)); (first | refine wpL_step (fun X hX => ?_) | refine wpH_step (fun X hX => ?_) | refine wpE_step (fun X hX => ?_) | refine wpL_end ?_ | refine wpH_end ?_ | refine wpE_end ?_); try simp only [ oweC, oweP, opF, opH, ev, evs, evp, evo, Env.get, Env.set, putE, gdst, S0, S1, thenN, inBlockN, argEnv, builtinR, retE, fin, finC, retC, oneC, callR, reduceIte, Nat.reduceEqDiff, Nat.reduceAdd, reduceCtorEq, forall_const, Tryd.results31, Fx.ag2, Fx.ag22, Fx.ag24, Fx.ag3, Fx.ag31, Fx.ag9, Fx.ar87, Fx.es42, Fx.fo24_0, Fx.fo24_3, Fx.fo31_0, Fx.fo31_1, Fx.fo31_2, Fx.fo72_1, Fx.isl42])
    refine ⟨x.row, rfl, hb15.cells (o := 0) (fun j u hj => by simpa using hj), ?_⟩
    repeat ((try first | (refine ofX3 hX ?_; clear hX X) | (refine ofX2 hX ?_; clear hX X)); (first | refine wpL_step (fun X hX => ?_) | refine wpH_step (fun X hX => ?_) | refine wpE_step (fun X hX => ?_) | refine wpL_end ?_ | refine wpH_end ?_ | refine wpE_end ?_); try simp only [ oweC, oweP, opF, opH, ev, evs, evp, evo, Env.get, Env.set, putE, gdst, S0, S1, thenN, inBlockN, argEnv, builtinR, retE, fin, finC, retC, oneC, callR, reduceIte, Nat.reduceEqDiff, Nat.reduceAdd, reduceCtorEq, forall_const, Tryd.results31, Fx.ag2, Fx.ag22, Fx.ag24, Fx.ag3, Fx.ag31, Fx.ag9, Fx.ar87, Fx.es42, Fx.fo24_0, Fx.fo24_3, Fx.fo31_0, Fx.fo31_1, Fx.fo31_2, Fx.fo72_1, Fx.isl42])
    refine Inv.call Fx.en37 (args_ok w5 hb rb H _ (hH.tight.ext he05) hl x) ?_
    rintro v w6 ⟨⟨A, c, rfl⟩, hsl, he6, gl, hWL, hgl⟩
    repeat ((try first | (refine ofX3 hX ?_; clear hX X) | (refine ofX2 hX ?_; clear hX X)); (first | refine wpL_step (fun X hX => ?_) | refine wpH_step (fun X hX => ?_) | refine wpE_step (fun X hX => ?_) | refine wpL_end ?_ | refine wpH_end ?_ | refine wpE_end ?_); try simp only [ oweC, oweP, opF, opH, ev, evs, evp, evo, Env.get, Env.set, putE, gdst, S0, S1, thenN, inBlockN, argEnv, builtinR, retE, fin, finC, retC, oneC, callR, reduceIte, Nat.reduceEqDiff, Nat.reduceAdd, reduceCtorEq, forall_const, Tryd.results31, Fx.ag2, Fx.ag22, Fx.ag24, Fx.ag3, Fx.ag31, Fx.ag9, Fx.ar87, Fx.es42, Fx.fo24_0, Fx.fo24_3, Fx.fo31_0, Fx.fo31_1, Fx.fo31_2, Fx.fo72_1, Fx.isl42])
    refine hM _ _ _ ?_; clear hM M
    have hl1 := (hb15.ext he6).lt
    have hl2 := (hb25.ext he6).lt
    have hl5 := (hb5.ext he6).lt
    have hs06 := (he05.trans he6).size
    refine ok_block ?_
    refine ok_loop (S := Nat × Value × List (List Value)) (fun s => [(0, ptrOf hb), (4, ptrOf B2), (5, ptrOf B3), (34, .slice A (argsOf H x).length c), (35, .int .i64 ((argsOf H x).length : Int)), (36, .int .i64 (s.1 : Int))])
      (fun s w' => Ext w w' ∧ s.1 ≤ a.length ∧ w6.heap.size ≤ w'.heap.size ∧ (∀ k, k < w6.heap.size → k ≠ B3 → w'.heap[k]? = w6.heap[k]?) ∧ Blk w' B3 [.int .i64 x.k, .int .i64 x.n, .string ⟨#[]⟩, s.2.1] 24 ∧ w'.ownsRow w6.heap.size 24 4 s.2.1 s.1 s.2.2.flatten ∧
        VRowsS w' (fun k => w.heap.size ≤ k ∧ k < w'.heap.size ∧ s.2.1.ownBlock ≠ some k ∧ k ≠ B3 ∧ k ≠ B2) s.2.2 (a.take s.1)) (fun s => a.length - s.1) (0, .slice none 0 0, []) ?_ ?_ ?_
    · simp [sub, Env.get]
    · exact ⟨he05.trans he6, Nat.zero_le _, Nat.le_refl _, fun _ _ _ => rfl, hb5.ext he6, World.ownsRow_nil _ _ _ _, by simp only [List.take_zero, VRowsS]⟩
    rintro ⟨i, va, rs⟩ w7 ⟨he7, hi, hs7, hkeep, hb7, hown, hrs⟩
    simp only at hi hb7 hown hrs ⊢
    have hrl := hrs.length
    rw [List.length_take, Nat.min_eq_left hi] at hrl
    refine ok_seq (fun M hM => ok_region rfl ?_); repeat ((try first | (refine ofX3 hX ?_; clear hX X) | (refine ofX2 hX ?_; clear hX X)); (first | refine wpL_step (fun X hX => ?_) | refine wpH_step (fun X hX => ?_) | refine wpE_step (fun X hX => ?_) | refine wpL_end ?_ | refine wpH_end ?_ | refine wpE_end ?_); try simp only [ oweC, oweP, opF, opH, ev, evs, evp, evo, Env.get, Env.set, putE, gdst, S0, S1, thenN, inBlockN, argEnv, builtinR, retE, fin, finC, retC, oneC, callR, reduceIte, Nat.reduceEqDiff, Nat.reduceAdd, reduceCtorEq, forall_const, Tryd.results31, Fx.ag2, Fx.ag22, Fx.ag24, Fx.ag3, Fx.ag31, Fx.ag9, Fx.ar87, Fx.es42, Fx.fo24_0, Fx.fo24_3, Fx.fo31_0, Fx.fo31_1, Fx.fo31_2, Fx.fo72_1, Fx.isl42])
    refine hM _ _ _ ?_; clear hM M
    refine ok_seq (fun M1 hM1 => ?_)
    refine ok_if rfl (fun hc => ok_skip ?_) (fun hc => ok_exit ?_)
    rotate_left
    · try simp only [wpL, wpH, wpE, oweC, oweP, opF, opH, ev, evs, evp, evo, Env.get, Env.set, putE, gdst, S0, S1, thenN, inBlockN, argEnv, builtinR, retE, fin, finC, retC, oneC, callR, reduceIte, Nat.reduceEqDiff, Nat.reduceAdd, reduceCtorEq, forall_const, Tryd.results31, Fx.ag2, Fx.ag22, Fx.ag24, Fx.ag3, Fx.ag31, Fx.ag9, Fx.ar87, Fx.es42, Fx.fo24_0, Fx.fo24_3, Fx.fo31_0, Fx.fo31_1, Fx.fo31_2, Fx.fo72_1, Fx.isl42]
      refine hM0 _ _ _ ?_; clear hM0 M0 hM1 M1
      have hia : i = a.length := by omega
      subst hia
      rw [List.take_of_length_le (Nat.le_refl _)] at hrs
      have hb27 : Blk w7 B2 _ 24 := (hkeep B2 hl2 (by omega)).trans (hb25.ext he6)
      have hva1 : va.oneCell' = true ∧ va.cells = #[va] := by
        rcases hown.2 with ⟨rfl, _⟩ | ⟨g, cap, cur, rfl, _⟩ <;> exact ⟨rfl, rfl⟩
      refine ok_seq (fun M hM => ok_region rfl ?_)
      repeat ((try first | (refine ofX3 hX ?_; clear hX X) | (refine ofX2 hX ?_; clear hX X)); (first | refine wpL_step (fun X hX => ?_) | refine wpH_step (fun X hX => ?_) | refine wpE_step (fun X hX => ?_) | refine wpL_end ?_ | refine wpH_end ?_ | refine wpE_end ?_); try simp only [ oweC, oweP, opF, opH, ev, evs, evp, evo, Env.get, Env.set, putE, gdst, S0, S1, thenN, inBlockN, argEnv, builtinR, retE, fin, finC, retC, oneC, callR, reduceIte, Nat.reduceEqDiff, Nat.reduceAdd, reduceCtorEq, forall_const, Tryd.results31, Fx.ag2, Fx.ag22, Fx.ag24, Fx.ag3, Fx.ag31, Fx.ag9, Fx.ar87, Fx.es42, Fx.fo24_0, Fx.fo24_3, Fx.fo31_0, Fx.fo31_1, Fx.fo31_2, Fx.fo72_1, Fx.isl42])
      refine ⟨[.int .i64 x.k, .int .i64 x.n, .string ⟨#[]⟩, va], rfl, hb7.cells (o := 0) (fun j u hj => by simpa using hj), ?_⟩
      repeat ((try first | (refine ofX3 hX ?_; clear hX X) | (refine ofX2 hX ?_; clear hX X)); (first | refine wpL_step (fun X hX => ?_) | refine wpH_step (fun X hX => ?_) | refine wpE_step (fun X hX => ?_) | refine wpL_end ?_ | refine wpH_end ?_ | refine wpE_end ?_); try simp only [ oweC, oweP, opF, opH, ev, evs, evp, evo, Env.get, Env.set, putE, gdst, S0, S1, thenN, inBlockN, argEnv, builtinR, retE, fin, finC, retC, oneC, callR, reduceIte, Nat.reduceEqDiff, Nat.reduceAdd, reduceCtorEq, forall_const, Tryd.results31, Fx.ag2, Fx.ag22, Fx.ag24, Fx.ag3, Fx.ag31, Fx.ag9, Fx.ar87, Fx.es42, Fx.fo24_0, Fx.fo24_3, Fx.fo31_0, Fx.fo31_1, Fx.fo31_2, Fx.fo72_1, Fx.isl42])
      refine Runs.store hb27 Fx.zi24 rfl (by intro u hu; simp [Value.cells] at hu; rcases hu with rfl | rfl | rfl | rfl <;> first | rfl | exact hva1.1) (by simp) (fun w8 hc8 hs8 hb8 => ?_)
      rw [splice_all _ _ (by simp [Value.cells])] at hb8
      simp only [Value.cells] at hb8
      repeat ((try first | (refine ofX3 hX ?_; clear hX X) | (refine ofX2 hX ?_; clear hX X)); (first | refine wpL_step (fun X hX => ?_) | refine wpH_step (fun X hX => ?_) | refine wpE_step (fun X hX => ?_) | refine wpL_end ?_ | refine wpH_end ?_ | refine wpE_end ?_); try simp only [ oweC, oweP, opF, opH, ev, evs, evp, evo, Env.get, Env.set, putE, gdst, S0, S1, thenN, inBlockN, argEnv, builtinR, retE, fin, finC, retC, oneC, callR, reduceIte, Nat.reduceEqDiff, Nat.reduceAdd, reduceCtorEq, forall_const, Tryd.results31, Fx.ag2, Fx.ag22, Fx.ag24, Fx.ag3, Fx.ag31, Fx.ag9, Fx.ar87, Fx.es42, Fx.fo24_0, Fx.fo24_3, Fx.fo31_0, Fx.fo31_1, Fx.fo31_2, Fx.fo72_1, Fx.isl42])
      refine hM _ _ _ ?_; clear hM M
      refine ok_ret ?_
      try simp only [wpL, wpH, wpE, oweC, oweP, opF, opH, ev, evs, evp, evo, Env.get, Env.set, putE, gdst, S0, S1, thenN, inBlockN, argEnv, builtinR, retE, fin, finC, retC, oneC, callR, reduceIte, Nat.reduceEqDiff, Nat.reduceAdd, reduceCtorEq, forall_const, Tryd.results31, Fx.ag2, Fx.ag22, Fx.ag24, Fx.ag3, Fx.ag31, Fx.ag9, Fx.ar87, Fx.es42, Fx.fo24_0, Fx.fo24_3, Fx.fo31_0, Fx.fo31_1, Fx.fo31_2, Fx.fo72_1, Fx.isl42]
      refine ⟨_, rfl, hb8.cells (o := 0) (row := [.int .i64 x.k, .int .i64 x.n, .string ⟨#[]⟩, va]) (fun j u hj => by simpa using hj), _, rfl, ?_, he7.chg_trans hc8 (fun i hi => by omega)⟩
      simp only [VRowS]
      have hSl : Sli w7 4 va rs := Sli.of_own hown rfl (VRowsS.len4 _ _ hrs) hrl (by omega)
      have hs8' := hc8.size
      refine ⟨va, rfl, hva1.1, hva1.2, rs, ?_, ?_⟩
      · obtain ⟨A', c', rfl, h2, h3⟩ := hSl
        refine ⟨A', c', rfl, h2, fun j row hj => ?_⟩
        obtain ⟨b, o, rfl, h5⟩ := h3 j row hj
        have hbl := hown.lt b rfl
        exact ⟨b, o, rfl, by omega, hc8.cellsAt h5 (by simp only; omega)⟩
      · exact VRowsS.chg hc8 (fun k hk => ⟨by omega, hk.2.2.2.2⟩) _ _ hrs
    · try simp only [wpL, wpH, wpE, oweC, oweP, opF, opH, ev, evs, evp, evo, Env.get, Env.set, putE, gdst, S0, S1, thenN, inBlockN, argEnv, builtinR, retE, fin, finC, retC, oneC, callR, reduceIte, Nat.reduceEqDiff, Nat.reduceAdd, reduceCtorEq, forall_const, Tryd.results31, Fx.ag2, Fx.ag22, Fx.ag24, Fx.ag3, Fx.ag31, Fx.ag9, Fx.ar87, Fx.es42, Fx.fo24_0, Fx.fo24_3, Fx.fo31_0, Fx.fo31_1, Fx.fo31_2, Fx.fo72_1, Fx.isl42]
      refine hM1 _ _ _ ?_; clear hM1 M1
      have hil : i < a.length := by omega
      have hxi : (argsOf H x)[i]? = some ((argsOf H x)[i]'(by omega)) := List.getElem?_eq_getElem (by omega)
      have hui : a[i]? = some a[i] := List.getElem?_eq_getElem hil
      generalize (argsOf H x)[i]'(by omega) = y at hxi
      have hLy := LdsL.get _ _ hLL i y a[i] hxi hui
      have hsz : SizeOf.sizeOf a[i] ≤ m := by
        have := List.sizeOf_lt_of_mem (List.getElem_mem hil)
        simp at hm
        omega
      have he57 : Ext w w7 := he7
      obtain ⟨A', c', h2, -, hcel⟩ := hsl
      injection h2 with h2a h2b h2c
      subst h2a
      obtain ⟨bb, oo, rfl, hce⟩ := hcel i y.row (by rw [List.getElem?_map, hxi]; rfl)
      have hbb : bb < w.heap.size := by
        have hne : argsOf H x ≠ [] := fun e => by rw [e] at hxi; simp at hxi
        obtain ⟨A2, c2, h3, -, -, h4⟩ := hWL
        injection h3 with h3a h3b h3c
        obtain ⟨h5, -⟩ := h4 hne
        rw [← h3a] at h5
        cases h5
        exact (hgl hne).2
      have hce7 : cellsAt w7 ⟨bb, oo + i * 3, none⟩ y.row := fun j u hj => by
        have hq := he6.cell (hce j u hj)
        rw [add_at] at hq ⊢
        exact (World.cell?_of_block (hkeep bb (by omega) (by omega))).trans hq
      refine ok_seq (fun M1 hM1 => ok_block ?_)
      refine ok_seq (fun M hM => ok_region rfl ?_)
      repeat ((try first | (refine ofX3 hX ?_; clear hX X) | (refine ofX2 hX ?_; clear hX X)); (first | refine wpL_step (fun X hX => ?_) | refine wpH_step (fun X hX => ?_) | refine wpE_step (fun X hX => ?_) | refine wpL_end ?_ | refine wpH_end ?_ | refine wpE_end ?_); try simp only [ oweC, oweP, opF, opH, ev, evs, evp, evo, Env.get, Env.set, putE, gdst, S0, S1, thenN, inBlockN, argEnv, builtinR, retE, fin, finC, retC, oneC, callR, reduceIte, Nat.reduceEqDiff, Nat.reduceAdd, reduceCtorEq, forall_const, Tryd.results31, Fx.ag2, Fx.ag22, Fx.ag24, Fx.ag3, Fx.ag31, Fx.ag9, Fx.ar87, Fx.es42, Fx.fo24_0, Fx.fo24_3, Fx.fo31_0, Fx.fo31_1, Fx.fo31_2, Fx.fo72_1, Fx.isl42])
      refine ⟨by omega, by omega, ?_⟩
      repeat ((try first | (refine ofX3 hX ?_; clear hX X) | (refine ofX2 hX ?_; clear hX X)); (first | refine wpL_step (fun X hX => ?_) | refine wpH_step (fun X hX => ?_) | refine wpE_step (fun X hX => ?_) | refine wpL_end ?_ | refine wpH_end ?_ | refine wpE_end ?_); try simp only [ oweC, oweP, opF, opH, ev, evs, evp, evo, Env.get, Env.set, putE, gdst, S0, S1, thenN, inBlockN, argEnv, builtinR, retE, fin, finC, retC, oneC, callR, reduceIte, Nat.reduceEqDiff, Nat.reduceAdd, reduceCtorEq, forall_const, Tryd.results31, Fx.ag2, Fx.ag22, Fx.ag24, Fx.ag3, Fx.ag31, Fx.ag9, Fx.ar87, Fx.es42, Fx.fo24_0, Fx.fo24_3, Fx.fo31_0, Fx.fo31_1, Fx.fo31_2, Fx.fo72_1, Fx.isl42])
      refine ⟨y.row, rfl, by simpa using hce7, ?_⟩
      repeat ((try first | (refine ofX3 hX ?_; clear hX X) | (refine ofX2 hX ?_; clear hX X)); (first | refine wpL_step (fun X hX => ?_) | refine wpH_step (fun X hX => ?_) | refine wpE_step (fun X hX => ?_) | refine wpL_end ?_ | refine wpH_end ?_ | refine wpE_end ?_); try simp only [ oweC, oweP, opF, opH, ev, evs, evp, evo, Env.get, Env.set, putE, gdst, S0, S1, thenN, inBlockN, argEnv, builtinR, retE, fin, finC, retC, oneC, callR, reduceIte, Nat.reduceEqDiff, Nat.reduceAdd, reduceCtorEq, forall_const, Tryd.results31, Fx.ag2, Fx.ag22, Fx.ag24, Fx.ag3, Fx.ag31, Fx.ag9, Fx.ar87, Fx.es42, Fx.fo24_0, Fx.fo24_3, Fx.fo31_0, Fx.fo31_1, Fx.fo31_2, Fx.fo72_1, Fx.isl42])
      refine Runs.alloc Fx.zi31 (fun w8 he8 hs8 hb8 => ?_)
      generalize hB8 : w7.heap.size = B8 at hs8 hb8
      repeat ((try first | (refine ofX3 hX ?_; clear hX X) | (refine ofX2 hX ?_; clear hX X)); (first | refine wpL_step (fun X hX => ?_) | refine wpH_step (fun X hX => ?_) | refine wpE_step (fun X hX => ?_) | refine wpL_end ?_ | refine wpH_end ?_ | refine wpE_end ?_); try simp only [ oweC, oweP, opF, opH, ev, evs, evp, evo, Env.get, Env.set, putE, gdst, S0, S1, thenN, inBlockN, argEnv, builtinR, retE, fin, finC, retC, oneC, callR, reduceIte, Nat.reduceEqDiff, Nat.reduceAdd, reduceCtorEq, forall_const, Tryd.results31, Fx.ag2, Fx.ag22, Fx.ag24, Fx.ag3, Fx.ag31, Fx.ag9, Fx.ar87, Fx.es42, Fx.fo24_0, Fx.fo24_3, Fx.fo31_0, Fx.fo31_1, Fx.fo31_2, Fx.fo72_1, Fx.isl42])
      refine Runs.store hb8 Fx.zi31 rfl (by intro u hu; simp [Value.cells, Wd.row] at hu; rcases hu with rfl | rfl | rfl <;> rfl) (by simp [Value.cells]) (fun w9 hc9 hs9 hb9 => ?_)
      rw [splice_all _ _ (by simp [Value.cells])] at hb9
      simp only [Value.cells] at hb9
      have he79 : Ext w7 w9 := he8.chg_trans hc9 (fun k hk => by omega)
      repeat ((try first | (refine ofX3 hX ?_; clear hX X) | (refine ofX2 hX ?_; clear hX X)); (first | refine wpL_step (fun X hX => ?_) | refine wpH_step (fun X hX => ?_) | refine wpE_step (fun X hX => ?_) | refine wpL_end ?_ | refine wpH_end ?_ | refine wpE_end ?_); try simp only [ oweC, oweP, opF, opH, ev, evs, evp, evo, Env.get, Env.set, putE, gdst, S0, S1, thenN, inBlockN, argEnv, builtinR, retE, fin, finC, retC, oneC, callR, reduceIte, Nat.reduceEqDiff, Nat.reduceAdd, reduceCtorEq, forall_const, Tryd.results31, Fx.ag2, Fx.ag22, Fx.ag24, Fx.ag3, Fx.ag31, Fx.ag9, Fx.ar87, Fx.es42, Fx.fo24_0, Fx.fo24_3, Fx.fo31_0, Fx.fo31_1, Fx.fo31_2, Fx.fo72_1, Fx.isl42])
      refine hM _ _ _ ?_; clear hM M
      refine (ok_draw 4 [(true, false), (true, false), (false, true), (false, true), (false, true)] (Ext _) Fx.mixed (by decide) rfl (by decide +kernel) (by decide +kernel) (Ext.drew _) ?_)
      repeat ((try first | (refine ofX3 hX ?_; clear hX X) | (refine ofX2 hX ?_; clear hX X)); (first | refine wpL_step (fun X hX => ?_) | refine wpH_step (fun X hX => ?_) | refine wpE_step (fun X hX => ?_) | refine wpL_end ?_ | refine wpH_end ?_ | refine wpE_end ?_); try simp only [ oweC, oweP, opF, opH, ev, evs, evp, evo, Env.get, Env.set, putE, gdst, S0, S1, thenN, inBlockN, argEnv, builtinR, retE, fin, finC, retC, oneC, callR, reduceIte, Nat.reduceEqDiff, Nat.reduceAdd, reduceCtorEq, forall_const, Tryd.results31, Fx.ag2, Fx.ag22, Fx.ag24, Fx.ag3, Fx.ag31, Fx.ag9, Fx.ar87, Fx.es42, Fx.fo24_0, Fx.fo24_3, Fx.fo31_0, Fx.fo31_1, Fx.fo31_2, Fx.fo72_1, Fx.isl42])
      refine ⟨_, fun w' h => (he79.trans h).cell (hb7.cell (j := 3) rfl), ?_⟩
      repeat ((try first | (refine ofX3 hX ?_; clear hX X) | (refine ofX2 hX ?_; clear hX X)); (first | refine wpL_step (fun X hX => ?_) | refine wpH_step (fun X hX => ?_) | refine wpE_step (fun X hX => ?_) | refine wpL_end ?_ | refine wpH_end ?_ | refine wpE_end ?_); try simp only [ oweC, oweP, opF, opH, ev, evs, evp, evo, Env.get, Env.set, putE, gdst, S0, S1, thenN, inBlockN, argEnv, builtinR, retE, fin, finC, retC, oneC, callR, reduceIte, Nat.reduceEqDiff, Nat.reduceAdd, reduceCtorEq, forall_const, Tryd.results31, Fx.ag2, Fx.ag22, Fx.ag24, Fx.ag3, Fx.ag31, Fx.ag9, Fx.ar87, Fx.es42, Fx.fo24_0, Fx.fo24_3, Fx.fo31_0, Fx.fo31_1, Fx.fo31_2, Fx.fo72_1, Fx.isl42])
      refine ⟨y.row, rfl, fun w' h => (hb9.ext h).cells (o := 0) (fun j u hj => by simpa using hj), ?_⟩
      repeat ((try first | (refine ofX3 hX ?_; clear hX X) | (refine ofX2 hX ?_; clear hX X)); (first | refine wpL_step (fun X hX => ?_) | refine wpH_step (fun X hX => ?_) | refine wpE_step (fun X hX => ?_) | refine wpL_end ?_ | refine wpH_end ?_ | refine wpE_end ?_); try simp only [ oweC, oweP, opF, opH, ev, evs, evp, evo, Env.get, Env.set, putE, gdst, S0, S1, thenN, inBlockN, argEnv, builtinR, retE, fin, finC, retC, oneC, callR, reduceIte, Nat.reduceEqDiff, Nat.reduceAdd, reduceCtorEq, forall_const, Tryd.results31, Fx.ag2, Fx.ag22, Fx.ag24, Fx.ag3, Fx.ag31, Fx.ag9, Fx.ar87, Fx.es42, Fx.fo24_0, Fx.fo24_3, Fx.fo31_0, Fx.fo31_1, Fx.fo31_2, Fx.fo72_1, Fx.isl42])
      intro w10 he10
      repeat ((try first | (refine ofX3 hX ?_; clear hX X) | (refine ofX2 hX ?_; clear hX X)); (first | refine wpL_step (fun X hX => ?_) | refine wpH_step (fun X hX => ?_) | refine wpE_step (fun X hX => ?_) | refine wpL_end ?_ | refine wpH_end ?_ | refine wpE_end ?_); try simp only [ oweC, oweP, opF, opH, ev, evs, evp, evo, Env.get, Env.set, putE, gdst, S0, S1, thenN, inBlockN, argEnv, builtinR, retE, fin, finC, retC, oneC, callR, reduceIte, Nat.reduceEqDiff, Nat.reduceAdd, reduceCtorEq, forall_const, Tryd.results31, Fx.ag2, Fx.ag22, Fx.ag24, Fx.ag3, Fx.ag31, Fx.ag9, Fx.ar87, Fx.es42, Fx.fo24_0, Fx.fo24_3, Fx.fo31_0, Fx.fo31_1, Fx.fo31_2, Fx.fo72_1, Fx.isl42])
      have he710 := he79.trans he10
      refine Inv.call Fx.en31 (ih a[i] y w10 hsz hLy (hH.ext (he7.trans he710)) (hg.ext (he7.trans he710))) ?_
      rintro v w11 ⟨cs, rfl, hcs, he11⟩
      refine ⟨he10.trans he11, ?_⟩
      repeat ((try first | (refine ofX3 hX ?_; clear hX X) | (refine ofX2 hX ?_; clear hX X)); (first | refine wpL_step (fun X hX => ?_) | refine wpH_step (fun X hX => ?_) | refine wpE_step (fun X hX => ?_) | refine wpL_end ?_ | refine wpH_end ?_ | refine wpE_end ?_); try simp only [ oweC, oweP, opF, opH, ev, evs, evp, evo, Env.get, Env.set, putE, gdst, S0, S1, thenN, inBlockN, argEnv, builtinR, retE, fin, finC, retC, oneC, callR, reduceIte, Nat.reduceEqDiff, Nat.reduceAdd, reduceCtorEq, forall_const, Tryd.results31, Fx.ag2, Fx.ag22, Fx.ag24, Fx.ag3, Fx.ag31, Fx.ag9, Fx.ar87, Fx.es42, Fx.fo24_0, Fx.fo24_3, Fx.fo31_0, Fx.fo31_1, Fx.fo31_2, Fx.fo72_1, Fx.isl42])
      obtain ⟨k', n', t', v', hcse, hv1, hv2⟩ : ∃ k' n' t' v', cs = [.int .i64 k', .int .i64 n', .string t', v'] ∧ v'.oneCell' = true ∧ v'.cells = #[v'] := by
        have hq := VRowS.row _ _ hcs
        generalize a[i] = q at hq
        obtain ⟨k', n', t', a'⟩ := q
        simp only [VRow] at hq
        obtain ⟨v', h1, h2, h3, _⟩ := hq
        exact ⟨k', n', t', v', h1, h2, h3⟩
      have hone := (VRowS.row _ _ hcs).one
      have hcl4 := (VRowS.row _ _ hcs).len
      refine Runs.lit (cs := cs) Fx.un22 Fx.zi24 (by decide) (by rw [hcse]; kernel_rfl) (by decide) (fun w12 he12 hs12 hb12 => ?_)
      refine ⟨he10.trans (he11.trans he12), ?_⟩
      repeat ((try first | (refine ofX3 hX ?_; clear hX X) | (refine ofX2 hX ?_; clear hX X)); (first | refine wpL_step (fun X hX => ?_) | refine wpH_step (fun X hX => ?_) | refine wpE_step (fun X hX => ?_) | refine wpL_end ?_ | refine wpH_end ?_ | refine wpE_end ?_); try simp only [ oweC, oweP, opF, opH, ev, evs, evp, evo, Env.get, Env.set, putE, gdst, S0, S1, thenN, inBlockN, argEnv, builtinR, retE, fin, finC, retC, oneC, callR, reduceIte, Nat.reduceEqDiff, Nat.reduceAdd, reduceCtorEq, forall_const, Tryd.results31, Fx.ag2, Fx.ag22, Fx.ag24, Fx.ag3, Fx.ag31, Fx.ag9, Fx.ar87, Fx.es42, Fx.fo24_0, Fx.fo24_3, Fx.fo31_0, Fx.fo31_1, Fx.fo31_2, Fx.fo72_1, Fx.isl42])
      have he712 := he710.trans (he11.trans he12)
      have hown12 := owns_chg' hown (he712.chg (fun _ => False)) (fun _ _ h => h)
      have hs712 := he712.size
      refine Runs.append1' Fx.un22 Fx.zi24 rfl (by decide) hown12 hb12 hcl4 hone (by simp [maxLen]; omega) (by omega) (by omega) (fun v2 w13 hown13 hg13 hblk => ?_)
      have hc13 : Chg (fun k => va.ownBlock = some k) w12 w13 := ⟨hg13.os, hg13.tape, hg13.output, hg13.size, fun k hk hs => hg13.block k hk (fun e => hs e.symm)⟩
      have hvl : ∀ k, va.ownBlock = some k → w6.heap.size ≤ k ∧ k < w7.heap.size := fun k hk => hown.lt k hk
      have hnva : ∀ k, k < w6.heap.size → va.ownBlock ≠ some k := fun k hk h => by have := hvl k h; omega
      have hb13 : Blk w13 B3 _ 24 := (hb7.ext he712).chg hc13 (hnva B3 hl5)
      have hv2c : v2.oneCell' = true ∧ v2.cells = #[v2] := by
        rcases hown13.2 with ⟨rfl, _⟩ | ⟨g, cap, cur, rfl, _⟩ <;> exact ⟨rfl, rfl⟩
      have hs13 := hc13.size
      repeat ((try first | (refine ofX3 hX ?_; clear hX X) | (refine ofX2 hX ?_; clear hX X)); (first | refine wpL_step (fun X hX => ?_) | refine wpH_step (fun X hX => ?_) | refine wpE_step (fun X hX => ?_) | refine wpL_end ?_ | refine wpH_end ?_ | refine wpE_end ?_); try simp only [ oweC, oweP, opF, opH, ev, evs, evp, evo, Env.get, Env.set, putE, gdst, S0, S1, thenN, inBlockN, argEnv, builtinR, retE, fin, finC, retC, oneC, callR, reduceIte, Nat.reduceEqDiff, Nat.reduceAdd, reduceCtorEq, forall_const, Tryd.results31, Fx.ag2, Fx.ag22, Fx.ag24, Fx.ag3, Fx.ag31, Fx.ag9, Fx.ar87, Fx.es42, Fx.fo24_0, Fx.fo24_3, Fx.fo31_0, Fx.fo31_1, Fx.fo31_2, Fx.fo72_1, Fx.isl42])
      refine Runs.store hb13 Fx.zi22 (by rw [hv2c.2]; rfl) (by rw [hv2c.2]; intro u hu; simp at hu; subst hu; exact hv2c.1) (by simp) (fun w14 hc14 hs14 hb14' => ?_)
      rw [hv2c.2] at hb14'
      simp only [splice, List.take_succ_cons, List.take_zero, List.cons_append, List.nil_append, List.length_singleton, Nat.reduceAdd, List.drop_succ_cons, List.drop_zero, List.append_nil, List.drop_nil] at hb14'
      have hl13 := hb13.lt
      repeat ((try first | (refine ofX3 hX ?_; clear hX X) | (refine ofX2 hX ?_; clear hX X)); (first | refine wpL_step (fun X hX => ?_) | refine wpH_step (fun X hX => ?_) | refine wpE_step (fun X hX => ?_) | refine wpL_end ?_ | refine wpH_end ?_ | refine wpE_end ?_); try simp only [ oweC, oweP, opF, opH, ev, evs, evp, evo, Env.get, Env.set, putE, gdst, S0, S1, thenN, inBlockN, argEnv, builtinR, retE, fin, finC, retC, oneC, callR, reduceIte, Nat.reduceEqDiff, Nat.reduceAdd, reduceCtorEq, forall_const, Tryd.results31, Fx.ag2, Fx.ag22, Fx.ag24, Fx.ag3, Fx.ag31, Fx.ag9, Fx.ar87, Fx.es42, Fx.fo24_0, Fx.fo24_3, Fx.fo31_0, Fx.fo31_1, Fx.fo31_2, Fx.fo72_1, Fx.isl42])
      refine hM1 _ _ _ ?_; clear hM1 M1
      refine ok_region rfl ?_
      repeat ((try first | (refine ofX3 hX ?_; clear hX X) | (refine ofX2 hX ?_; clear hX X)); (first | refine wpL_step (fun X hX => ?_) | refine wpH_step (fun X hX => ?_) | refine wpE_step (fun X hX => ?_) | refine wpL_end ?_ | refine wpH_end ?_ | refine wpE_end ?_); try simp only [ oweC, oweP, opF, opH, ev, evs, evp, evo, Env.get, Env.set, putE, gdst, S0, S1, thenN, inBlockN, argEnv, builtinR, retE, fin, finC, retC, oneC, callR, reduceIte, Nat.reduceEqDiff, Nat.reduceAdd, reduceCtorEq, forall_const, Tryd.results31, Fx.ag2, Fx.ag22, Fx.ag24, Fx.ag3, Fx.ag31, Fx.ag9, Fx.ar87, Fx.es42, Fx.fo24_0, Fx.fo24_3, Fx.fo31_0, Fx.fo31_1, Fx.fo31_2, Fx.fo72_1, Fx.isl42])
      refine ⟨by simp only [inI]; omega, ?_⟩
      repeat ((try first | (refine ofX3 hX ?_; clear hX X) | (refine ofX2 hX ?_; clear hX X)); (first | refine wpL_step (fun X hX => ?_) | refine wpH_step (fun X hX => ?_) | refine wpE_step (fun X hX => ?_) | refine wpL_end ?_ | refine wpH_end ?_ | refine wpE_end ?_); try simp only [ oweC, oweP, opF, opH, ev, evs, evp, evo, Env.get, Env.set, putE, gdst, S0, S1, thenN, inBlockN, argEnv, builtinR, retE, fin, finC, retC, oneC, callR, reduceIte, Nat.reduceEqDiff, Nat.reduceAdd, reduceCtorEq, forall_const, Tryd.results31, Fx.ag2, Fx.ag22, Fx.ag24, Fx.ag3, Fx.ag31, Fx.ag9, Fx.ar87, Fx.es42, Fx.fo24_0, Fx.fo24_3, Fx.fo31_0, Fx.fo31_1, Fx.fo31_2, Fx.fo72_1, Fx.isl42])
      have hs14' := hc14.size
      have hv2l : ∀ k, v2.ownBlock = some k → w6.heap.size ≤ k ∧ k < w13.heap.size := fun k hk => hown13.lt k hk
      have hs1011 := he11.size
      have hs710 := he710.size
      have htk : a.take (i + 1) = a.take i ++ [a[i]] := List.take_succ_eq_append_getElem hil
      refine ⟨(i + 1, v2, rs ++ [cs]), by simp [sub, Env.get], ⟨?_, by omega, by omega, fun k hk hne => ?_, hb14', ?_, ?_⟩, by omega⟩
      · exact ((he7.trans he712).chg_trans hc13 (fun k hk => by have := hvl k hk; omega)).chg_trans hc14 (fun k hk => by omega)
      · rw [hc14.block k (by omega) hne, hc13.block k (by omega) (hnva k hk), Below.block he712 k (by omega)]
        exact hkeep k hk hne
      · simp only [List.flatten_append, List.flatten_cons, List.flatten_nil, List.append_nil]
        exact owns_chg' hown13 hc14 (fun k hk h => by have := (hv2l k hk).1; omega)
      · simp only [htk]
        have hc1314 : Chg (fun k => va.ownBlock = some k ∨ k = B3) w12 w14 := (hc13.mono fun k _ h => .inl h).trans (hc14.mono fun k _ h => .inr h)
        have hnew : ∀ k, v2.ownBlock = some k → va.ownBlock = some k ∨ k = w12.heap.size := fun k h => by
          rcases hblk with h' | h'
          · exact .inl (h' ▸ h)
          · rw [h'] at h; cases h; exact .inr rfl
        refine VRowsS.snoc _ _ (VRowsS.chg ((he712.chg _).trans hc1314) (fun k hk => ?_) _ _ hrs) (VRowS.chg ((he12.chg _).trans hc1314) (fun k hk => ?_) _ _ hcs)
        · refine ⟨⟨hk.1, by omega, fun h => ?_, hk.2.2.2.1, hk.2.2.2.2⟩, fun h => ?_⟩
          · rcases hnew k h with h' | h'
            · exact hk.2.2.1 h'
            · omega
          · rcases h with h | h
            · exact hk.2.2.1 h
            · exact hk.2.2.2.1 h
        · have hk1 := hk.1
          have hk2 := hk.2
          have hs12' := he12.size
          refine ⟨⟨by omega, by omega, fun h => ?_, by omega, by omega⟩, fun h => ?_⟩
          · rcases hnew k h with h' | h'
            · have := hvl k h'; omega
            · omega
          · rcases h with h | h
            · have := hvl k h; omega
            · omega
end Go.Proofs.YtldeokfhipjbfaaDoor
