/- store, Store.  -/
import Derived.Test.YtldeokfhipjbfaaDoorH8
set_option linter.unusedVariables false
set_option linter.unusedSimpArgs false
namespace Go.Proofs.YtldeokfhipjbfaaDoor
open Go Go.Proofs.Vg Go.RowKit

mutual
def cntV : Val → Nat
  | .mk _ _ _ args => 1 + cntVs args
def cntVs : List Val → Nat
  | [] => 0
  | x :: xs => cntV x + cntVs xs
end
mutual
def storeV (H : List Ob) : Val → List Ob × Wd
  | .mk k n t args => if k = 1 ∨ k = 2 ∨ k = 8 then (H, ⟨k, n, 0⟩) else if k = 3 then (H ++ [.text t], ⟨3, 0, (H.length : Int) + 1⟩) else mkW (storeVs H args).1 k n (storeVs H args).2
def storeVs (H : List Ob) : List Val → List Ob × List Wd
  | [] => (H, [])
  | x :: xs => ((storeVs (storeV H x).1 xs).1, (storeV H x).2 :: (storeVs (storeV H x).1 xs).2)
end
theorem storeVs_snoc (x : Val) : ∀ (l : List Val) (H : List Ob), storeVs H (l ++ [x]) = ((storeV (storeVs H l).1 x).1, (storeVs H l).2 ++ [(storeV (storeVs H l).1 x).2])
  | [], H => by simp [storeVs]
  | y :: l, H => by simp only [List.cons_append, storeVs, storeVs_snoc x l]
theorem storeVs_length : ∀ (l : List Val) (H : List Ob), (storeVs H l).2.length = l.length
  | [], H => by simp [storeVs]
  | y :: l, H => by simp only [storeVs, List.length_cons, storeVs_length l]
theorem mkW_length (H : List Ob) (k n : Int) (l : List Wd) : (mkW H k n l).1.length ≤ H.length + 1 := by
  unfold mkW; split <;> simp
mutual
theorem storeV_length : ∀ (x : Val) (H : List Ob), (storeV H x).1.length ≤ H.length + cntV x
  | .mk k n t args, H => by
    simp only [storeV, cntV]
    split
    · simp
    split
    · simp
    have h1 := mkW_length (storeVs H args).1 k n (storeVs H args).2
    have h2 := storeVs_len args H
    omega
theorem storeVs_len : ∀ (l : List Val) (H : List Ob), (storeVs H l).1.length ≤ H.length + cntVs l
  | [], H => by simp [storeVs]
  | y :: l, H => by
    simp only [storeVs, cntVs]
    have h1 := storeV_length y H
    have h2 := storeVs_len l (storeV H y).1
    omega
end
theorem cntVs_take (l : List Val) : ∀ (i : Nat) (x : Val), l[i]? = some x → cntVs (l.take i) + cntV x ≤ cntVs l := by
  induction l with
  | nil => intro i x h; simp at h
  | cons y l ih =>
    intro i x h
    cases i with
    | zero => simp at h; subst h; simp [cntVs]
    | succ i =>
      have := ih i x (by simpa using h)
      simp only [List.take_succ_cons, cntVs]
      omega
theorem knownVs_get {l : List Val} (h : knownVs l = true) {i : Nat} {x : Val} (hx : l[i]? = some x) : knownV x = true := (knownVs_iff l).1 h i x hx
theorem cntVs_len (l : List Val) : l.length ≤ cntVs l := by
  induction l with
  | nil => simp
  | cons x xs ih => cases x; simp only [List.length_cons, cntVs, cntV]; omega

-- -- function 28
set_option maxHeartbeats 4000000 in
set_option maxRecDepth 8000 in
theorem store_ok : ∀ (m : Nat) (x : Val) (w : World) (S : Nat → Prop) (r : List Value) (mk hb rb : Nat) (H : List Ob) (F : Nat → Prop), SizeOf.sizeOf x ≤ m → VRowS w S r x → (∀ k, S k → ¬ F k ∧ k < w.heap.size) → Glob w mk → (¬ F 0 ∧ ¬ F 1 ∧ ¬ F mk) → knownV x = true →
    HeapW w hb rb H F → (∀ k, F k → k < w.heap.size) → H.length + cntV x ≤ 1048576 →
    Rets Tryd.prog 28 [ptrOf hb, .agg r.toArray] w (fun v w' => v = wv (storeV H x).2 ∧ Grown w w' hb rb (storeV H x).1 F) := by
  intro m
  induction m with
  | zero => intro x w S r mk hb rb H F hm; cases x; simp at hm
  | succ m ih =>
    rintro ⟨k, n, t, a⟩ w S r mk hb rb H F hm hr hS hg hgF hkn hH hF hlen0
    have hglt := hg.lt
    simp only [VRowS] at hr
    obtain ⟨v, rfl, hv1, hv2, rows, hsl, hrows⟩ := hr
    obtain ⟨A, cp, rfl, hlen, hcell⟩ := hsl
    have hl := hrows.length
    simp only [knownV, Bool.and_eq_true, decide_eq_true_eq] at hkn
    obtain ⟨⟨hk1, hk2⟩, hkns⟩ := hkn
    simp only [cntV] at hlen0
    have hcl := cntVs_len a
    have hrb := hH.lt
    refine rets_of_okC Tryd.func28 rfl rfl ?_
    refine ok_seq (fun M hM => ok_region rfl ?_)
    repeat ((try first | (refine ofX3 hX ?_; clear hX X) | (refine ofX2 hX ?_; clear hX X)); (first | refine wpL_step (fun X hX => ?_) | refine wpH_step (fun X hX => ?_) | refine wpE_step (fun X hX => ?_) | refine wpL_end ?_ | refine wpH_end ?_ | refine wpE_end ?_); try simp only [ oweC, oweP, opF, opH, ev, evs, evp, evo, Env.get, Env.set, putE, gdst, S0, S1, thenN, inBlockN, argEnv, builtinR, retE, fin, finC, retC, oneC, callR, reduceIte, Nat.reduceEqDiff, Nat.reduceAdd, reduceCtorEq, forall_const, Tryd.results28, Fx.ag2, Fx.ag22, Fx.ag24, Fx.ag3, Fx.ag85, Fx.ag9, Fx.es22, Fx.fo24_0, Fx.fo24_1, Fx.fo24_2, Fx.fo24_3, Fx.isl22])
    refine Runs.box (fun w1 he1 hz1 hb1 => ?_)
    generalize hB1 : w.heap.size = B1 at hz1 hb1
    simp only [Value.cells] at hb1
    rw [hl] at hb1
    repeat ((try first | (refine ofX3 hX ?_; clear hX X) | (refine ofX2 hX ?_; clear hX X)); (first | refine wpL_step (fun X hX => ?_) | refine wpH_step (fun X hX => ?_) | refine wpE_step (fun X hX => ?_) | refine wpL_end ?_ | refine wpH_end ?_ | refine wpE_end ?_); try simp only [ oweC, oweP, opF, opH, ev, evs, evp, evo, Env.get, Env.set, putE, gdst, S0, S1, thenN, inBlockN, argEnv, builtinR, retE, fin, finC, retC, oneC, callR, reduceIte, Nat.reduceEqDiff, Nat.reduceAdd, reduceCtorEq, forall_const, Tryd.results28, Fx.ag2, Fx.ag22, Fx.ag24, Fx.ag3, Fx.ag85, Fx.ag9, Fx.es22, Fx.fo24_0, Fx.fo24_1, Fx.fo24_2, Fx.fo24_3, Fx.isl22])
    refine Runs.alloc Fx.zi31 (fun w2 he2 hz2 hb2 => ?_)
    generalize hB2 : w1.heap.size = B2 at hz2 hb2
    simp only [Value.cells] at hb2
    have hb12 := hb1.ext he2
    have he02' := he1.trans he2
    repeat ((try first | (refine ofX3 hX ?_; clear hX X) | (refine ofX2 hX ?_; clear hX X)); (first | refine wpL_step (fun X hX => ?_) | refine wpH_step (fun X hX => ?_) | refine wpE_step (fun X hX => ?_) | refine wpL_end ?_ | refine wpH_end ?_ | refine wpE_end ?_); try simp only [ oweC, oweP, opF, opH, ev, evs, evp, evo, Env.get, Env.set, putE, gdst, S0, S1, thenN, inBlockN, argEnv, builtinR, retE, fin, finC, retC, oneC, callR, reduceIte, Nat.reduceEqDiff, Nat.reduceAdd, reduceCtorEq, forall_const, Tryd.results28, Fx.ag2, Fx.ag22, Fx.ag24, Fx.ag3, Fx.ag85, Fx.ag9, Fx.es22, Fx.fo24_0, Fx.fo24_1, Fx.fo24_2, Fx.fo24_3, Fx.isl22])
    refine hM _ _ _ ?_; clear hM M
    refine ok_seq (fun M hM => ok_region rfl ?_)
    repeat ((try first | (refine ofX3 hX ?_; clear hX X) | (refine ofX2 hX ?_; clear hX X)); (first | refine wpL_step (fun X hX => ?_) | refine wpH_step (fun X hX => ?_) | refine wpE_step (fun X hX => ?_) | refine wpL_end ?_ | refine wpH_end ?_ | refine wpE_end ?_); try simp only [ oweC, oweP, opF, opH, ev, evs, evp, evo, Env.get, Env.set, putE, gdst, S0, S1, thenN, inBlockN, argEnv, builtinR, retE, fin, finC, retC, oneC, callR, reduceIte, Nat.reduceEqDiff, Nat.reduceAdd, reduceCtorEq, forall_const, Tryd.results28, Fx.ag2, Fx.ag22, Fx.ag24, Fx.ag3, Fx.ag85, Fx.ag9, Fx.es22, Fx.fo24_0, Fx.fo24_1, Fx.fo24_2, Fx.fo24_3, Fx.isl22])
    refine ⟨_, (hg.ext he02').kc, ?_⟩
    repeat ((try first | (refine ofX3 hX ?_; clear hX X) | (refine ofX2 hX ?_; clear hX X)); (first | refine wpL_step (fun X hX => ?_) | refine wpH_step (fun X hX => ?_) | refine wpE_step (fun X hX => ?_) | refine wpL_end ?_ | refine wpH_end ?_ | refine wpE_end ?_); try simp only [ oweC, oweP, opF, opH, ev, evs, evp, evo, Env.get, Env.set, putE, gdst, S0, S1, thenN, inBlockN, argEnv, builtinR, retE, fin, finC, retC, oneC, callR, reduceIte, Nat.reduceEqDiff, Nat.reduceAdd, reduceCtorEq, forall_const, Tryd.results28, Fx.ag2, Fx.ag22, Fx.ag24, Fx.ag3, Fx.ag85, Fx.ag9, Fx.es22, Fx.fo24_0, Fx.fo24_1, Fx.fo24_2, Fx.fo24_3, Fx.isl22])
    refine ⟨_, hb12.cell (j := 0) rfl, ?_⟩
    repeat ((try first | (refine ofX3 hX ?_; clear hX X) | (refine ofX2 hX ?_; clear hX X)); (first | refine wpL_step (fun X hX => ?_) | refine wpH_step (fun X hX => ?_) | refine wpE_step (fun X hX => ?_) | refine wpL_end ?_ | refine wpH_end ?_ | refine wpE_end ?_); try simp only [ oweC, oweP, opF, opH, ev, evs, evp, evo, Env.get, Env.set, putE, gdst, S0, S1, thenN, inBlockN, argEnv, builtinR, retE, fin, finC, retC, oneC, callR, reduceIte, Nat.reduceEqDiff, Nat.reduceAdd, reduceCtorEq, forall_const, Tryd.results28, Fx.ag2, Fx.ag22, Fx.ag24, Fx.ag3, Fx.ag85, Fx.ag9, Fx.es22, Fx.fo24_0, Fx.fo24_1, Fx.fo24_2, Fx.fo24_3, Fx.isl22])
    refine Runs.lookupI Fx.un85 Fx.un3 Fx.zi3 (hg.ext he02').km k ?_
    have hkf : kindF k = some (.int .i64 k) := by unfold kindF; rw [if_pos ⟨hk1, hk2⟩]
    rw [hkf]
    simp only [Option.getD_some]
    repeat ((try first | (refine ofX3 hX ?_; clear hX X) | (refine ofX2 hX ?_; clear hX X)); (first | refine wpL_step (fun X hX => ?_) | refine wpH_step (fun X hX => ?_) | refine wpE_step (fun X hX => ?_) | refine wpL_end ?_ | refine wpH_end ?_ | refine wpE_end ?_); try simp only [ oweC, oweP, opF, opH, ev, evs, evp, evo, Env.get, Env.set, putE, gdst, S0, S1, thenN, inBlockN, argEnv, builtinR, retE, fin, finC, retC, oneC, callR, reduceIte, Nat.reduceEqDiff, Nat.reduceAdd, reduceCtorEq, forall_const, Tryd.results28, Fx.ag2, Fx.ag22, Fx.ag24, Fx.ag3, Fx.ag85, Fx.ag9, Fx.es22, Fx.fo24_0, Fx.fo24_1, Fx.fo24_2, Fx.fo24_3, Fx.isl22])
    refine hM _ _ _ ?_; clear hM M
    refine ok_join [(0, ptrOf hb), (3, ptrOf B1), (4, ptrOf B2), (5, .int .i64 k)] (fun w' => w' = w2 ∧ ¬ (k = 1 ∨ k = 2 ∨ k = 8) ∧ ¬ k = 3) ?_ ?_
    · refine ok_seq (fun M hM => ok_region rfl ?_); repeat ((try first | (refine ofX3 hX ?_; clear hX X) | (refine ofX2 hX ?_; clear hX X)); (first | refine wpL_step (fun X hX => ?_) | refine wpH_step (fun X hX => ?_) | refine wpE_step (fun X hX => ?_) | refine wpL_end ?_ | refine wpH_end ?_ | refine wpE_end ?_); try simp only [ oweC, oweP, opF, opH, ev, evs, evp, evo, Env.get, Env.set, putE, gdst, S0, S1, thenN, inBlockN, argEnv, builtinR, retE, fin, finC, retC, oneC, callR, reduceIte, Nat.reduceEqDiff, Nat.reduceAdd, reduceCtorEq, forall_const, Tryd.results28, Fx.ag2, Fx.ag22, Fx.ag24, Fx.ag3, Fx.ag85, Fx.ag9, Fx.es22, Fx.fo24_0, Fx.fo24_1, Fx.fo24_2, Fx.fo24_3, Fx.isl22])
      refine hM _ _ _ ?_; clear hM M
      refine ok_block ?_
      refine ok_join [(0, ptrOf hb), (3, ptrOf B1), (4, ptrOf B2), (5, .int .i64 k), (13, .int .i64 k), (14, .bool (decide (k = 1 ∨ k = 2 ∨ k = 8)))] (fun w' => w' = w2) ?_ ?_
      · refine ok_seq (fun M hM => ok_region rfl ?_); repeat ((try first | (refine ofX3 hX ?_; clear hX X) | (refine ofX2 hX ?_; clear hX X)); (first | refine wpL_step (fun X hX => ?_) | refine wpH_step (fun X hX => ?_) | refine wpE_step (fun X hX => ?_) | refine wpL_end ?_ | refine wpH_end ?_ | refine wpE_end ?_); try simp only [ oweC, oweP, opF, opH, ev, evs, evp, evo, Env.get, Env.set, putE, gdst, S0, S1, thenN, inBlockN, argEnv, builtinR, retE, fin, finC, retC, oneC, callR, reduceIte, Nat.reduceEqDiff, Nat.reduceAdd, reduceCtorEq, forall_const, Tryd.results28, Fx.ag2, Fx.ag22, Fx.ag24, Fx.ag3, Fx.ag85, Fx.ag9, Fx.es22, Fx.fo24_0, Fx.fo24_1, Fx.fo24_2, Fx.fo24_3, Fx.isl22])
        refine hM _ _ _ ?_; clear hM M
        refine ok_if rfl (fun hk => ok_skip ?_) (fun hk => ?_)
        · try simp only [wpL, wpH, wpE, oweC, oweP, opF, opH, ev, evs, evp, evo, Env.get, Env.set, putE, gdst, S0, S1, thenN, inBlockN, argEnv, builtinR, retE, fin, finC, retC, oneC, callR, reduceIte, Nat.reduceEqDiff, Nat.reduceAdd, reduceCtorEq, forall_const, Tryd.results28, Fx.ag2, Fx.ag22, Fx.ag24, Fx.ag3, Fx.ag85, Fx.ag9, Fx.es22, Fx.fo24_0, Fx.fo24_1, Fx.fo24_2, Fx.fo24_3, Fx.isl22]
          simp [sub, Env.get, hk]
        · refine ok_seq (fun M hM => ok_region rfl ?_); repeat ((try first | (refine ofX3 hX ?_; clear hX X) | (refine ofX2 hX ?_; clear hX X)); (first | refine wpL_step (fun X hX => ?_) | refine wpH_step (fun X hX => ?_) | refine wpE_step (fun X hX => ?_) | refine wpL_end ?_ | refine wpH_end ?_ | refine wpE_end ?_); try simp only [ oweC, oweP, opF, opH, ev, evs, evp, evo, Env.get, Env.set, putE, gdst, S0, S1, thenN, inBlockN, argEnv, builtinR, retE, fin, finC, retC, oneC, callR, reduceIte, Nat.reduceEqDiff, Nat.reduceAdd, reduceCtorEq, forall_const, Tryd.results28, Fx.ag2, Fx.ag22, Fx.ag24, Fx.ag3, Fx.ag85, Fx.ag9, Fx.es22, Fx.fo24_0, Fx.fo24_1, Fx.fo24_2, Fx.fo24_3, Fx.isl22])
          refine hM _ _ _ ?_; clear hM M
          refine ok_if rfl (fun hk' => ok_skip ?_) (fun hk' => ?_)
          · try simp only [wpL, wpH, wpE, oweC, oweP, opF, opH, ev, evs, evp, evo, Env.get, Env.set, putE, gdst, S0, S1, thenN, inBlockN, argEnv, builtinR, retE, fin, finC, retC, oneC, callR, reduceIte, Nat.reduceEqDiff, Nat.reduceAdd, reduceCtorEq, forall_const, Tryd.results28, Fx.ag2, Fx.ag22, Fx.ag24, Fx.ag3, Fx.ag85, Fx.ag9, Fx.es22, Fx.fo24_0, Fx.fo24_1, Fx.fo24_2, Fx.fo24_3, Fx.isl22]
            simp [sub, Env.get, hk, hk']
          · refine ok_region rfl ?_
            repeat ((try first | (refine ofX3 hX ?_; clear hX X) | (refine ofX2 hX ?_; clear hX X)); (first | refine wpL_step (fun X hX => ?_) | refine wpH_step (fun X hX => ?_) | refine wpE_step (fun X hX => ?_) | refine wpL_end ?_ | refine wpH_end ?_ | refine wpE_end ?_); try simp only [ oweC, oweP, opF, opH, ev, evs, evp, evo, Env.get, Env.set, putE, gdst, S0, S1, thenN, inBlockN, argEnv, builtinR, retE, fin, finC, retC, oneC, callR, reduceIte, Nat.reduceEqDiff, Nat.reduceAdd, reduceCtorEq, forall_const, Tryd.results28, Fx.ag2, Fx.ag22, Fx.ag24, Fx.ag3, Fx.ag85, Fx.ag9, Fx.es22, Fx.fo24_0, Fx.fo24_1, Fx.fo24_2, Fx.fo24_3, Fx.isl22])
            simp [sub, Env.get, hk, hk']
      rintro w' rfl
      refine ok_if rfl (fun hk => ?_) (fun hk => ?_)
      · refine ok_seq (fun M hM => ok_region rfl ?_)
        repeat ((try first | (refine ofX3 hX ?_; clear hX X) | (refine ofX2 hX ?_; clear hX X)); (first | refine wpL_step (fun X hX => ?_) | refine wpH_step (fun X hX => ?_) | refine wpE_step (fun X hX => ?_) | refine wpL_end ?_ | refine wpH_end ?_ | refine wpE_end ?_); try simp only [ oweC, oweP, opF, opH, ev, evs, evp, evo, Env.get, Env.set, putE, gdst, S0, S1, thenN, inBlockN, argEnv, builtinR, retE, fin, finC, retC, oneC, callR, reduceIte, Nat.reduceEqDiff, Nat.reduceAdd, reduceCtorEq, forall_const, Tryd.results28, Fx.ag2, Fx.ag22, Fx.ag24, Fx.ag3, Fx.ag85, Fx.ag9, Fx.es22, Fx.fo24_0, Fx.fo24_1, Fx.fo24_2, Fx.fo24_3, Fx.isl22])
        refine ⟨_, hb12.cell (j := 1) rfl, ?_⟩
        repeat ((try first | (refine ofX3 hX ?_; clear hX X) | (refine ofX2 hX ?_; clear hX X)); (first | refine wpL_step (fun X hX => ?_) | refine wpH_step (fun X hX => ?_) | refine wpE_step (fun X hX => ?_) | refine wpL_end ?_ | refine wpH_end ?_ | refine wpE_end ?_); try simp only [ oweC, oweP, opF, opH, ev, evs, evp, evo, Env.get, Env.set, putE, gdst, S0, S1, thenN, inBlockN, argEnv, builtinR, retE, fin, finC, retC, oneC, callR, reduceIte, Nat.reduceEqDiff, Nat.reduceAdd, reduceCtorEq, forall_const, Tryd.results28, Fx.ag2, Fx.ag22, Fx.ag24, Fx.ag3, Fx.ag85, Fx.ag9, Fx.es22, Fx.fo24_0, Fx.fo24_1, Fx.fo24_2, Fx.fo24_3, Fx.isl22])
        refine ⟨_, w', run_build (P := Tryd.prog) w' 31 _ #[.int .i64 k, .int .i64 n, .int .i64 0] (by kernel_rfl), ?_⟩
        repeat ((try first | (refine ofX3 hX ?_; clear hX X) | (refine ofX2 hX ?_; clear hX X)); (first | refine wpL_step (fun X hX => ?_) | refine wpH_step (fun X hX => ?_) | refine wpE_step (fun X hX => ?_) | refine wpL_end ?_ | refine wpH_end ?_ | refine wpE_end ?_); try simp only [ oweC, oweP, opF, opH, ev, evs, evp, evo, Env.get, Env.set, putE, gdst, S0, S1, thenN, inBlockN, argEnv, builtinR, retE, fin, finC, retC, oneC, callR, reduceIte, Nat.reduceEqDiff, Nat.reduceAdd, reduceCtorEq, forall_const, Tryd.results28, Fx.ag2, Fx.ag22, Fx.ag24, Fx.ag3, Fx.ag85, Fx.ag9, Fx.es22, Fx.fo24_0, Fx.fo24_1, Fx.fo24_2, Fx.fo24_3, Fx.isl22])
        refine Runs.store hb2 Fx.zi31 rfl (by intro u hu; simp [Value.cells] at hu; rcases hu with rfl | rfl | rfl <;> rfl) (by simp) (fun w5 hc5 hs5 hb5 => ?_)
        rw [splice_all _ _ (by simp [Value.cells])] at hb5
        simp only [Value.cells] at hb5
        repeat ((try first | (refine ofX3 hX ?_; clear hX X) | (refine ofX2 hX ?_; clear hX X)); (first | refine wpL_step (fun X hX => ?_) | refine wpH_step (fun X hX => ?_) | refine wpE_step (fun X hX => ?_) | refine wpL_end ?_ | refine wpH_end ?_ | refine wpE_end ?_); try simp only [ oweC, oweP, opF, opH, ev, evs, evp, evo, Env.get, Env.set, putE, gdst, S0, S1, thenN, inBlockN, argEnv, builtinR, retE, fin, finC, retC, oneC, callR, reduceIte, Nat.reduceEqDiff, Nat.reduceAdd, reduceCtorEq, forall_const, Tryd.results28, Fx.ag2, Fx.ag22, Fx.ag24, Fx.ag3, Fx.ag85, Fx.ag9, Fx.es22, Fx.fo24_0, Fx.fo24_1, Fx.fo24_2, Fx.fo24_3, Fx.isl22])
        refine hM _ _ _ ?_; clear hM M
        refine ok_ret ?_
        try simp only [wpL, wpH, wpE, oweC, oweP, opF, opH, ev, evs, evp, evo, Env.get, Env.set, putE, gdst, S0, S1, thenN, inBlockN, argEnv, builtinR, retE, fin, finC, retC, oneC, callR, reduceIte, Nat.reduceEqDiff, Nat.reduceAdd, reduceCtorEq, forall_const, Tryd.results28, Fx.ag2, Fx.ag22, Fx.ag24, Fx.ag3, Fx.ag85, Fx.ag9, Fx.es22, Fx.fo24_0, Fx.fo24_1, Fx.fo24_2, Fx.fo24_3, Fx.isl22]
        have hst : storeV H (.mk k n t a) = (H, ⟨k, n, 0⟩) := by simp only [storeV]; rw [if_pos hk]
        rw [hst]
        refine ⟨_, rfl, hb5.cells (o := 0) (row := [.int .i64 k, .int .i64 n, .int .i64 0]) (fun j u hj => by simpa using hj), rfl, ?_⟩
        exact Grown.ext hH (he02'.chg_trans hc5 (fun i hi => by omega))
      · refine ok_seq (fun M hM => ok_region rfl ?_); repeat ((try first | (refine ofX3 hX ?_; clear hX X) | (refine ofX2 hX ?_; clear hX X)); (first | refine wpL_step (fun X hX => ?_) | refine wpH_step (fun X hX => ?_) | refine wpE_step (fun X hX => ?_) | refine wpL_end ?_ | refine wpH_end ?_ | refine wpE_end ?_); try simp only [ oweC, oweP, opF, opH, ev, evs, evp, evo, Env.get, Env.set, putE, gdst, S0, S1, thenN, inBlockN, argEnv, builtinR, retE, fin, finC, retC, oneC, callR, reduceIte, Nat.reduceEqDiff, Nat.reduceAdd, reduceCtorEq, forall_const, Tryd.results28, Fx.ag2, Fx.ag22, Fx.ag24, Fx.ag3, Fx.ag85, Fx.ag9, Fx.es22, Fx.fo24_0, Fx.fo24_1, Fx.fo24_2, Fx.fo24_3, Fx.isl22])
        refine hM _ _ _ ?_; clear hM M
        refine ok_if rfl (fun hk3 => ?_) (fun hk3 => ok_skip ?_)
        rotate_left
        · try simp only [wpL, wpH, wpE, oweC, oweP, opF, opH, ev, evs, evp, evo, Env.get, Env.set, putE, gdst, S0, S1, thenN, inBlockN, argEnv, builtinR, retE, fin, finC, retC, oneC, callR, reduceIte, Nat.reduceEqDiff, Nat.reduceAdd, reduceCtorEq, forall_const, Tryd.results28, Fx.ag2, Fx.ag22, Fx.ag24, Fx.ag3, Fx.ag85, Fx.ag9, Fx.es22, Fx.fo24_0, Fx.fo24_1, Fx.fo24_2, Fx.fo24_3, Fx.isl22]
          exact ⟨by simp [sub, Env.get], hk, hk3⟩
        refine ok_seq (fun M hM => ok_region rfl ?_)
        repeat ((try first | (refine ofX3 hX ?_; clear hX X) | (refine ofX2 hX ?_; clear hX X)); (first | refine wpL_step (fun X hX => ?_) | refine wpH_step (fun X hX => ?_) | refine wpE_step (fun X hX => ?_) | refine wpL_end ?_ | refine wpH_end ?_ | refine wpE_end ?_); try simp only [ oweC, oweP, opF, opH, ev, evs, evp, evo, Env.get, Env.set, putE, gdst, S0, S1, thenN, inBlockN, argEnv, builtinR, retE, fin, finC, retC, oneC, callR, reduceIte, Nat.reduceEqDiff, Nat.reduceAdd, reduceCtorEq, forall_const, Tryd.results28, Fx.ag2, Fx.ag22, Fx.ag24, Fx.ag3, Fx.ag85, Fx.ag9, Fx.es22, Fx.fo24_0, Fx.fo24_1, Fx.fo24_2, Fx.fo24_3, Fx.isl22])
        refine ⟨_, hb12.cell (j := 2) rfl, ?_⟩
        repeat ((try first | (refine ofX3 hX ?_; clear hX X) | (refine ofX2 hX ?_; clear hX X)); (first | refine wpL_step (fun X hX => ?_) | refine wpH_step (fun X hX => ?_) | refine wpE_step (fun X hX => ?_) | refine wpL_end ?_ | refine wpH_end ?_ | refine wpE_end ?_); try simp only [ oweC, oweP, opF, opH, ev, evs, evp, evo, Env.get, Env.set, putE, gdst, S0, S1, thenN, inBlockN, argEnv, builtinR, retE, fin, finC, retC, oneC, callR, reduceIte, Nat.reduceEqDiff, Nat.reduceAdd, reduceCtorEq, forall_const, Tryd.results28, Fx.ag2, Fx.ag22, Fx.ag24, Fx.ag3, Fx.ag85, Fx.ag9, Fx.es22, Fx.fo24_0, Fx.fo24_1, Fx.fo24_2, Fx.fo24_3, Fx.isl22])
        have hs02 := he02'.size
        refine Inv.call Fx.en22 (text_ok w' hb rb H F (hH.ext he02') (fun k hk => by have := hF k hk; omega) (by omega) t) ?_
        rintro v w3 ⟨rfl, hc3, F', hH3, hF'⟩
        repeat ((try first | (refine ofX3 hX ?_; clear hX X) | (refine ofX2 hX ?_; clear hX X)); (first | refine wpL_step (fun X hX => ?_) | refine wpH_step (fun X hX => ?_) | refine wpE_step (fun X hX => ?_) | refine wpL_end ?_ | refine wpH_end ?_ | refine wpE_end ?_); try simp only [ oweC, oweP, opF, opH, ev, evs, evp, evo, Env.get, Env.set, putE, gdst, S0, S1, thenN, inBlockN, argEnv, builtinR, retE, fin, finC, retC, oneC, callR, reduceIte, Nat.reduceEqDiff, Nat.reduceAdd, reduceCtorEq, forall_const, Tryd.results28, Fx.ag2, Fx.ag22, Fx.ag24, Fx.ag3, Fx.ag85, Fx.ag9, Fx.es22, Fx.fo24_0, Fx.fo24_1, Fx.fo24_2, Fx.fo24_3, Fx.isl22])
        have hBF : ¬ F B2 := fun h => by have := hF B2 h; omega
        have hs3 := hc3.size
        refine Runs.store (hb2.chg hc3 hBF) Fx.zi31 rfl (by intro u hu; simp [Value.cells, Wd.row] at hu; rcases hu with rfl | rfl | rfl <;> rfl) (by simp) (fun w5 hc5 hs5 hb5 => ?_)
        rw [splice_all _ _ (by simp [Value.cells])] at hb5
        simp only [Value.cells] at hb5
        repeat ((try first | (refine ofX3 hX ?_; clear hX X) | (refine ofX2 hX ?_; clear hX X)); (first | refine wpL_step (fun X hX => ?_) | refine wpH_step (fun X hX => ?_) | refine wpE_step (fun X hX => ?_) | refine wpL_end ?_ | refine wpH_end ?_ | refine wpE_end ?_); try simp only [ oweC, oweP, opF, opH, ev, evs, evp, evo, Env.get, Env.set, putE, gdst, S0, S1, thenN, inBlockN, argEnv, builtinR, retE, fin, finC, retC, oneC, callR, reduceIte, Nat.reduceEqDiff, Nat.reduceAdd, reduceCtorEq, forall_const, Tryd.results28, Fx.ag2, Fx.ag22, Fx.ag24, Fx.ag3, Fx.ag85, Fx.ag9, Fx.es22, Fx.fo24_0, Fx.fo24_1, Fx.fo24_2, Fx.fo24_3, Fx.isl22])
        refine hM _ _ _ ?_; clear hM M
        refine ok_ret ?_
        try simp only [wpL, wpH, wpE, oweC, oweP, opF, opH, ev, evs, evp, evo, Env.get, Env.set, putE, gdst, S0, S1, thenN, inBlockN, argEnv, builtinR, retE, fin, finC, retC, oneC, callR, reduceIte, Nat.reduceEqDiff, Nat.reduceAdd, reduceCtorEq, forall_const, Tryd.results28, Fx.ag2, Fx.ag22, Fx.ag24, Fx.ag3, Fx.ag85, Fx.ag9, Fx.es22, Fx.fo24_0, Fx.fo24_1, Fx.fo24_2, Fx.fo24_3, Fx.isl22]
        have hst : storeV H (.mk k n t a) = (H ++ [.text t], ⟨3, 0, (H.length : Int) + 1⟩) := by simp only [storeV]; rw [if_neg hk, if_pos hk3]
        rw [hst]
        refine ⟨_, rfl, hb5.cells (o := 0) (row := Wd.row ⟨3, 0, (H.length : Int) + 1⟩) (fun j u hj => by simpa using hj), rfl, ?_⟩
        have hnB : ¬ F' B2 := fun h => by rcases hF' B2 h with h | h <;> first | exact hBF h | omega
        refine ⟨((he02'.chg F).trans hc3).trans_new hc5 (fun k hk => by omega), F', hH3.chg hc5 (fun k hk e => hnB (e ▸ hk)) (by omega), fun k hk => ?_⟩
        rcases hF' k hk with h | h
        · exact .inl h
        · exact .inr (by omega)
    rintro w' ⟨rfl, hk8, hk3⟩
    have hst : storeV H (.mk k n t a) = mkW (storeVs H a).1 k n (storeVs H a).2 := by simp only [storeV]; rw [if_neg hk8, if_neg hk3]
    rw [hst]
    have hs02 := he02'.size
    refine ok_seq (fun M hM => ok_region rfl ?_); repeat ((try first | (refine ofX3 hX ?_; clear hX X) | (refine ofX2 hX ?_; clear hX X)); (first | refine wpL_step (fun X hX => ?_) | refine wpH_step (fun X hX => ?_) | refine wpE_step (fun X hX => ?_) | refine wpL_end ?_ | refine wpH_end ?_ | refine wpE_end ?_); try simp only [ oweC, oweP, opF, opH, ev, evs, evp, evo, Env.get, Env.set, putE, gdst, S0, S1, thenN, inBlockN, argEnv, builtinR, retE, fin, finC, retC, oneC, callR, reduceIte, Nat.reduceEqDiff, Nat.reduceAdd, reduceCtorEq, forall_const, Tryd.results28, Fx.ag2, Fx.ag22, Fx.ag24, Fx.ag3, Fx.ag85, Fx.ag9, Fx.es22, Fx.fo24_0, Fx.fo24_1, Fx.fo24_2, Fx.fo24_3, Fx.isl22])
    refine hM _ _ _ ?_; clear hM M
    refine ok_seq (fun M0 hM0 => ?_)
    refine ok_seq (fun M hM => ok_region rfl ?_)
    repeat ((try first | (refine ofX3 hX ?_; clear hX X) | (refine ofX2 hX ?_; clear hX X)); (first | refine wpL_step (fun X hX => ?_) | refine wpH_step (fun X hX => ?_) | refine wpE_step (fun X hX => ?_) | refine wpL_end ?_ | refine wpH_end ?_ | refine wpE_end ?_); try simp only [ oweC, oweP, opF, opH, ev, evs, evp, evo, Env.get, Env.set, putE, gdst, S0, S1, thenN, inBlockN, argEnv, builtinR, retE, fin, finC, retC, oneC, callR, reduceIte, Nat.reduceEqDiff, Nat.reduceAdd, reduceCtorEq, forall_const, Tryd.results28, Fx.ag2, Fx.ag22, Fx.ag24, Fx.ag3, Fx.ag85, Fx.ag9, Fx.es22, Fx.fo24_0, Fx.fo24_1, Fx.fo24_2, Fx.fo24_3, Fx.isl22])
    refine ⟨_, hb12.cell (j := 3) rfl, ?_⟩
    repeat ((try first | (refine ofX3 hX ?_; clear hX X) | (refine ofX2 hX ?_; clear hX X)); (first | refine wpL_step (fun X hX => ?_) | refine wpH_step (fun X hX => ?_) | refine wpE_step (fun X hX => ?_) | refine wpL_end ?_ | refine wpH_end ?_ | refine wpE_end ?_); try simp only [ oweC, oweP, opF, opH, ev, evs, evp, evo, Env.get, Env.set, putE, gdst, S0, S1, thenN, inBlockN, argEnv, builtinR, retE, fin, finC, retC, oneC, callR, reduceIte, Nat.reduceEqDiff, Nat.reduceAdd, reduceCtorEq, forall_const, Tryd.results28, Fx.ag2, Fx.ag22, Fx.ag24, Fx.ag3, Fx.ag85, Fx.ag9, Fx.es22, Fx.fo24_0, Fx.fo24_1, Fx.fo24_2, Fx.fo24_3, Fx.isl22])
    refine hM _ _ _ ?_; clear hM M
    refine ok_block ?_
    refine ok_loop (S := Nat × Value) (fun s => [(0, ptrOf hb), (3, ptrOf B1), (4, ptrOf B2), (5, .int .i64 k), (6, s.2), (29, .slice A a.length cp), (30, .int .i64 (a.length : Int)), (31, .int .i64 (s.1 : Int))])
      (fun s w4 => s.1 ≤ a.length ∧ Chg F w w4 ∧ ∃ F', HeapW w4 hb rb (storeVs H (a.take s.1)).1 F' ∧ (∀ k, F' k → F k ∨ (w.heap.size ≤ k ∧ k < w4.heap.size ∧ k ≠ B1 ∧ k ≠ B2)) ∧
        Blk w4 B1 [.int .i64 k, .int .i64 n, .string t, .slice A a.length cp] 24 ∧ Blk w4 B2 [.int .i64 0, .int .i64 0, .int .i64 0] 31 ∧
        w4.ownsRow 0 31 3 s.2 s.1 ((storeVs H (a.take s.1)).2.map Wd.row).flatten ∧ (∀ k, s.2.ownBlock = some k → ¬ F' k ∧ k ≠ B1 ∧ k ≠ B2 ∧ w.heap.size ≤ k)) (fun s => a.length - s.1) (0, .slice none 0 0) ?_ ?_ ?_
    · simp [sub, Env.get]
    · refine ⟨Nat.zero_le _, he02'.chg F, F, hH.ext he02', fun k hk => .inl hk, hb12, hb2, World.ownsRow_nil _ _ _ _, fun k hk => by simp [Value.ownBlock] at hk⟩
    rintro ⟨i, va⟩ w4 ⟨hi, hc4, F', hH4, hF4, hB1', hB2', hown, hob⟩
    simp only at hi hH4 hown hob ⊢
    have hs4 := hc4.size
    have hl1 := hB1'.lt
    have hl2 := hB2'.lt
    have hF4s : ∀ k, F' k → k < w4.heap.size := fun k hk => by
      rcases hF4 k hk with h | h
      · have := hF k h; omega
      · omega
    have hnB1 : ¬ F' B1 := fun h => by
      rcases hF4 B1 h with h | h
      · have := hF B1 h; omega
      · omega
    have hnB2 : ¬ F' B2 := fun h => by
      rcases hF4 B2 h with h | h
      · have := hF B2 h; omega
      · omega
    refine ok_seq (fun M hM => ok_region rfl ?_); repeat ((try first | (refine ofX3 hX ?_; clear hX X) | (refine ofX2 hX ?_; clear hX X)); (first | refine wpL_step (fun X hX => ?_) | refine wpH_step (fun X hX => ?_) | refine wpE_step (fun X hX => ?_) | refine wpL_end ?_ | refine wpH_end ?_ | refine wpE_end ?_); try simp only [ oweC, oweP, opF, opH, ev, evs, evp, evo, Env.get, Env.set, putE, gdst, S0, S1, thenN, inBlockN, argEnv, builtinR, retE, fin, finC, retC, oneC, callR, reduceIte, Nat.reduceEqDiff, Nat.reduceAdd, reduceCtorEq, forall_const, Tryd.results28, Fx.ag2, Fx.ag22, Fx.ag24, Fx.ag3, Fx.ag85, Fx.ag9, Fx.es22, Fx.fo24_0, Fx.fo24_1, Fx.fo24_2, Fx.fo24_3, Fx.isl22])
    refine hM _ _ _ ?_; clear hM M
    refine ok_seq (fun M1 hM1 => ?_)
    refine ok_if rfl (fun hc => ok_skip ?_) (fun hc => ok_exit ?_)
    rotate_left
    · try simp only [wpL, wpH, wpE, oweC, oweP, opF, opH, ev, evs, evp, evo, Env.get, Env.set, putE, gdst, S0, S1, thenN, inBlockN, argEnv, builtinR, retE, fin, finC, retC, oneC, callR, reduceIte, Nat.reduceEqDiff, Nat.reduceAdd, reduceCtorEq, forall_const, Tryd.results28, Fx.ag2, Fx.ag22, Fx.ag24, Fx.ag3, Fx.ag85, Fx.ag9, Fx.es22, Fx.fo24_0, Fx.fo24_1, Fx.fo24_2, Fx.fo24_3, Fx.isl22]
      refine hM0 _ _ _ ?_; clear hM0 M0 hM1 M1
      have hia : i = a.length := by omega
      subst hia
      rw [List.take_of_length_le (Nat.le_refl _)] at hH4 hown
      have hsl := storeVs_length a H
      have hlen1 := storeVs_len a H
      have hSl : SlW w4 va (storeVs H a).2 := Sli.of_own hown rfl (fun r hr => (words_rows _ r hr).1) (by simp [hsl]) (by omega)
      obtain ⟨A9, c9, hva⟩ : ∃ A9 c9, va = .slice A9 (storeVs H a).2.length c9 := by
        obtain ⟨A9, c9, h1, _⟩ := hSl
        exact ⟨A9, c9, by rw [h1]; simp⟩
      refine ok_seq (fun M hM => ok_region rfl ?_)
      repeat ((try first | (refine ofX3 hX ?_; clear hX X) | (refine ofX2 hX ?_; clear hX X)); (first | refine wpL_step (fun X hX => ?_) | refine wpH_step (fun X hX => ?_) | refine wpE_step (fun X hX => ?_) | refine wpL_end ?_ | refine wpH_end ?_ | refine wpE_end ?_); try simp only [ oweC, oweP, opF, opH, ev, evs, evp, evo, Env.get, Env.set, putE, gdst, S0, S1, thenN, inBlockN, argEnv, builtinR, retE, fin, finC, retC, oneC, callR, reduceIte, Nat.reduceEqDiff, Nat.reduceAdd, reduceCtorEq, forall_const, Tryd.results28, Fx.ag2, Fx.ag22, Fx.ag24, Fx.ag3, Fx.ag85, Fx.ag9, Fx.es22, Fx.fo24_0, Fx.fo24_1, Fx.fo24_2, Fx.fo24_3, Fx.isl22])
      refine ⟨_, hB1'.cell (j := 1) rfl, ?_⟩
      repeat ((try first | (refine ofX3 hX ?_; clear hX X) | (refine ofX2 hX ?_; clear hX X)); (first | refine wpL_step (fun X hX => ?_) | refine wpH_step (fun X hX => ?_) | refine wpE_step (fun X hX => ?_) | refine wpL_end ?_ | refine wpH_end ?_ | refine wpE_end ?_); try simp only [ oweC, oweP, opF, opH, ev, evs, evp, evo, Env.get, Env.set, putE, gdst, S0, S1, thenN, inBlockN, argEnv, builtinR, retE, fin, finC, retC, oneC, callR, reduceIte, Nat.reduceEqDiff, Nat.reduceAdd, reduceCtorEq, forall_const, Tryd.results28, Fx.ag2, Fx.ag22, Fx.ag24, Fx.ag3, Fx.ag85, Fx.ag9, Fx.es22, Fx.fo24_0, Fx.fo24_1, Fx.fo24_2, Fx.fo24_3, Fx.isl22])
      refine Inv.call Fx.en34 (make_ok w4 hb rb _ F' hH4 (fun k hk => hF4s k hk) (by omega) k n va _ hSl (by omega)) ?_
      rintro v w5 ⟨rfl, hc5, F5, hH5, hF5⟩
      have hs5 := hc5.size
      repeat ((try first | (refine ofX3 hX ?_; clear hX X) | (refine ofX2 hX ?_; clear hX X)); (first | refine wpL_step (fun X hX => ?_) | refine wpH_step (fun X hX => ?_) | refine wpE_step (fun X hX => ?_) | refine wpL_end ?_ | refine wpH_end ?_ | refine wpE_end ?_); try simp only [ oweC, oweP, opF, opH, ev, evs, evp, evo, Env.get, Env.set, putE, gdst, S0, S1, thenN, inBlockN, argEnv, builtinR, retE, fin, finC, retC, oneC, callR, reduceIte, Nat.reduceEqDiff, Nat.reduceAdd, reduceCtorEq, forall_const, Tryd.results28, Fx.ag2, Fx.ag22, Fx.ag24, Fx.ag3, Fx.ag85, Fx.ag9, Fx.es22, Fx.fo24_0, Fx.fo24_1, Fx.fo24_2, Fx.fo24_3, Fx.isl22])
      refine Runs.store (hB2'.chg hc5 hnB2) Fx.zi31 rfl (by intro u hu; simp [Value.cells, Wd.row] at hu; rcases hu with rfl | rfl | rfl <;> rfl) (by simp) (fun w6 hc6 hs6 hb6 => ?_)
      rw [splice_all _ _ (by simp [Value.cells])] at hb6
      simp only [Value.cells] at hb6
      repeat ((try first | (refine ofX3 hX ?_; clear hX X) | (refine ofX2 hX ?_; clear hX X)); (first | refine wpL_step (fun X hX => ?_) | refine wpH_step (fun X hX => ?_) | refine wpE_step (fun X hX => ?_) | refine wpL_end ?_ | refine wpH_end ?_ | refine wpE_end ?_); try simp only [ oweC, oweP, opF, opH, ev, evs, evp, evo, Env.get, Env.set, putE, gdst, S0, S1, thenN, inBlockN, argEnv, builtinR, retE, fin, finC, retC, oneC, callR, reduceIte, Nat.reduceEqDiff, Nat.reduceAdd, reduceCtorEq, forall_const, Tryd.results28, Fx.ag2, Fx.ag22, Fx.ag24, Fx.ag3, Fx.ag85, Fx.ag9, Fx.es22, Fx.fo24_0, Fx.fo24_1, Fx.fo24_2, Fx.fo24_3, Fx.isl22])
      refine hM _ _ _ ?_; clear hM M
      refine ok_ret ?_
      try simp only [wpL, wpH, wpE, oweC, oweP, opF, opH, ev, evs, evp, evo, Env.get, Env.set, putE, gdst, S0, S1, thenN, inBlockN, argEnv, builtinR, retE, fin, finC, retC, oneC, callR, reduceIte, Nat.reduceEqDiff, Nat.reduceAdd, reduceCtorEq, forall_const, Tryd.results28, Fx.ag2, Fx.ag22, Fx.ag24, Fx.ag3, Fx.ag85, Fx.ag9, Fx.es22, Fx.fo24_0, Fx.fo24_1, Fx.fo24_2, Fx.fo24_3, Fx.isl22]
      refine ⟨_, rfl, hb6.cells (o := 0) (row := (mkW (storeVs H a).1 k n (storeVs H a).2).2.row) (fun j u hj => by simpa using hj), rfl, ?_⟩
      have hnB : ¬ F5 B2 := fun h => by rcases hF5 B2 h with h | h <;> first | exact hnB2 h | omega
      have hc5' : Chg F w w5 := ⟨hc5.os.trans hc4.os, hc5.tape.trans hc4.tape, hc5.output.trans hc4.output, by omega, fun j hj hf => by
        rw [hc5.block j (by omega) (fun h => by rcases hF4 j h with h | h <;> first | exact hf h | omega), hc4.block j hj hf]⟩
      refine ⟨hc5'.trans_new hc6 (fun k hk => by omega), F5, hH5.chg hc6 (fun k hk e => hnB (e ▸ hk)) (by omega), fun k hk => ?_⟩
      rcases hF5 k hk with h | h
      · rcases hF4 k h with h | h
        · exact .inl h
        · exact .inr (by omega)
      · exact .inr (by omega)
    · try simp only [wpL, wpH, wpE, oweC, oweP, opF, opH, ev, evs, evp, evo, Env.get, Env.set, putE, gdst, S0, S1, thenN, inBlockN, argEnv, builtinR, retE, fin, finC, retC, oneC, callR, reduceIte, Nat.reduceEqDiff, Nat.reduceAdd, reduceCtorEq, forall_const, Tryd.results28, Fx.ag2, Fx.ag22, Fx.ag24, Fx.ag3, Fx.ag85, Fx.ag9, Fx.es22, Fx.fo24_0, Fx.fo24_1, Fx.fo24_2, Fx.fo24_3, Fx.isl22]
      refine hM1 _ _ _ ?_; clear hM1 M1
      have hil : i < a.length := by omega
      have hxi : a[i]? = some a[i] := List.getElem?_eq_getElem hil
      obtain ⟨rr, hrr, hvr⟩ := hrows.get i _ hxi
      obtain ⟨b, o, rfl, hbS, hcr⟩ := hcell i rr hrr
      have hr4 := (VRowS.row _ _ hvr).len
      have hct := cntVs_take a i _ hxi
      have hcl1 := storeVs_len (a.take i) H
      have hsz : SizeOf.sizeOf a[i] ≤ m := by
        have := List.sizeOf_lt_of_mem (List.getElem_mem hil)
        simp at hm
        omega
      refine ok_seq (fun M1 hM1 => ok_block ?_)
      refine ok_seq (fun M hM => ok_region rfl ?_)
      repeat ((try first | (refine ofX3 hX ?_; clear hX X) | (refine ofX2 hX ?_; clear hX X)); (first | refine wpL_step (fun X hX => ?_) | refine wpH_step (fun X hX => ?_) | refine wpE_step (fun X hX => ?_) | refine wpL_end ?_ | refine wpH_end ?_ | refine wpE_end ?_); try simp only [ oweC, oweP, opF, opH, ev, evs, evp, evo, Env.get, Env.set, putE, gdst, S0, S1, thenN, inBlockN, argEnv, builtinR, retE, fin, finC, retC, oneC, callR, reduceIte, Nat.reduceEqDiff, Nat.reduceAdd, reduceCtorEq, forall_const, Tryd.results28, Fx.ag2, Fx.ag22, Fx.ag24, Fx.ag3, Fx.ag85, Fx.ag9, Fx.es22, Fx.fo24_0, Fx.fo24_1, Fx.fo24_2, Fx.fo24_3, Fx.isl22])
      refine ⟨by omega, by omega, ?_⟩
      repeat ((try first | (refine ofX3 hX ?_; clear hX X) | (refine ofX2 hX ?_; clear hX X)); (first | refine wpL_step (fun X hX => ?_) | refine wpH_step (fun X hX => ?_) | refine wpE_step (fun X hX => ?_) | refine wpL_end ?_ | refine wpH_end ?_ | refine wpE_end ?_); try simp only [ oweC, oweP, opF, opH, ev, evs, evp, evo, Env.get, Env.set, putE, gdst, S0, S1, thenN, inBlockN, argEnv, builtinR, retE, fin, finC, retC, oneC, callR, reduceIte, Nat.reduceEqDiff, Nat.reduceAdd, reduceCtorEq, forall_const, Tryd.results28, Fx.ag2, Fx.ag22, Fx.ag24, Fx.ag3, Fx.ag85, Fx.ag9, Fx.es22, Fx.fo24_0, Fx.fo24_1, Fx.fo24_2, Fx.fo24_3, Fx.isl22])
      refine ⟨rr, hr4, hc4.cellsAt hcr (hS b hbS).1, ?_⟩
      repeat ((try first | (refine ofX3 hX ?_; clear hX X) | (refine ofX2 hX ?_; clear hX X)); (first | refine wpL_step (fun X hX => ?_) | refine wpH_step (fun X hX => ?_) | refine wpE_step (fun X hX => ?_) | refine wpL_end ?_ | refine wpH_end ?_ | refine wpE_end ?_); try simp only [ oweC, oweP, opF, opH, ev, evs, evp, evo, Env.get, Env.set, putE, gdst, S0, S1, thenN, inBlockN, argEnv, builtinR, retE, fin, finC, retC, oneC, callR, reduceIte, Nat.reduceEqDiff, Nat.reduceAdd, reduceCtorEq, forall_const, Tryd.results28, Fx.ag2, Fx.ag22, Fx.ag24, Fx.ag3, Fx.ag85, Fx.ag9, Fx.es22, Fx.fo24_0, Fx.fo24_1, Fx.fo24_2, Fx.fo24_3, Fx.isl22])
      refine Runs.alloc Fx.zi24 (fun w5 he5 hs5 hb5 => ?_)
      generalize hB5 : w4.heap.size = B5 at hs5 hb5
      repeat ((try first | (refine ofX3 hX ?_; clear hX X) | (refine ofX2 hX ?_; clear hX X)); (first | refine wpL_step (fun X hX => ?_) | refine wpH_step (fun X hX => ?_) | refine wpE_step (fun X hX => ?_) | refine wpL_end ?_ | refine wpH_end ?_ | refine wpE_end ?_); try simp only [ oweC, oweP, opF, opH, ev, evs, evp, evo, Env.get, Env.set, putE, gdst, S0, S1, thenN, inBlockN, argEnv, builtinR, retE, fin, finC, retC, oneC, callR, reduceIte, Nat.reduceEqDiff, Nat.reduceAdd, reduceCtorEq, forall_const, Tryd.results28, Fx.ag2, Fx.ag22, Fx.ag24, Fx.ag3, Fx.ag85, Fx.ag9, Fx.es22, Fx.fo24_0, Fx.fo24_1, Fx.fo24_2, Fx.fo24_3, Fx.isl22])
      refine Runs.store hb5 Fx.zi24 (by simpa [Value.cells] using hr4) (by simpa [Value.cells] using (VRowS.row _ _ hvr).one) (by simp [Value.cells]) (fun w6 hc6 hs6 hb6 => ?_)
      rw [splice_all _ _ (by simp [Value.cells, hr4])] at hb6
      simp only [Value.cells] at hb6
      have he6 : Ext w4 w6 := he5.chg_trans hc6 (fun i hi => by omega)
      have hvr6 : VRowS w6 S rr a[i] := VRowS.ext (VRowS.chg hc4 (fun k hk => ⟨hk, (hS k hk).1⟩) _ _ hvr) he6
      have hg6 : Glob w6 mk := (hg.chg hc4 hgF.1 hgF.2.1 hgF.2.2).ext he6
      have hnF' : ∀ k, k < w.heap.size → ¬ F k → ¬ F' k := fun k hk hn hf => by rcases hF4 k hf with h | h <;> first | exact hn h | omega
      have hs46 := he6.size
      repeat ((try first | (refine ofX3 hX ?_; clear hX X) | (refine ofX2 hX ?_; clear hX X)); (first | refine wpL_step (fun X hX => ?_) | refine wpH_step (fun X hX => ?_) | refine wpE_step (fun X hX => ?_) | refine wpL_end ?_ | refine wpH_end ?_ | refine wpE_end ?_); try simp only [ oweC, oweP, opF, opH, ev, evs, evp, evo, Env.get, Env.set, putE, gdst, S0, S1, thenN, inBlockN, argEnv, builtinR, retE, fin, finC, retC, oneC, callR, reduceIte, Nat.reduceEqDiff, Nat.reduceAdd, reduceCtorEq, forall_const, Tryd.results28, Fx.ag2, Fx.ag22, Fx.ag24, Fx.ag3, Fx.ag85, Fx.ag9, Fx.es22, Fx.fo24_0, Fx.fo24_1, Fx.fo24_2, Fx.fo24_3, Fx.isl22])
      refine hM _ _ _ ?_; clear hM M
      refine ok_region rfl ?_
      repeat ((try first | (refine ofX3 hX ?_; clear hX X) | (refine ofX2 hX ?_; clear hX X)); (first | refine wpL_step (fun X hX => ?_) | refine wpH_step (fun X hX => ?_) | refine wpE_step (fun X hX => ?_) | refine wpL_end ?_ | refine wpH_end ?_ | refine wpE_end ?_); try simp only [ oweC, oweP, opF, opH, ev, evs, evp, evo, Env.get, Env.set, putE, gdst, S0, S1, thenN, inBlockN, argEnv, builtinR, retE, fin, finC, retC, oneC, callR, reduceIte, Nat.reduceEqDiff, Nat.reduceAdd, reduceCtorEq, forall_const, Tryd.results28, Fx.ag2, Fx.ag22, Fx.ag24, Fx.ag3, Fx.ag85, Fx.ag9, Fx.es22, Fx.fo24_0, Fx.fo24_1, Fx.fo24_2, Fx.fo24_3, Fx.isl22])
      refine ⟨rr, hr4, hb6.cells (o := 0) (fun j u hj => by simpa using hj), ?_⟩
      repeat ((try first | (refine ofX3 hX ?_; clear hX X) | (refine ofX2 hX ?_; clear hX X)); (first | refine wpL_step (fun X hX => ?_) | refine wpH_step (fun X hX => ?_) | refine wpE_step (fun X hX => ?_) | refine wpL_end ?_ | refine wpH_end ?_ | refine wpE_end ?_); try simp only [ oweC, oweP, opF, opH, ev, evs, evp, evo, Env.get, Env.set, putE, gdst, S0, S1, thenN, inBlockN, argEnv, builtinR, retE, fin, finC, retC, oneC, callR, reduceIte, Nat.reduceEqDiff, Nat.reduceAdd, reduceCtorEq, forall_const, Tryd.results28, Fx.ag2, Fx.ag22, Fx.ag24, Fx.ag3, Fx.ag85, Fx.ag9, Fx.es22, Fx.fo24_0, Fx.fo24_1, Fx.fo24_2, Fx.fo24_3, Fx.isl22])
      refine Inv.call Fx.en28 (ih a[i] w6 S rr mk hb rb _ F' hsz hvr6 (fun k hk => ⟨hnF' k (hS k hk).2 (hS k hk).1, by have := (hS k hk).2; omega⟩) hg6 ⟨hnF' 0 hglt.1 hgF.1, hnF' 1 hglt.2.1 hgF.2.1, hnF' mk hglt.2.2 hgF.2.2⟩ (knownVs_get hkns hxi) (hH4.ext he6) (fun k hk => by have := hF4s k hk; omega) (by omega)) ?_
      rintro v w7 ⟨rfl, hc7, F7, hH7, hF7⟩
      have hs7 := hc7.size
      have hown6 := owns_chg' hown (he6.chg (fun _ => False)) (fun _ _ h => h)
      have hown7 := owns_chg' hown6 hc7 (fun k hk => (hob k hk).1)
      generalize hq : storeV (storeVs H (a.take i)).1 a[i] = q at hH7
      repeat ((try first | (refine ofX3 hX ?_; clear hX X) | (refine ofX2 hX ?_; clear hX X)); (first | refine wpL_step (fun X hX => ?_) | refine wpH_step (fun X hX => ?_) | refine wpE_step (fun X hX => ?_) | refine wpL_end ?_ | refine wpH_end ?_ | refine wpE_end ?_); try simp only [ oweC, oweP, opF, opH, ev, evs, evp, evo, Env.get, Env.set, putE, gdst, S0, S1, thenN, inBlockN, argEnv, builtinR, retE, fin, finC, retC, oneC, callR, reduceIte, Nat.reduceEqDiff, Nat.reduceAdd, reduceCtorEq, forall_const, Tryd.results28, Fx.ag2, Fx.ag22, Fx.ag24, Fx.ag3, Fx.ag85, Fx.ag9, Fx.es22, Fx.fo24_0, Fx.fo24_1, Fx.fo24_2, Fx.fo24_3, Fx.isl22])
      refine Runs.lit (cs := q.2.row) Fx.un42 Fx.zi31 (by decide) (by kernel_rfl) (by decide) (fun w8 he8 hs8 hb8 => ?_)
      repeat ((try first | (refine ofX3 hX ?_; clear hX X) | (refine ofX2 hX ?_; clear hX X)); (first | refine wpL_step (fun X hX => ?_) | refine wpH_step (fun X hX => ?_) | refine wpE_step (fun X hX => ?_) | refine wpL_end ?_ | refine wpH_end ?_ | refine wpE_end ?_); try simp only [ oweC, oweP, opF, opH, ev, evs, evp, evo, Env.get, Env.set, putE, gdst, S0, S1, thenN, inBlockN, argEnv, builtinR, retE, fin, finC, retC, oneC, callR, reduceIte, Nat.reduceEqDiff, Nat.reduceAdd, reduceCtorEq, forall_const, Tryd.results28, Fx.ag2, Fx.ag22, Fx.ag24, Fx.ag3, Fx.ag85, Fx.ag9, Fx.es22, Fx.fo24_0, Fx.fo24_1, Fx.fo24_2, Fx.fo24_3, Fx.isl22])
      have hown8 := owns_chg' hown7 (he8.chg (fun _ => False)) (fun _ _ h => h)
      refine Runs.append1' Fx.un42 Fx.zi31 rfl (by decide) hown8 hb8 rfl (by intro u hu; simp [Wd.row] at hu; rcases hu with rfl | rfl | rfl <;> rfl) (by simp [maxLen]; omega) (by omega) (by omega) (fun v' w9 hown9 hg9 hblk => ?_)
      have hc9 : Chg (fun k => va.ownBlock = some k) w8 w9 := ⟨hg9.os, hg9.tape, hg9.output, hg9.size, fun k hk hs => hg9.block k hk (fun e => hs e.symm)⟩
      have hs9 := hc9.size
      have hvl : ∀ k, va.ownBlock = some k → k < w4.heap.size := fun k hk => (hown.lt k hk).2
      have hF7s : ∀ k, F7 k → k < w7.heap.size ∧ (F' k ∨ w6.heap.size ≤ k) := fun k hk => by
        rcases hF7 k hk with h | h
        · have := hF4s k h; exact ⟨by omega, .inl h⟩
        · exact ⟨by omega, .inr h.1⟩
      repeat ((try first | (refine ofX3 hX ?_; clear hX X) | (refine ofX2 hX ?_; clear hX X)); (first | refine wpL_step (fun X hX => ?_) | refine wpH_step (fun X hX => ?_) | refine wpE_step (fun X hX => ?_) | refine wpL_end ?_ | refine wpH_end ?_ | refine wpE_end ?_); try simp only [ oweC, oweP, opF, opH, ev, evs, evp, evo, Env.get, Env.set, putE, gdst, S0, S1, thenN, inBlockN, argEnv, builtinR, retE, fin, finC, retC, oneC, callR, reduceIte, Nat.reduceEqDiff, Nat.reduceAdd, reduceCtorEq, forall_const, Tryd.results28, Fx.ag2, Fx.ag22, Fx.ag24, Fx.ag3, Fx.ag85, Fx.ag9, Fx.es22, Fx.fo24_0, Fx.fo24_1, Fx.fo24_2, Fx.fo24_3, Fx.isl22])
      refine hM1 _ _ _ ?_; clear hM1 M1
      refine ok_region rfl ?_
      repeat ((try first | (refine ofX3 hX ?_; clear hX X) | (refine ofX2 hX ?_; clear hX X)); (first | refine wpL_step (fun X hX => ?_) | refine wpH_step (fun X hX => ?_) | refine wpE_step (fun X hX => ?_) | refine wpL_end ?_ | refine wpH_end ?_ | refine wpE_end ?_); try simp only [ oweC, oweP, opF, opH, ev, evs, evp, evo, Env.get, Env.set, putE, gdst, S0, S1, thenN, inBlockN, argEnv, builtinR, retE, fin, finC, retC, oneC, callR, reduceIte, Nat.reduceEqDiff, Nat.reduceAdd, reduceCtorEq, forall_const, Tryd.results28, Fx.ag2, Fx.ag22, Fx.ag24, Fx.ag3, Fx.ag85, Fx.ag9, Fx.es22, Fx.fo24_0, Fx.fo24_1, Fx.fo24_2, Fx.fo24_3, Fx.isl22])
      refine ⟨by simp only [inI]; omega, ?_⟩
      repeat ((try first | (refine ofX3 hX ?_; clear hX X) | (refine ofX2 hX ?_; clear hX X)); (first | refine wpL_step (fun X hX => ?_) | refine wpH_step (fun X hX => ?_) | refine wpE_step (fun X hX => ?_) | refine wpL_end ?_ | refine wpH_end ?_ | refine wpE_end ?_); try simp only [ oweC, oweP, opF, opH, ev, evs, evp, evo, Env.get, Env.set, putE, gdst, S0, S1, thenN, inBlockN, argEnv, builtinR, retE, fin, finC, retC, oneC, callR, reduceIte, Nat.reduceEqDiff, Nat.reduceAdd, reduceCtorEq, forall_const, Tryd.results28, Fx.ag2, Fx.ag22, Fx.ag24, Fx.ag3, Fx.ag85, Fx.ag9, Fx.es22, Fx.fo24_0, Fx.fo24_1, Fx.fo24_2, Fx.fo24_3, Fx.isl22])
      have htk : a.take (i + 1) = a.take i ++ [a[i]] := List.take_succ_eq_append_getElem hil
      have hsn : storeVs H (a.take (i + 1)) = (q.1, (storeVs H (a.take i)).2 ++ [q.2]) := by rw [htk, storeVs_snoc, hq]
      have hnF7 : ∀ k, va.ownBlock = some k → ¬ F7 k := fun k hk hf => by
        have h1 := hvl k hk
        rcases (hF7s k hf).2 with h | h
        · exact (hob k hk).1 h
        · omega
      have hBlk : ∀ (B : Nat) (cs : List Value) (e : TypeId), Blk w4 B cs e → ¬ F' B → (∀ k, va.ownBlock = some k → k ≠ B) → Blk w9 B cs e := fun B cs e hb hn hv =>
        (((hb.ext he6).chg hc7 hn).ext he8).chg hc9 (fun h => hv B h rfl)
      refine ⟨(i + 1, v'), by simp [sub, Env.get], ⟨by omega, ?_, F7, ?_, fun k hk => ?_, hBlk B1 _ _ hB1' hnB1 (fun k hk => (hob k hk).2.1), hBlk B2 _ _ hB2' hnB2 (fun k hk => (hob k hk).2.2.1), ?_, fun k hk => ?_⟩, by omega⟩
      · refine ⟨hc9.os.trans (he8.os.trans (hc7.os.trans (he6.os.trans hc4.os))), hc9.tape.trans (he8.tape.trans (hc7.tape.trans (he6.tape.trans hc4.tape))), hc9.output.trans (he8.output.trans (hc7.output.trans (he6.output.trans hc4.output))), by omega, fun j hj hf => ?_⟩
        rw [hc9.block j (by omega) (fun h => by have := (hob j h).2.2.2; omega), Below.block he8 j (by omega), hc7.block j (by omega) (fun h => by rcases hF4 j h with h | h <;> first | exact hf h | omega), Below.block he6 j (by omega), hc4.block j hj hf]
      · simp only [hsn]
        exact (hH7.ext he8).chg hc9 (fun k hk h => hnF7 k h hk) (fun h => by have := (hob rb h).2.2.2; omega)
      · have h1 := hF7s k hk
        rcases h1.2 with h | h
        · rcases hF4 k h with h' | h'
          · exact .inl h'
          · exact .inr (by omega)
        · exact .inr (by omega)
      · simp only [hsn]
        rw [List.map_append, List.flatten_append]
        simpa using hown9
      · rcases hblk with h | h
        · rw [h] at hk
          exact ⟨hnF7 k hk, (hob k hk).2⟩
        · rw [h] at hk; cases hk
          exact ⟨fun hf => by have := (hF7s _ hf).1; omega, by omega, by omega, by omega⟩
end Go.Proofs.YtldeokfhipjbfaaDoor
