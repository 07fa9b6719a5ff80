/- Part 8 of 13: R6, R7, R8, R9, R10, L1, H21, H22, K0, K1. -/
import Derived.Test.YtldeokfhipjbfaaGreatDoorM7
import Derived.Test.YtldeokfhipjbfaaGreatDoorM3
import Derived.Test.YtldeokfhipjbfaaGreatDoorM5
/- The reference: kinds, which values it knows. -/
set_option linter.unusedVariables false
set_option linter.unusedSimpArgs false
namespace Go.Proofs.YtldeokfhipjbfaaGreatDoor
open Go Go.Proofs.Vg Go.RowKit

-- -- function 94
set_option maxHeartbeats 2000000 in
set_option maxRecDepth 8000 in
theorem kinds_ok : ∀ (m : Nat) (x : Val) (w : World) (r : List Value), SizeOf.sizeOf x ≤ m → VRow w r x → Rets Tryz.prog 94 [.agg r.toArray] w (fun v w' => v = .bool (!knownV x) ∧ Ext w w') := by
  intro m
  induction m with
  | zero => intro x w r hm; cases x; simp at hm
  | succ m ih =>
    rintro ⟨k, n, t, a⟩ w r hm hr
    simp only [VRow] at hr
    obtain ⟨v, rfl, hv1, hv2, rows, hsl, hrows⟩ := hr
    obtain ⟨A, cp, rfl, hlen, hcell⟩ := hsl
    have hl := hrows.length
    refine rets_of_ok Tryz.func94 rfl rfl ?_
    refine ok_seq (fun M hM => ok_region rfl ?_)
    (try revert X); refine t94 ?_; intro X hX
    refine Runs.box (fun w1 he1 hz1 hb1 => ?_)
    generalize hB1 : w.heap.size = B1 at hz1 hb1
    simp only [Value.cells] at hb1
    (try revert X); refine t94 ?_; intro X hX
    refine hM _ _ _ ?_; clear hM M
    rw [hl] at hb1
    refine ok_join [(1, ptrOf B1)] (fun w' => w' = w1 ∧ 1 ≤ k ∧ k ≤ 8) ?_ ?_
    · refine ok_seq (fun M hM => ok_region rfl ?_)
      (try revert X); refine t94 ?_; intro X hX
      refine ⟨_, hb1.cell (j := 0) rfl, ?_⟩
      (try revert X); refine t94 ?_; intro X hX
      by_cases hk1 : k ≤ 0
      · simp only [hk1, decide_true]
        (try revert X); refine t94 ?_; intro X hX
        refine ⟨fun h => (by cases h), fun _ => ?_⟩
        (try revert X); refine t94 ?_; intro X hX
        refine hM _ _ _ ?_; clear hM M
        refine ok_cond rfl (fun _ => ?_) (fun h => by cases h)
        refine ok_seq (fun M hM => ok_region rfl ?_); (try revert X); refine t94 ?_; intro X hX
        refine hM _ _ _ ?_; clear hM M
        refine ok_ret ?_
        try simp only [zW, zU, reduceIte, Nat.reduceEqDiff, Nat.reduceAdd, reduceCtorEq, Q94]
        have : ¬ (1 ≤ k ∧ k ≤ 8) := by omega
        refine ⟨?_, he1⟩
        simp [knownV, this]
      · simp only [hk1, decide_false]
        (try revert X); refine t94 ?_; intro X hX
        refine ⟨fun _ => ?_, fun h => (by cases h)⟩
        (try revert X); refine t94 ?_; intro X hX
        refine ⟨_, hb1.cell (j := 0) rfl, ?_⟩
        (try revert X); refine t94 ?_; intro X hX
        by_cases hk2 : 8 < k
        · simp only [hk2, decide_true]
          (try revert X); refine t94 ?_; intro X hX
          refine hM _ _ _ ?_; clear hM M
          refine ok_cond rfl (fun _ => ?_) (fun h => by cases h)
          refine ok_seq (fun M hM => ok_region rfl ?_); (try revert X); refine t94 ?_; intro X hX
          refine hM _ _ _ ?_; clear hM M
          refine ok_ret ?_
          try simp only [zW, zU, reduceIte, Nat.reduceEqDiff, Nat.reduceAdd, reduceCtorEq, Q94]
          have : ¬ (1 ≤ k ∧ k ≤ 8) := by omega
          refine ⟨?_, he1⟩
          simp [knownV, this]
        · simp only [hk2, decide_false]
          (try revert X); refine t94 ?_; intro X hX
          refine hM _ _ _ ?_; clear hM M
          refine ok_cond rfl (fun h => by cases h) (fun h => ok_skip ?_)
          try simp only [zW, zU, reduceIte, Nat.reduceEqDiff, Nat.reduceAdd, reduceCtorEq, Q94]
          exact ⟨by simp [sub, Env.get], by omega, by omega⟩
    rintro w2 ⟨rfl, hk1, hk2⟩
    refine ok_seq (fun M0 hM0 => ?_)
    refine ok_seq (fun M hM => ok_region rfl ?_); (try revert X); refine t94 ?_; intro X hX
    refine hM _ _ _ ?_; clear hM M
    refine ok_block ?_
    refine ok_loop (S := Nat) (fun i => [(1, ptrOf B1), (3, .int .i64 (i : Int))]) (fun i w' => Ext w2 w' ∧ i ≤ a.length ∧ ∀ (j : Nat) (x : Val), j < i → a[j]? = some x → knownV x = true) (fun i => a.length - i) 0 ?_ ?_ ?_
    · simp [sub, Env.get]
    · exact ⟨Ext.refl _, Nat.zero_le _, fun j x h => absurd h (Nat.not_lt_zero _)⟩
    rintro i w4 ⟨he4, hi, hall⟩
    have hb4 := hb1.ext he4
    refine ok_seq (fun M1 hM1 => ?_)
    refine ok_seq (fun M hM => ok_region rfl ?_)
    (try revert X); refine t94 ?_; intro X hX
    refine ⟨_, hb4.cell (j := 3) rfl, ?_⟩
    (try revert X); refine t94 ?_; intro X hX
    refine hM _ _ _ ?_; clear hM M
    refine ok_if rfl (fun hc => ok_skip ?_) (fun hc => ok_exit ?_)
    rotate_left
    · try simp only [zW, zU, reduceIte, Nat.reduceEqDiff, Nat.reduceAdd, reduceCtorEq, Q94]
      refine hM0 _ _ _ ?_; clear hM0 M0 hM1 M1
      refine ok_seq (fun M hM => ok_region rfl ?_); (try revert X); refine t94 ?_; intro X hX
      refine hM _ _ _ ?_; clear hM M
      refine ok_ret ?_
      try simp only [zW, zU, reduceIte, Nat.reduceEqDiff, Nat.reduceAdd, reduceCtorEq, Q94]
      refine ⟨?_, he1.trans he4⟩
      have : knownVs a = true := (knownVs_iff a).2 fun j x hx => hall j x (by have := (List.getElem?_eq_some_iff.1 hx).1; omega) hx
      simp [knownV, this, hk1, hk2]
    · try simp only [zW, zU, reduceIte, Nat.reduceEqDiff, Nat.reduceAdd, reduceCtorEq, Q94]
      refine hM1 _ _ _ ?_; clear hM1 M1
      have hil : i < a.length := by omega
      have hxi : a[i]? = some a[i] := List.getElem?_eq_getElem hil
      obtain ⟨rr, hrr, hvr⟩ := hrows.get i _ hxi
      obtain ⟨b, o, rfl, hcr⟩ := hcell i rr hrr
      have hr4 := hvr.len
      have hsz : SizeOf.sizeOf a[i] ≤ m := by
        have := List.sizeOf_lt_of_mem (List.getElem_mem hil)
        simp at hm
        omega
      have hw4 := he1.trans he4
      refine ok_seq (fun M1 hM1 => ok_block ?_)
      refine ok_seq (fun M hM => ok_region rfl ?_)
      (try revert X); refine t94 ?_; intro X hX
      refine ⟨_, hb4.cell (j := 3) rfl, ?_⟩
      (try revert X); refine t94 ?_; intro X hX
      refine ⟨by omega, by omega, ?_⟩
      (try revert X); refine t94 ?_; intro X hX
      refine ⟨rr, hr4, hw4.cellsAt hcr, ?_⟩
      (try revert X); refine t94 ?_; intro X hX
      refine Inv.call Fx.en94 (ih a[i] w4 rr hsz (VRow.ext hw4 _ _ hvr)) ?_
      rintro v w7 ⟨rfl, he7⟩
      (try revert X); refine t94 ?_; intro X hX
      refine hM _ _ _ ?_; clear hM M
      cases hkn : knownV a[i] with
      | false =>
        refine ok_cond (b := true) rfl (fun _ => ?_) (fun h => by cases h)
        refine ok_seq (fun M hM => ok_region rfl ?_); (try revert X); refine t94 ?_; intro X hX
        refine hM _ _ _ ?_; clear hM M
        refine ok_ret ?_
        try simp only [zW, zU, reduceIte, Nat.reduceEqDiff, Nat.reduceAdd, reduceCtorEq, Q94]
        refine ⟨?_, hw4.trans he7⟩
        have : knownVs a = false := by
          cases hx : knownVs a with
          | false => rfl
          | true => have := (knownVs_iff a).1 hx i _ hxi; rw [this] at hkn; cases hkn
        simp [knownV, this]
      | true =>
        refine ok_cond (b := false) rfl (fun h => by cases h) (fun _ => ok_skip ?_)
        try simp only [zW, zU, reduceIte, Nat.reduceEqDiff, Nat.reduceAdd, reduceCtorEq, Q94]
        refine hM1 _ _ _ ?_; clear hM1 M1
        refine ok_region rfl ?_
        (try revert X); refine t94 ?_; intro X hX
        refine ⟨by simp only [inI]; omega, ?_⟩
        (try revert X); refine t94 ?_; intro X hX
        refine ⟨i + 1, by simp [sub, Env.get], ⟨he4.trans he7, by omega, fun j x hj hx => ?_⟩, by omega⟩
        rcases Nat.lt_or_ge j i with h | h
        · exact hall j x h hx
        · have : j = i := by omega
          subst this
          rw [hxi] at hx
          cases hx
          exact hkn
end Go.Proofs.YtldeokfhipjbfaaGreatDoor
/- The reference: fields, the shape of a value. -/
set_option linter.unusedVariables false
set_option linter.unusedSimpArgs false
namespace Go.Proofs.YtldeokfhipjbfaaGreatDoor
open Go Go.Proofs.Vg Go.RowKit

-- -- function 95
set_option maxHeartbeats 4000000 in
set_option maxRecDepth 8000 in
theorem fields_ok : ∀ (m : Nat) (x : Val) (w : World) (r : List Value), SizeOf.sizeOf x ≤ m → VRow w r x → knownV x = true → Rets Tryz.prog 95 [.agg r.toArray] w (fun v w' => v = .bool (!formedV x) ∧ Ext w w') := by
  intro m
  induction m with
  | zero => intro x w r hm; cases x; simp at hm
  | succ m ih =>
    rintro ⟨k, n, t, a⟩ w r hm hr hkn
    simp only [VRow] at hr
    obtain ⟨v, rfl, hv1, hv2, rows, hsl, hrows⟩ := hr
    obtain ⟨A, cp, rfl, hlen, hcell⟩ := hsl
    have hl := hrows.length
    simp only [knownV, Bool.and_eq_true, decide_eq_true_eq] at hkn
    obtain ⟨⟨hk1, hk2⟩, hkns⟩ := hkn
    refine rets_of_ok Tryz.func95 rfl rfl ?_
    refine ok_seq (fun M hM => ok_region rfl ?_)
    (try revert X); refine t95 ?_; intro X hX
    refine Runs.box (fun w1 he1 hz1 hb1 => ?_)
    generalize hB1 : w.heap.size = B1 at hz1 hb1
    simp only [Value.cells] at hb1
    (try revert X); refine t95 ?_; intro X hX
    refine hM _ _ _ ?_; clear hM M
    rw [hl] at hb1
    have hc0 := hb1.cell (j := 0) rfl
    have hc1 := hb1.cell (j := 1) rfl
    have hc2 := hb1.cell (j := 2) rfl
    have hc3 := hb1.cell (j := 3) rfl
    refine ok_join [(1, ptrOf B1), (3, .bool (decide (k = 4 ∨ k = 5 ∨ k = 6 ∨ k = 7)))] (fun w' => w' = w1) ?_ ?_
    · refine ok_region rfl ?_
      (try revert X); refine t95 ?_; intro X hX
      refine ⟨_, hc0, ?_⟩
      (try revert X); refine t95 ?_; intro X hX
      by_cases h4 : k = 4
      · simp only [h4, decide_true]
        (try revert X); refine t95 ?_; intro X hX
        refine ⟨fun h => (by cases h), fun _ => ?_⟩
        (try revert X); refine t95 ?_; intro X hX
        simp [sub, Env.get, h4]
      simp only [h4, decide_false]
      (try revert X); refine t95 ?_; intro X hX
      refine ⟨fun _ => ?_, fun h => (by cases h)⟩
      (try revert X); refine t95 ?_; intro X hX
      refine ⟨_, hc0, ?_⟩
      (try revert X); refine t95 ?_; intro X hX
      by_cases h5 : k = 5
      · simp only [h5, decide_true]
        (try revert X); refine t95 ?_; intro X hX
        refine ⟨fun h => (by cases h), fun _ => ?_⟩
        (try revert X); refine t95 ?_; intro X hX
        simp [sub, Env.get, h5]
      simp only [h5, decide_false]
      (try revert X); refine t95 ?_; intro X hX
      refine ⟨fun _ => ?_, fun h => (by cases h)⟩
      (try revert X); refine t95 ?_; intro X hX
      refine ⟨_, hc0, ?_⟩
      (try revert X); refine t95 ?_; intro X hX
      by_cases h6 : k = 6
      · simp only [h6, decide_true]
        (try revert X); refine t95 ?_; intro X hX
        refine ⟨fun h => (by cases h), fun _ => ?_⟩
        (try revert X); refine t95 ?_; intro X hX
        simp [sub, Env.get, h6]
      simp only [h6, decide_false]
      (try revert X); refine t95 ?_; intro X hX
      refine ⟨fun _ => ?_, fun h => (by cases h)⟩
      (try revert X); refine t95 ?_; intro X hX
      refine ⟨_, hc0, ?_⟩
      (try revert X); refine t95 ?_; intro X hX
      simp [sub, Env.get, h4, h5, h6]
    rintro w2 rfl
    refine ok_join [(1, ptrOf B1), (3, .bool (decide (k = 4 ∨ k = 5 ∨ k = 6 ∨ k = 7))), (4, .bool (decide (k = 4 ∨ k = 5 ∨ k = 6 ∨ k = 8)))] (fun w' => w' = w2) ?_ ?_
    · refine ok_region rfl ?_
      (try revert X); refine t95 ?_; intro X hX
      refine ⟨_, hc0, ?_⟩
      (try revert X); refine t95 ?_; intro X hX
      by_cases h4 : k = 4
      · simp only [h4, decide_true]
        (try revert X); refine t95 ?_; intro X hX
        refine ⟨fun h => (by cases h), fun _ => ?_⟩
        (try revert X); refine t95 ?_; intro X hX
        simp [sub, Env.get, h4]
      simp only [h4, decide_false]
      (try revert X); refine t95 ?_; intro X hX
      refine ⟨fun _ => ?_, fun h => (by cases h)⟩
      (try revert X); refine t95 ?_; intro X hX
      refine ⟨_, hc0, ?_⟩
      (try revert X); refine t95 ?_; intro X hX
      by_cases h5 : k = 5
      · simp only [h5, decide_true]
        (try revert X); refine t95 ?_; intro X hX
        refine ⟨fun h => (by cases h), fun _ => ?_⟩
        (try revert X); refine t95 ?_; intro X hX
        simp [sub, Env.get, h5]
      simp only [h5, decide_false]
      (try revert X); refine t95 ?_; intro X hX
      refine ⟨fun _ => ?_, fun h => (by cases h)⟩
      (try revert X); refine t95 ?_; intro X hX
      refine ⟨_, hc0, ?_⟩
      (try revert X); refine t95 ?_; intro X hX
      by_cases h6 : k = 6
      · simp only [h6, decide_true]
        (try revert X); refine t95 ?_; intro X hX
        refine ⟨fun h => (by cases h), fun _ => ?_⟩
        (try revert X); refine t95 ?_; intro X hX
        simp [sub, Env.get, h6]
      simp only [h6, decide_false]
      (try revert X); refine t95 ?_; intro X hX
      refine ⟨fun _ => ?_, fun h => (by cases h)⟩
      (try revert X); refine t95 ?_; intro X hX
      refine ⟨_, hc0, ?_⟩
      (try revert X); refine t95 ?_; intro X hX
      simp [sub, Env.get, h4, h5, h6]
    rintro w1 rfl
    refine ok_join [(1, ptrOf B1)] (fun w' => w' = w1 ∧ wellV k n t a.length = true) ?_ ?_
    · refine ok_seq (fun M hM => ok_region rfl ?_)
      obtain rfl | rfl | rfl | rfl | rfl | rfl | rfl | rfl : k = 1 ∨ k = 2 ∨ k = 3 ∨ k = 4 ∨ k = 5 ∨ k = 6 ∨ k = 7 ∨ k = 8 := by omega
      · rw [show decide ((1 : Int) = 4 ∨ (1 : Int) = 5 ∨ (1 : Int) = 6 ∨ (1 : Int) = 7) = false from by decide, show decide ((1 : Int) = 4 ∨ (1 : Int) = 5 ∨ (1 : Int) = 6 ∨ (1 : Int) = 8) = false from by decide]
        (try revert X); refine t95 ?_; intro X hX
        refine ⟨_, hc3, ?_⟩
        (try revert X); refine t95 ?_; intro X hX
        by_cases ql : (0 : Int) < (a.length : Int)
        · simp only [ql, decide_true]
          (try revert X); refine t95 ?_; intro X hX
          refine ⟨fun h => (by cases h), fun _ => ?_⟩
          (try revert X); refine t95 ?_; intro X hX
          refine hM _ _ _ ?_; clear hM M
          refine ok_cond rfl (fun _ => ?_) (fun h => by cases h)
          refine ok_seq (fun M hM => ok_region rfl ?_); (try revert X); refine t95 ?_; intro X hX
          refine hM _ _ _ ?_; clear hM M
          refine ok_ret ?_
          try simp only [zW, zU, reduceIte, Nat.reduceEqDiff, Nat.reduceAdd, reduceCtorEq, Q95]
          exact ⟨by simp [formedV, wellV, ql, show ¬ (a.length = 0) from by omega, show a ≠ [] from (by rintro rfl; simp at ql)], he1⟩
        · simp only [ql, decide_false]
          (try revert X); refine t95 ?_; intro X hX
          refine ⟨fun _ => ?_, fun h => (by cases h)⟩
          (try revert X); refine t95 ?_; intro X hX
          refine ⟨_, hc0, ?_⟩
          (try revert X); refine t95 ?_; intro X hX
          refine ⟨fun _ => ?_, fun h => (by simp at h)⟩
          (try revert X); refine t95 ?_; intro X hX
          refine ⟨_, hc2, ?_⟩
          (try revert X); refine t95 ?_; intro X hX
          by_cases qt : t = ⟨#[]⟩
          · simp only [qt, decide_true, Bool.not_true, ne_eq, not_true_eq_false, decide_false]
            (try revert X); refine t95 ?_; intro X hX
            refine ⟨fun _ => ?_, fun h => (by cases h)⟩
            (try revert X); refine t95 ?_; intro X hX
            refine ⟨_, hc0, ?_⟩
            (try revert X); refine t95 ?_; intro X hX
            refine ⟨fun _ => ?_, fun h => (by simp at h)⟩
            (try revert X); refine t95 ?_; intro X hX
            refine ⟨_, hc0, ?_⟩
            (try revert X); refine t95 ?_; intro X hX
            refine ⟨fun h => (by simp at h), fun _ => ?_⟩
            (try revert X); refine t95 ?_; intro X hX
            refine hM _ _ _ ?_; clear hM M
            refine ok_cond rfl (fun h => by cases h) (fun h => ok_skip ?_)
            try simp only [zW, zU, reduceIte, Nat.reduceEqDiff, Nat.reduceAdd, reduceCtorEq, Q95]
            exact ⟨by simp [sub, Env.get], by simp [wellV, ql, show a.length = 0 from by omega, qt]⟩
          · simp only [qt, decide_false, Bool.not_false, ne_eq, not_false_eq_true, decide_true]
            (try revert X); refine t95 ?_; intro X hX
            refine ⟨fun h => (by cases h), fun _ => ?_⟩
            (try revert X); refine t95 ?_; intro X hX
            refine hM _ _ _ ?_; clear hM M
            refine ok_cond rfl (fun _ => ?_) (fun h => by cases h)
            refine ok_seq (fun M hM => ok_region rfl ?_); (try revert X); refine t95 ?_; intro X hX
            refine hM _ _ _ ?_; clear hM M
            refine ok_ret ?_
            try simp only [zW, zU, reduceIte, Nat.reduceEqDiff, Nat.reduceAdd, reduceCtorEq, Q95]
            exact ⟨by simp [formedV, wellV, ql, show a.length = 0 from by omega, qt], he1⟩
      · rw [show decide ((2 : Int) = 4 ∨ (2 : Int) = 5 ∨ (2 : Int) = 6 ∨ (2 : Int) = 7) = false from by decide, show decide ((2 : Int) = 4 ∨ (2 : Int) = 5 ∨ (2 : Int) = 6 ∨ (2 : Int) = 8) = false from by decide]
        (try revert X); refine t95 ?_; intro X hX
        refine ⟨_, hc3, ?_⟩
        (try revert X); refine t95 ?_; intro X hX
        by_cases ql : (0 : Int) < (a.length : Int)
        · simp only [ql, decide_true]
          (try revert X); refine t95 ?_; intro X hX
          refine ⟨fun h => (by cases h), fun _ => ?_⟩
          (try revert X); refine t95 ?_; intro X hX
          refine hM _ _ _ ?_; clear hM M
          refine ok_cond rfl (fun _ => ?_) (fun h => by cases h)
          refine ok_seq (fun M hM => ok_region rfl ?_); (try revert X); refine t95 ?_; intro X hX
          refine hM _ _ _ ?_; clear hM M
          refine ok_ret ?_
          try simp only [zW, zU, reduceIte, Nat.reduceEqDiff, Nat.reduceAdd, reduceCtorEq, Q95]
          exact ⟨by simp [formedV, wellV, ql, show ¬ (a.length = 0) from by omega, show a ≠ [] from (by rintro rfl; simp at ql)], he1⟩
        · simp only [ql, decide_false]
          (try revert X); refine t95 ?_; intro X hX
          refine ⟨fun _ => ?_, fun h => (by cases h)⟩
          (try revert X); refine t95 ?_; intro X hX
          refine ⟨_, hc0, ?_⟩
          (try revert X); refine t95 ?_; intro X hX
          refine ⟨fun _ => ?_, fun h => (by simp at h)⟩
          (try revert X); refine t95 ?_; intro X hX
          refine ⟨_, hc2, ?_⟩
          (try revert X); refine t95 ?_; intro X hX
          by_cases qt : t = ⟨#[]⟩
          · simp only [qt, decide_true, Bool.not_true, ne_eq, not_true_eq_false, decide_false]
            (try revert X); refine t95 ?_; intro X hX
            refine ⟨fun _ => ?_, fun h => (by cases h)⟩
            (try revert X); refine t95 ?_; intro X hX
            refine ⟨_, hc0, ?_⟩
            (try revert X); refine t95 ?_; intro X hX
            refine ⟨fun _ => ?_, fun h => (by simp at h)⟩
            (try revert X); refine t95 ?_; intro X hX
            refine ⟨_, hc0, ?_⟩
            (try revert X); refine t95 ?_; intro X hX
            refine ⟨fun h => (by simp at h), fun _ => ?_⟩
            (try revert X); refine t95 ?_; intro X hX
            refine hM _ _ _ ?_; clear hM M
            refine ok_cond rfl (fun h => by cases h) (fun h => ok_skip ?_)
            try simp only [zW, zU, reduceIte, Nat.reduceEqDiff, Nat.reduceAdd, reduceCtorEq, Q95]
            exact ⟨by simp [sub, Env.get], by simp [wellV, ql, show a.length = 0 from by omega, qt]⟩
          · simp only [qt, decide_false, Bool.not_false, ne_eq, not_false_eq_true, decide_true]
            (try revert X); refine t95 ?_; intro X hX
            refine ⟨fun h => (by cases h), fun _ => ?_⟩
            (try revert X); refine t95 ?_; intro X hX
            refine hM _ _ _ ?_; clear hM M
            refine ok_cond rfl (fun _ => ?_) (fun h => by cases h)
            refine ok_seq (fun M hM => ok_region rfl ?_); (try revert X); refine t95 ?_; intro X hX
            refine hM _ _ _ ?_; clear hM M
            refine ok_ret ?_
            try simp only [zW, zU, reduceIte, Nat.reduceEqDiff, Nat.reduceAdd, reduceCtorEq, Q95]
            exact ⟨by simp [formedV, wellV, ql, show a.length = 0 from by omega, qt], he1⟩
      · rw [show decide ((3 : Int) = 4 ∨ (3 : Int) = 5 ∨ (3 : Int) = 6 ∨ (3 : Int) = 7) = false from by decide, show decide ((3 : Int) = 4 ∨ (3 : Int) = 5 ∨ (3 : Int) = 6 ∨ (3 : Int) = 8) = false from by decide]
        (try revert X); refine t95 ?_; intro X hX
        refine ⟨_, hc3, ?_⟩
        (try revert X); refine t95 ?_; intro X hX
        by_cases ql : (0 : Int) < (a.length : Int)
        · simp only [ql, decide_true]
          (try revert X); refine t95 ?_; intro X hX
          refine ⟨fun h => (by cases h), fun _ => ?_⟩
          (try revert X); refine t95 ?_; intro X hX
          refine hM _ _ _ ?_; clear hM M
          refine ok_cond rfl (fun _ => ?_) (fun h => by cases h)
          refine ok_seq (fun M hM => ok_region rfl ?_); (try revert X); refine t95 ?_; intro X hX
          refine hM _ _ _ ?_; clear hM M
          refine ok_ret ?_
          try simp only [zW, zU, reduceIte, Nat.reduceEqDiff, Nat.reduceAdd, reduceCtorEq, Q95]
          exact ⟨by simp [formedV, wellV, ql, show ¬ (a.length = 0) from by omega, show a ≠ [] from (by rintro rfl; simp at ql)], he1⟩
        · simp only [ql, decide_false]
          (try revert X); refine t95 ?_; intro X hX
          refine ⟨fun _ => ?_, fun h => (by cases h)⟩
          (try revert X); refine t95 ?_; intro X hX
          refine ⟨_, hc0, ?_⟩
          (try revert X); refine t95 ?_; intro X hX
          (try revert X); refine t95 ?_; intro X hX
          refine ⟨_, hc0, ?_⟩
          (try revert X); refine t95 ?_; intro X hX
          refine ⟨_, hc1, ?_⟩
          (try revert X); refine t95 ?_; intro X hX
          by_cases qz : n = 0
          · simp only [qz, decide_true, Bool.not_true, ne_eq, not_true_eq_false, decide_false]
            (try revert X); refine t95 ?_; intro X hX
            refine hM _ _ _ ?_; clear hM M
            refine ok_cond rfl (fun h => by cases h) (fun h => ok_skip ?_)
            try simp only [zW, zU, reduceIte, Nat.reduceEqDiff, Nat.reduceAdd, reduceCtorEq, Q95]
            exact ⟨by simp [sub, Env.get], by simp [wellV, ql, show a.length = 0 from by omega, qz]⟩
          · simp only [qz, decide_false, Bool.not_false, ne_eq, not_false_eq_true, decide_true]
            (try revert X); refine t95 ?_; intro X hX
            refine hM _ _ _ ?_; clear hM M
            refine ok_cond rfl (fun _ => ?_) (fun h => by cases h)
            refine ok_seq (fun M hM => ok_region rfl ?_); (try revert X); refine t95 ?_; intro X hX
            refine hM _ _ _ ?_; clear hM M
            refine ok_ret ?_
            try simp only [zW, zU, reduceIte, Nat.reduceEqDiff, Nat.reduceAdd, reduceCtorEq, Q95]
            exact ⟨by simp [formedV, wellV, ql, show a.length = 0 from by omega, qz], he1⟩
      · rw [show decide ((4 : Int) = 4 ∨ (4 : Int) = 5 ∨ (4 : Int) = 6 ∨ (4 : Int) = 7) = true from by decide, show decide ((4 : Int) = 4 ∨ (4 : Int) = 5 ∨ (4 : Int) = 6 ∨ (4 : Int) = 8) = true from by decide]
        (try revert X); refine t95 ?_; intro X hX
        refine ⟨_, hc0, ?_⟩
        (try revert X); refine t95 ?_; intro X hX
        refine ⟨fun _ => ?_, fun h => (by simp at h)⟩
        (try revert X); refine t95 ?_; intro X hX
        refine ⟨_, hc2, ?_⟩
        (try revert X); refine t95 ?_; intro X hX
        by_cases qt : t = ⟨#[]⟩
        · simp only [qt, decide_true, Bool.not_true, ne_eq, not_true_eq_false, decide_false]
          (try revert X); refine t95 ?_; intro X hX
          refine ⟨fun _ => ?_, fun h => (by cases h)⟩
          (try revert X); refine t95 ?_; intro X hX
          refine ⟨_, hc1, ?_⟩
          (try revert X); refine t95 ?_; intro X hX
          by_cases qn : n < 0
          · simp only [qn, decide_true]
            (try revert X); refine t95 ?_; intro X hX
            refine ⟨fun h => (by cases h), fun _ => ?_⟩
            (try revert X); refine t95 ?_; intro X hX
            refine hM _ _ _ ?_; clear hM M
            refine ok_cond rfl (fun _ => ?_) (fun h => by cases h)
            refine ok_seq (fun M hM => ok_region rfl ?_); (try revert X); refine t95 ?_; intro X hX
            refine hM _ _ _ ?_; clear hM M
            refine ok_ret ?_
            try simp only [zW, zU, reduceIte, Nat.reduceEqDiff, Nat.reduceAdd, reduceCtorEq, Q95]
            exact ⟨by simp [formedV, wellV, qt, qn, show ¬ (0 ≤ n) from by omega], he1⟩
          · simp only [qn, decide_false]
            (try revert X); refine t95 ?_; intro X hX
            refine ⟨fun _ => ?_, fun h => (by cases h)⟩
            (try revert X); refine t95 ?_; intro X hX
            refine ⟨_, hc0, ?_⟩
            (try revert X); refine t95 ?_; intro X hX
            refine ⟨fun _ => ?_, fun h => (by simp at h)⟩
            (try revert X); refine t95 ?_; intro X hX
            refine ⟨_, hc0, ?_⟩
            (try revert X); refine t95 ?_; intro X hX
            refine ⟨fun h => (by simp at h), fun _ => ?_⟩
            (try revert X); refine t95 ?_; intro X hX
            refine hM _ _ _ ?_; clear hM M
            refine ok_cond rfl (fun h => by cases h) (fun h => ok_skip ?_)
            try simp only [zW, zU, reduceIte, Nat.reduceEqDiff, Nat.reduceAdd, reduceCtorEq, Q95]
            exact ⟨by simp [sub, Env.get], by simp [wellV, qt, qn, show (0 ≤ n) from by omega]⟩
        · simp only [qt, decide_false, Bool.not_false, ne_eq, not_false_eq_true, decide_true]
          (try revert X); refine t95 ?_; intro X hX
          refine ⟨fun h => (by cases h), fun _ => ?_⟩
          (try revert X); refine t95 ?_; intro X hX
          refine hM _ _ _ ?_; clear hM M
          refine ok_cond rfl (fun _ => ?_) (fun h => by cases h)
          refine ok_seq (fun M hM => ok_region rfl ?_); (try revert X); refine t95 ?_; intro X hX
          refine hM _ _ _ ?_; clear hM M
          refine ok_ret ?_
          try simp only [zW, zU, reduceIte, Nat.reduceEqDiff, Nat.reduceAdd, reduceCtorEq, Q95]
          exact ⟨by simp [formedV, wellV, qt], he1⟩
      · rw [show decide ((5 : Int) = 4 ∨ (5 : Int) = 5 ∨ (5 : Int) = 6 ∨ (5 : Int) = 7) = true from by decide, show decide ((5 : Int) = 4 ∨ (5 : Int) = 5 ∨ (5 : Int) = 6 ∨ (5 : Int) = 8) = true from by decide]
        (try revert X); refine t95 ?_; intro X hX
        refine ⟨_, hc0, ?_⟩
        (try revert X); refine t95 ?_; intro X hX
        refine ⟨fun _ => ?_, fun h => (by simp at h)⟩
        (try revert X); refine t95 ?_; intro X hX
        refine ⟨_, hc2, ?_⟩
        (try revert X); refine t95 ?_; intro X hX
        by_cases qt : t = ⟨#[]⟩
        · simp only [qt, decide_true, Bool.not_true, ne_eq, not_true_eq_false, decide_false]
          (try revert X); refine t95 ?_; intro X hX
          refine ⟨fun _ => ?_, fun h => (by cases h)⟩
          (try revert X); refine t95 ?_; intro X hX
          refine ⟨_, hc1, ?_⟩
          (try revert X); refine t95 ?_; intro X hX
          by_cases qn : n < 0
          · simp only [qn, decide_true]
            (try revert X); refine t95 ?_; intro X hX
            refine ⟨fun h => (by cases h), fun _ => ?_⟩
            (try revert X); refine t95 ?_; intro X hX
            refine hM _ _ _ ?_; clear hM M
            refine ok_cond rfl (fun _ => ?_) (fun h => by cases h)
            refine ok_seq (fun M hM => ok_region rfl ?_); (try revert X); refine t95 ?_; intro X hX
            refine hM _ _ _ ?_; clear hM M
            refine ok_ret ?_
            try simp only [zW, zU, reduceIte, Nat.reduceEqDiff, Nat.reduceAdd, reduceCtorEq, Q95]
            exact ⟨by simp [formedV, wellV, qt, qn, show ¬ (0 ≤ n) from by omega], he1⟩
          · simp only [qn, decide_false]
            (try revert X); refine t95 ?_; intro X hX
            refine ⟨fun _ => ?_, fun h => (by cases h)⟩
            (try revert X); refine t95 ?_; intro X hX
            refine ⟨_, hc0, ?_⟩
            (try revert X); refine t95 ?_; intro X hX
            refine ⟨fun _ => ?_, fun h => (by simp at h)⟩
            (try revert X); refine t95 ?_; intro X hX
            refine ⟨_, hc0, ?_⟩
            (try revert X); refine t95 ?_; intro X hX
            refine ⟨fun h => (by simp at h), fun _ => ?_⟩
            (try revert X); refine t95 ?_; intro X hX
            refine hM _ _ _ ?_; clear hM M
            refine ok_cond rfl (fun h => by cases h) (fun h => ok_skip ?_)
            try simp only [zW, zU, reduceIte, Nat.reduceEqDiff, Nat.reduceAdd, reduceCtorEq, Q95]
            exact ⟨by simp [sub, Env.get], by simp [wellV, qt, qn, show (0 ≤ n) from by omega]⟩
        · simp only [qt, decide_false, Bool.not_false, ne_eq, not_false_eq_true, decide_true]
          (try revert X); refine t95 ?_; intro X hX
          refine ⟨fun h => (by cases h), fun _ => ?_⟩
          (try revert X); refine t95 ?_; intro X hX
          refine hM _ _ _ ?_; clear hM M
          refine ok_cond rfl (fun _ => ?_) (fun h => by cases h)
          refine ok_seq (fun M hM => ok_region rfl ?_); (try revert X); refine t95 ?_; intro X hX
          refine hM _ _ _ ?_; clear hM M
          refine ok_ret ?_
          try simp only [zW, zU, reduceIte, Nat.reduceEqDiff, Nat.reduceAdd, reduceCtorEq, Q95]
          exact ⟨by simp [formedV, wellV, qt], he1⟩
      · rw [show decide ((6 : Int) = 4 ∨ (6 : Int) = 5 ∨ (6 : Int) = 6 ∨ (6 : Int) = 7) = true from by decide, show decide ((6 : Int) = 4 ∨ (6 : Int) = 5 ∨ (6 : Int) = 6 ∨ (6 : Int) = 8) = true from by decide]
        (try revert X); refine t95 ?_; intro X hX
        refine ⟨_, hc0, ?_⟩
        (try revert X); refine t95 ?_; intro X hX
        refine ⟨fun _ => ?_, fun h => (by simp at h)⟩
        (try revert X); refine t95 ?_; intro X hX
        refine ⟨_, hc2, ?_⟩
        (try revert X); refine t95 ?_; intro X hX
        by_cases qt : t = ⟨#[]⟩
        · simp only [qt, decide_true, Bool.not_true, ne_eq, not_true_eq_false, decide_false]
          (try revert X); refine t95 ?_; intro X hX
          refine ⟨fun _ => ?_, fun h => (by cases h)⟩
          (try revert X); refine t95 ?_; intro X hX
          refine ⟨_, hc1, ?_⟩
          (try revert X); refine t95 ?_; intro X hX
          by_cases qn : n < 0
          · simp only [qn, decide_true]
            (try revert X); refine t95 ?_; intro X hX
            refine ⟨fun h => (by cases h), fun _ => ?_⟩
            (try revert X); refine t95 ?_; intro X hX
            refine hM _ _ _ ?_; clear hM M
            refine ok_cond rfl (fun _ => ?_) (fun h => by cases h)
            refine ok_seq (fun M hM => ok_region rfl ?_); (try revert X); refine t95 ?_; intro X hX
            refine hM _ _ _ ?_; clear hM M
            refine ok_ret ?_
            try simp only [zW, zU, reduceIte, Nat.reduceEqDiff, Nat.reduceAdd, reduceCtorEq, Q95]
            exact ⟨by simp [formedV, wellV, qt, qn, show ¬ (0 ≤ n) from by omega], he1⟩
          · simp only [qn, decide_false]
            (try revert X); refine t95 ?_; intro X hX
            refine ⟨fun _ => ?_, fun h => (by cases h)⟩
            (try revert X); refine t95 ?_; intro X hX
            refine ⟨_, hc0, ?_⟩
            (try revert X); refine t95 ?_; intro X hX
            refine ⟨fun _ => ?_, fun h => (by simp at h)⟩
            (try revert X); refine t95 ?_; intro X hX
            refine ⟨_, hc0, ?_⟩
            (try revert X); refine t95 ?_; intro X hX
            refine ⟨fun h => (by simp at h), fun _ => ?_⟩
            (try revert X); refine t95 ?_; intro X hX
            refine hM _ _ _ ?_; clear hM M
            refine ok_cond rfl (fun h => by cases h) (fun h => ok_skip ?_)
            try simp only [zW, zU, reduceIte, Nat.reduceEqDiff, Nat.reduceAdd, reduceCtorEq, Q95]
            exact ⟨by simp [sub, Env.get], by simp [wellV, qt, qn, show (0 ≤ n) from by omega]⟩
        · simp only [qt, decide_false, Bool.not_false, ne_eq, not_false_eq_true, decide_true]
          (try revert X); refine t95 ?_; intro X hX
          refine ⟨fun h => (by cases h), fun _ => ?_⟩
          (try revert X); refine t95 ?_; intro X hX
          refine hM _ _ _ ?_; clear hM M
          refine ok_cond rfl (fun _ => ?_) (fun h => by cases h)
          refine ok_seq (fun M hM => ok_region rfl ?_); (try revert X); refine t95 ?_; intro X hX
          refine hM _ _ _ ?_; clear hM M
          refine ok_ret ?_
          try simp only [zW, zU, reduceIte, Nat.reduceEqDiff, Nat.reduceAdd, reduceCtorEq, Q95]
          exact ⟨by simp [formedV, wellV, qt], he1⟩
      · rw [show decide ((7 : Int) = 4 ∨ (7 : Int) = 5 ∨ (7 : Int) = 6 ∨ (7 : Int) = 7) = true from by decide, show decide ((7 : Int) = 4 ∨ (7 : Int) = 5 ∨ (7 : Int) = 6 ∨ (7 : Int) = 8) = false from by decide]
        (try revert X); refine t95 ?_; intro X hX
        refine ⟨_, hc0, ?_⟩
        (try revert X); refine t95 ?_; intro X hX
        refine ⟨fun _ => ?_, fun h => (by simp at h)⟩
        (try revert X); refine t95 ?_; intro X hX
        refine ⟨_, hc2, ?_⟩
        (try revert X); refine t95 ?_; intro X hX
        by_cases qt : t = ⟨#[]⟩
        · simp only [qt, decide_true, Bool.not_true, ne_eq, not_true_eq_false, decide_false]
          (try revert X); refine t95 ?_; intro X hX
          refine ⟨fun _ => ?_, fun h => (by cases h)⟩
          (try revert X); refine t95 ?_; intro X hX
          refine ⟨_, hc0, ?_⟩
          (try revert X); refine t95 ?_; intro X hX
          refine ⟨fun _ => ?_, fun h => (by simp at h)⟩
          (try revert X); refine t95 ?_; intro X hX
          refine ⟨_, hc0, ?_⟩
          (try revert X); refine t95 ?_; intro X hX
          refine ⟨_, hc1, ?_⟩
          (try revert X); refine t95 ?_; intro X hX
          by_cases qz : n = 0
          · simp only [qz, decide_true, Bool.not_true, ne_eq, not_true_eq_false, decide_false]
            (try revert X); refine t95 ?_; intro X hX
            refine hM _ _ _ ?_; clear hM M
            refine ok_cond rfl (fun h => by cases h) (fun h => ok_skip ?_)
            try simp only [zW, zU, reduceIte, Nat.reduceEqDiff, Nat.reduceAdd, reduceCtorEq, Q95]
            exact ⟨by simp [sub, Env.get], by simp [wellV, qt, qz]⟩
          · simp only [qz, decide_false, Bool.not_false, ne_eq, not_false_eq_true, decide_true]
            (try revert X); refine t95 ?_; intro X hX
            refine hM _ _ _ ?_; clear hM M
            refine ok_cond rfl (fun _ => ?_) (fun h => by cases h)
            refine ok_seq (fun M hM => ok_region rfl ?_); (try revert X); refine t95 ?_; intro X hX
            refine hM _ _ _ ?_; clear hM M
            refine ok_ret ?_
            try simp only [zW, zU, reduceIte, Nat.reduceEqDiff, Nat.reduceAdd, reduceCtorEq, Q95]
            exact ⟨by simp [formedV, wellV, qt, qz], he1⟩
        · simp only [qt, decide_false, Bool.not_false, ne_eq, not_false_eq_true, decide_true]
          (try revert X); refine t95 ?_; intro X hX
          refine ⟨fun h => (by cases h), fun _ => ?_⟩
          (try revert X); refine t95 ?_; intro X hX
          refine hM _ _ _ ?_; clear hM M
          refine ok_cond rfl (fun _ => ?_) (fun h => by cases h)
          refine ok_seq (fun M hM => ok_region rfl ?_); (try revert X); refine t95 ?_; intro X hX
          refine hM _ _ _ ?_; clear hM M
          refine ok_ret ?_
          try simp only [zW, zU, reduceIte, Nat.reduceEqDiff, Nat.reduceAdd, reduceCtorEq, Q95]
          exact ⟨by simp [formedV, wellV, qt], he1⟩
      · rw [show decide ((8 : Int) = 4 ∨ (8 : Int) = 5 ∨ (8 : Int) = 6 ∨ (8 : Int) = 7) = false from by decide, show decide ((8 : Int) = 4 ∨ (8 : Int) = 5 ∨ (8 : Int) = 6 ∨ (8 : Int) = 8) = true from by decide]
        (try revert X); refine t95 ?_; intro X hX
        refine ⟨_, hc3, ?_⟩
        (try revert X); refine t95 ?_; intro X hX
        by_cases ql : (0 : Int) < (a.length : Int)
        · simp only [ql, decide_true]
          (try revert X); refine t95 ?_; intro X hX
          refine ⟨fun h => (by cases h), fun _ => ?_⟩
          (try revert X); refine t95 ?_; intro X hX
          refine hM _ _ _ ?_; clear hM M
          refine ok_cond rfl (fun _ => ?_) (fun h => by cases h)
          refine ok_seq (fun M hM => ok_region rfl ?_); (try revert X); refine t95 ?_; intro X hX
          refine hM _ _ _ ?_; clear hM M
          refine ok_ret ?_
          try simp only [zW, zU, reduceIte, Nat.reduceEqDiff, Nat.reduceAdd, reduceCtorEq, Q95]
          exact ⟨by simp [formedV, wellV, ql, show ¬ (a.length = 0) from by omega, show a ≠ [] from (by rintro rfl; simp at ql)], he1⟩
        · simp only [ql, decide_false]
          (try revert X); refine t95 ?_; intro X hX
          refine ⟨fun _ => ?_, fun h => (by cases h)⟩
          (try revert X); refine t95 ?_; intro X hX
          refine ⟨_, hc0, ?_⟩
          (try revert X); refine t95 ?_; intro X hX
          refine ⟨fun _ => ?_, fun h => (by simp at h)⟩
          (try revert X); refine t95 ?_; intro X hX
          refine ⟨_, hc2, ?_⟩
          (try revert X); refine t95 ?_; intro X hX
          by_cases qt : t = ⟨#[]⟩
          · simp only [qt, decide_true, Bool.not_true, ne_eq, not_true_eq_false, decide_false]
            (try revert X); refine t95 ?_; intro X hX
            refine ⟨fun _ => ?_, fun h => (by cases h)⟩
            (try revert X); refine t95 ?_; intro X hX
            refine ⟨_, hc1, ?_⟩
            (try revert X); refine t95 ?_; intro X hX
            by_cases qn : n < 0
            · simp only [qn, decide_true]
              (try revert X); refine t95 ?_; intro X hX
              refine ⟨fun h => (by cases h), fun _ => ?_⟩
              (try revert X); refine t95 ?_; intro X hX
              refine hM _ _ _ ?_; clear hM M
              refine ok_cond rfl (fun _ => ?_) (fun h => by cases h)
              refine ok_seq (fun M hM => ok_region rfl ?_); (try revert X); refine t95 ?_; intro X hX
              refine hM _ _ _ ?_; clear hM M
              refine ok_ret ?_
              try simp only [zW, zU, reduceIte, Nat.reduceEqDiff, Nat.reduceAdd, reduceCtorEq, Q95]
              exact ⟨by simp [formedV, wellV, ql, show a.length = 0 from by omega, qt, qn, show ¬ (0 ≤ n) from by omega], he1⟩
            · simp only [qn, decide_false]
              (try revert X); refine t95 ?_; intro X hX
              refine ⟨fun _ => ?_, fun h => (by cases h)⟩
              (try revert X); refine t95 ?_; intro X hX
              refine ⟨_, hc0, ?_⟩
              (try revert X); refine t95 ?_; intro X hX
              refine ⟨fun _ => ?_, fun h => (by simp at h)⟩
              (try revert X); refine t95 ?_; intro X hX
              refine ⟨_, hc0, ?_⟩
              (try revert X); refine t95 ?_; intro X hX
              refine ⟨fun h => (by simp at h), fun _ => ?_⟩
              (try revert X); refine t95 ?_; intro X hX
              refine hM _ _ _ ?_; clear hM M
              refine ok_cond rfl (fun h => by cases h) (fun h => ok_skip ?_)
              try simp only [zW, zU, reduceIte, Nat.reduceEqDiff, Nat.reduceAdd, reduceCtorEq, Q95]
              exact ⟨by simp [sub, Env.get], by simp [wellV, ql, show a.length = 0 from by omega, qt, qn, show (0 ≤ n) from by omega]⟩
          · simp only [qt, decide_false, Bool.not_false, ne_eq, not_false_eq_true, decide_true]
            (try revert X); refine t95 ?_; intro X hX
            refine ⟨fun h => (by cases h), fun _ => ?_⟩
            (try revert X); refine t95 ?_; intro X hX
            refine hM _ _ _ ?_; clear hM M
            refine ok_cond rfl (fun _ => ?_) (fun h => by cases h)
            refine ok_seq (fun M hM => ok_region rfl ?_); (try revert X); refine t95 ?_; intro X hX
            refine hM _ _ _ ?_; clear hM M
            refine ok_ret ?_
            try simp only [zW, zU, reduceIte, Nat.reduceEqDiff, Nat.reduceAdd, reduceCtorEq, Q95]
            exact ⟨by simp [formedV, wellV, ql, show a.length = 0 from by omega, qt], he1⟩
    rintro w2 ⟨rfl, hw⟩
    refine ok_seq (fun M0 hM0 => ?_)
    refine ok_seq (fun M hM => ok_region rfl ?_); (try revert X); refine t95 ?_; intro X hX
    refine hM _ _ _ ?_; clear hM M
    refine ok_block ?_
    refine ok_loop (S := Nat) (fun i => [(1, ptrOf B1), (5, .int .i64 (i : Int))]) (fun i w' => Ext w2 w' ∧ i ≤ a.length ∧ ∀ (j : Nat) (x : Val), j < i → a[j]? = some x → formedV x = true) (fun i => a.length - i) 0 ?_ ?_ ?_
    · simp [sub, Env.get]
    · exact ⟨Ext.refl _, Nat.zero_le _, fun j x h => absurd h (Nat.not_lt_zero _)⟩
    rintro i w4 ⟨he4, hi, hall⟩
    have hb4 := hb1.ext he4
    refine ok_seq (fun M1 hM1 => ?_)
    refine ok_seq (fun M hM => ok_region rfl ?_)
    (try revert X); refine t95 ?_; intro X hX
    refine ⟨_, hb4.cell (j := 3) rfl, ?_⟩
    (try revert X); refine t95 ?_; intro X hX
    refine hM _ _ _ ?_; clear hM M
    refine ok_if rfl (fun hc => ok_skip ?_) (fun hc => ok_exit ?_)
    rotate_left
    · try simp only [zW, zU, reduceIte, Nat.reduceEqDiff, Nat.reduceAdd, reduceCtorEq, Q95]
      refine hM0 _ _ _ ?_; clear hM0 M0 hM1 M1
      refine ok_seq (fun M hM => ok_region rfl ?_); (try revert X); refine t95 ?_; intro X hX
      refine hM _ _ _ ?_; clear hM M
      refine ok_ret ?_
      try simp only [zW, zU, reduceIte, Nat.reduceEqDiff, Nat.reduceAdd, reduceCtorEq, Q95]
      refine ⟨?_, he1.trans he4⟩
      have : formedVs a = true := (formedVs_iff a).2 fun j x hx => hall j x (by have := (List.getElem?_eq_some_iff.1 hx).1; omega) hx
      simp [formedV, this, hw]
    · try simp only [zW, zU, reduceIte, Nat.reduceEqDiff, Nat.reduceAdd, reduceCtorEq, Q95]
      refine hM1 _ _ _ ?_; clear hM1 M1
      have hil : i < a.length := by omega
      have hxi : a[i]? = some a[i] := List.getElem?_eq_getElem hil
      obtain ⟨rr, hrr, hvr⟩ := hrows.get i _ hxi
      obtain ⟨b, o, rfl, hcr⟩ := hcell i rr hrr
      have hr4 := hvr.len
      have hsz : SizeOf.sizeOf a[i] ≤ m := by
        have := List.sizeOf_lt_of_mem (List.getElem_mem hil)
        simp at hm
        omega
      have hw4 := he1.trans he4
      refine ok_seq (fun M1 hM1 => ok_block ?_)
      refine ok_seq (fun M hM => ok_region rfl ?_)
      (try revert X); refine t95 ?_; intro X hX
      refine ⟨_, hb4.cell (j := 3) rfl, ?_⟩
      (try revert X); refine t95 ?_; intro X hX
      refine ⟨by omega, by omega, ?_⟩
      (try revert X); refine t95 ?_; intro X hX
      refine ⟨rr, hr4, hw4.cellsAt hcr, ?_⟩
      (try revert X); refine t95 ?_; intro X hX
      refine Inv.call Fx.en95 (ih a[i] w4 rr hsz (VRow.ext hw4 _ _ hvr) ((knownVs_iff a).1 hkns i _ hxi)) ?_
      rintro v w7 ⟨rfl, he7⟩
      (try revert X); refine t95 ?_; intro X hX
      refine hM _ _ _ ?_; clear hM M
      cases hkn : formedV a[i] with
      | false =>
        refine ok_cond (b := true) rfl (fun _ => ?_) (fun h => by cases h)
        refine ok_seq (fun M hM => ok_region rfl ?_); (try revert X); refine t95 ?_; intro X hX
        refine hM _ _ _ ?_; clear hM M
        refine ok_ret ?_
        try simp only [zW, zU, reduceIte, Nat.reduceEqDiff, Nat.reduceAdd, reduceCtorEq, Q95]
        refine ⟨?_, hw4.trans he7⟩
        have : formedVs a = false := by
          cases hx : formedVs a with
          | false => rfl
          | true => have := (formedVs_iff a).1 hx i _ hxi; rw [this] at hkn; cases hkn
        simp [formedV, this]
      | true =>
        refine ok_cond (b := false) rfl (fun h => by cases h) (fun _ => ok_skip ?_)
        try simp only [zW, zU, reduceIte, Nat.reduceEqDiff, Nat.reduceAdd, reduceCtorEq, Q95]
        refine hM1 _ _ _ ?_; clear hM1 M1
        refine ok_region rfl ?_
        (try revert X); refine t95 ?_; intro X hX
        refine ⟨by simp only [inI]; omega, ?_⟩
        (try revert X); refine t95 ?_; intro X hX
        refine ⟨i + 1, by simp [sub, Env.get], ⟨he4.trans he7, by omega, fun j x hj hx => ?_⟩, by omega⟩
        rcases Nat.lt_or_ge j i with h | h
        · exact hall j x h hx
        · have : j = i := by omega
          subst this
          rw [hxi] at hx
          cases hx
          exact hkn
end Go.Proofs.YtldeokfhipjbfaaGreatDoor
/- The reference: form, pairs, stored.  -/
set_option linter.unusedVariables false
set_option linter.unusedSimpArgs false
namespace Go.Proofs.YtldeokfhipjbfaaGreatDoor
open Go Go.Proofs.Vg Go.RowKit

-- -- function 66
set_option maxHeartbeats 2000000 in
set_option maxRecDepth 8000 in
theorem form_ok (x : Val) (w : World) (r : List Value) (hr : VRow w r x) : Rets Tryz.prog 66 [.agg r.toArray] w (fun v w' => v = .int .i64 (if knownV x = true then (if formedV x = true then 0 else 2) else 3) ∧ Ext w w') := by
  refine rets_of_ok Tryz.func66 rfl rfl ?_
  refine ok_seq (fun M hM => ok_region rfl ?_)
  (try revert X); refine t66 ?_; intro X hX
  refine Runs.box (fun w1 he1 hz1 hb1 => ?_)
  generalize hB1 : w.heap.size = B1 at hz1 hb1
  simp only [Value.cells] at hb1
  (try revert X); refine t66 ?_; intro X hX
  refine hM _ _ _ ?_; clear hM M
  refine ok_join [(1, ptrOf B1)] (fun w' => Ext w1 w' ∧ knownV x = true) ?_ ?_
  · refine ok_seq (fun M hM => ok_region rfl ?_)
    (try revert X); refine t66 ?_; intro X hX
    refine ⟨r, hr.len, hb1.cells (o := 0) (fun j u hj => by simpa using hj), ?_⟩
    (try revert X); refine t66 ?_; intro X hX
    refine Inv.call Fx.en94 (kinds_ok _ x w1 r (Nat.le_refl _) (VRow.ext he1 _ _ hr)) ?_
    rintro v w3 ⟨rfl, he3⟩
    (try revert X); refine t66 ?_; intro X hX
    refine hM _ _ _ ?_; clear hM M
    cases hkn : knownV x with
    | true =>
      refine ok_cond (b := false) rfl (fun h => by cases h) (fun _ => ok_skip ?_)
      try simp only [zW, zU, reduceIte, Nat.reduceEqDiff, Nat.reduceAdd, reduceCtorEq, Q66]
      exact ⟨by simp [sub, Env.get], he3⟩
    | false =>
      refine ok_cond (b := true) rfl (fun _ => ?_) (fun h => by cases h)
      refine ok_seq (fun M hM => ok_region rfl ?_); (try revert X); refine t66 ?_; intro X hX
      refine hM _ _ _ ?_; clear hM M
      refine ok_ret ?_
      try simp only [zW, zU, reduceIte, Nat.reduceEqDiff, Nat.reduceAdd, reduceCtorEq, Q66]
      first | exact he1.trans he3 | exact ⟨by simp, he1.trans he3⟩
  rintro w3 ⟨he3, hkn⟩
  refine ok_join [(1, ptrOf B1)] (fun w' => Ext w3 w' ∧ formedV x = true) ?_ ?_
  · refine ok_seq (fun M hM => ok_region rfl ?_)
    (try revert X); refine t66 ?_; intro X hX
    refine ⟨r, hr.len, (hb1.ext he3).cells (o := 0) (fun j u hj => by simpa using hj), ?_⟩
    (try revert X); refine t66 ?_; intro X hX
    refine Inv.call Fx.en95 (fields_ok _ x w3 r (Nat.le_refl _) (VRow.ext (he1.trans he3) _ _ hr) hkn) ?_
    rintro v w4 ⟨rfl, he4⟩
    (try revert X); refine t66 ?_; intro X hX
    refine hM _ _ _ ?_; clear hM M
    cases hfo : formedV x with
    | true =>
      refine ok_cond (b := false) rfl (fun h => by cases h) (fun _ => ok_skip ?_)
      try simp only [zW, zU, reduceIte, Nat.reduceEqDiff, Nat.reduceAdd, reduceCtorEq, Q66]
      exact ⟨by simp [sub, Env.get], he4⟩
    | false =>
      refine ok_cond (b := true) rfl (fun _ => ?_) (fun h => by cases h)
      refine ok_seq (fun M hM => ok_region rfl ?_); (try revert X); refine t66 ?_; intro X hX
      refine hM _ _ _ ?_; clear hM M
      refine ok_ret ?_
      try simp only [zW, zU, reduceIte, Nat.reduceEqDiff, Nat.reduceAdd, reduceCtorEq, Q66]
      exact ⟨by simp [hkn], (he1.trans he3).trans he4⟩
  rintro w4 ⟨he4, hfo⟩
  refine ok_seq (fun M hM => ok_region rfl ?_); (try revert X); refine t66 ?_; intro X hX
  refine hM _ _ _ ?_; clear hM M
  refine ok_ret ?_
  try simp only [zW, zU, reduceIte, Nat.reduceEqDiff, Nat.reduceAdd, reduceCtorEq, Q66]
  exact ⟨by simp [hkn, hfo], (he1.trans he3).trans he4⟩

def pairL : List Value := [.int .i64 1, .int .i64 1, .int .i64 2, .int .i64 2, .int .i64 3, .int .i64 3, .int .i64 4, .int .i64 4, .int .i64 5, .int .i64 5, .int .i64 6, .int .i64 6, .int .i64 7, .int .i64 7, .int .i64 8, .int .i64 8]
theorem pairL_get (i : Nat) (hi : i < 8) : pairL[i * 2]? = some (.int .i64 ((i : Int) + 1)) ∧ pairL[i * 2 + 1]? = some (.int .i64 ((i : Int) + 1)) := by
  obtain rfl | rfl | rfl | rfl | rfl | rfl | rfl | rfl : i = 0 ∨ i = 1 ∨ i = 2 ∨ i = 3 ∨ i = 4 ∨ i = 5 ∨ i = 6 ∨ i = 7 := by omega
  all_goals exact ⟨rfl, rfl⟩

-- -- function 97
set_option maxHeartbeats 2000000 in
set_option maxRecDepth 8000 in
theorem pairs_ok (w : World) : Rets Tryz.prog 97 [] w (fun v w' => v = .slice (some ⟨w.heap.size, 0, none⟩) 8 8 ∧ Blk w' w.heap.size pairL 144 ∧ Ext w w') := by
  refine rets_of_ok Tryz.func97 rfl rfl ?_
  refine ok_seq (fun M hM => ok_region rfl ?_); (try revert X); refine t97 ?_; intro X hX
  refine hM _ _ _ ?_; clear hM M
  refine ok_seq (fun M hM => ok_region rfl ?_)
  (try revert X); refine t97 ?_; intro X hX
  refine ⟨_, w, run_build (P := Tryz.prog) w 144 _ #[.int .i64 1, .int .i64 1] (by kernel_rfl), ?_⟩
  (try revert X); refine t97 ?_; intro X hX
  refine ⟨_, w, run_build (P := Tryz.prog) w 144 _ #[.int .i64 2, .int .i64 2] (by kernel_rfl), ?_⟩
  (try revert X); refine t97 ?_; intro X hX
  refine ⟨_, w, run_build (P := Tryz.prog) w 144 _ #[.int .i64 3, .int .i64 3] (by kernel_rfl), ?_⟩
  (try revert X); refine t97 ?_; intro X hX
  refine ⟨_, w, run_build (P := Tryz.prog) w 144 _ #[.int .i64 4, .int .i64 4] (by kernel_rfl), ?_⟩
  (try revert X); refine t97 ?_; intro X hX
  refine ⟨_, w, run_build (P := Tryz.prog) w 144 _ #[.int .i64 5, .int .i64 5] (by kernel_rfl), ?_⟩
  (try revert X); refine t97 ?_; intro X hX
  refine ⟨_, w, run_build (P := Tryz.prog) w 144 _ #[.int .i64 6, .int .i64 6] (by kernel_rfl), ?_⟩
  (try revert X); refine t97 ?_; intro X hX
  refine ⟨_, w, run_build (P := Tryz.prog) w 144 _ #[.int .i64 7, .int .i64 7] (by kernel_rfl), ?_⟩
  (try revert X); refine t97 ?_; intro X hX
  refine ⟨_, w, run_build (P := Tryz.prog) w 144 _ #[.int .i64 8, .int .i64 8] (by kernel_rfl), ?_⟩
  (try revert X); refine t97 ?_; intro X hX
  refine Runs.lit (cs := pairL) Fx.un142 Fx.zi144 (by decide) (by kernel_rfl) (by decide) (fun w8 he8 hs8 hb8 => ?_)
  (try revert X); refine t97 ?_; intro X hX
  refine hM _ _ _ ?_; clear hM M
  refine ok_ret ?_
  try simp only [zW, zU, reduceIte, Nat.reduceEqDiff, Nat.reduceAdd, reduceCtorEq, Q97]
  first | exact ⟨rfl, hb8, he8⟩ | exact ⟨hb8, he8⟩
end Go.Proofs.YtldeokfhipjbfaaGreatDoor
/- The reference: stored.  -/
set_option linter.unusedVariables false
set_option linter.unusedSimpArgs false
namespace Go.Proofs.YtldeokfhipjbfaaGreatDoor
open Go Go.Proofs.Vg Go.RowKit

theorem wellV_nil {k n : Int} {t : ByteArray} {len : Nat} (h : wellV k n t len = true) (hk : k = 1 ∨ k = 2 ∨ k = 3 ∨ k = 8) : len = 0 := by
  unfold wellV at h
  rcases hk with rfl | rfl | rfl | rfl <;> simp at h <;> omega
theorem formedVs_get {l : List Val} (h : formedVs l = true) {i : Nat} {x : Val} (hx : l[i]? = some x) : formedV x = true := (formedVs_iff l).1 h i x hx

-- -- function 67
set_option maxHeartbeats 4000000 in
set_option maxRecDepth 8000 in
theorem rstored_ok : ∀ (m : Nat) (x : Val) (w : World) (S : Nat → Prop) (r : List Value) (rb : Nat) (H : List Ob) (F : Nat → Prop), SizeOf.sizeOf x ≤ m → VRowS w S r x → (∀ k, S k → ¬ F k ∧ k < w.heap.size) → knownV x = true → formedV x = true →
    RHeapW w rb H F → (∀ k, F k → k < w.heap.size) → H.length + cntV x ≤ 1048576 →
    Rets Tryz.prog 67 [ptrOf rb, .agg r.toArray] w (fun v w' => v = wv (storeV H x).2 ∧ RGrown w w' rb (storeV H x).1 F) := by
  intro m
  induction m with
  | zero => intro x w S r rb H F hm; cases x; simp at hm
  | succ m ih =>
    rintro ⟨k, n, t, a⟩ w S r rb H F hm hr hS hkn hfo hH hF hlen0
    simp only [VRowS] at hr
    obtain ⟨v, rfl, hv1, hv2, rows, hsl, hrows⟩ := hr
    obtain ⟨A, cp, rfl, hlen, hcell⟩ := hsl
    have hl := hrows.length
    simp only [knownV, Bool.and_eq_true, decide_eq_true_eq] at hkn
    obtain ⟨⟨hk1, hk2⟩, hkns⟩ := hkn
    simp only [formedV, Bool.and_eq_true] at hfo
    obtain ⟨hwell, hfos⟩ := hfo
    simp only [cntV] at hlen0
    have hcl := cntVs_len a
    have hst : storeV H (.mk k n t a) = if k = 3 then ((storeVs H a).1 ++ [.text t], ⟨3, 0, ((storeVs H a).1.length : Int) + 1⟩) else if k = 4 ∨ k = 5 ∨ k = 6 ∨ k = 7 then mkW (storeVs H a).1 k n (storeVs H a).2 else ((storeVs H a).1, ⟨k, n, 0⟩) := by
      simp only [storeV]
      by_cases hk : k = 1 ∨ k = 2 ∨ k = 8
      · have ha : a = [] := List.length_eq_zero_iff.1 (wellV_nil hwell (by omega))
        subst ha
        rw [if_pos hk, if_neg (by omega), if_neg (by omega)]; rfl
      · rw [if_neg hk]
        by_cases h3 : k = 3
        · have ha : a = [] := List.length_eq_zero_iff.1 (wellV_nil hwell (by omega))
          subst ha
          rw [if_pos h3, if_pos h3]; rfl
        · rw [if_neg h3, if_neg h3, if_pos (by omega)]
    rw [hst]
    refine rets_of_okC Tryz.func67 rfl rfl ?_
    refine ok_seq (fun M hM => ok_region rfl ?_)
    (try revert X); refine t67 ?_; intro X hX
    refine Runs.box (fun w1 he1 hz1 hb1 => ?_)
    generalize hB1 : w.heap.size = B1 at hz1 hb1
    simp only [Value.cells] at hb1
    rw [hl] at hb1
    (try revert X); refine t67 ?_; intro X hX
    refine Runs.alloc Fx.zi75 (fun w2 he2 hz2 hb2 => ?_)
    generalize hB2 : w1.heap.size = B2 at hz2 hb2
    simp only [Value.cells] at hb2
    have hb12 := hb1.ext he2
    have he02' := he1.trans he2
    (try revert X); refine t67 ?_; intro X hX
    refine hM _ _ _ ?_; clear hM M
    have hs02 := he02'.size
    refine ok_seq (fun M hM => ok_region rfl ?_)
    (try revert X); refine t67 ?_; intro X hX
    refine Runs.lit00 Fx.un30 Fx.zi75 (fun w3 he3 hs3 hb3 => ?_)
    (try revert X); refine t67 ?_; intro X hX
    refine hM _ _ _ ?_; clear hM M
    have he03 := he02'.trans he3
    refine ok_seq (fun M0 hM0 => ?_)
    refine ok_seq (fun M hM => ok_region rfl ?_); (try revert X); refine t67 ?_; intro X hX
    refine hM _ _ _ ?_; clear hM M
    refine ok_block ?_
    refine ok_loop (S := Nat × Value) (fun s => [(0, ptrOf rb), (3, ptrOf B1), (4, ptrOf B2), (5, s.2), (6, .int .i64 (s.1 : Int))])
      (fun s w4 => s.1 ≤ a.length ∧ Chg F w w4 ∧ ∃ F', RHeapW w4 rb (storeVs H (a.take s.1)).1 F' ∧ (∀ k, F' k → F k ∨ (w.heap.size ≤ k ∧ k < w4.heap.size ∧ k ≠ B1 ∧ k ≠ B2)) ∧
        Blk w4 B1 [.int .i64 k, .int .i64 n, .string t, .slice A a.length cp] 36 ∧ Blk w4 B2 [.int .i64 0, .int .i64 0, .int .i64 0] 75 ∧
        w4.ownsRow 0 75 3 s.2 s.1 ((storeVs H (a.take s.1)).2.map Wd.row).flatten ∧ (∀ k, s.2.ownBlock = some k → ¬ F' k ∧ k ≠ B1 ∧ k ≠ B2 ∧ w.heap.size ≤ k)) (fun s => a.length - s.1) (0, .slice (some ⟨w2.heap.size, 0, none⟩) 0 0) ?_ ?_ ?_
    · simp [sub, Env.get]
    · refine ⟨Nat.zero_le _, he03.chg F, F, hH.ext he03, fun k hk => .inl hk, hb12.ext he3, hb2.ext he3, owns_empty hb3, fun k hk => ?_⟩
      simp [Value.ownBlock] at hk
      subst hk
      exact ⟨fun hf => by have := hF _ hf; omega, by omega, by omega, by omega⟩
    rintro ⟨i, va⟩ w4 ⟨hi, hc4, F', hH4, hF4, hB1', hB2', hown, hob⟩
    simp only at hi hH4 hown hob ⊢
    have hs4 := hc4.size
    have hl1 := hB1'.lt
    have hl2 := hB2'.lt
    have hF4s : ∀ k, F' k → k < w4.heap.size := fun k hk => by
      rcases hF4 k hk with h | h
      · have := hF k h; omega
      · omega
    have hnB1 : ¬ F' B1 := fun h => by
      rcases hF4 B1 h with h | h
      · have := hF B1 h; omega
      · omega
    have hnB2 : ¬ F' B2 := fun h => by
      rcases hF4 B2 h with h | h
      · have := hF B2 h; omega
      · omega
    refine ok_seq (fun M1 hM1 => ?_)
    refine ok_seq (fun M hM => ok_region rfl ?_)
    (try revert X); refine t67 ?_; intro X hX
    refine ⟨_, hB1'.cell (j := 3) rfl, ?_⟩
    (try revert X); refine t67 ?_; intro X hX
    refine hM _ _ _ ?_; clear hM M
    refine ok_if rfl (fun hc => ok_skip ?_) (fun hc => ok_exit ?_)
    rotate_left
    · try simp only [zW, zU, reduceIte, Nat.reduceEqDiff, Nat.reduceAdd, reduceCtorEq, Q67]
      refine hM0 _ _ _ ?_; clear hM0 M0 hM1 M1
      have hia : i = a.length := by omega
      subst hia
      rw [List.take_of_length_le (Nat.le_refl _)] at hH4 hown
      have hsl := storeVs_length a H
      have hlen1 := storeVs_len a H
      have hSl : SlW w4 va (storeVs H a).2 := Sli.of_own hown rfl (fun r hr => (words_rows _ r hr).1) (by simp [hsl]) (by omega)
      refine ok_join [(0, ptrOf rb), (3, ptrOf B1), (4, ptrOf B2), (5, va)] (fun w' => w' = w4 ∧ k ≠ 3) ?_ ?_
      · refine ok_seq (fun M hM => ok_region rfl ?_)
        (try revert X); refine t67 ?_; intro X hX
        refine ⟨_, hB1'.cell (j := 0) rfl, ?_⟩
        (try revert X); refine t67 ?_; intro X hX
        refine hM _ _ _ ?_; clear hM M
        refine ok_if rfl (fun h3 => ?_) (fun h3 => ok_skip ?_)
        rotate_left
        · try simp only [zW, zU, reduceIte, Nat.reduceEqDiff, Nat.reduceAdd, reduceCtorEq, Q67]
          exact ⟨by simp [sub, Env.get], h3⟩
        refine ok_seq (fun M hM => ok_region rfl ?_)
        (try revert X); refine t67 ?_; intro X hX
        refine ⟨_, hB1'.cell (j := 2) rfl, ?_⟩
        (try revert X); refine t67 ?_; intro X hX
        refine Inv.call Fx.en96 (rtext_ok w4 rb _ F' hH4 (fun k hk => hF4s k hk) (by omega) t) ?_
        rintro v w5 ⟨rfl, hc5, F5, hH5, hF5⟩
        have hs5 := hc5.size
        (try revert X); refine t67 ?_; intro X hX
        refine Runs.store (hB2'.chg hc5 hnB2) Fx.zi75 rfl (by intro u hu; simp [Value.cells, Wd.row] at hu; rcases hu with rfl | rfl | rfl <;> rfl) (by simp) (fun w6 hc6 hs6 hb6 => ?_)
        rw [splice_all _ _ (by simp [Value.cells])] at hb6
        simp only [Value.cells] at hb6
        (try revert X); refine t67 ?_; intro X hX
        refine hM _ _ _ ?_; clear hM M
        refine ok_ret ?_
        try simp only [zW, zU, reduceIte, Nat.reduceEqDiff, Nat.reduceAdd, reduceCtorEq, Q67]
        rw [if_pos h3]
        refine ⟨_, rfl, hb6.cells (o := 0) (row := Wd.row ⟨3, 0, ((storeVs H a).1.length : Int) + 1⟩) (fun j u hj => by simpa using hj), rfl, ?_⟩
        have hnB : ¬ F5 B2 := fun h => by rcases hF5 B2 h with h | h <;> first | exact hnB2 h | omega
        refine ⟨(hc4.thn hc5 (fun k hk => (hF4 k hk).imp id (fun h => h.1))).thn hc6 (fun k hk => by omega), F5, hH5.chg hc6 (fun k hk e => hnB (e ▸ hk)), fun k hk => ?_⟩
        rcases hF5 k hk with h | h
        · rcases hF4 k h with h | h
          · exact .inl h
          · exact .inr (by omega)
        · exact .inr (by omega)
      rintro w' ⟨rfl, h3⟩
      rw [if_neg h3]
      refine ok_seq (fun M hM => ok_region rfl ?_)
      (try revert X); refine t67 ?_; intro X hX
      refine ⟨_, hB1'.cell (j := 1) rfl, ?_⟩
      (try revert X); refine t67 ?_; intro X hX
      refine ⟨_, w', run_build (P := Tryz.prog) w' 75 _ #[.int .i64 0, .int .i64 n, .int .i64 0] (by kernel_rfl), ?_⟩
      (try revert X); refine t67 ?_; intro X hX
      refine Runs.alloc Fx.zi75 (fun w5 he5 hs5 hb5 => ?_)
      simp only [Value.cells] at hb5
      generalize hB7 : w'.heap.size = B7 at hs5 hb5
      (try revert X); refine t67 ?_; intro X hX
      refine Runs.store hb5 Fx.zi75 rfl (by intro u hu; simp [Value.cells] at hu; rcases hu with rfl | rfl | rfl <;> rfl) (by simp) (fun w6 hc6 hs6 hb6 => ?_)
      rw [splice_all _ _ (by simp [Value.cells])] at hb6
      simp only [Value.cells] at hb6
      have he6 : Ext w' w6 := he5.chg_trans hc6 (fun i hi => by omega)
      (try revert X); refine t67 ?_; intro X hX
      refine hM _ _ _ ?_; clear hM M
      refine ok_seq (fun M hM => ok_region rfl ?_)
      (try revert X); refine t67 ?_; intro X hX
      refine Inv.call Fx.en97 (pairs_ok w6) ?_
      rintro v w7 ⟨rfl, hb7, he7⟩
      generalize hB8 : w6.heap.size = B8 at hb7
      (try revert X); refine t67 ?_; intro X hX
      refine hM _ _ _ ?_; clear hM M
      have he47 := he6.trans he7
      have hB17 := hB1'.ext he47
      have h75 := hb6.ext he7
      have h8l := hb7.lt
      have h7l := hb6.lt
      refine ok_join [(0, ptrOf rb), (3, ptrOf B1), (4, ptrOf B2), (5, va), (7, ptrOf B7)] (fun w8 => Chg (fun b => b = B7) w7 w8 ∧ Blk w8 B7 [.int .i64 k, .int .i64 n, .int .i64 0] 75) ?_ ?_
      · refine ok_seq (fun M hM => ok_region rfl ?_); (try revert X); refine t67 ?_; intro X hX
        refine hM _ _ _ ?_; clear hM M
        refine ok_block ?_
        refine ok_loop (S := Nat) (fun i => [(0, ptrOf rb), (3, ptrOf B1), (4, ptrOf B2), (5, va), (7, ptrOf B7), (8, .slice (some ⟨B8, 0, none⟩) 8 8), (9, .int .i64 (i : Int))]) (fun i w8 => i ≤ 8 ∧ Chg (fun b => b = B7) w7 w8 ∧ Blk w8 B7 [.int .i64 (if k ≤ (i : Int) then k else 0), .int .i64 n, .int .i64 0] 75) (fun i => 8 - i) 0 ?_ ?_ ?_
        · simp [sub, Env.get]
        · refine ⟨by omega, Chg.refl _ _, ?_⟩
          rw [if_neg (by omega)]
          exact h75
        rintro q w8 ⟨hq, hc8, hb8⟩
        have hs8 := hc8.size
        refine ok_seq (fun M1 hM1 => ?_)
        refine ok_seq (fun M hM => ok_region rfl ?_); (try revert X); refine t67 ?_; intro X hX
        refine hM _ _ _ ?_; clear hM M
        refine ok_if rfl (fun hc => ok_skip ?_) (fun hc => ok_exit ?_)
        rotate_left
        · try simp only [zW, zU, reduceIte, Nat.reduceEqDiff, Nat.reduceAdd, reduceCtorEq, Q67]
          have : q = 8 := by omega
          subst this
          rw [if_pos (by omega)] at hb8
          exact ⟨by simp [sub, Env.get], hc8, hb8⟩
        · try simp only [zW, zU, reduceIte, Nat.reduceEqDiff, Nat.reduceAdd, reduceCtorEq, Q67]
          refine hM1 _ _ _ ?_; clear hM1 M1
          have hq8 : q < 8 := by omega
          have hpl : Blk w8 B8 pairL 144 := hb7.chg hc8 (by omega)
          have hb18 : Blk w8 B1 _ 36 := hB17.chg hc8 (by omega)
          refine ok_seq (fun M1 hM1 => ok_block ?_)
          refine ok_seq (fun M hM => ?_)
          refine (ok_draw 8 [] (Ext _) Fx.mixed (by decide) rfl (by decide +kernel) (by decide +kernel) (Ext.drew _) ?_)
          (try revert X); refine t67 ?_; intro X hX
          refine ⟨by omega, by omega, ?_⟩
          (try revert X); refine t67 ?_; intro X hX
          refine ⟨by decide, by decide, ?_⟩
          (try revert X); refine t67 ?_; intro X hX
          refine ⟨.int .i64 ((q : Int) + 1), fun w' hw => (hpl.ext hw).cell (by simpa using (pairL_get q hq8).2), ?_⟩
          (try revert X); refine t67 ?_; intro X hX
          refine ⟨.int .i64 k, fun w' hw => (hb18.ext hw).cell (j := 0) rfl, ?_⟩
          (try revert X); refine t67 ?_; intro X hX
          intro w9 he9
          (try revert X); refine t67 ?_; intro X hX
          refine hM _ _ _ ?_; clear hM M
          have hb89 := hb8.ext he9
          have hpl9 := hpl.ext he9
          have hs9 := he9.size
          refine ok_if rfl (fun hqk => ?_) (fun hqk => ok_skip ?_)
          · refine ok_region rfl ?_
            (try revert X); refine t67 ?_; intro X hX
            refine ⟨by omega, by omega, ?_⟩
            (try revert X); refine t67 ?_; intro X hX
            refine ⟨by decide, by decide, ?_⟩
            (try revert X); refine t67 ?_; intro X hX
            refine ⟨_, hpl9.cell (by simpa using (pairL_get q hq8).1), ?_⟩
            (try revert X); refine t67 ?_; intro X hX
            refine Runs.store hb89 Fx.zi3 rfl (by intro u hu; simp [Value.cells] at hu; subst hu; rfl) (by simp) (fun w10 hc10 hs10 hb10 => ?_)
            (try revert X); refine t67 ?_; intro X hX
            refine hM1 _ _ _ ?_; clear hM1 M1
            refine ok_region rfl ?_
            (try revert X); refine t67 ?_; intro X hX
            refine ⟨by simp only [inI]; omega, ?_⟩
            (try revert X); refine t67 ?_; intro X hX
            refine ⟨q + 1, by simp [sub, Env.get], ⟨by omega, (hc8.thn (he9.chg (fun b => b = B7)) (fun k hk => .inl hk)).thn hc10 (fun k hk => .inl hk), ?_⟩, by omega⟩
            rw [if_pos (by omega)]
            simpa [splice, Value.cells, ← hqk] using hb10
          · try simp only [zW, zU, reduceIte, Nat.reduceEqDiff, Nat.reduceAdd, reduceCtorEq, Q67]
            refine hM1 _ _ _ ?_; clear hM1 M1
            refine ok_region rfl ?_
            (try revert X); refine t67 ?_; intro X hX
            refine ⟨by simp only [inI]; omega, ?_⟩
            (try revert X); refine t67 ?_; intro X hX
            refine ⟨q + 1, by simp [sub, Env.get], ⟨by omega, hc8.thn (he9.chg (fun b => b = B7)) (fun k hk => .inl hk), ?_⟩, by omega⟩
            rw [show (if k ≤ ((q + 1 : Nat) : Int) then k else 0) = (if k ≤ (q : Int) then k else 0) from by
              by_cases h1 : k ≤ (q : Int)
              · rw [if_pos h1, if_pos (by omega)]
              · rw [if_neg h1, if_neg (by omega)]]
            exact hb89
      rintro w8 ⟨hc8, hb8⟩
      have hs8 := hc8.size
      have hs47 := he47.size
      have hB18 : Blk w8 B1 _ 36 := hB17.chg hc8 (by omega)
      have hB28 : Blk w8 B2 _ 75 := (hB2'.ext he47).chg hc8 (by omega)
      have hH8 : RHeapW w8 rb (storeVs H a).1 F' := (hH4.ext he47).chg hc8 (fun k hk => by have := hF4s k hk; omega)
      have hc48 : Chg F' w' w8 := (he47.chg F').thn hc8 (fun k hk => by omega)
      have hF8 : ∀ k, F' k → k < w8.heap.size := fun k hk => by have := hF4s k hk; omega
      refine ok_join [(4, ptrOf B2), (7, ptrOf B7)] (fun w9 => w9 = w8 ∧ ¬ (k = 4 ∨ k = 5 ∨ k = 6 ∨ k = 7)) ?_ ?_
      · refine ok_seq (fun M hM => ok_region rfl ?_)
        (try revert X); refine t67 ?_; intro X hX
        refine ⟨_, hb8.cell (j := 0) rfl, ?_⟩
        (try revert X); refine t67 ?_; intro X hX
        refine Inv.call Fx.en68 (many_ok w8 k) ?_
        rintro v w9 ⟨rfl, rfl⟩
        (try revert X); refine t67 ?_; intro X hX
        refine hM _ _ _ ?_; clear hM M
        refine ok_if rfl (fun hmn => ?_) (fun hmn => ok_skip ?_)
        rotate_left
        · try simp only [zW, zU, reduceIte, Nat.reduceEqDiff, Nat.reduceAdd, reduceCtorEq, Q67]
          exact ⟨by simp [sub, Env.get], hmn⟩
        refine ok_seq (fun M hM => ok_region rfl ?_)
        (try revert X); refine t67 ?_; intro X hX
        refine ⟨_, hb8.cell (j := 0) rfl, ?_⟩
        (try revert X); refine t67 ?_; intro X hX
        refine ⟨_, hB18.cell (j := 1) rfl, ?_⟩
        (try revert X); refine t67 ?_; intro X hX
        have hown8 := owns_chg' (owns_chg' hown (he47.chg (fun _ => False)) (fun _ _ h => h)) hc8 (fun k hk e => by have := (hown.lt k hk).2; omega)
        have hSl8 : SlW w9 va (storeVs H a).2 := Sli.of_own hown8 rfl (fun r hr => (words_rows _ r hr).1) (by simp [hsl]) (by omega)
        refine Inv.call Fx.en70 (rmade_ok w9 rb _ F' hH8 hF8 (by omega) k n va _ hSl8 (by omega)) ?_
        rintro v w10 ⟨rfl, hc10, F10, hH10, hF10⟩
        have hs10 := hc10.size
        (try revert X); refine t67 ?_; intro X hX
        refine Runs.store (hB28.chg hc10 hnB2) Fx.zi75 rfl (by intro u hu; simp [Value.cells, Wd.row] at hu; rcases hu with rfl | rfl | rfl <;> rfl) (by simp) (fun w11 hc11 hs11 hb11 => ?_)
        rw [splice_all _ _ (by simp [Value.cells])] at hb11
        simp only [Value.cells] at hb11
        (try revert X); refine t67 ?_; intro X hX
        refine hM _ _ _ ?_; clear hM M
        refine ok_ret ?_
        try simp only [zW, zU, reduceIte, Nat.reduceEqDiff, Nat.reduceAdd, reduceCtorEq, Q67]
        rw [if_pos hmn]
        refine ⟨_, rfl, hb11.cells (o := 0) (row := (mkW (storeVs H a).1 k n (storeVs H a).2).2.row) (fun j u hj => by simpa using hj), rfl, ?_⟩
        have hnB : ¬ F10 B2 := fun h => by rcases hF10 B2 h with h | h <;> first | exact hnB2 h | omega
        refine ⟨((hc4.thn hc48 (fun k hk => (hF4 k hk).imp id (fun h => h.1))).thn hc10 (fun k hk => (hF4 k hk).imp id (fun h => h.1))).thn hc11 (fun k hk => by omega), F10, hH10.chg hc11 (fun k hk e => hnB (e ▸ hk)), fun k hk => ?_⟩
        rcases hF10 k hk with h | h
        · rcases hF4 k h with h | h
          · exact .inl h
          · exact .inr (by omega)
        · exact .inr (by omega)
      rintro w9 ⟨rfl, hmn⟩
      rw [if_neg hmn]
      refine ok_seq (fun M hM => ok_region rfl ?_)
      (try revert X); refine t67 ?_; intro X hX
      refine ⟨[.int .i64 k, .int .i64 n, .int .i64 0], rfl, hb8.cells (o := 0) (fun j u hj => by simpa using hj), ?_⟩
      (try revert X); refine t67 ?_; intro X hX
      refine Runs.store hB28 Fx.zi75 rfl (by intro u hu; simp [Value.cells] at hu; rcases hu with rfl | rfl | rfl <;> rfl) (by simp) (fun w11 hc11 hs11 hb11 => ?_)
      rw [splice_all _ _ (by simp [Value.cells])] at hb11
      simp only [Value.cells] at hb11
      (try revert X); refine t67 ?_; intro X hX
      refine hM _ _ _ ?_; clear hM M
      refine ok_ret ?_
      try simp only [zW, zU, reduceIte, Nat.reduceEqDiff, Nat.reduceAdd, reduceCtorEq, Q67]
      refine ⟨_, rfl, hb11.cells (o := 0) (row := Wd.row ⟨k, n, 0⟩) (fun j u hj => by simpa [Wd.row] using hj), rfl, ?_⟩
      refine ⟨(hc4.thn hc48 (fun k hk => (hF4 k hk).imp id (fun h => h.1))).thn hc11 (fun k hk => by omega), F', hH8.chg hc11 (fun k hk e => hnB2 (e ▸ hk)), fun k hk => ?_⟩
      rcases hF4 k hk with h | h
      · exact .inl h
      · exact .inr (by omega)
    · try simp only [zW, zU, reduceIte, Nat.reduceEqDiff, Nat.reduceAdd, reduceCtorEq, Q67]
      refine hM1 _ _ _ ?_; clear hM1 M1
      have hil : i < a.length := by omega
      have hxi : a[i]? = some a[i] := List.getElem?_eq_getElem hil
      obtain ⟨rr, hrr, hvr⟩ := hrows.get i _ hxi
      obtain ⟨b, o, rfl, hbS, hcr⟩ := hcell i rr hrr
      have hr4 := (VRowS.row _ _ hvr).len
      have hct := cntVs_take a i _ hxi
      have hcl1 := storeVs_len (a.take i) H
      have hsz : SizeOf.sizeOf a[i] ≤ m := by
        have := List.sizeOf_lt_of_mem (List.getElem_mem hil)
        simp at hm
        omega
      refine ok_seq (fun M1 hM1 => ok_block ?_)
      refine ok_region rfl ?_
      (try revert X); refine t67 ?_; intro X hX
      refine ⟨_, hB1'.cell (j := 3) rfl, ?_⟩
      (try revert X); refine t67 ?_; intro X hX
      refine ⟨by omega, by omega, ?_⟩
      (try revert X); refine t67 ?_; intro X hX
      refine ⟨rr, hr4, hc4.cellsAt hcr (hS b hbS).1, ?_⟩
      (try revert X); refine t67 ?_; intro X hX
      have hvr6 : VRowS w4 S rr a[i] := VRowS.chg hc4 (fun k hk => ⟨hk, (hS k hk).1⟩) _ _ hvr
      have hnF' : ∀ k, k < w.heap.size → ¬ F k → ¬ F' k := fun k hk hn hf => by rcases hF4 k hf with h | h <;> first | exact hn h | omega
      refine Inv.call Fx.en67 (ih a[i] w4 S rr rb _ F' hsz hvr6 (fun k hk => ⟨hnF' k (hS k hk).2 (hS k hk).1, by have := (hS k hk).2; omega⟩) (knownVs_get hkns hxi) (formedVs_get hfos hxi) hH4 hF4s (by omega)) ?_
      rintro v w7 ⟨rfl, hc7, F7, hH7, hF7⟩
      have hs7 := hc7.size
      have hown7 := owns_chg' hown hc7 (fun k hk => (hob k hk).1)
      generalize hq : storeV (storeVs H (a.take i)).1 a[i] = q at hH7
      (try revert X); refine t67 ?_; intro X hX
      refine Runs.lit (cs := q.2.row) Fx.un30 Fx.zi75 (by decide) (by kernel_rfl) (by decide) (fun w8 he8 hs8 hb8 => ?_)
      (try revert X); refine t67 ?_; intro X hX
      have hown8 := owns_chg' hown7 (he8.chg (fun _ => False)) (fun _ _ h => h)
      refine Runs.append1' Fx.un30 Fx.zi75 rfl (by decide) hown8 hb8 rfl (by intro u hu; simp [Wd.row] at hu; rcases hu with rfl | rfl | rfl <;> rfl) (by simp [maxLen]; omega) (by omega) (by omega) (fun v' w9 hown9 hg9 hblk => ?_)
      have hc9 : Chg (fun k => va.ownBlock = some k) w8 w9 := ⟨hg9.os, hg9.tape, hg9.output, hg9.size, fun k hk hs => hg9.block k hk (fun e => hs e.symm)⟩
      have hs9 := hc9.size
      have hvl : ∀ k, va.ownBlock = some k → k < w4.heap.size := fun k hk => (hown.lt k hk).2
      have hF7s : ∀ k, F7 k → k < w7.heap.size ∧ (F' k ∨ w4.heap.size ≤ k) := fun k hk => by
        rcases hF7 k hk with h | h
        · have := hF4s k h; exact ⟨by omega, .inl h⟩
        · exact ⟨by omega, .inr h.1⟩
      (try revert X); refine t67 ?_; intro X hX
      refine hM1 _ _ _ ?_; clear hM1 M1
      refine ok_region rfl ?_
      (try revert X); refine t67 ?_; intro X hX
      refine ⟨by simp only [inI]; omega, ?_⟩
      (try revert X); refine t67 ?_; intro X hX
      have htk : a.take (i + 1) = a.take i ++ [a[i]] := List.take_succ_eq_append_getElem hil
      have hsn : storeVs H (a.take (i + 1)) = (q.1, (storeVs H (a.take i)).2 ++ [q.2]) := by rw [htk, storeVs_snoc, hq]
      have hnF7 : ∀ k, va.ownBlock = some k → ¬ F7 k := fun k hk hf => by
        have h1 := hvl k hk
        rcases (hF7s k hf).2 with h | h
        · exact (hob k hk).1 h
        · omega
      have hBlk : ∀ (B : Nat) (cs : List Value) (e : TypeId), Blk w4 B cs e → ¬ F' B → (∀ k, va.ownBlock = some k → k ≠ B) → Blk w9 B cs e := fun B cs e hb hn hv =>
        ((hb.chg hc7 hn).ext he8).chg hc9 (fun h => hv B h rfl)
      refine ⟨(i + 1, v'), by simp [sub, Env.get], ⟨by omega, ?_, F7, ?_, fun k hk => ?_, hBlk B1 _ _ hB1' hnB1 (fun k hk => (hob k hk).2.1), hBlk B2 _ _ hB2' hnB2 (fun k hk => (hob k hk).2.2.1), ?_, fun k hk => ?_⟩, by omega⟩
      · refine ⟨hc9.os.trans (he8.os.trans (hc7.os.trans hc4.os)), hc9.tape.trans (he8.tape.trans (hc7.tape.trans hc4.tape)), hc9.output.trans (he8.output.trans (hc7.output.trans hc4.output)), by omega, fun j hj hf => ?_⟩
        rw [hc9.block j (by omega) (fun h => by have := (hob j h).2.2.2; omega), Below.block he8 j (by omega), hc7.block j (by omega) (fun h => by rcases hF4 j h with h | h <;> first | exact hf h | omega), hc4.block j hj hf]
      · simp only [hsn]
        exact (hH7.ext he8).chg hc9 (fun k hk h => hnF7 k h hk)
      · have h1 := hF7s k hk
        rcases h1.2 with h | h
        · rcases hF4 k h with h' | h'
          · exact .inl h'
          · exact .inr (by omega)
        · exact .inr (by omega)
      · simp only [hsn]
        rw [List.map_append, List.flatten_append]
        simpa using hown9
      · rcases hblk with h | h
        · rw [h] at hk
          exact ⟨hnF7 k hk, (hob k hk).2⟩
        · rw [h] at hk; cases hk
          exact ⟨fun hf => by have := (hF7s _ hf).1; omega, by omega, by omega, by omega⟩
end Go.Proofs.YtldeokfhipjbfaaGreatDoor
/- The reference: Store.  -/
set_option linter.unusedVariables false
set_option linter.unusedSimpArgs false
namespace Go.Proofs.YtldeokfhipjbfaaGreatDoor
open Go Go.Proofs.Vg Go.RowKit

-- -- function 27
set_option maxHeartbeats 4000000 in
set_option maxRecDepth 8000 in
theorem rStore_ok (x : Val) (w : World) (S : Nat → Prop) (r : List Value) (rb : Nat) (H : List Ob) (F : Nat → Prop) (hrS : VRowS w S r x) (hS : ∀ k, S k → ¬ F k ∧ k < w.heap.size)
    (hH : RHeapW w rb H F) (hF : ∀ k, F k → k < w.heap.size) (hlen0 : H.length + cntV x ≤ 1048576) :
    Rets Tryz.prog 27 [ptrOf rb, .agg r.toArray] w (fun v w' => v = .tuple #[wv (storeS H x).2.1, .int .i64 (storeS H x).2.2] ∧ RGrown w w' rb (storeS H x).1 F) := by
  have hr : VRow w r x := VRowS.row _ _ hrS
  have hr4 := hr.len
  refine rets_of_okC Tryz.func27 rfl rfl ?_
  refine ok_seq (fun M hM => ok_region rfl ?_)
  (try revert X); refine t27 ?_; intro X hX
  refine Runs.box (fun w1 he1 hz1 hb1 => ?_)
  generalize hB1 : w.heap.size = B1 at hz1 hb1
  simp only [Value.cells] at hb1
  (try revert X); refine t27 ?_; intro X hX
  refine Runs.alloc Fx.zi75 (fun w2 he2 hz2 hb2 => ?_)
  generalize hB2 : w1.heap.size = B2 at hz2 hb2
  simp only [Value.cells] at hb2
  have hb12 := hb1.ext he2
  have he02 := he1.trans he2
  (try revert X); refine t27 ?_; intro X hX
  refine hM _ _ _ ?_; clear hM M
  refine ok_join [(0, ptrOf rb), (3, ptrOf B1), (4, ptrOf B2)] (fun w' => w' = w2) ?_ ?_
  · refine ok_seq (fun M hM => ok_region rfl ?_)
    (try revert X); refine t27 ?_; intro X hX
    refine Runs.ptrEq Fx.un27 ?_
    (try revert X); refine t27 ?_; intro X hX
    refine hM _ _ _ ?_; clear hM M
    refine ok_cond rfl (fun h => by cases h) (fun h => ok_skip ?_)
    try simp only [zW, zU, reduceIte, Nat.reduceEqDiff, Nat.reduceAdd, reduceCtorEq, Q27]
    simp [sub, Env.get]
  rintro w' rfl
  refine ok_join [(0, ptrOf rb), (3, ptrOf B1), (4, ptrOf B2)] (fun w3 => Ext w' w3 ∧ knownV x = true ∧ formedV x = true) ?_ ?_
  · refine ok_seq (fun M hM => ok_region rfl ?_)
    (try revert X); refine t27 ?_; intro X hX
    refine ⟨r, hr4, hb12.cells (o := 0) (fun j u hj => by simpa using hj), ?_⟩
    (try revert X); refine t27 ?_; intro X hX
    refine Inv.call Fx.en66 (form_ok x w' r (VRow.ext he02 _ _ hr)) ?_
    rintro v w3 ⟨rfl, he3⟩
    (try revert X); refine t27 ?_; intro X hX
    refine hM _ _ _ ?_; clear hM M
    by_cases hkf : knownV x = true ∧ formedV x = true
    · rw [if_pos hkf.1, if_pos hkf.2]
      refine ok_seq (fun M hM => ok_region rfl ?_); (try revert X); refine t27 ?_; intro X hX
      refine hM _ _ _ ?_; clear hM M
      refine ok_cond rfl (fun h => by cases h) (fun h => ok_skip ?_)
      try simp only [zW, zU, reduceIte, Nat.reduceEqDiff, Nat.reduceAdd, reduceCtorEq, Q27]
      exact ⟨by simp [sub, Env.get], he3, hkf.1, hkf.2⟩
    · generalize he : (if knownV x = true then (if formedV x = true then (0 : Int) else 2) else 3) = e
      have he0 : e ≠ 0 := by
        rw [← he]
        split
        · rename_i h1
          rw [if_neg (fun h => hkf ⟨h1, h⟩)]; decide
        · decide
      have hst : storeS H x = (H, ⟨0, 0, 0⟩, e) := by
        rw [← he]
        unfold storeS
        split
        · rename_i h1
          rw [if_neg (fun h => hkf ⟨h1, h⟩), if_neg (fun h => hkf ⟨h1, h⟩)]
        · rfl
      refine ok_seq (fun M hM => ok_region rfl ?_); (try revert X); refine t27 ?_; intro X hX
      refine hM _ _ _ ?_; clear hM M
      refine ok_ifn rfl (fun h => ?_) (fun h => absurd h he0)
      refine ok_seq (fun M hM => ok_region rfl ?_)
      (try revert X); refine t27 ?_; intro X hX
      refine ⟨_, w3, run_build (P := Tryz.prog) w3 75 _ #[.int .i64 0, .int .i64 0, .int .i64 0] (by kernel_rfl), ?_⟩
      (try revert X); refine t27 ?_; intro X hX
      refine Runs.store (hb2.ext he3) Fx.zi75 rfl (by intro u hu; simp [Value.cells] at hu; subst hu; rfl) (by simp) (fun w6 hc6 hs6 hb6 => ?_)
      rw [splice_all _ _ (by simp [Value.cells])] at hb6
      simp only [Value.cells] at hb6
      (try revert X); refine t27 ?_; intro X hX
      refine hM _ _ _ ?_; clear hM M
      refine ok_ret ?_
      try simp only [zW, zU, reduceIte, Nat.reduceEqDiff, Nat.reduceAdd, reduceCtorEq, Q27]
      rw [hst]
      refine ⟨_, rfl, hb6.cells (o := 0) (row := Wd.row ⟨0, 0, 0⟩) (fun j u hj => by simpa [Wd.row] using hj), by simp, ?_⟩
      exact RGrown.same hH ((he02.trans he3).chg_trans hc6 (fun i hi => by omega))
  rintro w4 ⟨he4, hkn, hfo⟩
  have hw4 := he02.trans he4
  have hs4 := hw4.size
  have hl2 := (hb2.ext he4).lt
  refine ok_seq (fun M hM => ok_region rfl ?_)
  (try revert X); refine t27 ?_; intro X hX
  refine ⟨r, hr4, (hb12.ext he4).cells (o := 0) (fun j u hj => by simpa using hj), ?_⟩
  (try revert X); refine t27 ?_; intro X hX
  refine Inv.call Fx.en67 (rstored_ok _ x w4 S r rb H F (Nat.le_refl _) (VRowS.ext hrS hw4) (fun k hk => ⟨(hS k hk).1, by have := (hS k hk).2; omega⟩) hkn hfo (hH.ext hw4) (fun k hk => by have := hF k hk; omega) hlen0) ?_
  rintro v w5 ⟨rfl, hc5, F5, hH5, hF5⟩
  have hs5 := hc5.size
  (try revert X); refine t27 ?_; intro X hX
  have hnF : ¬ F B2 := fun h => by have := hF B2 h; omega
  refine Runs.store ((hb2.ext he4).chg hc5 hnF) Fx.zi75 rfl (by intro u hu; simp [Value.cells, Wd.row] at hu; rcases hu with rfl | rfl | rfl <;> rfl) (by simp) (fun w6 hc6 hs6 hb6 => ?_)
  rw [splice_all _ _ (by simp [Value.cells])] at hb6
  simp only [Value.cells] at hb6
  (try revert X); refine t27 ?_; intro X hX
  refine hM _ _ _ ?_; clear hM M
  refine ok_ret ?_
  try simp only [zW, zU, reduceIte, Nat.reduceEqDiff, Nat.reduceAdd, reduceCtorEq, Q27]
  have hst : storeS H x = ((storeV H x).1, (storeV H x).2, 0) := by unfold storeS; simp [hkn, hfo]
  rw [hst]
  refine ⟨_, rfl, hb6.cells (o := 0) (row := (storeV H x).2.row) (fun j u hj => by simpa using hj), by simp, ?_⟩
  have hnB : ¬ F5 B2 := fun h => by rcases hF5 B2 h with h | h <;> first | exact hnF h | omega
  refine ⟨((hw4.chg F).trans hc5).thn hc6 (fun k hk => by omega), F5, hH5.chg hc6 (fun k hk e => hnB (e ▸ hk)), fun k hk => ?_⟩
  rcases hF5 k hk with h | h
  · exact .inl h
  · exact .inr (by omega)
end Go.Proofs.YtldeokfhipjbfaaGreatDoor
/- The heap's law in plain Lean: what is stored reads as it was. -/
set_option linter.unusedVariables false
set_option linter.unusedSimpArgs false
namespace Go.Proofs.YtldeokfhipjbfaaGreatDoor
open Go Go.Proofs.Vg Go.RowKit

/-- The words of an object lead to earlier objects. -/
def Desc (H : List Ob) : Prop := ∀ (i : Nat) (o : Ob), H[i]? = some o → ∀ x ∈ o.list, 0 ≤ x.r ∧ x.r ≤ (i : Int)
def LimH (H : List Ob) : Prop := ∀ o ∈ H, o.list.length ≤ 1048576
theorem LimH.args {H : List Ob} (h : LimH H) (x : Wd) : (argsOf H x).length ≤ 1048576 := by
  unfold argsOf
  cases ho : objAt H x.r with
  | none => simp [argsO]
  | some o =>
    have hm : o ∈ H := by
      unfold objAt at ho
      split at ho
      · exact List.mem_of_getElem? ho
      · cases ho
    cases o with
    | text s => simp [argsO]
    | words s l => exact h _ hm
theorem objAt_app {H E : List Ob} {r : Int} (h : r ≤ (H.length : Int)) : objAt (H ++ E) r = objAt H r := by
  unfold objAt
  split
  · rw [List.getElem?_append_left (by omega)]
  · rfl
theorem objAt_new (H : List Ob) (o : Ob) : objAt (H ++ [o]) ((H.length : Int) + 1) = some o := by
  unfold objAt
  rw [if_pos (by omega), show ((H.length : Int) + 1 - 1).toNat = H.length by omega]
  simp
theorem rightW_app {H E : List Ob} {x : Wd} (h : rightW H x = true) : rightW (H ++ E) x = true := by
  have hr := right_ref h
  unfold rightW at h ⊢
  rw [objAt_app hr.2]
  exact h
theorem LimH.app {H : List Ob} (h : LimH H) {o : Ob} (ho : o.list.length ≤ 1048576) : LimH (H ++ [o]) := by
  intro o' hm
  rcases List.mem_append.1 hm with hm | hm
  · exact h o' hm
  · simp at hm; subst hm; exact ho

/-- What storing leaves. -/
structure Stored (H H' : List Ob) (x : Wd) (v : Val) : Prop where
  app : ∃ E, H' = H ++ E
  desc : Desc H'
  lim : LimH H'
  right : rightW H' x = true
  kind : x.k ≠ 0 ∧ x.k ≠ 9
  reads : Lds H' x v
theorem cntVs_app : ∀ (a b : List Val), cntVs (a ++ b) = cntVs a + cntVs b
  | [], b => by simp [cntVs]
  | x :: a, b => by simp only [List.cons_append, cntVs, cntVs_app a b]; omega
end Go.Proofs.YtldeokfhipjbfaaGreatDoor
/- Equal of values (the reference of chapter 7). -/
set_option linter.unusedVariables false
set_option linter.unusedSimpArgs false
namespace Go.Proofs.YtldeokfhipjbfaaGreatDoor
open Go Go.Proofs.Vg Go.RowKit

mutual
def eqV : Val → Val → Bool
  | .mk k n t a, .mk k' n' t' a' => decide (k = k') && decide (n = n') && decide (t = t') && eqVs a a'
def eqVs : List Val → List Val → Bool
  | [], [] => true
  | x :: xs, y :: ys => eqV x y && eqVs xs ys
  | _, _ => false
end
theorem eqVs_iff : ∀ (a b : List Val), eqVs a b = true ↔ a.length = b.length ∧ ∀ (i : Nat) (x y : Val), a[i]? = some x → b[i]? = some y → eqV x y = true
  | [], [] => by simp [eqVs]
  | [], y :: ys => by simp [eqVs]
  | x :: xs, [] => by simp [eqVs]
  | x :: xs, y :: ys => by
    simp only [eqVs, Bool.and_eq_true, eqVs_iff xs ys, List.length_cons]
    constructor
    · rintro ⟨h1, h2, h3⟩
      refine ⟨by omega, fun i x' y' hx hy => ?_⟩
      cases i with
      | zero => simp at hx hy; subst hx; subst hy; exact h1
      | succ i => exact h3 i x' y' (by simpa using hx) (by simpa using hy)
    · rintro ⟨h1, h2⟩
      exact ⟨h2 0 x y rfl rfl, by omega, fun i x' y' hx hy => h2 (i + 1) x' y' (by simpa using hx) (by simpa using hy)⟩

-- -- function 17
set_option maxHeartbeats 2000000 in
set_option maxRecDepth 8000 in
theorem equal_ok : ∀ (m : Nat) (x y : Val) (w : World) (r s : List Value), SizeOf.sizeOf x ≤ m → VRow w r x → VRow w s y → Rets Tryz.prog 17 [.agg r.toArray, .agg s.toArray] w (fun v w' => v = .bool (eqV x y) ∧ Ext w w') := by
  intro m
  induction m with
  | zero => intro x y w r s hm; cases x; simp at hm
  | succ m ih =>
    rintro ⟨k, n, t, a⟩ ⟨k', n', t', a'⟩ w r s hm hr hs
    simp only [VRow] at hr hs
    obtain ⟨v, rfl, hv1, hv2, rows, hsl, hrows⟩ := hr
    obtain ⟨v', rfl, hv1', hv2', rows', hsl', hrows'⟩ := hs
    obtain ⟨A, cp, rfl, hlen, hcell⟩ := hsl
    obtain ⟨A', cp', rfl, hlen', hcell'⟩ := hsl'
    have hl := hrows.length
    have hl' := hrows'.length
    refine rets_of_ok Tryz.func17 rfl rfl ?_
    refine ok_seq (fun M hM => ok_region rfl ?_)
    (try revert X); refine t17 ?_; intro X hX
    refine Runs.box (fun w1 he1 hz1 hb1 => ?_)
    (try revert X); refine t17 ?_; intro X hX
    refine Runs.box (fun w2 he2 hz2 hb2 => ?_)
    (try revert X); refine t17 ?_; intro X hX
    refine hM _ _ _ ?_; clear hM M
    generalize hB1 : w.heap.size = B1 at *
    generalize hB2 : w1.heap.size = B2 at *
    have hb1' := hb1.ext he2
    simp only [Value.cells] at hb1' hb2
    have he02 := he1.trans he2
    have hA1 : ∀ j u, [Value.int .i64 k, .int .i64 n, .string t, .slice A rows.length cp][j]? = some u → w2.cell? ⟨B1, j, none⟩ = some u := fun j u hj => hb1'.cell hj
    have hA2 : ∀ j u, [Value.int .i64 k', .int .i64 n', .string t', .slice A' rows'.length cp'][j]? = some u → w2.cell? ⟨B2, j, none⟩ = some u := fun j u hj => hb2.cell hj
    rw [hl] at hA1
    rw [hl'] at hA2
    clear hb1 hb2 hb1'
    refine ok_join [(2, .pointer (some ⟨B1, 0, none⟩)), (3, .pointer (some ⟨B2, 0, none⟩))] (fun w' => w' = w2 ∧ k = k' ∧ n = n' ∧ t = t' ∧ a.length = a'.length) ?_ ?_
    · refine ok_seq (fun M hM => ok_region rfl ?_)
      (try revert X); refine t17 ?_; intro X hX
      refine ⟨_, hA1 0 _ rfl, ?_⟩
      (try revert X); refine t17 ?_; intro X hX
      refine ⟨_, hA2 0 _ rfl, ?_⟩
      (try revert X); refine t17 ?_; intro X hX
      refine ⟨fun h => ?_, fun h => ?_⟩
      · have e1 : k = k' := by simpa using h
        clear h
        (try revert X); refine t17 ?_; intro X hX
        refine ⟨_, hA1 1 _ rfl, ?_⟩
        (try revert X); refine t17 ?_; intro X hX
        refine ⟨_, hA2 1 _ rfl, ?_⟩
        (try revert X); refine t17 ?_; intro X hX
        refine ⟨fun h => ?_, fun h => ?_⟩
        · have e2 : n = n' := by simpa using h
          clear h
          (try revert X); refine t17 ?_; intro X hX
          refine ⟨_, hA1 2 _ rfl, ?_⟩
          (try revert X); refine t17 ?_; intro X hX
          refine ⟨_, hA2 2 _ rfl, ?_⟩
          (try revert X); refine t17 ?_; intro X hX
          refine ⟨fun h => ?_, fun h => ?_⟩
          · have e3 : t = t' := by simpa using h
            clear h
            (try revert X); refine t17 ?_; intro X hX
            refine ⟨_, hA1 3 _ rfl, ?_⟩
            (try revert X); refine t17 ?_; intro X hX
            refine ⟨_, hA2 3 _ rfl, ?_⟩
            (try revert X); refine t17 ?_; intro X hX
            refine hM _ _ _ ?_; clear hM M
            refine ok_ifn rfl (fun hc => ?_) (fun hc => ok_skip ?_)
            · refine ok_seq (fun M hM => ok_region rfl ?_); (try revert X); refine t17 ?_; intro X hX
              refine hM _ _ _ ?_; clear hM M
              refine ok_ret ?_
              try simp only [zW, zU, reduceIte, Nat.reduceEqDiff, Nat.reduceAdd, reduceCtorEq, Q17]
              refine ⟨?_, he02⟩
              have hne : eqVs a a' = false := by
                cases hx : eqVs a a' with
                | false => rfl
                | true => have := ((eqVs_iff a a').1 hx).1; omega
              simp [eqV, hne]
            · try simp only [zW, zU, reduceIte, Nat.reduceEqDiff, Nat.reduceAdd, reduceCtorEq, Q17]
              exact ⟨by simp [sub, Env.get], e1, e2, e3, by omega⟩
          · (try revert X); refine t17 ?_; intro X hX
            refine hM _ _ _ ?_; clear hM M
            refine ok_cond rfl (fun _ => ?_) (fun h => by cases h)
            refine ok_seq (fun M hM => ok_region rfl ?_); (try revert X); refine t17 ?_; intro X hX
            refine hM _ _ _ ?_; clear hM M
            refine ok_ret ?_
            try simp only [zW, zU, reduceIte, Nat.reduceEqDiff, Nat.reduceAdd, reduceCtorEq, Q17]
            refine ⟨?_, he02⟩
            have hne : ¬ t = t' := by simpa using h
            simp [eqV, hne]
        · (try revert X); refine t17 ?_; intro X hX
          refine hM _ _ _ ?_; clear hM M
          refine ok_cond rfl (fun _ => ?_) (fun h => by cases h)
          refine ok_seq (fun M hM => ok_region rfl ?_); (try revert X); refine t17 ?_; intro X hX
          refine hM _ _ _ ?_; clear hM M
          refine ok_ret ?_
          try simp only [zW, zU, reduceIte, Nat.reduceEqDiff, Nat.reduceAdd, reduceCtorEq, Q17]
          refine ⟨?_, he02⟩
          have hne : ¬ n = n' := by simpa using h
          simp [eqV, hne]
      · (try revert X); refine t17 ?_; intro X hX
        refine hM _ _ _ ?_; clear hM M
        refine ok_cond rfl (fun _ => ?_) (fun h => by cases h)
        refine ok_seq (fun M hM => ok_region rfl ?_); (try revert X); refine t17 ?_; intro X hX
        refine hM _ _ _ ?_; clear hM M
        refine ok_ret ?_
        try simp only [zW, zU, reduceIte, Nat.reduceEqDiff, Nat.reduceAdd, reduceCtorEq, Q17]
        refine ⟨?_, he02⟩
        have hne : ¬ k = k' := by simpa using h
        simp [eqV, hne]
    rintro w3 ⟨rfl, rfl, rfl, rfl, hll⟩
    refine ok_seq (fun M0 hM0 => ?_)
    refine ok_seq (fun M hM => ok_region rfl ?_); (try revert X); refine t17 ?_; intro X hX
    refine hM _ _ _ ?_; clear hM M
    refine ok_block ?_
    refine ok_loop (S := Nat) (fun i => [(2, .pointer (some ⟨B1, 0, none⟩)), (3, .pointer (some ⟨B2, 0, none⟩)), (5, .int .i64 (i : Int))]) (fun i w' => Ext w3 w' ∧ i ≤ a.length ∧ ∀ (j : Nat) (x y : Val), j < i → a[j]? = some x → a'[j]? = some y → eqV x y = true) (fun i => a.length - i) 0 ?_ ?_ ?_
    · simp [sub, Env.get]
    · exact ⟨Ext.refl _, Nat.zero_le _, fun j x y h => absurd h (Nat.not_lt_zero _)⟩
    rintro i w4 ⟨he4, hi, hall⟩
    refine ok_seq (fun M1 hM1 => ?_)
    refine ok_seq (fun M hM => ok_region rfl ?_)
    (try revert X); refine t17 ?_; intro X hX
    refine ⟨_, he4.cell (hA1 3 _ rfl), ?_⟩
    (try revert X); refine t17 ?_; intro X hX
    refine hM _ _ _ ?_; clear hM M
    refine ok_if rfl (fun hc => ok_skip ?_) (fun hc => ok_exit ?_)
    rotate_left
    · try simp only [zW, zU, reduceIte, Nat.reduceEqDiff, Nat.reduceAdd, reduceCtorEq, Q17]
      refine hM0 _ _ _ ?_; clear hM0 M0 hM1 M1
      refine ok_seq (fun M hM => ok_region rfl ?_); (try revert X); refine t17 ?_; intro X hX
      refine hM _ _ _ ?_; clear hM M
      refine ok_ret ?_
      try simp only [zW, zU, reduceIte, Nat.reduceEqDiff, Nat.reduceAdd, reduceCtorEq, Q17]
      refine ⟨?_, he02.trans he4⟩
      have : eqVs a a' = true := (eqVs_iff a a').2 ⟨hll, fun j x y hx hy => hall j x y (by have := (List.getElem?_eq_some_iff.1 hx).1; omega) hx hy⟩
      simp [eqV, this]
    · try simp only [zW, zU, reduceIte, Nat.reduceEqDiff, Nat.reduceAdd, reduceCtorEq, Q17]
      refine hM1 _ _ _ ?_; clear hM1 M1
      have hil : i < a.length := by omega
      have hxi : a[i]? = some a[i] := List.getElem?_eq_getElem hil
      have hyi : a'[i]? = some (a'[i]'(by omega)) := List.getElem?_eq_getElem (by omega)
      obtain ⟨rr, hrr, hvr⟩ := hrows.get i _ hxi
      obtain ⟨ss, hss, hvs⟩ := hrows'.get i _ hyi
      obtain ⟨b, o, rfl, hcr⟩ := hcell i rr hrr
      obtain ⟨b', o', rfl, hcs⟩ := hcell' i ss hss
      have hr4 : rr.length = 4 := by generalize a[i] = q at hvr; cases q; simp only [VRow] at hvr; obtain ⟨_, rfl, _⟩ := hvr; rfl
      have hs4 : ss.length = 4 := by generalize a'[i] = q at hvs; cases q; simp only [VRow] at hvs; obtain ⟨_, rfl, _⟩ := hvs; rfl
      have hsz : SizeOf.sizeOf a[i] ≤ m := by
        have := List.sizeOf_lt_of_mem (List.getElem_mem hil)
        simp at hm
        omega
      refine ok_seq (fun M1 hM1 => ok_block ?_)
      refine ok_seq (fun M hM => ok_draw 12 [] (Ext _) Fx.mixed (by decide) rfl (by decide +kernel) (by decide +kernel) (Ext.drew _) ?_); (try revert X); refine t17 ?_; intro X hX
      refine ⟨_, fun w5 h => h.cell (he4.cell (hA1 3 _ rfl)), ?_⟩
      (try revert X); refine t17 ?_; intro X hX
      refine ⟨by omega, by omega, ?_⟩
      (try revert X); refine t17 ?_; intro X hX
      refine ⟨rr, hr4, fun w5 h => h.cellsAt (he4.cellsAt (he02.cellsAt hcr)), ?_⟩
      (try revert X); refine t17 ?_; intro X hX
      refine ⟨_, fun w5 h => h.cell (he4.cell (hA2 3 _ rfl)), ?_⟩
      (try revert X); refine t17 ?_; intro X hX
      refine ⟨by omega, by omega, ?_⟩
      (try revert X); refine t17 ?_; intro X hX
      refine ⟨ss, hs4, fun w5 h => h.cellsAt (he4.cellsAt (he02.cellsAt hcs)), ?_⟩
      (try revert X); refine t17 ?_; intro X hX
      refine ⟨.bool (eqV a[i] (a'[i]'(by omega))), fun w5 h5 => Inv.call Fx.en17 (ih a[i] (a'[i]'(by omega)) w5 rr ss hsz (VRow.ext ((he02.trans he4).trans h5) _ _ hvr) (VRow.ext ((he02.trans he4).trans h5) _ _ hvs)) (fun v w6 ⟨h1, h2⟩ => ⟨h1, h5.trans h2⟩), ?_⟩
      (try revert X); refine t17 ?_; intro X hX
      intro w5 he5
      (try revert X); refine t17 ?_; intro X hX
      refine hM _ _ _ ?_; clear hM M
      refine ok_cond rfl (fun hc2 => ?_) (fun hc2 => ok_skip ?_)
      · refine ok_seq (fun M hM => ok_region rfl ?_); (try revert X); refine t17 ?_; intro X hX
        refine hM _ _ _ ?_; clear hM M
        refine ok_ret ?_
        try simp only [zW, zU, reduceIte, Nat.reduceEqDiff, Nat.reduceAdd, reduceCtorEq, Q17]
        refine ⟨?_, (he02.trans he4).trans he5⟩
        have hne : eqVs a a' = false := by
          cases hx : eqVs a a' with
          | false => rfl
          | true =>
            have := ((eqVs_iff a a').1 hx).2 i _ _ hxi hyi
            rw [this] at hc2; cases hc2
        simp [eqV, hne]
      · try simp only [zW, zU, reduceIte, Nat.reduceEqDiff, Nat.reduceAdd, reduceCtorEq, Q17]
        refine hM1 _ _ _ ?_; clear hM1 M1
        refine ok_region rfl ?_
        (try revert X); refine t17 ?_; intro X hX
        refine ⟨by simp only [inI]; omega, ?_⟩
        (try revert X); refine t17 ?_; intro X hX
        refine ⟨i + 1, by simp [sub, Env.get], ⟨he4.trans he5, by omega, fun j x y hj hx hy => ?_⟩, by omega⟩
        rcases Nat.lt_or_ge j i with h | h
        · exact hall j x y h hx hy
        · have : j = i := by omega
          subst this
          rw [hxi] at hx; rw [hyi] at hy
          cases hx; cases hy
          simpa using hc2
end Go.Proofs.YtldeokfhipjbfaaGreatDoor
/- few: values with few parts. -/
set_option linter.unusedVariables false
set_option linter.unusedSimpArgs false
namespace Go.Proofs.YtldeokfhipjbfaaGreatDoor
open Go Go.Proofs.Vg Go.RowKit
theorem eqV_refl : ∀ (m : Nat) (x : Val), SizeOf.sizeOf x ≤ m → eqV x x = true := by
  intro m
  induction m with
  | zero => intro x h; cases x; simp at h
  | succ m ih =>
    rintro ⟨k, n, t, a⟩ h
    simp only [eqV, decide_true, Bool.true_and]
    refine (eqVs_iff a a).2 ⟨rfl, fun i x y hx hy => ?_⟩
    rw [hx] at hy; cases hy
    have := List.sizeOf_lt_of_mem (List.mem_of_getElem? hx)
    simp at h
    exact ih x (by omega)
-- -- function 60
set_option maxHeartbeats 2000000 in
set_option maxRecDepth 8000 in
theorem few1_ok (w : World) (r : List Value) (hr4 : r.length = 4) (B3 Bl : Nat) (hB : w.cell? ⟨B3, 0, none⟩ = some (ptrOf Bl)) {R : Value → World → Prop} (h : ∀ w', Ext w w' → Rets Tryz.prog 25 [.agg r.toArray, ptrOf Bl] w' (fun v w'' => ∃ b, v = .bool b ∧ R (.bool (!b)) w'')) : Rets Tryz.prog 60 [.agg r.toArray, ptrOf B3] w R := by
  refine rets_of_ok Tryz.func60 rfl rfl ?_
  refine ok_seq (fun M hM => ok_region rfl ?_)
  (try revert X); refine t60 ?_; intro X hX
  refine Runs.box (fun w1 he1 hz1 hb1 => ?_)
  simp only [Value.cells] at hb1
  (try revert X); refine t60 ?_; intro X hX
  refine hM _ _ _ ?_; clear hM M
  refine ok_seq (fun M hM => ok_region rfl ?_)
  (try revert X); refine t60 ?_; intro X hX
  refine ⟨r, hr4, hb1.cells (o := 0) (fun j u hj => by simpa using hj), ?_⟩
  (try revert X); refine t60 ?_; intro X hX
  refine ⟨_, he1.cell hB, ?_⟩
  (try revert X); refine t60 ?_; intro X hX
  refine Inv.call Fx.en25 (h w1 he1) ?_
  rintro v w2 ⟨b, rfl, hR⟩
  (try revert X); refine t60 ?_; intro X hX
  refine hM _ _ _ ?_; clear hM M
  refine ok_ret ?_
  try simp only [zW, zU, reduceIte, Nat.reduceEqDiff, Nat.reduceAdd, reduceCtorEq, Q60]
  exact hR

-- -- function 25
set_option maxHeartbeats 4000000 in
set_option maxRecDepth 8000 in
theorem few_ok : ∀ (m : Nat) (x : Val) (w : World) (S : Nat → Prop) (r : List Value) (Bl : Nat) (L : Int), SizeOf.sizeOf x ≤ m → VRowS w S r x → ¬ S Bl → Blk w Bl [.int .i64 L] 3 → 0 ≤ L → L ≤ 1000000 →
    Rets Tryz.prog 25 [.agg r.toArray, ptrOf Bl] w (fun v w' => ∃ b L', v = .bool b ∧ Blk w' Bl [.int .i64 L'] 3 ∧ Chg (· = Bl) w w' ∧ (b = true → L' = L - cntV x ∧ 0 ≤ L')) := by
  intro m
  induction m with
  | zero => intro x w S r Bl L hm; cases x; simp at hm
  | succ m ih =>
    rintro ⟨k, n, t, a⟩ w S r Bl L hm hr hS hBl h0 h1
    have hrow := VRowS.row _ _ hr
    simp only [VRowS] at hr
    obtain ⟨v, rfl, hv1, hv2, rows, hsl, hrows⟩ := hr
    obtain ⟨A, cp, rfl, hlen, hcell⟩ := hsl
    have hl := hrows.length
    have hBll := hBl.lt
    refine rets_of_ok Tryz.func25 rfl rfl ?_
    refine ok_seq (fun M hM => ok_region rfl ?_)
    (try revert X); refine t25 ?_; intro X hX
    refine Runs.box (fun w1 he1 hz1 hb1 => ?_)
    generalize hB1 : w.heap.size = B1 at hz1 hb1
    simp only [Value.cells] at hb1
    rw [hl] at hb1
    (try revert X); refine t25 ?_; intro X hX
    refine Runs.box (fun w2 he2 hz2 hb2 => ?_)
    generalize hB2 : w1.heap.size = B2 at hz2 hb2
    simp only [Value.cells] at hb2
    (try revert X); refine t25 ?_; intro X hX
    refine hM _ _ _ ?_; clear hM M
    have hb12 := hb1.ext he2
    have hBl2 := (hBl.ext he1).ext he2
    refine ok_seq (fun M hM => ok_region rfl ?_)
    (try revert X); refine t25 ?_; intro X hX
    refine ⟨_, hb2.cell (j := 0) rfl, ?_⟩
    (try revert X); refine t25 ?_; intro X hX
    refine ⟨_, hBl2.cell (j := 0) rfl, ?_⟩
    (try revert X); refine t25 ?_; intro X hX
    refine ⟨by simp only [inI]; omega, ?_⟩
    (try revert X); refine t25 ?_; intro X hX
    refine Runs.store hBl2 Fx.zi3 rfl (by intro u hu; simp [Value.cells] at hu; subst hu; rfl) (by simp) (fun w3 hc3 hs3 hb3 => ?_)
    rw [splice_all _ _ (by simp [Value.cells])] at hb3
    simp only [Value.cells] at hb3
    (try revert X); refine t25 ?_; intro X hX
    refine hM _ _ _ ?_; clear hM M
    have hcA : Chg (· = Bl) w w3 := ((he1.trans he2).chg _).trans hc3
    have hb13 := hb12.chg hc3 (by omega)
    have hb23 := hb2.chg hc3 (by omega)
    refine ok_seq (fun M hM => ok_region rfl ?_)
    (try revert X); refine t25 ?_; intro X hX
    refine ⟨_, hb23.cell (j := 0) rfl, ?_⟩
    (try revert X); refine t25 ?_; intro X hX
    refine ⟨_, hb3.cell (j := 0) rfl, ?_⟩
    (try revert X); refine t25 ?_; intro X hX
    refine ⟨fun h => ?_, fun h => ?_⟩
    rotate_left
    · (try revert X); refine t25 ?_; intro X hX
      refine hM _ _ _ ?_; clear hM M
      refine ok_ret ?_
      try simp only [zW, zU, reduceIte, Nat.reduceEqDiff, Nat.reduceAdd, reduceCtorEq, Q25]
      exact ⟨false, L - 1, rfl, hb3, hcA, fun h => by cases h⟩
    have hL1 : 0 ≤ L - 1 := by simpa using h
    (try revert X); refine t25 ?_; intro X hX
    refine ⟨_, hb13.cell (j := 2) rfl, ?_⟩
    (try revert X); refine t25 ?_; intro X hX
    refine ⟨fun h => ?_, fun h => ?_⟩
    rotate_left
    · (try revert X); refine t25 ?_; intro X hX
      refine hM _ _ _ ?_; clear hM M
      refine ok_ret ?_
      try simp only [zW, zU, reduceIte, Nat.reduceEqDiff, Nat.reduceAdd, reduceCtorEq, Q25]
      exact ⟨false, L - 1, rfl, hb3, hcA, fun h => by cases h⟩
    (try revert X); refine t25 ?_; intro X hX
    refine ⟨_, hb13.cell (j := 3) rfl, ?_⟩
    (try revert X); refine t25 ?_; intro X hX
    refine Inv.call Fx.en59 (containsV_ok w3 A a.length cp _ (by omega)
      (fun i w' => ∃ Li, Blk w' Bl [.int .i64 Li] 3 ∧ Chg (· = Bl) w3 w' ∧ Li = L - 1 - cntVs (a.take i) ∧ 0 ≤ Li)
      (fun w' => ∃ Li, Blk w' Bl [.int .i64 Li] 3 ∧ Chg (· = Bl) w3 w') ⟨L - 1, hb3, Chg.refl _ _, by simp [cntVs], hL1⟩ ?_) ?_
    · rintro i w4 hil ⟨Li, hb4, hc4, hLi, hLi0⟩
      have hxi : a[i]? = some a[i] := List.getElem?_eq_getElem hil
      obtain ⟨rr, hrr, hvr⟩ := hrows.get i _ hxi
      obtain ⟨b, o, rfl, hbS, hcr⟩ := hcell i rr hrr
      have hsz : SizeOf.sizeOf a[i] ≤ m := by
        have := List.sizeOf_lt_of_mem (List.getElem_mem hil)
        simp at hm
        omega
      have hc04 := hcA.trans hc4
      have hvr4 : VRowS w4 S rr a[i] := VRowS.chg hc04 (fun k hk => ⟨hk, fun e => hS (e ▸ hk)⟩) _ _ hvr
      have hr4 := (VRowS.row _ _ hvr).len
      refine ⟨rr, hr4, ⟨b, o, rfl, hc04.cellsAt hcr (fun e => hS (e ▸ hbS))⟩, Inv.clos (cap := [ptrOf B2]) (R := fun v w5 => ∃ b L', v = .bool (!b) ∧ Blk w5 Bl [.int .i64 L'] 3 ∧ Chg (· = Bl) w4 w5 ∧ (b = true → L' = Li - cntV a[i] ∧ 0 ≤ L')) Fx.en60 (few1_ok w4 rr hr4 B2 Bl ((hb23.chg hc4 (by omega)).cell (j := 0) rfl) (fun w5 he5 => (ih a[i] w5 S rr Bl Li hsz (VRowS.ext hvr4 he5) hS (hb4.ext he5) hLi0 (by omega)).mono ?_)) ?_⟩
      · rintro v w6 ⟨b, L', rfl, h2, h3, h4⟩
        exact ⟨b, rfl, b, L', rfl, h2, (he5.chg _).trans h3, h4⟩
      · rintro v w5 ⟨b, L', rfl, h2, h3, h4⟩
        refine ⟨_, rfl, fun hb => ⟨L', h2, hc4.trans h3⟩, fun hb => ?_⟩
        have hbt : b = true := by simpa using hb
        obtain ⟨h5, h6⟩ := h4 hbt
        refine ⟨L', h2, hc4.trans h3, ?_, h6⟩
        rw [List.take_succ_eq_append_getElem hil, cntVs_app]
        simp only [cntVs]
        rw [h5, hLi]
        push_cast
        omega
    rintro v w4 ⟨b, rfl, hbt, hbf⟩
    (try revert X); refine t25 ?_; intro X hX
    refine hM _ _ _ ?_; clear hM M
    refine ok_ret ?_
    try simp only [zW, zU, reduceIte, Nat.reduceEqDiff, Nat.reduceAdd, reduceCtorEq, Q25]
    cases b with
    | true =>
      obtain ⟨Li, h2, h3⟩ := hbt rfl
      exact ⟨false, Li, rfl, h2, hcA.trans h3, fun h => by cases h⟩
    | false =>
      obtain ⟨Li, h2, h3, h4, h5⟩ := hbf rfl
      rw [List.take_of_length_le (Nat.le_refl _)] at h4
      refine ⟨true, Li, rfl, h2, hcA.trans h3, fun _ => ⟨?_, h5⟩⟩
      simp only [cntV]
      rw [h4]; push_cast; omega
end Go.Proofs.YtldeokfhipjbfaaGreatDoor
/- Words compared. -/
set_option linter.unusedVariables false
set_option linter.unusedSimpArgs false
namespace Go.Proofs.YtldeokfhipjbfaaGreatDoor
open Go Go.Proofs.Vg Go.RowKit

section
variable {P : Program} {w : World} {t : TypeId} {x y : Operand} {nx : Value → World → Prop}
theorem run_eq_int {t0 : TypeId} {k0 : IntKind} (h0 : P.underlying t0 = some (.int k0)) (a b : Int) (d : Nat) : (Op.equalIn (d + 1) t0 (.int .i64 a) (.int .i64 b)).run P w = .ok (decide (a = b)) w := by
  rw [Op.equalIn]
  by_cases q : a = b <;> simp [run_underlying h0, Result.andThen, q]
theorem run_part_int {t0 : TypeId} {k0 : IntKind} (h0 : P.underlying t0 = some (.int k0)) (cs : Array Value) (o : Nat) (v : Value) (h : cs[o]? = some v) : (part t0 cs o).run P w = .ok v w := by
  simp [part, isAgg, run_underlying h0, Result.andThen, h]
set_option maxHeartbeats 2000000 in
theorem run_eq_wd {n0 n1 n2 : String} {t0 t1 t2 : TypeId} {e0 e1 e2 : Bool} {g0 g1 g2 p0 p1 p2 : String} {b0 b1 b2 : Nat} {k0 k1 k2 : IntKind}
    (ht : P.underlying t = some (.struct #[⟨n0, t0, 0, e0, g0, p0, b0⟩, ⟨n1, t1, 1, e1, g1, p1, b1⟩, ⟨n2, t2, 2, e2, g2, p2, b2⟩])) (hs : P.stoodInHeld t = false)
    (h0 : P.underlying t0 = some (.int k0)) (h1 : P.underlying t1 = some (.int k1)) (h2 : P.underlying t2 = some (.int k2)) (hn : n0 ≠ "_" ∧ n1 ≠ "_" ∧ n2 ≠ "_") (a b : Wd) (d : Nat) :
    (Op.equalIn (d + 1 + 1) t (wv a) (wv b)).run P w = .ok (decide (a.k = b.k ∧ a.n = b.n ∧ a.r = b.r)) w := by
  rw [Op.equalIn]
  obtain ⟨ka, na, ra⟩ := a
  obtain ⟨kb, nb, rb⟩ := b
  have c0 : ∀ (u v z : Value), (part t0 #[u, v, z] 0).run P w = .ok u w := fun u v z => run_part_int h0 _ _ _ rfl
  have c1 : ∀ (u v z : Value), (part t1 #[u, v, z] 1).run P w = .ok v w := fun u v z => run_part_int h1 _ _ _ rfl
  have c2 : ∀ (u v z : Value), (part t2 #[u, v, z] 2).run P w = .ok z w := fun u v z => run_part_int h2 _ _ _ rfl
  have d0 := fun a b => run_eq_int (w := w) h0 a b d
  have d1 := fun a b => run_eq_int (w := w) h1 a b d
  have d2 := fun a b => run_eq_int (w := w) h2 a b d
  by_cases q0 : ka = kb
  · by_cases q1 : na = nb
    · by_cases q2 : ra = rb
      · simp [run_underlying ht, Result.andThen, wv, Wd.row, hs, hn.1, hn.2.1, hn.2.2, c0, c1, c2, d0, d1, d2, q0, q1, q2]
      · simp [run_underlying ht, Result.andThen, wv, Wd.row, hs, hn.1, hn.2.1, hn.2.2, c0, c1, c2, d0, d1, d2, q0, q1, q2]
    · simp [run_underlying ht, Result.andThen, wv, Wd.row, hs, hn.1, hn.2.1, hn.2.2, c0, c1, c2, d0, d1, d2, q0, q1]
  · simp [run_underlying ht, Result.andThen, wv, Wd.row, hs, hn.1, hn.2.1, hn.2.2, c0, c1, c2, d0, d1, d2, q0]
end
theorem Fx.us75 : Tryz.prog.underlying 75 = some (.struct #[⟨"Kind", 3, 0, false, "", "", 0⟩, ⟨"Num", 2, 1, false, "", "", 8⟩, ⟨"Ref", 3, 2, false, "", "", 16⟩]) := by kernel_rfl
theorem Fx.si75 : Tryz.prog.stoodInHeld 75 = false := by kernel_rfl
theorem Fx.eg75 : Tryz.prog.eqGuardType Tryz.prog.depth 75 = false := by kernel_rfl
theorem eq75 (a b : Wd) (w : World) : (Op.equal 75 (wv a) (wv b)).run Tryz.prog w = .ok (decide (a.k = b.k ∧ a.n = b.n ∧ a.r = b.r)) w :=
  run_eq_wd (d := 9998) Fx.us75 Fx.si75 Fx.un3 Fx.un2 Fx.un3 (by decide) a b
section
variable {w : World} {x y : Operand} {nx : Value → World → Prop}
theorem Runs.wdEq75 {a b : Wd} (h : nx (.bool (decide (a.k = b.k ∧ a.n = b.n ∧ a.r = b.r))) w) : Runs Tryz.prog (do eqGuard .eql 75 x y (wv a) (wv b); binOp .eql 75 (wv a) (wv b)) w nx := by
  refine ⟨_, w, ?_, h⟩
  have he := eq75 a b w
  unfold wv at he ⊢
  simp [eqGuard, binOp, he, Fx.eg75, Result.andThen]
end
end Go.Proofs.YtldeokfhipjbfaaGreatDoor
/- slices.Equal of words. -/
set_option linter.unusedVariables false
set_option linter.unusedSimpArgs false
namespace Go.Proofs.YtldeokfhipjbfaaGreatDoor
open Go Go.Proofs.Vg Go.RowKit

end Go.Proofs.YtldeokfhipjbfaaGreatDoor
