/- Part 11 of 13: Y3, Y4, Y5, Y6, Y7, Y8, Y9. -/
import Derived.Test.YtldeokfhipjbfaaGreatDoorM10
import Derived.Test.YtldeokfhipjbfaaGreatDoorM3
/- The reference of chapter 7: comparable, order, Compare. -/
set_option linter.unusedVariables false
set_option linter.unusedSimpArgs false
namespace Go.Proofs.Vg
open Go Go.RowKit Go.Proofs.YtldeokfhipjbfaaGreatDoor
abbrev sortK (k : Int) : Prop := k = 1 ∨ k = 2 ∨ k = 3 ∨ k = 4 ∨ k = 7
mutual
def sortV : Val → Bool
  | .mk k n t a => decide (sortK k) && sortVs a
def sortVs : List Val → Bool
  | [] => true
  | x :: xs => sortV x && sortVs xs
end
theorem sortVs_iff : ∀ (l : List Val), sortVs l = true ↔ ∀ (i : Nat) (x : Val), l[i]? = some x → sortV x = true
  | [] => by simp [sortVs]
  | x :: xs => by
    simp only [sortVs, Bool.and_eq_true, sortVs_iff xs]
    constructor
    · rintro ⟨h1, h2⟩ i y hy
      cases i with
      | zero => simp at hy; subst hy; exact h1
      | succ i => exact h2 i y (by simpa using hy)
    · intro h
      exact ⟨h 0 x rfl, fun i y hy => h (i + 1) y (by simpa using hy)⟩
mutual
def cmpV : Val → Val → Int
  | .mk k n t a, .mk k' n' t' a' => if cmpI k k' ≠ 0 then cmpI k k' else
      if (if k = 3 then cmpT t t' else if k = 7 then cmpI (a.length : Int) (a'.length : Int) else cmpI n n') ≠ 0 then (if k = 3 then cmpT t t' else if k = 7 then cmpI (a.length : Int) (a'.length : Int) else cmpI n n') else cmpVs a a'
def cmpVs : List Val → List Val → Int
  | [], [] => 0
  | [], _ :: _ => -1
  | _ :: _, [] => 1
  | x :: xs, y :: ys => if cmpV x y ≠ 0 then cmpV x y else cmpVs xs ys
end
/-- What is equal so far, is passed over. -/
theorem cmpVs_drop : ∀ (i : Nat) (a b : List Val), i ≤ a.length → i ≤ b.length → (∀ (j : Nat) (x y : Val), j < i → a[j]? = some x → b[j]? = some y → cmpV x y = 0) → cmpVs a b = cmpVs (a.drop i) (b.drop i)
  | 0, a, b, _, _, _ => by simp
  | i + 1, [], b, h, _, _ => by simp at h
  | i + 1, _ :: _, [], _, h, _ => by simp at h
  | i + 1, x :: a, y :: b, h1, h2, h => by
    rw [cmpVs, if_neg (by rw [h 0 x y (by omega) rfl rfl]; simp)]
    simp only [List.drop_succ_cons]
    exact cmpVs_drop i a b (by simpa using h1) (by simpa using h2) (fun j u v hj hu hv => h (j + 1) u v (by omega) (by simpa using hu) (by simpa using hv))
theorem cmpVs_at {a b : List Val} {i : Nat} {x y : Val} (hx : a[i]? = some x) (hy : b[i]? = some y) (h : ∀ (j : Nat) (x y : Val), j < i → a[j]? = some x → b[j]? = some y → cmpV x y = 0) (hne : cmpV x y ≠ 0) : cmpVs a b = cmpV x y := by
  have h1 := (List.getElem?_eq_some_iff.1 hx).1
  have h2 := (List.getElem?_eq_some_iff.1 hy).1
  rw [cmpVs_drop i a b (by omega) (by omega) h, List.drop_eq_getElem_cons h1, List.drop_eq_getElem_cons h2]
  rw [List.getElem?_eq_getElem h1] at hx
  rw [List.getElem?_eq_getElem h2] at hy
  cases hx; cases hy
  rw [cmpVs, if_pos hne]
theorem cmpVs_end {a b : List Val} (hl : a.length ≤ b.length ∨ b.length ≤ a.length) (h : ∀ (j : Nat) (x y : Val), a[j]? = some x → b[j]? = some y → cmpV x y = 0) : cmpVs a b = cmpI (a.length : Int) (b.length : Int) := by
  rw [cmpVs_drop (min a.length b.length) a b (by omega) (by omega) (fun j x y _ => h j x y)]
  unfold cmpI
  rcases Nat.lt_trichotomy a.length b.length with h1 | h1 | h1
  · rw [Nat.min_eq_left (by omega), List.drop_of_length_le (by omega), if_pos (by omega)]
    cases hb : b.drop a.length with
    | nil => have := congrArg List.length hb; simp at this; omega
    | cons y ys => rfl
  · rw [h1, Nat.min_self, List.drop_of_length_le (by omega), List.drop_of_length_le (by omega), if_neg (by omega), if_neg (by omega)]
    rfl
  · rw [Nat.min_eq_right (by omega), List.drop_of_length_le (l := b) (by omega), if_neg (by omega), if_pos (by omega)]
    cases ha : a.drop b.length with
    | nil => have := congrArg List.length ha; simp at this; omega
    | cons y ys => rfl
end Go.Proofs.Vg
namespace Go.Proofs.YtldeokfhipjbfaaGreatDoor
open Go Go.Proofs.Vg Go.RowKit

-- -- function 106
set_option maxHeartbeats 2000000 in
set_option maxRecDepth 8000 in
theorem comparable_ok : ∀ (m : Nat) (x : Val) (w : World) (r : List Value), SizeOf.sizeOf x ≤ m → VRow w r x → Rets Tryz.prog 106 [.agg r.toArray] w (fun v w' => v = .bool (sortV x) ∧ Ext w w') := by
  intro m
  induction m with
  | zero => intro x w r hm; cases x; simp at hm
  | succ m ih =>
    rintro ⟨k, n, t, a⟩ w r hm hr
    simp only [VRow] at hr
    obtain ⟨v, rfl, hv1, hv2, rows, hsl, hrows⟩ := hr
    obtain ⟨A, cp, rfl, hlen, hcell⟩ := hsl
    have hl := hrows.length
    refine rets_of_ok Tryz.func106 rfl rfl ?_
    refine ok_seq (fun M hM => ok_region rfl ?_)
    (try revert X); refine t106 ?_; intro X hX
    refine Runs.box (fun w1 he1 hz1 hb1 => ?_)
    generalize hB1 : w.heap.size = B1 at hz1 hb1
    simp only [Value.cells] at hb1
    (try revert X); refine t106 ?_; intro X hX
    refine hM _ _ _ ?_; clear hM M
    rw [hl] at hb1
    refine ok_join [(1, ptrOf B1)] (fun w' => w' = w1 ∧ sortK k) ?_ ?_
    · refine ok_join [(1, ptrOf B1), (26, .bool (!decide (sortK k)))] (fun w' => w' = w1) ?_ ?_
      · have hk0 : w1.cell? ⟨B1, 0, none⟩ = some (.int .i64 k) := hb1.cell (j := 0) rfl
        refine ok_region rfl ?_
        (try revert X); refine t106 ?_; intro X hX
        refine ⟨_, hk0, ?_⟩
        (try revert X); refine t106 ?_; intro X hX
        by_cases h1 : k = 1
        · simp only [h1, decide_true, Bool.not_true]
          (try revert X); refine t106 ?_; intro X hX
          refine ⟨fun h => (by cases h), fun _ => ?_⟩
          (try revert X); refine t106 ?_; intro X hX
          simp [sub, Env.get, h1]
        simp only [h1, decide_false, Bool.not_false]
        (try revert X); refine t106 ?_; intro X hX
        refine ⟨fun _ => ?_, fun h => (by cases h)⟩
        (try revert X); refine t106 ?_; intro X hX
        refine ⟨_, hk0, ?_⟩
        (try revert X); refine t106 ?_; intro X hX
        by_cases h2 : k = 2
        · simp only [h2, decide_true, Bool.not_true]
          (try revert X); refine t106 ?_; intro X hX
          refine ⟨fun h => (by cases h), fun _ => ?_⟩
          (try revert X); refine t106 ?_; intro X hX
          simp [sub, Env.get, h2]
        simp only [h2, decide_false, Bool.not_false]
        (try revert X); refine t106 ?_; intro X hX
        refine ⟨fun _ => ?_, fun h => (by cases h)⟩
        (try revert X); refine t106 ?_; intro X hX
        refine ⟨_, hk0, ?_⟩
        (try revert X); refine t106 ?_; intro X hX
        by_cases h3 : k = 3
        · simp only [h3, decide_true, Bool.not_true]
          (try revert X); refine t106 ?_; intro X hX
          refine ⟨fun h => (by cases h), fun _ => ?_⟩
          (try revert X); refine t106 ?_; intro X hX
          simp [sub, Env.get, h3]
        simp only [h3, decide_false, Bool.not_false]
        (try revert X); refine t106 ?_; intro X hX
        refine ⟨fun _ => ?_, fun h => (by cases h)⟩
        (try revert X); refine t106 ?_; intro X hX
        refine ⟨_, hk0, ?_⟩
        (try revert X); refine t106 ?_; intro X hX
        by_cases h4 : k = 4
        · simp only [h4, decide_true, Bool.not_true]
          (try revert X); refine t106 ?_; intro X hX
          refine ⟨fun h => (by cases h), fun _ => ?_⟩
          (try revert X); refine t106 ?_; intro X hX
          simp [sub, Env.get, h4]
        simp only [h4, decide_false, Bool.not_false]
        (try revert X); refine t106 ?_; intro X hX
        refine ⟨fun _ => ?_, fun h => (by cases h)⟩
        (try revert X); refine t106 ?_; intro X hX
        refine ⟨_, hk0, ?_⟩
        (try revert X); refine t106 ?_; intro X hX
        simp [sub, Env.get, h1, h2, h3, h4]
      rintro w' rfl
      by_cases hk : sortK k
      · refine ok_cond (b := false) (by simp [ev, Env.get, hk]) (fun h => by cases h) (fun _ => ok_skip ?_)
        try simp only [zW, zU, reduceIte, Nat.reduceEqDiff, Nat.reduceAdd, reduceCtorEq, Q106]
        exact ⟨by simp [sub, Env.get], hk⟩
      · refine ok_cond (b := true) (by simp [ev, Env.get, hk]) (fun _ => ?_) (fun h => by cases h)
        refine ok_seq (fun M hM => ok_region rfl ?_); (try revert X); refine t106 ?_; intro X hX
        refine hM _ _ _ ?_; clear hM M
        refine ok_ret ?_
        exact ⟨rfl, by simp [sortV, hk], he1⟩
    rintro w2 ⟨rfl, hk⟩
    refine ok_seq (fun M0 hM0 => ?_)
    refine ok_seq (fun M hM => ok_region rfl ?_); (try revert X); refine t106 ?_; intro X hX
    refine hM _ _ _ ?_; clear hM M
    refine ok_block ?_
    refine ok_loop (S := Nat) (fun i => [(1, ptrOf B1), (3, .int .i64 (i : Int))]) (fun i w' => Ext w2 w' ∧ i ≤ a.length ∧ ∀ (j : Nat) (x : Val), j < i → a[j]? = some x → sortV x = true) (fun i => a.length - i) 0 ?_ ?_ ?_
    · simp [sub, Env.get]
    · exact ⟨Ext.refl _, Nat.zero_le _, fun j x h => absurd h (Nat.not_lt_zero _)⟩
    rintro i w4 ⟨he4, hi, hall⟩
    have hb4 := hb1.ext he4
    refine ok_seq (fun M1 hM1 => ?_)
    refine ok_seq (fun M hM => ok_region rfl ?_)
    (try revert X); refine t106 ?_; intro X hX
    refine ⟨_, hb4.cell (j := 3) rfl, ?_⟩
    (try revert X); refine t106 ?_; intro X hX
    refine hM _ _ _ ?_; clear hM M
    refine ok_if rfl (fun hc => ok_skip ?_) (fun hc => ok_exit ?_)
    rotate_left
    · try simp only [zW, zU, reduceIte, Nat.reduceEqDiff, Nat.reduceAdd, reduceCtorEq, Q106]
      refine hM0 _ _ _ ?_; clear hM0 M0 hM1 M1
      refine ok_seq (fun M hM => ok_region rfl ?_); (try revert X); refine t106 ?_; intro X hX
      refine hM _ _ _ ?_; clear hM M
      refine ok_ret ?_
      try simp only [zW, zU, reduceIte, Nat.reduceEqDiff, Nat.reduceAdd, reduceCtorEq, Q106]
      refine ⟨?_, he1.trans he4⟩
      have : sortVs a = true := (sortVs_iff a).2 fun j x hx => hall j x (by have := (List.getElem?_eq_some_iff.1 hx).1; omega) hx
      simp [sortV, this, hk]
    · try simp only [zW, zU, reduceIte, Nat.reduceEqDiff, Nat.reduceAdd, reduceCtorEq, Q106]
      refine hM1 _ _ _ ?_; clear hM1 M1
      have hil : i < a.length := by omega
      have hxi : a[i]? = some a[i] := List.getElem?_eq_getElem hil
      obtain ⟨rr, hrr, hvr⟩ := hrows.get i _ hxi
      obtain ⟨b, o, rfl, hcr⟩ := hcell i rr hrr
      have hr4 := hvr.len
      have hsz : SizeOf.sizeOf a[i] ≤ m := by
        have := List.sizeOf_lt_of_mem (List.getElem_mem hil)
        simp at hm
        omega
      have hw4 := he1.trans he4
      refine ok_seq (fun M1 hM1 => ok_block ?_)
      refine ok_seq (fun M hM => ok_region rfl ?_)
      (try revert X); refine t106 ?_; intro X hX
      refine ⟨_, hb4.cell (j := 3) rfl, ?_⟩
      (try revert X); refine t106 ?_; intro X hX
      refine ⟨by omega, by omega, ?_⟩
      (try revert X); refine t106 ?_; intro X hX
      refine ⟨rr, hr4, hw4.cellsAt hcr, ?_⟩
      (try revert X); refine t106 ?_; intro X hX
      refine Inv.call Fx.en106 (ih a[i] w4 rr hsz (VRow.ext hw4 _ _ hvr)) ?_
      rintro v w7 ⟨rfl, he7⟩
      (try revert X); refine t106 ?_; intro X hX
      refine hM _ _ _ ?_; clear hM M
      cases hkn : sortV a[i] with
      | false =>
        refine ok_cond (b := true) rfl (fun _ => ?_) (fun h => by cases h)
        refine ok_seq (fun M hM => ok_region rfl ?_); (try revert X); refine t106 ?_; intro X hX
        refine hM _ _ _ ?_; clear hM M
        refine ok_ret ?_
        try simp only [zW, zU, reduceIte, Nat.reduceEqDiff, Nat.reduceAdd, reduceCtorEq, Q106]
        refine ⟨?_, hw4.trans he7⟩
        have : sortVs a = false := by
          cases hx : sortVs a with
          | false => rfl
          | true => have := (sortVs_iff a).1 hx i _ hxi; rw [this] at hkn; cases hkn
        simp [sortV, this]
      | true =>
        refine ok_cond (b := false) rfl (fun h => by cases h) (fun _ => ok_skip ?_)
        try simp only [zW, zU, reduceIte, Nat.reduceEqDiff, Nat.reduceAdd, reduceCtorEq, Q106]
        refine hM1 _ _ _ ?_; clear hM1 M1
        refine ok_region rfl ?_
        (try revert X); refine t106 ?_; intro X hX
        refine ⟨by simp only [inI]; omega, ?_⟩
        (try revert X); refine t106 ?_; intro X hX
        refine ⟨i + 1, by simp [sub, Env.get], ⟨he4.trans he7, by omega, fun j x hj hx => ?_⟩, by omega⟩
        rcases Nat.lt_or_ge j i with h | h
        · exact hall j x h hx
        · have : j = i := by omega
          subst this
          rw [hxi] at hx
          cases hx
          exact hkn

-- -- function 107
set_option maxHeartbeats 4000000 in
set_option maxRecDepth 8000 in
theorem order7_ok : ∀ (m : Nat) (x y : Val) (w : World) (r s : List Value), SizeOf.sizeOf x ≤ m → VRow w r x → VRow w s y → Rets Tryz.prog 107 [.agg r.toArray, .agg s.toArray] w (fun v w' => v = .int .i64 (cmpV x y) ∧ Ext w w') := by
  intro m
  induction m with
  | zero => intro x y w r s hm; cases x; simp at hm
  | succ m ih =>
    rintro ⟨k, n, t, a⟩ ⟨k', n', t', a'⟩ w r s hm hr hs
    simp only [VRow] at hr hs
    obtain ⟨v, rfl, hv1, hv2, rows, hsl, hrows⟩ := hr
    obtain ⟨v', rfl, hv1', hv2', rows', hsl', hrows'⟩ := hs
    obtain ⟨A, cp, rfl, hlen, hcell⟩ := hsl
    obtain ⟨A', cp', rfl, hlen', hcell'⟩ := hsl'
    have hl := hrows.length
    have hl' := hrows'.length
    refine rets_of_ok Tryz.func107 rfl rfl ?_
    refine ok_seq (fun M hM => ok_region rfl ?_)
    (try revert X); refine t107 ?_; intro X hX
    refine Runs.box (fun w1 he1 hz1 hb1 => ?_)
    (try revert X); refine t107 ?_; intro X hX
    refine Runs.box (fun w2 he2 hz2 hb2 => ?_)
    (try revert X); refine t107 ?_; intro X hX
    refine hM _ _ _ ?_; clear hM M
    generalize hB1 : w.heap.size = B1 at *
    generalize hB2 : w1.heap.size = B2 at *
    have hb1' := hb1.ext he2
    simp only [Value.cells] at hb1' hb2
    have he02 := he1.trans he2
    have hA1 : ∀ j u, [Value.int .i64 k, .int .i64 n, .string t, .slice A rows.length cp][j]? = some u → w2.cell? ⟨B1, j, none⟩ = some u := fun j u hj => hb1'.cell hj
    have hA2 : ∀ j u, [Value.int .i64 k', .int .i64 n', .string t', .slice A' rows'.length cp'][j]? = some u → w2.cell? ⟨B2, j, none⟩ = some u := fun j u hj => hb2.cell hj
    rw [hl] at hA1
    rw [hl'] at hA2
    clear hb1 hb2 hb1'
    refine ok_join [(2, .pointer (some ⟨B1, 0, none⟩)), (3, .pointer (some ⟨B2, 0, none⟩))] (fun w' => w' = w2 ∧ k = k') ?_ ?_
    · refine ok_seq (fun M hM => ok_region rfl ?_)
      (try revert X); refine t107 ?_; intro X hX
      refine ⟨_, hA1 0 _ rfl, ?_⟩
      (try revert X); refine t107 ?_; intro X hX
      refine ⟨_, hA2 0 _ rfl, ?_⟩
      (try revert X); refine t107 ?_; intro X hX
      refine Inv.call Fx.en111 (number_cmp_ok w2 k k') ?_
      rintro v w3 ⟨rfl, rfl⟩
      (try revert X); refine t107 ?_; intro X hX
      refine hM _ _ _ ?_; clear hM M
      refine ok_seq (fun M hM => ok_region rfl ?_); (try revert X); refine t107 ?_; intro X hX
      refine hM _ _ _ ?_; clear hM M
      refine ok_ifn rfl (fun hc => ?_) (fun hc => ok_skip ?_)
      · refine ok_seq (fun M hM => ok_region rfl ?_); (try revert X); refine t107 ?_; intro X hX
        refine hM _ _ _ ?_; clear hM M
        refine ok_ret ?_
        try simp only [zW, zU, reduceIte, Nat.reduceEqDiff, Nat.reduceAdd, reduceCtorEq, Q107]
        refine ⟨?_, he02⟩
        rw [cmpV, if_pos hc]
      · try simp only [zW, zU, reduceIte, Nat.reduceEqDiff, Nat.reduceAdd, reduceCtorEq, Q107]
        refine ⟨by simp [sub, Env.get], ?_⟩
        revert hc; unfold cmpI
        split
        · intro h; omega
        · split
          · intro h; omega
          · intro; omega
    rintro w3 ⟨rfl, rfl⟩
    have hk0 : cmpI k k = 0 := by unfold cmpI; simp
    generalize hc0 : (if k = 3 then cmpT t t' else if k = 7 then cmpI (a.length : Int) (a'.length : Int) else cmpI n n') = c0
    have hcv : cmpV (.mk k n t a) (.mk k n' t' a') = if c0 ≠ 0 then c0 else cmpVs a a' := by
      rw [cmpV, if_neg (by rw [hk0]; simp), hc0]
    refine ok_seq (fun M hM => ok_region rfl ?_); (try revert X); refine t107 ?_; intro X hX
    refine hM _ _ _ ?_; clear hM M
    refine ok_join [(2, .pointer (some ⟨B1, 0, none⟩)), (3, .pointer (some ⟨B2, 0, none⟩)), (6, .int .i64 c0)] (fun w' => w' = w3) ?_ ?_
    · refine ok_seq (fun M hM => ok_region rfl ?_)
      (try revert X); refine t107 ?_; intro X hX
      refine ⟨_, hA1 0 _ rfl, ?_⟩
      (try revert X); refine t107 ?_; intro X hX
      refine hM _ _ _ ?_; clear hM M
      refine ok_block ?_
      refine ok_seq (fun M hM => ok_region rfl ?_); (try revert X); refine t107 ?_; intro X hX
      refine hM _ _ _ ?_; clear hM M
      refine ok_if rfl (fun h3 => ?_) (fun h3 => ?_)
      · refine ok_region rfl ?_
        (try revert X); refine t107 ?_; intro X hX
        refine ⟨_, hA1 2 _ rfl, ?_⟩
        (try revert X); refine t107 ?_; intro X hX
        refine ⟨_, hA2 2 _ rfl, ?_⟩
        (try revert X); refine t107 ?_; intro X hX
        refine Inv.call Fx.en112 (text_cmp_ok w3 t t') ?_
        rintro v w4 ⟨rfl, rfl⟩
        (try revert X); refine t107 ?_; intro X hX
        rw [if_pos h3] at hc0
        simp [sub, Env.get, hc0]
      rw [if_neg h3] at hc0
      refine ok_seq (fun M hM => ok_region rfl ?_); (try revert X); refine t107 ?_; intro X hX
      refine hM _ _ _ ?_; clear hM M
      refine ok_if rfl (fun h7 => ?_) (fun h7 => ?_)
      · rw [if_pos h7] at hc0
        refine ok_region rfl ?_
        (try revert X); refine t107 ?_; intro X hX
        refine ⟨_, hA1 3 _ rfl, ?_⟩
        (try revert X); refine t107 ?_; intro X hX
        refine ⟨_, hA2 3 _ rfl, ?_⟩
        (try revert X); refine t107 ?_; intro X hX
        refine Inv.call Fx.en111 (number_cmp_ok w3 a.length a'.length) ?_
        rintro v w4 ⟨rfl, rfl⟩
        (try revert X); refine t107 ?_; intro X hX
        simp [sub, Env.get, hc0]
      · rw [if_neg h7] at hc0
        refine ok_region rfl ?_
        (try revert X); refine t107 ?_; intro X hX
        refine ⟨_, hA1 1 _ rfl, ?_⟩
        (try revert X); refine t107 ?_; intro X hX
        refine ⟨_, hA2 1 _ rfl, ?_⟩
        (try revert X); refine t107 ?_; intro X hX
        refine Inv.call Fx.en111 (number_cmp_ok w3 n n') ?_
        rintro v w4 ⟨rfl, rfl⟩
        (try revert X); refine t107 ?_; intro X hX
        simp [sub, Env.get, hc0]
    rintro w4 rfl
    -- the arguments
    rw [hcv]
    generalize hres : (if c0 ≠ 0 then c0 else cmpVs a a') = res
    refine ok_seq (fun M0 hM0 => ?_)
    refine ok_seq (fun M hM => ok_region rfl ?_); (try revert X); refine t107 ?_; intro X hX
    refine hM _ _ _ ?_; clear hM M
    refine ok_block ?_
    refine ok_loop (S := Nat × Int) (fun s => [(2, .pointer (some ⟨B1, 0, none⟩)), (3, .pointer (some ⟨B2, 0, none⟩)), (6, .int .i64 s.2), (7, .int .i64 (s.1 : Int))])
      (fun s w' => Ext w4 w' ∧ s.1 ≤ a.length ∧ s.1 ≤ a'.length ∧ (s.2 ≠ 0 → s.2 = res) ∧ (s.2 = 0 → c0 = 0 ∧ ∀ (j : Nat) (x y : Val), j < s.1 → a[j]? = some x → a'[j]? = some y → cmpV x y = 0)) (fun s => a.length - s.1) (0, c0) ?_ ?_ ?_
    · simp [sub, Env.get]
    · exact ⟨Ext.refl _, Nat.zero_le _, Nat.zero_le _, fun h => by rw [← hres, if_pos h], fun h => ⟨h, fun j x y h => absurd h (Nat.not_lt_zero _)⟩⟩
    rintro ⟨i, c⟩ w5 ⟨he5, hi, hi', hcn, hcz⟩
    simp only at hi hi' hcn hcz ⊢
    refine ok_seq (fun M1 hM1 => ?_)
    refine ok_join [(2, .pointer (some ⟨B1, 0, none⟩)), (3, .pointer (some ⟨B2, 0, none⟩)), (6, .int .i64 c), (7, .int .i64 (i : Int)), (54, .bool (decide (i < a.length ∧ i < a'.length ∧ c = 0)))] (fun w' => w' = w5) ?_ ?_
    · refine ok_region rfl ?_
      (try revert X); refine t107 ?_; intro X hX
      refine ⟨_, he5.cell (hA1 3 _ rfl), ?_⟩
      (try revert X); refine t107 ?_; intro X hX
      refine ⟨fun h => ?_, fun h => ?_⟩
      · have h1 : i < a.length := by have := of_decide_eq_true h; omega
        clear h
        (try revert X); refine t107 ?_; intro X hX
        refine ⟨_, he5.cell (hA2 3 _ rfl), ?_⟩
        (try revert X); refine t107 ?_; intro X hX
        have hd1 : decide ((i : Int) < (a.length : Int)) = true := decide_eq_true (by omega)
        simp only [hd1]
        (try revert X); refine t107 ?_; intro X hX
        refine ⟨fun h => ?_, fun h => ?_⟩
        · have h2 : i < a'.length := by have := of_decide_eq_true h; omega
          clear h
          have hd2 : decide ((i : Int) < (a'.length : Int)) = true := decide_eq_true (by omega)
          simp only [hd2]
          (try revert X); refine t107 ?_; intro X hX
          by_cases h3 : c = 0
          · simp [sub, Env.get, h1, h2, h3]
          · simp [sub, Env.get, h1, h2, h3]
        · have h2 : ¬ i < a'.length := fun e => by rw [decide_eq_true (by omega)] at h; cases h
          have hd2 : decide ((i : Int) < (a'.length : Int)) = false := decide_eq_false (by omega)
          simp only [hd2]
          (try revert X); refine t107 ?_; intro X hX
          simp [sub, Env.get, h2]
      · have h1 : ¬ i < a.length := fun e => by rw [decide_eq_true (by omega)] at h; cases h
        have hd1 : decide ((i : Int) < (a.length : Int)) = false := decide_eq_false (by omega)
        simp only [hd1]
        (try revert X); refine t107 ?_; intro X hX
        simp [sub, Env.get, h1]
    rintro w6 rfl
    by_cases hgo : i < a.length ∧ i < a'.length ∧ c = 0
    rotate_left
    · refine ok_cond (b := false) (by simp only [ev, Env.get]; simp [hgo]) (fun h => by cases h) (fun _ => ok_exit ?_)
      try simp only [zW, zU, reduceIte, Nat.reduceEqDiff, Nat.reduceAdd, reduceCtorEq, Q107]
      refine hM0 _ _ _ ?_; clear hM0 M0 hM1 M1
      refine ok_seq (fun M1 hM1 => ?_)
      refine ok_seq (fun M hM => ok_region rfl ?_); (try revert X); refine t107 ?_; intro X hX
      refine hM _ _ _ ?_; clear hM M
      refine ok_if rfl (fun hz => ?_) (fun hz => ok_skip ?_)
      · refine ok_region rfl ?_
        (try revert X); refine t107 ?_; intro X hX
        refine ⟨_, he5.cell (hA1 3 _ rfl), ?_⟩
        (try revert X); refine t107 ?_; intro X hX
        refine ⟨_, he5.cell (hA2 3 _ rfl), ?_⟩
        (try revert X); refine t107 ?_; intro X hX
        refine Inv.call Fx.en111 (number_cmp_ok _ a.length a'.length) ?_
        rintro v w7 ⟨rfl, rfl⟩
        (try revert X); refine t107 ?_; intro X hX
        refine hM1 _ _ _ ?_; clear hM1 M1
        refine ok_seq (fun M hM => ok_region rfl ?_); (try revert X); refine t107 ?_; intro X hX
        refine hM _ _ _ ?_; clear hM M
        refine ok_ret ?_
        try simp only [zW, zU, reduceIte, Nat.reduceEqDiff, Nat.reduceAdd, reduceCtorEq, Q107]
        have hz' : c = 0 := hz
        obtain ⟨g1, g2⟩ := hcz hz'
        refine ⟨?_, he02.trans he5⟩
        rw [← hres, if_neg (by simp [g1])]
        rw [cmpVs_end (by omega) (fun j x y hx hy => g2 j x y (by have e1 := (List.getElem?_eq_some_iff.1 hx).1; have e2 := (List.getElem?_eq_some_iff.1 hy).1; omega) hx hy)]
      · try simp only [zW, zU, reduceIte, Nat.reduceEqDiff, Nat.reduceAdd, reduceCtorEq, Q107]
        refine hM1 _ _ _ ?_; clear hM1 M1
        refine ok_seq (fun M hM => ok_region rfl ?_); (try revert X); refine t107 ?_; intro X hX
        refine hM _ _ _ ?_; clear hM M
        refine ok_ret ?_
        try simp only [zW, zU, reduceIte, Nat.reduceEqDiff, Nat.reduceAdd, reduceCtorEq, Q107]
        have hz' : c ≠ 0 := hz
        exact ⟨by rw [hcn hz'], he02.trans he5⟩
    · refine ok_cond (b := true) (by simp only [ev, Env.get]; simp [hgo]) (fun _ => ok_skip ?_) (fun h => by cases h)
      try simp only [zW, zU, reduceIte, Nat.reduceEqDiff, Nat.reduceAdd, reduceCtorEq, Q107]
      refine hM1 _ _ _ ?_; clear hM1 M1
      obtain ⟨hil, hil', rfl⟩ := hgo
      obtain ⟨g1, g2⟩ := hcz rfl
      have hxi : a[i]? = some a[i] := List.getElem?_eq_getElem hil
      have hyi : a'[i]? = some (a'[i]'hil') := List.getElem?_eq_getElem hil'
      obtain ⟨rr, hrr, hvr⟩ := hrows.get i _ hxi
      obtain ⟨ss, hss, hvs⟩ := hrows'.get i _ hyi
      obtain ⟨b, o, rfl, hcr⟩ := hcell i rr hrr
      obtain ⟨b', o', rfl, hcs⟩ := hcell' i ss hss
      have hr4 := hvr.len
      have hs4 := hvs.len
      have hsz : SizeOf.sizeOf a[i] ≤ m := by
        have := List.sizeOf_lt_of_mem (List.getElem_mem hil)
        simp at hm
        omega
      refine ok_seq (fun M1 hM1 => ok_block ?_)
      refine (ok_draw 12 [] (Ext _) Fx.mixed (by decide) rfl (by decide +kernel) (by decide +kernel) (Ext.drew _) ?_)
      (try revert X); refine t107 ?_; intro X hX
      refine ⟨_, fun w7 h => h.cell (he5.cell (hA1 3 _ rfl)), ?_⟩
      (try revert X); refine t107 ?_; intro X hX
      refine ⟨by omega, by omega, ?_⟩
      (try revert X); refine t107 ?_; intro X hX
      refine ⟨rr, hr4, fun w7 h => h.cellsAt (he5.cellsAt (he02.cellsAt hcr)), ?_⟩
      (try revert X); refine t107 ?_; intro X hX
      refine ⟨_, fun w7 h => h.cell (he5.cell (hA2 3 _ rfl)), ?_⟩
      (try revert X); refine t107 ?_; intro X hX
      refine ⟨by omega, by omega, ?_⟩
      (try revert X); refine t107 ?_; intro X hX
      refine ⟨ss, hs4, fun w7 h => h.cellsAt (he5.cellsAt (he02.cellsAt hcs)), ?_⟩
      (try revert X); refine t107 ?_; intro X hX
      refine ⟨.int .i64 (cmpV a[i] (a'[i]'hil')), fun w7 h7 => Inv.call Fx.en107 (ih a[i] (a'[i]'hil') w7 rr ss hsz (VRow.ext ((he02.trans he5).trans h7) _ _ hvr) (VRow.ext ((he02.trans he5).trans h7) _ _ hvs)) (fun v w8 ⟨h1, h2⟩ => ⟨h1, h7.trans h2⟩), ?_⟩
      (try revert X); refine t107 ?_; intro X hX
      intro w7 he7
      (try revert X); refine t107 ?_; intro X hX
      refine hM1 _ _ _ ?_; clear hM1 M1
      refine ok_region rfl ?_
      (try revert X); refine t107 ?_; intro X hX
      refine ⟨by simp only [inI]; omega, ?_⟩
      (try revert X); refine t107 ?_; intro X hX
      refine ⟨(i + 1, cmpV a[i] (a'[i]'hil')), by simp [sub, Env.get], ⟨he5.trans he7, by simp only; omega, by simp only; omega, fun h => ?_, fun h => ⟨g1, fun j x y hj hx hy => ?_⟩⟩, by simp only; omega⟩
      · rw [← hres, if_neg (by simp [g1]), cmpVs_at hxi hyi g2 h]
      · rcases Nat.lt_or_ge j i with h' | h'
        · exact g2 j x y h' hx hy
        · have : j = i := by simp only at hj; omega
          subst this
          rw [hxi] at hx; rw [hyi] at hy
          cases hx; cases hy
          exact h

-- -- function 84
set_option maxHeartbeats 4000000 in
set_option maxRecDepth 8000 in
theorem compare7_ok (x y : Val) (w : World) (r s : List Value) (hr : VRow w r x) (hs : VRow w s y) : Rets Tryz.prog 84 [.agg r.toArray, .agg s.toArray] w (fun v w' => v = .tuple #[.int .i64 (if sortV x = true ∧ sortV y = true then cmpV x y else 0), .int .i64 (if sortV x = true ∧ sortV y = true then 0 else 1)] ∧ Ext w w') := by
  have hr4 := hr.len
  have hs4 := hs.len
  refine rets_of_ok Tryz.func84 rfl rfl ?_
  refine ok_seq (fun M hM => ok_region rfl ?_)
  (try revert X); refine t84 ?_; intro X hX
  refine Runs.box (fun w1 he1 hz1 hb1 => ?_)
  (try revert X); refine t84 ?_; intro X hX
  refine Runs.box (fun w2 he2 hz2 hb2 => ?_)
  (try revert X); refine t84 ?_; intro X hX
  refine hM _ _ _ ?_; clear hM M
  generalize hB1 : w.heap.size = B1 at *
  generalize hB2 : w1.heap.size = B2 at *
  simp only [Value.cells] at hb1 hb2
  have he02 := he1.trans he2
  have hA1 : ∀ w', Ext w2 w' → cellsAt w' ⟨B1, 0, none⟩ r := fun w' h => ((hb1.ext he2).ext h).cells (o := 0) (fun j u hj => by simpa using hj)
  have hA2 : ∀ w', Ext w2 w' → cellsAt w' ⟨B2, 0, none⟩ s := fun w' h => (hb2.ext h).cells (o := 0) (fun j u hj => by simpa using hj)
  refine ok_join [(2, .pointer (some ⟨B1, 0, none⟩)), (3, .pointer (some ⟨B2, 0, none⟩))] (fun w' => Ext w2 w' ∧ (sortV x = true ∧ sortV y = true)) ?_ ?_
  · refine ok_seq (fun M hM => ok_region rfl ?_)
    (try revert X); refine t84 ?_; intro X hX
    refine ⟨r, hr4, hA1 _ (Ext.refl _), ?_⟩
    (try revert X); refine t84 ?_; intro X hX
    refine Inv.call Fx.en106 (comparable_ok _ x w2 r (Nat.le_refl _) (VRow.ext he02 _ _ hr)) ?_
    rintro v w3 ⟨rfl, he3⟩
    (try revert X); refine t84 ?_; intro X hX
    cases hx : sortV x with
    | false =>
      simp only [Bool.not_false]
      (try revert X); refine t84 ?_; intro X hX
      refine ⟨fun h => (by cases h), fun _ => ?_⟩
      (try revert X); refine t84 ?_; intro X hX
      refine hM _ _ _ ?_; clear hM M
      refine ok_cond (b := true) (by simp [ev, Env.get]) (fun _ => ?_) (fun h => by cases h)
      refine ok_seq (fun M hM => ok_region rfl ?_); (try revert X); refine t84 ?_; intro X hX
      refine hM _ _ _ ?_; clear hM M
      refine ok_ret ?_
      try simp only [zW, zU, reduceIte, Nat.reduceEqDiff, Nat.reduceAdd, reduceCtorEq, Q84]
      exact ⟨by simp [hx], he02.trans he3⟩
    | true =>
      simp only [Bool.not_true]
      (try revert X); refine t84 ?_; intro X hX
      refine ⟨fun _ => ?_, fun h => (by cases h)⟩
      (try revert X); refine t84 ?_; intro X hX
      refine ⟨s, hs4, hA2 _ he3, ?_⟩
      (try revert X); refine t84 ?_; intro X hX
      refine Inv.call Fx.en106 (comparable_ok _ y w3 s (Nat.le_refl _) (VRow.ext (he02.trans he3) _ _ hs)) ?_
      rintro v w4 ⟨rfl, he4⟩
      (try revert X); refine t84 ?_; intro X hX
      refine hM _ _ _ ?_; clear hM M
      cases hy : sortV y with
      | false =>
        refine ok_cond (b := true) (by simp [ev, Env.get]) (fun _ => ?_) (fun h => by cases h)
        refine ok_seq (fun M hM => ok_region rfl ?_); (try revert X); refine t84 ?_; intro X hX
        refine hM _ _ _ ?_; clear hM M
        refine ok_ret ?_
        try simp only [zW, zU, reduceIte, Nat.reduceEqDiff, Nat.reduceAdd, reduceCtorEq, Q84]
        exact ⟨by simp [hy], (he02.trans he3).trans he4⟩
      | true =>
        refine ok_cond (b := false) (by simp [ev, Env.get]) (fun h => by cases h) (fun _ => ok_skip ?_)
        try simp only [zW, zU, reduceIte, Nat.reduceEqDiff, Nat.reduceAdd, reduceCtorEq, Q84]
        refine ⟨by simp [sub, Env.get], ?_⟩
        first | exact ⟨he3.trans he4, hx, hy⟩ | exact ⟨he3.trans he4, hx⟩ | exact ⟨he3.trans he4, rfl, rfl⟩ | exact he3.trans he4
  rintro w3 ⟨he3, hx, hy⟩
  rw [if_pos ⟨hx, hy⟩, if_pos ⟨hx, hy⟩]
  refine ok_seq (fun M hM => ok_region rfl ?_)
  (try revert X); refine t84 ?_; intro X hX
  refine ⟨r, hr4, hA1 _ he3, ?_⟩
  (try revert X); refine t84 ?_; intro X hX
  refine ⟨s, hs4, hA2 _ he3, ?_⟩
  (try revert X); refine t84 ?_; intro X hX
  refine Inv.call Fx.en107 (order7_ok _ x y w3 r s (Nat.le_refl _) (VRow.ext (he02.trans he3) _ _ hr) (VRow.ext (he02.trans he3) _ _ hs)) ?_
  rintro v w4 ⟨rfl, he4⟩
  (try revert X); refine t84 ?_; intro X hX
  refine hM _ _ _ ?_; clear hM M
  refine ok_ret ?_
  try simp only [zW, zU, reduceIte, Nat.reduceEqDiff, Nat.reduceAdd, reduceCtorEq, Q84]
  exact (he02.trans he3).trans he4
end Go.Proofs.YtldeokfhipjbfaaGreatDoor
/- The program's heap: sortable. -/
set_option linter.unusedVariables false
set_option linter.unusedSimpArgs false
namespace Go.Proofs.YtldeokfhipjbfaaGreatDoor
open Go Go.Proofs.Vg Go.RowKit
theorem args_zero {H : List Ob} {x : Wd} (h : x.r = 0) : argsOf H x = [] := by
  unfold argsOf argsO
  rw [h, objAt_lt (by omega)]
theorem lds_flat {H : List Ob} {x : Wd} {k n : Int} {t : ByteArray} {a : List Val} (hr : rightW H x = true) (h : Lds H x (.mk k n t a)) (hk : x.k = 1 ∨ x.k = 2 ∨ x.k = 3) : a = [] ∧ k = x.k := by
  simp only [Lds] at h
  rw [if_neg (by omega)] at h
  by_cases h3 : x.k = 3
  · rw [if_pos h3] at h
    exact ⟨h.2.2.1, by omega⟩
  · rw [if_neg h3] at h
    have h0 : x.r = 0 := by
      unfold rightW at hr
      rw [if_neg (by omega), if_pos (by omega)] at hr
      exact of_decide_eq_true hr
    rw [args_zero h0] at h
    refine ⟨?_, h.2.2.1⟩
    have := LdsL.length _ _ h.2.2.2.2.2
    exact List.length_eq_zero_iff.1 (by simpa using this.symm)
theorem lds_kind {H : List Ob} {x : Wd} {k n : Int} {t : ByteArray} {a : List Val} (h : Lds H x (.mk k n t a)) : (x.k = 0 ∨ x.k = 9) ∧ k = 0 ∨ (1 ≤ x.k ∧ x.k ≤ 8 ∧ k = x.k) := by
  simp only [Lds] at h
  split at h
  · rename_i hk; exact .inl ⟨hk, h.1⟩
  · split at h
    · rename_i h1 h3; exact .inr ⟨by omega, by omega, by omega⟩
    · exact .inr ⟨h.1, h.2.1, h.2.2.1⟩
theorem lds_args {H : List Ob} {x : Wd} {k n : Int} {t : ByteArray} {a : List Val} (h : Lds H x (.mk k n t a)) (hk : x.k ≠ 0 ∧ x.k ≠ 9 ∧ x.k ≠ 3) : LdsL H (argsOf H x) a ∧ n = x.n := by
  simp only [Lds] at h
  rw [if_neg (by omega), if_neg (by omega)] at h
  exact ⟨h.2.2.2.2.2, h.2.2.2.1⟩
theorem GoodH.args {H : List Ob} (hG : GoodH H) {x y : Wd} (hy : y ∈ argsOf H x) : rightW H y = true ∧ y.k ≠ 0 ∧ y.k ≠ 9 := by
  unfold argsOf argsO at hy
  split at hy
  · rename_i s l ho
    exact hG.w _ (objAt_mem ho) y hy
  · cases hy

-- -- function 101
set_option maxHeartbeats 1000000 in
set_option maxRecDepth 8000 in
theorem sortable1_ok (w : World) (hb B : Nat) (x : Wd) (b : Bool) (hB : w.cell? ⟨B, 0, none⟩ = some (ptrOf hb)) (h : ∀ w', Ext w w' → Rets Tryz.prog 82 [ptrOf hb, wv x] w' (fun v w'' => v = .bool b ∧ Ext w' w'')) :
    Rets Tryz.prog 101 [wv x, ptrOf B] w (fun v w' => v = .bool (!b) ∧ Ext w w') := by
  refine rets_of_ok Tryz.func101 rfl rfl ?_
  refine ok_seq (fun M hM => ok_region rfl ?_)
  (try revert X); refine t101 ?_; intro X hX
  refine Runs.box (fun w1 he1 hz1 hb1 => ?_)
  generalize hB1 : w.heap.size = B1 at hz1 hb1
  simp only [Value.cells] at hb1
  (try revert X); refine t101 ?_; intro X hX
  refine hM _ _ _ ?_; clear hM M
  refine ok_seq (fun M hM => ok_region rfl ?_)
  (try revert X); refine t101 ?_; intro X hX
  refine ⟨_, he1.cell hB, ?_⟩
  (try revert X); refine t101 ?_; intro X hX
  refine ⟨x.row, rfl, hb1.cells (o := 0) (fun j u hj => by simpa using hj), ?_⟩
  (try revert X); refine t101 ?_; intro X hX
  refine Inv.call Fx.en82 (h w1 he1) ?_
  rintro v w2 ⟨rfl, he2⟩
  (try revert X); refine t101 ?_; intro X hX
  refine hM _ _ _ ?_; clear hM M
  refine ok_ret ?_
  try simp only [zW, zU, reduceIte, Nat.reduceEqDiff, Nat.reduceAdd, reduceCtorEq, Q101]
  exact he1.trans he2

-- -- function 82
set_option maxHeartbeats 2000000 in
set_option maxRecDepth 8000 in
theorem sortable_ok (hb rb : Nat) (H : List Ob) (F : Nat → Prop) (hl : H.length ≤ 1073741824) (hG : GoodH H) : ∀ (m : Nat) (u : Val) (x : Wd) (w : World), SizeOf.sizeOf u ≤ m → rightW H x = true → Lds H x u → HeapW w hb rb H F →
    Rets Tryz.prog 82 [ptrOf hb, wv x] w (fun v w' => v = .bool (sortV u) ∧ Ext w w') := by
  intro m
  induction m with
  | zero => intro u x w hm; cases u; simp at hm
  | succ m ih =>
    rintro ⟨k, n, t, a⟩ x w hm hr hL hH
    have hkk := lds_kind hL
    refine rets_of_ok Tryz.func82 rfl rfl ?_
    refine ok_seq (fun M hM => ok_region rfl ?_)
    (try revert X); refine t82 ?_; intro X hX
    refine Runs.box (fun w0 he0 hz0 hb0 => ?_)
    generalize hB0 : w.heap.size = B0 at hz0 hb0
    simp only [Value.cells] at hb0
    (try revert X); refine t82 ?_; intro X hX
    refine Runs.box (fun w1 he1 hz1 hb1 => ?_)
    generalize hB1 : w0.heap.size = B1 at hz1 hb1
    simp only [Value.cells] at hb1
    have hb01 := hb0.ext he1
    have he01 := he0.trans he1
    (try revert X); refine t82 ?_; intro X hX
    refine hM _ _ _ ?_; clear hM M
    refine ok_join [] (fun w' => w' = w1 ∧ ¬ (x.k = 1 ∨ x.k = 2 ∨ x.k = 3 ∨ x.k = 4 ∨ x.k = 7)) ?_ ?_
    rotate_left
    · rintro w2 ⟨rfl, hk⟩
      refine ok_seq (fun M hM => ok_region rfl ?_); (try revert X); refine t82 ?_; intro X hX
      refine hM _ _ _ ?_; clear hM M
      refine ok_ret ?_
      try simp only [zW, zU, reduceIte, Nat.reduceEqDiff, Nat.reduceAdd, reduceCtorEq, Q82]
      refine ⟨?_, he01⟩
      have : ¬ sortK k := by intro h; omega
      simp [sortV, this]
    refine ok_seq (fun M hM => ok_region rfl ?_)
    (try revert X); refine t82 ?_; intro X hX
    refine ⟨_, hb1.cell (j := 0) rfl, ?_⟩
    (try revert X); refine t82 ?_; intro X hX
    refine hM _ _ _ ?_; clear hM M
    refine ok_block ?_
    refine ok_join [(2, ptrOf B0), (3, ptrOf B1), (6, .int .i64 x.k), (7, .bool (decide (x.k = 1 ∨ x.k = 2 ∨ x.k = 3)))] (fun w' => w' = w1) ?_ ?_
    · refine ok_seq (fun M hM => ok_region rfl ?_); (try revert X); refine t82 ?_; intro X hX
      refine hM _ _ _ ?_; clear hM M
      refine ok_if rfl (fun h1 => ok_skip ?_) (fun h1 => ?_)
      · try simp only [zW, zU, reduceIte, Nat.reduceEqDiff, Nat.reduceAdd, reduceCtorEq, Q82]
        simp [sub, Env.get, h1]
      refine ok_seq (fun M hM => ok_region rfl ?_); (try revert X); refine t82 ?_; intro X hX
      refine hM _ _ _ ?_; clear hM M
      refine ok_if rfl (fun h2 => ok_skip ?_) (fun h2 => ?_)
      · try simp only [zW, zU, reduceIte, Nat.reduceEqDiff, Nat.reduceAdd, reduceCtorEq, Q82]
        simp [sub, Env.get, h2]
      refine ok_region rfl ?_
      (try revert X); refine t82 ?_; intro X hX
      simp [sub, Env.get, h1, h2]
    rintro w' rfl
    refine ok_if rfl (fun h => ?_) (fun h => ?_)
    · refine ok_seq (fun M hM => ok_region rfl ?_); (try revert X); refine t82 ?_; intro X hX
      refine hM _ _ _ ?_; clear hM M
      refine ok_ret ?_
      try simp only [zW, zU, reduceIte, Nat.reduceEqDiff, Nat.reduceAdd, reduceCtorEq, Q82]
      refine ⟨?_, he01⟩
      obtain ⟨ha, hk⟩ := lds_flat hr hL h
      subst ha
      have : sortK k := by omega
      simp [sortV, sortVs, this]
    refine ok_join [(2, ptrOf B0), (3, ptrOf B1), (11, .bool (decide (x.k = 4 ∨ x.k = 7)))] (fun w2 => w2 = w') ?_ ?_
    · refine ok_seq (fun M hM => ok_region rfl ?_); (try revert X); refine t82 ?_; intro X hX
      refine hM _ _ _ ?_; clear hM M
      refine ok_if rfl (fun h1 => ok_skip ?_) (fun h1 => ?_)
      · try simp only [zW, zU, reduceIte, Nat.reduceEqDiff, Nat.reduceAdd, reduceCtorEq, Q82]
        simp [sub, Env.get, h1]
      refine ok_region rfl ?_
      (try revert X); refine t82 ?_; intro X hX
      simp [sub, Env.get, h1]
    rintro w2 rfl
    refine ok_if rfl (fun h4 => ?_) (fun h4 => ok_skip ?_)
    rotate_left
    · try simp only [zW, zU, reduceIte, Nat.reduceEqDiff, Nat.reduceAdd, reduceCtorEq, Q82]
      exact ⟨by simp [sub], by omega⟩
    obtain ⟨hLa, -⟩ := lds_args hL (by omega)
    have hal := hG.lim.args x
    have hla := LdsL.length _ _ hLa
    refine ok_seq (fun M hM => ok_region rfl ?_)
    (try revert X); refine t82 ?_; intro X hX
    refine ⟨_, hb01.cell (j := 0) rfl, ?_⟩
    (try revert X); refine t82 ?_; intro X hX
    refine ⟨x.row, rfl, hb1.cells (o := 0) (fun j u hj => by simpa using hj), ?_⟩
    (try revert X); refine t82 ?_; intro X hX
    refine Inv.call Fx.en79 (args_ok _ hb rb H F (hH.ext he01) hl x) ?_
    rintro v w3 ⟨⟨A, c, rfl⟩, hsl, he3, -⟩
    have hsl' := hsl
    obtain ⟨A', c', hAc, hlen, hcell⟩ := hsl'
    rw [wd_len] at hAc
    cases hAc
    (try revert X); refine t82 ?_; intro X hX
    have he03 := he01.trans he3
    refine Inv.call Fx.en47 (containsW_ok w3 A (argsOf H x).length c _ (by omega) (fun i w4 => Ext w3 w4 ∧ ∀ (j : Nat) (y : Val), j < i → a[j]? = some y → sortV y = true) (fun w4 => Ext w3 w4 ∧ sortVs a = false) ⟨Ext.refl _, fun j y h => absurd h (Nat.not_lt_zero _)⟩ ?_) ?_
    · rintro i w4 hi ⟨he4, hall⟩
      have hxi : (argsOf H x)[i]? = some (argsOf H x)[i] := List.getElem?_eq_getElem hi
      have hyi : a[i]? = some (a[i]'(by omega)) := List.getElem?_eq_getElem (by omega)
      have hLy := LdsL.get _ _ hLa i _ _ hxi hyi
      have hry := (hG.args (List.getElem_mem hi)).1
      obtain ⟨b, o, hA, hcc⟩ := hcell i (argsOf H x)[i].row (by rw [List.getElem?_map, hxi]; rfl)
      have hsz : SizeOf.sizeOf (a[i]'(by omega)) ≤ m := by
        have := List.sizeOf_lt_of_mem (List.getElem_mem (l := a) (n := i) (by omega))
        simp at hm
        omega
      refine ⟨_, rfl, ⟨b, o, hA, (he3.trans he4).cellsAt hcc⟩, ?_⟩
      have hB0' : w4.cell? ⟨B0, 0, none⟩ = some (ptrOf hb) := (he3.trans he4).cell (hb01.cell (j := 0) rfl)
      refine Inv.clos (cap := [ptrOf B0]) Fx.en101 (sortable1_ok w4 hb B0 (argsOf H x)[i] (sortV (a[i]'(by omega))) hB0' (fun w5 he5 => ih _ _ w5 hsz hry hLy (hH.ext ((he03.trans he4).trans he5)))) ?_
      rintro v w5 ⟨rfl, he5⟩
      refine ⟨_, rfl, fun h => ⟨he4.trans he5, ?_⟩, fun h => ⟨he4.trans he5, fun j y hj hy => ?_⟩⟩
      · cases hx : sortVs a with
        | false => rfl
        | true => have := (sortVs_iff a).1 hx i _ hyi; rw [this] at h; cases h
      · rcases Nat.lt_or_ge j i with h' | h'
        · exact hall j y h' hy
        · have : j = i := by omega
          subst this
          rw [hyi] at hy
          cases hy
          simpa using h
    rintro v w4 ⟨b, rfl, hbt, hbf⟩
    (try revert X); refine t82 ?_; intro X hX
    refine hM _ _ _ ?_; clear hM M
    refine ok_ret ?_
    try simp only [zW, zU, reduceIte, Nat.reduceEqDiff, Nat.reduceAdd, reduceCtorEq, Q82]
    have hk : sortK k := by omega
    cases b with
    | true =>
      obtain ⟨he4, hs⟩ := hbt rfl
      exact ⟨by simp [sortV, hs], he03.trans he4⟩
    | false =>
      obtain ⟨he4, hs⟩ := hbf rfl
      have : sortVs a = true := (sortVs_iff a).2 fun j y hy => hs j y (by have := (List.getElem?_eq_some_iff.1 hy).1; omega) hy
      exact ⟨by simp [sortV, this, hk], he03.trans he4⟩
end Go.Proofs.YtldeokfhipjbfaaGreatDoor
/- The program's heap: order. -/
set_option linter.unusedVariables false
set_option linter.unusedSimpArgs false
namespace Go.Proofs.YtldeokfhipjbfaaGreatDoor
open Go Go.Proofs.Vg Go.RowKit

-- -- function 105
set_option maxHeartbeats 2000000 in
set_option maxRecDepth 8000 in
theorem cmpFunc_ok (w : World) (A A' : Option Addr) (c c' : Nat) (l l' : List Wd) (a b : List Val) (fv : Value) (ha : l.length = a.length) (hb : l'.length = b.length) (hsl : SlW w (.slice A l.length c) l) (hsl' : SlW w (.slice A' l'.length c') l')
    (hll : l.length ≤ 1073741824) (hll' : l'.length ≤ 1073741824)
    (hf : ∀ (i : Nat) (x y : Wd) (u v : Val) (w' : World), l[i]? = some x → l'[i]? = some y → a[i]? = some u → b[i]? = some v → Ext w w' → Inv Tryz.prog fv [wv x, wv y] w' (callR (fun r w'' => r = .int .i64 (cmpV u v) ∧ Ext w' w'') fun _ _ => False)) :
    Rets Tryz.prog 105 [.slice A l.length c, .slice A' l'.length c', fv] w (fun v w' => v = .int .i64 (cmpVs a b) ∧ Ext w w') := by
  obtain ⟨_, _, h1, hlen, hcell⟩ := id hsl
  rw [wd_len] at h1; cases h1
  obtain ⟨_, _, h1, hlen', hcell'⟩ := id hsl'
  rw [wd_len] at h1; cases h1
  refine rets_of_ok Tryz.func105 rfl rfl ?_
  refine ok_seq (fun M hM => ok_region rfl ?_); (try revert X); refine t105 ?_; intro X hX
  refine hM _ _ _ ?_; clear hM M
  refine ok_seq (fun M0 hM0 => ?_)
  refine ok_seq (fun M hM => ok_region rfl ?_); (try revert X); refine t105 ?_; intro X hX
  refine hM _ _ _ ?_; clear hM M
  refine ok_block ?_
  refine ok_loop (S := Nat) (fun k => [(0, .slice A l.length c), (1, .slice A' l'.length c'), (2, fv), (11, .slice A l.length c), (12, .int .i64 (l.length : Int)), (13, .int .i64 (k : Int))]) (fun k w' => k ≤ l.length ∧ k ≤ l'.length ∧ Ext w w' ∧ ∀ (j : Nat) (x y : Val), j < k → a[j]? = some x → b[j]? = some y → cmpV x y = 0) (fun k => l.length - k) 0 ?_ ?_ ?_
  · simp [sub, Env.get, argEnv]
  · exact ⟨Nat.zero_le _, Nat.zero_le _, Ext.refl _, fun j x y h => absurd h (Nat.not_lt_zero _)⟩
  rintro k w' ⟨hk, hk', he, hz⟩
  refine ok_seq (fun M hM => ok_region rfl ?_); (try revert X); refine t105 ?_; intro X hX
  refine hM _ _ _ ?_; clear hM M
  refine ok_seq (fun M hM => ok_if rfl (fun hc => ok_skip ?_) (fun hc => ok_exit ?_))
  rotate_left
  · try simp only [zW, zU, reduceIte, Nat.reduceEqDiff, Nat.reduceAdd, reduceCtorEq, Q105]
    refine hM0 _ _ _ ?_; clear hM0 M0 hM M
    have hkl : k = l.length := by omega
    have hend : ∀ (j : Nat) (x y : Val), a[j]? = some x → b[j]? = some y → cmpV x y = 0 := fun j x y hx hy => hz j x y (by have := (List.getElem?_eq_some_iff.1 hx).1; omega) hx hy
    refine ok_seq (fun M1 hM1 => ?_)
    refine ok_seq (fun M hM => ok_region rfl ?_); (try revert X); refine t105 ?_; intro X hX
    refine hM _ _ _ ?_; clear hM M
    refine ok_if rfl (fun hc => ?_) (fun hc => ok_skip ?_)
    · refine ok_seq (fun M hM => ok_region rfl ?_); (try revert X); refine t105 ?_; intro X hX
      refine hM _ _ _ ?_; clear hM M
      refine ok_ret ?_
      try simp only [zW, zU, reduceIte, Nat.reduceEqDiff, Nat.reduceAdd, reduceCtorEq, Q105]
      refine ⟨?_, he⟩
      rw [cmpVs_end (by omega) hend, cmpI, if_pos (by omega)]
    · try simp only [zW, zU, reduceIte, Nat.reduceEqDiff, Nat.reduceAdd, reduceCtorEq, Q105]
      refine hM1 _ _ _ ?_; clear hM1 M1
      refine ok_seq (fun M hM => ok_region rfl ?_); (try revert X); refine t105 ?_; intro X hX
      refine hM _ _ _ ?_; clear hM M
      refine ok_ret ?_
      try simp only [zW, zU, reduceIte, Nat.reduceEqDiff, Nat.reduceAdd, reduceCtorEq, Q105]
      refine ⟨?_, he⟩
      rw [cmpVs_end (by omega) hend, cmpI, if_neg (by omega), if_neg (by omega)]
  try simp only [zW, zU, reduceIte, Nat.reduceEqDiff, Nat.reduceAdd, reduceCtorEq, Q105]
  refine hM _ _ _ ?_; clear hM M
  have hkl : k < l.length := by omega
  have hxi : l[k]? = some l[k] := List.getElem?_eq_getElem hkl
  obtain ⟨b1, o1, rfl, hcc⟩ := hcell k l[k].row (by rw [List.getElem?_map, hxi]; rfl)
  refine ok_seq (fun M1 hM1 => ok_block ?_)
  refine ok_seq (fun M hM => ok_region rfl ?_)
  (try revert X); refine t105 ?_; intro X hX
  refine ⟨by omega, by omega, ?_⟩
  (try revert X); refine t105 ?_; intro X hX
  refine ⟨l[k].row, rfl, he.cellsAt hcc, ?_⟩
  (try revert X); refine t105 ?_; intro X hX
  refine Runs.alloc Fx.zi38 (fun w1 he1 hz1 hb1 => ?_)
  generalize hB1 : w'.heap.size = B1 at hz1 hb1
  simp only [Value.cells] at hb1
  (try revert X); refine t105 ?_; intro X hX
  refine Runs.store hb1 Fx.zi38 rfl (by intro u hu; simp [Value.cells, Wd.row] at hu; rcases hu with rfl | rfl | rfl <;> rfl) (by simp) (fun w2 hc2 hs2 hb2 => ?_)
  rw [splice_all _ _ (by simp [Value.cells])] at hb2
  simp only [Value.cells] at hb2
  have he2 : Ext w' w2 := he1.chg_trans hc2 (fun i hi => by omega)
  (try revert X); refine t105 ?_; intro X hX
  refine hM _ _ _ ?_; clear hM M
  refine ok_join [(0, .slice (some ⟨b1, o1, none⟩) l.length c), (1, .slice A' l'.length c'), (2, fv), (11, .slice (some ⟨b1, o1, none⟩) l.length c), (12, .int .i64 (l.length : Int)), (13, .int .i64 (k : Int)), (7, .int .i64 (k : Int)), (8, ptrOf B1)] (fun w3 => w3 = w2 ∧ k < l'.length) ?_ ?_
  · refine ok_seq (fun M hM => ok_region rfl ?_); (try revert X); refine t105 ?_; intro X hX
    refine hM _ _ _ ?_; clear hM M
    refine ok_if rfl (fun hc => ?_) (fun hc => ok_skip ?_)
    · refine ok_seq (fun M hM => ok_region rfl ?_); (try revert X); refine t105 ?_; intro X hX
      refine hM _ _ _ ?_; clear hM M
      refine ok_ret ?_
      try simp only [zW, zU, reduceIte, Nat.reduceEqDiff, Nat.reduceAdd, reduceCtorEq, Q105]
      refine ⟨?_, he.trans he2⟩
      have hk2 : k = l'.length := by omega
      have hend : ∀ (j : Nat) (x y : Val), a[j]? = some x → b[j]? = some y → cmpV x y = 0 := fun j x y hx hy => hz j x y (by have := (List.getElem?_eq_some_iff.1 hy).1; omega) hx hy
      rw [cmpVs_end (by omega) hend, cmpI, if_neg (by omega), if_pos (by omega)]
    · try simp only [zW, zU, reduceIte, Nat.reduceEqDiff, Nat.reduceAdd, reduceCtorEq, Q105]
      exact ⟨by simp [sub, Env.get], by omega⟩
  rintro w3 ⟨rfl, hkl'⟩
  have hyi : l'[k]? = some l'[k] := List.getElem?_eq_getElem hkl'
  obtain ⟨b2, o2, rfl, hcc'⟩ := hcell' k l'[k].row (by rw [List.getElem?_map, hyi]; rfl)
  refine ok_seq (fun M hM => ok_region rfl ?_)
  (try revert X); refine t105 ?_; intro X hX
  refine ⟨by omega, by omega, ?_⟩
  (try revert X); refine t105 ?_; intro X hX
  refine ⟨l'[k].row, rfl, (he.trans he2).cellsAt hcc', ?_⟩
  (try revert X); refine t105 ?_; intro X hX
  refine Runs.alloc Fx.zi38 (fun w4 he4 hz4 hb4 => ?_)
  generalize hB4 : w3.heap.size = B4 at hz4 hb4
  simp only [Value.cells] at hb4
  (try revert X); refine t105 ?_; intro X hX
  refine Runs.store hb4 Fx.zi38 rfl (by intro u hu; simp [Value.cells, Wd.row] at hu; rcases hu with rfl | rfl | rfl <;> rfl) (by simp) (fun w5 hc5 hs5 hb5 => ?_)
  rw [splice_all _ _ (by simp [Value.cells])] at hb5
  simp only [Value.cells] at hb5
  have he5 : Ext w3 w5 := he4.chg_trans hc5 (fun i hi => by omega)
  (try revert X); refine t105 ?_; intro X hX
  refine hM _ _ _ ?_; clear hM M
  have hui : a[k]? = some (a[k]'(by omega)) := List.getElem?_eq_getElem (by omega)
  have hvi : b[k]? = some (b[k]'(by omega)) := List.getElem?_eq_getElem (by omega)
  have he05 := (he.trans he2).trans he5
  refine ok_seq (fun M hM => ok_region rfl ?_)
  (try revert X); refine t105 ?_; intro X hX
  refine ⟨l[k].row, rfl, (hb2.ext he5).cells (o := 0) (fun j u hj => by simpa using hj), ?_⟩
  (try revert X); refine t105 ?_; intro X hX
  refine ⟨l'[k].row, rfl, hb5.cells (o := 0) (fun j u hj => by simpa using hj), ?_⟩
  (try revert X); refine t105 ?_; intro X hX
  refine Inv.weaken (hf k _ _ _ _ w5 hxi hyi hui hvi he05) ?_
  rintro r w6 ⟨rfl, he6⟩
  (try revert X); refine t105 ?_; intro X hX
  refine hM _ _ _ ?_; clear hM M
  refine ok_seq (fun M hM => ok_region rfl ?_); (try revert X); refine t105 ?_; intro X hX
  refine hM _ _ _ ?_; clear hM M
  refine ok_ifn rfl (fun hc => ?_) (fun hc => ok_skip ?_)
  · refine ok_seq (fun M hM => ok_region rfl ?_); (try revert X); refine t105 ?_; intro X hX
    refine hM _ _ _ ?_; clear hM M
    refine ok_ret ?_
    try simp only [zW, zU, reduceIte, Nat.reduceEqDiff, Nat.reduceAdd, reduceCtorEq, Q105]
    exact ⟨by rw [cmpVs_at hui hvi hz hc], he05.trans he6⟩
  · try simp only [zW, zU, reduceIte, Nat.reduceEqDiff, Nat.reduceAdd, reduceCtorEq, Q105]
    refine hM1 _ _ _ ?_; clear hM1 M1
    refine ok_region rfl ?_
    (try revert X); refine t105 ?_; intro X hX
    refine ⟨by simp only [inI]; omega, ?_⟩
    (try revert X); refine t105 ?_; intro X hX
    refine ⟨k + 1, by simp [sub, Env.get], ⟨by omega, by omega, he05.trans he6, fun j x y hj hx hy => ?_⟩, by omega⟩
    rcases Nat.lt_or_ge j k with h' | h'
    · exact hz j x y h' hx hy
    · have : j = k := by omega
      subst this
      rw [hui] at hx; rw [hvi] at hy
      cases hx; cases hy
      exact hc
end Go.Proofs.YtldeokfhipjbfaaGreatDoor
/- The program's heap: order of the values of words. -/
set_option linter.unusedVariables false
set_option linter.unusedSimpArgs false
namespace Go.Proofs.YtldeokfhipjbfaaGreatDoor
open Go Go.Proofs.Vg Go.RowKit

-- -- function 79
set_option maxHeartbeats 2000000 in
set_option maxRecDepth 8000 in
/-- args, with the one value that it returns in every world that comes later. -/
theorem argsV_ok (w : World) (hb rb : Nat) (H : List Ob) (F : Nat → Prop) (hH : HeapW w hb rb H F) (hl : H.length ≤ 1073741824) (x : Wd) :
    ∃ A c, SlW w (.slice A (argsOf H x).length c) (argsOf H x) ∧ ∀ w0, Ext w w0 → Rets Tryz.prog 79 [ptrOf hb, wv x] w0 (fun v w' => v = .slice A (argsOf H x).length c ∧ Ext w0 w') := by
  obtain ⟨vs, ps, gs, hR00, hf, -⟩ := hH
  have key : ∃ A c, SlW w (.slice A (argsOf H x).length c) (argsOf H x) ∧ (∀ (i p g : Nat) (s : Int) (l : List Wd), objAt H x.r = some (.words s l) → x.r = (i : Int) + 1 → ps[i]? = some p → gs[i]? = some g → w.cell? ⟨p, 0, none⟩ = some (.slice A (argsOf H x).length c)) ∧
      (argsOf H x = [] → ¬ (∃ s l, objAt H x.r = some (.words s l)) → A = none ∧ c = 0) := by
    by_cases hex : ∃ s l, objAt H x.r = some (.words s l)
    · obtain ⟨s, l, ho⟩ := hex
      have hal : argsOf H x = l := by simp [argsOf, argsO, ho]
      have hrange := objAt_some ho
      obtain ⟨i, o, hri, hi, hio, hoo⟩ := objAt_in hrange.1 hrange.2
      rw [ho] at hoo; cases hoo
      obtain ⟨p, g, hp, hg, -⟩ := hR00.at_ hio
      obtain ⟨lv, h1, h2⟩ := hR00.obj i p g _ hp hg hio
      obtain ⟨A, c, rfl, -⟩ := id h2
      rw [hal]
      refine ⟨A, c, h2.sli, ?_, fun _ hno => absurd ⟨s, l, ho⟩ hno⟩
      intro i' p' g' s' l' _ hr' hp' _
      have : i' = i := by omega
      subst this
      rw [hp] at hp'; cases hp'
      exact h1.cell (j := 0) rfl
    · have hal : argsOf H x = [] := by
        unfold argsOf argsO
        split
        · rename_i s l ho; exact absurd ⟨s, l, ho⟩ hex
        · rfl
      rw [hal]
      exact ⟨none, 0, SlW.nil w, fun i p g s l ho => absurd ⟨s, l, ho⟩ hex, fun _ _ => ⟨rfl, rfl⟩⟩
  obtain ⟨A, c, hsl, hwords, hnone⟩ := key
  refine ⟨A, c, hsl, fun w0 he0 => ?_⟩
  have hR0 := hR00.ext he0
  refine rets_of_ok Tryz.func79 rfl rfl ?_
  refine ok_seq (fun M hM => ok_region rfl ?_)
  (try revert X); refine t79 ?_; intro X hX
  refine Runs.box (fun w1 he1 hs1 hb1 => ?_)
  generalize hB : w0.heap.size = B at *
  simp only [Value.cells, Wd.row] at hb1
  have hR := hR0.ext he1
  (try revert X); refine t79 ?_; intro X hX
  refine hM _ _ _ ?_; clear hM M
  refine ok_join [] (fun w' => w' = w1 ∧ argsOf H x = [] ∧ ¬ (∃ s l, objAt H x.r = some (.words s l))) ?_ ?_
  · refine ok_seq (fun M hM => ok_region rfl ?_)
    (try revert X); refine t79 ?_; intro X hX
    refine ⟨_, hb1.cell (j := 2) rfl, ?_⟩
    (try revert X); refine t79 ?_; intro X hX
    refine Inv.call Fx.en57 (object_ok w1 hb rb vs ps gs H hR hl x.r) ?_
    rintro v w' ⟨rfl, hv⟩
    (try revert X); refine t79 ?_; intro X hX
    refine hM _ _ _ ?_; clear hM M
    refine ok_seq (fun M hM => ok_region rfl ?_)
    (try revert X); refine t79 ?_; intro X hX
    rcases hv with ⟨ho, rfl⟩ | ⟨i, p, g, o, ho, hr, hi, hp, hg, rfl⟩
    · refine Runs.ptrNe Fx.un103 ?_
      (try revert X); refine t79 ?_; intro X hX
      refine hM _ _ _ ?_; clear hM M
      refine ok_cond rfl (fun h => by cases h) (fun h => ok_skip ?_)
      try simp only [zW, zU, reduceIte, Nat.reduceEqDiff, Nat.reduceAdd, reduceCtorEq, Q79]
      simp [sub, argsOf, argsO, ho]
    · refine Runs.ptrNe Fx.un103 ?_
      (try revert X); refine t79 ?_; intro X hX
      have hob := hR.obj i p g o hp hg hi
      refine ⟨_, ObW.text hob, ?_⟩
      (try revert X); refine t79 ?_; intro X hX
      refine hM _ _ _ ?_; clear hM M
      cases o with
      | text s =>
        refine ok_cond (b := false) rfl (fun h => by cases h) (fun h => ok_skip ?_)
        try simp only [zW, zU, reduceIte, Nat.reduceEqDiff, Nat.reduceAdd, reduceCtorEq, Q79]
        simp [sub, argsOf, argsO, ho]
      | words s l =>
        refine ok_cond (b := true) rfl (fun _ => ?_) (fun h => by cases h)
        refine ok_seq (fun M hM => ok_region rfl ?_)
        (try revert X); refine t79 ?_; intro X hX
        refine ⟨_, (he0.trans he1).cell (hwords i p g s l ho hr hp hg), ?_⟩
        (try revert X); refine t79 ?_; intro X hX
        refine hM _ _ _ ?_; clear hM M
        refine ok_ret ?_
        try simp only [zW, zU, reduceIte, Nat.reduceEqDiff, Nat.reduceAdd, reduceCtorEq, Q79]
        exact he1
  rintro w' ⟨rfl, hnil, hno⟩
  obtain ⟨rfl, rfl⟩ := hnone hnil hno
  refine ok_seq (fun M hM => ok_region rfl ?_); (try revert X); refine t79 ?_; intro X hX
  refine hM _ _ _ ?_; clear hM M
  refine ok_ret ?_
  try simp only [zW, zU, reduceIte, Nat.reduceEqDiff, Nat.reduceAdd, reduceCtorEq, Q79]
  rw [hnil]
  exact ⟨rfl, he1⟩

theorem obj_text {H : List Ob} {x : Wd} (hr : rightW H x = true) (h3 : x.k = 3) : ∃ s, objAt H x.r = some (.text s) := by
  unfold rightW at hr
  simp [h3] at hr
  cases ho : objAt H x.r with
  | none => rw [ho] at hr; cases hr.2
  | some o =>
    rw [ho] at hr
    cases o with
    | text s => exact ⟨s, rfl⟩
    | words s l => cases hr.2

-- -- function 83
set_option maxHeartbeats 4000000 in
set_option maxRecDepth 8000 in
theorem order_ok (hb rb : Nat) (H : List Ob) (F : Nat → Prop) (hl : H.length ≤ 1073741824) (hG : GoodH H) (mk : Nat) : ∀ (m : Nat) (u v : Val) (x y : Wd) (w : World), SizeOf.sizeOf u ≤ m → rightW H x = true → rightW H y = true → Lds H x u → Lds H y v → sortV u = true → sortV v = true →
    HeapW w hb rb H F → Glob w mk → Rets Tryz.prog 83 [ptrOf hb, wv x, wv y] w (fun r w' => r = .int .i64 (cmpV u v) ∧ Ext w w') := by
  intro m
  induction m with
  | zero => intro u v x y w hm; cases u; simp at hm
  | succ m ih =>
    rintro ⟨k, n, t, a⟩ ⟨k', n', t', a'⟩ x y w hm hrx hry hLx hLy hsu hsv hH hg
    simp only [sortV, Bool.and_eq_true, decide_eq_true_eq] at hsu hsv
    obtain ⟨hsk, hsa⟩ := hsu
    obtain ⟨hsk', hsa'⟩ := hsv
    have hkx : k = x.k ∧ 1 ≤ x.k ∧ x.k ≤ 8 := by have := lds_kind hLx; omega
    have hky : k' = y.k ∧ 1 ≤ y.k ∧ y.k ≤ 8 := by have := lds_kind hLy; omega
    obtain ⟨rfl, hx1, hx8⟩ := hkx
    obtain ⟨rfl, hy1, hy8⟩ := hky
    refine rets_of_ok Tryz.func83 rfl rfl ?_
    refine ok_seq (fun M hM => ok_region rfl ?_)
    (try revert X); refine t83 ?_; intro X hX
    refine Runs.box (fun w0 he0 hz0 hb0 => ?_)
    generalize hB0 : w.heap.size = B0 at hz0 hb0
    simp only [Value.cells] at hb0
    (try revert X); refine t83 ?_; intro X hX
    refine Runs.box (fun w1 he1 hz1 hb1 => ?_)
    generalize hB1 : w0.heap.size = B1 at hz1 hb1
    simp only [Value.cells] at hb1
    have hb01 := hb0.ext he1
    have he01 := he0.trans he1
    (try revert X); refine t83 ?_; intro X hX
    refine hM _ _ _ ?_; clear hM M
    have hA1 : ∀ w', Ext w1 w' → ∀ j z, x.row[j]? = some z → w'.cell? ⟨B0, j, none⟩ = some z := fun w' h j z hz => (hb01.ext h).cell hz
    have hA2 : ∀ w', Ext w1 w' → ∀ j z, y.row[j]? = some z → w'.cell? ⟨B1, j, none⟩ = some z := fun w' h j z hz => (hb1.ext h).cell hz
    have hrk : ∀ w', Ext w1 w' → ∀ q : Int, 1 ≤ q → q ≤ 8 → w'.cell? ⟨0, q.toNat, none⟩ = some (.int .i64 q) := fun w' h q h1 h8 => by
      have := (hg.ext (he01.trans h)).rk q.toNat _ (rank_get h1 h8)
      simpa [add_at] using this
    refine ok_join [(0, ptrOf hb), (4, ptrOf B0), (5, ptrOf B1)] (fun w' => Ext w1 w' ∧ x.k = y.k) ?_ ?_
    · refine ok_seq (fun M hM => ?_)
      refine (ok_draw 10 [] (Ext _) Fx.mixed (by decide) rfl (by decide +kernel) (by decide +kernel) (Ext.drew _) ?_)
      (try revert X); refine t83 ?_; intro X hX
      refine ⟨_, fun w' h => hA1 w' h 0 _ rfl, ?_⟩
      (try revert X); refine t83 ?_; intro X hX
      refine ⟨by omega, by omega, ?_⟩
      (try revert X); refine t83 ?_; intro X hX
      refine ⟨_, fun w' h => by rw [Nat.zero_add]; exact hrk w' h x.k hx1 hx8, ?_⟩
      (try revert X); refine t83 ?_; intro X hX
      refine ⟨_, fun w' h => hA2 w' h 0 _ rfl, ?_⟩
      (try revert X); refine t83 ?_; intro X hX
      refine ⟨by omega, by omega, ?_⟩
      (try revert X); refine t83 ?_; intro X hX
      refine ⟨_, fun w' h => by rw [Nat.zero_add]; exact hrk w' h y.k hy1 hy8, ?_⟩
      (try revert X); refine t83 ?_; intro X hX
      refine ⟨.int .i64 (cmpI x.k y.k), fun w' h => Inv.call Fx.en102 (cmpInt_ok w' x.k y.k) (fun v w'' ⟨h1, h2⟩ => ⟨h1, h2 ▸ h⟩), ?_⟩
      (try revert X); refine t83 ?_; intro X hX
      intro w2 he2
      (try revert X); refine t83 ?_; intro X hX
      refine hM _ _ _ ?_; clear hM M
      refine ok_seq (fun M hM => ok_region rfl ?_); (try revert X); refine t83 ?_; intro X hX
      refine hM _ _ _ ?_; clear hM M
      refine ok_ifn rfl (fun hc => ?_) (fun hc => ok_skip ?_)
      · refine ok_seq (fun M hM => ok_region rfl ?_); (try revert X); refine t83 ?_; intro X hX
        refine hM _ _ _ ?_; clear hM M
        refine ok_ret ?_
        try simp only [zW, zU, reduceIte, Nat.reduceEqDiff, Nat.reduceAdd, reduceCtorEq, Q83]
        refine ⟨?_, he01.trans he2⟩
        rw [cmpV, if_pos hc]
      · try simp only [zW, zU, reduceIte, Nat.reduceEqDiff, Nat.reduceAdd, reduceCtorEq, Q83]
        refine ⟨by simp [sub, Env.get], he2, ?_⟩
        revert hc; unfold cmpI
        split
        · intro h; omega
        · split
          · intro h; omega
          · intro; omega
    rintro w2 ⟨he2, hkk⟩
    have hk0 : cmpI x.k y.k = 0 := by unfold cmpI; rw [hkk]; simp
    obtain ⟨Ax, cx, hslx, hargx⟩ := argsV_ok w2 hb rb H F (hH.ext (he01.trans he2)) hl x
    obtain ⟨Ay, cy, hsly, hargy⟩ := argsV_ok w2 hb rb H F (hH.ext (he01.trans he2)) hl y
    refine ok_seq (fun M hM => ?_)
    refine (ok_draw 8 [] (Ext _) Fx.mixed (by decide) rfl (by decide +kernel) (by decide +kernel) (Ext.drew _) ?_)
    (try revert X); refine t83 ?_; intro X hX
    refine ⟨x.row, rfl, fun w' h => (hb01.ext (he2.trans h)).cells (o := 0) (fun j u hj => by simpa using hj), ?_⟩
    (try revert X); refine t83 ?_; intro X hX
    refine ⟨.slice Ax (argsOf H x).length cx, fun w' h => Inv.call Fx.en79 (hargx w' h) (fun v w'' ⟨h1, h2⟩ => ⟨h1, h.trans h2⟩), ?_⟩
    (try revert X); refine t83 ?_; intro X hX
    refine ⟨y.row, rfl, fun w' h => (hb1.ext (he2.trans h)).cells (o := 0) (fun j u hj => by simpa using hj), ?_⟩
    (try revert X); refine t83 ?_; intro X hX
    refine ⟨.slice Ay (argsOf H y).length cy, fun w' h => Inv.call Fx.en79 (hargy w' h) (fun v w'' ⟨h1, h2⟩ => ⟨h1, h.trans h2⟩), ?_⟩
    (try revert X); refine t83 ?_; intro X hX
    intro w3 he3
    (try revert X); refine t83 ?_; intro X hX
    refine hM _ _ _ ?_; clear hM M
    have he13 := he2.trans he3
    have he03 := he01.trans he13
    generalize hc0 : (if x.k = 3 then cmpT t t' else if x.k = 7 then cmpI (a.length : Int) (a'.length : Int) else cmpI n n') = c0
    have hcv : cmpV (.mk x.k n t a) (.mk y.k n' t' a') = if c0 ≠ 0 then c0 else cmpVs a a' := by
      rw [cmpV, if_neg (by rw [hk0]; simp), hc0]
    rw [hcv]
    refine ok_seq (fun M hM => ok_region rfl ?_); (try revert X); refine t83 ?_; intro X hX
    refine hM _ _ _ ?_; clear hM M
    refine ok_join [(0, ptrOf hb), (8, .slice Ax (argsOf H x).length cx), (9, .slice Ay (argsOf H y).length cy), (10, .int .i64 c0)] (fun w' => w' = w3 ∧ ¬ x.k = 3) ?_ ?_
    · refine ok_seq (fun M hM => ok_region rfl ?_)
      (try revert X); refine t83 ?_; intro X hX
      refine ⟨_, hA1 _ he13 0 _ rfl, ?_⟩
      (try revert X); refine t83 ?_; intro X hX
      refine hM _ _ _ ?_; clear hM M
      refine ok_block ?_
      refine ok_seq (fun M hM => ok_region rfl ?_); (try revert X); refine t83 ?_; intro X hX
      refine hM _ _ _ ?_; clear hM M
      refine ok_if rfl (fun h3 => ?_) (fun h3 => ?_)
      · obtain ⟨s, hos⟩ := obj_text hrx h3
        obtain ⟨s', hos'⟩ := obj_text hry (by omega)
        obtain ⟨vs, ps, gs, hR00, hf, -⟩ := id hH
        have hst : s = t := by simp only [Lds] at hLx; rw [if_neg (by omega), if_pos h3, hos] at hLx; simpa using hLx.2.2.2
        have hst' : s' = t' := by simp only [Lds] at hLy; rw [if_neg (by omega), if_pos (by omega), hos'] at hLy; simpa using hLy.2.2.2
        subst hst hst'
        have ha : a = [] := (lds_flat hrx hLx (by omega)).1
        have ha' : a' = [] := (lds_flat hry hLy (by omega)).1
        subst ha ha'
        have at1 : ∀ (z : Wd) (q : ByteArray), objAt H z.r = some (.text q) → ∃ p, (∀ w', Ext w3 w' → Rets Tryz.prog 57 [ptrOf hb, .int .i64 z.r] w' (fun v w'' => v = ptrOf p ∧ w'' = w')) ∧ ∀ w', Ext w3 w' → w'.cell? ⟨p, 1, none⟩ = some (.string q) := by
          intro z q hz
          have hrange := objAt_some hz
          obtain ⟨i, o, hri, hi, hio, hoo⟩ := objAt_in hrange.1 hrange.2
          rw [hz] at hoo; cases hoo
          obtain ⟨p, g, hp, hg', -⟩ := hR00.at_ hio
          refine ⟨p, fun w' h => Calls.mono (object_ok w' hb rb vs ps gs H (hR00.ext (he03.trans h)) hl z.r) ?_, fun w' h => ?_⟩
          · rintro e w'' he
            cases e <;> simp only [callR] at he ⊢
            · obtain ⟨rfl, ⟨h1, -⟩ | ⟨i', p', g', o', h1, h2, h3', h4, h5, h6⟩⟩ := he
              · rw [hz] at h1; cases h1
              · have : i' = i := by omega
                subst this
                rw [hp] at h4; cases h4
                exact ⟨h6, rfl⟩
            all_goals exact he
          · have hob : ObW w p g (.text q) := hR00.obj i p g _ hp hg' hio
            exact ((Blk.ext hob (he03.trans h)).cell (j := 1) rfl)
        obtain ⟨p1, hp1, hc1⟩ := at1 x s hos
        obtain ⟨p2, hp2, hc2⟩ := at1 y s' hos'
        refine ok_seq (fun M hM => ?_)
        refine (ok_draw 16 [] (Ext _) Fx.mixed (by decide) rfl (by decide +kernel) (by decide +kernel) (Ext.drew _) ?_)
        (try revert X); refine t83 ?_; intro X hX
        refine ⟨_, fun w' h => hA1 w' (he13.trans h) 2 _ rfl, ?_⟩
        (try revert X); refine t83 ?_; intro X hX
        refine ⟨ptrOf p1, fun w' h => Inv.call Fx.en57 (hp1 w' h) (fun v w'' ⟨h1, h2⟩ => ⟨h1, h2 ▸ h⟩), ?_⟩
        (try revert X); refine t83 ?_; intro X hX
        refine ⟨_, fun w' h => hc1 w' h, ?_⟩
        (try revert X); refine t83 ?_; intro X hX
        refine ⟨_, fun w' h => hA2 w' (he13.trans h) 2 _ rfl, ?_⟩
        (try revert X); refine t83 ?_; intro X hX
        refine ⟨ptrOf p2, fun w' h => Inv.call Fx.en57 (hp2 w' h) (fun v w'' ⟨h1, h2⟩ => ⟨h1, h2 ▸ h⟩), ?_⟩
        (try revert X); refine t83 ?_; intro X hX
        refine ⟨_, fun w' h => hc2 w' h, ?_⟩
        (try revert X); refine t83 ?_; intro X hX
        refine ⟨.int .i64 (cmpT s s'), fun w' h => Inv.call Fx.en103 (strcmp_ok w' s s') (fun v w'' ⟨h1, h2⟩ => ⟨h1, h2 ▸ h⟩), ?_⟩
        (try revert X); refine t83 ?_; intro X hX
        intro w4 he4
        (try revert X); refine t83 ?_; intro X hX
        refine hM _ _ _ ?_; clear hM M
        refine ok_ret ?_
        try simp only [zW, zU, reduceIte, Nat.reduceEqDiff, Nat.reduceAdd, reduceCtorEq, Q83]
        refine ⟨?_, he03.trans he4⟩
        rw [if_pos h3] at hc0
        rw [hc0]
        by_cases hz : c0 = 0
        · rw [if_neg (by simp [hz]), hz]; rfl
        · rw [if_pos hz]
      rw [if_neg h3] at hc0
      refine ok_seq (fun M hM => ok_region rfl ?_); (try revert X); refine t83 ?_; intro X hX
      refine hM _ _ _ ?_; clear hM M
      refine ok_if rfl (fun h7 => ?_) (fun h7 => ?_)
      · rw [if_pos h7] at hc0
        have e1 := LdsL.length _ _ (lds_args hLx (by omega)).1
        have e2 := LdsL.length _ _ (lds_args hLy (by omega)).1
        refine ok_region rfl ?_
        (try revert X); refine t83 ?_; intro X hX
        refine Inv.call Fx.en102 (cmpInt_ok w3 (argsOf H x).length (argsOf H y).length) ?_
        rintro v w4 ⟨rfl, rfl⟩
        (try revert X); refine t83 ?_; intro X hX
        rw [e1, e2]
        simp [sub, Env.get, hc0, h3]
      · rw [if_neg h7] at hc0
        have e1 : n = x.n := (lds_args hLx (by omega)).2
        have e2 : n' = y.n := (lds_args hLy (by omega)).2
        refine ok_region rfl ?_
        (try revert X); refine t83 ?_; intro X hX
        refine ⟨_, hA1 _ he13 1 _ rfl, ?_⟩
        (try revert X); refine t83 ?_; intro X hX
        refine ⟨_, hA2 _ he13 1 _ rfl, ?_⟩
        (try revert X); refine t83 ?_; intro X hX
        refine Inv.call Fx.en104 (cmpInt64_ok w3 x.n y.n) ?_
        rintro v w4 ⟨rfl, rfl⟩
        (try revert X); refine t83 ?_; intro X hX
        rw [← e1, ← e2]
        simp [sub, Env.get, hc0, h3]
    rintro w4 ⟨rfl, h3⟩
    refine ok_join [(0, ptrOf hb), (8, .slice Ax (argsOf H x).length cx), (9, .slice Ay (argsOf H y).length cy)] (fun w' => w' = w4 ∧ c0 = 0) ?_ ?_
    · refine ok_seq (fun M hM => ok_region rfl ?_); (try revert X); refine t83 ?_; intro X hX
      refine hM _ _ _ ?_; clear hM M
      refine ok_ifn rfl (fun hc => ?_) (fun hc => ok_skip ?_)
      · refine ok_seq (fun M hM => ok_region rfl ?_); (try revert X); refine t83 ?_; intro X hX
        refine hM _ _ _ ?_; clear hM M
        refine ok_ret ?_
        try simp only [zW, zU, reduceIte, Nat.reduceEqDiff, Nat.reduceAdd, reduceCtorEq, Q83]
        exact ⟨by rw [if_pos hc], he03⟩
      · try simp only [zW, zU, reduceIte, Nat.reduceEqDiff, Nat.reduceAdd, reduceCtorEq, Q83]
        exact ⟨by simp [sub, Env.get], hc⟩
    rintro w5 ⟨rfl, rfl⟩
    rw [if_neg (by simp)]
    obtain ⟨hLa, -⟩ := lds_args hLx (by omega)
    obtain ⟨hLa', -⟩ := lds_args hLy (by omega)
    have hal := hG.lim.args x
    have hal' := hG.lim.args y
    refine ok_seq (fun M hM => ok_region rfl ?_)
    (try revert X); refine t83 ?_; intro X hX
    refine Inv.call Fx.en105 (cmpFunc_ok w5 Ax Ay cx cy (argsOf H x) (argsOf H y) a a' _ (LdsL.length _ _ hLa) (LdsL.length _ _ hLa') (hslx.ext he3) (hsly.ext he3) (by omega) (by omega) ?_) ?_
    · intro i x' y' u v w6 hxi hyi hui hvi he6
      have hsz : SizeOf.sizeOf u ≤ m := by
        have := List.sizeOf_lt_of_mem (List.mem_of_getElem? hui)
        simp at hm
        omega
      refine Inv.bound (first := [ptrOf hb]) Fx.en83 (ih u v x' y' w6 hsz (hG.args (List.mem_of_getElem? hxi)).1 (hG.args (List.mem_of_getElem? hyi)).1 (LdsL.get _ _ hLa i _ _ hxi hui) (LdsL.get _ _ hLa' i _ _ hyi hvi) ((sortVs_iff a).1 hsa i u hui) ((sortVs_iff a').1 hsa' i v hvi) (hH.ext (he03.trans he6)) (hg.ext (he03.trans he6))) ?_
      rintro r w7 h
      exact h
    rintro r w6 ⟨rfl, he6⟩
    (try revert X); refine t83 ?_; intro X hX
    refine hM _ _ _ ?_; clear hM M
    refine ok_ret ?_
    try simp only [zW, zU, reduceIte, Nat.reduceEqDiff, Nat.reduceAdd, reduceCtorEq, Q83]
    exact he03.trans he6
end Go.Proofs.YtldeokfhipjbfaaGreatDoor
/- The plain law of HeapPlays: rings, parts, what is reached. -/
set_option linter.unusedVariables false
set_option linter.unusedSimpArgs false
namespace Go.Proofs.YtldeokfhipjbfaaGreatDoor
open Go Go.Proofs.Vg Go.RowKit

/-! Rings. -/
theorem ringF_lds {H : List Ob} (hG : GoodH H) {l : List Wd} (hr : ∀ x ∈ l, rightW H x = true) : ringF H l = false ↔ ∀ x ∈ l, ∃ u, Lds H x u := by
  constructor
  · intro h x hx
    unfold ringF at h
    obtain ⟨a1, a2, a3, -⟩ := visitL_reads (g := visitF H (H.length + 2)) (fun st r b1 b2 b3 b4 b5 => visitF_reads hG _ st r b1 b2 b3 b4 b5) l (List.replicate (H.length + 1) 0) (fun y hy => right_ref (hr y hy)) ⟨by simp, fun y hy => by simp at hy; simp [hy]⟩ (fun r' hr' hs => by
      rw [List.getElem?_replicate] at hs
      split at hs
      · cases hs
      · cases hs) h
    refine reads_word (hr x hx) ?_
    rcases a3 x hx with h1 | h1
    · exact .inl h1
    · by_cases e : x.r = 0
      · exact .inl e
      · exact .inr (a1 x.r (by have := right_ref (hr x hx); omega) h1)
  · intro h
    have hz : zer (List.replicate (H.length + 1) (0 : Int)) = H.length + 1 := by
      unfold zer; rw [List.countP_replicate]; simp
    have hB : ∃ B, 0 < B ∧ ∀ x ∈ l, x.r = 0 ∨ ∃ us, LdsL H (listO (objAt H x.r)) us ∧ SizeOf.sizeOf us < B := by
      clear hz
      induction l with
      | nil => exact ⟨1, by omega, fun x hx => by cases hx⟩
      | cons y l ih =>
        obtain ⟨B, hB0, hB⟩ := ih (fun x hx => hr x (List.mem_cons_of_mem _ hx)) (fun x hx => h x (List.mem_cons_of_mem _ hx))
        obtain ⟨u, hu⟩ := h y List.mem_cons_self
        refine ⟨B + SizeOf.sizeOf u, by omega, fun x hx => ?_⟩
        rcases List.mem_cons.1 hx with rfl | hx
        · rcases word_us (hr _ List.mem_cons_self) hu with h1 | ⟨us, h1, h2⟩
          · exact .inl h1
          · exact .inr ⟨us, h1, by omega⟩
        · rcases hB x hx with h1 | ⟨us, h1, h2⟩
          · exact .inl h1
          · exact .inr ⟨us, h1, by omega⟩
    obtain ⟨B, hB0, hB⟩ := hB
    unfold ringF
    refine (visitL_false (fun st r us a b c d e f' => visitF_false hG _ st r us a b c d e f') B l (List.replicate (H.length + 1) 0) (fun y hy => ?_) ⟨by simp, fun y hy => by simp at hy; simp [hy]⟩ (by omega) (fun g hg us hus => ?_) hB0).1
    · have hx := right_ref (hr y hy)
      exact ⟨hx.1, hx.2, hB y hy⟩
    · rw [List.getElem?_replicate] at hg
      split at hg
      · cases hg
      · cases hg
theorem ringF_two {H : List Ob} (hG : GoodH H) {x y : Wd} (hx : rightW H x = true) (hy : rightW H y = true) : ringF H [x, y] = (ringF H [x] || ringF H [y]) := by
  have h1 := ringF_lds hG (l := [x, y]) (fun z hz => by simp at hz; rcases hz with rfl | rfl <;> assumption)
  have h2 := ringF_lds hG (l := [x]) (fun z hz => by simp at hz; subst hz; exact hx)
  have h3 := ringF_lds hG (l := [y]) (fun z hz => by simp at hz; subst hz; exact hy)
  simp only [List.mem_cons, List.not_mem_nil, or_false, forall_eq_or_imp, forall_eq] at h1 h2 h3
  cases e : ringF H [x, y] with
  | false => rw [h2.2 (h1.1 e).1, h3.2 (h1.1 e).2]; rfl
  | true =>
    cases e1 : ringF H [x] with
    | true => rfl
    | false =>
      cases e2 : ringF H [y] with
      | true => rfl
      | false => rw [h1.2 ⟨h2.1 e1, h3.1 e2⟩] at e; cases e

/-! What is reached. -/
def addF (q : List Int) (x : Wd) : List Int := if x.r = 0 ∨ x.r ∈ q then q else q ++ [x.r]
def addL (q : List Int) (l : List Wd) : List Int := l.foldl addF q
theorem push_add {n : Nat} : ∀ (l : List Wd) (sn : List Bool) (q : List Int), (∀ x ∈ l, 0 ≤ x.r ∧ x.r ≤ (n : Int)) → Qok n sn q → SubQ sn q → (pushF sn q l).2 = addL q l := by
  intro l
  induction l with
  | nil => intro sn q _ _ _; rfl
  | cons x l ih =>
    intro sn q hl hq hs
    have hx := hl x List.mem_cons_self
    have hl' := fun y hy => hl y (List.mem_cons_of_mem _ hy)
    simp only [pushF, addL, List.foldl_cons, addF]
    have hxl : x.r.toNat < sn.length := by rw [hq.len]; omega
    by_cases h0 : x.r = 0
    · rw [if_neg (by simp [h0]), if_pos (.inl h0)]
      exact ih sn q hl' hq hs
    · by_cases hm : x.r ∈ q
      · rw [if_neg (by rw [hq.sn _ hm]; simp), if_pos (.inr hm)]
        exact ih sn q hl' hq hs
      · have hf : sn[x.r.toNat]? = some false := by
          rw [List.getElem?_eq_getElem hxl]
          cases hb : sn[x.r.toNat] with
          | false => rfl
          | true =>
            have := hs x.r.toNat (by rw [List.getElem?_eq_getElem hxl, hb])
            rw [show ((x.r.toNat : Nat) : Int) = x.r by omega] at this
            exact absurd this hm
        rw [if_pos ⟨h0, hf⟩, if_neg (by rintro (h | h); exact h0 h; exact hm h)]
        refine ih _ _ hl' (hq.push hx.1 hx.2 h0 hf) (fun r hr => ?_)
        rw [List.getElem?_set] at hr
        split at hr
        · rename_i e
          rw [← e]
          exact List.mem_append_right _ (by simp; omega)
        · exact List.mem_append_left _ (hs r hr)
theorem pushF_mem : ∀ (l : List Wd) (sn : List Bool) (q : List Int), ∀ r ∈ (pushF sn q l).2, r ∈ q ∨ ∃ x ∈ l, x.r = r ∧ r ≠ 0 := by
  intro l
  induction l with
  | nil => intro sn q r hr; exact .inl hr
  | cons x l ih =>
    intro sn q r hr
    simp only [pushF] at hr
    split at hr
    · rename_i hc
      rcases ih _ _ r hr with h | ⟨y, hy, h⟩
      · rcases List.mem_append.1 h with h | h
        · exact .inl h
        · simp at h; subst h
          exact .inr ⟨x, List.mem_cons_self, rfl, hc.1⟩
      · exact .inr ⟨y, List.mem_cons_of_mem _ hy, h⟩
    · rcases ih _ _ r hr with h | ⟨y, hy, h⟩
      · exact .inl h
      · exact .inr ⟨y, List.mem_cons_of_mem _ hy, h⟩
theorem bfs_least {H : List Ob} {P : Int → Prop} (hP : ∀ r, P r → ∀ y ∈ listO (objAt H r), y.r = 0 ∨ P y.r) : ∀ (f : Nat) (sn : List Bool) (q : List Int) (i : Nat), (∀ r ∈ q, P r) → ∀ r ∈ bfs H f sn q i, P r := by
  intro f
  induction f with
  | zero => intro sn q i hq; exact hq
  | succ f ih =>
    intro sn q i hq
    simp only [bfs]
    split
    · exact hq
    · rename_i r hr
      refine ih _ _ _ (fun s hs => ?_)
      rcases pushF_mem _ _ _ s hs with h | ⟨y, hy, rfl, h0⟩
      · exact hq s h
      · exact (hP r (hq r (List.mem_of_getElem? hr)) y hy).resolve_left h0
theorem collQ_least {H : List Ob} {P : Int → Prop} (hP : ∀ r, P r → ∀ y ∈ listO (objAt H r), y.r = 0 ∨ P y.r) {roots : List Wd} (hr : ∀ x ∈ roots, x.r = 0 ∨ P x.r) : ∀ r ∈ collQ H roots, P r := by
  refine bfs_least hP _ _ _ _ (fun s hs => ?_)
  rcases pushF_mem _ _ _ s hs with h | ⟨y, hy, rfl, h0⟩
  · cases h
  · exact (hr y hy).resolve_left h0
theorem nodup_len {a b : List Int} (ha : a.Nodup) (h : ∀ x ∈ a, x ∈ b) : a.length ≤ b.length := by
  induction a generalizing b with
  | nil => simp
  | cons x a ih =>
    have hx := h x List.mem_cons_self
    have h1 := List.nodup_cons.1 ha
    have := ih (b := b.erase x) h1.2 (fun y hy => by
      have hne : y ≠ x := fun e => h1.1 (e ▸ hy)
      exact (List.mem_erase_of_ne hne).2 (h y (List.mem_cons_of_mem _ hy)))
    rw [List.length_erase_of_mem hx] at this
    have hb := List.length_pos_of_mem hx
    simp only [List.length_cons]; omega

/-! The reference's ring: a number that is reached from itself. -/
def ringR (H : List Ob) (x : Wd) : Bool := (collQ H [x]).any fun r => decide (r ∈ collQ H (listO (objAt H r)))
theorem list_ref {H : List Ob} (hG : GoodH H) (r : Int) : ∀ y ∈ listO (objAt H r), rightW H y = true := by
  intro y hy
  cases ho : objAt H r with
  | none => rw [ho] at hy; cases hy
  | some o => rw [ho] at hy; exact (hG.w o (objAt_mem ho) y hy).1
theorem ringR_iff {H : List Ob} (hG : GoodH H) {x : Wd} (hr : rightW H x = true) : ringR H x = false ↔ ∃ u, Lds H x u := by
  have hroot : ∀ z ∈ [x], 0 ≤ z.r ∧ z.r ≤ (H.length : Int) := fun z hz => by simp at hz; subst hz; exact right_ref hr
  have hlr : ∀ r, ∀ z ∈ listO (objAt H r), 0 ≤ z.r ∧ z.r ≤ (H.length : Int) := fun r z hz => right_ref (list_ref hG r z hz)
  have edge : ∀ (r : Int) (us : List Val), LdsL H (listO (objAt H r)) us → ∀ y ∈ listO (objAt H r), y.r = 0 ∨ ∃ vs, LdsL H (listO (objAt H y.r)) vs ∧ SizeOf.sizeOf vs < SizeOf.sizeOf us := by
    intro r us hus y hy
    obtain ⟨i, hi⟩ := List.mem_iff_getElem?.1 hy
    have hl := LdsL.length _ _ hus
    have hiu : i < us.length := by have := (List.getElem?_eq_some_iff.1 hi).1; omega
    have hv := LdsL.get _ _ hus i y us[i] hi (List.getElem?_eq_getElem hiu)
    rcases word_us (list_ref hG r y hy) hv with h | ⟨vs, h1, h2⟩
    · exact .inl h
    · have := List.sizeOf_lt_of_mem (List.getElem_mem hiu)
      exact .inr ⟨vs, h1, by omega⟩
  constructor
  · intro h
    have hno : ∀ r ∈ collQ H [x], r ∉ collQ H (listO (objAt H r)) := by
      intro r hr hm
      have : ringR H x = true := List.any_eq_true.2 ⟨r, hr, by simpa using hm⟩
      rw [this] at h; cases h
    have reads : ∀ (m : Nat) (r : Int), (collQ H (listO (objAt H r))).length ≤ m → r ∈ collQ H [x] → Reads H r := by
      intro m
      induction m with
      | zero =>
        intro r hm hrm
        refine LdsL_of _ (fun y hy => reads_word (list_ref hG r y hy) ?_)
        rcases collQ_roots hG.wf (hlr r) y hy with h | h
        · exact .inl h
        · have := List.length_pos_of_mem h; omega
      | succ m ih =>
        intro r hm hrm
        refine LdsL_of _ (fun y hy => reads_word (list_ref hG r y hy) ?_)
        rcases collQ_roots hG.wf (hlr r) y hy with h | h
        · exact .inl h
        · have hyR : y.r ∈ collQ H [x] := by
            rcases collQ_closed hG.wf hroot r hrm y hy with h' | h'
            · have := ((collQ_nd hG.wf (hlr r)).2 _ h).1; omega
            · exact h'
          have hsub : ∀ s ∈ collQ H (listO (objAt H y.r)), s ∈ collQ H (listO (objAt H r)) :=
            collQ_least (P := fun s => s ∈ collQ H (listO (objAt H r))) (fun s hs => collQ_closed hG.wf (hlr r) s hs) (collQ_closed hG.wf (hlr r) _ h)
          have hnd := (collQ_nd hG.wf (hlr y.r)).1
          have hlt := nodup_len (a := y.r :: collQ H (listO (objAt H y.r))) (b := collQ H (listO (objAt H r))) (List.nodup_cons.2 ⟨hno _ hyR, hnd⟩) (fun s hs => by
            rcases List.mem_cons.1 hs with rfl | hs
            · exact h
            · exact hsub s hs)
          simp at hlt
          exact .inr (ih y.r (by omega) hyR)
    refine reads_word hr ?_
    rcases collQ_roots hG.wf hroot x (by simp) with h | h
    · exact .inl h
    · exact .inr (reads _ _ (Nat.le_refl _) h)
  · rintro ⟨u, hu⟩
    have hP : ∀ r ∈ collQ H [x], ∃ us, LdsL H (listO (objAt H r)) us := by
      refine collQ_least (P := fun r => ∃ us, LdsL H (listO (objAt H r)) us) (fun r hr' y hy => ?_) (fun z hz => ?_)
      · obtain ⟨us, hus⟩ := hr'
        rcases edge r us hus y hy with h | ⟨vs, h1, -⟩
        · exact .inl h
        · exact .inr ⟨vs, h1⟩
      · simp at hz; subst hz
        rcases word_us hr hu with h | ⟨us, h1, -⟩
        · exact .inl h
        · exact .inr ⟨us, h1⟩
    unfold ringR
    rw [List.any_eq_false]
    intro r hrm
    obtain ⟨us, hus⟩ := hP r hrm
    simp only [decide_eq_true_eq]
    intro hm
    have hQ : ∀ s ∈ collQ H (listO (objAt H r)), ∃ vs, LdsL H (listO (objAt H s)) vs ∧ SizeOf.sizeOf vs < SizeOf.sizeOf us := by
      refine collQ_least (P := fun s => ∃ vs, LdsL H (listO (objAt H s)) vs ∧ SizeOf.sizeOf vs < SizeOf.sizeOf us) (fun s hs' y hy => ?_) (fun z hz => edge r us hus z hz)
      obtain ⟨vs, hvs, hlt⟩ := hs'
      rcases edge s vs hvs y hy with h | ⟨vs', h1, h2⟩
      · exact .inl h
      · exact .inr ⟨vs', h1, by omega⟩
    obtain ⟨vs, h1, h2⟩ := hQ r hm
    have := LdsL_fun us _ vs hus h1
    subst this
    omega
theorem ringR_eq {H : List Ob} (hG : GoodH H) {x : Wd} (hr : rightW H x = true) : ringR H x = ringF H [x] := by
  have h1 := ringR_iff hG hr
  have h2 := ringF_iff hG hr
  cases e : ringF H [x] with
  | false => rw [h1.2 (h2.1 e)]
  | true =>
    cases e1 : ringR H x with
    | true => rfl
    | false => rw [h2.2 (h1.1 e1)] at e; cases e

/-! Parts: the nodes above a depth. -/
def cntD (H : List Ob) : Nat → List Wd → Nat
  | 0, _ => 0
  | d + 1, l => (l.map fun x => 1 + cntD H d (argsOf H x)).sum
theorem cntD_app (H : List Ob) (d : Nat) (a b : List Wd) : cntD H d (a ++ b) = cntD H d a + cntD H d b := by
  cases d <;> simp [cntD]
theorem cntD_one (H : List Ob) (d : Nat) (x : Wd) : cntD H (d + 1) [x] = 1 + cntD H d (argsOf H x) := by simp [cntD]
theorem cntD_nil (H : List Ob) (d : Nat) : cntD H d [] = 0 := by cases d <;> simp [cntD]
theorem cntD_cons (H : List Ob) (d : Nat) (x : Wd) (l : List Wd) : cntD H (d + 1) (x :: l) = 1 + cntD H d (argsOf H x) + cntD H (d + 1) l := by simp [cntD]
theorem cntD_mono (H : List Ob) : ∀ (d : Nat) (l : List Wd), cntD H d l ≤ cntD H (d + 1) l
  | 0, l => by simp [cntD]
  | d + 1, l => by
    induction l with
    | nil => simp [cntD_nil]
    | cons x l ih =>
      rw [cntD_cons, cntD_cons]
      have := cntD_mono H d (argsOf H x)
      omega
theorem cntD_stab (H : List Ob) : ∀ (d : Nat) (l : List Wd), cntD H d l < d → cntD H (d + 1) l = cntD H d l
  | 0, l, h => absurd h (Nat.not_lt_zero _)
  | d + 1, l, h => by
    induction l with
    | nil => simp [cntD_nil]
    | cons x l ih =>
      rw [cntD_cons] at h ⊢
      rw [cntD_cons, ih (by omega), cntD_stab H d (argsOf H x) (by omega)]
theorem cntD_stab' (H : List Ob) (l : List Wd) (d e : Nat) (h : cntD H d l < d) : cntD H (d + e) l = cntD H d l := by
  induction e with
  | zero => rfl
  | succ e ih => rw [← Nat.add_assoc, cntD_stab H (d + e) l (by rw [ih]; omega), ih]
theorem cntD_le (H : List Ob) (l : List Wd) (d e : Nat) : cntD H d l ≤ cntD H (d + e) l := by
  induction e with
  | zero => exact Nat.le_refl _
  | succ e ih => exact Nat.le_trans ih (cntD_mono H (d + e) l)
theorem cntD_cap (H : List Ob) (l : List Wd) {c d e : Nat} (h1 : c ≤ d) (h2 : c ≤ e) : min (cntD H d l) c = min (cntD H e l) c := by
  have key : ∀ a b, c ≤ a → min (cntD H a l) c = min (cntD H (a + b) l) c := fun a b ha => by
    by_cases h : cntD H a l < c
    · rw [cntD_stab' H l a b (by omega)]
    · have := cntD_le H l a b
      omega
  rw [key d e h1, key e d h2, Nat.add_comm]
theorem partsF_cnt (H : List Ob) : ∀ (f : Nat) (todo : List Wd) (D : Nat), f + 1 ≤ D → partsF H f todo = min (cntD H D todo) (f + 1) := by
  intro f
  induction f with
  | zero =>
    intro todo D hD
    obtain ⟨D, rfl⟩ : ∃ D', D = D' + 1 := ⟨D - 1, by omega⟩
    cases todo with
    | nil => simp [partsF, cntD_nil]
    | cons x l =>
      rw [cntD_cons]
      simp only [partsF, List.getLast?_cons]
      omega
  | succ f ih =>
    intro todo D hD
    obtain ⟨D, rfl⟩ : ∃ D', D = D' + 1 := ⟨D - 1, by omega⟩
    simp only [partsF]
    cases hl : todo.getLast? with
    | none =>
      have := List.getLast?_eq_none_iff.1 hl
      subst this
      simp [cntD_nil]
    | some x =>
      have hne : todo ≠ [] := fun e => by subst e; cases hl
      obtain ⟨m, hm⟩ : ∃ m, todo.length = m + 1 := ⟨todo.length - 1, by have := List.length_pos_iff.2 hne; omega⟩
      obtain ⟨init, y, rfl, -⟩ := last_split hm
      rw [List.getLast?_concat] at hl
      cases hl
      rw [List.dropLast_concat]
      simp only
      rw [ih _ D (by omega), cntD_app, cntD_app, cntD_one]
      have := cntD_cap H init (c := f + 1) (d := D) (e := D + 1) (by omega) (by omega)
      omega
end Go.Proofs.YtldeokfhipjbfaaGreatDoor
/- The program's heap: Compare. -/
set_option linter.unusedVariables false
set_option linter.unusedSimpArgs false
namespace Go.Proofs.YtldeokfhipjbfaaGreatDoor
open Go Go.Proofs.Vg Go.RowKit
/-- What a word reads as, if it reads. -/
noncomputable def valO (H : List Ob) (x : Wd) : Val := @Classical.epsilon Val ⟨zeroVal⟩ (fun u => Lds H x u)
theorem valO_lds {H : List Ob} {x : Wd} (h : ∃ u, Lds H x u) : Lds H x (valO H x) := Classical.epsilon_spec_aux ⟨zeroVal⟩ (fun u => Lds H x u) h
noncomputable def cmpE (H : List Ob) (x y : Wd) : Int :=
  if rightW H x = true ∧ rightW H y = true then if ringF H [x] = true ∨ ringF H [y] = true then 13 else if 100000 < partsF H 100000 [x] ∨ 100000 < partsF H 100000 [y] then 6 else
    if sortV (valO H x) = true ∧ sortV (valO H y) = true then 0 else 1 else 2
noncomputable def cmpR (H : List Ob) (x y : Wd) : Int := if cmpE H x y = 0 then cmpV (valO H x) (valO H y) else 0

-- -- function 41
set_option maxHeartbeats 4000000 in
set_option maxRecDepth 8000 in
theorem CompareW_ok (w : World) (hb rb : Nat) (H : List Ob) (F : Nat → Prop) (hH : HeapW w hb rb H F) (hl : H.length ≤ 1073741824) (hG : GoodH H) (mk : Nat) (hg : Glob w mk) (x y : Wd) :
    Rets Tryz.prog 41 [ptrOf hb, wv x, wv y] w (fun v w' => v = .tuple #[.int .i64 (cmpR H x y), .int .i64 (cmpE H x y)] ∧ Ext w w') := by
  have hLim := fun z => hG.lim.args z
  have bad : ∀ e, cmpE H x y = e → e ≠ 0 → ∀ w', Ext w w' → Value.tuple #[.int .i64 0, .int .i64 e] = .tuple #[.int .i64 (cmpR H x y), .int .i64 (cmpE H x y)] ∧ Ext w w' := by
    intro e he hne w' hx
    have : cmpR H x y = 0 := by unfold cmpR; rw [if_neg (by rw [he]; exact hne)]
    rw [this, he]
    exact ⟨rfl, hx⟩
  refine rets_of_ok Tryz.func41 rfl rfl ?_
  refine ok_seq (fun M hM => ok_region rfl ?_)
  (try revert X); refine t41 ?_; intro X hX
  refine Runs.box (fun w0 he0 hz0 hb0 => ?_)
  generalize hB0 : w.heap.size = B0 at hz0 hb0
  simp only [Value.cells] at hb0
  (try revert X); refine t41 ?_; intro X hX
  refine Runs.box (fun w1 he1 hz1 hb1 => ?_)
  generalize hB1 : w0.heap.size = B1 at hz1 hb1
  simp only [Value.cells] at hb1
  have hb01 := hb0.ext he1
  have he01 := he0.trans he1
  (try revert X); refine t41 ?_; intro X hX
  refine hM _ _ _ ?_; clear hM M
  have hA1 : ∀ w', Ext w1 w' → cellsAt w' ⟨B0, 0, none⟩ x.row := fun w' h => (hb01.ext h).cells (o := 0) (fun j u hj => by simpa using hj)
  have hA2 : ∀ w', Ext w1 w' → cellsAt w' ⟨B1, 0, none⟩ y.row := fun w' h => (hb1.ext h).cells (o := 0) (fun j u hj => by simpa using hj)
  refine ok_join [(0, ptrOf hb), (4, ptrOf B0), (5, ptrOf B1)] (fun w' => Ext w1 w' ∧ cmpE H x y = 0) ?_ ?_
  rotate_left
  · rintro w2 ⟨he2, hE⟩
    have hc : (rightW H x = true ∧ rightW H y = true) ∧ ¬ (ringF H [x] = true ∨ ringF H [y] = true) ∧ sortV (valO H x) = true ∧ sortV (valO H y) = true := by
      unfold cmpE at hE
      split at hE
      · split at hE
        · cases hE
        · split at hE
          · cases hE
          · split at hE
            · exact ⟨by assumption, by assumption, by assumption⟩
            · cases hE
      · cases hE
    obtain ⟨⟨hrx, hry⟩, hno, hsx, hsy⟩ := hc
    have hLx := valO_lds (ringF_reads hG hrx (by cases h : ringF H [x] with | false => rfl | true => exact absurd (.inl h) hno))
    have hLy := valO_lds (ringF_reads hG hry (by cases h : ringF H [y] with | false => rfl | true => exact absurd (.inr h) hno))
    have hR : cmpR H x y = cmpV (valO H x) (valO H y) := by unfold cmpR; rw [if_pos hE]
    rw [hE, hR]
    refine ok_seq (fun M hM => ok_region rfl ?_)
    (try revert X); refine t41 ?_; intro X hX
    refine ⟨x.row, rfl, hA1 _ he2, ?_⟩
    (try revert X); refine t41 ?_; intro X hX
    refine ⟨y.row, rfl, hA2 _ he2, ?_⟩
    (try revert X); refine t41 ?_; intro X hX
    refine Inv.call Fx.en83 (order_ok hb rb H F hl hG mk _ (valO H x) (valO H y) x y w2 (Nat.le_refl _) hrx hry hLx hLy hsx hsy (hH.ext (he01.trans he2)) (hg.ext (he01.trans he2))) ?_
    rintro v w3 ⟨rfl, he3⟩
    (try revert X); refine t41 ?_; intro X hX
    refine hM _ _ _ ?_; clear hM M
    refine ok_ret ?_
    try simp only [zW, zU, reduceIte, Nat.reduceEqDiff, Nat.reduceAdd, reduceCtorEq, Q41]
    exact (he01.trans he2).trans he3
  refine ok_block ?_
  refine ok_seq (fun M hM => ok_region rfl ?_)
  (try revert X); refine t41 ?_; intro X hX
  refine Runs.ptrEq Fx.un25 ?_
  (try revert X); refine t41 ?_; intro X hX
  refine hM _ _ _ ?_; clear hM M
  refine ok_cond rfl (fun h => by cases h) (fun _ => ?_)
  -- right
  refine ok_join [(0, ptrOf hb), (4, ptrOf B0), (5, ptrOf B1), (11, .bool (!(rightW H x && rightW H y)))] (fun w' => Ext w1 w') ?_ ?_
  · refine ok_region rfl ?_
    (try revert X); refine t41 ?_; intro X hX
    refine ⟨x.row, rfl, hA1 _ (Ext.refl _), ?_⟩
    (try revert X); refine t41 ?_; intro X hX
    refine Inv.call Fx.en12 (right_ok w1 hb rb H F (hH.ext he01) hl x) ?_
    rintro v w2 ⟨rfl, he2⟩
    (try revert X); refine t41 ?_; intro X hX
    cases hrx : rightW H x with
    | false =>
      simp only [Bool.not_false]
      (try revert X); refine t41 ?_; intro X hX
      refine ⟨fun h => (by cases h), fun _ => ?_⟩
      (try revert X); refine t41 ?_; intro X hX
      simp [sub, Env.get, he2, hrx]
    | true =>
      simp only [Bool.not_true]
      (try revert X); refine t41 ?_; intro X hX
      refine ⟨fun _ => ?_, fun h => (by cases h)⟩
      (try revert X); refine t41 ?_; intro X hX
      refine ⟨y.row, rfl, hA2 _ he2, ?_⟩
      (try revert X); refine t41 ?_; intro X hX
      refine Inv.call Fx.en12 (right_ok w2 hb rb H F (hH.ext (he01.trans he2)) hl y) ?_
      rintro v w3 ⟨rfl, he3⟩
      (try revert X); refine t41 ?_; intro X hX
      simp [sub, Env.get, he2.trans he3, hrx]
  rintro w2 he2
  cases hr : (rightW H x && rightW H y) with
  | false =>
    refine ok_cond (b := true) rfl (fun _ => ?_) (fun h => by cases h)
    refine ok_seq (fun M hM => ok_region rfl ?_); (try revert X); refine t41 ?_; intro X hX
    refine hM _ _ _ ?_; clear hM M
    refine ok_ret ?_
    refine ⟨rfl, bad 2 ?_ (by decide) _ (he01.trans he2)⟩
    unfold cmpE
    rw [if_neg (fun h => by rw [h.1, h.2] at hr; cases hr)]
  | true =>
  refine ok_cond (b := false) rfl (fun h => by cases h) (fun _ => ?_)
  obtain ⟨hrx, hry⟩ : rightW H x = true ∧ rightW H y = true := by simpa using hr
  clear hr
  have hrefx := right_ref hrx
  have hrefy := right_ref hry
  -- ring
  refine ok_seq (fun M hM => ok_region rfl ?_)
  (try revert X); refine t41 ?_; intro X hX
  refine ⟨x.row, rfl, hA1 _ he2, ?_⟩
  (try revert X); refine t41 ?_; intro X hX
  refine ⟨y.row, rfl, hA2 _ he2, ?_⟩
  (try revert X); refine t41 ?_; intro X hX
  refine Runs.lit (cs := x.row ++ y.row) Fx.un29 Fx.zi38 (by decide) (by kernel_rfl) (by decide) (fun w3 he3 hs3 hb3 => ?_)
  generalize hB3 : w2.heap.size = B3 at hs3 hb3
  have hsl : SlW w3 (.slice (some ⟨B3, 0, none⟩) 2 2) [x, y] := by
    refine ⟨some ⟨B3, 0, none⟩, 2, rfl, by simp, fun j row hj => ?_⟩
    rcases j with _ | _ | j
    · simp at hj; subst hj
      exact ⟨B3, 0, rfl, hb3.cells (o := 0) (fun j u hj => by rw [Nat.zero_add, List.getElem?_append_left (by have := (List.getElem?_eq_some_iff.1 hj).1; simpa [Wd.row] using this)]; exact hj)⟩
    · simp at hj; subst hj
      exact ⟨B3, 0, rfl, hb3.cells (o := 3) (fun j u hj => by rw [List.getElem?_append_right (by simp [Wd.row])]; simpa [Wd.row] using hj)⟩
    · simp at hj
  (try revert X); refine t41 ?_; intro X hX
  refine Inv.call Fx.en45 (ring_ok w3 hb rb H F (hH.ext ((he01.trans he2).trans he3)) hl hG.wf _ [x, y] hsl (fun z hz => by simp at hz; rcases hz with rfl | rfl <;> assumption)) ?_
  rintro v w4 ⟨rfl, he4⟩
  rw [ringF_two hG hrx hry]
  have he14 := (he2.trans he3).trans he4
  (try revert X); refine t41 ?_; intro X hX
  refine hM _ _ _ ?_; clear hM M
  cases hrg : (ringF H [x] || ringF H [y]) with
  | true =>
    refine ok_cond (b := true) rfl (fun _ => ?_) (fun h => by cases h)
    refine ok_seq (fun M hM => ok_region rfl ?_); (try revert X); refine t41 ?_; intro X hX
    refine hM _ _ _ ?_; clear hM M
    refine ok_ret ?_
    refine ⟨rfl, bad 13 ?_ (by decide) _ (he01.trans he14)⟩
    unfold cmpE
    rw [if_pos ⟨hrx, hry⟩, if_pos (by simpa using hrg)]
  | false =>
  refine ok_cond (b := false) rfl (fun h => by cases h) (fun _ => ?_)
  have hno : ¬ (ringF H [x] = true ∨ ringF H [y] = true) := by simpa using hrg
  have hLx := valO_lds (ringF_reads hG hrx (by cases h : ringF H [x] with | false => rfl | true => exact absurd (.inl h) hno))
  have hLy := valO_lds (ringF_reads hG hry (by cases h : ringF H [y] with | false => rfl | true => exact absurd (.inr h) hno))
  -- parts
  refine ok_join [(0, ptrOf hb), (4, ptrOf B0), (5, ptrOf B1), (28, .bool (decide (100000 < partsF H 100000 [x] ∨ 100000 < partsF H 100000 [y])))] (fun w' => Ext w1 w') ?_ ?_
  · refine ok_region rfl ?_
    (try revert X); refine t41 ?_; intro X hX
    refine ⟨x.row, rfl, hA1 _ he14, ?_⟩
    (try revert X); refine t41 ?_; intro X hX
    refine Inv.call Fx.en39 (parts_ok w4 hb rb H F (hH.ext (he01.trans he14)) hl hLim x) ?_
    rintro v w5 ⟨rfl, he5⟩
    rw [if_pos hrx]
    (try revert X); refine t41 ?_; intro X hX
    by_cases hp : 100000 < partsF H 100000 [x]
    · have hd : decide ((100000 : Int) < (partsF H 100000 [x] : Int)) = true := decide_eq_true (by omega)
      simp only [hd]
      (try revert X); refine t41 ?_; intro X hX
      refine ⟨fun h => (by cases h), fun _ => ?_⟩
      (try revert X); refine t41 ?_; intro X hX
      simp [sub, Env.get, hp, he14.trans he5]
    · have hd : decide ((100000 : Int) < (partsF H 100000 [x] : Int)) = false := decide_eq_false (by omega)
      simp only [hd]
      (try revert X); refine t41 ?_; intro X hX
      refine ⟨fun _ => ?_, fun h => (by cases h)⟩
      (try revert X); refine t41 ?_; intro X hX
      refine ⟨y.row, rfl, hA2 _ (he14.trans he5), ?_⟩
      (try revert X); refine t41 ?_; intro X hX
      refine Inv.call Fx.en39 (parts_ok w5 hb rb H F (hH.ext (he01.trans (he14.trans he5))) hl hLim y) ?_
      rintro v w6 ⟨rfl, he6⟩
      rw [if_pos hry]
      (try revert X); refine t41 ?_; intro X hX
      have hdy : decide ((100000 : Int) < (partsF H 100000 [y] : Int)) = decide (100000 < partsF H 100000 [y]) := by
        by_cases h : 100000 < partsF H 100000 [y]
        · rw [decide_eq_true h, decide_eq_true (by omega)]
        · rw [decide_eq_false h, decide_eq_false (by omega)]
      refine ⟨?_, (he14.trans he5).trans he6⟩
      rw [hdy]
      simp [sub, Env.get, hp]
  rintro w5 he5
  by_cases hp : 100000 < partsF H 100000 [x] ∨ 100000 < partsF H 100000 [y]
  · refine ok_cond (b := true) (by simp only [ev, Env.get]; simp [hp]) (fun _ => ?_) (fun h => by cases h)
    refine ok_seq (fun M hM => ok_region rfl ?_); (try revert X); refine t41 ?_; intro X hX
    refine hM _ _ _ ?_; clear hM M
    refine ok_ret ?_
    refine ⟨rfl, bad 6 ?_ (by decide) _ (he01.trans he5)⟩
    unfold cmpE
    rw [if_pos ⟨hrx, hry⟩, if_neg hno, if_pos hp]
  refine ok_cond (b := false) (by simp only [ev, Env.get]; simp [hp]) (fun h => by cases h) (fun _ => ?_)
  -- sortable
  refine ok_join [(0, ptrOf hb), (4, ptrOf B0), (5, ptrOf B1), (39, .bool (!(sortV (valO H x) && sortV (valO H y))))] (fun w' => Ext w1 w') ?_ ?_
  · refine ok_region rfl ?_
    (try revert X); refine t41 ?_; intro X hX
    refine ⟨x.row, rfl, hA1 _ he5, ?_⟩
    (try revert X); refine t41 ?_; intro X hX
    refine Inv.call Fx.en82 (sortable_ok hb rb H F hl hG _ (valO H x) x w5 (Nat.le_refl _) hrx hLx (hH.ext (he01.trans he5))) ?_
    rintro v w6 ⟨rfl, he6⟩
    (try revert X); refine t41 ?_; intro X hX
    cases hsx : sortV (valO H x) with
    | false =>
      simp only [Bool.not_false]
      (try revert X); refine t41 ?_; intro X hX
      refine ⟨fun h => (by cases h), fun _ => ?_⟩
      (try revert X); refine t41 ?_; intro X hX
      simp [sub, Env.get, he5.trans he6, hsx]
    | true =>
      simp only [Bool.not_true]
      (try revert X); refine t41 ?_; intro X hX
      refine ⟨fun _ => ?_, fun h => (by cases h)⟩
      (try revert X); refine t41 ?_; intro X hX
      refine ⟨y.row, rfl, hA2 _ (he5.trans he6), ?_⟩
      (try revert X); refine t41 ?_; intro X hX
      refine Inv.call Fx.en82 (sortable_ok hb rb H F hl hG _ (valO H y) y w6 (Nat.le_refl _) hry hLy (hH.ext (he01.trans (he5.trans he6)))) ?_
      rintro v w7 ⟨rfl, he7⟩
      (try revert X); refine t41 ?_; intro X hX
      simp [sub, Env.get, (he5.trans he6).trans he7, hsx]
  rintro w6 he6
  cases hs : (sortV (valO H x) && sortV (valO H y)) with
  | false =>
    refine ok_cond (b := true) rfl (fun _ => ?_) (fun h => by cases h)
    refine ok_seq (fun M hM => ok_region rfl ?_); (try revert X); refine t41 ?_; intro X hX
    refine hM _ _ _ ?_; clear hM M
    refine ok_ret ?_
    refine ⟨rfl, bad 1 ?_ (by decide) _ (he01.trans he6)⟩
    unfold cmpE
    rw [if_pos ⟨hrx, hry⟩, if_neg hno, if_neg hp, if_neg (fun h => by rw [h.1, h.2] at hs; cases hs)]
  | true =>
    refine ok_cond (b := false) rfl (fun h => by cases h) (fun _ => ok_skip ?_)
    refine ⟨rfl, by simp [sub, Env.get], he6, ?_⟩
    unfold cmpE
    rw [if_pos ⟨hrx, hry⟩, if_neg hno, if_neg hp, if_pos (by simpa using hs)]
end Go.Proofs.YtldeokfhipjbfaaGreatDoor
/- The reference's heap: words, Args, String, Objects. -/
set_option linter.unusedVariables false
set_option linter.unusedSimpArgs false
namespace Go.Proofs.YtldeokfhipjbfaaGreatDoor
open Go Go.Proofs.Vg Go.RowKit
abbrev manyK (k : Int) : Prop := k = 4 ∨ k = 5 ∨ k = 6 ∨ k = 7
theorem args_few {H : List Ob} {x : Wd} (hr : rightW H x = true) (h : x.r = 0 ∨ ¬ manyK x.k) : argsOf H x = [] := by
  rcases h with h | h
  · exact args_zero h
  · by_cases h3 : x.k = 3
    · obtain ⟨s, hs⟩ := obj_text hr h3
      simp [argsOf, argsO, hs]
    · refine args_zero ?_
      unfold rightW at hr
      split at hr
      · simp at hr; exact hr.2
      · split at hr
        · simpa using hr
        · rw [if_neg (by omega), if_neg (by omega)] at hr; cases hr

-- -- function 80
set_option maxHeartbeats 4000000 in
set_option maxRecDepth 8000 in
theorem rwords_ok (w : World) (qb : Nat) (H : List Ob) (F : Nat → Prop) (hH : RHeapW w qb H F) (hl : H.length ≤ 1073741824) (hLim : LimH H) (x : Wd) (hr : rightW H x = true) :
    Rets Tryz.prog 80 [ptrOf qb, wv x] w (fun v w' => ∃ A c, v = .slice A (argsOf H x).length c ∧ SlW w' v (argsOf H x) ∧ Ext w w' ∧ ∀ k, v.ownBlock = some k → w.heap.size ≤ k) := by
  obtain ⟨vL, vws, rows, ⟨hhd, hrm, hhn⟩, hfoot⟩ := hH
  obtain ⟨AL, cL, hvL⟩ := hrm.len
  have href := right_ref hr
  refine rets_of_ok Tryz.func80 rfl rfl ?_
  refine ok_seq (fun M hM => ok_region rfl ?_)
  (try revert X); refine t80 ?_; intro X hX
  refine Runs.box (fun w1 he1 hz1 hb1 => ?_)
  generalize hB1 : w.heap.size = B1 at hz1 hb1
  simp only [Value.cells] at hb1
  (try revert X); refine t80 ?_; intro X hX
  refine hM _ _ _ ?_; clear hM M
  refine ok_join [(0, ptrOf qb), (3, ptrOf B1)] (fun w' => Ext w1 w' ∧ x.r ≠ 0 ∧ manyK x.k) ?_ ?_
  · refine ok_join [(0, ptrOf qb), (3, ptrOf B1), (13, .bool (decide (x.r = 0 ∨ ¬ manyK x.k)))] (fun w' => Ext w1 w') ?_ ?_
    · refine ok_region rfl ?_
      (try revert X); refine t80 ?_; intro X hX
      refine ⟨_, hb1.cell (j := 2) rfl, ?_⟩
      (try revert X); refine t80 ?_; intro X hX
      by_cases h0 : x.r = 0
      · simp only [h0, decide_true]
        (try revert X); refine t80 ?_; intro X hX
        refine ⟨fun h => (by cases h), fun _ => ?_⟩
        (try revert X); refine t80 ?_; intro X hX
        simp [sub, Env.get, h0, Ext.refl]
      · simp only [h0, decide_false]
        (try revert X); refine t80 ?_; intro X hX
        refine ⟨fun _ => ?_, fun h => (by cases h)⟩
        (try revert X); refine t80 ?_; intro X hX
        refine ⟨_, hb1.cell (j := 0) rfl, ?_⟩
        (try revert X); refine t80 ?_; intro X hX
        refine Inv.call Fx.en68 (many_ok w1 x.k) ?_
        rintro v w2 ⟨rfl, rfl⟩
        (try revert X); refine t80 ?_; intro X hX
        refine ⟨?_, Ext.refl _⟩
        by_cases hk : x.k = 4 ∨ x.k = 5 ∨ x.k = 6 ∨ x.k = 7
        · simp [sub, Env.get, h0, hk]
        · simp [sub, Env.get, h0, hk]
    rintro w2 he2
    by_cases hc : x.r = 0 ∨ ¬ manyK x.k
    · refine ok_cond (b := true) (by rw [decide_eq_true hc]; rfl) (fun _ => ?_) (fun h => by cases h)
      have hnil := args_few hr hc
      refine ok_seq (fun M hM => ok_region rfl ?_)
      (try revert X); refine t80 ?_; intro X hX
      refine Runs.lit00 Fx.un30 Fx.zi75 (fun w3 he3 hs3 hb3 => ?_)
      (try revert X); refine t80 ?_; intro X hX
      refine hM _ _ _ ?_; clear hM M
      refine ok_ret ?_
      rw [hnil]
      exact ⟨rfl, _, _, rfl, ⟨some ⟨w2.heap.size, 0, none⟩, 0, rfl, by simp, fun j row hj => by simp at hj⟩, (he1.trans he2).trans he3, fun k hk => by simp [Value.ownBlock] at hk; have := (he1.trans he2).size; omega⟩
    · refine ok_cond (b := false) (by rw [decide_eq_false hc]; rfl) (fun h => by cases h) (fun _ => ok_skip ?_)
      refine ⟨rfl, by simp [sub, Env.get], he2, fun e => hc (.inl e), ?_⟩
      by_cases hm : manyK x.k
      · exact hm
      · exact absurd (.inr hm) hc
  rintro w2 ⟨he2, h0, hk⟩
  have he02 := he1.trans he2
  have hobj : ∃ (i : Nat) (s : Int) (l : List Wd), x.r = (i : Int) + 1 ∧ H[i]? = some (.words s l) ∧ argsOf H x = l := by
    obtain ⟨i, o, hri, hi, hio, hoo⟩ := objAt_in (H := H) (r := x.r) (by omega) href.2
    have hd : isDataO (objAt H x.r) = true ∨ isArrO (objAt H x.r) = true := by
      unfold rightW at hr
      rw [if_neg (by omega), if_neg (by omega), if_neg (by omega)] at hr
      split at hr
      · simp [h0] at hr; exact .inl hr
      · split at hr
        · simp at hr; exact .inr hr.2
        · cases hr
    rw [hoo] at hd
    cases o with
    | text s => rcases hd with h | h <;> cases h
    | words s l => exact ⟨i, s, l, hri, hio, by simp [argsOf, argsO, hoo]⟩
  obtain ⟨i, s, l, hri, hio, hal⟩ := hobj
  have hil := (List.getElem?_eq_some_iff.1 hio).1
  rw [hal]
  have hll : l.length ≤ 1048576 := hLim _ (List.mem_of_getElem? hio)
  obtain ⟨g, cap, vw, hv, -, hcell, hown⟩ := hrm.at_ hl hio
  rw [hvL] at hv; cases hv
  have hslw : SlW w vw l := Sli.of_own hown rfl (fun r hr => (words_rows l r hr).1) (by simp [Ob.list]) (by simp [Ob.list]; omega)
  obtain ⟨Aw, cw, rfl, hwlen, hwcell⟩ := id hslw
  rw [wd_len] at hslw hcell hown
  have hhd2 : ∀ w', Ext w2 w' → w'.cell? ⟨qb, 0, none⟩ = some (.slice (some ⟨g, 0, none⟩) H.length cL) := fun w' h => by rw [← hvL]; exact (hhd.ext (he02.trans h)).cell (j := 0) rfl
  refine ok_seq (fun M hM => ?_)
  refine (ok_drawP [1, 2, 3, 4, 5, 6, 7, 8, 9, 10, 0, 11, 12] 10 [(true, false), (false, true), (false, true)] (Ext _) Fx.mixed (by decide) rfl (by decide +kernel) (by decide +kernel) (Ext.drew _) ?_); simp only [pickL, List.getElem?_cons_zero, List.getElem?_cons_succ, List.take_succ_cons, List.take_zero, List.drop_succ_cons, List.drop_zero]
  (try revert X); refine t80 ?_; intro X hX
  refine ⟨_, fun w' h => hhd2 w' h, ?_⟩
  (try revert X); refine t80 ?_; intro X hX
  refine ⟨_, fun w' h => (hb1.ext (he2.trans h)).cell (j := 2) rfl, ?_⟩
  (try revert X); refine t80 ?_; intro X hX
  refine ⟨by simp only [inI]; omega, ?_⟩
  (try revert X); refine t80 ?_; intro X hX
  have e1 : ((x.r - 1).toNat) = i := by omega
  refine ⟨by omega, by omega, ?_⟩
  (try revert X); refine t80 ?_; intro X hX
  refine ⟨.slice Aw l.length cw, fun w' h => by
    have := (he02.trans h).cell (hcell 3 _ rfl)
    rw [e1]
    simpa [add_at] using this, ?_⟩
  (try revert X); refine t80 ?_; intro X hX
  intro w3 he3
  (try revert X); refine t80 ?_; intro X hX
  refine Runs.lit00 Fx.un30 Fx.zi75 (fun w4 he4 hs4 hb4 => ?_)
  refine ⟨he3.trans he4, ?_⟩
  (try revert X); refine t80 ?_; intro X hX
  have he24 := he3.trans he4
  refine Runs.appendR (rows := l.map Wd.row) Fx.un30 Fx.zi75 rfl (by decide) (owns_empty hb4) (hslw.ext (he02.trans he24)) (words_rows l) (by simp [maxLen]; omega) (by simp; omega) (by omega) (fun vw' w5 hown5 hg5 hblk5 => ?_)
  have hc5 : Chg (fun k => k = w3.heap.size) w4 w5 := (grown_chg hg5).mono (fun k _ hk => by simp [Value.ownBlock] at hk; exact hk.symm)
  have he35 : Ext w3 w5 := he4.chg_trans hc5 (fun k hk => by omega)
  have hown5' : w5.ownsRow 0 75 3 vw' l.length (oflat l) := by simpa [oflat] using hown5
  obtain ⟨hwo, hwc, Aw', cw', rfl⟩ := owns_one hown5'
  (try revert X); refine t80 ?_; intro X hX
  refine hM _ _ _ ?_; clear hM M
  refine ok_ret ?_
  try simp only [zW, zU, reduceIte, Nat.reduceEqDiff, Nat.reduceAdd, reduceCtorEq, Q80]
  refine ⟨Aw', cw', rfl, Sli.of_own hown5' rfl (fun r hr => (words_rows l r hr).1) (by simp) (by omega), (he02.trans he3).trans he35, fun k hk => ?_⟩
  have hsz := (he02.trans he3).size
  have hsz4 := he4.size
  rcases hblk5 with h' | h'
  · rw [h'] at hk; simp [Value.ownBlock] at hk; omega
  · rw [h'] at hk; cases hk; omega

-- -- function 35
set_option maxHeartbeats 4000000 in
set_option maxRecDepth 8000 in
theorem rArgs_ok (w : World) (qb : Nat) (H : List Ob) (F : Nat → Prop) (hH : RHeapW w qb H F) (hl : H.length ≤ 1073741824) (hLim : LimH H) (x : Wd) :
    Rets Tryz.prog 35 [ptrOf qb, wv x] w (fun v w' => ∃ A c, v = .tuple #[.slice A (argsR H x).length c, .int .i64 (argsE H x)] ∧ SlW w' (.slice A (argsR H x).length c) (argsR H x) ∧ Ext w w') := by
  have bad : ∀ e, argsE H x = e → e ≠ 0 → ∀ w', Ext w w' → ∃ A c, Value.tuple #[.slice none 0 0, .int .i64 e] = .tuple #[.slice A (argsR H x).length c, .int .i64 (argsE H x)] ∧ SlW w' (.slice A (argsR H x).length c) (argsR H x) ∧ Ext w w' := by
    intro e he hne w' hx
    have : argsR H x = [] := by unfold argsR; rw [if_neg (by rw [he]; exact hne)]
    rw [this, he]
    exact ⟨none, 0, rfl, SlW.nil w', hx⟩
  refine rets_of_ok Tryz.func35 rfl rfl ?_
  refine ok_seq (fun M hM => ok_region rfl ?_)
  (try revert X); refine t35 ?_; intro X hX
  refine Runs.box (fun w1 he1 hz1 hb1 => ?_)
  generalize hB1 : w.heap.size = B1 at hz1 hb1
  simp only [Value.cells] at hb1
  (try revert X); refine t35 ?_; intro X hX
  refine hM _ _ _ ?_; clear hM M
  refine ok_join [(0, ptrOf qb), (3, ptrOf B1)] (fun w' => w' = w1) ?_ ?_
  · refine ok_seq (fun M hM => ok_region rfl ?_)
    (try revert X); refine t35 ?_; intro X hX
    refine Runs.ptrEq Fx.un27 ?_
    (try revert X); refine t35 ?_; intro X hX
    refine hM _ _ _ ?_; clear hM M
    refine ok_cond rfl (fun h => by cases h) (fun h => ok_skip ?_)
    try simp only [zW, zU, reduceIte, Nat.reduceEqDiff, Nat.reduceAdd, reduceCtorEq, Q35]
    simp [sub, Env.get]
  rintro w2 rfl
  refine ok_join [(0, ptrOf qb), (3, ptrOf B1)] (fun w3 => Ext w2 w3 ∧ rightW H x = true) ?_ ?_
  · refine ok_seq (fun M hM => ok_region rfl ?_)
    (try revert X); refine t35 ?_; intro X hX
    refine ⟨x.row, rfl, hb1.cells (o := 0) (fun j u hj => by simpa using hj), ?_⟩
    (try revert X); refine t35 ?_; intro X hX
    refine Inv.call Fx.en38 (rright_ok w2 qb H F (hH.ext he1) hl x) ?_
    rintro v w3 ⟨rfl, he3⟩
    (try revert X); refine t35 ?_; intro X hX
    refine hM _ _ _ ?_; clear hM M
    cases hr : rightW H x with
    | false =>
      refine ok_cond (b := true) rfl (fun _ => ?_) (fun h => by cases h)
      refine ok_seq (fun M hM => ok_region rfl ?_); (try revert X); refine t35 ?_; intro X hX
      refine hM _ _ _ ?_; clear hM M
      refine ok_ret ?_
      exact ⟨rfl, bad 2 (by unfold argsE; rw [if_neg (by rw [hr]; decide)]) (by decide) _ (he1.trans he3)⟩
    | true =>
      refine ok_cond (b := false) rfl (fun h => by cases h) (fun _ => ok_skip ?_)
      exact ⟨rfl, by simp [sub, Env.get], he3, rfl⟩
  rintro w3 ⟨he3, hr⟩
  have he03 := he1.trans he3
  refine ok_join [(0, ptrOf qb), (3, ptrOf B1)] (fun w4 => w4 = w3 ∧ manyK x.k) ?_ ?_
  · refine ok_seq (fun M hM => ok_region rfl ?_)
    (try revert X); refine t35 ?_; intro X hX
    refine ⟨_, (hb1.ext he3).cell (j := 0) rfl, ?_⟩
    (try revert X); refine t35 ?_; intro X hX
    refine Inv.call Fx.en68 (many_ok w3 x.k) ?_
    rintro v w4 ⟨rfl, rfl⟩
    (try revert X); refine t35 ?_; intro X hX
    refine hM _ _ _ ?_; clear hM M
    by_cases hk : x.k = 4 ∨ x.k = 5 ∨ x.k = 6 ∨ x.k = 7
    · refine ok_cond (b := false) (by rw [decide_eq_true hk]; rfl) (fun h => by cases h) (fun _ => ok_skip ?_)
      exact ⟨rfl, by simp [sub, Env.get], rfl, hk⟩
    · refine ok_cond (b := true) (by rw [decide_eq_false hk]; rfl) (fun _ => ?_) (fun h => by cases h)
      refine ok_seq (fun M hM => ok_region rfl ?_); (try revert X); refine t35 ?_; intro X hX
      refine hM _ _ _ ?_; clear hM M
      refine ok_ret ?_
      exact ⟨rfl, bad 3 (by unfold argsE; rw [if_pos hr, if_neg hk]) (by decide) _ he03⟩
  rintro w4 ⟨rfl, hk⟩
  have hE : argsE H x = 0 := by unfold argsE; rw [if_pos hr, if_pos hk]
  have hR : argsR H x = argsOf H x := by unfold argsR; rw [if_pos hE]
  rw [hE, hR]
  refine ok_seq (fun M hM => ok_region rfl ?_)
  (try revert X); refine t35 ?_; intro X hX
  refine ⟨x.row, rfl, (hb1.ext he3).cells (o := 0) (fun j u hj => by simpa using hj), ?_⟩
  (try revert X); refine t35 ?_; intro X hX
  refine Inv.call Fx.en80 (rwords_ok w4 qb H F (hH.ext he03) hl hLim x hr) ?_
  rintro v w5 ⟨A, c, rfl, hsl, he5, -⟩
  (try revert X); refine t35 ?_; intro X hX
  refine hM _ _ _ ?_; clear hM M
  refine ok_ret ?_
  exact ⟨rfl, A, c, rfl, hsl, he03.trans he5⟩

-- -- function 37
set_option maxHeartbeats 4000000 in
set_option maxRecDepth 8000 in
theorem rString_ok (w : World) (qb : Nat) (H : List Ob) (F : Nat → Prop) (hH : RHeapW w qb H F) (hl : H.length ≤ 1073741824) (x : Wd) :
    Rets Tryz.prog 37 [ptrOf qb, wv x] w (fun v w' => v = .tuple #[.string (strR H x), .int .i64 (strE H x)] ∧ Ext w w') := by
  have bad : ∀ e, strE H x = e → e ≠ 0 → ∀ w', Ext w w' → Value.tuple #[.string ⟨#[]⟩, .int .i64 e] = .tuple #[.string (strR H x), .int .i64 (strE H x)] ∧ Ext w w' := by
    intro e he hne w' hx
    have : strR H x = ⟨#[]⟩ := by unfold strR; rw [if_neg (by rw [he]; exact hne)]
    rw [this, he]
    exact ⟨rfl, hx⟩
  refine rets_of_ok Tryz.func37 rfl rfl ?_
  refine ok_seq (fun M hM => ok_region rfl ?_)
  (try revert X); refine t37 ?_; intro X hX
  refine Runs.box (fun w1 he1 hz1 hb1 => ?_)
  generalize hB1 : w.heap.size = B1 at hz1 hb1
  simp only [Value.cells] at hb1
  (try revert X); refine t37 ?_; intro X hX
  refine hM _ _ _ ?_; clear hM M
  refine ok_join [(0, ptrOf qb), (3, ptrOf B1)] (fun w' => w' = w1) ?_ ?_
  · refine ok_seq (fun M hM => ok_region rfl ?_)
    (try revert X); refine t37 ?_; intro X hX
    refine Runs.ptrEq Fx.un27 ?_
    (try revert X); refine t37 ?_; intro X hX
    refine hM _ _ _ ?_; clear hM M
    refine ok_cond rfl (fun h => by cases h) (fun h => ok_skip ?_)
    try simp only [zW, zU, reduceIte, Nat.reduceEqDiff, Nat.reduceAdd, reduceCtorEq, Q37]
    simp [sub, Env.get]
  rintro w2 rfl
  refine ok_join [(0, ptrOf qb), (3, ptrOf B1)] (fun w3 => Ext w2 w3 ∧ rightW H x = true) ?_ ?_
  · refine ok_seq (fun M hM => ok_region rfl ?_)
    (try revert X); refine t37 ?_; intro X hX
    refine ⟨x.row, rfl, hb1.cells (o := 0) (fun j u hj => by simpa using hj), ?_⟩
    (try revert X); refine t37 ?_; intro X hX
    refine Inv.call Fx.en38 (rright_ok w2 qb H F (hH.ext he1) hl x) ?_
    rintro v w3 ⟨rfl, he3⟩
    (try revert X); refine t37 ?_; intro X hX
    refine hM _ _ _ ?_; clear hM M
    cases hr : rightW H x with
    | false =>
      refine ok_cond (b := true) rfl (fun _ => ?_) (fun h => by cases h)
      refine ok_seq (fun M hM => ok_region rfl ?_); (try revert X); refine t37 ?_; intro X hX
      refine hM _ _ _ ?_; clear hM M
      refine ok_ret ?_
      exact ⟨rfl, bad 2 (by unfold strE; rw [if_neg (by rw [hr]; decide)]) (by decide) _ (he1.trans he3)⟩
    | true =>
      refine ok_cond (b := false) rfl (fun h => by cases h) (fun _ => ok_skip ?_)
      exact ⟨rfl, by simp [sub, Env.get], he3, rfl⟩
  rintro w3 ⟨he3, hr⟩
  have he03 := he1.trans he3
  refine ok_join [(0, ptrOf qb), (3, ptrOf B1)] (fun w4 => w4 = w3 ∧ x.k = 3) ?_ ?_
  · refine ok_seq (fun M hM => ok_region rfl ?_)
    (try revert X); refine t37 ?_; intro X hX
    refine ⟨_, (hb1.ext he3).cell (j := 0) rfl, ?_⟩
    (try revert X); refine t37 ?_; intro X hX
    refine hM _ _ _ ?_; clear hM M
    refine ok_ifn rfl (fun h3 => ?_) (fun h3 => ok_skip ?_)
    · refine ok_seq (fun M hM => ok_region rfl ?_); (try revert X); refine t37 ?_; intro X hX
      refine hM _ _ _ ?_; clear hM M
      refine ok_ret ?_
      exact ⟨rfl, bad 3 (by unfold strE; rw [if_pos hr, if_neg h3]) (by decide) _ he03⟩
    · exact ⟨rfl, by simp [sub, Env.get], rfl, h3⟩
  rintro w4 ⟨rfl, hk⟩
  obtain ⟨s, hos⟩ := obj_text hr hk
  have hE : strE H x = 0 := by unfold strE; rw [if_pos hr, if_pos hk]
  have hR : strR H x = s := by unfold strR; rw [if_pos hE, hos]; rfl
  rw [hE, hR]
  obtain ⟨vL, vws, rows, ⟨hhd, hrm, hhn⟩, hfoot⟩ := hH
  obtain ⟨AL, cL, hvL⟩ := hrm.len
  have hrange := objAt_some hos
  obtain ⟨i, o, hri, hil, hio, hoo⟩ := objAt_in hrange.1 hrange.2
  rw [hos] at hoo; cases hoo
  obtain ⟨g, cap, vw, hv, -, hcell, -⟩ := hrm.at_ hl hio
  rw [hvL] at hv; cases hv
  have e1 : ((x.r - 1).toNat) = i := by omega
  have hhd2 : ∀ w', Ext w4 w' → w'.cell? ⟨qb, 0, none⟩ = some (.slice (some ⟨g, 0, none⟩) H.length cL) := fun w' h => by rw [← hvL]; exact (hhd.ext (he03.trans h)).cell (j := 0) rfl
  refine ok_seq (fun M hM => ?_)
  refine (ok_draw 12 [] (Ext _) Fx.mixed (by decide) rfl (by decide +kernel) (by decide +kernel) (Ext.drew _) ?_)
  (try revert X); refine t37 ?_; intro X hX
  refine ⟨_, fun w' h => hhd2 w' h, ?_⟩
  (try revert X); refine t37 ?_; intro X hX
  refine ⟨_, fun w' h => (hb1.ext (he3.trans h)).cell (j := 2) rfl, ?_⟩
  (try revert X); refine t37 ?_; intro X hX
  refine ⟨by simp only [inI]; omega, ?_⟩
  (try revert X); refine t37 ?_; intro X hX
  refine ⟨by omega, by omega, ?_⟩
  (try revert X); refine t37 ?_; intro X hX
  refine ⟨.string s, fun w' h => by
    have := (he03.trans h).cell (hcell 2 _ rfl)
    rw [e1]
    simpa [add_at, obStr] using this, ?_⟩
  (try revert X); refine t37 ?_; intro X hX
  intro w5 he5
  (try revert X); refine t37 ?_; intro X hX
  refine hM _ _ _ ?_; clear hM M
  refine ok_ret ?_
  exact ⟨rfl, rfl, he03.trans he5⟩

-- -- function 44
set_option maxHeartbeats 1000000 in
set_option maxRecDepth 8000 in
theorem rObjects_ok (w : World) (qb : Nat) (H : List Ob) (F : Nat → Prop) (hH : RHeapW w qb H F) : Rets Tryz.prog 44 [ptrOf qb] w (fun v w' => v = .int .i64 (H.length : Int) ∧ w' = w) := by
  obtain ⟨vL, vws, rows, ⟨hhd, hrm, hhn⟩, hfoot⟩ := hH
  obtain ⟨AL, cL, hvL⟩ := hrm.len
  subst hvL
  refine rets_of_ok Tryz.func44 rfl rfl ?_
  refine ok_seq (fun M hM => ok_region rfl ?_); (try revert X); refine t44 ?_; intro X hX
  refine hM _ _ _ ?_; clear hM M
  refine ok_join [(0, ptrOf qb)] (fun w' => w' = w) ?_ ?_
  · refine ok_seq (fun M hM => ok_region rfl ?_)
    (try revert X); refine t44 ?_; intro X hX
    refine Runs.ptrEq Fx.un27 ?_
    (try revert X); refine t44 ?_; intro X hX
    refine hM _ _ _ ?_; clear hM M
    refine ok_cond rfl (fun h => by cases h) (fun h => ok_skip ?_)
    try simp only [zW, zU, reduceIte, Nat.reduceEqDiff, Nat.reduceAdd, reduceCtorEq, Q44]
    simp [sub, Env.get]
  rintro w2 rfl
  refine ok_seq (fun M hM => ok_region rfl ?_)
  (try revert X); refine t44 ?_; intro X hX
  refine ⟨_, hhd.cell (j := 0) rfl, ?_⟩
  (try revert X); refine t44 ?_; intro X hX
  refine hM _ _ _ ?_; clear hM M
  refine ok_ret ?_
  exact ⟨rfl, rfl, rfl⟩
end Go.Proofs.YtldeokfhipjbfaaGreatDoor
