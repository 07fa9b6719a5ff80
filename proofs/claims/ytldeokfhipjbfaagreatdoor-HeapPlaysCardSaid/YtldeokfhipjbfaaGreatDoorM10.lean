/- Part 10 of 13: K8, K9, K10, K11, K12, K13, K14, K15, H24, K17, Y1, Y2. -/
import Derived.Test.YtldeokfhipjbfaaGreatDoorM9
import Derived.Test.YtldeokfhipjbfaaGreatDoorM3
import Derived.Test.YtldeokfhipjbfaaGreatDoorM7
import Derived.Test.YtldeokfhipjbfaaGreatDoorM2
import Derived.Test.YtldeokfhipjbfaaGreatDoorTie
import Derived.Test.YtldeokfhipjbfaaGreatDoorCards
import Derived.LaidMore
import Derived.OpenShut
import Derived.Stop.Joined
import Derived.SevenTiedAt
import Derived.Lib.LaidTab
import Derived.Lib.Bytealg
import Derived.Laws.Externs
import Derived.ProofKit
/- Few: plays of few acts. -/
set_option linter.unusedVariables false
set_option linter.unusedSimpArgs false
namespace Go.Proofs.YtldeokfhipjbfaaGreatDoor
open Go Go.Proofs.Vg Go.RowKit

-- -- function 58
set_option maxHeartbeats 2000000 in
set_option maxRecDepth 8000 in
theorem indexFuncA_ok (w : World) (A : Option Addr) (n c : Nat) (fv : Value) (hn : n ≤ 140737488355328) (J : Nat → World → Prop) (Q : World → Prop)
    (h0 : J 0 w) (hp : ∀ i w', i < n → J i w' → ∃ row, row.length = 11 ∧ (∃ b o, A = some ⟨b, o, none⟩ ∧ cellsAt w' ⟨b, o + i * 11, none⟩ row) ∧ Inv Tryz.prog fv [.agg row.toArray] w' (callR (fun v w'' => ∃ b, v = .bool b ∧ (b = true → Q w'') ∧ (b = false → J (i + 1) w'')) fun _ _ => False)) :
    Rets Tryz.prog 58 [.slice A n c, fv] w (fun v w' => ∃ i : Int, v = .int .i64 i ∧ ((0 ≤ i ∧ Q w') ∨ (i < 0 ∧ J n w'))) := by
  refine rets_of_ok Tryz.func58 rfl rfl ?_
  refine ok_seq (fun M hM => ok_region rfl ?_); (try revert X); refine t58 ?_; intro X hX
  refine hM _ _ _ ?_; clear hM M
  refine ok_seq (fun M0 hM0 => ?_)
  refine ok_seq (fun M hM => ok_region rfl ?_); (try revert X); refine t58 ?_; intro X hX
  refine hM _ _ _ ?_; clear hM M
  refine ok_block ?_
  refine ok_loop (S := Nat) (fun k => [(0, .slice A n c), (1, fv), (7, .int .i64 (n : Int)), (8, .int .i64 (k : Int))]) (fun k w' => k ≤ n ∧ J k w') (fun k => n - k) 0 ?_ ?_ ?_
  · simp [sub, Env.get, argEnv]
  · exact ⟨Nat.zero_le _, h0⟩
  rintro k w' ⟨hk, hJ⟩
  refine ok_seq (fun M hM => ok_region rfl ?_); (try revert X); refine t58 ?_; intro X hX
  refine hM _ _ _ ?_; clear hM M
  refine ok_seq (fun M hM => ok_if rfl (fun hc => ok_skip ?_) (fun hc => ok_exit ?_))
  · try simp only [zW, zU, reduceIte, Nat.reduceEqDiff, Nat.reduceAdd, reduceCtorEq, Q58]
    refine hM _ _ _ ?_; clear hM M
    have hkl : k < n := by omega
    obtain ⟨row, hrl, ⟨b, o, rfl, hcell⟩, hI⟩ := hp k w' hkl hJ
    refine ok_seq (fun M1 hM1 => ok_block ?_)
    refine ok_seq (fun M hM => ok_region rfl ?_); (try revert X); refine t58 ?_; intro X hX
    refine hM _ _ _ ?_; clear hM M
    refine ok_seq (fun M hM => ok_region rfl ?_)
    (try revert X); refine t58 ?_; intro X hX
    refine ⟨by omega, by omega, ?_⟩
    (try revert X); refine t58 ?_; intro X hX
    refine ⟨row, hrl, hcell, ?_⟩
    (try revert X); refine t58 ?_; intro X hX
    refine Inv.weaken hI (fun v w2 hv => ?_)
    obtain ⟨b', rfl, hb1, hb2⟩ := hv
    (try revert X); refine t58 ?_; intro X hX
    refine hM _ _ _ ?_; clear hM M
    refine ok_cond rfl (fun hc => ?_) (fun hc => ok_skip ?_)
    · refine ok_seq (fun M hM => ok_region rfl ?_); (try revert X); refine t58 ?_; intro X hX
      refine hM _ _ _ ?_; clear hM M
      refine ok_ret ?_
      try simp only [zW, zU, reduceIte, Nat.reduceEqDiff, Nat.reduceAdd, reduceCtorEq, Q58]
      exact ⟨(k : Int), rfl, .inl ⟨by omega, hb1 hc⟩⟩
    · try simp only [zW, zU, reduceIte, Nat.reduceEqDiff, Nat.reduceAdd, reduceCtorEq, Q58]
      refine hM1 _ _ _ ?_; clear hM1 M1
      refine ok_region rfl ?_
      (try revert X); refine t58 ?_; intro X hX
      refine ⟨by simp only [inI]; omega, ?_⟩
      (try revert X); refine t58 ?_; intro X hX
      exact ⟨k + 1, by simp [sub, Env.get], ⟨by omega, hb2 hc⟩, by omega⟩
  · try simp only [zW, zU, reduceIte, Nat.reduceEqDiff, Nat.reduceAdd, reduceCtorEq, Q58]
    refine hM0 _ _ _ ?_; clear hM0 M0 hM M
    refine ok_seq (fun M hM => ok_region rfl ?_); (try revert X); refine t58 ?_; intro X hX
    refine hM _ _ _ ?_; clear hM M
    refine ok_ret ?_
    try simp only [zW, zU, reduceIte, Nat.reduceEqDiff, Nat.reduceAdd, reduceCtorEq, Q58]
    have hkn : k = n := by omega
    subst hkn
    exact ⟨-1, rfl, .inr ⟨by omega, hJ⟩⟩

-- -- function 23
set_option maxHeartbeats 2000000 in
set_option maxRecDepth 8000 in
theorem containsA_ok (w : World) (A : Option Addr) (n c : Nat) (fv : Value) (hn : n ≤ 140737488355328) (J : Nat → World → Prop) (Q : World → Prop)
    (h0 : J 0 w) (hp : ∀ i w', i < n → J i w' → ∃ row, row.length = 11 ∧ (∃ b o, A = some ⟨b, o, none⟩ ∧ cellsAt w' ⟨b, o + i * 11, none⟩ row) ∧ Inv Tryz.prog fv [.agg row.toArray] w' (callR (fun v w'' => ∃ b, v = .bool b ∧ (b = true → Q w'') ∧ (b = false → J (i + 1) w'')) fun _ _ => False)) :
    Rets Tryz.prog 23 [.slice A n c, fv] w (fun v w' => ∃ b, v = .bool b ∧ (b = true → Q w') ∧ (b = false → J n w')) := by
  refine rets_of_ok Tryz.func23 rfl rfl ?_
  refine ok_seq (fun M hM => ok_region rfl ?_); (try revert X); refine t23 ?_; intro X hX
  refine hM _ _ _ ?_; clear hM M
  refine ok_seq (fun M hM => ok_region rfl ?_)
  (try revert X); refine t23 ?_; intro X hX
  refine Inv.call Fx.en58 (indexFuncA_ok w A n c fv hn J Q h0 hp) ?_
  rintro v w' ⟨i, rfl, hi⟩
  (try revert X); refine t23 ?_; intro X hX
  refine hM _ _ _ ?_; clear hM M
  refine ok_ret ?_
  try simp only [zW, zU, reduceIte, Nat.reduceEqDiff, Nat.reduceAdd, reduceCtorEq, Q23]
  rcases hi with ⟨h1, h2⟩ | ⟨h1, h2⟩
  · exact ⟨true, by simpa using h1, fun _ => h2, fun h => by cases h⟩
  · exact ⟨false, by simpa using h1, fun h => (by cases h), fun _ => h2⟩


def ActsR (w : World) (S : Nat → Prop) (v : Value) (acts : List ActD) : Prop :=
  ∃ A c, v = .slice A acts.length c ∧ acts.length ≤ 140737488355328 ∧ ∀ (j : Nat) (a : ActD), acts[j]? = some a → ∃ b o row, A = some ⟨b, o, none⟩ ∧ S b ∧ cellsAt w ⟨b, o + j * 11, none⟩ row ∧ ActR w S row a
theorem ActsR.chg {w w' : World} {S S' T : Nat → Prop} {v : Value} {acts : List ActD} (h : ActsR w S v acts) (hc : Chg T w w') (hs : ∀ k, S k → S' k ∧ ¬ T k) : ActsR w' S' v acts := by
  obtain ⟨A, c, h1, h2, h3⟩ := h
  refine ⟨A, c, h1, h2, fun j a ha => ?_⟩
  obtain ⟨b, o, row, h4, h5, h6, h7⟩ := h3 j a ha
  exact ⟨b, o, row, h4, (hs b h5).1, hc.cellsAt h6 (hs b h5).2, h7.chg hc hs⟩

-- -- function 24
set_option maxHeartbeats 4000000 in
set_option maxRecDepth 8000 in
theorem few24_ok (w : World) (S : Nat → Prop) (r : List Value) (a : ActD) (hr : ActR w S r a) (hS : ∀ k, S k → k < w.heap.size) :
    Rets Tryz.prog 24 [.agg r.toArray] w (fun v w' => ∃ b, v = .bool b ∧ Ext w w' ∧ (b = false → a.of.length ≤ 10 ∧ cntV a.v ≤ 40)) := by
  obtain ⟨ov, vrow, hrr, hov1, hov, hvr⟩ := id hr
  have hv4 := (VRowS.row _ _ hvr).len
  obtain ⟨Ao, co, rfl, hlo, hco⟩ := hov
  rw [ints_length] at hrr hlo
  refine rets_of_ok Tryz.func24 rfl rfl ?_
  refine ok_seq (fun M hM => ok_region rfl ?_)
  (try revert X); refine t24 ?_; intro X hX
  refine Runs.box (fun w1 he1 hz1 hb1 => ?_)
  generalize hB7 : w.heap.size = B7 at hz1 hb1
  simp only [Value.cells] at hb1
  (try revert X); refine t24 ?_; intro X hX
  refine hM _ _ _ ?_; clear hM M
  refine ok_seq (fun M hM => ok_region rfl ?_)
  (try revert X); refine t24 ?_; intro X hX
  refine Runs.alloc Fx.zi3 (fun w4 he4 hz4 hb4 => ?_)
  generalize hB3 : w1.heap.size = B3 at hz4 hb4
  simp only [Value.cells] at hb4
  (try revert X); refine t24 ?_; intro X hX
  refine Runs.store hb4 Fx.zi3 rfl (by intro u hu; simp [Value.cells] at hu; subst hu; rfl) (by simp) (fun w2 hc5 hz6 hb2 => ?_)
  rw [splice_all _ _ (by simp [Value.cells])] at hb2
  simp only [Value.cells] at hb2
  (try revert X); refine t24 ?_; intro X hX
  refine hM _ _ _ ?_; clear hM M
  have he12 : Ext w1 w2 := he4.chg_trans hc5 (fun k hk => by omega)
  have he02 := he1.trans he12
  have hb12 := hb1.ext he12
  have c0 : w2.cell? ⟨B7, 0, none⟩ = some (.int .i64 a.d) := hb12.cell (by simp [hrr])
  have c3 : w2.cell? ⟨B7, 3, none⟩ = some (.slice Ao a.of.length co) := hb12.cell (by simp [hrr])
  have c4 : cellsAt w2 ⟨B7, 4, none⟩ vrow := hb12.cells (o := 4) (fun j u hj => by
    have hj4 := (List.getElem?_eq_some_iff.1 hj).1
    simp only [hrr]
    rw [List.append_assoc, List.getElem?_append_right (by simp)]
    simp only [List.length_cons, List.length_nil, Nat.zero_add]
    rw [show 4 + j - 4 = j by omega, List.getElem?_append_left hj4]
    exact hj)
  have hs2 := he02.size
  have hvr2 : VRowS w2 S vrow a.v := VRowS.ext hvr he02
  have hnB3 : ¬ S B3 := fun h => by have := hS B3 h; have := he1.size; omega
  refine ok_seq (fun M hM => ok_region rfl ?_)
  (try revert X); refine t24 ?_; intro X hX
  refine ⟨_, c3, ?_⟩
  (try revert X); refine t24 ?_; intro X hX
  refine ⟨fun h => ?_, fun h => ?_⟩
  · have h10 : ¬ ((10 : Int) < (a.of.length : Int)) := by simpa using h
    (try revert X); refine t24 ?_; intro X hX
    refine ⟨_, c0, ?_⟩
    (try revert X); refine t24 ?_; intro X hX
    refine ⟨fun h3 => ?_, fun h3 => ?_⟩
    · (try revert X); refine t24 ?_; intro X hX
      refine ⟨_, c3, ?_⟩
      (try revert X); refine t24 ?_; intro X hX
      refine ⟨fun h4 => ?_, fun h4 => ?_⟩
      · (try revert X); refine t24 ?_; intro X hX
        refine ⟨vrow, hv4, c4, ?_⟩
        (try revert X); refine t24 ?_; intro X hX
        refine Inv.call Fx.en25 (few_ok _ a.v w2 S vrow B3 40 (Nat.le_refl _) hvr2 hnB3 hb2 (by decide) (by decide)) ?_
        rintro v w3 ⟨b, L', rfl, g1, g2, g3⟩
        (try revert X); refine t24 ?_; intro X hX
        refine hM _ _ _ ?_; clear hM M
        refine ok_ret ?_
        try simp only [zW, zU, reduceIte, Nat.reduceEqDiff, Nat.reduceAdd, reduceCtorEq, Q24]
        exact ⟨!b, rfl, he02.chg_trans g2 (fun k hk => by omega), fun hb => ⟨by omega, by have := g3 (by simpa using hb); omega⟩⟩
      ·
        (try revert X); refine t24 ?_; intro X hX
        refine hM _ _ _ ?_; clear hM M
        refine ok_ret ?_
        try simp only [zW, zU, reduceIte, Nat.reduceEqDiff, Nat.reduceAdd, reduceCtorEq, Q24]
        exact ⟨true, rfl, he02, fun hb => (by cases hb)⟩
    · (try revert X); refine t24 ?_; intro X hX
      refine ⟨vrow, hv4, c4, ?_⟩
      (try revert X); refine t24 ?_; intro X hX
      refine Inv.call Fx.en25 (few_ok _ a.v w2 S vrow B3 40 (Nat.le_refl _) hvr2 hnB3 hb2 (by decide) (by decide)) ?_
      rintro v w3 ⟨b, L', rfl, g1, g2, g3⟩
      (try revert X); refine t24 ?_; intro X hX
      refine hM _ _ _ ?_; clear hM M
      refine ok_ret ?_
      try simp only [zW, zU, reduceIte, Nat.reduceEqDiff, Nat.reduceAdd, reduceCtorEq, Q24]
      exact ⟨!b, rfl, he02.chg_trans g2 (fun k hk => by omega), fun hb => ⟨by omega, by have := g3 (by simpa using hb); omega⟩⟩
  ·
    (try revert X); refine t24 ?_; intro X hX
    refine hM _ _ _ ?_; clear hM M
    refine ok_ret ?_
    try simp only [zW, zU, reduceIte, Nat.reduceEqDiff, Nat.reduceAdd, reduceCtorEq, Q24]
    exact ⟨true, rfl, he02, fun hb => (by cases hb)⟩

-- -- function 6
set_option maxHeartbeats 4000000 in
set_option maxRecDepth 8000 in
theorem Few_ok (w : World) (S : Nat → Prop) (v : Value) (acts : List ActD) (hA : ActsR w S v acts) (hS : ∀ k, S k → k < w.heap.size) :
    Rets Tryz.prog 6 [v] w (fun v w' => ∃ b, v = .bool b ∧ Ext w w' ∧ (b = true → acts.length ≤ 30 ∧ ∀ a ∈ acts, a.of.length ≤ 10 ∧ cntV a.v ≤ 40)) := by
  obtain ⟨A, c, rfl, hlen, hcell⟩ := id hA
  refine rets_of_ok Tryz.func6 rfl rfl ?_
  refine ok_seq (fun M hM => ok_region rfl ?_); (try revert X); refine t6 ?_; intro X hX
  refine hM _ _ _ ?_; clear hM M
  refine ok_seq (fun M hM => ok_region rfl ?_)
  (try revert X); refine t6 ?_; intro X hX
  refine ⟨fun h => ?_, fun h => ?_⟩
  rotate_left
  · (try revert X); refine t6 ?_; intro X hX
    refine hM _ _ _ ?_; clear hM M
    refine ok_ret ?_
    try simp only [zW, zU, reduceIte, Nat.reduceEqDiff, Nat.reduceAdd, reduceCtorEq, Q6]
    first | exact ⟨false, rfl, Ext.refl _, fun hb => (by cases hb)⟩ | exact ⟨false, rfl, fun hb => (by cases hb)⟩
  have h30 : (acts.length : Int) ≤ 30 := by simpa using h
  (try revert X); refine t6 ?_; intro X hX
  refine Inv.call Fx.en23 (containsA_ok w A acts.length c _ hlen (fun i w' => Ext w w' ∧ ∀ (j : Nat) (a : ActD), j < i → acts[j]? = some a → a.of.length ≤ 10 ∧ cntV a.v ≤ 40) (fun w' => Ext w w') ⟨Ext.refl _, fun j a h => absurd h (Nat.not_lt_zero _)⟩ ?_) ?_
  · rintro i w' hil ⟨he, hall⟩
    have hxi : acts[i]? = some acts[i] := List.getElem?_eq_getElem hil
    obtain ⟨b, o, row, hA', hbS, hcc, hr⟩ := hcell i _ hxi
    have hr' : ActR w' S row acts[i] := hr.chg (he.chg (fun _ => False)) (fun k hk => ⟨hk, id⟩)
    refine ⟨row, hr.len, ⟨b, o, hA', he.cellsAt hcc⟩, Inv.clos (cap := []) Fx.en24 (few24_ok w' S row acts[i] hr' (fun k hk => by have := hS k hk; have := he.size; omega)) ?_⟩
    rintro v w5 ⟨b', rfl, he5, hb⟩
    refine ⟨b', rfl, fun _ => he.trans he5, fun hb' => ⟨he.trans he5, fun j a hj ha => ?_⟩⟩
    rcases Nat.lt_or_ge j i with h | h
    · exact hall j a h ha
    · have : j = i := by omega
      subst this
      rw [hxi] at ha
      cases ha
      exact hb hb'
  rintro v w2 ⟨b, rfl, hb1, hb2⟩
  (try revert X); refine t6 ?_; intro X hX
  refine hM _ _ _ ?_; clear hM M
  refine ok_ret ?_
  try simp only [zW, zU, reduceIte, Nat.reduceEqDiff, Nat.reduceAdd, reduceCtorEq, Q6]
  refine ⟨!b, rfl, ?_, fun hb => ⟨by omega, fun a ha => ?_⟩⟩
  · cases b with
    | true => exact hb1 rfl
    | false => exact (hb2 rfl).1
  · obtain ⟨j, hj⟩ := List.mem_iff_getElem?.1 ha
    exact (hb2 (by simpa using hb)).2 j a (List.getElem?_eq_some_iff.1 hj).1 hj
end Go.Proofs.YtldeokfhipjbfaaGreatDoor
/- Load, with where the value lies.  -/
set_option linter.unusedVariables false
set_option linter.unusedSimpArgs false
namespace Go.Proofs.Vg
open Go Go.RowKit
theorem zero_rowS (w : World) (S : Nat → Prop) : VRowS w S zeroRow zeroVal := by
  simp only [zeroVal, zeroRow, VRowS]
  exact ⟨_, rfl, rfl, rfl, [], ⟨none, 0, rfl, by simp, fun j row hj => by simp at hj⟩, by simp only [VRowsS]⟩
end Go.Proofs.Vg
namespace Go.Proofs.YtldeokfhipjbfaaGreatDoor
open Go Go.Proofs.Vg Go.RowKit

-- -- function 13
set_option maxHeartbeats 4000000 in
set_option maxRecDepth 8000 in
theorem LoadS_ok (hb rb : Nat) (H : List Ob) (F : Nat → Prop) (hl : H.length ≤ 1073741824) (hLim : ∀ x, (argsOf H x).length ≤ 1048576) (hWf : Wf H) (mk : Nat) (u : Val) (x : Wd) (w : World)
    (hLd : rightW H x = true → ringF H [x] = false → partsF H 100000 [x] ≤ 100000 → Lds H x u) (hH : HeapW w hb rb H F) (hg : Glob w mk) :
    Rets Tryz.prog 13 [ptrOf hb, wv x] w (fun v w' => ∃ cs : List Value, v = .tuple #[.agg cs.toArray, .int .i64 (errL H x)] ∧ VRowS w' (fun k => w.heap.size ≤ k ∧ k < w'.heap.size) cs (if errL H x = 0 then u else zeroVal) ∧ Ext w w') := by
  have zero : ∀ (w1 w2 : World) (B2 : Nat) (e : Int), errL H x = e → e ≠ 0 → Ext w w1 → w.heap.size ≤ B2 → Chg (· = B2) w1 w2 → Blk w2 B2 zeroRow 36 →
      ∃ cs, cs.length = 4 ∧ cellsAt w2 ⟨B2, 0, none⟩ cs ∧ ∃ cs' : List Value, Value.tuple #[.agg cs.toArray, .int .i64 e] = .tuple #[.agg cs'.toArray, .int .i64 (errL H x)] ∧ VRowS w2 (fun k => w.heap.size ≤ k ∧ k < w2.heap.size) cs' (if errL H x = 0 then u else zeroVal) ∧ Ext w w2 := by
    intro w1 w2 B2 e he hne he1 hB hc hb
    refine ⟨zeroRow, rfl, hb.cells (o := 0) (fun j u hj => by simpa using hj), zeroRow, by rw [he], ?_, he1.chg_trans hc (fun k hk => by omega)⟩
    rw [if_neg (by rw [he]; exact hne)]
    exact zero_rowS w2 _
  refine rets_of_okC Tryz.func13 rfl rfl ?_
  refine ok_seq (fun M hM => ok_region rfl ?_)
  (try revert X); refine t13 ?_; intro X hX
  refine Runs.box (fun w1 he1 hz1 hb1 => ?_)
  generalize hB1 : w.heap.size = B1 at hz1 hb1
  simp only [Value.cells] at hb1
  (try revert X); refine t13 ?_; intro X hX
  refine Runs.alloc Fx.zi36 (fun w2 he2 hz2 hb2 => ?_)
  generalize hB2 : w1.heap.size = B2 at hz2 hb2
  simp only [Value.cells] at hb2
  (try revert X); refine t13 ?_; intro X hX
  refine hM _ _ _ ?_; clear hM M
  have hb12 := hb1.ext he2
  have he02 := he1.trans he2
  refine ok_join [(0, ptrOf hb), (3, ptrOf B1), (4, ptrOf B2)] (fun w' => Ext w2 w' ∧ errL H x = 0 ∧ Lds H x u) ?_ ?_
  · refine ok_block ?_
    refine ok_seq (fun M hM => ok_region rfl ?_)
    (try revert X); refine t13 ?_; intro X hX
    refine Runs.ptrEq Fx.un25 ?_
    (try revert X); refine t13 ?_; intro X hX
    refine hM _ _ _ ?_; clear hM M
    refine ok_cond rfl (fun h => by cases h) (fun _ => ?_)
    refine ok_seq (fun M hM => ok_region rfl ?_)
    (try revert X); refine t13 ?_; intro X hX
    refine ⟨x.row, rfl, hb12.cells (o := 0) (fun j u hj => by simpa using hj), ?_⟩
    (try revert X); refine t13 ?_; intro X hX
    refine Inv.call Fx.en12 (right_ok w2 hb rb H F (hH.ext he02) hl x) ?_
    rintro v w3 ⟨rfl, he3⟩
    (try revert X); refine t13 ?_; intro X hX
    refine hM _ _ _ ?_; clear hM M
    cases hr : rightW H x with
    | false =>
      refine ok_cond (b := true) rfl (fun _ => ?_) (fun h => by cases h)
      refine ok_seq (fun M hM => ok_region rfl ?_)
      (try revert X); refine t13 ?_; intro X hX
      refine ⟨_, w3, run_build (P := Tryz.prog) w3 36 _ zeroRow.toArray (by kernel_rfl), ?_⟩
      (try revert X); refine t13 ?_; intro X hX
      refine Runs.store (hb2.ext he3) Fx.zi36 rfl (by intro u hu; simp [Value.cells, zeroRow] at hu; rcases hu with rfl | rfl | rfl <;> rfl) (by simp) (fun w5 hc5 hs5 hb5 => ?_)
      rw [splice_all _ _ (by simp [Value.cells, zeroRow])] at hb5
      simp only [Value.cells] at hb5
      (try revert X); refine t13 ?_; intro X hX
      refine hM _ _ _ ?_; clear hM M
      refine ok_ret ?_
      try simp only [zW, zU, reduceIte, Nat.reduceEqDiff, Nat.reduceAdd, reduceCtorEq, Q13]
      exact zero w3 w5 B2 2 (by simp [errL, hr]) (by decide) (he02.trans he3) (by omega) hc5 hb5
    | true =>
      refine ok_cond (b := false) rfl (fun h => by cases h) (fun _ => ?_)
      refine ok_seq (fun M hM => ok_region rfl ?_)
      (try revert X); refine t13 ?_; intro X hX
      refine ⟨x.row, rfl, (hb12.ext he3).cells (o := 0) (fun j u hj => by simpa using hj), ?_⟩
      (try revert X); refine t13 ?_; intro X hX
      refine Runs.lit (cs := x.row) Fx.un29 Fx.zi38 (by decide) (by kernel_rfl) (by decide) (fun w4 he4 hs4 hb4 => ?_)
      generalize hB4 : w3.heap.size = B4 at hs4 hb4
      (try revert X); refine t13 ?_; intro X hX
      have hsl : SlW w4 (.slice (some ⟨B4, 0, none⟩) 1 1) [x] := ⟨some ⟨B4, 0, none⟩, 1, rfl, by simp, fun j row hj => by
        have hj0 : j = 0 := by have := (List.getElem?_eq_some_iff.1 hj).1; simp at this; exact this
        subst hj0
        simp at hj; subst hj
        exact ⟨B4, 0, rfl, hb4.cells (o := 0) (fun j u hj => by simpa using hj)⟩⟩
      have he04 := he02.trans (he3.trans he4)
      refine Inv.call Fx.en45 (ring_ok w4 hb rb H F (hH.ext he04) hl hWf _ [x] hsl (fun y hy => by simp at hy; subst hy; exact right_ref hr)) ?_
      rintro v w5 ⟨rfl, he5⟩
      (try revert X); refine t13 ?_; intro X hX
      refine hM _ _ _ ?_; clear hM M
      cases hri : ringF H [x] with
      | true =>
        refine ok_cond (b := true) rfl (fun _ => ?_) (fun h => by cases h)
        refine ok_seq (fun M hM => ok_region rfl ?_)
        (try revert X); refine t13 ?_; intro X hX
        refine ⟨_, w5, run_build (P := Tryz.prog) w5 36 _ zeroRow.toArray (by kernel_rfl), ?_⟩
        (try revert X); refine t13 ?_; intro X hX
        refine Runs.store (((hb2.ext he3).ext he4).ext he5) Fx.zi36 rfl (by intro u hu; simp [Value.cells, zeroRow] at hu; rcases hu with rfl | rfl | rfl <;> rfl) (by simp) (fun w6 hc6 hs6 hb6 => ?_)
        rw [splice_all _ _ (by simp [Value.cells, zeroRow])] at hb6
        simp only [Value.cells] at hb6
        (try revert X); refine t13 ?_; intro X hX
        refine hM _ _ _ ?_; clear hM M
        refine ok_ret ?_
        try simp only [zW, zU, reduceIte, Nat.reduceEqDiff, Nat.reduceAdd, reduceCtorEq, Q13]
        exact zero w5 w6 B2 13 (by simp [errL, hr, hri]) (by decide) (he04.trans he5) (by omega) hc6 hb6
      | false =>
        refine ok_cond (b := false) rfl (fun h => by cases h) (fun _ => ?_)
        refine ok_seq (fun M hM => ok_region rfl ?_)
        (try revert X); refine t13 ?_; intro X hX
        refine ⟨x.row, rfl, (((hb12.ext he3).ext he4).ext he5).cells (o := 0) (fun j u hj => by simpa using hj), ?_⟩
        (try revert X); refine t13 ?_; intro X hX
        have he05 := he04.trans he5
        refine Inv.call Fx.en39 (parts_ok w5 hb rb H F (hH.ext he05) hl hLim x) ?_
        rintro v w6 ⟨rfl, he6⟩
        rw [if_pos hr]
        (try revert X); refine t13 ?_; intro X hX
        refine hM _ _ _ ?_; clear hM M
        refine ok_if rfl (fun hc => ?_) (fun hc => ok_skip ?_)
        · refine ok_seq (fun M hM => ok_region rfl ?_)
          (try revert X); refine t13 ?_; intro X hX
          refine ⟨_, w6, run_build (P := Tryz.prog) w6 36 _ zeroRow.toArray (by kernel_rfl), ?_⟩
          (try revert X); refine t13 ?_; intro X hX
          refine Runs.store ((((hb2.ext he3).ext he4).ext he5).ext he6) Fx.zi36 rfl (by intro u hu; simp [Value.cells, zeroRow] at hu; rcases hu with rfl | rfl | rfl <;> rfl) (by simp) (fun w7 hc7 hs7 hb7 => ?_)
          rw [splice_all _ _ (by simp [Value.cells, zeroRow])] at hb7
          simp only [Value.cells] at hb7
          (try revert X); refine t13 ?_; intro X hX
          refine hM _ _ _ ?_; clear hM M
          refine ok_ret ?_
          try simp only [zW, zU, reduceIte, Nat.reduceEqDiff, Nat.reduceAdd, reduceCtorEq, Q13]
          have hc' : 100000 < partsF H 100000 [x] := by omega
          exact zero w6 w7 B2 6 (by simp [errL, hr, hri, hc']) (by decide) (he05.trans he6) (by omega) hc7 hb7
        · try simp only [zW, zU, reduceIte, Nat.reduceEqDiff, Nat.reduceAdd, reduceCtorEq, Q13]
          have hc' : ¬ 100000 < partsF H 100000 [x] := by omega
          exact ⟨by simp [sub, Env.get], he3.trans (he4.trans (he5.trans he6)), by simp [errL, hr, hri, hc'], hLd hr hri (by omega)⟩
  rintro w3 ⟨he3, herr, hLx⟩
  have he03 := he02.trans he3
  rw [herr]
  refine ok_seq (fun M hM => ok_region rfl ?_)
  (try revert X); refine t13 ?_; intro X hX
  refine ⟨x.row, rfl, (hb12.ext he3).cells (o := 0) (fun j u hj => by simpa using hj), ?_⟩
  (try revert X); refine t13 ?_; intro X hX
  refine Inv.call Fx.en46 (load_ok hb rb H F hl hLim mk _ u x w3 (Nat.le_refl _) hLx (hH.ext he03) (hg.ext he03)) ?_
  rintro v w4 ⟨cs, rfl, hcs, he4⟩
  have hr4 := (VRowS.row _ _ hcs).len
  (try revert X); refine t13 ?_; intro X hX
  have hl2 := (hb2.ext he3).lt
  refine Runs.store ((hb2.ext he3).ext he4) Fx.zi36 (by simpa [Value.cells] using hr4) (by simpa [Value.cells] using (VRowS.row _ _ hcs).one) (by simp) (fun w5 hc5 hs5 hb5 => ?_)
  rw [splice_all _ _ (by simp [Value.cells, hr4])] at hb5
  simp only [Value.cells] at hb5
  (try revert X); refine t13 ?_; intro X hX
  refine hM _ _ _ ?_; clear hM M
  refine ok_ret ?_
  try simp only [zW, zU, reduceIte, Nat.reduceEqDiff, Nat.reduceAdd, reduceCtorEq, Q13]
  refine ⟨cs, hr4, hb5.cells (o := 0) (fun j u hj => by simpa using hj), cs, rfl, ?_, (he03.trans he4).chg_trans hc5 (fun k hk => by omega)⟩
  have hs03 := he03.size
  have hs4 := he4.size
  exact VRowS.chg hc5 (fun k hk => ⟨⟨by omega, by omega⟩, by omega⟩) _ _ hcs
end Go.Proofs.YtldeokfhipjbfaaGreatDoor
/- The plain law of collecting, first part: heaps whose words are right; what reads. -/
set_option linter.unusedVariables false
set_option linter.unusedSimpArgs false
namespace Go.Proofs.YtldeokfhipjbfaaGreatDoor
open Go Go.Proofs.Vg Go.RowKit

structure GoodH (H : List Ob) : Prop where
  w : ∀ o ∈ H, ∀ x ∈ o.list, rightW H x = true ∧ x.k ≠ 0 ∧ x.k ≠ 9
  lim : LimH H
theorem GoodH.wf {H : List Ob} (h : GoodH H) : Wf H := fun o ho x hx => right_ref (h.w o ho x hx).1
theorem GoodH.nil : GoodH [] := ⟨fun o ho => by simp at ho, fun o ho => by simp at ho⟩
theorem GoodH.snoc {H : List Ob} (h : GoodH H) {o : Ob} (ho : ∀ x ∈ o.list, rightW H x = true ∧ x.k ≠ 0 ∧ x.k ≠ 9) (hl : o.list.length ≤ 1048576) : GoodH (H ++ [o]) := by
  refine ⟨fun o' ho' x hx => ?_, h.lim.app hl⟩
  rcases List.mem_append.1 ho' with h1 | h1
  · have := h.w o' h1 x hx
    exact ⟨rightW_app this.1, this.2⟩
  · simp at h1; subst h1
    have := ho x hx
    exact ⟨rightW_app this.1, this.2⟩
theorem mkW_good {H : List Ob} {k n : Int} {l : List Wd} (h : GoodH H) (hk : k = 4 ∨ k = 5 ∨ k = 6 ∨ k = 7) (hn : k = 7 → n = 0) (hw : ∀ x ∈ l, rightW H x = true ∧ x.k ≠ 0 ∧ x.k ≠ 9) (hl : l.length ≤ 1048576) :
    GoodH (mkW H k n l).1 ∧ rightW (mkW H k n l).1 (mkW H k n l).2 = true ∧ ((mkW H k n l).2.k ≠ 0 ∧ (mkW H k n l).2.k ≠ 9) ∧ ∃ E, (mkW H k n l).1 = H ++ E := by
  unfold mkW
  split
  · rename_i hc
    have ho := objAt_new H (.words (if k = 7 then 7 else 4) l)
    refine ⟨h.snoc hw hl, ?_, ⟨by simp only; omega, by simp only; omega⟩, _, rfl⟩
    unfold rightW
    simp only [ho]
    rcases hk with rfl | rfl | rfl | rfl
    · simp [isDataO]
    · simp [isDataO]
    · simp [isDataO]
    · simp [isArrO, hn rfl]
  · rename_i hc
    have h7 : ¬ k = 7 := fun h => hc (.inr h)
    refine ⟨h, ?_, ⟨by simp only; omega, by simp only; omega⟩, [], by simp⟩
    unfold rightW
    rcases hk with rfl | rfl | rfl | rfl
    · simp
    · simp
    · simp
    · exact absurd rfl h7
mutual
theorem storeV_good : ∀ (x : Val) (H : List Ob), knownV x = true → formedV x = true → GoodH H → cntV x ≤ 1048576 →
    GoodH (storeV H x).1 ∧ rightW (storeV H x).1 (storeV H x).2 = true ∧ ((storeV H x).2.k ≠ 0 ∧ (storeV H x).2.k ≠ 9) ∧ ∃ E, (storeV H x).1 = H ++ E
  | .mk k n t args, H, hk, hf, hG, hc => by
    simp only [knownV, Bool.and_eq_true, decide_eq_true_eq] at hk
    simp only [formedV, Bool.and_eq_true] at hf
    obtain ⟨⟨hk1, hk2⟩, hks⟩ := hk
    obtain ⟨hw, hfs⟩ := hf
    simp only [cntV] at hc
    have hcl := cntVs_len args
    unfold wellV at hw
    simp only [storeV]
    split
    · rename_i h1
      refine ⟨hG, ?_, ⟨by simp only; omega, by simp only; omega⟩, [], by simp⟩
      unfold rightW
      rcases h1 with rfl | rfl | rfl <;> simp
    · rename_i h1
      split
      · rename_i h3
        subst h3
        have hoo := objAt_new H (.text t)
        refine ⟨hG.snoc (by simp [Ob.list]) (by simp [Ob.list]), ?_, ⟨by simp only; omega, by simp only; omega⟩, _, rfl⟩
        unfold rightW
        simp [hoo, isTextO]
      · rename_i h3
        have hkk : k = 4 ∨ k = 5 ∨ k = 6 ∨ k = 7 := by omega
        have hq : k = 7 → n = 0 := by
          rcases hkk with rfl | rfl | rfl | rfl <;> simp at hw <;> simp [hw]
        obtain ⟨g1, g2, E, g3⟩ := storeVs_good args H hks hfs hG (by omega)
        have hsl := storeVs_length args H
        obtain ⟨g4, g5, g6, E2, g7⟩ := mkW_good g1 hkk hq g2 (by omega)
        exact ⟨g4, g5, g6, E ++ E2, by rw [g7, g3, List.append_assoc]⟩
theorem storeVs_good : ∀ (l : List Val) (H : List Ob), knownVs l = true → formedVs l = true → GoodH H → cntVs l ≤ 1048576 →
    GoodH (storeVs H l).1 ∧ (∀ x ∈ (storeVs H l).2, rightW (storeVs H l).1 x = true ∧ x.k ≠ 0 ∧ x.k ≠ 9) ∧ ∃ E, (storeVs H l).1 = H ++ E
  | [], H, _, _, hG, _ => by simp only [storeVs]; exact ⟨hG, by simp, [], by simp⟩
  | y :: l, H, hk, hf, hG, hc => by
    simp only [knownVs, Bool.and_eq_true] at hk
    simp only [formedVs, Bool.and_eq_true] at hf
    simp only [cntVs] at hc
    simp only [storeVs]
    obtain ⟨g1, g2, g3, E, g4⟩ := storeV_good y H hk.1 hf.1 hG (by omega)
    obtain ⟨g5, g6, E2, g7⟩ := storeVs_good l _ hk.2 hf.2 g1 (by omega)
    refine ⟨g5, fun x hx => ?_, E ++ E2, by rw [g7, g4, List.append_assoc]⟩
    rcases List.mem_cons.1 hx with rfl | hx
    · refine ⟨?_, g3⟩
      rw [g7]; exact rightW_app g2
    · exact g6 x hx
end
theorem rightW_set {H : List Ob} {t : Nat} {l l' : List Wd} (h : H[t]? = some (.words 7 l)) (x : Wd) : rightW (H.set t (.words 7 l')) x = rightW H x := by
  have htl := (List.getElem?_eq_some_iff.1 h).1
  have key : ∀ r, isTextO (objAt (H.set t (.words 7 l')) r) = isTextO (objAt H r) ∧ isDataO (objAt (H.set t (.words 7 l')) r) = isDataO (objAt H r) ∧ isArrO (objAt (H.set t (.words 7 l')) r) = isArrO (objAt H r) := by
    intro r
    unfold objAt
    split
    · by_cases ht : (r - 1).toNat = t
      · rw [ht, List.getElem?_set_self htl, h]
        simp [isTextO, isDataO, isArrO]
      · rw [List.getElem?_set_ne (fun e => ht e.symm)]
        exact ⟨rfl, rfl, rfl⟩
    · exact ⟨rfl, rfl, rfl⟩
  unfold rightW
  rw [(key x.r).1, (key x.r).2.1, (key x.r).2.2]
theorem setH_good {H : List Ob} {x y : Wd} {i : Int} (h : GoodH H) : GoodH (setH H x i y) ∧ (setH H x i y).length = H.length := by
  unfold setH
  split
  · rename_i he
    unfold setE at he
    split at he
    · rename_i hc
      split at he
      · rename_i h7
        obtain ⟨l, ho⟩ := right7 hc.1 h7
        have hargs : argsOf H x = l := by unfold argsOf; rw [ho]; rfl
        have hH : H[(x.r - 1).toNat]? = some (.words 7 l) := by
          unfold objAt at ho
          split at ho
          · exact ho
          · cases ho
        rw [hargs]
        have hlm : (Ob.words 7 l) ∈ H := List.mem_of_getElem? hH
        refine ⟨⟨fun o ho' z hz => ?_, fun o ho' => ?_⟩, by simp⟩
        · rw [rightW_set hH]
          rcases List.mem_or_eq_of_mem_set ho' with h1 | h1
          · exact h.w o h1 z hz
          · subst h1
            simp only [Ob.list] at hz
            rcases List.mem_or_eq_of_mem_set hz with h2 | h2
            · exact h.w _ hlm z h2
            · subst h2; exact ⟨hc.2.1, hc.2.2⟩
        · rcases List.mem_or_eq_of_mem_set ho' with h1 | h1
          · exact h.lim o h1
          · subst h1
            simp only [Ob.list, List.length_set]
            exact h.lim _ hlm
      · cases he
    · cases he
  · exact ⟨h, rfl⟩
theorem objAt_set {H : List Ob} {r : Int} (h : 1 ≤ r) : ∀ o, objAt H r = some o → o ∈ H := by
  intro o ho
  unfold objAt at ho
  rw [if_pos h] at ho
  exact List.mem_of_getElem? ho
theorem objAt_mem {H : List Ob} {r : Int} {o : Ob} (ho : objAt H r = some o) : o ∈ H := objAt_set (objAt_some ho).1 o ho
theorem argsOf_listO (H : List Ob) (x : Wd) : argsOf H x = listO (objAt H x.r) := by
  unfold argsOf
  cases ho : objAt H x.r with
  | none => rfl
  | some o => cases o <;> rfl
/-- No way round: the words of an object all read. -/
def Reads (H : List Ob) (r : Int) : Prop := ∃ us, LdsL H (listO (objAt H r)) us
theorem reads_word {H : List Ob} {x : Wd} (hr : rightW H x = true) (h : x.r = 0 ∨ Reads H x.r) : ∃ u, Lds H x u := by
  have hz : ∀ r : Int, r = 0 → objAt H r = none := fun r e => objAt_lt (by omega)
  by_cases h0 : x.k = 0 ∨ x.k = 9
  · refine ⟨.mk 0 0 ⟨#[]⟩ [], ?_⟩
    simp only [Lds]
    rw [if_pos h0]
    refine ⟨trivial, trivial, trivial, trivial, ?_⟩
    unfold rightW at hr
    rcases h0 with h0 | h0
    · rw [if_pos h0] at hr; simp at hr; exact hr.2
    · rw [if_neg (by omega), if_pos (by omega)] at hr; simpa using hr
  by_cases h3 : x.k = 3
  · have : ∃ t, objAt H x.r = some (.text t) := by
      unfold rightW at hr
      rw [if_neg (by omega), if_neg (by omega), if_pos h3] at hr
      simp at hr
      cases ho : objAt H x.r with
      | none => rw [ho] at hr; simp [isTextO] at hr
      | some o =>
        cases o with
        | text t => exact ⟨t, rfl⟩
        | words s l => rw [ho] at hr; simp [isTextO] at hr
    obtain ⟨t, ht⟩ := this
    refine ⟨.mk 3 0 t [], ?_⟩
    simp only [Lds]
    rw [if_neg h0, if_pos h3]
    exact ⟨trivial, trivial, trivial, ht⟩
  · have hkk : 1 ≤ x.k ∧ x.k ≤ 8 := by
      by_cases q1 : x.k = 1 ∨ x.k = 2 ∨ x.k = 8 ∨ x.k = 9
      · omega
      by_cases q2 : x.k = 4 ∨ x.k = 5 ∨ x.k = 6
      · omega
      by_cases q3 : x.k = 7
      · omega
      · exfalso
        unfold rightW at hr
        rw [if_neg (by omega), if_neg q1, if_neg h3, if_neg q2, if_neg q3] at hr
        cases hr
    have : ∃ us, LdsL H (argsOf H x) us := by
      rw [argsOf_listO]
      rcases h with h | h
      · rw [hz _ h]; exact ⟨[], by simp only [listO, LdsL]⟩
      · exact h
    obtain ⟨us, hus⟩ := this
    refine ⟨.mk x.k x.n ⟨#[]⟩ us, ?_⟩
    simp only [Lds]
    rw [if_neg h0, if_neg h3]
    exact ⟨hkk.1, hkk.2, trivial, trivial, trivial, hus⟩
def Inv2 (H : List Ob) (st : List Int) : Prop := ∀ r : Int, 1 ≤ r → st[r.toNat]? = some 2 → Reads H r
theorem visitL_reads {H : List Ob} {g : List Int → Int → Bool × List Int} (hgi : ∀ st r, 0 ≤ r → r ≤ (H.length : Int) → OkSt (H.length + 1) st → Inv2 H st → (g st r).1 = false → Inv2 H (g st r).2 ∧ OkSt (H.length + 1) (g st r).2 ∧ (r = 0 ∨ (g st r).2[r.toNat]? = some 2) ∧ ∀ i : Nat, st[i]? = some 2 → (g st r).2[i]? = some 2) :
    ∀ (l : List Wd) (st : List Int), (∀ x ∈ l, 0 ≤ x.r ∧ x.r ≤ (H.length : Int)) → OkSt (H.length + 1) st → Inv2 H st → (visitL g st l).1 = false →
      Inv2 H (visitL g st l).2 ∧ OkSt (H.length + 1) (visitL g st l).2 ∧ (∀ x ∈ l, x.r = 0 ∨ (visitL g st l).2[x.r.toNat]? = some 2) ∧ ∀ i : Nat, st[i]? = some 2 → (visitL g st l).2[i]? = some 2 := by
  intro l
  induction l with
  | nil => intro st _ h1 h2 _; simp only [visitL]; exact ⟨h2, h1, by simp, fun i h => h⟩
  | cons x l ih =>
    intro st hr h1 h2 hf
    have hx := hr x List.mem_cons_self
    simp only [visitL] at hf ⊢
    by_cases hg : (g st x.r).1 = true
    · rw [if_pos hg] at hf; cases hf
    · rw [if_neg hg] at hf ⊢
      have hg' : (g st x.r).1 = false := by simpa using hg
      obtain ⟨a1, a2, a3, a4⟩ := hgi st x.r hx.1 hx.2 h1 h2 hg'
      obtain ⟨b1, b2, b3, b4⟩ := ih _ (fun y hy => hr y (List.mem_cons_of_mem _ hy)) a2 a1 hf
      refine ⟨b1, b2, fun y hy => ?_, fun i hi => b4 i (a4 i hi)⟩
      rcases List.mem_cons.1 hy with rfl | hy
      · exact a3.imp id (b4 _)
      · exact b3 y hy
theorem LdsL_of {H : List Ob} : ∀ (l : List Wd), (∀ x ∈ l, ∃ u, Lds H x u) → ∃ us, LdsL H l us
  | [], _ => ⟨[], by simp only [LdsL]⟩
  | x :: l, h => by
    obtain ⟨u, hu⟩ := h x List.mem_cons_self
    obtain ⟨us, hus⟩ := LdsL_of l (fun y hy => h y (List.mem_cons_of_mem _ hy))
    exact ⟨u :: us, by simp only [LdsL]; exact ⟨hu, hus⟩⟩
theorem visitF_reads {H : List Ob} (hG : GoodH H) : ∀ (f : Nat) (st : List Int) (r : Int), 0 ≤ r → r ≤ (H.length : Int) → OkSt (H.length + 1) st → Inv2 H st → (visitF H f st r).1 = false →
    Inv2 H (visitF H f st r).2 ∧ OkSt (H.length + 1) (visitF H f st r).2 ∧ (r = 0 ∨ (visitF H f st r).2[r.toNat]? = some 2) ∧ ∀ i : Nat, st[i]? = some 2 → (visitF H f st r).2[i]? = some 2 := by
  intro f
  induction f with
  | zero =>
    intro st r h0 hn h1 h2 hf
    simp only [visitF] at hf ⊢
    split
    · rename_i hc; exact ⟨h2, h1, hc, fun i h => h⟩
    · rename_i hc; rw [if_neg hc] at hf; cases hf
  | succ f ih =>
    intro st r h0 hn h1 h2 hf
    simp only [visitF] at hf ⊢
    split
    · rename_i hc; exact ⟨h2, h1, hc, fun i h => h⟩
    rename_i hc
    rw [if_neg hc] at hf
    split
    · rename_i hc1; rw [if_pos hc1] at hf; cases hf
    rename_i hc1
    rw [if_neg hc1] at hf
    have hr0 : r ≠ 0 := fun e => hc (.inl e)
    have hi2 : Inv2 H (st.set r.toNat 1) := by
      intro r' hr' hs
      by_cases e : r.toNat = r'.toNat
      · rw [← e, List.getElem?_set] at hs
        split at hs
        · split at hs
          · cases hs
          · cases hs
        · exact h2 r' hr' (by rw [← e]; exact hs)
      · rw [List.getElem?_set_ne e] at hs
        exact h2 r' hr' hs
    have hmem : ∀ x ∈ listO (objAt H r), rightW H x = true ∧ x.k ≠ 0 ∧ x.k ≠ 9 := by
      intro x hx
      cases ho : objAt H r with
      | none => rw [ho] at hx; simp [listO] at hx
      | some o => rw [ho] at hx; exact hG.w o (objAt_mem ho) x hx
    split
    · rename_i hv; rw [if_pos hv] at hf; cases hf
    rename_i hv
    have hv' : (visitL (visitF H f) (st.set r.toNat 1) (listO (objAt H r))).1 = false := by simpa using hv
    obtain ⟨a1, a2, a3, a4⟩ := visitL_reads (g := visitF H f) (fun st r b1 b2 b3 b4 b5 => ih st r b1 b2 b3 b4 b5) (listO (objAt H r)) (st.set r.toNat 1) (fun x hx => right_ref (hmem x hx).1) (h1.set _ _ (by simp)) hi2 hv'
    have hlen := a2.len
    have hrl : r.toNat < (visitL (visitF H f) (st.set r.toNat 1) (listO (objAt H r))).2.length := by omega
    have hR : Reads H r := by
      refine LdsL_of _ (fun x hx => reads_word (hmem x hx).1 ?_)
      rcases a3 x hx with h | h
      · exact .inl h
      · have h4 := right_ref (hmem x hx).1
        by_cases e : x.r = 0
        · exact .inl e
        · exact .inr (a1 x.r (by omega) h)
    refine ⟨fun r' hr' hs => ?_, a2.set _ _ (by simp), .inr (List.getElem?_set_self hrl), fun i hi => ?_⟩
    · by_cases e : r.toNat = r'.toNat
      · have : r = r' := by omega
        rw [← this]; exact hR
      · simp only at hs
        rw [List.getElem?_set_ne e] at hs
        exact a1 r' hr' hs
    · simp only
      by_cases e : r.toNat = i
      · subst e; exact List.getElem?_set_self hrl
      · rw [List.getElem?_set_ne e]
        refine a4 i ?_
        rw [List.getElem?_set_ne e]; exact hi
theorem ringF_reads {H : List Ob} (hG : GoodH H) {x : Wd} (hr : rightW H x = true) (h : ringF H [x] = false) : ∃ u, Lds H x u := by
  unfold ringF at h
  have hx := right_ref hr
  obtain ⟨a1, a2, a3, -⟩ := visitL_reads (g := visitF H (H.length + 2)) (fun st r b1 b2 b3 b4 b5 => visitF_reads hG _ st r b1 b2 b3 b4 b5) [x] (List.replicate (H.length + 1) 0) (fun y hy => by simp at hy; subst hy; exact hx) ⟨by simp, fun y hy => by simp at hy; simp [hy]⟩ (fun r' hr' hs => by
    rw [List.getElem?_replicate] at hs
    split at hs
    · cases hs
    · cases hs) h
  refine reads_word hr ?_
  rcases a3 x (by simp) with h1 | h1
  · exact .inl h1
  · by_cases e : x.r = 0
    · exact .inl e
    · exact .inr (a1 x.r (by omega) h1)
end Go.Proofs.YtldeokfhipjbfaaGreatDoor
/- The plain law of collecting, second part: what reads has no way round. -/
set_option linter.unusedVariables false
set_option linter.unusedSimpArgs false
namespace Go.Proofs.YtldeokfhipjbfaaGreatDoor
open Go Go.Proofs.Vg Go.RowKit

mutual
theorem Lds_fun {H : List Ob} : ∀ (u : Val) (x : Wd) (v : Val), Lds H x u → Lds H x v → u = v
  | .mk k n t args, x, .mk k' n' t' args', h, h' => by
    simp only [Lds] at h h'
    by_cases h0 : x.k = 0 ∨ x.k = 9
    · rw [if_pos h0] at h h'
      obtain ⟨rfl, rfl, rfl, rfl, -⟩ := h
      obtain ⟨rfl, rfl, rfl, rfl, -⟩ := h'
      rfl
    rw [if_neg h0] at h h'
    by_cases h3 : x.k = 3
    · rw [if_pos h3] at h h'
      obtain ⟨rfl, rfl, rfl, e⟩ := h
      obtain ⟨rfl, rfl, rfl, e'⟩ := h'
      rw [e] at e'
      cases e'
      rfl
    · rw [if_neg h3] at h h'
      obtain ⟨-, -, rfl, rfl, rfl, e⟩ := h
      obtain ⟨-, -, rfl, rfl, rfl, e'⟩ := h'
      rw [LdsL_fun args _ args' e e']
theorem LdsL_fun {H : List Ob} : ∀ (us : List Val) (xs : List Wd) (vs : List Val), LdsL H xs us → LdsL H xs vs → us = vs
  | [], [], [], _, _ => rfl
  | u :: us, x :: xs, v :: vs, h, h' => by
    simp only [LdsL] at h h'
    rw [Lds_fun u x v h.1 h'.1, LdsL_fun us xs vs h.2 h'.2]
  | [], _ :: _, _, h, _ => by simp [LdsL] at h
  | _ :: _, [], _, h, _ => by simp [LdsL] at h
  | [], [], _ :: _, _, h => by simp [LdsL] at h
  | _ :: _, _ :: _, [], _, h => by simp [LdsL] at h
end
theorem word_us {H : List Ob} {x : Wd} {u : Val} (hr : rightW H x = true) (h : Lds H x u) : x.r = 0 ∨ ∃ us, LdsL H (listO (objAt H x.r)) us ∧ SizeOf.sizeOf us < SizeOf.sizeOf u := by
  cases u with
  | mk k n t args =>
    simp only [Lds] at h
    by_cases h0 : x.k = 0 ∨ x.k = 9
    · rw [if_pos h0] at h; exact .inl h.2.2.2.2
    rw [if_neg h0] at h
    by_cases h3 : x.k = 3
    · rw [if_pos h3] at h
      obtain ⟨rfl, rfl, rfl, e⟩ := h
      refine .inr ⟨[], by rw [e]; simp only [listO, Ob.list, LdsL], ?_⟩
      simp
      omega
    · rw [if_neg h3] at h
      obtain ⟨-, -, rfl, rfl, rfl, e⟩ := h
      rw [argsOf_listO] at e
      refine .inr ⟨args, e, ?_⟩
      simp <;> omega
def Gray (H : List Ob) (st : List Int) (B : Nat) : Prop := ∀ g : Nat, st[g]? = some 1 → ∀ us, LdsL H (listO (objAt H (g : Int))) us → B ≤ SizeOf.sizeOf us
theorem visitL_false {H : List Ob} {f : Nat} (ih : ∀ (st : List Int) (r : Int) (us : List Val), 0 ≤ r → r ≤ (H.length : Int) → OkSt (H.length + 1) st → zer st + 1 ≤ f → (r = 0 ∨ LdsL H (listO (objAt H r)) us) → Gray H st (SizeOf.sizeOf us + 1) →
      (visitF H f st r).1 = false ∧ ∀ i : Nat, (visitF H f st r).2[i]? = some 1 → st[i]? = some 1) (B : Nat) :
    ∀ (l : List Wd) (st : List Int), (∀ x ∈ l, 0 ≤ x.r ∧ x.r ≤ (H.length : Int) ∧ (x.r = 0 ∨ ∃ us, LdsL H (listO (objAt H x.r)) us ∧ SizeOf.sizeOf us < B)) → OkSt (H.length + 1) st → zer st + 1 ≤ f → Gray H st B → 0 < B →
      (visitL (visitF H f) st l).1 = false ∧ ∀ i : Nat, (visitL (visitF H f) st l).2[i]? = some 1 → st[i]? = some 1 := by
  intro l
  induction l with
  | nil => intro st _ _ _ _ _; simp only [visitL]; exact ⟨trivial, fun i h => h⟩
  | cons x l ihl =>
    intro st hx h1 h2 h3 hB
    obtain ⟨r0, r1, r2⟩ := hx x List.mem_cons_self
    have hv : (visitF H f st x.r).1 = false ∧ ∀ i : Nat, (visitF H f st x.r).2[i]? = some 1 → st[i]? = some 1 := by
      rcases r2 with r2 | ⟨us, r2, r3⟩
      · cases f with
        | zero => omega
        | succ f =>
          simp only [visitF]
          rw [if_pos (.inl r2)]
          exact ⟨rfl, fun i h => h⟩
      · exact ih st x.r us r0 r1 h1 h2 (.inr r2) (fun g hg us' hus' => by have := h3 g hg us' hus'; omega)
    have hz := visitF_inv (H := H) f st x.r h1
    simp only [visitL]
    rw [if_neg (by rw [hv.1]; simp)]
    obtain ⟨g1, g2⟩ := ihl _ (fun y hy => hx y (List.mem_cons_of_mem _ hy)) hz.1 (by omega) (fun g hg us' hus' => h3 g (hv.2 g hg) us' hus') hB
    exact ⟨g1, fun i h => hv.2 i (g2 i h)⟩
theorem visitF_false {H : List Ob} (hG : GoodH H) : ∀ (f : Nat) (st : List Int) (r : Int) (us : List Val), 0 ≤ r → r ≤ (H.length : Int) → OkSt (H.length + 1) st → zer st + 1 ≤ f → (r = 0 ∨ LdsL H (listO (objAt H r)) us) → Gray H st (SizeOf.sizeOf us + 1) →
      (visitF H f st r).1 = false ∧ ∀ i : Nat, (visitF H f st r).2[i]? = some 1 → st[i]? = some 1 := by
  intro f
  induction f with
  | zero => intro st r us _ _ _ h; omega
  | succ f ih =>
    intro st r us h0 hn h1 hf hus hgr
    simp only [visitF]
    by_cases hc : r = 0 ∨ st[r.toNat]? = some 2
    · rw [if_pos hc]; exact ⟨rfl, fun i h => h⟩
    rw [if_neg hc]
    have hr0 : r ≠ 0 := fun e => hc (.inl e)
    have hus' : LdsL H (listO (objAt H r)) us := hus.resolve_left hr0
    have hcast : ((r.toNat : Nat) : Int) = r := by omega
    have hn1 : st[r.toNat]? ≠ some 1 := fun e => by
      have := hgr r.toNat e us (by rw [hcast]; exact hus')
      omega
    rw [if_neg hn1]
    have hlt : r.toNat < st.length := by rw [h1.len]; omega
    have hz0 : st[r.toNat]? = some 0 := by
      have hm := h1.val _ (List.getElem_mem hlt)
      have he : st[r.toNat]? = some st[r.toNat] := List.getElem?_eq_getElem hlt
      rcases hm with h | h | h
      · rw [he, h]
      · exact absurd (by rw [he, h]) hn1
      · exact absurd (.inr (by rw [he, h])) hc
    have hzz := zer_set0 (v := 1) (by decide) hz0
    have hmem : ∀ x ∈ listO (objAt H r), rightW H x = true ∧ x.k ≠ 0 ∧ x.k ≠ 9 := by
      intro x hx
      cases ho : objAt H r with
      | none => rw [ho] at hx; simp [listO] at hx
      | some o => rw [ho] at hx; exact hG.w o (objAt_mem ho) x hx
    have hch : ∀ (l : List Wd) (us : List Val) (B : Nat), SizeOf.sizeOf us ≤ B → LdsL H l us → (∀ x ∈ l, rightW H x = true) → ∀ x ∈ l, 0 ≤ x.r ∧ x.r ≤ (H.length : Int) ∧ (x.r = 0 ∨ ∃ us, LdsL H (listO (objAt H x.r)) us ∧ SizeOf.sizeOf us < B) := by
      intro l
      induction l with
      | nil => intro _ _ _ _ _ x hx; simp at hx
      | cons y l ihl =>
        intro us B hB hL hrr x hx
        cases us with
        | nil => simp [LdsL] at hL
        | cons u us =>
          simp only [LdsL] at hL
          simp at hB
          rcases List.mem_cons.1 hx with rfl | hx
          · have hr := hrr x List.mem_cons_self
            have := right_ref hr
            refine ⟨this.1, this.2, ?_⟩
            rcases word_us hr hL.1 with h | ⟨us', h, h'⟩
            · exact .inl h
            · exact .inr ⟨us', h, by omega⟩
          · exact ihl us B (by omega) hL.2 (fun z hz => hrr z (List.mem_cons_of_mem _ hz)) x hx
    have hgray : Gray H (st.set r.toNat 1) (SizeOf.sizeOf us) := by
      intro g hg us' hus2
      by_cases e : r.toNat = g
      · subst e
        rw [hcast] at hus2
        rw [LdsL_fun us' _ us hus2 hus']
        exact Nat.le_refl _
      · rw [List.getElem?_set_ne e] at hg
        have := hgr g hg us' hus2
        omega
    have hpos : 0 < SizeOf.sizeOf us := by cases us <;> simp <;> omega
    obtain ⟨g1, g2⟩ := visitL_false (fun st r us a b c d e f' => ih st r us a b c d e f') (SizeOf.sizeOf us) (listO (objAt H r)) (st.set r.toNat 1) (hch _ us _ (Nat.le_refl _) hus' (fun x hx => (hmem x hx).1)) (h1.set _ _ (by simp)) (by omega) hgray hpos
    rw [if_neg (by rw [g1]; simp)]
    refine ⟨rfl, fun i hi => ?_⟩
    simp only at hi
    by_cases e : r.toNat = i
    · subst e
      rw [List.getElem?_set] at hi
      split at hi
      · split at hi
        · cases hi
        · cases hi
      · exact absurd rfl (by assumption)
    · rw [List.getElem?_set_ne e] at hi
      have := g2 i hi
      rw [List.getElem?_set_ne e] at this
      exact this
theorem ringF_of_Lds {H : List Ob} (hG : GoodH H) {x : Wd} {u : Val} (hr : rightW H x = true) (h : Lds H x u) : ringF H [x] = false := by
  unfold ringF
  have hx := right_ref hr
  have hz : zer (List.replicate (H.length + 1) (0 : Int)) = H.length + 1 := by
    unfold zer; rw [List.countP_replicate]; simp
  refine (visitL_false (fun st r us a b c d e f' => visitF_false hG _ st r us a b c d e f') (SizeOf.sizeOf u) [x] (List.replicate (H.length + 1) 0) (fun y hy => ?_) ⟨by simp, fun y hy => by simp at hy; simp [hy]⟩ (by omega) (fun g hg us hus => ?_) ?_).1
  · simp at hy; subst hy
    exact ⟨hx.1, hx.2, word_us hr h⟩
  · rw [List.getElem?_replicate] at hg
    split at hg
    · cases hg
    · cases hg
  · cases u; simp; omega
theorem ringF_iff {H : List Ob} (hG : GoodH H) {x : Wd} (hr : rightW H x = true) : ringF H [x] = false ↔ ∃ u, Lds H x u :=
  ⟨ringF_reads hG hr, fun ⟨u, hu⟩ => ringF_of_Lds hG hr hu⟩
end Go.Proofs.YtldeokfhipjbfaaGreatDoor
/- The plain law of collecting, third part: what is reached is closed; the new numbers. -/
set_option linter.unusedVariables false
set_option linter.unusedSimpArgs false
namespace Go.Proofs.YtldeokfhipjbfaaGreatDoor
open Go Go.Proofs.Vg Go.RowKit

def SubQ (sn : List Bool) (q : List Int) : Prop := ∀ r : Nat, sn[r]? = some true → (r : Int) ∈ q
theorem pushF_sub : ∀ (l : List Wd) (sn : List Bool) (q : List Int), (∀ x ∈ l, 0 ≤ x.r) → SubQ sn q → SubQ (pushF sn q l).1 (pushF sn q l).2 := by
  intro l
  induction l with
  | nil => intro sn q _ h; exact h
  | cons x l ih =>
    intro sn q hl h
    have hx := hl x List.mem_cons_self
    simp only [pushF]
    split
    · refine ih _ _ (fun y hy => hl y (List.mem_cons_of_mem _ hy)) (fun r hr => ?_)
      by_cases e : x.r.toNat = r
      · subst e
        have : ((x.r.toNat : Nat) : Int) = x.r := by omega
        rw [this]; simp
      · rw [List.getElem?_set_ne e] at hr
        exact List.mem_append_left _ (h r hr)
    · exact ih _ _ (fun y hy => hl y (List.mem_cons_of_mem _ hy)) h
theorem pushF_mono : ∀ (l : List Wd) (sn : List Bool) (q : List Int) (i : Nat), sn[i]? = some true → (pushF sn q l).1[i]? = some true := by
  intro l
  induction l with
  | nil => intro sn q i h; exact h
  | cons x l ih =>
    intro sn q i h
    simp only [pushF]
    split
    · refine ih _ _ i ?_
      by_cases e : x.r.toNat = i
      · subst e
        exact List.getElem?_set_self (List.getElem?_eq_some_iff.1 h).1
      · rw [List.getElem?_set_ne e]; exact h
    · exact ih _ _ i h
theorem pushF_all : ∀ (l : List Wd) (sn : List Bool) (q : List Int), (∀ x ∈ l, 0 ≤ x.r ∧ x.r.toNat < sn.length) → ∀ x ∈ l, x.r = 0 ∨ (pushF sn q l).1[x.r.toNat]? = some true := by
  intro l
  induction l with
  | nil => intro sn q _ x hx; simp at hx
  | cons y l ih =>
    intro sn q hl x hx
    have hy := hl y List.mem_cons_self
    have hl' := fun z hz => hl z (List.mem_cons_of_mem _ hz)
    simp only [pushF]
    rcases List.mem_cons.1 hx with rfl | hx
    · split
      · exact .inr (pushF_mono _ _ _ _ (List.getElem?_set_self hy.2))
      · rename_i hc
        by_cases e : x.r = 0
        · exact .inl e
        · refine .inr (pushF_mono _ _ _ _ ?_)
          have h1 : sn[x.r.toNat]? = some sn[x.r.toNat] := List.getElem?_eq_getElem hy.2
          cases hb : sn[x.r.toNat] with
          | true => rw [h1, hb]
          | false => exact absurd ⟨e, by rw [h1, hb]⟩ hc
    · split
      · exact ih _ _ (fun z hz => by have := hl' z hz; simpa using this) x hx
      · exact ih _ _ hl' x hx
theorem bfs_closed {H : List Ob} (hW : Wf H) : ∀ (f : Nat) (sn : List Bool) (q : List Int) (i : Nat), Qok H.length sn q → SubQ sn q → unseen sn + q.length ≤ f + i → (∀ (j : Nat) (r : Int), j < i → q[j]? = some r → ∀ y ∈ listO (objAt H r), y.r = 0 ∨ y.r ∈ q) →
    ∀ r ∈ bfs H f sn q i, ∀ y ∈ listO (objAt H r), y.r = 0 ∨ y.r ∈ bfs H f sn q i := by
  intro f
  induction f with
  | zero =>
    intro sn q i h1 h2 h3 h4 r hr y hy
    simp only [bfs] at hr ⊢
    obtain ⟨j, hj⟩ := List.mem_iff_getElem?.1 hr
    have := (List.getElem?_eq_some_iff.1 hj).1
    exact h4 j r (by omega) hj y hy
  | succ f ih =>
    intro sn q i h1 h2 h3 h4
    simp only [bfs]
    split
    · rename_i hn
      intro r hr y hy
      obtain ⟨j, hj⟩ := List.mem_iff_getElem?.1 hr
      have hjl := (List.getElem?_eq_some_iff.1 hj).1
      have := List.getElem?_eq_none_iff.1 hn
      exact h4 j r (by omega) hj y hy
    · rename_i r0 hr0
      have hl := listO_mem hW r0
      obtain ⟨p1, p2, p3⟩ := pushF_inv _ sn q hl h1
      have hsub := pushF_sub (listO (objAt H r0)) sn q (fun x hx => (hl x hx).1) h2
      have hall := pushF_all (listO (objAt H r0)) sn q (fun x hx => ⟨(hl x hx).1, by have := (hl x hx); rw [h1.len]; omega⟩)
      refine ih _ _ (i + 1) p1 hsub (by omega) (fun j r hj hq y hy => ?_)
      have hil := (List.getElem?_eq_some_iff.1 hr0).1
      obtain ⟨t, ht⟩ := p2
      have hqj : q[j]? = some r := by
        rw [← ht, List.getElem?_append_left (by omega)] at hq
        exact hq
      by_cases e : j = i
      · subst e
        rw [hr0] at hqj; cases hqj
        refine (hall y hy).imp id (fun h => ?_)
        have := hsub _ h
        have h0 := (hl y hy).1
        rwa [show ((y.r.toNat : Nat) : Int) = y.r by omega] at this
      · refine (h4 j r (by omega) hqj y hy).imp id (fun h => ?_)
        rw [← ht]; exact List.mem_append_left _ h
theorem subQ_rep (n : Nat) : SubQ (List.replicate n false) [] := by
  intro r hr
  rw [List.getElem?_replicate] at hr
  split at hr
  · cases hr
  · cases hr
section
variable {H : List Ob} {roots : List Wd}
theorem collQ_inv (hW : Wf H) (hr : ∀ x ∈ roots, 0 ≤ x.r ∧ x.r ≤ (H.length : Int)) : Qok H.length (pushF (List.replicate (H.length + 1) false) [] roots).1 (pushF (List.replicate (H.length + 1) false) [] roots).2 ∧ unseen (pushF (List.replicate (H.length + 1) false) [] roots).1 + (pushF (List.replicate (H.length + 1) false) [] roots).2.length = H.length + 1 := by
  have h := pushF_inv (n := H.length) roots _ [] hr (Qok.nil _)
  refine ⟨h.1, ?_⟩
  have h2 := h.2.2
  rw [unseen_rep] at h2
  simpa using h2
theorem collQ_nd (hW : Wf H) (hr : ∀ x ∈ roots, 0 ≤ x.r ∧ x.r ≤ (H.length : Int)) : (collQ H roots).Nodup ∧ ∀ r ∈ collQ H roots, 1 ≤ r ∧ r ≤ (H.length : Int) := by
  have h := collQ_inv hW hr
  have := bfs_prefix hW (H.length + 1) _ _ 0 h.1
  exact ⟨this.2.2, this.2.1⟩
theorem collQ_closed (hW : Wf H) (hr : ∀ x ∈ roots, 0 ≤ x.r ∧ x.r ≤ (H.length : Int)) : ∀ r ∈ collQ H roots, ∀ y ∈ listO (objAt H r), y.r = 0 ∨ y.r ∈ collQ H roots := by
  have h := collQ_inv hW hr
  exact bfs_closed hW (H.length + 1) _ _ 0 h.1 (pushF_sub _ _ _ (fun x hx => (hr x hx).1) (subQ_rep _)) (by omega) (fun j r hj => by omega)
theorem collQ_roots (hW : Wf H) (hr : ∀ x ∈ roots, 0 ≤ x.r ∧ x.r ≤ (H.length : Int)) : ∀ x ∈ roots, x.r = 0 ∨ x.r ∈ collQ H roots := by
  intro x hx
  have h := collQ_inv hW hr
  have hp := (bfs_prefix hW (H.length + 1) _ _ 0 h.1).1
  have hall := pushF_all roots (List.replicate (H.length + 1) false) [] (fun x hx => ⟨(hr x hx).1, by have := hr x hx; simp; omega⟩) x hx
  refine hall.imp id (fun h2 => ?_)
  have := pushF_sub roots _ [] (fun x hx => (hr x hx).1) (subQ_rep _) _ h2
  have h0 := (hr x hx).1
  rw [show ((x.r.toNat : Nat) : Int) = x.r by omega] at this
  obtain ⟨t, ht⟩ := hp
  show x.r ∈ bfs H (H.length + 1) _ _ 0
  rw [← ht]
  exact List.mem_append_left _ this
end
theorem tosF_zero {N : Nat} {Q : List Int} (hQ : ∀ r ∈ Q, 1 ≤ r) : ∀ i, i ≤ Q.length → (tosF N Q i).getD 0 0 = 0
  | 0, _ => by simp [tosF]; cases N <;> rfl
  | i + 1, hi => by
    have h1 := tosF_zero (N := N) hQ i (by omega)
    have hm : 1 ≤ Q.getD i 0 := by
      rw [List.getD_eq_getElem?_getD, List.getElem?_eq_getElem (by omega : i < Q.length)]
      exact hQ _ (List.getElem_mem _)
    simp only [tosF]
    rw [List.getD_eq_getElem?_getD, List.getElem?_set_ne (by omega), ← List.getD_eq_getElem?_getD]
    exact h1
theorem tosF_at {N : Nat} {Q : List Int} (hnd : Q.Nodup) (hQ : ∀ r ∈ Q, 1 ≤ r ∧ r < (N : Int)) : ∀ i, i ≤ Q.length → ∀ (j : Nat) (r : Int), j < i → Q[j]? = some r → (tosF N Q i).getD r.toNat 0 = (j : Int) + 1
  | 0, _, j, r, hj, _ => by omega
  | i + 1, hi, j, r, hj, hr => by
    have hil : i < Q.length := by omega
    have hi' : Q[i]? = some Q[i] := List.getElem?_eq_getElem hil
    have hg : Q.getD i 0 = Q[i] := by rw [List.getD_eq_getElem?_getD, hi']; rfl
    have hm := hQ _ (List.getElem_mem hil)
    simp only [tosF]
    rw [hg, List.getD_eq_getElem?_getD]
    by_cases e : j = i
    · subst e
      rw [hi'] at hr; cases hr
      rw [List.getElem?_set_self (by rw [tosF_length]; omega)]
      rfl
    · have hrm := hQ r (List.mem_of_getElem? hr)
      have hjl := (List.getElem?_eq_some_iff.1 hr)
      have hne : Q[i].toNat ≠ r.toNat := by
        intro h
        have h2 : Q[i] = Q[j]'hjl.1 := by rw [hjl.2]; omega
        have := (List.getElem_inj hnd).1 h2
        omega
      rw [List.getElem?_set_ne hne, ← List.getD_eq_getElem?_getD]
      exact tosF_at hnd hQ i (by omega) j r (by omega) hr
end Go.Proofs.YtldeokfhipjbfaaGreatDoor
/- The plain law of collecting, fourth part: the collected heap is the same but for the numbers. -/
set_option linter.unusedVariables false
set_option linter.unusedSimpArgs false
set_option linter.unusedSectionVars false
namespace Go.Proofs.YtldeokfhipjbfaaGreatDoor
open Go Go.Proofs.Vg Go.RowKit

section
variable {H : List Ob} {roots : List Wd}
/-- A word that leads to nothing, or to what is kept. -/
def Kept (H : List Ob) (roots : List Wd) (x : Wd) : Prop := x.r = 0 ∨ x.r ∈ collQ H roots
def mvT (H : List Ob) (roots : List Wd) (x : Wd) : Wd := mvW (collT H roots) x
theorem mv_zero (hG : GoodH H) (hr : ∀ x ∈ roots, 0 ≤ x.r ∧ x.r ≤ (H.length : Int)) {x : Wd} (h : x.r = 0) : (mvT H roots x).r = 0 := by
  have hq := collQ_nd hG.wf hr
  show (collT H roots).getD x.r.toNat 0 = 0
  rw [h]
  exact tosF_zero (fun r hr' => (hq.2 r hr').1) _ (Nat.le_refl _)
theorem mv_at (hG : GoodH H) (hr : ∀ x ∈ roots, 0 ≤ x.r ∧ x.r ≤ (H.length : Int)) {x : Wd} {j : Nat} (h : (collQ H roots)[j]? = some x.r) : (mvT H roots x).r = (j : Int) + 1 := by
  have hq := collQ_nd hG.wf hr
  exact tosF_at hq.1 (fun r hr' => by have := hq.2 r hr'; omega) _ (Nat.le_refl _) j x.r (List.getElem?_eq_some_iff.1 h).1 h
theorem mv_obj (hG : GoodH H) (hr : ∀ x ∈ roots, 0 ≤ x.r ∧ x.r ≤ (H.length : Int)) {x : Wd} (h : Kept H roots x) : (x.r = 0 ∧ (mvT H roots x).r = 0 ∧ objAt H x.r = none ∧ objAt (collH H roots) (mvT H roots x).r = none) ∨
    ∃ (j : Nat) (o : Ob), (collQ H roots)[j]? = some x.r ∧ (mvT H roots x).r = (j : Int) + 1 ∧ objAt H x.r = some o ∧ objAt (collH H roots) (mvT H roots x).r = some (moveO (collT H roots) (some o)) := by
  rcases h with h | h
  · have h2 := mv_zero hG hr h
    exact .inl ⟨h, h2, objAt_lt (by omega), objAt_lt (by omega)⟩
  · obtain ⟨j, hj⟩ := List.mem_iff_getElem?.1 h
    have hq := (collQ_nd hG.wf hr).2 _ h
    obtain ⟨i, o, h1, h2, h3, h4⟩ := objAt_in hq.1 hq.2
    have h5 := mv_at hG hr hj
    refine .inr ⟨j, o, hj, h5, h4, ?_⟩
    rw [h5]
    unfold objAt collH
    rw [if_pos (by omega), show ((j : Int) + 1 - 1).toNat = j by omega, List.getElem?_map, hj]
    simp only [Option.map_some, h4]
theorem mv_right (hG : GoodH H) (hr : ∀ x ∈ roots, 0 ≤ x.r ∧ x.r ≤ (H.length : Int)) {x : Wd} (h : Kept H roots x) : rightW (collH H roots) (mvT H roots x) = rightW H x := by
  have hk : (mvT H roots x).k = x.k := rfl
  have hn : (mvT H roots x).n = x.n := rfl
  rcases mv_obj hG hr h with ⟨h1, h2, h3, h4⟩ | ⟨j, o, h1, h2, h3, h4⟩
  · unfold rightW
    rw [hk, hn, h2, h1]
    rw [h2] at h4; rw [h1] at h3
    rw [h3, h4]
  · have hx : x.r ≠ 0 := by
      have := ((collQ_nd hG.wf hr).2 _ (List.mem_of_getElem? h1)).1
      omega
    have hm : (mvT H roots x).r ≠ 0 := by omega
    have e0 : decide ((mvT H roots x).r = 0) = decide (x.r = 0) := by simp [hx, hm]
    have e1 : isTextO (some (moveO (collT H roots) (some o))) = isTextO (some o) := by cases o <;> rfl
    have e2 : isDataO (some (moveO (collT H roots) (some o))) = isDataO (some o) := by cases o <;> rfl
    have e3 : isArrO (some (moveO (collT H roots) (some o))) = isArrO (some o) := by cases o <;> rfl
    unfold rightW
    rw [hk, hn, h4, h3, e0, e1, e2, e3]
theorem coll_good (hG : GoodH H) (hr : ∀ x ∈ roots, 0 ≤ x.r ∧ x.r ≤ (H.length : Int)) : GoodH (collH H roots) := by
  have hq := collQ_nd hG.wf hr
  refine ⟨fun o ho x hx => ?_, fun o ho => ?_⟩
  · unfold collH at ho
    obtain ⟨r, hrm, rfl⟩ := List.mem_map.1 ho
    have h1 := hq.2 r hrm
    obtain ⟨i, o, e1, e2, e3, e4⟩ := objAt_in h1.1 h1.2
    rw [e4] at hx
    cases o with
    | text s => simp [moveO, Ob.list] at hx
    | words s l =>
      simp only [moveO, Ob.list] at hx
      obtain ⟨y, hy, rfl⟩ := List.mem_map.1 hx
      have hyk : Kept H roots y := collQ_closed hG.wf hr r hrm y (by rw [e4]; exact hy)
      have hyw := hG.w _ (objAt_mem e4) y hy
      have := mv_right hG hr hyk
      refine ⟨?_, hyw.2⟩
      show rightW (collH H roots) (mvT H roots y) = true
      rw [this]; exact hyw.1
  · unfold collH at ho
    obtain ⟨r, hrm, rfl⟩ := List.mem_map.1 ho
    have h1 := hq.2 r hrm
    obtain ⟨i, o, e1, e2, e3, e4⟩ := objAt_in h1.1 h1.2
    rw [e4]
    cases o with
    | text s => simp [moveO, Ob.list]
    | words s l =>
      simp only [moveO, Ob.list, List.length_map]
      exact hG.lim _ (objAt_mem e4)
end
end Go.Proofs.YtldeokfhipjbfaaGreatDoor
/- The plain law of collecting, last part: a second collection changes nothing. -/
set_option linter.unusedVariables false
set_option linter.unusedSimpArgs false
set_option linter.unusedSectionVars false
namespace Go.Proofs.YtldeokfhipjbfaaGreatDoor
open Go Go.Proofs.Vg Go.RowKit

section
variable {H : List Ob} {roots : List Wd}
/-- A kept number's new number. -/
def tau (H : List Ob) (roots : List Wd) (r : Int) : Int := (collT H roots).getD r.toNat 0
/-- The marks of the old heap and of the new one agree. -/
def RelS (H : List Ob) (roots : List Wd) (sn sn' : List Bool) : Prop := ∀ r ∈ collQ H roots, sn'[(tau H roots r).toNat]? = sn[r.toNat]?
theorem coll_len (hG : GoodH H) (hr : ∀ x ∈ roots, 0 ≤ x.r ∧ x.r ≤ (H.length : Int)) : (collH H roots).length = (collQ H roots).length := by unfold collH; simp
end
end Go.Proofs.YtldeokfhipjbfaaGreatDoor
/- The plain law of the acts: the heap stays right and small. -/
set_option linter.unusedVariables false
set_option linter.unusedSimpArgs false
namespace Go.Proofs.YtldeokfhipjbfaaGreatDoor
open Go Go.Proofs.Vg Go.RowKit

theorem pickF_len (l : List Wd) (of : List Int) : (pickF l of).length ≤ of.length := by unfold pickF; split <;> simp
theorem actH_good {H : List Ob} {l : List Wd} {a : ActD} (hG : GoodH H) (hv : cntV a.v ≤ 40) (hof : a.of.length ≤ 10) :
    GoodH (actH H l a) ∧ (actH H l a).length ≤ H.length + 40 ∧ (actL H l a).length ≤ l.length + 1 := by
  unfold actH actL
  split
  · refine ⟨?_, ?_, by simp⟩
    · unfold storeS
      split
      · split
        · exact (storeV_good a.v H (by assumption) (by assumption) hG (by omega)).1
        · exact hG
      · exact hG
    · unfold storeS
      split
      · split
        · have := storeV_length a.v H
          simp only; omega
        · simp
      · simp
  · split
    · refine ⟨?_, ?_, by simp⟩
      · split
        · rename_i he
          unfold makeE at he
          split at he
          · rename_i hk
            split at he
            · cases he
            · rename_i hn
              split at he
              · cases he
              · rename_i hb
                refine (mkW_good hG hk (fun h7 => ?_) (fun x hx => ?_) (by have := pickF_len l a.of; omega)).1
                · by_cases e : a.n = 0
                  · exact e
                  · exact absurd (.inr ⟨h7, e⟩) hn
                · have hb' : badArg H x = false := by
                    cases hbx : badArg H x with
                    | false => rfl
                    | true => exact absurd (List.any_eq_true.2 ⟨x, hx, hbx⟩) hb
                  simp [badArg] at hb'
                  exact ⟨hb'.1.1, hb'.1.2, hb'.2⟩
          · cases he
        · exact hG
      · split
        · have := mkW_length H a.k a.n (pickF l a.of)
          omega
        · omega
    · refine ⟨?_, ?_, by simp⟩
      · split
        · exact hG
        · exact (setH_good hG).1
      · split
        · omega
        · rw [(setH_good hG).2]; omega
/-- The acts that store, make and set. -/
def runA (s : List Ob × List Wd) (acts : List ActD) : List Ob × List Wd := acts.foldl (fun s a => if 0 ≤ a.d ∧ a.d ≤ 2 then (actH s.1 s.2 a, actL s.1 s.2 a) else s) s
end Go.Proofs.YtldeokfhipjbfaaGreatDoor
/- What the laws of chapter 36 are handed: values, words, the package's variables. -/
set_option linter.unusedVariables false
set_option linter.unusedSimpArgs false
namespace Go.Proofs.YtldeokfhipjbfaaGreatDoor
open Go Go.Proofs.Vg Go.RowKit Go.Deep Go.ChangeShapes Go.WideShapes Go.ChangeAt Go.WideElems

theorem ce24 : Tryz.prog.cellsOf 36 = 4 := by kernel_rfl
theorem ce3 : Tryz.prog.cellsOf 3 = 1 := by kernel_rfl
theorem ce2 : Tryz.prog.cellsOf 2 = 1 := by kernel_rfl
theorem ce9 : Tryz.prog.cellsOf 9 = 1 := by kernel_rfl
theorem ce22 : Tryz.prog.cellsOf 34 = 1 := by kernel_rfl
theorem by24 : 0 < Tryz.prog.bytesOf 36 := by decide +kernel
theorem vf0 : fld Tryz.prog 36 0 = some (3, 0) := by kernel_rfl
theorem vf1 : fld Tryz.prog 36 1 = some (2, 1) := by kernel_rfl
theorem vf2 : fld Tryz.prog 36 2 = some (9, 2) := by kernel_rfl
theorem vf3 : fld Tryz.prog 36 3 = some (34, 3) := by kernel_rfl
theorem own36 : ownKnob Tryz.prog.godebug = none := by kernel_rfl
theorem laid36 : laidOutB Tryz.prog = true := by kernel_rfl
section
variable {H : Type} {enc : TypeId × Value → H} {w : World} {base : Nat} {spare : Nat → Bool} {held : Bool}
theorem rd_vall : ∀ (m : Nat) (fuel : Nat) (cs : List Value) (x : DataW H × List MemPlace), SizeOf.sizeOf x.1 ≤ m → DataW.trod enc Tryz.prog w base spare held fuel 36 cs = some x → Small Tryz.prog 36 x.1 → cs.length = 4 → ∃ v, VRow w cs v := by
  intro m
  induction m with
  | zero =>
    intro fuel cs x hm
    have : 0 < SizeOf.sizeOf x.1 := by cases x.1 <;> simp <;> omega
    omega
  | succ m ih =>
    intro fuel cs x hm h hs hl
    match cs, hl with
    | [r0, r1, r2, r3], _ =>
      obtain ⟨n0, y0, k0, _, _⟩ := rd_fld' vf0 h hs
      obtain ⟨n1, y1, k1, _, _⟩ := rd_fld' vf1 h hs
      obtain ⟨n2, y2, k2, _, _⟩ := rd_fld' vf2 h hs
      obtain ⟨n3, y3, k3, s3, z3⟩ := rd_fld' vf3 h hs
      rw [ce3] at k0
      rw [ce2] at k1
      rw [ce9] at k2
      rw [ce22] at k3
      obtain ⟨k, e0, _⟩ := DataW.trod_int Fx.un3 k0
      obtain ⟨n, e1, _⟩ := DataW.trod_int Fx.un2 k1
      obtain ⟨t, e2, _⟩ := DataW.trod_string Fx.un9 k2
      obtain ⟨v, rows, e3, hsl, h1, h2, hr⟩ := rd_slice' Fx.un34 ce24 (by decide) by24 k3 s3
      simp at e0 e1 e2 e3
      subst e0 e1 e2 e3
      have : ∃ args, VRows w rows args := by
        clear hsl
        induction rows with
        | nil => exact ⟨[], by simp only [VRows]⟩
        | cons r rows ihr =>
          obtain ⟨args, ha⟩ := ihr (fun i row hi => hr (i + 1) row (by simpa using hi))
          obtain ⟨hl0, f, y, hy, hsy, hzy⟩ := hr 0 r rfl
          obtain ⟨a, ha0⟩ := ih f r y (by omega) hy hsy hl0
          exact ⟨a :: args, by simp only [VRows]; exact ⟨ha0, ha⟩⟩
      obtain ⟨args, ha⟩ := this
      exact ⟨.mk k n t args, by simp only [VRow]; exact ⟨_, rfl, h1, h2, rows, hsl, ha⟩⟩
end

theorem gKinds : Tryz.prog.globalNamed "cinnabar/heap.kinds" = some 1 := by kernel_rfl
theorem gRanks : Tryz.prog.globalNamed "cinnabar/heap.ranks" = some 0 := by kernel_rfl
theorem tKinds : (Tryz.prog.globals[1]?).map (·.type) = some 137 := by kernel_rfl
theorem tRanks : (Tryz.prog.globals[0]?).map (·.type) = some 132 := by kernel_rfl
theorem Fx.un132 : Tryz.prog.underlying 132 = some (.array 10 3) := by kernel_rfl
theorem ce87 : Tryz.prog.cellsOf 132 = 10 := by kernel_rfl
def laid2 {H : Type} : List (String × DataW H) := [("cinnabar/heap.kinds", Rows.laid_cinnabar_heap_kinds), ("cinnabar/heap.ranks", Rows.laid_cinnabar_heap_ranks)]

theorem mem_ins {H : Type} {y : Lit × DataW H} : ∀ (l : List (Lit × DataW H)), y ∈ l.foldr DataW.insert [] ↔ y ∈ l
  | [] => by simp
  | x :: l => by simp only [List.foldr_cons, ChangeMaps.mem_insert_iff, mem_ins l, List.mem_cons]
theorem key_int {v : Value} {n : Int} (h : keyOf Tryz.prog 3 v = some (.int .i64 n)) : v = .int .i64 n := by
  unfold keyOf at h
  rw [Fx.un3] at h
  simp only [mapKey, Fx.un3] at h
  cases v <;> simp at h
  obtain ⟨⟨h1, _⟩, h2⟩ := h
  subst h1; subst h2; rfl
theorem of_laid {W : World} (h : laidMetH Tryz.prog laid2 W) : ∃ mk, Glob W mk := by
  rw [MakeChecks.laidMetH_plain _ _ _ (by kernel_rfl)] at h
  obtain ⟨ps, ⟨g0, t0, cs0, f0, p0, q0, hg0, ht0, hv0, hd0, ⟨g1, t1, cs1, f1, p1, q1, hg1, ht1, hv1, hd1, _, _⟩, _⟩, _, _⟩ := h
  obtain rfl := Option.some.inj (gKinds.symm.trans hg0)
  obtain rfl := Option.some.inj (gRanks.symm.trans hg1)
  obtain rfl := Option.some.inj (tKinds.symm.trans ht0)
  obtain rfl := Option.some.inj (tRanks.symm.trans ht1)
  rcases WideElems.open_map Fx.un137 hd0 with ⟨_, hx⟩ | ⟨bm, es, clock, m, rfl, hcs, hb, _, F, hx⟩
  · simp [Rows.laid_cinnabar_heap_kinds] at hx
  simp only [Prod.mk.injEq] at hx
  have hcell : W.cell? ⟨1, 0, none⟩ = some (.map (some bm)) := by
    have := World.var?_cell hg0 hv0 0
    rw [Array.eq_one_of_toList hcs] at this
    simpa using this
  have hR := Lib.cells_of_tab (k := .i64) (zs := [0, 1, 2, 3, 4, 5, 6, 7, 8, 0]) Fx.un132 Fx.un3 ce3 ce87 hd1
  have hel : ∀ v z, elemAt (fun (_ : TypeId × Value) => ()) Tryz.prog W 0 (fun _ => true) false m 3 v = some z → ∃ a, v = .int .i64 a ∧ z = (.lit (.int .i64 a), []) := fun v z hz => by
    obtain ⟨a, h1, h2, _⟩ := WideElems.elemAt_int Fx.un3 hz
    exact ⟨a, h1, h2⟩
  generalize elemAt (fun (_ : TypeId × Value) => ()) Tryz.prog W 0 (fun _ => true) false m 3 = R at F hx hel
  have hL : ([(.int .i64 1, .lit (.int .i64 1)), (.int .i64 2, .lit (.int .i64 2)), (.int .i64 3, .lit (.int .i64 3)), (.int .i64 4, .lit (.int .i64 4)), (.int .i64 5, .lit (.int .i64 5)), (.int .i64 6, .lit (.int .i64 6)), (.int .i64 7, .lit (.int .i64 7)), (.int .i64 8, .lit (.int .i64 8))] : List (Lit × DataW Unit)) = (es.toList.map (rg Tryz.prog 3 R)).foldr DataW.insert [] := by
    have h0 := hx.1
    unfold Rows.laid_cinnabar_heap_kinds at h0
    exact DataW.map.inj h0
  have hmem : ∀ y, y ∈ ([(.int .i64 1, .lit (.int .i64 1)), (.int .i64 2, .lit (.int .i64 2)), (.int .i64 3, .lit (.int .i64 3)), (.int .i64 4, .lit (.int .i64 4)), (.int .i64 5, .lit (.int .i64 5)), (.int .i64 6, .lit (.int .i64 6)), (.int .i64 7, .lit (.int .i64 7)), (.int .i64 8, .lit (.int .i64 8))] : List (Lit × DataW Unit)) ↔ ∃ e ∈ es.toList, rg Tryz.prog 3 R e = y := fun y => by
    rw [hL, mem_ins, List.mem_map]
  have hent : ∀ e ∈ es.toList, ∃ n v, e.key = .int .i64 n ∧ e.val = .int .i64 v ∧ rg Tryz.prog 3 R e = (.int .i64 n, .lit (.int .i64 v)) := fun e he => by
    obtain ⟨y, hy⟩ := F.reads e he
    obtain ⟨z, hz, h2⟩ := WideElems.rd_val hy
    obtain ⟨a, h3, h4⟩ := hel _ _ hz
    have h1 := rd_key hy
    have hrg := rg_of hy
    have hy1 : y ∈ ([(.int .i64 1, .lit (.int .i64 1)), (.int .i64 2, .lit (.int .i64 2)), (.int .i64 3, .lit (.int .i64 3)), (.int .i64 4, .lit (.int .i64 4)), (.int .i64 5, .lit (.int .i64 5)), (.int .i64 6, .lit (.int .i64 6)), (.int .i64 7, .lit (.int .i64 7)), (.int .i64 8, .lit (.int .i64 8))] : List (Lit × DataW Unit)) := (hmem y).2 ⟨e, he, hrg⟩
    obtain ⟨y1, y2⟩ := y
    have hk : ∃ n, y1 = .int .i64 n := by
      simp only [List.mem_cons, Prod.mk.injEq, List.not_mem_nil, or_false] at hy1
      rcases hy1 with ⟨h, _⟩ | ⟨h, _⟩ | ⟨h, _⟩ | ⟨h, _⟩ | ⟨h, _⟩ | ⟨h, _⟩ | ⟨h, _⟩ | ⟨h, _⟩ <;> exact ⟨_, h⟩
    obtain ⟨n, rfl⟩ := hk
    refine ⟨n, a, key_int h1, h3, ?_⟩
    have h2' : y2 = z.1 := h2
    rw [hrg, h2', h4]
  refine ⟨bm, hcell, ⟨es, clock, hb, fun e he => ?_, fun n v hn => ?_⟩, fun j u hj => ?_⟩
  · obtain ⟨n, v, h1, h2, h3⟩ := hent e he
    have h4 := (hmem _).2 ⟨e, he, h3⟩
    refine ⟨n, h1, ?_⟩
    rw [h2]
    simp only [List.mem_cons, Prod.mk.injEq, Lit.int.injEq, DataW.lit.injEq, List.not_mem_nil, or_false, true_and] at h4
    rcases h4 with ⟨rfl, rfl⟩ | ⟨rfl, rfl⟩ | ⟨rfl, rfl⟩ | ⟨rfl, rfl⟩ | ⟨rfl, rfl⟩ | ⟨rfl, rfl⟩ | ⟨rfl, rfl⟩ | ⟨rfl, rfl⟩ <;> rfl
  · unfold kindF at hn
    split at hn
    · rename_i h1
      have h2 : ((.int .i64 n, .lit (.int .i64 n)) : Lit × DataW Unit) ∈ ([(.int .i64 1, .lit (.int .i64 1)), (.int .i64 2, .lit (.int .i64 2)), (.int .i64 3, .lit (.int .i64 3)), (.int .i64 4, .lit (.int .i64 4)), (.int .i64 5, .lit (.int .i64 5)), (.int .i64 6, .lit (.int .i64 6)), (.int .i64 7, .lit (.int .i64 7)), (.int .i64 8, .lit (.int .i64 8))] : List (Lit × DataW Unit)) := by
        have : n = 1 ∨ n = 2 ∨ n = 3 ∨ n = 4 ∨ n = 5 ∨ n = 6 ∨ n = 7 ∨ n = 8 := by omega
        rcases this with rfl | rfl | rfl | rfl | rfl | rfl | rfl | rfl <;> simp
      obtain ⟨e, he, h3⟩ := (hmem _).1 h2
      obtain ⟨n', v', h4, h5, h6⟩ := hent e he
      rw [h6] at h3
      simp only [Prod.mk.injEq, Lit.int.injEq, true_and] at h3
      exact ⟨e, he, by rw [h4, h3.1]⟩
    · cases hn
  · have h1 : cs1 = rankL.toArray := by
      have h2 : cs1.toList = rankL := by rw [hR]; rfl
      rw [← h2]
    subst h1
    have := World.var?_cell hg1 hv1 j
    rw [add_at, Nat.zero_add, this]
    simpa using hj
end Go.Proofs.YtldeokfhipjbfaaGreatDoor
/- Reading of the acts. -/
set_option linter.unusedVariables false
set_option linter.unusedSimpArgs false
namespace Go.Proofs.YtldeokfhipjbfaaGreatDoor
open Go Go.Proofs.Vg Go.RowKit Go.Deep Go.ChangeShapes Go.WideShapes Go.ChangeAt Go.WideElems
theorem ce40 : Tryz.prog.cellsOf 40 = 11 := by kernel_rfl
theorem ce33 : Tryz.prog.cellsOf 33 = 1 := by kernel_rfl
theorem ce38 : Tryz.prog.cellsOf 38 = 3 := by kernel_rfl
theorem by40 : 0 < Tryz.prog.bytesOf 40 := by decide +kernel
theorem by3 : 0 < Tryz.prog.bytesOf 3 := by decide +kernel
theorem af0 : fld Tryz.prog 40 0 = some (3, 0) := by kernel_rfl
theorem af1 : fld Tryz.prog 40 1 = some (3, 1) := by kernel_rfl
theorem af2 : fld Tryz.prog 40 2 = some (2, 2) := by kernel_rfl
theorem af3 : fld Tryz.prog 40 3 = some (33, 3) := by kernel_rfl
theorem af4 : fld Tryz.prog 40 4 = some (36, 4) := by kernel_rfl
theorem af5 : fld Tryz.prog 40 5 = some (38, 8) := by kernel_rfl
theorem wf0 : fld Tryz.prog 38 0 = some (3, 0) := by kernel_rfl
theorem wf1 : fld Tryz.prog 38 1 = some (2, 1) := by kernel_rfl
theorem wf2 : fld Tryz.prog 38 2 = some (3, 2) := by kernel_rfl
theorem rr22 : Tryz.prog.readableRec 22 = true := by kernel_rfl
theorem SlI.toS {w : World} {v : Value} {xs : List Int} (h : SlI w v xs) : SliS w (fun k => k < w.heap.size) 1 v (ints xs) := by
  obtain ⟨A, c, h1, h2, h3⟩ := h
  refine ⟨A, c, h1, h2, fun j row hj => ?_⟩
  obtain ⟨b, o, h4, h5⟩ := h3 j row hj
  refine ⟨b, o, h4, ?_, h5⟩
  have hjl := (List.getElem?_eq_some_iff.1 hj).1
  simp only [ints, List.getElem?_map] at hj
  obtain ⟨n, -, rfl⟩ := Option.map_eq_some_iff.1 hj
  have := World.block_lt_of_cell? w _ (h5 0 _ rfl)
  simpa [add_at] using this
section
variable {H : Type} {enc : TypeId × Value → H} {w : World} {base : Nat} {spare : Nat → Bool} {held : Bool}
theorem rd_act {fuel : Nat} {cs : List Value} {x : DataW H × List MemPlace} (h : DataW.trod enc Tryz.prog w base spare held fuel 40 cs = some x) (hs : Small Tryz.prog 40 x.1) (hl : cs.length = 11) : ∃ a, ActR w (fun k => k < w.heap.size) cs a := by
  match cs, hl with
  | [r0, r1, r2, r3, r4, r5, r6, r7, r8, r9, r10], _ =>
    obtain ⟨n0, y0, k0, _, _⟩ := rd_fld' af0 h hs
    obtain ⟨n1, y1, k1, _, _⟩ := rd_fld' af1 h hs
    obtain ⟨n2, y2, k2, _, _⟩ := rd_fld' af2 h hs
    obtain ⟨n3, y3, k3, s3, _⟩ := rd_fld' af3 h hs
    obtain ⟨n4, y4, k4, s4, _⟩ := rd_fld' af4 h hs
    obtain ⟨n5, y5, k5, s5, _⟩ := rd_fld' af5 h hs
    rw [ce3] at k0 k1
    rw [ce2] at k2
    rw [ce33] at k3
    rw [ce24] at k4
    rw [ce38] at k5
    obtain ⟨d, e0, _⟩ := DataW.trod_int Fx.un3 k0
    obtain ⟨k, e1, _⟩ := DataW.trod_int Fx.un3 k1
    obtain ⟨n, e2, _⟩ := DataW.trod_int Fx.un2 k2
    obtain ⟨v3, of, e3, sl, q1, q2⟩ := rd_ints Fx.un33 Fx.un3 ce3 by3 k3 s3
    simp at e0 e1 e2 e3
    subst e0 e1 e2 e3
    obtain ⟨v, hv⟩ := rd_vall _ _ [r4, r5, r6, r7] _ (Nat.le_refl _) (by simpa using k4) s4 rfl
    have k5' : DataW.trod enc Tryz.prog w base spare held n5 38 [r8, r9, r10] = some y5 := by simpa using k5
    obtain ⟨m0, z0, j0, _, _⟩ := rd_fld' wf0 k5' s5
    obtain ⟨m1, z1, j1, _, _⟩ := rd_fld' wf1 k5' s5
    obtain ⟨m2, z2', j2, _, _⟩ := rd_fld' wf2 k5' s5
    rw [ce3] at j0 j2
    rw [ce2] at j1
    obtain ⟨a, e8, _⟩ := DataW.trod_int Fx.un3 j0
    obtain ⟨b, e9, _⟩ := DataW.trod_int Fx.un2 j1
    obtain ⟨c, e10, _⟩ := DataW.trod_int Fx.un3 j2
    simp at e8 e9 e10
    subst e8 e9 e10
    exact ⟨⟨d, k, n, of, v, ⟨a, b, c⟩⟩, _, [r4, r5, r6, r7], rfl, q1, SlI.toS sl, VRow.toS _ _ hv⟩
theorem rd_acts {fuel : Nat} {cs : List Value} {x : DataW H × List MemPlace} (h : DataW.trod enc Tryz.prog w base spare held fuel 22 cs = some x) (hs : Small Tryz.prog 22 x.1) : ∃ v acts, cs = [v] ∧ ActsR w (fun k => k < w.heap.size) v acts := by
  obtain ⟨v, rows, e3, hsl, h1, h2, hr⟩ := rd_slice' Fx.un22 ce40 (by decide) by40 h hs
  have key : ∀ rows : List (List Value), (∀ (i : Nat) (row : List Value), rows[i]? = some row → ∃ a, ActR w (fun k => k < w.heap.size) row a) → ∃ acts : List ActD, acts.length = rows.length ∧ ∀ (i : Nat) (row : List Value) (a : ActD), rows[i]? = some row → acts[i]? = some a → ActR w (fun k => k < w.heap.size) row a := by
    intro rows
    induction rows with
    | nil => intro _; exact ⟨[], rfl, fun i row a h => by simp at h⟩
    | cons r rows ih =>
      intro hh
      obtain ⟨a, ha⟩ := hh 0 r rfl
      obtain ⟨acts, h1, h2⟩ := ih (fun i row hi => hh (i + 1) row (by simpa using hi))
      refine ⟨a :: acts, by simp [h1], fun i row b hi hb => ?_⟩
      cases i with
      | zero => simp at hi hb; subst hi; subst hb; exact ha
      | succ i => exact h2 i row b (by simpa using hi) (by simpa using hb)
  obtain ⟨acts, g1, g2⟩ := key rows (fun i row hi => by
    obtain ⟨hl0, f, y, hy, hsy, _⟩ := hr i row hi
    exact rd_act hy hsy hl0)
  obtain ⟨A, c, rfl, hlen, hcell⟩ := hsl
  refine ⟨_, acts, e3, A, c, by rw [g1], by omega, fun j a ha => ?_⟩
  have hjl : j < rows.length := by have := (List.getElem?_eq_some_iff.1 ha).1; omega
  have hrow : rows[j]? = some rows[j] := List.getElem?_eq_getElem hjl
  obtain ⟨b, o, h4, h5⟩ := hcell j _ hrow
  have hA := g2 j _ a hrow ha
  refine ⟨b, o, rows[j], h4, ?_, h5, hA⟩
  have h11 := hA.len
  have := World.block_lt_of_cell? w _ (h5 0 (rows[j][0]'(by omega)) (List.getElem?_eq_getElem _))
  simpa [add_at] using this
end
end Go.Proofs.YtldeokfhipjbfaaGreatDoor
/- The program's heap: Args, String, whatever the word. -/
set_option linter.unusedVariables false
set_option linter.unusedSimpArgs false
namespace Go.Proofs.YtldeokfhipjbfaaGreatDoor
open Go Go.Proofs.Vg Go.RowKit
def argsE (H : List Ob) (x : Wd) : Int := if rightW H x = true then if x.k = 4 ∨ x.k = 5 ∨ x.k = 6 ∨ x.k = 7 then 0 else 3 else 2
def argsR (H : List Ob) (x : Wd) : List Wd := if argsE H x = 0 then argsOf H x else []
def strE (H : List Ob) (x : Wd) : Int := if rightW H x = true then if x.k = 3 then 0 else 3 else 2
def strO : Option Ob → ByteArray
  | some o => obStr o
  | none => ⟨#[]⟩
def strR (H : List Ob) (x : Wd) : ByteArray := if strE H x = 0 then strO (objAt H x.r) else ⟨#[]⟩
theorem SlW.nil (w : World) : SlW w (.slice none 0 0) [] := ⟨none, 0, rfl, by simp, fun j row hj => by simp at hj⟩

-- -- function 34
set_option maxHeartbeats 4000000 in
set_option maxRecDepth 8000 in
theorem ArgsW_ok (w : World) (hb rb : Nat) (H : List Ob) (F : Nat → Prop) (hH : HeapW w hb rb H F) (hl : H.length ≤ 1073741824) (hLim : LimH H) (x : Wd) :
    Rets Tryz.prog 34 [ptrOf hb, wv x] w (fun v w' => ∃ A c, v = .tuple #[.slice A (argsR H x).length c, .int .i64 (argsE H x)] ∧ SlW w' (.slice A (argsR H x).length c) (argsR H x) ∧ Ext w w') := by
  have bad : ∀ e, argsE H x = e → e ≠ 0 → ∀ w', Ext w w' → ∃ A c, Value.tuple #[.slice none 0 0, .int .i64 e] = .tuple #[.slice A (argsR H x).length c, .int .i64 (argsE H x)] ∧ SlW w' (.slice A (argsR H x).length c) (argsR H x) ∧ Ext w w' := by
    intro e he hne w' hx
    have : argsR H x = [] := by unfold argsR; rw [if_neg (by rw [he]; exact hne)]
    rw [this, he]
    exact ⟨none, 0, rfl, SlW.nil w', hx⟩
  refine rets_of_ok Tryz.func34 rfl rfl ?_
  refine ok_seq (fun M hM => ok_region rfl ?_)
  (try revert X); refine t34 ?_; intro X hX
  refine Runs.box (fun w1 he1 hz1 hb1 => ?_)
  generalize hB1 : w.heap.size = B1 at hz1 hb1
  simp only [Value.cells] at hb1
  (try revert X); refine t34 ?_; intro X hX
  refine hM _ _ _ ?_; clear hM M
  refine ok_join [(0, ptrOf hb), (3, ptrOf B1)] (fun w' => Ext w1 w' ∧ rightW H x = true ∧ (x.k = 4 ∨ x.k = 5 ∨ x.k = 6 ∨ x.k = 7)) ?_ ?_
  · refine ok_block ?_
    refine ok_seq (fun M hM => ok_region rfl ?_)
    (try revert X); refine t34 ?_; intro X hX
    refine Runs.ptrEq Fx.un25 ?_
    (try revert X); refine t34 ?_; intro X hX
    refine hM _ _ _ ?_; clear hM M
    refine ok_cond rfl (fun h => by cases h) (fun _ => ?_)
    refine ok_seq (fun M hM => ok_region rfl ?_)
    (try revert X); refine t34 ?_; intro X hX
    refine ⟨x.row, rfl, hb1.cells (o := 0) (fun j u hj => by simpa using hj), ?_⟩
    (try revert X); refine t34 ?_; intro X hX
    refine Inv.call Fx.en12 (right_ok w1 hb rb H F (hH.ext he1) hl x) ?_
    rintro v w2 ⟨rfl, he2⟩
    (try revert X); refine t34 ?_; intro X hX
    refine hM _ _ _ ?_; clear hM M
    cases hr : rightW H x with
    | false =>
      refine ok_cond (b := true) rfl (fun _ => ?_) (fun h => by cases h)
      refine ok_seq (fun M hM => ok_region rfl ?_); (try revert X); refine t34 ?_; intro X hX
      refine hM _ _ _ ?_; clear hM M
      refine ok_ret ?_
      try simp only [zW, zU, reduceIte, Nat.reduceEqDiff, Nat.reduceAdd, reduceCtorEq, Q34]
      exact bad 2 (by unfold argsE; rw [if_neg (by rw [hr]; decide)]) (by decide) _ (he1.trans he2)
    | true =>
      refine ok_cond (b := false) rfl (fun h => by cases h) (fun _ => ?_)
      have hk0 : w2.cell? ⟨B1, 0, none⟩ = some (.int .i64 x.k) := (hb1.ext he2).cell (j := 0) (u := .int .i64 x.k) rfl
      have fin : (x.k = 4 ∨ x.k = 5 ∨ x.k = 6 ∨ x.k = 7) → Ext w1 w2 := fun _ => he2
      refine ok_join [(0, ptrOf hb), (3, ptrOf B1), (14, .bool (!decide (x.k = 4 ∨ x.k = 5 ∨ x.k = 6 ∨ x.k = 7)))] (fun w' => w' = w2) ?_ ?_
      · refine ok_region rfl ?_
        (try revert X); refine t34 ?_; intro X hX
        refine ⟨_, hk0, ?_⟩
        (try revert X); refine t34 ?_; intro X hX
        by_cases h4 : x.k = 4
        · simp only [h4, decide_true, Bool.not_true]
          (try revert X); refine t34 ?_; intro X hX
          refine ⟨fun h => (by cases h), fun _ => ?_⟩
          (try revert X); refine t34 ?_; intro X hX
          simp [sub, Env.get, h4]
        simp only [h4, decide_false, Bool.not_false]
        (try revert X); refine t34 ?_; intro X hX
        refine ⟨fun _ => ?_, fun h => (by cases h)⟩
        (try revert X); refine t34 ?_; intro X hX
        refine ⟨_, hk0, ?_⟩
        (try revert X); refine t34 ?_; intro X hX
        by_cases h5 : x.k = 5
        · simp only [h5, decide_true, Bool.not_true]
          (try revert X); refine t34 ?_; intro X hX
          refine ⟨fun h => (by cases h), fun _ => ?_⟩
          (try revert X); refine t34 ?_; intro X hX
          simp [sub, Env.get, h5]
        simp only [h5, decide_false, Bool.not_false]
        (try revert X); refine t34 ?_; intro X hX
        refine ⟨fun _ => ?_, fun h => (by cases h)⟩
        (try revert X); refine t34 ?_; intro X hX
        refine ⟨_, hk0, ?_⟩
        (try revert X); refine t34 ?_; intro X hX
        by_cases h6 : x.k = 6
        · simp only [h6, decide_true, Bool.not_true]
          (try revert X); refine t34 ?_; intro X hX
          refine ⟨fun h => (by cases h), fun _ => ?_⟩
          (try revert X); refine t34 ?_; intro X hX
          simp [sub, Env.get, h6]
        simp only [h6, decide_false, Bool.not_false]
        (try revert X); refine t34 ?_; intro X hX
        refine ⟨fun _ => ?_, fun h => (by cases h)⟩
        (try revert X); refine t34 ?_; intro X hX
        refine ⟨_, hk0, ?_⟩
        (try revert X); refine t34 ?_; intro X hX
        simp [sub, Env.get, h4, h5, h6]
      rintro w' rfl
      by_cases hk : x.k = 4 ∨ x.k = 5 ∨ x.k = 6 ∨ x.k = 7
      · refine ok_cond (b := false) (by simp [ev, Env.get, hk]) (fun h => by cases h) (fun _ => ok_skip ?_)
        try simp only [zW, zU, reduceIte, Nat.reduceEqDiff, Nat.reduceAdd, reduceCtorEq, Q34]
        refine ⟨by simp [sub, Env.get], ?_⟩
        first | exact ⟨he2, hr, hk⟩ | exact ⟨he2, hk⟩
      · refine ok_cond (b := true) (by simp [ev, Env.get, hk]) (fun _ => ?_) (fun h => by cases h)
        refine ok_seq (fun M hM => ok_region rfl ?_); (try revert X); refine t34 ?_; intro X hX
        refine hM _ _ _ ?_; clear hM M
        refine ok_ret ?_
        exact ⟨rfl, bad 3 (by unfold argsE; rw [if_pos hr, if_neg hk]) (by decide) _ (he1.trans he2)⟩
  rintro w2 ⟨he2, hr, hk⟩
  have he02 := he1.trans he2
  have hE : argsE H x = 0 := by unfold argsE; rw [if_pos hr, if_pos hk]
  have hR : argsR H x = argsOf H x := by unfold argsR; rw [if_pos hE]
  rw [hE, hR]
  refine ok_seq (fun M hM => ok_region rfl ?_)
  (try revert X); refine t34 ?_; intro X hX
  refine ⟨x.row, rfl, (hb1.ext he2).cells (o := 0) (fun j u hj => by simpa using hj), ?_⟩
  (try revert X); refine t34 ?_; intro X hX
  refine Inv.call Fx.en79 (args_ok w2 hb rb H F (hH.ext he02) hl x) ?_
  rintro v w3 ⟨⟨A, c, rfl⟩, hsl, he3, -⟩
  (try revert X); refine t34 ?_; intro X hX
  have hal := hLim.args x
  refine Inv.call Fx.en78 (clone_ok w3 _ (argsOf H x) (hsl.ext he3) (by omega)) ?_
  rintro v w4 ⟨⟨A4, c4, rfl⟩, ⟨g, hWL, -⟩, he4⟩
  (try revert X); refine t34 ?_; intro X hX
  refine hM _ _ _ ?_; clear hM M
  refine ok_ret ?_
  try simp only [zW, zU, reduceIte, Nat.reduceEqDiff, Nat.reduceAdd, reduceCtorEq, Q34]
  exact ⟨A4, c4, rfl, hWL.sli, he02.trans (he3.trans he4)⟩

-- -- function 36
set_option maxHeartbeats 4000000 in
set_option maxRecDepth 8000 in
theorem StringW_ok (w : World) (hb rb : Nat) (H : List Ob) (F : Nat → Prop) (hH : HeapW w hb rb H F) (hl : H.length ≤ 1073741824) (x : Wd) :
    Rets Tryz.prog 36 [ptrOf hb, wv x] w (fun v w' => v = .tuple #[.string (strR H x), .int .i64 (strE H x)] ∧ Ext w w') := by
  have bad : ∀ e, strE H x = e → e ≠ 0 → ∀ w', Ext w w' → Value.tuple #[.string ⟨#[]⟩, .int .i64 e] = .tuple #[.string (strR H x), .int .i64 (strE H x)] ∧ Ext w w' := by
    intro e he hne w' hx
    have : strR H x = ⟨#[]⟩ := by unfold strR; rw [if_neg (by rw [he]; exact hne)]
    rw [this, he]
    exact ⟨rfl, hx⟩
  refine rets_of_ok Tryz.func36 rfl rfl ?_
  refine ok_seq (fun M hM => ok_region rfl ?_)
  (try revert X); refine t36 ?_; intro X hX
  refine Runs.box (fun w1 he1 hz1 hb1 => ?_)
  generalize hB1 : w.heap.size = B1 at hz1 hb1
  simp only [Value.cells] at hb1
  (try revert X); refine t36 ?_; intro X hX
  refine hM _ _ _ ?_; clear hM M
  refine ok_join [(0, ptrOf hb), (3, ptrOf B1)] (fun w' => Ext w1 w' ∧ rightW H x = true ∧ x.k = 3) ?_ ?_
  · refine ok_block ?_
    refine ok_seq (fun M hM => ok_region rfl ?_)
    (try revert X); refine t36 ?_; intro X hX
    refine Runs.ptrEq Fx.un25 ?_
    (try revert X); refine t36 ?_; intro X hX
    refine hM _ _ _ ?_; clear hM M
    refine ok_cond rfl (fun h => by cases h) (fun _ => ?_)
    refine ok_seq (fun M hM => ok_region rfl ?_)
    (try revert X); refine t36 ?_; intro X hX
    refine ⟨x.row, rfl, hb1.cells (o := 0) (fun j u hj => by simpa using hj), ?_⟩
    (try revert X); refine t36 ?_; intro X hX
    refine Inv.call Fx.en12 (right_ok w1 hb rb H F (hH.ext he1) hl x) ?_
    rintro v w2 ⟨rfl, he2⟩
    (try revert X); refine t36 ?_; intro X hX
    refine hM _ _ _ ?_; clear hM M
    cases hr : rightW H x with
    | false =>
      refine ok_cond (b := true) rfl (fun _ => ?_) (fun h => by cases h)
      refine ok_seq (fun M hM => ok_region rfl ?_); (try revert X); refine t36 ?_; intro X hX
      refine hM _ _ _ ?_; clear hM M
      refine ok_ret ?_
      try simp only [zW, zU, reduceIte, Nat.reduceEqDiff, Nat.reduceAdd, reduceCtorEq, Q36]
      exact bad 2 (by unfold strE; rw [if_neg (by rw [hr]; decide)]) (by decide) _ (he1.trans he2)
    | true =>
      refine ok_cond (b := false) rfl (fun h => by cases h) (fun _ => ?_)
      have hk0 : w2.cell? ⟨B1, 0, none⟩ = some (.int .i64 x.k) := (hb1.ext he2).cell (j := 0) (u := .int .i64 x.k) rfl
      refine ok_seq (fun M hM => ok_region rfl ?_)
      (try revert X); refine t36 ?_; intro X hX
      refine ⟨_, hk0, ?_⟩
      (try revert X); refine t36 ?_; intro X hX
      refine hM _ _ _ ?_; clear hM M
      refine ok_ifn rfl (fun h3 => ?_) (fun h3 => ok_skip ?_)
      · refine ok_seq (fun M hM => ok_region rfl ?_); (try revert X); refine t36 ?_; intro X hX
        refine hM _ _ _ ?_; clear hM M
        refine ok_ret ?_
        try simp only [zW, zU, reduceIte, Nat.reduceEqDiff, Nat.reduceAdd, reduceCtorEq, Q36]
        exact bad 3 (by unfold strE; rw [if_pos hr, if_neg h3]) (by decide) _ (he1.trans he2)
      · try simp only [zW, zU, reduceIte, Nat.reduceEqDiff, Nat.reduceAdd, reduceCtorEq, Q36]
        refine ⟨by simp [sub, Env.get], ?_⟩
        first | exact ⟨he2, hr, h3⟩ | exact ⟨he2, h3⟩
  rintro w2 ⟨he2, hr, hk⟩
  have he02 := he1.trans he2
  have hE : strE H x = 0 := by unfold strE; rw [if_pos hr, if_pos hk]
  have hR : strR H x = strO (objAt H x.r) := by unfold strR; rw [if_pos hE]
  rw [hE, hR]
  obtain ⟨vs, ps, gs, hR0, hf, -⟩ := hH
  have hRR := hR0.ext he02
  have htx : isTextO (objAt H x.r) = true := by
    unfold rightW at hr
    simp [hk] at hr
    exact hr.2
  refine ok_seq (fun M hM => ok_region rfl ?_)
  (try revert X); refine t36 ?_; intro X hX
  refine ⟨_, (hb1.ext he2).cell (j := 2) rfl, ?_⟩
  (try revert X); refine t36 ?_; intro X hX
  refine Inv.call Fx.en57 (object_ok w2 hb rb vs ps gs H hRR hl x.r) ?_
  rintro v w3 ⟨rfl, ⟨h1, -⟩ | ⟨i, p, g, o, ho, hri, hi, hp, hg, rfl⟩⟩
  · rw [h1] at htx; cases htx
  rw [ho] at htx
  cases o with
  | words s l => cases htx
  | text s =>
    have hob : ObW w3 p g (.text s) := hRR.obj i p g _ hp hg hi
    (try revert X); refine t36 ?_; intro X hX
    refine ⟨_, Blk.cell hob (j := 1) rfl, ?_⟩
    (try revert X); refine t36 ?_; intro X hX
    refine hM _ _ _ ?_; clear hM M
    refine ok_ret ?_
    try simp only [zW, zU, reduceIte, Nat.reduceEqDiff, Nat.reduceAdd, reduceCtorEq, Q36]
    rw [ho]
    exact ⟨rfl, he02⟩
end Go.Proofs.YtldeokfhipjbfaaGreatDoor
/- Comparisons: of numbers, of strings. -/
set_option linter.unusedVariables false
set_option linter.unusedSimpArgs false
namespace Go.Proofs.Vg
open Go Go.RowKit
def cmpI (a b : Int) : Int := if a < b then -1 else if b < a then 1 else 0
def cmpT (s t : ByteArray) : Int := Lib.compareBytes s.data.toList t.data.toList
theorem bytes_less : ∀ (x y : List UInt8), (Lib.compareBytes x y = if Op.bytesLess x y = true then -1 else if (!(Op.bytesLess x y || x == y)) = true then 1 else 0)
  | [], [] => by simp [Lib.compareBytes, Op.bytesLess]
  | [], _ :: _ => by simp [Lib.compareBytes, Op.bytesLess]
  | _ :: _, [] => by simp [Lib.compareBytes, Op.bytesLess]
  | a :: x, b :: y => by
    have ih := bytes_less x y
    simp only [Lib.compareBytes, Op.bytesLess]
    by_cases h1 : a < b
    · simp [h1]
    by_cases h2 : b < a
    · have hne : ¬ a = b := fun e => by subst e; exact absurd h2 h1
      simp [h1, h2, hne]
    have he : a = b := by
      have g1 : ¬ a.toNat < b.toNat := h1
      have g2 : ¬ b.toNat < a.toNat := h2
      exact UInt8.toNat_inj.1 (by omega)
    subst he
    simp only [h1, if_false, decide_false, Bool.false_or, beq_self_eq_true, Bool.true_and, List.cons_beq_cons]
    exact ih
def lessT (s t : ByteArray) : Bool := Op.bytesLess s.toList t.toList
theorem cmpT_less (s t : ByteArray) : cmpT s t = if lessT s t = true then -1 else if (!(lessT s t || decide (s = t))) = true then 1 else 0 := by
  have h := bytes_less s.data.toList t.data.toList
  have h1 : ∀ x : ByteArray, x.toList = x.data.toList := fun x => by rw [ByteArray.toList_eq]
  have h2 := decide_toList s t
  unfold cmpT lessT
  rw [← h2, h1, h1]
  exact h
section
variable {P : Program} {w : World} {t : TypeId} {x y : Operand} {nx : Value → World → Prop}
theorem Runs.strLss {a b : ByteArray} (h : nx (.bool (lessT a b)) w) : Runs P (do eqGuard .lss t x y (.string a) (.string b); binOp .lss t (.string a) (.string b)) w nx := by
  refine ⟨_, w, ?_, h⟩
  simp [eqGuard, binOp, Op.stringOp, lessT]
theorem Runs.strGtr {a b : ByteArray} (h : nx (.bool (!(lessT a b || decide (a = b)))) w) : Runs P (do eqGuard .gtr t x y (.string a) (.string b); binOp .gtr t (.string a) (.string b)) w nx := by
  refine ⟨_, w, ?_, h⟩
  simp [eqGuard, binOp, Op.stringOp, lessT, decide_toList]
end
end Go.Proofs.Vg
namespace Go.Proofs.YtldeokfhipjbfaaGreatDoor
open Go Go.Proofs.Vg Go.RowKit

set_option maxRecDepth 8000 in
theorem cmpstr_calls (w : World) (a b : ByteArray) : Calls Tryz.prog 109 #[.string a, .string b] w fun e w' => e = .returned (.int .i64 (cmpT a b)) ∧ w' = w := by
  go_enter Tryz.func109, Tryz.ntmps109
  go_wp2
  rw [run_callFunc_extern Tryz.func113 (by kernel_rfl) (by kernel_rfl) (by kernel_rfl) (e := Extern.BytealgCompare.compare) (by kernel_rfl), Lib.run_compareString]
  simp only [Result.andThen]
  rw [Oper.upon_value]
  go_wp2
  go_ret
  exact ⟨rfl, rfl⟩
theorem cmpstr_ok (w : World) (a b : ByteArray) : Rets Tryz.prog 109 [.string a, .string b] w (fun v w' => v = .int .i64 (cmpT a b) ∧ w' = w) := by
  refine Calls.mono (cmpstr_calls w a b) ?_
  rintro e w' ⟨rfl, rfl⟩
  exact ⟨rfl, rfl⟩

-- -- function 103
theorem strcmp_ok (w : World) (a b : ByteArray) : Rets Tryz.prog 103 [.string a, .string b] w (fun v w' => v = .int .i64 (cmpT a b) ∧ w' = w) := by
  refine rets_of_ok Tryz.func103 rfl rfl ?_
  refine ok_seq (fun M hM => ok_region rfl ?_); (try revert X); refine t103 ?_; intro X hX
  refine hM _ _ _ ?_; clear hM M
  refine ok_seq (fun M hM => ok_region rfl ?_)
  (try revert X); refine t103 ?_; intro X hX
  refine Inv.call Fx.en109 (cmpstr_ok w a b) ?_
  rintro v w' ⟨rfl, rfl⟩
  (try revert X); refine t103 ?_; intro X hX
  refine hM _ _ _ ?_; clear hM M
  refine ok_ret ?_
  try simp only [zW, zU, reduceIte, Nat.reduceEqDiff, Nat.reduceAdd, reduceCtorEq, Q103]

-- -- function 108
theorem nan_ok (w : World) (a : Int) : Rets Tryz.prog 108 [.int .i64 a] w (fun v w' => v = .bool false ∧ w' = w) := by
  refine rets_of_ok Tryz.func108 rfl rfl ?_
  refine ok_seq (fun M hM => ok_region rfl ?_); (try revert X); refine t108 ?_; intro X hX
  refine hM _ _ _ ?_; clear hM M
  refine ok_seq (fun M hM => ok_region rfl ?_); (try revert X); refine t108 ?_; intro X hX
  refine hM _ _ _ ?_; clear hM M
  refine ok_ret ?_
  try simp only [zW, zU, reduceIte, Nat.reduceEqDiff, Nat.reduceAdd, reduceCtorEq, Q108]

-- -- function 110
theorem nan64_ok (w : World) (a : Int) : Rets Tryz.prog 110 [.int .i64 a] w (fun v w' => v = .bool false ∧ w' = w) := by
  refine rets_of_ok Tryz.func110 rfl rfl ?_
  refine ok_seq (fun M hM => ok_region rfl ?_); (try revert X); refine t110 ?_; intro X hX
  refine hM _ _ _ ?_; clear hM M
  refine ok_seq (fun M hM => ok_region rfl ?_); (try revert X); refine t110 ?_; intro X hX
  refine hM _ _ _ ?_; clear hM M
  refine ok_ret ?_
  try simp only [zW, zU, reduceIte, Nat.reduceEqDiff, Nat.reduceAdd, reduceCtorEq, Q110]

-- -- function 102
set_option maxHeartbeats 1000000 in
theorem cmpInt_ok (w : World) (a b : Int) : Rets Tryz.prog 102 [.int .i64 a, .int .i64 b] w (fun v w' => v = .int .i64 (cmpI a b) ∧ w' = w) := by
  refine rets_of_ok Tryz.func102 rfl rfl ?_
  refine ok_seq (fun M hM => ok_region rfl ?_); (try revert X); refine t102 ?_; intro X hX
  refine hM _ _ _ ?_; clear hM M
  refine ok_seq (fun M hM => ok_region rfl ?_)
  (try revert X); refine t102 ?_; intro X hX
  refine Inv.call Fx.en108 (nan_ok w a) ?_
  rintro v w' ⟨rfl, rfl⟩
  (try revert X); refine t102 ?_; intro X hX
  refine hM _ _ _ ?_; clear hM M
  refine ok_seq (fun M hM => ok_region rfl ?_)
  (try revert X); refine t102 ?_; intro X hX
  refine Inv.call Fx.en108 (nan_ok w' b) ?_
  rintro v w1 ⟨rfl, rfl⟩
  (try revert X); refine t102 ?_; intro X hX
  refine hM _ _ _ ?_; clear hM M
  refine ok_seq (fun M1 hM1 => ?_)
  refine ok_seq (fun M hM => ok_region rfl ?_); (try revert X); refine t102 ?_; intro X hX
  refine hM _ _ _ ?_; clear hM M
  refine ok_cond (b := false) rfl (fun h => by cases h) (fun _ => ok_skip ?_)
  try simp only [zW, zU, reduceIte, Nat.reduceEqDiff, Nat.reduceAdd, reduceCtorEq, Q102]
  refine hM1 _ _ _ ?_; clear hM1 M1
  refine ok_seq (fun M1 hM1 => ?_)
  refine ok_seq (fun M hM => ok_region rfl ?_); (try revert X); refine t102 ?_; intro X hX
  refine hM _ _ _ ?_; clear hM M
  refine ok_cond (b := false) rfl (fun h => by cases h) (fun _ => ok_skip ?_)
  try simp only [zW, zU, reduceIte, Nat.reduceEqDiff, Nat.reduceAdd, reduceCtorEq, Q102]
  refine hM1 _ _ _ ?_; clear hM1 M1
  refine ok_seq (fun M1 hM1 => ?_)
  refine ok_seq (fun M hM => ok_region rfl ?_); (try revert X); refine t102 ?_; intro X hX
  refine hM _ _ _ ?_; clear hM M
  refine ok_if rfl (fun hc => ?_) (fun hc => ok_skip ?_)
  · refine ok_seq (fun M hM => ok_region rfl ?_); (try revert X); refine t102 ?_; intro X hX
    refine hM _ _ _ ?_; clear hM M
    refine ok_ret ?_
    try simp only [zW, zU, reduceIte, Nat.reduceEqDiff, Nat.reduceAdd, reduceCtorEq, Q102]
    simp [cmpI, hc]
  try simp only [zW, zU, reduceIte, Nat.reduceEqDiff, Nat.reduceAdd, reduceCtorEq, Q102]
  refine hM1 _ _ _ ?_; clear hM1 M1
  refine ok_seq (fun M1 hM1 => ?_)
  refine ok_seq (fun M hM => ok_region rfl ?_); (try revert X); refine t102 ?_; intro X hX
  refine hM _ _ _ ?_; clear hM M
  refine ok_if rfl (fun hd => ?_) (fun hd => ok_skip ?_)
  · refine ok_seq (fun M hM => ok_region rfl ?_); (try revert X); refine t102 ?_; intro X hX
    refine hM _ _ _ ?_; clear hM M
    refine ok_ret ?_
    try simp only [zW, zU, reduceIte, Nat.reduceEqDiff, Nat.reduceAdd, reduceCtorEq, Q102]
    simp [cmpI, hc, hd]
  try simp only [zW, zU, reduceIte, Nat.reduceEqDiff, Nat.reduceAdd, reduceCtorEq, Q102]
  refine hM1 _ _ _ ?_; clear hM1 M1
  refine ok_seq (fun M hM => ok_region rfl ?_); (try revert X); refine t102 ?_; intro X hX
  refine hM _ _ _ ?_; clear hM M
  refine ok_ret ?_
  try simp only [zW, zU, reduceIte, Nat.reduceEqDiff, Nat.reduceAdd, reduceCtorEq, Q102]
  simp [cmpI, hc, hd]

-- -- function 104
set_option maxHeartbeats 1000000 in
theorem cmpInt64_ok (w : World) (a b : Int) : Rets Tryz.prog 104 [.int .i64 a, .int .i64 b] w (fun v w' => v = .int .i64 (cmpI a b) ∧ w' = w) := by
  refine rets_of_ok Tryz.func104 rfl rfl ?_
  refine ok_seq (fun M hM => ok_region rfl ?_); (try revert X); refine t104 ?_; intro X hX
  refine hM _ _ _ ?_; clear hM M
  refine ok_seq (fun M hM => ok_region rfl ?_)
  (try revert X); refine t104 ?_; intro X hX
  refine Inv.call Fx.en110 (nan64_ok w a) ?_
  rintro v w' ⟨rfl, rfl⟩
  (try revert X); refine t104 ?_; intro X hX
  refine hM _ _ _ ?_; clear hM M
  refine ok_seq (fun M hM => ok_region rfl ?_)
  (try revert X); refine t104 ?_; intro X hX
  refine Inv.call Fx.en110 (nan64_ok w' b) ?_
  rintro v w1 ⟨rfl, rfl⟩
  (try revert X); refine t104 ?_; intro X hX
  refine hM _ _ _ ?_; clear hM M
  refine ok_seq (fun M1 hM1 => ?_)
  refine ok_seq (fun M hM => ok_region rfl ?_); (try revert X); refine t104 ?_; intro X hX
  refine hM _ _ _ ?_; clear hM M
  refine ok_cond (b := false) rfl (fun h => by cases h) (fun _ => ok_skip ?_)
  try simp only [zW, zU, reduceIte, Nat.reduceEqDiff, Nat.reduceAdd, reduceCtorEq, Q104]
  refine hM1 _ _ _ ?_; clear hM1 M1
  refine ok_seq (fun M1 hM1 => ?_)
  refine ok_seq (fun M hM => ok_region rfl ?_); (try revert X); refine t104 ?_; intro X hX
  refine hM _ _ _ ?_; clear hM M
  refine ok_cond (b := false) rfl (fun h => by cases h) (fun _ => ok_skip ?_)
  try simp only [zW, zU, reduceIte, Nat.reduceEqDiff, Nat.reduceAdd, reduceCtorEq, Q104]
  refine hM1 _ _ _ ?_; clear hM1 M1
  refine ok_seq (fun M1 hM1 => ?_)
  refine ok_seq (fun M hM => ok_region rfl ?_); (try revert X); refine t104 ?_; intro X hX
  refine hM _ _ _ ?_; clear hM M
  refine ok_if rfl (fun hc => ?_) (fun hc => ok_skip ?_)
  · refine ok_seq (fun M hM => ok_region rfl ?_); (try revert X); refine t104 ?_; intro X hX
    refine hM _ _ _ ?_; clear hM M
    refine ok_ret ?_
    try simp only [zW, zU, reduceIte, Nat.reduceEqDiff, Nat.reduceAdd, reduceCtorEq, Q104]
    simp [cmpI, hc]
  try simp only [zW, zU, reduceIte, Nat.reduceEqDiff, Nat.reduceAdd, reduceCtorEq, Q104]
  refine hM1 _ _ _ ?_; clear hM1 M1
  refine ok_seq (fun M1 hM1 => ?_)
  refine ok_seq (fun M hM => ok_region rfl ?_); (try revert X); refine t104 ?_; intro X hX
  refine hM _ _ _ ?_; clear hM M
  refine ok_if rfl (fun hd => ?_) (fun hd => ok_skip ?_)
  · refine ok_seq (fun M hM => ok_region rfl ?_); (try revert X); refine t104 ?_; intro X hX
    refine hM _ _ _ ?_; clear hM M
    refine ok_ret ?_
    try simp only [zW, zU, reduceIte, Nat.reduceEqDiff, Nat.reduceAdd, reduceCtorEq, Q104]
    simp [cmpI, hc, hd]
  try simp only [zW, zU, reduceIte, Nat.reduceEqDiff, Nat.reduceAdd, reduceCtorEq, Q104]
  refine hM1 _ _ _ ?_; clear hM1 M1
  refine ok_seq (fun M hM => ok_region rfl ?_); (try revert X); refine t104 ?_; intro X hX
  refine hM _ _ _ ?_; clear hM M
  refine ok_ret ?_
  try simp only [zW, zU, reduceIte, Nat.reduceEqDiff, Nat.reduceAdd, reduceCtorEq, Q104]
  simp [cmpI, hc, hd]

-- -- function 111
set_option maxHeartbeats 1000000 in
theorem number_cmp_ok (w : World) (a b : Int) : Rets Tryz.prog 111 [.int .i64 a, .int .i64 b] w (fun v w' => v = .int .i64 (cmpI a b) ∧ w' = w) := by
  refine rets_of_ok Tryz.func111 rfl rfl ?_
  refine ok_seq (fun M hM => ok_region rfl ?_); (try revert X); refine t111 ?_; intro X hX
  refine hM _ _ _ ?_; clear hM M
  refine ok_seq (fun M1 hM1 => ?_)
  refine ok_seq (fun M hM => ok_region rfl ?_); (try revert X); refine t111 ?_; intro X hX
  refine hM _ _ _ ?_; clear hM M
  refine ok_if rfl (fun hc => ?_) (fun hc => ok_skip ?_)
  · refine ok_seq (fun M hM => ok_region rfl ?_); (try revert X); refine t111 ?_; intro X hX
    refine hM _ _ _ ?_; clear hM M
    refine ok_ret ?_
    try simp only [zW, zU, reduceIte, Nat.reduceEqDiff, Nat.reduceAdd, reduceCtorEq, Q111]
    simp [cmpI, hc]
  try simp only [zW, zU, reduceIte, Nat.reduceEqDiff, Nat.reduceAdd, reduceCtorEq, Q111]
  refine hM1 _ _ _ ?_; clear hM1 M1
  refine ok_seq (fun M1 hM1 => ?_)
  refine ok_seq (fun M hM => ok_region rfl ?_); (try revert X); refine t111 ?_; intro X hX
  refine hM _ _ _ ?_; clear hM M
  refine ok_if rfl (fun hd => ?_) (fun hd => ok_skip ?_)
  · refine ok_seq (fun M hM => ok_region rfl ?_); (try revert X); refine t111 ?_; intro X hX
    refine hM _ _ _ ?_; clear hM M
    refine ok_ret ?_
    try simp only [zW, zU, reduceIte, Nat.reduceEqDiff, Nat.reduceAdd, reduceCtorEq, Q111]
    simp [cmpI, hc, hd]
  try simp only [zW, zU, reduceIte, Nat.reduceEqDiff, Nat.reduceAdd, reduceCtorEq, Q111]
  refine hM1 _ _ _ ?_; clear hM1 M1
  refine ok_seq (fun M hM => ok_region rfl ?_); (try revert X); refine t111 ?_; intro X hX
  refine hM _ _ _ ?_; clear hM M
  refine ok_ret ?_
  try simp only [zW, zU, reduceIte, Nat.reduceEqDiff, Nat.reduceAdd, reduceCtorEq, Q111]
  simp [cmpI, hc, hd]

-- -- function 112
set_option maxHeartbeats 1000000 in
theorem text_cmp_ok (w : World) (a b : ByteArray) : Rets Tryz.prog 112 [.string a, .string b] w (fun v w' => v = .int .i64 (cmpT a b) ∧ w' = w) := by
  have hT := cmpT_less a b
  refine rets_of_ok Tryz.func112 rfl rfl ?_
  refine ok_seq (fun M hM => ok_region rfl ?_); (try revert X); refine t112 ?_; intro X hX
  refine hM _ _ _ ?_; clear hM M
  refine ok_seq (fun M1 hM1 => ?_)
  refine ok_seq (fun M hM => ok_region rfl ?_)
  (try revert X); refine t112 ?_; intro X hX
  refine Runs.strLss ?_
  (try revert X); refine t112 ?_; intro X hX
  refine hM _ _ _ ?_; clear hM M
  cases hc : lessT a b with
  | true =>
    refine ok_cond (b := true) rfl (fun _ => ?_) (fun h => by cases h)
    refine ok_seq (fun M hM => ok_region rfl ?_); (try revert X); refine t112 ?_; intro X hX
    refine hM _ _ _ ?_; clear hM M
    refine ok_ret ?_
    try simp only [zW, zU, reduceIte, Nat.reduceEqDiff, Nat.reduceAdd, reduceCtorEq, Q112]
    rw [hT]; simp [hc]
  | false =>
  refine ok_cond (b := false) rfl (fun h => by cases h) (fun _ => ok_skip ?_)
  try simp only [zW, zU, reduceIte, Nat.reduceEqDiff, Nat.reduceAdd, reduceCtorEq, Q112]
  refine hM1 _ _ _ ?_; clear hM1 M1
  refine ok_seq (fun M1 hM1 => ?_)
  refine ok_seq (fun M hM => ok_region rfl ?_)
  (try revert X); refine t112 ?_; intro X hX
  refine Runs.strGtr ?_
  (try revert X); refine t112 ?_; intro X hX
  refine hM _ _ _ ?_; clear hM M
  rw [hc] at hT ⊢
  cases hd : (!(false || decide (a = b))) with
  | true =>
    refine ok_cond (b := true) rfl (fun _ => ?_) (fun h => by cases h)
    refine ok_seq (fun M hM => ok_region rfl ?_); (try revert X); refine t112 ?_; intro X hX
    refine hM _ _ _ ?_; clear hM M
    refine ok_ret ?_
    try simp only [zW, zU, reduceIte, Nat.reduceEqDiff, Nat.reduceAdd, reduceCtorEq, Q112]
    rw [hT, if_neg (by decide), if_pos hd]
  | false =>
  refine ok_cond (b := false) rfl (fun h => by cases h) (fun _ => ok_skip ?_)
  try simp only [zW, zU, reduceIte, Nat.reduceEqDiff, Nat.reduceAdd, reduceCtorEq, Q112]
  refine hM1 _ _ _ ?_; clear hM1 M1
  refine ok_seq (fun M hM => ok_region rfl ?_); (try revert X); refine t112 ?_; intro X hX
  refine hM _ _ _ ?_; clear hM M
  refine ok_ret ?_
  try simp only [zW, zU, reduceIte, Nat.reduceEqDiff, Nat.reduceAdd, reduceCtorEq, Q112]
  rw [hT, if_neg (by decide), if_neg (by rw [hd]; decide)]
end Go.Proofs.YtldeokfhipjbfaaGreatDoor
