/- Part 12 of 13: Y10, Y11, Y12, Y13, Y14, Y15, Y16, Y17, Vg34. -/
import Derived.Test.YtldeokfhipjbfaaGreatDoorM11
import Derived.Test.YtldeokfhipjbfaaGreatDoorM3
/- The reference's heap: parts. -/
set_option linter.unusedVariables false
set_option linter.unusedSimpArgs false
namespace Go.Proofs.Vg
open Go Go.RowKit
theorem Runs.minI {P : Program} {w : World} {ts : Array TypeId} {ty : TypeId} {cs : Array Bool} {a b : Int} {nx : Value → World → Prop} (h : nx (.int .i64 (if b < a then b else a)) w) :
    Runs P (builtin .min ts ty cs [.int .i64 a, .int .i64 b].toArray) w (builtinR nx) := by
  refine ⟨.value (.int .i64 (if b < a then b else a)), w, ?_, h⟩
  simp [builtin, Builtin.min_, Builtin.min2]
end Go.Proofs.Vg
namespace Go.Proofs.YtldeokfhipjbfaaGreatDoor
open Go Go.Proofs.Vg Go.RowKit

-- -- function 81
set_option maxHeartbeats 4000000 in
set_option maxRecDepth 8000 in
theorem rparts_ok (qb : Nat) (H : List Ob) (F : Nat → Prop) (hl : H.length ≤ 1073741824) (hG : GoodH H) : ∀ (m : Nat) (x : Wd) (w : World), m ≤ 100000 → rightW H x = true → RHeapW w qb H F →
    Rets Tryz.prog 81 [ptrOf qb, wv x, .int .i64 (m : Int)] w (fun v w' => v = .int .i64 ((min (cntD H (m + 1) [x]) (m + 1) : Nat) : Int) ∧ Ext w w') := by
  intro m
  induction m using Nat.strongRecOn with
  | _ m ih =>
    intro x w hm hr hH
    have hal := hG.lim.args x
    refine rets_of_ok Tryz.func81 rfl rfl ?_
    refine ok_seq (fun M hM => ok_region rfl ?_)
    (try revert X); refine t81 ?_; intro X hX
    refine Runs.box (fun w1 he1 hz1 hb1 => ?_)
    generalize hB1 : w.heap.size = B1 at hz1 hb1
    simp only [Value.cells] at hb1
    (try revert X); refine t81 ?_; intro X hX
    refine hM _ _ _ ?_; clear hM M
    refine ok_seq (fun M hM => ok_region rfl ?_); (try revert X); refine t81 ?_; intro X hX
    refine hM _ _ _ ?_; clear hM M
    refine ok_seq (fun M hM => ok_region rfl ?_)
    (try revert X); refine t81 ?_; intro X hX
    refine ⟨x.row, rfl, hb1.cells (o := 0) (fun j u hj => by simpa using hj), ?_⟩
    (try revert X); refine t81 ?_; intro X hX
    refine Inv.call Fx.en80 (rwords_ok w1 qb H F (hH.ext he1) hl hG.lim x hr) ?_
    rintro v w2 ⟨A, c, rfl, hsl, he2, -⟩
    obtain ⟨A', c', h1, hlen, hcell⟩ := id hsl
    rw [wd_len] at h1; cases h1
    (try revert X); refine t81 ?_; intro X hX
    refine hM _ _ _ ?_; clear hM M
    have he02 := he1.trans he2
    refine ok_seq (fun M0 hM0 => ?_)
    refine ok_seq (fun M hM => ok_region rfl ?_); (try revert X); refine t81 ?_; intro X hX
    refine hM _ _ _ ?_; clear hM M
    refine ok_block ?_
    have hone : cntD H (m + 1) [x] = 1 + cntD H m (argsOf H x) := cntD_one H m x
    refine ok_loop (S := Nat) (fun i => [(0, ptrOf qb), (2, .int .i64 (m : Int)), (7, .int .i64 ((min (1 + cntD H m ((argsOf H x).take i)) (m + 1) : Nat) : Int)), (8, .slice A (argsOf H x).length c), (9, .int .i64 (i : Int))])
      (fun i w' => Ext w2 w' ∧ i ≤ (argsOf H x).length) (fun i => (argsOf H x).length - i) 0 ?_ ?_ ?_
    · have : min (1 + cntD H m []) (m + 1) = 1 := by rw [cntD_nil]; omega
      simp [sub, Env.get, argEnv, this]
    · exact ⟨Ext.refl _, Nat.zero_le _⟩
    rintro i w3 ⟨he3, hi⟩
    generalize hn : min (1 + cntD H m ((argsOf H x).take i)) (m + 1) = n
    have hn1 : 1 ≤ n ∧ n ≤ m + 1 := by omega
    have hmono : cntD H m ((argsOf H x).take i) ≤ cntD H m (argsOf H x) := by
      have := cntD_app H m ((argsOf H x).take i) ((argsOf H x).drop i)
      rw [List.take_append_drop] at this
      omega
    refine ok_seq (fun M1 hM1 => ?_)
    refine ok_join [(0, ptrOf qb), (2, .int .i64 (m : Int)), (7, .int .i64 (n : Int)), (8, .slice A (argsOf H x).length c), (9, .int .i64 (i : Int)), (21, .bool (decide (i < (argsOf H x).length ∧ n ≤ m)))] (fun w' => w' = w3) ?_ ?_
    · refine ok_region rfl ?_
      (try revert X); refine t81 ?_; intro X hX
      by_cases h1 : i < (argsOf H x).length
      · have hd : decide ((i : Int) < ((argsOf H x).length : Int)) = true := decide_eq_true (by omega)
        simp only [hd]
        (try revert X); refine t81 ?_; intro X hX
        refine ⟨fun _ => ?_, fun h => (by cases h)⟩
        (try revert X); refine t81 ?_; intro X hX
        by_cases h2 : n ≤ m
        · have hd2 : decide ((n : Int) ≤ (m : Int)) = true := decide_eq_true (by omega)
          simp only [hd2]
          simp [sub, Env.get, h1, h2]
        · have hd2 : decide ((n : Int) ≤ (m : Int)) = false := decide_eq_false (by omega)
          simp only [hd2]
          simp [sub, Env.get, h1, h2]
      · have hd : decide ((i : Int) < ((argsOf H x).length : Int)) = false := decide_eq_false (by omega)
        simp only [hd]
        (try revert X); refine t81 ?_; intro X hX
        refine ⟨fun h => (by cases h), fun _ => ?_⟩
        (try revert X); refine t81 ?_; intro X hX
        simp [sub, Env.get, h1]
    rintro w4 rfl
    by_cases hgo : i < (argsOf H x).length ∧ n ≤ m
    rotate_left
    · refine ok_cond (b := false) (by rw [decide_eq_false hgo]; rfl) (fun h => by cases h) (fun _ => ok_exit ?_)
      try simp only [zW, zU, reduceIte, Nat.reduceEqDiff, Nat.reduceAdd, reduceCtorEq, Q81]
      refine hM0 _ _ _ ?_; clear hM0 M0 hM1 M1
      refine ok_seq (fun M hM => ok_region rfl ?_); (try revert X); refine t81 ?_; intro X hX
      refine hM _ _ _ ?_; clear hM M
      refine ok_ret ?_
      refine ⟨rfl, ?_, he02.trans he3⟩
      have : n = min (cntD H (m + 1) [x]) (m + 1) := by
        rw [hone, ← hn]
        by_cases h : i < (argsOf H x).length
        · have : ¬ n ≤ m := fun e => hgo ⟨h, e⟩
          omega
        · rw [List.take_of_length_le (by omega)]
      rw [← this]
    · refine ok_cond (b := true) (by rw [decide_eq_true hgo]; rfl) (fun _ => ok_skip ?_) (fun h => by cases h)
      try simp only [zW, zU, reduceIte, Nat.reduceEqDiff, Nat.reduceAdd, reduceCtorEq, Q81]
      refine hM1 _ _ _ ?_; clear hM1 M1
      obtain ⟨hil, hnm⟩ := hgo
      have hxi : (argsOf H x)[i]? = some (argsOf H x)[i] := List.getElem?_eq_getElem hil
      obtain ⟨b, o, rfl, hcc⟩ := hcell i (argsOf H x)[i].row (by rw [List.getElem?_map, hxi]; rfl)
      have hry := (hG.args (List.getElem_mem hil)).1
      refine ok_seq (fun M1 hM1 => ok_block ?_)
      refine ok_region rfl ?_
      (try revert X); refine t81 ?_; intro X hX
      refine ⟨by omega, by omega, ?_⟩
      (try revert X); refine t81 ?_; intro X hX
      refine ⟨(argsOf H x)[i].row, rfl, he3.cellsAt hcc, ?_⟩
      (try revert X); refine t81 ?_; intro X hX
      refine ⟨by simp only [inI]; omega, ?_⟩
      (try revert X); refine t81 ?_; intro X hX
      have hsub : (m : Int) - (n : Int) = ((m - n : Nat) : Int) := by omega
      rw [hsub]
      refine Inv.call Fx.en81 (ih (m - n) (by omega) (argsOf H x)[i] w4 (by omega) hry (hH.ext (he02.trans he3))) ?_
      rintro v w5 ⟨rfl, he5⟩
      (try revert X); refine t81 ?_; intro X hX
      refine ⟨by simp only [inI]; omega, ?_⟩
      (try revert X); refine t81 ?_; intro X hX
      refine hM1 _ _ _ ?_; clear hM1 M1
      refine ok_region rfl ?_
      (try revert X); refine t81 ?_; intro X hX
      refine ⟨by simp only [inI]; omega, ?_⟩
      (try revert X); refine t81 ?_; intro X hX
      refine ⟨i + 1, ?_, ⟨he3.trans he5, by omega⟩, by omega⟩
      have htk : (argsOf H x).take (i + 1) = (argsOf H x).take i ++ [(argsOf H x)[i]] := by
        rw [List.take_add_one, hxi]; rfl
      have hcap := cntD_cap H [(argsOf H x)[i]] (c := m - n + 1) (d := m - n + 1) (e := m) (Nat.le_refl _) (by omega)
      have : ((min (1 + cntD H m ((argsOf H x).take (i + 1))) (m + 1) : Nat) : Int) = (n : Int) + ((min (cntD H (m - n + 1) [(argsOf H x)[i]]) (m - n + 1) : Nat) : Int) := by
        rw [htk, cntD_app]
        omega
      rw [this]
      simp [sub, Env.get]

-- -- function 40
set_option maxHeartbeats 4000000 in
set_option maxRecDepth 8000 in
theorem rParts_ok (w : World) (qb : Nat) (H : List Ob) (F : Nat → Prop) (hH : RHeapW w qb H F) (hl : H.length ≤ 1073741824) (hG : GoodH H) (x : Wd) :
    Rets Tryz.prog 40 [ptrOf qb, wv x] w (fun v w' => v = .int .i64 (if rightW H x = true then (partsF H 100000 [x] : Int) else 0) ∧ Ext w w') := by
  refine rets_of_ok Tryz.func40 rfl rfl ?_
  refine ok_seq (fun M hM => ok_region rfl ?_)
  (try revert X); refine t40 ?_; intro X hX
  refine Runs.box (fun w1 he1 hz1 hb1 => ?_)
  generalize hB1 : w.heap.size = B1 at hz1 hb1
  simp only [Value.cells] at hb1
  (try revert X); refine t40 ?_; intro X hX
  refine hM _ _ _ ?_; clear hM M
  refine ok_join [(0, ptrOf qb), (3, ptrOf B1)] (fun w3 => Ext w1 w3 ∧ rightW H x = true) ?_ ?_
  · refine ok_seq (fun M hM => ok_region rfl ?_)
    (try revert X); refine t40 ?_; intro X hX
    refine Runs.ptrEq Fx.un27 ?_
    (try revert X); refine t40 ?_; intro X hX
    refine ⟨x.row, rfl, hb1.cells (o := 0) (fun j u hj => by simpa using hj), ?_⟩
    (try revert X); refine t40 ?_; intro X hX
    refine Inv.call Fx.en38 (rright_ok w1 qb H F (hH.ext he1) hl x) ?_
    rintro v w3 ⟨rfl, he3⟩
    (try revert X); refine t40 ?_; intro X hX
    refine hM _ _ _ ?_; clear hM M
    cases hr : rightW H x with
    | false =>
      refine ok_cond (b := true) rfl (fun _ => ?_) (fun h => by cases h)
      refine ok_seq (fun M hM => ok_region rfl ?_); (try revert X); refine t40 ?_; intro X hX
      refine hM _ _ _ ?_; clear hM M
      refine ok_ret ?_
      exact ⟨rfl, by simp, he1.trans he3⟩
    | true =>
      refine ok_cond (b := false) rfl (fun h => by cases h) (fun _ => ok_skip ?_)
      exact ⟨rfl, by simp [sub, Env.get], he3, rfl⟩
  rintro w3 ⟨he3, hr⟩
  rw [if_pos hr]
  refine ok_seq (fun M hM => ok_region rfl ?_)
  (try revert X); refine t40 ?_; intro X hX
  refine ⟨x.row, rfl, (hb1.ext he3).cells (o := 0) (fun j u hj => by simpa using hj), ?_⟩
  (try revert X); refine t40 ?_; intro X hX
  refine Inv.call Fx.en81 (rparts_ok qb H F hl hG 100000 x w3 (Nat.le_refl _) hr (hH.ext (he1.trans he3))) ?_
  rintro v w4 ⟨rfl, he4⟩
  (try revert X); refine t40 ?_; intro X hX
  refine Runs.minI ?_
  (try revert X); refine t40 ?_; intro X hX
  refine hM _ _ _ ?_; clear hM M
  refine ok_ret ?_
  refine ⟨rfl, ?_, (he1.trans he3).trans he4⟩
  have := partsF_cnt H 100000 [x] 100001 (by omega)
  rw [this, if_neg (by omega)]
end Go.Proofs.YtldeokfhipjbfaaGreatDoor
/- The reference's heap: place, add1, right. -/
set_option linter.unusedVariables false
set_option linter.unusedSimpArgs false
namespace Go.Proofs.YtldeokfhipjbfaaGreatDoor
open Go Go.Proofs.Vg Go.RowKit
def placeF : List Int → Int → Int
  | [], _ => 0
  | y :: l, r => if y = r then 1 else if placeF l r = 0 then 0 else placeF l r + 1
theorem placeF_none : ∀ {l : List Int} {r : Int}, r ∉ l → placeF l r = 0
  | [], _, _ => rfl
  | y :: l, r, h => by
    have h1 : ¬ y = r := fun e => h (e ▸ List.mem_cons_self)
    have h2 := placeF_none (l := l) (r := r) (fun e => h (List.mem_cons_of_mem _ e))
    simp [placeF, h1, h2]
theorem placeF_at : ∀ {l : List Int} {r : Int} {i : Nat}, l[i]? = some r → (∀ j, j < i → l[j]? ≠ some r) → placeF l r = (i : Int) + 1
  | [], _, _, h, _ => by simp at h
  | y :: l, r, 0, h, _ => by simp at h; simp [placeF, h]
  | y :: l, r, i + 1, h, hn => by
    have h1 : ¬ y = r := fun e => hn 0 (by omega) (by simp [e])
    have h2 := placeF_at (l := l) (r := r) (i := i) (by simpa using h) (fun j hj => by simpa using hn (j + 1) (by omega))
    have h3 : ¬ placeF l r = 0 := by omega
    rw [placeF, if_neg h1, if_neg h3, h2]; omega
theorem placeF_pos {l : List Int} {r : Int} : 0 < placeF l r ↔ r ∈ l := by
  induction l with
  | nil => simp [placeF]
  | cons y l ih =>
    simp only [placeF, List.mem_cons]
    by_cases h : y = r
    · simp [h]
    · have h' : ¬ r = y := fun e => h e.symm
      simp only [h, if_false, h', false_or]
      rw [← ih]
      split <;> omega

-- -- function 100
set_option maxHeartbeats 1000000 in
set_option maxRecDepth 8000 in
theorem place_ok (w : World) (A : Option Addr) (c : Nat) (l : List Int) (r : Int) (hs : Sli w 1 (.slice A l.length c) (ints l)) : Rets Tryz.prog 100 [.slice A l.length c, .int .i64 r] w (fun v w' => v = .int .i64 (placeF l r) ∧ w' = w) := by
  obtain ⟨_, _, h1, hlen, hcell⟩ := id hs
  rw [ints_length] at h1; cases h1
  rw [ints_length] at hlen
  refine rets_of_ok Tryz.func100 rfl rfl ?_
  refine ok_seq (fun M hM => ok_region rfl ?_); (try revert X); refine t100 ?_; intro X hX
  refine hM _ _ _ ?_; clear hM M
  refine ok_seq (fun M0 hM0 => ?_)
  refine ok_seq (fun M hM => ok_region rfl ?_); (try revert X); refine t100 ?_; intro X hX
  refine hM _ _ _ ?_; clear hM M
  refine ok_block ?_
  refine ok_loop (S := Nat) (fun i => [(0, .slice A l.length c), (1, .int .i64 r), (5, .int .i64 (i : Int))]) (fun i w' => w' = w ∧ i ≤ l.length ∧ ∀ j, j < i → l[j]? ≠ some r) (fun i => l.length - i) 0 ?_ ?_ ?_
  · simp [sub, Env.get, argEnv]
  · exact ⟨rfl, Nat.zero_le _, fun j h => absurd h (Nat.not_lt_zero _)⟩
  rintro i w' ⟨rfl, hi, hno⟩
  refine ok_seq (fun M1 hM1 => ?_)
  refine ok_seq (fun M hM => ok_region rfl ?_); (try revert X); refine t100 ?_; intro X hX
  refine hM _ _ _ ?_; clear hM M
  refine ok_if rfl (fun hc => ok_skip ?_) (fun hc => ok_exit ?_)
  rotate_left
  · try simp only [zW, zU, reduceIte, Nat.reduceEqDiff, Nat.reduceAdd, reduceCtorEq, Q100]
    refine hM0 _ _ _ ?_; clear hM0 M0 hM1 M1
    refine ok_seq (fun M hM => ok_region rfl ?_); (try revert X); refine t100 ?_; intro X hX
    refine hM _ _ _ ?_; clear hM M
    refine ok_ret ?_
    refine ⟨rfl, ?_, rfl⟩
    rw [placeF_none]
    intro hm
    obtain ⟨j, hj⟩ := List.mem_iff_getElem?.1 hm
    exact hno j (by have := (List.getElem?_eq_some_iff.1 hj).1; omega) hj
  try simp only [zW, zU, reduceIte, Nat.reduceEqDiff, Nat.reduceAdd, reduceCtorEq, Q100]
  refine hM1 _ _ _ ?_; clear hM1 M1
  have hil : i < l.length := by omega
  have hxi : l[i]? = some l[i] := List.getElem?_eq_getElem hil
  obtain ⟨b, o, rfl, hcc⟩ := hcell i [.int .i64 l[i]] (by simp [ints, hxi])
  refine ok_seq (fun M1 hM1 => ok_block ?_)
  refine ok_seq (fun M hM => ok_region rfl ?_)
  (try revert X); refine t100 ?_; intro X hX
  refine ⟨by omega, by omega, ?_⟩
  (try revert X); refine t100 ?_; intro X hX
  refine ⟨_, by have := hcc 0 _ rfl; simpa [add_at] using this, ?_⟩
  (try revert X); refine t100 ?_; intro X hX
  refine hM _ _ _ ?_; clear hM M
  refine ok_if rfl (fun hq => ?_) (fun hq => ok_skip ?_)
  · refine ok_seq (fun M hM => ok_region rfl ?_)
    (try revert X); refine t100 ?_; intro X hX
    refine ⟨by simp only [inI]; omega, ?_⟩
    (try revert X); refine t100 ?_; intro X hX
    refine hM _ _ _ ?_; clear hM M
    refine ok_ret ?_
    refine ⟨rfl, ?_, rfl⟩
    rw [placeF_at (i := i) (by rw [hxi, hq]) hno]
  · try simp only [zW, zU, reduceIte, Nat.reduceEqDiff, Nat.reduceAdd, reduceCtorEq, Q100]
    refine hM1 _ _ _ ?_; clear hM1 M1
    refine ok_region rfl ?_
    (try revert X); refine t100 ?_; intro X hX
    refine ⟨by simp only [inI]; omega, ?_⟩
    (try revert X); refine t100 ?_; intro X hX
    refine ⟨i + 1, by simp [sub, Env.get], ⟨by omega, fun j hj => ?_⟩, by omega⟩
    rcases Nat.lt_or_ge j i with h | h
    · exact hno j h
    · have : j = i := by omega
      subst this
      rw [hxi]
      intro e; exact hq (Option.some.inj e)

theorem sli_own {w : World} {base : Nat} {v : Value} {q : List Int} (h : w.ownsRow base 3 1 v q.length (ivs q)) (hq : q.length ≤ 1073741824) : SlI w v q :=
  Sli.of_own h (ivs_flat q) (fun r hr => by simp only [ints, List.mem_map] at hr; obtain ⟨_, _, rfl⟩ := hr; rfl) (by simp) (by omega)

-- -- function 99
set_option maxHeartbeats 1000000 in
set_option maxRecDepth 8000 in
theorem add1_ok (w : World) (base qb : Nat) (v : Value) (q : List Int) (x : Wd) (hq : q.length ≤ 1073741824) (hown : w.ownsRow base 3 1 v q.length (ivs q)) (hbase : base ≤ w.heap.size) :
    Rets Tryz.prog 99 [ptrOf qb, v, wv x] w (fun v' w' => w'.ownsRow base 3 1 v' (addF q x).length (ivs (addF q x)) ∧ Chg (fun k => base ≤ k) w w') := by
  obtain ⟨hvo, hvc, A, c, rfl⟩ := owns_one hown
  have hsl := sli_own hown hq
  refine rets_of_ok Tryz.func99 rfl rfl ?_
  refine ok_seq (fun M hM => ok_region rfl ?_)
  (try revert X); refine t99 ?_; intro X hX
  refine Runs.box (fun w1 he1 hz1 hb1 => ?_)
  generalize hB1 : w.heap.size = B1 at hz1 hb1
  simp only [Value.cells] at hb1
  (try revert X); refine t99 ?_; intro X hX
  refine hM _ _ _ ?_; clear hM M
  have hown1 := owns_chg' hown (he1.chg (fun _ => False)) (fun _ _ h => h)
  have hc01 : Chg (fun k => base ≤ k) w w1 := he1.chg _
  refine ok_join [(0, ptrOf qb), (1, .slice A q.length c), (5, ptrOf B1)] (fun w' => w' = w1 ∧ ¬ (x.r = 0 ∨ x.r ∈ q)) ?_ ?_
  · refine ok_join [(0, ptrOf qb), (1, .slice A q.length c), (5, ptrOf B1), (16, .bool (decide (x.r = 0 ∨ x.r ∈ q)))] (fun w' => w' = w1) ?_ ?_
    · refine ok_region rfl ?_
      (try revert X); refine t99 ?_; intro X hX
      refine ⟨_, hb1.cell (j := 2) rfl, ?_⟩
      (try revert X); refine t99 ?_; intro X hX
      by_cases h0 : x.r = 0
      · simp only [h0, decide_true]
        (try revert X); refine t99 ?_; intro X hX
        refine ⟨fun h => (by cases h), fun _ => ?_⟩
        (try revert X); refine t99 ?_; intro X hX
        simp [sub, Env.get, h0]
      · simp only [h0, decide_false]
        (try revert X); refine t99 ?_; intro X hX
        refine ⟨fun _ => ?_, fun h => (by cases h)⟩
        (try revert X); refine t99 ?_; intro X hX
        refine ⟨_, hb1.cell (j := 2) rfl, ?_⟩
        (try revert X); refine t99 ?_; intro X hX
        refine Inv.call Fx.en100 (place_ok w1 A c q x.r (hsl.ext he1)) ?_
        rintro v w2 ⟨rfl, rfl⟩
        (try revert X); refine t99 ?_; intro X hX
        have hd : decide ((0 : Int) < placeF q x.r) = decide (x.r = 0 ∨ x.r ∈ q) := by
          by_cases hm : x.r ∈ q
          · rw [decide_eq_true (placeF_pos.2 hm), decide_eq_true (Or.inr hm)]
          · rw [decide_eq_false (fun e => hm (placeF_pos.1 e)), decide_eq_false (by rintro (e | e); exact h0 e; exact hm e)]
        rw [hd]
        simp [sub, Env.get]
    rintro w2 rfl
    by_cases hc : x.r = 0 ∨ x.r ∈ q
    · refine ok_cond (b := true) (by rw [decide_eq_true hc]; rfl) (fun _ => ?_) (fun h => by cases h)
      refine ok_seq (fun M hM => ok_region rfl ?_); (try revert X); refine t99 ?_; intro X hX
      refine hM _ _ _ ?_; clear hM M
      refine ok_ret ?_
      refine ⟨rfl, ?_, hc01⟩
      unfold addF; rw [if_pos hc]; exact hown1
    · refine ok_cond (b := false) (by rw [decide_eq_false hc]; rfl) (fun h => by cases h) (fun _ => ok_skip ?_)
      exact ⟨rfl, by simp [sub, Env.get], rfl, hc⟩
  rintro w2 ⟨rfl, hc⟩
  have hs1 := he1.size
  refine ok_seq (fun M hM => ok_region rfl ?_)
  (try revert X); refine t99 ?_; intro X hX
  refine ⟨_, hb1.cell (j := 2) rfl, ?_⟩
  (try revert X); refine t99 ?_; intro X hX
  refine Runs.lit (cs := [.int .i64 x.r]) Fx.un33 Fx.zi3 (by decide) (by kernel_rfl) (by decide) (fun w3 he3 hs3 hb3 => ?_)
  have hown3 := owns_chg' hown1 (he3.chg (fun _ => False)) (fun _ _ h => h)
  (try revert X); refine t99 ?_; intro X hX
  refine Runs.append1' Fx.un33 Fx.zi3 rfl (by decide) hown3 hb3 rfl (by intro u hu; simp at hu; subst hu; rfl) (by simp [maxLen]; omega) (by omega) (by omega) (fun v' w4 hown4 hg4 hblk4 => ?_)
  (try revert X); refine t99 ?_; intro X hX
  refine hM _ _ _ ?_; clear hM M
  refine ok_ret ?_
  have hF : addF q x = q ++ [x.r] := by unfold addF; rw [if_neg hc]
  refine ⟨rfl, ?_, ?_⟩
  · rw [hF, List.length_append, show ivs (q ++ [x.r]) = ivs q ++ [.int .i64 x.r] by simp [ivs]]
    exact hown4
  · have hc4 : Chg (fun k => base ≤ k) w3 w4 := (grown_chg hg4).mono (fun k _ hk => (hown3.lt k hk).1)
    exact hc01.trans ((he3.chg _).trans hc4)

-- -- function 71
set_option maxHeartbeats 1000000 in
set_option maxRecDepth 8000 in
theorem rrightl_ok (w : World) (qb : Nat) (H : List Ob) (F : Nat → Prop) (hH : RHeapW w qb H F) (hl : H.length ≤ 1073741824) (rv : Value) (l : List Wd) (hs : SlW w rv l) :
    Rets Tryz.prog 71 [ptrOf qb, rv] w (fun v w' => v = .bool (!(l.any fun x => !rightW H x)) ∧ Ext w w') := by
  obtain ⟨A, c, rfl, hlen, hcell⟩ := id hs
  rw [wd_len] at hlen ⊢
  refine rets_of_ok Tryz.func71 rfl rfl ?_
  refine ok_seq (fun M hM => ok_region rfl ?_); (try revert X); refine t71 ?_; intro X hX
  refine hM _ _ _ ?_; clear hM M
  refine ok_seq (fun M0 hM0 => ?_)
  refine ok_seq (fun M hM => ok_region rfl ?_); (try revert X); refine t71 ?_; intro X hX
  refine hM _ _ _ ?_; clear hM M
  refine ok_block ?_
  refine ok_loop (S := Nat) (fun i => [(0, ptrOf qb), (1, .slice A l.length c), (5, .int .i64 (i : Int))]) (fun i w' => Ext w w' ∧ i ≤ l.length ∧ ∀ (j : Nat) (x : Wd), j < i → l[j]? = some x → rightW H x = true) (fun i => l.length - i) 0 ?_ ?_ ?_
  · simp [sub, Env.get, argEnv]
  · exact ⟨Ext.refl _, Nat.zero_le _, fun j x h => absurd h (Nat.not_lt_zero _)⟩
  rintro i w' ⟨he, hi, hall⟩
  refine ok_seq (fun M1 hM1 => ?_)
  refine ok_seq (fun M hM => ok_region rfl ?_); (try revert X); refine t71 ?_; intro X hX
  refine hM _ _ _ ?_; clear hM M
  refine ok_if rfl (fun hc => ok_skip ?_) (fun hc => ok_exit ?_)
  rotate_left
  · try simp only [zW, zU, reduceIte, Nat.reduceEqDiff, Nat.reduceAdd, reduceCtorEq, Q71]
    refine hM0 _ _ _ ?_; clear hM0 M0 hM1 M1
    refine ok_seq (fun M hM => ok_region rfl ?_); (try revert X); refine t71 ?_; intro X hX
    refine hM _ _ _ ?_; clear hM M
    refine ok_ret ?_
    refine ⟨rfl, ?_, he⟩
    have : (l.any fun x => !rightW H x) = false := by
      rw [List.any_eq_false]
      intro x hx
      obtain ⟨j, hj⟩ := List.mem_iff_getElem?.1 hx
      rw [hall j x (by have := (List.getElem?_eq_some_iff.1 hj).1; omega) hj]
      decide
    rw [this]; rfl
  try simp only [zW, zU, reduceIte, Nat.reduceEqDiff, Nat.reduceAdd, reduceCtorEq, Q71]
  refine hM1 _ _ _ ?_; clear hM1 M1
  have hil : i < l.length := by omega
  have hxi : l[i]? = some l[i] := List.getElem?_eq_getElem hil
  obtain ⟨b, o, rfl, hcc⟩ := hcell i l[i].row (by rw [List.getElem?_map, hxi]; rfl)
  refine ok_seq (fun M1 hM1 => ok_block ?_)
  refine ok_seq (fun M hM => ok_region rfl ?_)
  (try revert X); refine t71 ?_; intro X hX
  refine ⟨by omega, by omega, ?_⟩
  (try revert X); refine t71 ?_; intro X hX
  refine ⟨l[i].row, rfl, he.cellsAt hcc, ?_⟩
  (try revert X); refine t71 ?_; intro X hX
  refine Inv.call Fx.en38 (rright_ok w' qb H F (hH.ext he) hl l[i]) ?_
  rintro v w2 ⟨rfl, he2⟩
  (try revert X); refine t71 ?_; intro X hX
  refine hM _ _ _ ?_; clear hM M
  cases hr : rightW H l[i] with
  | false =>
    refine ok_cond (b := true) rfl (fun _ => ?_) (fun h => by cases h)
    refine ok_seq (fun M hM => ok_region rfl ?_); (try revert X); refine t71 ?_; intro X hX
    refine hM _ _ _ ?_; clear hM M
    refine ok_ret ?_
    refine ⟨rfl, ?_, he.trans he2⟩
    have : (l.any fun x => !rightW H x) = true := List.any_eq_true.2 ⟨l[i], List.getElem_mem hil, by rw [hr]; rfl⟩
    rw [this]; rfl
  | true =>
    refine ok_cond (b := false) rfl (fun h => by cases h) (fun _ => ok_skip ?_)
    try simp only [zW, zU, reduceIte, Nat.reduceEqDiff, Nat.reduceAdd, reduceCtorEq, Q71]
    refine hM1 _ _ _ ?_; clear hM1 M1
    refine ok_region rfl ?_
    (try revert X); refine t71 ?_; intro X hX
    refine ⟨by simp only [inI]; omega, ?_⟩
    (try revert X); refine t71 ?_; intro X hX
    refine ⟨i + 1, by simp [sub, Env.get], ⟨he.trans he2, by omega, fun j x hj hx => ?_⟩, by omega⟩
    rcases Nat.lt_or_ge j i with h | h
    · exact hall j x h hx
    · have : j = i := by omega
      subst this
      rw [hxi] at hx; cases hx
      exact hr
end Go.Proofs.YtldeokfhipjbfaaGreatDoor
/- The reference's heap: reached, Reached. -/
set_option linter.unusedVariables false
set_option linter.unusedSimpArgs false
namespace Go.Proofs.YtldeokfhipjbfaaGreatDoor
open Go Go.Proofs.Vg Go.RowKit
theorem addL_len : ∀ (l : List Wd) (q : List Int), (addL q l).length ≤ q.length + l.length
  | [], q => by simp [addL]
  | x :: l, q => by
    have := addL_len l (addF q x)
    have h : (addF q x).length ≤ q.length + 1 := by unfold addF; split <;> simp
    simp only [addL, List.foldl_cons, List.length_cons] at this ⊢
    omega
theorem addL_snoc (q : List Int) (l : List Wd) (x : Wd) : addL q (l ++ [x]) = addF (addL q l) x := by simp [addL]
theorem take_snoc {α : Type} {l : List α} {i : Nat} {x : α} (h : l[i]? = some x) : l.take (i + 1) = l.take i ++ [x] := by
  rw [List.take_add_one, h]; rfl

-- -- function 72
set_option maxHeartbeats 4000000 in
set_option maxRecDepth 8000 in
theorem rreached_ok (w : World) (qb : Nat) (H : List Ob) (F : Nat → Prop) (hH : RHeapW w qb H F) (hl : H.length ≤ 1048576) (hG : GoodH H) (rv : Value) (roots : List Wd) (hrs : SlW w rv roots) (hrl : roots.length ≤ 1048576)
    (hrr : ∀ x ∈ roots, 0 ≤ x.r ∧ x.r ≤ (H.length : Int)) :
    Rets Tryz.prog 72 [ptrOf qb, rv] w (fun v w' => w'.ownsRow w.heap.size 3 1 v (collQ H roots).length (ivs (collQ H roots)) ∧ Ext w w') := by
  obtain ⟨A, c, rfl, hlen, hcell⟩ := id hrs
  rw [wd_len] at hlen ⊢
  obtain ⟨vL, vws, rows, ⟨hhd, hrm, hhn⟩, hfoot⟩ := hH
  obtain ⟨AL, cL, hvL⟩ := hrm.len
  generalize hbase : w.heap.size = base
  refine rets_of_ok Tryz.func72 rfl rfl ?_
  refine ok_seq (fun M hM => ok_region rfl ?_); (try revert X); refine t72 ?_; intro X hX
  refine hM _ _ _ ?_; clear hM M
  refine ok_seq (fun M hM => ok_region rfl ?_)
  (try revert X); refine t72 ?_; intro X hX
  refine Runs.lit00 Fx.un33 Fx.zi3 (fun w1 he1 hs1 hb1 => ?_)
  (try revert X); refine t72 ?_; intro X hX
  refine hM _ _ _ ?_; clear hM M
  have own_base : ∀ (W : World) (v : Value) (q : List Int), W.ownsRow base 3 1 v q.length (ivs q) → q.length ≤ 1073741824 → ∃ A c, v = .slice A q.length c := fun W v q h _ => (owns_one h).2.2
  have hown1 : w1.ownsRow base 3 1 (.slice (some ⟨w.heap.size, 0, none⟩) 0 0) 0 [] := ⟨by simp, .inr ⟨w.heap.size, 0, #[], rfl, by omega, by simpa [Blk] using hb1, Nat.le_refl _, by decide, by simp, by simp⟩⟩
  refine ok_seq (fun M0 hM0 => ?_)
  refine ok_seq (fun M hM => ok_region rfl ?_); (try revert X); refine t72 ?_; intro X hX
  refine hM _ _ _ ?_; clear hM M
  refine ok_block ?_
  refine ok_loop (S := Nat × Value) (fun s => [(0, ptrOf qb), (1, .slice A roots.length c), (5, s.2), (6, .int .i64 (s.1 : Int))])
    (fun s w' => Ext w w' ∧ s.1 ≤ roots.length ∧ w'.ownsRow base 3 1 s.2 (addL [] (roots.take s.1)).length (ivs (addL [] (roots.take s.1)))) (fun s => roots.length - s.1) (0, .slice (some ⟨w.heap.size, 0, none⟩) 0 0) ?_ ?_ ?_
  · simp [sub, Env.get, argEnv]
  · exact ⟨he1, Nat.zero_le _, hown1⟩
  rintro ⟨i, va⟩ w2 ⟨he2, hi, hown2⟩
  simp only at hi hown2 ⊢
  refine ok_seq (fun M1 hM1 => ?_)
  refine ok_seq (fun M hM => ok_region rfl ?_); (try revert X); refine t72 ?_; intro X hX
  refine hM _ _ _ ?_; clear hM M
  refine ok_if rfl (fun hc => ok_skip ?_) (fun hc => ok_exit ?_)
  · try simp only [zW, zU, reduceIte, Nat.reduceEqDiff, Nat.reduceAdd, reduceCtorEq, Q72]
    refine hM1 _ _ _ ?_; clear hM1 M1
    have hil : i < roots.length := by omega
    have hxi : roots[i]? = some roots[i] := List.getElem?_eq_getElem hil
    obtain ⟨b, o, rfl, hcc⟩ := hcell i roots[i].row (by rw [List.getElem?_map, hxi]; rfl)
    refine ok_seq (fun M1 hM1 => ok_block ?_)
    refine ok_region rfl ?_
    (try revert X); refine t72 ?_; intro X hX
    refine ⟨by omega, by omega, ?_⟩
    (try revert X); refine t72 ?_; intro X hX
    refine ⟨roots[i].row, rfl, he2.cellsAt hcc, ?_⟩
    (try revert X); refine t72 ?_; intro X hX
    have hal := addL_len (roots.take i) []
    have hs2 := he2.size
    refine Inv.call Fx.en99 (add1_ok w2 base qb va (addL [] (roots.take i)) roots[i] (by simp at hal; omega) hown2 (by omega)) ?_
    rintro v' w3 ⟨hown3, hc3⟩
    (try revert X); refine t72 ?_; intro X hX
    refine hM1 _ _ _ ?_; clear hM1 M1
    refine ok_region rfl ?_
    (try revert X); refine t72 ?_; intro X hX
    refine ⟨by simp only [inI]; omega, ?_⟩
    (try revert X); refine t72 ?_; intro X hX
    refine ⟨(i + 1, v'), by simp [sub, Env.get], ⟨he2.chg_trans hc3 (fun k hk => by omega), by simp only; omega, ?_⟩, by simp only; omega⟩
    simp only
    rw [take_snoc hxi, addL_snoc]
    exact hown3
  try simp only [zW, zU, reduceIte, Nat.reduceEqDiff, Nat.reduceAdd, reduceCtorEq, Q72]
  refine hM0 _ _ _ ?_; clear hM0 M0 hM1 M1
  have hir : i = roots.length := by omega
  subst hir
  rw [List.take_of_length_le (Nat.le_refl _)] at hown2
  obtain ⟨hQ0, hU0⟩ := collQ_inv hG.wf hrr
  have hS0 : SubQ (pushF (List.replicate (H.length + 1) false) [] roots).1 (pushF (List.replicate (H.length + 1) false) [] roots).2 := pushF_sub roots _ _ (fun x hx => (hrr x hx).1) (subQ_rep _)
  have hadd : (pushF (List.replicate (H.length + 1) false) [] roots).2 = addL [] roots := push_add roots _ _ hrr (Qok.nil _) (subQ_rep _)
  rw [← hadd] at hown2
  have hcol : bfs H (H.length + 1) (pushF (List.replicate (H.length + 1) false) [] roots).1 (pushF (List.replicate (H.length + 1) false) [] roots).2 0 = collQ H roots := rfl
  generalize (pushF (List.replicate (H.length + 1) false) [] roots).1 = sn0 at hQ0 hU0 hS0 hcol
  generalize (pushF (List.replicate (H.length + 1) false) [] roots).2 = q0 at hQ0 hU0 hS0 hcol hown2
  clear hadd
  refine ok_seq (fun M0 hM0 => ?_)
  refine ok_seq (fun M hM => ok_region rfl ?_); (try revert X); refine t72 ?_; intro X hX
  refine hM _ _ _ ?_; clear hM M
  refine ok_block ?_
  refine ok_loop (S := (List Bool × List Int) × Nat × Value) (fun s => [(0, ptrOf qb), (5, s.2.2), (7, .int .i64 (s.2.1 : Int))])
    (fun s w' => Ext w w' ∧ s.2.1 ≤ s.1.2.length ∧ Qok H.length s.1.1 s.1.2 ∧ SubQ s.1.1 s.1.2 ∧ unseen s.1.1 + s.1.2.length = H.length + 1 ∧ bfs H (H.length + 1 - s.2.1) s.1.1 s.1.2 s.2.1 = collQ H roots ∧ w'.ownsRow base 3 1 s.2.2 s.1.2.length (ivs s.1.2))
    (fun s => H.length + 1 - s.2.1) ((sn0, q0), 0, va) ?_ ?_ ?_
  · simp [sub, Env.get]
  · exact ⟨he2, Nat.zero_le _, hQ0, hS0, hU0, hcol, hown2⟩
  clear hQ0 hU0 hS0 hcol hown2 he2 he1 hown1 hs1 hb1 hc
  clear w1 w2 va sn0 q0
  rintro ⟨⟨sn, q⟩, i, va⟩ w2 ⟨he2, hi, hQ, hS, hU, hcol, hown2⟩
  simp only at hi hQ hS hU hcol hown2 ⊢
  obtain ⟨Aq, cq, hva⟩ := own_base w2 va q hown2 (by omega)
  have hslq := sli_own hown2 (by omega)
  subst hva
  obtain ⟨_, _, h1, hqlen, hqcell⟩ := id hslq
  rw [ints_length] at h1; cases h1
  refine ok_seq (fun M1 hM1 => ?_)
  refine ok_seq (fun M hM => ok_region rfl ?_); (try revert X); refine t72 ?_; intro X hX
  refine hM _ _ _ ?_; clear hM M
  refine ok_if rfl (fun hc => ok_skip ?_) (fun hc => ok_exit ?_)
  rotate_left
  · try simp only [zW, zU, reduceIte, Nat.reduceEqDiff, Nat.reduceAdd, reduceCtorEq, Q72]
    refine hM0 _ _ _ ?_; clear hM0 M0 hM1 M1
    have hiq : i = q.length := by omega
    have hfin : collQ H roots = q := by
      rw [← hcol]
      cases hf : H.length + 1 - i with
      | zero => rfl
      | succ f => simp only [bfs]; rw [List.getElem?_eq_none (by omega)]
    refine ok_seq (fun M hM => ok_region rfl ?_); (try revert X); refine t72 ?_; intro X hX
    refine hM _ _ _ ?_; clear hM M
    refine ok_ret ?_
    rw [hfin]
    exact ⟨rfl, hown2, he2⟩
  try simp only [zW, zU, reduceIte, Nat.reduceEqDiff, Nat.reduceAdd, reduceCtorEq, Q72]
  refine hM1 _ _ _ ?_; clear hM1 M1
  have hiq : i < q.length := by omega
  have hqi : q[i]? = some q[i] := List.getElem?_eq_getElem hiq
  have hr := hQ.ref q[i] (List.getElem_mem hiq)
  generalize q[i] = r at hqi hr
  obtain ⟨b, o, rfl, hcc⟩ := hqcell i [.int .i64 r] (by simp [ints, hqi])
  have hcq : w2.cell? ⟨b, o + i, none⟩ = some (.int .i64 r) := by have := hcc 0 _ rfl; simpa [add_at] using this
  obtain ⟨k, ob, hrk, hkl, hko, hoo⟩ := objAt_in hr.1 hr.2
  obtain ⟨g, cap, vw, hv, -, hocell, hownw⟩ := hrm.at_ (by omega) hko
  rw [hvL] at hv; cases hv
  have hll : ob.list.length ≤ 1048576 := hG.lim _ (List.mem_of_getElem? hko)
  have hslw : SlW w vw ob.list := Sli.of_own hownw rfl (fun r hr => (words_rows _ r hr).1) (by simp) (by omega)
  obtain ⟨Aw, cw, rfl, hwlen, hwcell⟩ := id hslw
  rw [wd_len] at hslw hocell hwlen
  have hhd2 : ∀ w', Ext w2 w' → w'.cell? ⟨qb, 0, none⟩ = some (.slice (some ⟨g, 0, none⟩) H.length cL) := fun w' h => by rw [← hvL]; exact (hhd.ext (he2.trans h)).cell (j := 0) rfl
  have e1 : ((r - 1).toNat) = k := by omega
  have hlo : listO (objAt H r) = ob.list := by rw [hoo]; rfl
  refine ok_seq (fun M1 hM1 => ok_block ?_)
  refine ok_seq (fun M hM => ?_)
  refine (ok_draw 13 [] (Ext _) Fx.mixed (by decide) rfl (by decide +kernel) (by decide +kernel) (Ext.drew _) ?_)
  (try revert X); refine t72 ?_; intro X hX
  refine ⟨_, fun w' h => hhd2 w' h, ?_⟩
  (try revert X); refine t72 ?_; intro X hX
  refine ⟨by omega, by omega, ?_⟩
  (try revert X); refine t72 ?_; intro X hX
  refine ⟨.int .i64 r, fun w' h => by have := h.cell hcq; simpa [add_at] using this, ?_⟩
  (try revert X); refine t72 ?_; intro X hX
  refine ⟨by simp only [inI]; omega, ?_⟩
  (try revert X); refine t72 ?_; intro X hX
  refine ⟨by omega, by omega, ?_⟩
  (try revert X); refine t72 ?_; intro X hX
  refine ⟨.slice Aw ob.list.length cw, fun w' h => by
    have := (he2.trans h).cell (hocell 3 _ rfl)
    rw [e1]
    simpa [add_at] using this, ?_⟩
  (try revert X); refine t72 ?_; intro X hX
  intro w3 he3
  (try revert X); refine t72 ?_; intro X hX
  refine hM _ _ _ ?_; clear hM M
  refine ok_seq (fun M hM => ok_region rfl ?_); (try revert X); refine t72 ?_; intro X hX
  refine hM _ _ _ ?_; clear hM M
  have hown3 := owns_chg' hown2 (he3.chg (fun _ => False)) (fun _ _ h => h)
  refine ok_block ?_
  refine ok_loop (S := Nat × Value) (fun s => [(0, ptrOf qb), (5, s.2), (7, .int .i64 (i : Int)), (8, .slice Aw ob.list.length cw), (9, .int .i64 (s.1 : Int))])
    (fun s w' => Ext w w' ∧ s.1 ≤ ob.list.length ∧ w'.ownsRow base 3 1 s.2 (addL q (ob.list.take s.1)).length (ivs (addL q (ob.list.take s.1)))) (fun s => ob.list.length - s.1) (0, .slice (some ⟨b, o, none⟩) q.length cq) ?_ ?_ ?_
  · simp [sub, Env.get]
  · exact ⟨he2.trans he3, Nat.zero_le _, hown3⟩
  rintro ⟨j, va⟩ w4 ⟨he4, hj, hown4⟩
  simp only at hj hown4 ⊢
  refine ok_seq (fun M2 hM2 => ?_)
  refine ok_seq (fun M hM => ok_region rfl ?_); (try revert X); refine t72 ?_; intro X hX
  refine hM _ _ _ ?_; clear hM M
  refine ok_if rfl (fun hc => ok_skip ?_) (fun hc => ok_exit ?_)
  · try simp only [zW, zU, reduceIte, Nat.reduceEqDiff, Nat.reduceAdd, reduceCtorEq, Q72]
    refine hM2 _ _ _ ?_; clear hM2 M2
    have hjl : j < ob.list.length := by omega
    have hxj : ob.list[j]? = some ob.list[j] := List.getElem?_eq_getElem hjl
    obtain ⟨b', o', rfl, hcc'⟩ := hwcell j ob.list[j].row (by rw [List.getElem?_map, hxj]; rfl)
    refine ok_seq (fun M2 hM2 => ok_block ?_)
    refine ok_region rfl ?_
    (try revert X); refine t72 ?_; intro X hX
    refine ⟨by omega, by omega, ?_⟩
    (try revert X); refine t72 ?_; intro X hX
    refine ⟨ob.list[j].row, rfl, he4.cellsAt hcc', ?_⟩
    (try revert X); refine t72 ?_; intro X hX
    have hal := addL_len (ob.list.take j) q
    have hs4 := he4.size
    have htl : (ob.list.take j).length ≤ 1048576 := by rw [List.length_take]; omega
    refine Inv.call Fx.en99 (add1_ok w4 base qb va (addL q (ob.list.take j)) ob.list[j] (by omega) hown4 (by omega)) ?_
    rintro v' w5 ⟨hown5, hc5⟩
    (try revert X); refine t72 ?_; intro X hX
    refine hM2 _ _ _ ?_; clear hM2 M2
    refine ok_region rfl ?_
    (try revert X); refine t72 ?_; intro X hX
    refine ⟨by simp only [inI]; omega, ?_⟩
    (try revert X); refine t72 ?_; intro X hX
    refine ⟨(j + 1, v'), by simp [sub, Env.get], ⟨he4.chg_trans hc5 (fun k hk => by omega), by simp only; omega, ?_⟩, by simp only; omega⟩
    simp only
    rw [take_snoc hxj, addL_snoc]
    exact hown5
  try simp only [zW, zU, reduceIte, Nat.reduceEqDiff, Nat.reduceAdd, reduceCtorEq, Q72]
  have hjr : j = ob.list.length := by omega
  subst hjr
  rw [List.take_of_length_le (Nat.le_refl _)] at hown4
  have hlr : ∀ x ∈ ob.list, 0 ≤ x.r ∧ x.r ≤ (H.length : Int) := hG.wf _ (List.mem_of_getElem? hko)
  obtain ⟨hQ', -, hU'⟩ := pushF_inv ob.list sn q hlr hQ
  have hS' := pushF_sub ob.list sn q (fun x hx => (hlr x hx).1) hS
  have hadd := push_add ob.list sn q hlr hQ hS
  have hpre := (pushF_inv ob.list sn q hlr hQ).2.1.length_le
  refine hM1 _ _ _ ?_; clear hM2 M2 hM1 M1
  refine ok_region rfl ?_
  (try revert X); refine t72 ?_; intro X hX
  refine ⟨by simp only [inI]; omega, ?_⟩
  (try revert X); refine t72 ?_; intro X hX
  refine ⟨((pushF sn q ob.list), i + 1, va), by simp [sub, Env.get], ⟨he4, by simp only; omega, hQ', hS', by simp only; omega, ?_, ?_⟩, by simp only; omega⟩
  · simp only
    obtain ⟨f, hf⟩ : ∃ f, H.length + 1 - i = f + 1 := ⟨H.length - i, by omega⟩
    rw [hf] at hcol
    simp only [bfs] at hcol
    rw [hqi] at hcol
    simp only at hcol
    rw [hlo] at hcol
    rw [show H.length + 1 - (i + 1) = f by omega]
    exact hcol
  · simp only
    rw [hadd]
    exact hown4

-- -- function 43
set_option maxHeartbeats 1000000 in
set_option maxRecDepth 8000 in
theorem rReached_ok (w : World) (qb : Nat) (H : List Ob) (F : Nat → Prop) (hH : RHeapW w qb H F) (hl : H.length ≤ 1048576) (hG : GoodH H) (rv : Value) (roots : List Wd) (hrs : SlW w rv roots) (hrl : roots.length ≤ 1048576) :
    Rets Tryz.prog 43 [ptrOf qb, rv] w (fun v w' => (roots.any (fun x => !rightW H x) = true → v = .tuple #[.int .i64 0, .int .i64 2] ∧ Ext w w') ∧
      (roots.any (fun x => !rightW H x) = false → v = .tuple #[.int .i64 ((collQ H roots).length : Int), .int .i64 0] ∧ Ext w w')) := by
  refine rets_of_ok Tryz.func43 rfl rfl ?_
  refine ok_seq (fun M hM => ok_region rfl ?_); (try revert X); refine t43 ?_; intro X hX
  refine hM _ _ _ ?_; clear hM M
  refine ok_join [(0, ptrOf qb), (1, rv)] (fun w' => w' = w) ?_ ?_
  · refine ok_seq (fun M hM => ok_region rfl ?_)
    (try revert X); refine t43 ?_; intro X hX
    refine Runs.ptrEq Fx.un27 ?_
    (try revert X); refine t43 ?_; intro X hX
    refine hM _ _ _ ?_; clear hM M
    refine ok_cond rfl (fun h => by cases h) (fun h => ok_skip ?_)
    try simp only [zW, zU, reduceIte, Nat.reduceEqDiff, Nat.reduceAdd, reduceCtorEq, Q43]
    simp [sub, Env.get, argEnv]
  rintro w2 rfl
  refine ok_join [(0, ptrOf qb), (1, rv)] (fun w3 => Ext w2 w3 ∧ roots.any (fun x => !rightW H x) = false) ?_ ?_
  · refine ok_seq (fun M hM => ok_region rfl ?_)
    (try revert X); refine t43 ?_; intro X hX
    refine Inv.call Fx.en71 (rrightl_ok w2 qb H F hH (by omega) rv roots hrs) ?_
    rintro v w3 ⟨rfl, he3⟩
    (try revert X); refine t43 ?_; intro X hX
    refine hM _ _ _ ?_; clear hM M
    cases hr : roots.any (fun x => !rightW H x) with
    | true =>
      refine ok_cond (b := true) rfl (fun _ => ?_) (fun h => by cases h)
      refine ok_seq (fun M hM => ok_region rfl ?_); (try revert X); refine t43 ?_; intro X hX
      refine hM _ _ _ ?_; clear hM M
      refine ok_ret ?_
      exact ⟨rfl, fun _ => ⟨rfl, he3⟩, fun h => by cases h⟩
    | false =>
      refine ok_cond (b := false) rfl (fun h => by cases h) (fun _ => ok_skip ?_)
      exact ⟨rfl, by simp [sub, Env.get], he3, rfl⟩
  rintro w3 ⟨he3, hr⟩
  have hall : ∀ x ∈ roots, 0 ≤ x.r ∧ x.r ≤ (H.length : Int) := fun x hx => right_ref (by
    have := List.any_eq_false.1 hr x hx
    simpa using this)
  refine ok_seq (fun M hM => ok_region rfl ?_)
  (try revert X); refine t43 ?_; intro X hX
  refine Inv.call Fx.en72 (rreached_ok w3 qb H F (hH.ext he3) hl hG rv roots (hrs.ext he3) hrl hall) ?_
  rintro v w4 ⟨hown4, he4⟩
  obtain ⟨-, -, A, c, rfl⟩ := owns_one hown4
  (try revert X); refine t43 ?_; intro X hX
  refine hM _ _ _ ?_; clear hM M
  refine ok_ret ?_
  try simp only [zW, zU, reduceIte, Nat.reduceEqDiff, Nat.reduceAdd, reduceCtorEq, Q43]
  refine ⟨fun h => ?_, fun _ => ?_⟩
  · rw [hr] at h; cases h
  · first | exact ⟨rfl, he3.trans he4⟩ | exact he3.trans he4
end Go.Proofs.YtldeokfhipjbfaaGreatDoor
/- The reference's heap: moved. -/
set_option linter.unusedVariables false
set_option linter.unusedSimpArgs false
namespace Go.Proofs.YtldeokfhipjbfaaGreatDoor
open Go Go.Proofs.Vg Go.RowKit
/-- A word with the place of its number for its number. -/
def mvP (q : List Int) (x : Wd) : Wd := ⟨x.k, x.n, placeF q x.r⟩

-- -- function 73
set_option maxHeartbeats 2000000 in
set_option maxRecDepth 8000 in
theorem rmoved_ok (w : World) (v : Value) (l : List Wd) (vq : Value) (q : List Int) (hs : SlW w v l) (hll : l.length ≤ 1048576) (hq : SlI w vq q) :
    Rets Tryz.prog 73 [v, vq] w (fun v' w' => w'.ownsRow w.heap.size 75 3 v' l.length (oflat (l.map (mvP q))) ∧ Ext w w') := by
  obtain ⟨A, c, rfl, hlen, hcell⟩ := id hs
  rw [wd_len] at hlen ⊢
  obtain ⟨Aq, cq, rfl, hqlen, -⟩ := id hq
  rw [ints_length] at hq hqlen ⊢
  generalize hbase : w.heap.size = base
  refine rets_of_ok Tryz.func73 rfl rfl ?_
  refine ok_seq (fun M hM => ok_region rfl ?_); (try revert X); refine t73 ?_; intro X hX
  refine hM _ _ _ ?_; clear hM M
  refine ok_seq (fun M hM => ok_region rfl ?_)
  (try revert X); refine t73 ?_; intro X hX
  refine Runs.lit00 Fx.un30 Fx.zi75 (fun w1 he1 hs1 hb1 => ?_)
  (try revert X); refine t73 ?_; intro X hX
  refine hM _ _ _ ?_; clear hM M
  have hown1 : w1.ownsRow base 75 3 (.slice (some ⟨w.heap.size, 0, none⟩) 0 0) 0 [] := ⟨by simp, .inr ⟨w.heap.size, 0, #[], rfl, by omega, by simpa [Blk] using hb1, Nat.le_refl _, by decide, by simp, by simp⟩⟩
  refine ok_seq (fun M0 hM0 => ?_)
  refine ok_seq (fun M hM => ok_region rfl ?_); (try revert X); refine t73 ?_; intro X hX
  refine hM _ _ _ ?_; clear hM M
  refine ok_block ?_
  refine ok_loop (S := Nat × Value) (fun s => [(0, .slice A l.length c), (1, .slice Aq q.length cq), (5, s.2), (6, .int .i64 (s.1 : Int))])
    (fun s w' => Ext w w' ∧ s.1 ≤ l.length ∧ w'.ownsRow base 75 3 s.2 s.1 (oflat ((l.take s.1).map (mvP q)))) (fun s => l.length - s.1) (0, .slice (some ⟨w.heap.size, 0, none⟩) 0 0) ?_ ?_ ?_
  · simp [sub, Env.get, argEnv]
  · exact ⟨he1, Nat.zero_le _, hown1⟩
  rintro ⟨i, va⟩ w2 ⟨he2, hi, hown2⟩
  simp only at hi hown2 ⊢
  refine ok_seq (fun M1 hM1 => ?_)
  refine ok_seq (fun M hM => ok_region rfl ?_); (try revert X); refine t73 ?_; intro X hX
  refine hM _ _ _ ?_; clear hM M
  refine ok_if rfl (fun hc => ok_skip ?_) (fun hc => ok_exit ?_)
  rotate_left
  · try simp only [zW, zU, reduceIte, Nat.reduceEqDiff, Nat.reduceAdd, reduceCtorEq, Q73]
    refine hM0 _ _ _ ?_; clear hM0 M0 hM1 M1
    have hir : i = l.length := by omega
    subst hir
    rw [List.take_of_length_le (Nat.le_refl _)] at hown2
    refine ok_seq (fun M hM => ok_region rfl ?_); (try revert X); refine t73 ?_; intro X hX
    refine hM _ _ _ ?_; clear hM M
    refine ok_ret ?_
    exact ⟨rfl, hown2, he2⟩
  try simp only [zW, zU, reduceIte, Nat.reduceEqDiff, Nat.reduceAdd, reduceCtorEq, Q73]
  refine hM1 _ _ _ ?_; clear hM1 M1
  have hil : i < l.length := by omega
  have hxi : l[i]? = some l[i] := List.getElem?_eq_getElem hil
  obtain ⟨b, o, rfl, hcc⟩ := hcell i l[i].row (by rw [List.getElem?_map, hxi]; rfl)
  generalize l[i] = x at hxi hcc
  refine ok_seq (fun M1 hM1 => ok_block ?_)
  refine ok_seq (fun M hM => ok_region rfl ?_)
  (try revert X); refine t73 ?_; intro X hX
  refine ⟨by omega, by omega, ?_⟩
  (try revert X); refine t73 ?_; intro X hX
  refine ⟨x.row, rfl, he2.cellsAt hcc, ?_⟩
  (try revert X); refine t73 ?_; intro X hX
  refine Runs.alloc Fx.zi75 (fun w3 he3 hs3 hb3 => ?_)
  simp only [Value.cells] at hb3
  generalize hB : w2.heap.size = B at hs3 hb3
  (try revert X); refine t73 ?_; intro X hX
  refine Runs.store hb3 Fx.zi75 rfl (by intro u hu; simp [Value.cells, Wd.row] at hu; rcases hu with rfl | rfl | rfl <;> rfl) (by simp) (fun w4 hc4 hs4 hb4 => ?_)
  rw [splice_all _ _ (by simp [Value.cells])] at hb4
  simp only [Value.cells, Wd.row] at hb4
  have hs2 := he2.size
  have he24 : Ext w2 w4 := he3.chg_trans hc4 (fun k hk => by omega)
  (try revert X); refine t73 ?_; intro X hX
  refine hM _ _ _ ?_; clear hM M
  refine ok_seq (fun M hM => ok_region rfl ?_)
  (try revert X); refine t73 ?_; intro X hX
  refine ⟨_, hb4.cell (j := 2) rfl, ?_⟩
  (try revert X); refine t73 ?_; intro X hX
  refine Inv.call Fx.en100 (place_ok w4 Aq cq q x.r (hq.ext (he2.trans he24))) ?_
  rintro v w5 ⟨rfl, rfl⟩
  (try revert X); refine t73 ?_; intro X hX
  refine Runs.store hb4 Fx.zi3 rfl (by intro u hu; simp [Value.cells] at hu; subst hu; rfl) (by simp) (fun w6 hc6 hs6 hb6 => ?_)
  have hb6' : Blk w6 B (mvP q x).row 75 := by simpa [splice, Value.cells, Wd.row, mvP] using hb6
  have he26 : Ext w2 w6 := he24.chg_trans hc6 (fun k hk => by omega)
  (try revert X); refine t73 ?_; intro X hX
  refine hM _ _ _ ?_; clear hM M
  have hown6 := owns_chg' hown2 (he26.chg (fun _ => False)) (fun _ _ h => h)
  have hs26 := he26.size
  refine ok_region rfl ?_
  (try revert X); refine t73 ?_; intro X hX
  refine ⟨(mvP q x).row, rfl, hb6'.cells (o := 0) (fun j u hj => by simpa using hj), ?_⟩
  (try revert X); refine t73 ?_; intro X hX
  refine Runs.lit (cs := (mvP q x).row) Fx.un30 Fx.zi75 (by decide) (by kernel_rfl) (by decide) (fun w7 he7 hs7 hb7 => ?_)
  have hown7 := owns_chg' hown6 (he7.chg (fun _ => False)) (fun _ _ h => h)
  (try revert X); refine t73 ?_; intro X hX
  refine Runs.append1' Fx.un30 Fx.zi75 rfl (by decide) hown7 hb7 rfl (by intro u hu; simp [Wd.row] at hu; rcases hu with rfl | rfl | rfl <;> rfl) (by simp [maxLen]; omega) (by omega) (by omega) (fun v' w8 hown8 hg8 hblk8 => ?_)
  have hc8 : Chg (fun k => base ≤ k) w7 w8 := (grown_chg hg8).mono (fun k _ hk => (hown7.lt k hk).1)
  (try revert X); refine t73 ?_; intro X hX
  refine hM1 _ _ _ ?_; clear hM1 M1
  refine ok_region rfl ?_
  (try revert X); refine t73 ?_; intro X hX
  refine ⟨by simp only [inI]; omega, ?_⟩
  (try revert X); refine t73 ?_; intro X hX
  refine ⟨(i + 1, v'), by simp [sub, Env.get], ⟨((he2.trans he26).trans he7).chg_trans hc8 (fun k hk => by omega), by simp only; omega, ?_⟩, by simp only; omega⟩
  simp only
  rw [take_snoc hxi, List.map_append, show oflat ((l.take i).map (mvP q) ++ [x].map (mvP q)) = oflat ((l.take i).map (mvP q)) ++ (mvP q x).row by simp [oflat]]
  exact hown8
end Go.Proofs.YtldeokfhipjbfaaGreatDoor
/- The reference's heap: Collect. -/
set_option linter.unusedVariables false
set_option linter.unusedSimpArgs false
namespace Go.Proofs.YtldeokfhipjbfaaGreatDoor
open Go Go.Proofs.Vg Go.RowKit
theorem mvP_eq {H : List Ob} {roots : List Wd} (hG : GoodH H) (hr : ∀ x ∈ roots, 0 ≤ x.r ∧ x.r ≤ (H.length : Int)) {x : Wd} (h : Kept H roots x) : mvP (collQ H roots) x = mvT H roots x := by
  have hnd := collQ_nd hG.wf hr
  have : placeF (collQ H roots) x.r = (mvT H roots x).r := by
    rcases h with h | h
    · rw [mv_zero hG hr h, placeF_none (fun hm => by have := (hnd.2 _ hm).1; omega)]
    · obtain ⟨j, hj⟩ := List.mem_iff_getElem?.1 h
      rw [mv_at hG hr hj, placeF_at hj (fun i hi he => by
        have h1 := (List.getElem?_eq_some_iff.1 hj).1
        have h2 := (List.getElem?_eq_some_iff.1 he).1
        have h3 : (collQ H roots)[i] = (collQ H roots)[j] := by
          rw [List.getElem?_eq_getElem h1] at hj
          rw [List.getElem?_eq_getElem h2] at he
          rw [Option.some.inj hj, Option.some.inj he]
        have := (List.getElem_inj hnd.1).1 h3
        omega)]
  unfold mvP
  rw [this]
  rfl
theorem moveO_row (tos : List Int) (o : Ob) (v : Value) : orow (moveO tos (some o)) v = orow o v := by cases o <;> rfl
theorem moveO_list (tos : List Int) (o : Ob) : (moveO tos (some o)).list = o.list.map (mvW tos) := by cases o <;> rfl

-- -- function 31
set_option maxHeartbeats 4000000 in
set_option maxRecDepth 8000 in
theorem rCollect_ok (w : World) (qb : Nat) (H : List Ob) (F : Nat → Prop) (hH : RHeapW w qb H F) (hF : ∀ k, F k → k < w.heap.size) (hl : H.length ≤ 1048576) (hG : GoodH H) (rv : Value) (roots : List Wd) (hrsT : ∀ W', Chg F w W' → SlW W' rv roots) (hrl : roots.length ≤ 1048576) :
    Rets Tryz.prog 31 [ptrOf qb, rv] w (fun v w' => (roots.any (fun x => !rightW H x) = true → v = .tuple #[.slice none 0 0, .int .i64 2] ∧ RGrown w w' qb H F) ∧
      (roots.any (fun x => !rightW H x) = false → ∃ A c, v = .tuple #[.slice A roots.length c, .int .i64 0] ∧ Chg F w w' ∧ ∃ F', RHeapW w' qb (collH H roots) F' ∧ (∀ k, F' k → F k ∨ (w.heap.size ≤ k ∧ k < w'.heap.size)) ∧
        w'.ownsRow 0 75 3 (.slice A roots.length c) roots.length (oflat (roots.map (mvT H roots))) ∧ ∀ k, (Value.slice A roots.length c).ownBlock = some k → w.heap.size ≤ k ∧ ¬ F' k)) := by
  have hrs : SlW w rv roots := hrsT w (Chg.refl _ _)
  have hH0 := hH
  obtain ⟨vL, vws0, rows0, ⟨hhd, hrm, hhn⟩, hfoot⟩ := hH
  obtain ⟨AL, cL, hvL⟩ := hrm.len
  have hFq := hfoot qb (.inl rfl)
  refine rets_of_ok Tryz.func31 rfl rfl ?_
  refine ok_seq (fun M hM => ok_region rfl ?_); (try revert X); refine t31 ?_; intro X hX
  refine hM _ _ _ ?_; clear hM M
  refine ok_join [(0, ptrOf qb), (1, rv)] (fun w' => w' = w) ?_ ?_
  · refine ok_seq (fun M hM => ok_region rfl ?_)
    (try revert X); refine t31 ?_; intro X hX
    refine Runs.ptrEq Fx.un27 ?_
    (try revert X); refine t31 ?_; intro X hX
    refine hM _ _ _ ?_; clear hM M
    refine ok_cond rfl (fun h => by cases h) (fun h => ok_skip ?_)
    try simp only [zW, zU, reduceIte, Nat.reduceEqDiff, Nat.reduceAdd, reduceCtorEq, Q31]
    simp [sub, Env.get, argEnv]
  rintro w' rfl
  refine ok_join [(0, ptrOf qb), (1, rv)] (fun w3 => Ext w' w3 ∧ roots.any (fun x => !rightW H x) = false) ?_ ?_
  · refine ok_seq (fun M hM => ok_region rfl ?_)
    (try revert X); refine t31 ?_; intro X hX
    refine Inv.call Fx.en71 (rrightl_ok w' qb H F hH0 (by omega) rv roots hrs) ?_
    rintro v w3 ⟨rfl, he3⟩
    (try revert X); refine t31 ?_; intro X hX
    refine hM _ _ _ ?_; clear hM M
    cases hr : roots.any (fun x => !rightW H x) with
    | true =>
      refine ok_cond (b := true) rfl (fun _ => ?_) (fun h => by cases h)
      refine ok_seq (fun M hM => ok_region rfl ?_); (try revert X); refine t31 ?_; intro X hX
      refine hM _ _ _ ?_; clear hM M
      refine ok_ret ?_
      exact ⟨rfl, fun _ => ⟨rfl, RGrown.same hH0 he3⟩, fun h => by cases h⟩
    | false =>
      refine ok_cond (b := false) rfl (fun h => by cases h) (fun _ => ok_skip ?_)
      exact ⟨rfl, by simp [sub, Env.get], he3, rfl⟩
  rintro w3 ⟨he3, hr⟩
  have hall : ∀ x ∈ roots, 0 ≤ x.r ∧ x.r ≤ (H.length : Int) := fun x hx => right_ref (by
    have := List.any_eq_false.1 hr x hx
    simpa using this)
  have hnd := collQ_nd hG.wf hall
  have hQl : (collQ H roots).length ≤ H.length := by
    have := nodup_len (a := collQ H roots) (b := (List.range H.length).map fun i : Nat => ((i : Int) + 1)) hnd.1 (fun r hr => by
      have := hnd.2 r hr
      exact List.mem_map.2 ⟨(r - 1).toNat, List.mem_range.2 (by omega), by omega⟩)
    simpa using this
  refine ok_seq (fun M hM => ok_region rfl ?_)
  (try revert X); refine t31 ?_; intro X hX
  refine Inv.call Fx.en72 (rreached_ok w3 qb H F (hH0.ext he3) hl hG rv roots (hrs.ext he3) hrl hall) ?_
  rintro vq w4 ⟨hown4, he4⟩
  have hslq := sli_own hown4 (by omega)
  obtain ⟨-, -, Aq, cq, rfl⟩ := owns_one hown4
  have hqb4 : ∀ k, (Value.slice Aq (collQ H roots).length cq).ownBlock = some k → w'.heap.size ≤ k := fun k hk => by have := (hown4.lt k hk).1; have := he3.size; omega
  (try revert X); refine t31 ?_; intro X hX
  refine hM _ _ _ ?_; clear hM M
  refine ok_seq (fun M hM => ok_region rfl ?_)
  (try revert X); refine t31 ?_; intro X hX
  refine Runs.lit00 Fx.un72 Fx.zi120 (fun w5 he5 hs5 hb5 => ?_)
  (try revert X); refine t31 ?_; intro X hX
  refine hM _ _ _ ?_; clear hM M
  have he04 := he3.trans he4
  have hs04 := he04.size
  have he05 := he04.trans he5
  generalize hQ : collQ H roots = Q at *
  obtain ⟨_, _, h1, hqlen, hqcell⟩ := id hslq
  rw [ints_length] at h1; cases h1
  generalize hT : collT H roots = T
  have hcH : collH H roots = Q.map fun r => moveO T (objAt H r) := by unfold collH; rw [hQ, hT]
  have hcl : (collH H roots).length = Q.length := by rw [hcH]; simp
  have hmoved : ∀ x : Wd, Kept H roots x → mvP Q x = mvW T x := fun x hx => by
    have := mvP_eq hG hall hx
    rw [hQ] at this
    rw [this, ← hT]; rfl
  refine ok_seq (fun M0 hM0 => ?_)
  refine ok_seq (fun M hM => ok_region rfl ?_); (try revert X); refine t31 ?_; intro X hX
  refine hM _ _ _ ?_; clear hM M
  refine ok_block ?_
  refine ok_loop (S := Nat × Value × List Value × List (List Value)) (fun s => [(0, ptrOf qb), (1, rv), (6, .slice Aq Q.length cq), (7, s.2.1), (8, .int .i64 (s.1 : Int))])
    (fun s W => Ext w4 W ∧ s.1 ≤ Q.length ∧ RM W s.2.1 s.2.2.1 s.2.2.2 ((collH H roots).take s.1) ∧ ∀ k, RF s.2.1 s.2.2.1 k → w4.heap.size ≤ k) (fun s => Q.length - s.1) (0, .slice (some ⟨w4.heap.size, 0, none⟩) 0 0, [], []) ?_ ?_ ?_
  · simp [sub, Env.get]
  · refine ⟨he5, Nat.zero_le _, ⟨owns_empty hb5, rfl, rfl, fun i o ho => by simp at ho, fun i j u v k hu => by simp at hu, fun k hk i v hi => by simp at hi⟩, fun k hk => ?_⟩
    rcases hk with hk | ⟨i, v, hi, _⟩
    · simp [Value.ownBlock] at hk; omega
    · simp at hi
  rintro ⟨i, vk, vws, rows⟩ w6 ⟨he46, hi, hrk, hnew0⟩
  simp only at hi hrk hnew0 ⊢
  have he6 := he04.trans he46
  have hnew : ∀ k, RF vk vws k → w'.heap.size ≤ k := fun k hk => by have := hnew0 k hk; omega
  have hlt : ((collH H roots).take i).length = i := by rw [List.length_take]; omega
  have hhd6 : ∀ W, Ext w6 W → W.cell? ⟨qb, 0, none⟩ = some (.slice AL H.length cL) := fun W h => by rw [← hvL]; exact (hhd.ext (he6.trans h)).cell (j := 0) rfl
  have hs6 := he6.size
  refine ok_seq (fun M1 hM1 => ?_)
  refine ok_seq (fun M hM => ok_region rfl ?_); (try revert X); refine t31 ?_; intro X hX
  refine hM _ _ _ ?_; clear hM M
  refine ok_if rfl (fun hc => ok_skip ?_) (fun hc => ok_exit ?_)
  rotate_left
  · try simp only [zW, zU, reduceIte, Nat.reduceEqDiff, Nat.reduceAdd, reduceCtorEq, Q31]
    refine hM0 _ _ _ ?_; clear hM0 M0 hM1 M1
    have hiq : i = Q.length := by omega
    subst hiq
    rw [List.take_of_length_le (by omega)] at hrk
    obtain ⟨Ak, ck, hvk⟩ := hrk.len
    have hb6 : Blk w6 qb [vL] 74 := hhd.ext he6
    subst hvk
    refine ok_seq (fun M hM => ok_region rfl ?_)
    (try revert X); refine t31 ?_; intro X hX
    refine Runs.store hb6 Fx.zi72 rfl (by intro u hu; simp [Value.cells] at hu; subst hu; rfl) (by simp) (fun w7 hc7 hs7 hb7 => ?_)
    rw [splice_all _ _ (by simp [Value.cells])] at hb7
    simp only [Value.cells] at hb7
    (try revert X); refine t31 ?_; intro X hX
    refine hM _ _ _ ?_; clear hM M
    have hc07 : Chg F w' w7 := (he6.chg F).thn hc7 (fun k hk => .inl (by rw [hk]; exact hFq.1))
    have hqlt := hFq.2
    have hslq7 : SlI w7 (.slice Aq Q.length cq) Q := by
      have h := hown4.lt
      have hown7 : w7.ownsRow w3.heap.size 3 1 (.slice Aq Q.length cq) Q.length (ivs Q) := by
        have hc47 : Chg (fun k => k < w'.heap.size) w4 w7 := (he46.chg _).trans (hc7.mono fun k _ hk => by rw [hk]; exact hqlt)
        exact owns_chg' hown4 hc47 (fun k hk e => by have := hqb4 k hk; omega)
      exact sli_own hown7 (by omega)
    refine ok_seq (fun M hM => ok_region rfl ?_)
    (try revert X); refine t31 ?_; intro X hX
    refine Inv.call Fx.en73 (rmoved_ok w7 rv roots (.slice Aq Q.length cq) Q (hrsT w7 hc07) hrl hslq7) ?_
    rintro v w8 ⟨hown8, he8⟩
    obtain ⟨-, -, A8, c8, rfl⟩ := owns_one hown8
    (try revert X); refine t31 ?_; intro X hX
    refine hM _ _ _ ?_; clear hM M
    refine ok_ret ?_
    refine ⟨rfl, fun h => (by rw [hr] at h; cases h), fun _ => ⟨A8, c8, rfl, hc07.thn (he8.chg (fun _ => False)) (fun k h => h.elim), fun k => k = qb ∨ RF (.slice Ak (collH H roots).length ck) vws k, ?_, ?_, ?_, ?_⟩⟩
    · have hrk8 := (hrk.chg hc7 (fun k hk e => by have := hnew k hk; omega)).chg (he8.chg (fun _ => False)) (fun _ _ => id)
      refine ⟨.slice Ak (collH H roots).length ck, vws, rows, ⟨hb7.ext he8, hrk8, fun hf => by have := hnew qb hf; omega⟩, fun k hk => ⟨hk, ?_⟩⟩
      rcases hk with rfl | hk
      · exact (hb7.ext he8).lt
      · exact hrk8.flt k hk
    · rintro k (rfl | hk)
      · exact .inl hFq.1
      · have h1 := hnew k hk
        have h2 := hrk.flt k hk
        have h3 := hc7.size
        have h4 := he8.size
        exact .inr (by omega)
    · have : roots.map (mvP Q) = roots.map (mvT H roots) := by
        refine List.map_congr_left (fun x hx => ?_)
        have := mvP_eq hG hall (x := x) (collQ_roots hG.wf hall x hx)
        rw [hQ] at this
        exact this
      rw [← this]
      exact own_zero hown8
    · intro k hk
      have h1 := (hown8.lt k hk).1
      have h3 := hc7.size
      refine ⟨by omega, ?_⟩
      rintro (rfl | hf)
      · omega
      · have h2 := hrk.flt k hf
        omega
  try simp only [zW, zU, reduceIte, Nat.reduceEqDiff, Nat.reduceAdd, reduceCtorEq, Q31]
  refine hM1 _ _ _ ?_; clear hM1 M1
  have hiq : i < Q.length := by omega
  have hqi : Q[i]? = some Q[i] := List.getElem?_eq_getElem hiq
  have hrq := hnd.2 Q[i] (List.getElem_mem hiq)
  have hrQ : Q[i] ∈ Q := List.getElem_mem hiq
  generalize Q[i] = r at hqi hrq hrQ
  obtain ⟨b, o, rfl, hcc⟩ := hqcell i [.int .i64 r] (by simp [ints, hqi])
  have hcq : w4.cell? ⟨b, o + i, none⟩ = some (.int .i64 r) := by have := hcc 0 _ rfl; simpa [add_at] using this
  obtain ⟨k, ob, hrk', hkl, hko, hoo⟩ := objAt_in hrq.1 hrq.2
  obtain ⟨g, cap, vw, hv, -, hocell, hownw⟩ := hrm.at_ (by omega) hko
  rw [hvL] at hv; cases hv
  have hll : ob.list.length ≤ 1048576 := hG.lim _ (List.mem_of_getElem? hko)
  have hslw : SlW w' vw ob.list := Sli.of_own hownw rfl (fun r hr => (words_rows _ r hr).1) (by simp) (by omega)
  obtain ⟨Aw, cw, rfl, hwlen, hwcell⟩ := id hslw
  rw [wd_len] at hslw hocell hwlen hownw
  have e1 : ((r - 1).toNat) = k := by omega
  have hlo : listO (objAt H r) = ob.list := by rw [hoo]; rfl
  refine ok_seq (fun M1 hM1 => ok_block ?_)
  refine ok_seq (fun M hM => ?_)
  refine (ok_draw 11 [(true, false), (false, true)] (Ext _) Fx.mixed (by decide) rfl (by decide +kernel) (by decide +kernel) (Ext.drew _) ?_)
  (try revert X); refine t31 ?_; intro X hX
  refine ⟨_, fun W h => hhd6 W h, ?_⟩
  (try revert X); refine t31 ?_; intro X hX
  refine ⟨by omega, by omega, ?_⟩
  (try revert X); refine t31 ?_; intro X hX
  refine ⟨.int .i64 r, fun W h => by have := (he46.trans h).cell hcq; simpa [add_at] using this, ?_⟩
  (try revert X); refine t31 ?_; intro X hX
  refine ⟨by simp only [inI]; omega, ?_⟩
  (try revert X); refine t31 ?_; intro X hX
  refine ⟨by omega, by omega, ?_⟩
  (try revert X); refine t31 ?_; intro X hX
  refine ⟨orow ob (.slice Aw ob.list.length cw), rfl, fun W h => by
    intro j u hj
    have := (he6.trans h).cell (hocell j u hj)
    rw [e1]
    simpa [add_at, Nat.add_assoc] using this, ?_⟩
  (try revert X); refine t31 ?_; intro X hX
  intro w7 he7
  (try revert X); refine t31 ?_; intro X hX
  refine Runs.alloc Fx.zi120 (fun w8 he8 hs8 hb8 => ?_)
  simp only [Value.cells] at hb8
  generalize hB : w7.heap.size = B at hs8 hb8
  refine ⟨he7.trans he8, ?_⟩
  (try revert X); refine t31 ?_; intro X hX
  refine Runs.store hb8 Fx.zi120 (by simp [Value.cells, orow]) (by intro u hu; simp [Value.cells, orow] at hu; rcases hu with rfl | rfl | rfl | rfl <;> rfl) (by simp) (fun w9 hc9 hs9 hb9 => ?_)
  rw [splice_all _ _ (by simp [Value.cells, orow])] at hb9
  simp only [Value.cells] at hb9
  have hs7 := he7.size
  have he69 : Ext w6 w9 := (he7.trans he8).chg_trans hc9 (fun k hk => by omega)
  (try revert X); refine t31 ?_; intro X hX
  refine hM _ _ _ ?_; clear hM M
  have hslw9 : SlW w9 (.slice Aw ob.list.length cw) ob.list := hslw.ext (he6.trans he69)
  have hslq9 : SlI w9 (.slice (some ⟨b, o, none⟩) Q.length cq) Q := hslq.ext (he46.trans he69)
  refine ok_seq (fun M hM => ok_region rfl ?_)
  (try revert X); refine t31 ?_; intro X hX
  refine ⟨_, hb9.cell (j := 3) rfl, ?_⟩
  (try revert X); refine t31 ?_; intro X hX
  refine Inv.call Fx.en73 (rmoved_ok w9 _ ob.list (.slice (some ⟨b, o, none⟩) Q.length cq) Q hslw9 hll hslq9) ?_
  rintro v w10 ⟨hown10, he10⟩
  obtain ⟨-, -, A10, c10, rfl⟩ := owns_one hown10
  have hb10 := hb9.ext he10
  (try revert X); refine t31 ?_; intro X hX
  refine Runs.store hb10 Fx.zi30 rfl (by intro u hu; simp [Value.cells] at hu; subst hu; rfl) (by simp [orow]) (fun w11 hc11 hs11 hb11 => ?_)
  have hb11' : Blk w11 B (orow ob (.slice A10 ob.list.length c10)) 120 := by simpa [splice, Value.cells, orow] using hb11
  (try revert X); refine t31 ?_; intro X hX
  refine hM _ _ _ ?_; clear hM M
  have hs69 := he69.size
  have hs10 := he10.size
  have he6b : Ext w6 w11 := (he69.trans he10).chg_trans hc11 (fun k hk => by omega)
  have hc11' : Chg (fun k => k = B) w10 w11 := hc11
  have hvb : ∀ k, (Value.slice A10 ob.list.length c10).ownBlock = some k → w9.heap.size ≤ k ∧ k < w10.heap.size := fun k hk => hown10.lt k hk
  have hBlt : B < w9.heap.size := hb9.lt
  have hown11 := owns_chg' hown10 hc11' (fun k hk e => by have := hvb k hk; omega)
  refine ok_region rfl ?_
  (try revert X); refine t31 ?_; intro X hX
  refine ⟨orow ob (.slice A10 ob.list.length c10), rfl, hb11'.cells (o := 0) (fun j u hj => by simpa using hj), ?_⟩
  (try revert X); refine t31 ?_; intro X hX
  refine Runs.lit (cs := [.bool (obText ob), .bool (isArrO (some ob)), .string (obStr ob), .slice A10 ob.list.length c10]) Fx.un72 Fx.zi120 (by decide) (by kernel_rfl) (by decide) (fun w12 he12 hs12 hb12 => ?_)
  have he6c := he6b.trans he12
  have hrk12 := hrk.chg (he6c.chg (fun _ => False)) (fun _ _ => id)
  have hown12 := owns_chg' hown11 (he12.chg (fun _ => False)) (fun _ _ h => h)
  (try revert X); refine t31 ?_; intro X hX
  refine Runs.append1' Fx.un72 Fx.zi120 rfl (by decide) hrk12.own hb12 rfl (by intro u hu; simp at hu; rcases hu with rfl | rfl | rfl | rfl <;> rfl) (by simp [maxLen]; omega) (by omega) (by omega) (fun vk' w13 hown13 hg13 hblk13 => ?_)
  have hc13 : Chg (fun k => vk.ownBlock = some k) w12 w13 := grown_chg hg13
  have hs6b := he6b.size
  have hs12' := he12.size
  have hnb : ∀ k, vk'.ownBlock = some k → vk.ownBlock = some k ∨ w12.heap.size ≤ k := fun k hk => by
    rcases hblk13 with h' | h'
    · exact .inl (h' ▸ hk)
    · rw [h'] at hk; cases hk; exact .inr (Nat.le_refl _)
  have hci : (collH H roots)[i]? = some (moveO T (some ob)) := by rw [hcH, List.getElem?_map, hqi]; simp [hoo]
  have hml : (moveO T (some ob)).list = ob.list.map (mvP Q) := by
    rw [moveO_list]
    refine List.map_congr_left (fun x hx => (hmoved x ?_).symm)
    have := collQ_closed hG.wf hall r (by rw [hQ]; exact hrQ) x (by rw [hlo]; exact hx)
    exact this
  have hrk13 := hrk12.push (o := moveO T (some ob)) (vw := .slice A10 ob.list.length c10) hc13 (by rw [moveO_row]; exact hown13) hnb (by
    rw [hml, List.length_map]
    exact own_zero hown12) (fun k hk hr => by
    have h1 := hvb k hk
    have h2 := hrk.flt k hr
    omega)
  (try revert X); refine t31 ?_; intro X hX
  refine hM1 _ _ _ ?_; clear hM1 M1
  refine ok_region rfl ?_
  (try revert X); refine t31 ?_; intro X hX
  refine ⟨by simp only [inI]; omega, ?_⟩
  (try revert X); refine t31 ?_; intro X hX
  refine ⟨(i + 1, vk', vws ++ [.slice A10 ob.list.length c10], rows ++ [orow (moveO T (some ob)) (.slice A10 ob.list.length c10)]), by simp [sub, Env.get], ⟨?_, by simp only; omega, ?_, fun k hk => ?_⟩, by simp only; omega⟩
  · exact (he46.trans he6c).chg_trans hc13 (fun k hk => hnew0 k (.inl hk))
  · simp only
    rw [take_snoc hci]
    exact hrk13
  · rcases hk with hk | ⟨j, v, hj, hk⟩
    · rcases hnb k hk with h | h
      · exact hnew0 k (.inl h)
      · have := he46.size; omega
    · rcases Nat.lt_or_ge j vws.length with h | h
      · rw [List.getElem?_append_left h] at hj
        exact hnew0 k (.inr ⟨j, v, hj, hk⟩)
      · rw [List.getElem?_append_right h] at hj
        have h3 := List.mem_of_getElem? hj
        simp at h3; subst h3
        have := hvb k hk
        have := he46.size
        omega
end Go.Proofs.YtldeokfhipjbfaaGreatDoor
/- The reference's heap: ring. -/
set_option linter.unusedVariables false
set_option linter.unusedSimpArgs false
namespace Go.Proofs.YtldeokfhipjbfaaGreatDoor
open Go Go.Proofs.Vg Go.RowKit
theorem collQ_len {H : List Ob} (hG : GoodH H) {roots : List Wd} (hall : ∀ x ∈ roots, 0 ≤ x.r ∧ x.r ≤ (H.length : Int)) : (collQ H roots).length ≤ H.length := by
  have hnd := collQ_nd hG.wf hall
  have := nodup_len (a := collQ H roots) (b := (List.range H.length).map fun i : Nat => ((i : Int) + 1)) hnd.1 (fun r hr => by
    have := hnd.2 r hr
    exact List.mem_map.2 ⟨(r - 1).toNat, List.mem_range.2 (by omega), by omega⟩)
  simpa using this

-- -- function 76
set_option maxHeartbeats 4000000 in
set_option maxRecDepth 8000 in
theorem rring_ok (w : World) (qb : Nat) (H : List Ob) (F : Nat → Prop) (hH : RHeapW w qb H F) (hl : H.length ≤ 1048576) (hG : GoodH H) (x : Wd) (hx : rightW H x = true) :
    Rets Tryz.prog 76 [ptrOf qb, wv x] w (fun v w' => v = .bool (ringR H x) ∧ Ext w w') := by
  have hH0 := hH
  obtain ⟨vL, vws0, rows0, ⟨hhd, hrm, hhn⟩, hfoot⟩ := hH
  obtain ⟨AL, cL, hvL⟩ := hrm.len
  have hroot : ∀ z ∈ [x], 0 ≤ z.r ∧ z.r ≤ (H.length : Int) := fun z hz => by simp at hz; subst hz; exact right_ref hx
  have hlr : ∀ r, ∀ z ∈ listO (objAt H r), 0 ≤ z.r ∧ z.r ≤ (H.length : Int) := fun r z hz => right_ref (list_ref hG r z hz)
  refine rets_of_ok Tryz.func76 rfl rfl ?_
  refine ok_seq (fun M hM => ok_region rfl ?_)
  (try revert X); refine t76 ?_; intro X hX
  refine Runs.box (fun w1 he1 hz1 hb1 => ?_)
  generalize hB1 : w.heap.size = B1 at hz1 hb1
  simp only [Value.cells] at hb1
  (try revert X); refine t76 ?_; intro X hX
  refine hM _ _ _ ?_; clear hM M
  refine ok_seq (fun M hM => ok_region rfl ?_)
  (try revert X); refine t76 ?_; intro X hX
  refine ⟨x.row, rfl, hb1.cells (o := 0) (fun j u hj => by simpa using hj), ?_⟩
  (try revert X); refine t76 ?_; intro X hX
  refine Runs.lit (cs := x.row) Fx.un30 Fx.zi75 (by decide) (by kernel_rfl) (by decide) (fun w2 he2 hs2 hb2 => ?_)
  have hsl : SlW w2 (.slice (some ⟨w1.heap.size, 0, none⟩) 1 1) [x] := by
    refine ⟨some ⟨w1.heap.size, 0, none⟩, 1, rfl, by simp, fun j row hj => ?_⟩
    have hj0 : j = 0 := by have := (List.getElem?_eq_some_iff.1 hj).1; simp at this; exact this
    subst hj0
    simp at hj; subst hj
    exact ⟨w1.heap.size, 0, rfl, hb2.cells (o := 0) (fun j u hj => by simpa using hj)⟩
  have he02 := he1.trans he2
  (try revert X); refine t76 ?_; intro X hX
  refine Inv.call Fx.en72 (rreached_ok w2 qb H F (hH0.ext he02) hl hG _ [x] hsl (by simp) hroot) ?_
  rintro vq w4 ⟨hown4, he4⟩
  have hQl := collQ_len hG hroot
  have hnd := collQ_nd hG.wf hroot
  have hslq := sli_own hown4 (by omega)
  obtain ⟨-, -, Aq, cq, rfl⟩ := owns_one hown4
  have he04 := he02.trans he4
  (try revert X); refine t76 ?_; intro X hX
  refine hM _ _ _ ?_; clear hM M
  generalize hQ : collQ H [x] = Q at *
  obtain ⟨_, _, h1, hqlen, hqcell⟩ := id hslq
  rw [ints_length] at h1; cases h1
  have hres : (∀ j r, Q[j]? = some r → r ∉ collQ H (listO (objAt H r))) → ringR H x = false := fun h => by
    unfold ringR
    rw [hQ, List.any_eq_false]
    intro r hr
    obtain ⟨j, hj⟩ := List.mem_iff_getElem?.1 hr
    simpa using h j r hj
  have hrest : ∀ r, r ∈ Q → r ∈ collQ H (listO (objAt H r)) → ringR H x = true := fun r h1 h2 => by
    unfold ringR
    rw [hQ]
    exact List.any_eq_true.2 ⟨r, h1, by simpa using h2⟩
  refine ok_seq (fun M0 hM0 => ?_)
  refine ok_seq (fun M hM => ok_region rfl ?_); (try revert X); refine t76 ?_; intro X hX
  refine hM _ _ _ ?_; clear hM M
  refine ok_block ?_
  refine ok_loop (S := Nat) (fun i => [(0, ptrOf qb), (5, .slice Aq Q.length cq), (6, .int .i64 (i : Int))])
    (fun i W => Ext w4 W ∧ i ≤ Q.length ∧ ∀ (j : Nat) (r : Int), j < i → Q[j]? = some r → r ∉ collQ H (listO (objAt H r))) (fun i => Q.length - i) 0 ?_ ?_ ?_
  · simp [sub, Env.get]
  · exact ⟨Ext.refl _, Nat.zero_le _, fun j r h => absurd h (Nat.not_lt_zero _)⟩
  rintro i w6 ⟨he46, hi, hno⟩
  have he6 := he04.trans he46
  have hhd6 : ∀ W, Ext w6 W → W.cell? ⟨qb, 0, none⟩ = some (.slice AL H.length cL) := fun W h => by rw [← hvL]; exact (hhd.ext (he6.trans h)).cell (j := 0) rfl
  refine ok_seq (fun M1 hM1 => ?_)
  refine ok_seq (fun M hM => ok_region rfl ?_); (try revert X); refine t76 ?_; intro X hX
  refine hM _ _ _ ?_; clear hM M
  refine ok_if rfl (fun hc => ok_skip ?_) (fun hc => ok_exit ?_)
  rotate_left
  · try simp only [zW, zU, reduceIte, Nat.reduceEqDiff, Nat.reduceAdd, reduceCtorEq, Q76]
    refine hM0 _ _ _ ?_; clear hM0 M0 hM1 M1
    refine ok_seq (fun M hM => ok_region rfl ?_); (try revert X); refine t76 ?_; intro X hX
    refine hM _ _ _ ?_; clear hM M
    refine ok_ret ?_
    refine ⟨rfl, ?_, he6⟩
    rw [hres (fun j r hj => hno j r (by have := (List.getElem?_eq_some_iff.1 hj).1; omega) hj)]
  try simp only [zW, zU, reduceIte, Nat.reduceEqDiff, Nat.reduceAdd, reduceCtorEq, Q76]
  refine hM1 _ _ _ ?_; clear hM1 M1
  have hiq : i < Q.length := by omega
  have hqi : Q[i]? = some Q[i] := List.getElem?_eq_getElem hiq
  have hrq := hnd.2 Q[i] (List.getElem_mem hiq)
  have hrQ : Q[i] ∈ Q := List.getElem_mem hiq
  generalize Q[i] = r at hqi hrq hrQ
  obtain ⟨b, o, rfl, hcc⟩ := hqcell i [.int .i64 r] (by simp [ints, hqi])
  have hcq : w4.cell? ⟨b, o + i, none⟩ = some (.int .i64 r) := by have := hcc 0 _ rfl; simpa [add_at] using this
  obtain ⟨k, ob, hrk', hkl, hko, hoo⟩ := objAt_in hrq.1 hrq.2
  obtain ⟨g, cap, vw, hv, -, hocell, hownw⟩ := hrm.at_ (by omega) hko
  rw [hvL] at hv; cases hv
  have hll : ob.list.length ≤ 1048576 := hG.lim _ (List.mem_of_getElem? hko)
  have hslw : SlW w vw ob.list := Sli.of_own hownw rfl (fun r hr => (words_rows _ r hr).1) (by simp) (by omega)
  obtain ⟨Aw, cw, rfl, hwlen, hwcell⟩ := id hslw
  rw [wd_len] at hslw hocell hwlen hownw
  have e1 : ((r - 1).toNat) = k := by omega
  have hlo : listO (objAt H r) = ob.list := by rw [hoo]; rfl
  refine ok_seq (fun M1 hM1 => ok_block ?_)
  refine ok_seq (fun M hM => ?_)
  refine (ok_draw 13 [(false, true), (false, true)] (Ext _) Fx.mixed (by decide) rfl (by decide +kernel) (by decide +kernel) (Ext.drew _) ?_)
  (try revert X); refine t76 ?_; intro X hX
  refine ⟨_, fun W h => hhd6 W h, ?_⟩
  (try revert X); refine t76 ?_; intro X hX
  refine ⟨by omega, by omega, ?_⟩
  (try revert X); refine t76 ?_; intro X hX
  refine ⟨.int .i64 r, fun W h => by have := (he46.trans h).cell hcq; simpa [add_at] using this, ?_⟩
  (try revert X); refine t76 ?_; intro X hX
  refine ⟨by simp only [inI]; omega, ?_⟩
  (try revert X); refine t76 ?_; intro X hX
  refine ⟨by omega, by omega, ?_⟩
  (try revert X); refine t76 ?_; intro X hX
  refine ⟨.slice Aw ob.list.length cw, fun W h => by
    have := (he6.trans h).cell (hocell 3 _ rfl)
    rw [e1]
    simpa [add_at] using this, ?_⟩
  (try revert X); refine t76 ?_; intro X hX
  intro w7 he7
  (try revert X); refine t76 ?_; intro X hX
  refine Inv.call Fx.en72 (rreached_ok w7 qb H F (hH0.ext (he6.trans he7)) hl hG _ ob.list (hslw.ext (he6.trans he7)) hll (fun z hz => hlr r z (by rw [hlo]; exact hz))) ?_
  rintro vb w8 ⟨hown8, he8⟩
  have hBl := collQ_len hG (roots := ob.list) (fun z hz => hlr r z (by rw [hlo]; exact hz))
  have hslb := sli_own hown8 (by omega)
  obtain ⟨-, -, Ab, cb, rfl⟩ := owns_one hown8
  (try revert X); refine t76 ?_; intro X hX
  refine hM _ _ _ ?_; clear hM M
  generalize hBQ : collQ H ob.list = BQ at *
  obtain ⟨_, _, h1, hblen, hbcell⟩ := id hslb
  rw [ints_length] at h1; cases h1
  refine ok_seq (fun M hM => ok_region rfl ?_); (try revert X); refine t76 ?_; intro X hX
  refine hM _ _ _ ?_; clear hM M
  have he48 := (he46.trans he7).trans he8
  refine ok_block ?_
  refine ok_loop (S := Nat) (fun j => [(0, ptrOf qb), (5, .slice (some ⟨b, o, none⟩) Q.length cq), (6, .int .i64 (i : Int)), (7, .slice Ab BQ.length cb), (8, .int .i64 (j : Int))])
    (fun j W => Ext w8 W ∧ j ≤ BQ.length ∧ ∀ t, t < j → BQ[t]? ≠ some r) (fun j => BQ.length - j) 0 ?_ ?_ ?_
  · simp [sub, Env.get]
  · exact ⟨Ext.refl _, Nat.zero_le _, fun t h => absurd h (Nat.not_lt_zero _)⟩
  rintro j w9 ⟨he9, hj, hbno⟩
  have he49 := he48.trans he9
  refine ok_seq (fun M2 hM2 => ?_)
  refine ok_seq (fun M hM => ok_region rfl ?_); (try revert X); refine t76 ?_; intro X hX
  refine hM _ _ _ ?_; clear hM M
  refine ok_if rfl (fun hc => ok_skip ?_) (fun hc => ok_exit ?_)
  rotate_left
  · try simp only [zW, zU, reduceIte, Nat.reduceEqDiff, Nat.reduceAdd, reduceCtorEq, Q76]
    refine hM1 _ _ _ ?_; clear hM2 M2 hM1 M1
    refine ok_region rfl ?_
    (try revert X); refine t76 ?_; intro X hX
    refine ⟨by simp only [inI]; omega, ?_⟩
    (try revert X); refine t76 ?_; intro X hX
    refine ⟨i + 1, by simp [sub, Env.get], ⟨he49, by omega, fun t s ht hs => ?_⟩, by omega⟩
    rcases Nat.lt_or_ge t i with h | h
    · exact hno t s h hs
    · have : t = i := by omega
      subst this
      rw [hqi] at hs; cases hs
      rw [hlo, hBQ]
      intro hm
      obtain ⟨t', ht'⟩ := List.mem_iff_getElem?.1 hm
      exact hbno t' (by have := (List.getElem?_eq_some_iff.1 ht').1; omega) ht'
  try simp only [zW, zU, reduceIte, Nat.reduceEqDiff, Nat.reduceAdd, reduceCtorEq, Q76]
  refine hM2 _ _ _ ?_; clear hM2 M2
  have hjl : j < BQ.length := by omega
  have hbj : BQ[j]? = some BQ[j] := List.getElem?_eq_getElem hjl
  have hbm : BQ[j] ∈ BQ := List.getElem_mem hjl
  generalize BQ[j] = s at hbj hbm
  obtain ⟨b', o', rfl, hcc'⟩ := hbcell j [.int .i64 s] (by simp [ints, hbj])
  have hcb : w8.cell? ⟨b', o' + j, none⟩ = some (.int .i64 s) := by have := hcc' 0 _ rfl; simpa [add_at] using this
  refine ok_seq (fun M2 hM2 => ok_block ?_)
  refine ok_seq (fun M hM => ?_)
  refine (ok_draw 9 [] (Ext _) Fx.mixed (by decide) rfl (by decide +kernel) (by decide +kernel) (Ext.drew _) ?_)
  (try revert X); refine t76 ?_; intro X hX
  refine ⟨by omega, by omega, ?_⟩
  (try revert X); refine t76 ?_; intro X hX
  refine ⟨.int .i64 s, fun W h => by have := (he9.trans h).cell hcb; simpa [add_at] using this, ?_⟩
  (try revert X); refine t76 ?_; intro X hX
  refine ⟨by omega, by omega, ?_⟩
  (try revert X); refine t76 ?_; intro X hX
  refine ⟨.int .i64 r, fun W h => by have := (he49.trans h).cell hcq; simpa [add_at] using this, ?_⟩
  (try revert X); refine t76 ?_; intro X hX
  intro w10 he10
  (try revert X); refine t76 ?_; intro X hX
  refine hM _ _ _ ?_; clear hM M
  refine ok_if rfl (fun hq => ?_) (fun hq => ok_skip ?_)
  · refine ok_seq (fun M hM => ok_region rfl ?_); (try revert X); refine t76 ?_; intro X hX
    refine hM _ _ _ ?_; clear hM M
    refine ok_ret ?_
    refine ⟨rfl, ?_, (he04.trans he49).trans he10⟩
    rw [hrest r hrQ (by rw [hlo, hBQ, ← hq]; exact hbm)]
  · try simp only [zW, zU, reduceIte, Nat.reduceEqDiff, Nat.reduceAdd, reduceCtorEq, Q76]
    refine hM2 _ _ _ ?_; clear hM2 M2
    refine ok_region rfl ?_
    (try revert X); refine t76 ?_; intro X hX
    refine ⟨by simp only [inI]; omega, ?_⟩
    (try revert X); refine t76 ?_; intro X hX
    refine ⟨j + 1, by simp [sub, Env.get], ⟨he9.trans he10, by omega, fun t ht => ?_⟩, by omega⟩
    rcases Nat.lt_or_ge t j with h | h
    · exact hbno t h
    · have : t = j := by omega
      subst this
      rw [hbj]
      intro e; exact hq (Option.some.inj e)
end Go.Proofs.YtldeokfhipjbfaaGreatDoor
/- The reference's heap: loaded.  -/
set_option linter.unusedVariables false
set_option linter.unusedSimpArgs false
namespace Go.Proofs.YtldeokfhipjbfaaGreatDoor
open Go Go.Proofs.Vg Go.RowKit
theorem cell_lt {w : World} {a : Addr} {v : Value} (h : w.cell? a = some v) : a.block < w.heap.size := by
  unfold World.cell? at h
  rcases Nat.lt_or_ge a.block w.heap.size with h1 | h1
  · exact h1
  · rw [Array.getElem?_eq_none h1] at h; cases h
/-- The fields of the value of a word. -/
def ldK (x : Wd) : Int := if 1 ≤ x.k ∧ x.k ≤ 8 then x.k else 0
def ldN (x : Wd) : Int := if 1 ≤ x.k ∧ x.k ≤ 8 then x.n else 0
theorem lds_all {H : List Ob} {x : Wd} {k n : Int} {t : ByteArray} {a : List Val} (hr : rightW H x = true) (h : Lds H x (.mk k n t a)) :
    k = ldK x ∧ n = ldN x ∧ (x.k = 3 → objAt H x.r = some (.text t)) ∧ (x.k ≠ 3 → t = ⟨#[]⟩) ∧ LdsL H (argsOf H x) a := by
  simp only [Lds] at h
  split at h
  · rename_i hk
    obtain ⟨rfl, rfl, rfl, rfl, h0⟩ := h
    unfold ldK ldN
    rw [if_neg (by omega), if_neg (by omega), args_zero h0]
    exact ⟨rfl, rfl, fun e => by omega, fun _ => rfl, by simp only [LdsL]⟩
  · rename_i hk
    split at h
    · rename_i h3
      obtain ⟨rfl, rfl, rfl, ho⟩ := h
      have hn : x.n = 0 := by
        unfold rightW at hr
        simp [h3] at hr
        exact hr.1
      unfold ldK ldN
      rw [if_pos (by omega), if_pos (by omega)]
      exact ⟨h3.symm, hn.symm, fun _ => ho, fun e => absurd h3 e, by simp [argsOf, argsO, ho, LdsL]⟩
    · rename_i h3
      obtain ⟨h1, h8, rfl, rfl, rfl, hL⟩ := h
      unfold ldK ldN
      rw [if_pos ⟨h1, h8⟩, if_pos ⟨h1, h8⟩]
      exact ⟨rfl, rfl, fun e => absurd e h3, fun _ => rfl, hL⟩

-- -- function 77
set_option maxHeartbeats 4000000 in
set_option maxRecDepth 8000 in
theorem rloaded_ok (qb : Nat) (H : List Ob) (F : Nat → Prop) (hl : H.length ≤ 1048576) (hG : GoodH H) : ∀ (m : Nat) (u : Val) (x : Wd) (w : World), SizeOf.sizeOf u ≤ m → rightW H x = true → Lds H x u → RHeapW w qb H F →
    Rets Tryz.prog 77 [ptrOf qb, wv x] w (fun v w' => ∃ cs : List Value, v = .agg cs.toArray ∧ VRowS w' (fun k => w.heap.size ≤ k ∧ k < w'.heap.size) cs u ∧ Ext w w') := by
  intro m
  induction m with
  | zero => intro u x w hm; cases u; simp at hm
  | succ m ih =>
    rintro ⟨k, n, t, a⟩ x w hm hr hL hH
    have nilS : ∀ (w' : World) (S : Nat → Prop), SliS w' S 4 (.slice none 0 0) [] := fun w' S => ⟨none, 0, rfl, by simp, fun j row hj => by simp at hj⟩
    obtain ⟨hk, hn, ht3, htn, hLL⟩ := lds_all hr hL
    have hlen := LdsL.length _ _ hLL
    have hLimx := hG.lim.args x
    refine rets_of_okC Tryz.func77 rfl rfl ?_
    refine ok_seq (fun M hM => ok_region rfl ?_)
    (try revert X); refine t77 ?_; intro X hX
    refine Runs.box (fun w1 he1 hz1 hb1 => ?_)
    generalize hB3 : w.heap.size = B3 at hz1 hb1
    simp only [Value.cells] at hb1
    (try revert X); refine t77 ?_; intro X hX
    refine Runs.alloc Fx.zi36 (fun w2 he2 hz2 hb2 => ?_)
    generalize hB4 : w1.heap.size = B4 at hz2 hb2
    simp only [Value.cells] at hb2
    have hb12 := hb1.ext he2
    (try revert X); refine t77 ?_; intro X hX
    refine hM _ _ _ ?_; clear hM M
    refine ok_seq (fun M hM => ok_region rfl ?_)
    (try revert X); refine t77 ?_; intro X hX
    refine ⟨_, w2, run_build (P := Tryz.prog) w2 36 _ #[.int .i64 0, .int .i64 0, .string ⟨#[]⟩, .slice none 0 0] (by kernel_rfl), ?_⟩
    (try revert X); refine t77 ?_; intro X hX
    refine Runs.alloc Fx.zi36 (fun w3 he3 hz3 hb3 => ?_)
    generalize hB5 : w2.heap.size = B5 at hz3 hb3
    simp only [Value.cells] at hb3
    (try revert X); refine t77 ?_; intro X hX
    refine Runs.store hb3 Fx.zi36 rfl (by intro u hu; simp [Value.cells] at hu; rcases hu with rfl | rfl | rfl | rfl <;> rfl) (by simp) (fun w4 hc4 hz4 hb4 => ?_)
    rw [splice_all _ _ (by simp [Value.cells])] at hb4
    simp only [Value.cells] at hb4
    have he04 : Ext w w4 := ((he1.trans he2).trans he3).chg_trans hc4 (fun i hi => by omega)
    have hb14 : Blk w4 B3 x.row 75 := (hb12.ext he3).chg hc4 (by omega)
    have hb24 : Blk w4 B4 _ 36 := (hb2.ext he3).chg hc4 (by omega)
    (try revert X); refine t77 ?_; intro X hX
    refine hM _ _ _ ?_; clear hM M
    refine ok_seq (fun M hM => ok_region rfl ?_)
    (try revert X); refine t77 ?_; intro X hX
    refine Inv.call Fx.en97 (pairs_ok w4) ?_
    rintro v w5 ⟨rfl, hb5, he5⟩
    generalize hB6 : w4.heap.size = B6 at hb5
    (try revert X); refine t77 ?_; intro X hX
    refine hM _ _ _ ?_; clear hM M
    have hs45 := he5.size
    have hb15 := hb14.ext he5
    have hb25 := hb24.ext he5
    have hb45 := hb4.ext he5
    have he05 := he04.trans he5
    have hs05 := he05.size
    have hl6 := hb5.lt
    refine ok_join [(0, ptrOf qb), (3, ptrOf B3), (4, ptrOf B4), (5, ptrOf B5)] (fun w6 => Chg (fun b => b = B5) w5 w6 ∧ Blk w6 B5 [.int .i64 (ldK x), .int .i64 (ldN x), .string ⟨#[]⟩, .slice none 0 0] 36) ?_ ?_
    · refine ok_seq (fun M hM => ok_region rfl ?_); (try revert X); refine t77 ?_; intro X hX
      refine hM _ _ _ ?_; clear hM M
      refine ok_block ?_
      refine ok_loop (S := Nat) (fun i => [(0, ptrOf qb), (3, ptrOf B3), (4, ptrOf B4), (5, ptrOf B5), (6, .slice (some ⟨B6, 0, none⟩) 8 8), (7, .int .i64 (i : Int))])
        (fun i w6 => i ≤ 8 ∧ Chg (fun b => b = B5) w5 w6 ∧ Blk w6 B5 [.int .i64 (if 1 ≤ x.k ∧ x.k ≤ (i : Int) then x.k else 0), .int .i64 (if 1 ≤ x.k ∧ x.k ≤ (i : Int) then x.n else 0), .string ⟨#[]⟩, .slice none 0 0] 36) (fun i => 8 - i) 0 ?_ ?_ ?_
      · simp [sub, Env.get]
      · refine ⟨by omega, Chg.refl _ _, ?_⟩
        rw [if_neg (by omega), if_neg (by omega)]
        exact hb45
      rintro q w6 ⟨hq, hc6, hb6⟩
      have hs6 := hc6.size
      refine ok_seq (fun M1 hM1 => ?_)
      refine ok_seq (fun M hM => ok_region rfl ?_); (try revert X); refine t77 ?_; intro X hX
      refine hM _ _ _ ?_; clear hM M
      refine ok_if rfl (fun hc => ok_skip ?_) (fun hc => ok_exit ?_)
      rotate_left
      · try simp only [zW, zU, reduceIte, Nat.reduceEqDiff, Nat.reduceAdd, reduceCtorEq, Q77]
        have : q = 8 := by omega
        subst this
        exact ⟨by simp [sub, Env.get], hc6, hb6⟩
      · try simp only [zW, zU, reduceIte, Nat.reduceEqDiff, Nat.reduceAdd, reduceCtorEq, Q77]
        refine hM1 _ _ _ ?_; clear hM1 M1
        have hq8 : q < 8 := by omega
        have hpl : Blk w6 B6 pairL 144 := hb5.chg hc6 (by omega)
        have hb16 : Blk w6 B3 x.row 75 := hb15.chg hc6 (by omega)
        refine ok_seq (fun M1 hM1 => ok_block ?_)
        refine ok_seq (fun M hM => ?_)
        refine (ok_draw 8 [] (Ext _) Fx.mixed (by decide) rfl (by decide +kernel) (by decide +kernel) (Ext.drew _) ?_)
        (try revert X); refine t77 ?_; intro X hX
        refine ⟨by omega, by omega, ?_⟩
        (try revert X); refine t77 ?_; intro X hX
        refine ⟨by decide, by decide, ?_⟩
        (try revert X); refine t77 ?_; intro X hX
        refine ⟨.int .i64 ((q : Int) + 1), fun w' hw => (hpl.ext hw).cell (by simpa using (pairL_get q hq8).1), ?_⟩
        (try revert X); refine t77 ?_; intro X hX
        refine ⟨.int .i64 x.k, fun w' hw => (hb16.ext hw).cell (j := 0) rfl, ?_⟩
        (try revert X); refine t77 ?_; intro X hX
        intro w7 he7
        (try revert X); refine t77 ?_; intro X hX
        refine hM _ _ _ ?_; clear hM M
        have hs7 := he7.size
        have hb67 := hb6.ext he7
        have hl5 := hb6.lt
        have hpl7 := hpl.ext he7
        have hb17 := hb16.ext he7
        have hl17 := hb17.lt
        refine ok_if rfl (fun hqk => ?_) (fun hqk => ok_skip ?_)
        · refine (ok_drawQ [0, 1, 2, 3, 4, 5, 6, 7, 8, 9, 10] 8 [(true, false), (false, true), (false, true)] (Chg (fun k => k = B5) _) Fx.mixed (by decide) rfl (by decide +kernel) (by decide +kernel) (by decide +kernel) (Chg.drew _ _) ?_); simp only [pickL, List.getElem?_cons_zero, List.getElem?_cons_succ, List.take_succ_cons, List.take_zero, List.drop_succ_cons, List.drop_zero]
          (try revert X); refine t77 ?_; intro X hX
          refine ⟨by omega, by omega, ?_⟩
          (try revert X); refine t77 ?_; intro X hX
          refine ⟨by decide, by decide, ?_⟩
          (try revert X); refine t77 ?_; intro X hX
          refine ⟨.int .i64 ((q : Int) + 1), fun w' hw => (hpl7.chg hw (by omega)).cell (by simpa using (pairL_get q hq8).2), ?_⟩
          (try revert X); refine t77 ?_; intro X hX
          refine ⟨.int .i64 x.n, fun w' hw => (hb17.chg hw (by omega)).cell (j := 1) rfl, ?_⟩
          repeat ((try first | (refine ofX3 hX ?_; clear hX X) | (refine ofX2 hX ?_; clear hX X)); (first | refine wpL_step (fun X hX => ?_) | refine wpH_step (fun X hX => ?_) | refine wpE_step (fun X hX => ?_) | refine wpL_end ?_ | refine wpH_end ?_ | refine wpE_end ?_); try simp only [ oweC, oweP, opF, opH, ev, evs, evp, evo, Env.get, Env.set, putE, gdst, S0, S1, thenN, inBlockN, argEnv, builtinR, retE, fin, finC, retC, oneC, callR, reduceIte, Nat.reduceEqDiff, Nat.reduceAdd, reduceCtorEq, forall_const, Tryz.results77, Fx.ag2, Fx.ag3, Fx.ag34, Fx.ag36, Fx.ag72, Fx.ag75, Fx.ag9, Fx.ar144, Fx.es142, Fx.es30, Fx.es72, Fx.fo120_2, Fx.fo36_0, Fx.fo36_1, Fx.fo36_2, Fx.fo36_3, Fx.fo74_0, Fx.fo75_0, Fx.fo75_1, Fx.fo75_2, Fx.isl142, Fx.isl30])
          have hb67' : Blk { w7 with drawn := w7.drawn + 1 } B5 _ 36 := hb67
          refine Runs.store hb67' Fx.zi3 rfl (by intro u hu; simp [Value.cells] at hu; subst hu; rfl) (by simp) (fun w8 hc8 hs8 hb8 => ?_)
          refine ⟨(Chg.drew _ _).trans hc8, ?_⟩
          (try revert X); refine t77 ?_; intro X hX
          refine Runs.store hb8 Fx.zi2 rfl (by intro u hu; simp [Value.cells] at hu; subst hu; rfl) (by simp [splice, Value.cells]) (fun w9 hc9 hs9 hb9 => ?_)
          have hb9' : Blk w9 B5 [.int .i64 ((q : Int) + 1), .int .i64 x.n, .string ⟨#[]⟩, .slice none 0 0] 36 := by simpa [splice, Value.cells] using hb9
          (try revert X); refine t77 ?_; intro X hX
          refine hM1 _ _ _ ?_; clear hM1 M1
          refine ok_region rfl ?_
          (try revert X); refine t77 ?_; intro X hX
          refine ⟨by simp only [inI]; omega, ?_⟩
          (try revert X); refine t77 ?_; intro X hX
          refine ⟨q + 1, by simp [sub, Env.get], ⟨by omega, (hc6.trans (he7.chg _)).trans (((Chg.drew _ _).trans hc8).trans hc9), ?_⟩, by omega⟩
          rw [if_pos (by omega), if_pos (by omega), show x.k = (q : Int) + 1 by omega]
          exact hb9'
        · try simp only [zW, zU, reduceIte, Nat.reduceEqDiff, Nat.reduceAdd, reduceCtorEq, Q77]
          refine hM1 _ _ _ ?_; clear hM1 M1
          refine ok_region rfl ?_
          (try revert X); refine t77 ?_; intro X hX
          refine ⟨by simp only [inI]; omega, ?_⟩
          (try revert X); refine t77 ?_; intro X hX
          refine ⟨q + 1, by simp [sub, Env.get], ⟨by omega, hc6.trans (he7.chg _), ?_⟩, by omega⟩
          have e1 : (1 ≤ x.k ∧ x.k ≤ ((q + 1 : Nat) : Int)) ↔ (1 ≤ x.k ∧ x.k ≤ (q : Int)) := by omega
          simp only [e1]
          exact hb67
    rintro w6 ⟨hc6, hb6⟩
    have hs6 := hc6.size
    have he06 : Ext w w6 := he05.chg_trans hc6 (fun i hi => by omega)
    have hb16 : Blk w6 B3 x.row 75 := hb15.chg hc6 (by omega)
    have hb26 : Blk w6 B4 _ 36 := hb25.chg hc6 (by omega)
    have hl5 := hb6.lt
    have hl1 := hb16.lt
    have hl2 := hb26.lt
    refine ok_join [(0, ptrOf qb), (3, ptrOf B3), (4, ptrOf B4), (5, ptrOf B5)] (fun w7 => Chg (fun b => b = B5) w6 w7 ∧ Blk w7 B5 [.int .i64 k, .int .i64 n, .string t, .slice none 0 0] 36) ?_ ?_
    · refine ok_seq (fun M hM => ok_region rfl ?_)
      (try revert X); refine t77 ?_; intro X hX
      refine ⟨_, hb16.cell (j := 0) (by rfl : _ = some (Value.int .i64 x.k)), ?_⟩
      (try revert X); refine t77 ?_; intro X hX
      refine hM _ _ _ ?_; clear hM M
      refine ok_if rfl (fun h3 => ?_) (fun h3 => ok_skip ?_)
      rotate_left
      · try simp only [zW, zU, reduceIte, Nat.reduceEqDiff, Nat.reduceAdd, reduceCtorEq, Q77]
        rw [hk, hn, htn h3]
        exact ⟨by simp [sub, Env.get], Chg.refl _ _, hb6⟩
      have hos := ht3 h3
      obtain ⟨vL, vws, rows, ⟨hhd, hrm, hhn⟩, hfoot⟩ := id hH
      obtain ⟨AL, cL, hvL⟩ := hrm.len
      have hrange := objAt_some hos
      obtain ⟨i, o, hri, hil, hio, hoo⟩ := objAt_in hrange.1 hrange.2
      rw [hos] at hoo; cases hoo
      obtain ⟨g, cap, vw, hv, -, hcell, -⟩ := hrm.at_ (by omega) hio
      rw [hvL] at hv; cases hv
      have e1 : ((x.r - 1).toNat) = i := by omega
      have hhd2 : ∀ w', Ext w6 w' → w'.cell? ⟨qb, 0, none⟩ = some (.slice (some ⟨g, 0, none⟩) H.length cL) := fun w' h => by rw [← hvL]; exact (hhd.ext (he06.trans h)).cell (j := 0) rfl
      refine (ok_draw 11 [(false, true)] (Ext _) Fx.mixed (by decide) rfl (by decide +kernel) (by decide +kernel) (Ext.drew _) ?_)
      (try revert X); refine t77 ?_; intro X hX
      refine ⟨_, fun w' h => hhd2 w' h, ?_⟩
      (try revert X); refine t77 ?_; intro X hX
      refine ⟨_, fun w' h => (hb16.ext h).cell (j := 2) (by rfl : _ = some (Value.int .i64 x.r)), ?_⟩
      (try revert X); refine t77 ?_; intro X hX
      refine ⟨by simp only [inI]; omega, ?_⟩
      (try revert X); refine t77 ?_; intro X hX
      refine ⟨by omega, by omega, ?_⟩
      (try revert X); refine t77 ?_; intro X hX
      refine ⟨.string t, fun w' h => by
        have := (he06.trans h).cell (hcell 2 _ rfl)
        rw [e1]
        simpa [add_at, obStr] using this, ?_⟩
      (try revert X); refine t77 ?_; intro X hX
      intro w7 he7
      (try revert X); refine t77 ?_; intro X hX
      refine Runs.store (hb6.ext he7) Fx.zi9 rfl (by intro u hu; simp [Value.cells] at hu; subst hu; rfl) (by simp) (fun w8 hc8 hs8 hb8 => ?_)
      have hb8' : Blk w8 B5 [.int .i64 k, .int .i64 n, .string t, .slice none 0 0] 36 := by rw [hk, hn]; simpa [splice, Value.cells] using hb8
      (try revert X); refine t77 ?_; intro X hX
      exact ⟨by simp [sub, Env.get], (he7.chg _).trans hc8, hb8'⟩
    rintro w7 ⟨hc7, hb7⟩
    have hs7' := hc7.size
    have he07 : Ext w w7 := he06.chg_trans hc7 (fun i hi => by omega)
    have hb17 : Blk w7 B3 x.row 75 := hb16.chg hc7 (by omega)
    have hb27 : Blk w7 B4 _ 36 := hb26.chg hc7 (by omega)
    refine ok_seq (fun M hM => ok_region rfl ?_)
    (try revert X); refine t77 ?_; intro X hX
    refine ⟨x.row, rfl, hb17.cells (o := 0) (fun j u hj => by simpa using hj), ?_⟩
    (try revert X); refine t77 ?_; intro X hX
    refine Inv.call Fx.en80 (rwords_ok w7 qb H F (hH.ext he07) (by omega) hG.lim x hr) ?_
    rintro v w8 ⟨A, c, rfl, hsl, he8, hnew8⟩
    obtain ⟨_, _, h1, hwlen, hcell⟩ := id hsl
    rw [wd_len] at h1; cases h1
    (try revert X); refine t77 ?_; intro X hX
    refine hM _ _ _ ?_; clear hM M
    have hl17 := hb17.lt
    have hl27 := hb27.lt
    have hl7 := hb7.lt
    have hs8' := he8.size
    have hs07 := he07.size
    have hb28 := hb27.ext he8
    refine ok_seq (fun M0 hM0 => ?_)
    refine ok_seq (fun M hM => ok_region rfl ?_); (try revert X); refine t77 ?_; intro X hX
    refine hM _ _ _ ?_; clear hM M
    refine ok_block ?_
    refine ok_loop (S := Nat × Value × List (List Value)) (fun s => [(0, ptrOf qb), (4, ptrOf B4), (5, ptrOf B5), (8, .slice A (argsOf H x).length c), (9, .int .i64 (s.1 : Int))])
      (fun s w' => Ext w w' ∧ s.1 ≤ a.length ∧ w8.heap.size ≤ w'.heap.size ∧ (∀ k, k < w8.heap.size → k ≠ B5 → w'.heap[k]? = w8.heap[k]?) ∧ Blk w' B5 [.int .i64 k, .int .i64 n, .string t, s.2.1] 36 ∧ w'.ownsRow w8.heap.size 36 4 s.2.1 s.1 s.2.2.flatten ∧
        VRowsS w' (fun k => w.heap.size ≤ k ∧ k < w'.heap.size ∧ s.2.1.ownBlock ≠ some k ∧ k ≠ B5 ∧ k ≠ B4) s.2.2 (a.take s.1)) (fun s => a.length - s.1) (0, .slice none 0 0, []) ?_ ?_ ?_
    · simp [sub, Env.get]
    · exact ⟨he07.trans he8, Nat.zero_le _, Nat.le_refl _, fun _ _ _ => rfl, hb7.ext he8, World.ownsRow_nil _ _ _ _, by simp only [List.take_zero, VRowsS]⟩
    rintro ⟨i, va, rs⟩ w9 ⟨he9, hi, hs9, hkeep, hb9, hown, hrs⟩
    simp only at hi hb9 hown hrs ⊢
    have hrl := hrs.length
    rw [List.length_take, Nat.min_eq_left hi] at hrl
    refine ok_seq (fun M1 hM1 => ?_)
    refine ok_seq (fun M hM => ok_region rfl ?_); (try revert X); refine t77 ?_; intro X hX
    refine hM _ _ _ ?_; clear hM M
    refine ok_if rfl (fun hc => ok_skip ?_) (fun hc => ok_exit ?_)
    rotate_left
    · try simp only [zW, zU, reduceIte, Nat.reduceEqDiff, Nat.reduceAdd, reduceCtorEq, Q77]
      refine hM0 _ _ _ ?_; clear hM0 M0 hM1 M1
      have hia : i = a.length := by omega
      subst hia
      rw [List.take_of_length_le (Nat.le_refl _)] at hrs
      have hb29 : Blk w9 B4 _ 36 := (hkeep B4 (by omega) (by omega)).trans hb28
      have hva1 : va.oneCell' = true ∧ va.cells = #[va] := by
        rcases hown.2 with ⟨rfl, _⟩ | ⟨g, cap, cur, rfl, _⟩ <;> exact ⟨rfl, rfl⟩
      refine ok_seq (fun M hM => ok_region rfl ?_)
      (try revert X); refine t77 ?_; intro X hX
      refine ⟨[.int .i64 k, .int .i64 n, .string t, va], rfl, hb9.cells (o := 0) (fun j u hj => by simpa using hj), ?_⟩
      (try revert X); refine t77 ?_; intro X hX
      refine Runs.store hb29 Fx.zi36 rfl (by intro u hu; simp [Value.cells] at hu; rcases hu with rfl | rfl | rfl | rfl <;> first | rfl | exact hva1.1) (by simp) (fun w10 hc10 hs10 hb10 => ?_)
      rw [splice_all _ _ (by simp [Value.cells])] at hb10
      simp only [Value.cells] at hb10
      (try revert X); refine t77 ?_; intro X hX
      refine hM _ _ _ ?_; clear hM M
      refine ok_ret ?_
      try simp only [zW, zU, reduceIte, Nat.reduceEqDiff, Nat.reduceAdd, reduceCtorEq, Q77]
      refine ⟨_, rfl, hb10.cells (o := 0) (row := [.int .i64 k, .int .i64 n, .string t, va]) (fun j u hj => by simpa using hj), _, rfl, ?_, he9.chg_trans hc10 (fun i hi => by omega)⟩
      simp only [VRowS]
      have hSl : Sli w9 4 va rs := Sli.of_own hown rfl (VRowsS.len4 _ _ hrs) hrl (by omega)
      have hs10' := hc10.size
      refine ⟨va, rfl, hva1.1, hva1.2, rs, ?_, ?_⟩
      · obtain ⟨A', c', rfl, h2, h3⟩ := hSl
        refine ⟨A', c', rfl, h2, fun j row hj => ?_⟩
        obtain ⟨b, o, rfl, h5⟩ := h3 j row hj
        have hbl := hown.lt b rfl
        exact ⟨b, o, rfl, by omega, hc10.cellsAt h5 (by simp only; omega)⟩
      · exact VRowsS.chg hc10 (fun k hk => ⟨by omega, hk.2.2.2.2⟩) _ _ hrs
    · try simp only [zW, zU, reduceIte, Nat.reduceEqDiff, Nat.reduceAdd, reduceCtorEq, Q77]
      refine hM1 _ _ _ ?_; clear hM1 M1
      have hil : i < a.length := by omega
      have hxi : (argsOf H x)[i]? = some ((argsOf H x)[i]'(by omega)) := List.getElem?_eq_getElem (by omega)
      have hym : (argsOf H x)[i]'(by omega) ∈ argsOf H x := List.getElem_mem _
      have hui : a[i]? = some a[i] := List.getElem?_eq_getElem hil
      generalize (argsOf H x)[i]'(by omega) = y at hxi hym
      have hLy := LdsL.get _ _ hLL i y a[i] hxi hui
      have hsz : SizeOf.sizeOf a[i] ≤ m := by
        have := List.sizeOf_lt_of_mem (List.getElem_mem hil)
        simp at hm
        omega
      obtain ⟨bb, oo, rfl, hce⟩ := hcell i y.row (by rw [List.getElem?_map, hxi]; rfl)
      have hbb : w7.heap.size ≤ bb := hnew8 bb rfl
      have hbl8 : bb < w8.heap.size := by have := cell_lt (hce 0 _ rfl); simpa [add_at] using this
      have hce9 : cellsAt w9 ⟨bb, oo + i * 3, none⟩ y.row := fun j u hj => by
        have hq := hce j u hj
        rw [add_at] at hq ⊢
        exact (World.cell?_of_block (hkeep bb hbl8 (by omega))).trans hq
      refine ok_seq (fun M1 hM1 => ok_block ?_)
      refine (ok_draw 7 [(true, false), (true, false), (false, true), (false, true), (false, true)] (Ext _) Fx.mixed (by decide) rfl (by decide +kernel) (by decide +kernel) (Ext.drew _) ?_)
      (try revert X); refine t77 ?_; intro X hX
      refine ⟨_, fun w' h => h.cell (hb9.cell (j := 3) rfl), ?_⟩
      (try revert X); refine t77 ?_; intro X hX
      refine ⟨by omega, by omega, ?_⟩
      (try revert X); refine t77 ?_; intro X hX
      refine ⟨y.row, rfl, fun w' h => by simpa using h.cellsAt hce9, ?_⟩
      (try revert X); refine t77 ?_; intro X hX
      intro w10 he10
      (try revert X); refine t77 ?_; intro X hX
      refine Inv.call Fx.en77 (ih a[i] y w10 hsz (hG.args hym).1 hLy (hH.ext (he9.trans he10))) ?_
      rintro v w11 ⟨cs, rfl, hcs, he11⟩
      refine ⟨he10.trans he11, ?_⟩
      (try revert X); refine t77 ?_; intro X hX
      obtain ⟨k', n', t', v', hcse, hv1, hv2⟩ : ∃ k' n' t' v', cs = [.int .i64 k', .int .i64 n', .string t', v'] ∧ v'.oneCell' = true ∧ v'.cells = #[v'] := by
        have hq := VRowS.row _ _ hcs
        generalize a[i] = q at hq
        obtain ⟨k', n', t', a'⟩ := q
        simp only [VRow] at hq
        obtain ⟨v', h1, h2, h3, _⟩ := hq
        exact ⟨k', n', t', v', h1, h2, h3⟩
      have hone := (VRowS.row _ _ hcs).one
      have hcl4 := (VRowS.row _ _ hcs).len
      refine Runs.lit (cs := cs) Fx.un34 Fx.zi36 (by decide) (by rw [hcse]; kernel_rfl) (by decide) (fun w12 he12 hs12 hb12 => ?_)
      refine ⟨he10.trans (he11.trans he12), ?_⟩
      (try revert X); refine t77 ?_; intro X hX
      have he712 := he10.trans (he11.trans he12)
      have hown12 := owns_chg' hown (he712.chg (fun _ => False)) (fun _ _ h => h)
      have hs712 := he712.size
      refine Runs.append1' Fx.un34 Fx.zi36 rfl (by decide) hown12 hb12 hcl4 hone (by simp [maxLen]; omega) (by omega) (by omega) (fun v2 w13 hown13 hg13 hblk => ?_)
      have hc13 : Chg (fun k => va.ownBlock = some k) w12 w13 := ⟨hg13.os, hg13.tape, hg13.output, hg13.size, fun k hk hs => hg13.block k hk (fun e => hs e.symm)⟩
      have hvl : ∀ k, va.ownBlock = some k → w8.heap.size ≤ k ∧ k < w9.heap.size := fun k hk => hown.lt k hk
      have hnva : ∀ k, k < w8.heap.size → va.ownBlock ≠ some k := fun k hk h => by have := hvl k h; omega
      have hb13 : Blk w13 B5 _ 36 := (hb9.ext he712).chg hc13 (hnva B5 (by omega))
      have hv2c : v2.oneCell' = true ∧ v2.cells = #[v2] := by
        rcases hown13.2 with ⟨rfl, _⟩ | ⟨g, cap, cur, rfl, _⟩ <;> exact ⟨rfl, rfl⟩
      have hs13 := hc13.size
      (try revert X); refine t77 ?_; intro X hX
      refine Runs.store hb13 Fx.zi34 (by rw [hv2c.2]; rfl) (by rw [hv2c.2]; intro u hu; simp at hu; subst hu; exact hv2c.1) (by simp) (fun w14 hc14 hs14 hb14' => ?_)
      rw [hv2c.2] at hb14'
      simp only [splice, List.take_succ_cons, List.take_zero, List.cons_append, List.nil_append, List.length_singleton, Nat.reduceAdd, List.drop_succ_cons, List.drop_zero, List.append_nil, List.drop_nil] at hb14'
      have hl13 := hb13.lt
      (try revert X); refine t77 ?_; intro X hX
      refine hM1 _ _ _ ?_; clear hM1 M1
      refine ok_region rfl ?_
      (try revert X); refine t77 ?_; intro X hX
      refine ⟨by simp only [inI]; omega, ?_⟩
      (try revert X); refine t77 ?_; intro X hX
      have hs14' := hc14.size
      have hv2l : ∀ k, v2.ownBlock = some k → w8.heap.size ≤ k ∧ k < w13.heap.size := fun k hk => hown13.lt k hk
      have hs10' := he10.size
      have hs11' := he11.size
      have htk : a.take (i + 1) = a.take i ++ [a[i]] := List.take_succ_eq_append_getElem hil
      refine ⟨(i + 1, v2, rs ++ [cs]), by simp [sub, Env.get], ⟨?_, by simp only; omega, by omega, fun k hk hne => ?_, hb14', ?_, ?_⟩, by simp only; omega⟩
      · exact ((he9.trans he712).chg_trans hc13 (fun k hk => by have := hvl k hk; omega)).chg_trans hc14 (fun k hk => by omega)
      · rw [hc14.block k (by omega) hne, hc13.block k (by omega) (hnva k hk), Below.block he712 k (by omega)]
        exact hkeep k hk hne
      · simp only [List.flatten_append, List.flatten_cons, List.flatten_nil, List.append_nil]
        exact owns_chg' hown13 hc14 (fun k hk h => by have := (hv2l k hk).1; omega)
      · simp only [htk]
        have hc1314 : Chg (fun k => va.ownBlock = some k ∨ k = B5) w12 w14 := (hc13.mono fun k _ h => .inl h).trans (hc14.mono fun k _ h => .inr h)
        have hnew : ∀ k, v2.ownBlock = some k → va.ownBlock = some k ∨ k = w12.heap.size := fun k h => by
          rcases hblk with h' | h'
          · exact .inl (h' ▸ h)
          · rw [h'] at h; cases h; exact .inr rfl
        refine VRowsS.snoc _ _ (VRowsS.chg ((he712.chg _).trans hc1314) (fun k hk => ?_) _ _ hrs) (VRowS.chg ((he12.chg _).trans hc1314) (fun k hk => ?_) _ _ hcs)
        · refine ⟨⟨hk.1, by omega, fun h => ?_, hk.2.2.2.1, hk.2.2.2.2⟩, fun h => ?_⟩
          · rcases hnew k h with h' | h'
            · exact hk.2.2.1 h'
            · omega
          · rcases h with h | h
            · exact hk.2.2.1 h
            · exact hk.2.2.2.1 h
        · have hk1 := hk.1
          have hk2 := hk.2
          have hs12' := he12.size
          refine ⟨⟨by omega, by omega, fun h => ?_, by omega, by omega⟩, fun h => ?_⟩
          · rcases hnew k h with h' | h'
            · have := hvl k h'; omega
            · omega
          · rcases h with h | h
            · have := hvl k h; omega
            · omega
end Go.Proofs.YtldeokfhipjbfaaGreatDoor
/- The reference's heap: Load.  -/
set_option linter.unusedVariables false
set_option linter.unusedSimpArgs false
namespace Go.Proofs.YtldeokfhipjbfaaGreatDoor
open Go Go.Proofs.Vg Go.RowKit
-- -- function 33
set_option maxHeartbeats 4000000 in
set_option maxRecDepth 8000 in
theorem rLoad_ok (w : World) (qb : Nat) (H : List Ob) (F : Nat → Prop) (hH : RHeapW w qb H F) (hl : H.length ≤ 1048576) (hG : GoodH H) (x : Wd) :
    Rets Tryz.prog 33 [ptrOf qb, wv x] w (fun v w' => ∃ cs : List Value, v = .tuple #[.agg cs.toArray, .int .i64 (errL H x)] ∧ VRowS w' (fun k => w.heap.size ≤ k ∧ k < w'.heap.size) cs (if errL H x = 0 then valO H x else zeroVal) ∧ Ext w w') := by
  have zero : ∀ (w1 w2 : World) (B2 : Nat) (e : Int), errL H x = e → e ≠ 0 → Ext w w1 → w.heap.size ≤ B2 → Chg (· = B2) w1 w2 → Blk w2 B2 zeroRow 36 →
      ∃ cs, cs.length = 4 ∧ cellsAt w2 ⟨B2, 0, none⟩ cs ∧ ∃ cs' : List Value, Value.tuple #[.agg cs.toArray, .int .i64 e] = .tuple #[.agg cs'.toArray, .int .i64 (errL H x)] ∧ VRowS w2 (fun k => w.heap.size ≤ k ∧ k < w2.heap.size) cs' (if errL H x = 0 then valO H x else zeroVal) ∧ Ext w w2 := by
    intro w1 w2 B2 e he hne he1 hB hc hb
    refine ⟨zeroRow, rfl, hb.cells (o := 0) (fun j u hj => by simpa using hj), zeroRow, by rw [he], ?_, he1.chg_trans hc (fun k hk => by omega)⟩
    rw [if_neg (by rw [he]; exact hne)]
    exact zero_rowS w2 _
  refine rets_of_okC Tryz.func33 rfl rfl ?_
  refine ok_seq (fun M hM => ok_region rfl ?_)
  (try revert X); refine t33 ?_; intro X hX
  refine Runs.box (fun w1 he1 hz1 hb1 => ?_)
  generalize hB1 : w.heap.size = B1 at hz1 hb1
  simp only [Value.cells] at hb1
  (try revert X); refine t33 ?_; intro X hX
  refine Runs.alloc Fx.zi36 (fun w2 he2 hz2 hb2 => ?_)
  generalize hB2 : w1.heap.size = B2 at hz2 hb2
  simp only [Value.cells] at hb2
  (try revert X); refine t33 ?_; intro X hX
  refine hM _ _ _ ?_; clear hM M
  have hb12 := hb1.ext he2
  have he02 := he1.trans he2
  have hA : ∀ W, Ext w2 W → cellsAt W ⟨B1, 0, none⟩ x.row := fun W h => (hb12.ext h).cells (o := 0) (fun j u hj => by simpa using hj)
  have zz : ∀ (w3 : World) (e : Int), Ext w2 w3 → errL H x = e → e ≠ 0 → ∀ (nx : World → Prop), (∀ w4, (∃ cs, cs.length = 4 ∧ cellsAt w4 ⟨B2, 0, none⟩ cs ∧ ∃ cs' : List Value, Value.tuple #[.agg cs.toArray, .int .i64 e] = .tuple #[.agg cs'.toArray, .int .i64 (errL H x)] ∧ VRowS w4 (fun k => w.heap.size ≤ k ∧ k < w4.heap.size) cs' (if errL H x = 0 then valO H x else zeroVal) ∧ Ext w w4) → nx w4) →
      Runs Tryz.prog (storeVar 36 ⟨B2, 0, none⟩ (.agg #[.int .i64 0, .int .i64 0, .string ⟨#[]⟩, .slice none 0 0])) w3 (fun _ w4 => nx w4) := by
    intro w3 e he3 he hne nx hnx
    refine Runs.store (hb2.ext he3) Fx.zi36 rfl (by intro u hu; simp [Value.cells] at hu; rcases hu with rfl | rfl | rfl | rfl <;> rfl) (by simp) (fun w4 hc4 hs4 hb4 => ?_)
    rw [splice_all _ _ (by simp [Value.cells])] at hb4
    simp only [Value.cells] at hb4
    exact hnx w4 (zero w3 w4 B2 e he hne (he02.trans he3) (by have := he1.size; omega) hc4 hb4)
  refine ok_join [(0, ptrOf qb), (3, ptrOf B1), (4, ptrOf B2)] (fun w' => w' = w2) ?_ ?_
  · refine ok_seq (fun M hM => ok_region rfl ?_)
    (try revert X); refine t33 ?_; intro X hX
    refine Runs.ptrEq Fx.un27 ?_
    (try revert X); refine t33 ?_; intro X hX
    refine hM _ _ _ ?_; clear hM M
    refine ok_cond rfl (fun h => by cases h) (fun h => ok_skip ?_)
    try simp only [zW, zU, reduceIte, Nat.reduceEqDiff, Nat.reduceAdd, reduceCtorEq, Q33]
    simp [sub, Env.get]
  rintro w' rfl
  refine ok_join [(0, ptrOf qb), (3, ptrOf B1), (4, ptrOf B2)] (fun w3 => Ext w' w3 ∧ rightW H x = true) ?_ ?_
  · refine ok_seq (fun M hM => ok_region rfl ?_)
    (try revert X); refine t33 ?_; intro X hX
    refine ⟨x.row, rfl, hA _ (Ext.refl _), ?_⟩
    (try revert X); refine t33 ?_; intro X hX
    refine Inv.call Fx.en38 (rright_ok w' qb H F (hH.ext he02) (by omega) x) ?_
    rintro v w3 ⟨rfl, he3⟩
    (try revert X); refine t33 ?_; intro X hX
    refine hM _ _ _ ?_; clear hM M
    cases hr : rightW H x with
    | false =>
      refine ok_cond (b := true) rfl (fun _ => ?_) (fun h => by cases h)
      refine ok_seq (fun M hM => ok_region rfl ?_)
      (try revert X); refine t33 ?_; intro X hX
      refine ⟨_, w3, run_build (P := Tryz.prog) w3 36 _ #[.int .i64 0, .int .i64 0, .string ⟨#[]⟩, .slice none 0 0] (by kernel_rfl), ?_⟩
      (try revert X); refine t33 ?_; intro X hX
      refine zz w3 2 he3 (by unfold errL; rw [if_neg (by rw [hr]; decide)]) (by decide) _ (fun w4 h4 => ?_)
      (try revert X); refine t33 ?_; intro X hX
      refine hM _ _ _ ?_; clear hM M
      refine ok_ret ?_
      try simp only [zW, zU, reduceIte, Nat.reduceEqDiff, Nat.reduceAdd, reduceCtorEq, Q33]
      exact h4
    | true =>
      refine ok_cond (b := false) rfl (fun h => by cases h) (fun _ => ok_skip ?_)
      exact ⟨rfl, by simp [sub, Env.get], he3, rfl⟩
  rintro w3 ⟨he3, hr⟩
  refine ok_join [(0, ptrOf qb), (3, ptrOf B1), (4, ptrOf B2)] (fun w4 => Ext w' w4 ∧ ringF H [x] = false) ?_ ?_
  · refine ok_seq (fun M hM => ok_region rfl ?_)
    (try revert X); refine t33 ?_; intro X hX
    refine ⟨x.row, rfl, hA _ he3, ?_⟩
    (try revert X); refine t33 ?_; intro X hX
    refine Inv.call Fx.en76 (rring_ok w3 qb H F (hH.ext (he02.trans he3)) hl hG x hr) ?_
    rintro v w4 ⟨rfl, he4⟩
    rw [ringR_eq hG hr]
    (try revert X); refine t33 ?_; intro X hX
    refine hM _ _ _ ?_; clear hM M
    cases hrg : ringF H [x] with
    | true =>
      refine ok_cond (b := true) rfl (fun _ => ?_) (fun h => by cases h)
      refine ok_seq (fun M hM => ok_region rfl ?_)
      (try revert X); refine t33 ?_; intro X hX
      refine ⟨_, w4, run_build (P := Tryz.prog) w4 36 _ #[.int .i64 0, .int .i64 0, .string ⟨#[]⟩, .slice none 0 0] (by kernel_rfl), ?_⟩
      (try revert X); refine t33 ?_; intro X hX
      refine zz w4 13 (he3.trans he4) (by unfold errL; rw [if_pos hr, if_pos hrg]) (by decide) _ (fun w5 h5 => ?_)
      (try revert X); refine t33 ?_; intro X hX
      refine hM _ _ _ ?_; clear hM M
      refine ok_ret ?_
      try simp only [zW, zU, reduceIte, Nat.reduceEqDiff, Nat.reduceAdd, reduceCtorEq, Q33]
      exact h5
    | false =>
      refine ok_cond (b := false) rfl (fun h => by cases h) (fun _ => ok_skip ?_)
      exact ⟨rfl, by simp [sub, Env.get], he3.trans he4, rfl⟩
  rintro w4 ⟨he4, hrg⟩
  have hnr : ¬ ringF H [x] = true := by rw [hrg]; decide
  refine ok_join [(0, ptrOf qb), (3, ptrOf B1), (4, ptrOf B2)] (fun w5 => Ext w' w5 ∧ errL H x = 0) ?_ ?_
  · refine ok_seq (fun M hM => ok_region rfl ?_)
    (try revert X); refine t33 ?_; intro X hX
    refine ⟨x.row, rfl, hA _ he4, ?_⟩
    (try revert X); refine t33 ?_; intro X hX
    refine Inv.call Fx.en40 (rParts_ok w4 qb H F (hH.ext (he02.trans he4)) (by omega) hG x) ?_
    rintro v w5 ⟨rfl, he5⟩
    rw [if_pos hr]
    (try revert X); refine t33 ?_; intro X hX
    refine hM _ _ _ ?_; clear hM M
    refine ok_if rfl (fun hp => ?_) (fun hp => ok_skip ?_)
    · refine ok_seq (fun M hM => ok_region rfl ?_)
      (try revert X); refine t33 ?_; intro X hX
      refine ⟨_, w5, run_build (P := Tryz.prog) w5 36 _ #[.int .i64 0, .int .i64 0, .string ⟨#[]⟩, .slice none 0 0] (by kernel_rfl), ?_⟩
      (try revert X); refine t33 ?_; intro X hX
      refine zz w5 6 (he4.trans he5) (by unfold errL; rw [if_pos hr, if_neg hnr, if_pos (by omega)]) (by decide) _ (fun w6 h6 => ?_)
      (try revert X); refine t33 ?_; intro X hX
      refine hM _ _ _ ?_; clear hM M
      refine ok_ret ?_
      try simp only [zW, zU, reduceIte, Nat.reduceEqDiff, Nat.reduceAdd, reduceCtorEq, Q33]
      exact h6
    · try simp only [zW, zU, reduceIte, Nat.reduceEqDiff, Nat.reduceAdd, reduceCtorEq, Q33]
      refine ⟨by simp [sub, Env.get], he4.trans he5, ?_⟩
      unfold errL; rw [if_pos hr, if_neg hnr, if_neg (by omega)]
  rintro w5 ⟨he5, hE⟩
  rw [hE, if_pos rfl]
  have hLd := valO_lds (ringF_reads hG hr hrg)
  refine ok_seq (fun M hM => ok_region rfl ?_)
  (try revert X); refine t33 ?_; intro X hX
  refine ⟨x.row, rfl, hA _ he5, ?_⟩
  (try revert X); refine t33 ?_; intro X hX
  refine Inv.call Fx.en77 (rloaded_ok qb H F hl hG _ (valO H x) x w5 (Nat.le_refl _) hr hLd (hH.ext (he02.trans he5))) ?_
  rintro v w6 ⟨cs, rfl, hcs, he6⟩
  have hone := (VRowS.row _ _ hcs).one
  have hcl4 := (VRowS.row _ _ hcs).len
  (try revert X); refine t33 ?_; intro X hX
  refine Runs.store (hb2.ext (he5.trans he6)) Fx.zi36 (by simp [Value.cells, hcl4]) (by intro u hu; simp [Value.cells] at hu; exact hone u hu) (by simp [Value.cells, hcl4]) (fun w7 hc7 hs7 hb7 => ?_)
  rw [splice_all _ _ (by simp [Value.cells, hcl4])] at hb7
  simp only [Value.cells] at hb7
  have hs02 := he02.size
  have hs5 := he5.size
  have hs6 := he6.size
  have hs7' := hc7.size
  have hs1 := he1.size
  (try revert X); refine t33 ?_; intro X hX
  refine hM _ _ _ ?_; clear hM M
  refine ok_ret ?_
  try simp only [zW, zU, reduceIte, Nat.reduceEqDiff, Nat.reduceAdd, reduceCtorEq, Q33]
  refine ⟨cs, hcl4, hb7.cells (o := 0) (fun j u hj => by simpa using hj), cs, rfl, ?_, (he02.trans (he5.trans he6)).chg_trans hc7 (fun k hk => by omega)⟩
  exact VRowS.chg hc7 (fun k hk => ⟨by omega, by omega⟩) _ _ hcs
end Go.Proofs.YtldeokfhipjbfaaGreatDoor
/- A region that draws its order and only makes things new, by a table: what each operation leaves, and where. -/
set_option linter.unusedVariables false
set_option linter.unusedSimpArgs false
namespace Go.Proofs.Vg
open Go Go.RowKit
abbrev Tab := List (Nat × (Value → World → Prop))
structure JT (T : Tab) (E0 : Env) (w0 : World) (L : Nat → Bool) (K : Env) (w : World) : Prop where
  ext : Ext w0 w
  base : sub E0 K
  at_ : ∀ (i s : Nat) (p : Value → World → Prop), T[i]? = some (s, p) → L i = true → ∃ v, K.get s = some v ∧ p v w
def tabOk (T : Tab) (E0 : Env) : Bool := (List.range T.length).all fun i => match T[i]? with
  | some (s, _) => (E0.all fun q => q.1 != s) && ((List.range T.length).all fun j => match T[j]? with | some (s', _) => s' != s || decide (j = i) | none => true)
  | none => true
theorem sub_put {s : Nat} {v : Value} {K : Env} : ∀ {E0 : Env}, (E0.all fun q => q.1 != s) = true → sub E0 K → sub E0 ((s, v) :: K)
  | [], _, _ => trivial
  | (i, u) :: r, h, hs => by
    simp only [List.all_cons, Bool.and_eq_true, bne_iff_ne, ne_eq] at h
    refine ⟨?_, sub_put h.2 hs.2⟩
    simp only [Env.get]
    rw [if_neg h.1]
    exact hs.1
theorem JT.get {T : Tab} {E0 : Env} {w0 w : World} {L : Nat → Bool} {K : Env} (h : JT T E0 w0 L K w) (s : Nat) {v : Value} (hv : E0.get s = some v) : K.get s = some v := sub_get h.base s v hv
theorem JT.put {T : Tab} {E0 : Env} {w0 w w' : World} {L : Nat → Bool} {K : Env} (h : JT T E0 w0 L K w) {i s : Nat} {p : Value → World → Prop} {v : Value} (hi : T[i]? = some (s, p)) (hT : tabOk T E0 = true)
    (hm : ∀ (j s : Nat) (p : Value → World → Prop), T[j]? = some (s, p) → ∀ v w w', Ext w w' → p v w → p v w') (he : Ext w w') (hp : p v w') : JT T E0 w0 (up L i) ((s, v) :: K) w' := by
  have h1 := List.all_eq_true.1 hT i (List.mem_range.2 (List.getElem?_eq_some_iff.1 hi).1)
  rw [hi] at h1
  simp only [Bool.and_eq_true] at h1
  refine ⟨h.ext.trans he, sub_put h1.1 h.base, fun j s' p' hj hL => ?_⟩
  by_cases hji : j = i
  · subst hji
    rw [hi] at hj; cases hj
    exact ⟨v, by simp [Env.get], hp⟩
  · have hL' : L j = true := by simpa [up, hji] using hL
    obtain ⟨u, hu, hpu⟩ := h.at_ j s' p' hj hL'
    have h2 := List.all_eq_true.1 h1.2 j (List.mem_range.2 (List.getElem?_eq_some_iff.1 hj).1)
    rw [hj] at h2
    simp only [Bool.or_eq_true, bne_iff_ne, ne_eq, decide_eq_true_eq] at h2
    have hne : ¬ s' = s := h2.resolve_right hji
    exact ⟨u, by simp only [Env.get]; rw [if_neg hne]; exact hu, hm j s' p' hj _ _ _ he hpu⟩
section
variable {P : Program} {ρ : Option Nat} {N : Nat} {K : Env} {ds : List Deferred} {w : World} {Φ : Post} {ops : List Oper}
theorem ok_tab (T : Tab) (E0 : Env) {id : Nat} (hm : P.follows .mixedOrders = true) (hd : dstsOk N ops = true) (hn : needsOk ops = true) (hl : T.length = ops.length) (hs0 : sub E0 K) (hss : sub E0 E0)
    (hstep : ∀ (L : Nat → Bool) (K : Env) (w1 : World) (i : Nat) (o : Oper), JT T E0 w L K w1 → ops[i]? = some o → (∀ k ∈ needs o, L k = true) → wpL P ops (fun ch K w => Φ (.panic ch) K ds w) (fun K' w' => JT T E0 w (up L i) K' w') [o] K w1)
    (hend : ∀ K w1, JT T E0 w (fun k => decide (k < ops.length)) K w1 → Φ .normal K ds w1) : ok P ρ N (.region id ops.toArray true) K ds w Φ :=
  ok_any (fun L K w1 => JT T E0 w L K w1) hm hd hn E0 hs0 ⟨Ext.drew w, hss, fun i s p _ h => by cases h⟩ (fun L K w1 i o hJ ho _ hno => hstep L K w1 i o hJ ho hno) hend
end
end Go.Proofs.Vg
