/- Part 6 of 12: H15, Vg23, H16, H17. -/
import Derived.Test.YtldeokfhipjbfaaGreatDoorM5
import Derived.Test.YtldeokfhipjbfaaGreatDoorM3
import Derived.RangeFuncLeaves
import Derived.RangeFuncRecord
/- Objects, Make.  -/
set_option linter.unusedVariables false
set_option linter.unusedSimpArgs false
namespace Go.Proofs.YtldeokfhipjbfaaGreatDoor
open Go Go.Proofs.Vg Go.RowKit

-- -- function 16
set_option maxHeartbeats 4000000 in
set_option maxRecDepth 8000 in
theorem objects_ok (w : World) (hb rb : Nat) (H : List Ob) (F : Nat → Prop) (hH : HeapW w hb rb H F) (hl : H.length ≤ 1073741824) : Rets Tryz.prog 16 [ptrOf hb] w (fun v w' => v = .int .i64 (H.length : Int) ∧ w' = w) := by
  obtain ⟨vs, ps, gs, hR, -⟩ := hH
  obtain ⟨A, c, hv, hlen, hcell⟩ := hR.sli hl
  have hL : (ps.map fun p => [ptrOf p]).length = H.length := by simp [hR.lenp]
  rw [hL] at hv
  subst hv
  refine rets_of_ok Tryz.func16 rfl rfl ?_
  refine ok_seq (fun M hM => ok_region rfl ?_); repeat ((try subst X); (first | (first | apply zL | apply zH | apply zE); intro X hX | apply zl | apply zh | apply ze); try simp only [zU, reduceIte, Nat.reduceEqDiff, Nat.reduceAdd, reduceCtorEq, Q16])
  refine hM _ _ _ ?_; clear hM M
  refine ok_join [(0, ptrOf hb)] (fun w' => w' = w) ?_ ?_
  · refine ok_seq (fun M hM => ok_region rfl ?_)
    repeat ((try subst X); (first | (first | apply zL | apply zH | apply zE); intro X hX | apply zl | apply zh | apply ze); try simp only [zU, reduceIte, Nat.reduceEqDiff, Nat.reduceAdd, reduceCtorEq, Q16])
    refine Runs.ptrEq Fx.un25 ?_
    repeat ((try subst X); (first | (first | apply zL | apply zH | apply zE); intro X hX | apply zl | apply zh | apply ze); try simp only [zU, reduceIte, Nat.reduceEqDiff, Nat.reduceAdd, reduceCtorEq, Q16])
    refine hM _ _ _ ?_; clear hM M
    refine ok_cond rfl (fun h => by cases h) (fun _ => ok_skip ?_)
    try simp only [zW, zU, reduceIte, Nat.reduceEqDiff, Nat.reduceAdd, reduceCtorEq, Q16]
    simp [sub, Env.get]
  rintro w' rfl
  refine ok_seq (fun M hM => ok_region rfl ?_)
  repeat ((try subst X); (first | (first | apply zL | apply zH | apply zE); intro X hX | apply zl | apply zh | apply ze); try simp only [zU, reduceIte, Nat.reduceEqDiff, Nat.reduceAdd, reduceCtorEq, Q16])
  refine ⟨_, hR.head.cell (j := 0) rfl, ?_⟩
  repeat ((try subst X); (first | (first | apply zL | apply zH | apply zE); intro X hX | apply zl | apply zh | apply ze); try simp only [zU, reduceIte, Nat.reduceEqDiff, Nat.reduceAdd, reduceCtorEq, Q16])
  refine hM _ _ _ ?_; clear hM M
  refine ok_ret ?_
  try simp only [zW, zU, reduceIte, Nat.reduceEqDiff, Nat.reduceAdd, reduceCtorEq, Q16]

def badArg (H : List Ob) (x : Wd) : Bool := !rightW H x || decide (x.k = 0) || decide (x.k = 9)
def makeE (H : List Ob) (k n : Int) (l : List Wd) : Int := if k = 4 ∨ k = 5 ∨ k = 6 ∨ k = 7 then if n < 0 ∨ (k = 7 ∧ n ≠ 0) then 5 else if l.any (badArg H) = true then 2 else 0 else 3

-- -- function 55
set_option maxHeartbeats 4000000 in
set_option maxRecDepth 8000 in
theorem make1_ok (w : World) (hb rb : Nat) (H : List Ob) (F : Nat → Prop) (hH : HeapW w hb rb H F) (hl : H.length ≤ 1073741824) (x : Wd) (B : Nat) (hB : w.cell? ⟨B, 0, none⟩ = some (ptrOf hb)) :
    Rets Tryz.prog 55 [wv x, ptrOf B] w (fun v w' => v = .bool (badArg H x) ∧ Ext w w') := by
  refine rets_of_ok Tryz.func55 rfl rfl ?_
  refine ok_seq (fun M hM => ok_region rfl ?_)
  repeat ((try subst X); (first | (first | apply zL | apply zH | apply zE); intro X hX | apply zl | apply zh | apply ze); try simp only [zU, reduceIte, Nat.reduceEqDiff, Nat.reduceAdd, reduceCtorEq, Q55])
  refine Runs.box (fun w1 he1 hz1 hb1 => ?_)
  generalize hB1 : w.heap.size = B1 at hz1 hb1
  simp only [Value.cells] at hb1
  repeat ((try subst X); (first | (first | apply zL | apply zH | apply zE); intro X hX | apply zl | apply zh | apply ze); try simp only [zU, reduceIte, Nat.reduceEqDiff, Nat.reduceAdd, reduceCtorEq, Q55])
  refine hM _ _ _ ?_; clear hM M
  refine ok_seq (fun M hM => ok_region rfl ?_)
  repeat ((try subst X); (first | (first | apply zL | apply zH | apply zE); intro X hX | apply zl | apply zh | apply ze); try simp only [zU, reduceIte, Nat.reduceEqDiff, Nat.reduceAdd, reduceCtorEq, Q55])
  refine ⟨_, he1.cell hB, ?_⟩
  repeat ((try subst X); (first | (first | apply zL | apply zH | apply zE); intro X hX | apply zl | apply zh | apply ze); try simp only [zU, reduceIte, Nat.reduceEqDiff, Nat.reduceAdd, reduceCtorEq, Q55])
  refine ⟨x.row, rfl, hb1.cells (o := 0) (fun j u hj => by simpa using hj), ?_⟩
  repeat ((try subst X); (first | (first | apply zL | apply zH | apply zE); intro X hX | apply zl | apply zh | apply ze); try simp only [zU, reduceIte, Nat.reduceEqDiff, Nat.reduceAdd, reduceCtorEq, Q55])
  refine Inv.call Fx.en12 (right_ok w1 hb rb H F (hH.ext he1) hl x) ?_
  rintro v w2 ⟨rfl, he2⟩
  repeat ((try subst X); (first | (first | apply zL | apply zH | apply zE); intro X hX | apply zl | apply zh | apply ze); try simp only [zU, reduceIte, Nat.reduceEqDiff, Nat.reduceAdd, reduceCtorEq, Q55])
  have hk0 : w2.cell? ⟨B1, 0, none⟩ = some (.int .i64 x.k) := (hb1.ext he2).cell rfl
  refine ⟨fun h => ?_, fun h => ?_⟩
  rotate_left
  · have hr : rightW H x = false := by simpa using h
    repeat ((try subst X); (first | (first | apply zL | apply zH | apply zE); intro X hX | apply zl | apply zh | apply ze); try simp only [zU, reduceIte, Nat.reduceEqDiff, Nat.reduceAdd, reduceCtorEq, Q55])
    refine hM _ _ _ ?_; clear hM M
    refine ok_ret ?_
    try simp only [zW, zU, reduceIte, Nat.reduceEqDiff, Nat.reduceAdd, reduceCtorEq, Q55]
    exact ⟨by simp [badArg, hr], he1.trans he2⟩
  · have hr : rightW H x = true := by simpa using h
    repeat ((try subst X); (first | (first | apply zL | apply zH | apply zE); intro X hX | apply zl | apply zh | apply ze); try simp only [zU, reduceIte, Nat.reduceEqDiff, Nat.reduceAdd, reduceCtorEq, Q55])
    refine ⟨_, hk0, ?_⟩
    simp only [hr, Bool.not_true]
    repeat ((try subst X); (first | (first | apply zL | apply zH | apply zE); intro X hX | apply zl | apply zh | apply ze); try simp only [zU, reduceIte, Nat.reduceEqDiff, Nat.reduceAdd, reduceCtorEq, Q55])
    refine ⟨fun h => ?_, fun h => ?_⟩
    · have h0 : ¬ x.k = 0 := by simpa using h
      repeat ((try subst X); (first | (first | apply zL | apply zH | apply zE); intro X hX | apply zl | apply zh | apply ze); try simp only [zU, reduceIte, Nat.reduceEqDiff, Nat.reduceAdd, reduceCtorEq, Q55])
      refine ⟨_, hk0, ?_⟩
      simp only [h0, decide_false]
      repeat ((try subst X); (first | (first | apply zL | apply zH | apply zE); intro X hX | apply zl | apply zh | apply ze); try simp only [zU, reduceIte, Nat.reduceEqDiff, Nat.reduceAdd, reduceCtorEq, Q55])
      refine hM _ _ _ ?_; clear hM M
      refine ok_ret ?_
      try simp only [zW, zU, reduceIte, Nat.reduceEqDiff, Nat.reduceAdd, reduceCtorEq, Q55]
      exact ⟨by simp [badArg, hr, h0], he1.trans he2⟩
    · have h0 : x.k = 0 := by simpa using h
      repeat ((try subst X); (first | (first | apply zL | apply zH | apply zE); intro X hX | apply zl | apply zh | apply ze); try simp only [zU, reduceIte, Nat.reduceEqDiff, Nat.reduceAdd, reduceCtorEq, Q55])
      refine hM _ _ _ ?_; clear hM M
      refine ok_ret ?_
      try simp only [zW, zU, reduceIte, Nat.reduceEqDiff, Nat.reduceAdd, reduceCtorEq, Q55]
      exact ⟨by simp [badArg, hr, h0], he1.trans he2⟩

-- -- function 21
set_option maxHeartbeats 4000000 in
set_option maxRecDepth 8000 in
theorem Make_ok (w : World) (hb rb : Nat) (H : List Ob) (F : Nat → Prop) (hH : HeapW w hb rb H F) (hF : ∀ k, F k → k < w.heap.size) (hl : H.length ≤ 1048576) (k n : Int) (av : Value) (l : List Wd) (hav : SlW w av l) (hll : l.length ≤ 1073741824) :
    Rets Tryz.prog 21 [ptrOf hb, .int .i64 k, .int .i64 n, av] w (fun v w' => v = .tuple #[wv (if makeE H k n l = 0 then (mkW H k n l).2 else ⟨0, 0, 0⟩), .int .i64 (makeE H k n l)] ∧ Grown w w' hb rb (if makeE H k n l = 0 then (mkW H k n l).1 else H) F) := by
  obtain ⟨A, c, rfl, hlen, hcell⟩ := id hav
  rw [wd_len] at hav hlen ⊢
  have zero : ∀ (w1 w2 : World) (B2 : Nat) (e : Int), makeE H k n l = e → e ≠ 0 → Ext w w1 → w.heap.size ≤ B2 → Chg (· = B2) w1 w2 → Blk w2 B2 [.int .i64 0, .int .i64 0, .int .i64 0] 38 →
      ∃ cs, cs.length = 3 ∧ cellsAt w2 ⟨B2, 0, none⟩ cs ∧ Value.tuple #[.agg cs.toArray, .int .i64 e] = .tuple #[wv (if makeE H k n l = 0 then (mkW H k n l).2 else ⟨0, 0, 0⟩), .int .i64 (makeE H k n l)] ∧ Grown w w2 hb rb (if makeE H k n l = 0 then (mkW H k n l).1 else H) F := by
    intro w1 w2 B2 e he hne he1 hB hc hb
    have h0 : ¬ makeE H k n l = 0 := by rw [he]; exact hne
    rw [if_neg h0, if_neg h0, he]
    exact ⟨_, rfl, hb.cells (o := 0) (row := Wd.row ⟨0, 0, 0⟩) (fun j u hj => by simpa [Wd.row] using hj), rfl, Grown.ext hH (he1.chg_trans hc (fun k hk => by omega))⟩
  refine rets_of_okC Tryz.func21 rfl rfl ?_
  refine ok_seq (fun M hM => ok_region rfl ?_)
  repeat ((try subst X); (first | (first | apply zL | apply zH | apply zE); intro X hX | apply zl | apply zh | apply ze); try simp only [zU, reduceIte, Nat.reduceEqDiff, Nat.reduceAdd, reduceCtorEq, Q21])
  refine Runs.box (fun w1 he1 hz1 hb1 => ?_)
  generalize hB1 : w.heap.size = B1 at hz1 hb1
  simp only [Value.cells] at hb1
  repeat ((try subst X); (first | (first | apply zL | apply zH | apply zE); intro X hX | apply zl | apply zh | apply ze); try simp only [zU, reduceIte, Nat.reduceEqDiff, Nat.reduceAdd, reduceCtorEq, Q21])
  refine Runs.alloc Fx.zi38 (fun w2 he2 hz2 hb2 => ?_)
  generalize hB2 : w1.heap.size = B2 at hz2 hb2
  simp only [Value.cells] at hb2
  repeat ((try subst X); (first | (first | apply zL | apply zH | apply zE); intro X hX | apply zl | apply zh | apply ze); try simp only [zU, reduceIte, Nat.reduceEqDiff, Nat.reduceAdd, reduceCtorEq, Q21])
  refine hM _ _ _ ?_; clear hM M
  have hb12 := hb1.ext he2
  have he02 := he1.trans he2
  refine ok_join [(1, .int .i64 k), (2, .int .i64 n), (3, .slice A l.length c), (4, ptrOf B1), (8, ptrOf B2)] (fun w' => w' = w2 ∧ (k = 4 ∨ k = 5 ∨ k = 6 ∨ k = 7) ∧ ¬ (n < 0 ∨ (k = 7 ∧ n ≠ 0))) ?_ ?_
  · refine ok_block ?_
    refine ok_seq (fun M hM => ok_region rfl ?_)
    repeat ((try subst X); (first | (first | apply zL | apply zH | apply zE); intro X hX | apply zl | apply zh | apply ze); try simp only [zU, reduceIte, Nat.reduceEqDiff, Nat.reduceAdd, reduceCtorEq, Q21])
    refine ⟨_, hb12.cell (j := 0) rfl, ?_⟩
    repeat ((try subst X); (first | (first | apply zL | apply zH | apply zE); intro X hX | apply zl | apply zh | apply ze); try simp only [zU, reduceIte, Nat.reduceEqDiff, Nat.reduceAdd, reduceCtorEq, Q21])
    refine Runs.ptrEq Fx.un25 ?_
    repeat ((try subst X); (first | (first | apply zL | apply zH | apply zE); intro X hX | apply zl | apply zh | apply ze); try simp only [zU, reduceIte, Nat.reduceEqDiff, Nat.reduceAdd, reduceCtorEq, Q21])
    refine hM _ _ _ ?_; clear hM M
    refine ok_cond rfl (fun h => by cases h) (fun _ => ?_)
    refine ok_join [(1, .int .i64 k), (2, .int .i64 n), (3, .slice A l.length c), (4, ptrOf B1), (8, ptrOf B2), (14, .bool (!decide (k = 4 ∨ k = 5 ∨ k = 6 ∨ k = 7)))] (fun w' => w' = w2) ?_ ?_
    · refine ok_region rfl ?_
      repeat ((try subst X); (first | (first | apply zL | apply zH | apply zE); intro X hX | apply zl | apply zh | apply ze); try simp only [zU, reduceIte, Nat.reduceEqDiff, Nat.reduceAdd, reduceCtorEq, Q21])
      refine ⟨fun h => ?_, fun h => ?_⟩
      · have h4 : ¬ k = 4 := by simpa using h
        repeat ((try subst X); (first | (first | apply zL | apply zH | apply zE); intro X hX | apply zl | apply zh | apply ze); try simp only [zU, reduceIte, Nat.reduceEqDiff, Nat.reduceAdd, reduceCtorEq, Q21])
        refine ⟨fun h => ?_, fun h => ?_⟩
        · have h5 : ¬ k = 5 := by simpa using h
          repeat ((try subst X); (first | (first | apply zL | apply zH | apply zE); intro X hX | apply zl | apply zh | apply ze); try simp only [zU, reduceIte, Nat.reduceEqDiff, Nat.reduceAdd, reduceCtorEq, Q21])
          refine ⟨fun h => ?_, fun h => ?_⟩
          · have h6 : ¬ k = 6 := by simpa using h
            repeat ((try subst X); (first | (first | apply zL | apply zH | apply zE); intro X hX | apply zl | apply zh | apply ze); try simp only [zU, reduceIte, Nat.reduceEqDiff, Nat.reduceAdd, reduceCtorEq, Q21])
            simp [sub, Env.get, h4, h5, h6]
          · have h6 : k = 6 := by simpa using h
            repeat ((try subst X); (first | (first | apply zL | apply zH | apply zE); intro X hX | apply zl | apply zh | apply ze); try simp only [zU, reduceIte, Nat.reduceEqDiff, Nat.reduceAdd, reduceCtorEq, Q21])
            simp [sub, Env.get, h6]
        · have h5 : k = 5 := by simpa using h
          repeat ((try subst X); (first | (first | apply zL | apply zH | apply zE); intro X hX | apply zl | apply zh | apply ze); try simp only [zU, reduceIte, Nat.reduceEqDiff, Nat.reduceAdd, reduceCtorEq, Q21])
          simp [sub, Env.get, h5]
      · have h4 : k = 4 := by simpa using h
        repeat ((try subst X); (first | (first | apply zL | apply zH | apply zE); intro X hX | apply zl | apply zh | apply ze); try simp only [zU, reduceIte, Nat.reduceEqDiff, Nat.reduceAdd, reduceCtorEq, Q21])
        simp [sub, Env.get, h4]
    rintro w' rfl
    refine ok_ifn rfl (fun hk => ?_) (fun hk => ?_)
    · refine ok_seq (fun M hM => ok_region rfl ?_)
      repeat ((try subst X); (first | (first | apply zL | apply zH | apply zE); intro X hX | apply zl | apply zh | apply ze); try simp only [zU, reduceIte, Nat.reduceEqDiff, Nat.reduceAdd, reduceCtorEq, Q21])
      refine ⟨_, w', run_build (P := Tryz.prog) w' 38 _ #[.int .i64 0, .int .i64 0, .int .i64 0] (by kernel_rfl), ?_⟩
      repeat ((try subst X); (first | (first | apply zL | apply zH | apply zE); intro X hX | apply zl | apply zh | apply ze); try simp only [zU, reduceIte, Nat.reduceEqDiff, Nat.reduceAdd, reduceCtorEq, Q21])
      refine Runs.store hb2 Fx.zi38 rfl (by intro u hu; simp [Value.cells] at hu; subst hu; rfl) (by simp) (fun w5 hc5 hs5 hb5 => ?_)
      rw [splice_all _ _ (by simp [Value.cells])] at hb5
      simp only [Value.cells] at hb5
      repeat ((try subst X); (first | (first | apply zL | apply zH | apply zE); intro X hX | apply zl | apply zh | apply ze); try simp only [zU, reduceIte, Nat.reduceEqDiff, Nat.reduceAdd, reduceCtorEq, Q21])
      refine hM _ _ _ ?_; clear hM M
      refine ok_ret ?_
      try simp only [zW, zU, reduceIte, Nat.reduceEqDiff, Nat.reduceAdd, reduceCtorEq, Q21]
      exact zero w' w5 B2 3 (by simp [makeE, hk]) (by decide) he02 (by omega) hc5 hb5
    · refine ok_join [(1, .int .i64 k), (2, .int .i64 n), (3, .slice A l.length c), (4, ptrOf B1), (8, ptrOf B2), (30, .bool (decide (n < 0 ∨ (k = 7 ∧ n ≠ 0))))] (fun w2 => w2 = w') ?_ ?_
      · refine ok_region rfl ?_
        repeat ((try subst X); (first | (first | apply zL | apply zH | apply zE); intro X hX | apply zl | apply zh | apply ze); try simp only [zU, reduceIte, Nat.reduceEqDiff, Nat.reduceAdd, reduceCtorEq, Q21])
        refine ⟨fun h => ?_, fun h => ?_⟩
        · have hn : ¬ n < 0 := by simpa using h
          repeat ((try subst X); (first | (first | apply zL | apply zH | apply zE); intro X hX | apply zl | apply zh | apply ze); try simp only [zU, reduceIte, Nat.reduceEqDiff, Nat.reduceAdd, reduceCtorEq, Q21])
          refine ⟨fun h => ?_, fun h => ?_⟩
          · have h7 : k = 7 := by simpa using h
            simp only [hn, decide_false]
            repeat ((try subst X); (first | (first | apply zL | apply zH | apply zE); intro X hX | apply zl | apply zh | apply ze); try simp only [zU, reduceIte, Nat.reduceEqDiff, Nat.reduceAdd, reduceCtorEq, Q21])
            by_cases hn0 : n = 0 <;> simp [sub, Env.get, hn, h7, hn0]
          · have h7 : ¬ k = 7 := by simpa using h
            simp only [hn, decide_false]
            repeat ((try subst X); (first | (first | apply zL | apply zH | apply zE); intro X hX | apply zl | apply zh | apply ze); try simp only [zU, reduceIte, Nat.reduceEqDiff, Nat.reduceAdd, reduceCtorEq, Q21])
            simp [sub, Env.get, hn, h7]
        · have hn : n < 0 := by simpa using h
          repeat ((try subst X); (first | (first | apply zL | apply zH | apply zE); intro X hX | apply zl | apply zh | apply ze); try simp only [zU, reduceIte, Nat.reduceEqDiff, Nat.reduceAdd, reduceCtorEq, Q21])
          simp [sub, Env.get, hn]
      rintro w'' rfl
      refine ok_if rfl (fun hn => ?_) (fun hn => ok_skip ?_)
      · refine ok_seq (fun M hM => ok_region rfl ?_)
        repeat ((try subst X); (first | (first | apply zL | apply zH | apply zE); intro X hX | apply zl | apply zh | apply ze); try simp only [zU, reduceIte, Nat.reduceEqDiff, Nat.reduceAdd, reduceCtorEq, Q21])
        refine ⟨_, w'', run_build (P := Tryz.prog) w'' 38 _ #[.int .i64 0, .int .i64 0, .int .i64 0] (by kernel_rfl), ?_⟩
        repeat ((try subst X); (first | (first | apply zL | apply zH | apply zE); intro X hX | apply zl | apply zh | apply ze); try simp only [zU, reduceIte, Nat.reduceEqDiff, Nat.reduceAdd, reduceCtorEq, Q21])
        refine Runs.store hb2 Fx.zi38 rfl (by intro u hu; simp [Value.cells] at hu; subst hu; rfl) (by simp) (fun w5 hc5 hs5 hb5 => ?_)
        rw [splice_all _ _ (by simp [Value.cells])] at hb5
        simp only [Value.cells] at hb5
        repeat ((try subst X); (first | (first | apply zL | apply zH | apply zE); intro X hX | apply zl | apply zh | apply ze); try simp only [zU, reduceIte, Nat.reduceEqDiff, Nat.reduceAdd, reduceCtorEq, Q21])
        refine hM _ _ _ ?_; clear hM M
        refine ok_ret ?_
        try simp only [zW, zU, reduceIte, Nat.reduceEqDiff, Nat.reduceAdd, reduceCtorEq, Q21]
        exact zero w'' w5 B2 5 (by simp only [makeE]; rw [if_pos hk, if_pos hn]) (by decide) he02 (by omega) hc5 hb5
      · try simp only [zW, zU, reduceIte, Nat.reduceEqDiff, Nat.reduceAdd, reduceCtorEq, Q21]
        exact ⟨by simp [sub, Env.get], hk, hn⟩
  rintro w' ⟨rfl, hk, hn⟩
  refine ok_join [(1, .int .i64 k), (2, .int .i64 n), (3, .slice A l.length c), (4, ptrOf B1), (8, ptrOf B2)] (fun w3 => Ext w' w3 ∧ makeE H k n l = 0) ?_ ?_
  · refine ok_seq (fun M hM => ok_region rfl ?_)
    repeat ((try subst X); (first | (first | apply zL | apply zH | apply zE); intro X hX | apply zl | apply zh | apply ze); try simp only [zU, reduceIte, Nat.reduceEqDiff, Nat.reduceAdd, reduceCtorEq, Q21])
    refine Inv.call Fx.en47 (containsW_ok w' A l.length c _ hlen
      (fun i w4 => Ext w' w4 ∧ ∀ (j : Nat) (x : Wd), j < i → l[j]? = some x → badArg H x = false)
      (fun w4 => Ext w' w4 ∧ l.any (badArg H) = true) ⟨Ext.refl _, fun j x h => absurd h (Nat.not_lt_zero _)⟩ ?_) ?_
    · rintro i w4 hil ⟨he4, hall⟩
      have hxi : l[i]? = some l[i] := List.getElem?_eq_getElem hil
      obtain ⟨b, o, hA, hcc⟩ := hcell i l[i].row (by rw [List.getElem?_map, hxi]; rfl)
      refine ⟨l[i].row, rfl, ⟨b, o, hA, (he02.trans he4).cellsAt hcc⟩, Inv.clos (cap := [ptrOf B1]) Fx.en55 (make1_ok w4 hb rb H F (hH.ext (he02.trans he4)) (by omega) l[i] B1 (he4.cell (hb12.cell (j := 0) rfl))) ?_⟩
      rintro v w5 ⟨rfl, he5⟩
      refine ⟨_, rfl, fun hb => ⟨he4.trans he5, List.any_eq_true.2 ⟨_, List.getElem_mem hil, hb⟩⟩, fun hb => ⟨he4.trans he5, fun j x hj hx => ?_⟩⟩
      rcases Nat.lt_or_ge j i with h | h
      · exact hall j x h hx
      · have : j = i := by omega
        subst this
        rw [hxi] at hx
        cases hx
        exact hb
    rintro v w4 ⟨b, rfl, hbt, hbf⟩
    repeat ((try subst X); (first | (first | apply zL | apply zH | apply zE); intro X hX | apply zl | apply zh | apply ze); try simp only [zU, reduceIte, Nat.reduceEqDiff, Nat.reduceAdd, reduceCtorEq, Q21])
    refine hM _ _ _ ?_; clear hM M
    cases b with
    | true =>
      obtain ⟨he4, hany⟩ := hbt rfl
      refine ok_cond rfl (fun _ => ?_) (fun h => by cases h)
      refine ok_seq (fun M hM => ok_region rfl ?_)
      repeat ((try subst X); (first | (first | apply zL | apply zH | apply zE); intro X hX | apply zl | apply zh | apply ze); try simp only [zU, reduceIte, Nat.reduceEqDiff, Nat.reduceAdd, reduceCtorEq, Q21])
      refine ⟨_, w4, run_build (P := Tryz.prog) w4 38 _ #[.int .i64 0, .int .i64 0, .int .i64 0] (by kernel_rfl), ?_⟩
      repeat ((try subst X); (first | (first | apply zL | apply zH | apply zE); intro X hX | apply zl | apply zh | apply ze); try simp only [zU, reduceIte, Nat.reduceEqDiff, Nat.reduceAdd, reduceCtorEq, Q21])
      refine Runs.store (hb2.ext he4) Fx.zi38 rfl (by intro u hu; simp [Value.cells] at hu; subst hu; rfl) (by simp) (fun w5 hc5 hs5 hb5 => ?_)
      rw [splice_all _ _ (by simp [Value.cells])] at hb5
      simp only [Value.cells] at hb5
      repeat ((try subst X); (first | (first | apply zL | apply zH | apply zE); intro X hX | apply zl | apply zh | apply ze); try simp only [zU, reduceIte, Nat.reduceEqDiff, Nat.reduceAdd, reduceCtorEq, Q21])
      refine hM _ _ _ ?_; clear hM M
      refine ok_ret ?_
      try simp only [zW, zU, reduceIte, Nat.reduceEqDiff, Nat.reduceAdd, reduceCtorEq, Q21]
      exact zero w4 w5 B2 2 (by simp only [makeE]; rw [if_pos hk, if_neg hn, if_pos hany]) (by decide) (he02.trans he4) (by omega) hc5 hb5
    | false =>
      obtain ⟨he4, hall⟩ := hbf rfl
      refine ok_cond rfl (fun h => by cases h) (fun _ => ok_skip ?_)
      try simp only [zW, zU, reduceIte, Nat.reduceEqDiff, Nat.reduceAdd, reduceCtorEq, Q21]
      have hany : l.any (badArg H) = false := by
        rw [List.any_eq_false]
        intro x hx hb
        obtain ⟨j, hj⟩ := List.mem_iff_getElem?.1 hx
        rw [hall j x (List.getElem?_eq_some_iff.1 hj).1 hj] at hb
        cases hb
      exact ⟨by simp [sub, Env.get], he4, by simp only [makeE]; rw [if_pos hk, if_neg hn, hany]; rfl⟩
  rintro w3 ⟨he3, herr⟩
  rw [if_pos herr, if_pos herr, herr]
  have he03 := he02.trans he3
  have hs03 := he03.size
  have hl2 := (hb2.ext he3).lt
  refine ok_seq (fun M hM => ok_region rfl ?_)
  repeat ((try subst X); (first | (first | apply zL | apply zH | apply zE); intro X hX | apply zl | apply zh | apply ze); try simp only [zU, reduceIte, Nat.reduceEqDiff, Nat.reduceAdd, reduceCtorEq, Q21])
  refine ⟨_, (hb12.ext he3).cell (j := 0) rfl, ?_⟩
  repeat ((try subst X); (first | (first | apply zL | apply zH | apply zE); intro X hX | apply zl | apply zh | apply ze); try simp only [zU, reduceIte, Nat.reduceEqDiff, Nat.reduceAdd, reduceCtorEq, Q21])
  refine Inv.call Fx.en56 (make_ok w3 hb rb H F (hH.ext he03) (fun k hk => by have := hF k hk; omega) hl k n _ l (hav.ext he03) hll) ?_
  rintro v w4 ⟨rfl, hc4, F4, hH4, hF4⟩
  have hs4 := hc4.size
  have hrb := hH.lt
  repeat ((try subst X); (first | (first | apply zL | apply zH | apply zE); intro X hX | apply zl | apply zh | apply ze); try simp only [zU, reduceIte, Nat.reduceEqDiff, Nat.reduceAdd, reduceCtorEq, Q21])
  have hnF : ¬ F B2 := fun h => by have := hF B2 h; omega
  refine Runs.store ((hb2.ext he3).chg hc4 hnF) Fx.zi38 rfl (by intro u hu; simp [Value.cells, Wd.row] at hu; rcases hu with rfl | rfl | rfl <;> rfl) (by simp) (fun w5 hc5 hs5 hb5 => ?_)
  rw [splice_all _ _ (by simp [Value.cells])] at hb5
  simp only [Value.cells] at hb5
  repeat ((try subst X); (first | (first | apply zL | apply zH | apply zE); intro X hX | apply zl | apply zh | apply ze); try simp only [zU, reduceIte, Nat.reduceEqDiff, Nat.reduceAdd, reduceCtorEq, Q21])
  refine hM _ _ _ ?_; clear hM M
  refine ok_ret ?_
  try simp only [zW, zU, reduceIte, Nat.reduceEqDiff, Nat.reduceAdd, reduceCtorEq, Q21]
  refine ⟨_, rfl, hb5.cells (o := 0) (row := (mkW H k n l).2.row) (fun j u hj => by simpa using hj), rfl, ?_⟩
  have hnB : ¬ F4 B2 := fun h => by rcases hF4 B2 h with h | h <;> first | exact hnF h | omega
  refine ⟨((he03.chg F).trans hc4).trans_new hc5 (fun k hk => by omega), F4, hH4.chg hc5 (fun k hk e => hnB (e ▸ hk)) (by omega), fun k hk => ?_⟩
  rcases hF4 k hk with h | h
  · exact .inl h
  · exact .inr (by omega)
end Go.Proofs.YtldeokfhipjbfaaGreatDoor
/- Range over a function that works on cells of its own: the state may change with the world. -/
set_option linter.unusedVariables false
set_option linter.unusedSimpArgs false
namespace Go.Proofs.Vg
open Go Go.RowKit
section
variable {P : Program} {N : Nat} {K : Env} {ds : List Deferred} {w : World} {a : Act} {Φ : Post}
theorem ok_rangeG {S : Type} {g : Operand} {ps : List Nat} {assign body : Code} {gf : FuncId} {cap : List Value} (J : S → World → Prop) (Jx : Code → World → Prop) (s0 : S) (elem : S → List Value) (more fini : S → Prop) (nxt : S → S → Prop) (gen : S → World → S → World → Prop)
    (hg : ev K g = some (.func (.func gf) #[] cap.toArray)) (hen : ∀ (xs : Array Value) (w : World), (callFunc gf xs).run P w = .ok (.enter gf xs) w)
    (hps : ∀ p ∈ ps, p < N) (hel : ∀ s, more s → (elem s).length = ps.length)
    (hst : ∀ s W W', Off w.heap.size W W' → J s W → J s W') (hstx : ∀ c W W', Off w.heap.size W W' → Jx c W → Jx c W') (hgen : ∀ s W s' W', w.heap.size + 1 < W.heap.size → gen s W s' W' → J s W → Keep w.heap.size W W' ∧ J s' W')
    (hJ0 : ∀ W, Ext w W → W.heap.size = w.heap.size + 2 → J s0 W)
    (hround : ∀ s W, more s → J s W → w.heap.size + 1 < W.heap.size → ok P (some (w.heap.size + 1)) N assign (bindE ps (elem s) K) [] W (fun e K1 ds1 W1 => e = .normal ∧ Keep w.heap.size W W1 ∧
      ∀ W2, Off w.heap.size W1 W2 → ok P (some (w.heap.size + 1)) N body K1 ds1 W2 (fun e K3 ds3 W3 => Keep w.heap.size W2 W3 ∧ match e with
        | .normal => ∃ s', nxt s s' ∧ J s' W3
        | .ret => Jx .ret W3
        | .exit id => Jx (.exit id) W3
        | _ => False)))
    (hit : ∀ (J' : S → World → Prop) (Jx' : World → Prop) (W : World), (∀ s W s' W', gen s W s' W' → J' s W → J' s' W') → (∀ s W, J' s W → J s W ∧ w.heap.size + 1 < W.heap.size) → J' s0 W →
      (∀ s W, more s → J' s W → Yields P (w.heap.size + 1) (elem s) W (fun b W' => (b = true ∧ ∃ s', nxt s s' ∧ J' s' W') ∨ (b = false ∧ Jx' W'))) →
      Rets P gf (.func (.yield (w.heap.size + 1)) #[] #[] :: cap) W (fun _ W' => (∃ s, fini s ∧ J' s W') ∨ Jx' W'))
    (hdone : ∀ s W, fini s → J s W → W.heap[w.heap.size]? = some (.deferred (some [])) → Φ .normal K (markOf w.heap.size :: ds) W)
    (hret : ∀ W, Jx .ret W → W.heap[w.heap.size]? = some (.deferred (some [])) → Φ .ret K (markOf w.heap.size :: ds) W)
    (hexit : ∀ id W, Jx (.exit id) W → W.heap[w.heap.size]? = some (.deferred (some [])) → Φ (.exit id) K (markOf w.heap.size :: ds) W) :
    ok P none N (.rangeFunc g ps.toArray assign body) K ds w Φ := by
  intro a ha
  refine wpIn_rangeFunc (fun fn hfn => ?_)
  generalize hn : w.heap.size = n at *
  -- the record
  let rec_ : LoopState → Option Code → Loop := fun st pd => { state := st, pending := pd, fn := fn, tmps := a.tmps, params := ps.toArray, assign := assign, body := body, defers := n }
  let w1 : World := (w.alloc (.deferred (some []))).alloc (.loop (rec_ .ready none))
  have hw1 : Ext w w1 := ⟨rfl, rfl, rfl, by simp [w1]; omega, fun k hk => by
    show ((w.alloc _).alloc _).heap[k]? = _
    rw [Below.heap_alloc _ _ k (by simp; omega), Below.heap_alloc _ _ k hk]⟩
  have hl1 : w1.heap[n + 1]? = some (.loop (rec_ .ready none)) := by
    have := World.alloc_heap_new (w.alloc (.deferred (some []))) (.loop (rec_ .ready none))
    simp only [World.size_alloc, hn] at this
    exact this
  have hd1 : w1.heap[n]? = some (.deferred (some [])) := by
    show ((w.alloc _).alloc _).heap[n]? = _
    rw [Below.heap_alloc _ _ n (by simp; omega)]
    have := World.alloc_heap_new w (.deferred (some []))
    rw [hn] at this
    exact this
  refine ⟨n + 1, [markOf n], w1, { target := .fn (.func gf) cap.toArray, args := #[.func (.yield (n + 1)) #[] #[]] }, w1, gf, #[.func (.yield (n + 1)) #[] #[]] ++ cap.toArray, w1, ?_, ?_, ?_, ?_, fence_depth _ _, ?_⟩
  · have := run_enterLoop_outer (P := P) (w := w) fn a.tmps ps.toArray assign body
    rw [hn] at this
    exact this
  · have he := ev_eval ha hg
    simp only [resolve, rangeCall, he]
    simp [Deferred.ofValue, Act.eval]
  · intro f' _; trivial
  · simp [invoke, hen]
  -- the call
  let J' : S → World → Prop := fun s W => J s W ∧ W.heap[n + 1]? = some (.loop (rec_ .ready none)) ∧ W.heap[n]? = some (.deferred (some []))
  let Jx' : World → Prop := fun W => ∃ c, Jx c W ∧ (c = .ret ∨ ∃ id, c = .exit id) ∧ W.heap[n + 1]? = some (.loop (rec_ .done (some c))) ∧ W.heap[n]? = some (.deferred (some []))
  have hcall := hit J' Jx' w1 (fun s W s' W' he ⟨h1, h2, h3⟩ => by
    obtain ⟨hk, hj⟩ := hgen s W s' W' (Array.getElem?_eq_some_iff.1 h2).1 he h1
    exact ⟨hj, hk.2.trans h2, hk.1.trans h3⟩) (fun s W h => ⟨h.1, (Array.getElem?_eq_some_iff.1 h.2.1).1⟩) ⟨hJ0 w1 hw1 (by simp [w1, hn]), hl1, hd1⟩ (fun s W hm ⟨hj, hl, hd⟩ => by
    -- one round
    have hlt : n + 1 < W.heap.size := (Array.getElem?_eq_some_iff.1 hl).1
    have hy := run_yield (P := P) (args := (elem s).toArray) hl (by simp [rec_, hel s hm])
    refine ⟨fn, _, assign, body, hy, roundIn_of_wpIn trivial ?_⟩
    have hk0 : Kn K N [] { tmps := a.tmps, defers := [] } := ⟨ha.size, rfl, ha.at_⟩
    have hkb := Kn.bind ps (elem s) K a.tmps hps hk0
    have hfold : (((rec_ .ready none).params.zip (elem s).toArray).foldl (fun tmps (x : Tmp × Value) => match x with | (t, a) => tmps.setIfInBounds t a) (rec_ .ready none).tmps) =
        (ps.zip (elem s)).foldl (fun tmps (p : Nat × Value) => tmps.setIfInBounds p.1 p.2) a.tmps := by
      simp only [rec_]
      rw [← Array.foldl_toList]
      simp
    have hra := hround s W hm hj hlt _ hkb
    rw [hfold]
    refine wpIn_mono (F := fence (some (n + 1))) hra ?_
    rintro e a1 W1 ⟨K1, ds1, hk1, rfl, hkeep, hbody⟩
    have hl1' : W1.heap[n + 1]? = some (.loop (rec_ .ready none)) := hkeep.2.trans hl
    have hd1' : W1.heap[n]? = some (.deferred (some [])) := hkeep.1.trans hd
    have hlt1 : n + 1 < W1.heap.size := (Array.getElem?_eq_some_iff.1 hl1').1
    refine ⟨_, run_beginRound hl1' rfl, ?_⟩
    refine wpIn_mono (F := fence (some (n + 1))) (hbody _ (Off.put n W1 _) a1 hk1) ?_
    have hl2 : (W1.putObj (n + 1) (.loop { rec_ .ready none with state := .busy })).heap[n + 1]? = some (.loop (rec_ .busy none)) := World.putObj_heap_same hlt1
    have hd2 : (W1.putObj (n + 1) (.loop { rec_ .ready none with state := .busy })).heap[n]? = some (.deferred (some [])) := (World.putObj_heap_other (by omega)).trans hd1'
    rintro e a3 W3 ⟨K3, ds3, hk3, hkeep3, hpost⟩
    have hl3 := hkeep3.2.trans hl2
    have hd3 := hkeep3.1.trans hd2
    have hlt3 : n + 1 < W3.heap.size := (Array.getElem?_eq_some_iff.1 hl3).1
    cases e with
    | normal =>
      obtain ⟨s', hns, hj'⟩ := hpost
      refine ⟨_, _, run_endRound none hl3, true, rfl, .inl ⟨rfl, s', hns, hst _ _ _ (Off.put n W3 _) hj', World.putObj_heap_same hlt3, (World.putObj_heap_other (by omega)).trans hd3⟩⟩
    | ret =>
      refine ⟨_, _, run_endRound (some .ret) hl3, false, rfl, .inr ⟨rfl, .ret, hstx _ _ _ (Off.put n W3 _) hpost, .inl rfl, World.putObj_heap_same hlt3, (World.putObj_heap_other (by omega)).trans hd3⟩⟩
    | exit id =>
      refine ⟨_, _, run_endRound (some (.exit id)) hl3, false, rfl, .inr ⟨rfl, .exit id, hstx _ _ _ (Off.put n W3 _) hpost, .inr ⟨id, rfl⟩, World.putObj_heap_same hlt3, (World.putObj_heap_other (by omega)).trans hd3⟩⟩
    | goto t => exact hpost.elim
    | panic ch => exact hpost.elim
    | outgrown => exact hpost.elim)
  have hcall' : CallsIn Fence.wide (0 - 1) P gf (#[.func (.yield (n + 1)) #[] #[]] ++ cap.toArray) w1 (callR (fun _ W' => (∃ s, fini s ∧ J' s W') ∨ Jx' W') fun _ _ => False) := by
    refine callsIn_wide.2 ?_
    have : (#[.func (.yield (n + 1)) #[] #[]] ++ cap.toArray : Array Value) = (.func (.yield (n + 1)) #[] #[] :: cap).toArray := by simp
    rw [this]
    exact hcall
  have hka : Kn K N (markOf n :: ds) { a with defers := [markOf n] ++ a.defers } := ⟨ha.size, by simp [ha.defers], ha.at_⟩
  refine CallsIn.mono hcall' ?_
  rintro e W he
  cases e <;> simp only [callR] at he
  · simp only [rangePost]
    rcases he with ⟨s, hf, hj, hl, hd⟩ | ⟨c, hx, hc, hl, hd⟩
    · refine ⟨none, _, run_endLoop hl (by simp [rec_]), ?_⟩
      exact ⟨K, _, hka, hdone s _ hf (hst _ _ _ (Off.put n W _) hj) ((World.putObj_heap_other (by omega)).trans hd)⟩
    · refine ⟨some c, _, run_endLoop hl (by simp [rec_]), ?_⟩
      have hx' := hstx _ _ _ (Off.put n W (.loop { rec_ .done (some c) with state := .exhausted })) hx
      have hd' : (W.putObj (n + 1) (.loop { rec_ .done (some c) with state := .exhausted })).heap[n]? = some (.deferred (some [])) := (World.putObj_heap_other (by omega)).trans hd
      rcases hc with rfl | ⟨id, rfl⟩
      · exact wpIn_ret ⟨K, _, hka, hret _ hx' hd'⟩
      · exact wpIn_exit ⟨K, _, hka, hexit id _ hx' hd'⟩
end
end Go.Proofs.Vg
/- Reaching: pushing the words of a list. -/
set_option linter.unusedVariables false
set_option linter.unusedSimpArgs false
namespace Go.Proofs.Vg
open Go Go.RowKit
def pushF : List Bool → List Int → List Wd → List Bool × List Int
  | sn, q, [] => (sn, q)
  | sn, q, x :: l => if x.r ≠ 0 ∧ sn[x.r.toNat]? = some false then pushF (sn.set x.r.toNat true) (q ++ [x.r]) l else pushF sn q l
def bfs (H : List Ob) : Nat → List Bool → List Int → Nat → List Int
  | 0, _, q, _ => q
  | f + 1, sn, q, i => match q[i]? with
    | none => q
    | some r => bfs H f (pushF sn q (listO (objAt H r))).1 (pushF sn q (listO (objAt H r))).2 (i + 1)
def unseen (sn : List Bool) : Nat := sn.countP (fun b => !b)
theorem unseen_set {sn : List Bool} {i : Nat} (h : sn[i]? = some false) : unseen (sn.set i true) + 1 = unseen sn := by
  induction sn generalizing i with
  | nil => simp at h
  | cons x xs ih =>
    cases i with
    | zero => simp at h; subst h; simp [unseen, List.countP_cons]
    | succ i =>
      have := ih (i := i) (by simpa using h)
      simp only [unseen, List.set_cons_succ, List.countP_cons] at this ⊢
      omega
structure Qok (n : Nat) (sn : List Bool) (q : List Int) : Prop where
  len : sn.length = n + 1
  ref : ∀ r ∈ q, 1 ≤ r ∧ r ≤ (n : Int)
  nd : q.Nodup
  sn : ∀ r ∈ q, sn[r.toNat]? = some true
theorem Qok.push {n : Nat} {sn : List Bool} {q : List Int} (h : Qok n sn q) {r : Int} (h0 : 0 ≤ r) (hn : r ≤ (n : Int)) (h1 : r ≠ 0) (hf : sn[r.toNat]? = some false) : Qok n (sn.set r.toNat true) (q ++ [r]) := by
  have hlt := (List.getElem?_eq_some_iff.1 hf).1
  refine ⟨by simp [h.len], fun x hx => ?_, ?_, fun x hx => ?_⟩
  · rcases List.mem_append.1 hx with hx | hx
    · exact h.ref x hx
    · simp at hx; subst hx; omega
  · refine List.nodup_append.2 ⟨h.nd, List.pairwise_singleton _ _, fun a ha b hb e => ?_⟩
    simp at hb; subst hb; subst e
    have := h.sn a ha
    rw [hf] at this; cases this
  · rcases List.mem_append.1 hx with hx | hx
    · rw [List.getElem?_set]
      split
      · rename_i e
        simp [hlt]
      · exact h.sn x hx
    · simp at hx; subst hx
      rw [List.getElem?_set]; simp [hlt]
theorem Qok.nil (n : Nat) : Qok n (List.replicate (n + 1) false) [] := ⟨by simp, by simp, by simp, by simp⟩
theorem pushF_inv {n : Nat} : ∀ (l : List Wd) (sn : List Bool) (q : List Int), (∀ x ∈ l, 0 ≤ x.r ∧ x.r ≤ (n : Int)) → Qok n sn q → Qok n (pushF sn q l).1 (pushF sn q l).2 ∧ q <+: (pushF sn q l).2 ∧ unseen (pushF sn q l).1 + (pushF sn q l).2.length = unseen sn + q.length := by
  intro l
  induction l with
  | nil => intro sn q hl h; exact ⟨h, List.prefix_rfl, rfl⟩
  | cons x l ih =>
    intro sn q hl h
    have hx := hl x List.mem_cons_self
    have hl' := fun y hy => hl y (List.mem_cons_of_mem _ hy)
    simp only [pushF]
    split
    · rename_i hc
      have h1 := ih (sn.set x.r.toNat true) (q ++ [x.r]) hl' (h.push hx.1 hx.2 hc.1 hc.2)
      have h2 := unseen_set hc.2
      refine ⟨h1.1, (List.prefix_append _ _).trans h1.2.1, ?_⟩
      have := h1.2.2
      simp at this
      omega
    · exact ih sn q hl' h
theorem bfs_prefix {H : List Ob} (hW : Wf H) : ∀ (f : Nat) (sn : List Bool) (q : List Int) (i : Nat), Qok H.length sn q → q <+: bfs H f sn q i ∧ (∀ r ∈ bfs H f sn q i, 1 ≤ r ∧ r ≤ (H.length : Int)) ∧ (bfs H f sn q i).Nodup := by
  intro f
  induction f with
  | zero => intro sn q i h; exact ⟨List.prefix_rfl, h.ref, h.nd⟩
  | succ f ih =>
    intro sn q i h
    simp only [bfs]
    split
    · exact ⟨List.prefix_rfl, h.ref, h.nd⟩
    · rename_i r hr
      have hl : ∀ x ∈ listO (objAt H r), 0 ≤ x.r ∧ x.r ≤ (H.length : Int) := by
        cases ho : objAt H r with
        | none => simp [listO]
        | some o =>
          have : o ∈ H := by
            unfold objAt at ho
            split at ho
            · exact List.mem_of_getElem? ho
            · cases ho
          exact hW o this
      have h1 := pushF_inv _ sn q hl h
      have h2 := ih _ _ (i + 1) h1.1
      exact ⟨h1.2.1.trans h2.1, h2.2⟩
def bvs (l : List Bool) : List Value := l.map Value.bool
theorem bvs_get {l : List Bool} {i : Nat} {v : Bool} (h : l[i]? = some v) : (bvs l)[i]? = some (.bool v) := by simp [bvs, h]
theorem bvs_set (l : List Bool) (i : Nat) (v : Bool) (h : i < l.length) : splice (bvs l) i [.bool v] = bvs (l.set i v) := by
  rw [splice_one _ _ _ (by simpa [bvs] using h)]; simp [bvs, List.map_set]
/-- What the one that reaches has of its own: what is seen, the queue. -/
structure Que (w : World) (base : Nat) (B cs cq : Nat) (sn : List Bool) (q : List Int) (qv : Value) (G : Nat → Prop) : Prop where
  bs : Blk w B (bvs sn) 4
  c1 : Blk w cs [.slice (some ⟨B, 0, none⟩) sn.length sn.length] 134
  c2 : Blk w cq [qv] 33
  own : w.ownsRow base 3 1 qv q.length (ivs q)
  gB : G B
  gs : G cs
  gq : G cq
  go : ∀ k, qv.ownBlock = some k → G k ∧ k ≠ B ∧ k ≠ cs ∧ k ≠ cq
  ne : B ≠ cs ∧ B ≠ cq ∧ cs ≠ cq
  lt : ∀ k, G k → base ≤ k ∧ k < w.heap.size
theorem Que.ext {w w' : World} {base B cs cq : Nat} {sn : List Bool} {q : List Int} {qv : Value} {G : Nat → Prop} (h : Que w base B cs cq sn q qv G) (he : Ext w w') : Que w' base B cs cq sn q qv G :=
  ⟨h.bs.ext he, h.c1.ext he, h.c2.ext he, owns_chg' h.own (he.chg (fun _ => False)) (fun _ _ => id), h.gB, h.gs, h.gq, h.go, h.ne, fun k hk => ⟨(h.lt k hk).1, Nat.lt_of_lt_of_le (h.lt k hk).2 he.size⟩⟩
end Go.Proofs.Vg
namespace Go.Proofs.YtldeokfhipjbfaaGreatDoor
open Go Go.Proofs.Vg Go.RowKit

-- -- function 89
set_option maxHeartbeats 4000000 in
set_option maxRecDepth 8000 in
theorem push_ok (w : World) (base B cs cq n : Nat) (sn : List Bool) (q : List Int) (qv : Value) (G : Nat → Prop) (lv : Value) (l : List Wd) (hn : n ≤ 1073741824) (hl : l.length ≤ 1073741824) (hq : Que w base B cs cq sn q qv G) (hQ : Qok n sn q) (hql : unseen sn + q.length ≤ n + 1) (hlr : ∀ x ∈ l, 0 ≤ x.r ∧ x.r ≤ (n : Int)) (hls : ∃ A c, lv = .slice A l.length c)
    (hlv : ∀ w' G', (∀ k, G' k → G k ∨ w.heap.size ≤ k) → Chg G' w w' → SlW w' lv l) :
    Rets Tryz.prog 89 [lv, ptrOf cs, ptrOf cq] w (fun v w' => ∃ qv' G', Que w' base B cs cq (pushF sn q l).1 (pushF sn q l).2 qv' G' ∧ Chg G w w' ∧ (∀ k, G k → G' k) ∧ ∀ k, G' k → G k ∨ w.heap.size ≤ k) := by
  obtain ⟨A, c, rfl⟩ := hls
  refine rets_of_ok Tryz.func89 rfl rfl ?_
  refine ok_seq (fun M hM => ok_region rfl ?_); repeat ((try subst X); (first | (first | apply zL | apply zH | apply zE); intro X hX | apply zl | apply zh | apply ze); try simp only [zU, reduceIte, Nat.reduceEqDiff, Nat.reduceAdd, reduceCtorEq, Q89])
  refine hM _ _ _ ?_; clear hM M
  refine ok_block ?_
  refine ok_loop (S := Nat × List Bool × List Int × Value × (Nat → Prop)) (fun s => [(1, ptrOf cs), (2, ptrOf cq), (6, .slice A l.length c), (7, .int .i64 (l.length : Int)), (8, .int .i64 (s.1 : Int))])
    (fun s w4 => s.1 ≤ l.length ∧ Que w4 base B cs cq s.2.1 s.2.2.1 s.2.2.2.1 s.2.2.2.2 ∧ Chg G w w4 ∧ (∀ k, G k → s.2.2.2.2 k) ∧ (∀ k, s.2.2.2.2 k → G k ∨ w.heap.size ≤ k) ∧ Qok n s.2.1 s.2.2.1 ∧ unseen s.2.1 + s.2.2.1.length ≤ n + 1 ∧ pushF sn q l = pushF s.2.1 s.2.2.1 (l.drop s.1)) (fun s => l.length - s.1) (0, sn, q, qv, G) ?_ ?_ ?_
  · simp [sub, Env.get, argEnv]
  · exact ⟨Nat.zero_le _, hq, Chg.refl _ _, fun _ h => h, fun _ h => .inl h, hQ, hql, by simp⟩
  rintro ⟨i, sn4, q4, qv4, G4⟩ w4 ⟨hi, hq4, hc4, hG1, hG2, hQ4, hql4, hpf⟩
  simp only at hi hq4 hG1 hG2 hQ4 hql4 hpf ⊢
  refine ok_seq (fun M hM => ok_region rfl ?_); repeat ((try subst X); (first | (first | apply zL | apply zH | apply zE); intro X hX | apply zl | apply zh | apply ze); try simp only [zU, reduceIte, Nat.reduceEqDiff, Nat.reduceAdd, reduceCtorEq, Q89])
  refine hM _ _ _ ?_; clear hM M
  refine ok_seq (fun M1 hM1 => ?_)
  refine ok_if rfl (fun hc => ok_skip ?_) (fun hc => ok_exit ?_)
  rotate_left
  · try simp only [zW, zU, reduceIte, Nat.reduceEqDiff, Nat.reduceAdd, reduceCtorEq, Q89]
    rw [List.drop_of_length_le (by omega)] at hpf
    simp only [pushF] at hpf
    rw [hpf]
    exact ⟨qv4, G4, hq4, hc4, hG1, hG2⟩
  try simp only [zW, zU, reduceIte, Nat.reduceEqDiff, Nat.reduceAdd, reduceCtorEq, Q89]
  refine hM1 _ _ _ ?_; clear hM1 M1
  have hil : i < l.length := by omega
  have hxi : l[i]? = some l[i] := List.getElem?_eq_getElem hil
  have hxr := hlr _ (List.getElem_mem hil)
  generalize hxx : l[i] = x at hxi hxr
  have hdr : l.drop i = x :: l.drop (i + 1) := by rw [List.drop_eq_getElem_cons hil, hxx]
  rw [hdr] at hpf
  obtain ⟨A', c', h2, -, hcel⟩ := hlv w4 G4 hG2 (hc4.mono (fun k _ h => hG1 k h))
  rw [wd_len] at h2
  cases h2
  obtain ⟨bb, oo, rfl, hce⟩ := hcel i x.row (by rw [List.getElem?_map, hxi]; rfl)
  refine ok_join [(1, ptrOf cs), (2, ptrOf cq), (6, .slice (some ⟨bb, oo, none⟩) l.length c), (7, .int .i64 (l.length : Int)), (8, .int .i64 (i : Int))]
    (fun w5 => ∃ sn5 q5 qv5 G5, Que w5 base B cs cq sn5 q5 qv5 G5 ∧ Chg G w w5 ∧ (∀ k, G k → G5 k) ∧ (∀ k, G5 k → G k ∨ w.heap.size ≤ k) ∧ Qok n sn5 q5 ∧ unseen sn5 + q5.length ≤ n + 1 ∧ pushF sn q l = pushF sn5 q5 (l.drop (i + 1))) ?_ ?_
  rotate_left
  · rintro w5 ⟨sn5, q5, qv5, G5, hq5, hc5, h1, h2, h3, h4, h5⟩
    refine ok_region rfl ?_
    repeat ((try subst X); (first | (first | apply zL | apply zH | apply zE); intro X hX | apply zl | apply zh | apply ze); try simp only [zU, reduceIte, Nat.reduceEqDiff, Nat.reduceAdd, reduceCtorEq, Q89])
    refine ⟨by simp only [inI]; omega, ?_⟩
    repeat ((try subst X); (first | (first | apply zL | apply zH | apply zE); intro X hX | apply zl | apply zh | apply ze); try simp only [zU, reduceIte, Nat.reduceEqDiff, Nat.reduceAdd, reduceCtorEq, Q89])
    exact ⟨(i + 1, sn5, q5, qv5, G5), by simp [sub, Env.get], ⟨by omega, hq5, hc5, h1, h2, h3, h4, h5⟩, by omega⟩
  refine ok_block ?_
  refine ok_seq (fun M hM => ok_region rfl ?_)
  repeat ((try subst X); (first | (first | apply zL | apply zH | apply zE); intro X hX | apply zl | apply zh | apply ze); try simp only [zU, reduceIte, Nat.reduceEqDiff, Nat.reduceAdd, reduceCtorEq, Q89])
  refine ⟨by omega, by omega, ?_⟩
  repeat ((try subst X); (first | (first | apply zL | apply zH | apply zE); intro X hX | apply zl | apply zh | apply ze); try simp only [zU, reduceIte, Nat.reduceEqDiff, Nat.reduceAdd, reduceCtorEq, Q89])
  refine ⟨x.row, rfl, by simpa using hce, ?_⟩
  repeat ((try subst X); (first | (first | apply zL | apply zH | apply zE); intro X hX | apply zl | apply zh | apply ze); try simp only [zU, reduceIte, Nat.reduceEqDiff, Nat.reduceAdd, reduceCtorEq, Q89])
  refine Runs.alloc Fx.zi38 (fun w5 he5 hs5 hb5 => ?_)
  generalize hB5 : w4.heap.size = B5 at hs5 hb5
  repeat ((try subst X); (first | (first | apply zL | apply zH | apply zE); intro X hX | apply zl | apply zh | apply ze); try simp only [zU, reduceIte, Nat.reduceEqDiff, Nat.reduceAdd, reduceCtorEq, Q89])
  refine Runs.store hb5 Fx.zi38 rfl (by intro u hu; simp [Value.cells, Wd.row] at hu; rcases hu with rfl | rfl | rfl <;> rfl) (by simp [Value.cells]) (fun w6 hc6 hs6 hb6 => ?_)
  rw [splice_all _ _ (by simp [Value.cells])] at hb6
  simp only [Value.cells] at hb6
  have he6 : Ext w4 w6 := he5.chg_trans hc6 (fun i hi => by omega)
  have hs46 := he6.size
  have hq6 := hq4.ext he6
  have hws := hc4.size
  have hx2 : w6.cell? ⟨B5, 2, none⟩ = some (.int .i64 x.r) := hb6.cell (j := 2) rfl
  have hc46 : Chg G w w6 := hc4.trans (he6.chg G)
  repeat ((try subst X); (first | (first | apply zL | apply zH | apply zE); intro X hX | apply zl | apply zh | apply ze); try simp only [zU, reduceIte, Nat.reduceEqDiff, Nat.reduceAdd, reduceCtorEq, Q89])
  refine hM _ _ _ ?_; clear hM M
  have hno : ¬ (x.r ≠ 0 ∧ sn4[x.r.toNat]? = some false) → pushF sn q l = pushF sn4 q4 (l.drop (i + 1)) := fun h => by
    rw [hpf]; simp only [pushF]; rw [if_neg h]
  have hlt : x.r.toNat < sn4.length := by rw [hQ4.len]; omega
  have hgv : sn4[x.r.toNat]? = some sn4[x.r.toNat] := List.getElem?_eq_getElem hlt
  generalize sn4[x.r.toNat] = bv at hgv
  refine ok_seq (fun M hM => ok_region rfl ?_)
  repeat ((try subst X); (first | (first | apply zL | apply zH | apply zE); intro X hX | apply zl | apply zh | apply ze); try simp only [zU, reduceIte, Nat.reduceEqDiff, Nat.reduceAdd, reduceCtorEq, Q89])
  refine ⟨_, hx2, ?_⟩
  repeat ((try subst X); (first | (first | apply zL | apply zH | apply zE); intro X hX | apply zl | apply zh | apply ze); try simp only [zU, reduceIte, Nat.reduceEqDiff, Nat.reduceAdd, reduceCtorEq, Q89])
  refine ⟨fun h => ?_, fun h => ?_⟩
  rotate_left
  · have hx0 : x.r = 0 := by simpa using h
    repeat ((try subst X); (first | (first | apply zL | apply zH | apply zE); intro X hX | apply zl | apply zh | apply ze); try simp only [zU, reduceIte, Nat.reduceEqDiff, Nat.reduceAdd, reduceCtorEq, Q89])
    refine hM _ _ _ ?_; clear hM M
    refine ok_cond rfl (fun h => by cases h) (fun _ => ok_skip ?_)
    try simp only [zW, zU, reduceIte, Nat.reduceEqDiff, Nat.reduceAdd, reduceCtorEq, Q89]
    exact ⟨by simp [sub, Env.get], sn4, q4, qv4, G4, hq6, hc46, hG1, hG2, hQ4, hql4, hno (fun h => h.1 hx0)⟩
  have hx0 : ¬ x.r = 0 := by simpa using h
  repeat ((try subst X); (first | (first | apply zL | apply zH | apply zE); intro X hX | apply zl | apply zh | apply ze); try simp only [zU, reduceIte, Nat.reduceEqDiff, Nat.reduceAdd, reduceCtorEq, Q89])
  refine ⟨_, hq6.c1.cell (j := 0) rfl, ?_⟩
  repeat ((try subst X); (first | (first | apply zL | apply zH | apply zE); intro X hX | apply zl | apply zh | apply ze); try simp only [zU, reduceIte, Nat.reduceEqDiff, Nat.reduceAdd, reduceCtorEq, Q89])
  refine ⟨_, hx2, ?_⟩
  repeat ((try subst X); (first | (first | apply zL | apply zH | apply zE); intro X hX | apply zl | apply zh | apply ze); try simp only [zU, reduceIte, Nat.reduceEqDiff, Nat.reduceAdd, reduceCtorEq, Q89])
  refine ⟨by omega, by omega, ?_⟩
  repeat ((try subst X); (first | (first | apply zL | apply zH | apply zE); intro X hX | apply zl | apply zh | apply ze); try simp only [zU, reduceIte, Nat.reduceEqDiff, Nat.reduceAdd, reduceCtorEq, Q89])
  refine ⟨.bool bv, by have := hq6.bs.cell (j := x.r.toNat) (bvs_get hgv); simpa [add_at] using this, ?_⟩
  repeat ((try subst X); (first | (first | apply zL | apply zH | apply zE); intro X hX | apply zl | apply zh | apply ze); try simp only [zU, reduceIte, Nat.reduceEqDiff, Nat.reduceAdd, reduceCtorEq, Q89])
  refine hM _ _ _ ?_; clear hM M
  cases bv with
  | true =>
    refine ok_cond (b := false) rfl (fun h => by cases h) (fun _ => ok_skip ?_)
    try simp only [zW, zU, reduceIte, Nat.reduceEqDiff, Nat.reduceAdd, reduceCtorEq, Q89]
    exact ⟨by simp [sub, Env.get], sn4, q4, qv4, G4, hq6, hc46, hG1, hG2, hQ4, hql4, hno (fun h => by rw [hgv] at h; cases h.2)⟩
  | false =>
    refine ok_cond (b := true) rfl (fun _ => ?_) (fun h => by cases h)
    have hpf2 : pushF sn q l = pushF (sn4.set x.r.toNat true) (q4 ++ [x.r]) (l.drop (i + 1)) := by
      rw [hpf]; simp only [pushF]; rw [if_pos ⟨hx0, hgv⟩]
    refine ok_seq (fun M hM => ok_region rfl ?_)
    repeat ((try subst X); (first | (first | apply zL | apply zH | apply zE); intro X hX | apply zl | apply zh | apply ze); try simp only [zU, reduceIte, Nat.reduceEqDiff, Nat.reduceAdd, reduceCtorEq, Q89])
    refine ⟨_, hq6.c1.cell (j := 0) rfl, ?_⟩
    repeat ((try subst X); (first | (first | apply zL | apply zH | apply zE); intro X hX | apply zl | apply zh | apply ze); try simp only [zU, reduceIte, Nat.reduceEqDiff, Nat.reduceAdd, reduceCtorEq, Q89])
    refine ⟨_, hx2, ?_⟩
    repeat ((try subst X); (first | (first | apply zL | apply zH | apply zE); intro X hX | apply zl | apply zh | apply ze); try simp only [zU, reduceIte, Nat.reduceEqDiff, Nat.reduceAdd, reduceCtorEq, Q89])
    refine ⟨by omega, by omega, ?_⟩
    repeat ((try subst X); (first | (first | apply zL | apply zH | apply zE); intro X hX | apply zl | apply zh | apply ze); try simp only [zU, reduceIte, Nat.reduceEqDiff, Nat.reduceAdd, reduceCtorEq, Q89])
    simp only [Nat.zero_add]
    refine Runs.store (b := B) (o := x.r.toNat) (v := .bool true) hq6.bs Fx.zi4 rfl (by intro u hu; simp [Value.cells] at hu; subst hu; rfl) (by simp [bvs]; omega) (fun w7 hc7 hs7 hb7 => ?_)
    rw [show (Value.cells (.bool true)).toList = [Value.bool true] from rfl, bvs_set _ _ _ hlt] at hb7
    repeat ((try subst X); (first | (first | apply zL | apply zH | apply zE); intro X hX | apply zl | apply zh | apply ze); try simp only [zU, reduceIte, Nat.reduceEqDiff, Nat.reduceAdd, reduceCtorEq, Q89])
    refine hM _ _ _ ?_; clear hM M
    have hBl := (hq4.lt B hq4.gB).2
    have hcsl := (hq4.lt cs hq4.gs).2
    have hcql := (hq4.lt cq hq4.gq).2
    have hc17 : Blk w7 cs _ 134 := hq6.c1.chg hc7 (fun h => hq4.ne.1 h.symm)
    have hc27 : Blk w7 cq _ 33 := hq6.c2.chg hc7 (fun h => hq4.ne.2.1 h.symm)
    have hown7 := owns_chg' hq6.own hc7 (fun k hk h => (hq4.go k hk).2.1 h)
    have hx27 : w7.cell? ⟨B5, 2, none⟩ = some (.int .i64 x.r) := hc7.cell hx2 (by simp only; omega)
    refine ok_region rfl ?_
    repeat ((try subst X); (first | (first | apply zL | apply zH | apply zE); intro X hX | apply zl | apply zh | apply ze); try simp only [zU, reduceIte, Nat.reduceEqDiff, Nat.reduceAdd, reduceCtorEq, Q89])
    refine ⟨_, hc27.cell (j := 0) rfl, ?_⟩
    repeat ((try subst X); (first | (first | apply zL | apply zH | apply zE); intro X hX | apply zl | apply zh | apply ze); try simp only [zU, reduceIte, Nat.reduceEqDiff, Nat.reduceAdd, reduceCtorEq, Q89])
    refine ⟨_, hx27, ?_⟩
    repeat ((try subst X); (first | (first | apply zL | apply zH | apply zE); intro X hX | apply zl | apply zh | apply ze); try simp only [zU, reduceIte, Nat.reduceEqDiff, Nat.reduceAdd, reduceCtorEq, Q89])
    refine Runs.lit (cs := [.int .i64 x.r]) Fx.un33 Fx.zi3 (by decide) (by kernel_rfl) (by decide) (fun w8 he8 hs8 hb8 => ?_)
    repeat ((try subst X); (first | (first | apply zL | apply zH | apply zE); intro X hX | apply zl | apply zh | apply ze); try simp only [zU, reduceIte, Nat.reduceEqDiff, Nat.reduceAdd, reduceCtorEq, Q89])
    have hown8 := owns_chg' hown7 (he8.chg (fun _ => False)) (fun _ _ h => h)
    have hbl := (hq4.lt B hq4.gB).1
    refine Runs.append1' Fx.un33 Fx.zi3 rfl (by decide) hown8 hb8 rfl (by intro u hu; simp at hu; subst hu; rfl) (by simp [maxLen]; omega) (by omega) (by omega) (fun v' w9 hown9 hg9 hblk => ?_)
    have hc9 : Chg (fun k => qv4.ownBlock = some k) w8 w9 := ⟨hg9.os, hg9.tape, hg9.output, hg9.size, fun k hk hs => hg9.block k hk (fun e => hs e.symm)⟩
    have hs9 := hc9.size
    have hv1 : v'.oneCell' = true ∧ v'.cells = #[v'] := by
      rcases hown9.2 with ⟨rfl, _⟩ | ⟨g, cap, cur, rfl, _⟩ <;> exact ⟨rfl, rfl⟩
    have hc29 : Blk w9 cq _ 33 := (hc27.ext he8).chg hc9 (fun h => (hq4.go cq h).2.2.2 rfl)
    repeat ((try subst X); (first | (first | apply zL | apply zH | apply zE); intro X hX | apply zl | apply zh | apply ze); try simp only [zU, reduceIte, Nat.reduceEqDiff, Nat.reduceAdd, reduceCtorEq, Q89])
    refine Runs.store hc29 Fx.zi33 (by rw [hv1.2]; rfl) (by rw [hv1.2]; intro u hu; simp at hu; subst hu; exact hv1.1) (by simp) (fun w10 hc10 hs10 hb10 => ?_)
    rw [hv1.2, splice_all _ _ (by simp)] at hb10
    repeat ((try subst X); (first | (first | apply zL | apply zH | apply zE); intro X hX | apply zl | apply zh | apply ze); try simp only [zU, reduceIte, Nat.reduceEqDiff, Nat.reduceAdd, reduceCtorEq, Q89])
    have hvn : ∀ k, v'.ownBlock = some k → qv4.ownBlock = some k ∨ k = w8.heap.size := fun k h => by
      rcases hblk with h' | h'
      · exact .inl (h' ▸ h)
      · rw [h'] at h; cases h; exact .inr rfl
    refine ⟨by simp [sub, Env.get], sn4.set x.r.toNat true, q4 ++ [x.r], v', fun k => G4 k ∨ k = w8.heap.size ∧ v'.ownBlock = some k, ?_, ?_, fun k h => .inl (hG1 k h), fun k h => ?_, hQ4.push hxr.1 hxr.2 hx0 hgv, ?_, hpf2⟩
    · refine ⟨((hb7.ext he8).chg hc9 (fun h => (hq4.go B h).2.1 rfl)).chg hc10 hq4.ne.2.1, ?_, hb10, ?_, .inl hq4.gB, .inl hq4.gs, .inl hq4.gq, fun k h => ?_, hq4.ne, fun k h => ?_⟩
      · rw [List.length_set]
        exact ((hc17.ext he8).chg hc9 (fun h => (hq4.go cs h).2.2.1 rfl)).chg hc10 hq4.ne.2.2
      · have := owns_chg' hown9 hc10 (fun k hk h => by
          rcases hvn k hk with h' | h'
          · exact (hq4.go k h').2.2.2 h
          · omega)
        simpa [ivs] using this
      · rcases hvn k h with h' | h'
        · exact ⟨.inl (hq4.go k h').1, (hq4.go k h').2⟩
        · exact ⟨.inr ⟨h', h⟩, by omega, by omega, by omega⟩
      · rcases h with h | ⟨h, h'⟩
        · have := hq4.lt k h; omega
        · have := (hown9.lt k h').2; omega
    · refine ⟨hc10.os.trans (hc9.os.trans (he8.os.trans (hc7.os.trans hc46.os))), hc10.tape.trans (hc9.tape.trans (he8.tape.trans (hc7.tape.trans hc46.tape))), hc10.output.trans (hc9.output.trans (he8.output.trans (hc7.output.trans hc46.output))), by omega, fun k hk hg => ?_⟩
      have ng : ∀ j, G4 j → k ≠ j := fun j hj e => by
        subst e
        rcases hG2 k hj with h | h
        · exact hg h
        · omega
      rw [hc10.block k (by omega) (ng cq hq4.gq), hc9.block k (by omega) (fun h => ng k (hq4.go k h).1 rfl), Below.block he8 k (by omega), hc7.block k (by omega) (ng B hq4.gB), hc46.block k hk hg]
    · rcases h with h | ⟨h, _⟩
      · exact hG2 k h
      · exact .inr (by omega)
    · have := unseen_set hgv
      simp
      omega
end Go.Proofs.YtldeokfhipjbfaaGreatDoor
/- Reaching: the objects that are reached, one by one. -/
set_option linter.unusedVariables false
set_option linter.unusedSimpArgs false
namespace Go.Proofs.Vg
open Go Go.RowKit
/-- The state of the reaching: how many came, which blocks are its own, and what stands in them. -/
structure RS where
  i : Nat
  own : Nat → Prop
  snap : Nat → Option Obj
structure GenR (s : RS) (W : World) (s' : RS) (W' : World) : Prop where
  i : s'.i = s.i
  chg : Chg s.own W W'
  sub : ∀ k, s.own k → s'.own k
  new : ∀ k, s'.own k → (s.own k ∨ W.heap.size ≤ k) ∧ k < W'.heap.size
  snap : s'.snap = fun k => W'.heap[k]?
structure HF (W : World) (s : RS) (b1 b2 hb rb : Nat) (vs : Value) (ps gs : List Nat) (H : List Ob) (rv : Value) (roots : List Wd) : Prop where
  hp : HeapR W hb rb vs ps gs H
  k1 : W.cell? ⟨b1, 0, none⟩ = some (ptrOf hb)
  k2 : W.cell? ⟨b2, 0, none⟩ = some rv
  sl : Sli W 3 rv (roots.map Wd.row)
  snap : ∀ k, s.own k → W.heap[k]? = s.snap k
  foot : ∀ k, Foot hb vs ps gs k → ¬ s.own k
theorem Que.same {w w' : World} {base B cs cq : Nat} {sn : List Bool} {q : List Int} {qv : Value} {G : Nat → Prop} (h : Que w base B cs cq sn q qv G) (he : ∀ k, G k → w'.heap[k]? = w.heap[k]?) : Que w' base B cs cq sn q qv G := by
  refine ⟨(he B h.gB).trans h.bs, (he cs h.gs).trans h.c1, (he cq h.gq).trans h.c2, ?_, h.gB, h.gs, h.gq, h.go, h.ne, fun k hk => ⟨(h.lt k hk).1, ?_⟩⟩
  · refine ⟨h.own.1, ?_⟩
    rcases h.own.2 with hn | ⟨g, cap, cur, hv, hb, hgg, rest⟩
    · exact .inl hn
    · exact .inr ⟨g, cap, cur, hv, hb, (he g (h.go g (by rw [hv]; rfl)).1).trans hgg, rest⟩
  · have h1 := (h.lt k hk).2
    have h2 := he k hk
    rw [Array.getElem?_eq_getElem h1] at h2
    exact (Array.getElem?_eq_some_iff.1 h2).1
def bfsQ (H : List Ob) (roots : List Wd) : List Int :=
  bfs H (H.length + 1) (pushF (List.replicate (H.length + 1) false) [] roots).1 (pushF (List.replicate (H.length + 1) false) [] roots).2 0
theorem unseen_rep (n : Nat) : unseen (List.replicate n false) = n := by
  unfold unseen; rw [List.countP_replicate]; simp
theorem ivs_flat (q : List Int) : ivs q = (ints q).flatten := by
  induction q with
  | nil => rfl
  | cons x xs ih => simp only [ivs, ints, List.map_cons, List.flatten_cons] at ih ⊢; rw [ih]; rfl
theorem ObW.listS {w : World} {p g : Nat} {o : Ob} (h : ObW w p g o) : ∃ A c, w.cell? ⟨p, 0, none⟩ = some (.slice A o.list.length c) ∧ o.list.length ≤ 1073741824 ∧ ∀ (w' : World) (T : Nat → Prop), Chg T w w' → (o.list ≠ [] → g < w.heap.size → ¬ T g) → Sli w' 3 (.slice A o.list.length c) (o.list.map Wd.row) := by
  cases o with
  | text s => exact ⟨none, 0, Blk.cell h rfl, by simp [Ob.list], fun w' T hc hn => ⟨none, 0, rfl, by simp [Ob.list], fun j row hj => by simp [Ob.list] at hj⟩⟩
  | words s l =>
    obtain ⟨lv, h1, A, c, rfl, h3, h4, h5⟩ := h
    refine ⟨A, c, h1.cell rfl, h3, fun w' T hc hn => ?_⟩
    by_cases hl : l = []
    · subst hl; exact ⟨A, c, rfl, by simp [Ob.list], fun j row hj => by simp [Ob.list] at hj⟩
    · obtain ⟨h6, cs, h7, h8⟩ := h5 hl
      exact WL.sli (w := w') (g := g) ⟨A, c, rfl, h3, h4, fun _ => ⟨h6, cs, h7.chg hc (hn hl h7.lt), h8⟩⟩
theorem listO_mem {H : List Ob} (hW : Wf H) (r : Int) : ∀ x ∈ listO (objAt H r), 0 ≤ x.r ∧ x.r ≤ (H.length : Int) := by
  cases ho : objAt H r with
  | none => simp [listO]
  | some o =>
    have : o ∈ H := by
      unfold objAt at ho
      split at ho
      · exact List.mem_of_getElem? ho
      · cases ho
    exact hW o this
end Go.Proofs.Vg
namespace Go.Proofs.YtldeokfhipjbfaaGreatDoor
open Go Go.Proofs.Vg Go.RowKit
theorem Fx.un134' : Tryz.prog.underlying 134 = some (.slice 4) := Fx.un134

-- -- function 88
set_option maxHeartbeats 4000000 in
set_option maxRecDepth 8000 in
theorem reached1_ok {J' : RS → World → Prop} {Jx' : World → Prop} (W : World) (l b1 b2 hb rb : Nat) (vs : Value) (ps gs : List Nat) (H : List Ob) (rv : Value) (roots : List Wd) (hl : H.length ≤ 1048576) (hW : Wf H) (hr : ∀ x ∈ roots, 0 ≤ x.r ∧ x.r ≤ (H.length : Int)) (hrl : roots.length ≤ 1073741824)
    (hJ : ∀ s W, J' s W → HF W s b1 b2 hb rb vs ps gs H rv roots)
    (hgen : ∀ s W s' W', GenR s W s' W' → J' s W → J' s' W')
    (h0 : J' ⟨0, fun _ => False, fun _ => none⟩ W)
    (hy : ∀ s W r, (bfsQ H roots)[s.i]? = some r → J' s W → Vg.Yields Tryz.prog l [.int .i64 r] W (fun b W' => (b = true ∧ J' ⟨s.i + 1, s.own, s.snap⟩ W') ∨ (b = false ∧ Jx' W'))) :
    Rets Tryz.prog 88 [.func (.yield l) #[] #[], ptrOf b1, ptrOf b2] W (fun _ W' => (∃ s, s.i = (bfsQ H roots).length ∧ J' s W') ∨ Jx' W') := by
  have h00 := hJ _ _ h0
  obtain ⟨Av, cv, hvs, hvlen, hvcell⟩ := h00.hp.sli (by omega)
  have hL : (ps.map fun p => [ptrOf p]).length = H.length := by simp [h00.hp.lenp]
  rw [hL] at hvs
  have hhead : W.cell? ⟨hb, 0, none⟩ = some (.slice Av H.length cv) := by
    have hq := h00.hp.head.cell (j := 0) (u := vs) rfl
    rw [hvs] at hq
    exact hq
  obtain ⟨A, c, hrv, hrlen, hrcell⟩ := h00.sl
  rw [wd_len] at hrv hrlen
  subst hrv
  refine rets_of_ok Tryz.func88 rfl rfl ?_
  refine ok_seq (fun M hM => ok_region rfl ?_)
  repeat ((try subst X); (first | (first | apply zL | apply zH | apply zE); intro X hX | apply zl | apply zh | apply ze); try simp only [zU, reduceIte, Nat.reduceEqDiff, Nat.reduceAdd, reduceCtorEq, Q88])
  refine ⟨_, h00.k1, ?_⟩
  repeat ((try subst X); (first | (first | apply zL | apply zH | apply zE); intro X hX | apply zl | apply zh | apply ze); try simp only [zU, reduceIte, Nat.reduceEqDiff, Nat.reduceAdd, reduceCtorEq, Q88])
  refine ⟨_, hhead, ?_⟩
  repeat ((try subst X); (first | (first | apply zL | apply zH | apply zE); intro X hX | apply zl | apply zh | apply ze); try simp only [zU, reduceIte, Nat.reduceEqDiff, Nat.reduceAdd, reduceCtorEq, Q88])
  refine ⟨by simp only [inI]; omega, ?_⟩
  repeat ((try subst X); (first | (first | apply zL | apply zH | apply zE); intro X hX | apply zl | apply zh | apply ze); try simp only [zU, reduceIte, Nat.reduceEqDiff, Nat.reduceAdd, reduceCtorEq, Q88])
  refine Runs.make1 Fx.un134 Fx.zi4 rfl (by omega) (by omega) (by omega) (fun w2 he2 hz2 hb2 => ?_)
  generalize hB2 : W.heap.size = B2 at hz2 hb2
  have hto : ((H.length : Int) + 1).toNat = H.length + 1 := by omega
  rw [hto] at hb2 ⊢
  repeat ((try subst X); (first | (first | apply zL | apply zH | apply zE); intro X hX | apply zl | apply zh | apply ze); try simp only [zU, reduceIte, Nat.reduceEqDiff, Nat.reduceAdd, reduceCtorEq, Q88])
  refine Runs.alloc Fx.zi134 (fun w3 he3 hz3 hb3 => ?_)
  generalize hB3 : w2.heap.size = B3 at hz3 hb3
  simp only [Value.cells] at hb3
  repeat ((try subst X); (first | (first | apply zL | apply zH | apply zE); intro X hX | apply zl | apply zh | apply ze); try simp only [zU, reduceIte, Nat.reduceEqDiff, Nat.reduceAdd, reduceCtorEq, Q88])
  refine Runs.store hb3 Fx.zi134 rfl (by intro u hu; simp [Value.cells] at hu; subst hu; rfl) (by simp) (fun w4 hc4 hz4 hb4 => ?_)
  rw [splice_all _ _ (by simp [Value.cells])] at hb4
  simp only [Value.cells] at hb4
  repeat ((try subst X); (first | (first | apply zL | apply zH | apply zE); intro X hX | apply zl | apply zh | apply ze); try simp only [zU, reduceIte, Nat.reduceEqDiff, Nat.reduceAdd, reduceCtorEq, Q88])
  refine hM _ _ _ ?_; clear hM M
  refine ok_seq (fun M hM => ok_region rfl ?_)
  repeat ((try subst X); (first | (first | apply zL | apply zH | apply zE); intro X hX | apply zl | apply zh | apply ze); try simp only [zU, reduceIte, Nat.reduceEqDiff, Nat.reduceAdd, reduceCtorEq, Q88])
  refine Runs.alloc Fx.zi33 (fun w5 he5 hz5 hb5 => ?_)
  generalize hB5 : w4.heap.size = B5 at hz5 hb5
  simp only [Value.cells] at hb5
  repeat ((try subst X); (first | (first | apply zL | apply zH | apply zE); intro X hX | apply zl | apply zh | apply ze); try simp only [zU, reduceIte, Nat.reduceEqDiff, Nat.reduceAdd, reduceCtorEq, Q88])
  refine hM _ _ _ ?_; clear hM M
  refine ok_seq (fun M hM => ok_region rfl ?_); repeat ((try subst X); (first | (first | apply zL | apply zH | apply zE); intro X hX | apply zl | apply zh | apply ze); try simp only [zU, reduceIte, Nat.reduceEqDiff, Nat.reduceAdd, reduceCtorEq, Q88])
  refine hM _ _ _ ?_; clear hM M
  have he5' : Ext W w5 := ((he2.trans he3).chg_trans hc4 (fun k hk => by omega)).trans he5
  have hq5 : Que w5 W.heap.size B2 B3 B5 (List.replicate (H.length + 1) false) [] (.slice none 0 0) (fun k => k = B2 ∨ k = B3 ∨ k = B5) := by
    refine ⟨?_, ?_, hb5, World.ownsRow_nil _ _ _ _, .inl rfl, .inr (.inl rfl), .inr (.inr rfl), fun k hk => by simp [Value.ownBlock] at hk, ⟨by omega, by omega, by omega⟩, fun k hk => by omega⟩
    · have := (((hb2.ext he3).chg hc4 (by omega)).ext he5)
      simpa [bvs] using this
    · rw [List.length_replicate]; exact hb4.ext he5
  have hG5 : ∀ (w' : World) (own' : Nat → Prop), Chg (fun k => k = B2 ∨ k = B3 ∨ k = B5) w5 w' → (∀ k, own' k → (k = B2 ∨ k = B3 ∨ k = B5 ∨ w5.heap.size ≤ k) ∧ k < w'.heap.size) → J' ⟨0, own', fun k => w'.heap[k]?⟩ w' := fun w' own' hc ho =>
    hgen ⟨0, fun _ => False, fun _ => none⟩ W ⟨0, own', fun k => w'.heap[k]?⟩ w' ⟨rfl, (he5'.chg _).trans_new hc (fun k hk => by omega), fun k h => h.elim, fun k hk => ⟨.inr (by have := ho k hk; have := he5'.size; omega), (ho k hk).2⟩, rfl⟩ h0
  refine ok_seq (fun M hM => ok_region rfl ?_)
  repeat ((try subst X); (first | (first | apply zL | apply zH | apply zE); intro X hX | apply zl | apply zh | apply ze); try simp only [zU, reduceIte, Nat.reduceEqDiff, Nat.reduceAdd, reduceCtorEq, Q88])
  refine ⟨_, he5'.cell h00.k2, ?_⟩
  repeat ((try subst X); (first | (first | apply zL | apply zH | apply zE); intro X hX | apply zl | apply zh | apply ze); try simp only [zU, reduceIte, Nat.reduceEqDiff, Nat.reduceAdd, reduceCtorEq, Q88])
  refine Inv.clos (cap := [ptrOf B3, ptrOf B5]) Fx.en89 (push_ok w5 W.heap.size B2 B3 B5 H.length _ _ _ _ (.slice A roots.length c) roots (by omega) hrl hq5 (Qok.nil _) (by rw [unseen_rep]; simp) hr ⟨A, c, rfl⟩ ?_) ?_
  · intro w' G' hG' hc'
    have hc2 : Chg (fun k => k = B2 ∨ k = B3 ∨ k = B5) w5 w' := ⟨hc'.os, hc'.tape, hc'.output, hc'.size, fun k hk hn => hc'.block k hk (fun h => by rcases hG' k h with h | h <;> first | exact hn h | omega)⟩
    exact (hJ _ _ (hG5 w' (fun _ => False) hc2 (fun k h => h.elim))).sl
  rintro v w6 ⟨qv6, G6, hq6, hc6, hs6, hn6⟩
  repeat ((try subst X); (first | (first | apply zL | apply zH | apply zE); intro X hX | apply zl | apply zh | apply ze); try simp only [zU, reduceIte, Nat.reduceEqDiff, Nat.reduceAdd, reduceCtorEq, Q88])
  refine hM _ _ _ ?_; clear hM M
  have hp6 := pushF_inv (n := H.length) roots (List.replicate (H.length + 1) false) [] hr (Qok.nil _)
  have hJ6 := hG5 w6 G6 hc6 (fun k hk => ⟨by rcases hn6 k hk with h | h <;> omega, (hq6.lt k hk).2⟩)
  refine ok_seq (fun M hM => ok_region rfl ?_); repeat ((try subst X); (first | (first | apply zL | apply zH | apply zE); intro X hX | apply zl | apply zh | apply ze); try simp only [zU, reduceIte, Nat.reduceEqDiff, Nat.reduceAdd, reduceCtorEq, Q88])
  refine hM _ _ _ ?_; clear hM M
  have hlen0 : (List.replicate (H.length + 1) false).length = H.length + 1 := by simp
  refine ok_block ?_
  refine ok_loop (S := RS × List Bool × List Int × Value × Nat) (fun s => [(0, .func (.yield l) #[] #[]), (1, ptrOf b1), (2, ptrOf b2), (5, ptrOf B5), (6, .func (.func 89) #[] #[ptrOf B3, ptrOf B5]), (7, .int .i64 (s.1.i : Int))])
    (fun s w' => J' s.1 w' ∧ Que w' W.heap.size B2 B3 B5 s.2.1 s.2.2.1 s.2.2.2.1 s.1.own ∧ Qok H.length s.2.1 s.2.2.1 ∧ unseen s.2.1 + s.2.2.1.length ≤ H.length + 1 ∧ s.1.i ≤ s.2.2.1.length ∧ unseen s.2.1 + (s.2.2.1.length - s.1.i) ≤ s.2.2.2.2 ∧ bfsQ H roots = bfs H s.2.2.2.2 s.2.1 s.2.2.1 s.1.i) (fun s => s.2.2.2.2)
    (⟨0, G6, fun k => w6.heap[k]?⟩, (pushF (List.replicate (H.length + 1) false) [] roots).1, (pushF (List.replicate (H.length + 1) false) [] roots).2, qv6, H.length + 1) ?_ ?_ ?_
  · simp [sub, Env.get]
  · have hu := hp6.2.2
    rw [unseen_rep] at hu
    simp only [List.length_nil, Nat.add_zero] at hu
    exact ⟨hJ6, hq6, hp6.1, by simp only; omega, Nat.zero_le _, by simp only; omega, rfl⟩
  rintro ⟨s, sn, q, qv, f⟩ w7 ⟨hJ7, hq7, hQ7, hu7, hi7, hf7, hb7⟩
  simp only at hq7 hQ7 hu7 hi7 hf7 hb7 ⊢
  have hF7 := hJ _ _ hJ7
  obtain ⟨qA, qc, hqv⟩ : ∃ qA qc, qv = .slice qA q.length qc := by
    rcases hq7.own.2 with ⟨h1, h2⟩ | ⟨g, cap, cur, h1, _⟩
    · exact ⟨none, 0, by rw [h2]; exact h1⟩
    · exact ⟨_, _, h1⟩
  have hqS : SlI w7 qv q := by
    have := Sli.of_own (rows := Vg.ints q) hq7.own (ivs_flat q) (by simp [Vg.ints]) (by simp) (by omega)
    exact this
  subst hqv
  have hown := hq7.lt
  refine ok_seq (fun M1 hM1 => ?_)
  refine ok_seq (fun M hM => ok_region rfl ?_)
  repeat ((try subst X); (first | (first | apply zL | apply zH | apply zE); intro X hX | apply zl | apply zh | apply ze); try simp only [zU, reduceIte, Nat.reduceEqDiff, Nat.reduceAdd, reduceCtorEq, Q88])
  refine ⟨_, hq7.c2.cell (j := 0) rfl, ?_⟩
  repeat ((try subst X); (first | (first | apply zL | apply zH | apply zE); intro X hX | apply zl | apply zh | apply ze); try simp only [zU, reduceIte, Nat.reduceEqDiff, Nat.reduceAdd, reduceCtorEq, Q88])
  refine hM _ _ _ ?_; clear hM M
  refine ok_if rfl (fun hc => ok_skip ?_) (fun hc => ok_exit ?_)
  rotate_left
  · try simp only [zW, zU, reduceIte, Nat.reduceEqDiff, Nat.reduceAdd, reduceCtorEq, Q88]
    have hiq : s.i = q.length := by omega
    have hbq : bfs H f sn q s.i = q := by
      cases f with
      | zero => rfl
      | succ f => simp only [bfs]; rw [List.getElem?_eq_none (by omega)]
    exact .inl ⟨s, by rw [hb7, hbq, hiq], hJ7⟩
  try simp only [zW, zU, reduceIte, Nat.reduceEqDiff, Nat.reduceAdd, reduceCtorEq, Q88]
  refine hM1 _ _ _ ?_; clear hM1 M1
  have hil : s.i < q.length := by omega
  have hri : q[s.i]? = some q[s.i] := List.getElem?_eq_getElem hil
  have hrr := hQ7.ref _ (List.getElem_mem hil)
  generalize q[s.i] = r at hri hrr
  have hpre := bfs_prefix hW f sn q s.i hQ7
  have hQr : (bfsQ H roots)[s.i]? = some r := by
    rw [hb7]
    obtain ⟨t, ht⟩ := hpre.1
    rw [← ht, List.getElem?_append_left hil]
    exact hri
  obtain ⟨qA', qc', hqe, -, hqcell⟩ := hqS.at_
  injection hqe with hqe1 hqe2 hqe3
  subst hqe1
  obtain ⟨qb, qo, rfl, hqc0⟩ := hqcell s.i hil
  have hqc : w7.cell? ⟨qb, qo + s.i, none⟩ = some (.int .i64 r) := by
    rw [hqc0]
    rw [List.getElem?_eq_getElem hil] at hri
    rw [Option.some.inj hri]
  refine ok_seq (fun M1 hM1 => ok_block ?_)
  refine ok_join [(0, .func (.yield l) #[] #[]), (1, ptrOf b1), (2, ptrOf b2), (5, ptrOf B5), (6, .func (.func 89) #[] #[ptrOf B3, ptrOf B5]), (7, .int .i64 (s.i : Int))] (fun w8 => J' ⟨s.i + 1, s.own, s.snap⟩ w8) ?_ ?_
  · refine ok_seq (fun M hM => ok_region rfl ?_)
    repeat ((try subst X); (first | (first | apply zL | apply zH | apply zE); intro X hX | apply zl | apply zh | apply ze); try simp only [zU, reduceIte, Nat.reduceEqDiff, Nat.reduceAdd, reduceCtorEq, Q88])
    refine ⟨_, hq7.c2.cell (j := 0) rfl, ?_⟩
    repeat ((try subst X); (first | (first | apply zL | apply zH | apply zE); intro X hX | apply zl | apply zh | apply ze); try simp only [zU, reduceIte, Nat.reduceEqDiff, Nat.reduceAdd, reduceCtorEq, Q88])
    refine ⟨by omega, by omega, ?_⟩
    repeat ((try subst X); (first | (first | apply zL | apply zH | apply zE); intro X hX | apply zl | apply zh | apply ze); try simp only [zU, reduceIte, Nat.reduceEqDiff, Nat.reduceAdd, reduceCtorEq, Q88])
    refine ⟨_, by simpa using hqc, ?_⟩
    repeat ((try subst X); (first | (first | apply zL | apply zH | apply zE); intro X hX | apply zl | apply zh | apply ze); try simp only [zU, reduceIte, Nat.reduceEqDiff, Nat.reduceAdd, reduceCtorEq, Q88])
    refine Inv.yield (hy s w7 r hQr hJ7) ?_
    rintro b w8 hb
    repeat ((try subst X); (first | (first | apply zL | apply zH | apply zE); intro X hX | apply zl | apply zh | apply ze); try simp only [zU, reduceIte, Nat.reduceEqDiff, Nat.reduceAdd, reduceCtorEq, Q88])
    refine hM _ _ _ ?_; clear hM M
    rcases hb with ⟨rfl, hb⟩ | ⟨rfl, hb⟩
    · refine ok_cond (b := false) rfl (fun h => by cases h) (fun _ => ok_skip ?_)
      try simp only [zW, zU, reduceIte, Nat.reduceEqDiff, Nat.reduceAdd, reduceCtorEq, Q88]
      exact ⟨by simp [sub, Env.get], hb⟩
    · refine ok_cond (b := true) rfl (fun _ => ok_ret ?_) (fun h => by cases h)
      try simp only [zW, zU, reduceIte, Nat.reduceEqDiff, Nat.reduceAdd, reduceCtorEq, Q88]
      exact .inr hb
  intro w8 hJ8
  have hF8 := hJ _ _ hJ8
  have hq8 : Que w8 W.heap.size B2 B3 B5 sn q (.slice (some ⟨qb, qo, none⟩) q.length qc) s.own := hq7.same (fun k hk => (hF8.snap k hk).trans (hF7.snap k hk).symm)
  obtain ⟨i, o, hio, hi, ho, hoo⟩ := objAt_in (H := H) (r := r) hrr.1 hrr.2
  subst hio
  obtain ⟨p, g, hp, hg, hob⟩ := hF8.hp.at_ ho
  obtain ⟨A2, c2, hlc, hll, hls⟩ := hob.listS
  have hgF : ¬ s.own g := hF8.foot g (.inr (.inr (.inr (List.mem_of_getElem? hg))))
  obtain ⟨Av2, cv2, hvs2, -, hvcell2⟩ := hF8.hp.sli (by omega)
  rw [hL] at hvs2
  obtain ⟨b, off, hAv, hcc⟩ := hvcell2 i [ptrOf p] (by rw [List.getElem?_map, hp]; rfl)
  subst hAv
  have hcc0 := hcc 0 _ rfl
  have hhead8 : w8.cell? ⟨hb, 0, none⟩ = some (.slice (some ⟨b, off, none⟩) H.length cv2) := by
    have hq := hF8.hp.head.cell (j := 0) (u := vs) rfl
    rw [hvs2] at hq
    exact hq
  have hqc8 : w8.cell? ⟨qb, qo + s.i, none⟩ = some (.int .i64 ((i : Int) + 1)) := by
    have hqbo : s.own qb := (hq7.go qb rfl).1
    exact (World.cell?_of_block ((hF8.snap qb hqbo).trans (hF7.snap qb hqbo).symm)).trans hqc
  have e5 : ((i : Int) + 1 - 1).toNat = i := by omega
  refine (ok_draw 16 [(false, true)] (Ext _) Fx.mixed (by decide) rfl (by decide +kernel) (by decide +kernel) (Ext.drew _) ?_)
  repeat ((try subst X); (first | (first | apply zL | apply zH | apply zE); intro X hX | apply zl | apply zh | apply ze); try simp only [zU, reduceIte, Nat.reduceEqDiff, Nat.reduceAdd, reduceCtorEq, Q88])
  refine ⟨_, fun w' h => h.cell hF8.k1, ?_⟩
  repeat ((try subst X); (first | (first | apply zL | apply zH | apply zE); intro X hX | apply zl | apply zh | apply ze); try simp only [zU, reduceIte, Nat.reduceEqDiff, Nat.reduceAdd, reduceCtorEq, Q88])
  refine ⟨_, fun w' h => h.cell hhead8, ?_⟩
  repeat ((try subst X); (first | (first | apply zL | apply zH | apply zE); intro X hX | apply zl | apply zh | apply ze); try simp only [zU, reduceIte, Nat.reduceEqDiff, Nat.reduceAdd, reduceCtorEq, Q88])
  refine ⟨_, fun w' h => h.cell (hq8.c2.cell (j := 0) rfl), ?_⟩
  repeat ((try subst X); (first | (first | apply zL | apply zH | apply zE); intro X hX | apply zl | apply zh | apply ze); try simp only [zU, reduceIte, Nat.reduceEqDiff, Nat.reduceAdd, reduceCtorEq, Q88])
  refine ⟨by omega, by omega, ?_⟩
  repeat ((try subst X); (first | (first | apply zL | apply zH | apply zE); intro X hX | apply zl | apply zh | apply ze); try simp only [zU, reduceIte, Nat.reduceEqDiff, Nat.reduceAdd, reduceCtorEq, Q88])
  refine ⟨_, fun w' h => h.cell (by simpa using hqc8), ?_⟩
  repeat ((try subst X); (first | (first | apply zL | apply zH | apply zE); intro X hX | apply zl | apply zh | apply ze); try simp only [zU, reduceIte, Nat.reduceEqDiff, Nat.reduceAdd, reduceCtorEq, Q88])
  refine ⟨by simp only [inI]; omega, ?_⟩
  repeat ((try subst X); (first | (first | apply zL | apply zH | apply zE); intro X hX | apply zl | apply zh | apply ze); try simp only [zU, reduceIte, Nat.reduceEqDiff, Nat.reduceAdd, reduceCtorEq, Q88])
  refine ⟨by omega, by omega, ?_⟩
  repeat ((try subst X); (first | (first | apply zL | apply zH | apply zE); intro X hX | apply zl | apply zh | apply ze); try simp only [zU, reduceIte, Nat.reduceEqDiff, Nat.reduceAdd, reduceCtorEq, Q88])
  refine ⟨_, fun w' h => h.cell (by rw [e5]; simpa [add_at] using hcc0), ?_⟩
  repeat ((try subst X); (first | (first | apply zL | apply zH | apply zE); intro X hX | apply zl | apply zh | apply ze); try simp only [zU, reduceIte, Nat.reduceEqDiff, Nat.reduceAdd, reduceCtorEq, Q88])
  refine ⟨_, fun w' h => h.cell hlc, ?_⟩
  repeat ((try subst X); (first | (first | apply zL | apply zH | apply zE); intro X hX | apply zl | apply zh | apply ze); try simp only [zU, reduceIte, Nat.reduceEqDiff, Nat.reduceAdd, reduceCtorEq, Q88])
  intro w9 he9
  repeat ((try subst X); (first | (first | apply zL | apply zH | apply zE); intro X hX | apply zl | apply zh | apply ze); try simp only [zU, reduceIte, Nat.reduceEqDiff, Nat.reduceAdd, reduceCtorEq, Q88])
  have hlist : listO (objAt H ((i : Int) + 1)) = o.list := by rw [hoo]; rfl
  refine Inv.clos (cap := [ptrOf B3, ptrOf B5]) Fx.en89 (push_ok w9 W.heap.size B2 B3 B5 H.length sn q _ s.own (.slice A2 o.list.length c2) o.list (by omega) hll (hq8.ext he9) hQ7 hu7 (fun x hx => hW o (List.mem_of_getElem? ho) x hx) ⟨A2, c2, rfl⟩ ?_) ?_
  · intro w' G' hG' hc'
    have hs9 := he9.size
    exact hls w' (fun k => s.own k ∨ w9.heap.size ≤ k) ((he9.chg _).trans (hc'.mono (fun k _ h => hG' k h))) (fun _ hg2 h => by rcases h with h | h <;> first | exact hgF h | omega)
  rintro v w10 ⟨qv10, G10, hq10, hc10, hs10, hn10⟩
  repeat ((try subst X); (first | (first | apply zL | apply zH | apply zE); intro X hX | apply zl | apply zh | apply ze); try simp only [zU, reduceIte, Nat.reduceEqDiff, Nat.reduceAdd, reduceCtorEq, Q88])
  refine hM1 _ _ _ ?_; clear hM1 M1
  refine ok_region rfl ?_
  repeat ((try subst X); (first | (first | apply zL | apply zH | apply zE); intro X hX | apply zl | apply zh | apply ze); try simp only [zU, reduceIte, Nat.reduceEqDiff, Nat.reduceAdd, reduceCtorEq, Q88])
  refine ⟨by simp only [inI]; omega, ?_⟩
  repeat ((try subst X); (first | (first | apply zL | apply zH | apply zE); intro X hX | apply zl | apply zh | apply ze); try simp only [zU, reduceIte, Nat.reduceEqDiff, Nat.reduceAdd, reduceCtorEq, Q88])
  have hp10 := pushF_inv (n := H.length) o.list sn q (fun x hx => hW o (List.mem_of_getElem? ho) x hx) hQ7
  have hJ10 : J' ⟨s.i + 1, G10, fun k => w10.heap[k]?⟩ w10 := hgen ⟨s.i + 1, s.own, s.snap⟩ w8 _ w10 ⟨rfl, (he9.chg _).trans hc10, hs10, fun k hk => ⟨by rcases hn10 k hk with h | h; exact .inl h; exact .inr (by have := he9.size; omega), (hq10.lt k hk).2⟩, rfl⟩ hJ8
  obtain ⟨f', rfl⟩ : ∃ f', f = f' + 1 := ⟨f - 1, by omega⟩
  have hlen10 := hp10.2.2
  have hle10 := hp10.2.1.length_le
  refine ⟨(⟨s.i + 1, G10, fun k => w10.heap[k]?⟩, (pushF sn q o.list).1, (pushF sn q o.list).2, qv10, f'), by simp [sub, Env.get], ⟨hJ10, hq10, hp10.1, by simp only; omega, by simp only; omega, by simp only; omega, ?_⟩, by simp only; omega⟩
  rw [hb7]
  simp only [bfs, hri, hlist]

-- -- function 49
set_option maxHeartbeats 4000000 in
set_option maxRecDepth 8000 in
theorem reached_ok (w : World) (hb : Nat) (rv : Value) (hrv : rv.cells = #[rv]) : Rets Tryz.prog 49 [ptrOf hb, rv] w (fun v w' => v = .func (.func 88) #[] #[ptrOf w.heap.size, ptrOf (w.heap.size + 1)] ∧ Blk w' w.heap.size [ptrOf hb] 25 ∧ Blk w' (w.heap.size + 1) [rv] 29 ∧ Ext w w') := by
  refine rets_of_ok Tryz.func49 rfl rfl ?_
  refine ok_seq (fun M hM => ok_region rfl ?_)
  repeat ((try subst X); (first | (first | apply zL | apply zH | apply zE); intro X hX | apply zl | apply zh | apply ze); try simp only [zU, reduceIte, Nat.reduceEqDiff, Nat.reduceAdd, reduceCtorEq, Q49])
  refine Runs.box (fun w1 he1 hs1 hb1 => ?_)
  simp only [Value.cells] at hb1
  repeat ((try subst X); (first | (first | apply zL | apply zH | apply zE); intro X hX | apply zl | apply zh | apply ze); try simp only [zU, reduceIte, Nat.reduceEqDiff, Nat.reduceAdd, reduceCtorEq, Q49])
  refine Runs.box (fun w2 he2 hs2 hb2 => ?_)
  rw [hrv] at hb2
  repeat ((try subst X); (first | (first | apply zL | apply zH | apply zE); intro X hX | apply zl | apply zh | apply ze); try simp only [zU, reduceIte, Nat.reduceEqDiff, Nat.reduceAdd, reduceCtorEq, Q49])
  refine hM _ _ _ ?_; clear hM M
  refine ok_seq (fun M hM => ok_region rfl ?_); repeat ((try subst X); (first | (first | apply zL | apply zH | apply zE); intro X hX | apply zl | apply zh | apply ze); try simp only [zU, reduceIte, Nat.reduceEqDiff, Nat.reduceAdd, reduceCtorEq, Q49])
  refine hM _ _ _ ?_; clear hM M
  refine ok_ret ?_
  try simp only [zW, zU, reduceIte, Nat.reduceEqDiff, Nat.reduceAdd, reduceCtorEq, Q49]
  rw [hs1] at hb2 ⊢
  exact ⟨rfl, hb1.ext he2, hb2, he1.trans he2⟩

-- -- function 50
set_option maxHeartbeats 4000000 in
set_option maxRecDepth 8000 in
theorem collect1_ok (w : World) (hb rb : Nat) (H : List Ob) (F : Nat → Prop) (hH : HeapW w hb rb H F) (hl : H.length ≤ 1073741824) (x : Wd) (B : Nat) (hB : w.cell? ⟨B, 0, none⟩ = some (ptrOf hb)) :
    Rets Tryz.prog 50 [wv x, ptrOf B] w (fun v w' => v = .bool (!rightW H x) ∧ Ext w w') := by
  refine rets_of_ok Tryz.func50 rfl rfl ?_
  refine ok_seq (fun M hM => ok_region rfl ?_)
  repeat ((try subst X); (first | (first | apply zL | apply zH | apply zE); intro X hX | apply zl | apply zh | apply ze); try simp only [zU, reduceIte, Nat.reduceEqDiff, Nat.reduceAdd, reduceCtorEq, Q50])
  refine Runs.box (fun w1 he1 hz1 hb1 => ?_)
  generalize hB1 : w.heap.size = B1 at hz1 hb1
  simp only [Value.cells] at hb1
  repeat ((try subst X); (first | (first | apply zL | apply zH | apply zE); intro X hX | apply zl | apply zh | apply ze); try simp only [zU, reduceIte, Nat.reduceEqDiff, Nat.reduceAdd, reduceCtorEq, Q50])
  refine hM _ _ _ ?_; clear hM M
  refine ok_seq (fun M hM => ok_region rfl ?_)
  repeat ((try subst X); (first | (first | apply zL | apply zH | apply zE); intro X hX | apply zl | apply zh | apply ze); try simp only [zU, reduceIte, Nat.reduceEqDiff, Nat.reduceAdd, reduceCtorEq, Q50])
  refine ⟨_, he1.cell hB, ?_⟩
  repeat ((try subst X); (first | (first | apply zL | apply zH | apply zE); intro X hX | apply zl | apply zh | apply ze); try simp only [zU, reduceIte, Nat.reduceEqDiff, Nat.reduceAdd, reduceCtorEq, Q50])
  refine ⟨x.row, rfl, hb1.cells (o := 0) (fun j u hj => by simpa using hj), ?_⟩
  repeat ((try subst X); (first | (first | apply zL | apply zH | apply zE); intro X hX | apply zl | apply zh | apply ze); try simp only [zU, reduceIte, Nat.reduceEqDiff, Nat.reduceAdd, reduceCtorEq, Q50])
  refine Inv.call Fx.en12 (right_ok w1 hb rb H F (hH.ext he1) hl x) ?_
  rintro v w2 ⟨rfl, he2⟩
  repeat ((try subst X); (first | (first | apply zL | apply zH | apply zE); intro X hX | apply zl | apply zh | apply ze); try simp only [zU, reduceIte, Nat.reduceEqDiff, Nat.reduceAdd, reduceCtorEq, Q50])
  refine hM _ _ _ ?_; clear hM M
  refine ok_ret ?_
  try simp only [zW, zU, reduceIte, Nat.reduceEqDiff, Nat.reduceAdd, reduceCtorEq, Q50]
  exact he1.trans he2

def mvW (tos : List Int) (x : Wd) : Wd := ⟨x.k, x.n, tos.getD x.r.toNat 0⟩

-- -- function 51
set_option maxHeartbeats 4000000 in
set_option maxRecDepth 8000 in
theorem moved_ok (w : World) (lv : Value) (l : List Wd) (c6 Bt : Nat) (tos : List Int) (h6 : w.cell? ⟨c6, 0, none⟩ = some (.slice (some ⟨Bt, 0, none⟩) tos.length tos.length)) (ht : Blk w Bt (ivs tos) 3) (hsl : SlW w lv l) (hll : l.length ≤ 1073741824) (hlr : ∀ x ∈ l, 0 ≤ x.r ∧ x.r < (tos.length : Int)) (htl : tos.length ≤ 1073741824) :
    Rets Tryz.prog 51 [lv, ptrOf c6] w (fun v w' => (∃ A c, v = .slice A l.length c) ∧ (l = [] → v = .slice none 0 0) ∧ (∃ g, WL w' g v (l.map (mvW tos)) ∧ (l ≠ [] → w.heap.size ≤ g)) ∧ Ext w w') := by
  obtain ⟨A, c, rfl, hlen, hcell⟩ := id hsl
  rw [wd_len] at hlen hsl ⊢
  refine rets_of_ok Tryz.func51 rfl rfl ?_
  refine ok_seq (fun M hM => ok_region rfl ?_); repeat ((try subst X); (first | (first | apply zL | apply zH | apply zE); intro X hX | apply zl | apply zh | apply ze); try simp only [zU, reduceIte, Nat.reduceEqDiff, Nat.reduceAdd, reduceCtorEq, Q51])
  refine hM _ _ _ ?_; clear hM M
  refine ok_seq (fun M hM => ok_region rfl ?_); repeat ((try subst X); (first | (first | apply zL | apply zH | apply zE); intro X hX | apply zl | apply zh | apply ze); try simp only [zU, reduceIte, Nat.reduceEqDiff, Nat.reduceAdd, reduceCtorEq, Q51])
  refine hM _ _ _ ?_; clear hM M
  refine ok_seq (fun M0 hM0 => ?_)
  refine ok_seq (fun M hM => ok_region rfl ?_); repeat ((try subst X); (first | (first | apply zL | apply zH | apply zE); intro X hX | apply zl | apply zh | apply ze); try simp only [zU, reduceIte, Nat.reduceEqDiff, Nat.reduceAdd, reduceCtorEq, Q51])
  refine hM _ _ _ ?_; clear hM M
  refine ok_block ?_
  refine ok_loop (S := Nat × Value) (fun s => [(1, ptrOf c6), (4, s.2), (7, .slice A l.length c), (8, .int .i64 (l.length : Int)), (9, .int .i64 (s.1 : Int))])
    (fun s w4 => Ext w w4 ∧ s.1 ≤ l.length ∧ (s.1 = 0 → s.2 = .slice none 0 0) ∧ w4.ownsRow w.heap.size 38 3 s.2 s.1 (((l.take s.1).map (mvW tos)).map Wd.row).flatten) (fun s => l.length - s.1) (0, .slice none 0 0) ?_ ?_ ?_
  · simp [sub, Env.get, argEnv]
  · exact ⟨Ext.refl _, Nat.zero_le _, fun _ => rfl, World.ownsRow_nil _ _ _ _⟩
  rintro ⟨i, va⟩ w4 ⟨he4, hi, hi0, hown⟩
  simp only at hi hi0 hown ⊢
  refine ok_seq (fun M hM => ok_region rfl ?_); repeat ((try subst X); (first | (first | apply zL | apply zH | apply zE); intro X hX | apply zl | apply zh | apply ze); try simp only [zU, reduceIte, Nat.reduceEqDiff, Nat.reduceAdd, reduceCtorEq, Q51])
  refine hM _ _ _ ?_; clear hM M
  refine ok_seq (fun M1 hM1 => ?_)
  refine ok_if rfl (fun hc => ok_skip ?_) (fun hc => ok_exit ?_)
  rotate_left
  · try simp only [zW, zU, reduceIte, Nat.reduceEqDiff, Nat.reduceAdd, reduceCtorEq, Q51]
    refine hM0 _ _ _ ?_; clear hM0 M0 hM1 M1
    have hia : i = l.length := by omega
    subst hia
    rw [List.take_of_length_le (Nat.le_refl _)] at hown
    have hml : (l.map (mvW tos)).length = l.length := by simp
    obtain ⟨g, hWL, hg⟩ := WL.of_own (l := l.map (mvW tos)) (by rw [hml]; exact hown) (by rw [hml]; exact hll)
    refine ok_seq (fun M hM => ok_region rfl ?_); repeat ((try subst X); (first | (first | apply zL | apply zH | apply zE); intro X hX | apply zl | apply zh | apply ze); try simp only [zU, reduceIte, Nat.reduceEqDiff, Nat.reduceAdd, reduceCtorEq, Q51])
    refine hM _ _ _ ?_; clear hM M
    refine ok_ret ?_
    try simp only [zW, zU, reduceIte, Nat.reduceEqDiff, Nat.reduceAdd, reduceCtorEq, Q51]
    obtain ⟨A9, c9, hv9, -⟩ := id hWL
    rw [hml] at hv9
    exact ⟨⟨A9, c9, hv9⟩, fun h => hi0 (by rw [h]; rfl), ⟨g, hWL, fun hne => (hown.lt g (hg (by simpa using hne))).1⟩, he4⟩
  try simp only [zW, zU, reduceIte, Nat.reduceEqDiff, Nat.reduceAdd, reduceCtorEq, Q51]
  refine hM1 _ _ _ ?_; clear hM1 M1
  have hil : i < l.length := by omega
  have hxi : l[i]? = some l[i] := List.getElem?_eq_getElem hil
  have hxr := hlr _ (List.getElem_mem hil)
  have htk : l.take (i + 1) = l.take i ++ [l[i]] := List.take_succ_eq_append_getElem hil
  generalize l[i] = x at hxi hxr htk
  obtain ⟨bb, oo, rfl, hce⟩ := hcell i x.row (by rw [List.getElem?_map, hxi]; rfl)
  refine ok_seq (fun M1 hM1 => ok_block ?_)
  refine ok_seq (fun M hM => ok_region rfl ?_)
  repeat ((try subst X); (first | (first | apply zL | apply zH | apply zE); intro X hX | apply zl | apply zh | apply ze); try simp only [zU, reduceIte, Nat.reduceEqDiff, Nat.reduceAdd, reduceCtorEq, Q51])
  refine ⟨by omega, by omega, ?_⟩
  repeat ((try subst X); (first | (first | apply zL | apply zH | apply zE); intro X hX | apply zl | apply zh | apply ze); try simp only [zU, reduceIte, Nat.reduceEqDiff, Nat.reduceAdd, reduceCtorEq, Q51])
  refine ⟨x.row, rfl, he4.cellsAt hce, ?_⟩
  repeat ((try subst X); (first | (first | apply zL | apply zH | apply zE); intro X hX | apply zl | apply zh | apply ze); try simp only [zU, reduceIte, Nat.reduceEqDiff, Nat.reduceAdd, reduceCtorEq, Q51])
  refine Runs.alloc Fx.zi38 (fun w5 he5 hs5 hb5 => ?_)
  generalize hB5 : w4.heap.size = B5 at hs5 hb5
  repeat ((try subst X); (first | (first | apply zL | apply zH | apply zE); intro X hX | apply zl | apply zh | apply ze); try simp only [zU, reduceIte, Nat.reduceEqDiff, Nat.reduceAdd, reduceCtorEq, Q51])
  refine Runs.store hb5 Fx.zi38 rfl (by intro u hu; simp [Value.cells, Wd.row] at hu; rcases hu with rfl | rfl | rfl <;> rfl) (by simp [Value.cells]) (fun w6 hc6 hs6 hb6 => ?_)
  rw [splice_all _ _ (by simp [Value.cells])] at hb6
  simp only [Value.cells, Wd.row] at hb6
  have he46 : Ext w4 w6 := he5.chg_trans hc6 (fun i hi => by omega)
  have he6 := he4.trans he46
  repeat ((try subst X); (first | (first | apply zL | apply zH | apply zE); intro X hX | apply zl | apply zh | apply ze); try simp only [zU, reduceIte, Nat.reduceEqDiff, Nat.reduceAdd, reduceCtorEq, Q51])
  refine hM _ _ _ ?_; clear hM M
  have hrn : x.r.toNat < tos.length := by omega
  have hgt : tos[x.r.toNat]? = some (tos.getD x.r.toNat 0) := by rw [List.getD_eq_getElem?_getD, List.getElem?_eq_getElem hrn]; rfl
  refine ok_seq (fun M hM => ok_region rfl ?_)
  repeat ((try subst X); (first | (first | apply zL | apply zH | apply zE); intro X hX | apply zl | apply zh | apply ze); try simp only [zU, reduceIte, Nat.reduceEqDiff, Nat.reduceAdd, reduceCtorEq, Q51])
  refine ⟨_, he6.cell h6, ?_⟩
  repeat ((try subst X); (first | (first | apply zL | apply zH | apply zE); intro X hX | apply zl | apply zh | apply ze); try simp only [zU, reduceIte, Nat.reduceEqDiff, Nat.reduceAdd, reduceCtorEq, Q51])
  refine ⟨_, hb6.cell (j := 2) rfl, ?_⟩
  repeat ((try subst X); (first | (first | apply zL | apply zH | apply zE); intro X hX | apply zl | apply zh | apply ze); try simp only [zU, reduceIte, Nat.reduceEqDiff, Nat.reduceAdd, reduceCtorEq, Q51])
  refine ⟨by omega, by omega, ?_⟩
  repeat ((try subst X); (first | (first | apply zL | apply zH | apply zE); intro X hX | apply zl | apply zh | apply ze); try simp only [zU, reduceIte, Nat.reduceEqDiff, Nat.reduceAdd, reduceCtorEq, Q51])
  refine ⟨_, by simpa [add_at] using (ht.ext he6).cell (ivs_get hgt), ?_⟩
  repeat ((try subst X); (first | (first | apply zL | apply zH | apply zE); intro X hX | apply zl | apply zh | apply ze); try simp only [zU, reduceIte, Nat.reduceEqDiff, Nat.reduceAdd, reduceCtorEq, Q51])
  refine Runs.store hb6 Fx.zi3 rfl (by intro u hu; simp [Value.cells] at hu; subst hu; rfl) (by simp) (fun w7 hc7 hs7 hb7 => ?_)
  simp only [splice, Value.cells, List.take_succ_cons, List.take_zero, List.cons_append, List.nil_append, List.length_singleton, Nat.reduceAdd, List.drop_succ_cons, List.drop_zero, List.append_nil, List.drop_nil] at hb7
  have he47 : Ext w4 w7 := he46.chg_trans hc7 (fun i hi => by omega)
  repeat ((try subst X); (first | (first | apply zL | apply zH | apply zE); intro X hX | apply zl | apply zh | apply ze); try simp only [zU, reduceIte, Nat.reduceEqDiff, Nat.reduceAdd, reduceCtorEq, Q51])
  refine hM _ _ _ ?_; clear hM M
  have hrow : (mvW tos x).row = [.int .i64 x.k, .int .i64 x.n, .int .i64 (tos.getD x.r.toNat 0)] := rfl
  refine ok_region rfl ?_
  repeat ((try subst X); (first | (first | apply zL | apply zH | apply zE); intro X hX | apply zl | apply zh | apply ze); try simp only [zU, reduceIte, Nat.reduceEqDiff, Nat.reduceAdd, reduceCtorEq, Q51])
  refine ⟨_, rfl, hb7.cells (o := 0) (row := (mvW tos x).row) (fun j u hj => by simpa [hrow] using hj), ?_⟩
  repeat ((try subst X); (first | (first | apply zL | apply zH | apply zE); intro X hX | apply zl | apply zh | apply ze); try simp only [zU, reduceIte, Nat.reduceEqDiff, Nat.reduceAdd, reduceCtorEq, Q51])
  refine Runs.lit (cs := (mvW tos x).row) Fx.un29 Fx.zi38 (by decide) (by kernel_rfl) (by decide) (fun w8 he8 hs8 hb8 => ?_)
  repeat ((try subst X); (first | (first | apply zL | apply zH | apply zE); intro X hX | apply zl | apply zh | apply ze); try simp only [zU, reduceIte, Nat.reduceEqDiff, Nat.reduceAdd, reduceCtorEq, Q51])
  have he48 := he47.trans he8
  have hown8 := owns_chg' hown (he48.chg (fun _ => False)) (fun _ _ h => h)
  have hs48 := he48.size
  have hs4 := he4.size
  refine Runs.append1' Fx.un29 Fx.zi38 rfl (by decide) hown8 hb8 rfl (by intro u hu; simp [Wd.row] at hu; rcases hu with rfl | rfl | rfl <;> rfl) (by simp [maxLen]; omega) (by omega) (by omega) (fun v' w9 hown9 hg9 hblk => ?_)
  repeat ((try subst X); (first | (first | apply zL | apply zH | apply zE); intro X hX | apply zl | apply zh | apply ze); try simp only [zU, reduceIte, Nat.reduceEqDiff, Nat.reduceAdd, reduceCtorEq, Q51])
  refine hM1 _ _ _ ?_; clear hM1 M1
  refine ok_region rfl ?_
  repeat ((try subst X); (first | (first | apply zL | apply zH | apply zE); intro X hX | apply zl | apply zh | apply ze); try simp only [zU, reduceIte, Nat.reduceEqDiff, Nat.reduceAdd, reduceCtorEq, Q51])
  refine ⟨by simp only [inI]; omega, ?_⟩
  repeat ((try subst X); (first | (first | apply zL | apply zH | apply zE); intro X hX | apply zl | apply zh | apply ze); try simp only [zU, reduceIte, Nat.reduceEqDiff, Nat.reduceAdd, reduceCtorEq, Q51])
  refine ⟨(i + 1, v'), by simp [sub, Env.get], ⟨?_, by omega, fun h => absurd h (by simp only; omega), ?_⟩, by omega⟩
  · exact (he4.trans he48).chg_trans (S := fun k => va.ownBlock = some k) ⟨hg9.os, hg9.tape, hg9.output, hg9.size, fun k hk hs => hg9.block k hk (fun e => hs e.symm)⟩ (fun k hk => (hown8.lt k hk).1)
  · simp only [htk, List.map_append, List.flatten_append]
    simpa using hown9
end Go.Proofs.YtldeokfhipjbfaaGreatDoor
