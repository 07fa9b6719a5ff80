/- HeapPlays: for every list of acts, whatever they are, the law returns true, and what came in reads as it did. No condition but the row's own: the two listed variables of the heap's package read as the program's text lays them. -/
import Derived.Test.YtldeokfhipjbfaaGreatDoorM12
import Derived.Test.YtldeokfhipjbfaaGreatDoorM3
import Derived.Test.YtldeokfhipjbfaaGreatDoorM10
/- The reference's heap: Compare. -/
set_option linter.unusedVariables false
set_option linter.unusedSimpArgs false
namespace Go.Proofs.YtldeokfhipjbfaaGreatDoor
open Go Go.Proofs.Vg Go.RowKit

-- -- function 42
set_option maxHeartbeats 4000000 in
set_option maxRecDepth 8000 in
theorem rCompare_ok (w : World) (qb : Nat) (H : List Ob) (F : Nat → Prop) (hH : RHeapW w qb H F) (hl : H.length ≤ 1048576) (hG : GoodH H) (x y : Wd) :
    Rets Tryz.prog 42 [ptrOf qb, wv x, wv y] w (fun v w' => v = .tuple #[.int .i64 (cmpR H x y), .int .i64 (cmpE H x y)] ∧ Ext w w') := by
  have bad : ∀ e, cmpE H x y = e → e ≠ 0 → ∀ w', Ext w w' → Value.tuple #[.int .i64 0, .int .i64 e] = .tuple #[.int .i64 (cmpR H x y), .int .i64 (cmpE H x y)] ∧ Ext w w' := by
    intro e he hne w' hx
    have : cmpR H x y = 0 := by unfold cmpR; rw [if_neg (by rw [he]; exact hne)]
    rw [this, he]
    exact ⟨rfl, hx⟩
  refine rets_of_ok Tryz.func42 rfl rfl ?_
  refine ok_seq (fun M hM => ok_region rfl ?_)
  repeat ((try first | (refine ofX3 hX ?_; clear hX X) | (refine ofX2 hX ?_; clear hX X)); (first|refine wpL_step (fun X hX=>?_)|refine wpH_step (fun X hX=>?_)|refine wpE_step (fun X hX=>?_)|refine wpL_end ?_|refine wpH_end ?_|refine wpE_end ?_); try simp only [zU, forall_const, reduceIte, Nat.reduceEqDiff, Nat.reduceAdd, reduceCtorEq, Q42])
  refine Runs.box (fun w0 he0 hz0 hb0 => ?_)
  generalize hB0 : w.heap.size = B0 at hz0 hb0
  simp only [Value.cells] at hb0
  repeat ((try first | (refine ofX3 hX ?_; clear hX X) | (refine ofX2 hX ?_; clear hX X)); (first|refine wpL_step (fun X hX=>?_)|refine wpH_step (fun X hX=>?_)|refine wpE_step (fun X hX=>?_)|refine wpL_end ?_|refine wpH_end ?_|refine wpE_end ?_); try simp only [zU, forall_const, reduceIte, Nat.reduceEqDiff, Nat.reduceAdd, reduceCtorEq, Q42])
  refine Runs.box (fun w1 he1 hz1 hb1 => ?_)
  generalize hB1 : w0.heap.size = B1 at hz1 hb1
  simp only [Value.cells] at hb1
  have hb01 := hb0.ext he1
  have he01 := he0.trans he1
  repeat ((try first | (refine ofX3 hX ?_; clear hX X) | (refine ofX2 hX ?_; clear hX X)); (first|refine wpL_step (fun X hX=>?_)|refine wpH_step (fun X hX=>?_)|refine wpE_step (fun X hX=>?_)|refine wpL_end ?_|refine wpH_end ?_|refine wpE_end ?_); try simp only [zU, forall_const, reduceIte, Nat.reduceEqDiff, Nat.reduceAdd, reduceCtorEq, Q42])
  refine hM _ _ _ ?_; clear hM M
  have hA1 : ∀ w', Ext w1 w' → cellsAt w' ⟨B0, 0, none⟩ x.row := fun w' h => (hb01.ext h).cells (o := 0) (fun j u hj => by simpa using hj)
  have hA2 : ∀ w', Ext w1 w' → cellsAt w' ⟨B1, 0, none⟩ y.row := fun w' h => (hb1.ext h).cells (o := 0) (fun j u hj => by simpa using hj)
  refine ok_join [(0, ptrOf qb), (4, ptrOf B0), (5, ptrOf B1)] (fun w' => w' = w1) ?_ ?_
  · refine ok_seq (fun M hM => ok_region rfl ?_)
    repeat ((try first | (refine ofX3 hX ?_; clear hX X) | (refine ofX2 hX ?_; clear hX X)); (first|refine wpL_step (fun X hX=>?_)|refine wpH_step (fun X hX=>?_)|refine wpE_step (fun X hX=>?_)|refine wpL_end ?_|refine wpH_end ?_|refine wpE_end ?_); try simp only [zU, forall_const, reduceIte, Nat.reduceEqDiff, Nat.reduceAdd, reduceCtorEq, Q42])
    refine Runs.ptrEq Fx.un27 ?_
    repeat ((try first | (refine ofX3 hX ?_; clear hX X) | (refine ofX2 hX ?_; clear hX X)); (first|refine wpL_step (fun X hX=>?_)|refine wpH_step (fun X hX=>?_)|refine wpE_step (fun X hX=>?_)|refine wpL_end ?_|refine wpH_end ?_|refine wpE_end ?_); try simp only [zU, forall_const, reduceIte, Nat.reduceEqDiff, Nat.reduceAdd, reduceCtorEq, Q42])
    refine hM _ _ _ ?_; clear hM M
    refine ok_cond rfl (fun h => by cases h) (fun h => ok_skip ?_)
    try simp only [zW, zU, reduceIte, Nat.reduceEqDiff, Nat.reduceAdd, reduceCtorEq, Q42]
    simp [sub, Env.get]
  rintro w' rfl
  -- right
  refine ok_join [(0, ptrOf qb), (4, ptrOf B0), (5, ptrOf B1)] (fun w2 => Ext w' w2 ∧ rightW H x = true ∧ rightW H y = true) ?_ ?_
  · refine ok_join [(0, ptrOf qb), (4, ptrOf B0), (5, ptrOf B1), (19, .bool (!(rightW H x && rightW H y)))] (fun w2 => Ext w' w2) ?_ ?_
    · refine ok_region rfl ?_
      repeat ((try first | (refine ofX3 hX ?_; clear hX X) | (refine ofX2 hX ?_; clear hX X)); (first|refine wpL_step (fun X hX=>?_)|refine wpH_step (fun X hX=>?_)|refine wpE_step (fun X hX=>?_)|refine wpL_end ?_|refine wpH_end ?_|refine wpE_end ?_); try simp only [zU, forall_const, reduceIte, Nat.reduceEqDiff, Nat.reduceAdd, reduceCtorEq, Q42])
      refine ⟨x.row, rfl, hA1 _ (Ext.refl _), ?_⟩
      repeat ((try first | (refine ofX3 hX ?_; clear hX X) | (refine ofX2 hX ?_; clear hX X)); (first|refine wpL_step (fun X hX=>?_)|refine wpH_step (fun X hX=>?_)|refine wpE_step (fun X hX=>?_)|refine wpL_end ?_|refine wpH_end ?_|refine wpE_end ?_); try simp only [zU, forall_const, reduceIte, Nat.reduceEqDiff, Nat.reduceAdd, reduceCtorEq, Q42])
      refine Inv.call Fx.en38 (rright_ok w' qb H F (hH.ext he01) (by omega) x) ?_
      rintro v w2 ⟨rfl, he2⟩
      repeat ((try first | (refine ofX3 hX ?_; clear hX X) | (refine ofX2 hX ?_; clear hX X)); (first|refine wpL_step (fun X hX=>?_)|refine wpH_step (fun X hX=>?_)|refine wpE_step (fun X hX=>?_)|refine wpL_end ?_|refine wpH_end ?_|refine wpE_end ?_); try simp only [zU, forall_const, reduceIte, Nat.reduceEqDiff, Nat.reduceAdd, reduceCtorEq, Q42])
      cases hrx : rightW H x with
      | false =>
        simp only [Bool.not_false]
        repeat ((try first | (refine ofX3 hX ?_; clear hX X) | (refine ofX2 hX ?_; clear hX X)); (first|refine wpL_step (fun X hX=>?_)|refine wpH_step (fun X hX=>?_)|refine wpE_step (fun X hX=>?_)|refine wpL_end ?_|refine wpH_end ?_|refine wpE_end ?_); try simp only [zU, forall_const, reduceIte, Nat.reduceEqDiff, Nat.reduceAdd, reduceCtorEq, Q42])
        refine ⟨fun h => (by cases h), fun _ => ?_⟩
        repeat ((try first | (refine ofX3 hX ?_; clear hX X) | (refine ofX2 hX ?_; clear hX X)); (first|refine wpL_step (fun X hX=>?_)|refine wpH_step (fun X hX=>?_)|refine wpE_step (fun X hX=>?_)|refine wpL_end ?_|refine wpH_end ?_|refine wpE_end ?_); try simp only [zU, forall_const, reduceIte, Nat.reduceEqDiff, Nat.reduceAdd, reduceCtorEq, Q42])
        simp [sub, Env.get, he2, hrx]
      | true =>
        simp only [Bool.not_true]
        repeat ((try first | (refine ofX3 hX ?_; clear hX X) | (refine ofX2 hX ?_; clear hX X)); (first|refine wpL_step (fun X hX=>?_)|refine wpH_step (fun X hX=>?_)|refine wpE_step (fun X hX=>?_)|refine wpL_end ?_|refine wpH_end ?_|refine wpE_end ?_); try simp only [zU, forall_const, reduceIte, Nat.reduceEqDiff, Nat.reduceAdd, reduceCtorEq, Q42])
        refine ⟨fun _ => ?_, fun h => (by cases h)⟩
        repeat ((try first | (refine ofX3 hX ?_; clear hX X) | (refine ofX2 hX ?_; clear hX X)); (first|refine wpL_step (fun X hX=>?_)|refine wpH_step (fun X hX=>?_)|refine wpE_step (fun X hX=>?_)|refine wpL_end ?_|refine wpH_end ?_|refine wpE_end ?_); try simp only [zU, forall_const, reduceIte, Nat.reduceEqDiff, Nat.reduceAdd, reduceCtorEq, Q42])
        refine ⟨y.row, rfl, hA2 _ he2, ?_⟩
        repeat ((try first | (refine ofX3 hX ?_; clear hX X) | (refine ofX2 hX ?_; clear hX X)); (first|refine wpL_step (fun X hX=>?_)|refine wpH_step (fun X hX=>?_)|refine wpE_step (fun X hX=>?_)|refine wpL_end ?_|refine wpH_end ?_|refine wpE_end ?_); try simp only [zU, forall_const, reduceIte, Nat.reduceEqDiff, Nat.reduceAdd, reduceCtorEq, Q42])
        refine Inv.call Fx.en38 (rright_ok w2 qb H F (hH.ext (he01.trans he2)) (by omega) y) ?_
        rintro v w3 ⟨rfl, he3⟩
        repeat ((try first | (refine ofX3 hX ?_; clear hX X) | (refine ofX2 hX ?_; clear hX X)); (first|refine wpL_step (fun X hX=>?_)|refine wpH_step (fun X hX=>?_)|refine wpE_step (fun X hX=>?_)|refine wpL_end ?_|refine wpH_end ?_|refine wpE_end ?_); try simp only [zU, forall_const, reduceIte, Nat.reduceEqDiff, Nat.reduceAdd, reduceCtorEq, Q42])
        simp [sub, Env.get, he2.trans he3, hrx]
    rintro w2 he2
    cases hr : (rightW H x && rightW H y) with
    | false =>
      refine ok_cond (b := true) rfl (fun _ => ?_) (fun h => by cases h)
      refine ok_seq (fun M hM => ok_region rfl ?_); repeat ((try first | (refine ofX3 hX ?_; clear hX X) | (refine ofX2 hX ?_; clear hX X)); (first|refine wpL_step (fun X hX=>?_)|refine wpH_step (fun X hX=>?_)|refine wpE_step (fun X hX=>?_)|refine wpL_end ?_|refine wpH_end ?_|refine wpE_end ?_); try simp only [zU, forall_const, reduceIte, Nat.reduceEqDiff, Nat.reduceAdd, reduceCtorEq, Q42])
      refine hM _ _ _ ?_; clear hM M
      refine ok_ret ?_
      refine ⟨rfl, bad 2 ?_ (by decide) _ (he01.trans he2)⟩
      unfold cmpE
      rw [if_neg (fun h => by rw [h.1, h.2] at hr; cases hr)]
    | true =>
      refine ok_cond (b := false) rfl (fun h => by cases h) (fun _ => ok_skip ?_)
      exact ⟨rfl, by simp [sub, Env.get], he2, by simpa using hr⟩
  rintro w2 ⟨he2, hrx, hry⟩
  -- ring
  refine ok_join [(0, ptrOf qb), (4, ptrOf B0), (5, ptrOf B1)] (fun w3 => Ext w' w3 ∧ ¬ (ringF H [x] = true ∨ ringF H [y] = true)) ?_ ?_
  · refine ok_join [(0, ptrOf qb), (4, ptrOf B0), (5, ptrOf B1), (27, .bool (ringF H [x] || ringF H [y]))] (fun w3 => Ext w' w3) ?_ ?_
    · refine ok_region rfl ?_
      repeat ((try first | (refine ofX3 hX ?_; clear hX X) | (refine ofX2 hX ?_; clear hX X)); (first|refine wpL_step (fun X hX=>?_)|refine wpH_step (fun X hX=>?_)|refine wpE_step (fun X hX=>?_)|refine wpL_end ?_|refine wpH_end ?_|refine wpE_end ?_); try simp only [zU, forall_const, reduceIte, Nat.reduceEqDiff, Nat.reduceAdd, reduceCtorEq, Q42])
      refine ⟨x.row, rfl, hA1 _ he2, ?_⟩
      repeat ((try first | (refine ofX3 hX ?_; clear hX X) | (refine ofX2 hX ?_; clear hX X)); (first|refine wpL_step (fun X hX=>?_)|refine wpH_step (fun X hX=>?_)|refine wpE_step (fun X hX=>?_)|refine wpL_end ?_|refine wpH_end ?_|refine wpE_end ?_); try simp only [zU, forall_const, reduceIte, Nat.reduceEqDiff, Nat.reduceAdd, reduceCtorEq, Q42])
      refine Inv.call Fx.en76 (rring_ok w2 qb H F (hH.ext (he01.trans he2)) hl hG x hrx) ?_
      rintro v w3 ⟨rfl, he3⟩
      rw [ringR_eq hG hrx]
      repeat ((try first | (refine ofX3 hX ?_; clear hX X) | (refine ofX2 hX ?_; clear hX X)); (first|refine wpL_step (fun X hX=>?_)|refine wpH_step (fun X hX=>?_)|refine wpE_step (fun X hX=>?_)|refine wpL_end ?_|refine wpH_end ?_|refine wpE_end ?_); try simp only [zU, forall_const, reduceIte, Nat.reduceEqDiff, Nat.reduceAdd, reduceCtorEq, Q42])
      cases hgx : ringF H [x] with
      | true =>
        repeat ((try first | (refine ofX3 hX ?_; clear hX X) | (refine ofX2 hX ?_; clear hX X)); (first|refine wpL_step (fun X hX=>?_)|refine wpH_step (fun X hX=>?_)|refine wpE_step (fun X hX=>?_)|refine wpL_end ?_|refine wpH_end ?_|refine wpE_end ?_); try simp only [zU, forall_const, reduceIte, Nat.reduceEqDiff, Nat.reduceAdd, reduceCtorEq, Q42])
        refine ⟨fun h => (by cases h), fun _ => ?_⟩
        repeat ((try first | (refine ofX3 hX ?_; clear hX X) | (refine ofX2 hX ?_; clear hX X)); (first|refine wpL_step (fun X hX=>?_)|refine wpH_step (fun X hX=>?_)|refine wpE_step (fun X hX=>?_)|refine wpL_end ?_|refine wpH_end ?_|refine wpE_end ?_); try simp only [zU, forall_const, reduceIte, Nat.reduceEqDiff, Nat.reduceAdd, reduceCtorEq, Q42])
        simp [sub, Env.get, he2.trans he3, hgx]
      | false =>
        repeat ((try first | (refine ofX3 hX ?_; clear hX X) | (refine ofX2 hX ?_; clear hX X)); (first|refine wpL_step (fun X hX=>?_)|refine wpH_step (fun X hX=>?_)|refine wpE_step (fun X hX=>?_)|refine wpL_end ?_|refine wpH_end ?_|refine wpE_end ?_); try simp only [zU, forall_const, reduceIte, Nat.reduceEqDiff, Nat.reduceAdd, reduceCtorEq, Q42])
        refine ⟨fun _ => ?_, fun h => (by cases h)⟩
        repeat ((try first | (refine ofX3 hX ?_; clear hX X) | (refine ofX2 hX ?_; clear hX X)); (first|refine wpL_step (fun X hX=>?_)|refine wpH_step (fun X hX=>?_)|refine wpE_step (fun X hX=>?_)|refine wpL_end ?_|refine wpH_end ?_|refine wpE_end ?_); try simp only [zU, forall_const, reduceIte, Nat.reduceEqDiff, Nat.reduceAdd, reduceCtorEq, Q42])
        refine ⟨y.row, rfl, hA2 _ (he2.trans he3), ?_⟩
        repeat ((try first | (refine ofX3 hX ?_; clear hX X) | (refine ofX2 hX ?_; clear hX X)); (first|refine wpL_step (fun X hX=>?_)|refine wpH_step (fun X hX=>?_)|refine wpE_step (fun X hX=>?_)|refine wpL_end ?_|refine wpH_end ?_|refine wpE_end ?_); try simp only [zU, forall_const, reduceIte, Nat.reduceEqDiff, Nat.reduceAdd, reduceCtorEq, Q42])
        refine Inv.call Fx.en76 (rring_ok w3 qb H F (hH.ext (he01.trans (he2.trans he3))) hl hG y hry) ?_
        rintro v w4 ⟨rfl, he4⟩
        rw [ringR_eq hG hry]
        repeat ((try first | (refine ofX3 hX ?_; clear hX X) | (refine ofX2 hX ?_; clear hX X)); (first|refine wpL_step (fun X hX=>?_)|refine wpH_step (fun X hX=>?_)|refine wpE_step (fun X hX=>?_)|refine wpL_end ?_|refine wpH_end ?_|refine wpE_end ?_); try simp only [zU, forall_const, reduceIte, Nat.reduceEqDiff, Nat.reduceAdd, reduceCtorEq, Q42])
        simp [sub, Env.get, (he2.trans he3).trans he4, hgx]
    rintro w3 he3
    cases hrg : (ringF H [x] || ringF H [y]) with
    | true =>
      refine ok_cond (b := true) rfl (fun _ => ?_) (fun h => by cases h)
      refine ok_seq (fun M hM => ok_region rfl ?_); repeat ((try first | (refine ofX3 hX ?_; clear hX X) | (refine ofX2 hX ?_; clear hX X)); (first|refine wpL_step (fun X hX=>?_)|refine wpH_step (fun X hX=>?_)|refine wpE_step (fun X hX=>?_)|refine wpL_end ?_|refine wpH_end ?_|refine wpE_end ?_); try simp only [zU, forall_const, reduceIte, Nat.reduceEqDiff, Nat.reduceAdd, reduceCtorEq, Q42])
      refine hM _ _ _ ?_; clear hM M
      refine ok_ret ?_
      refine ⟨rfl, bad 13 ?_ (by decide) _ (he01.trans he3)⟩
      unfold cmpE
      rw [if_pos ⟨hrx, hry⟩, if_pos (by simpa using hrg)]
    | false =>
      refine ok_cond (b := false) rfl (fun h => by cases h) (fun _ => ok_skip ?_)
      exact ⟨rfl, by simp [sub, Env.get], he3, by simpa using hrg⟩
  rintro w3 ⟨he3, hno⟩
  have hLx := valO_lds (ringF_reads hG hrx (by cases h : ringF H [x] with | false => rfl | true => exact absurd (.inl h) hno))
  have hLy := valO_lds (ringF_reads hG hry (by cases h : ringF H [y] with | false => rfl | true => exact absurd (.inr h) hno))
  -- parts
  refine ok_join [(0, ptrOf qb), (4, ptrOf B0), (5, ptrOf B1)] (fun w4 => Ext w' w4 ∧ ¬ (100000 < partsF H 100000 [x] ∨ 100000 < partsF H 100000 [y])) ?_ ?_
  · refine ok_join [(0, ptrOf qb), (4, ptrOf B0), (5, ptrOf B1), (37, .bool (decide (100000 < partsF H 100000 [x] ∨ 100000 < partsF H 100000 [y])))] (fun w4 => Ext w' w4) ?_ ?_
    · refine ok_region rfl ?_
      repeat ((try first | (refine ofX3 hX ?_; clear hX X) | (refine ofX2 hX ?_; clear hX X)); (first|refine wpL_step (fun X hX=>?_)|refine wpH_step (fun X hX=>?_)|refine wpE_step (fun X hX=>?_)|refine wpL_end ?_|refine wpH_end ?_|refine wpE_end ?_); try simp only [zU, forall_const, reduceIte, Nat.reduceEqDiff, Nat.reduceAdd, reduceCtorEq, Q42])
      refine ⟨x.row, rfl, hA1 _ he3, ?_⟩
      repeat ((try first | (refine ofX3 hX ?_; clear hX X) | (refine ofX2 hX ?_; clear hX X)); (first|refine wpL_step (fun X hX=>?_)|refine wpH_step (fun X hX=>?_)|refine wpE_step (fun X hX=>?_)|refine wpL_end ?_|refine wpH_end ?_|refine wpE_end ?_); try simp only [zU, forall_const, reduceIte, Nat.reduceEqDiff, Nat.reduceAdd, reduceCtorEq, Q42])
      refine Inv.call Fx.en40 (rParts_ok w3 qb H F (hH.ext (he01.trans he3)) (by omega) hG x) ?_
      rintro v w5 ⟨rfl, he5⟩
      rw [if_pos hrx]
      repeat ((try first | (refine ofX3 hX ?_; clear hX X) | (refine ofX2 hX ?_; clear hX X)); (first|refine wpL_step (fun X hX=>?_)|refine wpH_step (fun X hX=>?_)|refine wpE_step (fun X hX=>?_)|refine wpL_end ?_|refine wpH_end ?_|refine wpE_end ?_); try simp only [zU, forall_const, reduceIte, Nat.reduceEqDiff, Nat.reduceAdd, reduceCtorEq, Q42])
      by_cases hp : 100000 < partsF H 100000 [x]
      · have hd : decide ((100000 : Int) < (partsF H 100000 [x] : Int)) = true := decide_eq_true (by omega)
        simp only [hd]
        repeat ((try first | (refine ofX3 hX ?_; clear hX X) | (refine ofX2 hX ?_; clear hX X)); (first|refine wpL_step (fun X hX=>?_)|refine wpH_step (fun X hX=>?_)|refine wpE_step (fun X hX=>?_)|refine wpL_end ?_|refine wpH_end ?_|refine wpE_end ?_); try simp only [zU, forall_const, reduceIte, Nat.reduceEqDiff, Nat.reduceAdd, reduceCtorEq, Q42])
        refine ⟨fun h => (by cases h), fun _ => ?_⟩
        repeat ((try first | (refine ofX3 hX ?_; clear hX X) | (refine ofX2 hX ?_; clear hX X)); (first|refine wpL_step (fun X hX=>?_)|refine wpH_step (fun X hX=>?_)|refine wpE_step (fun X hX=>?_)|refine wpL_end ?_|refine wpH_end ?_|refine wpE_end ?_); try simp only [zU, forall_const, reduceIte, Nat.reduceEqDiff, Nat.reduceAdd, reduceCtorEq, Q42])
        simp [sub, Env.get, hp, he3.trans he5]
      · have hd : decide ((100000 : Int) < (partsF H 100000 [x] : Int)) = false := decide_eq_false (by omega)
        simp only [hd]
        repeat ((try first | (refine ofX3 hX ?_; clear hX X) | (refine ofX2 hX ?_; clear hX X)); (first|refine wpL_step (fun X hX=>?_)|refine wpH_step (fun X hX=>?_)|refine wpE_step (fun X hX=>?_)|refine wpL_end ?_|refine wpH_end ?_|refine wpE_end ?_); try simp only [zU, forall_const, reduceIte, Nat.reduceEqDiff, Nat.reduceAdd, reduceCtorEq, Q42])
        refine ⟨fun _ => ?_, fun h => (by cases h)⟩
        repeat ((try first | (refine ofX3 hX ?_; clear hX X) | (refine ofX2 hX ?_; clear hX X)); (first|refine wpL_step (fun X hX=>?_)|refine wpH_step (fun X hX=>?_)|refine wpE_step (fun X hX=>?_)|refine wpL_end ?_|refine wpH_end ?_|refine wpE_end ?_); try simp only [zU, forall_const, reduceIte, Nat.reduceEqDiff, Nat.reduceAdd, reduceCtorEq, Q42])
        refine ⟨y.row, rfl, hA2 _ (he3.trans he5), ?_⟩
        repeat ((try first | (refine ofX3 hX ?_; clear hX X) | (refine ofX2 hX ?_; clear hX X)); (first|refine wpL_step (fun X hX=>?_)|refine wpH_step (fun X hX=>?_)|refine wpE_step (fun X hX=>?_)|refine wpL_end ?_|refine wpH_end ?_|refine wpE_end ?_); try simp only [zU, forall_const, reduceIte, Nat.reduceEqDiff, Nat.reduceAdd, reduceCtorEq, Q42])
        refine Inv.call Fx.en40 (rParts_ok w5 qb H F (hH.ext (he01.trans (he3.trans he5))) (by omega) hG y) ?_
        rintro v w6 ⟨rfl, he6⟩
        rw [if_pos hry]
        repeat ((try first | (refine ofX3 hX ?_; clear hX X) | (refine ofX2 hX ?_; clear hX X)); (first|refine wpL_step (fun X hX=>?_)|refine wpH_step (fun X hX=>?_)|refine wpE_step (fun X hX=>?_)|refine wpL_end ?_|refine wpH_end ?_|refine wpE_end ?_); try simp only [zU, forall_const, reduceIte, Nat.reduceEqDiff, Nat.reduceAdd, reduceCtorEq, Q42])
        have hdy : decide ((100000 : Int) < (partsF H 100000 [y] : Int)) = decide (100000 < partsF H 100000 [y]) := by
          by_cases h : 100000 < partsF H 100000 [y]
          · rw [decide_eq_true h, decide_eq_true (by omega)]
          · rw [decide_eq_false h, decide_eq_false (by omega)]
        refine ⟨?_, (he3.trans he5).trans he6⟩
        rw [hdy]
        simp [sub, Env.get, hp]
    rintro w5 he5
    by_cases hp : 100000 < partsF H 100000 [x] ∨ 100000 < partsF H 100000 [y]
    · refine ok_cond (b := true) (by rw [decide_eq_true hp]; rfl) (fun _ => ?_) (fun h => by cases h)
      refine ok_seq (fun M hM => ok_region rfl ?_); repeat ((try first | (refine ofX3 hX ?_; clear hX X) | (refine ofX2 hX ?_; clear hX X)); (first|refine wpL_step (fun X hX=>?_)|refine wpH_step (fun X hX=>?_)|refine wpE_step (fun X hX=>?_)|refine wpL_end ?_|refine wpH_end ?_|refine wpE_end ?_); try simp only [zU, forall_const, reduceIte, Nat.reduceEqDiff, Nat.reduceAdd, reduceCtorEq, Q42])
      refine hM _ _ _ ?_; clear hM M
      refine ok_ret ?_
      refine ⟨rfl, bad 6 ?_ (by decide) _ (he01.trans he5)⟩
      unfold cmpE
      rw [if_pos ⟨hrx, hry⟩, if_neg hno, if_pos hp]
    · refine ok_cond (b := false) (by rw [decide_eq_false hp]; rfl) (fun h => by cases h) (fun _ => ok_skip ?_)
      exact ⟨rfl, by simp [sub, Env.get], he5, hp⟩
  rintro w5 ⟨he5, hp⟩
  generalize hc : (if sortV (valO H x) = true ∧ sortV (valO H y) = true then cmpV (valO H x) (valO H y) else 0) = c
  generalize he : (if sortV (valO H x) = true ∧ sortV (valO H y) = true then (0 : Int) else 1) = e
  have hE : cmpE H x y = e := by
    unfold cmpE
    rw [if_pos ⟨hrx, hry⟩, if_neg hno, if_neg hp, he]
  have hC : cmpR H x y = c := by
    unfold cmpR
    rw [hE, ← hc, ← he]
    split <;> simp
  rw [hE, hC]
  refine ok_seq (fun M hM => ?_)
  refine ok_tab [(38, fun v _ => v = ptrOf qb), (39, fun v _ => v = wv x), (40, fun v W => ∃ cs : List Value, v = .agg cs.toArray ∧ VRow W cs (valO H x)), (41, fun v _ => v = ptrOf qb), (42, fun v _ => v = wv y), (43, fun v W => ∃ cs : List Value, v = .agg cs.toArray ∧ VRow W cs (valO H y)),
    (44, fun v _ => v = .tuple #[.int .i64 c, .int .i64 e]), (45, fun v _ => v = .int .i64 c), (46, fun v _ => v = .int .i64 e), (6, fun v _ => v = .int .i64 c), (7, fun v _ => v = .int .i64 e)] [(0, ptrOf qb), (4, ptrOf B0), (5, ptrOf B1)] Fx.mixed rfl rfl rfl (by simp [sub, Env.get]) (by simp [sub, Env.get]) ?_ ?_
  rotate_left
  · intro K w6 hJ
    obtain ⟨_, g6, rfl⟩ := hJ.at_ 9 6 _ rfl rfl
    obtain ⟨_, g7, rfl⟩ := hJ.at_ 10 7 _ rfl rfl
    have he6 := (he01.trans he5).trans hJ.ext
    clear hJ
    simp only [thenN]
    refine hM _ _ _ ?_; clear hM M
    refine ok_ret ?_
    simp only [Vg.fin, Tryz.results42, retE, g6, g7, callR]
    exact ⟨trivial, trivial, he6⟩
  · have hmono : ∀ (j s : Nat) (p : Value → World → Prop), ([(38, fun v _ => v = ptrOf qb), (39, fun v _ => v = wv x), (40, fun v W => ∃ cs : List Value, v = .agg cs.toArray ∧ VRow W cs (valO H x)), (41, fun v _ => v = ptrOf qb), (42, fun v _ => v = wv y), (43, fun v W => ∃ cs : List Value, v = .agg cs.toArray ∧ VRow W cs (valO H y)),
        (44, fun v _ => v = .tuple #[.int .i64 c, .int .i64 e]), (45, fun v _ => v = .int .i64 c), (46, fun v _ => v = .int .i64 e), (6, fun v _ => v = .int .i64 c), (7, fun v _ => v = .int .i64 e)] : Tab)[j]? = some (s, p) → ∀ v w w', Ext w w' → p v w → p v w' := by
      intro j s p hj v w w' hx hp
      rcases j with _ | _ | _ | _ | _ | _ | _ | _ | _ | _ | _ | j
      all_goals first
        | (simp at hj; obtain ⟨rfl, rfl⟩ := hj; exact hp)
        | (simp at hj; obtain ⟨rfl, rfl⟩ := hj; obtain ⟨cs, h1, h2⟩ := hp; exact ⟨cs, h1, VRow.ext hx _ _ h2⟩)
        | (simp at hj)
    intro L K w6 i o hJ ho hno
    have hi := (List.getElem?_eq_some_iff.1 ho).1
    simp only [List.length_cons, List.length_nil] at hi
    have g0 := hJ.get 0 (v := ptrOf qb) rfl
    have g4 := hJ.get 4 (v := ptrOf B0) rfl
    have g5 := hJ.get 5 (v := ptrOf B1) rfl
    have he6 := (he01.trans he5).trans hJ.ext
    have he56 := he5.trans hJ.ext
    obtain rfl | rfl | rfl | rfl | rfl | rfl | rfl | rfl | rfl | rfl | rfl : i = 0 ∨ i = 1 ∨ i = 2 ∨ i = 3 ∨ i = 4 ∨ i = 5 ∨ i = 6 ∨ i = 7 ∨ i = 8 ∨ i = 9 ∨ i = 10 := by omega
    all_goals (simp only [List.getElem?_cons_zero, List.getElem?_cons_succ, Option.some.injEq] at ho; subst ho)
    · repeat ((try first | (refine ofX3 hX ?_; clear hX X) | (refine ofX2 hX ?_; clear hX X)); (first|refine wpL_step (fun X hX=>?_)|refine wpH_step (fun X hX=>?_)|refine wpE_step (fun X hX=>?_)|refine wpL_end ?_|refine wpH_end ?_|refine wpE_end ?_); try simp only [zU, forall_const, reduceIte, Nat.reduceEqDiff, Nat.reduceAdd, reduceCtorEq, Q42])
      simp only [g0]
      repeat ((try first | (refine ofX3 hX ?_; clear hX X) | (refine ofX2 hX ?_; clear hX X)); (first|refine wpL_step (fun X hX=>?_)|refine wpH_step (fun X hX=>?_)|refine wpE_step (fun X hX=>?_)|refine wpL_end ?_|refine wpH_end ?_|refine wpE_end ?_); try simp only [zU, forall_const, reduceIte, Nat.reduceEqDiff, Nat.reduceAdd, reduceCtorEq, Q42])
      exact hJ.put (i := 0) rfl rfl hmono (Ext.refl _) rfl
    · repeat ((try first | (refine ofX3 hX ?_; clear hX X) | (refine ofX2 hX ?_; clear hX X)); (first|refine wpL_step (fun X hX=>?_)|refine wpH_step (fun X hX=>?_)|refine wpE_step (fun X hX=>?_)|refine wpL_end ?_|refine wpH_end ?_|refine wpE_end ?_); try simp only [zU, forall_const, reduceIte, Nat.reduceEqDiff, Nat.reduceAdd, reduceCtorEq, Q42])
      simp only [g4]
      repeat ((try first | (refine ofX3 hX ?_; clear hX X) | (refine ofX2 hX ?_; clear hX X)); (first|refine wpL_step (fun X hX=>?_)|refine wpH_step (fun X hX=>?_)|refine wpE_step (fun X hX=>?_)|refine wpL_end ?_|refine wpH_end ?_|refine wpE_end ?_); try simp only [zU, forall_const, reduceIte, Nat.reduceEqDiff, Nat.reduceAdd, reduceCtorEq, Q42])
      refine ⟨x.row, rfl, hA1 _ he56, ?_⟩
      repeat ((try first | (refine ofX3 hX ?_; clear hX X) | (refine ofX2 hX ?_; clear hX X)); (first|refine wpL_step (fun X hX=>?_)|refine wpH_step (fun X hX=>?_)|refine wpE_step (fun X hX=>?_)|refine wpL_end ?_|refine wpH_end ?_|refine wpE_end ?_); try simp only [zU, forall_const, reduceIte, Nat.reduceEqDiff, Nat.reduceAdd, reduceCtorEq, Q42])
      exact hJ.put (i := 1) rfl rfl hmono (Ext.refl _) rfl
    · obtain ⟨_, g1, rfl⟩ := hJ.at_ 0 38 _ rfl (hno 0 (by decide))
      obtain ⟨_, g2, rfl⟩ := hJ.at_ 1 39 _ rfl (hno 1 (by decide))
      repeat ((try first | (refine ofX3 hX ?_; clear hX X) | (refine ofX2 hX ?_; clear hX X)); (first|refine wpL_step (fun X hX=>?_)|refine wpH_step (fun X hX=>?_)|refine wpE_step (fun X hX=>?_)|refine wpL_end ?_|refine wpH_end ?_|refine wpE_end ?_); try simp only [zU, forall_const, reduceIte, Nat.reduceEqDiff, Nat.reduceAdd, reduceCtorEq, Q42])
      simp only [g1, g2]
      repeat ((try first | (refine ofX3 hX ?_; clear hX X) | (refine ofX2 hX ?_; clear hX X)); (first|refine wpL_step (fun X hX=>?_)|refine wpH_step (fun X hX=>?_)|refine wpE_step (fun X hX=>?_)|refine wpL_end ?_|refine wpH_end ?_|refine wpE_end ?_); try simp only [zU, forall_const, reduceIte, Nat.reduceEqDiff, Nat.reduceAdd, reduceCtorEq, Q42])
      refine Inv.call Fx.en77 (rloaded_ok qb H F hl hG _ (valO H x) x w6 (Nat.le_refl _) hrx hLx (hH.ext he6)) ?_
      rintro v w7 ⟨cs, rfl, hcs, he7⟩
      repeat ((try first | (refine ofX3 hX ?_; clear hX X) | (refine ofX2 hX ?_; clear hX X)); (first|refine wpL_step (fun X hX=>?_)|refine wpH_step (fun X hX=>?_)|refine wpE_step (fun X hX=>?_)|refine wpL_end ?_|refine wpH_end ?_|refine wpE_end ?_); try simp only [zU, forall_const, reduceIte, Nat.reduceEqDiff, Nat.reduceAdd, reduceCtorEq, Q42])
      exact hJ.put (i := 2) rfl rfl hmono he7 ⟨cs, rfl, VRowS.row _ _ hcs⟩
    · repeat ((try first | (refine ofX3 hX ?_; clear hX X) | (refine ofX2 hX ?_; clear hX X)); (first|refine wpL_step (fun X hX=>?_)|refine wpH_step (fun X hX=>?_)|refine wpE_step (fun X hX=>?_)|refine wpL_end ?_|refine wpH_end ?_|refine wpE_end ?_); try simp only [zU, forall_const, reduceIte, Nat.reduceEqDiff, Nat.reduceAdd, reduceCtorEq, Q42])
      simp only [g0]
      repeat ((try first | (refine ofX3 hX ?_; clear hX X) | (refine ofX2 hX ?_; clear hX X)); (first|refine wpL_step (fun X hX=>?_)|refine wpH_step (fun X hX=>?_)|refine wpE_step (fun X hX=>?_)|refine wpL_end ?_|refine wpH_end ?_|refine wpE_end ?_); try simp only [zU, forall_const, reduceIte, Nat.reduceEqDiff, Nat.reduceAdd, reduceCtorEq, Q42])
      exact hJ.put (i := 3) rfl rfl hmono (Ext.refl _) rfl
    · repeat ((try first | (refine ofX3 hX ?_; clear hX X) | (refine ofX2 hX ?_; clear hX X)); (first|refine wpL_step (fun X hX=>?_)|refine wpH_step (fun X hX=>?_)|refine wpE_step (fun X hX=>?_)|refine wpL_end ?_|refine wpH_end ?_|refine wpE_end ?_); try simp only [zU, forall_const, reduceIte, Nat.reduceEqDiff, Nat.reduceAdd, reduceCtorEq, Q42])
      simp only [g5]
      repeat ((try first | (refine ofX3 hX ?_; clear hX X) | (refine ofX2 hX ?_; clear hX X)); (first|refine wpL_step (fun X hX=>?_)|refine wpH_step (fun X hX=>?_)|refine wpE_step (fun X hX=>?_)|refine wpL_end ?_|refine wpH_end ?_|refine wpE_end ?_); try simp only [zU, forall_const, reduceIte, Nat.reduceEqDiff, Nat.reduceAdd, reduceCtorEq, Q42])
      refine ⟨y.row, rfl, hA2 _ he56, ?_⟩
      repeat ((try first | (refine ofX3 hX ?_; clear hX X) | (refine ofX2 hX ?_; clear hX X)); (first|refine wpL_step (fun X hX=>?_)|refine wpH_step (fun X hX=>?_)|refine wpE_step (fun X hX=>?_)|refine wpL_end ?_|refine wpH_end ?_|refine wpE_end ?_); try simp only [zU, forall_const, reduceIte, Nat.reduceEqDiff, Nat.reduceAdd, reduceCtorEq, Q42])
      exact hJ.put (i := 4) rfl rfl hmono (Ext.refl _) rfl
    · obtain ⟨_, g1, rfl⟩ := hJ.at_ 3 41 _ rfl (hno 3 (by decide))
      obtain ⟨_, g2, rfl⟩ := hJ.at_ 4 42 _ rfl (hno 4 (by decide))
      repeat ((try first | (refine ofX3 hX ?_; clear hX X) | (refine ofX2 hX ?_; clear hX X)); (first|refine wpL_step (fun X hX=>?_)|refine wpH_step (fun X hX=>?_)|refine wpE_step (fun X hX=>?_)|refine wpL_end ?_|refine wpH_end ?_|refine wpE_end ?_); try simp only [zU, forall_const, reduceIte, Nat.reduceEqDiff, Nat.reduceAdd, reduceCtorEq, Q42])
      simp only [g1, g2]
      repeat ((try first | (refine ofX3 hX ?_; clear hX X) | (refine ofX2 hX ?_; clear hX X)); (first|refine wpL_step (fun X hX=>?_)|refine wpH_step (fun X hX=>?_)|refine wpE_step (fun X hX=>?_)|refine wpL_end ?_|refine wpH_end ?_|refine wpE_end ?_); try simp only [zU, forall_const, reduceIte, Nat.reduceEqDiff, Nat.reduceAdd, reduceCtorEq, Q42])
      refine Inv.call Fx.en77 (rloaded_ok qb H F hl hG _ (valO H y) y w6 (Nat.le_refl _) hry hLy (hH.ext he6)) ?_
      rintro v w7 ⟨cs, rfl, hcs, he7⟩
      repeat ((try first | (refine ofX3 hX ?_; clear hX X) | (refine ofX2 hX ?_; clear hX X)); (first|refine wpL_step (fun X hX=>?_)|refine wpH_step (fun X hX=>?_)|refine wpE_step (fun X hX=>?_)|refine wpL_end ?_|refine wpH_end ?_|refine wpE_end ?_); try simp only [zU, forall_const, reduceIte, Nat.reduceEqDiff, Nat.reduceAdd, reduceCtorEq, Q42])
      exact hJ.put (i := 5) rfl rfl hmono he7 ⟨cs, rfl, VRowS.row _ _ hcs⟩
    · obtain ⟨_, g1, cs, rfl, hcs⟩ := hJ.at_ 2 40 _ rfl (hno 2 (by decide))
      obtain ⟨_, g2, cs', rfl, hcs'⟩ := hJ.at_ 5 43 _ rfl (hno 5 (by decide))
      repeat ((try first | (refine ofX3 hX ?_; clear hX X) | (refine ofX2 hX ?_; clear hX X)); (first|refine wpL_step (fun X hX=>?_)|refine wpH_step (fun X hX=>?_)|refine wpE_step (fun X hX=>?_)|refine wpL_end ?_|refine wpH_end ?_|refine wpE_end ?_); try simp only [zU, forall_const, reduceIte, Nat.reduceEqDiff, Nat.reduceAdd, reduceCtorEq, Q42])
      simp only [g1, g2]
      repeat ((try first | (refine ofX3 hX ?_; clear hX X) | (refine ofX2 hX ?_; clear hX X)); (first|refine wpL_step (fun X hX=>?_)|refine wpH_step (fun X hX=>?_)|refine wpE_step (fun X hX=>?_)|refine wpL_end ?_|refine wpH_end ?_|refine wpE_end ?_); try simp only [zU, forall_const, reduceIte, Nat.reduceEqDiff, Nat.reduceAdd, reduceCtorEq, Q42])
      refine Inv.call Fx.en84 (compare7_ok (valO H x) (valO H y) w6 cs cs' hcs hcs') ?_
      rintro v w7 ⟨rfl, he7⟩
      rw [hc, he]
      repeat ((try first | (refine ofX3 hX ?_; clear hX X) | (refine ofX2 hX ?_; clear hX X)); (first|refine wpL_step (fun X hX=>?_)|refine wpH_step (fun X hX=>?_)|refine wpE_step (fun X hX=>?_)|refine wpL_end ?_|refine wpH_end ?_|refine wpE_end ?_); try simp only [zU, forall_const, reduceIte, Nat.reduceEqDiff, Nat.reduceAdd, reduceCtorEq, Q42])
      exact hJ.put (i := 6) rfl rfl hmono he7 rfl
    · obtain ⟨_, g1, rfl⟩ := hJ.at_ 6 44 _ rfl (hno 6 (by decide))
      repeat ((try first | (refine ofX3 hX ?_; clear hX X) | (refine ofX2 hX ?_; clear hX X)); (first|refine wpL_step (fun X hX=>?_)|refine wpH_step (fun X hX=>?_)|refine wpE_step (fun X hX=>?_)|refine wpL_end ?_|refine wpH_end ?_|refine wpE_end ?_); try simp only [zU, forall_const, reduceIte, Nat.reduceEqDiff, Nat.reduceAdd, reduceCtorEq, Q42])
      simp only [g1]
      repeat ((try first | (refine ofX3 hX ?_; clear hX X) | (refine ofX2 hX ?_; clear hX X)); (first|refine wpL_step (fun X hX=>?_)|refine wpH_step (fun X hX=>?_)|refine wpE_step (fun X hX=>?_)|refine wpL_end ?_|refine wpH_end ?_|refine wpE_end ?_); try simp only [zU, forall_const, reduceIte, Nat.reduceEqDiff, Nat.reduceAdd, reduceCtorEq, Q42])
      exact hJ.put (i := 7) rfl rfl hmono (Ext.refl _) rfl
    · obtain ⟨_, g1, rfl⟩ := hJ.at_ 6 44 _ rfl (hno 6 (by decide))
      repeat ((try first | (refine ofX3 hX ?_; clear hX X) | (refine ofX2 hX ?_; clear hX X)); (first|refine wpL_step (fun X hX=>?_)|refine wpH_step (fun X hX=>?_)|refine wpE_step (fun X hX=>?_)|refine wpL_end ?_|refine wpH_end ?_|refine wpE_end ?_); try simp only [zU, forall_const, reduceIte, Nat.reduceEqDiff, Nat.reduceAdd, reduceCtorEq, Q42])
      simp only [g1]
      repeat ((try first | (refine ofX3 hX ?_; clear hX X) | (refine ofX2 hX ?_; clear hX X)); (first|refine wpL_step (fun X hX=>?_)|refine wpH_step (fun X hX=>?_)|refine wpE_step (fun X hX=>?_)|refine wpL_end ?_|refine wpH_end ?_|refine wpE_end ?_); try simp only [zU, forall_const, reduceIte, Nat.reduceEqDiff, Nat.reduceAdd, reduceCtorEq, Q42])
      exact hJ.put (i := 8) rfl rfl hmono (Ext.refl _) rfl
    · obtain ⟨_, g1, rfl⟩ := hJ.at_ 7 45 _ rfl (hno 7 (by decide))
      repeat ((try first | (refine ofX3 hX ?_; clear hX X) | (refine ofX2 hX ?_; clear hX X)); (first|refine wpL_step (fun X hX=>?_)|refine wpH_step (fun X hX=>?_)|refine wpE_step (fun X hX=>?_)|refine wpL_end ?_|refine wpH_end ?_|refine wpE_end ?_); try simp only [zU, forall_const, reduceIte, Nat.reduceEqDiff, Nat.reduceAdd, reduceCtorEq, Q42])
      simp only [g1]
      repeat ((try first | (refine ofX3 hX ?_; clear hX X) | (refine ofX2 hX ?_; clear hX X)); (first|refine wpL_step (fun X hX=>?_)|refine wpH_step (fun X hX=>?_)|refine wpE_step (fun X hX=>?_)|refine wpL_end ?_|refine wpH_end ?_|refine wpE_end ?_); try simp only [zU, forall_const, reduceIte, Nat.reduceEqDiff, Nat.reduceAdd, reduceCtorEq, Q42])
      exact hJ.put (i := 9) rfl rfl hmono (Ext.refl _) rfl
    · obtain ⟨_, g1, rfl⟩ := hJ.at_ 8 46 _ rfl (hno 8 (by decide))
      repeat ((try first | (refine ofX3 hX ?_; clear hX X) | (refine ofX2 hX ?_; clear hX X)); (first|refine wpL_step (fun X hX=>?_)|refine wpH_step (fun X hX=>?_)|refine wpE_step (fun X hX=>?_)|refine wpL_end ?_|refine wpH_end ?_|refine wpE_end ?_); try simp only [zU, forall_const, reduceIte, Nat.reduceEqDiff, Nat.reduceAdd, reduceCtorEq, Q42])
      simp only [g1]
      repeat ((try first | (refine ofX3 hX ?_; clear hX X) | (refine ofX2 hX ?_; clear hX X)); (first|refine wpL_step (fun X hX=>?_)|refine wpH_step (fun X hX=>?_)|refine wpE_step (fun X hX=>?_)|refine wpL_end ?_|refine wpH_end ?_|refine wpE_end ?_); try simp only [zU, forall_const, reduceIte, Nat.reduceEqDiff, Nat.reduceAdd, reduceCtorEq, Q42])
      exact hJ.put (i := 10) rfl rfl hmono (Ext.refl _) rfl
end Go.Proofs.YtldeokfhipjbfaaGreatDoor
/- The law: the words of both heaps are the same. -/
set_option linter.unusedVariables false
set_option linter.unusedSimpArgs false
namespace Go.Proofs.YtldeokfhipjbfaaGreatDoor
open Go Go.Proofs.Vg Go.RowKit

-- -- function 75
set_option maxHeartbeats 2000000 in
set_option maxRecDepth 8000 in
theorem same1_ok (w : World) (x : Wd) : Rets Tryz.prog 75 [wv x, wv x] w (fun v w' => v = .bool true ∧ Ext w w') := by
  refine rets_of_ok Tryz.func75 rfl rfl ?_
  refine ok_seq (fun M hM => ok_region rfl ?_)
  repeat ((try first | (refine ofX3 hX ?_; clear hX X) | (refine ofX2 hX ?_; clear hX X)); (first|refine wpL_step (fun X hX=>?_)|refine wpH_step (fun X hX=>?_)|refine wpE_step (fun X hX=>?_)|refine wpL_end ?_|refine wpH_end ?_|refine wpE_end ?_); try simp only [zU, forall_const, reduceIte, Nat.reduceEqDiff, Nat.reduceAdd, reduceCtorEq, Q75])
  refine Runs.box (fun w1 he1 hz1 hb1 => ?_)
  generalize hB1 : w.heap.size = B1 at hz1 hb1
  simp only [Value.cells] at hb1
  repeat ((try first | (refine ofX3 hX ?_; clear hX X) | (refine ofX2 hX ?_; clear hX X)); (first|refine wpL_step (fun X hX=>?_)|refine wpH_step (fun X hX=>?_)|refine wpE_step (fun X hX=>?_)|refine wpL_end ?_|refine wpH_end ?_|refine wpE_end ?_); try simp only [zU, forall_const, reduceIte, Nat.reduceEqDiff, Nat.reduceAdd, reduceCtorEq, Q75])
  refine Runs.box (fun w2 he2 hz2 hb2 => ?_)
  generalize hB2 : w1.heap.size = B2 at hz2 hb2
  simp only [Value.cells] at hb2
  repeat ((try first | (refine ofX3 hX ?_; clear hX X) | (refine ofX2 hX ?_; clear hX X)); (first|refine wpL_step (fun X hX=>?_)|refine wpH_step (fun X hX=>?_)|refine wpE_step (fun X hX=>?_)|refine wpL_end ?_|refine wpH_end ?_|refine wpE_end ?_); try simp only [zU, forall_const, reduceIte, Nat.reduceEqDiff, Nat.reduceAdd, reduceCtorEq, Q75])
  refine hM _ _ _ ?_; clear hM M
  refine ok_seq (fun M hM => ok_region rfl ?_)
  repeat ((try first | (refine ofX3 hX ?_; clear hX X) | (refine ofX2 hX ?_; clear hX X)); (first|refine wpL_step (fun X hX=>?_)|refine wpH_step (fun X hX=>?_)|refine wpE_step (fun X hX=>?_)|refine wpL_end ?_|refine wpH_end ?_|refine wpE_end ?_); try simp only [zU, forall_const, reduceIte, Nat.reduceEqDiff, Nat.reduceAdd, reduceCtorEq, Q75])
  refine ⟨x.row, rfl, (hb1.ext he2).cells (o := 0) (fun j u hj => by simpa using hj), ?_⟩
  repeat ((try first | (refine ofX3 hX ?_; clear hX X) | (refine ofX2 hX ?_; clear hX X)); (first|refine wpL_step (fun X hX=>?_)|refine wpH_step (fun X hX=>?_)|refine wpE_step (fun X hX=>?_)|refine wpL_end ?_|refine wpH_end ?_|refine wpE_end ?_); try simp only [zU, forall_const, reduceIte, Nat.reduceEqDiff, Nat.reduceAdd, reduceCtorEq, Q75])
  refine ⟨x.row, rfl, hb2.cells (o := 0) (fun j u hj => by simpa using hj), ?_⟩
  repeat ((try first | (refine ofX3 hX ?_; clear hX X) | (refine ofX2 hX ?_; clear hX X)); (first|refine wpL_step (fun X hX=>?_)|refine wpH_step (fun X hX=>?_)|refine wpE_step (fun X hX=>?_)|refine wpL_end ?_|refine wpH_end ?_|refine wpE_end ?_); try simp only [zU, forall_const, reduceIte, Nat.reduceEqDiff, Nat.reduceAdd, reduceCtorEq, Q75])
  refine Runs.wdEq75 ?_
  repeat ((try first | (refine ofX3 hX ?_; clear hX X) | (refine ofX2 hX ?_; clear hX X)); (first|refine wpL_step (fun X hX=>?_)|refine wpH_step (fun X hX=>?_)|refine wpE_step (fun X hX=>?_)|refine wpL_end ?_|refine wpH_end ?_|refine wpE_end ?_); try simp only [zU, forall_const, reduceIte, Nat.reduceEqDiff, Nat.reduceAdd, reduceCtorEq, Q75])
  refine hM _ _ _ ?_; clear hM M
  refine ok_ret ?_
  exact ⟨rfl, by simp, he1.trans he2⟩

-- -- function 74
set_option maxHeartbeats 2000000 in
set_option maxRecDepth 8000 in
theorem eqFunc_ok (w : World) (u v : Value) (l : List Wd) (hu : SlW w u l) (hv : SlW w v l) : Rets Tryz.prog 74 [u, v, .func (.func 75) #[] #[]] w (fun r w' => r = .bool true ∧ Ext w w') := by
  obtain ⟨A, c, rfl, hlen, hcell⟩ := id hu
  obtain ⟨A', c', rfl, hlen', hcell'⟩ := id hv
  rw [wd_len] at hu hv hlen ⊢
  refine rets_of_ok Tryz.func74 rfl rfl ?_
  refine ok_seq (fun M hM => ok_region rfl ?_); repeat ((try first | (refine ofX3 hX ?_; clear hX X) | (refine ofX2 hX ?_; clear hX X)); (first|refine wpL_step (fun X hX=>?_)|refine wpH_step (fun X hX=>?_)|refine wpE_step (fun X hX=>?_)|refine wpL_end ?_|refine wpH_end ?_|refine wpE_end ?_); try simp only [zU, forall_const, reduceIte, Nat.reduceEqDiff, Nat.reduceAdd, reduceCtorEq, Q74])
  refine hM _ _ _ ?_; clear hM M
  refine ok_join [(0, .slice A l.length c), (1, .slice A' l.length c'), (2, .func (.func 75) #[] #[])] (fun w' => w' = w) ?_ ?_
  · refine ok_seq (fun M hM => ok_region rfl ?_); repeat ((try first | (refine ofX3 hX ?_; clear hX X) | (refine ofX2 hX ?_; clear hX X)); (first|refine wpL_step (fun X hX=>?_)|refine wpH_step (fun X hX=>?_)|refine wpE_step (fun X hX=>?_)|refine wpL_end ?_|refine wpH_end ?_|refine wpE_end ?_); try simp only [zU, forall_const, reduceIte, Nat.reduceEqDiff, Nat.reduceAdd, reduceCtorEq, Q74])
    refine hM _ _ _ ?_; clear hM M
    refine ok_cond rfl (fun h => ?_) (fun h => ok_skip ?_)
    · simp at h
    try simp only [zW, zU, reduceIte, Nat.reduceEqDiff, Nat.reduceAdd, reduceCtorEq, Q74]
    simp [sub, Env.get, argEnv]
  rintro w' rfl
  refine ok_seq (fun M0 hM0 => ?_)
  refine ok_seq (fun M hM => ok_region rfl ?_); repeat ((try first | (refine ofX3 hX ?_; clear hX X) | (refine ofX2 hX ?_; clear hX X)); (first|refine wpL_step (fun X hX=>?_)|refine wpH_step (fun X hX=>?_)|refine wpE_step (fun X hX=>?_)|refine wpL_end ?_|refine wpH_end ?_|refine wpE_end ?_); try simp only [zU, forall_const, reduceIte, Nat.reduceEqDiff, Nat.reduceAdd, reduceCtorEq, Q74])
  refine hM _ _ _ ?_; clear hM M
  refine ok_block ?_
  refine ok_loop (S := Nat) (fun i => [(1, .slice A' l.length c'), (2, .func (.func 75) #[] #[]), (15, .slice A l.length c), (16, .int .i64 (l.length : Int)), (17, .int .i64 (i : Int))]) (fun i w2 => Ext w' w2 ∧ i ≤ l.length) (fun i => l.length - i) 0 ?_ ?_ ?_
  · simp [sub, Env.get]
  · exact ⟨Ext.refl _, Nat.zero_le _⟩
  rintro i w2 ⟨he2, hi⟩
  refine ok_seq (fun M hM => ok_region rfl ?_); repeat ((try first | (refine ofX3 hX ?_; clear hX X) | (refine ofX2 hX ?_; clear hX X)); (first|refine wpL_step (fun X hX=>?_)|refine wpH_step (fun X hX=>?_)|refine wpE_step (fun X hX=>?_)|refine wpL_end ?_|refine wpH_end ?_|refine wpE_end ?_); try simp only [zU, forall_const, reduceIte, Nat.reduceEqDiff, Nat.reduceAdd, reduceCtorEq, Q74])
  refine hM _ _ _ ?_; clear hM M
  refine ok_seq (fun M1 hM1 => ?_)
  refine ok_if rfl (fun hc => ok_skip ?_) (fun hc => ok_exit ?_)
  rotate_left
  · try simp only [zW, zU, reduceIte, Nat.reduceEqDiff, Nat.reduceAdd, reduceCtorEq, Q74]
    refine hM0 _ _ _ ?_; clear hM0 M0 hM1 M1
    refine ok_seq (fun M hM => ok_region rfl ?_); repeat ((try first | (refine ofX3 hX ?_; clear hX X) | (refine ofX2 hX ?_; clear hX X)); (first|refine wpL_step (fun X hX=>?_)|refine wpH_step (fun X hX=>?_)|refine wpE_step (fun X hX=>?_)|refine wpL_end ?_|refine wpH_end ?_|refine wpE_end ?_); try simp only [zU, forall_const, reduceIte, Nat.reduceEqDiff, Nat.reduceAdd, reduceCtorEq, Q74])
    refine hM _ _ _ ?_; clear hM M
    refine ok_ret ?_
    try simp only [zW, zU, reduceIte, Nat.reduceEqDiff, Nat.reduceAdd, reduceCtorEq, Q74]
    exact he2
  try simp only [zW, zU, reduceIte, Nat.reduceEqDiff, Nat.reduceAdd, reduceCtorEq, Q74]
  refine hM1 _ _ _ ?_; clear hM1 M1
  have hil : i < l.length := by omega
  have hxi : l[i]? = some l[i] := List.getElem?_eq_getElem hil
  obtain ⟨b, o, hA, hcr⟩ := hcell i (l[i]).row (by simp [hxi])
  obtain ⟨b', o', hA', hcr'⟩ := hcell' i (l[i]).row (by simp [hxi])
  subst hA; subst hA'
  generalize l[i] = x at hxi hcr hcr'
  refine ok_seq (fun M1 hM1 => ok_block ?_)
  refine ok_seq (fun M hM => ok_region rfl ?_)
  repeat ((try first | (refine ofX3 hX ?_; clear hX X) | (refine ofX2 hX ?_; clear hX X)); (first|refine wpL_step (fun X hX=>?_)|refine wpH_step (fun X hX=>?_)|refine wpE_step (fun X hX=>?_)|refine wpL_end ?_|refine wpH_end ?_|refine wpE_end ?_); try simp only [zU, forall_const, reduceIte, Nat.reduceEqDiff, Nat.reduceAdd, reduceCtorEq, Q74])
  refine ⟨by omega, by omega, ?_⟩
  repeat ((try first | (refine ofX3 hX ?_; clear hX X) | (refine ofX2 hX ?_; clear hX X)); (first|refine wpL_step (fun X hX=>?_)|refine wpH_step (fun X hX=>?_)|refine wpE_step (fun X hX=>?_)|refine wpL_end ?_|refine wpH_end ?_|refine wpE_end ?_); try simp only [zU, forall_const, reduceIte, Nat.reduceEqDiff, Nat.reduceAdd, reduceCtorEq, Q74])
  refine ⟨x.row, rfl, he2.cellsAt hcr, ?_⟩
  repeat ((try first | (refine ofX3 hX ?_; clear hX X) | (refine ofX2 hX ?_; clear hX X)); (first|refine wpL_step (fun X hX=>?_)|refine wpH_step (fun X hX=>?_)|refine wpE_step (fun X hX=>?_)|refine wpL_end ?_|refine wpH_end ?_|refine wpE_end ?_); try simp only [zU, forall_const, reduceIte, Nat.reduceEqDiff, Nat.reduceAdd, reduceCtorEq, Q74])
  refine Runs.alloc Fx.zi38 (fun w3 he3 hz3 hb3 => ?_)
  generalize hB3 : w2.heap.size = B3 at hz3 hb3
  simp only [Value.cells] at hb3
  repeat ((try first | (refine ofX3 hX ?_; clear hX X) | (refine ofX2 hX ?_; clear hX X)); (first|refine wpL_step (fun X hX=>?_)|refine wpH_step (fun X hX=>?_)|refine wpE_step (fun X hX=>?_)|refine wpL_end ?_|refine wpH_end ?_|refine wpE_end ?_); try simp only [zU, forall_const, reduceIte, Nat.reduceEqDiff, Nat.reduceAdd, reduceCtorEq, Q74])
  refine Runs.store hb3 Fx.zi38 rfl (by intro u hu; simp [Value.cells, Wd.row] at hu; rcases hu with rfl | rfl | rfl <;> rfl) (by simp) (fun w4 hc4 hs4 hb4 => ?_)
  rw [splice_all _ _ (by simp [Value.cells])] at hb4
  simp only [Value.cells] at hb4
  have he4 : Ext w2 w4 := he3.chg_trans hc4 (fun i hi => by omega)
  repeat ((try first | (refine ofX3 hX ?_; clear hX X) | (refine ofX2 hX ?_; clear hX X)); (first|refine wpL_step (fun X hX=>?_)|refine wpH_step (fun X hX=>?_)|refine wpE_step (fun X hX=>?_)|refine wpL_end ?_|refine wpH_end ?_|refine wpE_end ?_); try simp only [zU, forall_const, reduceIte, Nat.reduceEqDiff, Nat.reduceAdd, reduceCtorEq, Q74])
  refine hM _ _ _ ?_; clear hM M
  refine ok_seq (fun M hM => ok_region rfl ?_)
  repeat ((try first | (refine ofX3 hX ?_; clear hX X) | (refine ofX2 hX ?_; clear hX X)); (first|refine wpL_step (fun X hX=>?_)|refine wpH_step (fun X hX=>?_)|refine wpE_step (fun X hX=>?_)|refine wpL_end ?_|refine wpH_end ?_|refine wpE_end ?_); try simp only [zU, forall_const, reduceIte, Nat.reduceEqDiff, Nat.reduceAdd, reduceCtorEq, Q74])
  refine ⟨by omega, by omega, ?_⟩
  repeat ((try first | (refine ofX3 hX ?_; clear hX X) | (refine ofX2 hX ?_; clear hX X)); (first|refine wpL_step (fun X hX=>?_)|refine wpH_step (fun X hX=>?_)|refine wpE_step (fun X hX=>?_)|refine wpL_end ?_|refine wpH_end ?_|refine wpE_end ?_); try simp only [zU, forall_const, reduceIte, Nat.reduceEqDiff, Nat.reduceAdd, reduceCtorEq, Q74])
  refine ⟨x.row, rfl, (he2.trans he4).cellsAt hcr', ?_⟩
  repeat ((try first | (refine ofX3 hX ?_; clear hX X) | (refine ofX2 hX ?_; clear hX X)); (first|refine wpL_step (fun X hX=>?_)|refine wpH_step (fun X hX=>?_)|refine wpE_step (fun X hX=>?_)|refine wpL_end ?_|refine wpH_end ?_|refine wpE_end ?_); try simp only [zU, forall_const, reduceIte, Nat.reduceEqDiff, Nat.reduceAdd, reduceCtorEq, Q74])
  refine Runs.alloc Fx.zi75 (fun w5 he5 hz5 hb5 => ?_)
  generalize hB5 : w4.heap.size = B5 at hz5 hb5
  simp only [Value.cells] at hb5
  repeat ((try first | (refine ofX3 hX ?_; clear hX X) | (refine ofX2 hX ?_; clear hX X)); (first|refine wpL_step (fun X hX=>?_)|refine wpH_step (fun X hX=>?_)|refine wpE_step (fun X hX=>?_)|refine wpL_end ?_|refine wpH_end ?_|refine wpE_end ?_); try simp only [zU, forall_const, reduceIte, Nat.reduceEqDiff, Nat.reduceAdd, reduceCtorEq, Q74])
  refine Runs.store hb5 Fx.zi75 rfl (by intro u hu; simp [Value.cells, Wd.row] at hu; rcases hu with rfl | rfl | rfl <;> rfl) (by simp) (fun w6 hc6 hs6 hb6 => ?_)
  rw [splice_all _ _ (by simp [Value.cells])] at hb6
  simp only [Value.cells] at hb6
  have he6 : Ext w4 w6 := he5.chg_trans hc6 (fun i hi => by omega)
  have he26 := he4.trans he6
  repeat ((try first | (refine ofX3 hX ?_; clear hX X) | (refine ofX2 hX ?_; clear hX X)); (first|refine wpL_step (fun X hX=>?_)|refine wpH_step (fun X hX=>?_)|refine wpE_step (fun X hX=>?_)|refine wpL_end ?_|refine wpH_end ?_|refine wpE_end ?_); try simp only [zU, forall_const, reduceIte, Nat.reduceEqDiff, Nat.reduceAdd, reduceCtorEq, Q74])
  refine hM _ _ _ ?_; clear hM M
  refine ok_seq (fun M hM => ok_region rfl ?_)
  repeat ((try first | (refine ofX3 hX ?_; clear hX X) | (refine ofX2 hX ?_; clear hX X)); (first|refine wpL_step (fun X hX=>?_)|refine wpH_step (fun X hX=>?_)|refine wpE_step (fun X hX=>?_)|refine wpL_end ?_|refine wpH_end ?_|refine wpE_end ?_); try simp only [zU, forall_const, reduceIte, Nat.reduceEqDiff, Nat.reduceAdd, reduceCtorEq, Q74])
  refine ⟨x.row, rfl, (hb4.ext he6).cells (o := 0) (fun j u hj => by simpa using hj), ?_⟩
  repeat ((try first | (refine ofX3 hX ?_; clear hX X) | (refine ofX2 hX ?_; clear hX X)); (first|refine wpL_step (fun X hX=>?_)|refine wpH_step (fun X hX=>?_)|refine wpE_step (fun X hX=>?_)|refine wpL_end ?_|refine wpH_end ?_|refine wpE_end ?_); try simp only [zU, forall_const, reduceIte, Nat.reduceEqDiff, Nat.reduceAdd, reduceCtorEq, Q74])
  refine ⟨x.row, rfl, hb6.cells (o := 0) (fun j u hj => by simpa using hj), ?_⟩
  repeat ((try first | (refine ofX3 hX ?_; clear hX X) | (refine ofX2 hX ?_; clear hX X)); (first|refine wpL_step (fun X hX=>?_)|refine wpH_step (fun X hX=>?_)|refine wpE_step (fun X hX=>?_)|refine wpL_end ?_|refine wpH_end ?_|refine wpE_end ?_); try simp only [zU, forall_const, reduceIte, Nat.reduceEqDiff, Nat.reduceAdd, reduceCtorEq, Q74])
  refine Inv.call Fx.en75 (same1_ok w6 x) ?_
  rintro r w7 ⟨rfl, he7⟩
  repeat ((try first | (refine ofX3 hX ?_; clear hX X) | (refine ofX2 hX ?_; clear hX X)); (first|refine wpL_step (fun X hX=>?_)|refine wpH_step (fun X hX=>?_)|refine wpE_step (fun X hX=>?_)|refine wpL_end ?_|refine wpH_end ?_|refine wpE_end ?_); try simp only [zU, forall_const, reduceIte, Nat.reduceEqDiff, Nat.reduceAdd, reduceCtorEq, Q74])
  refine hM _ _ _ ?_; clear hM M
  refine ok_cond (b := false) rfl (fun h => by cases h) (fun _ => ok_skip ?_)
  try simp only [zW, zU, reduceIte, Nat.reduceEqDiff, Nat.reduceAdd, reduceCtorEq, Q74]
  refine hM1 _ _ _ ?_; clear hM1 M1
  refine ok_region rfl ?_
  repeat ((try first | (refine ofX3 hX ?_; clear hX X) | (refine ofX2 hX ?_; clear hX X)); (first|refine wpL_step (fun X hX=>?_)|refine wpH_step (fun X hX=>?_)|refine wpE_step (fun X hX=>?_)|refine wpL_end ?_|refine wpH_end ?_|refine wpE_end ?_); try simp only [zU, forall_const, reduceIte, Nat.reduceEqDiff, Nat.reduceAdd, reduceCtorEq, Q74])
  refine ⟨by simp only [inI]; omega, ?_⟩
  repeat ((try first | (refine ofX3 hX ?_; clear hX X) | (refine ofX2 hX ?_; clear hX X)); (first|refine wpL_step (fun X hX=>?_)|refine wpH_step (fun X hX=>?_)|refine wpE_step (fun X hX=>?_)|refine wpL_end ?_|refine wpH_end ?_|refine wpE_end ?_); try simp only [zU, forall_const, reduceIte, Nat.reduceEqDiff, Nat.reduceAdd, reduceCtorEq, Q74])
  exact ⟨i + 1, by simp [sub, Env.get], ⟨(he2.trans he26).trans he7, by omega⟩, by omega⟩

-- -- function 32
set_option maxHeartbeats 1000000 in
set_option maxRecDepth 8000 in
theorem sameWords_ok (w : World) (u v : Value) (l : List Wd) (hu : SlW w u l) (hv : SlW w v l) : Rets Tryz.prog 32 [u, v] w (fun r w' => r = .bool true ∧ Ext w w') := by
  refine rets_of_ok Tryz.func32 rfl rfl ?_
  refine ok_seq (fun M hM => ok_region rfl ?_); repeat ((try first | (refine ofX3 hX ?_; clear hX X) | (refine ofX2 hX ?_; clear hX X)); (first|refine wpL_step (fun X hX=>?_)|refine wpH_step (fun X hX=>?_)|refine wpE_step (fun X hX=>?_)|refine wpL_end ?_|refine wpH_end ?_|refine wpE_end ?_); try simp only [zU, forall_const, reduceIte, Nat.reduceEqDiff, Nat.reduceAdd, reduceCtorEq, Q32])
  refine hM _ _ _ ?_; clear hM M
  refine ok_seq (fun M hM => ok_region rfl ?_)
  repeat ((try first | (refine ofX3 hX ?_; clear hX X) | (refine ofX2 hX ?_; clear hX X)); (first|refine wpL_step (fun X hX=>?_)|refine wpH_step (fun X hX=>?_)|refine wpE_step (fun X hX=>?_)|refine wpL_end ?_|refine wpH_end ?_|refine wpE_end ?_); try simp only [zU, forall_const, reduceIte, Nat.reduceEqDiff, Nat.reduceAdd, reduceCtorEq, Q32])
  refine Inv.call Fx.en74 (eqFunc_ok w u v l hu hv) ?_
  rintro r w' ⟨rfl, he⟩
  repeat ((try first | (refine ofX3 hX ?_; clear hX X) | (refine ofX2 hX ?_; clear hX X)); (first|refine wpL_step (fun X hX=>?_)|refine wpH_step (fun X hX=>?_)|refine wpE_step (fun X hX=>?_)|refine wpL_end ?_|refine wpH_end ?_|refine wpE_end ?_); try simp only [zU, forall_const, reduceIte, Nat.reduceEqDiff, Nat.reduceAdd, reduceCtorEq, Q32])
  refine hM _ _ _ ?_; clear hM M
  refine ok_ret ?_
  exact ⟨rfl, rfl, he⟩
end Go.Proofs.YtldeokfhipjbfaaGreatDoor
/- The law: what both heaps tell of words.  -/
set_option linter.unusedVariables false
set_option linter.unusedSimpArgs false
namespace Go.Proofs.YtldeokfhipjbfaaGreatDoor
open Go Go.Proofs.Vg Go.RowKit
structure Two (w : World) (hb rb qb mk : Nat) (H : List Ob) (F1 F2 : Nat → Prop) : Prop where
  hp : HeapW w hb rb H F1
  rp : RHeapW w qb H F2
  g : Glob w mk
theorem Two.ext {w w' : World} {hb rb qb mk : Nat} {H : List Ob} {F1 F2 : Nat → Prop} (h : Two w hb rb qb mk H F1 F2) (he : Ext w w') : Two w' hb rb qb mk H F1 F2 := ⟨h.hp.ext he, h.rp.ext he, h.g.ext he⟩

-- -- function 10
set_option maxHeartbeats 8000000 in
set_option maxRecDepth 16000 in
theorem asked_ok (w : World) (hb rb qb mk : Nat) (H : List Ob) (F1 F2 : Nat → Prop) (hT : Two w hb rb qb mk H F1 F2) (hl : H.length ≤ 1048576) (hG : GoodH H) (vh vr : Value) (l : List Wd) (hvh : SlW w vh l) (hvr : SlW w vr l) (hll : l.length ≤ 1048576) :
    Rets Tryz.prog 10 [ptrOf hb, ptrOf qb, .agg #[vh, vr]] w (fun v w' => v = .bool true ∧ Ext w w') := by
  have hLim := fun z => hG.lim.args z
  have hl30 : H.length ≤ 1073741824 := by omega
  obtain ⟨A, c, rfl, hlen, hcell⟩ := id hvh
  obtain ⟨A', c', rfl, hlen', hcell'⟩ := id hvr
  rw [wd_len] at hvh hvr hlen hlen' ⊢
  refine rets_of_ok Tryz.func10 rfl rfl ?_
  refine ok_seq (fun M hM => ok_region rfl ?_)
  repeat ((try first | (refine ofX3 hX ?_; clear hX X) | (refine ofX2 hX ?_; clear hX X)); (first|refine wpL_step (fun X hX=>?_)|refine wpH_step (fun X hX=>?_)|refine wpE_step (fun X hX=>?_)|refine wpL_end ?_|refine wpH_end ?_|refine wpE_end ?_); try simp only [zU, forall_const, reduceIte, Nat.reduceEqDiff, Nat.reduceAdd, reduceCtorEq, Q10])
  refine Runs.box (fun w1 he1 hz1 hb1 => ?_)
  generalize hB5 : w.heap.size = B5 at hz1 hb1
  simp only [Value.cells] at hb1
  repeat ((try first | (refine ofX3 hX ?_; clear hX X) | (refine ofX2 hX ?_; clear hX X)); (first|refine wpL_step (fun X hX=>?_)|refine wpH_step (fun X hX=>?_)|refine wpE_step (fun X hX=>?_)|refine wpL_end ?_|refine wpH_end ?_|refine wpE_end ?_); try simp only [zU, forall_const, reduceIte, Nat.reduceEqDiff, Nat.reduceAdd, reduceCtorEq, Q10])
  refine hM _ _ _ ?_; clear hM M
  have hz : ∀ W, Ext w1 W → Blk W B5 [.slice A l.length c, .slice A' l.length c'] 32 := fun W h => hb1.ext h
  refine ok_seq (fun M0 hM0 => ?_)
  refine ok_seq (fun M hM => ok_region rfl ?_)
  repeat ((try first | (refine ofX3 hX ?_; clear hX X) | (refine ofX2 hX ?_; clear hX X)); (first|refine wpL_step (fun X hX=>?_)|refine wpH_step (fun X hX=>?_)|refine wpE_step (fun X hX=>?_)|refine wpL_end ?_|refine wpH_end ?_|refine wpE_end ?_); try simp only [zU, forall_const, reduceIte, Nat.reduceEqDiff, Nat.reduceAdd, reduceCtorEq, Q10])
  refine ⟨_, hb1.cell (j := 0) rfl, ?_⟩
  repeat ((try first | (refine ofX3 hX ?_; clear hX X) | (refine ofX2 hX ?_; clear hX X)); (first|refine wpL_step (fun X hX=>?_)|refine wpH_step (fun X hX=>?_)|refine wpE_step (fun X hX=>?_)|refine wpL_end ?_|refine wpH_end ?_|refine wpE_end ?_); try simp only [zU, forall_const, reduceIte, Nat.reduceEqDiff, Nat.reduceAdd, reduceCtorEq, Q10])
  refine hM _ _ _ ?_; clear hM M
  refine ok_block ?_
  refine ok_loop (S := Nat) (fun i => [(0, ptrOf hb), (1, ptrOf qb), (5, ptrOf B5), (29, .slice A l.length c), (30, .int .i64 (l.length : Int)), (31, .int .i64 (i : Int))]) (fun i W => Ext w1 W ∧ i ≤ l.length) (fun i => l.length - i) 0 ?_ ?_ ?_
  · simp [sub, Env.get]
  · exact ⟨Ext.refl _, Nat.zero_le _⟩
  rintro i w2 ⟨he2, hi⟩
  refine ok_seq (fun M hM => ok_region rfl ?_); repeat ((try first | (refine ofX3 hX ?_; clear hX X) | (refine ofX2 hX ?_; clear hX X)); (first|refine wpL_step (fun X hX=>?_)|refine wpH_step (fun X hX=>?_)|refine wpE_step (fun X hX=>?_)|refine wpL_end ?_|refine wpH_end ?_|refine wpE_end ?_); try simp only [zU, forall_const, reduceIte, Nat.reduceEqDiff, Nat.reduceAdd, reduceCtorEq, Q10])
  refine hM _ _ _ ?_; clear hM M
  refine ok_seq (fun M1 hM1 => ?_)
  refine ok_if rfl (fun hc => ok_skip ?_) (fun hc => ok_exit ?_)
  rotate_left
  · try simp only [zW, zU, reduceIte, Nat.reduceEqDiff, Nat.reduceAdd, reduceCtorEq, Q10]
    refine hM0 _ _ _ ?_; clear hM0 M0 hM1 M1
    have he02 := he1.trans he2
    refine ok_seq (fun M hM => ok_region rfl ?_)
    repeat ((try first | (refine ofX3 hX ?_; clear hX X) | (refine ofX2 hX ?_; clear hX X)); (first|refine wpL_step (fun X hX=>?_)|refine wpH_step (fun X hX=>?_)|refine wpE_step (fun X hX=>?_)|refine wpL_end ?_|refine wpH_end ?_|refine wpE_end ?_); try simp only [zU, forall_const, reduceIte, Nat.reduceEqDiff, Nat.reduceAdd, reduceCtorEq, Q10])
    refine ⟨_, (hz _ he2).cell (j := 0) rfl, ?_⟩
    repeat ((try first | (refine ofX3 hX ?_; clear hX X) | (refine ofX2 hX ?_; clear hX X)); (first|refine wpL_step (fun X hX=>?_)|refine wpH_step (fun X hX=>?_)|refine wpE_step (fun X hX=>?_)|refine wpL_end ?_|refine wpH_end ?_|refine wpE_end ?_); try simp only [zU, forall_const, reduceIte, Nat.reduceEqDiff, Nat.reduceAdd, reduceCtorEq, Q10])
    refine Inv.call Fx.en14 (Reached_ok w2 hb rb H F1 (hT.hp.ext he02) hl hG.wf _ l (hvh.ext he02) (by omega)) ?_
    rintro v w3 ⟨hv1, hv2⟩
    generalize hn : (if l.any (fun x => !rightW H x) = true then (0 : Int) else ((collQ H l).length : Int)) = rn
    generalize hq : (if l.any (fun x => !rightW H x) = true then (2 : Int) else 0) = re
    have hv : v = .tuple #[.int .i64 rn, .int .i64 re] ∧ Ext w2 w3 := by
      rw [← hn, ← hq]
      cases hr : l.any (fun x => !rightW H x) with
      | true => have := hv1 hr; simpa using this
      | false => have := hv2 hr; simpa using this
    clear hv1 hv2
    obtain ⟨rfl, he3⟩ := hv
    repeat ((try first | (refine ofX3 hX ?_; clear hX X) | (refine ofX2 hX ?_; clear hX X)); (first|refine wpL_step (fun X hX=>?_)|refine wpH_step (fun X hX=>?_)|refine wpE_step (fun X hX=>?_)|refine wpL_end ?_|refine wpH_end ?_|refine wpE_end ?_); try simp only [zU, forall_const, reduceIte, Nat.reduceEqDiff, Nat.reduceAdd, reduceCtorEq, Q10])
    refine hM _ _ _ ?_; clear hM M
    have he13 := he2.trans he3
    have he03 := he1.trans he13
    refine ok_seq (fun M hM => ok_region rfl ?_)
    repeat ((try first | (refine ofX3 hX ?_; clear hX X) | (refine ofX2 hX ?_; clear hX X)); (first|refine wpL_step (fun X hX=>?_)|refine wpH_step (fun X hX=>?_)|refine wpE_step (fun X hX=>?_)|refine wpL_end ?_|refine wpH_end ?_|refine wpE_end ?_); try simp only [zU, forall_const, reduceIte, Nat.reduceEqDiff, Nat.reduceAdd, reduceCtorEq, Q10])
    refine ⟨_, (hz _ he13).cell (j := 1) rfl, ?_⟩
    repeat ((try first | (refine ofX3 hX ?_; clear hX X) | (refine ofX2 hX ?_; clear hX X)); (first|refine wpL_step (fun X hX=>?_)|refine wpH_step (fun X hX=>?_)|refine wpE_step (fun X hX=>?_)|refine wpL_end ?_|refine wpH_end ?_|refine wpE_end ?_); try simp only [zU, forall_const, reduceIte, Nat.reduceEqDiff, Nat.reduceAdd, reduceCtorEq, Q10])
    refine Inv.call Fx.en43 (rReached_ok w3 qb H F2 (hT.rp.ext he03) hl hG _ l (hvr.ext he03) hll) ?_
    rintro v w4 ⟨hv1, hv2⟩
    have hv : v = .tuple #[.int .i64 rn, .int .i64 re] ∧ Ext w3 w4 := by
      rw [← hn, ← hq]
      cases hr : l.any (fun x => !rightW H x) with
      | true => have := hv1 hr; simpa using this
      | false => have := hv2 hr; simpa using this
    clear hv1 hv2 hn hq
    obtain ⟨rfl, he4⟩ := hv
    have he04 := he03.trans he4
    repeat ((try first | (refine ofX3 hX ?_; clear hX X) | (refine ofX2 hX ?_; clear hX X)); (first|refine wpL_step (fun X hX=>?_)|refine wpH_step (fun X hX=>?_)|refine wpE_step (fun X hX=>?_)|refine wpL_end ?_|refine wpH_end ?_|refine wpE_end ?_); try simp only [zU, forall_const, reduceIte, Nat.reduceEqDiff, Nat.reduceAdd, reduceCtorEq, Q10])
    refine hM _ _ _ ?_; clear hM M
    refine ok_seq (fun M hM => ok_region rfl ?_)
    repeat ((try first | (refine ofX3 hX ?_; clear hX X) | (refine ofX2 hX ?_; clear hX X)); (first|refine wpL_step (fun X hX=>?_)|refine wpH_step (fun X hX=>?_)|refine wpE_step (fun X hX=>?_)|refine wpL_end ?_|refine wpH_end ?_|refine wpE_end ?_); try simp only [zU, forall_const, reduceIte, Nat.reduceEqDiff, Nat.reduceAdd, reduceCtorEq, Q10])
    refine Inv.call Fx.en16 (objects_ok w4 hb rb H F1 (hT.hp.ext he04) hl30) ?_
    rintro v w5 ⟨rfl, rfl⟩
    repeat ((try first | (refine ofX3 hX ?_; clear hX X) | (refine ofX2 hX ?_; clear hX X)); (first|refine wpL_step (fun X hX=>?_)|refine wpH_step (fun X hX=>?_)|refine wpE_step (fun X hX=>?_)|refine wpL_end ?_|refine wpH_end ?_|refine wpE_end ?_); try simp only [zU, forall_const, reduceIte, Nat.reduceEqDiff, Nat.reduceAdd, reduceCtorEq, Q10])
    refine Inv.call Fx.en44 (rObjects_ok w5 qb H F2 (hT.rp.ext he04)) ?_
    rintro v w6 ⟨rfl, rfl⟩
    repeat ((try first | (refine ofX3 hX ?_; clear hX X) | (refine ofX2 hX ?_; clear hX X)); (first|refine wpL_step (fun X hX=>?_)|refine wpH_step (fun X hX=>?_)|refine wpE_step (fun X hX=>?_)|refine wpL_end ?_|refine wpH_end ?_|refine wpE_end ?_); try simp only [zU, forall_const, reduceIte, Nat.reduceEqDiff, Nat.reduceAdd, reduceCtorEq, Q10])
    refine hM _ _ _ ?_; clear hM M
    refine ok_ret ?_
    exact ⟨rfl, by simp, he04⟩
  try simp only [zW, zU, reduceIte, Nat.reduceEqDiff, Nat.reduceAdd, reduceCtorEq, Q10]
  refine hM1 _ _ _ ?_; clear hM1 M1
  have hil : i < l.length := by omega
  have hxi : l[i]? = some l[i] := List.getElem?_eq_getElem hil
  have h0l : 0 < l.length := by omega
  have hx0 : l[0]? = some l[0] := List.getElem?_eq_getElem h0l
  obtain ⟨b, o, hA, hcr⟩ := hcell i (l[i]).row (by simp [hxi])
  obtain ⟨b', o', hA', hcr'⟩ := hcell' i (l[i]).row (by simp [hxi])
  obtain ⟨_, _, hAx, hc0⟩ := hcell 0 (l[0]).row (by simp [hx0])
  rw [hA] at hAx; cases hAx
  obtain ⟨_, _, hAx, hc0'⟩ := hcell' 0 (l[0]).row (by simp [hx0])
  rw [hA'] at hAx; cases hAx
  subst hA; subst hA'
  rw [Nat.zero_mul, Nat.add_zero] at hc0 hc0'
  generalize l[i] = x at hxi hcr hcr'
  generalize l[0] = x0 at hc0 hc0'
  clear hcell hcell' hx0
  have he02 := he1.trans he2
  refine ok_seq (fun M1 hM1 => ok_block ?_)
  refine ok_seq (fun M hM => ok_region rfl ?_)
  repeat ((try first | (refine ofX3 hX ?_; clear hX X) | (refine ofX2 hX ?_; clear hX X)); (first|refine wpL_step (fun X hX=>?_)|refine wpH_step (fun X hX=>?_)|refine wpE_step (fun X hX=>?_)|refine wpL_end ?_|refine wpH_end ?_|refine wpE_end ?_); try simp only [zU, forall_const, reduceIte, Nat.reduceEqDiff, Nat.reduceAdd, reduceCtorEq, Q10])
  refine ⟨by omega, by omega, ?_⟩
  repeat ((try first | (refine ofX3 hX ?_; clear hX X) | (refine ofX2 hX ?_; clear hX X)); (first|refine wpL_step (fun X hX=>?_)|refine wpH_step (fun X hX=>?_)|refine wpE_step (fun X hX=>?_)|refine wpL_end ?_|refine wpH_end ?_|refine wpE_end ?_); try simp only [zU, forall_const, reduceIte, Nat.reduceEqDiff, Nat.reduceAdd, reduceCtorEq, Q10])
  refine ⟨x.row, rfl, he02.cellsAt hcr, ?_⟩
  repeat ((try first | (refine ofX3 hX ?_; clear hX X) | (refine ofX2 hX ?_; clear hX X)); (first|refine wpL_step (fun X hX=>?_)|refine wpH_step (fun X hX=>?_)|refine wpE_step (fun X hX=>?_)|refine wpL_end ?_|refine wpH_end ?_|refine wpE_end ?_); try simp only [zU, forall_const, reduceIte, Nat.reduceEqDiff, Nat.reduceAdd, reduceCtorEq, Q10])
  refine Runs.alloc Fx.zi38 (fun w3 he3 hz3 hb3 => ?_)
  generalize hB8 : w2.heap.size = B8 at hz3 hb3
  simp only [Value.cells] at hb3
  repeat ((try first | (refine ofX3 hX ?_; clear hX X) | (refine ofX2 hX ?_; clear hX X)); (first|refine wpL_step (fun X hX=>?_)|refine wpH_step (fun X hX=>?_)|refine wpE_step (fun X hX=>?_)|refine wpL_end ?_|refine wpH_end ?_|refine wpE_end ?_); try simp only [zU, forall_const, reduceIte, Nat.reduceEqDiff, Nat.reduceAdd, reduceCtorEq, Q10])
  refine Runs.store hb3 Fx.zi38 rfl (by intro u hu; simp [Value.cells, Wd.row] at hu; rcases hu with rfl | rfl | rfl <;> rfl) (by simp) (fun w4 hc4 hs4 hb4 => ?_)
  rw [splice_all _ _ (by simp [Value.cells])] at hb4
  simp only [Value.cells] at hb4
  have he4 : Ext w2 w4 := he3.chg_trans hc4 (fun i hi => by omega)
  repeat ((try first | (refine ofX3 hX ?_; clear hX X) | (refine ofX2 hX ?_; clear hX X)); (first|refine wpL_step (fun X hX=>?_)|refine wpH_step (fun X hX=>?_)|refine wpE_step (fun X hX=>?_)|refine wpL_end ?_|refine wpH_end ?_|refine wpE_end ?_); try simp only [zU, forall_const, reduceIte, Nat.reduceEqDiff, Nat.reduceAdd, reduceCtorEq, Q10])
  refine hM _ _ _ ?_; clear hM M
  refine ok_seq (fun M hM => ok_region rfl ?_)
  repeat ((try first | (refine ofX3 hX ?_; clear hX X) | (refine ofX2 hX ?_; clear hX X)); (first|refine wpL_step (fun X hX=>?_)|refine wpH_step (fun X hX=>?_)|refine wpE_step (fun X hX=>?_)|refine wpL_end ?_|refine wpH_end ?_|refine wpE_end ?_); try simp only [zU, forall_const, reduceIte, Nat.reduceEqDiff, Nat.reduceAdd, reduceCtorEq, Q10])
  refine ⟨_, (hz _ (he2.trans he4)).cell (j := 1) rfl, ?_⟩
  repeat ((try first | (refine ofX3 hX ?_; clear hX X) | (refine ofX2 hX ?_; clear hX X)); (first|refine wpL_step (fun X hX=>?_)|refine wpH_step (fun X hX=>?_)|refine wpE_step (fun X hX=>?_)|refine wpL_end ?_|refine wpH_end ?_|refine wpE_end ?_); try simp only [zU, forall_const, reduceIte, Nat.reduceEqDiff, Nat.reduceAdd, reduceCtorEq, Q10])
  refine ⟨by omega, by omega, ?_⟩
  repeat ((try first | (refine ofX3 hX ?_; clear hX X) | (refine ofX2 hX ?_; clear hX X)); (first|refine wpL_step (fun X hX=>?_)|refine wpH_step (fun X hX=>?_)|refine wpE_step (fun X hX=>?_)|refine wpL_end ?_|refine wpH_end ?_|refine wpE_end ?_); try simp only [zU, forall_const, reduceIte, Nat.reduceEqDiff, Nat.reduceAdd, reduceCtorEq, Q10])
  refine ⟨x.row, rfl, (he02.trans he4).cellsAt hcr', ?_⟩
  repeat ((try first | (refine ofX3 hX ?_; clear hX X) | (refine ofX2 hX ?_; clear hX X)); (first|refine wpL_step (fun X hX=>?_)|refine wpH_step (fun X hX=>?_)|refine wpE_step (fun X hX=>?_)|refine wpL_end ?_|refine wpH_end ?_|refine wpE_end ?_); try simp only [zU, forall_const, reduceIte, Nat.reduceEqDiff, Nat.reduceAdd, reduceCtorEq, Q10])
  refine Runs.alloc Fx.zi75 (fun w5 he5 hz5 hb5 => ?_)
  generalize hB9 : w4.heap.size = B9 at hz5 hb5
  simp only [Value.cells] at hb5
  repeat ((try first | (refine ofX3 hX ?_; clear hX X) | (refine ofX2 hX ?_; clear hX X)); (first|refine wpL_step (fun X hX=>?_)|refine wpH_step (fun X hX=>?_)|refine wpE_step (fun X hX=>?_)|refine wpL_end ?_|refine wpH_end ?_|refine wpE_end ?_); try simp only [zU, forall_const, reduceIte, Nat.reduceEqDiff, Nat.reduceAdd, reduceCtorEq, Q10])
  refine Runs.store hb5 Fx.zi75 rfl (by intro u hu; simp [Value.cells, Wd.row] at hu; rcases hu with rfl | rfl | rfl <;> rfl) (by simp) (fun w6 hc6 hs6 hb6 => ?_)
  rw [splice_all _ _ (by simp [Value.cells])] at hb6
  simp only [Value.cells] at hb6
  have he6 : Ext w4 w6 := he5.chg_trans hc6 (fun i hi => by omega)
  repeat ((try first | (refine ofX3 hX ?_; clear hX X) | (refine ofX2 hX ?_; clear hX X)); (first|refine wpL_step (fun X hX=>?_)|refine wpH_step (fun X hX=>?_)|refine wpE_step (fun X hX=>?_)|refine wpL_end ?_|refine wpH_end ?_|refine wpE_end ?_); try simp only [zU, forall_const, reduceIte, Nat.reduceEqDiff, Nat.reduceAdd, reduceCtorEq, Q10])
  refine hM _ _ _ ?_; clear hM M
  have he06 := (he02.trans he4).trans he6
  have he16 := (he2.trans he4).trans he6
  have hx8 : ∀ W, Ext w6 W → cellsAt W ⟨B8, 0, none⟩ x.row := fun W h => (hb4.ext (he6.trans h)).cells (o := 0) (fun j u hj => by simpa using hj)
  have hx9 : ∀ W, Ext w6 W → cellsAt W ⟨B9, 0, none⟩ x.row := fun W h => (hb6.ext h).cells (o := 0) (fun j u hj => by simpa using hj)
  have hT6 := hT.ext he06
  have hLd : rightW H x = true → ringF H [x] = false → partsF H 100000 [x] ≤ 100000 → Lds H x (valO H x) := fun h1 h2 _ => valO_lds (ringF_reads hG h1 h2)
  -- Load
  refine ok_seq (fun M hM => ok_region rfl ?_)
  repeat ((try first | (refine ofX3 hX ?_; clear hX X) | (refine ofX2 hX ?_; clear hX X)); (first|refine wpL_step (fun X hX=>?_)|refine wpH_step (fun X hX=>?_)|refine wpE_step (fun X hX=>?_)|refine wpL_end ?_|refine wpH_end ?_|refine wpE_end ?_); try simp only [zU, forall_const, reduceIte, Nat.reduceEqDiff, Nat.reduceAdd, reduceCtorEq, Q10])
  refine ⟨x.row, rfl, hx8 _ (Ext.refl _), ?_⟩
  repeat ((try first | (refine ofX3 hX ?_; clear hX X) | (refine ofX2 hX ?_; clear hX X)); (first|refine wpL_step (fun X hX=>?_)|refine wpH_step (fun X hX=>?_)|refine wpE_step (fun X hX=>?_)|refine wpL_end ?_|refine wpH_end ?_|refine wpE_end ?_); try simp only [zU, forall_const, reduceIte, Nat.reduceEqDiff, Nat.reduceAdd, reduceCtorEq, Q10])
  refine Inv.call Fx.en13 (LoadS_ok hb rb H F1 hl30 hLim hG.wf mk (valO H x) x w6 hLd hT6.hp hT6.g) ?_
  rintro v w7 ⟨cs, rfl, hcsS, he7⟩
  have hcs := VRowS.row _ _ hcsS
  clear hcsS
  repeat ((try first | (refine ofX3 hX ?_; clear hX X) | (refine ofX2 hX ?_; clear hX X)); (first|refine wpL_step (fun X hX=>?_)|refine wpH_step (fun X hX=>?_)|refine wpE_step (fun X hX=>?_)|refine wpL_end ?_|refine wpH_end ?_|refine wpE_end ?_); try simp only [zU, forall_const, reduceIte, Nat.reduceEqDiff, Nat.reduceAdd, reduceCtorEq, Q10])
  refine Runs.alloc Fx.zi36 (fun w8 he8 hz8 hb8 => ?_)
  generalize hB10 : w7.heap.size = B10 at hz8 hb8
  simp only [Value.cells] at hb8
  repeat ((try first | (refine ofX3 hX ?_; clear hX X) | (refine ofX2 hX ?_; clear hX X)); (first|refine wpL_step (fun X hX=>?_)|refine wpH_step (fun X hX=>?_)|refine wpE_step (fun X hX=>?_)|refine wpL_end ?_|refine wpH_end ?_|refine wpE_end ?_); try simp only [zU, forall_const, reduceIte, Nat.reduceEqDiff, Nat.reduceAdd, reduceCtorEq, Q10])
  refine Runs.store hb8 Fx.zi36 (by simp [Value.cells, hcs.len]) (by intro u hu; simp [Value.cells] at hu; exact hcs.one u hu) (by simp [Value.cells, hcs.len]) (fun w9 hc9 hs9 hb9 => ?_)
  rw [splice_all _ _ (by simp [Value.cells, hcs.len])] at hb9
  simp only [Value.cells] at hb9
  have he79 : Ext w7 w9 := he8.chg_trans hc9 (fun i hi => by omega)
  have he69 := he7.trans he79
  repeat ((try first | (refine ofX3 hX ?_; clear hX X) | (refine ofX2 hX ?_; clear hX X)); (first|refine wpL_step (fun X hX=>?_)|refine wpH_step (fun X hX=>?_)|refine wpE_step (fun X hX=>?_)|refine wpL_end ?_|refine wpH_end ?_|refine wpE_end ?_); try simp only [zU, forall_const, reduceIte, Nat.reduceEqDiff, Nat.reduceAdd, reduceCtorEq, Q10])
  refine hM _ _ _ ?_; clear hM M
  refine ok_seq (fun M hM => ok_region rfl ?_)
  repeat ((try first | (refine ofX3 hX ?_; clear hX X) | (refine ofX2 hX ?_; clear hX X)); (first|refine wpL_step (fun X hX=>?_)|refine wpH_step (fun X hX=>?_)|refine wpE_step (fun X hX=>?_)|refine wpL_end ?_|refine wpH_end ?_|refine wpE_end ?_); try simp only [zU, forall_const, reduceIte, Nat.reduceEqDiff, Nat.reduceAdd, reduceCtorEq, Q10])
  refine ⟨x.row, rfl, hx9 _ he69, ?_⟩
  repeat ((try first | (refine ofX3 hX ?_; clear hX X) | (refine ofX2 hX ?_; clear hX X)); (first|refine wpL_step (fun X hX=>?_)|refine wpH_step (fun X hX=>?_)|refine wpE_step (fun X hX=>?_)|refine wpL_end ?_|refine wpH_end ?_|refine wpE_end ?_); try simp only [zU, forall_const, reduceIte, Nat.reduceEqDiff, Nat.reduceAdd, reduceCtorEq, Q10])
  refine Inv.call Fx.en33 (rLoad_ok w9 qb H F2 (hT6.ext he69).rp hl hG x) ?_
  rintro v w10 ⟨cs', rfl, hcsS, he10⟩
  have hcs' := VRowS.row _ _ hcsS
  clear hcsS
  repeat ((try first | (refine ofX3 hX ?_; clear hX X) | (refine ofX2 hX ?_; clear hX X)); (first|refine wpL_step (fun X hX=>?_)|refine wpH_step (fun X hX=>?_)|refine wpE_step (fun X hX=>?_)|refine wpL_end ?_|refine wpH_end ?_|refine wpE_end ?_); try simp only [zU, forall_const, reduceIte, Nat.reduceEqDiff, Nat.reduceAdd, reduceCtorEq, Q10])
  refine Runs.alloc Fx.zi36 (fun w11 he11 hz11 hb11 => ?_)
  generalize hB12 : w10.heap.size = B12 at hz11 hb11
  simp only [Value.cells] at hb11
  repeat ((try first | (refine ofX3 hX ?_; clear hX X) | (refine ofX2 hX ?_; clear hX X)); (first|refine wpL_step (fun X hX=>?_)|refine wpH_step (fun X hX=>?_)|refine wpE_step (fun X hX=>?_)|refine wpL_end ?_|refine wpH_end ?_|refine wpE_end ?_); try simp only [zU, forall_const, reduceIte, Nat.reduceEqDiff, Nat.reduceAdd, reduceCtorEq, Q10])
  refine Runs.store hb11 Fx.zi36 (by simp [Value.cells, hcs'.len]) (by intro u hu; simp [Value.cells] at hu; exact hcs'.one u hu) (by simp [Value.cells, hcs'.len]) (fun w12 hc12 hs12 hb12 => ?_)
  rw [splice_all _ _ (by simp [Value.cells, hcs'.len])] at hb12
  simp only [Value.cells] at hb12
  have he1012 : Ext w10 w12 := he11.chg_trans hc12 (fun i hi => by omega)
  repeat ((try first | (refine ofX3 hX ?_; clear hX X) | (refine ofX2 hX ?_; clear hX X)); (first|refine wpL_step (fun X hX=>?_)|refine wpH_step (fun X hX=>?_)|refine wpE_step (fun X hX=>?_)|refine wpL_end ?_|refine wpH_end ?_|refine wpE_end ?_); try simp only [zU, forall_const, reduceIte, Nat.reduceEqDiff, Nat.reduceAdd, reduceCtorEq, Q10])
  refine hM _ _ _ ?_; clear hM M
  have he912 := he10.trans he1012
  have he612 := he69.trans he912
  generalize hu : (if errL H x = 0 then valO H x else zeroVal) = u at hcs hcs'
  -- Args
  refine ok_seq (fun M hM => ok_region rfl ?_)
  repeat ((try first | (refine ofX3 hX ?_; clear hX X) | (refine ofX2 hX ?_; clear hX X)); (first|refine wpL_step (fun X hX=>?_)|refine wpH_step (fun X hX=>?_)|refine wpE_step (fun X hX=>?_)|refine wpL_end ?_|refine wpH_end ?_|refine wpE_end ?_); try simp only [zU, forall_const, reduceIte, Nat.reduceEqDiff, Nat.reduceAdd, reduceCtorEq, Q10])
  refine ⟨x.row, rfl, hx8 _ he612, ?_⟩
  repeat ((try first | (refine ofX3 hX ?_; clear hX X) | (refine ofX2 hX ?_; clear hX X)); (first|refine wpL_step (fun X hX=>?_)|refine wpH_step (fun X hX=>?_)|refine wpE_step (fun X hX=>?_)|refine wpL_end ?_|refine wpH_end ?_|refine wpE_end ?_); try simp only [zU, forall_const, reduceIte, Nat.reduceEqDiff, Nat.reduceAdd, reduceCtorEq, Q10])
  refine Inv.call Fx.en34 (ArgsW_ok w12 hb rb H F1 (hT6.ext he612).hp hl30 hG.lim x) ?_
  rintro v w13 ⟨A3, c3, rfl, hs3, he13⟩
  repeat ((try first | (refine ofX3 hX ?_; clear hX X) | (refine ofX2 hX ?_; clear hX X)); (first|refine wpL_step (fun X hX=>?_)|refine wpH_step (fun X hX=>?_)|refine wpE_step (fun X hX=>?_)|refine wpL_end ?_|refine wpH_end ?_|refine wpE_end ?_); try simp only [zU, forall_const, reduceIte, Nat.reduceEqDiff, Nat.reduceAdd, reduceCtorEq, Q10])
  refine hM _ _ _ ?_; clear hM M
  have he613 := he612.trans he13
  refine ok_seq (fun M hM => ok_region rfl ?_)
  repeat ((try first | (refine ofX3 hX ?_; clear hX X) | (refine ofX2 hX ?_; clear hX X)); (first|refine wpL_step (fun X hX=>?_)|refine wpH_step (fun X hX=>?_)|refine wpE_step (fun X hX=>?_)|refine wpL_end ?_|refine wpH_end ?_|refine wpE_end ?_); try simp only [zU, forall_const, reduceIte, Nat.reduceEqDiff, Nat.reduceAdd, reduceCtorEq, Q10])
  refine ⟨x.row, rfl, hx9 _ he613, ?_⟩
  repeat ((try first | (refine ofX3 hX ?_; clear hX X) | (refine ofX2 hX ?_; clear hX X)); (first|refine wpL_step (fun X hX=>?_)|refine wpH_step (fun X hX=>?_)|refine wpE_step (fun X hX=>?_)|refine wpL_end ?_|refine wpH_end ?_|refine wpE_end ?_); try simp only [zU, forall_const, reduceIte, Nat.reduceEqDiff, Nat.reduceAdd, reduceCtorEq, Q10])
  refine Inv.call Fx.en35 (rArgs_ok w13 qb H F2 (hT6.ext he613).rp hl30 hG.lim x) ?_
  rintro v w14 ⟨A4, c4, rfl, hs4', he14⟩
  repeat ((try first | (refine ofX3 hX ?_; clear hX X) | (refine ofX2 hX ?_; clear hX X)); (first|refine wpL_step (fun X hX=>?_)|refine wpH_step (fun X hX=>?_)|refine wpE_step (fun X hX=>?_)|refine wpL_end ?_|refine wpH_end ?_|refine wpE_end ?_); try simp only [zU, forall_const, reduceIte, Nat.reduceEqDiff, Nat.reduceAdd, reduceCtorEq, Q10])
  refine hM _ _ _ ?_; clear hM M
  have he614 := he613.trans he14
  -- String
  refine ok_seq (fun M hM => ok_region rfl ?_)
  repeat ((try first | (refine ofX3 hX ?_; clear hX X) | (refine ofX2 hX ?_; clear hX X)); (first|refine wpL_step (fun X hX=>?_)|refine wpH_step (fun X hX=>?_)|refine wpE_step (fun X hX=>?_)|refine wpL_end ?_|refine wpH_end ?_|refine wpE_end ?_); try simp only [zU, forall_const, reduceIte, Nat.reduceEqDiff, Nat.reduceAdd, reduceCtorEq, Q10])
  refine ⟨x.row, rfl, hx8 _ he614, ?_⟩
  repeat ((try first | (refine ofX3 hX ?_; clear hX X) | (refine ofX2 hX ?_; clear hX X)); (first|refine wpL_step (fun X hX=>?_)|refine wpH_step (fun X hX=>?_)|refine wpE_step (fun X hX=>?_)|refine wpL_end ?_|refine wpH_end ?_|refine wpE_end ?_); try simp only [zU, forall_const, reduceIte, Nat.reduceEqDiff, Nat.reduceAdd, reduceCtorEq, Q10])
  refine Inv.call Fx.en36 (StringW_ok w14 hb rb H F1 (hT6.ext he614).hp hl30 x) ?_
  rintro v w15 ⟨rfl, he15⟩
  repeat ((try first | (refine ofX3 hX ?_; clear hX X) | (refine ofX2 hX ?_; clear hX X)); (first|refine wpL_step (fun X hX=>?_)|refine wpH_step (fun X hX=>?_)|refine wpE_step (fun X hX=>?_)|refine wpL_end ?_|refine wpH_end ?_|refine wpE_end ?_); try simp only [zU, forall_const, reduceIte, Nat.reduceEqDiff, Nat.reduceAdd, reduceCtorEq, Q10])
  refine hM _ _ _ ?_; clear hM M
  have he615 := he614.trans he15
  refine ok_seq (fun M hM => ok_region rfl ?_)
  repeat ((try first | (refine ofX3 hX ?_; clear hX X) | (refine ofX2 hX ?_; clear hX X)); (first|refine wpL_step (fun X hX=>?_)|refine wpH_step (fun X hX=>?_)|refine wpE_step (fun X hX=>?_)|refine wpL_end ?_|refine wpH_end ?_|refine wpE_end ?_); try simp only [zU, forall_const, reduceIte, Nat.reduceEqDiff, Nat.reduceAdd, reduceCtorEq, Q10])
  refine ⟨x.row, rfl, hx9 _ he615, ?_⟩
  repeat ((try first | (refine ofX3 hX ?_; clear hX X) | (refine ofX2 hX ?_; clear hX X)); (first|refine wpL_step (fun X hX=>?_)|refine wpH_step (fun X hX=>?_)|refine wpE_step (fun X hX=>?_)|refine wpL_end ?_|refine wpH_end ?_|refine wpE_end ?_); try simp only [zU, forall_const, reduceIte, Nat.reduceEqDiff, Nat.reduceAdd, reduceCtorEq, Q10])
  refine Inv.call Fx.en37 (rString_ok w15 qb H F2 (hT6.ext he615).rp hl30 x) ?_
  rintro v w16 ⟨rfl, he16'⟩
  repeat ((try first | (refine ofX3 hX ?_; clear hX X) | (refine ofX2 hX ?_; clear hX X)); (first|refine wpL_step (fun X hX=>?_)|refine wpH_step (fun X hX=>?_)|refine wpE_step (fun X hX=>?_)|refine wpL_end ?_|refine wpH_end ?_|refine wpE_end ?_); try simp only [zU, forall_const, reduceIte, Nat.reduceEqDiff, Nat.reduceAdd, reduceCtorEq, Q10])
  refine hM _ _ _ ?_; clear hM M
  have he616 := he615.trans he16'
  have hT16 := hT6.ext he616
  have hcs16 : ∀ W, Ext w16 W → VRow W cs u := fun W h => VRow.ext ((he79.trans he912).trans ((he13.trans (he14.trans (he15.trans he16'))).trans h)) _ _ hcs
  have hcs16' : ∀ W, Ext w16 W → VRow W cs' u := fun W h => VRow.ext (he1012.trans ((he13.trans (he14.trans (he15.trans he16'))).trans h)) _ _ hcs'
  have hb10 : ∀ W, Ext w16 W → cellsAt W ⟨B10, 0, none⟩ cs := fun W h => (hb9.ext (he912.trans ((he13.trans (he14.trans (he15.trans he16'))).trans h))).cells (o := 0) (fun j u hj => by simpa using hj)
  have hb12' : ∀ W, Ext w16 W → cellsAt W ⟨B12, 0, none⟩ cs' := fun W h => (hb12.ext ((he13.trans (he14.trans (he15.trans he16'))).trans h)).cells (o := 0) (fun j u hj => by simpa using hj)
  have hl4 := hcs.len
  have hl4' := hcs'.len
  refine ok_join [(0, ptrOf hb), (1, ptrOf qb), (5, ptrOf B5), (8, ptrOf B8), (9, ptrOf B9), (29, .slice (some ⟨b, o, none⟩) l.length c), (30, .int .i64 (l.length : Int)), (31, .int .i64 (i : Int))] (fun W => Ext w16 W) ?_ ?_
  · refine ok_seq (fun M hM => ?_)
    refine (ok_draw 48 [] (Ext _) Fx.mixed (by decide) rfl (by decide +kernel) (by decide +kernel) (Ext.drew _) ?_)
    repeat ((try first | (refine ofX3 hX ?_; clear hX X) | (refine ofX2 hX ?_; clear hX X)); (first|refine wpL_step (fun X hX=>?_)|refine wpH_step (fun X hX=>?_)|refine wpE_step (fun X hX=>?_)|refine wpL_end ?_|refine wpH_end ?_|refine wpE_end ?_); try simp only [zU, forall_const, reduceIte, Nat.reduceEqDiff, Nat.reduceAdd, reduceCtorEq, Q10])
    refine ⟨x.row, rfl, fun W h => hx8 W (he616.trans h), ?_⟩
    repeat ((try first | (refine ofX3 hX ?_; clear hX X) | (refine ofX2 hX ?_; clear hX X)); (first|refine wpL_step (fun X hX=>?_)|refine wpH_step (fun X hX=>?_)|refine wpE_step (fun X hX=>?_)|refine wpL_end ?_|refine wpH_end ?_|refine wpE_end ?_); try simp only [zU, forall_const, reduceIte, Nat.reduceEqDiff, Nat.reduceAdd, reduceCtorEq, Q10])
    refine ⟨.bool (rightW H x), fun W h => Inv.call Fx.en12 (right_ok W hb rb H F1 (hT16.ext h).hp hl30 x) (fun v w' ⟨h1, h2⟩ => ⟨h1, h.trans h2⟩), ?_⟩
    repeat ((try first | (refine ofX3 hX ?_; clear hX X) | (refine ofX2 hX ?_; clear hX X)); (first|refine wpL_step (fun X hX=>?_)|refine wpH_step (fun X hX=>?_)|refine wpE_step (fun X hX=>?_)|refine wpL_end ?_|refine wpH_end ?_|refine wpE_end ?_); try simp only [zU, forall_const, reduceIte, Nat.reduceEqDiff, Nat.reduceAdd, reduceCtorEq, Q10])
    refine ⟨x.row, rfl, fun W h => hx9 W (he616.trans h), ?_⟩
    repeat ((try first | (refine ofX3 hX ?_; clear hX X) | (refine ofX2 hX ?_; clear hX X)); (first|refine wpL_step (fun X hX=>?_)|refine wpH_step (fun X hX=>?_)|refine wpE_step (fun X hX=>?_)|refine wpL_end ?_|refine wpH_end ?_|refine wpE_end ?_); try simp only [zU, forall_const, reduceIte, Nat.reduceEqDiff, Nat.reduceAdd, reduceCtorEq, Q10])
    refine ⟨.bool (rightW H x), fun W h => Inv.call Fx.en38 (rright_ok W qb H F2 (hT16.ext h).rp hl30 x) (fun v w' ⟨h1, h2⟩ => ⟨h1, h.trans h2⟩), ?_⟩
    repeat ((try first | (refine ofX3 hX ?_; clear hX X) | (refine ofX2 hX ?_; clear hX X)); (first|refine wpL_step (fun X hX=>?_)|refine wpH_step (fun X hX=>?_)|refine wpE_step (fun X hX=>?_)|refine wpL_end ?_|refine wpH_end ?_|refine wpE_end ?_); try simp only [zU, forall_const, reduceIte, Nat.reduceEqDiff, Nat.reduceAdd, reduceCtorEq, Q10])
    refine ⟨x.row, rfl, fun W h => hx8 W (he616.trans h), ?_⟩
    repeat ((try first | (refine ofX3 hX ?_; clear hX X) | (refine ofX2 hX ?_; clear hX X)); (first|refine wpL_step (fun X hX=>?_)|refine wpH_step (fun X hX=>?_)|refine wpE_step (fun X hX=>?_)|refine wpL_end ?_|refine wpH_end ?_|refine wpE_end ?_); try simp only [zU, forall_const, reduceIte, Nat.reduceEqDiff, Nat.reduceAdd, reduceCtorEq, Q10])
    refine ⟨.int .i64 (if rightW H x = true then (partsF H 100000 [x] : Int) else 0), fun W h => Inv.call Fx.en39 (parts_ok W hb rb H F1 (hT16.ext h).hp hl30 hLim x) (fun v w' ⟨h1, h2⟩ => ⟨h1, h.trans h2⟩), ?_⟩
    repeat ((try first | (refine ofX3 hX ?_; clear hX X) | (refine ofX2 hX ?_; clear hX X)); (first|refine wpL_step (fun X hX=>?_)|refine wpH_step (fun X hX=>?_)|refine wpE_step (fun X hX=>?_)|refine wpL_end ?_|refine wpH_end ?_|refine wpE_end ?_); try simp only [zU, forall_const, reduceIte, Nat.reduceEqDiff, Nat.reduceAdd, reduceCtorEq, Q10])
    refine ⟨x.row, rfl, fun W h => hx9 W (he616.trans h), ?_⟩
    repeat ((try first | (refine ofX3 hX ?_; clear hX X) | (refine ofX2 hX ?_; clear hX X)); (first|refine wpL_step (fun X hX=>?_)|refine wpH_step (fun X hX=>?_)|refine wpE_step (fun X hX=>?_)|refine wpL_end ?_|refine wpH_end ?_|refine wpE_end ?_); try simp only [zU, forall_const, reduceIte, Nat.reduceEqDiff, Nat.reduceAdd, reduceCtorEq, Q10])
    refine ⟨.int .i64 (if rightW H x = true then (partsF H 100000 [x] : Int) else 0), fun W h => Inv.call Fx.en40 (rParts_ok W qb H F2 (hT16.ext h).rp hl30 hG x) (fun v w' ⟨h1, h2⟩ => ⟨h1, h.trans h2⟩), ?_⟩
    repeat ((try first | (refine ofX3 hX ?_; clear hX X) | (refine ofX2 hX ?_; clear hX X)); (first|refine wpL_step (fun X hX=>?_)|refine wpH_step (fun X hX=>?_)|refine wpE_step (fun X hX=>?_)|refine wpL_end ?_|refine wpH_end ?_|refine wpE_end ?_); try simp only [zU, forall_const, reduceIte, Nat.reduceEqDiff, Nat.reduceAdd, reduceCtorEq, Q10])
    refine ⟨cs, hl4, fun W h => hb10 W h, ?_⟩
    repeat ((try first | (refine ofX3 hX ?_; clear hX X) | (refine ofX2 hX ?_; clear hX X)); (first|refine wpL_step (fun X hX=>?_)|refine wpH_step (fun X hX=>?_)|refine wpE_step (fun X hX=>?_)|refine wpL_end ?_|refine wpH_end ?_|refine wpE_end ?_); try simp only [zU, forall_const, reduceIte, Nat.reduceEqDiff, Nat.reduceAdd, reduceCtorEq, Q10])
    refine ⟨cs', hl4', fun W h => hb12' W h, ?_⟩
    repeat ((try first | (refine ofX3 hX ?_; clear hX X) | (refine ofX2 hX ?_; clear hX X)); (first|refine wpL_step (fun X hX=>?_)|refine wpH_step (fun X hX=>?_)|refine wpE_step (fun X hX=>?_)|refine wpL_end ?_|refine wpH_end ?_|refine wpE_end ?_); try simp only [zU, forall_const, reduceIte, Nat.reduceEqDiff, Nat.reduceAdd, reduceCtorEq, Q10])
    refine ⟨.bool true, fun W h => Inv.call Fx.en17 (equal_ok _ u u W cs cs' (Nat.le_refl _) (hcs16 W h) (hcs16' W h)) (fun v w' ⟨h1, h2⟩ => ⟨by rw [h1, eqV_refl _ u (Nat.le_refl _)], h.trans h2⟩), ?_⟩
    repeat ((try first | (refine ofX3 hX ?_; clear hX X) | (refine ofX2 hX ?_; clear hX X)); (first|refine wpL_step (fun X hX=>?_)|refine wpH_step (fun X hX=>?_)|refine wpE_step (fun X hX=>?_)|refine wpL_end ?_|refine wpH_end ?_|refine wpE_end ?_); try simp only [zU, forall_const, reduceIte, Nat.reduceEqDiff, Nat.reduceAdd, reduceCtorEq, Q10])
    refine ⟨.bool true, fun W h => Inv.call Fx.en32 (sameWords_ok W _ _ (argsR H x) (hs3.ext ((he14.trans (he15.trans he16')).trans h)) (hs4'.ext ((he15.trans he16').trans h))) (fun v w' ⟨h1, h2⟩ => ⟨h1, h.trans h2⟩), ?_⟩
    repeat ((try first | (refine ofX3 hX ?_; clear hX X) | (refine ofX2 hX ?_; clear hX X)); (first|refine wpL_step (fun X hX=>?_)|refine wpH_step (fun X hX=>?_)|refine wpE_step (fun X hX=>?_)|refine wpL_end ?_|refine wpH_end ?_|refine wpE_end ?_); try simp only [zU, forall_const, reduceIte, Nat.reduceEqDiff, Nat.reduceAdd, reduceCtorEq, Q10])
    intro w17 he17
    repeat ((try first | (refine ofX3 hX ?_; clear hX X) | (refine ofX2 hX ?_; clear hX X)); (first|refine wpL_step (fun X hX=>?_)|refine wpH_step (fun X hX=>?_)|refine wpE_step (fun X hX=>?_)|refine wpL_end ?_|refine wpH_end ?_|refine wpE_end ?_); try simp only [zU, forall_const, reduceIte, Nat.reduceEqDiff, Nat.reduceAdd, reduceCtorEq, Q10])
    refine hM _ _ _ ?_; clear hM M
    refine ok_cond (b := false) rfl (fun h => by cases h) (fun _ => ok_skip ?_)
    exact ⟨rfl, by simp [sub, Env.get], he17⟩
  intro w17 he17
  have he617 := he616.trans he17
  have he117 := he16.trans he617
  refine ok_seq (fun M hM => ?_)
  refine (ok_draw 12 [] (Ext _) Fx.mixed (by decide) rfl (by decide +kernel) (by decide +kernel) (Ext.drew _) ?_)
  repeat ((try first | (refine ofX3 hX ?_; clear hX X) | (refine ofX2 hX ?_; clear hX X)); (first|refine wpL_step (fun X hX=>?_)|refine wpH_step (fun X hX=>?_)|refine wpE_step (fun X hX=>?_)|refine wpL_end ?_|refine wpH_end ?_|refine wpE_end ?_); try simp only [zU, forall_const, reduceIte, Nat.reduceEqDiff, Nat.reduceAdd, reduceCtorEq, Q10])
  refine ⟨_, fun W h => (hz W (he117.trans h)).cell (j := 0) rfl, ?_⟩
  repeat ((try first | (refine ofX3 hX ?_; clear hX X) | (refine ofX2 hX ?_; clear hX X)); (first|refine wpL_step (fun X hX=>?_)|refine wpH_step (fun X hX=>?_)|refine wpE_step (fun X hX=>?_)|refine wpL_end ?_|refine wpH_end ?_|refine wpE_end ?_); try simp only [zU, forall_const, reduceIte, Nat.reduceEqDiff, Nat.reduceAdd, reduceCtorEq, Q10])
  refine ⟨by omega, by omega, ?_⟩
  repeat ((try first | (refine ofX3 hX ?_; clear hX X) | (refine ofX2 hX ?_; clear hX X)); (first|refine wpL_step (fun X hX=>?_)|refine wpH_step (fun X hX=>?_)|refine wpE_step (fun X hX=>?_)|refine wpL_end ?_|refine wpH_end ?_|refine wpE_end ?_); try simp only [zU, forall_const, reduceIte, Nat.reduceEqDiff, Nat.reduceAdd, reduceCtorEq, Q10])
  refine ⟨x0.row, rfl, fun W h => by simpa using ((he06.trans he617).trans h).cellsAt hc0, ?_⟩
  repeat ((try first | (refine ofX3 hX ?_; clear hX X) | (refine ofX2 hX ?_; clear hX X)); (first|refine wpL_step (fun X hX=>?_)|refine wpH_step (fun X hX=>?_)|refine wpE_step (fun X hX=>?_)|refine wpL_end ?_|refine wpH_end ?_|refine wpE_end ?_); try simp only [zU, forall_const, reduceIte, Nat.reduceEqDiff, Nat.reduceAdd, reduceCtorEq, Q10])
  refine ⟨x.row, rfl, fun W h => hx8 W (he617.trans h), ?_⟩
  repeat ((try first | (refine ofX3 hX ?_; clear hX X) | (refine ofX2 hX ?_; clear hX X)); (first|refine wpL_step (fun X hX=>?_)|refine wpH_step (fun X hX=>?_)|refine wpE_step (fun X hX=>?_)|refine wpL_end ?_|refine wpH_end ?_|refine wpE_end ?_); try simp only [zU, forall_const, reduceIte, Nat.reduceEqDiff, Nat.reduceAdd, reduceCtorEq, Q10])
  refine ⟨.tuple #[.int .i64 (cmpR H x0 x), .int .i64 (cmpE H x0 x)], fun W h => Inv.call Fx.en41 (CompareW_ok W hb rb H F1 (hT6.ext (he617.trans h)).hp hl30 hG mk (hT6.ext (he617.trans h)).g x0 x) (fun v w' ⟨h1, h2⟩ => ⟨h1, h.trans h2⟩), ?_⟩
  repeat ((try first | (refine ofX3 hX ?_; clear hX X) | (refine ofX2 hX ?_; clear hX X)); (first|refine wpL_step (fun X hX=>?_)|refine wpH_step (fun X hX=>?_)|refine wpE_step (fun X hX=>?_)|refine wpL_end ?_|refine wpH_end ?_|refine wpE_end ?_); try simp only [zU, forall_const, reduceIte, Nat.reduceEqDiff, Nat.reduceAdd, reduceCtorEq, Q10])
  intro w18 he18
  repeat ((try first | (refine ofX3 hX ?_; clear hX X) | (refine ofX2 hX ?_; clear hX X)); (first|refine wpL_step (fun X hX=>?_)|refine wpH_step (fun X hX=>?_)|refine wpE_step (fun X hX=>?_)|refine wpL_end ?_|refine wpH_end ?_|refine wpE_end ?_); try simp only [zU, forall_const, reduceIte, Nat.reduceEqDiff, Nat.reduceAdd, reduceCtorEq, Q10])
  refine hM _ _ _ ?_; clear hM M
  have he618 := he617.trans he18
  have he118 := he117.trans he18
  refine ok_seq (fun M hM => ?_)
  refine (ok_draw 12 [] (Ext _) Fx.mixed (by decide) rfl (by decide +kernel) (by decide +kernel) (Ext.drew _) ?_)
  repeat ((try first | (refine ofX3 hX ?_; clear hX X) | (refine ofX2 hX ?_; clear hX X)); (first|refine wpL_step (fun X hX=>?_)|refine wpH_step (fun X hX=>?_)|refine wpE_step (fun X hX=>?_)|refine wpL_end ?_|refine wpH_end ?_|refine wpE_end ?_); try simp only [zU, forall_const, reduceIte, Nat.reduceEqDiff, Nat.reduceAdd, reduceCtorEq, Q10])
  refine ⟨_, fun W h => (hz W (he118.trans h)).cell (j := 1) rfl, ?_⟩
  repeat ((try first | (refine ofX3 hX ?_; clear hX X) | (refine ofX2 hX ?_; clear hX X)); (first|refine wpL_step (fun X hX=>?_)|refine wpH_step (fun X hX=>?_)|refine wpE_step (fun X hX=>?_)|refine wpL_end ?_|refine wpH_end ?_|refine wpE_end ?_); try simp only [zU, forall_const, reduceIte, Nat.reduceEqDiff, Nat.reduceAdd, reduceCtorEq, Q10])
  refine ⟨by omega, by omega, ?_⟩
  repeat ((try first | (refine ofX3 hX ?_; clear hX X) | (refine ofX2 hX ?_; clear hX X)); (first|refine wpL_step (fun X hX=>?_)|refine wpH_step (fun X hX=>?_)|refine wpE_step (fun X hX=>?_)|refine wpL_end ?_|refine wpH_end ?_|refine wpE_end ?_); try simp only [zU, forall_const, reduceIte, Nat.reduceEqDiff, Nat.reduceAdd, reduceCtorEq, Q10])
  refine ⟨x0.row, rfl, fun W h => by simpa using ((he06.trans he618).trans h).cellsAt hc0', ?_⟩
  repeat ((try first | (refine ofX3 hX ?_; clear hX X) | (refine ofX2 hX ?_; clear hX X)); (first|refine wpL_step (fun X hX=>?_)|refine wpH_step (fun X hX=>?_)|refine wpE_step (fun X hX=>?_)|refine wpL_end ?_|refine wpH_end ?_|refine wpE_end ?_); try simp only [zU, forall_const, reduceIte, Nat.reduceEqDiff, Nat.reduceAdd, reduceCtorEq, Q10])
  refine ⟨x.row, rfl, fun W h => hx9 W (he618.trans h), ?_⟩
  repeat ((try first | (refine ofX3 hX ?_; clear hX X) | (refine ofX2 hX ?_; clear hX X)); (first|refine wpL_step (fun X hX=>?_)|refine wpH_step (fun X hX=>?_)|refine wpE_step (fun X hX=>?_)|refine wpL_end ?_|refine wpH_end ?_|refine wpE_end ?_); try simp only [zU, forall_const, reduceIte, Nat.reduceEqDiff, Nat.reduceAdd, reduceCtorEq, Q10])
  refine ⟨.tuple #[.int .i64 (cmpR H x0 x), .int .i64 (cmpE H x0 x)], fun W h => Inv.call Fx.en42 (rCompare_ok W qb H F2 (hT6.ext (he618.trans h)).rp hl hG x0 x) (fun v w' ⟨h1, h2⟩ => ⟨h1, h.trans h2⟩), ?_⟩
  repeat ((try first | (refine ofX3 hX ?_; clear hX X) | (refine ofX2 hX ?_; clear hX X)); (first|refine wpL_step (fun X hX=>?_)|refine wpH_step (fun X hX=>?_)|refine wpE_step (fun X hX=>?_)|refine wpL_end ?_|refine wpH_end ?_|refine wpE_end ?_); try simp only [zU, forall_const, reduceIte, Nat.reduceEqDiff, Nat.reduceAdd, reduceCtorEq, Q10])
  intro w19 he19
  repeat ((try first | (refine ofX3 hX ?_; clear hX X) | (refine ofX2 hX ?_; clear hX X)); (first|refine wpL_step (fun X hX=>?_)|refine wpH_step (fun X hX=>?_)|refine wpE_step (fun X hX=>?_)|refine wpL_end ?_|refine wpH_end ?_|refine wpE_end ?_); try simp only [zU, forall_const, reduceIte, Nat.reduceEqDiff, Nat.reduceAdd, reduceCtorEq, Q10])
  refine hM _ _ _ ?_; clear hM M
  refine ok_seq (fun M hM => ok_region rfl ?_); repeat ((try first | (refine ofX3 hX ?_; clear hX X) | (refine ofX2 hX ?_; clear hX X)); (first|refine wpL_step (fun X hX=>?_)|refine wpH_step (fun X hX=>?_)|refine wpE_step (fun X hX=>?_)|refine wpL_end ?_|refine wpH_end ?_|refine wpE_end ?_); try simp only [zU, forall_const, reduceIte, Nat.reduceEqDiff, Nat.reduceAdd, reduceCtorEq, Q10])
  refine hM _ _ _ ?_; clear hM M
  refine ok_cond (b := false) rfl (fun h => by cases h) (fun _ => ok_skip ?_)
  try simp only [zW, zU, reduceIte, Nat.reduceEqDiff, Nat.reduceAdd, reduceCtorEq, Q10]
  refine hM1 _ _ _ ?_; clear hM1 M1
  refine ok_region rfl ?_
  repeat ((try first | (refine ofX3 hX ?_; clear hX X) | (refine ofX2 hX ?_; clear hX X)); (first|refine wpL_step (fun X hX=>?_)|refine wpH_step (fun X hX=>?_)|refine wpE_step (fun X hX=>?_)|refine wpL_end ?_|refine wpH_end ?_|refine wpE_end ?_); try simp only [zU, forall_const, reduceIte, Nat.reduceEqDiff, Nat.reduceAdd, reduceCtorEq, Q10])
  refine ⟨by simp only [inI]; omega, ?_⟩
  repeat ((try first | (refine ofX3 hX ?_; clear hX X) | (refine ofX2 hX ?_; clear hX X)); (first|refine wpL_step (fun X hX=>?_)|refine wpH_step (fun X hX=>?_)|refine wpE_step (fun X hX=>?_)|refine wpL_end ?_|refine wpH_end ?_|refine wpE_end ?_); try simp only [zU, forall_const, reduceIte, Nat.reduceEqDiff, Nat.reduceAdd, reduceCtorEq, Q10])
  exact ⟨i + 1, by simp [sub, Env.get], ⟨he118.trans he19, by omega⟩, by omega⟩
end Go.Proofs.YtldeokfhipjbfaaGreatDoor
/- act: asking, collecting, a raw word. -/
set_option linter.unusedVariables false
set_option linter.unusedSimpArgs false
set_option linter.defProp false
namespace Go.Proofs.YtldeokfhipjbfaaGreatDoor
open Go Go.Proofs.Vg Go.RowKit
/-- All words of a list are right. -/
def badL (H : List Ob) (l : List Wd) : Bool := l.any fun x => !rightW H x
def playH (H : List Ob) (l : List Wd) (a : ActD) : List Ob :=
  if a.d = 0 ∨ a.d = 1 ∨ a.d = 2 then actH H l a
  else if a.d = 4 ∧ badL H (pickF l a.of) = false then collH H (pickF l a.of) else H
def playL (H : List Ob) (l : List Wd) (a : ActD) : List Wd :=
  if a.d = 0 ∨ a.d = 1 ∨ a.d = 2 then actL H l a
  else if a.d = 3 then l
  else if a.d = 4 then (if badL H (pickF l a.of) = false then (pickF l a.of).map (mvT H (pickF l a.of)) else l)
  else l ++ [a.wd]

-- -- function 9
set_option maxHeartbeats 8000000 in
set_option maxRecDepth 8000 in
theorem act2_ok (w : World) (hb rb qb bz : Nat) (H : List Ob) (l : List Wd) (F : Nat → Prop) (hSt : St w hb rb qb bz H l F) (mk : Nat) (hg : Glob w mk) (hgF : ¬ F 0 ∧ ¬ F 1 ∧ ¬ F mk) (S : Nat → Prop) (r : List Value) (a : ActD) (hr : ActR w S r a) (hSF : ∀ k, S k → ¬ F k ∧ k < w.heap.size) (hF : ∀ k, F k → k < w.heap.size)
    (hd : ¬ (a.d = 0 ∨ a.d = 1 ∨ a.d = 2)) (hl : H.length ≤ 1048576) (hG : GoodH H) (hll : l.length ≤ 100000) (hof : a.of.length ≤ 100000) :
    Rets Tryz.prog 9 [ptrOf hb, ptrOf qb, ptrOf bz, .agg r.toArray] w (fun v w' => v = .bool true ∧ Chg F w w' ∧ ∃ F', St w' hb rb qb bz (playH H l a) (playL H l a) F' ∧ ∀ k, F' k → F k ∨ (w.heap.size ≤ k ∧ k < w'.heap.size)) := by
  have hr11 := hr.len
  obtain ⟨F1, F2, vh, vr, hS, hFt, hFrb⟩ := hSt
  obtain ⟨ov, vrow, hrr, hov1, hov, hvr⟩ := id hr
  have hv4 := (VRowS.row _ _ hvr).len
  obtain ⟨one1, cel1, -⟩ := owns_one hS.oh
  obtain ⟨one2, cel2, -⟩ := owns_one hS.or
  have hlh := hS.slh (by omega)
  have hlr := hS.slr (by omega)
  refine rets_of_ok Tryz.func9 rfl rfl ?_
  refine ok_seq (fun M hM => ok_region rfl ?_)
  repeat ((try first | (refine ofX3 hX ?_; clear hX X) | (refine ofX2 hX ?_; clear hX X)); (first|refine wpL_step (fun X hX=>?_)|refine wpH_step (fun X hX=>?_)|refine wpE_step (fun X hX=>?_)|refine wpL_end ?_|refine wpH_end ?_|refine wpE_end ?_); try simp only [zU, forall_const, reduceIte, Nat.reduceEqDiff, Nat.reduceAdd, reduceCtorEq, Q9])
  refine Runs.box (fun w1 he1 hz1 hb1 => ?_)
  generalize hB7 : w.heap.size = B7 at hz1 hb1
  simp only [Value.cells] at hb1
  repeat ((try first | (refine ofX3 hX ?_; clear hX X) | (refine ofX2 hX ?_; clear hX X)); (first|refine wpL_step (fun X hX=>?_)|refine wpH_step (fun X hX=>?_)|refine wpE_step (fun X hX=>?_)|refine wpL_end ?_|refine wpH_end ?_|refine wpE_end ?_); try simp only [zU, forall_const, reduceIte, Nat.reduceEqDiff, Nat.reduceAdd, reduceCtorEq, Q9])
  refine hM _ _ _ ?_; clear hM M
  have hS1 := hS.ext he1
  have c0 : w1.cell? ⟨B7, 0, none⟩ = some (.int .i64 a.d) := hb1.cell (by simp [hrr])
  have c1 : w1.cell? ⟨B7, 1, none⟩ = some (.int .i64 a.k) := hb1.cell (by simp [hrr])
  have c2 : w1.cell? ⟨B7, 2, none⟩ = some (.int .i64 a.n) := hb1.cell (by simp [hrr])
  have c3 : w1.cell? ⟨B7, 3, none⟩ = some ov := hb1.cell (by simp [hrr])
  have c4 : cellsAt w1 ⟨B7, 4, none⟩ vrow := hb1.cells (o := 4) (fun j u hj => by
    have hj4 := (List.getElem?_eq_some_iff.1 hj).1
    simp only [hrr]
    rw [List.append_assoc, List.getElem?_append_right (by simp)]
    simp only [List.length_cons, List.length_nil, Nat.zero_add]
    rw [show 4 + j - 4 = j by omega, List.getElem?_append_left hj4]
    exact hj)
  have hlh1 := hlh.ext he1
  have hlr1 := hlr.ext he1
  have hov1' : SlI w1 ov a.of := SliS.sli (SliS.chg hov (he1.chg (fun _ => False)) (fun k hk => ⟨hk, id⟩))
  have hB7l := hb1.lt
  refine ok_seq (fun M hM => ?_)
  refine ok_anyC (J9 w1 hb qb bz B7 vh vr ov (pickF l a.of)) Fx.mixed (by decide) (by decide +kernel) [(0, ptrOf hb), (1, ptrOf qb), (2, ptrOf bz), (7, ptrOf B7)] (by simp [sub, Env.get]) ?_ ?_ ?_
  · exact ⟨Ext.drew _, rfl, rfl, rfl, rfl, fun h => (by cases h), fun h => (by cases h), fun h => (by cases h), fun h => (by cases h), fun h => (by cases h), fun h => (by cases h), fun h => (by cases h), fun h => (by cases h)⟩
  · intro L K w' j o hJ hcl ho hLj hn
    have hj : j < 8 := by have := (List.getElem?_eq_some_iff.1 ho).1; simpa using this
    have hjj : j = 0 ∨ j = 1 ∨ j = 2 ∨ j = 3 ∨ j = 4 ∨ j = 5 ∨ j = 6 ∨ j = 7 := by omega
    rcases hjj with rfl | rfl | rfl | rfl | rfl | rfl | rfl | rfl <;> simp only [List.getElem?_cons_zero, List.getElem?_cons_succ, Option.some.injEq] at ho <;> subst ho
    · simp only [wpL, opF, ev, hJ.e2]; exact hJ.s0
    · have f := hJ.h0 (hn 0 (by simp [needs, Region.binds]))
      simp only [wpL, opF, ev, f]; exact hJ.s1
    · have f := hJ.h1 (hn 1 (by simp [needs, Region.binds]))
      simp only [wpL, opF, ev, f, Fx.ag32]
      exact ⟨[vh, vr], rfl, ((hS1.ext hJ.ext).z).cells (o := 0) (fun j u hj => by simpa using hj), hJ.s2⟩
    · simp only [wpL, opF, ev, hJ.e7, Fx.fo40_3, add_at]; exact hJ.s3
    · have f := hJ.h3 (hn 3 (by simp [needs, Region.binds]))
      simp only [wpL, opF, ev, f, Fx.ag33]
      exact ⟨_, hJ.ext.cell c3, hJ.s4⟩
    · have f := hJ.h2 (hn 2 (by simp [needs, Region.binds]))
      have f2 := hJ.h4 (hn 4 (by simp [needs, Region.binds]))
      simp only [wpL, opF, evs, ev, f, f2]
      refine Inv.call Fx.en11 (pick_ok w' vh vr ov l a.of (hlh1.ext hJ.ext) (hlr1.ext hJ.ext) (Sli.ext hov1' hJ.ext) (by omega) (by omega)) ?_
      rintro v w3 ⟨he3, ph, pr, rfl, g1, g2, g3, g4⟩
      exact hJ.s5 he3 ⟨g1, g2, fun k hk => by have := (g3 k hk).1; have := hJ.ext.size; omega, fun k hk => by have := g4 k hk; have := hJ.ext.size; omega⟩
    · simp only [wpL, opF]
      refine Runs.alloc Fx.zi32 (fun w3 he3 hs3 hb3 => ?_)
      exact hJ.s6 (hcl.no (j := 7) (k := 6) rfl (by simp [needs, Region.binds]) hLj) he3 hb3
    · obtain ⟨ph, pr, f, hp⟩ := hJ.h5 (hn 5 (by simp [needs, Region.binds]))
      obtain ⟨B, q1, q2, q3⟩ := hJ.h6 (hn 6 (by simp [needs, Region.binds])) hLj
      obtain ⟨o1, o2, -⟩ := owns_one hp.1
      obtain ⟨o3, o4, -⟩ := owns_one hp.2.1
      simp only [wpL, opF, ev, f, q1]
      refine Runs.store q3 Fx.zi32 rfl (by intro u hu; simp [Value.cells] at hu; rcases hu with rfl | rfl; exact o1; exact o3) (by simp) (fun w3 hc3 hs3 hb3 => ?_)
      rw [splice_all _ _ (by simp [Value.cells])] at hb3
      exact hJ.s7 q1 q2 q3 hp hc3 hb3
  intro K w3 hJ
  obtain ⟨B9, ph, pr, k9, hB9, hb9, hPW⟩ := hJ.h7 (by rfl)
  have he13 := hJ.ext
  have k0 := hJ.e0
  have k1 := hJ.e1
  have k2 := hJ.e2
  have k7 := hJ.e7
  clear hJ
  try simp only [zW, zU, reduceIte, Nat.reduceEqDiff, Nat.reduceAdd, reduceCtorEq, Q9]
  refine hM _ _ _ ?_; clear hM M
  refine ok_less [(0, ptrOf hb), (1, ptrOf qb), (2, ptrOf bz), (7, ptrOf B7), (9, ptrOf B9)] (by simp only [sub, and_true]; exact ⟨k0, k1, k2, k7, k9⟩) ?_
  clear k0 k1 k2 k7 k9
  have he03 := he1.trans he13
  have hs03 := he03.size
  have hS3 := hS1.ext he13
  have hr3 : ActR w3 S r a := hr.chg (he03.chg (fun _ => False)) (fun k hk => ⟨hk, id⟩)
  have hpl : (pickF l a.of).length ≤ 100000 := by unfold pickF; split <;> simp <;> omega
  have hwh : SlW w3 ph (pickF l a.of) := Sli.of_own hPW.1 rfl (fun r hr => (words_rows _ r hr).1) (by simp) (by omega)
  have hwr : SlW w3 pr (pickF l a.of) := Sli.of_own hPW.2.1 rfl (fun r hr => (words_rows _ r hr).1) (by simp) (by omega)
  have hb93 := hb9
  have hb9l := hb9.lt
  have hg3 := hg.ext he03
  have c0' := he13.cell c0
  have c1' := he13.cell c1
  have c2' := he13.cell c2
  have c4' := he13.cellsAt c4
  have hb73 := hb1.ext he13
  have hvr3 : VRowS w3 S vrow a.v := VRowS.ext hvr he03
  have hnS : ∀ k, S k → ¬ F1 k ∧ ¬ F2 k := fun k hk => ⟨fun h => (hSF k hk).1 (hFt k (.inl h)), fun h => (hSF k hk).1 (hFt k (.inr (.inl h)))⟩
  have hF1l : ∀ k, F1 k → k < w.heap.size := hS.l1
  have hF2l : ∀ k, F2 k → k < w.heap.size := hS.l2
  have hngF1 : ¬ F1 0 ∧ ¬ F1 1 ∧ ¬ F1 mk := ⟨fun h => hgF.1 (hFt _ (.inl h)), fun h => hgF.2.1 (hFt _ (.inl h)), fun h => hgF.2.2 (hFt _ (.inl h))⟩
  clear hb1
  refine ok_seq (fun M0 hM0 => ?_)
  refine ok_seq (fun M hM => ok_region rfl ?_)
  repeat ((try first | (refine ofX3 hX ?_; clear hX X) | (refine ofX2 hX ?_; clear hX X)); (first|refine wpL_step (fun X hX=>?_)|refine wpH_step (fun X hX=>?_)|refine wpE_step (fun X hX=>?_)|refine wpL_end ?_|refine wpH_end ?_|refine wpE_end ?_); try simp only [zU, forall_const, reduceIte, Nat.reduceEqDiff, Nat.reduceAdd, reduceCtorEq, Q9])
  refine ⟨_, c0', ?_⟩
  repeat ((try first | (refine ofX3 hX ?_; clear hX X) | (refine ofX2 hX ?_; clear hX X)); (first|refine wpL_step (fun X hX=>?_)|refine wpH_step (fun X hX=>?_)|refine wpE_step (fun X hX=>?_)|refine wpL_end ?_|refine wpH_end ?_|refine wpE_end ?_); try simp only [zU, forall_const, reduceIte, Nat.reduceEqDiff, Nat.reduceAdd, reduceCtorEq, Q9])
  refine hM _ _ _ ?_; clear hM M
  have hn0 : ¬ a.d = 0 := fun e => hd (.inl e)
  have hn1 : ¬ a.d = 1 := fun e => hd (.inr (.inl e))
  have hn2 : ¬ a.d = 2 := fun e => hd (.inr (.inr e))
  have hl30 : H.length ≤ 1073741824 := by omega
  have hT3 : Two w3 hb rb qb mk H F1 F2 := ⟨hS3.hp, hS3.rp, hg3⟩
  refine ok_block ?_
  refine ok_seq (fun M hM => ok_region rfl ?_); repeat ((try first | (refine ofX3 hX ?_; clear hX X) | (refine ofX2 hX ?_; clear hX X)); (first|refine wpL_step (fun X hX=>?_)|refine wpH_step (fun X hX=>?_)|refine wpE_step (fun X hX=>?_)|refine wpL_end ?_|refine wpH_end ?_|refine wpE_end ?_); try simp only [zU, forall_const, reduceIte, Nat.reduceEqDiff, Nat.reduceAdd, reduceCtorEq, Q9])
  refine hM _ _ _ ?_; clear hM M
  refine ok_if rfl (fun h => absurd h hn0) (fun _ => ?_)
  refine ok_seq (fun M hM => ok_region rfl ?_); repeat ((try first | (refine ofX3 hX ?_; clear hX X) | (refine ofX2 hX ?_; clear hX X)); (first|refine wpL_step (fun X hX=>?_)|refine wpH_step (fun X hX=>?_)|refine wpE_step (fun X hX=>?_)|refine wpL_end ?_|refine wpH_end ?_|refine wpE_end ?_); try simp only [zU, forall_const, reduceIte, Nat.reduceEqDiff, Nat.reduceAdd, reduceCtorEq, Q9])
  refine hM _ _ _ ?_; clear hM M
  refine ok_if rfl (fun h => absurd h hn1) (fun _ => ?_)
  refine ok_seq (fun M hM => ok_region rfl ?_); repeat ((try first | (refine ofX3 hX ?_; clear hX X) | (refine ofX2 hX ?_; clear hX X)); (first|refine wpL_step (fun X hX=>?_)|refine wpH_step (fun X hX=>?_)|refine wpE_step (fun X hX=>?_)|refine wpL_end ?_|refine wpH_end ?_|refine wpE_end ?_); try simp only [zU, forall_const, reduceIte, Nat.reduceEqDiff, Nat.reduceAdd, reduceCtorEq, Q9])
  refine hM _ _ _ ?_; clear hM M
  refine ok_if rfl (fun h => absurd h hn2) (fun _ => ?_)
  refine ok_seq (fun M hM => ok_region rfl ?_); repeat ((try first | (refine ofX3 hX ?_; clear hX X) | (refine ofX2 hX ?_; clear hX X)); (first|refine wpL_step (fun X hX=>?_)|refine wpH_step (fun X hX=>?_)|refine wpE_step (fun X hX=>?_)|refine wpL_end ?_|refine wpH_end ?_|refine wpE_end ?_); try simp only [zU, forall_const, reduceIte, Nat.reduceEqDiff, Nat.reduceAdd, reduceCtorEq, Q9])
  refine hM _ _ _ ?_; clear hM M
  refine ok_if rfl (fun hd3 => ?_) (fun hd3 => ?_)
  · -- asking
    have eH : playH H l a = H := by unfold playH; rw [if_neg hd, if_neg (by rintro ⟨h, -⟩; omega)]
    have eL : playL H l a = l := by unfold playL; rw [if_neg hd, if_pos hd3]
    rw [eH, eL]
    refine ok_seq (fun M hM => ok_region rfl ?_)
    repeat ((try first | (refine ofX3 hX ?_; clear hX X) | (refine ofX2 hX ?_; clear hX X)); (first|refine wpL_step (fun X hX=>?_)|refine wpH_step (fun X hX=>?_)|refine wpE_step (fun X hX=>?_)|refine wpL_end ?_|refine wpH_end ?_|refine wpE_end ?_); try simp only [zU, forall_const, reduceIte, Nat.reduceEqDiff, Nat.reduceAdd, reduceCtorEq, Q9])
    refine ⟨[ph, pr], rfl, hb93.cells (o := 0) (fun j u hj => by simpa using hj), ?_⟩
    repeat ((try first | (refine ofX3 hX ?_; clear hX X) | (refine ofX2 hX ?_; clear hX X)); (first|refine wpL_step (fun X hX=>?_)|refine wpH_step (fun X hX=>?_)|refine wpE_step (fun X hX=>?_)|refine wpL_end ?_|refine wpH_end ?_|refine wpE_end ?_); try simp only [zU, forall_const, reduceIte, Nat.reduceEqDiff, Nat.reduceAdd, reduceCtorEq, Q9])
    refine Inv.call Fx.en10 (asked_ok w3 hb rb qb mk H F1 F2 hT3 hl hG ph pr (pickF l a.of) hwh hwr (by omega)) ?_
    rintro v w4 ⟨rfl, he4⟩
    repeat ((try first | (refine ofX3 hX ?_; clear hX X) | (refine ofX2 hX ?_; clear hX X)); (first|refine wpL_step (fun X hX=>?_)|refine wpH_step (fun X hX=>?_)|refine wpE_step (fun X hX=>?_)|refine wpL_end ?_|refine wpH_end ?_|refine wpE_end ?_); try simp only [zU, forall_const, reduceIte, Nat.reduceEqDiff, Nat.reduceAdd, reduceCtorEq, Q9])
    refine hM _ _ _ ?_; clear hM M
    refine ok_ret ?_
    have he04 := he03.trans he4
    exact ⟨rfl, rfl, he04.chg F, F, ⟨F1, F2, vh, vr, hS.ext he04, hFt, hFrb⟩, fun k hk => .inl hk⟩
  refine ok_seq (fun M hM => ok_region rfl ?_); repeat ((try first | (refine ofX3 hX ?_; clear hX X) | (refine ofX2 hX ?_; clear hX X)); (first|refine wpL_step (fun X hX=>?_)|refine wpH_step (fun X hX=>?_)|refine wpE_step (fun X hX=>?_)|refine wpL_end ?_|refine wpH_end ?_|refine wpE_end ?_); try simp only [zU, forall_const, reduceIte, Nat.reduceEqDiff, Nat.reduceAdd, reduceCtorEq, Q9])
  refine hM _ _ _ ?_; clear hM M
  refine ok_if rfl (fun hd4 => ?_) (fun hd4 => ok_skip ?_)
  rotate_left
  · -- a raw word
    have eH : playH H l a = H := by unfold playH; rw [if_neg hd, if_neg (by rintro ⟨h, -⟩; exact hd4 h)]
    have eL : playL H l a = l ++ [a.wd] := by unfold playL; rw [if_neg hd, if_neg hd3, if_neg hd4]
    try simp only [zW, zU, reduceIte, Nat.reduceEqDiff, Nat.reduceAdd, reduceCtorEq, Q9]
    refine hM0 _ _ _ ?_; clear hM0 M0
    have hwd : ∀ W, Ext w3 W → cellsAt W ⟨B7, 8, none⟩ a.wd.row := fun W h => (hb73.ext h).cells (o := 8) (fun j u hj => by
      simp only [hrr]
      rw [List.getElem?_append_right (by simp [hv4])]
      simpa [hv4] using hj)
    have outz : ∀ k, w.heap.size ≤ k → ¬ (vh.ownBlock = some k ∨ vr.ownBlock = some k ∨ k = bz) := fun k hk h => by
      rcases h with h | h | h
      · have := (hS.oh.lt k h).2; omega
      · have := (hS.or.lt k h).2; omega
      · have := hS.z.lt; omega
    refine ok_seq (fun M hM => ok_region rfl ?_)
    repeat ((try first | (refine ofX3 hX ?_; clear hX X) | (refine ofX2 hX ?_; clear hX X)); (first|refine wpL_step (fun X hX=>?_)|refine wpH_step (fun X hX=>?_)|refine wpE_step (fun X hX=>?_)|refine wpL_end ?_|refine wpH_end ?_|refine wpE_end ?_); try simp only [zU, forall_const, reduceIte, Nat.reduceEqDiff, Nat.reduceAdd, reduceCtorEq, Q9])
    refine ⟨a.wd.row, rfl, hwd _ (Ext.refl _), ?_⟩
    repeat ((try first | (refine ofX3 hX ?_; clear hX X) | (refine ofX2 hX ?_; clear hX X)); (first|refine wpL_step (fun X hX=>?_)|refine wpH_step (fun X hX=>?_)|refine wpE_step (fun X hX=>?_)|refine wpL_end ?_|refine wpH_end ?_|refine wpE_end ?_); try simp only [zU, forall_const, reduceIte, Nat.reduceEqDiff, Nat.reduceAdd, reduceCtorEq, Q9])
    refine ⟨a.wd.row, rfl, hwd _ (Ext.refl _), ?_⟩
    repeat ((try first | (refine ofX3 hX ?_; clear hX X) | (refine ofX2 hX ?_; clear hX X)); (first|refine wpL_step (fun X hX=>?_)|refine wpH_step (fun X hX=>?_)|refine wpE_step (fun X hX=>?_)|refine wpL_end ?_|refine wpH_end ?_|refine wpE_end ?_); try simp only [zU, forall_const, reduceIte, Nat.reduceEqDiff, Nat.reduceAdd, reduceCtorEq, Q9])
    refine Inv.call Fx.en28 (wadd_ok w3 bz vh vr l a.wd a.wd hS3.z hS3.oh hS3.or hS3.dz.1 hS3.dz.2 hS3.dv (by omega)) ?_
    rintro v w10 ⟨hc10, vh', vr', z1, z2, z3, z4, z5⟩
    have hS10 := hS3.add hc10 z1 z2 z3 z4 z5
    have hs10 := hc10.size
    have hcF : Chg F w3 w10 := hc10.mono fun k _ h => by
      rcases h with h | h | h
      · exact hFt k (.inr (.inr (.inr (.inl h))))
      · exact hFt k (.inr (.inr (.inr (.inr h))))
      · exact hFt k (.inr (.inr (.inl h)))
    have hg10 : Glob w10 mk := hg3.chg hcF hgF.1 hgF.2.1 hgF.2.2
    have hwd10 : ∀ W, Ext w10 W → cellsAt W ⟨B7, 8, none⟩ a.wd.row := fun W h => h.cellsAt (hc10.cellsAt (hwd _ (Ext.refl _)) (outz B7 (by omega)))
    repeat ((try first | (refine ofX3 hX ?_; clear hX X) | (refine ofX2 hX ?_; clear hX X)); (first|refine wpL_step (fun X hX=>?_)|refine wpH_step (fun X hX=>?_)|refine wpE_step (fun X hX=>?_)|refine wpL_end ?_|refine wpH_end ?_|refine wpE_end ?_); try simp only [zU, forall_const, reduceIte, Nat.reduceEqDiff, Nat.reduceAdd, reduceCtorEq, Q9])
    refine hM _ _ _ ?_; clear hM M
    refine ok_seq (fun M hM => ok_region rfl ?_)
    repeat ((try first | (refine ofX3 hX ?_; clear hX X) | (refine ofX2 hX ?_; clear hX X)); (first|refine wpL_step (fun X hX=>?_)|refine wpH_step (fun X hX=>?_)|refine wpE_step (fun X hX=>?_)|refine wpL_end ?_|refine wpH_end ?_|refine wpE_end ?_); try simp only [zU, forall_const, reduceIte, Nat.reduceEqDiff, Nat.reduceAdd, reduceCtorEq, Q9])
    refine ⟨a.wd.row, rfl, hwd10 _ (Ext.refl _), ?_⟩
    repeat ((try first | (refine ofX3 hX ?_; clear hX X) | (refine ofX2 hX ?_; clear hX X)); (first|refine wpL_step (fun X hX=>?_)|refine wpH_step (fun X hX=>?_)|refine wpE_step (fun X hX=>?_)|refine wpL_end ?_|refine wpH_end ?_|refine wpE_end ?_); try simp only [zU, forall_const, reduceIte, Nat.reduceEqDiff, Nat.reduceAdd, reduceCtorEq, Q9])
    refine Runs.lit (cs := a.wd.row) Fx.un29 Fx.zi38 (by decide) (by kernel_rfl) (by decide) (fun w11 he11 hs11 hb11 => ?_)
    generalize hB11 : w10.heap.size = B11 at hs11 hb11
    repeat ((try first | (refine ofX3 hX ?_; clear hX X) | (refine ofX2 hX ?_; clear hX X)); (first|refine wpL_step (fun X hX=>?_)|refine wpH_step (fun X hX=>?_)|refine wpE_step (fun X hX=>?_)|refine wpL_end ?_|refine wpH_end ?_|refine wpE_end ?_); try simp only [zU, forall_const, reduceIte, Nat.reduceEqDiff, Nat.reduceAdd, reduceCtorEq, Q9])
    refine ⟨a.wd.row, rfl, hwd10 _ he11, ?_⟩
    repeat ((try first | (refine ofX3 hX ?_; clear hX X) | (refine ofX2 hX ?_; clear hX X)); (first|refine wpL_step (fun X hX=>?_)|refine wpH_step (fun X hX=>?_)|refine wpE_step (fun X hX=>?_)|refine wpL_end ?_|refine wpH_end ?_|refine wpE_end ?_); try simp only [zU, forall_const, reduceIte, Nat.reduceEqDiff, Nat.reduceAdd, reduceCtorEq, Q9])
    refine Runs.lit (cs := a.wd.row) Fx.un30 Fx.zi75 (by decide) (by kernel_rfl) (by decide) (fun w12 he12 hs12 hb12 => ?_)
    generalize hB12 : w11.heap.size = B12 at hs12 hb12
    repeat ((try first | (refine ofX3 hX ?_; clear hX X) | (refine ofX2 hX ?_; clear hX X)); (first|refine wpL_step (fun X hX=>?_)|refine wpH_step (fun X hX=>?_)|refine wpE_step (fun X hX=>?_)|refine wpL_end ?_|refine wpH_end ?_|refine wpE_end ?_); try simp only [zU, forall_const, reduceIte, Nat.reduceEqDiff, Nat.reduceAdd, reduceCtorEq, Q9])
    refine ⟨_, w12, run_build (P := Tryz.prog) w12 32 _ #[.slice (some ⟨B11, 0, none⟩) 1 1, .slice (some ⟨B12, 0, none⟩) 1 1] (by kernel_rfl), ?_⟩
    repeat ((try first | (refine ofX3 hX ?_; clear hX X) | (refine ofX2 hX ?_; clear hX X)); (first|refine wpL_step (fun X hX=>?_)|refine wpH_step (fun X hX=>?_)|refine wpE_step (fun X hX=>?_)|refine wpL_end ?_|refine wpH_end ?_|refine wpE_end ?_); try simp only [zU, forall_const, reduceIte, Nat.reduceEqDiff, Nat.reduceAdd, reduceCtorEq, Q9])
    have one : ∀ (W : World) (B t : Nat), Blk W B a.wd.row t → SlW W (.slice (some ⟨B, 0, none⟩) 1 1) [a.wd] := fun W B t hB => ⟨some ⟨B, 0, none⟩, 1, rfl, by simp, fun j row hj => by
      have hj0 : j = 0 := by have := (List.getElem?_eq_some_iff.1 hj).1; simp at this; exact this
      subst hj0
      simp at hj; subst hj
      exact ⟨B, 0, rfl, hB.cells (o := 0) (fun j u hj => by simpa using hj)⟩⟩
    have he1012 := he11.trans he12
    refine Inv.call Fx.en10 (asked_ok w12 hb rb qb mk H F1 F2 ⟨hS10.hp.ext he1012, hS10.rp.ext he1012, hg10.ext he1012⟩ hl hG _ _ [a.wd] (one w12 B11 38 (hb11.ext he12)) (one w12 B12 75 hb12) (by simp)) ?_
    rintro v w13 ⟨rfl, he13'⟩
    repeat ((try first | (refine ofX3 hX ?_; clear hX X) | (refine ofX2 hX ?_; clear hX X)); (first|refine wpL_step (fun X hX=>?_)|refine wpH_step (fun X hX=>?_)|refine wpE_step (fun X hX=>?_)|refine wpL_end ?_|refine wpH_end ?_|refine wpE_end ?_); try simp only [zU, forall_const, reduceIte, Nat.reduceEqDiff, Nat.reduceAdd, reduceCtorEq, Q9])
    refine hM _ _ _ ?_; clear hM M
    refine ok_ret ?_
    have he1013 := he1012.trans he13'
    have hs1013 := he1013.size
    rw [eH, eL]
    refine ⟨rfl, rfl, ((he03.chg F).trans hcF).trans (he1013.chg F), Ft F1 F2 bz vh' vr', ⟨F1, F2, vh', vr', hS10.ext he1013, fun k hk => hk, fun h => ?_⟩, fun k hk => ?_⟩
    · rcases h with h | h | h | h | h
      · exact hS10.nrb.1 h
      · exact hS10.nrb.2.1 h
      · exact hS10.nrb.2.2.1 h
      · exact hS10.nrb.2.2.2.1 h
      · exact hS10.nrb.2.2.2.2 h
    · have hkl := hS10.lt k hk
      rcases hk with h | h | h | h | h
      · exact .inl (hFt k (.inl h))
      · exact .inl (hFt k (.inr (.inl h)))
      · exact .inl (hFt k (.inr (.inr (.inl h))))
      · rcases z4 with e | ⟨k', e, hk'⟩
        · rw [e] at h; exact .inl (hFt k (.inr (.inr (.inr (.inl h)))))
        · rw [e] at h; cases h; exact .inr (by omega)
      · rcases z5 with e | ⟨k', e, hk'⟩
        · rw [e] at h; exact .inl (hFt k (.inr (.inr (.inr (.inr h)))))
        · rw [e] at h; cases h; exact .inr (by omega)
  · -- collecting
    generalize hrs : pickF l a.of = rs at *
    have hrl : rs.length ≤ 100000 := hpl
    have phT : ∀ W, Chg F1 w3 W → SlW W ph rs := fun W hc => Sli.of_own (owns_chg' hPW.1 hc (fun k hk h => by have := hF1l k h; have := hPW.2.2.1 k hk; have := he1.size; omega)) rfl (fun r hr => (words_rows _ r hr).1) (by simp) (by omega)
    have prF1 : ∀ k, pr.ownBlock = some k → w.heap.size ≤ k ∧ k < w3.heap.size := fun k hk => ⟨by have := hPW.2.2.2 k hk; have := he1.size; omega, (hPW.2.1.lt k hk).2⟩
    obtain ⟨o1, -, Ap, cp, rfl⟩ := owns_one hPW.1
    obtain ⟨o3, -, Ap', cp', rfl⟩ := owns_one hPW.2.1
    have hB9n : w.heap.size ≤ B9 := by have := he1.size; omega
    have out1 : ∀ k, w.heap.size ≤ k → ¬ F1 k := fun k hk h => by have := hF1l k h; omega
    have out2 : ∀ k, w.heap.size ≤ k → ¬ F2 k := fun k hk h => by have := hF2l k h; omega
    refine ok_seq (fun M hM => ok_region rfl ?_)
    repeat ((try first | (refine ofX3 hX ?_; clear hX X) | (refine ofX2 hX ?_; clear hX X)); (first|refine wpL_step (fun X hX=>?_)|refine wpH_step (fun X hX=>?_)|refine wpE_step (fun X hX=>?_)|refine wpL_end ?_|refine wpH_end ?_|refine wpE_end ?_); try simp only [zU, forall_const, reduceIte, Nat.reduceEqDiff, Nat.reduceAdd, reduceCtorEq, Q9])
    refine ⟨_, hb93.cell (j := 0) rfl, ?_⟩
    repeat ((try first | (refine ofX3 hX ?_; clear hX X) | (refine ofX2 hX ?_; clear hX X)); (first|refine wpL_step (fun X hX=>?_)|refine wpH_step (fun X hX=>?_)|refine wpE_step (fun X hX=>?_)|refine wpL_end ?_|refine wpH_end ?_|refine wpE_end ?_); try simp only [zU, forall_const, reduceIte, Nat.reduceEqDiff, Nat.reduceAdd, reduceCtorEq, Q9])
    refine Inv.call Fx.en15 (collect_ok w3 hb rb H F1 hS3.hp (fun k hk => by have := hF1l k hk; omega) hl hG.wf _ rs phT (by omega)) ?_
    rintro v w4 ⟨hbadp, hgoodp⟩
    cases hbad : badL H rs with
    | true =>
      have eH : playH H l a = H := by unfold playH; rw [if_neg hd, if_neg (by rw [hrs, hbad]; rintro ⟨-, h⟩; cases h)]
      have eL : playL H l a = l := by unfold playL; rw [if_neg hd, if_neg hd3, if_pos hd4, if_neg (by rw [hrs, hbad]; decide)]
      obtain ⟨rfl, hG4⟩ := hbadp hbad
      clear hgoodp hbadp
      obtain ⟨F1', hp4, hc4, hF1'⟩ := hS3.heap hG4
      have hs4 := hc4.size
      repeat ((try first | (refine ofX3 hX ?_; clear hX X) | (refine ofX2 hX ?_; clear hX X)); (first|refine wpL_step (fun X hX=>?_)|refine wpH_step (fun X hX=>?_)|refine wpE_step (fun X hX=>?_)|refine wpL_end ?_|refine wpH_end ?_|refine wpE_end ?_); try simp only [zU, forall_const, reduceIte, Nat.reduceEqDiff, Nat.reduceAdd, reduceCtorEq, Q9])
      refine hM _ _ _ ?_; clear hM M
      have hr4 : RHeapW w4 qb H F2 := hS3.rp.chg hc4 (fun k hk h1 => hS3.d12 k h1 hk)
      refine ok_seq (fun M hM => ok_region rfl ?_)
      repeat ((try first | (refine ofX3 hX ?_; clear hX X) | (refine ofX2 hX ?_; clear hX X)); (first|refine wpL_step (fun X hX=>?_)|refine wpH_step (fun X hX=>?_)|refine wpE_step (fun X hX=>?_)|refine wpL_end ?_|refine wpH_end ?_|refine wpE_end ?_); try simp only [zU, forall_const, reduceIte, Nat.reduceEqDiff, Nat.reduceAdd, reduceCtorEq, Q9])
      refine ⟨_, (hb93.chg hc4 (out1 B9 hB9n)).cell (j := 1) rfl, ?_⟩
      repeat ((try first | (refine ofX3 hX ?_; clear hX X) | (refine ofX2 hX ?_; clear hX X)); (first|refine wpL_step (fun X hX=>?_)|refine wpH_step (fun X hX=>?_)|refine wpE_step (fun X hX=>?_)|refine wpL_end ?_|refine wpH_end ?_|refine wpE_end ?_); try simp only [zU, forall_const, reduceIte, Nat.reduceEqDiff, Nat.reduceAdd, reduceCtorEq, Q9])
      refine Inv.call Fx.en31 (rCollect_ok w4 qb H F2 hr4 (fun k hk => by have := hF2l k hk; omega) hl hG _ rs (fun W hc => Sli.of_own (owns_chg' (owns_chg' hPW.2.1 hc4 (fun k hk => out1 k (prF1 k hk).1)) hc (fun k hk => out2 k (prF1 k hk).1)) rfl (fun r hr => (words_rows _ r hr).1) (by simp) (by omega)) (by omega)) ?_
      rintro v w5 ⟨hbadr, -⟩
      obtain ⟨rfl, hc5, F2', hr5, hF2'⟩ := hbadr hbad
      clear hbadr
      have hs5 := hc5.size
      repeat ((try first | (refine ofX3 hX ?_; clear hX X) | (refine ofX2 hX ?_; clear hX X)); (first|refine wpL_step (fun X hX=>?_)|refine wpH_step (fun X hX=>?_)|refine wpE_step (fun X hX=>?_)|refine wpL_end ?_|refine wpH_end ?_|refine wpE_end ?_); try simp only [zU, forall_const, reduceIte, Nat.reduceEqDiff, Nat.reduceAdd, reduceCtorEq, Q9])
      refine hM _ _ _ ?_; clear hM M
      refine ok_join [(18, .slice none 0 0), (20, .slice none 0 0), (19, .int .i64 2), (21, .int .i64 2)] (fun w' => w' = w5) ?_ ?_
      · refine ok_seq (fun M hM => ok_region rfl ?_); repeat ((try first | (refine ofX3 hX ?_; clear hX X) | (refine ofX2 hX ?_; clear hX X)); (first|refine wpL_step (fun X hX=>?_)|refine wpH_step (fun X hX=>?_)|refine wpE_step (fun X hX=>?_)|refine wpL_end ?_|refine wpH_end ?_|refine wpE_end ?_); try simp only [zU, forall_const, reduceIte, Nat.reduceEqDiff, Nat.reduceAdd, reduceCtorEq, Q9])
        refine hM _ _ _ ?_; clear hM M
        refine ok_cond (b := false) rfl (fun h => by cases h) (fun _ => ok_skip ?_)
        exact ⟨rfl, by simp [sub, Env.get], rfl⟩
      rintro w6 rfl
      refine ok_seq (fun M hM => ok_region rfl ?_)
      repeat ((try first | (refine ofX3 hX ?_; clear hX X) | (refine ofX2 hX ?_; clear hX X)); (first|refine wpL_step (fun X hX=>?_)|refine wpH_step (fun X hX=>?_)|refine wpE_step (fun X hX=>?_)|refine wpL_end ?_|refine wpH_end ?_|refine wpE_end ?_); try simp only [zU, forall_const, reduceIte, Nat.reduceEqDiff, Nat.reduceAdd, reduceCtorEq, Q9])
      refine Inv.call Fx.en32 (sameWords_ok w6 _ _ [] (SlW.nil w6) (SlW.nil w6)) ?_
      rintro v w7 ⟨rfl, he7⟩
      repeat ((try first | (refine ofX3 hX ?_; clear hX X) | (refine ofX2 hX ?_; clear hX X)); (first|refine wpL_step (fun X hX=>?_)|refine wpH_step (fun X hX=>?_)|refine wpE_step (fun X hX=>?_)|refine wpL_end ?_|refine wpH_end ?_|refine wpE_end ?_); try simp only [zU, forall_const, reduceIte, Nat.reduceEqDiff, Nat.reduceAdd, reduceCtorEq, Q9])
      refine hM _ _ _ ?_; clear hM M
      refine ok_ret ?_
      have hp6 : HeapW w6 hb rb H F1' := hp4.chg hc5 (fun k hk h2 => by
        rcases hF1' k hk with h | h
        · exact hS3.d12 k h h2
        · exact out2 k (by omega) h2) hS3.nrb.2.1
      have hc36 : Chg (fun k => F1 k ∨ F2 k) w3 w6 := (hc4.mono fun k _ h => .inl h).trans (hc5.mono fun k _ h => .inr h)
      have hs36 := hc36.size
      have hS6 : StR w6 hb rb qb bz H l F1' F2' vh vr := hS3.both hp6 hr5 hc36 (fun k hk => (hF1' k hk).imp id (fun h => by omega)) (fun k hk => (hF2' k hk).imp id (fun h => by omega)) (fun k hk h1 h2 => by
        rcases hF1' k h1 with h | h
        · exact out1 k (by omega) h
        · rcases hF2' k h2 with h' | h'
          · exact out2 k (by omega) h'
          · omega)
      have hcF : Chg F w3 w6 := hc36.mono fun k _ h => by rcases h with h | h; exact hFt k (.inl h); exact hFt k (.inr (.inl h))
      have hs7 := he7.size
      rw [eH, eL]
      refine ⟨rfl, rfl, ((he03.chg F).trans hcF).trans (he7.chg F), Ft F1' F2' bz vh vr, ⟨F1', F2', vh, vr, hS6.ext he7, fun k hk => hk, fun h => ?_⟩, fun k hk => ?_⟩
      · rcases h with h | h | h | h | h
        · exact hS6.nrb.1 h
        · exact hS6.nrb.2.1 h
        · exact hS6.nrb.2.2.1 h
        · exact hS6.nrb.2.2.2.1 h
        · exact hS6.nrb.2.2.2.2 h
      · have hkl := hS6.lt k hk
        rcases hk with h | h | h | h | h
        · rcases hF1' k h with h | h
          · exact .inl (hFt k (.inl h))
          · exact .inr (by omega)
        · rcases hF2' k h with h | h
          · exact .inl (hFt k (.inr (.inl h)))
          · exact .inr (by omega)
        · exact .inl (hFt k (.inr (.inr (.inl h))))
        · exact .inl (hFt k (.inr (.inr (.inr (.inl h)))))
        · exact .inl (hFt k (.inr (.inr (.inr (.inr h)))))
    | false =>
      have eH : playH H l a = collH H rs := by unfold playH; rw [if_neg hd, hrs, if_pos ⟨hd4, hbad⟩]
      have eL : playL H l a = rs.map (mvT H rs) := by unfold playL; rw [if_neg hd, if_neg hd3, if_pos hd4, hrs, if_pos hbad]
      obtain ⟨A4, c4, rfl, hc4, F1', hp4, hF1', -, own4, new4⟩ := hgoodp hbad
      clear hgoodp hbadp
      have hs4 := hc4.size
      repeat ((try first | (refine ofX3 hX ?_; clear hX X) | (refine ofX2 hX ?_; clear hX X)); (first|refine wpL_step (fun X hX=>?_)|refine wpH_step (fun X hX=>?_)|refine wpE_step (fun X hX=>?_)|refine wpL_end ?_|refine wpH_end ?_|refine wpE_end ?_); try simp only [zU, forall_const, reduceIte, Nat.reduceEqDiff, Nat.reduceAdd, reduceCtorEq, Q9])
      refine hM _ _ _ ?_; clear hM M
      have hr4 : RHeapW w4 qb H F2 := hS3.rp.chg hc4 (fun k hk h1 => hS3.d12 k h1 hk)
      refine ok_seq (fun M hM => ok_region rfl ?_)
      repeat ((try first | (refine ofX3 hX ?_; clear hX X) | (refine ofX2 hX ?_; clear hX X)); (first|refine wpL_step (fun X hX=>?_)|refine wpH_step (fun X hX=>?_)|refine wpE_step (fun X hX=>?_)|refine wpL_end ?_|refine wpH_end ?_|refine wpE_end ?_); try simp only [zU, forall_const, reduceIte, Nat.reduceEqDiff, Nat.reduceAdd, reduceCtorEq, Q9])
      refine ⟨_, (hb93.chg hc4 (out1 B9 hB9n)).cell (j := 1) rfl, ?_⟩
      repeat ((try first | (refine ofX3 hX ?_; clear hX X) | (refine ofX2 hX ?_; clear hX X)); (first|refine wpL_step (fun X hX=>?_)|refine wpH_step (fun X hX=>?_)|refine wpE_step (fun X hX=>?_)|refine wpL_end ?_|refine wpH_end ?_|refine wpE_end ?_); try simp only [zU, forall_const, reduceIte, Nat.reduceEqDiff, Nat.reduceAdd, reduceCtorEq, Q9])
      refine Inv.call Fx.en31 (rCollect_ok w4 qb H F2 hr4 (fun k hk => by have := hF2l k hk; omega) hl hG _ rs (fun W hc => Sli.of_own (owns_chg' (owns_chg' hPW.2.1 hc4 (fun k hk => out1 k (prF1 k hk).1)) hc (fun k hk => out2 k (prF1 k hk).1)) rfl (fun r hr => (words_rows _ r hr).1) (by simp) (by omega)) (by omega)) ?_
      rintro v w5 ⟨-, hgoodr⟩
      obtain ⟨A5, c5, rfl, hc5, F2', hr5, hF2', own5, new5⟩ := hgoodr hbad
      clear hgoodr
      have hs5 := hc5.size
      repeat ((try first | (refine ofX3 hX ?_; clear hX X) | (refine ofX2 hX ?_; clear hX X)); (first|refine wpL_step (fun X hX=>?_)|refine wpH_step (fun X hX=>?_)|refine wpE_step (fun X hX=>?_)|refine wpL_end ?_|refine wpH_end ?_|refine wpE_end ?_); try simp only [zU, forall_const, reduceIte, Nat.reduceEqDiff, Nat.reduceAdd, reduceCtorEq, Q9])
      refine hM _ _ _ ?_; clear hM M
      have hbz3 : bz < w3.heap.size := hS3.z.lt
      have hbzw : bz < w.heap.size := hS.z.lt
      have hrb3 : rb < w3.heap.size := HeapW.lt hS3.hp
      have hb5 : Blk w5 bz [vh, vr] 32 := (hS3.z.chg hc4 hS3.d1z.1).chg hc5 hS3.d2z.1
      refine ok_join [(18, .slice A4 rs.length c4), (20, .slice A5 rs.length c5), (19, .int .i64 0), (21, .int .i64 0)] (fun w' => Chg (· = bz) w5 w' ∧ Blk w' bz [.slice A4 rs.length c4, .slice A5 rs.length c5] 32) ?_ ?_
      · refine ok_seq (fun M hM => ok_region rfl ?_); repeat ((try first | (refine ofX3 hX ?_; clear hX X) | (refine ofX2 hX ?_; clear hX X)); (first|refine wpL_step (fun X hX=>?_)|refine wpH_step (fun X hX=>?_)|refine wpE_step (fun X hX=>?_)|refine wpL_end ?_|refine wpH_end ?_|refine wpE_end ?_); try simp only [zU, forall_const, reduceIte, Nat.reduceEqDiff, Nat.reduceAdd, reduceCtorEq, Q9])
        refine hM _ _ _ ?_; clear hM M
        refine ok_cond (b := true) rfl (fun _ => ?_) (fun h => by cases h)
        refine ok_region rfl ?_
        repeat ((try first | (refine ofX3 hX ?_; clear hX X) | (refine ofX2 hX ?_; clear hX X)); (first|refine wpL_step (fun X hX=>?_)|refine wpH_step (fun X hX=>?_)|refine wpE_step (fun X hX=>?_)|refine wpL_end ?_|refine wpH_end ?_|refine wpE_end ?_); try simp only [zU, forall_const, reduceIte, Nat.reduceEqDiff, Nat.reduceAdd, reduceCtorEq, Q9])
        refine Runs.store hb5 (Fx.zi29) rfl (by intro u hu; simp [Value.cells] at hu; subst hu; rfl) (by simp) (fun w6 hc6 hs6 hb6 => ?_)
        have hb6' : Blk w6 bz [.slice A4 rs.length c4, vr] 32 := by simpa [splice, Value.cells] using hb6
        repeat ((try first | (refine ofX3 hX ?_; clear hX X) | (refine ofX2 hX ?_; clear hX X)); (first|refine wpL_step (fun X hX=>?_)|refine wpH_step (fun X hX=>?_)|refine wpE_step (fun X hX=>?_)|refine wpL_end ?_|refine wpH_end ?_|refine wpE_end ?_); try simp only [zU, forall_const, reduceIte, Nat.reduceEqDiff, Nat.reduceAdd, reduceCtorEq, Q9])
        refine Runs.store hb6' (Fx.zi30) rfl (by intro u hu; simp [Value.cells] at hu; subst hu; rfl) (by simp) (fun w7 hc7 hs7 hb7 => ?_)
        have hb7' : Blk w7 bz [.slice A4 rs.length c4, .slice A5 rs.length c5] 32 := by simpa [splice, Value.cells] using hb7
        repeat ((try first | (refine ofX3 hX ?_; clear hX X) | (refine ofX2 hX ?_; clear hX X)); (first|refine wpL_step (fun X hX=>?_)|refine wpH_step (fun X hX=>?_)|refine wpE_step (fun X hX=>?_)|refine wpL_end ?_|refine wpH_end ?_|refine wpE_end ?_); try simp only [zU, forall_const, reduceIte, Nat.reduceEqDiff, Nat.reduceAdd, reduceCtorEq, Q9])
        exact ⟨by simp [sub, Env.get], hc6.trans hc7, hb7'⟩
      rintro w7 ⟨hc7, hb7⟩
      have hs7 := hc7.size
      have new4' : ∀ k, (Value.slice A4 rs.length c4).ownBlock = some k → w3.heap.size ≤ k ∧ k < w4.heap.size := fun k hk => ⟨(new4 k hk).1, (own4.lt k hk).2⟩
      have new5' : ∀ k, (Value.slice A5 rs.length c5).ownBlock = some k → w4.heap.size ≤ k ∧ k < w5.heap.size := fun k hk => ⟨(new5 k hk).1, (own5.lt k hk).2⟩
      have hml : (rs.map (mvT H rs)).length = rs.length := by simp
      have own47 : w7.ownsRow 0 38 3 (.slice A4 rs.length c4) (rs.map (mvT H rs)).length (oflat (rs.map (mvT H rs))) := owns_chg' (owns_chg' own4 hc5 (fun k hk h => out2 k (by have := new4' k hk; omega) h)) hc7 (fun k hk h => by have := new4' k hk; omega)
      have own57 : w7.ownsRow 0 75 3 (.slice A5 rs.length c5) (rs.map (mvT H rs)).length (oflat (rs.map (mvT H rs))) := by
        rw [hml]
        exact owns_chg' own5 hc7 (fun k hk h => by have := new5' k hk; omega)
      have f1 : ∀ k, F1' k → F1 k ∨ (w3.heap.size ≤ k ∧ k < w4.heap.size) := hF1'
      have f2 : ∀ k, F2' k → F2 k ∨ (w4.heap.size ≤ k ∧ k < w5.heap.size) := hF2'
      have hS7 : StR w7 hb rb qb bz (collH H rs) (rs.map (mvT H rs)) F1' F2' (.slice A4 rs.length c4) (.slice A5 rs.length c5) := by
        refine ⟨?_, ?_, hb7, own47, own57, fun k hk => ?_, fun k hk => ?_, fun k hk h2 => ?_, ⟨fun h => ?_, fun k hk => ⟨fun e => (new4 k e).2 hk, fun e => ?_⟩⟩, ⟨fun h => ?_, fun k hk => ⟨fun e => ?_, fun e => (new5 k e).2 hk⟩⟩, ⟨fun e => ?_, fun e => ?_⟩, fun k e e' => ?_, ⟨fun h => ?_, fun h => ?_, hS3.nrb.2.2.1, fun e => ?_, fun e => ?_⟩⟩
        · refine (hp4.chg hc5 (fun k hk h2 => ?_) hS3.nrb.2.1).chg hc7 (fun k hk e => ?_) (fun e => hS3.nrb.2.2.1 e)
          · rcases f1 k hk with h | h
            · exact hS3.d12 k h h2
            · exact out2 k (by omega) h2
          · subst e
            rcases f1 _ hk with h | h
            · exact hS3.d1z.1 h
            · omega
        · refine hr5.chg hc7 (fun k hk e => ?_)
          subst e
          rcases f2 _ hk with h | h
          · exact hS3.d2z.1 h
          · omega
        · rcases f1 k hk with h | h
          · have := hF1l k h; omega
          · omega
        · rcases f2 k hk with h | h
          · have := hF2l k h; omega
          · omega
        · rcases f1 k hk with h | h
          · rcases f2 k h2 with h' | h'
            · exact hS3.d12 k h h'
            · have := hF1l k h; omega
          · rcases f2 k h2 with h' | h'
            · have := hF2l k h'; omega
            · omega
        · rcases f1 _ h with h | h
          · exact hS3.d1z.1 h
          · omega
        · have := new5' k e
          rcases f1 k hk with h | h
          · have := hF1l k h; omega
          · omega
        · rcases f2 _ h with h | h
          · exact hS3.d2z.1 h
          · omega
        · have := new4' k e
          rcases f2 k hk with h | h
          · have := hF2l k h; omega
          · omega
        · have := new4' _ e; omega
        · have := new5' _ e; omega
        · have := new4' k e; have := new5' k e'; omega
        · rcases f1 _ h with h | h
          · exact hS3.nrb.1 h
          · omega
        · rcases f2 _ h with h | h
          · exact hS3.nrb.2.1 h
          · omega
        · have := new4' _ e; omega
        · have := new5' _ e; omega
      refine ok_seq (fun M hM => ok_region rfl ?_)
      repeat ((try first | (refine ofX3 hX ?_; clear hX X) | (refine ofX2 hX ?_; clear hX X)); (first|refine wpL_step (fun X hX=>?_)|refine wpH_step (fun X hX=>?_)|refine wpE_step (fun X hX=>?_)|refine wpL_end ?_|refine wpH_end ?_|refine wpE_end ?_); try simp only [zU, forall_const, reduceIte, Nat.reduceEqDiff, Nat.reduceAdd, reduceCtorEq, Q9])
      refine Inv.call Fx.en32 (sameWords_ok w7 _ _ (rs.map (mvT H rs)) (hS7.slh (by omega)) (hS7.slr (by omega))) ?_
      rintro v w8 ⟨rfl, he8⟩
      repeat ((try first | (refine ofX3 hX ?_; clear hX X) | (refine ofX2 hX ?_; clear hX X)); (first|refine wpL_step (fun X hX=>?_)|refine wpH_step (fun X hX=>?_)|refine wpE_step (fun X hX=>?_)|refine wpL_end ?_|refine wpH_end ?_|refine wpE_end ?_); try simp only [zU, forall_const, reduceIte, Nat.reduceEqDiff, Nat.reduceAdd, reduceCtorEq, Q9])
      refine hM _ _ _ ?_; clear hM M
      refine ok_ret ?_
      have hcF : Chg F w3 w7 := (((hc4.mono fun k _ h => hFt k (.inl h)).trans (hc5.mono fun k _ h => hFt k (.inr (.inl h)))).trans (hc7.mono fun k _ h => hFt k (.inr (.inr (.inl h)))))
      have hs8 := he8.size
      rw [eH, eL]
      refine ⟨rfl, rfl, ((he03.chg F).trans hcF).trans (he8.chg F), Ft F1' F2' bz (.slice A4 rs.length c4) (.slice A5 rs.length c5), ⟨F1', F2', _, _, hS7.ext he8, fun k hk => hk, fun h => ?_⟩, fun k hk => ?_⟩
      · rcases h with h | h | h | h | h
        · exact hS7.nrb.1 h
        · exact hS7.nrb.2.1 h
        · exact hS7.nrb.2.2.1 h
        · exact hS7.nrb.2.2.2.1 h
        · exact hS7.nrb.2.2.2.2 h
      · have hkl := hS7.lt k hk
        rcases hk with h | h | h | h | h
        · rcases f1 k h with h | h
          · exact .inl (hFt k (.inl h))
          · exact .inr (by omega)
        · rcases f2 k h with h | h
          · exact .inl (hFt k (.inr (.inl h)))
          · exact .inr (by omega)
        · exact .inl (hFt k (.inr (.inr (.inl h))))
        · have := new4' k h; exact .inr (by omega)
        · have := new5' k h; exact .inr (by omega)
end Go.Proofs.YtldeokfhipjbfaaGreatDoor
/- HeapPlays: the walk. -/
set_option linter.unusedVariables false
set_option linter.unusedSimpArgs false
namespace Go.Proofs.YtldeokfhipjbfaaGreatDoor
open Go Go.Proofs.Vg Go.RowKit
/-- The acts of a play. -/
def runP (s : List Ob × List Wd) (acts : List ActD) : List Ob × List Wd := acts.foldl (fun s a => (playH s.1 s.2 a, playL s.1 s.2 a)) s
theorem runP_snoc (s : List Ob × List Wd) (acts : List ActD) (a : ActD) : runP s (acts ++ [a]) = (playH (runP s acts).1 (runP s acts).2 a, playL (runP s acts).1 (runP s acts).2 a) := by
  unfold runP; rw [List.foldl_append]; rfl
theorem badL_ref {H : List Ob} {l : List Wd} (h : badL H l = false) : ∀ x ∈ l, 0 ≤ x.r ∧ x.r ≤ (H.length : Int) := fun x hx => right_ref (by
  have := List.any_eq_false.1 h x hx
  simpa using this)
theorem play_good {H : List Ob} {l : List Wd} {a : ActD} (hG : GoodH H) (hv : cntV a.v ≤ 40) (hof : a.of.length ≤ 10) : GoodH (playH H l a) ∧ (playH H l a).length ≤ H.length + 40 ∧ (playL H l a).length ≤ l.length + 10 := by
  unfold playH playL
  by_cases hd : a.d = 0 ∨ a.d = 1 ∨ a.d = 2
  · rw [if_pos hd, if_pos hd]
    obtain ⟨g1, g2, g3⟩ := actH_good (l := l) hG hv hof
    exact ⟨g1, g2, by omega⟩
  rw [if_neg hd, if_neg hd]
  by_cases h3 : a.d = 3
  · rw [if_neg (by rintro ⟨h, -⟩; omega), if_pos h3]
    exact ⟨hG, by omega, by omega⟩
  rw [if_neg h3]
  by_cases h4 : a.d = 4
  · rw [if_pos h4]
    cases hb : badL H (pickF l a.of) with
    | false =>
      rw [if_pos ⟨h4, rfl⟩, if_pos rfl]
      have hr := badL_ref hb
      refine ⟨coll_good hG hr, ?_, ?_⟩
      · rw [coll_len hG hr]; have := collQ_len hG hr; omega
      · have := pickF_len l a.of; simp; omega
    | true =>
      rw [if_neg (by rintro ⟨-, h⟩; cases h), if_neg (by decide)]
      exact ⟨hG, by omega, by omega⟩
  · rw [if_neg (by rintro ⟨h, -⟩; exact h4 h), if_neg h4]
    exact ⟨hG, by omega, by simp⟩
theorem runP_good : ∀ (acts : List ActD) (s : List Ob × List Wd), GoodH s.1 → (∀ a ∈ acts, a.of.length ≤ 10 ∧ cntV a.v ≤ 40) → GoodH (runP s acts).1 ∧ (runP s acts).1.length ≤ s.1.length + 40 * acts.length ∧ (runP s acts).2.length ≤ s.2.length + 10 * acts.length := by
  intro acts
  induction acts with
  | nil => intro s h _; exact ⟨h, by simp [runP], by simp [runP]⟩
  | cons a acts ih =>
    intro s h hA
    have ha := hA a List.mem_cons_self
    have hA' := fun b hb => hA b (List.mem_cons_of_mem _ hb)
    have e : runP s (a :: acts) = runP (playH s.1 s.2 a, playL s.1 s.2 a) acts := rfl
    rw [e]
    obtain ⟨g1, g2, g3⟩ := play_good (l := s.2) h ha.2 ha.1
    obtain ⟨h1, h2, h3⟩ := ih (playH s.1 s.2 a, playL s.1 s.2 a) g1 hA'
    simp only at h2 h3
    simp only [List.length_cons]
    exact ⟨h1, by omega, by omega⟩

/-- One act, whatever it is. -/
theorem actP_ok (w : World) (hb rb qb bz : Nat) (H : List Ob) (l : List Wd) (F : Nat → Prop) (hSt : St w hb rb qb bz H l F) (mk : Nat) (hg : Glob w mk) (hgF : ¬ F 0 ∧ ¬ F 1 ∧ ¬ F mk) (S : Nat → Prop) (r : List Value) (a : ActD) (hr : ActR w S r a) (hSF : ∀ k, S k → ¬ F k ∧ k < w.heap.size) (hF : ∀ k, F k → k < w.heap.size)
    (hl : H.length + cntV a.v + 1 ≤ 1048576) (hll : l.length ≤ 100000) (hof : a.of.length ≤ 100000) (hG : GoodH H) :
    Rets Tryz.prog 9 [ptrOf hb, ptrOf qb, ptrOf bz, .agg r.toArray] w (fun v w' => v = .bool true ∧ Chg F w w' ∧ ∃ F', St w' hb rb qb bz (playH H l a) (playL H l a) F' ∧ ∀ k, F' k → F k ∨ (w.heap.size ≤ k ∧ k < w'.heap.size)) := by
  by_cases hd : a.d = 0 ∨ a.d = 1 ∨ a.d = 2
  · have e1 : playH H l a = actH H l a := by unfold playH; rw [if_pos hd]
    have e2 : playL H l a = actL H l a := by unfold playL; rw [if_pos hd]
    rw [e1, e2]
    exact act_ok w hb rb qb bz H l F hSt mk hg hgF S r a hr hSF hF hd hl hll hof hG.lim.args
  · exact act2_ok w hb rb qb bz H l F hSt mk hg hgF S r a hr hSF hF hd (by omega) hG hll hof

-- -- function 3
set_option maxHeartbeats 16000000 in
set_option maxRecDepth 8000 in
theorem HeapPlays_ok (w : World) (mk : Nat) (hg : Glob w mk) (S : Nat → Prop) (v0 : Value) (acts : List ActD) (hA : ActsR w S v0 acts) (hS : ∀ k, S k → k < w.heap.size) :
    Rets Tryz.prog 3 [v0] w (fun v w' => v = .bool true ∧ Ext w w') := by
  obtain ⟨A, c, rfl, hlen, hcell⟩ := id hA
  have hglt := hg.lt
  refine rets_of_ok Tryz.func3 rfl rfl ?_
  refine ok_seq (fun M hM => ok_region rfl ?_); repeat ((try first | (refine ofX3 hX ?_; clear hX X) | (refine ofX2 hX ?_; clear hX X)); (first|refine wpL_step (fun X hX=>?_)|refine wpH_step (fun X hX=>?_)|refine wpE_step (fun X hX=>?_)|refine wpL_end ?_|refine wpH_end ?_|refine wpE_end ?_); try simp only [zU, forall_const, reduceIte, Nat.reduceEqDiff, Nat.reduceAdd, reduceCtorEq, Q3])
  refine hM _ _ _ ?_; clear hM M
  refine ok_join [(0, .slice A acts.length c)] (fun w1 => Ext w w1) ?_ ?_
  · refine ok_seq (fun M hM => ok_region rfl ?_)
    repeat ((try first | (refine ofX3 hX ?_; clear hX X) | (refine ofX2 hX ?_; clear hX X)); (first|refine wpL_step (fun X hX=>?_)|refine wpH_step (fun X hX=>?_)|refine wpE_step (fun X hX=>?_)|refine wpL_end ?_|refine wpH_end ?_|refine wpE_end ?_); try simp only [zU, forall_const, reduceIte, Nat.reduceEqDiff, Nat.reduceAdd, reduceCtorEq, Q3])
    refine Inv.call Fx.en5 (awake_ok w mk hg) ?_
    rintro v w1 ⟨rfl, he1⟩
    repeat ((try first | (refine ofX3 hX ?_; clear hX X) | (refine ofX2 hX ?_; clear hX X)); (first|refine wpL_step (fun X hX=>?_)|refine wpH_step (fun X hX=>?_)|refine wpE_step (fun X hX=>?_)|refine wpL_end ?_|refine wpH_end ?_|refine wpE_end ?_); try simp only [zU, forall_const, reduceIte, Nat.reduceEqDiff, Nat.reduceAdd, reduceCtorEq, Q3])
    refine hM _ _ _ ?_; clear hM M
    refine ok_cond rfl (fun h => by cases h) (fun h => ok_skip ?_)
    exact ⟨rfl, by simp [sub, Env.get, argEnv], he1⟩
  rintro w1 he1
  have hA1 : ActsR w1 S (.slice A acts.length c) acts := hA.chg (he1.chg (fun _ => False)) (fun k hk => ⟨hk, id⟩)
  refine ok_join [(0, .slice A acts.length c)] (fun w2 => Ext w w2 ∧ (acts.length ≤ 30 ∧ ∀ a ∈ acts, a.of.length ≤ 10 ∧ cntV a.v ≤ 40)) ?_ ?_
  · refine ok_seq (fun M hM => ok_region rfl ?_)
    repeat ((try first | (refine ofX3 hX ?_; clear hX X) | (refine ofX2 hX ?_; clear hX X)); (first|refine wpL_step (fun X hX=>?_)|refine wpH_step (fun X hX=>?_)|refine wpE_step (fun X hX=>?_)|refine wpL_end ?_|refine wpH_end ?_|refine wpE_end ?_); try simp only [zU, forall_const, reduceIte, Nat.reduceEqDiff, Nat.reduceAdd, reduceCtorEq, Q3])
    refine Inv.call Fx.en6 (Few_ok w1 S _ acts hA1 (fun k hk => by have := hS k hk; have := he1.size; omega)) ?_
    rintro v w2 ⟨b, rfl, he2, hb⟩
    repeat ((try first | (refine ofX3 hX ?_; clear hX X) | (refine ofX2 hX ?_; clear hX X)); (first|refine wpL_step (fun X hX=>?_)|refine wpH_step (fun X hX=>?_)|refine wpE_step (fun X hX=>?_)|refine wpL_end ?_|refine wpH_end ?_|refine wpE_end ?_); try simp only [zU, forall_const, reduceIte, Nat.reduceEqDiff, Nat.reduceAdd, reduceCtorEq, Q3])
    refine hM _ _ _ ?_; clear hM M
    cases b with
    | false =>
      refine ok_cond (b := true) rfl (fun _ => ?_) (fun h => by cases h)
      refine ok_seq (fun M hM => ok_region rfl ?_); repeat ((try first | (refine ofX3 hX ?_; clear hX X) | (refine ofX2 hX ?_; clear hX X)); (first|refine wpL_step (fun X hX=>?_)|refine wpH_step (fun X hX=>?_)|refine wpE_step (fun X hX=>?_)|refine wpL_end ?_|refine wpH_end ?_|refine wpE_end ?_); try simp only [zU, forall_const, reduceIte, Nat.reduceEqDiff, Nat.reduceAdd, reduceCtorEq, Q3])
      refine hM _ _ _ ?_; clear hM M
      refine ok_ret ?_
      exact ⟨rfl, rfl, he1.trans he2⟩
    | true =>
      refine ok_cond (b := false) rfl (fun h => by cases h) (fun _ => ok_skip ?_)
      exact ⟨rfl, by simp [sub, Env.get], he1.trans he2, hb rfl⟩
  rintro w2 ⟨he02, ⟨hfew1, hfew2⟩⟩
  have hs02 := he02.size
  refine ok_seq (fun M hM => ok_region rfl ?_)
  repeat ((try first | (refine ofX3 hX ?_; clear hX X) | (refine ofX2 hX ?_; clear hX X)); (first|refine wpL_step (fun X hX=>?_)|refine wpH_step (fun X hX=>?_)|refine wpE_step (fun X hX=>?_)|refine wpL_end ?_|refine wpH_end ?_|refine wpE_end ?_); try simp only [zU, forall_const, reduceIte, Nat.reduceEqDiff, Nat.reduceAdd, reduceCtorEq, Q3])
  refine Inv.call Fx.en7 (new_ok w2) ?_
  rintro v w3 ⟨hb, rb, rfl, hp3, he3, hhb, hrb⟩
  repeat ((try first | (refine ofX3 hX ?_; clear hX X) | (refine ofX2 hX ?_; clear hX X)); (first|refine wpL_step (fun X hX=>?_)|refine wpH_step (fun X hX=>?_)|refine wpE_step (fun X hX=>?_)|refine wpL_end ?_|refine wpH_end ?_|refine wpE_end ?_); try simp only [zU, forall_const, reduceIte, Nat.reduceEqDiff, Nat.reduceAdd, reduceCtorEq, Q3])
  refine Inv.call Fx.en8 (rnew_ok w3) ?_
  rintro v w4 ⟨qb, rfl, hq4, he4, hqb⟩
  repeat ((try first | (refine ofX3 hX ?_; clear hX X) | (refine ofX2 hX ?_; clear hX X)); (first|refine wpL_step (fun X hX=>?_)|refine wpH_step (fun X hX=>?_)|refine wpE_step (fun X hX=>?_)|refine wpL_end ?_|refine wpH_end ?_|refine wpE_end ?_); try simp only [zU, forall_const, reduceIte, Nat.reduceEqDiff, Nat.reduceAdd, reduceCtorEq, Q3])
  refine hM _ _ _ ?_; clear hM M
  refine ok_seq (fun M hM => ok_region rfl ?_)
  repeat ((try first | (refine ofX3 hX ?_; clear hX X) | (refine ofX2 hX ?_; clear hX X)); (first|refine wpL_step (fun X hX=>?_)|refine wpH_step (fun X hX=>?_)|refine wpE_step (fun X hX=>?_)|refine wpL_end ?_|refine wpH_end ?_|refine wpE_end ?_); try simp only [zU, forall_const, reduceIte, Nat.reduceEqDiff, Nat.reduceAdd, reduceCtorEq, Q3])
  refine Runs.alloc Fx.zi32 (fun w5 he5 hs5 hb5 => ?_)
  generalize hbz : w4.heap.size = bz at hs5 hb5
  simp only [Value.cells] at hb5
  repeat ((try first | (refine ofX3 hX ?_; clear hX X) | (refine ofX2 hX ?_; clear hX X)); (first|refine wpL_step (fun X hX=>?_)|refine wpH_step (fun X hX=>?_)|refine wpE_step (fun X hX=>?_)|refine wpL_end ?_|refine wpH_end ?_|refine wpE_end ?_); try simp only [zU, forall_const, reduceIte, Nat.reduceEqDiff, Nat.reduceAdd, reduceCtorEq, Q3])
  refine hM _ _ _ ?_; clear hM M
  have hs3 := he3.size
  have hs4 := he4.size
  have hrbl := HeapW.lt hp3
  have hhbl : hb < w3.heap.size := by
    obtain ⟨vs, ps, gs, h1, h2, -⟩ := id hp3
    exact (h2 hb (.inl rfl)).2
  have hqbl : qb < w4.heap.size := by
    obtain ⟨vL, vws, rows, h1, h2⟩ := id hq4
    exact (h2 qb (.inl rfl)).2
  have hne : rb ≠ hb := by
    obtain ⟨vs, ps, gs, h1, h2, h3⟩ := id hp3
    exact fun e => h3 e
  have hS5 : St w5 hb rb qb bz [] [] (fun k => k = hb ∨ k = qb ∨ k = bz) := by
    refine ⟨(· = hb), (· = qb), .slice none 0 0, .slice none 0 0, ⟨(hp3.ext he4).ext he5, hq4.ext he5, hb5, World.ownsRow_nil _ _ _ _, World.ownsRow_nil _ _ _ _, fun k hk => by omega, fun k hk => by omega, fun k hk => by omega, ⟨by omega, fun k hk => by simp [Value.ownBlock]⟩, ⟨by omega, fun k hk => by simp [Value.ownBlock]⟩, by simp [Value.ownBlock], fun k hk => by simp [Value.ownBlock] at hk, ⟨by omega, by omega, by omega, by simp [Value.ownBlock], by simp [Value.ownBlock]⟩⟩, fun k hk => ?_, by omega⟩
    rcases hk with h | h | h | h | h
    · exact .inl h
    · exact .inr (.inl h)
    · exact .inr (.inr h)
    · simp [Value.ownBlock] at h
    · simp [Value.ownBlock] at h
  have he25 : Ext w2 w5 := (he3.trans he4).trans he5
  refine ok_seq (fun M0 hM0 => ?_)
  refine ok_seq (fun M hM => ok_region rfl ?_); repeat ((try first | (refine ofX3 hX ?_; clear hX X) | (refine ofX2 hX ?_; clear hX X)); (first|refine wpL_step (fun X hX=>?_)|refine wpH_step (fun X hX=>?_)|refine wpE_step (fun X hX=>?_)|refine wpL_end ?_|refine wpH_end ?_|refine wpE_end ?_); try simp only [zU, forall_const, reduceIte, Nat.reduceEqDiff, Nat.reduceAdd, reduceCtorEq, Q3])
  refine hM _ _ _ ?_; clear hM M
  refine ok_block ?_
  refine ok_loop (S := Nat) (fun i => [(3, ptrOf hb), (4, ptrOf qb), (5, ptrOf bz), (15, .slice A acts.length c), (16, .int .i64 (acts.length : Int)), (17, .int .i64 (i : Int))])
    (fun i w' => Ext w2 w' ∧ i ≤ acts.length ∧ ∃ F, St w' hb rb qb bz (runP ([], []) (acts.take i)).1 (runP ([], []) (acts.take i)).2 F ∧ ∀ k, F k → w2.heap.size ≤ k ∧ k < w'.heap.size) (fun i => acts.length - i) 0 ?_ ?_ ?_
  · simp [sub, Env.get]
  · exact ⟨he25, Nat.zero_le _, _, hS5, fun k hk => by omega⟩
  rintro i w6 ⟨he6, hi, F, hSt, hFk⟩
  have htl : (acts.take i).length ≤ 30 := by rw [List.length_take]; omega
  have hrun := runP_good (acts.take i) ([], []) GoodH.nil (fun a ha => hfew2 a (List.mem_of_mem_take ha))
  simp only [List.length_nil, Nat.zero_add] at hrun
  have he06 := he02.trans he6
  refine ok_seq (fun M hM => ok_region rfl ?_); repeat ((try first | (refine ofX3 hX ?_; clear hX X) | (refine ofX2 hX ?_; clear hX X)); (first|refine wpL_step (fun X hX=>?_)|refine wpH_step (fun X hX=>?_)|refine wpE_step (fun X hX=>?_)|refine wpL_end ?_|refine wpH_end ?_|refine wpE_end ?_); try simp only [zU, forall_const, reduceIte, Nat.reduceEqDiff, Nat.reduceAdd, reduceCtorEq, Q3])
  refine hM _ _ _ ?_; clear hM M
  refine ok_seq (fun M1 hM1 => ?_)
  refine ok_if rfl (fun hc => ok_skip ?_) (fun hc => ok_exit ?_)
  rotate_left
  · try simp only [zW, zU, reduceIte, Nat.reduceEqDiff, Nat.reduceAdd, reduceCtorEq, Q3]
    refine hM0 _ _ _ ?_; clear hM0 M0 hM1 M1
    obtain ⟨F1, F2, vh, vr, hS6, hFt, hFrb⟩ := hSt
    refine ok_seq (fun M hM => ok_region rfl ?_)
    repeat ((try first | (refine ofX3 hX ?_; clear hX X) | (refine ofX2 hX ?_; clear hX X)); (first|refine wpL_step (fun X hX=>?_)|refine wpH_step (fun X hX=>?_)|refine wpE_step (fun X hX=>?_)|refine wpL_end ?_|refine wpH_end ?_|refine wpE_end ?_); try simp only [zU, forall_const, reduceIte, Nat.reduceEqDiff, Nat.reduceAdd, reduceCtorEq, Q3])
    refine ⟨[vh, vr], rfl, hS6.z.cells (o := 0) (fun j u hj => by simpa using hj), ?_⟩
    repeat ((try first | (refine ofX3 hX ?_; clear hX X) | (refine ofX2 hX ?_; clear hX X)); (first|refine wpL_step (fun X hX=>?_)|refine wpH_step (fun X hX=>?_)|refine wpE_step (fun X hX=>?_)|refine wpL_end ?_|refine wpH_end ?_|refine wpE_end ?_); try simp only [zU, forall_const, reduceIte, Nat.reduceEqDiff, Nat.reduceAdd, reduceCtorEq, Q3])
    refine Inv.call Fx.en10 (asked_ok w6 hb rb qb mk _ F1 F2 ⟨hS6.hp, hS6.rp, hg.ext he06⟩ (by omega) hrun.1 vh vr _ (hS6.slh (by omega)) (hS6.slr (by omega)) (by omega)) ?_
    rintro v w7 ⟨rfl, he7⟩
    repeat ((try first | (refine ofX3 hX ?_; clear hX X) | (refine ofX2 hX ?_; clear hX X)); (first|refine wpL_step (fun X hX=>?_)|refine wpH_step (fun X hX=>?_)|refine wpE_step (fun X hX=>?_)|refine wpL_end ?_|refine wpH_end ?_|refine wpE_end ?_); try simp only [zU, forall_const, reduceIte, Nat.reduceEqDiff, Nat.reduceAdd, reduceCtorEq, Q3])
    refine hM _ _ _ ?_; clear hM M
    refine ok_ret ?_
    exact ⟨rfl, rfl, he06.trans he7⟩
  try simp only [zW, zU, reduceIte, Nat.reduceEqDiff, Nat.reduceAdd, reduceCtorEq, Q3]
  refine hM1 _ _ _ ?_; clear hM1 M1
  have hil : i < acts.length := by omega
  have hxi : acts[i]? = some acts[i] := List.getElem?_eq_getElem hil
  obtain ⟨b, o, row, rfl, hSb, hrc, hrow⟩ := hcell i _ hxi
  have hr11 := hrow.len
  have hone := hrow.one
  refine ok_seq (fun M1 hM1 => ok_block ?_)
  refine ok_seq (fun M hM => ok_region rfl ?_)
  repeat ((try first | (refine ofX3 hX ?_; clear hX X) | (refine ofX2 hX ?_; clear hX X)); (first|refine wpL_step (fun X hX=>?_)|refine wpH_step (fun X hX=>?_)|refine wpE_step (fun X hX=>?_)|refine wpL_end ?_|refine wpH_end ?_|refine wpE_end ?_); try simp only [zU, forall_const, reduceIte, Nat.reduceEqDiff, Nat.reduceAdd, reduceCtorEq, Q3])
  refine ⟨by omega, by omega, ?_⟩
  repeat ((try first | (refine ofX3 hX ?_; clear hX X) | (refine ofX2 hX ?_; clear hX X)); (first|refine wpL_step (fun X hX=>?_)|refine wpH_step (fun X hX=>?_)|refine wpE_step (fun X hX=>?_)|refine wpL_end ?_|refine wpH_end ?_|refine wpE_end ?_); try simp only [zU, forall_const, reduceIte, Nat.reduceEqDiff, Nat.reduceAdd, reduceCtorEq, Q3])
  refine ⟨row, hr11, he06.cellsAt hrc, ?_⟩
  repeat ((try first | (refine ofX3 hX ?_; clear hX X) | (refine ofX2 hX ?_; clear hX X)); (first|refine wpL_step (fun X hX=>?_)|refine wpH_step (fun X hX=>?_)|refine wpE_step (fun X hX=>?_)|refine wpL_end ?_|refine wpH_end ?_|refine wpE_end ?_); try simp only [zU, forall_const, reduceIte, Nat.reduceEqDiff, Nat.reduceAdd, reduceCtorEq, Q3])
  refine Runs.alloc Fx.zi40 (fun w7 he7 hs7 hb7 => ?_)
  generalize hB9 : w6.heap.size = B9 at hs7 hb7
  simp only [Value.cells] at hb7
  repeat ((try first | (refine ofX3 hX ?_; clear hX X) | (refine ofX2 hX ?_; clear hX X)); (first|refine wpL_step (fun X hX=>?_)|refine wpH_step (fun X hX=>?_)|refine wpE_step (fun X hX=>?_)|refine wpL_end ?_|refine wpH_end ?_|refine wpE_end ?_); try simp only [zU, forall_const, reduceIte, Nat.reduceEqDiff, Nat.reduceAdd, reduceCtorEq, Q3])
  refine Runs.store hb7 Fx.zi40 (by simp [Value.cells, hr11]) (by intro u hu; simp [Value.cells] at hu; exact hone u hu) (by simp [Value.cells, hr11]) (fun w8 hc8 hs8 hb8 => ?_)
  rw [splice_all _ _ (by simp [Value.cells, hr11])] at hb8
  simp only [Value.cells] at hb8
  have he68 : Ext w6 w8 := he7.chg_trans hc8 (fun k hk => by omega)
  repeat ((try first | (refine ofX3 hX ?_; clear hX X) | (refine ofX2 hX ?_; clear hX X)); (first|refine wpL_step (fun X hX=>?_)|refine wpH_step (fun X hX=>?_)|refine wpE_step (fun X hX=>?_)|refine wpL_end ?_|refine wpH_end ?_|refine wpE_end ?_); try simp only [zU, forall_const, reduceIte, Nat.reduceEqDiff, Nat.reduceAdd, reduceCtorEq, Q3])
  refine hM _ _ _ ?_; clear hM M
  have hs68 := he68.size
  have htk : acts.take (i + 1) = acts.take i ++ [acts[i]] := List.take_succ_eq_append_getElem hil
  have hSt8 : St w8 hb rb qb bz (runP ([], []) (acts.take i)).1 (runP ([], []) (acts.take i)).2 F := by
    obtain ⟨F1, F2, vh, vr, h1, h2, h3⟩ := hSt
    exact ⟨F1, F2, vh, vr, h1.ext he68, h2, h3⟩
  have hsn : runP ([], []) (acts.take (i + 1)) = (playH (runP ([], []) (acts.take i)).1 (runP ([], []) (acts.take i)).2 acts[i], playL (runP ([], []) (acts.take i)).1 (runP ([], []) (acts.take i)).2 acts[i]) := by rw [htk, runP_snoc]
  refine ok_seq (fun M hM => ok_region rfl ?_)
  repeat ((try first | (refine ofX3 hX ?_; clear hX X) | (refine ofX2 hX ?_; clear hX X)); (first|refine wpL_step (fun X hX=>?_)|refine wpH_step (fun X hX=>?_)|refine wpE_step (fun X hX=>?_)|refine wpL_end ?_|refine wpH_end ?_|refine wpE_end ?_); try simp only [zU, forall_const, reduceIte, Nat.reduceEqDiff, Nat.reduceAdd, reduceCtorEq, Q3])
  refine ⟨row, hr11, hb8.cells (o := 0) (fun j u hj => by simpa using hj), ?_⟩
  repeat ((try first | (refine ofX3 hX ?_; clear hX X) | (refine ofX2 hX ?_; clear hX X)); (first|refine wpL_step (fun X hX=>?_)|refine wpH_step (fun X hX=>?_)|refine wpE_step (fun X hX=>?_)|refine wpL_end ?_|refine wpH_end ?_|refine wpE_end ?_); try simp only [zU, forall_const, reduceIte, Nat.reduceEqDiff, Nat.reduceAdd, reduceCtorEq, Q3])
  have hrow8 : ActR w8 S row acts[i] := hrow.chg ((he06.trans he68).chg (fun _ => False)) (fun k hk => ⟨hk, id⟩)
  have hai := hfew2 acts[i] (List.getElem_mem hil)
  refine Inv.call Fx.en9 (actP_ok w8 hb rb qb bz _ _ F hSt8 mk (hg.ext (he06.trans he68)) ⟨fun h => by have := hFk _ h; omega, fun h => by have := hFk _ h; omega, fun h => by have := hFk _ h; omega⟩ S row acts[i] hrow8 (fun k hk => ⟨fun h => by have := hFk _ h; have := hS k hk; omega, by have := hS k hk; have := (he06.trans he68).size; omega⟩) (fun k hk => by have := hFk k hk; omega) (by omega) (by omega) (by omega) hrun.1) ?_
  rintro v w9 ⟨rfl, hc9, F9, hSt9, hF9⟩
  have hs9 := hc9.size
  have hs6 := he6.size
  repeat ((try first | (refine ofX3 hX ?_; clear hX X) | (refine ofX2 hX ?_; clear hX X)); (first|refine wpL_step (fun X hX=>?_)|refine wpH_step (fun X hX=>?_)|refine wpE_step (fun X hX=>?_)|refine wpL_end ?_|refine wpH_end ?_|refine wpE_end ?_); try simp only [zU, forall_const, reduceIte, Nat.reduceEqDiff, Nat.reduceAdd, reduceCtorEq, Q3])
  refine hM _ _ _ ?_; clear hM M
  refine ok_cond (b := false) rfl (fun h => by cases h) (fun _ => ok_skip ?_)
  try simp only [zW, zU, reduceIte, Nat.reduceEqDiff, Nat.reduceAdd, reduceCtorEq, Q3]
  refine hM1 _ _ _ ?_; clear hM1 M1
  refine ok_region rfl ?_
  repeat ((try first | (refine ofX3 hX ?_; clear hX X) | (refine ofX2 hX ?_; clear hX X)); (first|refine wpL_step (fun X hX=>?_)|refine wpH_step (fun X hX=>?_)|refine wpE_step (fun X hX=>?_)|refine wpL_end ?_|refine wpH_end ?_|refine wpE_end ?_); try simp only [zU, forall_const, reduceIte, Nat.reduceEqDiff, Nat.reduceAdd, reduceCtorEq, Q3])
  refine ⟨by simp only [inI]; omega, ?_⟩
  repeat ((try first | (refine ofX3 hX ?_; clear hX X) | (refine ofX2 hX ?_; clear hX X)); (first|refine wpL_step (fun X hX=>?_)|refine wpH_step (fun X hX=>?_)|refine wpE_step (fun X hX=>?_)|refine wpL_end ?_|refine wpH_end ?_|refine wpE_end ?_); try simp only [zU, forall_const, reduceIte, Nat.reduceEqDiff, Nat.reduceAdd, reduceCtorEq, Q3])
  refine ⟨i + 1, by simp [sub, Env.get], ⟨(he6.trans he68).chg_trans hc9 (fun k hk => (hFk k hk).1), by omega, F9, by rw [hsn]; exact hSt9, fun k hk => ?_⟩, by omega⟩
  rcases hF9 k hk with h | h
  · have := hFk k h; omega
  · omega
end Go.Proofs.YtldeokfhipjbfaaGreatDoor
/- HeapPlays: for every list of acts, whatever they are, the law returns true, and what came in reads as it did. No condition but the row's own: the two listed variables of the heap's package read as the program's text lays them. -/
set_option linter.unusedVariables false
set_option linter.unusedSimpArgs false
namespace Go.Proofs.YtldeokfhipjbfaaGreatDoor
open Go Go.Proofs.Vg Go.RowKit Go.Deep Go.ChangeShapes Go.WideShapes Go.ChangeAt

/-- The door's own heap meets the condition. -/
theorem door_met (os : Os) (args : Array Value) : laidMetH Tryz.prog laid2 ((World.doorLaid Tryz.prog 400 os).forCall (fun _ _ => 0) ⟨#[], args, []⟩).memory :=
  laidMetH_of_parts3 (fuel := 8) (laidMet_of_run' 8 (by kernel_rfl) (by kernel_rfl)) (by kernel_rfl) (by kernel_rfl)

set_option maxRecDepth 100000 in
theorem heapPlays_lifted (os : Os) (started : os.Started) (H : Type) (enc : TypeId × Value → H) :
    ReturnsInHanded {} Tryz.checked os 3 .any (fun w args => (Rows.heapPlaysSpec.pre enc Tryz.prog Tryz.f3 [] false w args ∧ laidMetH Tryz.prog laid2 w) ∧ sizedMet enc Tryz.prog Tryz.f3 (OpenSpec.ofChange Rows.heapPlaysSpec) false w args)
      (Rows.heapPlaysSpec.post enc Tryz.prog Tryz.f3 false true false false) := by
  refine returnsInHanded_of_change_and (C := Tryz.checked) (X := fun w _ => laidMetH Tryz.prog laid2 w) (fun _ _ _ hh h => h.of_heap hh) own36 started (by kernel_rfl) Tryz.func3
    (ChangeSpec.witness_shaped (enc := enc) (C := Tryz.checked) (os := os) (X := fun w _ => laidMetH Tryz.prog laid2 w) false (World.doorLaid Tryz.prog 400 os) #[.slice none 0 0] 8 rfl (World.shaped_of_RefB (by kernel_rfl) (by kernel_rfl)) (by kernel_rfl) (by kernel_rfl) (by kernel_rfl) (door_met os _)) ?_
  intro W base args ds gs before hval0 hW _ hsz0 hL _
  have hval : ∀ (j : Nat) t v, Tryz.f3.params[j]? = some t → args[j]? = some v → Value.okWide Tryz.prog W .any base t v := hval0
  have hW' := hW
  obtain ⟨p, q, hA0, hV, rfl, hfz, hnd⟩ := hW
  have hA : DataW.TrodAll enc Tryz.prog W 0 (fun _ => true) true Tryz.f3.params.toList args.toList ds p := hA0
  have hsz : (DataW.weightsEach Tryz.prog (Tryz.f3.params.toList ++ []) (ds ++ gs)).all (· ≤ reachBytes) = true := hsz0
  rw [Tryz.params3] at hA hval hsz
  obtain ⟨v0, d0, rfl, rfl, h0⟩ := trodAll_one hA
  obtain ⟨rfl, rfl⟩ := trodVars_none hV
  obtain ⟨mk, hG⟩ := of_laid hL
  clear hA0 hval0 hsz0
  simp only [List.append_nil] at hW'
  have h0' := h0
  obtain ⟨n0, g0⟩ := h0
  obtain ⟨u0, acts, e0, hA0⟩ := rd_acts g0 (small_of_all hsz (j := 0) rfl rfl)
  obtain ⟨a0, l0, c0, rfl⟩ := okWide_slice Fx.un22 (hval 0 22 v0 rfl rfl)
  obtain rfl : Value.slice a0 l0 c0 = u0 := by simpa [Value.cells] using e0
  have hlt := hW'.lt
  refine Calls.mono (HeapPlays_ok W mk hG _ _ acts hA0 (fun k hk => hk)) fun e W' he => ?_
  cases e <;> simp only [callR] at he
  obtain ⟨rfl, hx⟩ := he
  exact ⟨_, rfl, post_ext rfl hW' hx (fun _ _ _ => trodAll_mk1 (shut_bool (by kernel_rfl) _))
    (fun sp hsp => trodAll_mk1 (Trod_ext laid36 rr22 (by decide +kernel) h0' hx (fun x hx => hlt x hx) (fun x hx => hsp x hx))) rfl⟩

theorem heapPlays_holds0 : Rows.HeapPlaysSaid :=
  OpenClaim.holds_of_wide 3 Tryz.f3 rfl rfl rfl rfl rfl rfl rfl ⟨rfl, rfl, rfl, rfl, rfl⟩ rfl rfl rfl rfl rfl (by kernel_rfl) Tryz.func3 (by kernel_rfl)
    (of_decide_eq_true (by kernel_rfl)) (by unfold Func.isWrapper; first | (rw [if_pos (by decide +kernel)]; kernel_rfl) | (rw [if_neg (by decide +kernel)]; exact ⟨rfl, rfl⟩))
    (fun os started H enc _ => heapPlays_lifted os started H enc)

theorem heapPlays_holds : Rows.HeapPlaysCardSaid :=
  Claim7.holds_tied_plain_at .later [] [.mapped, .data] true (true, "e02bab49af59349f6e08261c09bc89bc785096cf90b8782bb9742aeb95cefeaf") false
    heapPlays_holds0 (fun _ h => by cases h) (by kernel_rfl) (fun _ h => by cases h) heapPlays_row_tie rfl ⟨rfl, rfl⟩ (by kernel_rfl) rfl
    (fun f fn hf hfn => by
      obtain rfl : f = 3 := Option.some.inj ((show Tryz.prog.funcNamed "cinnabar/cinnabarlaw36.HeapPlays" = some 3 by kernel_rfl).symm.trans hf) |>.symm
      obtain rfl : fn = Tryz.f3 := (Option.some.inj (Tryz.func3.symm.trans hfn)).symm
      exact ⟨by kernel_rfl, fun j t ht => by
        rw [Tryz.params3] at ht
        have hm : t ∈ [22] := by simpa using Array.mem_of_getElem? ht
        have hall : ([22].all fun u => !Tryz.prog.wantsStandIn u) = true := by kernel_rfl
        exact (show Tryz.prog.wantsStandIn t = false by simpa using List.all_eq_true.1 hall t hm)⟩)
    (by kernel_rfl)
#print axioms heapPlays_holds
end Go.Proofs.YtldeokfhipjbfaaGreatDoor
