/- Part 4 of 13: H2, H3, Vg22, H4, H5, H6, H7, H8. -/
import Derived.Test.YtldeokfhipjbfaaGreatDoorM3
import Derived.Test.YtldeokfhipjbfaaGreatDoorM2
import Derived.Maps.AppendAt
import Derived.Laws.Tables
/- object, args, the rules of words. -/
set_option linter.unusedVariables false
set_option linter.unusedSimpArgs false
namespace Go.Proofs.YtldeokfhipjbfaaGreatDoor
open Go Go.Proofs.Vg Go.RowKit
abbrev wv (x : Wd) : Value := .agg x.row.toArray
abbrev iw (x : Wd) : Prop := inI .i64 x.r

theorem objAt_lt {H : List Ob} {r : Int} (h : r < 1) : objAt H r = none := by unfold objAt; rw [if_neg (by omega)]
theorem objAt_gt {H : List Ob} {r : Int} (h : (H.length : Int) < r) : objAt H r = none := by
  unfold objAt
  split
  · exact List.getElem?_eq_none (by omega)
  · rfl
theorem objAt_in {H : List Ob} {r : Int} (h1 : 1 ≤ r) (h2 : r ≤ (H.length : Int)) : ∃ (i : Nat) (o : Ob), r = (i : Int) + 1 ∧ i < H.length ∧ H[i]? = some o ∧ objAt H r = some o := by
  have hi : (r - 1).toNat < H.length := by omega
  refine ⟨(r - 1).toNat, H[(r - 1).toNat], by omega, hi, List.getElem?_eq_getElem hi, ?_⟩
  unfold objAt; rw [if_pos h1]; exact List.getElem?_eq_getElem hi

-- -- function 57
set_option maxHeartbeats 2000000 in
set_option maxRecDepth 8000 in
theorem object_ok (w : World) (hb rb : Nat) (vs : Value) (ps gs : List Nat) (H : List Ob) (hH : HeapR w hb rb vs ps gs H) (hl : H.length ≤ 1073741824) (r : Int) :
    Rets Tryz.prog 57 [ptrOf hb, .int .i64 r] w (fun v w' => w' = w ∧ ((objAt H r = none ∧ v = .pointer none) ∨ ∃ (i p g : Nat) (o : Ob), objAt H r = some o ∧ r = (i : Int) + 1 ∧ H[i]? = some o ∧ ps[i]? = some p ∧ gs[i]? = some g ∧ v = ptrOf p)) := by
  obtain ⟨A, c, hv, hlen, hcell⟩ := hH.sli hl
  have hL : (ps.map fun p => [ptrOf p]).length = H.length := by simp [hH.lenp]
  rw [hL] at hv
  have hh0 : w.cell? ⟨hb, 0, none⟩ = some (.slice A H.length c) := by rw [← hv]; exact hH.head.cell rfl
  refine rets_of_ok Tryz.func57 rfl rfl ?_
  refine ok_seq (fun M hM => ok_region rfl ?_); (try revert X); refine t57 ?_; intro X hX
  refine hM _ _ _ ?_; clear hM M
  refine ok_join [(0, ptrOf hb), (1, .int .i64 r)] (fun w' => w' = w ∧ 1 ≤ r ∧ r ≤ (H.length : Int)) ?_ ?_
  · refine ok_seq (fun M hM => ok_region rfl ?_)
    (try revert X); refine t57 ?_; intro X hX
    refine ⟨fun h => ?_, fun h => ?_⟩
    · have h1 : ¬ r < 1 := by simpa using h
      clear h
      (try revert X); refine t57 ?_; intro X hX
      refine ⟨_, hh0, ?_⟩
      (try revert X); refine t57 ?_; intro X hX
      refine hM _ _ _ ?_; clear hM M
      refine ok_if rfl (fun hc => ?_) (fun hc => ok_skip ?_)
      · refine ok_seq (fun M hM => ok_region rfl ?_); (try revert X); refine t57 ?_; intro X hX
        refine hM _ _ _ ?_; clear hM M
        refine ok_ret ?_
        try simp only [zW, zU, reduceIte, Nat.reduceEqDiff, Nat.reduceAdd, reduceCtorEq, Q57]
        have hq := objAt_gt (H := H) (r := r) (by omega); first | exact .inl ⟨hq, rfl⟩ | exact .inl hq | exact hq
      · try simp only [zW, zU, reduceIte, Nat.reduceEqDiff, Nat.reduceAdd, reduceCtorEq, Q57]
        exact ⟨by simp [sub, Env.get], by omega, by omega⟩
    · (try revert X); refine t57 ?_; intro X hX
      refine hM _ _ _ ?_; clear hM M
      refine ok_cond rfl (fun _ => ?_) (fun h => by cases h)
      refine ok_seq (fun M hM => ok_region rfl ?_); (try revert X); refine t57 ?_; intro X hX
      refine hM _ _ _ ?_; clear hM M
      refine ok_ret ?_
      try simp only [zW, zU, reduceIte, Nat.reduceEqDiff, Nat.reduceAdd, reduceCtorEq, Q57]
      have hq := objAt_lt (H := H) (r := r) (by simpa using h); first | exact .inl ⟨hq, rfl⟩ | exact .inl hq | exact hq
  rintro w' ⟨rfl, h1, h2⟩
  obtain ⟨i, o, rfl, hi, ho, hoo⟩ := objAt_in h1 h2
  obtain ⟨p, g, hp, hg, -⟩ := hH.at_ ho
  obtain ⟨b, off, rfl, hcc⟩ := hcell i [ptrOf p] (by rw [List.getElem?_map, hp]; rfl)
  have hc0 := hcc 0 _ rfl
  refine ok_seq (fun M hM => ok_region rfl ?_)
  (try revert X); refine t57 ?_; intro X hX
  refine ⟨_, hh0, ?_⟩
  (try revert X); refine t57 ?_; intro X hX
  refine ⟨by simp only [inI]; omega, ?_⟩
  (try revert X); refine t57 ?_; intro X hX
  have e1 : ((i : Int) + 1 - 1).toNat = i := by omega
  refine ⟨by omega, by omega, ?_⟩
  (try revert X); refine t57 ?_; intro X hX
  refine ⟨_, by rw [e1]; simpa [add_at] using hc0, ?_⟩
  (try revert X); refine t57 ?_; intro X hX
  refine hM _ _ _ ?_; clear hM M
  refine ok_ret ?_
  try simp only [zW, zU, reduceIte, Nat.reduceEqDiff, Nat.reduceAdd, reduceCtorEq, Q57]
  exact .inr ⟨i, p, g, o, hoo, rfl, ho, hp, hg, rfl⟩

-- -- function 61
set_option maxHeartbeats 2000000 in
set_option maxRecDepth 8000 in
theorem number_ok (w : World) (x : Wd) : Rets Tryz.prog 61 [wv x] w (fun v w' => v = .bool (decide (x.r = 0)) ∧ Ext w w') := by
  refine rets_of_ok Tryz.func61 rfl rfl ?_
  refine ok_seq (fun M hM => ok_region rfl ?_)
  (try revert X); refine t61 ?_; intro X hX
  refine Runs.box (fun w1 he1 hs1 hb1 => ?_)
  simp only [Value.cells, Wd.row] at hb1
  (try revert X); refine t61 ?_; intro X hX
  refine hM _ _ _ ?_; clear hM M
  refine ok_seq (fun M hM => ok_region rfl ?_)
  (try revert X); refine t61 ?_; intro X hX
  refine ⟨_, hb1.cell (j := 2) rfl, ?_⟩
  (try revert X); refine t61 ?_; intro X hX
  refine hM _ _ _ ?_; clear hM M
  refine ok_ret ?_
  try simp only [zW, zU, reduceIte, Nat.reduceEqDiff, Nat.reduceAdd, reduceCtorEq, Q61]
  exact he1

-- -- function 62
set_option maxHeartbeats 2000000 in
set_option maxRecDepth 8000 in
theorem none_ok (w : World) (x : Wd) : Rets Tryz.prog 62 [wv x] w (fun v w' => v = .bool (decide (x.n = 0) && decide (x.r = 0)) ∧ Ext w w') := by
  refine rets_of_ok Tryz.func62 rfl rfl ?_
  refine ok_seq (fun M hM => ok_region rfl ?_)
  (try revert X); refine t62 ?_; intro X hX
  refine Runs.box (fun w1 he1 hs1 hb1 => ?_)
  simp only [Value.cells, Wd.row] at hb1
  (try revert X); refine t62 ?_; intro X hX
  refine hM _ _ _ ?_; clear hM M
  refine ok_seq (fun M hM => ok_region rfl ?_)
  (try revert X); refine t62 ?_; intro X hX
  refine ⟨_, hb1.cell (j := 1) rfl, ?_⟩
  (try revert X); refine t62 ?_; intro X hX
  refine ⟨fun h => ?_, fun h => ?_⟩
  · (try revert X); refine t62 ?_; intro X hX
    refine ⟨_, hb1.cell (j := 2) rfl, ?_⟩
    (try revert X); refine t62 ?_; intro X hX
    refine hM _ _ _ ?_; clear hM M
    refine ok_ret ?_
    try simp only [zW, zU, reduceIte, Nat.reduceEqDiff, Nat.reduceAdd, reduceCtorEq, Q62]
    have : x.n = 0 := by simpa using h
    simp [this, he1]
  · (try revert X); refine t62 ?_; intro X hX
    refine hM _ _ _ ?_; clear hM M
    refine ok_ret ?_
    try simp only [zW, zU, reduceIte, Nat.reduceEqDiff, Nat.reduceAdd, reduceCtorEq, Q62]
    have : ¬ x.n = 0 := by simpa using h
    simp [this, he1]

-- -- function 63
set_option maxHeartbeats 2000000 in
set_option maxRecDepth 8000 in
theorem isText_ok (w : World) (hb rb : Nat) (H : List Ob) (F : Nat → Prop) (hH : HeapW w hb rb H F) (hl : H.length ≤ 1073741824) (x : Wd) :
    Rets Tryz.prog 63 [ptrOf hb, wv x] w (fun v w' => v = .bool (decide (x.n = 0) && isTextO (objAt H x.r)) ∧ Ext w w') := by
  refine rets_of_ok Tryz.func63 rfl rfl ?_
  refine ok_seq (fun M hM => ok_region rfl ?_)
  (try revert X); refine t63 ?_; intro X hX
  refine Runs.box (fun w1 he1 hs1 hb1 => ?_)
  simp only [Value.cells, Wd.row] at hb1
  obtain ⟨vs, ps, gs, hR, -⟩ := hH.ext he1
  (try revert X); refine t63 ?_; intro X hX
  refine hM _ _ _ ?_; clear hM M
  refine ok_seq (fun M hM => ok_region rfl ?_)
  (try revert X); refine t63 ?_; intro X hX
  refine ⟨_, hb1.cell (j := 2) rfl, ?_⟩
  (try revert X); refine t63 ?_; intro X hX
  refine Inv.call Fx.en57 (object_ok w1 hb rb vs ps gs H hR hl x.r) ?_
  rintro v w' ⟨rfl, hv⟩
  (try revert X); refine t63 ?_; intro X hX
  refine hM _ _ _ ?_; clear hM M
  refine ok_seq (fun M hM => ok_region rfl ?_)
  (try revert X); refine t63 ?_; intro X hX
  refine ⟨_, hb1.cell (j := 1) rfl, ?_⟩
  (try revert X); refine t63 ?_; intro X hX
  refine ⟨fun h => ?_, fun h => ?_⟩
  · have hn : x.n = 0 := by simpa using h
    rcases hv with ⟨ho, rfl⟩ | ⟨i, p, g, o, ho, hr, hi, hp, hg, rfl⟩
    · (try revert X); refine t63 ?_; intro X hX
      refine Runs.ptrNe Fx.un103 ?_
      (try revert X); refine t63 ?_; intro X hX
      refine hM _ _ _ ?_; clear hM M
      refine ok_ret ?_
      try simp only [zW, zU, reduceIte, Nat.reduceEqDiff, Nat.reduceAdd, reduceCtorEq, Q63]
      simp [hn, ho, isTextO, he1]
    · (try revert X); refine t63 ?_; intro X hX
      refine Runs.ptrNe Fx.un103 ?_
      (try revert X); refine t63 ?_; intro X hX
      have hob := hR.obj i p g o hp hg hi
      have hcell : w'.cell? ⟨p, 2, none⟩ = some (.bool (isTextO (some o))) := by
        cases o with
        | text s => exact Blk.cell hob rfl
        | words s l => obtain ⟨lv, h1, h2⟩ := hob; exact h1.cell rfl
      refine ⟨_, hcell, ?_⟩
      (try revert X); refine t63 ?_; intro X hX
      refine hM _ _ _ ?_; clear hM M
      refine ok_ret ?_
      try simp only [zW, zU, reduceIte, Nat.reduceEqDiff, Nat.reduceAdd, reduceCtorEq, Q63]
      simp [hn, ho, he1]
  · (try revert X); refine t63 ?_; intro X hX
    refine hM _ _ _ ?_; clear hM M
    refine ok_ret ?_
    try simp only [zW, zU, reduceIte, Nat.reduceEqDiff, Nat.reduceAdd, reduceCtorEq, Q63]
    have : ¬ x.n = 0 := by simpa using h
    simp [this, he1]
end Go.Proofs.YtldeokfhipjbfaaGreatDoor
/- The rules of words; Right; args. -/
set_option linter.unusedVariables false
set_option linter.unusedSimpArgs false
namespace Go.Proofs.Vg
open Go Go.RowKit
theorem Inv.bound {P : Program} {w : World} {R : Value → World → Prop} {next : Value → World → Prop} {pan : List PanicEntry → World → Prop} {f : FuncId} {first args : List Value} (hen : ∀ (xs : Array Value) (w : World), (callFunc f xs).run P w = .ok (.enter f xs) w) (h : Rets P f (first ++ args) w R) (hn : ∀ v w', R v w' → next v w') :
    Inv P (.func (.func f) first.toArray #[]) args w (callR next pan) := by
  have := Inv.clos (P := P) (w := w) (R := R) (next := next) (pan := pan) (f := f) (args := first ++ args) (cap := []) hen (by simpa using h) hn
  rcases this with ⟨f', fi, ca, h1, h2, h3⟩ | ⟨l, fi, ca, fn, tmps, assign, body, h1, _⟩
  · cases h1
    exact .inl ⟨f, first.toArray, #[], rfl, h2, by simpa using h3⟩
  · cases h1
end Go.Proofs.Vg
namespace Go.Proofs.YtldeokfhipjbfaaGreatDoor
open Go Go.Proofs.Vg Go.RowKit

/-- What an object tells: is it a text, its sort. -/
def obText : Ob → Bool
  | .text _ => true
  | _ => false
def obSort : Ob → Int
  | .text _ => 0
  | .words s _ => s
theorem ObW.text {w : World} {p g : Nat} {o : Ob} (h : ObW w p g o) : w.cell? ⟨p, 2, none⟩ = some (.bool (obText o)) := by
  cases o with
  | text s => exact Blk.cell h rfl
  | words s l => obtain ⟨lv, h1, h2⟩ := h; exact h1.cell rfl
theorem ObW.sort {w : World} {p g : Nat} {o : Ob} (h : ObW w p g o) : w.cell? ⟨p, 3, none⟩ = some (.int .i64 (obSort o)) := by
  cases o with
  | text s => exact Blk.cell h rfl
  | words s l => obtain ⟨lv, h1, h2⟩ := h; exact h1.cell rfl
theorem isDataO_some (o : Ob) : isDataO (some o) = (!obText o && !decide (obSort o = 7)) := by cases o with
  | text s => rfl
  | words s l => by_cases h : s = 7 <;> simp [isDataO, obText, obSort, h]
theorem isArrO_some (o : Ob) : isArrO (some o) = (!obText o && decide (obSort o = 7)) := by cases o with
  | text s => rfl
  | words s l => by_cases h : s = 7 <;> simp [isArrO, obText, obSort, h]

-- -- function 64
set_option maxHeartbeats 2000000 in
set_option maxRecDepth 8000 in
theorem isData_ok (w : World) (hb rb : Nat) (H : List Ob) (F : Nat → Prop) (hH : HeapW w hb rb H F) (hl : H.length ≤ 1073741824) (x : Wd) :
    Rets Tryz.prog 64 [ptrOf hb, wv x] w (fun v w' => v = .bool (decide (x.r = 0) || isDataO (objAt H x.r)) ∧ Ext w w') := by
  refine rets_of_ok Tryz.func64 rfl rfl ?_
  refine ok_seq (fun M hM => ok_region rfl ?_)
  (try revert X); refine t64 ?_; intro X hX
  refine Runs.box (fun w1 he1 hs1 hb1 => ?_)
  simp only [Value.cells, Wd.row] at hb1
  obtain ⟨vs, ps, gs, hR, -⟩ := hH.ext he1
  (try revert X); refine t64 ?_; intro X hX
  refine hM _ _ _ ?_; clear hM M
  refine ok_seq (fun M hM => ok_region rfl ?_)
  (try revert X); refine t64 ?_; intro X hX
  refine ⟨_, hb1.cell (j := 2) rfl, ?_⟩
  (try revert X); refine t64 ?_; intro X hX
  refine Inv.call Fx.en57 (object_ok w1 hb rb vs ps gs H hR hl x.r) ?_
  rintro v w' ⟨rfl, hv⟩
  (try revert X); refine t64 ?_; intro X hX
  refine hM _ _ _ ?_; clear hM M
  refine ok_seq (fun M hM => ok_region rfl ?_)
  (try revert X); refine t64 ?_; intro X hX
  refine ⟨_, hb1.cell (j := 2) rfl, ?_⟩
  (try revert X); refine t64 ?_; intro X hX
  refine ⟨fun h => ?_, fun h => ?_⟩
  · have hn : ¬ x.r = 0 := by simpa using h
    rcases hv with ⟨ho, rfl⟩ | ⟨i, p, g, o, ho, hr, hi, hp, hg, rfl⟩
    · (try revert X); refine t64 ?_; intro X hX
      refine Runs.ptrNe Fx.un103 ?_
      (try revert X); refine t64 ?_; intro X hX
      simp only [hn, decide_false]
      (try revert X); refine t64 ?_; intro X hX
      refine hM _ _ _ ?_; clear hM M
      refine ok_ret ?_
      try simp only [zW, zU, reduceIte, Nat.reduceEqDiff, Nat.reduceAdd, reduceCtorEq, Q64]
      simp [hn, ho, isDataO, he1]
    · (try revert X); refine t64 ?_; intro X hX
      refine Runs.ptrNe Fx.un103 ?_
      (try revert X); refine t64 ?_; intro X hX
      have hob := hR.obj i p g o hp hg hi
      refine ⟨_, ObW.text hob, ?_⟩
      (try revert X); refine t64 ?_; intro X hX
      simp only [hn, decide_false]
      (try revert X); refine t64 ?_; intro X hX
      refine ⟨fun h => ?_, fun h => ?_⟩
      · (try revert X); refine t64 ?_; intro X hX
        refine ⟨_, ObW.sort hob, ?_⟩
        (try revert X); refine t64 ?_; intro X hX
        refine hM _ _ _ ?_; clear hM M
        refine ok_ret ?_
        try simp only [zW, zU, reduceIte, Nat.reduceEqDiff, Nat.reduceAdd, reduceCtorEq, Q64]
        have ht : obText o = false := by simpa using h
        simp [hn, ho, he1, isDataO_some, ht]
      · (try revert X); refine t64 ?_; intro X hX
        refine hM _ _ _ ?_; clear hM M
        refine ok_ret ?_
        try simp only [zW, zU, reduceIte, Nat.reduceEqDiff, Nat.reduceAdd, reduceCtorEq, Q64]
        have ht : obText o = true := by simpa using h
        simp [hn, ho, he1, isDataO_some, ht]
  · (try revert X); refine t64 ?_; intro X hX
    refine hM _ _ _ ?_; clear hM M
    refine ok_ret ?_
    try simp only [zW, zU, reduceIte, Nat.reduceEqDiff, Nat.reduceAdd, reduceCtorEq, Q64]
    have : x.r = 0 := by simpa using h
    simp [this, he1]

-- -- function 65
set_option maxHeartbeats 2000000 in
set_option maxRecDepth 8000 in
theorem isArray_ok (w : World) (hb rb : Nat) (H : List Ob) (F : Nat → Prop) (hH : HeapW w hb rb H F) (hl : H.length ≤ 1073741824) (x : Wd) :
    Rets Tryz.prog 65 [ptrOf hb, wv x] w (fun v w' => v = .bool (decide (x.n = 0) && isArrO (objAt H x.r)) ∧ Ext w w') := by
  refine rets_of_ok Tryz.func65 rfl rfl ?_
  refine ok_seq (fun M hM => ok_region rfl ?_)
  (try revert X); refine t65 ?_; intro X hX
  refine Runs.box (fun w1 he1 hs1 hb1 => ?_)
  simp only [Value.cells, Wd.row] at hb1
  obtain ⟨vs, ps, gs, hR, -⟩ := hH.ext he1
  (try revert X); refine t65 ?_; intro X hX
  refine hM _ _ _ ?_; clear hM M
  refine ok_seq (fun M hM => ok_region rfl ?_)
  (try revert X); refine t65 ?_; intro X hX
  refine ⟨_, hb1.cell (j := 2) rfl, ?_⟩
  (try revert X); refine t65 ?_; intro X hX
  refine Inv.call Fx.en57 (object_ok w1 hb rb vs ps gs H hR hl x.r) ?_
  rintro v w' ⟨rfl, hv⟩
  (try revert X); refine t65 ?_; intro X hX
  refine hM _ _ _ ?_; clear hM M
  refine ok_seq (fun M hM => ok_region rfl ?_)
  (try revert X); refine t65 ?_; intro X hX
  refine ⟨_, hb1.cell (j := 1) rfl, ?_⟩
  (try revert X); refine t65 ?_; intro X hX
  refine ⟨fun h => ?_, fun h => ?_⟩
  · have hn : x.n = 0 := by simpa using h
    rcases hv with ⟨ho, rfl⟩ | ⟨i, p, g, o, ho, hr, hi, hp, hg, rfl⟩
    · (try revert X); refine t65 ?_; intro X hX
      refine Runs.ptrNe Fx.un103 ?_
      (try revert X); refine t65 ?_; intro X hX
      refine hM _ _ _ ?_; clear hM M
      refine ok_ret ?_
      try simp only [zW, zU, reduceIte, Nat.reduceEqDiff, Nat.reduceAdd, reduceCtorEq, Q65]
      simp [hn, ho, isArrO, he1]
    · (try revert X); refine t65 ?_; intro X hX
      refine Runs.ptrNe Fx.un103 ?_
      (try revert X); refine t65 ?_; intro X hX
      have hob := hR.obj i p g o hp hg hi
      refine ⟨_, ObW.text hob, ?_⟩
      (try revert X); refine t65 ?_; intro X hX
      refine ⟨fun h => ?_, fun h => ?_⟩
      · (try revert X); refine t65 ?_; intro X hX
        refine ⟨_, ObW.sort hob, ?_⟩
        (try revert X); refine t65 ?_; intro X hX
        refine hM _ _ _ ?_; clear hM M
        refine ok_ret ?_
        try simp only [zW, zU, reduceIte, Nat.reduceEqDiff, Nat.reduceAdd, reduceCtorEq, Q65]
        have ht : obText o = false := by simpa using h
        simp [hn, ho, he1, isArrO_some, ht]
      · (try revert X); refine t65 ?_; intro X hX
        refine hM _ _ _ ?_; clear hM M
        refine ok_ret ?_
        try simp only [zW, zU, reduceIte, Nat.reduceEqDiff, Nat.reduceAdd, reduceCtorEq, Q65]
        have ht : obText o = true := by simpa using h
        simp [hn, ho, he1, isArrO_some, ht]
  · (try revert X); refine t65 ?_; intro X hX
    refine hM _ _ _ ?_; clear hM M
    refine ok_ret ?_
    try simp only [zW, zU, reduceIte, Nat.reduceEqDiff, Nat.reduceAdd, reduceCtorEq, Q65]
    have : ¬ x.n = 0 := by simpa using h
    simp [this, he1]

theorem rule_ok {w : World} {hb rb : Nat} {H : List Ob} {F : Nat → Prop} (hH : HeapW w hb rb H F) (hl : H.length ≤ 1073741824) {x : Wd} {fv : Value} (hf : ruleF hb x.k = some fv) {next : Value → World → Prop} {pan : List PanicEntry → World → Prop}
    (hn : ∀ w', Ext w w' → next (.bool (rightW H x)) w') : Inv Tryz.prog fv [wv x] w (callR next pan) := by
  unfold ruleF at hf
  split at hf
  · rename_i h0
    cases hf
    refine Inv.call Fx.en62 (none_ok w x) ?_
    rintro v w' ⟨rfl, he⟩
    have := hn w' he
    unfold rightW at this
    rwa [if_pos h0] at this
  rename_i h0
  split at hf
  · rename_i h1
    cases hf
    refine Inv.call Fx.en61 (number_ok w x) ?_
    rintro v w' ⟨rfl, he⟩
    have := hn w' he
    unfold rightW at this
    rwa [if_neg h0, if_pos h1] at this
  rename_i h1
  split at hf
  · rename_i h2
    cases hf
    refine Inv.bound (first := [ptrOf hb]) Fx.en63 (isText_ok w hb rb H F hH hl x) ?_
    rintro v w' ⟨rfl, he⟩
    have := hn w' he
    unfold rightW at this
    rwa [if_neg h0, if_neg h1, if_pos h2] at this
  rename_i h2
  split at hf
  · rename_i h3
    cases hf
    refine Inv.bound (first := [ptrOf hb]) Fx.en64 (isData_ok w hb rb H F hH hl x) ?_
    rintro v w' ⟨rfl, he⟩
    have := hn w' he
    unfold rightW at this
    rwa [if_neg h0, if_neg h1, if_neg h2, if_pos h3] at this
  rename_i h3
  split at hf
  · rename_i h4
    cases hf
    refine Inv.bound (first := [ptrOf hb]) Fx.en65 (isArray_ok w hb rb H F hH hl x) ?_
    rintro v w' ⟨rfl, he⟩
    have := hn w' he
    unfold rightW at this
    rwa [if_neg h0, if_neg h1, if_neg h2, if_neg h3, if_pos h4] at this
  · cases hf
theorem rule_none {H : List Ob} {hb : Nat} {x : Wd} (hf : ruleF hb x.k = none) : rightW H x = false := by
  unfold ruleF at hf
  unfold rightW
  split at hf
  · cases hf
  split at hf
  · cases hf
  split at hf
  · cases hf
  split at hf
  · cases hf
  split at hf
  · cases hf
  simp [*]

-- -- function 12
set_option maxHeartbeats 2000000 in
set_option maxRecDepth 8000 in
theorem right_ok (w : World) (hb rb : Nat) (H : List Ob) (F : Nat → Prop) (hH : HeapW w hb rb H F) (hl : H.length ≤ 1073741824) (x : Wd) :
    Rets Tryz.prog 12 [ptrOf hb, wv x] w (fun v w' => v = .bool (rightW H x) ∧ Ext w w') := by
  refine rets_of_ok Tryz.func12 rfl rfl ?_
  refine ok_seq (fun M hM => ok_region rfl ?_)
  (try revert X); refine t12 ?_; intro X hX
  refine Runs.box (fun w1 he1 hs1 hb1 => ?_)
  generalize hB : w.heap.size = B at *
  simp only [Value.cells, Wd.row] at hb1
  have hH1 := hH.ext he1
  (try revert X); refine t12 ?_; intro X hX
  refine hM _ _ _ ?_; clear hM M
  refine ok_join [(0, ptrOf hb), (3, ptrOf B)] (fun w' => w' = w1) ?_ ?_
  · refine ok_seq (fun M hM => ok_region rfl ?_)
    (try revert X); refine t12 ?_; intro X hX
    refine Runs.ptrEq Fx.un25 ?_
    (try revert X); refine t12 ?_; intro X hX
    refine hM _ _ _ ?_; clear hM M
    refine ok_cond rfl (fun h => by cases h) (fun h => ok_skip ?_)
    try simp only [zW, zU, reduceIte, Nat.reduceEqDiff, Nat.reduceAdd, reduceCtorEq, Q12]
    simp [sub, Env.get]
  rintro w' rfl
  obtain ⟨vs, ps, gs, hR, -⟩ := id hH1
  refine ok_seq (fun M hM => ok_draw 12 [] (Ext _) Fx.mixed (by decide) rfl (by decide +kernel) (by decide +kernel) (Ext.drew _) ?_); (try revert X); refine t12 ?_; intro X hX
  refine ⟨_, fun w5 h => h.cell (hR.head.cell (j := 1) rfl), ?_⟩
  (try revert X); refine t12 ?_; intro X hX
  refine ⟨_, fun w5 h => h.cell (hb1.cell (j := 0) rfl), ?_⟩
  (try revert X); refine t12 ?_; intro X hX
  refine ⟨_, fun w5 h => run_lookupI Fx.un68 Fx.un3 Fx.zi45 (hR.rules.ext h) x.k, ?_⟩
  (try revert X); refine t12 ?_; intro X hX
  intro w2 he2
  (try revert X); refine t12 ?_; intro X hX
  refine hM _ _ _ ?_; clear hM M
  refine ok_seq (fun M hM => ok_region rfl ?_)
  (try revert X); refine t12 ?_; intro X hX
  cases hf : ruleF hb x.k with
  | none =>
    simp only [Option.isSome_none]
    refine ⟨fun h => (by cases h), fun _ => ?_⟩
    (try revert X); refine t12 ?_; intro X hX
    (try revert X); refine t12 ?_; intro X hX
    refine hM _ _ _ ?_; clear hM M
    refine ok_ret ?_
    try simp only [zW, zU, reduceIte, Nat.reduceEqDiff, Nat.reduceAdd, reduceCtorEq, Q12]
    rw [rule_none hf]
    simp [he1.trans he2]
  | some fv =>
    simp only [Option.isSome_some, Option.getD_some]
    refine ⟨fun _ => ?_, fun h => by cases h⟩
    (try revert X); refine t12 ?_; intro X hX
    refine ⟨x.row, rfl, (hb1.ext he2).cells (row := x.row) (o := 0) (fun j u hj => by simpa [Wd.row] using hj), ?_⟩
    (try revert X); refine t12 ?_; intro X hX
    refine rule_ok (hH1.ext he2) hl hf (fun w3 he3 => ?_)
    (try revert X); refine t12 ?_; intro X hX
    refine hM _ _ _ ?_; clear hM M
    refine ok_ret ?_
    try simp only [zW, zU, reduceIte, Nat.reduceEqDiff, Nat.reduceAdd, reduceCtorEq, Q12]
    exact he1.trans (he2.trans he3)
end Go.Proofs.YtldeokfhipjbfaaGreatDoor
/- append of rows to one's own row; empty literals; structs built of parts. -/
set_option linter.unusedVariables false
set_option linter.unusedSimpArgs false
namespace Go.Proofs.Vg
open Go Go.RowKit
/-- An empty literal. -/
theorem Runs.lit00 {P : Program} {w : World} {t : TypeId} {e : Nat} {nx : Value → World → Prop} {z : Option Value} {sz by_ : Nat} (ht : P.underlying t = some (.slice e)) (hz : zinfo P e = some (z, sz, by_))
    (h : ∀ w1, Ext w w1 → w1.heap.size = w.heap.size + 1 → Blk w1 w.heap.size [] e → nx (.slice (some ⟨w.heap.size, 0, none⟩) 0 0) w1) : Runs P (Instr.buildSlice t 0 (#[] : Array (Nat × Value))) w nx := by
  obtain ⟨i, hi, hzz, hs, hb⟩ := zinfo_some hz
  refine ⟨_, newW w [] e, ?_, h _ (newW_ext _ _ _) (newW_size _ _ _) (newW_blk _ _ _)⟩
  simp [Instr.buildSlice, run_underlying ht, sizeOf, typeInfo, hi, newRow, newObj, Sem.run, newW, Instr.fill]
  congr 2
  exact Array.ext (by simp) (fun i h => by simp at h)
/-- A struct's places and zero cells. -/
def stInf (P : Program) (t : TypeId) : Option (List (Nat × Nat) × Array Value) := match P.info? t, P.underlying t with
  | some it, some (.struct fields) => (match it.zero, fields.toList.mapM (fun f => (P.info? f.type).map fun i => (f.offset, i.size)) with
    | some z, some places => some (places, z.cells)
    | _, _ => none)
  | _, _ => none
theorem run_append_none' {P : Program} {w : World} (base : Nat) (t ty e : TypeId) (i : TypeInfo) (size : Nat) (ht : P.underlying t = some (.slice e)) (hi : P.info? e = some i)
    (v : Value) (n c : Nat) (xs : List Value) (hown : w.ownsRow base e size v n xs) :
    (Builtin.append_ #[t, t] ty #[v, .slice none 0 c]).run P w = .ok v w := by
  rcases hown.2 with ⟨rfl, rfl⟩ | ⟨g, cap, cur, rfl, _, _, hnc, _⟩
  · simp [Builtin.append_, run_underlying ht, sizeOf, typeInfo, hi, Builtin.lenOf, Builtin.firstCells]
  · simp [Builtin.append_, run_underlying ht, sizeOf, typeInfo, hi, Builtin.lenOf, Builtin.firstCells, hnc, storeCells]
theorem flat_get {sz : Nat} : ∀ (rows : List (List Value)), (∀ r ∈ rows, r.length = sz) → ∀ (m : Nat) (u : Value), rows.flatten[m]? = some u → 0 < sz → ∃ j k row, rows[j]? = some row ∧ row[k]? = some u ∧ m = j * sz + k := by
  intro rows
  induction rows with
  | nil => intro _ m u h; simp at h
  | cons r rs ih =>
    intro hr m u h hs
    have h0 := hr r List.mem_cons_self
    rw [List.flatten_cons] at h
    rcases Nat.lt_or_ge m r.length with hm | hm
    · rw [List.getElem?_append_left hm] at h
      exact ⟨0, m, r, rfl, h, by omega⟩
    · rw [List.getElem?_append_right hm] at h
      obtain ⟨j, k, row, h1, h2, h3⟩ := ih (fun x hx => hr x (List.mem_cons_of_mem _ hx)) _ u h hs
      exact ⟨j + 1, k, row, by simpa using h1, h2, by rw [Nat.add_mul]; omega⟩
/-- append of a slice's rows to one's own row. -/
theorem Runs.appendR {P : Program} {w : World} {t ty e : TypeId} {z : Value} {sz by_ base : Nat} (ht : P.underlying t = some (.slice e)) (hz : zinfo P e = some (some z, sz, by_)) (hzs : z.cells.size = sz) (hsz : 0 < sz)
    {v vs : Value} {n : Nat} {xs : List Value} {rows : List (List Value)} (hown : w.ownsRow base e sz v n xs) (hs : Sli w sz vs rows) (hr : ∀ r ∈ rows, r.length = sz ∧ ∀ u ∈ r, u.oneCell' = true)
    (h63 : n + rows.length ≤ maxLen) (hbytes : (n + rows.length) * by_ ≤ 140737488355328) (hbase : base ≤ w.heap.size) {cs : Array Bool} {nx : Value → World → Prop}
    (h : ∀ v' w', w'.ownsRow base e sz v' (n + rows.length) (xs ++ rows.flatten) → w.grownBy w' v.ownBlock → (v'.ownBlock = v.ownBlock ∨ v'.ownBlock = some w.heap.size) → nx v' w') :
    Runs P (builtin .append #[t, t] ty cs [v, vs].toArray) w (builtinR nx) := by
  obtain ⟨i, hi, hzz, hsi, hbb⟩ := zinfo_some hz
  obtain ⟨A, c, rfl, hl, hcell⟩ := hs
  have fin : ∀ v' w', (Builtin.append_ #[t, t] ty #[v, .slice A rows.length c]).run P w = .ok v' w' → nx v' w' → Runs P (builtin .append #[t, t] ty cs [v, .slice A rows.length c].toArray) w (builtinR nx) := fun v' w' hr hn => by
    refine ⟨.value v', w', ?_, hn⟩
    simp only [builtin]
    rw [Sem.run_bind]
    have : [v, Value.slice A rows.length c].toArray = #[v, .slice A rows.length c] := rfl
    rw [this, hr]
    rfl
  cases hA : A with
  | none =>
    subst hA
    have hy : rows = [] := by
      cases rows with
      | nil => rfl
      | cons y ys => obtain ⟨b, o, h1, _⟩ := hcell 0 y rfl; cases h1
    subst hy
    refine fin v w (run_append_none' base t ty e i sz ht hi v n c xs hown) (h v w ?_ ⟨rfl, rfl, rfl, Nat.le_refl _, fun _ _ _ => rfl⟩ (.inl rfl))
    simpa using hown
  | some a =>
    subst hA
    have hlen : ∀ (rs : List (List Value)), (∀ r ∈ rs, r.length = sz) → rs.flatten.length = rs.length * sz := by
      intro rs
      induction rs with
      | nil => intro _; simp
      | cons r rs ih => intro h; rw [List.flatten_cons, List.length_append, h r List.mem_cons_self, ih (fun x hx => h x (List.mem_cons_of_mem _ hx)), List.length_cons, Nat.add_mul]; omega
    obtain ⟨v', w', hr2, ho, hg, _, hown2⟩ := run_append_own_at (P := P) w base t ty e i z sz by_ ht hi hzz hsi hbb hzs hsz v n xs hown a rows.length c rows.flatten (hlen rows fun r hr' => (hr r hr').1)
      (fun m u hm => by
        obtain ⟨j, k, row, h1, h2, h3⟩ := flat_get rows (fun r hr' => (hr r hr').1) m u hm hsz
        obtain ⟨b, o, h4, h5⟩ := hcell j row h1
        cases h4
        have := h5 k u h2
        rw [add_at] at this ⊢
        rw [h3, ← Nat.add_assoc]; exact this)
      (fun u hu => by obtain ⟨r, hr1, hr2⟩ := List.mem_flatten.1 hu; exact (hr r hr1).2 u hr2) h63 hbytes hbase
    exact fin v' w' hr2 (h v' w' ho hg hown2)
/-- append of one element that lies in a block of its own: where the row lies then. -/
theorem Runs.append1' {P : Program} {w : World} {t ty e : TypeId} {z : Value} {sz by_ base : Nat} (ht : P.underlying t = some (.slice e)) (hz : zinfo P e = some (some z, sz, by_)) (hzs : z.cells.size = sz) (hsz : 0 < sz)
    {v : Value} {n : Nat} {xs : List Value} (hown : w.ownsRow base e sz v n xs) {b : Nat} {news : List Value} {c : Nat} {eb : TypeId} (hb : Blk w b news eb) (hl : news.length = sz) (h1 : ∀ u ∈ news, u.oneCell' = true)
    (h63 : n + 1 ≤ maxLen) (hbytes : (n + 1) * by_ ≤ 140737488355328) (hbase : base ≤ w.heap.size) {cs : Array Bool} {nx : Value → World → Prop}
    (h : ∀ v' w', w'.ownsRow base e sz v' (n + 1) (xs ++ news) → w.grownBy w' v.ownBlock → (v'.ownBlock = v.ownBlock ∨ v'.ownBlock = some w.heap.size) → nx v' w') :
    Runs P (builtin .append #[t, t] ty cs [v, .slice (some ⟨b, 0, none⟩) 1 c].toArray) w (builtinR nx) := by
  refine Runs.appendR (rows := [news]) ht hz hzs hsz hown ⟨some ⟨b, 0, none⟩, c, rfl, by simp, fun j row hj => ⟨b, 0, rfl, ?_⟩⟩ (by simpa using ⟨hl, h1⟩) h63 hbytes hbase (by simpa using h)
  have hj0 : j = 0 := by have := (List.getElem?_eq_some_iff.1 hj).1; simp at this; exact this
  subst hj0
  simp at hj; subst hj
  rw [Nat.zero_mul]
  exact hb.cells (o := 0) (fun j u hj => by simpa using hj)
end Go.Proofs.Vg
/- args, Clone, add, Text, make.  -/
set_option linter.unusedVariables false
set_option linter.unusedSimpArgs false
namespace Go.Proofs.YtldeokfhipjbfaaGreatDoor
open Go Go.Proofs.Vg Go.RowKit

abbrev SlW (w : World) (v : Value) (l : List Wd) : Prop := Sli w 3 v (l.map Wd.row)
theorem wd_len (l : List Wd) : (l.map Wd.row).length = l.length := by simp

-- -- function 79
set_option maxHeartbeats 2000000 in
set_option maxRecDepth 8000 in
theorem args_ok (w : World) (hb rb : Nat) (H : List Ob) (F : Nat → Prop) (hH : HeapW w hb rb H F) (hl : H.length ≤ 1073741824) (x : Wd) :
    Rets Tryz.prog 79 [ptrOf hb, wv x] w (fun v w' => (∃ A c, v = .slice A (argsOf H x).length c) ∧ SlW w v (argsOf H x) ∧ Ext w w' ∧ ∃ g, WL w g v (argsOf H x) ∧ (argsOf H x ≠ [] → F g)) := by
  refine rets_of_ok Tryz.func79 rfl rfl ?_
  refine ok_seq (fun M hM => ok_region rfl ?_)
  (try revert X); refine t79 ?_; intro X hX
  refine Runs.box (fun w1 he1 hs1 hb1 => ?_)
  generalize hB : w.heap.size = B at *
  simp only [Value.cells, Wd.row] at hb1
  obtain ⟨vs, ps, gs, hR0, hf, -⟩ := hH
  have hR := hR0.ext he1
  (try revert X); refine t79 ?_; intro X hX
  refine hM _ _ _ ?_; clear hM M
  refine ok_join [] (fun w' => w' = w1 ∧ argsOf H x = []) ?_ ?_
  · refine ok_seq (fun M hM => ok_region rfl ?_)
    (try revert X); refine t79 ?_; intro X hX
    refine ⟨_, hb1.cell (j := 2) rfl, ?_⟩
    (try revert X); refine t79 ?_; intro X hX
    refine Inv.call Fx.en57 (object_ok w1 hb rb vs ps gs H hR hl x.r) ?_
    rintro v w' ⟨rfl, hv⟩
    (try revert X); refine t79 ?_; intro X hX
    refine hM _ _ _ ?_; clear hM M
    refine ok_seq (fun M hM => ok_region rfl ?_)
    (try revert X); refine t79 ?_; intro X hX
    rcases hv with ⟨ho, rfl⟩ | ⟨i, p, g, o, ho, hr, hi, hp, hg, rfl⟩
    · refine Runs.ptrNe Fx.un103 ?_
      (try revert X); refine t79 ?_; intro X hX
      refine hM _ _ _ ?_; clear hM M
      refine ok_cond rfl (fun h => by cases h) (fun h => ok_skip ?_)
      try simp only [zW, zU, reduceIte, Nat.reduceEqDiff, Nat.reduceAdd, reduceCtorEq, Q79]
      simp [sub, argsOf, argsO, ho]
    · refine Runs.ptrNe Fx.un103 ?_
      (try revert X); refine t79 ?_; intro X hX
      have hob := hR.obj i p g o hp hg hi
      refine ⟨_, ObW.text hob, ?_⟩
      (try revert X); refine t79 ?_; intro X hX
      refine hM _ _ _ ?_; clear hM M
      cases o with
      | text s =>
        refine ok_cond (b := false) rfl (fun h => by cases h) (fun h => ok_skip ?_)
        try simp only [zW, zU, reduceIte, Nat.reduceEqDiff, Nat.reduceAdd, reduceCtorEq, Q79]
        simp [sub, argsOf, argsO, ho]
      | words s l =>
        refine ok_cond (b := true) rfl (fun _ => ?_) (fun h => by cases h)
        obtain ⟨lv, h1, h2⟩ := hR0.obj i p g _ hp hg hi
        refine ok_seq (fun M hM => ok_region rfl ?_)
        (try revert X); refine t79 ?_; intro X hX
        refine ⟨_, (h1.ext he1).cell (j := 0) rfl, ?_⟩
        (try revert X); refine t79 ?_; intro X hX
        refine hM _ _ _ ?_; clear hM M
        refine ok_ret ?_
        try simp only [zW, zU, reduceIte, Nat.reduceEqDiff, Nat.reduceAdd, reduceCtorEq, Q79]
        obtain ⟨A, c, rfl, -⟩ := id h2
        have : argsOf H x = l := by simp [argsOf, argsO, ho]
        rw [this]
        exact ⟨⟨A, c, rfl⟩, h2.sli, he1, g, h2, fun _ => (hf g (.inr (.inr (.inr (List.mem_of_getElem? hg))))).1⟩
  rintro w' ⟨rfl, hnil⟩
  refine ok_seq (fun M hM => ok_region rfl ?_); (try revert X); refine t79 ?_; intro X hX
  refine hM _ _ _ ?_; clear hM M
  refine ok_ret ?_
  try simp only [zW, zU, reduceIte, Nat.reduceEqDiff, Nat.reduceAdd, reduceCtorEq, Q79]
  rw [hnil]
  exact ⟨⟨none, 0, rfl⟩, ⟨none, 0, rfl, by simp, fun j row hj => by simp at hj⟩, he1, 0, ⟨none, 0, rfl, by simp, by simp, fun h => absurd rfl h⟩, fun h => absurd rfl h⟩

theorem words_rows (l : List Wd) : ∀ r ∈ l.map Wd.row, r.length = 3 ∧ ∀ u ∈ r, u.oneCell' = true := by
  intro r hr
  obtain ⟨x, -, rfl⟩ := List.mem_map.1 hr
  refine ⟨rfl, fun u hu => ?_⟩
  simp [Wd.row] at hu
  rcases hu with rfl | rfl | rfl <;> rfl
theorem flat_words (l : List Wd) : (l.map Wd.row).flatten.length = l.length * 3 := by
  induction l with
  | nil => rfl
  | cons x xs ih => rw [List.map_cons, List.flatten_cons, List.length_append, ih, List.length_cons]; simp [Wd.row]; omega
/-- An own row of words is a list of words in its block. -/
theorem WL.of_own {w : World} {base : Nat} {v : Value} {l : List Wd} (h : w.ownsRow base 38 3 v l.length (l.map Wd.row).flatten) (hl : l.length ≤ 1073741824) : ∃ g, WL w g v l ∧ (l ≠ [] → v.ownBlock = some g) := by
  rcases h.2 with ⟨rfl, h0⟩ | ⟨g, cap, cur, rfl, hbase, hb, hnc, hcap, hcs, htk⟩
  · have : l = [] := List.length_eq_zero_iff.1 h0
    subst this
    exact ⟨0, ⟨none, 0, rfl, by simp, by simp, fun h => absurd rfl h⟩, fun h => absurd rfl h⟩
  · exact ⟨g, ⟨_, cap, rfl, hl, hnc, fun _ => ⟨rfl, cur.toList, by simpa [Blk] using hb, htk⟩⟩, fun _ => rfl⟩

-- -- function 78
set_option maxHeartbeats 2000000 in
set_option maxRecDepth 8000 in
theorem clone_ok (w : World) (v : Value) (l : List Wd) (hv : SlW w v l) (hl : l.length ≤ 1073741824) :
    Rets Tryz.prog 78 [v] w (fun v' w' => (∃ A c, v' = .slice A l.length c) ∧ (∃ g, WL w' g v' l ∧ (l ≠ [] → w.heap.size ≤ g)) ∧ Ext w w') := by
  obtain ⟨A, c, rfl, hlen, hcell⟩ := id hv
  rw [wd_len] at hv ⊢
  refine rets_of_ok Tryz.func78 rfl rfl ?_
  refine ok_seq (fun M hM => ok_region rfl ?_); (try revert X); refine t78 ?_; intro X hX
  refine hM _ _ _ ?_; clear hM M
  cases A with
  | none =>
    have hnil : l = [] := by
      cases l with
      | nil => rfl
      | cons x xs => obtain ⟨b, o, h1, _⟩ := hcell 0 x.row rfl; cases h1
    subst hnil
    refine ok_seq (fun M0 hM0 => ?_)
    refine ok_seq (fun M hM => ok_region rfl ?_)
    (try revert X); refine t78 ?_; intro X hX
    refine Runs.slEq Fx.un29 ?_
    (try revert X); refine t78 ?_; intro X hX
    refine hM _ _ _ ?_; clear hM M
    refine ok_cond rfl (fun _ => ?_) (fun h => by cases h)
    refine ok_seq (fun M hM => ok_region rfl ?_); (try revert X); refine t78 ?_; intro X hX
    refine hM _ _ _ ?_; clear hM M
    refine ok_ret ?_
    try simp only [zW, zU, reduceIte, Nat.reduceEqDiff, Nat.reduceAdd, reduceCtorEq, Q78]
    exact ⟨⟨none, 0, rfl⟩, ⟨0, ⟨none, 0, rfl, by simp, by simp, fun h => absurd rfl h⟩, fun h => absurd rfl h⟩, Ext.refl _⟩
  | some a =>
    refine ok_join [(0, .slice (some a) l.length c)] (fun w' => w' = w) ?_ ?_
    · refine ok_seq (fun M hM => ok_region rfl ?_)
      (try revert X); refine t78 ?_; intro X hX
      refine Runs.slEq Fx.un29 ?_
      (try revert X); refine t78 ?_; intro X hX
      refine hM _ _ _ ?_; clear hM M
      refine ok_cond rfl (fun h => by cases h) (fun h => ok_skip ?_)
      try simp only [zW, zU, reduceIte, Nat.reduceEqDiff, Nat.reduceAdd, reduceCtorEq, Q78]
      simp [sub, Env.get]
    rintro w' rfl
    refine ok_seq (fun M hM => ok_region rfl ?_)
    (try revert X); refine t78 ?_; intro X hX
    refine Runs.lit00 Fx.un29 Fx.zi38 (fun w1 he1 hs1 hb1 => ?_)
    (try revert X); refine t78 ?_; intro X hX
    refine Runs.appendR (base := w'.heap.size) (n := 0) (xs := []) (rows := l.map Wd.row) Fx.un29 Fx.zi38 rfl (by decide) ⟨rfl, .inr ⟨w'.heap.size, 0, #[], rfl, Nat.le_refl _, by simpa [Blk] using hb1, Nat.le_refl _, Nat.zero_le _, rfl, rfl⟩⟩ (hv.ext he1) (words_rows l) (by simp [maxLen]; omega) (by simp; omega) (by omega) (fun v' w2 hown hg hb2 => ?_)
    rw [wd_len, Nat.zero_add, List.nil_append] at hown
    (try revert X); refine t78 ?_; intro X hX
    refine hM _ _ _ ?_; clear hM M
    refine ok_ret ?_
    try simp only [zW, zU, reduceIte, Nat.reduceEqDiff, Nat.reduceAdd, reduceCtorEq, Q78]
    obtain ⟨g, hW, hg2⟩ := WL.of_own hown hl
    obtain ⟨A', c', hv', -⟩ := id hW
    refine ⟨⟨A', c', hv'⟩, ⟨g, hW, fun hne => (hown.lt g (hg2 hne)).1⟩, he1.chg_trans (S := fun k => w'.heap.size ≤ k) ⟨hg.os, hg.tape, hg.output, hg.size, fun k hk hs => hg.block k hk (fun e => hs (by simp [Value.ownBlock] at e; omega))⟩ (fun k h => h)⟩

/-- A heap grows by an object. -/
theorem HeapR.push {w w' : World} {hb rb : Nat} {vs vs' : Value} {ps gs : List Nat} {H : List Ob} {F S : Nat → Prop} {p g : Nat} {o : Ob} (h : HeapR w hb rb vs ps gs H) (hf : ∀ k, Foot hb vs ps gs k → F k) (hrb : ¬ F rb)
    (hc : Chg S w w') (hS : ∀ k, S k → k = hb ∨ vs.ownBlock = some k) (hhead : Blk w' hb [vs', .map (some rb)] 70) (hown : w'.ownsRow 0 103 1 vs' (H.length + 1) (ps.map ptrOf ++ [ptrOf p]))
    (ho : ObW w' p g o) (hp : ¬ F p) (hg : ¬ F g) (hv' : ∀ k, vs'.ownBlock = some k → vs.ownBlock = some k ∨ (k ≠ hb ∧ k ∉ ps ∧ k ∉ gs ∧ k ≠ p ∧ k ≠ g)) : HeapR w' hb rb vs' (ps ++ [p]) (gs ++ [g]) (H ++ [o]) := by
  have hn : ∀ k, k ∈ ps ∨ k ∈ gs → ¬ S k := by
    intro k hk hs
    rcases hS k hs with rfl | h2
    · rcases hk with h3 | h3
      · exact h.ap.1.1 h3
      · exact h.ap.1.2 h3
    · rcases hk with h3 | h3
      · exact (h.ap.2 k h2).2.1 h3
      · exact (h.ap.2 k h2).2.2 h3
  refine ⟨hhead, h.rules.chg hc (fun hs => hrb (by rcases hS rb hs with h1 | h1; exact hf _ (.inl h1); exact hf _ (.inr (.inl h1)))), by simpa using hown, by simp [h.lenp], by simp [h.leng], ?_, ?_, ⟨⟨?_, ?_⟩, ?_⟩, ?_⟩
  · refine List.nodup_append.2 ⟨h.ndp, List.pairwise_singleton _ _, fun a ha b hb2 e => ?_⟩
    simp at hb2
    exact hp (hb2 ▸ e ▸ hf a (.inr (.inr (.inl ha))))
  · refine List.nodup_append.2 ⟨h.ndg, List.pairwise_singleton _ _, fun a ha b hb2 e => ?_⟩
    simp at hb2
    exact hg (hb2 ▸ e ▸ hf a (.inr (.inr (.inr ha))))
  · simp only [List.mem_append, List.mem_singleton, not_or]
    exact ⟨h.ap.1.1, fun e => hp (e ▸ hf hb (.inl rfl))⟩
  · simp only [List.mem_append, List.mem_singleton, not_or]
    exact ⟨h.ap.1.2, fun e => hg (e ▸ hf hb (.inl rfl))⟩
  · intro k hk
    simp only [List.mem_append, List.mem_singleton, not_or]
    rcases hv' k hk with h2 | ⟨h2, h3, h4, h5, h6⟩
    · exact ⟨(h.ap.2 k h2).1, ⟨(h.ap.2 k h2).2.1, fun e => hp (e ▸ hf k (.inr (.inl h2)))⟩, ⟨(h.ap.2 k h2).2.2, fun e => hg (e ▸ hf k (.inr (.inl h2)))⟩⟩
    · exact ⟨h2, ⟨h3, h5⟩, ⟨h4, h6⟩⟩
  · intro i p' g' o' h1 h2 h3
    rcases Nat.lt_or_ge i H.length with hi | hi
    · rw [List.getElem?_append_left (by rw [h.lenp]; exact hi)] at h1
      rw [List.getElem?_append_left (by rw [h.leng]; exact hi)] at h2
      rw [List.getElem?_append_left hi] at h3
      exact (h.obj i p' g' o' h1 h2 h3).chg hc (hn _ (.inl (List.mem_of_getElem? h1))) (hn _ (.inr (List.mem_of_getElem? h2)))
    · rw [List.getElem?_append_right (by rw [h.lenp]; exact hi)] at h1
      rw [List.getElem?_append_right (by rw [h.leng]; exact hi)] at h2
      rw [List.getElem?_append_right hi] at h3
      have hi0 : i = H.length := by have := (List.getElem?_eq_some_iff.1 h3).1; simp at this; omega
      subst hi0
      simp [h.lenp] at h1; simp [h.leng] at h2; simp at h3
      subst h1; subst h2; subst h3
      exact ho

-- -- function 92
set_option maxHeartbeats 2000000 in
set_option maxRecDepth 8000 in
theorem add_ok (w : World) (hb rb : Nat) (H : List Ob) (F : Nat → Prop) (hH : HeapW w hb rb H F) (hl : H.length ≤ 1048576) (p g : Nat) (o : Ob) (ho : ObW w p g o) (hp : ¬ F p) (hg : ¬ F g) (hps : p < w.heap.size) (hgs : g < w.heap.size) (hpr : p ≠ rb) (hgr : g ≠ rb) :
    Rets Tryz.prog 92 [ptrOf hb, ptrOf p] w (fun v w' => v = .int .i64 ((H.length : Int) + 1) ∧ Chg F w w' ∧ ∃ F', HeapW w' hb rb (H ++ [o]) F' ∧ ∀ k, F' k → F k ∨ k = p ∨ k = g ∨ (w.heap.size ≤ k ∧ k < w'.heap.size)) := by
  obtain ⟨vs, ps, gs, hR, hf, hrb⟩ := hH
  obtain ⟨A, c, hv, hlen, hcell⟩ := hR.sli (by omega)
  have hL : (ps.map fun p => [ptrOf p]).length = H.length := by simp [hR.lenp]
  rw [hL] at hv
  subst hv
  refine rets_of_ok Tryz.func92 rfl rfl ?_
  refine ok_seq (fun M hM => ok_region rfl ?_); (try revert X); refine t92 ?_; intro X hX
  refine hM _ _ _ ?_; clear hM M
  refine ok_seq (fun M hM => ok_region rfl ?_)
  (try revert X); refine t92 ?_; intro X hX
  refine ⟨_, hR.head.cell (j := 0) rfl, ?_⟩
  (try revert X); refine t92 ?_; intro X hX
  refine Runs.lit (cs := [ptrOf p]) Fx.un67 Fx.zi103 (by decide) (by kernel_rfl) (by decide) (fun w1 he1 hs1 hb1 => ?_)
  (try revert X); refine t92 ?_; intro X hX
  have hown1 := owns_chg' hR.own (he1.chg (fun _ => False)) (fun _ _ h => h)
  refine Runs.append1' Fx.un67 Fx.zi103 rfl (by decide) hown1 hb1 rfl (by intro u hu; simp at hu; subst hu; rfl) (by simp [maxLen]; omega) (by omega) (by omega) (fun v' w2 hown2 hg2 hblk => ?_)
  (try revert X); refine t92 ?_; intro X hX
  have hc12 : Chg (fun k => (Value.slice A H.length c).ownBlock = some k) w1 w2 := ⟨hg2.os, hg2.tape, hg2.output, hg2.size, fun k hk hs => hg2.block k hk (fun e => hs e.symm)⟩
  have hhb : ¬ (Value.slice A H.length c).ownBlock = some hb := fun h => (hR.ap.2 hb h).1 rfl
  have hb2 : Blk w2 hb [.slice A H.length c, .map (some rb)] 70 := (hR.head.ext he1).chg hc12 hhb
  obtain ⟨g', cap, hvn⟩ : ∃ g' cap, v' = .slice (some ⟨g', 0, none⟩) (H.length + 1) cap := by
    rcases hown2.2 with ⟨-, h0⟩ | ⟨g', cap, cur, h1, _⟩
    · omega
    · exact ⟨g', cap, h1⟩
  subst hvn
  refine Runs.store hb2 Fx.zi67 rfl (by intro u hu; simp [Value.cells] at hu; subst hu; rfl) (by simp) (fun w3 hc3 hs3 hb3 => ?_)
  simp only [splice, Value.cells, List.take_zero, List.nil_append, List.singleton_append, List.length_singleton, Nat.zero_add, List.drop_succ_cons, List.drop_zero] at hb3
  (try revert X); refine t92 ?_; intro X hX
  refine hM _ _ _ ?_; clear hM M
  refine ok_seq (fun M hM => ok_region rfl ?_)
  (try revert X); refine t92 ?_; intro X hX
  refine ⟨_, hb3.cell (j := 0) rfl, ?_⟩
  (try revert X); refine t92 ?_; intro X hX
  refine hM _ _ _ ?_; clear hM M
  refine ok_ret ?_
  try simp only [zW, zU, reduceIte, Nat.reduceEqDiff, Nat.reduceAdd, reduceCtorEq, Q92]
  have hcF : Chg F w w3 := (he1.chg F).trans ((hc12.mono (fun k _ hk => hf k (.inr (.inl hk)) |>.1)).trans (hc3.mono (fun k _ hk => by subst hk; exact (hf k (.inl rfl)).1)))
  refine ⟨by push_cast; rfl, hcF, fun k => F k ∨ k = p ∨ k = g ∨ k = g', ⟨_, ps ++ [p], gs ++ [g], HeapR.push (S := fun k => k = hb ∨ (Value.slice A H.length c).ownBlock = some k) hR (fun k hk => (hf k hk).1) hrb ?_ (fun k h => h) hb3 ?_ ?_ hp hg ?_, ?_, ?_⟩, ?_⟩
  · exact (he1.chg _).trans ((hc12.mono (fun k _ hk => .inr hk)).trans (hc3.mono (fun k _ hk => .inl hk)))
  · exact owns_chg' hown2 hc3 (fun k hk hs => by
      rcases hblk with h1 | h1
      · exact hhb (hs ▸ h1 ▸ hk)
      · rw [h1] at hk; cases hk; have := (hf hb (.inl rfl)).2; omega)
  · refine ((ho.chg (he1.chg (fun _ => False)) id id).chg hc12 ?_ ?_).chg hc3 ?_ ?_
    · exact fun h => hp (hf p (.inr (.inl h))).1
    · exact fun h => hg (hf g (.inr (.inl h))).1
    · exact fun h => hp (h ▸ (hf hb (.inl rfl)).1)
    · exact fun h => hg (h ▸ (hf hb (.inl rfl)).1)
  · intro k hk
    rcases hblk with h1 | h1
    · exact .inl (h1 ▸ hk)
    · rw [h1] at hk; cases hk
      refine .inr ⟨?_, ?_, ?_, by omega, by omega⟩
      · intro e; have := (hf hb (.inl rfl)).2; omega
      · intro e; have := (hf _ (.inr (.inr (.inl e)))).2; omega
      · intro e; have := (hf _ (.inr (.inr (.inr e)))).2; omega
  · intro k hk
    have hs13 : w.heap.size ≤ w3.heap.size := hcF.size
    rcases hk with rfl | hk | hk | hk
    · exact ⟨.inl (hf _ (.inl rfl)).1, by have := (hf _ (.inl rfl)).2; omega⟩
    · simp [Value.ownBlock] at hk; subst hk
      refine ⟨.inr (.inr (.inr rfl)), ?_⟩
      have := (hown2.lt g' rfl).2
      omega
    · rcases List.mem_append.1 hk with hk | hk
      · exact ⟨.inl (hf _ (.inr (.inr (.inl hk)))).1, by have := (hf _ (.inr (.inr (.inl hk)))).2; omega⟩
      · simp at hk; subst hk; exact ⟨.inr (.inl rfl), by omega⟩
    · rcases List.mem_append.1 hk with hk | hk
      · exact ⟨.inl (hf _ (.inr (.inr (.inr hk)))).1, by have := (hf _ (.inr (.inr (.inr hk)))).2; omega⟩
      · simp at hk; subst hk; exact ⟨.inr (.inr (.inl rfl)), by omega⟩
  · rintro (h | h | h | h)
    · exact hrb h
    · exact hpr h.symm
    · exact hgr h.symm
    · rcases hblk with h1 | h1
      · exact hrb (h ▸ (hf g' (.inr (.inl (h1 ▸ rfl)))).1)
      · simp [Value.ownBlock] at h1; have := hR.rules.lt; omega
  · rintro k (h | h | h | h)
    · exact .inl h
    · exact .inr (.inl h)
    · exact .inr (.inr (.inl h))
    · subst h
      rcases hblk with h1 | h1
      · exact .inl (hf k (.inr (.inl (h1 ▸ rfl)))).1
      · simp [Value.ownBlock] at h1; refine .inr (.inr (.inr ⟨by omega, ?_⟩)); have := (hown2.lt k rfl).2; omega
end Go.Proofs.YtldeokfhipjbfaaGreatDoor
/- Text, make.  -/
set_option linter.unusedVariables false
set_option linter.unusedSimpArgs false
namespace Go.Proofs.YtldeokfhipjbfaaGreatDoor
open Go Go.Proofs.Vg Go.RowKit

end Go.Proofs.YtldeokfhipjbfaaGreatDoor
namespace Go.Proofs.Vg
open Go Go.RowKit
/-- The heap 'H' has become 'H2'; what belongs to it is old or new. -/
def Grown (w w' : World) (hb rb : Nat) (H2 : List Ob) (F : Nat → Prop) : Prop :=
  Chg F w w' ∧ ∃ F', HeapW w' hb rb H2 F' ∧ ∀ k, F' k → F k ∨ (w.heap.size ≤ k ∧ k < w'.heap.size)

theorem HeapW.lt {w : World} {hb rb : Nat} {H : List Ob} {F : Nat → Prop} (h : HeapW w hb rb H F) : rb < w.heap.size := by
  obtain ⟨vs, ps, gs, hR, -⟩ := h
  exact hR.rules.lt
/-- The same heap, with what belongs to it alone. -/
theorem HeapW.tight {w : World} {hb rb : Nat} {H : List Ob} {F : Nat → Prop} (h : HeapW w hb rb H F) : HeapW w hb rb H (fun k => F k ∧ k < w.heap.size) := by
  obtain ⟨vs, ps, gs, hR, hf, hrb⟩ := h
  exact ⟨vs, ps, gs, hR, fun k hk => ⟨hf k hk, (hf k hk).2⟩, fun h => hrb h.1⟩
theorem Chg.trans_new {a b c : World} {F S : Nat → Prop} (h : Chg F a b) (k : Chg S b c) (hs : ∀ i, S i → a.heap.size ≤ i) : Chg F a c :=
  ⟨k.os.trans h.os, k.tape.trans h.tape, k.output.trans h.output, Nat.le_trans h.size k.size, fun i hi hf => by
    rw [k.block i (Nat.lt_of_lt_of_le hi h.size) (fun h => by have := hs i h; omega), h.block i hi hf]⟩
theorem Grown.ext {w w' : World} {hb rb : Nat} {H : List Ob} {F : Nat → Prop} (h : HeapW w hb rb H F) (he : Ext w w') : Grown w w' hb rb H F := ⟨he.chg F, F, h.ext he, fun k hk => .inl hk⟩
end Go.Proofs.Vg
namespace Go.Proofs.YtldeokfhipjbfaaGreatDoor
open Go Go.Proofs.Vg Go.RowKit

-- -- function 91
set_option maxHeartbeats 2000000 in
set_option maxRecDepth 8000 in
theorem text_ok (w : World) (hb rb : Nat) (H : List Ob) (F : Nat → Prop) (hH : HeapW w hb rb H F) (hF : ∀ k, F k → k < w.heap.size) (hl : H.length ≤ 1048576) (s : ByteArray) :
    Rets Tryz.prog 91 [ptrOf hb, .string s] w (fun v w' => v = wv ⟨3, 0, (H.length : Int) + 1⟩ ∧ Grown w w' hb rb (H ++ [.text s]) F) := by
  refine rets_of_okC Tryz.func91 rfl rfl ?_
  refine ok_seq (fun M hM => ok_region rfl ?_)
  (try revert X); refine t91 ?_; intro X hX
  refine Runs.alloc Fx.zi38 (fun w1 he1 hs1 hb1 => ?_)
  simp only [Value.cells] at hb1
  generalize hB : w.heap.size = B at hs1 hb1
  (try revert X); refine t91 ?_; intro X hX
  refine hM _ _ _ ?_; clear hM M
  refine ok_join [(0, ptrOf hb), (1, .string s), (4, ptrOf B)] (fun w' => w' = w1) ?_ ?_
  · refine ok_seq (fun M hM => ok_region rfl ?_)
    (try revert X); refine t91 ?_; intro X hX
    refine Runs.ptrEq Fx.un25 ?_
    (try revert X); refine t91 ?_; intro X hX
    refine hM _ _ _ ?_; clear hM M
    refine ok_cond rfl (fun h => by cases h) (fun h => ok_skip ?_)
    try simp only [zW, zU, reduceIte, Nat.reduceEqDiff, Nat.reduceAdd, reduceCtorEq, Q91]
    simp [sub, Env.get]
  rintro w' rfl
  refine ok_seq (fun M hM => ok_region rfl ?_)
  (try revert X); refine t91 ?_; intro X hX
  refine ⟨_, w', run_build (P := Tryz.prog) w' 108 _ #[.slice none 0 0, .string s, .bool true, .int .i64 0] (by kernel_rfl), ?_⟩
  (try revert X); refine t91 ?_; intro X hX
  refine Runs.box (fun w2 he2 hs2 hb2 => ?_)
  simp only [Value.cells] at hb2
  generalize hp : w'.heap.size = p at hs2 hb2
  (try revert X); refine t91 ?_; intro X hX
  have hrb := hH.lt
  refine Inv.call Fx.en92 (add_ok w2 hb rb H F (hH.ext (he1.trans he2)) hl p p (.text s) hb2 (fun h => by have := hF p h; omega) (fun h => by have := hF p h; omega) (by omega) (by omega) (by omega) (by omega)) ?_
  rintro v w3 ⟨rfl, hc3, F', hH3, hF'⟩
  (try revert X); refine t91 ?_; intro X hX
  refine ⟨_, w3, run_build (P := Tryz.prog) w3 38 _ #[.int .i64 3, .int .i64 0, .int .i64 ((H.length : Int) + 1)] (by kernel_rfl), ?_⟩
  (try revert X); refine t91 ?_; intro X hX
  have hBF : ¬ F B := fun h => by have := hF B h; omega
  have hb13 : Blk w3 B [.int .i64 0, .int .i64 0, .int .i64 0] 38 := (hb1.ext he2).chg hc3 hBF
  refine Runs.store hb13 Fx.zi38 rfl (by intro u hu; simp [Value.cells] at hu; rcases hu with rfl | rfl | rfl <;> rfl) (by simp) (fun w4 hc4 hs4 hb4 => ?_)
  rw [splice_all _ _ (by simp [Value.cells])] at hb4
  simp only [Value.cells] at hb4
  (try revert X); refine t91 ?_; intro X hX
  refine hM _ _ _ ?_; clear hM M
  refine ok_ret ?_
  try simp only [zW, zU, reduceIte, Nat.reduceEqDiff, Nat.reduceAdd, reduceCtorEq, Q91]
  refine ⟨_, rfl, hb4.cells (o := 0) (row := [.int .i64 3, .int .i64 0, .int .i64 ((H.length : Int) + 1)]) (fun j u hj => by simpa using hj), rfl, ?_⟩
  have hs23 := hc3.size
  have hnB : ¬ F' B := fun h => by rcases hF' B h with h | h | h | h <;> first | exact hBF h | omega
  refine ⟨(((he1.trans he2).chg F).trans hc3).trans_new hc4 (fun k hk => by omega), F', hH3.chg hc4 (fun k hk e => hnB (e ▸ hk)) (by omega), fun k hk => ?_⟩
  rcases hF' k hk with h | h | h | h
  · exact .inl h
  · exact .inr (by omega)
  · exact .inr (by omega)
  · exact .inr (by omega)

def mkW (H : List Ob) (k n : Int) (l : List Wd) : List Ob × Wd := if 0 < l.length ∨ k = 7 then (H ++ [.words (if k = 7 then 7 else 4) l], ⟨k, n, (H.length : Int) + 1⟩) else (H, ⟨k, n, 0⟩)

-- -- function 56
set_option maxHeartbeats 2000000 in
set_option maxRecDepth 8000 in
theorem make_ok (w : World) (hb rb : Nat) (H : List Ob) (F : Nat → Prop) (hH : HeapW w hb rb H F) (hF : ∀ k, F k → k < w.heap.size) (hl : H.length ≤ 1048576) (k n : Int) (av : Value) (l : List Wd) (hav : SlW w av l) (hll : l.length ≤ 1073741824) :
    Rets Tryz.prog 56 [ptrOf hb, .int .i64 k, .int .i64 n, av] w (fun v w' => v = wv (mkW H k n l).2 ∧ Grown w w' hb rb (mkW H k n l).1 F) := by
  obtain ⟨A, c, rfl, hlen, hcell⟩ := id hav
  rw [wd_len] at hav ⊢
  have hrb := hH.lt
  refine rets_of_okC Tryz.func56 rfl rfl ?_
  refine ok_seq (fun M hM => ok_region rfl ?_)
  (try revert X); refine t56 ?_; intro X hX
  refine Runs.alloc Fx.zi38 (fun w1 he1 hs1 hb1 => ?_)
  simp only [Value.cells] at hb1
  generalize hB : w.heap.size = B at hs1 hb1
  (try revert X); refine t56 ?_; intro X hX
  refine hM _ _ _ ?_; clear hM M
  refine ok_seq (fun M hM => ok_region rfl ?_)
  (try revert X); refine t56 ?_; intro X hX
  refine ⟨_, w1, run_build (P := Tryz.prog) w1 38 _ #[.int .i64 k, .int .i64 n, .int .i64 0] (by kernel_rfl), ?_⟩
  (try revert X); refine t56 ?_; intro X hX
  refine Runs.alloc Fx.zi38 (fun w2 he2 hs2 hb2 => ?_)
  simp only [Value.cells] at hb2
  generalize hC : w1.heap.size = C at hs2 hb2
  (try revert X); refine t56 ?_; intro X hX
  refine Runs.store hb2 Fx.zi38 rfl (by intro u hu; simp [Value.cells] at hu; rcases hu with rfl | rfl | rfl <;> rfl) (by simp) (fun w3 hc3 hs3 hb3 => ?_)
  rw [splice_all _ _ (by simp [Value.cells])] at hb3
  simp only [Value.cells] at hb3
  have he3 : Ext w w3 := (he1.trans he2).chg_trans hc3 (fun i hi => by omega)
  have hb13 : Blk w3 B [.int .i64 0, .int .i64 0, .int .i64 0] 38 := (hb1.ext he2).chg hc3 (by omega)
  (try revert X); refine t56 ?_; intro X hX
  refine hM _ _ _ ?_; clear hM M
  refine ok_join [(8, ptrOf B), (9, ptrOf C)] (fun w' => Chg F w w' ∧ ∃ F', HeapW w' hb rb (mkW H k n l).1 F' ∧ (∀ k, F' k → F k ∨ (w.heap.size ≤ k ∧ k < w'.heap.size ∧ k ≠ B ∧ k ≠ C)) ∧ Blk w' B [.int .i64 0, .int .i64 0, .int .i64 0] 38 ∧ Blk w' C (mkW H k n l).2.row 38) ?_ ?_
  rotate_left
  · rintro w4 ⟨hc4, F', hH4, hF4, hbB, hbC⟩
    refine ok_seq (fun M hM => ok_region rfl ?_)
    (try revert X); refine t56 ?_; intro X hX
    refine ⟨(mkW H k n l).2.row, rfl, hbC.cells (o := 0) (fun j u hj => by simpa using hj), ?_⟩
    (try revert X); refine t56 ?_; intro X hX
    refine Runs.store hbB Fx.zi38 rfl (by intro u hu; simp [Value.cells, Wd.row] at hu; rcases hu with rfl | rfl | rfl <;> rfl) (by simp) (fun w5 hc5 hs5 hb5 => ?_)
    rw [splice_all _ _ (by simp [Value.cells])] at hb5
    simp only [Value.cells] at hb5
    (try revert X); refine t56 ?_; intro X hX
    refine hM _ _ _ ?_; clear hM M
    refine ok_ret ?_
    try simp only [zW, zU, reduceIte, Nat.reduceEqDiff, Nat.reduceAdd, reduceCtorEq, Q56]
    refine ⟨_, rfl, hb5.cells (o := 0) (row := (mkW H k n l).2.row) (fun j u hj => by simpa using hj), rfl, ?_⟩
    have hs4 := hc4.size
    have hnB : ¬ F' B := fun h => by
      rcases hF4 B h with h | h
      · have := hF B h; omega
      · omega
    refine ⟨hc4.trans_new hc5 (fun k hk => by omega), F', hH4.chg hc5 (fun k hk e => hnB (e ▸ hk)) (by omega), fun k hk => ?_⟩
    rcases hF4 k hk with h | h
    · exact .inl h
    · exact .inr (by omega)
  refine ok_join [(0, ptrOf hb), (1, .int .i64 k), (3, .slice A l.length c), (8, ptrOf B), (9, ptrOf C), (20, .bool (decide (0 < l.length ∨ k = 7)))] (fun w' => w' = w3) ?_ ?_
  · refine ok_region rfl ?_
    (try revert X); refine t56 ?_; intro X hX
    refine ⟨fun h => ?_, fun h => ?_⟩
    · have h1 : ¬ (0 < l.length) := by simpa using h
      have h2 : ¬ ((0 : Int) < (l.length : Int)) := by omega
      simp only [h2, decide_false]
      (try revert X); refine t56 ?_; intro X hX
      simp [sub, Env.get, h1]
    · have h1 : 0 < l.length := by
        have : (0 : Int) < (l.length : Int) := by simpa using h
        omega
      (try revert X); refine t56 ?_; intro X hX
      simp [sub, Env.get, h1]
  rintro w' rfl
  refine ok_if rfl (fun hc => ?_) (fun hc => ok_skip ?_)
  rotate_left
  · try simp only [zW, zU, reduceIte, Nat.reduceEqDiff, Nat.reduceAdd, reduceCtorEq, Q56]
    have hmk : mkW H k n l = (H, ⟨k, n, 0⟩) := by unfold mkW; rw [if_neg hc]
    rw [hmk]
    refine ⟨by simp [sub, Env.get], he3.chg F, F, hH.ext he3, fun k hk => .inl hk, hb13, by simpa [Wd.row] using hb3⟩
  have hmk : mkW H k n l = (H ++ [.words (if k = 7 then 7 else 4) l], ⟨k, n, (H.length : Int) + 1⟩) := by unfold mkW; rw [if_pos hc]
  rw [hmk]
  refine ok_seq (fun M hM => ok_region rfl ?_); (try revert X); refine t56 ?_; intro X hX
  refine hM _ _ _ ?_; clear hM M
  refine ok_join [(0, ptrOf hb), (3, .slice A l.length c), (8, ptrOf B), (9, ptrOf C), (10, .int .i64 (if k = 7 then 7 else 4))] (fun w2 => w2 = w') ?_ ?_
  · refine ok_seq (fun M hM => ok_region rfl ?_); (try revert X); refine t56 ?_; intro X hX
    refine hM _ _ _ ?_; clear hM M
    refine ok_if rfl (fun hk => ?_) (fun hk => ok_skip ?_)
    · refine ok_region rfl ?_
      (try revert X); refine t56 ?_; intro X hX
      simp [sub, Env.get, hk]
    · try simp only [zW, zU, reduceIte, Nat.reduceEqDiff, Nat.reduceAdd, reduceCtorEq, Q56]
      simp [sub, Env.get, hk]
  rintro w'' rfl
  refine ok_region rfl ?_
  (try revert X); refine t56 ?_; intro X hX
  refine Inv.call Fx.en78 (clone_ok w'' _ l (hav.ext he3) hll) ?_
  rintro v w4 ⟨⟨A4, c4, rfl⟩, ⟨g, hW, hgn⟩, he4⟩
  (try revert X); refine t56 ?_; intro X hX
  refine ⟨_, w4, run_build (P := Tryz.prog) w4 106 _ #[.slice A4 l.length c4] (by kernel_rfl), ?_⟩
  (try revert X); refine t56 ?_; intro X hX
  refine ⟨_, w4, run_build (P := Tryz.prog) w4 108 _ #[.slice A4 l.length c4, .string ⟨#[]⟩, .bool false, .int .i64 (if k = 7 then 7 else 4)] (by kernel_rfl), ?_⟩
  (try revert X); refine t56 ?_; intro X hX
  refine Runs.box (fun w5 he5 hs5 hb5 => ?_)
  simp only [Value.cells] at hb5
  generalize hp : w4.heap.size = p at hs5 hb5
  have hs3' := he3.size
  have hs4' := he4.size
  -- the block of the words: the object's own, where there are none
  obtain ⟨g2, hW2, hg2, hg2s⟩ : ∃ g2, WL w5 g2 (.slice A4 l.length c4) l ∧ (g2 = p ∨ (w''.heap.size ≤ g2 ∧ g2 < w5.heap.size)) ∧ g2 < w5.heap.size := by
    by_cases hn0 : l = []
    · subst hn0
      obtain ⟨A', c', h1, h2, h3, -⟩ := hW.ext he5
      exact ⟨p, ⟨A', c', h1, h2, h3, fun h => absurd rfl h⟩, .inl rfl, by omega⟩
    · obtain ⟨A', c', h1, h2, h3, h4⟩ := id hW
      obtain ⟨-, cs, h5, -⟩ := h4 hn0
      have := h5.lt
      exact ⟨g, hW.ext he5, .inr ⟨hgn hn0, by omega⟩, by omega⟩
  (try revert X); refine t56 ?_; intro X hX
  refine Inv.call Fx.en92 (add_ok w5 hb rb H F (hH.ext (he3.trans (he4.trans he5))) hl p g2 (.words (if k = 7 then 7 else 4) l) ⟨_, hb5, hW2⟩ (fun h => by have := hF p h; omega) (fun h => by have := hF g2 h; omega) (by omega) (by omega) (by omega) (by omega)) ?_
  rintro v w6 ⟨rfl, hc6, F', hH6, hF'⟩
  have hs6 := hc6.size
  (try revert X); refine t56 ?_; intro X hX
  have hBF : ¬ F B := fun h => by have := hF B h; omega
  have hCF : ¬ F C := fun h => by have := hF C h; omega
  have hbC6 : Blk w6 C [.int .i64 k, .int .i64 n, .int .i64 0] 38 := ((hb3.ext he4).ext he5).chg hc6 hCF
  have hbB6 : Blk w6 B [.int .i64 0, .int .i64 0, .int .i64 0] 38 := ((hb13.ext he4).ext he5).chg hc6 hBF
  refine Runs.store hbC6 Fx.zi3 rfl (by intro u hu; simp [Value.cells] at hu; subst hu; rfl) (by simp) (fun w7 hc7 hs7 hb7 => ?_)
  (try revert X); refine t56 ?_; intro X hX
  have hnC : ¬ F' C := fun h => by rcases hF' C h with h | h | h | h <;> first | exact hCF h | omega
  have hnB : ¬ F' B := fun h => by rcases hF' B h with h | h | h | h <;> first | exact hBF h | omega
  refine ⟨by simp [sub, Env.get], (((he3.trans (he4.trans he5)).chg F).trans hc6).trans_new hc7 (fun k hk => by omega), F', hH6.chg hc7 (fun k hk e => hnC (e ▸ hk)) (by omega), fun k hk => ?_, hbB6.chg hc7 (by omega), by simpa [splice, Value.cells, Wd.row] using hb7⟩
  have h1 : k ≠ C := fun e => hnC (e ▸ hk)
  have h2 : k ≠ B := fun e => hnB (e ▸ hk)
  rcases hF' k hk with h | h | h | h
  · exact .inl h
  · exact .inr (by omega)
  · exact .inr (by omega)
  · exact .inr (by omega)
end Go.Proofs.YtldeokfhipjbfaaGreatDoor
/- slices.ContainsFunc over values and over words: with an invariant. -/
set_option linter.unusedVariables false
set_option linter.unusedSimpArgs false
namespace Go.Proofs.Vg
open Go Go.RowKit
theorem Inv.weaken {P : Program} {fv : Value} {args : List Value} {w : World} {R next : Value → World → Prop} {pan : List PanicEntry → World → Prop} (h : Inv P fv args w (callR R fun _ _ => False)) (hn : ∀ v w', R v w' → next v w') : Inv P fv args w (callR next pan) := by
  have hq : ∀ e w', callR R (fun _ _ => False) e w' → callR next pan e w' := fun e w' he => by cases e <;> simp only [callR] at he ⊢ <;> first | exact hn _ _ he | exact he.elim
  rcases h with ⟨f, fi, ca, h1, h2, h3⟩ | ⟨l, fi, ca, fn, tmps, assign, body, h1, h2, h3⟩
  · exact .inl ⟨f, fi, ca, h1, h2, Calls.mono h3 hq⟩
  · exact .inr ⟨l, fi, ca, fn, tmps, assign, body, h1, h2, RoundIn.mono h3 hq⟩
end Go.Proofs.Vg
namespace Go.Proofs.YtldeokfhipjbfaaGreatDoor
open Go Go.Proofs.Vg Go.RowKit

-- -- function 93
set_option maxHeartbeats 2000000 in
set_option maxRecDepth 8000 in
theorem indexFuncV_ok (w : World) (A : Option Addr) (n c : Nat) (fv : Value) (hn : n ≤ 140737488355328) (J : Nat → World → Prop) (Q : World → Prop)
    (h0 : J 0 w) (hp : ∀ i w', i < n → J i w' → ∃ row, row.length = 4 ∧ (∃ b o, A = some ⟨b, o, none⟩ ∧ cellsAt w' ⟨b, o + i * 4, none⟩ row) ∧ Inv Tryz.prog fv [.agg row.toArray] w' (callR (fun v w'' => ∃ b, v = .bool b ∧ (b = true → Q w'') ∧ (b = false → J (i + 1) w'')) fun _ _ => False)) :
    Rets Tryz.prog 93 [.slice A n c, fv] w (fun v w' => ∃ i : Int, v = .int .i64 i ∧ ((0 ≤ i ∧ Q w') ∨ (i < 0 ∧ J n w'))) := by
  refine rets_of_ok Tryz.func93 rfl rfl ?_
  refine ok_seq (fun M hM => ok_region rfl ?_); (try revert X); refine t93 ?_; intro X hX
  refine hM _ _ _ ?_; clear hM M
  refine ok_seq (fun M0 hM0 => ?_)
  refine ok_seq (fun M hM => ok_region rfl ?_); (try revert X); refine t93 ?_; intro X hX
  refine hM _ _ _ ?_; clear hM M
  refine ok_block ?_
  refine ok_loop (S := Nat) (fun k => [(0, .slice A n c), (1, fv), (7, .int .i64 (n : Int)), (8, .int .i64 (k : Int))]) (fun k w' => k ≤ n ∧ J k w') (fun k => n - k) 0 ?_ ?_ ?_
  · simp [sub, Env.get, argEnv]
  · exact ⟨Nat.zero_le _, h0⟩
  rintro k w' ⟨hk, hJ⟩
  refine ok_seq (fun M hM => ok_region rfl ?_); (try revert X); refine t93 ?_; intro X hX
  refine hM _ _ _ ?_; clear hM M
  refine ok_seq (fun M hM => ok_if rfl (fun hc => ok_skip ?_) (fun hc => ok_exit ?_))
  · try simp only [zW, zU, reduceIte, Nat.reduceEqDiff, Nat.reduceAdd, reduceCtorEq, Q93]
    refine hM _ _ _ ?_; clear hM M
    have hkl : k < n := by omega
    obtain ⟨row, hrl, ⟨b, o, rfl, hcell⟩, hI⟩ := hp k w' hkl hJ
    refine ok_seq (fun M1 hM1 => ok_block ?_)
    refine ok_seq (fun M hM => ok_region rfl ?_); (try revert X); refine t93 ?_; intro X hX
    refine hM _ _ _ ?_; clear hM M
    refine ok_seq (fun M hM => ok_region rfl ?_)
    (try revert X); refine t93 ?_; intro X hX
    refine ⟨by omega, by omega, ?_⟩
    (try revert X); refine t93 ?_; intro X hX
    refine ⟨row, hrl, hcell, ?_⟩
    (try revert X); refine t93 ?_; intro X hX
    refine Inv.weaken hI (fun v w2 hv => ?_)
    obtain ⟨b', rfl, hb1, hb2⟩ := hv
    (try revert X); refine t93 ?_; intro X hX
    refine hM _ _ _ ?_; clear hM M
    refine ok_cond rfl (fun hc => ?_) (fun hc => ok_skip ?_)
    · refine ok_seq (fun M hM => ok_region rfl ?_); (try revert X); refine t93 ?_; intro X hX
      refine hM _ _ _ ?_; clear hM M
      refine ok_ret ?_
      try simp only [zW, zU, reduceIte, Nat.reduceEqDiff, Nat.reduceAdd, reduceCtorEq, Q93]
      exact ⟨(k : Int), rfl, .inl ⟨by omega, hb1 hc⟩⟩
    · try simp only [zW, zU, reduceIte, Nat.reduceEqDiff, Nat.reduceAdd, reduceCtorEq, Q93]
      refine hM1 _ _ _ ?_; clear hM1 M1
      refine ok_region rfl ?_
      (try revert X); refine t93 ?_; intro X hX
      refine ⟨by simp only [inI]; omega, ?_⟩
      (try revert X); refine t93 ?_; intro X hX
      exact ⟨k + 1, by simp [sub, Env.get], ⟨by omega, hb2 hc⟩, by omega⟩
  · try simp only [zW, zU, reduceIte, Nat.reduceEqDiff, Nat.reduceAdd, reduceCtorEq, Q93]
    refine hM0 _ _ _ ?_; clear hM0 M0 hM M
    refine ok_seq (fun M hM => ok_region rfl ?_); (try revert X); refine t93 ?_; intro X hX
    refine hM _ _ _ ?_; clear hM M
    refine ok_ret ?_
    try simp only [zW, zU, reduceIte, Nat.reduceEqDiff, Nat.reduceAdd, reduceCtorEq, Q93]
    have hkn : k = n := by omega
    subst hkn
    exact ⟨-1, rfl, .inr ⟨by omega, hJ⟩⟩

-- -- function 59
set_option maxHeartbeats 2000000 in
set_option maxRecDepth 8000 in
theorem containsV_ok (w : World) (A : Option Addr) (n c : Nat) (fv : Value) (hn : n ≤ 140737488355328) (J : Nat → World → Prop) (Q : World → Prop)
    (h0 : J 0 w) (hp : ∀ i w', i < n → J i w' → ∃ row, row.length = 4 ∧ (∃ b o, A = some ⟨b, o, none⟩ ∧ cellsAt w' ⟨b, o + i * 4, none⟩ row) ∧ Inv Tryz.prog fv [.agg row.toArray] w' (callR (fun v w'' => ∃ b, v = .bool b ∧ (b = true → Q w'') ∧ (b = false → J (i + 1) w'')) fun _ _ => False)) :
    Rets Tryz.prog 59 [.slice A n c, fv] w (fun v w' => ∃ b, v = .bool b ∧ (b = true → Q w') ∧ (b = false → J n w')) := by
  refine rets_of_ok Tryz.func59 rfl rfl ?_
  refine ok_seq (fun M hM => ok_region rfl ?_); (try revert X); refine t59 ?_; intro X hX
  refine hM _ _ _ ?_; clear hM M
  refine ok_seq (fun M hM => ok_region rfl ?_)
  (try revert X); refine t59 ?_; intro X hX
  refine Inv.call Fx.en93 (indexFuncV_ok w A n c fv hn J Q h0 hp) ?_
  rintro v w' ⟨i, rfl, hi⟩
  (try revert X); refine t59 ?_; intro X hX
  refine hM _ _ _ ?_; clear hM M
  refine ok_ret ?_
  try simp only [zW, zU, reduceIte, Nat.reduceEqDiff, Nat.reduceAdd, reduceCtorEq, Q59]
  rcases hi with ⟨h1, h2⟩ | ⟨h1, h2⟩
  · exact ⟨true, by simpa using h1, fun _ => h2, fun h => by cases h⟩
  · exact ⟨false, by simpa using h1, fun h => (by cases h), fun _ => h2⟩


-- -- function 87
set_option maxHeartbeats 2000000 in
set_option maxRecDepth 8000 in
theorem indexFuncW_ok (w : World) (A : Option Addr) (n c : Nat) (fv : Value) (hn : n ≤ 140737488355328) (J : Nat → World → Prop) (Q : World → Prop)
    (h0 : J 0 w) (hp : ∀ i w', i < n → J i w' → ∃ row, row.length = 3 ∧ (∃ b o, A = some ⟨b, o, none⟩ ∧ cellsAt w' ⟨b, o + i * 3, none⟩ row) ∧ Inv Tryz.prog fv [.agg row.toArray] w' (callR (fun v w'' => ∃ b, v = .bool b ∧ (b = true → Q w'') ∧ (b = false → J (i + 1) w'')) fun _ _ => False)) :
    Rets Tryz.prog 87 [.slice A n c, fv] w (fun v w' => ∃ i : Int, v = .int .i64 i ∧ ((0 ≤ i ∧ Q w') ∨ (i < 0 ∧ J n w'))) := by
  refine rets_of_ok Tryz.func87 rfl rfl ?_
  refine ok_seq (fun M hM => ok_region rfl ?_); (try revert X); refine t87 ?_; intro X hX
  refine hM _ _ _ ?_; clear hM M
  refine ok_seq (fun M0 hM0 => ?_)
  refine ok_seq (fun M hM => ok_region rfl ?_); (try revert X); refine t87 ?_; intro X hX
  refine hM _ _ _ ?_; clear hM M
  refine ok_block ?_
  refine ok_loop (S := Nat) (fun k => [(0, .slice A n c), (1, fv), (7, .int .i64 (n : Int)), (8, .int .i64 (k : Int))]) (fun k w' => k ≤ n ∧ J k w') (fun k => n - k) 0 ?_ ?_ ?_
  · simp [sub, Env.get, argEnv]
  · exact ⟨Nat.zero_le _, h0⟩
  rintro k w' ⟨hk, hJ⟩
  refine ok_seq (fun M hM => ok_region rfl ?_); (try revert X); refine t87 ?_; intro X hX
  refine hM _ _ _ ?_; clear hM M
  refine ok_seq (fun M hM => ok_if rfl (fun hc => ok_skip ?_) (fun hc => ok_exit ?_))
  · try simp only [zW, zU, reduceIte, Nat.reduceEqDiff, Nat.reduceAdd, reduceCtorEq, Q87]
    refine hM _ _ _ ?_; clear hM M
    have hkl : k < n := by omega
    obtain ⟨row, hrl, ⟨b, o, rfl, hcell⟩, hI⟩ := hp k w' hkl hJ
    refine ok_seq (fun M1 hM1 => ok_block ?_)
    refine ok_seq (fun M hM => ok_region rfl ?_); (try revert X); refine t87 ?_; intro X hX
    refine hM _ _ _ ?_; clear hM M
    refine ok_seq (fun M hM => ok_region rfl ?_)
    (try revert X); refine t87 ?_; intro X hX
    refine ⟨by omega, by omega, ?_⟩
    (try revert X); refine t87 ?_; intro X hX
    refine ⟨row, hrl, hcell, ?_⟩
    (try revert X); refine t87 ?_; intro X hX
    refine Inv.weaken hI (fun v w2 hv => ?_)
    obtain ⟨b', rfl, hb1, hb2⟩ := hv
    (try revert X); refine t87 ?_; intro X hX
    refine hM _ _ _ ?_; clear hM M
    refine ok_cond rfl (fun hc => ?_) (fun hc => ok_skip ?_)
    · refine ok_seq (fun M hM => ok_region rfl ?_); (try revert X); refine t87 ?_; intro X hX
      refine hM _ _ _ ?_; clear hM M
      refine ok_ret ?_
      try simp only [zW, zU, reduceIte, Nat.reduceEqDiff, Nat.reduceAdd, reduceCtorEq, Q87]
      exact ⟨(k : Int), rfl, .inl ⟨by omega, hb1 hc⟩⟩
    · try simp only [zW, zU, reduceIte, Nat.reduceEqDiff, Nat.reduceAdd, reduceCtorEq, Q87]
      refine hM1 _ _ _ ?_; clear hM1 M1
      refine ok_region rfl ?_
      (try revert X); refine t87 ?_; intro X hX
      refine ⟨by simp only [inI]; omega, ?_⟩
      (try revert X); refine t87 ?_; intro X hX
      exact ⟨k + 1, by simp [sub, Env.get], ⟨by omega, hb2 hc⟩, by omega⟩
  · try simp only [zW, zU, reduceIte, Nat.reduceEqDiff, Nat.reduceAdd, reduceCtorEq, Q87]
    refine hM0 _ _ _ ?_; clear hM0 M0 hM M
    refine ok_seq (fun M hM => ok_region rfl ?_); (try revert X); refine t87 ?_; intro X hX
    refine hM _ _ _ ?_; clear hM M
    refine ok_ret ?_
    try simp only [zW, zU, reduceIte, Nat.reduceEqDiff, Nat.reduceAdd, reduceCtorEq, Q87]
    have hkn : k = n := by omega
    subst hkn
    exact ⟨-1, rfl, .inr ⟨by omega, hJ⟩⟩

-- -- function 47
set_option maxHeartbeats 2000000 in
set_option maxRecDepth 8000 in
theorem containsW_ok (w : World) (A : Option Addr) (n c : Nat) (fv : Value) (hn : n ≤ 140737488355328) (J : Nat → World → Prop) (Q : World → Prop)
    (h0 : J 0 w) (hp : ∀ i w', i < n → J i w' → ∃ row, row.length = 3 ∧ (∃ b o, A = some ⟨b, o, none⟩ ∧ cellsAt w' ⟨b, o + i * 3, none⟩ row) ∧ Inv Tryz.prog fv [.agg row.toArray] w' (callR (fun v w'' => ∃ b, v = .bool b ∧ (b = true → Q w'') ∧ (b = false → J (i + 1) w'')) fun _ _ => False)) :
    Rets Tryz.prog 47 [.slice A n c, fv] w (fun v w' => ∃ b, v = .bool b ∧ (b = true → Q w') ∧ (b = false → J n w')) := by
  refine rets_of_ok Tryz.func47 rfl rfl ?_
  refine ok_seq (fun M hM => ok_region rfl ?_); (try revert X); refine t47 ?_; intro X hX
  refine hM _ _ _ ?_; clear hM M
  refine ok_seq (fun M hM => ok_region rfl ?_)
  (try revert X); refine t47 ?_; intro X hX
  refine Inv.call Fx.en87 (indexFuncW_ok w A n c fv hn J Q h0 hp) ?_
  rintro v w' ⟨i, rfl, hi⟩
  (try revert X); refine t47 ?_; intro X hX
  refine hM _ _ _ ?_; clear hM M
  refine ok_ret ?_
  try simp only [zW, zU, reduceIte, Nat.reduceEqDiff, Nat.reduceAdd, reduceCtorEq, Q47]
  rcases hi with ⟨h1, h2⟩ | ⟨h1, h2⟩
  · exact ⟨true, by simpa using h1, fun _ => h2, fun h => by cases h⟩
  · exact ⟨false, by simpa using h1, fun h => (by cases h), fun _ => h2⟩

end Go.Proofs.YtldeokfhipjbfaaGreatDoor
/- known, formed: which values can be stored. -/
set_option linter.unusedVariables false
set_option linter.unusedSimpArgs false
namespace Go.Proofs.Vg
open Go Go.RowKit
def kindF (n : Int) : Option Value := if 1 ≤ n ∧ n ≤ 8 then some (.int .i64 n) else none
def rankL : List Value := [.int .i64 0, .int .i64 1, .int .i64 2, .int .i64 3, .int .i64 4, .int .i64 5, .int .i64 6, .int .i64 7, .int .i64 8, .int .i64 0]
/-- The package's variables. -/
structure Glob (w : World) (mk : Nat) : Prop where
  kc : w.cell? ⟨1, 0, none⟩ = some (.map (some mk))
  km : MapI w mk kindF
  rk : cellsAt w ⟨0, 0, none⟩ rankL
theorem Glob.ext {w w' : World} {mk : Nat} (h : Glob w mk) (he : Ext w w') : Glob w' mk := ⟨he.cell h.kc, h.km.ext he, he.cellsAt h.rk⟩
mutual
def knownV : Val → Bool
  | .mk k _ _ args => decide (1 ≤ k ∧ k ≤ 8) && knownVs args
def knownVs : List Val → Bool
  | [] => true
  | x :: xs => knownV x && knownVs xs
end
def wellV (k n : Int) (t : ByteArray) (len : Nat) : Bool :=
  if k = 1 ∨ k = 2 then decide (t = ⟨#[]⟩) && decide (len = 0)
  else if k = 3 then decide (n = 0) && decide (len = 0)
  else if k = 8 then decide (t = ⟨#[]⟩) && decide (0 ≤ n) && decide (len = 0)
  else if k = 7 then decide (t = ⟨#[]⟩) && decide (n = 0)
  else decide (t = ⟨#[]⟩) && decide (0 ≤ n)
mutual
def formedV : Val → Bool
  | .mk k n t args => wellV k n t args.length && formedVs args
def formedVs : List Val → Bool
  | [] => true
  | x :: xs => formedV x && formedVs xs
end
theorem knownVs_iff : ∀ (l : List Val), knownVs l = true ↔ ∀ (i : Nat) (x : Val), l[i]? = some x → knownV x = true
  | [] => by simp [knownVs]
  | x :: xs => by
    simp only [knownVs, Bool.and_eq_true, knownVs_iff xs]
    constructor
    · rintro ⟨h1, h2⟩ i y hy
      cases i with
      | zero => simp at hy; subst hy; exact h1
      | succ i => exact h2 i y (by simpa using hy)
    · intro h
      exact ⟨h 0 x rfl, fun i y hy => h (i + 1) y (by simpa using hy)⟩
theorem formedVs_iff : ∀ (l : List Val), formedVs l = true ↔ ∀ (i : Nat) (x : Val), l[i]? = some x → formedV x = true
  | [] => by simp [formedVs]
  | x :: xs => by
    simp only [formedVs, Bool.and_eq_true, formedVs_iff xs]
    constructor
    · rintro ⟨h1, h2⟩ i y hy
      cases i with
      | zero => simp at hy; subst hy; exact h1
      | succ i => exact h2 i y (by simpa using hy)
    · intro h
      exact ⟨h 0 x rfl, fun i y hy => h (i + 1) y (by simpa using hy)⟩
theorem VRow.len {w : World} {r : List Value} {x : Val} (h : VRow w r x) : r.length = 4 := by
  cases x; simp only [VRow] at h; obtain ⟨_, rfl, _⟩ := h; rfl
theorem VRow.one {w : World} {r : List Value} {x : Val} (h : VRow w r x) : ∀ u ∈ r, u.oneCell' = true := by
  cases x; simp only [VRow] at h
  obtain ⟨v, rfl, h1, h2, _⟩ := h
  intro u hu; simp at hu; rcases hu with rfl | rfl | rfl | rfl <;> first | rfl | exact h1
theorem VRow.cells {w : World} {r : List Value} {x : Val} (h : VRow w r x) : (Value.agg r.toArray).cells = r.toArray := rfl
def SliS (w : World) (S : Nat → Prop) (sz : Nat) (v : Value) (rows : List (List Value)) : Prop :=
  ∃ A c, v = .slice A rows.length c ∧ rows.length ≤ 140737488355328 ∧ ∀ (j : Nat) (row : List Value), rows[j]? = some row → ∃ b o, A = some ⟨b, o, none⟩ ∧ S b ∧ cellsAt w ⟨b, o + j * sz, none⟩ row
theorem SliS.sli {w : World} {S : Nat → Prop} {sz : Nat} {v : Value} {rows : List (List Value)} (h : SliS w S sz v rows) : Sli w sz v rows := by
  obtain ⟨A, c, h1, h2, h3⟩ := h
  exact ⟨A, c, h1, h2, fun j row hj => by obtain ⟨b, o, h4, _, h5⟩ := h3 j row hj; exact ⟨b, o, h4, h5⟩⟩
mutual
/-- Four cells that read as a value; what they lead to lies in 'S'. -/
def VRowS (w : World) (S : Nat → Prop) : List Value → Val → Prop
  | row, .mk k n t args => ∃ v, row = [.int .i64 k, .int .i64 n, .string t, v] ∧ v.oneCell' = true ∧ v.cells = #[v] ∧ ∃ rows, SliS w S 4 v rows ∧ VRowsS w S rows args
def VRowsS (w : World) (S : Nat → Prop) : List (List Value) → List Val → Prop
  | [], [] => True
  | r :: rs, x :: xs => VRowS w S r x ∧ VRowsS w S rs xs
  | _, _ => False
end
mutual
theorem VRowS.row {w : World} {S : Nat → Prop} : ∀ (row : List Value) (x : Val), VRowS w S row x → VRow w row x
  | row, .mk k n t args, h => by
    simp only [VRowS] at h
    simp only [VRow]
    obtain ⟨v, h1, h2, h3, rows, h4, h5⟩ := h
    exact ⟨v, h1, h2, h3, rows, h4.sli, VRowsS.rows rows args h5⟩
theorem VRowsS.rows {w : World} {S : Nat → Prop} : ∀ (rows : List (List Value)) (xs : List Val), VRowsS w S rows xs → VRows w rows xs
  | [], [], _ => by simp only [VRows]
  | r :: rs, x :: xs, h => by
    simp only [VRowsS] at h
    simp only [VRows]
    exact ⟨VRowS.row r x h.1, VRowsS.rows rs xs h.2⟩
  | [], _ :: _, h => by simp [VRowsS] at h
  | _ :: _, [], h => by simp [VRowsS] at h
end
mutual
theorem VRowS.chg {w w' : World} {S S' T : Nat → Prop} (hc : Chg T w w') (hs : ∀ k, S k → S' k ∧ ¬ T k) : ∀ (row : List Value) (x : Val), VRowS w S row x → VRowS w' S' row x
  | row, .mk k n t args, h => by
    simp only [VRowS] at h ⊢
    obtain ⟨v, h1, h2, h3, rows, ⟨A, c, h6, h7, h8⟩, h5⟩ := h
    refine ⟨v, h1, h2, h3, rows, ⟨A, c, h6, h7, fun j row hj => ?_⟩, VRowsS.chg hc hs rows args h5⟩
    obtain ⟨b, o, h9, h10, h11⟩ := h8 j row hj
    exact ⟨b, o, h9, (hs b h10).1, hc.cellsAt h11 (hs b h10).2⟩
theorem VRowsS.chg {w w' : World} {S S' T : Nat → Prop} (hc : Chg T w w') (hs : ∀ k, S k → S' k ∧ ¬ T k) : ∀ (rows : List (List Value)) (xs : List Val), VRowsS w S rows xs → VRowsS w' S' rows xs
  | [], [], _ => by simp only [VRowsS]
  | r :: rs, x :: xs, h => by
    simp only [VRowsS] at h ⊢
    exact ⟨VRowS.chg hc hs r x h.1, VRowsS.chg hc hs rs xs h.2⟩
  | [], _ :: _, h => by simp [VRowsS] at h
  | _ :: _, [], h => by simp [VRowsS] at h
end
theorem VRowsS.snoc {w : World} {S : Nat → Prop} {r : List Value} {x : Val} : ∀ (rows : List (List Value)) (xs : List Val), VRowsS w S rows xs → VRowS w S r x → VRowsS w S (rows ++ [r]) (xs ++ [x])
  | [], [], _, h => by simp only [List.nil_append, VRowsS]; exact ⟨h, trivial⟩
  | r' :: rs, x' :: xs, h, h' => by
    simp only [List.cons_append, VRowsS] at h ⊢
    exact ⟨h.1, VRowsS.snoc rs xs h.2 h'⟩
  | [], _ :: _, h, _ => by simp [VRowsS] at h
  | _ :: _, [], h, _ => by simp [VRowsS] at h
theorem VRowsS.length {w : World} {S : Nat → Prop} {rows : List (List Value)} {xs : List Val} (h : VRowsS w S rows xs) : rows.length = xs.length := (VRowsS.rows rows xs h).length
theorem VRowsS.len4 {w : World} {S : Nat → Prop} : ∀ (rows : List (List Value)) (xs : List Val), VRowsS w S rows xs → ∀ r ∈ rows, r.length = 4
  | [], [], _ => by simp
  | r' :: rs, x' :: xs, h => by
    simp only [VRowsS] at h
    intro r hr
    rcases List.mem_cons.1 hr with rfl | hr
    · exact (VRowS.row _ _ h.1).len
    · exact VRowsS.len4 rs xs h.2 r hr
  | [], _ :: _, h => by simp [VRowsS] at h
  | _ :: _, [], h => by simp [VRowsS] at h
mutual
/-- What reads leads below the world's size. -/
theorem VRow.toS {w : World} : ∀ (row : List Value) (x : Val), VRow w row x → VRowS w (fun k => k < w.heap.size) row x
  | row, .mk k n t args, h => by
    simp only [VRow] at h
    simp only [VRowS]
    obtain ⟨v, h1, h2, h3, rows, ⟨A, c, h6, h7, h8⟩, h5⟩ := h
    refine ⟨v, h1, h2, h3, rows, ⟨A, c, h6, h7, fun j row hj => ?_⟩, VRows.toS rows args h5⟩
    obtain ⟨b, o, h9, h10⟩ := h8 j row hj
    refine ⟨b, o, h9, ?_, h10⟩
    have hjl : j < args.length := by have := (List.getElem?_eq_some_iff.1 hj).1; rw [← VRows.length h5]; exact this
    obtain ⟨r, hr, hv⟩ := VRows.get h5 j _ (List.getElem?_eq_getElem hjl)
    rw [hj] at hr; cases hr
    have hl := hv.len
    have hc := h10 0 (row[0]'(by omega)) (List.getElem?_eq_getElem _)
    have := World.block_lt_of_cell? w _ hc
    simpa [add_at] using this
theorem VRows.toS {w : World} : ∀ (rows : List (List Value)) (xs : List Val), VRows w rows xs → VRowsS w (fun k => k < w.heap.size) rows xs
  | [], [], _ => by simp only [VRowsS]
  | r :: rs, x :: xs, h => by
    simp only [VRows] at h
    simp only [VRowsS]
    exact ⟨VRow.toS r x h.1, VRows.toS rs xs h.2⟩
  | [], _ :: _, h => by simp [VRows] at h
  | _ :: _, [], h => by simp [VRows] at h
end
theorem VRowsS.get {w : World} {S : Nat → Prop} : ∀ {rows : List (List Value)} {xs : List Val}, VRowsS w S rows xs → ∀ (i : Nat) (x : Val), xs[i]? = some x → ∃ r, rows[i]? = some r ∧ VRowS w S r x
  | [], [], _, i, x, hx => by simp at hx
  | r :: rs, y :: xs, h, i, x, hx => by
    simp only [VRowsS] at h
    cases i with
    | zero => simp at hx; subst hx; exact ⟨r, rfl, h.1⟩
    | succ i => exact VRowsS.get h.2 i x (by simpa using hx)
  | [], _ :: _, h, _, _, _ => by simp [VRowsS] at h
  | _ :: _, [], h, _, _, _ => by simp [VRowsS] at h
theorem VRowS.ext {w w' : World} {S : Nat → Prop} {row : List Value} {x : Val} (h : VRowS w S row x) (he : Ext w w') : VRowS w' S row x := VRowS.chg (he.chg (fun _ => False)) (fun k hk => ⟨hk, id⟩) row x h
theorem Glob.chg {w w' : World} {mk : Nat} {T : Nat → Prop} (h : Glob w mk) (hc : Chg T w w') (h0 : ¬ T 0) (h1 : ¬ T 1) (hm : ¬ T mk) : Glob w' mk := ⟨hc.cell h.kc h1, h.km.chg hc hm, hc.cellsAt h.rk h0⟩
theorem Glob.lt {w : World} {mk : Nat} (h : Glob w mk) : 0 < w.heap.size ∧ 1 < w.heap.size ∧ mk < w.heap.size :=
  ⟨by have := World.block_lt_of_cell? w _ (h.rk 0 _ rfl); simpa [add_at] using this, World.block_lt_of_cell? w _ h.kc, h.km.lt⟩
end Go.Proofs.Vg
namespace Go.Proofs.YtldeokfhipjbfaaGreatDoor
open Go Go.Proofs.Vg Go.RowKit

-- -- function 52
set_option maxHeartbeats 2000000 in
set_option maxRecDepth 8000 in
theorem known_ok : ∀ (m : Nat) (x : Val) (w : World) (r : List Value) (mk : Nat), SizeOf.sizeOf x ≤ m → VRow w r x → Glob w mk → Rets Tryz.prog 52 [.agg r.toArray] w (fun v w' => v = .int .i64 (if knownV x then 0 else 3) ∧ Ext w w') := by
  intro m
  induction m with
  | zero => intro x w r mk hm; cases x; simp at hm
  | succ m ih =>
    rintro ⟨k, n, t, a⟩ w r mk hm hr hg
    simp only [VRow] at hr
    obtain ⟨v, rfl, hv1, hv2, rows, hsl, hrows⟩ := hr
    obtain ⟨A, cp, rfl, hlen, hcell⟩ := hsl
    have hl := hrows.length
    refine rets_of_ok Tryz.func52 rfl rfl ?_
    refine ok_seq (fun M hM => ok_region rfl ?_)
    (try revert X); refine t52 ?_; intro X hX
    refine Runs.box (fun w1 he1 hz1 hb1 => ?_)
    generalize hB1 : w.heap.size = B1 at hz1 hb1
    simp only [Value.cells] at hb1
    (try revert X); refine t52 ?_; intro X hX
    refine hM _ _ _ ?_; clear hM M
    rw [hl] at hb1
    refine ok_join [(1, ptrOf B1)] (fun w' => Ext w w' ∧ Ext w1 w' ∧ 1 ≤ k ∧ k ≤ 8) ?_ ?_
    · refine ok_seq (fun M hM => ok_region rfl ?_)
      (try revert X); refine t52 ?_; intro X hX
      refine ⟨_, (hg.ext he1).kc, ?_⟩
      (try revert X); refine t52 ?_; intro X hX
      refine ⟨_, hb1.cell (j := 0) rfl, ?_⟩
      (try revert X); refine t52 ?_; intro X hX
      refine Runs.lookupI Fx.un137 Fx.un3 Fx.zi3 (hg.ext he1).km k ?_
      (try revert X); refine t52 ?_; intro X hX
      refine hM _ _ _ ?_; clear hM M
      refine ok_seq (fun M hM => ok_region rfl ?_)
      (try revert X); refine t52 ?_; intro X hX
      by_cases hk : 1 ≤ k ∧ k ≤ 8
      · have : kindF k = some (.int .i64 k) := by unfold kindF; rw [if_pos hk]
        simp only [this, Option.isSome_some]
        (try revert X); refine t52 ?_; intro X hX
        refine hM _ _ _ ?_; clear hM M
        refine ok_cond rfl (fun h => by cases h) (fun h => ok_skip ?_)
        try simp only [zW, zU, reduceIte, Nat.reduceEqDiff, Nat.reduceAdd, reduceCtorEq, Q52]
        exact ⟨by simp [sub, Env.get], he1, Ext.refl _, hk.1, hk.2⟩
      · have : kindF k = none := by unfold kindF; rw [if_neg hk]
        simp only [this, Option.isSome_none]
        (try revert X); refine t52 ?_; intro X hX
        refine hM _ _ _ ?_; clear hM M
        refine ok_cond rfl (fun _ => ?_) (fun h => by cases h)
        refine ok_seq (fun M hM => ok_region rfl ?_); (try revert X); refine t52 ?_; intro X hX
        refine hM _ _ _ ?_; clear hM M
        refine ok_ret ?_
        try simp only [zW, zU, reduceIte, Nat.reduceEqDiff, Nat.reduceAdd, reduceCtorEq, Q52]
        refine ⟨?_, he1⟩
        simp [knownV, hk]
    rintro w2 ⟨he2, he12, hk1, hk2⟩
    have hb2 := hb1.ext he12
    refine ok_seq (fun M0 hM0 => ?_)
    refine ok_seq (fun M hM => ok_region rfl ?_)
    (try revert X); refine t52 ?_; intro X hX
    refine ⟨_, hb2.cell (j := 3) rfl, ?_⟩
    (try revert X); refine t52 ?_; intro X hX
    refine hM _ _ _ ?_; clear hM M
    refine ok_block ?_
    refine ok_loop (S := Nat) (fun i => [(1, ptrOf B1), (18, .slice A a.length cp), (19, .int .i64 (a.length : Int)), (20, .int .i64 (i : Int))]) (fun i w' => Ext w2 w' ∧ i ≤ a.length ∧ ∀ (j : Nat) (x : Val), j < i → a[j]? = some x → knownV x = true) (fun i => a.length - i) 0 ?_ ?_ ?_
    · simp [sub, Env.get]
    · exact ⟨Ext.refl _, Nat.zero_le _, fun j x h => absurd h (Nat.not_lt_zero _)⟩
    rintro i w4 ⟨he4, hi, hall⟩
    refine ok_seq (fun M hM => ok_region rfl ?_); (try revert X); refine t52 ?_; intro X hX
    refine hM _ _ _ ?_; clear hM M
    refine ok_seq (fun M1 hM1 => ?_)
    refine ok_if rfl (fun hc => ok_skip ?_) (fun hc => ok_exit ?_)
    rotate_left
    · try simp only [zW, zU, reduceIte, Nat.reduceEqDiff, Nat.reduceAdd, reduceCtorEq, Q52]
      refine hM0 _ _ _ ?_; clear hM0 M0 hM1 M1
      refine ok_seq (fun M hM => ok_region rfl ?_); (try revert X); refine t52 ?_; intro X hX
      refine hM _ _ _ ?_; clear hM M
      refine ok_ret ?_
      try simp only [zW, zU, reduceIte, Nat.reduceEqDiff, Nat.reduceAdd, reduceCtorEq, Q52]
      refine ⟨?_, he2.trans he4⟩
      have : knownVs a = true := (knownVs_iff a).2 fun j x hx => hall j x (by have := (List.getElem?_eq_some_iff.1 hx).1; omega) hx
      simp [knownV, this, hk1, hk2]
    · try simp only [zW, zU, reduceIte, Nat.reduceEqDiff, Nat.reduceAdd, reduceCtorEq, Q52]
      refine hM1 _ _ _ ?_; clear hM1 M1
      have hil : i < a.length := by omega
      have hxi : a[i]? = some a[i] := List.getElem?_eq_getElem hil
      obtain ⟨rr, hrr, hvr⟩ := hrows.get i _ hxi
      obtain ⟨b, o, rfl, hcr⟩ := hcell i rr hrr
      have hr4 := hvr.len
      have hsz : SizeOf.sizeOf a[i] ≤ m := by
        have := List.sizeOf_lt_of_mem (List.getElem_mem hil)
        simp at hm
        omega
      refine ok_seq (fun M1 hM1 => ok_block ?_)
      refine ok_seq (fun M hM => ok_region rfl ?_)
      (try revert X); refine t52 ?_; intro X hX
      refine ⟨by omega, by omega, ?_⟩
      (try revert X); refine t52 ?_; intro X hX
      refine ⟨rr, hr4, he4.cellsAt (he2.cellsAt hcr), ?_⟩
      (try revert X); refine t52 ?_; intro X hX
      refine Runs.alloc Fx.zi36 (fun w5 he5 hs5 hb5 => ?_)
      generalize hB5 : w4.heap.size = B5 at hs5 hb5
      (try revert X); refine t52 ?_; intro X hX
      refine Runs.store hb5 Fx.zi36 (by simpa [Value.cells] using hr4) (by simpa [Value.cells] using hvr.one) (by simp [Value.cells]) (fun w6 hc6 hs6 hb6 => ?_)
      rw [splice_all _ _ (by simp [Value.cells, hr4])] at hb6
      simp only [Value.cells] at hb6
      have he6 : Ext w4 w6 := he5.chg_trans hc6 (fun i hi => by omega)
      have hw6 := (he2.trans he4).trans he6
      (try revert X); refine t52 ?_; intro X hX
      refine hM _ _ _ ?_; clear hM M
      refine ok_seq (fun M hM => ok_region rfl ?_)
      (try revert X); refine t52 ?_; intro X hX
      refine ⟨rr, hr4, hb6.cells (o := 0) (fun j u hj => by simpa using hj), ?_⟩
      (try revert X); refine t52 ?_; intro X hX
      refine Inv.call Fx.en52 (ih a[i] w6 rr mk hsz (VRow.ext hw6 _ _ hvr) (hg.ext hw6)) ?_
      rintro v w7 ⟨rfl, he7⟩
      (try revert X); refine t52 ?_; intro X hX
      refine hM _ _ _ ?_; clear hM M
      refine ok_seq (fun M hM => ok_region rfl ?_); (try revert X); refine t52 ?_; intro X hX
      refine hM _ _ _ ?_; clear hM M
      cases hkn : knownV a[i] with
      | false =>
        refine ok_cond (b := true) rfl (fun _ => ?_) (fun h => by cases h)
        refine ok_seq (fun M hM => ok_region rfl ?_); (try revert X); refine t52 ?_; intro X hX
        refine hM _ _ _ ?_; clear hM M
        refine ok_ret ?_
        try simp only [zW, zU, reduceIte, Nat.reduceEqDiff, Nat.reduceAdd, reduceCtorEq, Q52]
        refine ⟨?_, hw6.trans he7⟩
        have : knownVs a = false := by
          cases hx : knownVs a with
          | false => rfl
          | true => have := (knownVs_iff a).1 hx i _ hxi; rw [this] at hkn; cases hkn
        simp [knownV, this]
      | true =>
        refine ok_cond (b := false) rfl (fun h => by cases h) (fun _ => ok_skip ?_)
        try simp only [zW, zU, reduceIte, Nat.reduceEqDiff, Nat.reduceAdd, reduceCtorEq, Q52]
        refine hM1 _ _ _ ?_; clear hM1 M1
        refine ok_region rfl ?_
        (try revert X); refine t52 ?_; intro X hX
        refine ⟨by simp only [inI]; omega, ?_⟩
        (try revert X); refine t52 ?_; intro X hX
        refine ⟨i + 1, by simp [sub, Env.get], ⟨he4.trans (he6.trans he7), by omega, fun j x hj hx => ?_⟩, by omega⟩
        rcases Nat.lt_or_ge j i with h | h
        · exact hall j x h hx
        · have : j = i := by omega
          subst this
          rw [hxi] at hx
          cases hx
          exact hkn
end Go.Proofs.YtldeokfhipjbfaaGreatDoor
/- formed: the shape of a value that can be stored. -/
set_option linter.unusedVariables false
set_option linter.unusedSimpArgs false
namespace Go.Proofs.YtldeokfhipjbfaaGreatDoor
open Go Go.Proofs.Vg Go.RowKit

-- -- function 90
set_option maxHeartbeats 2000000 in
set_option maxRecDepth 8000 in
theorem formed1_ok (w : World) (r : List Value) (x : Val) (hr : VRow w r x) (h : ∀ w', Ext w w' → Rets Tryz.prog 53 [.agg r.toArray] w' (fun v w'' => v = .bool (formedV x) ∧ Ext w' w'')) : Rets Tryz.prog 90 [.agg r.toArray] w (fun v w' => v = .bool (!formedV x) ∧ Ext w w') := by
  refine rets_of_ok Tryz.func90 rfl rfl ?_
  refine ok_seq (fun M hM => ok_region rfl ?_)
  (try revert X); refine t90 ?_; intro X hX
  refine Runs.box (fun w1 he1 hz1 hb1 => ?_)
  generalize hB1 : w.heap.size = B1 at hz1 hb1
  simp only [Value.cells] at hb1
  (try revert X); refine t90 ?_; intro X hX
  refine hM _ _ _ ?_; clear hM M
  refine ok_seq (fun M hM => ok_region rfl ?_)
  (try revert X); refine t90 ?_; intro X hX
  refine ⟨r, hr.len, hb1.cells (o := 0) (fun j u hj => by simpa using hj), ?_⟩
  (try revert X); refine t90 ?_; intro X hX
  refine Inv.call Fx.en53 (h w1 he1) ?_
  rintro v w7 ⟨rfl, he7⟩
  (try revert X); refine t90 ?_; intro X hX
  refine hM _ _ _ ?_; clear hM M
  refine ok_ret ?_
  try simp only [zW, zU, reduceIte, Nat.reduceEqDiff, Nat.reduceAdd, reduceCtorEq, Q90]
  exact he1.trans he7

-- -- function 53
set_option maxHeartbeats 2000000 in
set_option maxRecDepth 8000 in
theorem formed_ok : ∀ (m : Nat) (x : Val) (w : World) (r : List Value), SizeOf.sizeOf x ≤ m → VRow w r x → Rets Tryz.prog 53 [.agg r.toArray] w (fun v w' => v = .bool (formedV x) ∧ Ext w w') := by
  intro m
  induction m with
  | zero => intro x w r hm; cases x; simp at hm
  | succ m ih =>
    rintro ⟨k, n, t, a⟩ w r hm hr
    simp only [VRow] at hr
    obtain ⟨v, rfl, hv1, hv2, rows, hsl, hrows⟩ := hr
    obtain ⟨A, cp, rfl, hlen, hcell⟩ := hsl
    have hl := hrows.length
    refine rets_of_ok Tryz.func53 rfl rfl ?_
    refine ok_seq (fun M hM => ok_region rfl ?_)
    (try revert X); refine t53 ?_; intro X hX
    refine Runs.box (fun w1 he1 hz1 hb1 => ?_)
    generalize hB1 : w.heap.size = B1 at hz1 hb1
    simp only [Value.cells] at hb1
    (try revert X); refine t53 ?_; intro X hX
    refine hM _ _ _ ?_; clear hM M
    rw [hl] at hb1
    refine ok_seq (fun M hM => ok_region rfl ?_)
    (try revert X); refine t53 ?_; intro X hX
    refine ⟨_, hb1.cell (j := 2) rfl, ?_⟩
    (try revert X); refine t53 ?_; intro X hX
    refine hM _ _ _ ?_; clear hM M
    refine ok_join [(1, ptrOf B1), (3, .bool (wellV k n t a.length))] (fun w' => w' = w1) ?_ ?_
    · refine ok_seq (fun M hM => ok_region rfl ?_)
      (try revert X); refine t53 ?_; intro X hX
      refine ⟨_, hb1.cell (j := 0) rfl, ?_⟩
      (try revert X); refine t53 ?_; intro X hX
      refine hM _ _ _ ?_; clear hM M
      refine ok_block ?_
      refine ok_join [(1, ptrOf B1), (3, .bool (decide (t = ⟨#[]⟩))), (8, .int .i64 k), (15, .bool (decide (k = 1 ∨ k = 2)))] (fun w' => w' = w1) ?_ ?_
      · refine ok_seq (fun M hM => ok_region rfl ?_); (try revert X); refine t53 ?_; intro X hX
        refine hM _ _ _ ?_; clear hM M
        refine ok_if rfl (fun hk => ok_skip ?_) (fun hk => ?_)
        · try simp only [zW, zU, reduceIte, Nat.reduceEqDiff, Nat.reduceAdd, reduceCtorEq, Q53]
          simp [sub, Env.get, hk]
        · refine ok_region rfl ?_
          (try revert X); refine t53 ?_; intro X hX
          simp [sub, Env.get, hk]
      rintro w2 rfl
      refine ok_if rfl (fun hk => ?_) (fun hk => ?_)
      · refine ok_region rfl ?_
        (try revert X); refine t53 ?_; intro X hX
        refine ⟨fun h => ?_, fun h => ?_⟩
        · have ht : t = ⟨#[]⟩ := by simpa using h
          (try revert X); refine t53 ?_; intro X hX
          refine ⟨_, hb1.cell (j := 3) rfl, ?_⟩
          (try revert X); refine t53 ?_; intro X hX
          simp [sub, Env.get, wellV, hk, ht]
        · have ht : ¬ t = ⟨#[]⟩ := by simpa using h
          (try revert X); refine t53 ?_; intro X hX
          simp [sub, Env.get, wellV, hk, ht]
      · refine ok_seq (fun M hM => ok_region rfl ?_); (try revert X); refine t53 ?_; intro X hX
        refine hM _ _ _ ?_; clear hM M
        refine ok_if rfl (fun hk3 => ?_) (fun hk3 => ?_)
        · refine ok_region rfl ?_
          (try revert X); refine t53 ?_; intro X hX
          refine ⟨_, hb1.cell (j := 1) rfl, ?_⟩
          (try revert X); refine t53 ?_; intro X hX
          refine ⟨fun h => ?_, fun h => ?_⟩
          · have ht : n = 0 := by simpa using h
            (try revert X); refine t53 ?_; intro X hX
            refine ⟨_, hb1.cell (j := 3) rfl, ?_⟩
            (try revert X); refine t53 ?_; intro X hX
            simp [sub, Env.get, wellV, hk, hk3, ht]
          · have ht : ¬ n = 0 := by simpa using h
            (try revert X); refine t53 ?_; intro X hX
            simp [sub, Env.get, wellV, hk, hk3, ht]
        · refine ok_seq (fun M hM => ok_region rfl ?_); (try revert X); refine t53 ?_; intro X hX
          refine hM _ _ _ ?_; clear hM M
          refine ok_if rfl (fun hk8 => ?_) (fun hk8 => ?_)
          · refine ok_region rfl ?_
            (try revert X); refine t53 ?_; intro X hX
            refine ⟨fun h => ?_, fun h => ?_⟩
            · have ht : t = ⟨#[]⟩ := by simpa using h
              (try revert X); refine t53 ?_; intro X hX
              refine ⟨_, hb1.cell (j := 1) rfl, ?_⟩
              (try revert X); refine t53 ?_; intro X hX
              refine ⟨fun h => ?_, fun h => ?_⟩
              · have hn : 0 ≤ n := by simpa using h
                (try revert X); refine t53 ?_; intro X hX
                refine ⟨_, hb1.cell (j := 3) rfl, ?_⟩
                (try revert X); refine t53 ?_; intro X hX
                simp [sub, Env.get, wellV, hk, hk3, hk8, ht, hn]
              · have hn : ¬ 0 ≤ n := by simpa using h
                (try revert X); refine t53 ?_; intro X hX
                simp [sub, Env.get, wellV, hk, hk3, hk8, ht, hn]
            · have ht : ¬ t = ⟨#[]⟩ := by simpa using h
              (try revert X); refine t53 ?_; intro X hX
              simp [sub, Env.get, wellV, hk, hk3, hk8, ht]
          · refine ok_seq (fun M hM => ok_region rfl ?_); (try revert X); refine t53 ?_; intro X hX
            refine hM _ _ _ ?_; clear hM M
            refine ok_if rfl (fun hk7 => ?_) (fun hk7 => ?_)
            · refine ok_region rfl ?_
              (try revert X); refine t53 ?_; intro X hX
              refine ⟨fun h => ?_, fun h => ?_⟩
              · have ht : t = ⟨#[]⟩ := by simpa using h
                (try revert X); refine t53 ?_; intro X hX
                refine ⟨_, hb1.cell (j := 1) rfl, ?_⟩
                (try revert X); refine t53 ?_; intro X hX
                simp [sub, Env.get, wellV, hk, hk3, hk8, hk7, ht]
              · have ht : ¬ t = ⟨#[]⟩ := by simpa using h
                (try revert X); refine t53 ?_; intro X hX
                simp [sub, Env.get, wellV, hk, hk3, hk8, hk7, ht]
            · refine ok_region rfl ?_
              (try revert X); refine t53 ?_; intro X hX
              refine ⟨fun h => ?_, fun h => ?_⟩
              · have ht : t = ⟨#[]⟩ := by simpa using h
                (try revert X); refine t53 ?_; intro X hX
                refine ⟨_, hb1.cell (j := 1) rfl, ?_⟩
                (try revert X); refine t53 ?_; intro X hX
                simp [sub, Env.get, wellV, hk, hk3, hk8, hk7, ht]
              · have ht : ¬ t = ⟨#[]⟩ := by simpa using h
                (try revert X); refine t53 ?_; intro X hX
                simp [sub, Env.get, wellV, hk, hk3, hk8, hk7, ht]
    rintro w2 rfl
    refine ok_seq (fun M hM => ok_region rfl ?_)
    (try revert X); refine t53 ?_; intro X hX
    refine ⟨fun h => ?_, fun h => ?_⟩
    · have hw : wellV k n t a.length = true := h
      (try revert X); refine t53 ?_; intro X hX
      refine ⟨_, hb1.cell (j := 3) rfl, ?_⟩
      (try revert X); refine t53 ?_; intro X hX
      refine Inv.call Fx.en59 (containsV_ok w2 A a.length cp _ (by omega) (fun i w' => Ext w2 w' ∧ ∀ (j : Nat) (x : Val), j < i → a[j]? = some x → formedV x = true) (fun w' => Ext w2 w' ∧ formedVs a = false) ⟨Ext.refl _, fun j x h => absurd h (Nat.not_lt_zero _)⟩ ?_) ?_
      · rintro i w' hil ⟨he', hall⟩
        have hxi : a[i]? = some a[i] := List.getElem?_eq_getElem hil
        obtain ⟨rr, hrr, hvr⟩ := hrows.get i _ hxi
        obtain ⟨b, o, rfl, hcr⟩ := hcell i rr hrr
        have hsz : SizeOf.sizeOf a[i] ≤ m := by
          have := List.sizeOf_lt_of_mem (List.getElem_mem hil)
          simp at hm
          omega
        have hvr' := VRow.ext (he1.trans he') _ _ hvr
        refine ⟨rr, hvr.len, ⟨b, o, rfl, (he1.trans he').cellsAt hcr⟩, Inv.call Fx.en90 (formed1_ok w' rr a[i] hvr' (fun w'' he'' => ih a[i] w'' rr hsz (VRow.ext he'' _ _ hvr'))) ?_⟩
        rintro v w'' ⟨rfl, he''⟩
        refine ⟨_, rfl, fun hb => ⟨he'.trans he'', ?_⟩, fun hb => ⟨he'.trans he'', fun j x hj hx => ?_⟩⟩
        · cases hx : formedVs a with
          | false => rfl
          | true => have := (formedVs_iff a).1 hx i _ hxi; rw [this] at hb; cases hb
        · rcases Nat.lt_or_ge j i with h | h
          · exact hall j x h hx
          · have : j = i := by omega
            subst this
            rw [hxi] at hx
            cases hx
            simpa using hb
      rintro v w' ⟨b, rfl, hbt, hbf⟩
      (try revert X); refine t53 ?_; intro X hX
      refine hM _ _ _ ?_; clear hM M
      refine ok_ret ?_
      try simp only [zW, zU, reduceIte, Nat.reduceEqDiff, Nat.reduceAdd, reduceCtorEq, Q53]
      cases b with
      | true =>
        obtain ⟨he', hf⟩ := hbt rfl
        exact ⟨by simp [formedV, hf], he1.trans he'⟩
      | false =>
        obtain ⟨he', hall⟩ := hbf rfl
        have : formedVs a = true := (formedVs_iff a).2 fun j x hx => hall j x (List.getElem?_eq_some_iff.1 hx).1 hx
        exact ⟨by simp [formedV, hw, this], he1.trans he'⟩
    · have hw : wellV k n t a.length = false := h
      (try revert X); refine t53 ?_; intro X hX
      refine hM _ _ _ ?_; clear hM M
      refine ok_ret ?_
      try simp only [zW, zU, reduceIte, Nat.reduceEqDiff, Nat.reduceAdd, reduceCtorEq, Q53]
      exact ⟨by simp [formedV, hw], he1⟩
end Go.Proofs.YtldeokfhipjbfaaGreatDoor
