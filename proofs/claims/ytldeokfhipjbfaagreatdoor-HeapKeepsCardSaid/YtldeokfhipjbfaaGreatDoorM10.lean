/- Part 10 of 12: R10, L1, H21, H22, K0, K1, K2, K4, K5. -/
import Derived.Test.YtldeokfhipjbfaaGreatDoorM9
import Derived.Test.YtldeokfhipjbfaaGreatDoorM3
import Derived.Test.YtldeokfhipjbfaaGreatDoorM5
import Derived.Test.YtldeokfhipjbfaaGreatDoorM8
/- The reference: Store.  -/
set_option linter.unusedVariables false
set_option linter.unusedSimpArgs false
namespace Go.Proofs.YtldeokfhipjbfaaGreatDoor
open Go Go.Proofs.Vg Go.RowKit

-- -- function 27
set_option maxHeartbeats 4000000 in
set_option maxRecDepth 8000 in
theorem rStore_ok (x : Val) (w : World) (S : Nat → Prop) (r : List Value) (rb : Nat) (H : List Ob) (F : Nat → Prop) (hrS : VRowS w S r x) (hS : ∀ k, S k → ¬ F k ∧ k < w.heap.size)
    (hH : RHeapW w rb H F) (hF : ∀ k, F k → k < w.heap.size) (hlen0 : H.length + cntV x ≤ 1048576) :
    Rets Tryz.prog 27 [ptrOf rb, .agg r.toArray] w (fun v w' => v = .tuple #[wv (storeS H x).2.1, .int .i64 (storeS H x).2.2] ∧ RGrown w w' rb (storeS H x).1 F) := by
  have hr : VRow w r x := VRowS.row _ _ hrS
  have hr4 := hr.len
  refine rets_of_okC Tryz.func27 rfl rfl ?_
  refine ok_seq (fun M hM => ok_region rfl ?_)
  repeat ((try subst X); (first | (first | apply zL | apply zH | apply zE); intro X hX | apply zl | apply zh | apply ze); try simp only [zU, reduceIte, Nat.reduceEqDiff, Nat.reduceAdd, reduceCtorEq, Q27])
  refine Runs.box (fun w1 he1 hz1 hb1 => ?_)
  generalize hB1 : w.heap.size = B1 at hz1 hb1
  simp only [Value.cells] at hb1
  repeat ((try subst X); (first | (first | apply zL | apply zH | apply zE); intro X hX | apply zl | apply zh | apply ze); try simp only [zU, reduceIte, Nat.reduceEqDiff, Nat.reduceAdd, reduceCtorEq, Q27])
  refine Runs.alloc Fx.zi75 (fun w2 he2 hz2 hb2 => ?_)
  generalize hB2 : w1.heap.size = B2 at hz2 hb2
  simp only [Value.cells] at hb2
  have hb12 := hb1.ext he2
  have he02 := he1.trans he2
  repeat ((try subst X); (first | (first | apply zL | apply zH | apply zE); intro X hX | apply zl | apply zh | apply ze); try simp only [zU, reduceIte, Nat.reduceEqDiff, Nat.reduceAdd, reduceCtorEq, Q27])
  refine hM _ _ _ ?_; clear hM M
  refine ok_join [(0, ptrOf rb), (3, ptrOf B1), (4, ptrOf B2)] (fun w' => w' = w2) ?_ ?_
  · refine ok_seq (fun M hM => ok_region rfl ?_)
    repeat ((try subst X); (first | (first | apply zL | apply zH | apply zE); intro X hX | apply zl | apply zh | apply ze); try simp only [zU, reduceIte, Nat.reduceEqDiff, Nat.reduceAdd, reduceCtorEq, Q27])
    refine Runs.ptrEq Fx.un27 ?_
    repeat ((try subst X); (first | (first | apply zL | apply zH | apply zE); intro X hX | apply zl | apply zh | apply ze); try simp only [zU, reduceIte, Nat.reduceEqDiff, Nat.reduceAdd, reduceCtorEq, Q27])
    refine hM _ _ _ ?_; clear hM M
    refine ok_cond rfl (fun h => by cases h) (fun h => ok_skip ?_)
    try simp only [zW, zU, reduceIte, Nat.reduceEqDiff, Nat.reduceAdd, reduceCtorEq, Q27]
    simp [sub, Env.get]
  rintro w' rfl
  refine ok_join [(0, ptrOf rb), (3, ptrOf B1), (4, ptrOf B2)] (fun w3 => Ext w' w3 ∧ knownV x = true ∧ formedV x = true) ?_ ?_
  · refine ok_seq (fun M hM => ok_region rfl ?_)
    repeat ((try subst X); (first | (first | apply zL | apply zH | apply zE); intro X hX | apply zl | apply zh | apply ze); try simp only [zU, reduceIte, Nat.reduceEqDiff, Nat.reduceAdd, reduceCtorEq, Q27])
    refine ⟨r, hr4, hb12.cells (o := 0) (fun j u hj => by simpa using hj), ?_⟩
    repeat ((try subst X); (first | (first | apply zL | apply zH | apply zE); intro X hX | apply zl | apply zh | apply ze); try simp only [zU, reduceIte, Nat.reduceEqDiff, Nat.reduceAdd, reduceCtorEq, Q27])
    refine Inv.call Fx.en66 (form_ok x w' r (VRow.ext he02 _ _ hr)) ?_
    rintro v w3 ⟨rfl, he3⟩
    repeat ((try subst X); (first | (first | apply zL | apply zH | apply zE); intro X hX | apply zl | apply zh | apply ze); try simp only [zU, reduceIte, Nat.reduceEqDiff, Nat.reduceAdd, reduceCtorEq, Q27])
    refine hM _ _ _ ?_; clear hM M
    by_cases hkf : knownV x = true ∧ formedV x = true
    · rw [if_pos hkf.1, if_pos hkf.2]
      refine ok_seq (fun M hM => ok_region rfl ?_); repeat ((try subst X); (first | (first | apply zL | apply zH | apply zE); intro X hX | apply zl | apply zh | apply ze); try simp only [zU, reduceIte, Nat.reduceEqDiff, Nat.reduceAdd, reduceCtorEq, Q27])
      refine hM _ _ _ ?_; clear hM M
      refine ok_cond rfl (fun h => by cases h) (fun h => ok_skip ?_)
      try simp only [zW, zU, reduceIte, Nat.reduceEqDiff, Nat.reduceAdd, reduceCtorEq, Q27]
      exact ⟨by simp [sub, Env.get], he3, hkf.1, hkf.2⟩
    · generalize he : (if knownV x = true then (if formedV x = true then (0 : Int) else 2) else 3) = e
      have he0 : e ≠ 0 := by
        rw [← he]
        split
        · rename_i h1
          rw [if_neg (fun h => hkf ⟨h1, h⟩)]; decide
        · decide
      have hst : storeS H x = (H, ⟨0, 0, 0⟩, e) := by
        rw [← he]
        unfold storeS
        split
        · rename_i h1
          rw [if_neg (fun h => hkf ⟨h1, h⟩), if_neg (fun h => hkf ⟨h1, h⟩)]
        · rfl
      refine ok_seq (fun M hM => ok_region rfl ?_); repeat ((try subst X); (first | (first | apply zL | apply zH | apply zE); intro X hX | apply zl | apply zh | apply ze); try simp only [zU, reduceIte, Nat.reduceEqDiff, Nat.reduceAdd, reduceCtorEq, Q27])
      refine hM _ _ _ ?_; clear hM M
      refine ok_ifn rfl (fun h => ?_) (fun h => absurd h he0)
      refine ok_seq (fun M hM => ok_region rfl ?_)
      repeat ((try subst X); (first | (first | apply zL | apply zH | apply zE); intro X hX | apply zl | apply zh | apply ze); try simp only [zU, reduceIte, Nat.reduceEqDiff, Nat.reduceAdd, reduceCtorEq, Q27])
      refine ⟨_, w3, run_build (P := Tryz.prog) w3 75 _ #[.int .i64 0, .int .i64 0, .int .i64 0] (by kernel_rfl), ?_⟩
      repeat ((try subst X); (first | (first | apply zL | apply zH | apply zE); intro X hX | apply zl | apply zh | apply ze); try simp only [zU, reduceIte, Nat.reduceEqDiff, Nat.reduceAdd, reduceCtorEq, Q27])
      refine Runs.store (hb2.ext he3) Fx.zi75 rfl (by intro u hu; simp [Value.cells] at hu; subst hu; rfl) (by simp) (fun w6 hc6 hs6 hb6 => ?_)
      rw [splice_all _ _ (by simp [Value.cells])] at hb6
      simp only [Value.cells] at hb6
      repeat ((try subst X); (first | (first | apply zL | apply zH | apply zE); intro X hX | apply zl | apply zh | apply ze); try simp only [zU, reduceIte, Nat.reduceEqDiff, Nat.reduceAdd, reduceCtorEq, Q27])
      refine hM _ _ _ ?_; clear hM M
      refine ok_ret ?_
      try simp only [zW, zU, reduceIte, Nat.reduceEqDiff, Nat.reduceAdd, reduceCtorEq, Q27]
      rw [hst]
      refine ⟨_, rfl, hb6.cells (o := 0) (row := Wd.row ⟨0, 0, 0⟩) (fun j u hj => by simpa [Wd.row] using hj), by simp, ?_⟩
      exact RGrown.same hH ((he02.trans he3).chg_trans hc6 (fun i hi => by omega))
  rintro w4 ⟨he4, hkn, hfo⟩
  have hw4 := he02.trans he4
  have hs4 := hw4.size
  have hl2 := (hb2.ext he4).lt
  refine ok_seq (fun M hM => ok_region rfl ?_)
  repeat ((try subst X); (first | (first | apply zL | apply zH | apply zE); intro X hX | apply zl | apply zh | apply ze); try simp only [zU, reduceIte, Nat.reduceEqDiff, Nat.reduceAdd, reduceCtorEq, Q27])
  refine ⟨r, hr4, (hb12.ext he4).cells (o := 0) (fun j u hj => by simpa using hj), ?_⟩
  repeat ((try subst X); (first | (first | apply zL | apply zH | apply zE); intro X hX | apply zl | apply zh | apply ze); try simp only [zU, reduceIte, Nat.reduceEqDiff, Nat.reduceAdd, reduceCtorEq, Q27])
  refine Inv.call Fx.en67 (rstored_ok _ x w4 S r rb H F (Nat.le_refl _) (VRowS.ext hrS hw4) (fun k hk => ⟨(hS k hk).1, by have := (hS k hk).2; omega⟩) hkn hfo (hH.ext hw4) (fun k hk => by have := hF k hk; omega) hlen0) ?_
  rintro v w5 ⟨rfl, hc5, F5, hH5, hF5⟩
  have hs5 := hc5.size
  repeat ((try subst X); (first | (first | apply zL | apply zH | apply zE); intro X hX | apply zl | apply zh | apply ze); try simp only [zU, reduceIte, Nat.reduceEqDiff, Nat.reduceAdd, reduceCtorEq, Q27])
  have hnF : ¬ F B2 := fun h => by have := hF B2 h; omega
  refine Runs.store ((hb2.ext he4).chg hc5 hnF) Fx.zi75 rfl (by intro u hu; simp [Value.cells, Wd.row] at hu; rcases hu with rfl | rfl | rfl <;> rfl) (by simp) (fun w6 hc6 hs6 hb6 => ?_)
  rw [splice_all _ _ (by simp [Value.cells])] at hb6
  simp only [Value.cells] at hb6
  repeat ((try subst X); (first | (first | apply zL | apply zH | apply zE); intro X hX | apply zl | apply zh | apply ze); try simp only [zU, reduceIte, Nat.reduceEqDiff, Nat.reduceAdd, reduceCtorEq, Q27])
  refine hM _ _ _ ?_; clear hM M
  refine ok_ret ?_
  try simp only [zW, zU, reduceIte, Nat.reduceEqDiff, Nat.reduceAdd, reduceCtorEq, Q27]
  have hst : storeS H x = ((storeV H x).1, (storeV H x).2, 0) := by unfold storeS; simp [hkn, hfo]
  rw [hst]
  refine ⟨_, rfl, hb6.cells (o := 0) (row := (storeV H x).2.row) (fun j u hj => by simpa using hj), by simp, ?_⟩
  have hnB : ¬ F5 B2 := fun h => by rcases hF5 B2 h with h | h <;> first | exact hnF h | omega
  refine ⟨((hw4.chg F).trans hc5).thn hc6 (fun k hk => by omega), F5, hH5.chg hc6 (fun k hk e => hnB (e ▸ hk)), fun k hk => ?_⟩
  rcases hF5 k hk with h | h
  · exact .inl h
  · exact .inr (by omega)
end Go.Proofs.YtldeokfhipjbfaaGreatDoor
/- The heap's law in plain Lean: what is stored reads as it was. -/
set_option linter.unusedVariables false
set_option linter.unusedSimpArgs false
namespace Go.Proofs.YtldeokfhipjbfaaGreatDoor
open Go Go.Proofs.Vg Go.RowKit

/-- The words of an object lead to earlier objects. -/
def Desc (H : List Ob) : Prop := ∀ (i : Nat) (o : Ob), H[i]? = some o → ∀ x ∈ o.list, 0 ≤ x.r ∧ x.r ≤ (i : Int)
def LimH (H : List Ob) : Prop := ∀ o ∈ H, o.list.length ≤ 1048576
theorem Desc.wf {H : List Ob} (h : Desc H) : Wf H := by
  intro o ho x hx
  obtain ⟨i, hi⟩ := List.mem_iff_getElem?.1 ho
  have := h i o hi x hx
  have := (List.getElem?_eq_some_iff.1 hi).1
  omega
theorem LimH.args {H : List Ob} (h : LimH H) (x : Wd) : (argsOf H x).length ≤ 1048576 := by
  unfold argsOf
  cases ho : objAt H x.r with
  | none => simp [argsO]
  | some o =>
    have hm : o ∈ H := by
      unfold objAt at ho
      split at ho
      · exact List.mem_of_getElem? ho
      · cases ho
    cases o with
    | text s => simp [argsO]
    | words s l => exact h _ hm
theorem objAt_app {H E : List Ob} {r : Int} (h : r ≤ (H.length : Int)) : objAt (H ++ E) r = objAt H r := by
  unfold objAt
  split
  · rw [List.getElem?_append_left (by omega)]
  · rfl
theorem objAt_new (H : List Ob) (o : Ob) : objAt (H ++ [o]) ((H.length : Int) + 1) = some o := by
  unfold objAt
  rw [if_pos (by omega), show ((H.length : Int) + 1 - 1).toNat = H.length by omega]
  simp
theorem rightW_app {H E : List Ob} {x : Wd} (h : rightW H x = true) : rightW (H ++ E) x = true := by
  have hr := right_ref h
  unfold rightW at h ⊢
  rw [objAt_app hr.2]
  exact h
theorem argsOf_app {H E : List Ob} {x : Wd} (h : x.r ≤ (H.length : Int)) : argsOf (H ++ E) x = argsOf H x := by unfold argsOf; rw [objAt_app h]
theorem argsOf_ref {H : List Ob} (hW : Wf H) (x : Wd) : ∀ y ∈ argsOf H x, 0 ≤ y.r ∧ y.r ≤ (H.length : Int) := by
  intro y hy
  unfold argsOf at hy
  cases ho : objAt H x.r with
  | none => rw [ho] at hy; simp [argsO] at hy
  | some o =>
    have hm : o ∈ H := by
      unfold objAt at ho
      split at ho
      · exact List.mem_of_getElem? ho
      · cases ho
    rw [ho] at hy
    cases o with
    | text s => simp [argsO] at hy
    | words s l => exact hW _ hm y hy
mutual
theorem Lds_app {H E : List Ob} (hW : Wf H) : ∀ (v : Val) (x : Wd), x.r ≤ (H.length : Int) → Lds H x v → Lds (H ++ E) x v
  | .mk k n t args, x, hr, h => by
    simp only [Lds] at h ⊢
    split
    · rename_i h1; rw [if_pos h1] at h; exact h
    rename_i h1
    rw [if_neg h1] at h
    split
    · rename_i h2; rw [if_pos h2] at h; rw [objAt_app hr]; exact h
    rename_i h2
    rw [if_neg h2] at h
    rw [argsOf_app hr]
    exact ⟨h.1, h.2.1, h.2.2.1, h.2.2.2.1, h.2.2.2.2.1, LdsL_app hW args _ (argsOf_ref hW x) h.2.2.2.2.2⟩
theorem LdsL_app {H E : List Ob} (hW : Wf H) : ∀ (vs : List Val) (xs : List Wd), (∀ y ∈ xs, 0 ≤ y.r ∧ y.r ≤ (H.length : Int)) → LdsL H xs vs → LdsL (H ++ E) xs vs
  | [], [], _, _ => by simp only [LdsL]
  | v :: vs, x :: xs, hr, h => by
    simp only [LdsL] at h ⊢
    exact ⟨Lds_app hW v x (hr x List.mem_cons_self).2 h.1, LdsL_app hW vs xs (fun y hy => hr y (List.mem_cons_of_mem _ hy)) h.2⟩
  | [], _ :: _, _, h => by simp [LdsL] at h
  | _ :: _, [], _, h => by simp [LdsL] at h
end
theorem Desc.app {H : List Ob} (h : Desc H) {o : Ob} (ho : ∀ x ∈ o.list, 0 ≤ x.r ∧ x.r ≤ (H.length : Int)) : Desc (H ++ [o]) := by
  intro i o' hi x hx
  rcases Nat.lt_or_ge i H.length with h1 | h1
  · rw [List.getElem?_append_left h1] at hi
    exact h i o' hi x hx
  · rw [List.getElem?_append_right h1] at hi
    have : i = H.length := by have := (List.getElem?_eq_some_iff.1 hi).1; simp at this; omega
    subst this
    simp at hi; subst hi
    exact ho x hx
theorem LimH.app {H : List Ob} (h : LimH H) {o : Ob} (ho : o.list.length ≤ 1048576) : LimH (H ++ [o]) := by
  intro o' hm
  rcases List.mem_append.1 hm with hm | hm
  · exact h o' hm
  · simp at hm; subst hm; exact ho

/-- What storing leaves. -/
structure Stored (H H' : List Ob) (x : Wd) (v : Val) : Prop where
  app : ∃ E, H' = H ++ E
  desc : Desc H'
  lim : LimH H'
  right : rightW H' x = true
  kind : x.k ≠ 0 ∧ x.k ≠ 9
  reads : Lds H' x v
theorem mk_spec {H : List Ob} {k n : Int} {ws : List Wd} {args : List Val} (hk : k = 4 ∨ k = 5 ∨ k = 6 ∨ k = 7) (hn : k = 7 → n = 0) (hD : Desc H) (hL : LimH H) (hl : ws.length ≤ 1048576) (hr : ∀ y ∈ ws, 0 ≤ y.r ∧ y.r ≤ (H.length : Int)) (hld : LdsL H ws args) :
    Stored H (mkW H k n ws).1 (mkW H k n ws).2 (.mk k n ⟨#[]⟩ args) := by
  unfold mkW
  split
  · rename_i hc
    have ho := objAt_new H (.words (if k = 7 then 7 else 4) ws)
    refine ⟨⟨_, rfl⟩, hD.app hr, hL.app hl, ?_, ?_, ?_⟩
    · unfold rightW
      simp only [ho]
      rcases hk with rfl | rfl | rfl | rfl
      · simp [isDataO]
      · simp [isDataO]
      · simp [isDataO]
      · simp [isArrO, hn rfl]
    · simp only; omega
    · simp only [Lds]
      rw [if_neg (by omega), if_neg (by omega)]
      have ha : argsOf (H ++ [.words (if k = 7 then 7 else 4) ws]) ⟨k, n, (H.length : Int) + 1⟩ = ws := by unfold argsOf; rw [ho]; rfl
      rw [ha]
      exact ⟨by omega, by omega, trivial, trivial, trivial, LdsL_app hD.wf args ws hr hld⟩
  · rename_i hc
    have hw : ws = [] := by
      cases ws with
      | nil => rfl
      | cons y ys => exact absurd (Or.inl (by simp)) hc
    subst hw
    have h7 : ¬ k = 7 := fun h => hc (.inr h)
    have ho : objAt H 0 = none := objAt_lt (by omega)
    refine ⟨⟨[], by simp⟩, hD, hL, ?_, ?_, ?_⟩
    · unfold rightW
      rcases hk with rfl | rfl | rfl | rfl
      · simp
      · simp
      · simp
      · exact absurd rfl h7
    · simp only; omega
    · simp only [Lds]
      rw [if_neg (by omega), if_neg (by omega)]
      have ha : argsOf H ⟨k, n, 0⟩ = [] := by unfold argsOf; rw [ho]; rfl
      rw [ha]
      exact ⟨by omega, by omega, trivial, trivial, trivial, hld⟩
mutual
theorem store_spec : ∀ (x : Val) (H : List Ob), knownV x = true → formedV x = true → Desc H → LimH H → cntV x ≤ 1048576 → Stored H (storeV H x).1 (storeV H x).2 x
  | .mk k n t args, H, hk, hf, hD, hL, hc => by
    simp only [knownV, Bool.and_eq_true, decide_eq_true_eq] at hk
    simp only [formedV, Bool.and_eq_true] at hf
    obtain ⟨⟨hk1, hk2⟩, hks⟩ := hk
    obtain ⟨hw, hfs⟩ := hf
    simp only [cntV] at hc
    have hcl := cntVs_len args
    have ho : objAt H 0 = none := objAt_lt (by omega)
    have nilL : ∀ (H : List Ob), args.length = 0 → LdsL H [] args := fun H h => by
      have : args = [] := List.length_eq_zero_iff.1 h
      subst this; simp only [LdsL]
    unfold wellV at hw
    simp only [storeV]
    split
    · rename_i h1
      have hq : t = ⟨#[]⟩ ∧ args.length = 0 := by
        rcases h1 with rfl | rfl | rfl
        · simpa using hw
        · simpa using hw
        · simp at hw; exact ⟨hw.1.1, by simp [hw.2]⟩
      refine ⟨⟨[], by simp⟩, hD, hL, ?_, ?_, ?_⟩
      · unfold rightW
        rcases h1 with rfl | rfl | rfl <;> simp
      · simp only; omega
      · simp only [Lds]
        rw [if_neg (by omega), if_neg (by omega)]
        have ha : argsOf H ⟨k, n, 0⟩ = [] := by unfold argsOf; rw [ho]; rfl
        rw [ha]
        exact ⟨by omega, by omega, trivial, trivial, hq.1, nilL H hq.2⟩
    · rename_i h1
      split
      · rename_i h3
        subst h3
        simp at hw
        have hoo := objAt_new H (.text t)
        refine ⟨⟨_, rfl⟩, hD.app (by simp [Ob.list]), hL.app (by simp [Ob.list]), ?_, ?_, ?_⟩
        · unfold rightW
          simp [hoo, isTextO]
        · simp only; omega
        · simp only [Lds]
          have ha : args = [] := by simpa using hw.2
          subst ha
          simp [hw.1, hoo]
      · rename_i h3
        have hkk : k = 4 ∨ k = 5 ∨ k = 6 ∨ k = 7 := by omega
        have hq : t = ⟨#[]⟩ ∧ (k = 7 → n = 0) := by
          rcases hkk with rfl | rfl | rfl | rfl <;> simp at hw <;> simp [hw]
        obtain ⟨⟨E, hE⟩, h4, h5, h6, h7⟩ := stores_spec args H hks hfs hD hL (by omega)
        rw [hq.1]
        have hsl := storeVs_length args H
        obtain ⟨⟨E2, hE2⟩, g2, g3, g4, g5, g6⟩ := mk_spec hkk hq.2 h4 h5 (by omega) (fun y hy => right_ref (h6 y hy).1) h7
        exact ⟨⟨E ++ E2, by rw [hE2, hE, List.append_assoc]⟩, g2, g3, g4, g5, g6⟩
theorem stores_spec : ∀ (l : List Val) (H : List Ob), knownVs l = true → formedVs l = true → Desc H → LimH H → cntVs l ≤ 1048576 →
    (∃ E, (storeVs H l).1 = H ++ E) ∧ Desc (storeVs H l).1 ∧ LimH (storeVs H l).1 ∧ (∀ y ∈ (storeVs H l).2, rightW (storeVs H l).1 y = true ∧ y.k ≠ 0 ∧ y.k ≠ 9) ∧ LdsL (storeVs H l).1 (storeVs H l).2 l
  | [], H, _, _, hD, hL, _ => by
    simp only [storeVs]
    exact ⟨⟨[], by simp⟩, hD, hL, by simp, by simp only [LdsL]⟩
  | x :: l, H, hk, hf, hD, hL, hc => by
    simp only [knownVs, Bool.and_eq_true] at hk
    simp only [formedVs, Bool.and_eq_true] at hf
    simp only [cntVs] at hc
    simp only [storeVs]
    obtain ⟨⟨E, hE⟩, h2, h3, h4, h5, h6⟩ := store_spec x H hk.1 hf.1 hD hL (by omega)
    obtain ⟨⟨E2, hE2⟩, g2, g3, g4, g5⟩ := stores_spec l (storeV H x).1 hk.2 hf.2 h2 h3 (by omega)
    refine ⟨⟨E ++ E2, by rw [hE2, hE, List.append_assoc]⟩, g2, g3, fun y hy => ?_, ?_⟩
    · rcases List.mem_cons.1 hy with rfl | hy
      · rw [hE2]; exact ⟨rightW_app h4, h5⟩
      · exact g4 y hy
    · simp only [LdsL]
      refine ⟨?_, g5⟩
      rw [hE2]
      exact Lds_app h2.wf x _ (right_ref h4).2 h6
end
/-- A heap whose words lead to earlier objects has no ring. -/
theorem visit_desc {H : List Ob} (hD : Desc H) : ∀ (f : Nat) (st : List Int) (r : Int), 0 ≤ r → r ≤ (f : Int) → (∀ j : Nat, (j : Int) ≤ r → st[j]? ≠ some 1) → (visitF H f st r).1 = false ∧ ∀ j : Nat, (visitF H f st r).2[j]? = some 1 → st[j]? = some 1 := by
  intro f
  induction f with
  | zero =>
    intro st r h0 h1 hs
    have : r = 0 := by omega
    subst this
    simp [visitF]
  | succ f ih =>
    intro st r h0 h1 hs
    simp only [visitF]
    split
    · exact ⟨rfl, fun j h => h⟩
    rename_i hn
    split
    · rename_i h2
      exact absurd h2 (hs r.toNat (by omega))
    rename_i h2
    have hr0 : ¬ r = 0 := fun e => hn (.inl e)
    have hlist : ∀ x ∈ listO (objAt H r), 0 ≤ x.r ∧ x.r ≤ r - 1 := by
      intro x hx
      cases ho : objAt H r with
      | none => rw [ho] at hx; simp [listO] at hx
      | some o =>
        rw [ho] at hx
        have hi : H[(r - 1).toNat]? = some o := by
          unfold objAt at ho
          rw [if_pos (by omega)] at ho
          exact ho
        have := hD _ o hi x hx
        omega
    have key : ∀ (l : List Wd) (s : List Int), (∀ x ∈ l, 0 ≤ x.r ∧ x.r ≤ r - 1) → (∀ j : Nat, s[j]? = some 1 → (st.set r.toNat 1)[j]? = some 1) → (visitL (visitF H f) s l).1 = false ∧ ∀ j : Nat, (visitL (visitF H f) s l).2[j]? = some 1 → (st.set r.toNat 1)[j]? = some 1 := by
      intro l
      induction l with
      | nil => intro s _ hs2; exact ⟨rfl, hs2⟩
      | cons x l ihl =>
        intro s hl hs2
        have hx := hl x List.mem_cons_self
        have h3 := ih s x.r hx.1 (by omega) (fun j hj hsj => by
          have h4 := hs2 j hsj
          rw [List.getElem?_set] at h4
          split at h4
          · omega
          · exact hs j (by omega) h4)
        simp only [visitL]
        rw [h3.1]
        simp only [Bool.false_eq_true, if_false]
        exact ihl _ (fun y hy => hl y (List.mem_cons_of_mem _ hy)) (fun j hj => hs2 j (h3.2 j hj))
    have hk := key (listO (objAt H r)) (st.set r.toNat 1) hlist (fun j h => h)
    rw [hk.1]
    simp only [Bool.false_eq_true, if_false]
    refine ⟨trivial, fun j hj => ?_⟩
    rw [List.getElem?_set] at hj
    split at hj
    · split at hj
      · cases hj
      · cases hj
    · rename_i hne
      have := hk.2 j hj
      rw [List.getElem?_set, if_neg hne] at this
      exact this
theorem ring_desc {H : List Ob} (hD : Desc H) (l : List Wd) (hl : ∀ x ∈ l, 0 ≤ x.r ∧ x.r ≤ (H.length : Int)) : ringF H l = false := by
  unfold ringF
  have key : ∀ (l : List Wd) (s : List Int), (∀ x ∈ l, 0 ≤ x.r ∧ x.r ≤ (H.length : Int)) → (∀ j : Nat, s[j]? ≠ some 1) → (visitL (visitF H (H.length + 2)) s l).1 = false := by
    intro l
    induction l with
    | nil => intro s _ _; rfl
    | cons x l ih =>
      intro s hl hs
      have hx := hl x List.mem_cons_self
      have h3 := visit_desc hD (H.length + 2) s x.r hx.1 (by omega) (fun j _ => hs j)
      simp only [visitL]
      rw [h3.1]
      simp only [Bool.false_eq_true, if_false]
      exact ih _ (fun y hy => hl y (List.mem_cons_of_mem _ hy)) (fun j hj => hs j (h3.2 j hj))
  refine key l _ hl (fun j hj => ?_)
  rw [List.getElem?_replicate] at hj
  split at hj <;> cases hj
theorem cntVs_app : ∀ (a b : List Val), cntVs (a ++ b) = cntVs a + cntVs b
  | [], b => by simp [cntVs]
  | x :: a, b => by simp only [List.cons_append, cntVs, cntVs_app a b]; omega
theorem LdsL_split {H : List Ob} : ∀ (xs : List Wd) (x : Wd) (vs : List Val), LdsL H (xs ++ [x]) vs → ∃ us v, vs = us ++ [v] ∧ LdsL H xs us ∧ Lds H x v
  | [], x, vs, h => by
    cases vs with
    | nil => simp [LdsL] at h
    | cons v vs =>
      simp only [List.nil_append, LdsL] at h
      cases vs with
      | nil => exact ⟨[], v, rfl, by simp only [LdsL], h.1⟩
      | cons u us => exact absurd h.2 (by simp [LdsL])
  | y :: xs, x, vs, h => by
    cases vs with
    | nil => simp [LdsL] at h
    | cons v vs =>
      simp only [List.cons_append, LdsL] at h
      obtain ⟨us, u, rfl, h1, h2⟩ := LdsL_split xs x vs h.2
      exact ⟨v :: us, u, rfl, by simp only [LdsL]; exact ⟨h.1, h1⟩, h2⟩
theorem LdsL_join {H : List Ob} : ∀ (xs : List Wd) (us : List Val) (ys : List Wd) (vs : List Val), LdsL H xs us → LdsL H ys vs → LdsL H (xs ++ ys) (us ++ vs)
  | [], [], ys, vs, _, h => h
  | x :: xs, u :: us, ys, vs, h, h' => by
    simp only [LdsL, List.cons_append] at h ⊢
    exact ⟨h.1, LdsL_join xs us ys vs h.2 h'⟩
  | [], _ :: _, _, _, h, _ => by simp [LdsL] at h
  | _ :: _, [], _, _, h, _ => by simp [LdsL] at h
theorem Lds_args {H : List Ob} {x : Wd} {v : Val} (h : Lds H x v) : ∃ args, LdsL H (argsOf H x) args ∧ cntV v = 1 + cntVs args := by
  obtain ⟨k, n, t, args⟩ := v
  simp only [Lds] at h
  split at h
  · obtain ⟨-, -, -, rfl, hr⟩ := h
    have : argsOf H x = [] := by unfold argsOf; rw [hr, objAt_lt (by omega)]; rfl
    rw [this]
    exact ⟨[], by simp only [LdsL], by simp only [cntV]⟩
  split at h
  · obtain ⟨-, -, rfl, ho⟩ := h
    have : argsOf H x = [] := by unfold argsOf; rw [ho]; rfl
    rw [this]
    exact ⟨[], by simp only [LdsL], by simp only [cntV]⟩
  · exact ⟨args, h.2.2.2.2.2, by simp only [cntV]⟩
theorem parts_cnt {H : List Ob} : ∀ (f : Nat) (todo : List Wd) (vs : List Val), LdsL H todo vs → cntVs vs ≤ f → partsF H f todo = cntVs vs := by
  intro f
  induction f with
  | zero =>
    intro todo vs h hc
    have hl := cntVs_len vs
    have : vs = [] := List.length_eq_zero_iff.1 (by omega)
    subst this
    have : todo = [] := List.length_eq_zero_iff.1 (by rw [LdsL.length _ _ h]; rfl)
    subst this
    rfl
  | succ f ih =>
    intro todo vs h hc
    cases hg : todo.getLast? with
    | none =>
      have : todo = [] := List.getLast?_eq_none_iff.1 hg
      subst this
      have : vs = [] := List.length_eq_zero_iff.1 (by rw [← LdsL.length _ _ h]; rfl)
      subst this
      rfl
    | some x =>
      obtain ⟨init, rfl⟩ : ∃ init, todo = init ++ [x] := ⟨todo.dropLast, by
        have := List.getLast?_eq_some_iff.1 hg
        obtain ⟨ys, rfl⟩ := this
        simp⟩
      obtain ⟨us, v, rfl, h1, h2⟩ := LdsL_split init x vs h
      obtain ⟨args, h3, h4⟩ := Lds_args h2
      simp only [partsF, List.getLast?_concat, List.dropLast_concat]
      rw [cntVs_app] at hc ⊢
      simp only [cntVs] at hc ⊢
      rw [ih (init ++ argsOf H x) (us ++ args) (LdsL_join _ _ _ _ h1 h3) (by rw [cntVs_app]; omega), cntVs_app]
      omega
end Go.Proofs.YtldeokfhipjbfaaGreatDoor
/- Equal of values (the reference of chapter 7). -/
set_option linter.unusedVariables false
set_option linter.unusedSimpArgs false
namespace Go.Proofs.YtldeokfhipjbfaaGreatDoor
open Go Go.Proofs.Vg Go.RowKit

mutual
def eqV : Val → Val → Bool
  | .mk k n t a, .mk k' n' t' a' => decide (k = k') && decide (n = n') && decide (t = t') && eqVs a a'
def eqVs : List Val → List Val → Bool
  | [], [] => true
  | x :: xs, y :: ys => eqV x y && eqVs xs ys
  | _, _ => false
end
theorem eqVs_iff : ∀ (a b : List Val), eqVs a b = true ↔ a.length = b.length ∧ ∀ (i : Nat) (x y : Val), a[i]? = some x → b[i]? = some y → eqV x y = true
  | [], [] => by simp [eqVs]
  | [], y :: ys => by simp [eqVs]
  | x :: xs, [] => by simp [eqVs]
  | x :: xs, y :: ys => by
    simp only [eqVs, Bool.and_eq_true, eqVs_iff xs ys, List.length_cons]
    constructor
    · rintro ⟨h1, h2, h3⟩
      refine ⟨by omega, fun i x' y' hx hy => ?_⟩
      cases i with
      | zero => simp at hx hy; subst hx; subst hy; exact h1
      | succ i => exact h3 i x' y' (by simpa using hx) (by simpa using hy)
    · rintro ⟨h1, h2⟩
      exact ⟨h2 0 x y rfl rfl, by omega, fun i x' y' hx hy => h2 (i + 1) x' y' (by simpa using hx) (by simpa using hy)⟩

-- -- function 17
set_option maxHeartbeats 2000000 in
set_option maxRecDepth 8000 in
theorem equal_ok : ∀ (m : Nat) (x y : Val) (w : World) (r s : List Value), SizeOf.sizeOf x ≤ m → VRow w r x → VRow w s y → Rets Tryz.prog 17 [.agg r.toArray, .agg s.toArray] w (fun v w' => v = .bool (eqV x y) ∧ Ext w w') := by
  intro m
  induction m with
  | zero => intro x y w r s hm; cases x; simp at hm
  | succ m ih =>
    rintro ⟨k, n, t, a⟩ ⟨k', n', t', a'⟩ w r s hm hr hs
    simp only [VRow] at hr hs
    obtain ⟨v, rfl, hv1, hv2, rows, hsl, hrows⟩ := hr
    obtain ⟨v', rfl, hv1', hv2', rows', hsl', hrows'⟩ := hs
    obtain ⟨A, cp, rfl, hlen, hcell⟩ := hsl
    obtain ⟨A', cp', rfl, hlen', hcell'⟩ := hsl'
    have hl := hrows.length
    have hl' := hrows'.length
    refine rets_of_ok Tryz.func17 rfl rfl ?_
    refine ok_seq (fun M hM => ok_region rfl ?_)
    repeat ((try subst X); (first | (first | apply zL | apply zH | apply zE); intro X hX | apply zl | apply zh | apply ze); try simp only [zU, reduceIte, Nat.reduceEqDiff, Nat.reduceAdd, reduceCtorEq, Q17])
    refine Runs.box (fun w1 he1 hz1 hb1 => ?_)
    repeat ((try subst X); (first | (first | apply zL | apply zH | apply zE); intro X hX | apply zl | apply zh | apply ze); try simp only [zU, reduceIte, Nat.reduceEqDiff, Nat.reduceAdd, reduceCtorEq, Q17])
    refine Runs.box (fun w2 he2 hz2 hb2 => ?_)
    repeat ((try subst X); (first | (first | apply zL | apply zH | apply zE); intro X hX | apply zl | apply zh | apply ze); try simp only [zU, reduceIte, Nat.reduceEqDiff, Nat.reduceAdd, reduceCtorEq, Q17])
    refine hM _ _ _ ?_; clear hM M
    generalize hB1 : w.heap.size = B1 at *
    generalize hB2 : w1.heap.size = B2 at *
    have hb1' := hb1.ext he2
    simp only [Value.cells] at hb1' hb2
    have he02 := he1.trans he2
    have hA1 : ∀ j u, [Value.int .i64 k, .int .i64 n, .string t, .slice A rows.length cp][j]? = some u → w2.cell? ⟨B1, j, none⟩ = some u := fun j u hj => hb1'.cell hj
    have hA2 : ∀ j u, [Value.int .i64 k', .int .i64 n', .string t', .slice A' rows'.length cp'][j]? = some u → w2.cell? ⟨B2, j, none⟩ = some u := fun j u hj => hb2.cell hj
    rw [hl] at hA1
    rw [hl'] at hA2
    clear hb1 hb2 hb1'
    refine ok_join [(2, .pointer (some ⟨B1, 0, none⟩)), (3, .pointer (some ⟨B2, 0, none⟩))] (fun w' => w' = w2 ∧ k = k' ∧ n = n' ∧ t = t' ∧ a.length = a'.length) ?_ ?_
    · refine ok_seq (fun M hM => ok_region rfl ?_)
      repeat ((try subst X); (first | (first | apply zL | apply zH | apply zE); intro X hX | apply zl | apply zh | apply ze); try simp only [zU, reduceIte, Nat.reduceEqDiff, Nat.reduceAdd, reduceCtorEq, Q17])
      refine ⟨_, hA1 0 _ rfl, ?_⟩
      repeat ((try subst X); (first | (first | apply zL | apply zH | apply zE); intro X hX | apply zl | apply zh | apply ze); try simp only [zU, reduceIte, Nat.reduceEqDiff, Nat.reduceAdd, reduceCtorEq, Q17])
      refine ⟨_, hA2 0 _ rfl, ?_⟩
      repeat ((try subst X); (first | (first | apply zL | apply zH | apply zE); intro X hX | apply zl | apply zh | apply ze); try simp only [zU, reduceIte, Nat.reduceEqDiff, Nat.reduceAdd, reduceCtorEq, Q17])
      refine ⟨fun h => ?_, fun h => ?_⟩
      · have e1 : k = k' := by simpa using h
        clear h
        repeat ((try subst X); (first | (first | apply zL | apply zH | apply zE); intro X hX | apply zl | apply zh | apply ze); try simp only [zU, reduceIte, Nat.reduceEqDiff, Nat.reduceAdd, reduceCtorEq, Q17])
        refine ⟨_, hA1 1 _ rfl, ?_⟩
        repeat ((try subst X); (first | (first | apply zL | apply zH | apply zE); intro X hX | apply zl | apply zh | apply ze); try simp only [zU, reduceIte, Nat.reduceEqDiff, Nat.reduceAdd, reduceCtorEq, Q17])
        refine ⟨_, hA2 1 _ rfl, ?_⟩
        repeat ((try subst X); (first | (first | apply zL | apply zH | apply zE); intro X hX | apply zl | apply zh | apply ze); try simp only [zU, reduceIte, Nat.reduceEqDiff, Nat.reduceAdd, reduceCtorEq, Q17])
        refine ⟨fun h => ?_, fun h => ?_⟩
        · have e2 : n = n' := by simpa using h
          clear h
          repeat ((try subst X); (first | (first | apply zL | apply zH | apply zE); intro X hX | apply zl | apply zh | apply ze); try simp only [zU, reduceIte, Nat.reduceEqDiff, Nat.reduceAdd, reduceCtorEq, Q17])
          refine ⟨_, hA1 2 _ rfl, ?_⟩
          repeat ((try subst X); (first | (first | apply zL | apply zH | apply zE); intro X hX | apply zl | apply zh | apply ze); try simp only [zU, reduceIte, Nat.reduceEqDiff, Nat.reduceAdd, reduceCtorEq, Q17])
          refine ⟨_, hA2 2 _ rfl, ?_⟩
          repeat ((try subst X); (first | (first | apply zL | apply zH | apply zE); intro X hX | apply zl | apply zh | apply ze); try simp only [zU, reduceIte, Nat.reduceEqDiff, Nat.reduceAdd, reduceCtorEq, Q17])
          refine ⟨fun h => ?_, fun h => ?_⟩
          · have e3 : t = t' := by simpa using h
            clear h
            repeat ((try subst X); (first | (first | apply zL | apply zH | apply zE); intro X hX | apply zl | apply zh | apply ze); try simp only [zU, reduceIte, Nat.reduceEqDiff, Nat.reduceAdd, reduceCtorEq, Q17])
            refine ⟨_, hA1 3 _ rfl, ?_⟩
            repeat ((try subst X); (first | (first | apply zL | apply zH | apply zE); intro X hX | apply zl | apply zh | apply ze); try simp only [zU, reduceIte, Nat.reduceEqDiff, Nat.reduceAdd, reduceCtorEq, Q17])
            refine ⟨_, hA2 3 _ rfl, ?_⟩
            repeat ((try subst X); (first | (first | apply zL | apply zH | apply zE); intro X hX | apply zl | apply zh | apply ze); try simp only [zU, reduceIte, Nat.reduceEqDiff, Nat.reduceAdd, reduceCtorEq, Q17])
            refine hM _ _ _ ?_; clear hM M
            refine ok_ifn rfl (fun hc => ?_) (fun hc => ok_skip ?_)
            · refine ok_seq (fun M hM => ok_region rfl ?_); repeat ((try subst X); (first | (first | apply zL | apply zH | apply zE); intro X hX | apply zl | apply zh | apply ze); try simp only [zU, reduceIte, Nat.reduceEqDiff, Nat.reduceAdd, reduceCtorEq, Q17])
              refine hM _ _ _ ?_; clear hM M
              refine ok_ret ?_
              try simp only [zW, zU, reduceIte, Nat.reduceEqDiff, Nat.reduceAdd, reduceCtorEq, Q17]
              refine ⟨?_, he02⟩
              have hne : eqVs a a' = false := by
                cases hx : eqVs a a' with
                | false => rfl
                | true => have := ((eqVs_iff a a').1 hx).1; omega
              simp [eqV, hne]
            · try simp only [zW, zU, reduceIte, Nat.reduceEqDiff, Nat.reduceAdd, reduceCtorEq, Q17]
              exact ⟨by simp [sub, Env.get], e1, e2, e3, by omega⟩
          · repeat ((try subst X); (first | (first | apply zL | apply zH | apply zE); intro X hX | apply zl | apply zh | apply ze); try simp only [zU, reduceIte, Nat.reduceEqDiff, Nat.reduceAdd, reduceCtorEq, Q17])
            refine hM _ _ _ ?_; clear hM M
            refine ok_cond rfl (fun _ => ?_) (fun h => by cases h)
            refine ok_seq (fun M hM => ok_region rfl ?_); repeat ((try subst X); (first | (first | apply zL | apply zH | apply zE); intro X hX | apply zl | apply zh | apply ze); try simp only [zU, reduceIte, Nat.reduceEqDiff, Nat.reduceAdd, reduceCtorEq, Q17])
            refine hM _ _ _ ?_; clear hM M
            refine ok_ret ?_
            try simp only [zW, zU, reduceIte, Nat.reduceEqDiff, Nat.reduceAdd, reduceCtorEq, Q17]
            refine ⟨?_, he02⟩
            have hne : ¬ t = t' := by simpa using h
            simp [eqV, hne]
        · repeat ((try subst X); (first | (first | apply zL | apply zH | apply zE); intro X hX | apply zl | apply zh | apply ze); try simp only [zU, reduceIte, Nat.reduceEqDiff, Nat.reduceAdd, reduceCtorEq, Q17])
          refine hM _ _ _ ?_; clear hM M
          refine ok_cond rfl (fun _ => ?_) (fun h => by cases h)
          refine ok_seq (fun M hM => ok_region rfl ?_); repeat ((try subst X); (first | (first | apply zL | apply zH | apply zE); intro X hX | apply zl | apply zh | apply ze); try simp only [zU, reduceIte, Nat.reduceEqDiff, Nat.reduceAdd, reduceCtorEq, Q17])
          refine hM _ _ _ ?_; clear hM M
          refine ok_ret ?_
          try simp only [zW, zU, reduceIte, Nat.reduceEqDiff, Nat.reduceAdd, reduceCtorEq, Q17]
          refine ⟨?_, he02⟩
          have hne : ¬ n = n' := by simpa using h
          simp [eqV, hne]
      · repeat ((try subst X); (first | (first | apply zL | apply zH | apply zE); intro X hX | apply zl | apply zh | apply ze); try simp only [zU, reduceIte, Nat.reduceEqDiff, Nat.reduceAdd, reduceCtorEq, Q17])
        refine hM _ _ _ ?_; clear hM M
        refine ok_cond rfl (fun _ => ?_) (fun h => by cases h)
        refine ok_seq (fun M hM => ok_region rfl ?_); repeat ((try subst X); (first | (first | apply zL | apply zH | apply zE); intro X hX | apply zl | apply zh | apply ze); try simp only [zU, reduceIte, Nat.reduceEqDiff, Nat.reduceAdd, reduceCtorEq, Q17])
        refine hM _ _ _ ?_; clear hM M
        refine ok_ret ?_
        try simp only [zW, zU, reduceIte, Nat.reduceEqDiff, Nat.reduceAdd, reduceCtorEq, Q17]
        refine ⟨?_, he02⟩
        have hne : ¬ k = k' := by simpa using h
        simp [eqV, hne]
    rintro w3 ⟨rfl, rfl, rfl, rfl, hll⟩
    refine ok_seq (fun M0 hM0 => ?_)
    refine ok_seq (fun M hM => ok_region rfl ?_); repeat ((try subst X); (first | (first | apply zL | apply zH | apply zE); intro X hX | apply zl | apply zh | apply ze); try simp only [zU, reduceIte, Nat.reduceEqDiff, Nat.reduceAdd, reduceCtorEq, Q17])
    refine hM _ _ _ ?_; clear hM M
    refine ok_block ?_
    refine ok_loop (S := Nat) (fun i => [(2, .pointer (some ⟨B1, 0, none⟩)), (3, .pointer (some ⟨B2, 0, none⟩)), (5, .int .i64 (i : Int))]) (fun i w' => Ext w3 w' ∧ i ≤ a.length ∧ ∀ (j : Nat) (x y : Val), j < i → a[j]? = some x → a'[j]? = some y → eqV x y = true) (fun i => a.length - i) 0 ?_ ?_ ?_
    · simp [sub, Env.get]
    · exact ⟨Ext.refl _, Nat.zero_le _, fun j x y h => absurd h (Nat.not_lt_zero _)⟩
    rintro i w4 ⟨he4, hi, hall⟩
    refine ok_seq (fun M1 hM1 => ?_)
    refine ok_seq (fun M hM => ok_region rfl ?_)
    repeat ((try subst X); (first | (first | apply zL | apply zH | apply zE); intro X hX | apply zl | apply zh | apply ze); try simp only [zU, reduceIte, Nat.reduceEqDiff, Nat.reduceAdd, reduceCtorEq, Q17])
    refine ⟨_, he4.cell (hA1 3 _ rfl), ?_⟩
    repeat ((try subst X); (first | (first | apply zL | apply zH | apply zE); intro X hX | apply zl | apply zh | apply ze); try simp only [zU, reduceIte, Nat.reduceEqDiff, Nat.reduceAdd, reduceCtorEq, Q17])
    refine hM _ _ _ ?_; clear hM M
    refine ok_if rfl (fun hc => ok_skip ?_) (fun hc => ok_exit ?_)
    rotate_left
    · try simp only [zW, zU, reduceIte, Nat.reduceEqDiff, Nat.reduceAdd, reduceCtorEq, Q17]
      refine hM0 _ _ _ ?_; clear hM0 M0 hM1 M1
      refine ok_seq (fun M hM => ok_region rfl ?_); repeat ((try subst X); (first | (first | apply zL | apply zH | apply zE); intro X hX | apply zl | apply zh | apply ze); try simp only [zU, reduceIte, Nat.reduceEqDiff, Nat.reduceAdd, reduceCtorEq, Q17])
      refine hM _ _ _ ?_; clear hM M
      refine ok_ret ?_
      try simp only [zW, zU, reduceIte, Nat.reduceEqDiff, Nat.reduceAdd, reduceCtorEq, Q17]
      refine ⟨?_, he02.trans he4⟩
      have : eqVs a a' = true := (eqVs_iff a a').2 ⟨hll, fun j x y hx hy => hall j x y (by have := (List.getElem?_eq_some_iff.1 hx).1; omega) hx hy⟩
      simp [eqV, this]
    · try simp only [zW, zU, reduceIte, Nat.reduceEqDiff, Nat.reduceAdd, reduceCtorEq, Q17]
      refine hM1 _ _ _ ?_; clear hM1 M1
      have hil : i < a.length := by omega
      have hxi : a[i]? = some a[i] := List.getElem?_eq_getElem hil
      have hyi : a'[i]? = some (a'[i]'(by omega)) := List.getElem?_eq_getElem (by omega)
      obtain ⟨rr, hrr, hvr⟩ := hrows.get i _ hxi
      obtain ⟨ss, hss, hvs⟩ := hrows'.get i _ hyi
      obtain ⟨b, o, rfl, hcr⟩ := hcell i rr hrr
      obtain ⟨b', o', rfl, hcs⟩ := hcell' i ss hss
      have hr4 : rr.length = 4 := by generalize a[i] = q at hvr; cases q; simp only [VRow] at hvr; obtain ⟨_, rfl, _⟩ := hvr; rfl
      have hs4 : ss.length = 4 := by generalize a'[i] = q at hvs; cases q; simp only [VRow] at hvs; obtain ⟨_, rfl, _⟩ := hvs; rfl
      have hsz : SizeOf.sizeOf a[i] ≤ m := by
        have := List.sizeOf_lt_of_mem (List.getElem_mem hil)
        simp at hm
        omega
      refine ok_seq (fun M1 hM1 => ok_block ?_)
      refine ok_seq (fun M hM => ok_draw 12 [] (Ext _) Fx.mixed (by decide) rfl (by decide +kernel) (by decide +kernel) (Ext.drew _) ?_); repeat ((try subst X); (first | (first | apply zL | apply zH | apply zE); intro X hX | apply zl | apply zh | apply ze); try simp only [zU, reduceIte, Nat.reduceEqDiff, Nat.reduceAdd, reduceCtorEq, Q17])
      refine ⟨_, fun w5 h => h.cell (he4.cell (hA1 3 _ rfl)), ?_⟩
      repeat ((try subst X); (first | (first | apply zL | apply zH | apply zE); intro X hX | apply zl | apply zh | apply ze); try simp only [zU, reduceIte, Nat.reduceEqDiff, Nat.reduceAdd, reduceCtorEq, Q17])
      refine ⟨by omega, by omega, ?_⟩
      repeat ((try subst X); (first | (first | apply zL | apply zH | apply zE); intro X hX | apply zl | apply zh | apply ze); try simp only [zU, reduceIte, Nat.reduceEqDiff, Nat.reduceAdd, reduceCtorEq, Q17])
      refine ⟨rr, hr4, fun w5 h => h.cellsAt (he4.cellsAt (he02.cellsAt hcr)), ?_⟩
      repeat ((try subst X); (first | (first | apply zL | apply zH | apply zE); intro X hX | apply zl | apply zh | apply ze); try simp only [zU, reduceIte, Nat.reduceEqDiff, Nat.reduceAdd, reduceCtorEq, Q17])
      refine ⟨_, fun w5 h => h.cell (he4.cell (hA2 3 _ rfl)), ?_⟩
      repeat ((try subst X); (first | (first | apply zL | apply zH | apply zE); intro X hX | apply zl | apply zh | apply ze); try simp only [zU, reduceIte, Nat.reduceEqDiff, Nat.reduceAdd, reduceCtorEq, Q17])
      refine ⟨by omega, by omega, ?_⟩
      repeat ((try subst X); (first | (first | apply zL | apply zH | apply zE); intro X hX | apply zl | apply zh | apply ze); try simp only [zU, reduceIte, Nat.reduceEqDiff, Nat.reduceAdd, reduceCtorEq, Q17])
      refine ⟨ss, hs4, fun w5 h => h.cellsAt (he4.cellsAt (he02.cellsAt hcs)), ?_⟩
      repeat ((try subst X); (first | (first | apply zL | apply zH | apply zE); intro X hX | apply zl | apply zh | apply ze); try simp only [zU, reduceIte, Nat.reduceEqDiff, Nat.reduceAdd, reduceCtorEq, Q17])
      refine ⟨.bool (eqV a[i] (a'[i]'(by omega))), fun w5 h5 => Inv.call Fx.en17 (ih a[i] (a'[i]'(by omega)) w5 rr ss hsz (VRow.ext ((he02.trans he4).trans h5) _ _ hvr) (VRow.ext ((he02.trans he4).trans h5) _ _ hvs)) (fun v w6 ⟨h1, h2⟩ => ⟨h1, h5.trans h2⟩), ?_⟩
      repeat ((try subst X); (first | (first | apply zL | apply zH | apply zE); intro X hX | apply zl | apply zh | apply ze); try simp only [zU, reduceIte, Nat.reduceEqDiff, Nat.reduceAdd, reduceCtorEq, Q17])
      intro w5 he5
      repeat ((try subst X); (first | (first | apply zL | apply zH | apply zE); intro X hX | apply zl | apply zh | apply ze); try simp only [zU, reduceIte, Nat.reduceEqDiff, Nat.reduceAdd, reduceCtorEq, Q17])
      refine hM _ _ _ ?_; clear hM M
      refine ok_cond rfl (fun hc2 => ?_) (fun hc2 => ok_skip ?_)
      · refine ok_seq (fun M hM => ok_region rfl ?_); repeat ((try subst X); (first | (first | apply zL | apply zH | apply zE); intro X hX | apply zl | apply zh | apply ze); try simp only [zU, reduceIte, Nat.reduceEqDiff, Nat.reduceAdd, reduceCtorEq, Q17])
        refine hM _ _ _ ?_; clear hM M
        refine ok_ret ?_
        try simp only [zW, zU, reduceIte, Nat.reduceEqDiff, Nat.reduceAdd, reduceCtorEq, Q17]
        refine ⟨?_, (he02.trans he4).trans he5⟩
        have hne : eqVs a a' = false := by
          cases hx : eqVs a a' with
          | false => rfl
          | true =>
            have := ((eqVs_iff a a').1 hx).2 i _ _ hxi hyi
            rw [this] at hc2; cases hc2
        simp [eqV, hne]
      · try simp only [zW, zU, reduceIte, Nat.reduceEqDiff, Nat.reduceAdd, reduceCtorEq, Q17]
        refine hM1 _ _ _ ?_; clear hM1 M1
        refine ok_region rfl ?_
        repeat ((try subst X); (first | (first | apply zL | apply zH | apply zE); intro X hX | apply zl | apply zh | apply ze); try simp only [zU, reduceIte, Nat.reduceEqDiff, Nat.reduceAdd, reduceCtorEq, Q17])
        refine ⟨by simp only [inI]; omega, ?_⟩
        repeat ((try subst X); (first | (first | apply zL | apply zH | apply zE); intro X hX | apply zl | apply zh | apply ze); try simp only [zU, reduceIte, Nat.reduceEqDiff, Nat.reduceAdd, reduceCtorEq, Q17])
        refine ⟨i + 1, by simp [sub, Env.get], ⟨he4.trans he5, by omega, fun j x y hj hx hy => ?_⟩, by omega⟩
        rcases Nat.lt_or_ge j i with h | h
        · exact hall j x y h hx hy
        · have : j = i := by omega
          subst this
          rw [hxi] at hx; rw [hyi] at hy
          cases hx; cases hy
          simpa using hc2
end Go.Proofs.YtldeokfhipjbfaaGreatDoor
/- few: values with few parts. -/
set_option linter.unusedVariables false
set_option linter.unusedSimpArgs false
namespace Go.Proofs.YtldeokfhipjbfaaGreatDoor
open Go Go.Proofs.Vg Go.RowKit
theorem eqV_refl : ∀ (m : Nat) (x : Val), SizeOf.sizeOf x ≤ m → eqV x x = true := by
  intro m
  induction m with
  | zero => intro x h; cases x; simp at h
  | succ m ih =>
    rintro ⟨k, n, t, a⟩ h
    simp only [eqV, decide_true, Bool.true_and]
    refine (eqVs_iff a a).2 ⟨rfl, fun i x y hx hy => ?_⟩
    rw [hx] at hy; cases hy
    have := List.sizeOf_lt_of_mem (List.mem_of_getElem? hx)
    simp at h
    exact ih x (by omega)
theorem Fx.zi65' : zinfo Tryz.prog 65 = some (some (.pointer none), 1, 8) := Fx.zi65

-- -- function 60
set_option maxHeartbeats 2000000 in
set_option maxRecDepth 8000 in
theorem few1_ok (w : World) (r : List Value) (hr4 : r.length = 4) (B3 Bl : Nat) (hB : w.cell? ⟨B3, 0, none⟩ = some (ptrOf Bl)) {R : Value → World → Prop} (h : ∀ w', Ext w w' → Rets Tryz.prog 25 [.agg r.toArray, ptrOf Bl] w' (fun v w'' => ∃ b, v = .bool b ∧ R (.bool (!b)) w'')) : Rets Tryz.prog 60 [.agg r.toArray, ptrOf B3] w R := by
  refine rets_of_ok Tryz.func60 rfl rfl ?_
  refine ok_seq (fun M hM => ok_region rfl ?_)
  repeat ((try subst X); (first | (first | apply zL | apply zH | apply zE); intro X hX | apply zl | apply zh | apply ze); try simp only [zU, reduceIte, Nat.reduceEqDiff, Nat.reduceAdd, reduceCtorEq, Q60])
  refine Runs.box (fun w1 he1 hz1 hb1 => ?_)
  simp only [Value.cells] at hb1
  repeat ((try subst X); (first | (first | apply zL | apply zH | apply zE); intro X hX | apply zl | apply zh | apply ze); try simp only [zU, reduceIte, Nat.reduceEqDiff, Nat.reduceAdd, reduceCtorEq, Q60])
  refine hM _ _ _ ?_; clear hM M
  refine ok_seq (fun M hM => ok_region rfl ?_)
  repeat ((try subst X); (first | (first | apply zL | apply zH | apply zE); intro X hX | apply zl | apply zh | apply ze); try simp only [zU, reduceIte, Nat.reduceEqDiff, Nat.reduceAdd, reduceCtorEq, Q60])
  refine ⟨r, hr4, hb1.cells (o := 0) (fun j u hj => by simpa using hj), ?_⟩
  repeat ((try subst X); (first | (first | apply zL | apply zH | apply zE); intro X hX | apply zl | apply zh | apply ze); try simp only [zU, reduceIte, Nat.reduceEqDiff, Nat.reduceAdd, reduceCtorEq, Q60])
  refine ⟨_, he1.cell hB, ?_⟩
  repeat ((try subst X); (first | (first | apply zL | apply zH | apply zE); intro X hX | apply zl | apply zh | apply ze); try simp only [zU, reduceIte, Nat.reduceEqDiff, Nat.reduceAdd, reduceCtorEq, Q60])
  refine Inv.call Fx.en25 (h w1 he1) ?_
  rintro v w2 ⟨b, rfl, hR⟩
  repeat ((try subst X); (first | (first | apply zL | apply zH | apply zE); intro X hX | apply zl | apply zh | apply ze); try simp only [zU, reduceIte, Nat.reduceEqDiff, Nat.reduceAdd, reduceCtorEq, Q60])
  refine hM _ _ _ ?_; clear hM M
  refine ok_ret ?_
  try simp only [zW, zU, reduceIte, Nat.reduceEqDiff, Nat.reduceAdd, reduceCtorEq, Q60]
  exact hR

-- -- function 25
set_option maxHeartbeats 4000000 in
set_option maxRecDepth 8000 in
theorem few_ok : ∀ (m : Nat) (x : Val) (w : World) (S : Nat → Prop) (r : List Value) (Bl : Nat) (L : Int), SizeOf.sizeOf x ≤ m → VRowS w S r x → ¬ S Bl → Blk w Bl [.int .i64 L] 3 → 0 ≤ L → L ≤ 1000000 →
    Rets Tryz.prog 25 [.agg r.toArray, ptrOf Bl] w (fun v w' => ∃ b L', v = .bool b ∧ Blk w' Bl [.int .i64 L'] 3 ∧ Chg (· = Bl) w w' ∧ (b = true → L' = L - cntV x ∧ 0 ≤ L')) := by
  intro m
  induction m with
  | zero => intro x w S r Bl L hm; cases x; simp at hm
  | succ m ih =>
    rintro ⟨k, n, t, a⟩ w S r Bl L hm hr hS hBl h0 h1
    have hrow := VRowS.row _ _ hr
    simp only [VRowS] at hr
    obtain ⟨v, rfl, hv1, hv2, rows, hsl, hrows⟩ := hr
    obtain ⟨A, cp, rfl, hlen, hcell⟩ := hsl
    have hl := hrows.length
    have hBll := hBl.lt
    refine rets_of_ok Tryz.func25 rfl rfl ?_
    refine ok_seq (fun M hM => ok_region rfl ?_)
    repeat ((try subst X); (first | (first | apply zL | apply zH | apply zE); intro X hX | apply zl | apply zh | apply ze); try simp only [zU, reduceIte, Nat.reduceEqDiff, Nat.reduceAdd, reduceCtorEq, Q25])
    refine Runs.box (fun w1 he1 hz1 hb1 => ?_)
    generalize hB1 : w.heap.size = B1 at hz1 hb1
    simp only [Value.cells] at hb1
    rw [hl] at hb1
    repeat ((try subst X); (first | (first | apply zL | apply zH | apply zE); intro X hX | apply zl | apply zh | apply ze); try simp only [zU, reduceIte, Nat.reduceEqDiff, Nat.reduceAdd, reduceCtorEq, Q25])
    refine Runs.box (fun w2 he2 hz2 hb2 => ?_)
    generalize hB2 : w1.heap.size = B2 at hz2 hb2
    simp only [Value.cells] at hb2
    repeat ((try subst X); (first | (first | apply zL | apply zH | apply zE); intro X hX | apply zl | apply zh | apply ze); try simp only [zU, reduceIte, Nat.reduceEqDiff, Nat.reduceAdd, reduceCtorEq, Q25])
    refine hM _ _ _ ?_; clear hM M
    have hb12 := hb1.ext he2
    have hBl2 := (hBl.ext he1).ext he2
    refine ok_seq (fun M hM => ok_region rfl ?_)
    repeat ((try subst X); (first | (first | apply zL | apply zH | apply zE); intro X hX | apply zl | apply zh | apply ze); try simp only [zU, reduceIte, Nat.reduceEqDiff, Nat.reduceAdd, reduceCtorEq, Q25])
    refine ⟨_, hb2.cell (j := 0) rfl, ?_⟩
    repeat ((try subst X); (first | (first | apply zL | apply zH | apply zE); intro X hX | apply zl | apply zh | apply ze); try simp only [zU, reduceIte, Nat.reduceEqDiff, Nat.reduceAdd, reduceCtorEq, Q25])
    refine ⟨_, hBl2.cell (j := 0) rfl, ?_⟩
    repeat ((try subst X); (first | (first | apply zL | apply zH | apply zE); intro X hX | apply zl | apply zh | apply ze); try simp only [zU, reduceIte, Nat.reduceEqDiff, Nat.reduceAdd, reduceCtorEq, Q25])
    refine ⟨by simp only [inI]; omega, ?_⟩
    repeat ((try subst X); (first | (first | apply zL | apply zH | apply zE); intro X hX | apply zl | apply zh | apply ze); try simp only [zU, reduceIte, Nat.reduceEqDiff, Nat.reduceAdd, reduceCtorEq, Q25])
    refine Runs.store hBl2 Fx.zi3 rfl (by intro u hu; simp [Value.cells] at hu; subst hu; rfl) (by simp) (fun w3 hc3 hs3 hb3 => ?_)
    rw [splice_all _ _ (by simp [Value.cells])] at hb3
    simp only [Value.cells] at hb3
    repeat ((try subst X); (first | (first | apply zL | apply zH | apply zE); intro X hX | apply zl | apply zh | apply ze); try simp only [zU, reduceIte, Nat.reduceEqDiff, Nat.reduceAdd, reduceCtorEq, Q25])
    refine hM _ _ _ ?_; clear hM M
    have hcA : Chg (· = Bl) w w3 := ((he1.trans he2).chg _).trans hc3
    have hb13 := hb12.chg hc3 (by omega)
    have hb23 := hb2.chg hc3 (by omega)
    refine ok_seq (fun M hM => ok_region rfl ?_)
    repeat ((try subst X); (first | (first | apply zL | apply zH | apply zE); intro X hX | apply zl | apply zh | apply ze); try simp only [zU, reduceIte, Nat.reduceEqDiff, Nat.reduceAdd, reduceCtorEq, Q25])
    refine ⟨_, hb23.cell (j := 0) rfl, ?_⟩
    repeat ((try subst X); (first | (first | apply zL | apply zH | apply zE); intro X hX | apply zl | apply zh | apply ze); try simp only [zU, reduceIte, Nat.reduceEqDiff, Nat.reduceAdd, reduceCtorEq, Q25])
    refine ⟨_, hb3.cell (j := 0) rfl, ?_⟩
    repeat ((try subst X); (first | (first | apply zL | apply zH | apply zE); intro X hX | apply zl | apply zh | apply ze); try simp only [zU, reduceIte, Nat.reduceEqDiff, Nat.reduceAdd, reduceCtorEq, Q25])
    refine ⟨fun h => ?_, fun h => ?_⟩
    rotate_left
    · repeat ((try subst X); (first | (first | apply zL | apply zH | apply zE); intro X hX | apply zl | apply zh | apply ze); try simp only [zU, reduceIte, Nat.reduceEqDiff, Nat.reduceAdd, reduceCtorEq, Q25])
      refine hM _ _ _ ?_; clear hM M
      refine ok_ret ?_
      try simp only [zW, zU, reduceIte, Nat.reduceEqDiff, Nat.reduceAdd, reduceCtorEq, Q25]
      exact ⟨false, L - 1, rfl, hb3, hcA, fun h => by cases h⟩
    have hL1 : 0 ≤ L - 1 := by simpa using h
    repeat ((try subst X); (first | (first | apply zL | apply zH | apply zE); intro X hX | apply zl | apply zh | apply ze); try simp only [zU, reduceIte, Nat.reduceEqDiff, Nat.reduceAdd, reduceCtorEq, Q25])
    refine ⟨_, hb13.cell (j := 2) rfl, ?_⟩
    repeat ((try subst X); (first | (first | apply zL | apply zH | apply zE); intro X hX | apply zl | apply zh | apply ze); try simp only [zU, reduceIte, Nat.reduceEqDiff, Nat.reduceAdd, reduceCtorEq, Q25])
    refine ⟨fun h => ?_, fun h => ?_⟩
    rotate_left
    · repeat ((try subst X); (first | (first | apply zL | apply zH | apply zE); intro X hX | apply zl | apply zh | apply ze); try simp only [zU, reduceIte, Nat.reduceEqDiff, Nat.reduceAdd, reduceCtorEq, Q25])
      refine hM _ _ _ ?_; clear hM M
      refine ok_ret ?_
      try simp only [zW, zU, reduceIte, Nat.reduceEqDiff, Nat.reduceAdd, reduceCtorEq, Q25]
      exact ⟨false, L - 1, rfl, hb3, hcA, fun h => by cases h⟩
    repeat ((try subst X); (first | (first | apply zL | apply zH | apply zE); intro X hX | apply zl | apply zh | apply ze); try simp only [zU, reduceIte, Nat.reduceEqDiff, Nat.reduceAdd, reduceCtorEq, Q25])
    refine ⟨_, hb13.cell (j := 3) rfl, ?_⟩
    repeat ((try subst X); (first | (first | apply zL | apply zH | apply zE); intro X hX | apply zl | apply zh | apply ze); try simp only [zU, reduceIte, Nat.reduceEqDiff, Nat.reduceAdd, reduceCtorEq, Q25])
    refine Inv.call Fx.en59 (containsV_ok w3 A a.length cp _ (by omega)
      (fun i w' => ∃ Li, Blk w' Bl [.int .i64 Li] 3 ∧ Chg (· = Bl) w3 w' ∧ Li = L - 1 - cntVs (a.take i) ∧ 0 ≤ Li)
      (fun w' => ∃ Li, Blk w' Bl [.int .i64 Li] 3 ∧ Chg (· = Bl) w3 w') ⟨L - 1, hb3, Chg.refl _ _, by simp [cntVs], hL1⟩ ?_) ?_
    · rintro i w4 hil ⟨Li, hb4, hc4, hLi, hLi0⟩
      have hxi : a[i]? = some a[i] := List.getElem?_eq_getElem hil
      obtain ⟨rr, hrr, hvr⟩ := hrows.get i _ hxi
      obtain ⟨b, o, rfl, hbS, hcr⟩ := hcell i rr hrr
      have hsz : SizeOf.sizeOf a[i] ≤ m := by
        have := List.sizeOf_lt_of_mem (List.getElem_mem hil)
        simp at hm
        omega
      have hc04 := hcA.trans hc4
      have hvr4 : VRowS w4 S rr a[i] := VRowS.chg hc04 (fun k hk => ⟨hk, fun e => hS (e ▸ hk)⟩) _ _ hvr
      have hr4 := (VRowS.row _ _ hvr).len
      refine ⟨rr, hr4, ⟨b, o, rfl, hc04.cellsAt hcr (fun e => hS (e ▸ hbS))⟩, Inv.clos (cap := [ptrOf B2]) (R := fun v w5 => ∃ b L', v = .bool (!b) ∧ Blk w5 Bl [.int .i64 L'] 3 ∧ Chg (· = Bl) w4 w5 ∧ (b = true → L' = Li - cntV a[i] ∧ 0 ≤ L')) Fx.en60 (few1_ok w4 rr hr4 B2 Bl ((hb23.chg hc4 (by omega)).cell (j := 0) rfl) (fun w5 he5 => (ih a[i] w5 S rr Bl Li hsz (VRowS.ext hvr4 he5) hS (hb4.ext he5) hLi0 (by omega)).mono ?_)) ?_⟩
      · rintro v w6 ⟨b, L', rfl, h2, h3, h4⟩
        exact ⟨b, rfl, b, L', rfl, h2, (he5.chg _).trans h3, h4⟩
      · rintro v w5 ⟨b, L', rfl, h2, h3, h4⟩
        refine ⟨_, rfl, fun hb => ⟨L', h2, hc4.trans h3⟩, fun hb => ?_⟩
        have hbt : b = true := by simpa using hb
        obtain ⟨h5, h6⟩ := h4 hbt
        refine ⟨L', h2, hc4.trans h3, ?_, h6⟩
        rw [List.take_succ_eq_append_getElem hil, cntVs_app]
        simp only [cntVs]
        rw [h5, hLi]
        push_cast
        omega
    rintro v w4 ⟨b, rfl, hbt, hbf⟩
    repeat ((try subst X); (first | (first | apply zL | apply zH | apply zE); intro X hX | apply zl | apply zh | apply ze); try simp only [zU, reduceIte, Nat.reduceEqDiff, Nat.reduceAdd, reduceCtorEq, Q25])
    refine hM _ _ _ ?_; clear hM M
    refine ok_ret ?_
    try simp only [zW, zU, reduceIte, Nat.reduceEqDiff, Nat.reduceAdd, reduceCtorEq, Q25]
    cases b with
    | true =>
      obtain ⟨Li, h2, h3⟩ := hbt rfl
      exact ⟨false, Li, rfl, h2, hcA.trans h3, fun h => by cases h⟩
    | false =>
      obtain ⟨Li, h2, h3, h4, h5⟩ := hbf rfl
      rw [List.take_of_length_le (Nat.le_refl _)] at h4
      refine ⟨true, Li, rfl, h2, hcA.trans h3, fun _ => ⟨?_, h5⟩⟩
      simp only [cntV]
      rw [h4]; push_cast; omega
end Go.Proofs.YtldeokfhipjbfaaGreatDoor
/- Words compared. -/
set_option linter.unusedVariables false
set_option linter.unusedSimpArgs false
namespace Go.Proofs.YtldeokfhipjbfaaGreatDoor
open Go Go.Proofs.Vg Go.RowKit

section
variable {P : Program} {w : World} {t : TypeId} {x y : Operand} {nx : Value → World → Prop}
theorem run_eq_int {t0 : TypeId} {k0 : IntKind} (h0 : P.underlying t0 = some (.int k0)) (a b : Int) (d : Nat) : (Op.equalIn (d + 1) t0 (.int .i64 a) (.int .i64 b)).run P w = .ok (decide (a = b)) w := by
  rw [Op.equalIn]
  by_cases q : a = b <;> simp [run_underlying h0, Result.andThen, q]
theorem run_part_int {t0 : TypeId} {k0 : IntKind} (h0 : P.underlying t0 = some (.int k0)) (cs : Array Value) (o : Nat) (v : Value) (h : cs[o]? = some v) : (part t0 cs o).run P w = .ok v w := by
  simp [part, isAgg, run_underlying h0, Result.andThen, h]
set_option maxHeartbeats 2000000 in
theorem run_eq_wd {n0 n1 n2 : String} {t0 t1 t2 : TypeId} {e0 e1 e2 : Bool} {g0 g1 g2 p0 p1 p2 : String} {b0 b1 b2 : Nat} {k0 k1 k2 : IntKind}
    (ht : P.underlying t = some (.struct #[⟨n0, t0, 0, e0, g0, p0, b0⟩, ⟨n1, t1, 1, e1, g1, p1, b1⟩, ⟨n2, t2, 2, e2, g2, p2, b2⟩])) (hs : P.stoodInHeld t = false)
    (h0 : P.underlying t0 = some (.int k0)) (h1 : P.underlying t1 = some (.int k1)) (h2 : P.underlying t2 = some (.int k2)) (hn : n0 ≠ "_" ∧ n1 ≠ "_" ∧ n2 ≠ "_") (a b : Wd) (d : Nat) :
    (Op.equalIn (d + 1 + 1) t (wv a) (wv b)).run P w = .ok (decide (a.k = b.k ∧ a.n = b.n ∧ a.r = b.r)) w := by
  rw [Op.equalIn]
  obtain ⟨ka, na, ra⟩ := a
  obtain ⟨kb, nb, rb⟩ := b
  have c0 : ∀ (u v z : Value), (part t0 #[u, v, z] 0).run P w = .ok u w := fun u v z => run_part_int h0 _ _ _ rfl
  have c1 : ∀ (u v z : Value), (part t1 #[u, v, z] 1).run P w = .ok v w := fun u v z => run_part_int h1 _ _ _ rfl
  have c2 : ∀ (u v z : Value), (part t2 #[u, v, z] 2).run P w = .ok z w := fun u v z => run_part_int h2 _ _ _ rfl
  have d0 := fun a b => run_eq_int (w := w) h0 a b d
  have d1 := fun a b => run_eq_int (w := w) h1 a b d
  have d2 := fun a b => run_eq_int (w := w) h2 a b d
  by_cases q0 : ka = kb
  · by_cases q1 : na = nb
    · by_cases q2 : ra = rb
      · simp [run_underlying ht, Result.andThen, wv, Wd.row, hs, hn.1, hn.2.1, hn.2.2, c0, c1, c2, d0, d1, d2, q0, q1, q2]
      · simp [run_underlying ht, Result.andThen, wv, Wd.row, hs, hn.1, hn.2.1, hn.2.2, c0, c1, c2, d0, d1, d2, q0, q1, q2]
    · simp [run_underlying ht, Result.andThen, wv, Wd.row, hs, hn.1, hn.2.1, hn.2.2, c0, c1, c2, d0, d1, d2, q0, q1]
  · simp [run_underlying ht, Result.andThen, wv, Wd.row, hs, hn.1, hn.2.1, hn.2.2, c0, c1, c2, d0, d1, d2, q0]
end
theorem Fx.us38 : Tryz.prog.underlying 38 = some (.struct #[⟨"Kind", 3, 0, false, "", "", 0⟩, ⟨"Num", 2, 1, false, "", "", 8⟩, ⟨"Ref", 3, 2, false, "", "", 16⟩]) := by kernel_rfl
theorem Fx.us75 : Tryz.prog.underlying 75 = some (.struct #[⟨"Kind", 3, 0, false, "", "", 0⟩, ⟨"Num", 2, 1, false, "", "", 8⟩, ⟨"Ref", 3, 2, false, "", "", 16⟩]) := by kernel_rfl
theorem Fx.si38 : Tryz.prog.stoodInHeld 38 = false := by kernel_rfl
theorem Fx.si75 : Tryz.prog.stoodInHeld 75 = false := by kernel_rfl
theorem Fx.eg38 : Tryz.prog.eqGuardType Tryz.prog.depth 38 = false := by kernel_rfl
theorem Fx.eg75 : Tryz.prog.eqGuardType Tryz.prog.depth 75 = false := by kernel_rfl
theorem eq38 (a b : Wd) (w : World) : (Op.equal 38 (wv a) (wv b)).run Tryz.prog w = .ok (decide (a.k = b.k ∧ a.n = b.n ∧ a.r = b.r)) w :=
  run_eq_wd (d := 9998) Fx.us38 Fx.si38 Fx.un3 Fx.un2 Fx.un3 (by decide) a b
theorem eq75 (a b : Wd) (w : World) : (Op.equal 75 (wv a) (wv b)).run Tryz.prog w = .ok (decide (a.k = b.k ∧ a.n = b.n ∧ a.r = b.r)) w :=
  run_eq_wd (d := 9998) Fx.us75 Fx.si75 Fx.un3 Fx.un2 Fx.un3 (by decide) a b
section
variable {w : World} {x y : Operand} {nx : Value → World → Prop}
theorem Runs.wdEq75 {a b : Wd} (h : nx (.bool (decide (a.k = b.k ∧ a.n = b.n ∧ a.r = b.r))) w) : Runs Tryz.prog (do eqGuard .eql 75 x y (wv a) (wv b); binOp .eql 75 (wv a) (wv b)) w nx := by
  refine ⟨_, w, ?_, h⟩
  have he := eq75 a b w
  unfold wv at he ⊢
  simp [eqGuard, binOp, he, Fx.eg75, Result.andThen]
theorem Runs.wdNe38 {a b : Wd} (h : nx (.bool (!decide (a.k = b.k ∧ a.n = b.n ∧ a.r = b.r))) w) : Runs Tryz.prog (do eqGuard .neq 38 x y (wv a) (wv b); binOp .neq 38 (wv a) (wv b)) w nx := by
  refine ⟨_, w, ?_, h⟩
  have he := eq38 a b w
  unfold wv at he ⊢
  simp [eqGuard, binOp, he, Fx.eg38, Result.andThen]
end
end Go.Proofs.YtldeokfhipjbfaaGreatDoor
/- slices.Equal of words. -/
set_option linter.unusedVariables false
set_option linter.unusedSimpArgs false
namespace Go.Proofs.YtldeokfhipjbfaaGreatDoor
open Go Go.Proofs.Vg Go.RowKit

-- -- function 18
set_option maxHeartbeats 2000000 in
set_option maxRecDepth 8000 in
theorem eqWs_ok (w : World) (u v : Value) (l : List Wd) (hu : SlW w u l) (hv : SlW w v l) : Rets Tryz.prog 18 [u, v] w (fun r w' => r = .bool true ∧ Ext w w') := by
  obtain ⟨A, c, rfl, hlen, hcell⟩ := id hu
  obtain ⟨A', c', rfl, hlen', hcell'⟩ := id hv
  rw [wd_len] at hu hv hlen ⊢
  refine rets_of_ok Tryz.func18 rfl rfl ?_
  refine ok_seq (fun M hM => ok_region rfl ?_); repeat ((try subst X); (first | (first | apply zL | apply zH | apply zE); intro X hX | apply zl | apply zh | apply ze); try simp only [zU, reduceIte, Nat.reduceEqDiff, Nat.reduceAdd, reduceCtorEq, Q18])
  refine hM _ _ _ ?_; clear hM M
  refine ok_join [(0, .slice A l.length c), (1, .slice A' l.length c')] (fun w' => w' = w) ?_ ?_
  · refine ok_seq (fun M hM => ok_region rfl ?_); repeat ((try subst X); (first | (first | apply zL | apply zH | apply zE); intro X hX | apply zl | apply zh | apply ze); try simp only [zU, reduceIte, Nat.reduceEqDiff, Nat.reduceAdd, reduceCtorEq, Q18])
    refine hM _ _ _ ?_; clear hM M
    refine ok_cond rfl (fun h => ?_) (fun h => ok_skip ?_)
    · simp at h
    try simp only [zW, zU, reduceIte, Nat.reduceEqDiff, Nat.reduceAdd, reduceCtorEq, Q18]
    simp [sub, Env.get]
  rintro w' rfl
  refine ok_seq (fun M0 hM0 => ?_)
  refine ok_seq (fun M hM => ok_region rfl ?_); repeat ((try subst X); (first | (first | apply zL | apply zH | apply zE); intro X hX | apply zl | apply zh | apply ze); try simp only [zU, reduceIte, Nat.reduceEqDiff, Nat.reduceAdd, reduceCtorEq, Q18])
  refine hM _ _ _ ?_; clear hM M
  refine ok_block ?_
  refine ok_loop (S := Nat) (fun i => [(0, .slice A l.length c), (1, .slice A' l.length c'), (12, .int .i64 (l.length : Int)), (13, .int .i64 (i : Int))]) (fun i w2 => Ext w' w2 ∧ i ≤ l.length) (fun i => l.length - i) 0 ?_ ?_ ?_
  · simp [sub, Env.get]
  · exact ⟨Ext.refl _, Nat.zero_le _⟩
  rintro i w2 ⟨he2, hi⟩
  refine ok_seq (fun M hM => ok_region rfl ?_); repeat ((try subst X); (first | (first | apply zL | apply zH | apply zE); intro X hX | apply zl | apply zh | apply ze); try simp only [zU, reduceIte, Nat.reduceEqDiff, Nat.reduceAdd, reduceCtorEq, Q18])
  refine hM _ _ _ ?_; clear hM M
  refine ok_seq (fun M1 hM1 => ?_)
  refine ok_if rfl (fun hc => ok_skip ?_) (fun hc => ok_exit ?_)
  rotate_left
  · try simp only [zW, zU, reduceIte, Nat.reduceEqDiff, Nat.reduceAdd, reduceCtorEq, Q18]
    refine hM0 _ _ _ ?_; clear hM0 M0 hM1 M1
    refine ok_seq (fun M hM => ok_region rfl ?_); repeat ((try subst X); (first | (first | apply zL | apply zH | apply zE); intro X hX | apply zl | apply zh | apply ze); try simp only [zU, reduceIte, Nat.reduceEqDiff, Nat.reduceAdd, reduceCtorEq, Q18])
    refine hM _ _ _ ?_; clear hM M
    refine ok_ret ?_
    try simp only [zW, zU, reduceIte, Nat.reduceEqDiff, Nat.reduceAdd, reduceCtorEq, Q18]
    exact he2
  · try simp only [zW, zU, reduceIte, Nat.reduceEqDiff, Nat.reduceAdd, reduceCtorEq, Q18]
    refine hM1 _ _ _ ?_; clear hM1 M1
    have hil : i < l.length := by omega
    have hxi : l[i]? = some l[i] := List.getElem?_eq_getElem hil
    obtain ⟨b, o, hA, hcr⟩ := hcell i (l[i]).row (by simp [hxi])
    obtain ⟨b', o', hA', hcr'⟩ := hcell' i (l[i]).row (by simp [hxi])
    subst hA; subst hA'
    refine ok_seq (fun M1 hM1 => ok_block ?_)
    refine ok_seq (fun M hM => ok_region rfl ?_); repeat ((try subst X); (first | (first | apply zL | apply zH | apply zE); intro X hX | apply zl | apply zh | apply ze); try simp only [zU, reduceIte, Nat.reduceEqDiff, Nat.reduceAdd, reduceCtorEq, Q18])
    refine hM _ _ _ ?_; clear hM M
    refine ok_seq (fun M hM => ?_)
    refine (ok_draw 8 [(false, true)] (Ext _) Fx.mixed (by decide) rfl (by decide +kernel) (by decide +kernel) (Ext.drew _) ?_)
    repeat ((try subst X); (first | (first | apply zL | apply zH | apply zE); intro X hX | apply zl | apply zh | apply ze); try simp only [zU, reduceIte, Nat.reduceEqDiff, Nat.reduceAdd, reduceCtorEq, Q18])
    refine ⟨by omega, by omega, ?_⟩
    repeat ((try subst X); (first | (first | apply zL | apply zH | apply zE); intro X hX | apply zl | apply zh | apply ze); try simp only [zU, reduceIte, Nat.reduceEqDiff, Nat.reduceAdd, reduceCtorEq, Q18])
    refine ⟨(l[i]).row, rfl, fun w3 hw => hw.cellsAt (he2.cellsAt hcr), ?_⟩
    repeat ((try subst X); (first | (first | apply zL | apply zH | apply zE); intro X hX | apply zl | apply zh | apply ze); try simp only [zU, reduceIte, Nat.reduceEqDiff, Nat.reduceAdd, reduceCtorEq, Q18])
    refine ⟨by omega, by omega, ?_⟩
    repeat ((try subst X); (first | (first | apply zL | apply zH | apply zE); intro X hX | apply zl | apply zh | apply ze); try simp only [zU, reduceIte, Nat.reduceEqDiff, Nat.reduceAdd, reduceCtorEq, Q18])
    refine ⟨(l[i]).row, rfl, fun w3 hw => hw.cellsAt (he2.cellsAt hcr'), ?_⟩
    repeat ((try subst X); (first | (first | apply zL | apply zH | apply zE); intro X hX | apply zl | apply zh | apply ze); try simp only [zU, reduceIte, Nat.reduceEqDiff, Nat.reduceAdd, reduceCtorEq, Q18])
    intro w3 he3
    repeat ((try subst X); (first | (first | apply zL | apply zH | apply zE); intro X hX | apply zl | apply zh | apply ze); try simp only [zU, reduceIte, Nat.reduceEqDiff, Nat.reduceAdd, reduceCtorEq, Q18])
    refine Runs.wdNe38 (a := l[i]) (b := l[i]) ?_
    repeat ((try subst X); (first | (first | apply zL | apply zH | apply zE); intro X hX | apply zl | apply zh | apply ze); try simp only [zU, reduceIte, Nat.reduceEqDiff, Nat.reduceAdd, reduceCtorEq, Q18])
    refine hM _ _ _ ?_; clear hM M
    refine ok_cond rfl (fun h => ?_) (fun h => ok_skip ?_)
    · simp at h
    try simp only [zW, zU, reduceIte, Nat.reduceEqDiff, Nat.reduceAdd, reduceCtorEq, Q18]
    refine hM1 _ _ _ ?_; clear hM1 M1
    refine ok_region rfl ?_
    repeat ((try subst X); (first | (first | apply zL | apply zH | apply zE); intro X hX | apply zl | apply zh | apply ze); try simp only [zU, reduceIte, Nat.reduceEqDiff, Nat.reduceAdd, reduceCtorEq, Q18])
    refine ⟨by simp only [inI]; omega, ?_⟩
    repeat ((try subst X); (first | (first | apply zL | apply zH | apply zE); intro X hX | apply zl | apply zh | apply ze); try simp only [zU, reduceIte, Nat.reduceEqDiff, Nat.reduceAdd, reduceCtorEq, Q18])
    exact ⟨i + 1, by simp [sub, Env.get], ⟨he2.trans he3, by omega⟩, by omega⟩
end Go.Proofs.YtldeokfhipjbfaaGreatDoor
/- Reached. -/
set_option linter.unusedVariables false
set_option linter.unusedSimpArgs false
namespace Go.Proofs.Vg
open Go Go.RowKit
/-- The state of the counting. -/
structure QJ (w0 W : World) (n b0 b1 b2 c6 hb m : Nat) (rv : Value) (s : RS) : Prop where
  ext : Ext w0 W
  k0 : Blk W b0 [ptrOf hb] 25
  k1 : Blk W b1 [ptrOf hb] 25
  k2 : Blk W b2 [rv] 29
  k6 : Blk W c6 [.int .i64 (s.i : Int)] 3
  si : s.i ≤ m
  own : ∀ k, s.own k → n + 2 ≤ k ∧ k < W.heap.size
  snap : ∀ k, s.own k → W.heap[k]? = s.snap k
structure QN (w0 : World) (n b0 b1 b2 c6 : Nat) : Prop where
  h0 : w0.heap.size ≤ b0 ∧ b0 < n
  h1 : w0.heap.size ≤ b1 ∧ b1 < n
  h2 : w0.heap.size ≤ b2 ∧ b2 < n
  h6 : w0.heap.size ≤ c6 ∧ c6 < n
  ne : b0 ≠ c6 ∧ b1 ≠ c6 ∧ b2 ≠ c6
theorem QJ.chg {w0 W W' : World} {n b0 b1 b2 c6 hb m : Nat} {rv : Value} {s s' : RS} {T : Nat → Prop} (hn : QN w0 n b0 b1 b2 c6) (h : QJ w0 W n b0 b1 b2 c6 hb m rv s) (hc : Chg T W W')
    (hT : ∀ k, T k → n ≤ k) (hi : s'.i = s.i) (ho : ∀ k, s'.own k → n + 2 ≤ k ∧ k < W'.heap.size) (hsn : ∀ k, s'.own k → W'.heap[k]? = s'.snap k) : QJ w0 W' n b0 b1 b2 c6 hb m rv s' := by
  have hlow : ∀ k, k < n → ¬ T k := fun k hk ht => by have := hT k ht; omega
  refine ⟨h.ext.chg_trans hc (fun k hk => by have := hT k hk; have := hn.h0; omega), h.k0.chg hc (hlow _ hn.h0.2), h.k1.chg hc (hlow _ hn.h1.2), h.k2.chg hc (hlow _ hn.h2.2), ?_, by rw [hi]; exact h.si, ho, hsn⟩
  rw [hi]; exact h.k6.chg hc (hlow _ hn.h6.2)
end Go.Proofs.Vg
namespace Go.Proofs.YtldeokfhipjbfaaGreatDoor
open Go Go.Proofs.Vg Go.RowKit

-- -- function 48
set_option maxHeartbeats 4000000 in
set_option maxRecDepth 8000 in
theorem reachedq_ok (w : World) (hb rb : Nat) (H : List Ob) (F : Nat → Prop) (hH : HeapW w hb rb H F) (hl : H.length ≤ 1073741824) (x : Wd) (B : Nat) (hB : w.cell? ⟨B, 0, none⟩ = some (ptrOf hb)) :
    Rets Tryz.prog 48 [wv x, ptrOf B] w (fun v w' => v = .bool (!rightW H x) ∧ Ext w w') := by
  refine rets_of_ok Tryz.func48 rfl rfl ?_
  refine ok_seq (fun M hM => ok_region rfl ?_)
  repeat ((try subst X); (first | (first | apply zL | apply zH | apply zE); intro X hX | apply zl | apply zh | apply ze); try simp only [zU, reduceIte, Nat.reduceEqDiff, Nat.reduceAdd, reduceCtorEq, Q48])
  refine Runs.box (fun w1 he1 hz1 hb1 => ?_)
  generalize hB1 : w.heap.size = B1 at hz1 hb1
  simp only [Value.cells] at hb1
  repeat ((try subst X); (first | (first | apply zL | apply zH | apply zE); intro X hX | apply zl | apply zh | apply ze); try simp only [zU, reduceIte, Nat.reduceEqDiff, Nat.reduceAdd, reduceCtorEq, Q48])
  refine hM _ _ _ ?_; clear hM M
  refine ok_seq (fun M hM => ok_region rfl ?_)
  repeat ((try subst X); (first | (first | apply zL | apply zH | apply zE); intro X hX | apply zl | apply zh | apply ze); try simp only [zU, reduceIte, Nat.reduceEqDiff, Nat.reduceAdd, reduceCtorEq, Q48])
  refine ⟨_, he1.cell hB, ?_⟩
  repeat ((try subst X); (first | (first | apply zL | apply zH | apply zE); intro X hX | apply zl | apply zh | apply ze); try simp only [zU, reduceIte, Nat.reduceEqDiff, Nat.reduceAdd, reduceCtorEq, Q48])
  refine ⟨x.row, rfl, hb1.cells (o := 0) (fun j u hj => by simpa using hj), ?_⟩
  repeat ((try subst X); (first | (first | apply zL | apply zH | apply zE); intro X hX | apply zl | apply zh | apply ze); try simp only [zU, reduceIte, Nat.reduceEqDiff, Nat.reduceAdd, reduceCtorEq, Q48])
  refine Inv.call Fx.en12 (right_ok w1 hb rb H F (hH.ext he1) hl x) ?_
  rintro v w2 ⟨rfl, he2⟩
  repeat ((try subst X); (first | (first | apply zL | apply zH | apply zE); intro X hX | apply zl | apply zh | apply ze); try simp only [zU, reduceIte, Nat.reduceEqDiff, Nat.reduceAdd, reduceCtorEq, Q48])
  refine hM _ _ _ ?_; clear hM M
  refine ok_ret ?_
  try simp only [zW, zU, reduceIte, Nat.reduceEqDiff, Nat.reduceAdd, reduceCtorEq, Q48]
  exact he1.trans he2

-- -- function 14
set_option maxHeartbeats 4000000 in
set_option maxRecDepth 8000 in
theorem Reached_ok (w : World) (hb rb : Nat) (H : List Ob) (F : Nat → Prop) (hH : HeapW w hb rb H F) (hl : H.length ≤ 1048576) (hW : Wf H) (rv : Value) (roots : List Wd) (hrs : SlW w rv roots) (hrl : roots.length ≤ 1073741824) :
    Rets Tryz.prog 14 [ptrOf hb, rv] w (fun v w' => (roots.any (fun x => !rightW H x) = true → v = .tuple #[.int .i64 0, .int .i64 2] ∧ Ext w w') ∧
      (roots.any (fun x => !rightW H x) = false → v = .tuple #[.int .i64 ((collQ H roots).length : Int), .int .i64 0] ∧ Ext w w')) := by
  obtain ⟨A, c, hrv, hlen, hcell⟩ := id hrs
  rw [wd_len] at hrv hlen
  subst hrv
  refine rets_of_okM Tryz.func14 rfl rfl ?_
  refine ok_seq (fun M hM => ok_region rfl ?_)
  repeat ((try subst X); (first | (first | apply zL | apply zH | apply zE); intro X hX | apply zl | apply zh | apply ze); try simp only [zU, reduceIte, Nat.reduceEqDiff, Nat.reduceAdd, reduceCtorEq, Q14])
  refine Runs.box (fun w1 he1 hz1 hb1 => ?_)
  generalize hB0 : w.heap.size = b0 at hz1 hb1
  simp only [Value.cells] at hb1
  repeat ((try subst X); (first | (first | apply zL | apply zH | apply zE); intro X hX | apply zl | apply zh | apply ze); try simp only [zU, reduceIte, Nat.reduceEqDiff, Nat.reduceAdd, reduceCtorEq, Q14])
  refine hM _ _ _ ?_; clear hM M
  refine ok_join [(1, .slice A roots.length c), (2, ptrOf b0)] (fun w' => Ext w1 w' ∧ roots.any (fun x => !rightW H x) = false) ?_ ?_
  · refine ok_block ?_
    refine ok_seq (fun M hM => ok_region rfl ?_)
    repeat ((try subst X); (first | (first | apply zL | apply zH | apply zE); intro X hX | apply zl | apply zh | apply ze); try simp only [zU, reduceIte, Nat.reduceEqDiff, Nat.reduceAdd, reduceCtorEq, Q14])
    refine ⟨_, hb1.cell (j := 0) rfl, ?_⟩
    repeat ((try subst X); (first | (first | apply zL | apply zH | apply zE); intro X hX | apply zl | apply zh | apply ze); try simp only [zU, reduceIte, Nat.reduceEqDiff, Nat.reduceAdd, reduceCtorEq, Q14])
    refine Runs.ptrEq Fx.un25 ?_
    repeat ((try subst X); (first | (first | apply zL | apply zH | apply zE); intro X hX | apply zl | apply zh | apply ze); try simp only [zU, reduceIte, Nat.reduceEqDiff, Nat.reduceAdd, reduceCtorEq, Q14])
    refine hM _ _ _ ?_; clear hM M
    refine ok_cond rfl (fun h => by cases h) (fun _ => ?_)
    refine ok_seq (fun M hM => ok_region rfl ?_)
    repeat ((try subst X); (first | (first | apply zL | apply zH | apply zE); intro X hX | apply zl | apply zh | apply ze); try simp only [zU, reduceIte, Nat.reduceEqDiff, Nat.reduceAdd, reduceCtorEq, Q14])
    refine Inv.call Fx.en47 (containsW_ok w1 A roots.length c _ hlen
      (fun i w4 => Ext w1 w4 ∧ ∀ (j : Nat) (x : Wd), j < i → roots[j]? = some x → rightW H x = true)
      (fun w4 => Ext w1 w4 ∧ roots.any (fun x => !rightW H x) = true) ⟨Ext.refl _, fun j x h => absurd h (Nat.not_lt_zero _)⟩ ?_) ?_
    · rintro i w4 hil ⟨he4, hall⟩
      have hxi : roots[i]? = some roots[i] := List.getElem?_eq_getElem hil
      obtain ⟨b, o, hA, hcc⟩ := hcell i roots[i].row (by rw [List.getElem?_map, hxi]; rfl)
      refine ⟨roots[i].row, rfl, ⟨b, o, hA, (he1.trans he4).cellsAt hcc⟩, Inv.clos (cap := [ptrOf b0]) Fx.en48 (reachedq_ok w4 hb rb H F (hH.ext (he1.trans he4)) (by omega) roots[i] b0 (he4.cell (hb1.cell (j := 0) rfl))) ?_⟩
      rintro v w5 ⟨rfl, he5⟩
      refine ⟨_, rfl, fun hb => ⟨he4.trans he5, List.any_eq_true.2 ⟨_, List.getElem_mem hil, hb⟩⟩, fun hb => ⟨he4.trans he5, fun j x hj hx => ?_⟩⟩
      rcases Nat.lt_or_ge j i with h | h
      · exact hall j x h hx
      · have : j = i := by omega
        subst this
        rw [hxi] at hx
        cases hx
        simpa using hb
    rintro v w4 ⟨b, rfl, hbt, hbf⟩
    repeat ((try subst X); (first | (first | apply zL | apply zH | apply zE); intro X hX | apply zl | apply zh | apply ze); try simp only [zU, reduceIte, Nat.reduceEqDiff, Nat.reduceAdd, reduceCtorEq, Q14])
    refine hM _ _ _ ?_; clear hM M
    cases b with
    | true =>
      obtain ⟨he4, hany⟩ := hbt rfl
      refine ok_cond rfl (fun _ => ?_) (fun h => by cases h)
      refine ok_seq (fun M hM => ok_region rfl ?_); repeat ((try subst X); (first | (first | apply zL | apply zH | apply zE); intro X hX | apply zl | apply zh | apply ze); try simp only [zU, reduceIte, Nat.reduceEqDiff, Nat.reduceAdd, reduceCtorEq, Q14])
      refine hM _ _ _ ?_; clear hM M
      refine ok_ret ?_
      refine .inl ⟨rfl, ?_⟩
      try simp only [zW, zU, reduceIte, Nat.reduceEqDiff, Nat.reduceAdd, reduceCtorEq, Q14]
      exact ⟨fun _ => he1.trans he4, fun h => by rw [hany] at h; cases h⟩
    | false =>
      obtain ⟨he4, hall⟩ := hbf rfl
      refine ok_cond rfl (fun h => by cases h) (fun _ => ok_skip ?_)
      try simp only [zW, zU, reduceIte, Nat.reduceEqDiff, Nat.reduceAdd, reduceCtorEq, Q14]
      refine ⟨by simp [sub, Env.get], he4, ?_⟩
      rw [List.any_eq_false]
      intro x hx hb
      obtain ⟨j, hj⟩ := List.mem_iff_getElem?.1 hx
      rw [hall j x (List.getElem?_eq_some_iff.1 hj).1 hj] at hb
      cases hb
  rintro w2 ⟨he2, hany⟩
  rw [hany]
  have he02 := he1.trans he2
  have hrall : ∀ x ∈ roots, 0 ≤ x.r ∧ x.r ≤ (H.length : Int) := fun x hx => right_ref (by
    have := List.any_eq_false.1 hany x hx
    simpa using this)
  obtain ⟨vs, ps, gs, hR0, hf, hrb⟩ := id hH
  have hb02 := hb1.ext he2
  have hs02 := he02.size
  refine ok_seq (fun M hM => ok_region rfl ?_)
  repeat ((try subst X); (first | (first | apply zL | apply zH | apply zE); intro X hX | apply zl | apply zh | apply ze); try simp only [zU, reduceIte, Nat.reduceEqDiff, Nat.reduceAdd, reduceCtorEq, Q14])
  refine Runs.alloc Fx.zi3 (fun w4 he4 hz4 hb4 => ?_)
  generalize hC6 : w2.heap.size = c6 at hz4 hb4
  simp only [Value.cells] at hb4
  repeat ((try subst X); (first | (first | apply zL | apply zH | apply zE); intro X hX | apply zl | apply zh | apply ze); try simp only [zU, reduceIte, Nat.reduceEqDiff, Nat.reduceAdd, reduceCtorEq, Q14])
  refine Runs.store hb4 Fx.zi3 rfl (by intro u hu; simp [Value.cells] at hu; subst hu; rfl) (by simp) (fun w6 hc5 hz6 hb6 => ?_)
  rw [splice_all _ _ (by simp [Value.cells])] at hb6
  simp only [Value.cells] at hb6
  repeat ((try subst X); (first | (first | apply zL | apply zH | apply zE); intro X hX | apply zl | apply zh | apply ze); try simp only [zU, reduceIte, Nat.reduceEqDiff, Nat.reduceAdd, reduceCtorEq, Q14])
  refine hM _ _ _ ?_; clear hM M
  have he06 : Ext w w6 := (he02.trans he4).chg_trans hc5 (fun k hk => by omega)
  have hl02 := hb02.lt
  have hb06 : Blk w6 b0 [ptrOf hb] 25 := (hb02.ext he4).chg hc5 (by omega)
  refine ok_seq (fun M0 hM0 => ?_)
  refine ok_seq (fun M hM => ok_region rfl ?_)
  repeat ((try subst X); (first | (first | apply zL | apply zH | apply zE); intro X hX | apply zl | apply zh | apply ze); try simp only [zU, reduceIte, Nat.reduceEqDiff, Nat.reduceAdd, reduceCtorEq, Q14])
  refine ⟨_, hb06.cell (j := 0) rfl, ?_⟩
  repeat ((try subst X); (first | (first | apply zL | apply zH | apply zE); intro X hX | apply zl | apply zh | apply ze); try simp only [zU, reduceIte, Nat.reduceEqDiff, Nat.reduceAdd, reduceCtorEq, Q14])
  refine Inv.call Fx.en49 (reached_ok w6 hb (.slice A roots.length c) rfl) ?_
  rintro v w7 ⟨rfl, hk1, hk2, he7⟩
  repeat ((try subst X); (first | (first | apply zL | apply zH | apply zE); intro X hX | apply zl | apply zh | apply ze); try simp only [zU, reduceIte, Nat.reduceEqDiff, Nat.reduceAdd, reduceCtorEq, Q14])
  refine hM _ _ _ ?_; clear hM M
  have hs7 : w6.heap.size + 1 < w7.heap.size := hk2.lt
  have he07 := he06.trans he7
  have hs12 := he2.size
  have hs67 := he7.size
  have hn : QN w w7.heap.size b0 w6.heap.size (w6.heap.size + 1) c6 := ⟨by omega, by omega, by omega, by omega, by omega⟩
  have hk6 : Blk w7 c6 [.int .i64 0] 3 := hb6.ext he7
  have hFoot : ∀ k, Foot hb vs ps gs k → k < w.heap.size := fun k hk => (hf k hk).2
  have hbq := bfs_prefix hW (H.length + 1) _ _ 0 (pushF_inv (n := H.length) roots _ [] hrall (Qok.nil _)).1
  have hQr : ∀ r ∈ collQ H roots, 1 ≤ r ∧ r ≤ (H.length : Int) := hbq.2.1
  clear hbq
  have hql : (collQ H roots).length ≤ 1048577 := by
    have hu := (pushF_inv (n := H.length) roots _ [] hrall (Qok.nil _))
    have hb := bfs_length hW (H.length + 1) _ _ 0 hu.1
    have hu2 := hu.2.2
    rw [unseen_rep] at hu2
    simp only [List.length_nil] at hu2
    have : (collQ H roots).length ≤ H.length + 1 := by unfold collQ bfsQ; omega
    omega
  generalize hN : w7.heap.size = n at hn
  have hJHF : ∀ s W, QJ w W n b0 w6.heap.size (w6.heap.size + 1) c6 hb (collQ H roots).length (.slice A roots.length c) s → HF W s w6.heap.size (w6.heap.size + 1) hb rb vs ps gs H (.slice A roots.length c) roots := fun s W h =>
    ⟨hR0.ext h.ext, h.k1.cell rfl, h.k2.cell rfl, hrs.ext h.ext, h.snap, fun k hk ho => by have := hFoot k hk; have := h.own k ho; omega⟩
  have hst : ∀ s W W', Off n W W' → QJ w W n b0 w6.heap.size (w6.heap.size + 1) c6 hb (collQ H roots).length (.slice A roots.length c) s → QJ w W' n b0 w6.heap.size (w6.heap.size + 1) c6 hb (collQ H roots).length (.slice A roots.length c) s := by
    rintro s W W' ho h
    refine h.chg hn ho.chg' (fun k hk => by omega) rfl (fun k hk => by rw [ho.size]; exact h.own k hk) (fun k hk => ?_)
    have := h.own k hk
    rw [ho.block k (by omega) (by omega)]
    exact h.snap k hk
  refine ok_block ?_
  refine ok_rangeG (S := RS) (cap := [ptrOf w6.heap.size, ptrOf (w6.heap.size + 1)])
    (fun s W => QJ w W n b0 w6.heap.size (w6.heap.size + 1) c6 hb (collQ H roots).length (.slice A roots.length c) s) (fun _ _ => False) ⟨0, fun _ => False, fun _ => none⟩
    (fun s => [.int .i64 ((collQ H roots).getD s.i 0)]) (fun s => s.i < (collQ H roots).length) (fun s => s.i = (collQ H roots).length) (fun s s' => s' = ⟨s.i + 1, s.own, s.snap⟩) GenR
    rfl Fx.en88 (by decide) (fun s _ => rfl) ?_ (fun _ _ _ _ h => h) ?_ ?_ ?_ ?_ ?_ (fun _ h => h.elim) (fun _ _ h => h.elim)
  · rw [hN]; exact hst
  · rintro s W s' W' hsz hg h
    rw [hN] at hsz ⊢
    have hso : ∀ k, s'.own k → n + 2 ≤ k ∧ k < W'.heap.size := fun k hk => by
      refine ⟨?_, (hg.new k hk).2⟩
      rcases (hg.new k hk).1 with h1 | h1
      · exact (h.own k h1).1
      · omega
    exact ⟨Keep.chg hg.chg (by omega) (fun ho => by have := h.own n ho; omega) (fun ho => by have := h.own (n + 1) ho; omega), h.chg hn hg.chg (fun k hk => by have := h.own k hk; omega) hg.i hso (fun k hk => by rw [hg.snap])⟩
  · intro W he hsz
    exact ⟨he07.trans he, ((hb06.ext he7).ext he), hk1.ext he, hk2.ext he, hk6.ext he, Nat.zero_le _, fun k h => h.elim, fun k h => h.elim⟩
  · -- one round
    rintro s W hmore h hsz
    rw [hN] at hsz ⊢
    simp only [bindE]
    refine ok_skip ?_
    refine ⟨rfl, Keep.refl _ _, fun W2 ho => ?_⟩
    have h2 := hst s W W2 ho h
    have hsz2 : n + 1 < W2.heap.size := by rw [ho.size]; exact hsz
    clear h ho hsz
    refine ok_block ?_
    refine ok_region rfl ?_
    repeat ((try subst X); (first | (first | apply zL | apply zH | apply zE); intro X hX | apply zl | apply zh | apply ze); try simp only [zU, reduceIte, Nat.reduceEqDiff, Nat.reduceAdd, reduceCtorEq, Q14])
    refine ⟨_, h2.k6.cell (j := 0) rfl, ?_⟩
    repeat ((try subst X); (first | (first | apply zL | apply zH | apply zE); intro X hX | apply zl | apply zh | apply ze); try simp only [zU, reduceIte, Nat.reduceEqDiff, Nat.reduceAdd, reduceCtorEq, Q14])
    refine ⟨by simp only [inI]; omega, ?_⟩
    repeat ((try subst X); (first | (first | apply zL | apply zH | apply zE); intro X hX | apply zl | apply zh | apply ze); try simp only [zU, reduceIte, Nat.reduceEqDiff, Nat.reduceAdd, reduceCtorEq, Q14])
    refine Runs.store h2.k6 Fx.zi3 rfl (by intro u hu; simp [Value.cells] at hu; subst hu; rfl) (by simp) (fun w13 hc13 hs13 hb13 => ?_)
    rw [splice_all _ _ (by simp [Value.cells])] at hb13
    simp only [Value.cells] at hb13
    repeat ((try subst X); (first | (first | apply zL | apply zH | apply zE); intro X hX | apply zl | apply zh | apply ze); try simp only [zU, reduceIte, Nat.reduceEqDiff, Nat.reduceAdd, reduceCtorEq, Q14])
    have hnn := hn
    obtain ⟨⟨m0, n0⟩, ⟨m1, n1⟩, ⟨m2, n2⟩, ⟨m6, n6⟩, nne⟩ := hnn
    refine ⟨Keep.chg hc13 hsz2 (by omega) (by omega), ⟨s.i + 1, s.own, s.snap⟩, rfl, ?_⟩
    refine ⟨h2.ext.chg_trans hc13 (fun k hk => by omega), h2.k0.chg hc13 (by omega), h2.k1.chg hc13 (by omega), h2.k2.chg hc13 (by omega), hb13, by simp only; omega, fun k hk => ⟨(h2.own k hk).1, Nat.lt_of_lt_of_le (h2.own k hk).2 hc13.size⟩, fun k hk => ?_⟩
    have h3 := h2.own k hk
    rw [hc13.block k h3.2 (by omega)]
    exact h2.snap k hk
  · -- the iterator
    intro J' Jx' W hm hJ h0 hy
    rw [hN] at hy ⊢
    refine Rets.mono (reached1_ok (J' := J') (Jx' := Jx') W (n + 1) w6.heap.size (w6.heap.size + 1) hb rb vs ps gs H (.slice A roots.length c) roots hl hW hrall hrl (fun s W hj => hJHF s W (hJ s W hj).1) hm h0 ?_) ?_
    · intro s W r hr hj
      have hlt : s.i < (collQ H roots).length := (List.getElem?_eq_some_iff.1 hr).1
      have hg : (collQ H roots).getD s.i 0 = r := by rw [List.getD_eq_getElem?_getD]; rw [show (collQ H roots)[s.i]? = some r from hr]; rfl
      have := hy s W hlt hj
      rw [hg] at this
      obtain ⟨fn, tmps, assign, body, h1, h2⟩ := this
      refine ⟨fn, tmps, assign, body, h1, RoundIn.mono h2 ?_⟩
      rintro e W' ⟨b, rfl, hb⟩
      refine ⟨b, rfl, ?_⟩
      rcases hb with ⟨rfl, s', rfl, hj'⟩ | hb
      · exact .inl ⟨rfl, hj'⟩
      · exact .inr hb
    · rintro v W' (⟨s, h1, h2⟩ | h)
      · exact .inl ⟨s, h1, h2⟩
      · exact .inr h
  · -- behind the range
    rintro s W hfin h hd
    rw [hN] at hd ⊢
    try simp only [zW, zU, reduceIte, Nat.reduceEqDiff, Nat.reduceAdd, reduceCtorEq, Q14]
    refine hM0 _ _ _ ?_; clear hM0 M0
    have hk6' := h.k6
    rw [hfin] at hk6'
    refine ok_seq (fun M hM => ok_region rfl ?_)
    repeat ((try subst X); (first | (first | apply zL | apply zH | apply zE); intro X hX | apply zl | apply zh | apply ze); try simp only [zU, reduceIte, Nat.reduceEqDiff, Nat.reduceAdd, reduceCtorEq, Q14])
    refine ⟨_, hk6'.cell (j := 0) rfl, ?_⟩
    repeat ((try subst X); (first | (first | apply zL | apply zH | apply zE); intro X hX | apply zl | apply zh | apply ze); try simp only [zU, reduceIte, Nat.reduceEqDiff, Nat.reduceAdd, reduceCtorEq, Q14])
    refine hM _ _ _ ?_; clear hM M
    have hc5 : Chg (· = n) W (W.putObj n (.deferred none)) := ⟨rfl, rfl, rfl, by simp, fun k hk hne => World.putObj_heap_other (fun e => hne e)⟩
    refine ok_ret ?_
    refine .inr ⟨_, rfl, hd, ?_⟩
    generalize W.putObj n (.deferred none) = w5 at hc5
    try simp only [zW, zU, reduceIte, Nat.reduceEqDiff, Nat.reduceAdd, reduceCtorEq, Q14]
    exact h.ext.chg_trans hc5 (fun k hk => by omega)
end Go.Proofs.YtldeokfhipjbfaaGreatDoor
/- words.add. -/
set_option linter.unusedVariables false
set_option linter.unusedSimpArgs false
namespace Go.Proofs.Vg
open Go Go.RowKit
def injB : List (Option Nat) → Bool
  | [] => true
  | none :: l => injB l
  | some s :: l => !l.contains (some s) && injB l
theorem injB_iff : ∀ {l : List (Option Nat)}, injB l = true → ∀ (i j s : Nat), l[i]? = some (some s) → l[j]? = some (some s) → i = j
  | [], _, i, j, s, hi, _ => by simp at hi
  | none :: l, h, i, j, s, hi, hj => by
    cases i with
    | zero => simp at hi
    | succ i =>
      cases j with
      | zero => simp at hj
      | succ j => rw [injB_iff (l := l) (by simpa [injB] using h) i j s (by simpa using hi) (by simpa using hj)]
  | some t :: l, h, i, j, s, hi, hj => by
    simp only [injB, Bool.and_eq_true, Bool.not_eq_true'] at h
    have hc : some t ∉ l := by
      intro hm
      have := List.contains_iff_mem.2 hm
      rw [h.1] at this; cases this
    cases i with
    | zero =>
      cases j with
      | zero => rfl
      | succ j =>
        simp at hi hj; subst hi
        exact absurd (List.mem_of_getElem? hj) hc
    | succ i =>
      cases j with
      | zero =>
        simp at hi hj; subst hj
        exact absurd (List.mem_of_getElem? hi) hc
      | succ j => rw [injB_iff (l := l) h.2 i j s (by simpa using hi) (by simpa using hj)]
/-- No slot of a list is known beforehand. -/
def freeB (l : List (Option Nat)) (ks : List Nat) : Bool := l.all fun o => match o with | some s => !ks.contains s | none => true
theorem freeB_iff {l : List (Option Nat)} {E : Env} (h : freeB l (E.map Prod.fst) = true) (i s : Nat) (hi : l[i]? = some (some s)) : E.get s = none := by
  have h1 := List.all_eq_true.1 h _ (List.mem_of_getElem? hi)
  simp only [Bool.not_eq_true'] at h1
  have h2 : s ∉ E.map Prod.fst := by
    intro hm
    have := List.contains_iff_mem.2 hm
    rw [h1] at this; cases this
  clear h h1 hi
  induction E with
  | nil => rfl
  | cons p E ih =>
    obtain ⟨k, v⟩ := p
    simp only [List.map_cons, List.mem_cons, not_or] at h2
    simp only [Env.get]
    rw [if_neg h2.1]
    exact ih h2.2
end Go.Proofs.Vg
namespace Go.Proofs.YtldeokfhipjbfaaGreatDoor
open Go Go.Proofs.Vg Go.RowKit

-- -- function 28
set_option maxHeartbeats 4000000 in
set_option maxRecDepth 8000 in
theorem wadd_ok (w : World) (bz : Nat) (vh vr : Value) (l : List Wd) (x y : Wd) (hz : Blk w bz [vh, vr] 32) (hvh : w.ownsRow 0 38 3 vh l.length (oflat l)) (hvr : w.ownsRow 0 75 3 vr l.length (oflat l))
    (d1 : vh.ownBlock ≠ some bz) (d2 : vr.ownBlock ≠ some bz) (d3 : ∀ k, vh.ownBlock = some k → vr.ownBlock ≠ some k) (hll : l.length ≤ 1048576) :
    Rets Tryz.prog 28 [ptrOf bz, wv x, wv y] w (fun v w' => Chg (fun k => vh.ownBlock = some k ∨ vr.ownBlock = some k ∨ k = bz) w w' ∧ ∃ vh' vr', Blk w' bz [vh', vr'] 32 ∧ w'.ownsRow 0 38 3 vh' (l.length + 1) (oflat l ++ x.row) ∧ w'.ownsRow 0 75 3 vr' (l.length + 1) (oflat l ++ y.row) ∧ Own2 w vh vh' ∧ Own2 w vr vr') := by
  refine rets_of_ok Tryz.func28 rfl rfl ?_
  refine ok_seq (fun M hM => ok_region rfl ?_)
  repeat ((try subst X); (first | (first | apply zL | apply zH | apply zE); intro X hX | apply zl | apply zh | apply ze); try simp only [zU, reduceIte, Nat.reduceEqDiff, Nat.reduceAdd, reduceCtorEq, Q28])
  refine Runs.box (fun w1 he1 hz1 hb1 => ?_)
  generalize hB1 : w.heap.size = B1 at hz1 hb1
  simp only [Value.cells] at hb1
  repeat ((try subst X); (first | (first | apply zL | apply zH | apply zE); intro X hX | apply zl | apply zh | apply ze); try simp only [zU, reduceIte, Nat.reduceEqDiff, Nat.reduceAdd, reduceCtorEq, Q28])
  refine Runs.box (fun w2 he2 hz2 hb2 => ?_)
  generalize hB2 : w1.heap.size = B2 at hz2 hb2
  simp only [Value.cells] at hb2
  repeat ((try subst X); (first | (first | apply zL | apply zH | apply zE); intro X hX | apply zl | apply zh | apply ze); try simp only [zU, reduceIte, Nat.reduceEqDiff, Nat.reduceAdd, reduceCtorEq, Q28])
  refine hM _ _ _ ?_; clear hM M
  have hb12 := hb1.ext he2
  have he02 := he1.trans he2
  have hs02 := he02.size
  have hbl := hz.lt
  have hvh2 := owns_chg' hvh (he02.chg (fun _ => False)) (fun _ _ => id)
  have hvr2 := owns_chg' hvr (he02.chg (fun _ => False)) (fun _ _ => id)
  obtain ⟨one1, cel1, -⟩ := owns_one hvh
  obtain ⟨one2, cel2, -⟩ := owns_one hvr
  have hlt1 : ∀ k, vh.ownBlock = some k → k < w.heap.size := fun k hk => (hvh.lt k hk).2
  have hlt2 : ∀ k, vr.ownBlock = some k → k < w.heap.size := fun k hk => (hvr.lt k hk).2
  obtain ⟨A, hA⟩ : ∃ A : AP, A = ⟨w2, bz, vh, vr, x.row, y.row, oflat l, oflat l, l.length, 38, 75, 32,
    [some 6, some 7, some 8, some 9, some 10, some 11, some 12, some 13, some 14, some 15, some 16, some 17, some 18, some 19, some 20, some 21, some 22, some 23, none, some 24, some 25, none],
    [some (ptrOf bz), some (ptrOf bz), some (ptrOf bz), some (ptrOf bz), some (.pointer (some ⟨bz, 0, none⟩)), some vh, some (wv x), none, none, some (ptrOf bz), some (ptrOf bz), some (.pointer (some ⟨bz, 1, none⟩)), some vr, some (wv y), none, none, some (ptrOf bz), some (.pointer (some ⟨bz, 0, none⟩)), none, some (ptrOf bz), some (.pointer (some ⟨bz, 1, none⟩)), none],
    [(0, ptrOf bz), (4, ptrOf B1), (5, ptrOf B2)], 7, 8, 14, 15, 18, 21, 13, 14, 20, 21⟩ := ⟨_, rfl⟩
  have ok : AOk A := by
    subst hA
    refine ⟨injB_iff rfl, freeB_iff rfl, rfl, rfl, rfl, rfl, fun v => ⟨by simp, by simp, by simp, by simp⟩, fun s => by simp, fun s => by simp, by simp, by simp, d1, d2, d3, by simp only; omega, fun k hk => by have := hlt1 k hk; simp only; omega, fun k hk => by have := hlt2 k hk; simp only; omega⟩
  refine ok_anyC (JA A) Fx.mixed (by decide) (by decide +kernel) A.E0 (by subst hA; simp [sub, Env.get]) ?_ ?_ ?_
  · subst hA
    refine ⟨fun s v h => h, fun i s v _ _ h => (by cases h), (Ext.drew _).chg _, fun h => (by cases h), fun h => (by cases h), fun _ => owns_chg' hvh2 ((Ext.drew _).chg (fun _ => False)) (fun _ _ => id), fun _ => owns_chg' hvr2 ((Ext.drew _).chg (fun _ => False)) (fun _ _ => id), fun h => (by cases h), fun h => (by cases h), vh, vr, (hz.ext he02).ext (Ext.drew _), fun _ => rfl, fun _ => rfl⟩
  · intro L K w' j o hJ hcl ho hLj hn
    have hj : j < 22 := by have := (List.getElem?_eq_some_iff.1 ho).1; simpa using this
    have hjj : j = 0 ∨ j = 1 ∨ j = 2 ∨ j = 3 ∨ j = 4 ∨ j = 5 ∨ j = 6 ∨ j = 7 ∨ j = 8 ∨ j = 9 ∨ j = 10 ∨ j = 11 ∨ j = 12 ∨ j = 13 ∨ j = 14 ∨ j = 15 ∨ j = 16 ∨ j = 17 ∨ j = 18 ∨ j = 19 ∨ j = 20 ∨ j = 21 := by omega
    have hsz := hJ.chg.size
    subst hA
    rcases hjj with rfl | rfl | rfl | rfl | rfl | rfl | rfl | rfl | rfl | rfl | rfl | rfl | rfl | rfl | rfl | rfl | rfl | rfl | rfl | rfl | rfl | rfl <;> simp only [List.getElem?_cons_zero, List.getElem?_cons_succ, Option.some.injEq] at ho <;> subst ho
    · simp only [wpL, opF, ev, hJ.env 0 _ rfl]
      exact hJ.simp1 ok rfl rfl
    · simp only [wpL, opF, ev, hJ.env 0 _ rfl]
      exact hJ.simp1 ok rfl rfl
    · simp only [wpL, opF, ev, hJ.env 0 _ rfl]
      exact hJ.simp1 ok rfl rfl
    · have f := hJ.simple 2 8 _ rfl rfl (hn 2 (by simp [needs, Region.binds]))
      simp only [wpL, opF, ev, f]
      exact hJ.simp1 ok rfl rfl
    · have f := hJ.simple 3 9 _ rfl rfl (hn 3 (by simp [needs, Region.binds]))
      simp only [wpL, opF, ev, f, Fx.fo32_0, add_at]
      exact hJ.simp1 ok rfl rfl
    · have f := hJ.simple 4 10 _ rfl rfl (hn 4 (by simp [needs, Region.binds]))
      have c5 : L 18 = false := hcl.no (j := 18) (k := 5) rfl (by simp [needs, Region.binds]) hLj
      have c6 : L 21 = false := hcl.no (j := 21) (k := 5) rfl (by simp [needs, Region.binds]) hLj
      obtain ⟨u1, u2, q1, q2, q3⟩ := hJ.z
      cases q2 c5; cases q3 c6
      simp only [wpL, opF, ev, f, Fx.ag29]
      exact ⟨_, q1.cell (j := 0) rfl, hJ.simp1 ok rfl rfl⟩
    · simp only [wpL, opF, ev, hJ.env 4 _ rfl, Fx.ag38]
      have hbk := hb12.chg hJ.chg (fun e => by rcases e with e | e | e <;> first | (have := hlt1 _ e; omega) | (have := hlt2 _ e; omega) | (simp only at e; omega))
      exact ⟨x.row, rfl, hbk.cells (o := 0) (fun j u hj => by simpa using hj), hJ.simp1 ok rfl rfl⟩
    · have f := hJ.simple 6 12 _ rfl rfl (hn 6 (by simp [needs, Region.binds]))
      simp only [wpL, opF, evp, ev, f]
      refine Runs.lit (cs := x.row) Fx.un29 Fx.zi38 (by decide) (by kernel_rfl) (by decide) (fun w8 he8 hs8 hb8 => ?_)
      exact (hJ.ext ok he8).lit1 ok (hcl.no (j := 8) (k := 7) rfl (by simp [needs, Region.binds]) hLj) (by simp only at hsz ⊢; omega) hb8
    · have f := hJ.simple 5 11 _ rfl rfl (hn 5 (by simp [needs, Region.binds]))
      obtain ⟨B, q1, q2, q3⟩ := hJ.l1 (hn 7 (by simp [needs, Region.binds])) hLj
      simp only at q1 q3
      simp only [wpL, opF, evs, ev, f, q1]
      refine Runs.append1' Fx.un29 Fx.zi38 rfl (by decide) (hJ.a1n hLj) q3 rfl (by intro u hu; simp [Wd.row] at hu; rcases hu with rfl | rfl | rfl <;> rfl) (by simp [maxLen]; omega) (by simp only; omega) (by omega) (fun v1 w9 hown9 hg9 hblk => ?_)
      exact hJ.app1 ok hLj (hcl.no (j := 18) (k := 8) rfl (by simp [needs, Region.binds]) hLj) (grown_chg hg9) hown9 hblk
    · simp only [wpL, opF, ev, hJ.env 0 _ rfl]
      exact hJ.simp1 ok rfl rfl
    · have f := hJ.simple 9 15 _ rfl rfl (hn 9 (by simp [needs, Region.binds]))
      simp only [wpL, opF, ev, f]
      exact hJ.simp1 ok rfl rfl
    · have f := hJ.simple 10 16 _ rfl rfl (hn 10 (by simp [needs, Region.binds]))
      simp only [wpL, opF, ev, f, Fx.fo32_1, add_at]
      exact hJ.simp1 ok rfl rfl
    · have f := hJ.simple 11 17 _ rfl rfl (hn 11 (by simp [needs, Region.binds]))
      have c5 : L 18 = false := hcl.no (j := 18) (k := 12) rfl (by simp [needs, Region.binds]) hLj
      have c6 : L 21 = false := hcl.no (j := 21) (k := 12) rfl (by simp [needs, Region.binds]) hLj
      obtain ⟨u1, u2, q1, q2, q3⟩ := hJ.z
      cases q2 c5; cases q3 c6
      simp only [wpL, opF, ev, f, Fx.ag30]
      exact ⟨_, q1.cell (j := 1) rfl, hJ.simp1 ok rfl rfl⟩
    · simp only [wpL, opF, ev, hJ.env 5 _ rfl, Fx.ag75]
      have hbk := hb2.chg hJ.chg (fun e => by rcases e with e | e | e <;> first | (have := hlt1 _ e; omega) | (have := hlt2 _ e; omega) | (simp only at e; omega))
      exact ⟨y.row, rfl, hbk.cells (o := 0) (fun j u hj => by simpa using hj), hJ.simp1 ok rfl rfl⟩
    · have f := hJ.simple 13 19 _ rfl rfl (hn 13 (by simp [needs, Region.binds]))
      simp only [wpL, opF, evp, ev, f]
      refine Runs.lit (cs := y.row) Fx.un30 Fx.zi75 (by decide) (by kernel_rfl) (by decide) (fun w8 he8 hs8 hb8 => ?_)
      exact (hJ.ext ok he8).lit2 ok (hcl.no (j := 15) (k := 14) rfl (by simp [needs, Region.binds]) hLj) (by simp only at hsz ⊢; omega) hb8
    · have f := hJ.simple 12 18 _ rfl rfl (hn 12 (by simp [needs, Region.binds]))
      obtain ⟨B, q1, q2, q3⟩ := hJ.l2 (hn 14 (by simp [needs, Region.binds])) hLj
      simp only at q1 q3
      simp only [wpL, opF, evs, ev, f, q1]
      refine Runs.append1' Fx.un30 Fx.zi75 rfl (by decide) (hJ.a2n hLj) q3 rfl (by intro u hu; simp [Wd.row] at hu; rcases hu with rfl | rfl | rfl <;> rfl) (by simp [maxLen]; omega) (by simp only; omega) (by omega) (fun v1 w9 hown9 hg9 hblk => ?_)
      exact hJ.app2 ok hLj (hcl.no (j := 21) (k := 15) rfl (by simp [needs, Region.binds]) hLj) (grown_chg hg9) hown9 hblk
    · have f := hJ.simple 0 6 _ rfl rfl (hn 0 (by simp [needs, Region.binds]))
      simp only [wpL, opF, ev, f]
      exact hJ.simp1 ok rfl rfl
    · have f := hJ.simple 16 22 _ rfl rfl (hn 16 (by simp [needs, Region.binds]))
      simp only [wpL, opF, ev, f, Fx.fo32_0, add_at]
      exact hJ.simp1 ok rfl rfl
    · have f := hJ.simple 17 23 _ rfl rfl (hn 17 (by simp [needs, Region.binds]))
      obtain ⟨v1, q1, q2, q3, q4⟩ := hJ.a1 (hn 8 (by simp [needs, Region.binds]))
      obtain ⟨o1, o2, -⟩ := owns_one q2
      obtain ⟨u1, u2, z1, z2, z3⟩ := hJ.z
      simp only at q1 z1
      simp only [wpL, opF, ev, f, q1]
      refine Runs.store z1 Fx.zi29 (by rw [o2]; rfl) (by rw [o2]; intro u hu; simp at hu; subst hu; exact o1) (by simp) (fun w9 hc9 hs9 hb9 => ?_)
      exact hJ.st1 ok (hn 8 (by simp [needs, Region.binds])) q1 hc9 z1 (by simpa [splice, o2] using hb9)
    · have f := hJ.simple 1 7 _ rfl rfl (hn 1 (by simp [needs, Region.binds]))
      simp only [wpL, opF, ev, f]
      exact hJ.simp1 ok rfl rfl
    · have f := hJ.simple 19 24 _ rfl rfl (hn 19 (by simp [needs, Region.binds]))
      simp only [wpL, opF, ev, f, Fx.fo32_1, add_at]
      exact hJ.simp1 ok rfl rfl
    · have f := hJ.simple 20 25 _ rfl rfl (hn 20 (by simp [needs, Region.binds]))
      obtain ⟨v1, q1, q2, q3, q4⟩ := hJ.a2 (hn 15 (by simp [needs, Region.binds]))
      obtain ⟨o1, o2, -⟩ := owns_one q2
      obtain ⟨u1, u2, z1, z2, z3⟩ := hJ.z
      simp only at q1 z1
      simp only [wpL, opF, ev, f, q1]
      refine Runs.store z1 Fx.zi30 (by rw [o2]; rfl) (by rw [o2]; intro u hu; simp at hu; subst hu; exact o1) (by simp) (fun w9 hc9 hs9 hb9 => ?_)
      exact hJ.st2 ok (hn 15 (by simp [needs, Region.binds])) q1 hc9 z1 (by simpa [splice, o2] using hb9)
  intro K w3 hJ
  obtain ⟨v, v', q1, q2, q3, q4, q5⟩ := hJ.fin (by subst hA; rfl) (by subst hA; rfl) (by subst hA; rfl) (by subst hA; rfl)
  have hc := hJ.chg
  subst hA
  try simp only [zW, zU, reduceIte, Nat.reduceEqDiff, Nat.reduceAdd, reduceCtorEq, Q28]
  have o2 : ∀ {a b : Value}, Own2 w2 a b → Own2 w a b := fun h => h.imp id (fun ⟨k, e, hk⟩ => ⟨k, e, by omega⟩)
  exact ⟨(he02.chg _).trans hc, v, v', q1, q2, q3, o2 q4, o2 q5⟩
end Go.Proofs.YtldeokfhipjbfaaGreatDoor
/- words.pick.  -/
set_option linter.unusedVariables false
set_option linter.unusedSimpArgs false
namespace Go.Proofs.YtldeokfhipjbfaaGreatDoor
open Go Go.Proofs.Vg Go.RowKit

def pickI (n : Nat) (i : Int) : Nat := ((i.tmod n + n).tmod n).toNat
def pickF (l : List Wd) (of : List Int) : List Wd := if l.length = 0 then [] else of.map (fun i => l.getD (pickI l.length i) ⟨0, 0, 0⟩)
theorem pickI_lt {n : Nat} (hn : 0 < n) (i : Int) : pickI n i < n := by
  unfold pickI
  have h1 := Int.tmod_lt_of_pos i (b := (n : Int)) (by omega)
  have h3 := Int.lt_tmod_of_pos i (b := (n : Int)) (by omega)
  have h2 := Int.tmod_lt_of_pos (i.tmod n + n) (b := (n : Int)) (by omega)
  omega
theorem pickF_snoc (l : List Wd) (of : List Int) (i : Int) (h : l.length ≠ 0) : pickF l (of ++ [i]) = pickF l of ++ [l.getD (pickI l.length i) ⟨0, 0, 0⟩] := by
  unfold pickF
  rw [if_neg h, if_neg h, List.map_append]; rfl

theorem pickI_eq {n : Nat} (hn : 0 < n) (i : Int) : (i.tmod n + n).tmod n = ((pickI n i : Nat) : Int) := by
  unfold pickI
  have h3 := Int.lt_tmod_of_pos i (b := (n : Int)) (by omega)
  have h4 : 0 ≤ (i.tmod n + n).tmod n := Int.tmod_nonneg _ (by omega)
  omega
theorem Runs.rem {P : Program} {w : World} {t : TypeId} {x y : Operand} {nx : Value → World → Prop} {a b : Int} (hb : b ≠ 0) (h : nx (.int .i64 (a.tmod b)) w) : Runs P (do eqGuard .rem t x y (.int .i64 a) (.int .i64 b); binOp .rem t (.int .i64 a) (.int .i64 b)) w nx := by
  refine ⟨_, w, ?_, h⟩
  simp [eqGuard, binOp, Op.intDiv, hb, Result.andThen]

-- -- function 11
set_option maxHeartbeats 4000000 in
set_option maxRecDepth 8000 in
theorem pick_ok (w : World) (lh lr ov : Value) (l : List Wd) (of : List Int) (hlh : SlW w lh l) (hlr : SlW w lr l) (hov : SlI w ov of) (hll : l.length ≤ 1048576) (hol : of.length ≤ 1048576) :
    Rets Tryz.prog 11 [.agg #[lh, lr], ov] w (fun v w' => Ext w w' ∧ ∃ ph pr, v = .agg #[ph, pr] ∧ w'.ownsRow 0 38 3 ph (pickF l of).length (oflat (pickF l of)) ∧ w'.ownsRow 0 75 3 pr (pickF l of).length (oflat (pickF l of)) ∧
      (∀ k, ph.ownBlock = some k → w.heap.size ≤ k ∧ pr.ownBlock ≠ some k) ∧ (∀ k, pr.ownBlock = some k → w.heap.size ≤ k)) := by
  obtain ⟨Ah, ch, rfl, -, hch⟩ := id hlh
  obtain ⟨Ar, cr, rfl, -, hcr⟩ := id hlr
  obtain ⟨Ao, co, rfl, hlo, hco⟩ := id hov
  rw [wd_len] at hlh hlr ⊢
  rw [ints_length] at hov ⊢
  refine rets_of_okC Tryz.func11 rfl rfl ?_
  refine ok_seq (fun M hM => ok_region rfl ?_)
  repeat ((try subst X); (first | (first | apply zL | apply zH | apply zE); intro X hX | apply zl | apply zh | apply ze); try simp only [zU, reduceIte, Nat.reduceEqDiff, Nat.reduceAdd, reduceCtorEq, Q11])
  refine Runs.box (fun w1 he1 hz1 hb1 => ?_)
  generalize hB1 : w.heap.size = B1 at hz1 hb1
  simp only [Value.cells] at hb1
  repeat ((try subst X); (first | (first | apply zL | apply zH | apply zE); intro X hX | apply zl | apply zh | apply ze); try simp only [zU, reduceIte, Nat.reduceEqDiff, Nat.reduceAdd, reduceCtorEq, Q11])
  refine Runs.alloc Fx.zi32 (fun w2 he2 hz2 hb2 => ?_)
  generalize hB2 : w1.heap.size = B2 at hz2 hb2
  simp only [Value.cells] at hb2
  repeat ((try subst X); (first | (first | apply zL | apply zH | apply zE); intro X hX | apply zl | apply zh | apply ze); try simp only [zU, reduceIte, Nat.reduceEqDiff, Nat.reduceAdd, reduceCtorEq, Q11])
  refine hM _ _ _ ?_; clear hM M
  refine ok_seq (fun M hM => ok_region rfl ?_)
  repeat ((try subst X); (first | (first | apply zL | apply zH | apply zE); intro X hX | apply zl | apply zh | apply ze); try simp only [zU, reduceIte, Nat.reduceEqDiff, Nat.reduceAdd, reduceCtorEq, Q11])
  refine Runs.alloc Fx.zi32 (fun w3 he3 hz3 hb3 => ?_)
  generalize hB3 : w2.heap.size = B3 at hz3 hb3
  simp only [Value.cells] at hb3
  repeat ((try subst X); (first | (first | apply zL | apply zH | apply zE); intro X hX | apply zl | apply zh | apply ze); try simp only [zU, reduceIte, Nat.reduceEqDiff, Nat.reduceAdd, reduceCtorEq, Q11])
  refine hM _ _ _ ?_; clear hM M
  have hb13 := (hb1.ext he2).ext he3
  have hb23 := hb2.ext he3
  have he03 := (he1.trans he2).trans he3
  refine ok_seq (fun M0 hM0 => ?_)
  refine ok_seq (fun M hM => ok_region rfl ?_); repeat ((try subst X); (first | (first | apply zL | apply zH | apply zE); intro X hX | apply zl | apply zh | apply ze); try simp only [zU, reduceIte, Nat.reduceEqDiff, Nat.reduceAdd, reduceCtorEq, Q11])
  refine hM _ _ _ ?_; clear hM M
  refine ok_block ?_
  refine ok_loop (S := Nat) (fun i => [(2, ptrOf B1), (4, ptrOf B2), (5, ptrOf B3), (10, .slice Ao of.length co), (11, .int .i64 (of.length : Int)), (12, .int .i64 (i : Int))]) (fun i w4 => i ≤ of.length ∧ Ext w w4 ∧ Blk w4 B1 [.slice Ah l.length ch, .slice Ar l.length cr] 32 ∧ Blk w4 B2 [.slice none 0 0, .slice none 0 0] 32 ∧
    ∃ ph pr, Blk w4 B3 [ph, pr] 32 ∧ w4.ownsRow 0 38 3 ph (pickF l (of.take i)).length (oflat (pickF l (of.take i))) ∧ w4.ownsRow 0 75 3 pr (pickF l (of.take i)).length (oflat (pickF l (of.take i))) ∧
      (∀ k, ph.ownBlock = some k → B3 < k ∧ pr.ownBlock ≠ some k) ∧ (∀ k, pr.ownBlock = some k → B3 < k)) (fun i => of.length - i) 0 ?_ ?_ ?_
  · simp [sub, Env.get]
  · refine ⟨Nat.zero_le _, he03, hb13, hb23, .slice none 0 0, .slice none 0 0, hb3, ?_, ?_, fun k hk => by simp [Value.ownBlock] at hk, fun k hk => by simp [Value.ownBlock] at hk⟩
    · have : pickF l (of.take 0) = [] := by unfold pickF; simp
      rw [this]; exact World.ownsRow_nil _ _ _ _
    · have : pickF l (of.take 0) = [] := by unfold pickF; simp
      rw [this]; exact World.ownsRow_nil _ _ _ _
  rintro i w4 ⟨hi, he4, hb14, hb24, ph, pr, hb34, hph, hpr, hd1, hd2⟩
  refine ok_seq (fun M hM => ok_region rfl ?_); repeat ((try subst X); (first | (first | apply zL | apply zH | apply zE); intro X hX | apply zl | apply zh | apply ze); try simp only [zU, reduceIte, Nat.reduceEqDiff, Nat.reduceAdd, reduceCtorEq, Q11])
  refine hM _ _ _ ?_; clear hM M
  refine ok_seq (fun M1 hM1 => ?_)
  refine ok_if rfl (fun hc => ok_skip ?_) (fun hc => ok_exit ?_)
  rotate_left
  · try simp only [zW, zU, reduceIte, Nat.reduceEqDiff, Nat.reduceAdd, reduceCtorEq, Q11]
    refine hM0 _ _ _ ?_; clear hM0 M0 hM1 M1
    have hia : i = of.length := by omega
    subst hia
    rw [List.take_of_length_le (Nat.le_refl _)] at hph hpr
    refine ok_seq (fun M hM => ok_region rfl ?_)
    repeat ((try subst X); (first | (first | apply zL | apply zH | apply zE); intro X hX | apply zl | apply zh | apply ze); try simp only [zU, reduceIte, Nat.reduceEqDiff, Nat.reduceAdd, reduceCtorEq, Q11])
    refine ⟨[ph, pr], rfl, hb34.cells (o := 0) (fun j u hj => by simpa using hj), ?_⟩
    repeat ((try subst X); (first | (first | apply zL | apply zH | apply zE); intro X hX | apply zl | apply zh | apply ze); try simp only [zU, reduceIte, Nat.reduceEqDiff, Nat.reduceAdd, reduceCtorEq, Q11])
    obtain ⟨one1, cel1, -⟩ := owns_one hph
    obtain ⟨one2, cel2, -⟩ := owns_one hpr
    refine Runs.store hb24 Fx.zi32 rfl (by intro u hu; simp [Value.cells] at hu; rcases hu with rfl | rfl; exact one1; exact one2) (by simp) (fun w11 hc11 hs11 hb11 => ?_)
    rw [splice_all _ _ (by simp [Value.cells])] at hb11
    simp only [Value.cells] at hb11
    repeat ((try subst X); (first | (first | apply zL | apply zH | apply zE); intro X hX | apply zl | apply zh | apply ze); try simp only [zU, reduceIte, Nat.reduceEqDiff, Nat.reduceAdd, reduceCtorEq, Q11])
    refine hM _ _ _ ?_; clear hM M
    refine ok_ret ?_
    try simp only [zW, zU, reduceIte, Nat.reduceEqDiff, Nat.reduceAdd, reduceCtorEq, Q11]
    refine ⟨_, rfl, hb11.cells (o := 0) (row := [ph, pr]) (fun j u hj => by simpa using hj), he4.chg_trans hc11 (fun k hk => by omega), ph, pr, rfl, owns_chg' hph hc11 (fun k hk e => by have := (hd1 k hk).1; omega), owns_chg' hpr hc11 (fun k hk e => by have := hd2 k hk; omega), fun k hk => ⟨by have := (hd1 k hk).1; omega, (hd1 k hk).2⟩, fun k hk => by have := hd2 k hk; omega⟩
  · try simp only [zW, zU, reduceIte, Nat.reduceEqDiff, Nat.reduceAdd, reduceCtorEq, Q11]
    refine hM1 _ _ _ ?_; clear hM1 M1
    have hil : i < of.length := by omega
    have hxi : of[i]? = some of[i] := List.getElem?_eq_getElem hil
    obtain ⟨b, o, rfl, hcc⟩ := hco i [.int .i64 of[i]] (by simp [ints, hxi])
    have hcc0 := hcc 0 _ rfl
    refine ok_seq (fun M1 hM1 => ok_block ?_)
    refine ok_seq (fun M hM => ok_region rfl ?_)
    repeat ((try subst X); (first | (first | apply zL | apply zH | apply zE); intro X hX | apply zl | apply zh | apply ze); try simp only [zU, reduceIte, Nat.reduceEqDiff, Nat.reduceAdd, reduceCtorEq, Q11])
    refine ⟨by omega, by omega, ?_⟩
    repeat ((try subst X); (first | (first | apply zL | apply zH | apply zE); intro X hX | apply zl | apply zh | apply ze); try simp only [zU, reduceIte, Nat.reduceEqDiff, Nat.reduceAdd, reduceCtorEq, Q11])
    refine ⟨_, he4.cell (by simpa [add_at] using hcc0), ?_⟩
    repeat ((try subst X); (first | (first | apply zL | apply zH | apply zE); intro X hX | apply zl | apply zh | apply ze); try simp only [zU, reduceIte, Nat.reduceEqDiff, Nat.reduceAdd, reduceCtorEq, Q11])
    refine hM _ _ _ ?_; clear hM M
    refine ok_seq (fun M hM => ok_region rfl ?_)
    repeat ((try subst X); (first | (first | apply zL | apply zH | apply zE); intro X hX | apply zl | apply zh | apply ze); try simp only [zU, reduceIte, Nat.reduceEqDiff, Nat.reduceAdd, reduceCtorEq, Q11])
    refine ⟨_, hb14.cell (j := 0) rfl, ?_⟩
    repeat ((try subst X); (first | (first | apply zL | apply zH | apply zE); intro X hX | apply zl | apply zh | apply ze); try simp only [zU, reduceIte, Nat.reduceEqDiff, Nat.reduceAdd, reduceCtorEq, Q11])
    refine hM _ _ _ ?_; clear hM M
    refine ok_seq (fun M hM => ok_region rfl ?_)
    repeat ((try subst X); (first | (first | apply zL | apply zH | apply zE); intro X hX | apply zl | apply zh | apply ze); try simp only [zU, reduceIte, Nat.reduceEqDiff, Nat.reduceAdd, reduceCtorEq, Q11])
    refine hM _ _ _ ?_; clear hM M
    refine ok_if rfl (fun hn0 => ?_) (fun hn0 => ok_skip ?_)
    rotate_left
    · try simp only [zW, zU, reduceIte, Nat.reduceEqDiff, Nat.reduceAdd, reduceCtorEq, Q11]
      refine hM1 _ _ _ ?_; clear hM1 M1
      have hl0 : l.length = 0 := by omega
      refine ok_region rfl ?_
      repeat ((try subst X); (first | (first | apply zL | apply zH | apply zE); intro X hX | apply zl | apply zh | apply ze); try simp only [zU, reduceIte, Nat.reduceEqDiff, Nat.reduceAdd, reduceCtorEq, Q11])
      refine ⟨by simp only [inI]; omega, ?_⟩
      repeat ((try subst X); (first | (first | apply zL | apply zH | apply zE); intro X hX | apply zl | apply zh | apply ze); try simp only [zU, reduceIte, Nat.reduceEqDiff, Nat.reduceAdd, reduceCtorEq, Q11])
      have hp1 : pickF l (of.take i) = [] := by unfold pickF; rw [if_pos hl0]
      have hp2 : pickF l (of.take (i + 1)) = [] := by unfold pickF; rw [if_pos hl0]
      rw [hp1] at hph hpr
      refine ⟨i + 1, by simp [sub, Env.get], ⟨by omega, he4, hb14, hb24, ph, pr, hb34, by rw [hp2]; exact hph, by rw [hp2]; exact hpr, hd1, hd2⟩, by omega⟩
    have hn0' : 0 < l.length := by omega
    refine ok_seq (fun M hM => ok_region rfl ?_)
    repeat ((try subst X); (first | (first | apply zL | apply zH | apply zE); intro X hX | apply zl | apply zh | apply ze); try simp only [zU, reduceIte, Nat.reduceEqDiff, Nat.reduceAdd, reduceCtorEq, Q11])
    refine Runs.rem (by omega) ?_
    repeat ((try subst X); (first | (first | apply zL | apply zH | apply zE); intro X hX | apply zl | apply zh | apply ze); try simp only [zU, reduceIte, Nat.reduceEqDiff, Nat.reduceAdd, reduceCtorEq, Q11])
    have hm1 := Int.tmod_lt_of_pos of[i] (b := (l.length : Int)) (by omega)
    have hm2 := Int.lt_tmod_of_pos of[i] (b := (l.length : Int)) (by omega)
    refine ⟨by simp only [inI]; omega, ?_⟩
    repeat ((try subst X); (first | (first | apply zL | apply zH | apply zE); intro X hX | apply zl | apply zh | apply ze); try simp only [zU, reduceIte, Nat.reduceEqDiff, Nat.reduceAdd, reduceCtorEq, Q11])
    refine Runs.rem (by omega) ?_
    rw [pickI_eq hn0']
    repeat ((try subst X); (first | (first | apply zL | apply zH | apply zE); intro X hX | apply zl | apply zh | apply ze); try simp only [zU, reduceIte, Nat.reduceEqDiff, Nat.reduceAdd, reduceCtorEq, Q11])
    refine hM _ _ _ ?_; clear hM M
    have hix := pickI_lt hn0' of[i]
    generalize hixe : pickI l.length of[i] = ix at hix
    have hlx : l[ix]? = some l[ix] := List.getElem?_eq_getElem hix
    obtain ⟨bh, oh, rfl, hcx⟩ := hch ix l[ix].row (by simp [hlx])
    obtain ⟨br, or', rfl, hcy⟩ := hcr ix l[ix].row (by simp [hlx])
    have hcx4 := he4.cellsAt hcx
    have hcy4 := he4.cellsAt hcy
    have hszz := he4.size
    have hbhl : bh < w.heap.size := by have := World.block_lt_of_cell? w _ (hcx 0 _ rfl); simpa [add_at] using this
    have hbrl : br < w.heap.size := by have := World.block_lt_of_cell? w _ (hcy 0 _ rfl); simpa [add_at] using this
    obtain ⟨one1, cel1, -⟩ := owns_one hph
    obtain ⟨one2, cel2, -⟩ := owns_one hpr
    have hlt1 : ∀ k, ph.ownBlock = some k → k < w4.heap.size := fun k hk => (hph.lt k hk).2
    have hlt2 : ∀ k, pr.ownBlock = some k → k < w4.heap.size := fun k hk => (hpr.lt k hk).2
    have hb3l := hb34.lt
    have hpl : (pickF l (of.take i)).length = i := by unfold pickF; rw [if_neg (by omega), List.length_map, List.length_take]; omega
    obtain ⟨A, hA⟩ : ∃ A : AP, A = ⟨w4, B3, ph, pr, l[ix].row, l[ix].row, oflat (pickF l (of.take i)), oflat (pickF l (of.take i)), (pickF l (of.take i)).length, 38, 75, 32,
      [some 28, some 29, some 30, some 31, some 32, some 33, some 34, some 35, some 36, some 37, some 38, some 39, some 40, some 41, some 42, some 43, some 44, some 45, some 46, none, some 47, none],
      [some (.pointer (some ⟨B3, 0, none⟩)), some ph, some (.pointer (some ⟨B1, 0, none⟩)), some (.slice (some ⟨bh, oh, none⟩) l.length ch), some (.int .i64 (ix : Int)), some (.pointer (some ⟨bh, oh + ix * 3, none⟩)), some (wv l[ix]), none, none, some (.pointer (some ⟨B3, 1, none⟩)), some pr, some (.pointer (some ⟨B1, 1, none⟩)), some (.slice (some ⟨br, or', none⟩) l.length cr), some (.int .i64 (ix : Int)), some (.pointer (some ⟨br, or' + ix * 3, none⟩)), some (wv l[ix]), none, none, some (.pointer (some ⟨B3, 0, none⟩)), none, some (.pointer (some ⟨B3, 1, none⟩)), none],
      [(2, ptrOf B1), (4, ptrOf B2), (5, ptrOf B3), (9, .int .i64 (ix : Int)), (10, .slice (some ⟨b, o, none⟩) of.length co), (11, .int .i64 (of.length : Int)), (12, .int .i64 (i : Int))], 7, 8, 16, 17, 19, 21, 35, 36, 44, 45⟩ := ⟨_, rfl⟩
    have ok : AOk A := by
      subst hA
      refine ⟨injB_iff rfl, freeB_iff rfl, rfl, rfl, rfl, rfl, fun v => ⟨by simp, by simp, by simp, by simp⟩, fun s => by simp, fun s => by simp, by simp, by simp, fun e => absurd (hd1 B3 e).1 (Nat.lt_irrefl _), fun e => absurd (hd2 B3 e) (Nat.lt_irrefl _), fun k hk => (hd1 k hk).2, by simp only; omega, fun k hk => by have := hlt1 k hk; simp only; omega, fun k hk => by have := hlt2 k hk; simp only; omega⟩
    refine ok_anyC (JA A) Fx.mixed (by decide) (by decide +kernel) A.E0 (by subst hA; simp [sub, Env.get]) ?_ ?_ ?_
    · subst hA
      refine ⟨fun s v h => h, fun i s v _ _ h => (by cases h), (Ext.drew _).chg _, fun h => (by cases h), fun h => (by cases h), fun _ => owns_chg' hph ((Ext.drew _).chg (fun _ => False)) (fun _ _ => id), fun _ => owns_chg' hpr ((Ext.drew _).chg (fun _ => False)) (fun _ _ => id), fun h => (by cases h), fun h => (by cases h), ph, pr, hb34.ext (Ext.drew _), fun _ => rfl, fun _ => rfl⟩
    · intro L K w' j o hJ hcl ho hLj hn
      have hj : j < 22 := by have := (List.getElem?_eq_some_iff.1 ho).1; simpa using this
      have hjj : j = 0 ∨ j = 1 ∨ j = 2 ∨ j = 3 ∨ j = 4 ∨ j = 5 ∨ j = 6 ∨ j = 7 ∨ j = 8 ∨ j = 9 ∨ j = 10 ∨ j = 11 ∨ j = 12 ∨ j = 13 ∨ j = 14 ∨ j = 15 ∨ j = 16 ∨ j = 17 ∨ j = 18 ∨ j = 19 ∨ j = 20 ∨ j = 21 := by omega
      have hsz := hJ.chg.size
      subst hA
      have low : ∀ k, k < B3 → ¬ (ph.ownBlock = some k ∨ pr.ownBlock = some k ∨ k = B3) := fun k hk e => by rcases e with e | e | e <;> first | (have := (hd1 _ e).1; omega) | (have := hd2 _ e; omega) | omega
      rcases hjj with rfl | rfl | rfl | rfl | rfl | rfl | rfl | rfl | rfl | rfl | rfl | rfl | rfl | rfl | rfl | rfl | rfl | rfl | rfl | rfl | rfl | rfl <;> simp only [List.getElem?_cons_zero, List.getElem?_cons_succ, Option.some.injEq] at ho <;> subst ho
      · simp only [wpL, opF, ev, hJ.env 5 _ rfl, Fx.fo32_0, add_at]
        exact hJ.simp1 ok rfl rfl
      · have f := hJ.simple 0 28 _ rfl rfl (hn 0 (by simp [needs, Region.binds]))
        have c5 : L 19 = false := hcl.no (j := 19) (k := 1) rfl (by simp [needs, Region.binds]) hLj
        have c6 : L 21 = false := hcl.no (j := 21) (k := 1) rfl (by simp [needs, Region.binds]) hLj
        obtain ⟨u1, u2, q1, q2, q3⟩ := hJ.z
        cases q2 c5; cases q3 c6
        simp only [wpL, opF, ev, f, Fx.ag29]
        exact ⟨_, q1.cell (j := 0) rfl, hJ.simp1 ok rfl rfl⟩
      · simp only [wpL, opF, ev, hJ.env 2 _ rfl, Fx.fo32_0, add_at]
        exact hJ.simp1 ok rfl rfl
      · have f := hJ.simple 2 30 _ rfl rfl (hn 2 (by simp [needs, Region.binds]))
        simp only [wpL, opF, ev, f, Fx.ag29]
        exact ⟨_, (hb14.chg hJ.chg (low B1 (by omega))).cell (j := 0) rfl, hJ.simp1 ok rfl rfl⟩
      · simp only [wpL, opF, ev, hJ.env 9 _ rfl]
        exact hJ.simp1 ok rfl rfl
      · have f := hJ.simple 3 31 _ rfl rfl (hn 3 (by simp [needs, Region.binds]))
        have f2 := hJ.simple 4 32 _ rfl rfl (hn 4 (by simp [needs, Region.binds]))
        simp only [wpL, opF, ev, f, f2, Fx.es29]
        refine ⟨by omega, by omega, ?_⟩
        simp only [add_at, Int.toNat_natCast]
        exact hJ.simp1 ok rfl rfl
      · have f := hJ.simple 5 33 _ rfl rfl (hn 5 (by simp [needs, Region.binds]))
        simp only [wpL, opF, ev, f, Fx.ag38]
        exact ⟨l[ix].row, rfl, hJ.chg.cellsAt hcx4 (low bh (by omega)), hJ.simp1 ok rfl rfl⟩
      · have f := hJ.simple 6 34 _ rfl rfl (hn 6 (by simp [needs, Region.binds]))
        simp only [wpL, opF, evp, ev, f]
        refine Runs.lit (cs := l[ix].row) Fx.un29 Fx.zi38 (by decide) (by kernel_rfl) (by decide) (fun w8 he8 hs8 hb8 => ?_)
        exact (hJ.ext ok he8).lit1 ok (hcl.no (j := 8) (k := 7) rfl (by simp [needs, Region.binds]) hLj) (by simp only at hsz ⊢; omega) hb8
      · have f := hJ.simple 1 29 _ rfl rfl (hn 1 (by simp [needs, Region.binds]))
        obtain ⟨B, q1, q2, q3⟩ := hJ.l1 (hn 7 (by simp [needs, Region.binds])) hLj
        simp only at q1 q3
        simp only [wpL, opF, evs, ev, f, q1]
        refine Runs.append1' Fx.un29 Fx.zi38 rfl (by decide) (hJ.a1n hLj) q3 rfl (by intro u hu; simp [Wd.row] at hu; rcases hu with rfl | rfl | rfl <;> rfl) (by simp [maxLen]; omega) (by simp only; omega) (by omega) (fun v1 w9 hown9 hg9 hblk => ?_)
        exact hJ.app1 ok hLj (hcl.no (j := 19) (k := 8) rfl (by simp [needs, Region.binds]) hLj) (grown_chg hg9) hown9 hblk
      · simp only [wpL, opF, ev, hJ.env 5 _ rfl, Fx.fo32_1, add_at]
        exact hJ.simp1 ok rfl rfl
      · have f := hJ.simple 9 37 _ rfl rfl (hn 9 (by simp [needs, Region.binds]))
        have c5 : L 19 = false := hcl.no (j := 19) (k := 10) rfl (by simp [needs, Region.binds]) hLj
        have c6 : L 21 = false := hcl.no (j := 21) (k := 10) rfl (by simp [needs, Region.binds]) hLj
        obtain ⟨u1, u2, q1, q2, q3⟩ := hJ.z
        cases q2 c5; cases q3 c6
        simp only [wpL, opF, ev, f, Fx.ag30]
        exact ⟨_, q1.cell (j := 1) rfl, hJ.simp1 ok rfl rfl⟩
      · simp only [wpL, opF, ev, hJ.env 2 _ rfl, Fx.fo32_1, add_at]
        exact hJ.simp1 ok rfl rfl
      · have f := hJ.simple 11 39 _ rfl rfl (hn 11 (by simp [needs, Region.binds]))
        simp only [wpL, opF, ev, f, Fx.ag30]
        exact ⟨_, (hb14.chg hJ.chg (low B1 (by omega))).cell (j := 1) rfl, hJ.simp1 ok rfl rfl⟩
      · simp only [wpL, opF, ev, hJ.env 9 _ rfl]
        exact hJ.simp1 ok rfl rfl
      · have f := hJ.simple 12 40 _ rfl rfl (hn 12 (by simp [needs, Region.binds]))
        have f2 := hJ.simple 13 41 _ rfl rfl (hn 13 (by simp [needs, Region.binds]))
        simp only [wpL, opF, ev, f, f2, Fx.es30]
        refine ⟨by omega, by omega, ?_⟩
        simp only [add_at, Int.toNat_natCast]
        exact hJ.simp1 ok rfl rfl
      · have f := hJ.simple 14 42 _ rfl rfl (hn 14 (by simp [needs, Region.binds]))
        simp only [wpL, opF, ev, f, Fx.ag75]
        exact ⟨l[ix].row, rfl, hJ.chg.cellsAt hcy4 (low br (by omega)), hJ.simp1 ok rfl rfl⟩
      · have f := hJ.simple 15 43 _ rfl rfl (hn 15 (by simp [needs, Region.binds]))
        simp only [wpL, opF, evp, ev, f]
        refine Runs.lit (cs := l[ix].row) Fx.un30 Fx.zi75 (by decide) (by kernel_rfl) (by decide) (fun w8 he8 hs8 hb8 => ?_)
        exact (hJ.ext ok he8).lit2 ok (hcl.no (j := 17) (k := 16) rfl (by simp [needs, Region.binds]) hLj) (by simp only at hsz ⊢; omega) hb8
      · have f := hJ.simple 10 38 _ rfl rfl (hn 10 (by simp [needs, Region.binds]))
        obtain ⟨B, q1, q2, q3⟩ := hJ.l2 (hn 16 (by simp [needs, Region.binds])) hLj
        simp only at q1 q3
        simp only [wpL, opF, evs, ev, f, q1]
        refine Runs.append1' Fx.un30 Fx.zi75 rfl (by decide) (hJ.a2n hLj) q3 rfl (by intro u hu; simp [Wd.row] at hu; rcases hu with rfl | rfl | rfl <;> rfl) (by simp [maxLen]; omega) (by simp only; omega) (by omega) (fun v1 w9 hown9 hg9 hblk => ?_)
        exact hJ.app2 ok hLj (hcl.no (j := 21) (k := 17) rfl (by simp [needs, Region.binds]) hLj) (grown_chg hg9) hown9 hblk
      · simp only [wpL, opF, ev, hJ.env 5 _ rfl, Fx.fo32_0, add_at]
        exact hJ.simp1 ok rfl rfl
      · have f := hJ.simple 18 46 _ rfl rfl (hn 18 (by simp [needs, Region.binds]))
        obtain ⟨v1, q1, q2, q3, q4⟩ := hJ.a1 (hn 8 (by simp [needs, Region.binds]))
        obtain ⟨o1, o2, -⟩ := owns_one q2
        obtain ⟨u1, u2, z1, z2, z3⟩ := hJ.z
        simp only at q1 z1
        simp only [wpL, opF, ev, f, q1]
        refine Runs.store z1 Fx.zi29 (by rw [o2]; rfl) (by rw [o2]; intro u hu; simp at hu; subst hu; exact o1) (by simp) (fun w9 hc9 hs9 hb9 => ?_)
        exact hJ.st1 ok (hn 8 (by simp [needs, Region.binds])) q1 hc9 z1 (by simpa [splice, o2] using hb9)
      · simp only [wpL, opF, ev, hJ.env 5 _ rfl, Fx.fo32_1, add_at]
        exact hJ.simp1 ok rfl rfl
      · have f := hJ.simple 20 47 _ rfl rfl (hn 20 (by simp [needs, Region.binds]))
        obtain ⟨v1, q1, q2, q3, q4⟩ := hJ.a2 (hn 17 (by simp [needs, Region.binds]))
        obtain ⟨o1, o2, -⟩ := owns_one q2
        obtain ⟨u1, u2, z1, z2, z3⟩ := hJ.z
        simp only at q1 z1
        simp only [wpL, opF, ev, f, q1]
        refine Runs.store z1 Fx.zi30 (by rw [o2]; rfl) (by rw [o2]; intro u hu; simp at hu; subst hu; exact o1) (by simp) (fun w9 hc9 hs9 hb9 => ?_)
        exact hJ.st2 ok (hn 17 (by simp [needs, Region.binds])) q1 hc9 z1 (by simpa [splice, o2] using hb9)
    intro K w3' hJ
    obtain ⟨v, v', q1, q2, q3, q4, q5⟩ := hJ.fin (by subst hA; rfl) (by subst hA; rfl) (by subst hA; rfl) (by subst hA; rfl)
    have hc := hJ.chg
    have henv := hJ.env
    clear hJ
    subst hA
    simp only at q1 q2 q3 q4 q5 hc henv
    clear ok
    try simp only [zW, zU, reduceIte, Nat.reduceEqDiff, Nat.reduceAdd, reduceCtorEq, Q11]
    refine hM1 _ _ _ ?_; clear hM1 M1
    refine ok_less [(2, ptrOf B1), (4, ptrOf B2), (5, ptrOf B3), (10, .slice (some ⟨b, o, none⟩) of.length co), (11, .int .i64 (of.length : Int)), (12, .int .i64 (i : Int))] (by simp only [sub, and_true]; exact ⟨henv 2 _ rfl, henv 4 _ rfl, henv 5 _ rfl, henv 10 _ rfl, henv 11 _ rfl, henv 12 _ rfl⟩) ?_
    refine ok_region rfl ?_
    repeat ((try subst X); (first | (first | apply zL | apply zH | apply zE); intro X hX | apply zl | apply zh | apply ze); try simp only [zU, reduceIte, Nat.reduceEqDiff, Nat.reduceAdd, reduceCtorEq, Q11])
    refine ⟨by simp only [inI]; omega, ?_⟩
    repeat ((try subst X); (first | (first | apply zL | apply zH | apply zE); intro X hX | apply zl | apply zh | apply ze); try simp only [zU, reduceIte, Nat.reduceEqDiff, Nat.reduceAdd, reduceCtorEq, Q11])
    have low : ∀ k, k < B3 → ¬ (ph.ownBlock = some k ∨ pr.ownBlock = some k ∨ k = B3) := fun k hk e => by rcases e with e | e | e <;> first | (have := (hd1 _ e).1; omega) | (have := hd2 _ e; omega) | omega
    have htk : of.take (i + 1) = of.take i ++ [of[i]] := List.take_succ_eq_append_getElem hil
    have hpf : pickF l (of.take (i + 1)) = pickF l (of.take i) ++ [l[ix]] := by
      rw [htk, pickF_snoc _ _ _ (by omega), hixe, List.getD_eq_getElem?_getD, hlx]; rfl
    have hfl : oflat (pickF l (of.take (i + 1))) = oflat (pickF l (of.take i)) ++ l[ix].row := by rw [hpf]; simp [oflat]
    have hpl2 : (pickF l (of.take (i + 1))).length = (pickF l (of.take i)).length + 1 := by rw [hpf]; simp
    have hv1 : ∀ k, v.ownBlock = some k → B3 < k := fun k hk => by
      rcases q4 with h | ⟨k', h, h2⟩
      · rw [h] at hk; exact (hd1 k hk).1
      · rw [h] at hk; cases hk; omega
    have hv2 : ∀ k, v'.ownBlock = some k → B3 < k := fun k hk => by
      rcases q5 with h | ⟨k', h, h2⟩
      · rw [h] at hk; exact hd2 k hk
      · rw [h] at hk; cases hk; omega
    refine ⟨i + 1, by simp [sub, Env.get], ⟨by omega, he4.chg_trans hc (fun k hk => ?_), hb14.chg hc (low _ (by omega)), hb24.chg hc (low _ (by omega)), v, v', q1, by rw [hpl2, hfl]; exact q2, by rw [hpl2, hfl]; exact q3, fun k hk => ⟨hv1 k hk, fun e => ?_⟩, hv2⟩, by omega⟩
    · rcases hk with h | h | h
      · have := (hd1 _ h).1; omega
      · have := hd2 _ h; omega
      · omega
    · -- the two rows are of different kinds
      obtain ⟨g, cap, cur, e1, -, hg1, -⟩ := q2.2.resolve_left (fun h => by have := h.1; omega)
      obtain ⟨g', cap', cur', e2, -, hg2, -⟩ := q3.2.resolve_left (fun h => by have := h.1; omega)
      rw [e1] at hk; rw [e2] at e
      simp only [Value.ownBlock, Option.some.injEq] at hk e
      rw [hk] at hg1; rw [e] at hg2
      rw [hg1] at hg2
      cases hg2
end Go.Proofs.YtldeokfhipjbfaaGreatDoor
