/- Part 5 of 13: H9, H10, H11, H12, H13, H14, H15. -/
import Derived.Test.YtldeokfhipjbfaaGreatDoorM4
import Derived.Test.YtldeokfhipjbfaaGreatDoorM3
/- store, Store.  -/
set_option linter.unusedVariables false
set_option linter.unusedSimpArgs false
namespace Go.Proofs.YtldeokfhipjbfaaGreatDoor
open Go Go.Proofs.Vg Go.RowKit

mutual
def cntV : Val → Nat
  | .mk _ _ _ args => 1 + cntVs args
def cntVs : List Val → Nat
  | [] => 0
  | x :: xs => cntV x + cntVs xs
end
mutual
def storeV (H : List Ob) : Val → List Ob × Wd
  | .mk k n t args => if k = 1 ∨ k = 2 ∨ k = 8 then (H, ⟨k, n, 0⟩) else if k = 3 then (H ++ [.text t], ⟨3, 0, (H.length : Int) + 1⟩) else mkW (storeVs H args).1 k n (storeVs H args).2
def storeVs (H : List Ob) : List Val → List Ob × List Wd
  | [] => (H, [])
  | x :: xs => ((storeVs (storeV H x).1 xs).1, (storeV H x).2 :: (storeVs (storeV H x).1 xs).2)
end
theorem storeVs_snoc (x : Val) : ∀ (l : List Val) (H : List Ob), storeVs H (l ++ [x]) = ((storeV (storeVs H l).1 x).1, (storeVs H l).2 ++ [(storeV (storeVs H l).1 x).2])
  | [], H => by simp [storeVs]
  | y :: l, H => by simp only [List.cons_append, storeVs, storeVs_snoc x l]
theorem storeVs_length : ∀ (l : List Val) (H : List Ob), (storeVs H l).2.length = l.length
  | [], H => by simp [storeVs]
  | y :: l, H => by simp only [storeVs, List.length_cons, storeVs_length l]
theorem mkW_length (H : List Ob) (k n : Int) (l : List Wd) : (mkW H k n l).1.length ≤ H.length + 1 := by
  unfold mkW; split <;> simp
mutual
theorem storeV_length : ∀ (x : Val) (H : List Ob), (storeV H x).1.length ≤ H.length + cntV x
  | .mk k n t args, H => by
    simp only [storeV, cntV]
    split
    · simp
    split
    · simp
    have h1 := mkW_length (storeVs H args).1 k n (storeVs H args).2
    have h2 := storeVs_len args H
    omega
theorem storeVs_len : ∀ (l : List Val) (H : List Ob), (storeVs H l).1.length ≤ H.length + cntVs l
  | [], H => by simp [storeVs]
  | y :: l, H => by
    simp only [storeVs, cntVs]
    have h1 := storeV_length y H
    have h2 := storeVs_len l (storeV H y).1
    omega
end
theorem cntVs_take (l : List Val) : ∀ (i : Nat) (x : Val), l[i]? = some x → cntVs (l.take i) + cntV x ≤ cntVs l := by
  induction l with
  | nil => intro i x h; simp at h
  | cons y l ih =>
    intro i x h
    cases i with
    | zero => simp at h; subst h; simp [cntVs]
    | succ i =>
      have := ih i x (by simpa using h)
      simp only [List.take_succ_cons, cntVs]
      omega
theorem knownVs_get {l : List Val} (h : knownVs l = true) {i : Nat} {x : Val} (hx : l[i]? = some x) : knownV x = true := (knownVs_iff l).1 h i x hx
theorem cntVs_len (l : List Val) : l.length ≤ cntVs l := by
  induction l with
  | nil => simp
  | cons x xs ih => cases x; simp only [List.length_cons, cntVs, cntV]; omega

-- -- function 54
set_option maxHeartbeats 4000000 in
set_option maxRecDepth 8000 in
theorem store_ok : ∀ (m : Nat) (x : Val) (w : World) (S : Nat → Prop) (r : List Value) (mk hb rb : Nat) (H : List Ob) (F : Nat → Prop), SizeOf.sizeOf x ≤ m → VRowS w S r x → (∀ k, S k → ¬ F k ∧ k < w.heap.size) → Glob w mk → (¬ F 0 ∧ ¬ F 1 ∧ ¬ F mk) → knownV x = true →
    HeapW w hb rb H F → (∀ k, F k → k < w.heap.size) → H.length + cntV x ≤ 1048576 →
    Rets Tryz.prog 54 [ptrOf hb, .agg r.toArray] w (fun v w' => v = wv (storeV H x).2 ∧ Grown w w' hb rb (storeV H x).1 F) := by
  intro m
  induction m with
  | zero => intro x w S r mk hb rb H F hm; cases x; simp at hm
  | succ m ih =>
    rintro ⟨k, n, t, a⟩ w S r mk hb rb H F hm hr hS hg hgF hkn hH hF hlen0
    have hglt := hg.lt
    simp only [VRowS] at hr
    obtain ⟨v, rfl, hv1, hv2, rows, hsl, hrows⟩ := hr
    obtain ⟨A, cp, rfl, hlen, hcell⟩ := hsl
    have hl := hrows.length
    simp only [knownV, Bool.and_eq_true, decide_eq_true_eq] at hkn
    obtain ⟨⟨hk1, hk2⟩, hkns⟩ := hkn
    simp only [cntV] at hlen0
    have hcl := cntVs_len a
    have hrb := hH.lt
    refine rets_of_okC Tryz.func54 rfl rfl ?_
    refine ok_seq (fun M hM => ok_region rfl ?_)
    (try revert X); refine t54 ?_; intro X hX
    refine Runs.box (fun w1 he1 hz1 hb1 => ?_)
    generalize hB1 : w.heap.size = B1 at hz1 hb1
    simp only [Value.cells] at hb1
    rw [hl] at hb1
    (try revert X); refine t54 ?_; intro X hX
    refine Runs.alloc Fx.zi38 (fun w2 he2 hz2 hb2 => ?_)
    generalize hB2 : w1.heap.size = B2 at hz2 hb2
    simp only [Value.cells] at hb2
    have hb12 := hb1.ext he2
    have he02' := he1.trans he2
    (try revert X); refine t54 ?_; intro X hX
    refine hM _ _ _ ?_; clear hM M
    refine ok_seq (fun M hM => ok_region rfl ?_)
    (try revert X); refine t54 ?_; intro X hX
    refine ⟨_, (hg.ext he02').kc, ?_⟩
    (try revert X); refine t54 ?_; intro X hX
    refine ⟨_, hb12.cell (j := 0) rfl, ?_⟩
    (try revert X); refine t54 ?_; intro X hX
    refine Runs.lookupI Fx.un137 Fx.un3 Fx.zi3 (hg.ext he02').km k ?_
    have hkf : kindF k = some (.int .i64 k) := by unfold kindF; rw [if_pos ⟨hk1, hk2⟩]
    rw [hkf]
    simp only [Option.getD_some]
    (try revert X); refine t54 ?_; intro X hX
    refine hM _ _ _ ?_; clear hM M
    refine ok_join [(0, ptrOf hb), (3, ptrOf B1), (4, ptrOf B2), (5, .int .i64 k)] (fun w' => w' = w2 ∧ ¬ (k = 1 ∨ k = 2 ∨ k = 8) ∧ ¬ k = 3) ?_ ?_
    · refine ok_seq (fun M hM => ok_region rfl ?_); (try revert X); refine t54 ?_; intro X hX
      refine hM _ _ _ ?_; clear hM M
      refine ok_block ?_
      refine ok_join [(0, ptrOf hb), (3, ptrOf B1), (4, ptrOf B2), (5, .int .i64 k), (13, .int .i64 k), (14, .bool (decide (k = 1 ∨ k = 2 ∨ k = 8)))] (fun w' => w' = w2) ?_ ?_
      · refine ok_seq (fun M hM => ok_region rfl ?_); (try revert X); refine t54 ?_; intro X hX
        refine hM _ _ _ ?_; clear hM M
        refine ok_if rfl (fun hk => ok_skip ?_) (fun hk => ?_)
        · try simp only [zW, zU, reduceIte, Nat.reduceEqDiff, Nat.reduceAdd, reduceCtorEq, Q54]
          simp [sub, Env.get, hk]
        · refine ok_seq (fun M hM => ok_region rfl ?_); (try revert X); refine t54 ?_; intro X hX
          refine hM _ _ _ ?_; clear hM M
          refine ok_if rfl (fun hk' => ok_skip ?_) (fun hk' => ?_)
          · try simp only [zW, zU, reduceIte, Nat.reduceEqDiff, Nat.reduceAdd, reduceCtorEq, Q54]
            simp [sub, Env.get, hk, hk']
          · refine ok_region rfl ?_
            (try revert X); refine t54 ?_; intro X hX
            simp [sub, Env.get, hk, hk']
      rintro w' rfl
      refine ok_if rfl (fun hk => ?_) (fun hk => ?_)
      · refine ok_seq (fun M hM => ok_region rfl ?_)
        (try revert X); refine t54 ?_; intro X hX
        refine ⟨_, hb12.cell (j := 1) rfl, ?_⟩
        (try revert X); refine t54 ?_; intro X hX
        refine ⟨_, w', run_build (P := Tryz.prog) w' 38 _ #[.int .i64 k, .int .i64 n, .int .i64 0] (by kernel_rfl), ?_⟩
        (try revert X); refine t54 ?_; intro X hX
        refine Runs.store hb2 Fx.zi38 rfl (by intro u hu; simp [Value.cells] at hu; rcases hu with rfl | rfl | rfl <;> rfl) (by simp) (fun w5 hc5 hs5 hb5 => ?_)
        rw [splice_all _ _ (by simp [Value.cells])] at hb5
        simp only [Value.cells] at hb5
        (try revert X); refine t54 ?_; intro X hX
        refine hM _ _ _ ?_; clear hM M
        refine ok_ret ?_
        try simp only [zW, zU, reduceIte, Nat.reduceEqDiff, Nat.reduceAdd, reduceCtorEq, Q54]
        have hst : storeV H (.mk k n t a) = (H, ⟨k, n, 0⟩) := by simp only [storeV]; rw [if_pos hk]
        rw [hst]
        refine ⟨_, rfl, hb5.cells (o := 0) (row := [.int .i64 k, .int .i64 n, .int .i64 0]) (fun j u hj => by simpa using hj), rfl, ?_⟩
        exact Grown.ext hH (he02'.chg_trans hc5 (fun i hi => by omega))
      · refine ok_seq (fun M hM => ok_region rfl ?_); (try revert X); refine t54 ?_; intro X hX
        refine hM _ _ _ ?_; clear hM M
        refine ok_if rfl (fun hk3 => ?_) (fun hk3 => ok_skip ?_)
        rotate_left
        · try simp only [zW, zU, reduceIte, Nat.reduceEqDiff, Nat.reduceAdd, reduceCtorEq, Q54]
          exact ⟨by simp [sub, Env.get], hk, hk3⟩
        refine ok_seq (fun M hM => ok_region rfl ?_)
        (try revert X); refine t54 ?_; intro X hX
        refine ⟨_, hb12.cell (j := 2) rfl, ?_⟩
        (try revert X); refine t54 ?_; intro X hX
        have hs02 := he02'.size
        refine Inv.call Fx.en91 (text_ok w' hb rb H F (hH.ext he02') (fun k hk => by have := hF k hk; omega) (by omega) t) ?_
        rintro v w3 ⟨rfl, hc3, F', hH3, hF'⟩
        (try revert X); refine t54 ?_; intro X hX
        have hBF : ¬ F B2 := fun h => by have := hF B2 h; omega
        have hs3 := hc3.size
        refine Runs.store (hb2.chg hc3 hBF) Fx.zi38 rfl (by intro u hu; simp [Value.cells, Wd.row] at hu; rcases hu with rfl | rfl | rfl <;> rfl) (by simp) (fun w5 hc5 hs5 hb5 => ?_)
        rw [splice_all _ _ (by simp [Value.cells])] at hb5
        simp only [Value.cells] at hb5
        (try revert X); refine t54 ?_; intro X hX
        refine hM _ _ _ ?_; clear hM M
        refine ok_ret ?_
        try simp only [zW, zU, reduceIte, Nat.reduceEqDiff, Nat.reduceAdd, reduceCtorEq, Q54]
        have hst : storeV H (.mk k n t a) = (H ++ [.text t], ⟨3, 0, (H.length : Int) + 1⟩) := by simp only [storeV]; rw [if_neg hk, if_pos hk3]
        rw [hst]
        refine ⟨_, rfl, hb5.cells (o := 0) (row := Wd.row ⟨3, 0, (H.length : Int) + 1⟩) (fun j u hj => by simpa using hj), rfl, ?_⟩
        have hnB : ¬ F' B2 := fun h => by rcases hF' B2 h with h | h <;> first | exact hBF h | omega
        refine ⟨((he02'.chg F).trans hc3).trans_new hc5 (fun k hk => by omega), F', hH3.chg hc5 (fun k hk e => hnB (e ▸ hk)) (by omega), fun k hk => ?_⟩
        rcases hF' k hk with h | h
        · exact .inl h
        · exact .inr (by omega)
    rintro w' ⟨rfl, hk8, hk3⟩
    have hst : storeV H (.mk k n t a) = mkW (storeVs H a).1 k n (storeVs H a).2 := by simp only [storeV]; rw [if_neg hk8, if_neg hk3]
    rw [hst]
    have hs02 := he02'.size
    refine ok_seq (fun M hM => ok_region rfl ?_); (try revert X); refine t54 ?_; intro X hX
    refine hM _ _ _ ?_; clear hM M
    refine ok_seq (fun M0 hM0 => ?_)
    refine ok_seq (fun M hM => ok_region rfl ?_)
    (try revert X); refine t54 ?_; intro X hX
    refine ⟨_, hb12.cell (j := 3) rfl, ?_⟩
    (try revert X); refine t54 ?_; intro X hX
    refine hM _ _ _ ?_; clear hM M
    refine ok_block ?_
    refine ok_loop (S := Nat × Value) (fun s => [(0, ptrOf hb), (3, ptrOf B1), (4, ptrOf B2), (5, .int .i64 k), (6, s.2), (29, .slice A a.length cp), (30, .int .i64 (a.length : Int)), (31, .int .i64 (s.1 : Int))])
      (fun s w4 => s.1 ≤ a.length ∧ Chg F w w4 ∧ ∃ F', HeapW w4 hb rb (storeVs H (a.take s.1)).1 F' ∧ (∀ k, F' k → F k ∨ (w.heap.size ≤ k ∧ k < w4.heap.size ∧ k ≠ B1 ∧ k ≠ B2)) ∧
        Blk w4 B1 [.int .i64 k, .int .i64 n, .string t, .slice A a.length cp] 36 ∧ Blk w4 B2 [.int .i64 0, .int .i64 0, .int .i64 0] 38 ∧
        w4.ownsRow 0 38 3 s.2 s.1 ((storeVs H (a.take s.1)).2.map Wd.row).flatten ∧ (∀ k, s.2.ownBlock = some k → ¬ F' k ∧ k ≠ B1 ∧ k ≠ B2 ∧ w.heap.size ≤ k)) (fun s => a.length - s.1) (0, .slice none 0 0) ?_ ?_ ?_
    · simp [sub, Env.get]
    · refine ⟨Nat.zero_le _, he02'.chg F, F, hH.ext he02', fun k hk => .inl hk, hb12, hb2, World.ownsRow_nil _ _ _ _, fun k hk => by simp [Value.ownBlock] at hk⟩
    rintro ⟨i, va⟩ w4 ⟨hi, hc4, F', hH4, hF4, hB1', hB2', hown, hob⟩
    simp only at hi hH4 hown hob ⊢
    have hs4 := hc4.size
    have hl1 := hB1'.lt
    have hl2 := hB2'.lt
    have hF4s : ∀ k, F' k → k < w4.heap.size := fun k hk => by
      rcases hF4 k hk with h | h
      · have := hF k h; omega
      · omega
    have hnB1 : ¬ F' B1 := fun h => by
      rcases hF4 B1 h with h | h
      · have := hF B1 h; omega
      · omega
    have hnB2 : ¬ F' B2 := fun h => by
      rcases hF4 B2 h with h | h
      · have := hF B2 h; omega
      · omega
    refine ok_seq (fun M hM => ok_region rfl ?_); (try revert X); refine t54 ?_; intro X hX
    refine hM _ _ _ ?_; clear hM M
    refine ok_seq (fun M1 hM1 => ?_)
    refine ok_if rfl (fun hc => ok_skip ?_) (fun hc => ok_exit ?_)
    rotate_left
    · try simp only [zW, zU, reduceIte, Nat.reduceEqDiff, Nat.reduceAdd, reduceCtorEq, Q54]
      refine hM0 _ _ _ ?_; clear hM0 M0 hM1 M1
      have hia : i = a.length := by omega
      subst hia
      rw [List.take_of_length_le (Nat.le_refl _)] at hH4 hown
      have hsl := storeVs_length a H
      have hlen1 := storeVs_len a H
      have hSl : SlW w4 va (storeVs H a).2 := Sli.of_own hown rfl (fun r hr => (words_rows _ r hr).1) (by simp [hsl]) (by omega)
      obtain ⟨A9, c9, hva⟩ : ∃ A9 c9, va = .slice A9 (storeVs H a).2.length c9 := by
        obtain ⟨A9, c9, h1, _⟩ := hSl
        exact ⟨A9, c9, by rw [h1]; simp⟩
      refine ok_seq (fun M hM => ok_region rfl ?_)
      (try revert X); refine t54 ?_; intro X hX
      refine ⟨_, hB1'.cell (j := 1) rfl, ?_⟩
      (try revert X); refine t54 ?_; intro X hX
      refine Inv.call Fx.en56 (make_ok w4 hb rb _ F' hH4 (fun k hk => hF4s k hk) (by omega) k n va _ hSl (by omega)) ?_
      rintro v w5 ⟨rfl, hc5, F5, hH5, hF5⟩
      have hs5 := hc5.size
      (try revert X); refine t54 ?_; intro X hX
      refine Runs.store (hB2'.chg hc5 hnB2) Fx.zi38 rfl (by intro u hu; simp [Value.cells, Wd.row] at hu; rcases hu with rfl | rfl | rfl <;> rfl) (by simp) (fun w6 hc6 hs6 hb6 => ?_)
      rw [splice_all _ _ (by simp [Value.cells])] at hb6
      simp only [Value.cells] at hb6
      (try revert X); refine t54 ?_; intro X hX
      refine hM _ _ _ ?_; clear hM M
      refine ok_ret ?_
      try simp only [zW, zU, reduceIte, Nat.reduceEqDiff, Nat.reduceAdd, reduceCtorEq, Q54]
      refine ⟨_, rfl, hb6.cells (o := 0) (row := (mkW (storeVs H a).1 k n (storeVs H a).2).2.row) (fun j u hj => by simpa using hj), rfl, ?_⟩
      have hnB : ¬ F5 B2 := fun h => by rcases hF5 B2 h with h | h <;> first | exact hnB2 h | omega
      have hc5' : Chg F w w5 := ⟨hc5.os.trans hc4.os, hc5.tape.trans hc4.tape, hc5.output.trans hc4.output, by omega, fun j hj hf => by
        rw [hc5.block j (by omega) (fun h => by rcases hF4 j h with h | h <;> first | exact hf h | omega), hc4.block j hj hf]⟩
      refine ⟨hc5'.trans_new hc6 (fun k hk => by omega), F5, hH5.chg hc6 (fun k hk e => hnB (e ▸ hk)) (by omega), fun k hk => ?_⟩
      rcases hF5 k hk with h | h
      · rcases hF4 k h with h | h
        · exact .inl h
        · exact .inr (by omega)
      · exact .inr (by omega)
    · try simp only [zW, zU, reduceIte, Nat.reduceEqDiff, Nat.reduceAdd, reduceCtorEq, Q54]
      refine hM1 _ _ _ ?_; clear hM1 M1
      have hil : i < a.length := by omega
      have hxi : a[i]? = some a[i] := List.getElem?_eq_getElem hil
      obtain ⟨rr, hrr, hvr⟩ := hrows.get i _ hxi
      obtain ⟨b, o, rfl, hbS, hcr⟩ := hcell i rr hrr
      have hr4 := (VRowS.row _ _ hvr).len
      have hct := cntVs_take a i _ hxi
      have hcl1 := storeVs_len (a.take i) H
      have hsz : SizeOf.sizeOf a[i] ≤ m := by
        have := List.sizeOf_lt_of_mem (List.getElem_mem hil)
        simp at hm
        omega
      refine ok_seq (fun M1 hM1 => ok_block ?_)
      refine ok_seq (fun M hM => ok_region rfl ?_)
      (try revert X); refine t54 ?_; intro X hX
      refine ⟨by omega, by omega, ?_⟩
      (try revert X); refine t54 ?_; intro X hX
      refine ⟨rr, hr4, hc4.cellsAt hcr (hS b hbS).1, ?_⟩
      (try revert X); refine t54 ?_; intro X hX
      refine Runs.alloc Fx.zi36 (fun w5 he5 hs5 hb5 => ?_)
      generalize hB5 : w4.heap.size = B5 at hs5 hb5
      (try revert X); refine t54 ?_; intro X hX
      refine Runs.store hb5 Fx.zi36 (by simpa [Value.cells] using hr4) (by simpa [Value.cells] using (VRowS.row _ _ hvr).one) (by simp [Value.cells]) (fun w6 hc6 hs6 hb6 => ?_)
      rw [splice_all _ _ (by simp [Value.cells, hr4])] at hb6
      simp only [Value.cells] at hb6
      have he6 : Ext w4 w6 := he5.chg_trans hc6 (fun i hi => by omega)
      have hvr6 : VRowS w6 S rr a[i] := VRowS.ext (VRowS.chg hc4 (fun k hk => ⟨hk, (hS k hk).1⟩) _ _ hvr) he6
      have hg6 : Glob w6 mk := (hg.chg hc4 hgF.1 hgF.2.1 hgF.2.2).ext he6
      have hnF' : ∀ k, k < w.heap.size → ¬ F k → ¬ F' k := fun k hk hn hf => by rcases hF4 k hf with h | h <;> first | exact hn h | omega
      have hs46 := he6.size
      (try revert X); refine t54 ?_; intro X hX
      refine hM _ _ _ ?_; clear hM M
      refine ok_region rfl ?_
      (try revert X); refine t54 ?_; intro X hX
      refine ⟨rr, hr4, hb6.cells (o := 0) (fun j u hj => by simpa using hj), ?_⟩
      (try revert X); refine t54 ?_; intro X hX
      refine Inv.call Fx.en54 (ih a[i] w6 S rr mk hb rb _ F' hsz hvr6 (fun k hk => ⟨hnF' k (hS k hk).2 (hS k hk).1, by have := (hS k hk).2; omega⟩) hg6 ⟨hnF' 0 hglt.1 hgF.1, hnF' 1 hglt.2.1 hgF.2.1, hnF' mk hglt.2.2 hgF.2.2⟩ (knownVs_get hkns hxi) (hH4.ext he6) (fun k hk => by have := hF4s k hk; omega) (by omega)) ?_
      rintro v w7 ⟨rfl, hc7, F7, hH7, hF7⟩
      have hs7 := hc7.size
      have hown6 := owns_chg' hown (he6.chg (fun _ => False)) (fun _ _ h => h)
      have hown7 := owns_chg' hown6 hc7 (fun k hk => (hob k hk).1)
      generalize hq : storeV (storeVs H (a.take i)).1 a[i] = q at hH7
      (try revert X); refine t54 ?_; intro X hX
      refine Runs.lit (cs := q.2.row) Fx.un29 Fx.zi38 (by decide) (by kernel_rfl) (by decide) (fun w8 he8 hs8 hb8 => ?_)
      (try revert X); refine t54 ?_; intro X hX
      have hown8 := owns_chg' hown7 (he8.chg (fun _ => False)) (fun _ _ h => h)
      refine Runs.append1' Fx.un29 Fx.zi38 rfl (by decide) hown8 hb8 rfl (by intro u hu; simp [Wd.row] at hu; rcases hu with rfl | rfl | rfl <;> rfl) (by simp [maxLen]; omega) (by omega) (by omega) (fun v' w9 hown9 hg9 hblk => ?_)
      have hc9 : Chg (fun k => va.ownBlock = some k) w8 w9 := ⟨hg9.os, hg9.tape, hg9.output, hg9.size, fun k hk hs => hg9.block k hk (fun e => hs e.symm)⟩
      have hs9 := hc9.size
      have hvl : ∀ k, va.ownBlock = some k → k < w4.heap.size := fun k hk => (hown.lt k hk).2
      have hF7s : ∀ k, F7 k → k < w7.heap.size ∧ (F' k ∨ w6.heap.size ≤ k) := fun k hk => by
        rcases hF7 k hk with h | h
        · have := hF4s k h; exact ⟨by omega, .inl h⟩
        · exact ⟨by omega, .inr h.1⟩
      (try revert X); refine t54 ?_; intro X hX
      refine hM1 _ _ _ ?_; clear hM1 M1
      refine ok_region rfl ?_
      (try revert X); refine t54 ?_; intro X hX
      refine ⟨by simp only [inI]; omega, ?_⟩
      (try revert X); refine t54 ?_; intro X hX
      have htk : a.take (i + 1) = a.take i ++ [a[i]] := List.take_succ_eq_append_getElem hil
      have hsn : storeVs H (a.take (i + 1)) = (q.1, (storeVs H (a.take i)).2 ++ [q.2]) := by rw [htk, storeVs_snoc, hq]
      have hnF7 : ∀ k, va.ownBlock = some k → ¬ F7 k := fun k hk hf => by
        have h1 := hvl k hk
        rcases (hF7s k hf).2 with h | h
        · exact (hob k hk).1 h
        · omega
      have hBlk : ∀ (B : Nat) (cs : List Value) (e : TypeId), Blk w4 B cs e → ¬ F' B → (∀ k, va.ownBlock = some k → k ≠ B) → Blk w9 B cs e := fun B cs e hb hn hv =>
        (((hb.ext he6).chg hc7 hn).ext he8).chg hc9 (fun h => hv B h rfl)
      refine ⟨(i + 1, v'), by simp [sub, Env.get], ⟨by omega, ?_, F7, ?_, fun k hk => ?_, hBlk B1 _ _ hB1' hnB1 (fun k hk => (hob k hk).2.1), hBlk B2 _ _ hB2' hnB2 (fun k hk => (hob k hk).2.2.1), ?_, fun k hk => ?_⟩, by omega⟩
      · refine ⟨hc9.os.trans (he8.os.trans (hc7.os.trans (he6.os.trans hc4.os))), hc9.tape.trans (he8.tape.trans (hc7.tape.trans (he6.tape.trans hc4.tape))), hc9.output.trans (he8.output.trans (hc7.output.trans (he6.output.trans hc4.output))), by omega, fun j hj hf => ?_⟩
        rw [hc9.block j (by omega) (fun h => by have := (hob j h).2.2.2; omega), Below.block he8 j (by omega), hc7.block j (by omega) (fun h => by rcases hF4 j h with h | h <;> first | exact hf h | omega), Below.block he6 j (by omega), hc4.block j hj hf]
      · simp only [hsn]
        exact (hH7.ext he8).chg hc9 (fun k hk h => hnF7 k h hk) (fun h => by have := (hob rb h).2.2.2; omega)
      · have h1 := hF7s k hk
        rcases h1.2 with h | h
        · rcases hF4 k h with h' | h'
          · exact .inl h'
          · exact .inr (by omega)
        · exact .inr (by omega)
      · simp only [hsn]
        rw [List.map_append, List.flatten_append]
        simpa using hown9
      · rcases hblk with h | h
        · rw [h] at hk
          exact ⟨hnF7 k hk, (hob k hk).2⟩
        · rw [h] at hk; cases hk
          exact ⟨fun hf => by have := (hF7s _ hf).1; omega, by omega, by omega, by omega⟩
end Go.Proofs.YtldeokfhipjbfaaGreatDoor
/- Store.  -/
set_option linter.unusedVariables false
set_option linter.unusedSimpArgs false
namespace Go.Proofs.YtldeokfhipjbfaaGreatDoor
open Go Go.Proofs.Vg Go.RowKit

def storeS (H : List Ob) (x : Val) : List Ob × Wd × Int :=
  if knownV x = true then if formedV x = true then ((storeV H x).1, (storeV H x).2, 0) else (H, ⟨0, 0, 0⟩, 2) else (H, ⟨0, 0, 0⟩, 3)

-- -- function 19
set_option maxHeartbeats 4000000 in
set_option maxRecDepth 8000 in
theorem Store_ok (x : Val) (w : World) (S : Nat → Prop) (r : List Value) (mk hb rb : Nat) (H : List Ob) (F : Nat → Prop) (hrS : VRowS w S r x) (hS : ∀ k, S k → ¬ F k ∧ k < w.heap.size) (hg : Glob w mk) (hgF : ¬ F 0 ∧ ¬ F 1 ∧ ¬ F mk)
    (hH : HeapW w hb rb H F) (hF : ∀ k, F k → k < w.heap.size) (hlen0 : H.length + cntV x ≤ 1048576) :
    Rets Tryz.prog 19 [ptrOf hb, .agg r.toArray] w (fun v w' => v = .tuple #[wv (storeS H x).2.1, .int .i64 (storeS H x).2.2] ∧ Grown w w' hb rb (storeS H x).1 F) := by
  have hrb := hH.lt
  have hr : VRow w r x := VRowS.row _ _ hrS
  have hr4 := hr.len
  refine rets_of_okC Tryz.func19 rfl rfl ?_
  refine ok_seq (fun M hM => ok_region rfl ?_)
  (try revert X); refine t19 ?_; intro X hX
  refine Runs.box (fun w1 he1 hz1 hb1 => ?_)
  generalize hB1 : w.heap.size = B1 at hz1 hb1
  simp only [Value.cells] at hb1
  (try revert X); refine t19 ?_; intro X hX
  refine Runs.alloc Fx.zi38 (fun w2 he2 hz2 hb2 => ?_)
  generalize hB2 : w1.heap.size = B2 at hz2 hb2
  simp only [Value.cells] at hb2
  have hb12 := hb1.ext he2
  have he02 := he1.trans he2
  have he02' := he1.trans he2
  (try revert X); refine t19 ?_; intro X hX
  refine hM _ _ _ ?_; clear hM M
  refine ok_join [(0, ptrOf hb), (3, ptrOf B1), (4, ptrOf B2)] (fun w' => w' = w2) ?_ ?_
  · refine ok_seq (fun M hM => ok_region rfl ?_)
    (try revert X); refine t19 ?_; intro X hX
    refine Runs.ptrEq Fx.un25 ?_
    (try revert X); refine t19 ?_; intro X hX
    refine hM _ _ _ ?_; clear hM M
    refine ok_cond rfl (fun h => by cases h) (fun h => ok_skip ?_)
    try simp only [zW, zU, reduceIte, Nat.reduceEqDiff, Nat.reduceAdd, reduceCtorEq, Q19]
    simp [sub, Env.get]
  rintro w' rfl
  refine ok_join [(0, ptrOf hb), (3, ptrOf B1), (4, ptrOf B2)] (fun w3 => Ext w' w3 ∧ knownV x = true) ?_ ?_
  · refine ok_seq (fun M hM => ok_region rfl ?_)
    (try revert X); refine t19 ?_; intro X hX
    refine ⟨r, hr4, hb12.cells (o := 0) (fun j u hj => by simpa using hj), ?_⟩
    (try revert X); refine t19 ?_; intro X hX
    refine Inv.call Fx.en52 (known_ok _ x w' r mk (Nat.le_refl _) (VRow.ext he02 _ _ hr) (hg.ext he02)) ?_
    rintro v w3 ⟨rfl, he3⟩
    (try revert X); refine t19 ?_; intro X hX
    refine hM _ _ _ ?_; clear hM M
    refine ok_seq (fun M hM => ok_region rfl ?_); (try revert X); refine t19 ?_; intro X hX
    refine hM _ _ _ ?_; clear hM M
    cases hkn : knownV x with
    | true =>
      refine ok_cond (b := false) rfl (fun h => by cases h) (fun _ => ok_skip ?_)
      try simp only [zW, zU, reduceIte, Nat.reduceEqDiff, Nat.reduceAdd, reduceCtorEq, Q19]
      exact ⟨by simp [sub, Env.get], he3⟩
    | false =>
      refine ok_cond (b := true) rfl (fun _ => ?_) (fun h => by cases h)
      refine ok_seq (fun M hM => ok_region rfl ?_)
      (try revert X); refine t19 ?_; intro X hX
      refine ⟨_, w3, run_build (P := Tryz.prog) w3 38 _ #[.int .i64 0, .int .i64 0, .int .i64 0] (by kernel_rfl), ?_⟩
      (try revert X); refine t19 ?_; intro X hX
      refine Runs.store (hb2.ext he3) Fx.zi38 rfl (by intro u hu; simp [Value.cells] at hu; subst hu; rfl) (by simp) (fun w6 hc6 hs6 hb6 => ?_)
      rw [splice_all _ _ (by simp [Value.cells])] at hb6
      simp only [Value.cells] at hb6
      (try revert X); refine t19 ?_; intro X hX
      refine hM _ _ _ ?_; clear hM M
      refine ok_ret ?_
      try simp only [zW, zU, reduceIte, Nat.reduceEqDiff, Nat.reduceAdd, reduceCtorEq, Q19]
      have hst : storeS H x = (H, ⟨0, 0, 0⟩, 3) := by unfold storeS; simp [hkn]
      rw [hst]
      refine ⟨_, rfl, hb6.cells (o := 0) (row := Wd.row ⟨0, 0, 0⟩) (fun j u hj => by simpa [Wd.row] using hj), by simp, ?_⟩
      exact Grown.ext hH ((he02'.trans he3).chg_trans hc6 (fun i hi => by omega))
  rintro w3 ⟨he3, hkn⟩
  refine ok_join [(0, ptrOf hb), (3, ptrOf B1), (4, ptrOf B2)] (fun w4 => Ext w' w4 ∧ formedV x = true) ?_ ?_
  · refine ok_seq (fun M hM => ok_region rfl ?_)
    (try revert X); refine t19 ?_; intro X hX
    refine ⟨r, hr4, (hb12.ext he3).cells (o := 0) (fun j u hj => by simpa using hj), ?_⟩
    (try revert X); refine t19 ?_; intro X hX
    refine Inv.call Fx.en53 (formed_ok _ x w3 r (Nat.le_refl _) (VRow.ext (he02.trans he3) _ _ hr)) ?_
    rintro v w4 ⟨rfl, he4⟩
    (try revert X); refine t19 ?_; intro X hX
    refine hM _ _ _ ?_; clear hM M
    cases hfo : formedV x with
    | true =>
      refine ok_cond (b := false) rfl (fun h => by cases h) (fun _ => ok_skip ?_)
      try simp only [zW, zU, reduceIte, Nat.reduceEqDiff, Nat.reduceAdd, reduceCtorEq, Q19]
      exact ⟨by simp [sub, Env.get], he3.trans he4⟩
    | false =>
      refine ok_cond (b := true) rfl (fun _ => ?_) (fun h => by cases h)
      refine ok_seq (fun M hM => ok_region rfl ?_)
      (try revert X); refine t19 ?_; intro X hX
      refine ⟨_, w4, run_build (P := Tryz.prog) w4 38 _ #[.int .i64 0, .int .i64 0, .int .i64 0] (by kernel_rfl), ?_⟩
      (try revert X); refine t19 ?_; intro X hX
      refine Runs.store ((hb2.ext he3).ext he4) Fx.zi38 rfl (by intro u hu; simp [Value.cells] at hu; subst hu; rfl) (by simp) (fun w6 hc6 hs6 hb6 => ?_)
      rw [splice_all _ _ (by simp [Value.cells])] at hb6
      simp only [Value.cells] at hb6
      (try revert X); refine t19 ?_; intro X hX
      refine hM _ _ _ ?_; clear hM M
      refine ok_ret ?_
      try simp only [zW, zU, reduceIte, Nat.reduceEqDiff, Nat.reduceAdd, reduceCtorEq, Q19]
      have hst : storeS H x = (H, ⟨0, 0, 0⟩, 2) := by unfold storeS; simp [hkn, hfo]
      rw [hst]
      refine ⟨_, rfl, hb6.cells (o := 0) (row := Wd.row ⟨0, 0, 0⟩) (fun j u hj => by simpa [Wd.row] using hj), by simp, ?_⟩
      exact Grown.ext hH ((he02'.trans (he3.trans he4)).chg_trans hc6 (fun i hi => by omega))
  rintro w4 ⟨he4, hfo⟩
  have hw4 := he02'.trans he4
  have hs4 := hw4.size
  have hl2 := (hb2.ext he4).lt
  refine ok_seq (fun M hM => ok_region rfl ?_)
  (try revert X); refine t19 ?_; intro X hX
  refine ⟨r, hr4, (hb12.ext he4).cells (o := 0) (fun j u hj => by simpa using hj), ?_⟩
  (try revert X); refine t19 ?_; intro X hX
  refine Inv.call Fx.en54 (store_ok _ x w4 S r mk hb rb H F (Nat.le_refl _) (VRowS.ext hrS hw4) (fun k hk => ⟨(hS k hk).1, by have := (hS k hk).2; omega⟩) (hg.ext hw4) hgF hkn (hH.ext hw4) (fun k hk => by have := hF k hk; omega) hlen0) ?_
  rintro v w5 ⟨rfl, hc5, F5, hH5, hF5⟩
  have hs5 := hc5.size
  (try revert X); refine t19 ?_; intro X hX
  have hnF : ¬ F B2 := fun h => by have := hF B2 h; omega
  refine Runs.store ((hb2.ext he4).chg hc5 hnF) Fx.zi38 rfl (by intro u hu; simp [Value.cells, Wd.row] at hu; rcases hu with rfl | rfl | rfl <;> rfl) (by simp) (fun w6 hc6 hs6 hb6 => ?_)
  rw [splice_all _ _ (by simp [Value.cells])] at hb6
  simp only [Value.cells] at hb6
  (try revert X); refine t19 ?_; intro X hX
  refine hM _ _ _ ?_; clear hM M
  refine ok_ret ?_
  try simp only [zW, zU, reduceIte, Nat.reduceEqDiff, Nat.reduceAdd, reduceCtorEq, Q19]
  have hst : storeS H x = ((storeV H x).1, (storeV H x).2, 0) := by unfold storeS; simp [hkn, hfo]
  rw [hst]
  refine ⟨_, rfl, hb6.cells (o := 0) (row := (storeV H x).2.row) (fun j u hj => by simpa using hj), by simp, ?_⟩
  have hnB : ¬ F5 B2 := fun h => by rcases hF5 B2 h with h | h <;> first | exact hnF h | omega
  refine ⟨((hw4.chg F).trans hc5).trans_new hc6 (fun k hk => by omega), F5, hH5.chg hc6 (fun k hk e => hnB (e ▸ hk)) (by omega), fun k hk => ?_⟩
  rcases hF5 k hk with h | h
  · exact .inl h
  · exact .inr (by omega)
end Go.Proofs.YtldeokfhipjbfaaGreatDoor
/- ring: is there a way round? -/
set_option linter.unusedVariables false
set_option linter.unusedSimpArgs false
namespace Go.Proofs.Vg
open Go Go.RowKit

def visitL (g : List Int → Int → Bool × List Int) : List Int → List Wd → Bool × List Int
  | st, [] => (false, st)
  | st, x :: l => if (g st x.r).1 = true then (true, (g st x.r).2) else visitL g (g st x.r).2 l
def listO : Option Ob → List Wd
  | some o => o.list
  | none => []
def visitF (H : List Ob) : Nat → List Int → Int → Bool × List Int
  | 0, st, r => if r = 0 ∨ st[r.toNat]? = some 2 then (false, st) else (true, st)
  | f + 1, st, r => if r = 0 ∨ st[r.toNat]? = some 2 then (false, st) else if st[r.toNat]? = some 1 then (true, st) else
    if (visitL (visitF H f) (st.set r.toNat 1) (listO (objAt H r))).1 = true then (true, (visitL (visitF H f) (st.set r.toNat 1) (listO (objAt H r))).2)
    else (false, (visitL (visitF H f) (st.set r.toNat 1) (listO (objAt H r))).2.set r.toNat 2)
def ringF (H : List Ob) (l : List Wd) : Bool := (visitL (visitF H (H.length + 2)) (List.replicate (H.length + 1) 0) l).1
/-- Every word of every object leads to an object, or to none. -/
def Wf (H : List Ob) : Prop := ∀ o ∈ H, ∀ x ∈ o.list, 0 ≤ x.r ∧ x.r ≤ (H.length : Int)

def zer (st : List Int) : Nat := st.countP (fun x => decide (x = 0))
structure OkSt (n : Nat) (st : List Int) : Prop where
  len : st.length = n
  val : ∀ x ∈ st, x = 0 ∨ x = 1 ∨ x = 2
theorem zer_set {st : List Int} {i : Nat} {v : Int} (hv : v ≠ 0) : zer (st.set i v) ≤ zer st := by
  induction st generalizing i with
  | nil => simp [zer]
  | cons x xs ih =>
    cases i with
    | zero => simp [zer, List.countP_cons, hv]
    | succ i =>
      have := ih (i := i)
      simp only [zer, List.set_cons_succ, List.countP_cons] at this ⊢
      omega
theorem zer_set0 {st : List Int} {i : Nat} {v : Int} (hv : v ≠ 0) (h : st[i]? = some 0) : zer (st.set i v) + 1 = zer st := by
  induction st generalizing i with
  | nil => simp at h
  | cons x xs ih =>
    cases i with
    | zero => simp at h; subst h; simp [zer, List.countP_cons, hv]
    | succ i =>
      have := ih (i := i) (by simpa using h)
      simp only [zer, List.set_cons_succ, List.countP_cons] at this ⊢
      omega
theorem OkSt.set {n : Nat} {st : List Int} (h : OkSt n st) (i : Nat) (v : Int) (hv : v = 0 ∨ v = 1 ∨ v = 2) : OkSt n (st.set i v) := by
  refine ⟨by simp [h.len], fun x hx => ?_⟩
  rcases List.mem_or_eq_of_mem_set hx with h1 | h1
  · exact h.val x h1
  · exact h1 ▸ hv
theorem visitL_inv {n : Nat} {g : List Int → Int → Bool × List Int} (hg : ∀ st r, OkSt n st → OkSt n (g st r).2 ∧ zer (g st r).2 ≤ zer st) : ∀ (l : List Wd) (st : List Int), OkSt n st → OkSt n (visitL g st l).2 ∧ zer (visitL g st l).2 ≤ zer st := by
  intro l
  induction l with
  | nil => intro st h; exact ⟨h, Nat.le_refl _⟩
  | cons x l ih =>
    intro st h
    have h1 := hg st x.r h
    simp only [visitL]
    split
    · exact h1
    · have h2 := ih _ h1.1
      exact ⟨h2.1, by omega⟩
theorem visitF_inv {H : List Ob} {n : Nat} : ∀ (f : Nat) (st : List Int) (r : Int), OkSt n st → OkSt n (visitF H f st r).2 ∧ zer (visitF H f st r).2 ≤ zer st := by
  intro f
  induction f with
  | zero => intro st r h; simp only [visitF]; split <;> exact ⟨h, Nat.le_refl _⟩
  | succ f ih =>
    intro st r h
    simp only [visitF]
    split
    · exact ⟨h, Nat.le_refl _⟩
    split
    · exact ⟨h, Nat.le_refl _⟩
    have h1 := visitL_inv (n := n) ih (listO (objAt H r)) (st.set r.toNat 1) (h.set _ _ (by simp))
    have h2 := zer_set (st := st) (i := r.toNat) (v := 1) (by decide)
    split
    · exact ⟨h1.1, by simp only; omega⟩
    · have h3 := zer_set (st := (visitL (visitF H f) (st.set r.toNat 1) (listO (objAt H r))).2) (i := r.toNat) (v := 2) (by decide)
      exact ⟨h1.1.set _ _ (by simp), by simp only; omega⟩
/-- An object's list, read. -/
theorem ObW.list {w : World} {p g : Nat} {o : Ob} (h : ObW w p g o) : ∃ A c, w.cell? ⟨p, 0, none⟩ = some (.slice A o.list.length c) ∧ Sli w 3 (.slice A o.list.length c) (o.list.map Wd.row) ∧ o.list.length ≤ 1073741824 := by
  cases o with
  | text s => exact ⟨none, 0, Blk.cell h rfl, ⟨none, 0, rfl, by simp [Ob.list], fun j row hj => by simp [Ob.list] at hj⟩, by simp [Ob.list]⟩
  | words s l =>
    obtain ⟨lv, h1, h2⟩ := h
    obtain ⟨A, c, rfl, h3, h4⟩ := id h2
    exact ⟨A, c, h1.cell rfl, h2.sli, h3⟩

def ivs (l : List Int) : List Value := l.map (Value.int .i64)
structure RW (w : World) (B c1 c2 c3 hb rb : Nat) (vs : Value) (ps gs : List Nat) (H : List Ob) (st : List Int) : Prop where
  bs : Blk w B (ivs st) 3
  k1 : w.cell? ⟨c1, 0, none⟩ = some (.slice (some ⟨B, 0, none⟩) (H.length + 1) (H.length + 1))
  k2 : w.cell? ⟨c2, 0, none⟩ = some (ptrOf hb)
  k3 : w.cell? ⟨c3, 0, none⟩ = some (.func (.func 85) #[] #[ptrOf c1, ptrOf c2, ptrOf c3])
  hp : HeapR w hb rb vs ps gs H
structure Apart (B c1 c2 c3 hb rb : Nat) (vs : Value) (ps gs : List Nat) : Prop where
  n1 : c1 ≠ B
  n2 : c2 ≠ B
  n3 : c3 ≠ B
  nr : rb ≠ B
  nf : ∀ k, Foot hb vs ps gs k → k ≠ B
theorem RW.chg {w w' : World} {B c1 c2 c3 hb rb : Nat} {vs : Value} {ps gs : List Nat} {H : List Ob} {st st' : List Int} (h : RW w B c1 c2 c3 hb rb vs ps gs H st) (ha : Apart B c1 c2 c3 hb rb vs ps gs) (hc : Chg (· = B) w w') (hs : Blk w' B (ivs st') 3) : RW w' B c1 c2 c3 hb rb vs ps gs H st' :=
  ⟨hs, hc.cell h.k1 ha.n1, hc.cell h.k2 ha.n2, hc.cell h.k3 ha.n3, h.hp.chg hc ha.nf ha.nr⟩
theorem RW.ext {w w' : World} {B c1 c2 c3 hb rb : Nat} {vs : Value} {ps gs : List Nat} {H : List Ob} {st : List Int} (h : RW w B c1 c2 c3 hb rb vs ps gs H st) (ha : Apart B c1 c2 c3 hb rb vs ps gs) (he : Ext w w') : RW w' B c1 c2 c3 hb rb vs ps gs H st := h.chg ha (he.chg _) (h.bs.ext he)
theorem ivs_get {l : List Int} {i : Nat} {v : Int} (h : l[i]? = some v) : (ivs l)[i]? = some (.int .i64 v) := by simp [ivs, h]
theorem ivs_set (l : List Int) (i : Nat) (v : Int) (h : i < l.length) : splice (ivs l) i [.int .i64 v] = ivs (l.set i v) := by
  rw [splice_one _ _ _ (by simpa [ivs] using h)]; simp [ivs, List.map_set]
end Go.Proofs.Vg
namespace Go.Proofs.YtldeokfhipjbfaaGreatDoor
open Go Go.Proofs.Vg Go.RowKit

theorem Fx.zi117 : zinfo Tryz.prog 117 = some (some .nilFunc, 1, 8) := by kernel_rfl
-- -- function 85
set_option maxHeartbeats 4000000 in
set_option maxRecDepth 8000 in
theorem visit_ok (H : List Ob) (hW : Wf H) (hl : H.length ≤ 1073741824) (B c1 c2 c3 hb rb : Nat) (vs : Value) (ps gs : List Nat) (ha : Apart B c1 c2 c3 hb rb vs ps gs) : ∀ (f : Nat) (st : List Int) (r : Int) (w : World), OkSt (H.length + 1) st → zer st + 1 ≤ f → 0 ≤ r → r ≤ (H.length : Int) →
    RW w B c1 c2 c3 hb rb vs ps gs H st →
    Rets Tryz.prog 85 [.int .i64 r, ptrOf c1, ptrOf c2, ptrOf c3] w (fun v w' => v = .bool (visitF H f st r).1 ∧ Chg (· = B) w w' ∧ Blk w' B (ivs (visitF H f st r).2) 3) := by
  intro f
  induction f with
  | zero => intro st r w hst hz; omega
  | succ f ih =>
    intro st r w hst hz h0 h1 hR
    obtain ⟨ri, rfl⟩ : ∃ ri : Nat, r = (ri : Int) := ⟨r.toNat, by omega⟩
    have hri : ri < st.length := by rw [hst.len]; omega
    have hv : st[ri]? = some st[ri] := List.getElem?_eq_getElem hri
    have hcell := hR.bs.cell (j := ri) (ivs_get hv)
    generalize hvv : st[ri] = v at *
    refine rets_of_ok Tryz.func85 rfl rfl ?_
    refine ok_seq (fun M hM => ok_region rfl ?_); (try revert X); refine t85 ?_; intro X hX
    refine hM _ _ _ ?_; clear hM M
    refine ok_join [(0, .int .i64 (ri : Int)), (1, ptrOf c1), (2, ptrOf c2), (3, ptrOf c3)] (fun w' => w' = w ∧ ¬ ((ri : Int) = 0 ∨ v = 2)) ?_ ?_
    · refine ok_seq (fun M hM => ok_region rfl ?_)
      (try revert X); refine t85 ?_; intro X hX
      refine ⟨fun h => ?_, fun h => ?_⟩
      · have hr0 : ¬ ((ri : Int) = 0) := by simpa using h
        (try revert X); refine t85 ?_; intro X hX
        refine ⟨_, hR.k1, ?_⟩
        (try revert X); refine t85 ?_; intro X hX
        refine ⟨by omega, by omega, ?_⟩
        (try revert X); refine t85 ?_; intro X hX
        refine ⟨_, by simpa using hcell, ?_⟩
        simp only [hr0, decide_false]
        (try revert X); refine t85 ?_; intro X hX
        refine hM _ _ _ ?_; clear hM M
        refine ok_if rfl (fun hc => ?_) (fun hc => ok_skip ?_)
        · refine ok_seq (fun M hM => ok_region rfl ?_); (try revert X); refine t85 ?_; intro X hX
          refine hM _ _ _ ?_; clear hM M
          refine ok_ret ?_
          try simp only [zW, zU, reduceIte, Nat.reduceEqDiff, Nat.reduceAdd, reduceCtorEq, Q85]
          have : visitF H (f + 1) st (ri : Int) = (false, st) := by simp [visitF, hv, hc]
          rw [this]
          exact ⟨rfl, Chg.refl _ _, hR.bs⟩
        · try simp only [zW, zU, reduceIte, Nat.reduceEqDiff, Nat.reduceAdd, reduceCtorEq, Q85]
          have hr0' : ¬ ri = 0 := by omega
          simp [sub, Env.get, hr0', hc]
      · have hr0 : (ri : Int) = 0 := by simpa using h
        (try revert X); refine t85 ?_; intro X hX
        refine hM _ _ _ ?_; clear hM M
        refine ok_cond rfl (fun _ => ?_) (fun h => by cases h)
        refine ok_seq (fun M hM => ok_region rfl ?_); (try revert X); refine t85 ?_; intro X hX
        refine hM _ _ _ ?_; clear hM M
        refine ok_ret ?_
        try simp only [zW, zU, reduceIte, Nat.reduceEqDiff, Nat.reduceAdd, reduceCtorEq, Q85]
        have : visitF H (f + 1) st (ri : Int) = (false, st) := by simp [visitF, hr0]
        rw [this]
        exact ⟨rfl, Chg.refl _ _, hR.bs⟩
    rintro w' ⟨rfl, hn⟩
    have hr0 : ¬ ((ri : Int) = 0) := fun h => hn (.inl h)
    have hv2 : ¬ v = 2 := fun h => hn (.inr h)
    refine ok_join [(0, .int .i64 (ri : Int)), (1, ptrOf c1), (2, ptrOf c2), (3, ptrOf c3)] (fun w2 => w2 = w' ∧ ¬ v = 1) ?_ ?_
    · refine ok_seq (fun M hM => ok_region rfl ?_)
      (try revert X); refine t85 ?_; intro X hX
      refine ⟨_, hR.k1, ?_⟩
      (try revert X); refine t85 ?_; intro X hX
      refine ⟨by omega, by omega, ?_⟩
      (try revert X); refine t85 ?_; intro X hX
      refine ⟨_, by simpa using hcell, ?_⟩
      (try revert X); refine t85 ?_; intro X hX
      refine hM _ _ _ ?_; clear hM M
      refine ok_if rfl (fun hc => ?_) (fun hc => ok_skip ?_)
      · refine ok_seq (fun M hM => ok_region rfl ?_); (try revert X); refine t85 ?_; intro X hX
        refine hM _ _ _ ?_; clear hM M
        refine ok_ret ?_
        try simp only [zW, zU, reduceIte, Nat.reduceEqDiff, Nat.reduceAdd, reduceCtorEq, Q85]
        have : visitF H (f + 1) st (ri : Int) = (true, st) := by
          have hr0' : ¬ ri = 0 := by omega
          simp [visitF, hv, hc, hr0']
        rw [this]
        exact ⟨rfl, Chg.refl _ _, hR.bs⟩
      · try simp only [zW, zU, reduceIte, Nat.reduceEqDiff, Nat.reduceAdd, reduceCtorEq, Q85]
        simp [sub, Env.get, hc]
    rintro w2 ⟨rfl, hv1⟩
    have hv0 : v = 0 := by
      rcases hst.val v (List.mem_of_getElem? hv) with h | h | h
      · exact h
      · exact absurd h hv1
      · exact absurd h hv2
    subst hv0
    have hst1 := hst.set ri 1 (by simp)
    have hz1 : zer (st.set ri 1) + 1 ≤ f := by have := zer_set0 (v := 1) (by decide) hv; omega
    obtain ⟨i, o, hio, hi, ho, hoo⟩ := objAt_in (H := H) (r := (ri : Int)) (by omega) h1
    obtain rfl : ri = i + 1 := by omega
    have hoW : ∀ x ∈ o.list, 0 ≤ x.r ∧ x.r ≤ (H.length : Int) := hW o (List.mem_of_getElem? ho)
    have hvF : visitF H (f + 1) st ((i + 1 : Nat) : Int) = (if (visitL (visitF H f) (st.set (i + 1) 1) o.list).1 = true then (true, (visitL (visitF H f) (st.set (i + 1) 1) o.list).2) else (false, (visitL (visitF H f) (st.set (i + 1) 1) o.list).2.set (i + 1) 2)) := by
      have e1 : ((i : Int) + 1).toNat = i + 1 := by omega
      have e2 : ¬ ((i : Int) + 1 = 0) := by omega
      simp only [visitF, Int.toNat_natCast, hv, hoo, listO]
      rw [if_neg (by push_cast; simp [e2]), if_neg (by decide)]
    rw [hvF]
    refine ok_seq (fun M hM => ok_region rfl ?_)
    (try revert X); refine t85 ?_; intro X hX
    refine ⟨_, hR.k1, ?_⟩
    (try revert X); refine t85 ?_; intro X hX
    refine ⟨by omega, by omega, ?_⟩
    (try revert X); refine t85 ?_; intro X hX
    simp only [Nat.zero_add]
    refine Runs.store (b := B) (o := i + 1) (v := .int .i64 1) hR.bs Fx.zi3 rfl (by intro u hu; simp [Value.cells] at hu; subst hu; rfl) (by simp [ivs]; omega) (fun w3 hc3 hs3 hb3 => ?_)
    rw [show (Value.cells (.int .i64 1)).toList = [Value.int .i64 1] from rfl, ivs_set _ _ _ hri] at hb3
    (try revert X); refine t85 ?_; intro X hX
    refine hM _ _ _ ?_; clear hM M
    have hR3 := hR.chg ha hc3 hb3
    obtain ⟨p, g, hp, hg, hob⟩ := hR3.hp.at_ ho
    obtain ⟨A, c, hlc, hls, hll⟩ := hob.list
    obtain ⟨Av, cv, hvs, hvlen, hvcell⟩ := hR3.hp.sli hl
    have hL : (ps.map fun p => [ptrOf p]).length = H.length := by simp [hR3.hp.lenp]
    rw [hL] at hvs
    subst hvs
    obtain ⟨b, off, rfl, hcc⟩ := hvcell i [ptrOf p] (by rw [List.getElem?_map, hp]; rfl)
    have hcc0 := hcc 0 _ rfl
    refine ok_seq (fun M0 hM0 => ?_)
    refine ok_seq (fun M hM => ok_region rfl ?_)
    (try revert X); refine t85 ?_; intro X hX
    refine ⟨_, hR3.k2, ?_⟩
    (try revert X); refine t85 ?_; intro X hX
    refine ⟨_, hR3.hp.head.cell (j := 0) rfl, ?_⟩
    (try revert X); refine t85 ?_; intro X hX
    refine ⟨by simp only [inI]; omega, ?_⟩
    (try revert X); refine t85 ?_; intro X hX
    refine ⟨by omega, by omega, ?_⟩
    (try revert X); refine t85 ?_; intro X hX
    have e5 : (((i + 1 : Nat) : Int) - 1).toNat = i := by omega
    refine ⟨_, by rw [e5]; simpa [add_at] using hcc0, ?_⟩
    (try revert X); refine t85 ?_; intro X hX
    refine ⟨_, hlc, ?_⟩
    (try revert X); refine t85 ?_; intro X hX
    refine hM _ _ _ ?_; clear hM M
    refine ok_block ?_
    refine ok_loop (S := Nat × List Int) (fun s => [(0, .int .i64 ((i + 1 : Nat) : Int)), (1, ptrOf c1), (2, ptrOf c2), (3, ptrOf c3), (36, .slice A o.list.length c), (37, .int .i64 (o.list.length : Int)), (38, .int .i64 (s.1 : Int))])
      (fun s w4 => s.1 ≤ o.list.length ∧ OkSt (H.length + 1) s.2 ∧ zer s.2 + 1 ≤ f ∧ RW w4 B c1 c2 c3 hb rb (.slice (some ⟨b, off, none⟩) H.length cv) ps gs H s.2 ∧ Chg (· = B) w3 w4 ∧ visitL (visitF H f) (st.set (i + 1) 1) o.list = visitL (visitF H f) s.2 (o.list.drop s.1)) (fun s => o.list.length - s.1) (0, st.set (i + 1) 1) ?_ ?_ ?_
    · simp [sub, Env.get]
    · exact ⟨Nat.zero_le _, hst1, hz1, hR3, Chg.refl _ _, by simp⟩
    rintro ⟨j, s⟩ w4 ⟨hj, hs4, hz4, hR4, hc4, hvl⟩
    simp only at hj hs4 hz4 hR4 hvl ⊢
    refine ok_seq (fun M hM => ok_region rfl ?_); (try revert X); refine t85 ?_; intro X hX
    refine hM _ _ _ ?_; clear hM M
    refine ok_seq (fun M1 hM1 => ?_)
    refine ok_if rfl (fun hc => ok_skip ?_) (fun hc => ok_exit ?_)
    rotate_left
    · try simp only [zW, zU, reduceIte, Nat.reduceEqDiff, Nat.reduceAdd, reduceCtorEq, Q85]
      refine hM0 _ _ _ ?_; clear hM0 M0 hM1 M1
      rw [List.drop_of_length_le (by omega)] at hvl
      simp only [visitL] at hvl
      rw [hvl]
      have hri4 : i + 1 < s.length := by rw [hs4.len]; omega
      refine ok_seq (fun M hM => ok_region rfl ?_)
      (try revert X); refine t85 ?_; intro X hX
      refine ⟨_, hR4.k1, ?_⟩
      (try revert X); refine t85 ?_; intro X hX
      refine ⟨by omega, by omega, ?_⟩
      (try revert X); refine t85 ?_; intro X hX
      simp only [Nat.zero_add]
      refine Runs.store (b := B) (o := i + 1) (v := .int .i64 2) hR4.bs Fx.zi3 rfl (by intro u hu; simp [Value.cells] at hu; subst hu; rfl) (by simp [ivs]; omega) (fun w5 hc5 hs5 hb5 => ?_)
      rw [show (Value.cells (.int .i64 2)).toList = [Value.int .i64 2] from rfl, ivs_set _ _ _ hri4] at hb5
      (try revert X); refine t85 ?_; intro X hX
      refine hM _ _ _ ?_; clear hM M
      refine ok_seq (fun M hM => ok_region rfl ?_); (try revert X); refine t85 ?_; intro X hX
      refine hM _ _ _ ?_; clear hM M
      refine ok_ret ?_
      try simp only [zW, zU, reduceIte, Nat.reduceEqDiff, Nat.reduceAdd, reduceCtorEq, Q85]
      exact ⟨hc3.trans (hc4.trans hc5), hb5⟩
    · try simp only [zW, zU, reduceIte, Nat.reduceEqDiff, Nat.reduceAdd, reduceCtorEq, Q85]
      refine hM1 _ _ _ ?_; clear hM1 M1
      have hjl : j < o.list.length := by omega
      have hob4 := hR4.hp.obj i p g o hp hg ho
      obtain ⟨A', c', hlc', hls', -⟩ := hob4.list
      have hpB : ¬ p = B := ha.nf p (.inr (.inr (.inl (List.mem_of_getElem? hp))))
      rw [hc4.cell hlc hpB] at hlc'
      injection hlc' with hlc'
      injection hlc' with hA _ hcc'
      subst hA; subst hcc'
      have hxj : o.list[j]? = some o.list[j] := List.getElem?_eq_getElem hjl
      have hxr := hoW _ (List.getElem_mem hjl)
      generalize hx : o.list[j] = x at hxj hxr
      have hdr : o.list.drop j = x :: o.list.drop (j + 1) := by rw [List.drop_eq_getElem_cons hjl, hx]
      rw [hdr] at hvl
      simp only [visitL] at hvl
      obtain ⟨A2, c2', h2, -, hcel⟩ := hls'
      injection h2 with h2a h2b h2c
      subst h2a
      obtain ⟨bb, oo, rfl, hce⟩ := hcel j x.row (by rw [List.getElem?_map, hxj]; rfl)
      refine ok_seq (fun M1 hM1 => ok_block ?_)
      refine ok_seq (fun M hM => ok_region rfl ?_)
      (try revert X); refine t85 ?_; intro X hX
      refine ⟨by omega, by omega, ?_⟩
      (try revert X); refine t85 ?_; intro X hX
      refine ⟨x.row, rfl, by simpa using hce, ?_⟩
      (try revert X); refine t85 ?_; intro X hX
      refine Runs.alloc Fx.zi38 (fun w5 he5 hs5 hb5 => ?_)
      generalize hB5 : w4.heap.size = B5 at hs5 hb5
      (try revert X); refine t85 ?_; intro X hX
      refine Runs.store hb5 Fx.zi38 rfl (by intro u hu; simp [Value.cells, Wd.row] at hu; rcases hu with rfl | rfl | rfl <;> rfl) (by simp [Value.cells]) (fun w6 hc6 hs6 hb6 => ?_)
      rw [splice_all _ _ (by simp [Value.cells])] at hb6
      simp only [Value.cells] at hb6
      have he6 : Ext w4 w6 := he5.chg_trans hc6 (fun i hi => by omega)
      have hR6 := hR4.ext ha he6
      (try revert X); refine t85 ?_; intro X hX
      refine hM _ _ _ ?_; clear hM M
      refine ok_seq (fun M hM => ok_region rfl ?_)
      (try revert X); refine t85 ?_; intro X hX
      refine ⟨_, hR6.k3, ?_⟩
      (try revert X); refine t85 ?_; intro X hX
      refine ⟨_, hb6.cell (j := 2) (by rfl : _ = some (Value.int .i64 x.r)), ?_⟩
      (try revert X); refine t85 ?_; intro X hX
      refine Inv.clos (cap := [ptrOf c1, ptrOf c2, ptrOf c3]) Fx.en85 (ih s x.r w6 hs4 hz4 hxr.1 hxr.2 hR6) ?_
      rintro v w7 ⟨rfl, hc7, hb7⟩
      have hc47 : Chg (· = B) w3 w7 := hc4.trans ((he6.chg _).trans hc7)
      (try revert X); refine t85 ?_; intro X hX
      refine hM _ _ _ ?_; clear hM M
      cases hres : (visitF H f s x.r).1 with
      | true =>
        rw [hres] at hvl
        simp only [if_true] at hvl
        refine ok_cond (b := true) rfl (fun _ => ?_) (fun h => by cases h)
        refine ok_seq (fun M hM => ok_region rfl ?_); (try revert X); refine t85 ?_; intro X hX
        refine hM _ _ _ ?_; clear hM M
        refine ok_ret ?_
        try simp only [zW, zU, reduceIte, Nat.reduceEqDiff, Nat.reduceAdd, reduceCtorEq, Q85]
        rw [hvl]
        exact ⟨rfl, hc3.trans hc47, hb7⟩
      | false =>
        rw [hres] at hvl
        simp only [Bool.false_eq_true, if_false] at hvl
        refine ok_cond (b := false) rfl (fun h => by cases h) (fun _ => ok_skip ?_)
        try simp only [zW, zU, reduceIte, Nat.reduceEqDiff, Nat.reduceAdd, reduceCtorEq, Q85]
        refine hM1 _ _ _ ?_; clear hM1 M1
        refine ok_region rfl ?_
        (try revert X); refine t85 ?_; intro X hX
        refine ⟨by simp only [inI]; omega, ?_⟩
        (try revert X); refine t85 ?_; intro X hX
        have hin := visitF_inv (H := H) f s x.r hs4
        exact ⟨(j + 1, (visitF H f s x.r).2), by simp [sub, Env.get], ⟨by omega, hin.1, by simp only; omega, hR6.chg ha hc7 hb7, hc47, hvl⟩, by omega⟩

-- -- function 86
set_option maxHeartbeats 4000000 in
set_option maxRecDepth 8000 in
theorem ring2_ok (w : World) (x : Wd) (c1 c2 c3 : Nat) (hc : w.cell? ⟨c3, 0, none⟩ = some (.func (.func 85) #[] #[ptrOf c1, ptrOf c2, ptrOf c3])) {R : Value → World → Prop}
    (h : ∀ w', Ext w w' → Rets Tryz.prog 85 [.int .i64 x.r, ptrOf c1, ptrOf c2, ptrOf c3] w' R) : Rets Tryz.prog 86 [wv x, ptrOf c3] w R := by
  refine rets_of_ok Tryz.func86 rfl rfl ?_
  refine ok_seq (fun M hM => ok_region rfl ?_)
  (try revert X); refine t86 ?_; intro X hX
  refine Runs.box (fun w1 he1 hz1 hb1 => ?_)
  simp only [Value.cells, Wd.row] at hb1
  (try revert X); refine t86 ?_; intro X hX
  refine hM _ _ _ ?_; clear hM M
  refine ok_seq (fun M hM => ok_region rfl ?_)
  (try revert X); refine t86 ?_; intro X hX
  refine ⟨_, he1.cell hc, ?_⟩
  (try revert X); refine t86 ?_; intro X hX
  refine ⟨_, hb1.cell (j := 2) rfl, ?_⟩
  (try revert X); refine t86 ?_; intro X hX
  refine Inv.clos (cap := [ptrOf c1, ptrOf c2, ptrOf c3]) Fx.en85 (h w1 he1) ?_
  rintro v w7 hR
  (try revert X); refine t86 ?_; intro X hX
  refine hM _ _ _ ?_; clear hM M
  refine ok_ret ?_
  try simp only [zW, zU, reduceIte, Nat.reduceEqDiff, Nat.reduceAdd, reduceCtorEq, Q86]
  exact hR

theorem zer_rep (n : Nat) : zer (List.replicate n 0) = n := by
  unfold zer
  rw [List.countP_replicate]; simp
theorem visitL_take (g : List Int → Int → Bool × List Int) (st : List Int) (l : List Wd) (i : Nat) (x : Wd) (hx : l[i]? = some x) : l.drop i = x :: l.drop (i + 1) := by
  have hi := (List.getElem?_eq_some_iff.1 hx).1
  rw [List.drop_eq_getElem_cons hi]
  rw [List.getElem?_eq_getElem hi] at hx
  rw [Option.some.inj hx]

-- -- function 45
set_option maxHeartbeats 4000000 in
set_option maxRecDepth 8000 in
theorem ring_ok (w : World) (hb rb : Nat) (H : List Ob) (F : Nat → Prop) (hH : HeapW w hb rb H F) (hl : H.length ≤ 1073741824) (hW : Wf H) (lv : Value) (l : List Wd) (hv : SlW w lv l) (hlr : ∀ x ∈ l, 0 ≤ x.r ∧ x.r ≤ (H.length : Int)) :
    Rets Tryz.prog 45 [ptrOf hb, lv] w (fun v w' => v = .bool (ringF H l) ∧ Ext w w') := by
  obtain ⟨A, c, rfl, hlen, hcell⟩ := id hv
  rw [wd_len] at hlen ⊢
  obtain ⟨vs, ps, gs, hR, hf, hrb⟩ := id hH
  obtain ⟨Av, cv, hvs, hvlen, hvcell⟩ := hR.sli hl
  have hL : (ps.map fun p => [ptrOf p]).length = H.length := by simp [hR.lenp]
  rw [hL] at hvs
  subst hvs
  have hrbs := hR.rules.lt
  refine rets_of_ok Tryz.func45 rfl rfl ?_
  refine ok_seq (fun M hM => ok_region rfl ?_)
  (try revert X); refine t45 ?_; intro X hX
  refine Runs.box (fun w1 he1 hz1 hb1 => ?_)
  generalize hB1 : w.heap.size = B1 at hz1 hb1
  simp only [Value.cells] at hb1
  (try revert X); refine t45 ?_; intro X hX
  refine hM _ _ _ ?_; clear hM M
  refine ok_seq (fun M hM => ok_region rfl ?_)
  (try revert X); refine t45 ?_; intro X hX
  refine ⟨_, hb1.cell (j := 0) rfl, ?_⟩
  (try revert X); refine t45 ?_; intro X hX
  refine ⟨_, (hR.head.ext he1).cell (j := 0) rfl, ?_⟩
  (try revert X); refine t45 ?_; intro X hX
  refine ⟨by simp only [inI]; omega, ?_⟩
  (try revert X); refine t45 ?_; intro X hX
  refine Runs.make1 Fx.un33 Fx.zi3 rfl (by omega) (by omega) (by omega) (fun w2 he2 hz2 hb2 => ?_)
  generalize hB2 : w1.heap.size = B2 at hz2 hb2
  have hto : ((H.length : Int) + 1).toNat = H.length + 1 := by omega
  rw [hto] at hb2 ⊢
  (try revert X); refine t45 ?_; intro X hX
  refine Runs.alloc Fx.zi33 (fun w3 he3 hz3 hb3 => ?_)
  generalize hB3 : w2.heap.size = B3 at hz3 hb3
  simp only [Value.cells] at hb3
  (try revert X); refine t45 ?_; intro X hX
  refine Runs.store hb3 Fx.zi33 rfl (by intro u hu; simp [Value.cells] at hu; subst hu; rfl) (by simp) (fun w4 hc4 hz4 hb4 => ?_)
  rw [splice_all _ _ (by simp [Value.cells])] at hb4
  simp only [Value.cells] at hb4
  (try revert X); refine t45 ?_; intro X hX
  refine hM _ _ _ ?_; clear hM M
  refine ok_seq (fun M hM => ok_region rfl ?_)
  (try revert X); refine t45 ?_; intro X hX
  refine Runs.alloc Fx.zi117 (fun w5 he5 hz5 hb5 => ?_)
  generalize hB5 : w4.heap.size = B5 at hz5 hb5
  (try revert X); refine t45 ?_; intro X hX
  refine hM _ _ _ ?_; clear hM M
  refine ok_seq (fun M hM => ok_region rfl ?_)
  (try revert X); refine t45 ?_; intro X hX
  refine Runs.store hb5 Fx.zi117 rfl (by intro u hu; simp [Value.cells] at hu; subst hu; rfl) (by simp [Value.cells]) (fun w6 hc6 hz6 hb6 => ?_)
  rw [splice_all _ _ (by simp [Value.cells])] at hb6
  simp only [Value.cells] at hb6
  have he13 : Ext w w3 := he1.trans (he2.trans he3)
  have he14 : Ext w w4 := he13.chg_trans hc4 (fun k hk => by omega)
  have he16 : Ext w w6 := (he14.trans he5).chg_trans hc6 (fun k hk => by omega)
  have hFs : ∀ k, Foot hb (.slice Av H.length cv) ps gs k → k < w.heap.size := fun k hk => (hf k hk).2
  have ha : Apart B2 B3 B1 B5 hb rb (.slice Av H.length cv) ps gs := ⟨by omega, by omega, by omega, by omega, fun k hk => by have := hFs k hk; omega⟩
  have hR6 : RW w6 B2 B3 B1 B5 hb rb (.slice Av H.length cv) ps gs H (List.replicate (H.length + 1) 0) := by
    refine ⟨?_, ?_, ?_, hb6.cell (j := 0) rfl, hR.chg (he16.chg (fun _ => False)) (fun _ _ => id) id⟩
    · have : Blk w6 B2 (List.replicate (H.length + 1) (Value.int .i64 0)) 3 := (((hb2.ext he3).chg hc4 (by omega)).ext he5).chg hc6 (by omega)
      simpa [ivs] using this
    · exact hc6.cell (he5.cell (hb4.cell (j := 0) rfl)) (by simp only; omega)
    · exact hc6.cell (he5.cell (hc4.cell ((he2.trans he3).cell (hb1.cell (j := 0) rfl)) (by simp only; omega))) (by simp only; omega)
  (try revert X); refine t45 ?_; intro X hX
  refine hM _ _ _ ?_; clear hM M
  refine ok_seq (fun M hM => ok_region rfl ?_)
  (try revert X); refine t45 ?_; intro X hX
  refine Inv.call Fx.en47 (containsW_ok w6 A l.length c _ hlen
    (fun i w' => Chg (· = B2) w6 w' ∧ ∃ st, OkSt (H.length + 1) st ∧ zer st + 1 ≤ H.length + 2 ∧ RW w' B2 B3 B1 B5 hb rb (.slice Av H.length cv) ps gs H st ∧ visitL (visitF H (H.length + 2)) (List.replicate (H.length + 1) 0) l = visitL (visitF H (H.length + 2)) st (l.drop i))
    (fun w' => Chg (· = B2) w6 w' ∧ ringF H l = true) ?_ ?_) ?_
  · exact ⟨Chg.refl _ _, _, ⟨by simp, fun x hx => .inl (List.eq_of_mem_replicate hx)⟩, by rw [zer_rep]; omega, hR6, by simp⟩
  · rintro i w7 hil ⟨hc7, st, hst, hzs, hR7, hvl⟩
    have hxi : l[i]? = some l[i] := List.getElem?_eq_getElem hil
    have hxr := hlr _ (List.getElem_mem hil)
    generalize l[i] = x at hxi hxr
    rw [visitL_take (visitF H 0) st l i x hxi] at hvl
    simp only [visitL] at hvl
    obtain ⟨b, o, hA, hcc⟩ := hcell i x.row (by rw [List.getElem?_map, hxi]; rfl)
    have he17 : Ext w w7 := he16.chg_trans hc7 (fun k hk => by omega)
    have hin := visitF_inv (H := H) (H.length + 2) st x.r hst
    refine ⟨x.row, rfl, ⟨b, o, hA, he17.cellsAt hcc⟩, Inv.clos (cap := [ptrOf B5]) (R := fun v w8 => v = .bool (visitF H (H.length + 2) st x.r).1 ∧ Chg (· = B2) w7 w8 ∧ Blk w8 B2 (ivs (visitF H (H.length + 2) st x.r).2) 3) Fx.en86 (ring2_ok w7 x B3 B1 B5 hR7.k3 (fun w8 he8 => (visit_ok H hW hl B2 B3 B1 B5 hb rb _ ps gs ha (H.length + 2) st x.r w8 hst hzs hxr.1 hxr.2 (hR7.ext ha he8)).mono (fun v w9 h => ⟨h.1, (he8.chg _).trans h.2.1, h.2.2⟩))) ?_⟩
    rintro v w8 ⟨rfl, hc8, hb8⟩
    cases hres : (visitF H (H.length + 2) st x.r).1 with
    | true =>
      rw [hres] at hvl
      simp only [if_true] at hvl
      exact ⟨true, rfl, fun _ => ⟨hc7.trans hc8, by simp [ringF, hvl]⟩, fun h => by cases h⟩
    | false =>
      rw [hres] at hvl
      simp only [Bool.false_eq_true, if_false] at hvl
      exact ⟨false, rfl, fun h => (by cases h), fun _ => ⟨hc7.trans hc8, _, hin.1, by omega, hR7.chg ha hc8 hb8, hvl⟩⟩
  rintro v w7 ⟨b, rfl, hbt, hbf⟩
  (try revert X); refine t45 ?_; intro X hX
  refine hM _ _ _ ?_; clear hM M
  refine ok_ret ?_
  try simp only [zW, zU, reduceIte, Nat.reduceEqDiff, Nat.reduceAdd, reduceCtorEq, Q45]
  cases b with
  | true =>
    obtain ⟨hc7, hr⟩ := hbt rfl
    exact ⟨by rw [hr], he16.chg_trans hc7 (fun k hk => by omega)⟩
  | false =>
    obtain ⟨hc7, st, -, -, -, hvl⟩ := hbf rfl
    refine ⟨?_, he16.chg_trans hc7 (fun k hk => by omega)⟩
    rw [List.drop_of_length_le (Nat.le_refl _)] at hvl
    simp only [visitL] at hvl
    simp [ringF, hvl]
end Go.Proofs.YtldeokfhipjbfaaGreatDoor
/- Parts: how many parts a word's value has. -/
set_option linter.unusedVariables false
set_option linter.unusedSimpArgs false
namespace Go.Proofs.Vg
open Go Go.RowKit
def partsF (H : List Ob) : Nat → List Wd → Nat
  | 0, todo => match todo.getLast? with
    | none => 0
    | some _ => 1
  | f + 1, todo => match todo.getLast? with
    | none => 0
    | some x => 1 + partsF H f (todo.dropLast ++ argsOf H x)
theorem own_pre {w : World} {base e sz n cap g : Nat} {xs : List Value} (h : w.ownsRow base e sz (.slice (some ⟨g, 0, none⟩) (n + 1) cap) (n + 1) xs) : w.ownsRow base e sz (.slice (some ⟨g, 0, none⟩) n cap) n (xs.take (n * sz)) := by
  refine ⟨by rw [List.length_take, h.1, Nat.add_mul]; omega, ?_⟩
  rcases h.2 with ⟨h1, h2⟩ | ⟨g', cap', cur, h1, hb, hg, hn, hm, hs, ht⟩
  · omega
  · cases h1
    refine .inr ⟨g, cap, cur, rfl, hb, hg, by omega, hm, hs, ?_⟩
    rw [← ht, List.take_take]
    congr 1
    rw [Nat.add_mul]; omega
theorem flat_take (l : List Wd) (x : Wd) : ((l ++ [x]).map Wd.row).flatten.take (l.length * 3) = (l.map Wd.row).flatten := by
  rw [List.map_append, List.flatten_append]
  rw [List.take_append_of_le_length (by rw [flat_words' l]; exact Nat.le_refl _), List.take_of_length_le (by rw [flat_words' l]; exact Nat.le_refl _)]
where
  flat_words' (l : List Wd) : (l.map Wd.row).flatten.length = l.length * 3 := by
    induction l with
    | nil => rfl
    | cons x xs ih => rw [List.map_cons, List.flatten_cons, List.length_append, ih, List.length_cons]; simp [Wd.row]; omega
theorem last_split {l : List Wd} {n : Nat} (h : l.length = n + 1) : ∃ init x, l = init ++ [x] ∧ init.length = n := by
  refine ⟨l.dropLast, l.getLast (by intro e; subst e; simp at h), (List.dropLast_concat_getLast _).symm, by simp [h]⟩
end Go.Proofs.Vg
namespace Go.Proofs.YtldeokfhipjbfaaGreatDoor
open Go Go.Proofs.Vg Go.RowKit

-- -- function 39
set_option maxHeartbeats 4000000 in
set_option maxRecDepth 8000 in
theorem parts_ok (w : World) (hb rb : Nat) (H : List Ob) (F : Nat → Prop) (hH : HeapW w hb rb H F) (hl : H.length ≤ 1073741824) (hLim : ∀ x, (argsOf H x).length ≤ 1048576) (x : Wd) :
    Rets Tryz.prog 39 [ptrOf hb, wv x] w (fun v w' => v = .int .i64 (if rightW H x = true then (partsF H 100000 [x] : Int) else 0) ∧ Ext w w') := by
  refine rets_of_ok Tryz.func39 rfl rfl ?_
  refine ok_seq (fun M hM => ok_region rfl ?_)
  (try revert X); refine t39 ?_; intro X hX
  refine Runs.box (fun w1 he1 hz1 hb1 => ?_)
  generalize hB1 : w.heap.size = B1 at hz1 hb1
  simp only [Value.cells] at hb1
  (try revert X); refine t39 ?_; intro X hX
  refine hM _ _ _ ?_; clear hM M
  refine ok_join [(0, ptrOf hb), (3, ptrOf B1)] (fun w' => Ext w1 w' ∧ rightW H x = true) ?_ ?_
  · refine ok_seq (fun M hM => ok_region rfl ?_)
    (try revert X); refine t39 ?_; intro X hX
    refine Runs.ptrEq Fx.un25 ?_
    (try revert X); refine t39 ?_; intro X hX
    refine ⟨x.row, rfl, hb1.cells (o := 0) (fun j u hj => by simpa using hj), ?_⟩
    (try revert X); refine t39 ?_; intro X hX
    refine Inv.call Fx.en12 (right_ok w1 hb rb H F (hH.ext he1) hl x) ?_
    rintro v w2 ⟨rfl, he2⟩
    (try revert X); refine t39 ?_; intro X hX
    refine hM _ _ _ ?_; clear hM M
    cases hr : rightW H x with
    | true =>
      refine ok_cond (b := false) rfl (fun h => by cases h) (fun _ => ok_skip ?_)
      try simp only [zW, zU, reduceIte, Nat.reduceEqDiff, Nat.reduceAdd, reduceCtorEq, Q39]
      exact ⟨by simp [sub, Env.get], he2⟩
    | false =>
      refine ok_cond (b := true) rfl (fun _ => ?_) (fun h => by cases h)
      refine ok_seq (fun M hM => ok_region rfl ?_); (try revert X); refine t39 ?_; intro X hX
      refine hM _ _ _ ?_; clear hM M
      refine ok_ret ?_
      try simp only [zW, zU, reduceIte, Nat.reduceEqDiff, Nat.reduceAdd, reduceCtorEq, Q39]
      exact he1.trans he2
  rintro w2 ⟨he2, hr⟩
  rw [hr]
  simp only [if_true]
  have he02 := he1.trans he2
  refine ok_seq (fun M hM => ok_region rfl ?_); (try revert X); refine t39 ?_; intro X hX
  refine hM _ _ _ ?_; clear hM M
  refine ok_seq (fun M0 hM0 => ?_)
  refine ok_seq (fun M hM => ok_region rfl ?_)
  (try revert X); refine t39 ?_; intro X hX
  refine ⟨x.row, rfl, (hb1.ext he2).cells (o := 0) (fun j u hj => by simpa using hj), ?_⟩
  (try revert X); refine t39 ?_; intro X hX
  refine Runs.lit (cs := x.row) Fx.un29 Fx.zi38 (by decide) (by kernel_rfl) (by decide) (fun w3 he3 hs3 hb3 => ?_)
  generalize hB3 : w2.heap.size = B3 at hs3 hb3
  (try revert X); refine t39 ?_; intro X hX
  refine hM _ _ _ ?_; clear hM M
  have hs2 := he02.size
  refine ok_block ?_
  refine ok_loop (S := Nat × Value × List Wd) (fun s => [(0, ptrOf hb), (5, .int .i64 (s.1 : Int)), (6, s.2.1)])
    (fun s w' => Ext w w' ∧ s.1 ≤ 100000 ∧ s.2.2.length ≤ 1 + s.1 * 1048576 ∧ w'.ownsRow w.heap.size 38 3 s.2.1 s.2.2.length (s.2.2.map Wd.row).flatten ∧ partsF H 100000 [x] = s.1 + partsF H (100000 - s.1) s.2.2) (fun s => 100001 - s.1) (0, .slice (some ⟨B3, 0, none⟩) 1 1, [x]) ?_ ?_ ?_
  · simp [sub, Env.get]
  · exact ⟨he02.trans he3, by omega, by simp, ⟨by simp, .inr ⟨B3, 1, x.row.toArray, rfl, by omega, by simpa [Blk] using hb3, by simp, by simp [maxLen], by simp, by simp [Wd.row]⟩⟩, by simp⟩
  rintro ⟨n, va, todo⟩ w4 ⟨he4, hn, htl, hown, hpf⟩
  simp only at hn htl hown hpf ⊢
  have hSl : SlW w4 va todo := Sli.of_own hown rfl (fun r hr => (words_rows _ r hr).1) (by simp) (by omega)
  obtain ⟨A, c, hva, hlen, hcell⟩ := id hSl
  rw [wd_len] at hva
  subst hva
  refine ok_seq (fun M1 hM1 => ?_)
  refine ok_seq (fun M hM => ok_region rfl ?_); (try revert X); refine t39 ?_; intro X hX
  refine hM _ _ _ ?_; clear hM M
  refine ok_if rfl (fun hc => ok_skip ?_) (fun hc => ok_exit ?_)
  rotate_left
  · try simp only [zW, zU, reduceIte, Nat.reduceEqDiff, Nat.reduceAdd, reduceCtorEq, Q39]
    refine hM0 _ _ _ ?_; clear hM0 M0 hM1 M1
    have h0 : todo = [] := List.length_eq_zero_iff.1 (by omega)
    subst h0
    have hp0 : partsF H (100000 - n) [] = 0 := by cases (100000 - n) <;> rfl
    refine ok_seq (fun M hM => ok_region rfl ?_); (try revert X); refine t39 ?_; intro X hX
    refine hM _ _ _ ?_; clear hM M
    refine ok_ret ?_
    try simp only [zW, zU, reduceIte, Nat.reduceEqDiff, Nat.reduceAdd, reduceCtorEq, Q39]
    exact ⟨by rw [hpf, hp0]; simp, he4⟩
  try simp only [zW, zU, reduceIte, Nat.reduceEqDiff, Nat.reduceAdd, reduceCtorEq, Q39]
  refine hM1 _ _ _ ?_; clear hM1 M1
  obtain ⟨m, hm⟩ : ∃ m, todo.length = m + 1 := ⟨todo.length - 1, by omega⟩
  obtain ⟨init, y, rfl, hil⟩ := last_split hm
  subst hil
  refine ok_block ?_
  refine ok_join [(0, ptrOf hb), (5, .int .i64 ((n : Int) + 1)), (6, .slice A (init ++ [y]).length c)] (fun w' => w' = w4 ∧ n < 100000) ?_ ?_
  · refine ok_seq (fun M hM => ok_region rfl ?_)
    (try revert X); refine t39 ?_; intro X hX
    refine ⟨by simp only [inI]; omega, ?_⟩
    (try revert X); refine t39 ?_; intro X hX
    refine hM _ _ _ ?_; clear hM M
    refine ok_seq (fun M hM => ok_region rfl ?_); (try revert X); refine t39 ?_; intro X hX
    refine hM _ _ _ ?_; clear hM M
    refine ok_if rfl (fun hc => ok_exit ?_) (fun hc => ok_skip ?_)
    · try simp only [zW, zU, reduceIte, Nat.reduceEqDiff, Nat.reduceAdd, reduceCtorEq, Q39]
      refine hM0 _ _ _ ?_; clear hM0 M0
      have hn1 : n = 100000 := by omega
      subst hn1
      refine ok_seq (fun M hM => ok_region rfl ?_); (try revert X); refine t39 ?_; intro X hX
      refine hM _ _ _ ?_; clear hM M
      refine ok_ret ?_
      try simp only [zW, zU, reduceIte, Nat.reduceEqDiff, Nat.reduceAdd, reduceCtorEq, Q39]
      refine ⟨?_, he4⟩
      rw [hpf]
      simp [partsF]
    · try simp only [zW, zU, reduceIte, Nat.reduceEqDiff, Nat.reduceAdd, reduceCtorEq, Q39]
      exact ⟨by simp [sub, Env.get], by omega⟩
  rintro w5 ⟨rfl, hn1⟩
  obtain ⟨bb, oo, rfl, hce⟩ := hcell init.length y.row (by simp)
  have hbo : oo = 0 := by
    rcases hown.2 with ⟨h1, h2⟩ | ⟨g', cap', cur, h1, _⟩
    · cases h1
    · cases h1; rfl
  subst hbo
  have hyl := hLim y
  have elen : (((init ++ [y]).length : Int) - 1).toNat = init.length := by simp
  have hlen1 : (init ++ [y]).length = init.length + 1 := by simp
  have hcn : init.length + 1 ≤ c := by
    rcases hown.2 with ⟨h1, h2⟩ | ⟨g', cap', cur, h1, _, _, h3, _⟩
    · cases h1
    · cases h1; omega
  refine ok_seq (fun M hM => ok_region rfl ?_)
  (try revert X); refine t39 ?_; intro X hX
  refine ⟨by simp only [inI]; omega, ?_⟩
  (try revert X); refine t39 ?_; intro X hX
  refine ⟨by omega, by omega, ?_⟩
  (try revert X); refine t39 ?_; intro X hX
  refine ⟨y.row, rfl, by rw [elen]; simpa using hce, ?_⟩
  (try revert X); refine t39 ?_; intro X hX
  refine Runs.alloc Fx.zi38 (fun w6 he6 hs6 hb6 => ?_)
  generalize hB6 : w5.heap.size = B6 at hs6 hb6
  (try revert X); refine t39 ?_; intro X hX
  refine Runs.store hb6 Fx.zi38 rfl (by intro u hu; simp [Value.cells, Wd.row] at hu; rcases hu with rfl | rfl | rfl <;> rfl) (by simp [Value.cells]) (fun w7 hc7 hs7 hb7 => ?_)
  rw [splice_all _ _ (by simp [Value.cells])] at hb7
  simp only [Value.cells] at hb7
  have he57 : Ext w5 w7 := he6.chg_trans hc7 (fun k hk => by omega)
  (try revert X); refine t39 ?_; intro X hX
  refine hM _ _ _ ?_; clear hM M
  refine (ok_draw 7 [(true, false), (false, true), (false, true)] (Ext _) Fx.mixed (by decide) rfl (by decide +kernel) (by decide +kernel) (Ext.drew _) ?_)
  (try revert X); refine t39 ?_; intro X hX
  refine ⟨by simp only [inI]; omega, ?_⟩
  (try revert X); refine t39 ?_; intro X hX
  have hsl := fun (w' : World) => run_sliceAt (P := Tryz.prog) Fx.un29 Fx.zi38 (some ⟨bb, 0, none⟩) (init ++ [y]).length c none (some init.length) .i64 .i64 (by simp; omega) (by simp) w'
  simp only [Option.map_none, Option.map_some, Option.getD_none, Option.getD_some, Nat.sub_zero, Nat.zero_mul] at hsl
  rw [show (((init ++ [y]).length : Int) - 1) = (init.length : Int) by simp]
  rw [if_neg (by omega : ¬ c = 0)] at hsl
  simp only [add_at, Nat.add_zero] at hsl
  refine ⟨_, fun w' _ => hsl w', ?_⟩
  (try revert X); refine t39 ?_; intro X hX
  refine ⟨y.row, rfl, fun w' h => (hb7.ext h).cells (o := 0) (fun j u hj => by simpa using hj), ?_⟩
  (try revert X); refine t39 ?_; intro X hX
  intro w8 he8
  (try revert X); refine t39 ?_; intro X hX
  have he48 := he4.trans (he57.trans he8)
  refine Inv.call Fx.en79 (args_ok w8 hb rb H F (hH.ext he48) hl y) ?_
  rintro v w9 ⟨⟨A9, c9, rfl⟩, hsl9, he9, -⟩
  refine ⟨he8.trans he9, ?_⟩
  (try revert X); refine t39 ?_; intro X hX
  have hown9 := own_pre (hlen1 ▸ owns_chg' hown ((he57.trans (he8.trans he9)).chg (fun _ => False)) (fun _ _ h => h) : w9.ownsRow w.heap.size 38 3 (.slice (some ⟨bb, 0, none⟩) (init.length + 1) c) (init.length + 1) ((init ++ [y]).map Wd.row).flatten)
  rw [flat_take] at hown9
  have hs48 := he48.size
  have hs9 := he9.size
  refine Runs.appendR Fx.un29 Fx.zi38 rfl (by decide) hown9 (hsl9.ext he9) (words_rows _) (by simp [maxLen]; omega) (by simp; omega) (by omega) (fun v' w10 hown10 hg10 hblk => ?_)
  (try revert X); refine t39 ?_; intro X hX
  refine ⟨(n + 1, v', init ++ argsOf H y), by simp [sub, Env.get], ⟨?_, by omega, by simp; omega, ?_, ?_⟩, by omega⟩
  · exact (he48.trans he9).chg_trans (S := fun k => (Value.slice (some ⟨bb, 0, none⟩) init.length c).ownBlock = some k) ⟨hg10.os, hg10.tape, hg10.output, hg10.size, fun k hk hs => hg10.block k hk (fun e => hs e.symm)⟩ (fun k hk => (hown9.lt k hk).1)
  · simp only [List.length_append, List.map_append, List.flatten_append]
    rw [wd_len] at hown10
    exact hown10
  · rw [hpf]
    obtain ⟨d, hd⟩ : ∃ d, 100000 - n = d + 1 := ⟨100000 - n - 1, by omega⟩
    rw [hd, show 100000 - (n + 1) = d by omega]
    simp only [partsF, List.getLast?_concat, List.dropLast_concat]
    omega
end Go.Proofs.YtldeokfhipjbfaaGreatDoor
/- load: a word's value.  -/
set_option linter.unusedVariables false
set_option linter.unusedSimpArgs false
namespace Go.Proofs.Vg
open Go Go.RowKit
mutual
/-- What a word reads as. -/
def Lds (H : List Ob) : Wd → Val → Prop
  | x, .mk k n t args => if x.k = 0 ∨ x.k = 9 then k = 0 ∧ n = 0 ∧ t = ⟨#[]⟩ ∧ args = [] ∧ x.r = 0
    else if x.k = 3 then k = 3 ∧ n = 0 ∧ args = [] ∧ objAt H x.r = some (.text t)
    else 1 ≤ x.k ∧ x.k ≤ 8 ∧ k = x.k ∧ n = x.n ∧ t = ⟨#[]⟩ ∧ LdsL H (argsOf H x) args
def LdsL (H : List Ob) : List Wd → List Val → Prop
  | [], [] => True
  | x :: xs, v :: vs => Lds H x v ∧ LdsL H xs vs
  | _, _ => False
end
theorem LdsL.length {H : List Ob} : ∀ (xs : List Wd) (vs : List Val), LdsL H xs vs → xs.length = vs.length
  | [], [], _ => rfl
  | x :: xs, v :: vs, h => by simp only [LdsL] at h; simp [LdsL.length xs vs h.2]
  | [], _ :: _, h => by simp [LdsL] at h
  | _ :: _, [], h => by simp [LdsL] at h
theorem LdsL.get {H : List Ob} : ∀ (xs : List Wd) (vs : List Val), LdsL H xs vs → ∀ (i : Nat) (x : Wd) (v : Val), xs[i]? = some x → vs[i]? = some v → Lds H x v
  | [], [], _, i, x, v, h, _ => by simp at h
  | x :: xs, v :: vs, h, i, y, u, h1, h2 => by
    simp only [LdsL] at h
    cases i with
    | zero => simp at h1 h2; subst h1; subst h2; exact h.1
    | succ i => exact LdsL.get xs vs h.2 i y u (by simpa using h1) (by simpa using h2)
  | [], _ :: _, h, _, _, _, _, _ => by simp [LdsL] at h
  | _ :: _, [], h, _, _, _, _, _ => by simp [LdsL] at h
end Go.Proofs.Vg
namespace Go.Proofs.YtldeokfhipjbfaaGreatDoor
open Go Go.Proofs.Vg Go.RowKit

theorem Fx.zi34 : zinfo Tryz.prog 34 = some (some (.slice none 0 0), 1, 24) := by kernel_rfl
theorem rank_get {k : Int} (h1 : 1 ≤ k) (h2 : k ≤ 8) : rankL[k.toNat]? = some (.int .i64 k) := by
  have : k = 1 ∨ k = 2 ∨ k = 3 ∨ k = 4 ∨ k = 5 ∨ k = 6 ∨ k = 7 ∨ k = 8 := by omega
  rcases this with rfl | rfl | rfl | rfl | rfl | rfl | rfl | rfl <;> rfl

-- -- function 46
set_option maxHeartbeats 4000000 in
set_option maxRecDepth 8000 in
theorem load_ok (hb rb : Nat) (H : List Ob) (F : Nat → Prop) (hl : H.length ≤ 1073741824) (hLim : ∀ x, (argsOf H x).length ≤ 1048576) (mk : Nat) : ∀ (m : Nat) (u : Val) (x : Wd) (w : World), SizeOf.sizeOf u ≤ m → Lds H x u → HeapW w hb rb H F → Glob w mk →
    Rets Tryz.prog 46 [ptrOf hb, wv x] w (fun v w' => ∃ cs : List Value, v = .agg cs.toArray ∧ VRowS w' (fun k => w.heap.size ≤ k ∧ k < w'.heap.size) cs u ∧ Ext w w') := by
  intro m
  induction m with
  | zero => intro u x w hm; cases u; simp at hm
  | succ m ih =>
    rintro ⟨k, n, t, a⟩ x w hm hL hH hg
    have nilS : ∀ (w' : World) (S : Nat → Prop), SliS w' S 4 (.slice none 0 0) [] := fun w' S => ⟨none, 0, rfl, by simp, fun j row hj => by simp at hj⟩
    simp only [Lds] at hL
    refine rets_of_okC Tryz.func46 rfl rfl ?_
    refine ok_seq (fun M hM => ok_region rfl ?_)
    (try revert X); refine t46 ?_; intro X hX
    refine Runs.box (fun w1 he1 hz1 hb1 => ?_)
    generalize hB1 : w.heap.size = B1 at hz1 hb1
    simp only [Value.cells] at hb1
    (try revert X); refine t46 ?_; intro X hX
    refine Runs.alloc Fx.zi36 (fun w2 he2 hz2 hb2 => ?_)
    generalize hB2 : w1.heap.size = B2 at hz2 hb2
    simp only [Value.cells] at hb2
    (try revert X); refine t46 ?_; intro X hX
    refine hM _ _ _ ?_; clear hM M
    have hb12 := hb1.ext he2
    refine ok_seq (fun M hM => ok_region rfl ?_)
    (try revert X); refine t46 ?_; intro X hX
    refine ⟨_, hb12.cell (j := 1) (by rfl : _ = some (Value.int .i64 x.n)), ?_⟩
    (try revert X); refine t46 ?_; intro X hX
    refine ⟨_, w2, run_build (P := Tryz.prog) w2 36 _ #[.int .i64 0, .int .i64 x.n, .string ⟨#[]⟩, .slice none 0 0] (by kernel_rfl), ?_⟩
    (try revert X); refine t46 ?_; intro X hX
    refine Runs.alloc Fx.zi36 (fun w3 he3 hz3 hb3 => ?_)
    generalize hB3 : w2.heap.size = B3 at hz3 hb3
    simp only [Value.cells] at hb3
    (try revert X); refine t46 ?_; intro X hX
    refine Runs.store hb3 Fx.zi36 rfl (by intro u hu; simp [Value.cells] at hu; rcases hu with rfl | rfl | rfl | rfl <;> rfl) (by simp) (fun w4 hc4 hz4 hb4 => ?_)
    rw [splice_all _ _ (by simp [Value.cells])] at hb4
    simp only [Value.cells] at hb4
    have he04 : Ext w w4 := ((he1.trans he2).trans he3).chg_trans hc4 (fun i hi => by omega)
    have hb14 : Blk w4 B1 x.row 38 := (hb12.ext he3).chg hc4 (by omega)
    have hb24 : Blk w4 B2 _ 36 := (hb2.ext he3).chg hc4 (by omega)
    (try revert X); refine t46 ?_; intro X hX
    refine hM _ _ _ ?_; clear hM M
    refine ok_join [(0, ptrOf hb), (3, ptrOf B1), (4, ptrOf B2), (5, ptrOf B3)] (fun w' => w' = w4 ∧ ¬ (x.k = 0 ∨ x.k = 9) ∧ ¬ x.k = 3) ?_ ?_
    · refine ok_seq (fun M hM => ok_region rfl ?_)
      (try revert X); refine t46 ?_; intro X hX
      refine ⟨_, hb14.cell (j := 0) (by rfl : _ = some (Value.int .i64 x.k)), ?_⟩
      (try revert X); refine t46 ?_; intro X hX
      refine hM _ _ _ ?_; clear hM M
      refine ok_block ?_
      refine ok_join [(0, ptrOf hb), (3, ptrOf B1), (4, ptrOf B2), (5, ptrOf B3), (12, .int .i64 x.k), (13, .bool (decide (x.k = 0 ∨ x.k = 9)))] (fun w' => w' = w4) ?_ ?_
      · refine ok_seq (fun M hM => ok_region rfl ?_); (try revert X); refine t46 ?_; intro X hX
        refine hM _ _ _ ?_; clear hM M
        refine ok_if rfl (fun hk => ok_skip ?_) (fun hk => ?_)
        · try simp only [zW, zU, reduceIte, Nat.reduceEqDiff, Nat.reduceAdd, reduceCtorEq, Q46]
          simp [sub, Env.get, hk]
        · refine ok_region rfl ?_
          (try revert X); refine t46 ?_; intro X hX
          simp [sub, Env.get, hk]
      rintro w' rfl
      refine ok_if rfl (fun hk => ?_) (fun hk => ?_)
      · rw [if_pos hk] at hL
        obtain ⟨rfl, rfl, rfl, rfl, -⟩ := hL
        refine ok_seq (fun M hM => ok_region rfl ?_)
        (try revert X); refine t46 ?_; intro X hX
        refine ⟨_, w', run_build (P := Tryz.prog) w' 36 _ #[.int .i64 0, .int .i64 0, .string ⟨#[]⟩, .slice none 0 0] (by kernel_rfl), ?_⟩
        (try revert X); refine t46 ?_; intro X hX
        refine Runs.store hb24 Fx.zi36 rfl (by intro u hu; simp [Value.cells] at hu; rcases hu with rfl | rfl | rfl <;> rfl) (by simp) (fun w5 hc5 hs5 hb5 => ?_)
        rw [splice_all _ _ (by simp [Value.cells])] at hb5
        simp only [Value.cells] at hb5
        (try revert X); refine t46 ?_; intro X hX
        refine hM _ _ _ ?_; clear hM M
        refine ok_ret ?_
        try simp only [zW, zU, reduceIte, Nat.reduceEqDiff, Nat.reduceAdd, reduceCtorEq, Q46]
        refine ⟨_, rfl, hb5.cells (o := 0) (row := [.int .i64 0, .int .i64 0, .string ⟨#[]⟩, .slice none 0 0]) (fun j u hj => by simpa using hj), _, rfl, ?_, he04.chg_trans hc5 (fun i hi => by omega)⟩
        simp only [VRowS]
        exact ⟨_, rfl, rfl, rfl, [], nilS _ _, by simp only [VRowsS]⟩
      · rw [if_neg hk] at hL
        refine ok_seq (fun M hM => ok_region rfl ?_); (try revert X); refine t46 ?_; intro X hX
        refine hM _ _ _ ?_; clear hM M
        refine ok_if rfl (fun hk3 => ?_) (fun hk3 => ok_skip ?_)
        rotate_left
        · try simp only [zW, zU, reduceIte, Nat.reduceEqDiff, Nat.reduceAdd, reduceCtorEq, Q46]
          exact ⟨by simp [sub, Env.get], hk, hk3⟩
        rw [if_pos hk3] at hL
        obtain ⟨rfl, rfl, rfl, hobj⟩ := hL
        obtain ⟨vs, ps, gs, hR, -⟩ := hH.ext he04
        refine ok_seq (fun M hM => ok_region rfl ?_)
        (try revert X); refine t46 ?_; intro X hX
        refine ⟨_, hb14.cell (j := 2) (by rfl : _ = some (Value.int .i64 x.r)), ?_⟩
        (try revert X); refine t46 ?_; intro X hX
        refine Inv.call Fx.en57 (object_ok w' hb rb vs ps gs H hR hl x.r) ?_
        rintro v w5 ⟨rfl, hv⟩
        rcases hv with ⟨ho, rfl⟩ | ⟨i, p, g, o, ho, hr, hi, hp, hgg, rfl⟩
        · rw [hobj] at ho; cases ho
        rw [hobj] at ho
        cases ho
        have hob := hR.obj i p g _ hp hgg hi
        (try revert X); refine t46 ?_; intro X hX
        refine ⟨_, Blk.cell hob (j := 1) rfl, ?_⟩
        (try revert X); refine t46 ?_; intro X hX
        refine ⟨_, w5, run_build (P := Tryz.prog) w5 36 _ #[.int .i64 3, .int .i64 0, .string t, .slice none 0 0] (by kernel_rfl), ?_⟩
        (try revert X); refine t46 ?_; intro X hX
        refine Runs.store hb24 Fx.zi36 rfl (by intro u hu; simp [Value.cells] at hu; rcases hu with rfl | rfl | rfl | rfl <;> rfl) (by simp) (fun w6 hc6 hs6 hb6 => ?_)
        rw [splice_all _ _ (by simp [Value.cells])] at hb6
        simp only [Value.cells] at hb6
        (try revert X); refine t46 ?_; intro X hX
        refine hM _ _ _ ?_; clear hM M
        refine ok_ret ?_
        try simp only [zW, zU, reduceIte, Nat.reduceEqDiff, Nat.reduceAdd, reduceCtorEq, Q46]
        refine ⟨_, rfl, hb6.cells (o := 0) (row := [.int .i64 3, .int .i64 0, .string t, .slice none 0 0]) (fun j u hj => by simpa using hj), _, rfl, ?_, he04.chg_trans hc6 (fun i hi => by omega)⟩
        simp only [VRowS]
        exact ⟨_, rfl, rfl, rfl, [], nilS _ _, by simp only [VRowsS]⟩
    rintro w' ⟨rfl, hk, hk3⟩
    rw [if_neg hk, if_neg hk3] at hL
    obtain ⟨h1, h8, rfl, rfl, rfl, hLL⟩ := hL
    have hlen := LdsL.length _ _ hLL
    have hLimx := hLim x
    have hs04 := he04.size
    refine ok_seq (fun M hM => ok_region rfl ?_)
    (try revert X); refine t46 ?_; intro X hX
    refine ⟨_, hb14.cell (j := 0) (by rfl : _ = some (Value.int .i64 x.k)), ?_⟩
    (try revert X); refine t46 ?_; intro X hX
    refine ⟨by omega, by omega, ?_⟩
    (try revert X); refine t46 ?_; intro X hX
    refine ⟨.int .i64 x.k, by have := (hg.ext he04).rk x.k.toNat _ (rank_get h1 h8); simpa [add_at] using this, ?_⟩
    (try revert X); refine t46 ?_; intro X hX
    refine Runs.store hb4 Fx.zi3 rfl (by intro u hu; simp [Value.cells] at hu; subst hu; rfl) (by simp) (fun w5 hc5 hs5 hb5 => ?_)
    simp only [splice, Value.cells, List.take_zero, List.nil_append, List.singleton_append, List.length_singleton, Nat.zero_add, List.drop_succ_cons, List.drop_zero] at hb5
    have he05 : Ext w w5 := he04.chg_trans hc5 (fun i hi => by omega)
    have hb15 : Blk w5 B1 x.row 38 := hb14.chg hc5 (by omega)
    have hb25 := hb24.chg hc5 (by omega)
    (try revert X); refine t46 ?_; intro X hX
    refine hM _ _ _ ?_; clear hM M
    refine ok_seq (fun M0 hM0 => ?_)
    refine ok_seq (fun M hM => ok_region rfl ?_)
    (try revert X); refine t46 ?_; intro X hX
    refine ⟨x.row, rfl, hb15.cells (o := 0) (fun j u hj => by simpa using hj), ?_⟩
    (try revert X); refine t46 ?_; intro X hX
    refine Inv.call Fx.en79 (args_ok w5 hb rb H _ (hH.tight.ext he05) hl x) ?_
    rintro v w6 ⟨⟨A, c, rfl⟩, hsl, he6, gl, hWL, hgl⟩
    (try revert X); refine t46 ?_; intro X hX
    refine hM _ _ _ ?_; clear hM M
    have hl1 := (hb15.ext he6).lt
    have hl2 := (hb25.ext he6).lt
    have hl5 := (hb5.ext he6).lt
    have hs06 := (he05.trans he6).size
    refine ok_block ?_
    refine ok_loop (S := Nat × Value × List (List Value)) (fun s => [(0, ptrOf hb), (4, ptrOf B2), (5, ptrOf B3), (34, .slice A (argsOf H x).length c), (35, .int .i64 ((argsOf H x).length : Int)), (36, .int .i64 (s.1 : Int))])
      (fun s w' => Ext w w' ∧ s.1 ≤ a.length ∧ w6.heap.size ≤ w'.heap.size ∧ (∀ k, k < w6.heap.size → k ≠ B3 → w'.heap[k]? = w6.heap[k]?) ∧ Blk w' B3 [.int .i64 x.k, .int .i64 x.n, .string ⟨#[]⟩, s.2.1] 36 ∧ w'.ownsRow w6.heap.size 36 4 s.2.1 s.1 s.2.2.flatten ∧
        VRowsS w' (fun k => w.heap.size ≤ k ∧ k < w'.heap.size ∧ s.2.1.ownBlock ≠ some k ∧ k ≠ B3 ∧ k ≠ B2) s.2.2 (a.take s.1)) (fun s => a.length - s.1) (0, .slice none 0 0, []) ?_ ?_ ?_
    · simp [sub, Env.get]
    · exact ⟨he05.trans he6, Nat.zero_le _, Nat.le_refl _, fun _ _ _ => rfl, hb5.ext he6, World.ownsRow_nil _ _ _ _, by simp only [List.take_zero, VRowsS]⟩
    rintro ⟨i, va, rs⟩ w7 ⟨he7, hi, hs7, hkeep, hb7, hown, hrs⟩
    simp only at hi hb7 hown hrs ⊢
    have hrl := hrs.length
    rw [List.length_take, Nat.min_eq_left hi] at hrl
    refine ok_seq (fun M hM => ok_region rfl ?_); (try revert X); refine t46 ?_; intro X hX
    refine hM _ _ _ ?_; clear hM M
    refine ok_seq (fun M1 hM1 => ?_)
    refine ok_if rfl (fun hc => ok_skip ?_) (fun hc => ok_exit ?_)
    rotate_left
    · try simp only [zW, zU, reduceIte, Nat.reduceEqDiff, Nat.reduceAdd, reduceCtorEq, Q46]
      refine hM0 _ _ _ ?_; clear hM0 M0 hM1 M1
      have hia : i = a.length := by omega
      subst hia
      rw [List.take_of_length_le (Nat.le_refl _)] at hrs
      have hb27 : Blk w7 B2 _ 36 := (hkeep B2 hl2 (by omega)).trans (hb25.ext he6)
      have hva1 : va.oneCell' = true ∧ va.cells = #[va] := by
        rcases hown.2 with ⟨rfl, _⟩ | ⟨g, cap, cur, rfl, _⟩ <;> exact ⟨rfl, rfl⟩
      refine ok_seq (fun M hM => ok_region rfl ?_)
      (try revert X); refine t46 ?_; intro X hX
      refine ⟨[.int .i64 x.k, .int .i64 x.n, .string ⟨#[]⟩, va], rfl, hb7.cells (o := 0) (fun j u hj => by simpa using hj), ?_⟩
      (try revert X); refine t46 ?_; intro X hX
      refine Runs.store hb27 Fx.zi36 rfl (by intro u hu; simp [Value.cells] at hu; rcases hu with rfl | rfl | rfl | rfl <;> first | rfl | exact hva1.1) (by simp) (fun w8 hc8 hs8 hb8 => ?_)
      rw [splice_all _ _ (by simp [Value.cells])] at hb8
      simp only [Value.cells] at hb8
      (try revert X); refine t46 ?_; intro X hX
      refine hM _ _ _ ?_; clear hM M
      refine ok_ret ?_
      try simp only [zW, zU, reduceIte, Nat.reduceEqDiff, Nat.reduceAdd, reduceCtorEq, Q46]
      refine ⟨_, rfl, hb8.cells (o := 0) (row := [.int .i64 x.k, .int .i64 x.n, .string ⟨#[]⟩, va]) (fun j u hj => by simpa using hj), _, rfl, ?_, he7.chg_trans hc8 (fun i hi => by omega)⟩
      simp only [VRowS]
      have hSl : Sli w7 4 va rs := Sli.of_own hown rfl (VRowsS.len4 _ _ hrs) hrl (by omega)
      have hs8' := hc8.size
      refine ⟨va, rfl, hva1.1, hva1.2, rs, ?_, ?_⟩
      · obtain ⟨A', c', rfl, h2, h3⟩ := hSl
        refine ⟨A', c', rfl, h2, fun j row hj => ?_⟩
        obtain ⟨b, o, rfl, h5⟩ := h3 j row hj
        have hbl := hown.lt b rfl
        exact ⟨b, o, rfl, by omega, hc8.cellsAt h5 (by simp only; omega)⟩
      · exact VRowsS.chg hc8 (fun k hk => ⟨by omega, hk.2.2.2.2⟩) _ _ hrs
    · try simp only [zW, zU, reduceIte, Nat.reduceEqDiff, Nat.reduceAdd, reduceCtorEq, Q46]
      refine hM1 _ _ _ ?_; clear hM1 M1
      have hil : i < a.length := by omega
      have hxi : (argsOf H x)[i]? = some ((argsOf H x)[i]'(by omega)) := List.getElem?_eq_getElem (by omega)
      have hui : a[i]? = some a[i] := List.getElem?_eq_getElem hil
      generalize (argsOf H x)[i]'(by omega) = y at hxi
      have hLy := LdsL.get _ _ hLL i y a[i] hxi hui
      have hsz : SizeOf.sizeOf a[i] ≤ m := by
        have := List.sizeOf_lt_of_mem (List.getElem_mem hil)
        simp at hm
        omega
      have he57 : Ext w w7 := he7
      obtain ⟨A', c', h2, -, hcel⟩ := hsl
      injection h2 with h2a h2b h2c
      subst h2a
      obtain ⟨bb, oo, rfl, hce⟩ := hcel i y.row (by rw [List.getElem?_map, hxi]; rfl)
      have hbb : bb < w.heap.size := by
        have hne : argsOf H x ≠ [] := fun e => by rw [e] at hxi; simp at hxi
        obtain ⟨A2, c2, h3, -, -, h4⟩ := hWL
        injection h3 with h3a h3b h3c
        obtain ⟨h5, -⟩ := h4 hne
        rw [← h3a] at h5
        cases h5
        exact (hgl hne).2
      have hce7 : cellsAt w7 ⟨bb, oo + i * 3, none⟩ y.row := fun j u hj => by
        have hq := he6.cell (hce j u hj)
        rw [add_at] at hq ⊢
        exact (World.cell?_of_block (hkeep bb (by omega) (by omega))).trans hq
      refine ok_seq (fun M1 hM1 => ok_block ?_)
      refine ok_seq (fun M hM => ok_region rfl ?_)
      (try revert X); refine t46 ?_; intro X hX
      refine ⟨by omega, by omega, ?_⟩
      (try revert X); refine t46 ?_; intro X hX
      refine ⟨y.row, rfl, by simpa using hce7, ?_⟩
      (try revert X); refine t46 ?_; intro X hX
      refine Runs.alloc Fx.zi38 (fun w8 he8 hs8 hb8 => ?_)
      generalize hB8 : w7.heap.size = B8 at hs8 hb8
      (try revert X); refine t46 ?_; intro X hX
      refine Runs.store hb8 Fx.zi38 rfl (by intro u hu; simp [Value.cells, Wd.row] at hu; rcases hu with rfl | rfl | rfl <;> rfl) (by simp [Value.cells]) (fun w9 hc9 hs9 hb9 => ?_)
      rw [splice_all _ _ (by simp [Value.cells])] at hb9
      simp only [Value.cells] at hb9
      have he79 : Ext w7 w9 := he8.chg_trans hc9 (fun k hk => by omega)
      (try revert X); refine t46 ?_; intro X hX
      refine hM _ _ _ ?_; clear hM M
      refine (ok_draw 4 [(true, false), (true, false), (false, true), (false, true), (false, true)] (Ext _) Fx.mixed (by decide) rfl (by decide +kernel) (by decide +kernel) (Ext.drew _) ?_)
      (try revert X); refine t46 ?_; intro X hX
      refine ⟨_, fun w' h => (he79.trans h).cell (hb7.cell (j := 3) rfl), ?_⟩
      (try revert X); refine t46 ?_; intro X hX
      refine ⟨y.row, rfl, fun w' h => (hb9.ext h).cells (o := 0) (fun j u hj => by simpa using hj), ?_⟩
      (try revert X); refine t46 ?_; intro X hX
      intro w10 he10
      (try revert X); refine t46 ?_; intro X hX
      have he710 := he79.trans he10
      refine Inv.call Fx.en46 (ih a[i] y w10 hsz hLy (hH.ext (he7.trans he710)) (hg.ext (he7.trans he710))) ?_
      rintro v w11 ⟨cs, rfl, hcs, he11⟩
      refine ⟨he10.trans he11, ?_⟩
      (try revert X); refine t46 ?_; intro X hX
      obtain ⟨k', n', t', v', hcse, hv1, hv2⟩ : ∃ k' n' t' v', cs = [.int .i64 k', .int .i64 n', .string t', v'] ∧ v'.oneCell' = true ∧ v'.cells = #[v'] := by
        have hq := VRowS.row _ _ hcs
        generalize a[i] = q at hq
        obtain ⟨k', n', t', a'⟩ := q
        simp only [VRow] at hq
        obtain ⟨v', h1, h2, h3, _⟩ := hq
        exact ⟨k', n', t', v', h1, h2, h3⟩
      have hone := (VRowS.row _ _ hcs).one
      have hcl4 := (VRowS.row _ _ hcs).len
      refine Runs.lit (cs := cs) Fx.un34 Fx.zi36 (by decide) (by rw [hcse]; kernel_rfl) (by decide) (fun w12 he12 hs12 hb12 => ?_)
      refine ⟨he10.trans (he11.trans he12), ?_⟩
      (try revert X); refine t46 ?_; intro X hX
      have he712 := he710.trans (he11.trans he12)
      have hown12 := owns_chg' hown (he712.chg (fun _ => False)) (fun _ _ h => h)
      have hs712 := he712.size
      refine Runs.append1' Fx.un34 Fx.zi36 rfl (by decide) hown12 hb12 hcl4 hone (by simp [maxLen]; omega) (by omega) (by omega) (fun v2 w13 hown13 hg13 hblk => ?_)
      have hc13 : Chg (fun k => va.ownBlock = some k) w12 w13 := ⟨hg13.os, hg13.tape, hg13.output, hg13.size, fun k hk hs => hg13.block k hk (fun e => hs e.symm)⟩
      have hvl : ∀ k, va.ownBlock = some k → w6.heap.size ≤ k ∧ k < w7.heap.size := fun k hk => hown.lt k hk
      have hnva : ∀ k, k < w6.heap.size → va.ownBlock ≠ some k := fun k hk h => by have := hvl k h; omega
      have hb13 : Blk w13 B3 _ 36 := (hb7.ext he712).chg hc13 (hnva B3 hl5)
      have hv2c : v2.oneCell' = true ∧ v2.cells = #[v2] := by
        rcases hown13.2 with ⟨rfl, _⟩ | ⟨g, cap, cur, rfl, _⟩ <;> exact ⟨rfl, rfl⟩
      have hs13 := hc13.size
      (try revert X); refine t46 ?_; intro X hX
      refine Runs.store hb13 Fx.zi34 (by rw [hv2c.2]; rfl) (by rw [hv2c.2]; intro u hu; simp at hu; subst hu; exact hv2c.1) (by simp) (fun w14 hc14 hs14 hb14' => ?_)
      rw [hv2c.2] at hb14'
      simp only [splice, List.take_succ_cons, List.take_zero, List.cons_append, List.nil_append, List.length_singleton, Nat.reduceAdd, List.drop_succ_cons, List.drop_zero, List.append_nil, List.drop_nil] at hb14'
      have hl13 := hb13.lt
      (try revert X); refine t46 ?_; intro X hX
      refine hM1 _ _ _ ?_; clear hM1 M1
      refine ok_region rfl ?_
      (try revert X); refine t46 ?_; intro X hX
      refine ⟨by simp only [inI]; omega, ?_⟩
      (try revert X); refine t46 ?_; intro X hX
      have hs14' := hc14.size
      have hv2l : ∀ k, v2.ownBlock = some k → w6.heap.size ≤ k ∧ k < w13.heap.size := fun k hk => hown13.lt k hk
      have hs1011 := he11.size
      have hs710 := he710.size
      have htk : a.take (i + 1) = a.take i ++ [a[i]] := List.take_succ_eq_append_getElem hil
      refine ⟨(i + 1, v2, rs ++ [cs]), by simp [sub, Env.get], ⟨?_, by omega, by omega, fun k hk hne => ?_, hb14', ?_, ?_⟩, by omega⟩
      · exact ((he7.trans he712).chg_trans hc13 (fun k hk => by have := hvl k hk; omega)).chg_trans hc14 (fun k hk => by omega)
      · rw [hc14.block k (by omega) hne, hc13.block k (by omega) (hnva k hk), Below.block he712 k (by omega)]
        exact hkeep k hk hne
      · simp only [List.flatten_append, List.flatten_cons, List.flatten_nil, List.append_nil]
        exact owns_chg' hown13 hc14 (fun k hk h => by have := (hv2l k hk).1; omega)
      · simp only [htk]
        have hc1314 : Chg (fun k => va.ownBlock = some k ∨ k = B3) w12 w14 := (hc13.mono fun k _ h => .inl h).trans (hc14.mono fun k _ h => .inr h)
        have hnew : ∀ k, v2.ownBlock = some k → va.ownBlock = some k ∨ k = w12.heap.size := fun k h => by
          rcases hblk with h' | h'
          · exact .inl (h' ▸ h)
          · rw [h'] at h; cases h; exact .inr rfl
        refine VRowsS.snoc _ _ (VRowsS.chg ((he712.chg _).trans hc1314) (fun k hk => ?_) _ _ hrs) (VRowS.chg ((he12.chg _).trans hc1314) (fun k hk => ?_) _ _ hcs)
        · refine ⟨⟨hk.1, by omega, fun h => ?_, hk.2.2.2.1, hk.2.2.2.2⟩, fun h => ?_⟩
          · rcases hnew k h with h' | h'
            · exact hk.2.2.1 h'
            · omega
          · rcases h with h | h
            · exact hk.2.2.1 h
            · exact hk.2.2.2.1 h
        · have hk1 := hk.1
          have hk2 := hk.2
          have hs12' := he12.size
          refine ⟨⟨by omega, by omega, fun h => ?_, by omega, by omega⟩, fun h => ?_⟩
          · rcases hnew k h with h' | h'
            · have := hvl k h'; omega
            · omega
          · rcases h with h | h
            · have := hvl k h; omega
            · omega
end Go.Proofs.YtldeokfhipjbfaaGreatDoor
/- Load.  -/
set_option linter.unusedVariables false
set_option linter.unusedSimpArgs false
namespace Go.Proofs.Vg
open Go Go.RowKit
theorem objAt_some {H : List Ob} {r : Int} {o : Ob} (h : objAt H r = some o) : 1 ≤ r ∧ r ≤ (H.length : Int) := by
  unfold objAt at h
  split at h
  · have := (List.getElem?_eq_some_iff.1 h).1
    omega
  · cases h
theorem right_ref {H : List Ob} {x : Wd} (h : rightW H x = true) : 0 ≤ x.r ∧ x.r ≤ (H.length : Int) := by
  have key : ∀ (q : Option Ob → Bool), q none = false → q (objAt H x.r) = true → 0 ≤ x.r ∧ x.r ≤ (H.length : Int) := by
    intro q hq hh
    cases ho : objAt H x.r with
    | none => rw [ho, hq] at hh; cases hh
    | some o => have := objAt_some ho; omega
  unfold rightW at h
  split at h
  · simp at h; omega
  split at h
  · simp at h; omega
  split at h
  · simp at h; exact key isTextO rfl h.2
  split at h
  · simp at h
    rcases h with h | h
    · omega
    · exact key isDataO rfl h
  split at h
  · simp at h; exact key isArrO rfl h.2
  · cases h
def errL (H : List Ob) (x : Wd) : Int := if rightW H x = true then if ringF H [x] = true then 13 else if 100000 < partsF H 100000 [x] then 6 else 0 else 2
def zeroVal : Val := .mk 0 0 ⟨#[]⟩ []
def zeroRow : List Value := [.int .i64 0, .int .i64 0, .string ⟨#[]⟩, .slice none 0 0]
theorem zero_row (w : World) : VRow w zeroRow zeroVal := by
  simp only [zeroVal, zeroRow, VRow]
  exact ⟨_, rfl, rfl, rfl, [], ⟨none, 0, rfl, by simp, fun j row hj => by simp at hj⟩, by simp only [VRows]⟩
end Go.Proofs.Vg
namespace Go.Proofs.YtldeokfhipjbfaaGreatDoor
open Go Go.Proofs.Vg Go.RowKit

-- -- function 13
set_option maxHeartbeats 4000000 in
set_option maxRecDepth 8000 in
theorem Load_ok (hb rb : Nat) (H : List Ob) (F : Nat → Prop) (hl : H.length ≤ 1073741824) (hLim : ∀ x, (argsOf H x).length ≤ 1048576) (hWf : Wf H) (mk : Nat) (u : Val) (x : Wd) (w : World)
    (hLd : rightW H x = true → ringF H [x] = false → partsF H 100000 [x] ≤ 100000 → Lds H x u) (hH : HeapW w hb rb H F) (hg : Glob w mk) :
    Rets Tryz.prog 13 [ptrOf hb, wv x] w (fun v w' => ∃ cs : List Value, v = .tuple #[.agg cs.toArray, .int .i64 (errL H x)] ∧ VRow w' cs (if errL H x = 0 then u else zeroVal) ∧ Ext w w') := by
  have zero : ∀ (w1 w2 : World) (B2 : Nat) (e : Int), errL H x = e → e ≠ 0 → Ext w w1 → w.heap.size ≤ B2 → Chg (· = B2) w1 w2 → Blk w2 B2 zeroRow 36 →
      ∃ cs, cs.length = 4 ∧ cellsAt w2 ⟨B2, 0, none⟩ cs ∧ ∃ cs' : List Value, Value.tuple #[.agg cs.toArray, .int .i64 e] = .tuple #[.agg cs'.toArray, .int .i64 (errL H x)] ∧ VRow w2 cs' (if errL H x = 0 then u else zeroVal) ∧ Ext w w2 := by
    intro w1 w2 B2 e he hne he1 hB hc hb
    refine ⟨zeroRow, rfl, hb.cells (o := 0) (fun j u hj => by simpa using hj), zeroRow, by rw [he], ?_, he1.chg_trans hc (fun k hk => by omega)⟩
    rw [if_neg (by rw [he]; exact hne)]
    exact zero_row w2
  refine rets_of_okC Tryz.func13 rfl rfl ?_
  refine ok_seq (fun M hM => ok_region rfl ?_)
  (try revert X); refine t13 ?_; intro X hX
  refine Runs.box (fun w1 he1 hz1 hb1 => ?_)
  generalize hB1 : w.heap.size = B1 at hz1 hb1
  simp only [Value.cells] at hb1
  (try revert X); refine t13 ?_; intro X hX
  refine Runs.alloc Fx.zi36 (fun w2 he2 hz2 hb2 => ?_)
  generalize hB2 : w1.heap.size = B2 at hz2 hb2
  simp only [Value.cells] at hb2
  (try revert X); refine t13 ?_; intro X hX
  refine hM _ _ _ ?_; clear hM M
  have hb12 := hb1.ext he2
  have he02 := he1.trans he2
  refine ok_join [(0, ptrOf hb), (3, ptrOf B1), (4, ptrOf B2)] (fun w' => Ext w2 w' ∧ errL H x = 0 ∧ Lds H x u) ?_ ?_
  · refine ok_block ?_
    refine ok_seq (fun M hM => ok_region rfl ?_)
    (try revert X); refine t13 ?_; intro X hX
    refine Runs.ptrEq Fx.un25 ?_
    (try revert X); refine t13 ?_; intro X hX
    refine hM _ _ _ ?_; clear hM M
    refine ok_cond rfl (fun h => by cases h) (fun _ => ?_)
    refine ok_seq (fun M hM => ok_region rfl ?_)
    (try revert X); refine t13 ?_; intro X hX
    refine ⟨x.row, rfl, hb12.cells (o := 0) (fun j u hj => by simpa using hj), ?_⟩
    (try revert X); refine t13 ?_; intro X hX
    refine Inv.call Fx.en12 (right_ok w2 hb rb H F (hH.ext he02) hl x) ?_
    rintro v w3 ⟨rfl, he3⟩
    (try revert X); refine t13 ?_; intro X hX
    refine hM _ _ _ ?_; clear hM M
    cases hr : rightW H x with
    | false =>
      refine ok_cond (b := true) rfl (fun _ => ?_) (fun h => by cases h)
      refine ok_seq (fun M hM => ok_region rfl ?_)
      (try revert X); refine t13 ?_; intro X hX
      refine ⟨_, w3, run_build (P := Tryz.prog) w3 36 _ zeroRow.toArray (by kernel_rfl), ?_⟩
      (try revert X); refine t13 ?_; intro X hX
      refine Runs.store (hb2.ext he3) Fx.zi36 rfl (by intro u hu; simp [Value.cells, zeroRow] at hu; rcases hu with rfl | rfl | rfl <;> rfl) (by simp) (fun w5 hc5 hs5 hb5 => ?_)
      rw [splice_all _ _ (by simp [Value.cells, zeroRow])] at hb5
      simp only [Value.cells] at hb5
      (try revert X); refine t13 ?_; intro X hX
      refine hM _ _ _ ?_; clear hM M
      refine ok_ret ?_
      try simp only [zW, zU, reduceIte, Nat.reduceEqDiff, Nat.reduceAdd, reduceCtorEq, Q13]
      exact zero w3 w5 B2 2 (by simp [errL, hr]) (by decide) (he02.trans he3) (by omega) hc5 hb5
    | true =>
      refine ok_cond (b := false) rfl (fun h => by cases h) (fun _ => ?_)
      refine ok_seq (fun M hM => ok_region rfl ?_)
      (try revert X); refine t13 ?_; intro X hX
      refine ⟨x.row, rfl, (hb12.ext he3).cells (o := 0) (fun j u hj => by simpa using hj), ?_⟩
      (try revert X); refine t13 ?_; intro X hX
      refine Runs.lit (cs := x.row) Fx.un29 Fx.zi38 (by decide) (by kernel_rfl) (by decide) (fun w4 he4 hs4 hb4 => ?_)
      generalize hB4 : w3.heap.size = B4 at hs4 hb4
      (try revert X); refine t13 ?_; intro X hX
      have hsl : SlW w4 (.slice (some ⟨B4, 0, none⟩) 1 1) [x] := ⟨some ⟨B4, 0, none⟩, 1, rfl, by simp, fun j row hj => by
        have hj0 : j = 0 := by have := (List.getElem?_eq_some_iff.1 hj).1; simp at this; exact this
        subst hj0
        simp at hj; subst hj
        exact ⟨B4, 0, rfl, hb4.cells (o := 0) (fun j u hj => by simpa using hj)⟩⟩
      have he04 := he02.trans (he3.trans he4)
      refine Inv.call Fx.en45 (ring_ok w4 hb rb H F (hH.ext he04) hl hWf _ [x] hsl (fun y hy => by simp at hy; subst hy; exact right_ref hr)) ?_
      rintro v w5 ⟨rfl, he5⟩
      (try revert X); refine t13 ?_; intro X hX
      refine hM _ _ _ ?_; clear hM M
      cases hri : ringF H [x] with
      | true =>
        refine ok_cond (b := true) rfl (fun _ => ?_) (fun h => by cases h)
        refine ok_seq (fun M hM => ok_region rfl ?_)
        (try revert X); refine t13 ?_; intro X hX
        refine ⟨_, w5, run_build (P := Tryz.prog) w5 36 _ zeroRow.toArray (by kernel_rfl), ?_⟩
        (try revert X); refine t13 ?_; intro X hX
        refine Runs.store (((hb2.ext he3).ext he4).ext he5) Fx.zi36 rfl (by intro u hu; simp [Value.cells, zeroRow] at hu; rcases hu with rfl | rfl | rfl <;> rfl) (by simp) (fun w6 hc6 hs6 hb6 => ?_)
        rw [splice_all _ _ (by simp [Value.cells, zeroRow])] at hb6
        simp only [Value.cells] at hb6
        (try revert X); refine t13 ?_; intro X hX
        refine hM _ _ _ ?_; clear hM M
        refine ok_ret ?_
        try simp only [zW, zU, reduceIte, Nat.reduceEqDiff, Nat.reduceAdd, reduceCtorEq, Q13]
        exact zero w5 w6 B2 13 (by simp [errL, hr, hri]) (by decide) (he04.trans he5) (by omega) hc6 hb6
      | false =>
        refine ok_cond (b := false) rfl (fun h => by cases h) (fun _ => ?_)
        refine ok_seq (fun M hM => ok_region rfl ?_)
        (try revert X); refine t13 ?_; intro X hX
        refine ⟨x.row, rfl, (((hb12.ext he3).ext he4).ext he5).cells (o := 0) (fun j u hj => by simpa using hj), ?_⟩
        (try revert X); refine t13 ?_; intro X hX
        have he05 := he04.trans he5
        refine Inv.call Fx.en39 (parts_ok w5 hb rb H F (hH.ext he05) hl hLim x) ?_
        rintro v w6 ⟨rfl, he6⟩
        rw [if_pos hr]
        (try revert X); refine t13 ?_; intro X hX
        refine hM _ _ _ ?_; clear hM M
        refine ok_if rfl (fun hc => ?_) (fun hc => ok_skip ?_)
        · refine ok_seq (fun M hM => ok_region rfl ?_)
          (try revert X); refine t13 ?_; intro X hX
          refine ⟨_, w6, run_build (P := Tryz.prog) w6 36 _ zeroRow.toArray (by kernel_rfl), ?_⟩
          (try revert X); refine t13 ?_; intro X hX
          refine Runs.store ((((hb2.ext he3).ext he4).ext he5).ext he6) Fx.zi36 rfl (by intro u hu; simp [Value.cells, zeroRow] at hu; rcases hu with rfl | rfl | rfl <;> rfl) (by simp) (fun w7 hc7 hs7 hb7 => ?_)
          rw [splice_all _ _ (by simp [Value.cells, zeroRow])] at hb7
          simp only [Value.cells] at hb7
          (try revert X); refine t13 ?_; intro X hX
          refine hM _ _ _ ?_; clear hM M
          refine ok_ret ?_
          try simp only [zW, zU, reduceIte, Nat.reduceEqDiff, Nat.reduceAdd, reduceCtorEq, Q13]
          have hc' : 100000 < partsF H 100000 [x] := by omega
          exact zero w6 w7 B2 6 (by simp [errL, hr, hri, hc']) (by decide) (he05.trans he6) (by omega) hc7 hb7
        · try simp only [zW, zU, reduceIte, Nat.reduceEqDiff, Nat.reduceAdd, reduceCtorEq, Q13]
          have hc' : ¬ 100000 < partsF H 100000 [x] := by omega
          exact ⟨by simp [sub, Env.get], he3.trans (he4.trans (he5.trans he6)), by simp [errL, hr, hri, hc'], hLd hr hri (by omega)⟩
  rintro w3 ⟨he3, herr, hLx⟩
  have he03 := he02.trans he3
  rw [herr]
  refine ok_seq (fun M hM => ok_region rfl ?_)
  (try revert X); refine t13 ?_; intro X hX
  refine ⟨x.row, rfl, (hb12.ext he3).cells (o := 0) (fun j u hj => by simpa using hj), ?_⟩
  (try revert X); refine t13 ?_; intro X hX
  refine Inv.call Fx.en46 (load_ok hb rb H F hl hLim mk _ u x w3 (Nat.le_refl _) hLx (hH.ext he03) (hg.ext he03)) ?_
  rintro v w4 ⟨cs, rfl, hcs, he4⟩
  have hr4 := (VRowS.row _ _ hcs).len
  (try revert X); refine t13 ?_; intro X hX
  have hl2 := (hb2.ext he3).lt
  refine Runs.store ((hb2.ext he3).ext he4) Fx.zi36 (by simpa [Value.cells] using hr4) (by simpa [Value.cells] using (VRowS.row _ _ hcs).one) (by simp) (fun w5 hc5 hs5 hb5 => ?_)
  rw [splice_all _ _ (by simp [Value.cells, hr4])] at hb5
  simp only [Value.cells] at hb5
  (try revert X); refine t13 ?_; intro X hX
  refine hM _ _ _ ?_; clear hM M
  refine ok_ret ?_
  try simp only [zW, zU, reduceIte, Nat.reduceEqDiff, Nat.reduceAdd, reduceCtorEq, Q13]
  refine ⟨cs, hr4, hb5.cells (o := 0) (fun j u hj => by simpa using hj), cs, rfl, ?_, (he03.trans he4).chg_trans hc5 (fun k hk => by omega)⟩
  exact VRowS.row _ _ (VRowS.chg (S' := fun _ => True) hc5 (fun k hk => ⟨trivial, by omega⟩) _ _ hcs)
end Go.Proofs.YtldeokfhipjbfaaGreatDoor
/- Objects, Make.  -/
set_option linter.unusedVariables false
set_option linter.unusedSimpArgs false
namespace Go.Proofs.YtldeokfhipjbfaaGreatDoor
open Go Go.Proofs.Vg Go.RowKit

-- -- function 16
set_option maxHeartbeats 4000000 in
set_option maxRecDepth 8000 in
theorem objects_ok (w : World) (hb rb : Nat) (H : List Ob) (F : Nat → Prop) (hH : HeapW w hb rb H F) (hl : H.length ≤ 1073741824) : Rets Tryz.prog 16 [ptrOf hb] w (fun v w' => v = .int .i64 (H.length : Int) ∧ w' = w) := by
  obtain ⟨vs, ps, gs, hR, -⟩ := hH
  obtain ⟨A, c, hv, hlen, hcell⟩ := hR.sli hl
  have hL : (ps.map fun p => [ptrOf p]).length = H.length := by simp [hR.lenp]
  rw [hL] at hv
  subst hv
  refine rets_of_ok Tryz.func16 rfl rfl ?_
  refine ok_seq (fun M hM => ok_region rfl ?_); (try revert X); refine t16 ?_; intro X hX
  refine hM _ _ _ ?_; clear hM M
  refine ok_join [(0, ptrOf hb)] (fun w' => w' = w) ?_ ?_
  · refine ok_seq (fun M hM => ok_region rfl ?_)
    (try revert X); refine t16 ?_; intro X hX
    refine Runs.ptrEq Fx.un25 ?_
    (try revert X); refine t16 ?_; intro X hX
    refine hM _ _ _ ?_; clear hM M
    refine ok_cond rfl (fun h => by cases h) (fun _ => ok_skip ?_)
    try simp only [zW, zU, reduceIte, Nat.reduceEqDiff, Nat.reduceAdd, reduceCtorEq, Q16]
    simp [sub, Env.get]
  rintro w' rfl
  refine ok_seq (fun M hM => ok_region rfl ?_)
  (try revert X); refine t16 ?_; intro X hX
  refine ⟨_, hR.head.cell (j := 0) rfl, ?_⟩
  (try revert X); refine t16 ?_; intro X hX
  refine hM _ _ _ ?_; clear hM M
  refine ok_ret ?_
  try simp only [zW, zU, reduceIte, Nat.reduceEqDiff, Nat.reduceAdd, reduceCtorEq, Q16]

def badArg (H : List Ob) (x : Wd) : Bool := !rightW H x || decide (x.k = 0) || decide (x.k = 9)
def makeE (H : List Ob) (k n : Int) (l : List Wd) : Int := if k = 4 ∨ k = 5 ∨ k = 6 ∨ k = 7 then if n < 0 ∨ (k = 7 ∧ n ≠ 0) then 5 else if l.any (badArg H) = true then 2 else 0 else 3

-- -- function 55
set_option maxHeartbeats 4000000 in
set_option maxRecDepth 8000 in
theorem make1_ok (w : World) (hb rb : Nat) (H : List Ob) (F : Nat → Prop) (hH : HeapW w hb rb H F) (hl : H.length ≤ 1073741824) (x : Wd) (B : Nat) (hB : w.cell? ⟨B, 0, none⟩ = some (ptrOf hb)) :
    Rets Tryz.prog 55 [wv x, ptrOf B] w (fun v w' => v = .bool (badArg H x) ∧ Ext w w') := by
  refine rets_of_ok Tryz.func55 rfl rfl ?_
  refine ok_seq (fun M hM => ok_region rfl ?_)
  (try revert X); refine t55 ?_; intro X hX
  refine Runs.box (fun w1 he1 hz1 hb1 => ?_)
  generalize hB1 : w.heap.size = B1 at hz1 hb1
  simp only [Value.cells] at hb1
  (try revert X); refine t55 ?_; intro X hX
  refine hM _ _ _ ?_; clear hM M
  refine ok_seq (fun M hM => ok_region rfl ?_)
  (try revert X); refine t55 ?_; intro X hX
  refine ⟨_, he1.cell hB, ?_⟩
  (try revert X); refine t55 ?_; intro X hX
  refine ⟨x.row, rfl, hb1.cells (o := 0) (fun j u hj => by simpa using hj), ?_⟩
  (try revert X); refine t55 ?_; intro X hX
  refine Inv.call Fx.en12 (right_ok w1 hb rb H F (hH.ext he1) hl x) ?_
  rintro v w2 ⟨rfl, he2⟩
  (try revert X); refine t55 ?_; intro X hX
  have hk0 : w2.cell? ⟨B1, 0, none⟩ = some (.int .i64 x.k) := (hb1.ext he2).cell rfl
  refine ⟨fun h => ?_, fun h => ?_⟩
  rotate_left
  · have hr : rightW H x = false := by simpa using h
    (try revert X); refine t55 ?_; intro X hX
    refine hM _ _ _ ?_; clear hM M
    refine ok_ret ?_
    try simp only [zW, zU, reduceIte, Nat.reduceEqDiff, Nat.reduceAdd, reduceCtorEq, Q55]
    exact ⟨by simp [badArg, hr], he1.trans he2⟩
  · have hr : rightW H x = true := by simpa using h
    (try revert X); refine t55 ?_; intro X hX
    refine ⟨_, hk0, ?_⟩
    simp only [hr, Bool.not_true]
    (try revert X); refine t55 ?_; intro X hX
    refine ⟨fun h => ?_, fun h => ?_⟩
    · have h0 : ¬ x.k = 0 := by simpa using h
      (try revert X); refine t55 ?_; intro X hX
      refine ⟨_, hk0, ?_⟩
      simp only [h0, decide_false]
      (try revert X); refine t55 ?_; intro X hX
      refine hM _ _ _ ?_; clear hM M
      refine ok_ret ?_
      try simp only [zW, zU, reduceIte, Nat.reduceEqDiff, Nat.reduceAdd, reduceCtorEq, Q55]
      exact ⟨by simp [badArg, hr, h0], he1.trans he2⟩
    · have h0 : x.k = 0 := by simpa using h
      (try revert X); refine t55 ?_; intro X hX
      refine hM _ _ _ ?_; clear hM M
      refine ok_ret ?_
      try simp only [zW, zU, reduceIte, Nat.reduceEqDiff, Nat.reduceAdd, reduceCtorEq, Q55]
      exact ⟨by simp [badArg, hr, h0], he1.trans he2⟩

-- -- function 21
set_option maxHeartbeats 4000000 in
set_option maxRecDepth 8000 in
theorem Make_ok (w : World) (hb rb : Nat) (H : List Ob) (F : Nat → Prop) (hH : HeapW w hb rb H F) (hF : ∀ k, F k → k < w.heap.size) (hl : H.length ≤ 1048576) (k n : Int) (av : Value) (l : List Wd) (hav : SlW w av l) (hll : l.length ≤ 1073741824) :
    Rets Tryz.prog 21 [ptrOf hb, .int .i64 k, .int .i64 n, av] w (fun v w' => v = .tuple #[wv (if makeE H k n l = 0 then (mkW H k n l).2 else ⟨0, 0, 0⟩), .int .i64 (makeE H k n l)] ∧ Grown w w' hb rb (if makeE H k n l = 0 then (mkW H k n l).1 else H) F) := by
  obtain ⟨A, c, rfl, hlen, hcell⟩ := id hav
  rw [wd_len] at hav hlen ⊢
  have zero : ∀ (w1 w2 : World) (B2 : Nat) (e : Int), makeE H k n l = e → e ≠ 0 → Ext w w1 → w.heap.size ≤ B2 → Chg (· = B2) w1 w2 → Blk w2 B2 [.int .i64 0, .int .i64 0, .int .i64 0] 38 →
      ∃ cs, cs.length = 3 ∧ cellsAt w2 ⟨B2, 0, none⟩ cs ∧ Value.tuple #[.agg cs.toArray, .int .i64 e] = .tuple #[wv (if makeE H k n l = 0 then (mkW H k n l).2 else ⟨0, 0, 0⟩), .int .i64 (makeE H k n l)] ∧ Grown w w2 hb rb (if makeE H k n l = 0 then (mkW H k n l).1 else H) F := by
    intro w1 w2 B2 e he hne he1 hB hc hb
    have h0 : ¬ makeE H k n l = 0 := by rw [he]; exact hne
    rw [if_neg h0, if_neg h0, he]
    exact ⟨_, rfl, hb.cells (o := 0) (row := Wd.row ⟨0, 0, 0⟩) (fun j u hj => by simpa [Wd.row] using hj), rfl, Grown.ext hH (he1.chg_trans hc (fun k hk => by omega))⟩
  refine rets_of_okC Tryz.func21 rfl rfl ?_
  refine ok_seq (fun M hM => ok_region rfl ?_)
  (try revert X); refine t21 ?_; intro X hX
  refine Runs.box (fun w1 he1 hz1 hb1 => ?_)
  generalize hB1 : w.heap.size = B1 at hz1 hb1
  simp only [Value.cells] at hb1
  (try revert X); refine t21 ?_; intro X hX
  refine Runs.alloc Fx.zi38 (fun w2 he2 hz2 hb2 => ?_)
  generalize hB2 : w1.heap.size = B2 at hz2 hb2
  simp only [Value.cells] at hb2
  (try revert X); refine t21 ?_; intro X hX
  refine hM _ _ _ ?_; clear hM M
  have hb12 := hb1.ext he2
  have he02 := he1.trans he2
  refine ok_join [(1, .int .i64 k), (2, .int .i64 n), (3, .slice A l.length c), (4, ptrOf B1), (8, ptrOf B2)] (fun w' => w' = w2 ∧ (k = 4 ∨ k = 5 ∨ k = 6 ∨ k = 7) ∧ ¬ (n < 0 ∨ (k = 7 ∧ n ≠ 0))) ?_ ?_
  · refine ok_block ?_
    refine ok_seq (fun M hM => ok_region rfl ?_)
    (try revert X); refine t21 ?_; intro X hX
    refine ⟨_, hb12.cell (j := 0) rfl, ?_⟩
    (try revert X); refine t21 ?_; intro X hX
    refine Runs.ptrEq Fx.un25 ?_
    (try revert X); refine t21 ?_; intro X hX
    refine hM _ _ _ ?_; clear hM M
    refine ok_cond rfl (fun h => by cases h) (fun _ => ?_)
    refine ok_join [(1, .int .i64 k), (2, .int .i64 n), (3, .slice A l.length c), (4, ptrOf B1), (8, ptrOf B2), (14, .bool (!decide (k = 4 ∨ k = 5 ∨ k = 6 ∨ k = 7)))] (fun w' => w' = w2) ?_ ?_
    · refine ok_region rfl ?_
      (try revert X); refine t21 ?_; intro X hX
      refine ⟨fun h => ?_, fun h => ?_⟩
      · have h4 : ¬ k = 4 := by simpa using h
        (try revert X); refine t21 ?_; intro X hX
        refine ⟨fun h => ?_, fun h => ?_⟩
        · have h5 : ¬ k = 5 := by simpa using h
          (try revert X); refine t21 ?_; intro X hX
          refine ⟨fun h => ?_, fun h => ?_⟩
          · have h6 : ¬ k = 6 := by simpa using h
            (try revert X); refine t21 ?_; intro X hX
            simp [sub, Env.get, h4, h5, h6]
          · have h6 : k = 6 := by simpa using h
            (try revert X); refine t21 ?_; intro X hX
            simp [sub, Env.get, h6]
        · have h5 : k = 5 := by simpa using h
          (try revert X); refine t21 ?_; intro X hX
          simp [sub, Env.get, h5]
      · have h4 : k = 4 := by simpa using h
        (try revert X); refine t21 ?_; intro X hX
        simp [sub, Env.get, h4]
    rintro w' rfl
    refine ok_ifn rfl (fun hk => ?_) (fun hk => ?_)
    · refine ok_seq (fun M hM => ok_region rfl ?_)
      (try revert X); refine t21 ?_; intro X hX
      refine ⟨_, w', run_build (P := Tryz.prog) w' 38 _ #[.int .i64 0, .int .i64 0, .int .i64 0] (by kernel_rfl), ?_⟩
      (try revert X); refine t21 ?_; intro X hX
      refine Runs.store hb2 Fx.zi38 rfl (by intro u hu; simp [Value.cells] at hu; subst hu; rfl) (by simp) (fun w5 hc5 hs5 hb5 => ?_)
      rw [splice_all _ _ (by simp [Value.cells])] at hb5
      simp only [Value.cells] at hb5
      (try revert X); refine t21 ?_; intro X hX
      refine hM _ _ _ ?_; clear hM M
      refine ok_ret ?_
      try simp only [zW, zU, reduceIte, Nat.reduceEqDiff, Nat.reduceAdd, reduceCtorEq, Q21]
      exact zero w' w5 B2 3 (by simp [makeE, hk]) (by decide) he02 (by omega) hc5 hb5
    · refine ok_join [(1, .int .i64 k), (2, .int .i64 n), (3, .slice A l.length c), (4, ptrOf B1), (8, ptrOf B2), (30, .bool (decide (n < 0 ∨ (k = 7 ∧ n ≠ 0))))] (fun w2 => w2 = w') ?_ ?_
      · refine ok_region rfl ?_
        (try revert X); refine t21 ?_; intro X hX
        refine ⟨fun h => ?_, fun h => ?_⟩
        · have hn : ¬ n < 0 := by simpa using h
          (try revert X); refine t21 ?_; intro X hX
          refine ⟨fun h => ?_, fun h => ?_⟩
          · have h7 : k = 7 := by simpa using h
            simp only [hn, decide_false]
            (try revert X); refine t21 ?_; intro X hX
            by_cases hn0 : n = 0 <;> simp [sub, Env.get, hn, h7, hn0]
          · have h7 : ¬ k = 7 := by simpa using h
            simp only [hn, decide_false]
            (try revert X); refine t21 ?_; intro X hX
            simp [sub, Env.get, hn, h7]
        · have hn : n < 0 := by simpa using h
          (try revert X); refine t21 ?_; intro X hX
          simp [sub, Env.get, hn]
      rintro w'' rfl
      refine ok_if rfl (fun hn => ?_) (fun hn => ok_skip ?_)
      · refine ok_seq (fun M hM => ok_region rfl ?_)
        (try revert X); refine t21 ?_; intro X hX
        refine ⟨_, w'', run_build (P := Tryz.prog) w'' 38 _ #[.int .i64 0, .int .i64 0, .int .i64 0] (by kernel_rfl), ?_⟩
        (try revert X); refine t21 ?_; intro X hX
        refine Runs.store hb2 Fx.zi38 rfl (by intro u hu; simp [Value.cells] at hu; subst hu; rfl) (by simp) (fun w5 hc5 hs5 hb5 => ?_)
        rw [splice_all _ _ (by simp [Value.cells])] at hb5
        simp only [Value.cells] at hb5
        (try revert X); refine t21 ?_; intro X hX
        refine hM _ _ _ ?_; clear hM M
        refine ok_ret ?_
        try simp only [zW, zU, reduceIte, Nat.reduceEqDiff, Nat.reduceAdd, reduceCtorEq, Q21]
        exact zero w'' w5 B2 5 (by simp only [makeE]; rw [if_pos hk, if_pos hn]) (by decide) he02 (by omega) hc5 hb5
      · try simp only [zW, zU, reduceIte, Nat.reduceEqDiff, Nat.reduceAdd, reduceCtorEq, Q21]
        exact ⟨by simp [sub, Env.get], hk, hn⟩
  rintro w' ⟨rfl, hk, hn⟩
  refine ok_join [(1, .int .i64 k), (2, .int .i64 n), (3, .slice A l.length c), (4, ptrOf B1), (8, ptrOf B2)] (fun w3 => Ext w' w3 ∧ makeE H k n l = 0) ?_ ?_
  · refine ok_seq (fun M hM => ok_region rfl ?_)
    (try revert X); refine t21 ?_; intro X hX
    refine Inv.call Fx.en47 (containsW_ok w' A l.length c _ hlen
      (fun i w4 => Ext w' w4 ∧ ∀ (j : Nat) (x : Wd), j < i → l[j]? = some x → badArg H x = false)
      (fun w4 => Ext w' w4 ∧ l.any (badArg H) = true) ⟨Ext.refl _, fun j x h => absurd h (Nat.not_lt_zero _)⟩ ?_) ?_
    · rintro i w4 hil ⟨he4, hall⟩
      have hxi : l[i]? = some l[i] := List.getElem?_eq_getElem hil
      obtain ⟨b, o, hA, hcc⟩ := hcell i l[i].row (by rw [List.getElem?_map, hxi]; rfl)
      refine ⟨l[i].row, rfl, ⟨b, o, hA, (he02.trans he4).cellsAt hcc⟩, Inv.clos (cap := [ptrOf B1]) Fx.en55 (make1_ok w4 hb rb H F (hH.ext (he02.trans he4)) (by omega) l[i] B1 (he4.cell (hb12.cell (j := 0) rfl))) ?_⟩
      rintro v w5 ⟨rfl, he5⟩
      refine ⟨_, rfl, fun hb => ⟨he4.trans he5, List.any_eq_true.2 ⟨_, List.getElem_mem hil, hb⟩⟩, fun hb => ⟨he4.trans he5, fun j x hj hx => ?_⟩⟩
      rcases Nat.lt_or_ge j i with h | h
      · exact hall j x h hx
      · have : j = i := by omega
        subst this
        rw [hxi] at hx
        cases hx
        exact hb
    rintro v w4 ⟨b, rfl, hbt, hbf⟩
    (try revert X); refine t21 ?_; intro X hX
    refine hM _ _ _ ?_; clear hM M
    cases b with
    | true =>
      obtain ⟨he4, hany⟩ := hbt rfl
      refine ok_cond rfl (fun _ => ?_) (fun h => by cases h)
      refine ok_seq (fun M hM => ok_region rfl ?_)
      (try revert X); refine t21 ?_; intro X hX
      refine ⟨_, w4, run_build (P := Tryz.prog) w4 38 _ #[.int .i64 0, .int .i64 0, .int .i64 0] (by kernel_rfl), ?_⟩
      (try revert X); refine t21 ?_; intro X hX
      refine Runs.store (hb2.ext he4) Fx.zi38 rfl (by intro u hu; simp [Value.cells] at hu; subst hu; rfl) (by simp) (fun w5 hc5 hs5 hb5 => ?_)
      rw [splice_all _ _ (by simp [Value.cells])] at hb5
      simp only [Value.cells] at hb5
      (try revert X); refine t21 ?_; intro X hX
      refine hM _ _ _ ?_; clear hM M
      refine ok_ret ?_
      try simp only [zW, zU, reduceIte, Nat.reduceEqDiff, Nat.reduceAdd, reduceCtorEq, Q21]
      exact zero w4 w5 B2 2 (by simp only [makeE]; rw [if_pos hk, if_neg hn, if_pos hany]) (by decide) (he02.trans he4) (by omega) hc5 hb5
    | false =>
      obtain ⟨he4, hall⟩ := hbf rfl
      refine ok_cond rfl (fun h => by cases h) (fun _ => ok_skip ?_)
      try simp only [zW, zU, reduceIte, Nat.reduceEqDiff, Nat.reduceAdd, reduceCtorEq, Q21]
      have hany : l.any (badArg H) = false := by
        rw [List.any_eq_false]
        intro x hx hb
        obtain ⟨j, hj⟩ := List.mem_iff_getElem?.1 hx
        rw [hall j x (List.getElem?_eq_some_iff.1 hj).1 hj] at hb
        cases hb
      exact ⟨by simp [sub, Env.get], he4, by simp only [makeE]; rw [if_pos hk, if_neg hn, hany]; rfl⟩
  rintro w3 ⟨he3, herr⟩
  rw [if_pos herr, if_pos herr, herr]
  have he03 := he02.trans he3
  have hs03 := he03.size
  have hl2 := (hb2.ext he3).lt
  refine ok_seq (fun M hM => ok_region rfl ?_)
  (try revert X); refine t21 ?_; intro X hX
  refine ⟨_, (hb12.ext he3).cell (j := 0) rfl, ?_⟩
  (try revert X); refine t21 ?_; intro X hX
  refine Inv.call Fx.en56 (make_ok w3 hb rb H F (hH.ext he03) (fun k hk => by have := hF k hk; omega) hl k n _ l (hav.ext he03) hll) ?_
  rintro v w4 ⟨rfl, hc4, F4, hH4, hF4⟩
  have hs4 := hc4.size
  have hrb := hH.lt
  (try revert X); refine t21 ?_; intro X hX
  have hnF : ¬ F B2 := fun h => by have := hF B2 h; omega
  refine Runs.store ((hb2.ext he3).chg hc4 hnF) Fx.zi38 rfl (by intro u hu; simp [Value.cells, Wd.row] at hu; rcases hu with rfl | rfl | rfl <;> rfl) (by simp) (fun w5 hc5 hs5 hb5 => ?_)
  rw [splice_all _ _ (by simp [Value.cells])] at hb5
  simp only [Value.cells] at hb5
  (try revert X); refine t21 ?_; intro X hX
  refine hM _ _ _ ?_; clear hM M
  refine ok_ret ?_
  try simp only [zW, zU, reduceIte, Nat.reduceEqDiff, Nat.reduceAdd, reduceCtorEq, Q21]
  refine ⟨_, rfl, hb5.cells (o := 0) (row := (mkW H k n l).2.row) (fun j u hj => by simpa using hj), rfl, ?_⟩
  have hnB : ¬ F4 B2 := fun h => by rcases hF4 B2 h with h | h <;> first | exact hnF h | omega
  refine ⟨((he03.chg F).trans hc4).trans_new hc5 (fun k hk => by omega), F4, hH4.chg hc5 (fun k hk e => hnB (e ▸ hk)) (by omega), fun k hk => ?_⟩
  rcases hF4 k hk with h | h
  · exact .inl h
  · exact .inr (by omega)
end Go.Proofs.YtldeokfhipjbfaaGreatDoor
