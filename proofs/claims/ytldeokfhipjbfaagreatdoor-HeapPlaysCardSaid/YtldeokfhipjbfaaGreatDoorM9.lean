/- Part 9 of 13: K2, K4, K5, K6, K7. -/
import Derived.Test.YtldeokfhipjbfaaGreatDoorM8
import Derived.Test.YtldeokfhipjbfaaGreatDoorM3
import Derived.Test.YtldeokfhipjbfaaGreatDoorM7
/- Reached. -/
set_option linter.unusedVariables false
set_option linter.unusedSimpArgs false
namespace Go.Proofs.Vg
open Go Go.RowKit
/-- The state of the counting. -/
structure QJ (w0 W : World) (n b0 b1 b2 c6 hb m : Nat) (rv : Value) (s : RS) : Prop where
  ext : Ext w0 W
  k0 : Blk W b0 [ptrOf hb] 25
  k1 : Blk W b1 [ptrOf hb] 25
  k2 : Blk W b2 [rv] 29
  k6 : Blk W c6 [.int .i64 (s.i : Int)] 3
  si : s.i ≤ m
  own : ∀ k, s.own k → n + 2 ≤ k ∧ k < W.heap.size
  snap : ∀ k, s.own k → W.heap[k]? = s.snap k
structure QN (w0 : World) (n b0 b1 b2 c6 : Nat) : Prop where
  h0 : w0.heap.size ≤ b0 ∧ b0 < n
  h1 : w0.heap.size ≤ b1 ∧ b1 < n
  h2 : w0.heap.size ≤ b2 ∧ b2 < n
  h6 : w0.heap.size ≤ c6 ∧ c6 < n
  ne : b0 ≠ c6 ∧ b1 ≠ c6 ∧ b2 ≠ c6
theorem QJ.chg {w0 W W' : World} {n b0 b1 b2 c6 hb m : Nat} {rv : Value} {s s' : RS} {T : Nat → Prop} (hn : QN w0 n b0 b1 b2 c6) (h : QJ w0 W n b0 b1 b2 c6 hb m rv s) (hc : Chg T W W')
    (hT : ∀ k, T k → n ≤ k) (hi : s'.i = s.i) (ho : ∀ k, s'.own k → n + 2 ≤ k ∧ k < W'.heap.size) (hsn : ∀ k, s'.own k → W'.heap[k]? = s'.snap k) : QJ w0 W' n b0 b1 b2 c6 hb m rv s' := by
  have hlow : ∀ k, k < n → ¬ T k := fun k hk ht => by have := hT k ht; omega
  refine ⟨h.ext.chg_trans hc (fun k hk => by have := hT k hk; have := hn.h0; omega), h.k0.chg hc (hlow _ hn.h0.2), h.k1.chg hc (hlow _ hn.h1.2), h.k2.chg hc (hlow _ hn.h2.2), ?_, by rw [hi]; exact h.si, ho, hsn⟩
  rw [hi]; exact h.k6.chg hc (hlow _ hn.h6.2)
end Go.Proofs.Vg
namespace Go.Proofs.YtldeokfhipjbfaaGreatDoor
open Go Go.Proofs.Vg Go.RowKit

-- -- function 48
set_option maxHeartbeats 4000000 in
set_option maxRecDepth 8000 in
theorem reachedq_ok (w : World) (hb rb : Nat) (H : List Ob) (F : Nat → Prop) (hH : HeapW w hb rb H F) (hl : H.length ≤ 1073741824) (x : Wd) (B : Nat) (hB : w.cell? ⟨B, 0, none⟩ = some (ptrOf hb)) :
    Rets Tryz.prog 48 [wv x, ptrOf B] w (fun v w' => v = .bool (!rightW H x) ∧ Ext w w') := by
  refine rets_of_ok Tryz.func48 rfl rfl ?_
  refine ok_seq (fun M hM => ok_region rfl ?_)
  (try revert X); refine t48 ?_; intro X hX
  refine Runs.box (fun w1 he1 hz1 hb1 => ?_)
  generalize hB1 : w.heap.size = B1 at hz1 hb1
  simp only [Value.cells] at hb1
  (try revert X); refine t48 ?_; intro X hX
  refine hM _ _ _ ?_; clear hM M
  refine ok_seq (fun M hM => ok_region rfl ?_)
  (try revert X); refine t48 ?_; intro X hX
  refine ⟨_, he1.cell hB, ?_⟩
  (try revert X); refine t48 ?_; intro X hX
  refine ⟨x.row, rfl, hb1.cells (o := 0) (fun j u hj => by simpa using hj), ?_⟩
  (try revert X); refine t48 ?_; intro X hX
  refine Inv.call Fx.en12 (right_ok w1 hb rb H F (hH.ext he1) hl x) ?_
  rintro v w2 ⟨rfl, he2⟩
  (try revert X); refine t48 ?_; intro X hX
  refine hM _ _ _ ?_; clear hM M
  refine ok_ret ?_
  try simp only [zW, zU, reduceIte, Nat.reduceEqDiff, Nat.reduceAdd, reduceCtorEq, Q48]
  exact he1.trans he2

-- -- function 14
set_option maxHeartbeats 4000000 in
set_option maxRecDepth 8000 in
theorem Reached_ok (w : World) (hb rb : Nat) (H : List Ob) (F : Nat → Prop) (hH : HeapW w hb rb H F) (hl : H.length ≤ 1048576) (hW : Wf H) (rv : Value) (roots : List Wd) (hrs : SlW w rv roots) (hrl : roots.length ≤ 1073741824) :
    Rets Tryz.prog 14 [ptrOf hb, rv] w (fun v w' => (roots.any (fun x => !rightW H x) = true → v = .tuple #[.int .i64 0, .int .i64 2] ∧ Ext w w') ∧
      (roots.any (fun x => !rightW H x) = false → v = .tuple #[.int .i64 ((collQ H roots).length : Int), .int .i64 0] ∧ Ext w w')) := by
  obtain ⟨A, c, hrv, hlen, hcell⟩ := id hrs
  rw [wd_len] at hrv hlen
  subst hrv
  refine rets_of_okM Tryz.func14 rfl rfl ?_
  refine ok_seq (fun M hM => ok_region rfl ?_)
  (try revert X); refine t14 ?_; intro X hX
  refine Runs.box (fun w1 he1 hz1 hb1 => ?_)
  generalize hB0 : w.heap.size = b0 at hz1 hb1
  simp only [Value.cells] at hb1
  (try revert X); refine t14 ?_; intro X hX
  refine hM _ _ _ ?_; clear hM M
  refine ok_join [(1, .slice A roots.length c), (2, ptrOf b0)] (fun w' => Ext w1 w' ∧ roots.any (fun x => !rightW H x) = false) ?_ ?_
  · refine ok_block ?_
    refine ok_seq (fun M hM => ok_region rfl ?_)
    (try revert X); refine t14 ?_; intro X hX
    refine ⟨_, hb1.cell (j := 0) rfl, ?_⟩
    (try revert X); refine t14 ?_; intro X hX
    refine Runs.ptrEq Fx.un25 ?_
    (try revert X); refine t14 ?_; intro X hX
    refine hM _ _ _ ?_; clear hM M
    refine ok_cond rfl (fun h => by cases h) (fun _ => ?_)
    refine ok_seq (fun M hM => ok_region rfl ?_)
    (try revert X); refine t14 ?_; intro X hX
    refine Inv.call Fx.en47 (containsW_ok w1 A roots.length c _ hlen
      (fun i w4 => Ext w1 w4 ∧ ∀ (j : Nat) (x : Wd), j < i → roots[j]? = some x → rightW H x = true)
      (fun w4 => Ext w1 w4 ∧ roots.any (fun x => !rightW H x) = true) ⟨Ext.refl _, fun j x h => absurd h (Nat.not_lt_zero _)⟩ ?_) ?_
    · rintro i w4 hil ⟨he4, hall⟩
      have hxi : roots[i]? = some roots[i] := List.getElem?_eq_getElem hil
      obtain ⟨b, o, hA, hcc⟩ := hcell i roots[i].row (by rw [List.getElem?_map, hxi]; rfl)
      refine ⟨roots[i].row, rfl, ⟨b, o, hA, (he1.trans he4).cellsAt hcc⟩, Inv.clos (cap := [ptrOf b0]) Fx.en48 (reachedq_ok w4 hb rb H F (hH.ext (he1.trans he4)) (by omega) roots[i] b0 (he4.cell (hb1.cell (j := 0) rfl))) ?_⟩
      rintro v w5 ⟨rfl, he5⟩
      refine ⟨_, rfl, fun hb => ⟨he4.trans he5, List.any_eq_true.2 ⟨_, List.getElem_mem hil, hb⟩⟩, fun hb => ⟨he4.trans he5, fun j x hj hx => ?_⟩⟩
      rcases Nat.lt_or_ge j i with h | h
      · exact hall j x h hx
      · have : j = i := by omega
        subst this
        rw [hxi] at hx
        cases hx
        simpa using hb
    rintro v w4 ⟨b, rfl, hbt, hbf⟩
    (try revert X); refine t14 ?_; intro X hX
    refine hM _ _ _ ?_; clear hM M
    cases b with
    | true =>
      obtain ⟨he4, hany⟩ := hbt rfl
      refine ok_cond rfl (fun _ => ?_) (fun h => by cases h)
      refine ok_seq (fun M hM => ok_region rfl ?_); (try revert X); refine t14 ?_; intro X hX
      refine hM _ _ _ ?_; clear hM M
      refine ok_ret ?_
      refine .inl ⟨rfl, ?_⟩
      try simp only [zW, zU, reduceIte, Nat.reduceEqDiff, Nat.reduceAdd, reduceCtorEq, Q14]
      exact ⟨fun _ => he1.trans he4, fun h => by rw [hany] at h; cases h⟩
    | false =>
      obtain ⟨he4, hall⟩ := hbf rfl
      refine ok_cond rfl (fun h => by cases h) (fun _ => ok_skip ?_)
      try simp only [zW, zU, reduceIte, Nat.reduceEqDiff, Nat.reduceAdd, reduceCtorEq, Q14]
      refine ⟨by simp [sub, Env.get], he4, ?_⟩
      rw [List.any_eq_false]
      intro x hx hb
      obtain ⟨j, hj⟩ := List.mem_iff_getElem?.1 hx
      rw [hall j x (List.getElem?_eq_some_iff.1 hj).1 hj] at hb
      cases hb
  rintro w2 ⟨he2, hany⟩
  rw [hany]
  have he02 := he1.trans he2
  have hrall : ∀ x ∈ roots, 0 ≤ x.r ∧ x.r ≤ (H.length : Int) := fun x hx => right_ref (by
    have := List.any_eq_false.1 hany x hx
    simpa using this)
  obtain ⟨vs, ps, gs, hR0, hf, hrb⟩ := id hH
  have hb02 := hb1.ext he2
  have hs02 := he02.size
  refine ok_seq (fun M hM => ok_region rfl ?_)
  (try revert X); refine t14 ?_; intro X hX
  refine Runs.alloc Fx.zi3 (fun w4 he4 hz4 hb4 => ?_)
  generalize hC6 : w2.heap.size = c6 at hz4 hb4
  simp only [Value.cells] at hb4
  (try revert X); refine t14 ?_; intro X hX
  refine Runs.store hb4 Fx.zi3 rfl (by intro u hu; simp [Value.cells] at hu; subst hu; rfl) (by simp) (fun w6 hc5 hz6 hb6 => ?_)
  rw [splice_all _ _ (by simp [Value.cells])] at hb6
  simp only [Value.cells] at hb6
  (try revert X); refine t14 ?_; intro X hX
  refine hM _ _ _ ?_; clear hM M
  have he06 : Ext w w6 := (he02.trans he4).chg_trans hc5 (fun k hk => by omega)
  have hl02 := hb02.lt
  have hb06 : Blk w6 b0 [ptrOf hb] 25 := (hb02.ext he4).chg hc5 (by omega)
  refine ok_seq (fun M0 hM0 => ?_)
  refine ok_seq (fun M hM => ok_region rfl ?_)
  (try revert X); refine t14 ?_; intro X hX
  refine ⟨_, hb06.cell (j := 0) rfl, ?_⟩
  (try revert X); refine t14 ?_; intro X hX
  refine Inv.call Fx.en49 (reached_ok w6 hb (.slice A roots.length c) rfl) ?_
  rintro v w7 ⟨rfl, hk1, hk2, he7⟩
  (try revert X); refine t14 ?_; intro X hX
  refine hM _ _ _ ?_; clear hM M
  have hs7 : w6.heap.size + 1 < w7.heap.size := hk2.lt
  have he07 := he06.trans he7
  have hs12 := he2.size
  have hs67 := he7.size
  have hn : QN w w7.heap.size b0 w6.heap.size (w6.heap.size + 1) c6 := ⟨by omega, by omega, by omega, by omega, by omega⟩
  have hk6 : Blk w7 c6 [.int .i64 0] 3 := hb6.ext he7
  have hFoot : ∀ k, Foot hb vs ps gs k → k < w.heap.size := fun k hk => (hf k hk).2
  have hbq := bfs_prefix hW (H.length + 1) _ _ 0 (pushF_inv (n := H.length) roots _ [] hrall (Qok.nil _)).1
  have hQr : ∀ r ∈ collQ H roots, 1 ≤ r ∧ r ≤ (H.length : Int) := hbq.2.1
  clear hbq
  have hql : (collQ H roots).length ≤ 1048577 := by
    have hu := (pushF_inv (n := H.length) roots _ [] hrall (Qok.nil _))
    have hb := bfs_length hW (H.length + 1) _ _ 0 hu.1
    have hu2 := hu.2.2
    rw [unseen_rep] at hu2
    simp only [List.length_nil] at hu2
    have : (collQ H roots).length ≤ H.length + 1 := by unfold collQ bfsQ; omega
    omega
  generalize hN : w7.heap.size = n at hn
  have hJHF : ∀ s W, QJ w W n b0 w6.heap.size (w6.heap.size + 1) c6 hb (collQ H roots).length (.slice A roots.length c) s → HF W s w6.heap.size (w6.heap.size + 1) hb rb vs ps gs H (.slice A roots.length c) roots := fun s W h =>
    ⟨hR0.ext h.ext, h.k1.cell rfl, h.k2.cell rfl, hrs.ext h.ext, h.snap, fun k hk ho => by have := hFoot k hk; have := h.own k ho; omega⟩
  have hst : ∀ s W W', Off n W W' → QJ w W n b0 w6.heap.size (w6.heap.size + 1) c6 hb (collQ H roots).length (.slice A roots.length c) s → QJ w W' n b0 w6.heap.size (w6.heap.size + 1) c6 hb (collQ H roots).length (.slice A roots.length c) s := by
    rintro s W W' ho h
    refine h.chg hn ho.chg' (fun k hk => by omega) rfl (fun k hk => by rw [ho.size]; exact h.own k hk) (fun k hk => ?_)
    have := h.own k hk
    rw [ho.block k (by omega) (by omega)]
    exact h.snap k hk
  refine ok_block ?_
  refine ok_rangeG (S := RS) (cap := [ptrOf w6.heap.size, ptrOf (w6.heap.size + 1)])
    (fun s W => QJ w W n b0 w6.heap.size (w6.heap.size + 1) c6 hb (collQ H roots).length (.slice A roots.length c) s) (fun _ _ => False) ⟨0, fun _ => False, fun _ => none⟩
    (fun s => [.int .i64 ((collQ H roots).getD s.i 0)]) (fun s => s.i < (collQ H roots).length) (fun s => s.i = (collQ H roots).length) (fun s s' => s' = ⟨s.i + 1, s.own, s.snap⟩) GenR
    rfl Fx.en88 (by decide) (fun s _ => rfl) ?_ (fun _ _ _ _ h => h) ?_ ?_ ?_ ?_ ?_ (fun _ h => h.elim) (fun _ _ h => h.elim)
  · rw [hN]; exact hst
  · rintro s W s' W' hsz hg h
    rw [hN] at hsz ⊢
    have hso : ∀ k, s'.own k → n + 2 ≤ k ∧ k < W'.heap.size := fun k hk => by
      refine ⟨?_, (hg.new k hk).2⟩
      rcases (hg.new k hk).1 with h1 | h1
      · exact (h.own k h1).1
      · omega
    exact ⟨Keep.chg hg.chg (by omega) (fun ho => by have := h.own n ho; omega) (fun ho => by have := h.own (n + 1) ho; omega), h.chg hn hg.chg (fun k hk => by have := h.own k hk; omega) hg.i hso (fun k hk => by rw [hg.snap])⟩
  · intro W he hsz
    exact ⟨he07.trans he, ((hb06.ext he7).ext he), hk1.ext he, hk2.ext he, hk6.ext he, Nat.zero_le _, fun k h => h.elim, fun k h => h.elim⟩
  · -- one round
    rintro s W hmore h hsz
    rw [hN] at hsz ⊢
    simp only [bindE]
    refine ok_skip ?_
    refine ⟨rfl, Keep.refl _ _, fun W2 ho => ?_⟩
    have h2 := hst s W W2 ho h
    have hsz2 : n + 1 < W2.heap.size := by rw [ho.size]; exact hsz
    clear h ho hsz
    refine ok_block ?_
    refine ok_region rfl ?_
    (try revert X); refine t14 ?_; intro X hX
    refine ⟨_, h2.k6.cell (j := 0) rfl, ?_⟩
    (try revert X); refine t14 ?_; intro X hX
    refine ⟨by simp only [inI]; omega, ?_⟩
    (try revert X); refine t14 ?_; intro X hX
    refine Runs.store h2.k6 Fx.zi3 rfl (by intro u hu; simp [Value.cells] at hu; subst hu; rfl) (by simp) (fun w13 hc13 hs13 hb13 => ?_)
    rw [splice_all _ _ (by simp [Value.cells])] at hb13
    simp only [Value.cells] at hb13
    (try revert X); refine t14 ?_; intro X hX
    have hnn := hn
    obtain ⟨⟨m0, n0⟩, ⟨m1, n1⟩, ⟨m2, n2⟩, ⟨m6, n6⟩, nne⟩ := hnn
    refine ⟨Keep.chg hc13 hsz2 (by omega) (by omega), ⟨s.i + 1, s.own, s.snap⟩, rfl, ?_⟩
    refine ⟨h2.ext.chg_trans hc13 (fun k hk => by omega), h2.k0.chg hc13 (by omega), h2.k1.chg hc13 (by omega), h2.k2.chg hc13 (by omega), hb13, by simp only; omega, fun k hk => ⟨(h2.own k hk).1, Nat.lt_of_lt_of_le (h2.own k hk).2 hc13.size⟩, fun k hk => ?_⟩
    have h3 := h2.own k hk
    rw [hc13.block k h3.2 (by omega)]
    exact h2.snap k hk
  · -- the iterator
    intro J' Jx' W hm hJ h0 hy
    rw [hN] at hy ⊢
    refine Rets.mono (reached1_ok (J' := J') (Jx' := Jx') W (n + 1) w6.heap.size (w6.heap.size + 1) hb rb vs ps gs H (.slice A roots.length c) roots hl hW hrall hrl (fun s W hj => hJHF s W (hJ s W hj).1) hm h0 ?_) ?_
    · intro s W r hr hj
      have hlt : s.i < (collQ H roots).length := (List.getElem?_eq_some_iff.1 hr).1
      have hg : (collQ H roots).getD s.i 0 = r := by rw [List.getD_eq_getElem?_getD]; rw [show (collQ H roots)[s.i]? = some r from hr]; rfl
      have := hy s W hlt hj
      rw [hg] at this
      obtain ⟨fn, tmps, assign, body, h1, h2⟩ := this
      refine ⟨fn, tmps, assign, body, h1, RoundIn.mono h2 ?_⟩
      rintro e W' ⟨b, rfl, hb⟩
      refine ⟨b, rfl, ?_⟩
      rcases hb with ⟨rfl, s', rfl, hj'⟩ | hb
      · exact .inl ⟨rfl, hj'⟩
      · exact .inr hb
    · rintro v W' (⟨s, h1, h2⟩ | h)
      · exact .inl ⟨s, h1, h2⟩
      · exact .inr h
  · -- behind the range
    rintro s W hfin h hd
    rw [hN] at hd ⊢
    try simp only [zW, zU, reduceIte, Nat.reduceEqDiff, Nat.reduceAdd, reduceCtorEq, Q14]
    refine hM0 _ _ _ ?_; clear hM0 M0
    have hk6' := h.k6
    rw [hfin] at hk6'
    refine ok_seq (fun M hM => ok_region rfl ?_)
    (try revert X); refine t14 ?_; intro X hX
    refine ⟨_, hk6'.cell (j := 0) rfl, ?_⟩
    (try revert X); refine t14 ?_; intro X hX
    refine hM _ _ _ ?_; clear hM M
    have hc5 : Chg (· = n) W (W.putObj n (.deferred none)) := ⟨rfl, rfl, rfl, by simp, fun k hk hne => World.putObj_heap_other (fun e => hne e)⟩
    refine ok_ret ?_
    refine .inr ⟨_, rfl, hd, ?_⟩
    generalize W.putObj n (.deferred none) = w5 at hc5
    try simp only [zW, zU, reduceIte, Nat.reduceEqDiff, Nat.reduceAdd, reduceCtorEq, Q14]
    exact h.ext.chg_trans hc5 (fun k hk => by omega)
end Go.Proofs.YtldeokfhipjbfaaGreatDoor
/- words.add. -/
set_option linter.unusedVariables false
set_option linter.unusedSimpArgs false
namespace Go.Proofs.Vg
open Go Go.RowKit
def injB : List (Option Nat) → Bool
  | [] => true
  | none :: l => injB l
  | some s :: l => !l.contains (some s) && injB l
theorem injB_iff : ∀ {l : List (Option Nat)}, injB l = true → ∀ (i j s : Nat), l[i]? = some (some s) → l[j]? = some (some s) → i = j
  | [], _, i, j, s, hi, _ => by simp at hi
  | none :: l, h, i, j, s, hi, hj => by
    cases i with
    | zero => simp at hi
    | succ i =>
      cases j with
      | zero => simp at hj
      | succ j => rw [injB_iff (l := l) (by simpa [injB] using h) i j s (by simpa using hi) (by simpa using hj)]
  | some t :: l, h, i, j, s, hi, hj => by
    simp only [injB, Bool.and_eq_true, Bool.not_eq_true'] at h
    have hc : some t ∉ l := by
      intro hm
      have := List.contains_iff_mem.2 hm
      rw [h.1] at this; cases this
    cases i with
    | zero =>
      cases j with
      | zero => rfl
      | succ j =>
        simp at hi hj; subst hi
        exact absurd (List.mem_of_getElem? hj) hc
    | succ i =>
      cases j with
      | zero =>
        simp at hi hj; subst hj
        exact absurd (List.mem_of_getElem? hi) hc
      | succ j => rw [injB_iff (l := l) h.2 i j s (by simpa using hi) (by simpa using hj)]
/-- No slot of a list is known beforehand. -/
def freeB (l : List (Option Nat)) (ks : List Nat) : Bool := l.all fun o => match o with | some s => !ks.contains s | none => true
theorem freeB_iff {l : List (Option Nat)} {E : Env} (h : freeB l (E.map Prod.fst) = true) (i s : Nat) (hi : l[i]? = some (some s)) : E.get s = none := by
  have h1 := List.all_eq_true.1 h _ (List.mem_of_getElem? hi)
  simp only [Bool.not_eq_true'] at h1
  have h2 : s ∉ E.map Prod.fst := by
    intro hm
    have := List.contains_iff_mem.2 hm
    rw [h1] at this; cases this
  clear h h1 hi
  induction E with
  | nil => rfl
  | cons p E ih =>
    obtain ⟨k, v⟩ := p
    simp only [List.map_cons, List.mem_cons, not_or] at h2
    simp only [Env.get]
    rw [if_neg h2.1]
    exact ih h2.2
end Go.Proofs.Vg
namespace Go.Proofs.YtldeokfhipjbfaaGreatDoor
open Go Go.Proofs.Vg Go.RowKit

-- -- function 28
set_option maxHeartbeats 4000000 in
set_option maxRecDepth 8000 in
theorem wadd_ok (w : World) (bz : Nat) (vh vr : Value) (l : List Wd) (x y : Wd) (hz : Blk w bz [vh, vr] 32) (hvh : w.ownsRow 0 38 3 vh l.length (oflat l)) (hvr : w.ownsRow 0 75 3 vr l.length (oflat l))
    (d1 : vh.ownBlock ≠ some bz) (d2 : vr.ownBlock ≠ some bz) (d3 : ∀ k, vh.ownBlock = some k → vr.ownBlock ≠ some k) (hll : l.length ≤ 1048576) :
    Rets Tryz.prog 28 [ptrOf bz, wv x, wv y] w (fun v w' => Chg (fun k => vh.ownBlock = some k ∨ vr.ownBlock = some k ∨ k = bz) w w' ∧ ∃ vh' vr', Blk w' bz [vh', vr'] 32 ∧ w'.ownsRow 0 38 3 vh' (l.length + 1) (oflat l ++ x.row) ∧ w'.ownsRow 0 75 3 vr' (l.length + 1) (oflat l ++ y.row) ∧ Own2 w vh vh' ∧ Own2 w vr vr') := by
  refine rets_of_ok Tryz.func28 rfl rfl ?_
  refine ok_seq (fun M hM => ok_region rfl ?_)
  (try revert X); refine t28 ?_; intro X hX
  refine Runs.box (fun w1 he1 hz1 hb1 => ?_)
  generalize hB1 : w.heap.size = B1 at hz1 hb1
  simp only [Value.cells] at hb1
  (try revert X); refine t28 ?_; intro X hX
  refine Runs.box (fun w2 he2 hz2 hb2 => ?_)
  generalize hB2 : w1.heap.size = B2 at hz2 hb2
  simp only [Value.cells] at hb2
  (try revert X); refine t28 ?_; intro X hX
  refine hM _ _ _ ?_; clear hM M
  have hb12 := hb1.ext he2
  have he02 := he1.trans he2
  have hs02 := he02.size
  have hbl := hz.lt
  have hvh2 := owns_chg' hvh (he02.chg (fun _ => False)) (fun _ _ => id)
  have hvr2 := owns_chg' hvr (he02.chg (fun _ => False)) (fun _ _ => id)
  obtain ⟨one1, cel1, -⟩ := owns_one hvh
  obtain ⟨one2, cel2, -⟩ := owns_one hvr
  have hlt1 : ∀ k, vh.ownBlock = some k → k < w.heap.size := fun k hk => (hvh.lt k hk).2
  have hlt2 : ∀ k, vr.ownBlock = some k → k < w.heap.size := fun k hk => (hvr.lt k hk).2
  obtain ⟨A, hA⟩ : ∃ A : AP, A = ⟨w2, bz, vh, vr, x.row, y.row, oflat l, oflat l, l.length, 38, 75, 32,
    [some 6, some 7, some 8, some 9, some 10, some 11, some 12, some 13, some 14, some 15, some 16, some 17, some 18, some 19, some 20, some 21, some 22, some 23, none, some 24, some 25, none],
    [some (ptrOf bz), some (ptrOf bz), some (ptrOf bz), some (ptrOf bz), some (.pointer (some ⟨bz, 0, none⟩)), some vh, some (wv x), none, none, some (ptrOf bz), some (ptrOf bz), some (.pointer (some ⟨bz, 1, none⟩)), some vr, some (wv y), none, none, some (ptrOf bz), some (.pointer (some ⟨bz, 0, none⟩)), none, some (ptrOf bz), some (.pointer (some ⟨bz, 1, none⟩)), none],
    [(0, ptrOf bz), (4, ptrOf B1), (5, ptrOf B2)], 7, 8, 14, 15, 18, 21, 13, 14, 20, 21⟩ := ⟨_, rfl⟩
  have ok : AOk A := by
    subst hA
    refine ⟨injB_iff rfl, freeB_iff rfl, rfl, rfl, rfl, rfl, fun v => ⟨by simp, by simp, by simp, by simp⟩, fun s => by simp, fun s => by simp, by simp, by simp, d1, d2, d3, by simp only; omega, fun k hk => by have := hlt1 k hk; simp only; omega, fun k hk => by have := hlt2 k hk; simp only; omega⟩
  refine ok_anyC (JA A) Fx.mixed (by decide) (by decide +kernel) A.E0 (by subst hA; simp [sub, Env.get]) ?_ ?_ ?_
  · subst hA
    refine ⟨fun s v h => h, fun i s v _ _ h => (by cases h), (Ext.drew _).chg _, fun h => (by cases h), fun h => (by cases h), fun _ => owns_chg' hvh2 ((Ext.drew _).chg (fun _ => False)) (fun _ _ => id), fun _ => owns_chg' hvr2 ((Ext.drew _).chg (fun _ => False)) (fun _ _ => id), fun h => (by cases h), fun h => (by cases h), vh, vr, (hz.ext he02).ext (Ext.drew _), fun _ => rfl, fun _ => rfl⟩
  · intro L K w' j o hJ hcl ho hLj hn
    have hj : j < 22 := by have := (List.getElem?_eq_some_iff.1 ho).1; simpa using this
    have hjj : j = 0 ∨ j = 1 ∨ j = 2 ∨ j = 3 ∨ j = 4 ∨ j = 5 ∨ j = 6 ∨ j = 7 ∨ j = 8 ∨ j = 9 ∨ j = 10 ∨ j = 11 ∨ j = 12 ∨ j = 13 ∨ j = 14 ∨ j = 15 ∨ j = 16 ∨ j = 17 ∨ j = 18 ∨ j = 19 ∨ j = 20 ∨ j = 21 := by omega
    have hsz := hJ.chg.size
    subst hA
    rcases hjj with rfl | rfl | rfl | rfl | rfl | rfl | rfl | rfl | rfl | rfl | rfl | rfl | rfl | rfl | rfl | rfl | rfl | rfl | rfl | rfl | rfl | rfl <;> simp only [List.getElem?_cons_zero, List.getElem?_cons_succ, Option.some.injEq] at ho <;> subst ho
    · simp only [wpL, opF, ev, hJ.env 0 _ rfl]
      exact hJ.simp1 ok rfl rfl
    · simp only [wpL, opF, ev, hJ.env 0 _ rfl]
      exact hJ.simp1 ok rfl rfl
    · simp only [wpL, opF, ev, hJ.env 0 _ rfl]
      exact hJ.simp1 ok rfl rfl
    · have f := hJ.simple 2 8 _ rfl rfl (hn 2 (by simp [needs, Region.binds]))
      simp only [wpL, opF, ev, f]
      exact hJ.simp1 ok rfl rfl
    · have f := hJ.simple 3 9 _ rfl rfl (hn 3 (by simp [needs, Region.binds]))
      simp only [wpL, opF, ev, f, Fx.fo32_0, add_at]
      exact hJ.simp1 ok rfl rfl
    · have f := hJ.simple 4 10 _ rfl rfl (hn 4 (by simp [needs, Region.binds]))
      have c5 : L 18 = false := hcl.no (j := 18) (k := 5) rfl (by simp [needs, Region.binds]) hLj
      have c6 : L 21 = false := hcl.no (j := 21) (k := 5) rfl (by simp [needs, Region.binds]) hLj
      obtain ⟨u1, u2, q1, q2, q3⟩ := hJ.z
      cases q2 c5; cases q3 c6
      simp only [wpL, opF, ev, f, Fx.ag29]
      exact ⟨_, q1.cell (j := 0) rfl, hJ.simp1 ok rfl rfl⟩
    · simp only [wpL, opF, ev, hJ.env 4 _ rfl, Fx.ag38]
      have hbk := hb12.chg hJ.chg (fun e => by rcases e with e | e | e <;> first | (have := hlt1 _ e; omega) | (have := hlt2 _ e; omega) | (simp only at e; omega))
      exact ⟨x.row, rfl, hbk.cells (o := 0) (fun j u hj => by simpa using hj), hJ.simp1 ok rfl rfl⟩
    · have f := hJ.simple 6 12 _ rfl rfl (hn 6 (by simp [needs, Region.binds]))
      simp only [wpL, opF, evp, ev, f]
      refine Runs.lit (cs := x.row) Fx.un29 Fx.zi38 (by decide) (by kernel_rfl) (by decide) (fun w8 he8 hs8 hb8 => ?_)
      exact (hJ.ext ok he8).lit1 ok (hcl.no (j := 8) (k := 7) rfl (by simp [needs, Region.binds]) hLj) (by simp only at hsz ⊢; omega) hb8
    · have f := hJ.simple 5 11 _ rfl rfl (hn 5 (by simp [needs, Region.binds]))
      obtain ⟨B, q1, q2, q3⟩ := hJ.l1 (hn 7 (by simp [needs, Region.binds])) hLj
      simp only at q1 q3
      simp only [wpL, opF, evs, ev, f, q1]
      refine Runs.append1' Fx.un29 Fx.zi38 rfl (by decide) (hJ.a1n hLj) q3 rfl (by intro u hu; simp [Wd.row] at hu; rcases hu with rfl | rfl | rfl <;> rfl) (by simp [maxLen]; omega) (by simp only; omega) (by omega) (fun v1 w9 hown9 hg9 hblk => ?_)
      exact hJ.app1 ok hLj (hcl.no (j := 18) (k := 8) rfl (by simp [needs, Region.binds]) hLj) (grown_chg hg9) hown9 hblk
    · simp only [wpL, opF, ev, hJ.env 0 _ rfl]
      exact hJ.simp1 ok rfl rfl
    · have f := hJ.simple 9 15 _ rfl rfl (hn 9 (by simp [needs, Region.binds]))
      simp only [wpL, opF, ev, f]
      exact hJ.simp1 ok rfl rfl
    · have f := hJ.simple 10 16 _ rfl rfl (hn 10 (by simp [needs, Region.binds]))
      simp only [wpL, opF, ev, f, Fx.fo32_1, add_at]
      exact hJ.simp1 ok rfl rfl
    · have f := hJ.simple 11 17 _ rfl rfl (hn 11 (by simp [needs, Region.binds]))
      have c5 : L 18 = false := hcl.no (j := 18) (k := 12) rfl (by simp [needs, Region.binds]) hLj
      have c6 : L 21 = false := hcl.no (j := 21) (k := 12) rfl (by simp [needs, Region.binds]) hLj
      obtain ⟨u1, u2, q1, q2, q3⟩ := hJ.z
      cases q2 c5; cases q3 c6
      simp only [wpL, opF, ev, f, Fx.ag30]
      exact ⟨_, q1.cell (j := 1) rfl, hJ.simp1 ok rfl rfl⟩
    · simp only [wpL, opF, ev, hJ.env 5 _ rfl, Fx.ag75]
      have hbk := hb2.chg hJ.chg (fun e => by rcases e with e | e | e <;> first | (have := hlt1 _ e; omega) | (have := hlt2 _ e; omega) | (simp only at e; omega))
      exact ⟨y.row, rfl, hbk.cells (o := 0) (fun j u hj => by simpa using hj), hJ.simp1 ok rfl rfl⟩
    · have f := hJ.simple 13 19 _ rfl rfl (hn 13 (by simp [needs, Region.binds]))
      simp only [wpL, opF, evp, ev, f]
      refine Runs.lit (cs := y.row) Fx.un30 Fx.zi75 (by decide) (by kernel_rfl) (by decide) (fun w8 he8 hs8 hb8 => ?_)
      exact (hJ.ext ok he8).lit2 ok (hcl.no (j := 15) (k := 14) rfl (by simp [needs, Region.binds]) hLj) (by simp only at hsz ⊢; omega) hb8
    · have f := hJ.simple 12 18 _ rfl rfl (hn 12 (by simp [needs, Region.binds]))
      obtain ⟨B, q1, q2, q3⟩ := hJ.l2 (hn 14 (by simp [needs, Region.binds])) hLj
      simp only at q1 q3
      simp only [wpL, opF, evs, ev, f, q1]
      refine Runs.append1' Fx.un30 Fx.zi75 rfl (by decide) (hJ.a2n hLj) q3 rfl (by intro u hu; simp [Wd.row] at hu; rcases hu with rfl | rfl | rfl <;> rfl) (by simp [maxLen]; omega) (by simp only; omega) (by omega) (fun v1 w9 hown9 hg9 hblk => ?_)
      exact hJ.app2 ok hLj (hcl.no (j := 21) (k := 15) rfl (by simp [needs, Region.binds]) hLj) (grown_chg hg9) hown9 hblk
    · have f := hJ.simple 0 6 _ rfl rfl (hn 0 (by simp [needs, Region.binds]))
      simp only [wpL, opF, ev, f]
      exact hJ.simp1 ok rfl rfl
    · have f := hJ.simple 16 22 _ rfl rfl (hn 16 (by simp [needs, Region.binds]))
      simp only [wpL, opF, ev, f, Fx.fo32_0, add_at]
      exact hJ.simp1 ok rfl rfl
    · have f := hJ.simple 17 23 _ rfl rfl (hn 17 (by simp [needs, Region.binds]))
      obtain ⟨v1, q1, q2, q3, q4⟩ := hJ.a1 (hn 8 (by simp [needs, Region.binds]))
      obtain ⟨o1, o2, -⟩ := owns_one q2
      obtain ⟨u1, u2, z1, z2, z3⟩ := hJ.z
      simp only at q1 z1
      simp only [wpL, opF, ev, f, q1]
      refine Runs.store z1 Fx.zi29 (by rw [o2]; rfl) (by rw [o2]; intro u hu; simp at hu; subst hu; exact o1) (by simp) (fun w9 hc9 hs9 hb9 => ?_)
      exact hJ.st1 ok (hn 8 (by simp [needs, Region.binds])) q1 hc9 z1 (by simpa [splice, o2] using hb9)
    · have f := hJ.simple 1 7 _ rfl rfl (hn 1 (by simp [needs, Region.binds]))
      simp only [wpL, opF, ev, f]
      exact hJ.simp1 ok rfl rfl
    · have f := hJ.simple 19 24 _ rfl rfl (hn 19 (by simp [needs, Region.binds]))
      simp only [wpL, opF, ev, f, Fx.fo32_1, add_at]
      exact hJ.simp1 ok rfl rfl
    · have f := hJ.simple 20 25 _ rfl rfl (hn 20 (by simp [needs, Region.binds]))
      obtain ⟨v1, q1, q2, q3, q4⟩ := hJ.a2 (hn 15 (by simp [needs, Region.binds]))
      obtain ⟨o1, o2, -⟩ := owns_one q2
      obtain ⟨u1, u2, z1, z2, z3⟩ := hJ.z
      simp only at q1 z1
      simp only [wpL, opF, ev, f, q1]
      refine Runs.store z1 Fx.zi30 (by rw [o2]; rfl) (by rw [o2]; intro u hu; simp at hu; subst hu; exact o1) (by simp) (fun w9 hc9 hs9 hb9 => ?_)
      exact hJ.st2 ok (hn 15 (by simp [needs, Region.binds])) q1 hc9 z1 (by simpa [splice, o2] using hb9)
  intro K w3 hJ
  obtain ⟨v, v', q1, q2, q3, q4, q5⟩ := hJ.fin (by subst hA; rfl) (by subst hA; rfl) (by subst hA; rfl) (by subst hA; rfl)
  have hc := hJ.chg
  subst hA
  try simp only [zW, zU, reduceIte, Nat.reduceEqDiff, Nat.reduceAdd, reduceCtorEq, Q28]
  have o2 : ∀ {a b : Value}, Own2 w2 a b → Own2 w a b := fun h => h.imp id (fun ⟨k, e, hk⟩ => ⟨k, e, by omega⟩)
  exact ⟨(he02.chg _).trans hc, v, v', q1, q2, q3, o2 q4, o2 q5⟩
end Go.Proofs.YtldeokfhipjbfaaGreatDoor
/- words.pick.  -/
set_option linter.unusedVariables false
set_option linter.unusedSimpArgs false
namespace Go.Proofs.YtldeokfhipjbfaaGreatDoor
open Go Go.Proofs.Vg Go.RowKit

def pickI (n : Nat) (i : Int) : Nat := ((i.tmod n + n).tmod n).toNat
def pickF (l : List Wd) (of : List Int) : List Wd := if l.length = 0 then [] else of.map (fun i => l.getD (pickI l.length i) ⟨0, 0, 0⟩)
theorem pickI_lt {n : Nat} (hn : 0 < n) (i : Int) : pickI n i < n := by
  unfold pickI
  have h1 := Int.tmod_lt_of_pos i (b := (n : Int)) (by omega)
  have h3 := Int.lt_tmod_of_pos i (b := (n : Int)) (by omega)
  have h2 := Int.tmod_lt_of_pos (i.tmod n + n) (b := (n : Int)) (by omega)
  omega
theorem pickF_snoc (l : List Wd) (of : List Int) (i : Int) (h : l.length ≠ 0) : pickF l (of ++ [i]) = pickF l of ++ [l.getD (pickI l.length i) ⟨0, 0, 0⟩] := by
  unfold pickF
  rw [if_neg h, if_neg h, List.map_append]; rfl

theorem pickI_eq {n : Nat} (hn : 0 < n) (i : Int) : (i.tmod n + n).tmod n = ((pickI n i : Nat) : Int) := by
  unfold pickI
  have h3 := Int.lt_tmod_of_pos i (b := (n : Int)) (by omega)
  have h4 : 0 ≤ (i.tmod n + n).tmod n := Int.tmod_nonneg _ (by omega)
  omega
theorem Runs.rem {P : Program} {w : World} {t : TypeId} {x y : Operand} {nx : Value → World → Prop} {a b : Int} (hb : b ≠ 0) (h : nx (.int .i64 (a.tmod b)) w) : Runs P (do eqGuard .rem t x y (.int .i64 a) (.int .i64 b); binOp .rem t (.int .i64 a) (.int .i64 b)) w nx := by
  refine ⟨_, w, ?_, h⟩
  simp [eqGuard, binOp, Op.intDiv, hb, Result.andThen]

-- -- function 11
set_option maxHeartbeats 4000000 in
set_option maxRecDepth 8000 in
theorem pick_ok (w : World) (lh lr ov : Value) (l : List Wd) (of : List Int) (hlh : SlW w lh l) (hlr : SlW w lr l) (hov : SlI w ov of) (hll : l.length ≤ 1048576) (hol : of.length ≤ 1048576) :
    Rets Tryz.prog 11 [.agg #[lh, lr], ov] w (fun v w' => Ext w w' ∧ ∃ ph pr, v = .agg #[ph, pr] ∧ w'.ownsRow 0 38 3 ph (pickF l of).length (oflat (pickF l of)) ∧ w'.ownsRow 0 75 3 pr (pickF l of).length (oflat (pickF l of)) ∧
      (∀ k, ph.ownBlock = some k → w.heap.size ≤ k ∧ pr.ownBlock ≠ some k) ∧ (∀ k, pr.ownBlock = some k → w.heap.size ≤ k)) := by
  obtain ⟨Ah, ch, rfl, -, hch⟩ := id hlh
  obtain ⟨Ar, cr, rfl, -, hcr⟩ := id hlr
  obtain ⟨Ao, co, rfl, hlo, hco⟩ := id hov
  rw [wd_len] at hlh hlr ⊢
  rw [ints_length] at hov ⊢
  refine rets_of_okC Tryz.func11 rfl rfl ?_
  refine ok_seq (fun M hM => ok_region rfl ?_)
  (try revert X); refine t11 ?_; intro X hX
  refine Runs.box (fun w1 he1 hz1 hb1 => ?_)
  generalize hB1 : w.heap.size = B1 at hz1 hb1
  simp only [Value.cells] at hb1
  (try revert X); refine t11 ?_; intro X hX
  refine Runs.alloc Fx.zi32 (fun w2 he2 hz2 hb2 => ?_)
  generalize hB2 : w1.heap.size = B2 at hz2 hb2
  simp only [Value.cells] at hb2
  (try revert X); refine t11 ?_; intro X hX
  refine hM _ _ _ ?_; clear hM M
  refine ok_seq (fun M hM => ok_region rfl ?_)
  (try revert X); refine t11 ?_; intro X hX
  refine Runs.alloc Fx.zi32 (fun w3 he3 hz3 hb3 => ?_)
  generalize hB3 : w2.heap.size = B3 at hz3 hb3
  simp only [Value.cells] at hb3
  (try revert X); refine t11 ?_; intro X hX
  refine hM _ _ _ ?_; clear hM M
  have hb13 := (hb1.ext he2).ext he3
  have hb23 := hb2.ext he3
  have he03 := (he1.trans he2).trans he3
  refine ok_seq (fun M0 hM0 => ?_)
  refine ok_seq (fun M hM => ok_region rfl ?_); (try revert X); refine t11 ?_; intro X hX
  refine hM _ _ _ ?_; clear hM M
  refine ok_block ?_
  refine ok_loop (S := Nat) (fun i => [(2, ptrOf B1), (4, ptrOf B2), (5, ptrOf B3), (10, .slice Ao of.length co), (11, .int .i64 (of.length : Int)), (12, .int .i64 (i : Int))]) (fun i w4 => i ≤ of.length ∧ Ext w w4 ∧ Blk w4 B1 [.slice Ah l.length ch, .slice Ar l.length cr] 32 ∧ Blk w4 B2 [.slice none 0 0, .slice none 0 0] 32 ∧
    ∃ ph pr, Blk w4 B3 [ph, pr] 32 ∧ w4.ownsRow 0 38 3 ph (pickF l (of.take i)).length (oflat (pickF l (of.take i))) ∧ w4.ownsRow 0 75 3 pr (pickF l (of.take i)).length (oflat (pickF l (of.take i))) ∧
      (∀ k, ph.ownBlock = some k → B3 < k ∧ pr.ownBlock ≠ some k) ∧ (∀ k, pr.ownBlock = some k → B3 < k)) (fun i => of.length - i) 0 ?_ ?_ ?_
  · simp [sub, Env.get]
  · refine ⟨Nat.zero_le _, he03, hb13, hb23, .slice none 0 0, .slice none 0 0, hb3, ?_, ?_, fun k hk => by simp [Value.ownBlock] at hk, fun k hk => by simp [Value.ownBlock] at hk⟩
    · have : pickF l (of.take 0) = [] := by unfold pickF; simp
      rw [this]; exact World.ownsRow_nil _ _ _ _
    · have : pickF l (of.take 0) = [] := by unfold pickF; simp
      rw [this]; exact World.ownsRow_nil _ _ _ _
  rintro i w4 ⟨hi, he4, hb14, hb24, ph, pr, hb34, hph, hpr, hd1, hd2⟩
  refine ok_seq (fun M hM => ok_region rfl ?_); (try revert X); refine t11 ?_; intro X hX
  refine hM _ _ _ ?_; clear hM M
  refine ok_seq (fun M1 hM1 => ?_)
  refine ok_if rfl (fun hc => ok_skip ?_) (fun hc => ok_exit ?_)
  rotate_left
  · try simp only [zW, zU, reduceIte, Nat.reduceEqDiff, Nat.reduceAdd, reduceCtorEq, Q11]
    refine hM0 _ _ _ ?_; clear hM0 M0 hM1 M1
    have hia : i = of.length := by omega
    subst hia
    rw [List.take_of_length_le (Nat.le_refl _)] at hph hpr
    refine ok_seq (fun M hM => ok_region rfl ?_)
    (try revert X); refine t11 ?_; intro X hX
    refine ⟨[ph, pr], rfl, hb34.cells (o := 0) (fun j u hj => by simpa using hj), ?_⟩
    (try revert X); refine t11 ?_; intro X hX
    obtain ⟨one1, cel1, -⟩ := owns_one hph
    obtain ⟨one2, cel2, -⟩ := owns_one hpr
    refine Runs.store hb24 Fx.zi32 rfl (by intro u hu; simp [Value.cells] at hu; rcases hu with rfl | rfl; exact one1; exact one2) (by simp) (fun w11 hc11 hs11 hb11 => ?_)
    rw [splice_all _ _ (by simp [Value.cells])] at hb11
    simp only [Value.cells] at hb11
    (try revert X); refine t11 ?_; intro X hX
    refine hM _ _ _ ?_; clear hM M
    refine ok_ret ?_
    try simp only [zW, zU, reduceIte, Nat.reduceEqDiff, Nat.reduceAdd, reduceCtorEq, Q11]
    refine ⟨_, rfl, hb11.cells (o := 0) (row := [ph, pr]) (fun j u hj => by simpa using hj), he4.chg_trans hc11 (fun k hk => by omega), ph, pr, rfl, owns_chg' hph hc11 (fun k hk e => by have := (hd1 k hk).1; omega), owns_chg' hpr hc11 (fun k hk e => by have := hd2 k hk; omega), fun k hk => ⟨by have := (hd1 k hk).1; omega, (hd1 k hk).2⟩, fun k hk => by have := hd2 k hk; omega⟩
  · try simp only [zW, zU, reduceIte, Nat.reduceEqDiff, Nat.reduceAdd, reduceCtorEq, Q11]
    refine hM1 _ _ _ ?_; clear hM1 M1
    have hil : i < of.length := by omega
    have hxi : of[i]? = some of[i] := List.getElem?_eq_getElem hil
    obtain ⟨b, o, rfl, hcc⟩ := hco i [.int .i64 of[i]] (by simp [ints, hxi])
    have hcc0 := hcc 0 _ rfl
    refine ok_seq (fun M1 hM1 => ok_block ?_)
    refine ok_seq (fun M hM => ok_region rfl ?_)
    (try revert X); refine t11 ?_; intro X hX
    refine ⟨by omega, by omega, ?_⟩
    (try revert X); refine t11 ?_; intro X hX
    refine ⟨_, he4.cell (by simpa [add_at] using hcc0), ?_⟩
    (try revert X); refine t11 ?_; intro X hX
    refine hM _ _ _ ?_; clear hM M
    refine ok_seq (fun M hM => ok_region rfl ?_)
    (try revert X); refine t11 ?_; intro X hX
    refine ⟨_, hb14.cell (j := 0) rfl, ?_⟩
    (try revert X); refine t11 ?_; intro X hX
    refine hM _ _ _ ?_; clear hM M
    refine ok_seq (fun M hM => ok_region rfl ?_)
    (try revert X); refine t11 ?_; intro X hX
    refine hM _ _ _ ?_; clear hM M
    refine ok_if rfl (fun hn0 => ?_) (fun hn0 => ok_skip ?_)
    rotate_left
    · try simp only [zW, zU, reduceIte, Nat.reduceEqDiff, Nat.reduceAdd, reduceCtorEq, Q11]
      refine hM1 _ _ _ ?_; clear hM1 M1
      have hl0 : l.length = 0 := by omega
      refine ok_region rfl ?_
      (try revert X); refine t11 ?_; intro X hX
      refine ⟨by simp only [inI]; omega, ?_⟩
      (try revert X); refine t11 ?_; intro X hX
      have hp1 : pickF l (of.take i) = [] := by unfold pickF; rw [if_pos hl0]
      have hp2 : pickF l (of.take (i + 1)) = [] := by unfold pickF; rw [if_pos hl0]
      rw [hp1] at hph hpr
      refine ⟨i + 1, by simp [sub, Env.get], ⟨by omega, he4, hb14, hb24, ph, pr, hb34, by rw [hp2]; exact hph, by rw [hp2]; exact hpr, hd1, hd2⟩, by omega⟩
    have hn0' : 0 < l.length := by omega
    refine ok_seq (fun M hM => ok_region rfl ?_)
    (try revert X); refine t11 ?_; intro X hX
    refine Runs.rem (by omega) ?_
    (try revert X); refine t11 ?_; intro X hX
    have hm1 := Int.tmod_lt_of_pos of[i] (b := (l.length : Int)) (by omega)
    have hm2 := Int.lt_tmod_of_pos of[i] (b := (l.length : Int)) (by omega)
    refine ⟨by simp only [inI]; omega, ?_⟩
    (try revert X); refine t11 ?_; intro X hX
    refine Runs.rem (by omega) ?_
    rw [pickI_eq hn0']
    (try revert X); refine t11 ?_; intro X hX
    refine hM _ _ _ ?_; clear hM M
    have hix := pickI_lt hn0' of[i]
    generalize hixe : pickI l.length of[i] = ix at hix
    have hlx : l[ix]? = some l[ix] := List.getElem?_eq_getElem hix
    obtain ⟨bh, oh, rfl, hcx⟩ := hch ix l[ix].row (by simp [hlx])
    obtain ⟨br, or', rfl, hcy⟩ := hcr ix l[ix].row (by simp [hlx])
    have hcx4 := he4.cellsAt hcx
    have hcy4 := he4.cellsAt hcy
    have hszz := he4.size
    have hbhl : bh < w.heap.size := by have := World.block_lt_of_cell? w _ (hcx 0 _ rfl); simpa [add_at] using this
    have hbrl : br < w.heap.size := by have := World.block_lt_of_cell? w _ (hcy 0 _ rfl); simpa [add_at] using this
    obtain ⟨one1, cel1, -⟩ := owns_one hph
    obtain ⟨one2, cel2, -⟩ := owns_one hpr
    have hlt1 : ∀ k, ph.ownBlock = some k → k < w4.heap.size := fun k hk => (hph.lt k hk).2
    have hlt2 : ∀ k, pr.ownBlock = some k → k < w4.heap.size := fun k hk => (hpr.lt k hk).2
    have hb3l := hb34.lt
    have hpl : (pickF l (of.take i)).length = i := by unfold pickF; rw [if_neg (by omega), List.length_map, List.length_take]; omega
    obtain ⟨A, hA⟩ : ∃ A : AP, A = ⟨w4, B3, ph, pr, l[ix].row, l[ix].row, oflat (pickF l (of.take i)), oflat (pickF l (of.take i)), (pickF l (of.take i)).length, 38, 75, 32,
      [some 28, some 29, some 30, some 31, some 32, some 33, some 34, some 35, some 36, some 37, some 38, some 39, some 40, some 41, some 42, some 43, some 44, some 45, some 46, none, some 47, none],
      [some (.pointer (some ⟨B3, 0, none⟩)), some ph, some (.pointer (some ⟨B1, 0, none⟩)), some (.slice (some ⟨bh, oh, none⟩) l.length ch), some (.int .i64 (ix : Int)), some (.pointer (some ⟨bh, oh + ix * 3, none⟩)), some (wv l[ix]), none, none, some (.pointer (some ⟨B3, 1, none⟩)), some pr, some (.pointer (some ⟨B1, 1, none⟩)), some (.slice (some ⟨br, or', none⟩) l.length cr), some (.int .i64 (ix : Int)), some (.pointer (some ⟨br, or' + ix * 3, none⟩)), some (wv l[ix]), none, none, some (.pointer (some ⟨B3, 0, none⟩)), none, some (.pointer (some ⟨B3, 1, none⟩)), none],
      [(2, ptrOf B1), (4, ptrOf B2), (5, ptrOf B3), (9, .int .i64 (ix : Int)), (10, .slice (some ⟨b, o, none⟩) of.length co), (11, .int .i64 (of.length : Int)), (12, .int .i64 (i : Int))], 7, 8, 16, 17, 19, 21, 35, 36, 44, 45⟩ := ⟨_, rfl⟩
    have ok : AOk A := by
      subst hA
      refine ⟨injB_iff rfl, freeB_iff rfl, rfl, rfl, rfl, rfl, fun v => ⟨by simp, by simp, by simp, by simp⟩, fun s => by simp, fun s => by simp, by simp, by simp, fun e => absurd (hd1 B3 e).1 (Nat.lt_irrefl _), fun e => absurd (hd2 B3 e) (Nat.lt_irrefl _), fun k hk => (hd1 k hk).2, by simp only; omega, fun k hk => by have := hlt1 k hk; simp only; omega, fun k hk => by have := hlt2 k hk; simp only; omega⟩
    refine ok_anyC (JA A) Fx.mixed (by decide) (by decide +kernel) A.E0 (by subst hA; simp [sub, Env.get]) ?_ ?_ ?_
    · subst hA
      refine ⟨fun s v h => h, fun i s v _ _ h => (by cases h), (Ext.drew _).chg _, fun h => (by cases h), fun h => (by cases h), fun _ => owns_chg' hph ((Ext.drew _).chg (fun _ => False)) (fun _ _ => id), fun _ => owns_chg' hpr ((Ext.drew _).chg (fun _ => False)) (fun _ _ => id), fun h => (by cases h), fun h => (by cases h), ph, pr, hb34.ext (Ext.drew _), fun _ => rfl, fun _ => rfl⟩
    · intro L K w' j o hJ hcl ho hLj hn
      have hj : j < 22 := by have := (List.getElem?_eq_some_iff.1 ho).1; simpa using this
      have hjj : j = 0 ∨ j = 1 ∨ j = 2 ∨ j = 3 ∨ j = 4 ∨ j = 5 ∨ j = 6 ∨ j = 7 ∨ j = 8 ∨ j = 9 ∨ j = 10 ∨ j = 11 ∨ j = 12 ∨ j = 13 ∨ j = 14 ∨ j = 15 ∨ j = 16 ∨ j = 17 ∨ j = 18 ∨ j = 19 ∨ j = 20 ∨ j = 21 := by omega
      have hsz := hJ.chg.size
      subst hA
      have low : ∀ k, k < B3 → ¬ (ph.ownBlock = some k ∨ pr.ownBlock = some k ∨ k = B3) := fun k hk e => by rcases e with e | e | e <;> first | (have := (hd1 _ e).1; omega) | (have := hd2 _ e; omega) | omega
      rcases hjj with rfl | rfl | rfl | rfl | rfl | rfl | rfl | rfl | rfl | rfl | rfl | rfl | rfl | rfl | rfl | rfl | rfl | rfl | rfl | rfl | rfl | rfl <;> simp only [List.getElem?_cons_zero, List.getElem?_cons_succ, Option.some.injEq] at ho <;> subst ho
      · simp only [wpL, opF, ev, hJ.env 5 _ rfl, Fx.fo32_0, add_at]
        exact hJ.simp1 ok rfl rfl
      · have f := hJ.simple 0 28 _ rfl rfl (hn 0 (by simp [needs, Region.binds]))
        have c5 : L 19 = false := hcl.no (j := 19) (k := 1) rfl (by simp [needs, Region.binds]) hLj
        have c6 : L 21 = false := hcl.no (j := 21) (k := 1) rfl (by simp [needs, Region.binds]) hLj
        obtain ⟨u1, u2, q1, q2, q3⟩ := hJ.z
        cases q2 c5; cases q3 c6
        simp only [wpL, opF, ev, f, Fx.ag29]
        exact ⟨_, q1.cell (j := 0) rfl, hJ.simp1 ok rfl rfl⟩
      · simp only [wpL, opF, ev, hJ.env 2 _ rfl, Fx.fo32_0, add_at]
        exact hJ.simp1 ok rfl rfl
      · have f := hJ.simple 2 30 _ rfl rfl (hn 2 (by simp [needs, Region.binds]))
        simp only [wpL, opF, ev, f, Fx.ag29]
        exact ⟨_, (hb14.chg hJ.chg (low B1 (by omega))).cell (j := 0) rfl, hJ.simp1 ok rfl rfl⟩
      · simp only [wpL, opF, ev, hJ.env 9 _ rfl]
        exact hJ.simp1 ok rfl rfl
      · have f := hJ.simple 3 31 _ rfl rfl (hn 3 (by simp [needs, Region.binds]))
        have f2 := hJ.simple 4 32 _ rfl rfl (hn 4 (by simp [needs, Region.binds]))
        simp only [wpL, opF, ev, f, f2, Fx.es29]
        refine ⟨by omega, by omega, ?_⟩
        simp only [add_at, Int.toNat_natCast]
        exact hJ.simp1 ok rfl rfl
      · have f := hJ.simple 5 33 _ rfl rfl (hn 5 (by simp [needs, Region.binds]))
        simp only [wpL, opF, ev, f, Fx.ag38]
        exact ⟨l[ix].row, rfl, hJ.chg.cellsAt hcx4 (low bh (by omega)), hJ.simp1 ok rfl rfl⟩
      · have f := hJ.simple 6 34 _ rfl rfl (hn 6 (by simp [needs, Region.binds]))
        simp only [wpL, opF, evp, ev, f]
        refine Runs.lit (cs := l[ix].row) Fx.un29 Fx.zi38 (by decide) (by kernel_rfl) (by decide) (fun w8 he8 hs8 hb8 => ?_)
        exact (hJ.ext ok he8).lit1 ok (hcl.no (j := 8) (k := 7) rfl (by simp [needs, Region.binds]) hLj) (by simp only at hsz ⊢; omega) hb8
      · have f := hJ.simple 1 29 _ rfl rfl (hn 1 (by simp [needs, Region.binds]))
        obtain ⟨B, q1, q2, q3⟩ := hJ.l1 (hn 7 (by simp [needs, Region.binds])) hLj
        simp only at q1 q3
        simp only [wpL, opF, evs, ev, f, q1]
        refine Runs.append1' Fx.un29 Fx.zi38 rfl (by decide) (hJ.a1n hLj) q3 rfl (by intro u hu; simp [Wd.row] at hu; rcases hu with rfl | rfl | rfl <;> rfl) (by simp [maxLen]; omega) (by simp only; omega) (by omega) (fun v1 w9 hown9 hg9 hblk => ?_)
        exact hJ.app1 ok hLj (hcl.no (j := 19) (k := 8) rfl (by simp [needs, Region.binds]) hLj) (grown_chg hg9) hown9 hblk
      · simp only [wpL, opF, ev, hJ.env 5 _ rfl, Fx.fo32_1, add_at]
        exact hJ.simp1 ok rfl rfl
      · have f := hJ.simple 9 37 _ rfl rfl (hn 9 (by simp [needs, Region.binds]))
        have c5 : L 19 = false := hcl.no (j := 19) (k := 10) rfl (by simp [needs, Region.binds]) hLj
        have c6 : L 21 = false := hcl.no (j := 21) (k := 10) rfl (by simp [needs, Region.binds]) hLj
        obtain ⟨u1, u2, q1, q2, q3⟩ := hJ.z
        cases q2 c5; cases q3 c6
        simp only [wpL, opF, ev, f, Fx.ag30]
        exact ⟨_, q1.cell (j := 1) rfl, hJ.simp1 ok rfl rfl⟩
      · simp only [wpL, opF, ev, hJ.env 2 _ rfl, Fx.fo32_1, add_at]
        exact hJ.simp1 ok rfl rfl
      · have f := hJ.simple 11 39 _ rfl rfl (hn 11 (by simp [needs, Region.binds]))
        simp only [wpL, opF, ev, f, Fx.ag30]
        exact ⟨_, (hb14.chg hJ.chg (low B1 (by omega))).cell (j := 1) rfl, hJ.simp1 ok rfl rfl⟩
      · simp only [wpL, opF, ev, hJ.env 9 _ rfl]
        exact hJ.simp1 ok rfl rfl
      · have f := hJ.simple 12 40 _ rfl rfl (hn 12 (by simp [needs, Region.binds]))
        have f2 := hJ.simple 13 41 _ rfl rfl (hn 13 (by simp [needs, Region.binds]))
        simp only [wpL, opF, ev, f, f2, Fx.es30]
        refine ⟨by omega, by omega, ?_⟩
        simp only [add_at, Int.toNat_natCast]
        exact hJ.simp1 ok rfl rfl
      · have f := hJ.simple 14 42 _ rfl rfl (hn 14 (by simp [needs, Region.binds]))
        simp only [wpL, opF, ev, f, Fx.ag75]
        exact ⟨l[ix].row, rfl, hJ.chg.cellsAt hcy4 (low br (by omega)), hJ.simp1 ok rfl rfl⟩
      · have f := hJ.simple 15 43 _ rfl rfl (hn 15 (by simp [needs, Region.binds]))
        simp only [wpL, opF, evp, ev, f]
        refine Runs.lit (cs := l[ix].row) Fx.un30 Fx.zi75 (by decide) (by kernel_rfl) (by decide) (fun w8 he8 hs8 hb8 => ?_)
        exact (hJ.ext ok he8).lit2 ok (hcl.no (j := 17) (k := 16) rfl (by simp [needs, Region.binds]) hLj) (by simp only at hsz ⊢; omega) hb8
      · have f := hJ.simple 10 38 _ rfl rfl (hn 10 (by simp [needs, Region.binds]))
        obtain ⟨B, q1, q2, q3⟩ := hJ.l2 (hn 16 (by simp [needs, Region.binds])) hLj
        simp only at q1 q3
        simp only [wpL, opF, evs, ev, f, q1]
        refine Runs.append1' Fx.un30 Fx.zi75 rfl (by decide) (hJ.a2n hLj) q3 rfl (by intro u hu; simp [Wd.row] at hu; rcases hu with rfl | rfl | rfl <;> rfl) (by simp [maxLen]; omega) (by simp only; omega) (by omega) (fun v1 w9 hown9 hg9 hblk => ?_)
        exact hJ.app2 ok hLj (hcl.no (j := 21) (k := 17) rfl (by simp [needs, Region.binds]) hLj) (grown_chg hg9) hown9 hblk
      · simp only [wpL, opF, ev, hJ.env 5 _ rfl, Fx.fo32_0, add_at]
        exact hJ.simp1 ok rfl rfl
      · have f := hJ.simple 18 46 _ rfl rfl (hn 18 (by simp [needs, Region.binds]))
        obtain ⟨v1, q1, q2, q3, q4⟩ := hJ.a1 (hn 8 (by simp [needs, Region.binds]))
        obtain ⟨o1, o2, -⟩ := owns_one q2
        obtain ⟨u1, u2, z1, z2, z3⟩ := hJ.z
        simp only at q1 z1
        simp only [wpL, opF, ev, f, q1]
        refine Runs.store z1 Fx.zi29 (by rw [o2]; rfl) (by rw [o2]; intro u hu; simp at hu; subst hu; exact o1) (by simp) (fun w9 hc9 hs9 hb9 => ?_)
        exact hJ.st1 ok (hn 8 (by simp [needs, Region.binds])) q1 hc9 z1 (by simpa [splice, o2] using hb9)
      · simp only [wpL, opF, ev, hJ.env 5 _ rfl, Fx.fo32_1, add_at]
        exact hJ.simp1 ok rfl rfl
      · have f := hJ.simple 20 47 _ rfl rfl (hn 20 (by simp [needs, Region.binds]))
        obtain ⟨v1, q1, q2, q3, q4⟩ := hJ.a2 (hn 17 (by simp [needs, Region.binds]))
        obtain ⟨o1, o2, -⟩ := owns_one q2
        obtain ⟨u1, u2, z1, z2, z3⟩ := hJ.z
        simp only at q1 z1
        simp only [wpL, opF, ev, f, q1]
        refine Runs.store z1 Fx.zi30 (by rw [o2]; rfl) (by rw [o2]; intro u hu; simp at hu; subst hu; exact o1) (by simp) (fun w9 hc9 hs9 hb9 => ?_)
        exact hJ.st2 ok (hn 17 (by simp [needs, Region.binds])) q1 hc9 z1 (by simpa [splice, o2] using hb9)
    intro K w3' hJ
    obtain ⟨v, v', q1, q2, q3, q4, q5⟩ := hJ.fin (by subst hA; rfl) (by subst hA; rfl) (by subst hA; rfl) (by subst hA; rfl)
    have hc := hJ.chg
    have henv := hJ.env
    clear hJ
    subst hA
    simp only at q1 q2 q3 q4 q5 hc henv
    clear ok
    try simp only [zW, zU, reduceIte, Nat.reduceEqDiff, Nat.reduceAdd, reduceCtorEq, Q11]
    refine hM1 _ _ _ ?_; clear hM1 M1
    refine ok_less [(2, ptrOf B1), (4, ptrOf B2), (5, ptrOf B3), (10, .slice (some ⟨b, o, none⟩) of.length co), (11, .int .i64 (of.length : Int)), (12, .int .i64 (i : Int))] (by simp only [sub, and_true]; exact ⟨henv 2 _ rfl, henv 4 _ rfl, henv 5 _ rfl, henv 10 _ rfl, henv 11 _ rfl, henv 12 _ rfl⟩) ?_
    refine ok_region rfl ?_
    (try revert X); refine t11 ?_; intro X hX
    refine ⟨by simp only [inI]; omega, ?_⟩
    (try revert X); refine t11 ?_; intro X hX
    have low : ∀ k, k < B3 → ¬ (ph.ownBlock = some k ∨ pr.ownBlock = some k ∨ k = B3) := fun k hk e => by rcases e with e | e | e <;> first | (have := (hd1 _ e).1; omega) | (have := hd2 _ e; omega) | omega
    have htk : of.take (i + 1) = of.take i ++ [of[i]] := List.take_succ_eq_append_getElem hil
    have hpf : pickF l (of.take (i + 1)) = pickF l (of.take i) ++ [l[ix]] := by
      rw [htk, pickF_snoc _ _ _ (by omega), hixe, List.getD_eq_getElem?_getD, hlx]; rfl
    have hfl : oflat (pickF l (of.take (i + 1))) = oflat (pickF l (of.take i)) ++ l[ix].row := by rw [hpf]; simp [oflat]
    have hpl2 : (pickF l (of.take (i + 1))).length = (pickF l (of.take i)).length + 1 := by rw [hpf]; simp
    have hv1 : ∀ k, v.ownBlock = some k → B3 < k := fun k hk => by
      rcases q4 with h | ⟨k', h, h2⟩
      · rw [h] at hk; exact (hd1 k hk).1
      · rw [h] at hk; cases hk; omega
    have hv2 : ∀ k, v'.ownBlock = some k → B3 < k := fun k hk => by
      rcases q5 with h | ⟨k', h, h2⟩
      · rw [h] at hk; exact hd2 k hk
      · rw [h] at hk; cases hk; omega
    refine ⟨i + 1, by simp [sub, Env.get], ⟨by omega, he4.chg_trans hc (fun k hk => ?_), hb14.chg hc (low _ (by omega)), hb24.chg hc (low _ (by omega)), v, v', q1, by rw [hpl2, hfl]; exact q2, by rw [hpl2, hfl]; exact q3, fun k hk => ⟨hv1 k hk, fun e => ?_⟩, hv2⟩, by omega⟩
    · rcases hk with h | h | h
      · have := (hd1 _ h).1; omega
      · have := hd2 _ h; omega
      · omega
    · -- the two rows are of different kinds
      obtain ⟨g, cap, cur, e1, -, hg1, -⟩ := q2.2.resolve_left (fun h => by have := h.1; omega)
      obtain ⟨g', cap', cur', e2, -, hg2, -⟩ := q3.2.resolve_left (fun h => by have := h.1; omega)
      rw [e1] at hk; rw [e2] at e
      simp only [Value.ownBlock, Option.some.injEq] at hk e
      rw [hk] at hg1; rw [e] at hg2
      rw [hg1] at hg2
      cases hg2
end Go.Proofs.YtldeokfhipjbfaaGreatDoor
/- The two heaps and the words, together. -/
set_option linter.unusedVariables false
set_option linter.unusedSimpArgs false
set_option linter.defProp false
namespace Go.Proofs.YtldeokfhipjbfaaGreatDoor
open Go Go.Proofs.Vg Go.RowKit

structure StR (w : World) (hb rb qb bz : Nat) (H : List Ob) (l : List Wd) (F1 F2 : Nat → Prop) (vh vr : Value) : Prop where
  hp : HeapW w hb rb H F1
  rp : RHeapW w qb H F2
  z : Blk w bz [vh, vr] 32
  oh : w.ownsRow 0 38 3 vh l.length (oflat l)
  or : w.ownsRow 0 75 3 vr l.length (oflat l)
  l1 : ∀ k, F1 k → k < w.heap.size
  l2 : ∀ k, F2 k → k < w.heap.size
  d12 : ∀ k, F1 k → ¬ F2 k
  d1z : ¬ F1 bz ∧ ∀ k, F1 k → vh.ownBlock ≠ some k ∧ vr.ownBlock ≠ some k
  d2z : ¬ F2 bz ∧ ∀ k, F2 k → vh.ownBlock ≠ some k ∧ vr.ownBlock ≠ some k
  dz : vh.ownBlock ≠ some bz ∧ vr.ownBlock ≠ some bz
  dv : ∀ k, vh.ownBlock = some k → vr.ownBlock ≠ some k
  nrb : ¬ F1 rb ∧ ¬ F2 rb ∧ rb ≠ bz ∧ vh.ownBlock ≠ some rb ∧ vr.ownBlock ≠ some rb
def Ft (F1 F2 : Nat → Prop) (bz : Nat) (vh vr : Value) (k : Nat) : Prop := F1 k ∨ F2 k ∨ k = bz ∨ vh.ownBlock = some k ∨ vr.ownBlock = some k
/-- The two heaps hold the same objects, and the words are the same. -/
def St (w : World) (hb rb qb bz : Nat) (H : List Ob) (l : List Wd) (F : Nat → Prop) : Prop :=
  ∃ F1 F2 vh vr, StR w hb rb qb bz H l F1 F2 vh vr ∧ (∀ k, Ft F1 F2 bz vh vr k → F k) ∧ ¬ F rb
section
variable {w w' : World} {hb rb qb bz : Nat} {H : List Ob} {l : List Wd} {F F1 F2 : Nat → Prop} {vh vr : Value}
theorem StR.lt (h : StR w hb rb qb bz H l F1 F2 vh vr) (k : Nat) (hk : Ft F1 F2 bz vh vr k) : k < w.heap.size := by
  rcases hk with hk | hk | hk | hk | hk
  · exact h.l1 k hk
  · exact h.l2 k hk
  · rw [hk]; exact h.z.lt
  · exact (h.oh.lt k hk).2
  · exact (h.or.lt k hk).2
theorem StR.chg {T : Nat → Prop} (h : StR w hb rb qb bz H l F1 F2 vh vr) (hc : Chg T w w') (hT : ∀ k, Ft F1 F2 bz vh vr k → ¬ T k) (hr : ¬ T rb) : StR w' hb rb qb bz H l F1 F2 vh vr := by
  have hs := hc.size
  exact ⟨h.hp.chg hc (fun k hk => hT k (.inl hk)) hr, h.rp.chg hc (fun k hk => hT k (.inr (.inl hk))), h.z.chg hc (hT _ (.inr (.inr (.inl rfl)))), owns_chg' h.oh hc (fun k hk => hT k (.inr (.inr (.inr (.inl hk))))), owns_chg' h.or hc (fun k hk => hT k (.inr (.inr (.inr (.inr hk))))),
    fun k hk => by have := h.l1 k hk; omega, fun k hk => by have := h.l2 k hk; omega, h.d12, h.d1z, h.d2z, h.dz, h.dv, h.nrb⟩
theorem StR.ext (h : StR w hb rb qb bz H l F1 F2 vh vr) (he : Ext w w') : StR w' hb rb qb bz H l F1 F2 vh vr := h.chg (he.chg (fun _ => False)) (fun _ _ => id) id
/-- The program's heap goes on. -/
theorem StR.heap {H2 : List Ob} (h : StR w hb rb qb bz H l F1 F2 vh vr) (hg : Grown w w' hb rb H2 F1) : ∃ F1', HeapW w' hb rb H2 F1' ∧ Chg F1 w w' ∧ (∀ k, F1' k → F1 k ∨ (w.heap.size ≤ k ∧ k < w'.heap.size)) := by
  obtain ⟨h1, F', h2, h3⟩ := hg
  exact ⟨F', h2, h1, h3⟩
/-- Both heaps go on, one behind the other; the words stay. -/
theorem StR.both {H2 : List Ob} (h : StR w hb rb qb bz H l F1 F2 vh vr) {F1' F2' : Nat → Prop} (hp : HeapW w' hb rb H2 F1') (hr : RHeapW w' qb H2 F2') (hc : Chg (fun k => F1 k ∨ F2 k) w w')
    (h1 : ∀ k, F1' k → F1 k ∨ (w.heap.size ≤ k ∧ k < w'.heap.size)) (h2 : ∀ k, F2' k → F2 k ∨ (w.heap.size ≤ k ∧ k < w'.heap.size)) (hd : ∀ k, w.heap.size ≤ k → F1' k → ¬ F2' k) : StR w' hb rb qb bz H2 l F1' F2' vh vr := by
  have hs := hc.size
  have hz := h.z.lt
  have hrb := HeapW.lt h.hp
  have hvl : ∀ k, vh.ownBlock = some k → k < w.heap.size := fun k hk => (h.oh.lt k hk).2
  have hrl : ∀ k, vr.ownBlock = some k → k < w.heap.size := fun k hk => (h.or.lt k hk).2
  refine ⟨hp, hr, h.z.chg hc (fun e => e.elim h.d1z.1 h.d2z.1), owns_chg' h.oh hc (fun k hk e => e.elim (fun e => (h.d1z.2 k e).1 hk) (fun e => (h.d2z.2 k e).1 hk)), owns_chg' h.or hc (fun k hk e => e.elim (fun e => (h.d1z.2 k e).2 hk) (fun e => (h.d2z.2 k e).2 hk)), fun k hk => ?_, fun k hk => ?_, fun k hk hk2 => ?_, ⟨fun e => ?_, fun k hk => ?_⟩, ⟨fun e => ?_, fun k hk => ?_⟩, h.dz, h.dv, ⟨fun e => ?_, fun e => ?_, h.nrb.2.2⟩⟩
  · rcases h1 k hk with h3 | h3
    · have := h.l1 k h3; omega
    · exact h3.2
  · rcases h2 k hk with h3 | h3
    · have := h.l2 k h3; omega
    · exact h3.2
  · rcases h1 k hk with h3 | h3
    · rcases h2 k hk2 with h4 | h4
      · exact h.d12 k h3 h4
      · have := h.l1 k h3; omega
    · exact hd k h3.1 hk hk2
  · rcases h1 _ e with h3 | h3
    · exact h.d1z.1 h3
    · omega
  · rcases h1 k hk with h3 | h3
    · exact h.d1z.2 k h3
    · exact ⟨fun e => by have := hvl k e; omega, fun e => by have := hrl k e; omega⟩
  · rcases h2 _ e with h3 | h3
    · exact h.d2z.1 h3
    · omega
  · rcases h2 k hk with h3 | h3
    · exact h.d2z.2 k h3
    · exact ⟨fun e => by have := hvl k e; omega, fun e => by have := hrl k e; omega⟩
  · rcases h1 _ e with h3 | h3
    · exact h.nrb.1 h3
    · omega
  · rcases h2 _ e with h3 | h3
    · exact h.nrb.2.1 h3
    · omega
/-- A word more. -/
theorem StR.add {vh' vr' : Value} {x : Wd} (h : StR w hb rb qb bz H l F1 F2 vh vr) (hc : Chg (fun k => vh.ownBlock = some k ∨ vr.ownBlock = some k ∨ k = bz) w w') (hz : Blk w' bz [vh', vr'] 32)
    (oh : w'.ownsRow 0 38 3 vh' (l.length + 1) (oflat l ++ x.row)) (or : w'.ownsRow 0 75 3 vr' (l.length + 1) (oflat l ++ x.row)) (o1 : Own2 w vh vh') (o2 : Own2 w vr vr') : StR w' hb rb qb bz H (l ++ [x]) F1 F2 vh' vr' := by
  have hs := hc.size
  have hzl := h.z.lt
  have hrb := HeapW.lt h.hp
  have hfl : oflat (l ++ [x]) = oflat l ++ x.row := by simp [oflat]
  have n1 : ∀ k, F1 k → ¬ (vh.ownBlock = some k ∨ vr.ownBlock = some k ∨ k = bz) := fun k hk e => by
    rcases e with e | e | e
    · exact (h.d1z.2 k hk).1 e
    · exact (h.d1z.2 k hk).2 e
    · exact h.d1z.1 (e ▸ hk)
  have n2 : ∀ k, F2 k → ¬ (vh.ownBlock = some k ∨ vr.ownBlock = some k ∨ k = bz) := fun k hk e => by
    rcases e with e | e | e
    · exact (h.d2z.2 k hk).1 e
    · exact (h.d2z.2 k hk).2 e
    · exact h.d2z.1 (e ▸ hk)
  refine ⟨h.hp.chg hc n1 (fun e => by rcases e with e | e | e; exact h.nrb.2.2.2.1 e; exact h.nrb.2.2.2.2 e; exact h.nrb.2.2.1 e), h.rp.chg hc n2, hz, by rw [hfl, List.length_append]; exact oh, by rw [hfl, List.length_append]; exact or, fun k hk => by have := h.l1 k hk; omega, fun k hk => by have := h.l2 k hk; omega, h.d12,
    ⟨h.d1z.1, fun k hk => ⟨o1.ne (h.l1 k hk) (h.d1z.2 k hk).1, o2.ne (h.l1 k hk) (h.d1z.2 k hk).2⟩⟩, ⟨h.d2z.1, fun k hk => ⟨o1.ne (h.l2 k hk) (h.d2z.2 k hk).1, o2.ne (h.l2 k hk) (h.d2z.2 k hk).2⟩⟩, ⟨o1.ne hzl h.dz.1, o2.ne hzl h.dz.2⟩, fun k hk e => ?_, ⟨h.nrb.1, h.nrb.2.1, h.nrb.2.2.1, o1.ne hrb h.nrb.2.2.2.1, o2.ne hrb h.nrb.2.2.2.2⟩⟩
  obtain ⟨g, cap, cur, e1, -, hg1, -⟩ := oh.2.resolve_left (fun h => by have := h.2; omega)
  obtain ⟨g', cap', cur', e2, -, hg2, -⟩ := or.2.resolve_left (fun h => by have := h.2; omega)
  rw [e1] at hk; rw [e2] at e
  simp only [Value.ownBlock, Option.some.injEq] at hk e
  rw [hk] at hg1; rw [e] at hg2
  rw [hg1] at hg2
  cases hg2
/-- The words, read. -/
theorem StR.slh (h : StR w hb rb qb bz H l F1 F2 vh vr) (hl : l.length ≤ 1048576) : SlW w vh l := Sli.of_own h.oh rfl (fun r hr => (words_rows l r hr).1) (by simp) (by omega)
theorem StR.slr (h : StR w hb rb qb bz H l F1 F2 vh vr) (hl : l.length ≤ 1048576) : SlW w vr l := Sli.of_own h.or rfl (fun r hr => (words_rows l r hr).1) (by simp) (by omega)
end
/-- One act of a play. -/
structure ActD where
  d : Int
  k : Int
  n : Int
  of : List Int
  v : Val
  wd : Wd
/-- Eleven cells that read as an act; what they lead to lies in 'S'. -/
def ActR (w : World) (S : Nat → Prop) (r : List Value) (a : ActD) : Prop :=
  ∃ ov vrow, r = [.int .i64 a.d, .int .i64 a.k, .int .i64 a.n, ov] ++ vrow ++ a.wd.row ∧ ov.oneCell' = true ∧ SliS w S 1 ov (ints a.of) ∧ VRowS w S vrow a.v
theorem ActR.len {w : World} {S : Nat → Prop} {r : List Value} {a : ActD} (h : ActR w S r a) : r.length = 11 := by
  obtain ⟨ov, vrow, rfl, -, -, h2⟩ := h
  have := (VRowS.row _ _ h2).len
  simp [this]
theorem ActR.one {w : World} {S : Nat → Prop} {r : List Value} {a : ActD} (h : ActR w S r a) : ∀ u ∈ r, u.oneCell' = true := by
  obtain ⟨ov, vrow, rfl, h1, -, h2⟩ := h
  intro u hu
  simp only [List.append_assoc, List.cons_append, List.nil_append, List.mem_cons, List.mem_append, Wd.row, List.not_mem_nil, or_false] at hu
  rcases hu with rfl | rfl | rfl | rfl | hu | rfl | rfl | rfl <;> first | rfl | exact h1 | exact (VRowS.row _ _ h2).one _ hu
theorem SliS.chg {w w' : World} {S S' T : Nat → Prop} {sz : Nat} {v : Value} {rows : List (List Value)} (h : SliS w S sz v rows) (hc : Chg T w w') (hs : ∀ k, S k → S' k ∧ ¬ T k) : SliS w' S' sz v rows := by
  obtain ⟨A, c, h1, h2, h3⟩ := h
  refine ⟨A, c, h1, h2, fun j row hj => ?_⟩
  obtain ⟨b, o, h4, h5, h6⟩ := h3 j row hj
  exact ⟨b, o, h4, (hs b h5).1, hc.cellsAt h6 (hs b h5).2⟩
theorem ActR.chg {w w' : World} {S S' T : Nat → Prop} {r : List Value} {a : ActD} (h : ActR w S r a) (hc : Chg T w w') (hs : ∀ k, S k → S' k ∧ ¬ T k) : ActR w' S' r a := by
  obtain ⟨ov, vrow, h1, h2, h3, h4⟩ := h
  exact ⟨ov, vrow, h1, h2, SliS.chg h3 hc hs, VRowS.chg hc hs _ _ h4⟩
def actH (H : List Ob) (l : List Wd) (a : ActD) : List Ob :=
  if a.d = 0 then (storeS H a.v).1
  else if a.d = 1 then (if makeE H a.k a.n (pickF l a.of) = 0 then (mkW H a.k a.n (pickF l a.of)).1 else H)
  else if (pickF l a.of).length < 2 then H else setH H ((pickF l a.of).getD 0 ⟨0, 0, 0⟩) a.n ((pickF l a.of).getD 1 ⟨0, 0, 0⟩)
def actL (H : List Ob) (l : List Wd) (a : ActD) : List Wd :=
  if a.d = 0 then l ++ [(storeS H a.v).2.1]
  else if a.d = 1 then l ++ [if makeE H a.k a.n (pickF l a.of) = 0 then (mkW H a.k a.n (pickF l a.of)).2 else ⟨0, 0, 0⟩]
  else l
end Go.Proofs.YtldeokfhipjbfaaGreatDoor
/- act: storing, making, setting. -/
set_option linter.unusedVariables false
set_option linter.unusedSimpArgs false
set_option linter.defProp false
namespace Go.Proofs.YtldeokfhipjbfaaGreatDoor
open Go Go.Proofs.Vg Go.RowKit

def PW (w0 w : World) (ph pr : Value) (ws : List Wd) : Prop := w.ownsRow 0 38 3 ph ws.length (oflat ws) ∧ w.ownsRow 0 75 3 pr ws.length (oflat ws) ∧ (∀ k, ph.ownBlock = some k → w0.heap.size ≤ k) ∧ (∀ k, pr.ownBlock = some k → w0.heap.size ≤ k)
theorem PW.ext {w0 w w' : World} {ph pr : Value} {ws : List Wd} (h : PW w0 w ph pr ws) (he : Ext w w') : PW w0 w' ph pr ws :=
  ⟨owns_chg' h.1 (he.chg (fun _ => False)) (fun _ _ => id), owns_chg' h.2.1 (he.chg (fun _ => False)) (fun _ _ => id), h.2.2⟩
theorem owns_ty {w : World} {base e sz n : Nat} {v : Value} {xs : List Value} (h : w.ownsRow base e sz v n xs) {b e' : Nat} {cs : List Value} (hb : Blk w b cs e') (hne : e ≠ e') : v.ownBlock ≠ some b := by
  intro hk
  rcases h.2 with ⟨rfl, -⟩ | ⟨g, cap, cur, rfl, -, hg, -⟩
  · simp [Value.ownBlock] at hk
  · simp only [Value.ownBlock, Option.some.injEq] at hk
    subst hk
    unfold Blk at hb
    rw [hb] at hg
    cases hg
    exact hne rfl
/-- The words that an act picks, while they come. -/
structure J9 (w0 : World) (hb qb bz B7 : Nat) (vh vr ov : Value) (ws : List Wd) (L : Nat → Bool) (K : Env) (w : World) : Prop where
  ext : Ext w0 w
  e0 : K.get 0 = some (ptrOf hb)
  e1 : K.get 1 = some (ptrOf qb)
  e2 : K.get 2 = some (ptrOf bz)
  e7 : K.get 7 = some (ptrOf B7)
  h0 : L 0 = true → K.get 22 = some (ptrOf bz)
  h1 : L 1 = true → K.get 23 = some (ptrOf bz)
  h2 : L 2 = true → K.get 24 = some (.agg #[vh, vr])
  h3 : L 3 = true → K.get 25 = some (.pointer (some ⟨B7, 3, none⟩))
  h4 : L 4 = true → K.get 26 = some ov
  h5 : L 5 = true → ∃ ph pr, K.get 27 = some (.agg #[ph, pr]) ∧ PW w0 w ph pr ws
  h6 : L 6 = true → L 7 = false → ∃ B, K.get 9 = some (ptrOf B) ∧ w0.heap.size ≤ B ∧ Blk w B [.slice none 0 0, .slice none 0 0] 32
  h7 : L 7 = true → ∃ B ph pr, K.get 9 = some (ptrOf B) ∧ w0.heap.size ≤ B ∧ Blk w B [ph, pr] 32 ∧ PW w0 w ph pr ws
section
variable {w0 w w' : World} {hb qb bz B7 : Nat} {vh vr ov : Value} {ws : List Wd} {L : Nat → Bool} {K : Env}
theorem J9.s0 (h : J9 w0 hb qb bz B7 vh vr ov ws L K w) : J9 w0 hb qb bz B7 vh vr ov ws (up L 0) ((22, ptrOf bz) :: K) w :=
  ⟨(h.ext),
   (by simpa [Env.get] using h.e0),
   (by simpa [Env.get] using h.e1),
   (by simpa [Env.get] using h.e2),
   (by simpa [Env.get] using h.e7),
   (fun _ => by simp [Env.get]),
   (fun hh => by simpa [Env.get] using h.h1 (by simpa [up] using hh)),
   (fun hh => by simpa [Env.get] using h.h2 (by simpa [up] using hh)),
   (fun hh => by simpa [Env.get] using h.h3 (by simpa [up] using hh)),
   (fun hh => by simpa [Env.get] using h.h4 (by simpa [up] using hh)),
   (fun hh => by simpa [Env.get] using h.h5 (by simpa [up] using hh)),
   (fun h1 h2 => by simpa [Env.get] using h.h6 (by simpa [up] using h1) (by simpa [up] using h2)),
   (fun hh => by simpa [Env.get] using h.h7 (by simpa [up] using hh))⟩
theorem J9.s1 (h : J9 w0 hb qb bz B7 vh vr ov ws L K w) : J9 w0 hb qb bz B7 vh vr ov ws (up L 1) ((23, ptrOf bz) :: K) w :=
  ⟨(h.ext),
   (by simpa [Env.get] using h.e0),
   (by simpa [Env.get] using h.e1),
   (by simpa [Env.get] using h.e2),
   (by simpa [Env.get] using h.e7),
   (fun hh => by simpa [Env.get] using h.h0 (by simpa [up] using hh)),
   (fun _ => by simp [Env.get]),
   (fun hh => by simpa [Env.get] using h.h2 (by simpa [up] using hh)),
   (fun hh => by simpa [Env.get] using h.h3 (by simpa [up] using hh)),
   (fun hh => by simpa [Env.get] using h.h4 (by simpa [up] using hh)),
   (fun hh => by simpa [Env.get] using h.h5 (by simpa [up] using hh)),
   (fun h1 h2 => by simpa [Env.get] using h.h6 (by simpa [up] using h1) (by simpa [up] using h2)),
   (fun hh => by simpa [Env.get] using h.h7 (by simpa [up] using hh))⟩
theorem J9.s2 (h : J9 w0 hb qb bz B7 vh vr ov ws L K w) : J9 w0 hb qb bz B7 vh vr ov ws (up L 2) ((24, .agg #[vh, vr]) :: K) w :=
  ⟨(h.ext),
   (by simpa [Env.get] using h.e0),
   (by simpa [Env.get] using h.e1),
   (by simpa [Env.get] using h.e2),
   (by simpa [Env.get] using h.e7),
   (fun hh => by simpa [Env.get] using h.h0 (by simpa [up] using hh)),
   (fun hh => by simpa [Env.get] using h.h1 (by simpa [up] using hh)),
   (fun _ => by simp [Env.get]),
   (fun hh => by simpa [Env.get] using h.h3 (by simpa [up] using hh)),
   (fun hh => by simpa [Env.get] using h.h4 (by simpa [up] using hh)),
   (fun hh => by simpa [Env.get] using h.h5 (by simpa [up] using hh)),
   (fun h1 h2 => by simpa [Env.get] using h.h6 (by simpa [up] using h1) (by simpa [up] using h2)),
   (fun hh => by simpa [Env.get] using h.h7 (by simpa [up] using hh))⟩
theorem J9.s3 (h : J9 w0 hb qb bz B7 vh vr ov ws L K w) : J9 w0 hb qb bz B7 vh vr ov ws (up L 3) ((25, .pointer (some ⟨B7, 3, none⟩)) :: K) w :=
  ⟨(h.ext),
   (by simpa [Env.get] using h.e0),
   (by simpa [Env.get] using h.e1),
   (by simpa [Env.get] using h.e2),
   (by simpa [Env.get] using h.e7),
   (fun hh => by simpa [Env.get] using h.h0 (by simpa [up] using hh)),
   (fun hh => by simpa [Env.get] using h.h1 (by simpa [up] using hh)),
   (fun hh => by simpa [Env.get] using h.h2 (by simpa [up] using hh)),
   (fun _ => by simp [Env.get]),
   (fun hh => by simpa [Env.get] using h.h4 (by simpa [up] using hh)),
   (fun hh => by simpa [Env.get] using h.h5 (by simpa [up] using hh)),
   (fun h1 h2 => by simpa [Env.get] using h.h6 (by simpa [up] using h1) (by simpa [up] using h2)),
   (fun hh => by simpa [Env.get] using h.h7 (by simpa [up] using hh))⟩
theorem J9.s4 (h : J9 w0 hb qb bz B7 vh vr ov ws L K w) : J9 w0 hb qb bz B7 vh vr ov ws (up L 4) ((26, ov) :: K) w :=
  ⟨(h.ext),
   (by simpa [Env.get] using h.e0),
   (by simpa [Env.get] using h.e1),
   (by simpa [Env.get] using h.e2),
   (by simpa [Env.get] using h.e7),
   (fun hh => by simpa [Env.get] using h.h0 (by simpa [up] using hh)),
   (fun hh => by simpa [Env.get] using h.h1 (by simpa [up] using hh)),
   (fun hh => by simpa [Env.get] using h.h2 (by simpa [up] using hh)),
   (fun hh => by simpa [Env.get] using h.h3 (by simpa [up] using hh)),
   (fun _ => by simp [Env.get]),
   (fun hh => by simpa [Env.get] using h.h5 (by simpa [up] using hh)),
   (fun h1 h2 => by simpa [Env.get] using h.h6 (by simpa [up] using h1) (by simpa [up] using h2)),
   (fun hh => by simpa [Env.get] using h.h7 (by simpa [up] using hh))⟩
theorem J9.s5 {ph pr : Value} (h : J9 w0 hb qb bz B7 vh vr ov ws L K w) (he : Ext w w') (hp : PW w0 w' ph pr ws) : J9 w0 hb qb bz B7 vh vr ov ws (up L 5) ((27, .agg #[ph, pr]) :: K) w' :=
  ⟨(h.ext.trans he),
   (by simpa [Env.get] using h.e0),
   (by simpa [Env.get] using h.e1),
   (by simpa [Env.get] using h.e2),
   (by simpa [Env.get] using h.e7),
   (fun hh => by simpa [Env.get] using h.h0 (by simpa [up] using hh)),
   (fun hh => by simpa [Env.get] using h.h1 (by simpa [up] using hh)),
   (fun hh => by simpa [Env.get] using h.h2 (by simpa [up] using hh)),
   (fun hh => by simpa [Env.get] using h.h3 (by simpa [up] using hh)),
   (fun hh => by simpa [Env.get] using h.h4 (by simpa [up] using hh)),
   (fun _ => ⟨ph, pr, by simp [Env.get], hp⟩),
   (fun h1 h2 => by
     obtain ⟨B, q1, q2, q3⟩ := h.h6 (by simpa [up] using h1) (by simpa [up] using h2)
     exact ⟨B, by simpa [Env.get] using q1, q2, q3.ext he⟩),
   (fun h1 => by
     obtain ⟨B, ph, pr, q1, q2, q3, q4⟩ := h.h7 (by simpa [up] using h1)
     exact ⟨B, ph, pr, by simpa [Env.get] using q1, q2, q3.ext he, q4.ext he⟩)⟩
theorem J9.s6 (h : J9 w0 hb qb bz B7 vh vr ov ws L K w) (hL : L 7 = false) (he : Ext w w') (hb' : Blk w' w.heap.size [.slice none 0 0, .slice none 0 0] 32) : J9 w0 hb qb bz B7 vh vr ov ws (up L 6) ((9, ptrOf w.heap.size) :: K) w' :=
  ⟨(h.ext.trans he),
   (by simpa [Env.get] using h.e0),
   (by simpa [Env.get] using h.e1),
   (by simpa [Env.get] using h.e2),
   (by simpa [Env.get] using h.e7),
   (fun hh => by simpa [Env.get] using h.h0 (by simpa [up] using hh)),
   (fun hh => by simpa [Env.get] using h.h1 (by simpa [up] using hh)),
   (fun hh => by simpa [Env.get] using h.h2 (by simpa [up] using hh)),
   (fun hh => by simpa [Env.get] using h.h3 (by simpa [up] using hh)),
   (fun hh => by simpa [Env.get] using h.h4 (by simpa [up] using hh)),
   (fun h1 => by
     obtain ⟨ph, pr, q1, q2⟩ := h.h5 (by simpa [up] using h1)
     exact ⟨ph, pr, by simpa [Env.get] using q1, q2.ext he⟩),
   (fun _ _ => ⟨w.heap.size, by simp [Env.get], h.ext.size, hb'⟩),
   (fun h1 => by rw [up_ne (by decide), hL] at h1; cases h1)⟩
theorem J9.s7 {B : Nat} {ph pr : Value} {cs : List Value} (h : J9 w0 hb qb bz B7 vh vr ov ws L K w) (hk : K.get 9 = some (ptrOf B)) (hB : w0.heap.size ≤ B) (hz : Blk w B cs 32) (hp : PW w0 w ph pr ws) (hc : Chg (· = B) w w') (hb' : Blk w' B [ph, pr] 32) : J9 w0 hb qb bz B7 vh vr ov ws (up L 7) K w' :=
  ⟨(h.ext.chg_trans hc (fun k hk => by omega)),
   (h.e0),
   (h.e1),
   (h.e2),
   (h.e7),
   (fun hh => h.h0 (by simpa [up] using hh)),
   (fun hh => h.h1 (by simpa [up] using hh)),
   (fun hh => h.h2 (by simpa [up] using hh)),
   (fun hh => h.h3 (by simpa [up] using hh)),
   (fun hh => h.h4 (by simpa [up] using hh)),
   (fun h1 => by
     obtain ⟨ph', pr', q1, q2⟩ := h.h5 (by simpa [up] using h1)
     exact ⟨ph', pr', q1, owns_chg' q2.1 hc (fun k hk e => owns_ty q2.1 hz (by decide) (e ▸ hk)), owns_chg' q2.2.1 hc (fun k hk e => owns_ty q2.2.1 hz (by decide) (e ▸ hk)), q2.2.2⟩),
   (fun _ h2 => by rw [up_self] at h2; cases h2),
   (fun _ => ⟨B, ph, pr, hk, hB, hb', owns_chg' hp.1 hc (fun k hk e => owns_ty hp.1 hz (by decide) (e ▸ hk)), owns_chg' hp.2.1 hc (fun k hk e => owns_ty hp.2.1 hz (by decide) (e ▸ hk)), hp.2.2⟩)⟩

end

/-- Operations that leave known values, and what holds of the world. -/
structure JS (slots : List (Option Nat)) (vals : List (Option Value)) (E0 : Env) (Q : (Nat → Bool) → World → Prop) (L : Nat → Bool) (K : Env) (w : World) : Prop where
  env : ∀ s v, E0.get s = some v → K.get s = some v
  simple : ∀ (i s : Nat) (v : Value), slots[i]? = some (some s) → vals[i]? = some (some v) → L i = true → K.get s = some v
  q : Q L w
theorem JS.step {slots : List (Option Nat)} {vals : List (Option Value)} {E0 : Env} {Q : (Nat → Bool) → World → Prop} {L : Nat → Bool} {K : Env} {w w' : World} (inj : injB slots = true) (free : freeB slots (E0.map Prod.fst) = true)
    (h : JS slots vals E0 Q L K w) {j s : Nat} {v : Value} (hs : slots[j]? = some (some s)) (hv : vals[j]? = some (some v)) (hq : Q (up L j) w') : JS slots vals E0 Q (up L j) ((s, v) :: K) w' := by
  refine ⟨fun s' v' h' => ?_, fun i s' v' h1 h2 h3 => ?_, hq⟩
  · rw [get_ne (fun e => by subst e; have := freeB_iff free _ _ hs; rw [h'] at this; cases this)]
    exact h.env _ _ h'
  · by_cases e : i = j
    · subst e
      rw [hs] at h1; cases h1
      rw [hv] at h2; cases h2
      exact get_self
    · rw [get_ne (show s' ≠ s from fun e' => e (injB_iff inj _ _ _ h1 (e' ▸ hs)))]
      exact h.simple _ _ _ h1 h2 (by rwa [up_ne e] at h3)
/-- Setting in both heaps, one behind the other. -/
def Q2 (w3 : World) (hb rb qb : Nat) (H H' : List Ob) (F1 F2 : Nat → Prop) (p1 p2 : Nat) (L : Nat → Bool) (w : World) : Prop :=
  Chg (fun k => F1 k ∨ F2 k) w3 w ∧ (L p1 = false → L p2 = false → HeapW w hb rb H F1) ∧ (L p2 = false → RHeapW w qb H F2) ∧
  (L p1 = true → ∃ F1', HeapW w hb rb H' F1' ∧ (∀ k, F1' k → F1 k ∨ w3.heap.size ≤ k) ∧ (∀ k, F1' k → k < w.heap.size) ∧
    (L p2 = true → ∃ F2', RHeapW w qb H' F2' ∧ (∀ k, F2' k → F2 k ∨ w3.heap.size ≤ k) ∧ (∀ k, F2' k → k < w.heap.size) ∧ (∀ k, F1' k → w3.heap.size ≤ k → ¬ F2' k)))
theorem Q2.keep {w3 w : World} {hb rb qb : Nat} {H H' : List Ob} {F1 F2 : Nat → Prop} {p1 p2 : Nat} {L : Nat → Bool} {j : Nat} (h : Q2 w3 hb rb qb H H' F1 F2 p1 p2 L w) (h1 : p1 ≠ j) (h2 : p2 ≠ j) : Q2 w3 hb rb qb H H' F1 F2 p1 p2 (up L j) w := by
  unfold Q2 at h ⊢
  rw [up_ne h1, up_ne h2]
  exact h

-- -- function 9
set_option maxHeartbeats 8000000 in
set_option maxRecDepth 8000 in
theorem act_ok (w : World) (hb rb qb bz : Nat) (H : List Ob) (l : List Wd) (F : Nat → Prop) (hSt : St w hb rb qb bz H l F) (mk : Nat) (hg : Glob w mk) (hgF : ¬ F 0 ∧ ¬ F 1 ∧ ¬ F mk) (S : Nat → Prop) (r : List Value) (a : ActD) (hr : ActR w S r a) (hSF : ∀ k, S k → ¬ F k ∧ k < w.heap.size) (hF : ∀ k, F k → k < w.heap.size)
    (hd : a.d = 0 ∨ a.d = 1 ∨ a.d = 2) (hl : H.length + cntV a.v + 1 ≤ 1048576) (hll : l.length ≤ 100000) (hof : a.of.length ≤ 100000) (hLim : ∀ x, (argsOf H x).length ≤ 1048576) :
    Rets Tryz.prog 9 [ptrOf hb, ptrOf qb, ptrOf bz, .agg r.toArray] w (fun v w' => v = .bool true ∧ Chg F w w' ∧ ∃ F', St w' hb rb qb bz (actH H l a) (actL H l a) F' ∧ ∀ k, F' k → F k ∨ (w.heap.size ≤ k ∧ k < w'.heap.size)) := by
  have hr11 := hr.len
  obtain ⟨F1, F2, vh, vr, hS, hFt, hFrb⟩ := hSt
  obtain ⟨ov, vrow, hrr, hov1, hov, hvr⟩ := id hr
  have hv4 := (VRowS.row _ _ hvr).len
  obtain ⟨one1, cel1, -⟩ := owns_one hS.oh
  obtain ⟨one2, cel2, -⟩ := owns_one hS.or
  have hlh := hS.slh (by omega)
  have hlr := hS.slr (by omega)
  refine rets_of_ok Tryz.func9 rfl rfl ?_
  refine ok_seq (fun M hM => ok_region rfl ?_)
  (try revert X); refine t9 ?_; intro X hX
  refine Runs.box (fun w1 he1 hz1 hb1 => ?_)
  generalize hB7 : w.heap.size = B7 at hz1 hb1
  simp only [Value.cells] at hb1
  (try revert X); refine t9 ?_; intro X hX
  refine hM _ _ _ ?_; clear hM M
  have hS1 := hS.ext he1
  have c0 : w1.cell? ⟨B7, 0, none⟩ = some (.int .i64 a.d) := hb1.cell (by simp [hrr])
  have c1 : w1.cell? ⟨B7, 1, none⟩ = some (.int .i64 a.k) := hb1.cell (by simp [hrr])
  have c2 : w1.cell? ⟨B7, 2, none⟩ = some (.int .i64 a.n) := hb1.cell (by simp [hrr])
  have c3 : w1.cell? ⟨B7, 3, none⟩ = some ov := hb1.cell (by simp [hrr])
  have c4 : cellsAt w1 ⟨B7, 4, none⟩ vrow := hb1.cells (o := 4) (fun j u hj => by
    have hj4 := (List.getElem?_eq_some_iff.1 hj).1
    simp only [hrr]
    rw [List.append_assoc, List.getElem?_append_right (by simp)]
    simp only [List.length_cons, List.length_nil, Nat.zero_add]
    rw [show 4 + j - 4 = j by omega, List.getElem?_append_left hj4]
    exact hj)
  have hlh1 := hlh.ext he1
  have hlr1 := hlr.ext he1
  have hov1' : SlI w1 ov a.of := SliS.sli (SliS.chg hov (he1.chg (fun _ => False)) (fun k hk => ⟨hk, id⟩))
  have hB7l := hb1.lt
  refine ok_seq (fun M hM => ?_)
  refine ok_anyC (J9 w1 hb qb bz B7 vh vr ov (pickF l a.of)) Fx.mixed (by decide) (by decide +kernel) [(0, ptrOf hb), (1, ptrOf qb), (2, ptrOf bz), (7, ptrOf B7)] (by simp [sub, Env.get]) ?_ ?_ ?_
  · exact ⟨Ext.drew _, rfl, rfl, rfl, rfl, fun h => (by cases h), fun h => (by cases h), fun h => (by cases h), fun h => (by cases h), fun h => (by cases h), fun h => (by cases h), fun h => (by cases h), fun h => (by cases h)⟩
  · intro L K w' j o hJ hcl ho hLj hn
    have hj : j < 8 := by have := (List.getElem?_eq_some_iff.1 ho).1; simpa using this
    have hjj : j = 0 ∨ j = 1 ∨ j = 2 ∨ j = 3 ∨ j = 4 ∨ j = 5 ∨ j = 6 ∨ j = 7 := by omega
    rcases hjj with rfl | rfl | rfl | rfl | rfl | rfl | rfl | rfl <;> simp only [List.getElem?_cons_zero, List.getElem?_cons_succ, Option.some.injEq] at ho <;> subst ho
    · simp only [wpL, opF, ev, hJ.e2]; exact hJ.s0
    · have f := hJ.h0 (hn 0 (by simp [needs, Region.binds]))
      simp only [wpL, opF, ev, f]; exact hJ.s1
    · have f := hJ.h1 (hn 1 (by simp [needs, Region.binds]))
      simp only [wpL, opF, ev, f, Fx.ag32]
      exact ⟨[vh, vr], rfl, ((hS1.ext hJ.ext).z).cells (o := 0) (fun j u hj => by simpa using hj), hJ.s2⟩
    · simp only [wpL, opF, ev, hJ.e7, Fx.fo40_3, add_at]; exact hJ.s3
    · have f := hJ.h3 (hn 3 (by simp [needs, Region.binds]))
      simp only [wpL, opF, ev, f, Fx.ag33]
      exact ⟨_, hJ.ext.cell c3, hJ.s4⟩
    · have f := hJ.h2 (hn 2 (by simp [needs, Region.binds]))
      have f2 := hJ.h4 (hn 4 (by simp [needs, Region.binds]))
      simp only [wpL, opF, evs, ev, f, f2]
      refine Inv.call Fx.en11 (pick_ok w' vh vr ov l a.of (hlh1.ext hJ.ext) (hlr1.ext hJ.ext) (Sli.ext hov1' hJ.ext) (by omega) (by omega)) ?_
      rintro v w3 ⟨he3, ph, pr, rfl, g1, g2, g3, g4⟩
      exact hJ.s5 he3 ⟨g1, g2, fun k hk => by have := (g3 k hk).1; have := hJ.ext.size; omega, fun k hk => by have := g4 k hk; have := hJ.ext.size; omega⟩
    · simp only [wpL, opF]
      refine Runs.alloc Fx.zi32 (fun w3 he3 hs3 hb3 => ?_)
      exact hJ.s6 (hcl.no (j := 7) (k := 6) rfl (by simp [needs, Region.binds]) hLj) he3 hb3
    · obtain ⟨ph, pr, f, hp⟩ := hJ.h5 (hn 5 (by simp [needs, Region.binds]))
      obtain ⟨B, q1, q2, q3⟩ := hJ.h6 (hn 6 (by simp [needs, Region.binds])) hLj
      obtain ⟨o1, o2, -⟩ := owns_one hp.1
      obtain ⟨o3, o4, -⟩ := owns_one hp.2.1
      simp only [wpL, opF, ev, f, q1]
      refine Runs.store q3 Fx.zi32 rfl (by intro u hu; simp [Value.cells] at hu; rcases hu with rfl | rfl; exact o1; exact o3) (by simp) (fun w3 hc3 hs3 hb3 => ?_)
      rw [splice_all _ _ (by simp [Value.cells])] at hb3
      exact hJ.s7 q1 q2 q3 hp hc3 hb3
  intro K w3 hJ
  obtain ⟨B9, ph, pr, k9, hB9, hb9, hPW⟩ := hJ.h7 (by rfl)
  have he13 := hJ.ext
  have k0 := hJ.e0
  have k1 := hJ.e1
  have k2 := hJ.e2
  have k7 := hJ.e7
  clear hJ
  try simp only [zW, zU, reduceIte, Nat.reduceEqDiff, Nat.reduceAdd, reduceCtorEq, Q9]
  refine hM _ _ _ ?_; clear hM M
  refine ok_less [(0, ptrOf hb), (1, ptrOf qb), (2, ptrOf bz), (7, ptrOf B7), (9, ptrOf B9)] (by simp only [sub, and_true]; exact ⟨k0, k1, k2, k7, k9⟩) ?_
  clear k0 k1 k2 k7 k9
  have he03 := he1.trans he13
  have hs03 := he03.size
  have hS3 := hS1.ext he13
  have hr3 : ActR w3 S r a := hr.chg (he03.chg (fun _ => False)) (fun k hk => ⟨hk, id⟩)
  have hpl : (pickF l a.of).length ≤ 100000 := by unfold pickF; split <;> simp <;> omega
  have hwh : SlW w3 ph (pickF l a.of) := Sli.of_own hPW.1 rfl (fun r hr => (words_rows _ r hr).1) (by simp) (by omega)
  have hwr : SlW w3 pr (pickF l a.of) := Sli.of_own hPW.2.1 rfl (fun r hr => (words_rows _ r hr).1) (by simp) (by omega)
  have hb93 := hb9
  have hb9l := hb9.lt
  have hg3 := hg.ext he03
  have c0' := he13.cell c0
  have c1' := he13.cell c1
  have c2' := he13.cell c2
  have c4' := he13.cellsAt c4
  have hb73 := hb1.ext he13
  have hvr3 : VRowS w3 S vrow a.v := VRowS.ext hvr he03
  have hnS : ∀ k, S k → ¬ F1 k ∧ ¬ F2 k := fun k hk => ⟨fun h => (hSF k hk).1 (hFt k (.inl h)), fun h => (hSF k hk).1 (hFt k (.inr (.inl h)))⟩
  have hF1l : ∀ k, F1 k → k < w.heap.size := hS.l1
  have hF2l : ∀ k, F2 k → k < w.heap.size := hS.l2
  have hngF1 : ¬ F1 0 ∧ ¬ F1 1 ∧ ¬ F1 mk := ⟨fun h => hgF.1 (hFt _ (.inl h)), fun h => hgF.2.1 (hFt _ (.inl h)), fun h => hgF.2.2 (hFt _ (.inl h))⟩
  clear hb1
  refine ok_seq (fun M0 hM0 => ?_)
  refine ok_seq (fun M hM => ok_region rfl ?_)
  (try revert X); refine t9 ?_; intro X hX
  refine ⟨_, c0', ?_⟩
  (try revert X); refine t9 ?_; intro X hX
  refine hM _ _ _ ?_; clear hM M
  refine ok_block ?_
  refine ok_seq (fun M hM => ok_region rfl ?_); (try revert X); refine t9 ?_; intro X hX
  refine hM _ _ _ ?_; clear hM M
  refine ok_if rfl (fun hd0 => ?_) (fun hd0 => ?_)
  · -- storing
    have eH : actH H l a = (storeS H a.v).1 := by unfold actH; rw [if_pos hd0]
    have eL : actL H l a = l ++ [(storeS H a.v).2.1] := by unfold actL; rw [if_pos hd0]
    rw [eH, eL]
    clear eH eL
    refine ok_seq (fun M hM => ok_region rfl ?_)
    (try revert X); refine t9 ?_; intro X hX
    refine ⟨vrow, hv4, c4', ?_⟩
    (try revert X); refine t9 ?_; intro X hX
    refine Inv.call Fx.en19 (Store_ok a.v w3 S vrow mk hb rb H F1 hvr3 (fun k hk => ⟨(hnS k hk).1, by have := (hSF k hk).2; omega⟩) hg3 hngF1 hS3.hp (fun k hk => hS3.l1 k hk) (by omega)) ?_
    rintro v w4 ⟨rfl, hG4⟩
    obtain ⟨F1', hp4, hc4, hF1'⟩ := hS3.heap hG4
    generalize hHe : (storeS H a.v).1 = H' at hp4
    generalize hXe : (storeS H a.v).2.1 = x'
    generalize hEe : (storeS H a.v).2.2 = e'
    clear hG4
    have hs4 := hc4.size
    have out1 : ∀ k, w.heap.size ≤ k → ¬ F1 k := fun k hk h => by have := hF1l k h; omega
    (try revert X); refine t9 ?_; intro X hX
    refine Runs.alloc Fx.zi38 (fun w5 he5 hs5 hb5 => ?_)
    generalize hB10 : w4.heap.size = B10 at hs5 hb5
    simp only [Value.cells] at hb5
    (try revert X); refine t9 ?_; intro X hX
    refine Runs.store hb5 Fx.zi38 rfl (by intro u hu; simp [Value.cells, Wd.row] at hu; rcases hu with rfl | rfl | rfl <;> rfl) (by simp) (fun w6 hc6 hs6 hb6 => ?_)
    rw [splice_all _ _ (by simp [Value.cells])] at hb6
    simp only [Value.cells] at hb6
    have he46 : Ext w4 w6 := he5.chg_trans hc6 (fun i hi => by omega)
    have hr6 : RHeapW w6 qb H F2 := (hS3.rp.chg hc4 (fun k hk h1 => hS3.d12 k h1 hk)).ext he46
    (try revert X); refine t9 ?_; intro X hX
    refine hM _ _ _ ?_; clear hM M
    refine ok_seq (fun M hM => ok_region rfl ?_)
    (try revert X); refine t9 ?_; intro X hX
    refine ⟨vrow, hv4, he46.cellsAt (hc4.cellsAt c4' (out1 B7 (by omega))), ?_⟩
    (try revert X); refine t9 ?_; intro X hX
    refine Inv.call Fx.en27 (rStore_ok a.v w6 S vrow qb H F2 (VRowS.ext (VRowS.chg hc4 (fun k hk => ⟨hk, (hnS k hk).1⟩) _ _ hvr3) he46) (fun k hk => ⟨(hnS k hk).2, by have := (hSF k hk).2; omega⟩) hr6 (fun k hk => by have := hF2l k hk; omega) (by omega)) ?_
    rintro v w7 ⟨rfl, hc7, F2', hr7, hF2'⟩
    rw [hHe] at hr7
    rw [hXe, hEe]
    have hs7 := hc7.size
    have out2 : ∀ k, w.heap.size ≤ k → ¬ F2 k := fun k hk h => by have := hF2l k h; omega
    (try revert X); refine t9 ?_; intro X hX
    refine Runs.alloc Fx.zi75 (fun w8 he8 hs8 hb8 => ?_)
    generalize hB12 : w7.heap.size = B12 at hs8 hb8
    simp only [Value.cells] at hb8
    (try revert X); refine t9 ?_; intro X hX
    refine Runs.store hb8 Fx.zi75 rfl (by intro u hu; simp [Value.cells, Wd.row] at hu; rcases hu with rfl | rfl | rfl <;> rfl) (by simp) (fun w9 hc9 hs9 hb9' => ?_)
    rw [splice_all _ _ (by simp [Value.cells])] at hb9'
    simp only [Value.cells] at hb9'
    have he79 : Ext w7 w9 := he8.chg_trans hc9 (fun i hi => by omega)
    (try revert X); refine t9 ?_; intro X hX
    refine hM _ _ _ ?_; clear hM M
    have hp9 : HeapW w9 hb rb H' F1' := ((hp4.ext he46).chg hc7 (fun k hk h2 => by
      rcases hF1' k hk with h | h
      · exact hS3.d12 k h h2
      · exact out2 k (by omega) h2) hS3.nrb.2.1).ext he79
    have hr9 : RHeapW w9 qb H' F2' := hr7.ext he79
    have hc39 : Chg (fun k => F1 k ∨ F2 k) w3 w9 := (((hc4.mono fun k _ h => .inl h).trans (he46.chg _)).trans (hc7.mono fun k _ h => .inr h)).trans (he79.chg _)
    have hs39 := hc39.size
    have hs46 := he46.size
    have hs79 := he79.size
    have hS9 : StR w9 hb rb qb bz H' l F1' F2' vh vr := hS3.both hp9 hr9 hc39 (fun k hk => (hF1' k hk).imp id (fun h => by omega)) (fun k hk => (hF2' k hk).imp id (fun h => by omega)) (fun k hk h1 h2 => by
      rcases hF1' k h1 with h | h
      · exact out1 k (by omega) h
      · rcases hF2' k h2 with h' | h'
        · exact out2 k (by omega) h'
        · omega)
    have hb109 : Blk w9 B10 x'.row 38 := by
      have h1 : Blk w7 B10 _ 38 := hb6.chg hc7 (out2 _ (by omega))
      first | exact h1.ext he79 | (rw [hXe] at h1; exact h1.ext he79)
    refine ok_seq (fun M hM => ok_region rfl ?_)
    (try revert X); refine t9 ?_; intro X hX
    refine ⟨x'.row, rfl, hb109.cells (o := 0) (fun j u hj => by simpa using hj), ?_⟩
    (try revert X); refine t9 ?_; intro X hX
    refine ⟨x'.row, rfl, hb9'.cells (o := 0) (fun j u hj => by simpa [Wd.row] using hj), ?_⟩
    (try revert X); refine t9 ?_; intro X hX
    refine Inv.call Fx.en28 (wadd_ok w9 bz vh vr l x' x' hS9.z hS9.oh hS9.or hS9.dz.1 hS9.dz.2 hS9.dv (by omega)) ?_
    rintro v w10 ⟨hc10, vh', vr', z1, z2, z3, z4, z5⟩
    have hS10 := hS9.add hc10 z1 z2 z3 z4 z5
    have hs10 := hc10.size
    have outz : ∀ k, w.heap.size ≤ k → ¬ (vh.ownBlock = some k ∨ vr.ownBlock = some k ∨ k = bz) := fun k hk h => by
      rcases h with h | h | h
      · have := (hS.oh.lt k h).2; omega
      · have := (hS.or.lt k h).2; omega
      · have := hS.z.lt; omega
    (try revert X); refine t9 ?_; intro X hX
    refine hM _ _ _ ?_; clear hM M
    refine ok_seq (fun M hM => ok_region rfl ?_)
    (try revert X); refine t9 ?_; intro X hX
    refine ⟨x'.row, rfl, (hb109.chg hc10 (outz _ (by omega))).cells (o := 0) (fun j u hj => by simpa using hj), ?_⟩
    (try revert X); refine t9 ?_; intro X hX
    refine ⟨x'.row, rfl, (hb9'.chg hc10 (outz _ (by omega))).cells (o := 0) (fun j u hj => by simpa [Wd.row] using hj), ?_⟩
    (try revert X); refine t9 ?_; intro X hX
    refine Runs.wdEq75 (a := x') (b := x') ?_
    simp only [and_self, decide_true]
    (try revert X); refine t9 ?_; intro X hX
    refine hM _ _ _ ?_; clear hM M
    refine ok_ret ?_
    try simp only [zW, zU, reduceIte, Nat.reduceEqDiff, Nat.reduceAdd, reduceCtorEq, Q9]
    have hc3e : Chg (fun k => Ft F1 F2 bz vh vr k) w3 w10 := (hc39.mono fun k _ h => by rcases h with h | h; exact .inl h; exact .inr (.inl h)).trans (hc10.mono fun k _ h => by
      rcases h with h | h | h
      · exact .inr (.inr (.inr (.inl h)))
      · exact .inr (.inr (.inr (.inr h)))
      · exact .inr (.inr (.inl h)))
    rw [hHe, hXe]
    refine ⟨(he03.chg F).trans (hc3e.mono fun k _ h => hFt k h), Ft F1' F2' bz vh' vr', ⟨F1', F2', vh', vr', hS10, fun k hk => hk, fun h => ?_⟩, fun k hk => ?_⟩
    · rcases h with h | h | h | h | h
      · exact hS10.nrb.1 h
      · exact hS10.nrb.2.1 h
      · exact hS10.nrb.2.2.1 h
      · exact hS10.nrb.2.2.2.1 h
      · exact hS10.nrb.2.2.2.2 h
    · have hkl := hS10.lt k hk
      rcases hk with h | h | h | h | h
      · rcases hF1' k h with h | h
        · exact .inl (hFt k (.inl h))
        · exact .inr (by omega)
      · rcases hF2' k h with h | h
        · exact .inl (hFt k (.inr (.inl h)))
        · exact .inr (by omega)
      · exact .inl (hFt k (.inr (.inr (.inl h))))
      · rcases z4 with e | ⟨k', e, hk'⟩
        · rw [e] at h; exact .inl (hFt k (.inr (.inr (.inr (.inl h)))))
        · rw [e] at h; cases h; exact .inr (by omega)
      · rcases z5 with e | ⟨k', e, hk'⟩
        · rw [e] at h; exact .inl (hFt k (.inr (.inr (.inr (.inr h)))))
        · rw [e] at h; cases h; exact .inr (by omega)
  · refine ok_seq (fun M hM => ok_region rfl ?_); (try revert X); refine t9 ?_; intro X hX
    refine hM _ _ _ ?_; clear hM M
    refine ok_if rfl (fun hd1 => ?_) (fun hd1 => ?_)
    · -- making
      have eH : actH H l a = (if makeE H a.k a.n (pickF l a.of) = 0 then (mkW H a.k a.n (pickF l a.of)).1 else H) := by unfold actH; rw [if_neg hd0, if_pos hd1]
      have eL : actL H l a = l ++ [(if makeE H a.k a.n (pickF l a.of) = 0 then (mkW H a.k a.n (pickF l a.of)).2 else ⟨0, 0, 0⟩)] := by unfold actL; rw [if_neg hd0, if_pos hd1]
      rw [eH, eL]
      clear eH eL
      refine ok_seq (fun M hM => ok_region rfl ?_)
      (try revert X); refine t9 ?_; intro X hX
      refine ⟨_, c1', ?_⟩
      (try revert X); refine t9 ?_; intro X hX
      refine ⟨_, c2', ?_⟩
      (try revert X); refine t9 ?_; intro X hX
      refine ⟨_, hb93.cell (j := 0) rfl, ?_⟩
      (try revert X); refine t9 ?_; intro X hX
      refine Inv.call Fx.en21 (Make_ok w3 hb rb H F1 hS3.hp (fun k hk => hS3.l1 k hk) (by omega) a.k a.n ph (pickF l a.of) hwh (by omega)) ?_
      rintro v w4 ⟨rfl, hG4⟩
      obtain ⟨F1', hp4, hc4, hF1'⟩ := hS3.heap hG4
      generalize hHe : (if makeE H a.k a.n (pickF l a.of) = 0 then (mkW H a.k a.n (pickF l a.of)).1 else H) = H' at hp4
      generalize hXe : (if makeE H a.k a.n (pickF l a.of) = 0 then (mkW H a.k a.n (pickF l a.of)).2 else ⟨0, 0, 0⟩) = x'
      generalize hEe : makeE H a.k a.n (pickF l a.of) = e'
      clear hG4
      have hs4 := hc4.size
      have out1 : ∀ k, w.heap.size ≤ k → ¬ F1 k := fun k hk h => by have := hF1l k h; omega
      (try revert X); refine t9 ?_; intro X hX
      refine Runs.alloc Fx.zi38 (fun w5 he5 hs5 hb5 => ?_)
      generalize hB10 : w4.heap.size = B10 at hs5 hb5
      simp only [Value.cells] at hb5
      (try revert X); refine t9 ?_; intro X hX
      refine Runs.store hb5 Fx.zi38 rfl (by intro u hu; simp [Value.cells, Wd.row] at hu; rcases hu with rfl | rfl | rfl <;> rfl) (by simp) (fun w6 hc6 hs6 hb6 => ?_)
      rw [splice_all _ _ (by simp [Value.cells])] at hb6
      simp only [Value.cells] at hb6
      have he46 : Ext w4 w6 := he5.chg_trans hc6 (fun i hi => by omega)
      have hr6 : RHeapW w6 qb H F2 := (hS3.rp.chg hc4 (fun k hk h1 => hS3.d12 k h1 hk)).ext he46
      (try revert X); refine t9 ?_; intro X hX
      refine hM _ _ _ ?_; clear hM M
      refine ok_seq (fun M hM => ok_region rfl ?_)
      (try revert X); refine t9 ?_; intro X hX
      refine ⟨_, he46.cell (hc4.cell c1' (out1 B7 (by omega))), ?_⟩
      (try revert X); refine t9 ?_; intro X hX
      refine ⟨_, he46.cell (hc4.cell c2' (out1 B7 (by omega))), ?_⟩
      (try revert X); refine t9 ?_; intro X hX
      refine ⟨_, he46.cell (hc4.cell (hb93.cell (j := 1) rfl) (out1 B9 (by omega))), ?_⟩
      (try revert X); refine t9 ?_; intro X hX
      have hwr6 : SlW w6 pr (pickF l a.of) := Sli.of_own (owns_chg' (owns_chg' hPW.2.1 hc4 (fun k hk e => by have h1 := hF1l k e; have := hPW.2.2.2 k hk; omega)) (he46.chg (fun _ => False)) (fun _ _ => id)) rfl (fun r hr => (words_rows _ r hr).1) (by simp) (by omega)
      refine Inv.call Fx.en29 (rMake_ok w6 qb H F2 hr6 (fun k hk => by have := hF2l k hk; omega) (by omega) a.k a.n pr (pickF l a.of) hwr6 (by omega)) ?_
      rintro v w7 ⟨rfl, hc7, F2', hr7, hF2'⟩
      rw [hHe] at hr7
      rw [hXe, hEe]
      have hs7 := hc7.size
      have out2 : ∀ k, w.heap.size ≤ k → ¬ F2 k := fun k hk h => by have := hF2l k h; omega
      (try revert X); refine t9 ?_; intro X hX
      refine Runs.alloc Fx.zi75 (fun w8 he8 hs8 hb8 => ?_)
      generalize hB12 : w7.heap.size = B12 at hs8 hb8
      simp only [Value.cells] at hb8
      (try revert X); refine t9 ?_; intro X hX
      refine Runs.store hb8 Fx.zi75 rfl (by intro u hu; simp [Value.cells, Wd.row] at hu; rcases hu with rfl | rfl | rfl <;> rfl) (by simp) (fun w9 hc9 hs9 hb9' => ?_)
      rw [splice_all _ _ (by simp [Value.cells])] at hb9'
      simp only [Value.cells] at hb9'
      have he79 : Ext w7 w9 := he8.chg_trans hc9 (fun i hi => by omega)
      (try revert X); refine t9 ?_; intro X hX
      refine hM _ _ _ ?_; clear hM M
      have hp9 : HeapW w9 hb rb H' F1' := ((hp4.ext he46).chg hc7 (fun k hk h2 => by
        rcases hF1' k hk with h | h
        · exact hS3.d12 k h h2
        · exact out2 k (by omega) h2) hS3.nrb.2.1).ext he79
      have hr9 : RHeapW w9 qb H' F2' := hr7.ext he79
      have hc39 : Chg (fun k => F1 k ∨ F2 k) w3 w9 := (((hc4.mono fun k _ h => .inl h).trans (he46.chg _)).trans (hc7.mono fun k _ h => .inr h)).trans (he79.chg _)
      have hs39 := hc39.size
      have hs46 := he46.size
      have hs79 := he79.size
      have hS9 : StR w9 hb rb qb bz H' l F1' F2' vh vr := hS3.both hp9 hr9 hc39 (fun k hk => (hF1' k hk).imp id (fun h => by omega)) (fun k hk => (hF2' k hk).imp id (fun h => by omega)) (fun k hk h1 h2 => by
        rcases hF1' k h1 with h | h
        · exact out1 k (by omega) h
        · rcases hF2' k h2 with h' | h'
          · exact out2 k (by omega) h'
          · omega)
      have hb109 : Blk w9 B10 x'.row 38 := by
        have h1 : Blk w7 B10 _ 38 := hb6.chg hc7 (out2 _ (by omega))
        first | exact h1.ext he79 | (rw [hXe] at h1; exact h1.ext he79)
      refine ok_seq (fun M hM => ok_region rfl ?_)
      (try revert X); refine t9 ?_; intro X hX
      refine ⟨x'.row, rfl, hb109.cells (o := 0) (fun j u hj => by simpa using hj), ?_⟩
      (try revert X); refine t9 ?_; intro X hX
      refine ⟨x'.row, rfl, hb9'.cells (o := 0) (fun j u hj => by simpa [Wd.row] using hj), ?_⟩
      (try revert X); refine t9 ?_; intro X hX
      refine Inv.call Fx.en28 (wadd_ok w9 bz vh vr l x' x' hS9.z hS9.oh hS9.or hS9.dz.1 hS9.dz.2 hS9.dv (by omega)) ?_
      rintro v w10 ⟨hc10, vh', vr', z1, z2, z3, z4, z5⟩
      have hS10 := hS9.add hc10 z1 z2 z3 z4 z5
      have hs10 := hc10.size
      have outz : ∀ k, w.heap.size ≤ k → ¬ (vh.ownBlock = some k ∨ vr.ownBlock = some k ∨ k = bz) := fun k hk h => by
        rcases h with h | h | h
        · have := (hS.oh.lt k h).2; omega
        · have := (hS.or.lt k h).2; omega
        · have := hS.z.lt; omega
      (try revert X); refine t9 ?_; intro X hX
      refine hM _ _ _ ?_; clear hM M
      refine ok_seq (fun M hM => ok_region rfl ?_)
      (try revert X); refine t9 ?_; intro X hX
      refine ⟨x'.row, rfl, (hb109.chg hc10 (outz _ (by omega))).cells (o := 0) (fun j u hj => by simpa using hj), ?_⟩
      (try revert X); refine t9 ?_; intro X hX
      refine ⟨x'.row, rfl, (hb9'.chg hc10 (outz _ (by omega))).cells (o := 0) (fun j u hj => by simpa [Wd.row] using hj), ?_⟩
      (try revert X); refine t9 ?_; intro X hX
      refine Runs.wdEq75 (a := x') (b := x') ?_
      simp only [and_self, decide_true]
      (try revert X); refine t9 ?_; intro X hX
      refine hM _ _ _ ?_; clear hM M
      refine ok_ret ?_
      try simp only [zW, zU, reduceIte, Nat.reduceEqDiff, Nat.reduceAdd, reduceCtorEq, Q9]
      have hc3e : Chg (fun k => Ft F1 F2 bz vh vr k) w3 w10 := (hc39.mono fun k _ h => by rcases h with h | h; exact .inl h; exact .inr (.inl h)).trans (hc10.mono fun k _ h => by
        rcases h with h | h | h
        · exact .inr (.inr (.inr (.inl h)))
        · exact .inr (.inr (.inr (.inr h)))
        · exact .inr (.inr (.inl h)))
      rw [hHe, hXe]
      refine ⟨(he03.chg F).trans (hc3e.mono fun k _ h => hFt k h), Ft F1' F2' bz vh' vr', ⟨F1', F2', vh', vr', hS10, fun k hk => hk, fun h => ?_⟩, fun k hk => ?_⟩
      · rcases h with h | h | h | h | h
        · exact hS10.nrb.1 h
        · exact hS10.nrb.2.1 h
        · exact hS10.nrb.2.2.1 h
        · exact hS10.nrb.2.2.2.1 h
        · exact hS10.nrb.2.2.2.2 h
      · have hkl := hS10.lt k hk
        rcases hk with h | h | h | h | h
        · rcases hF1' k h with h | h
          · exact .inl (hFt k (.inl h))
          · exact .inr (by omega)
        · rcases hF2' k h with h | h
          · exact .inl (hFt k (.inr (.inl h)))
          · exact .inr (by omega)
        · exact .inl (hFt k (.inr (.inr (.inl h))))
        · rcases z4 with e | ⟨k', e, hk'⟩
          · rw [e] at h; exact .inl (hFt k (.inr (.inr (.inr (.inl h)))))
          · rw [e] at h; cases h; exact .inr (by omega)
        · rcases z5 with e | ⟨k', e, hk'⟩
          · rw [e] at h; exact .inl (hFt k (.inr (.inr (.inr (.inr h)))))
          · rw [e] at h; cases h; exact .inr (by omega)
    · -- setting
      have hd2 : a.d = 2 := by omega
      have eL : actL H l a = l := by unfold actL; rw [if_neg hd0, if_neg hd1]
      rw [eL]
      refine ok_seq (fun M hM => ok_region rfl ?_); (try revert X); refine t9 ?_; intro X hX
      refine hM _ _ _ ?_; clear hM M
      refine ok_if rfl (fun _ => ?_) (fun h => absurd hd2 h)
      obtain ⟨Ah, ch, hph, -, hch⟩ := id hwh
      obtain ⟨Ar, cr, hpr, -, hcr⟩ := id hwr
      rw [wd_len] at hph hpr
      refine ok_join [(0, ptrOf hb), (1, ptrOf qb), (2, ptrOf bz), (7, ptrOf B7), (9, ptrOf B9)] (fun w' => w' = w3 ∧ ¬ (pickF l a.of).length < 2) ?_ ?_
      · refine ok_seq (fun M hM => ok_region rfl ?_)
        (try revert X); refine t9 ?_; intro X hX
        refine ⟨_, hb93.cell (j := 0) rfl, ?_⟩
        rw [hph]
        (try revert X); refine t9 ?_; intro X hX
        refine hM _ _ _ ?_; clear hM M
        refine ok_if rfl (fun hlt => ?_) (fun hlt => ok_skip ?_)
        · refine ok_seq (fun M hM => ok_region rfl ?_); (try revert X); refine t9 ?_; intro X hX
          refine hM _ _ _ ?_; clear hM M
          refine ok_ret ?_
          try simp only [zW, zU, reduceIte, Nat.reduceEqDiff, Nat.reduceAdd, reduceCtorEq, Q9]
          have hlt' : (pickF l a.of).length < 2 := by omega
          have eH : actH H l a = H := by unfold actH; rw [if_neg hd0, if_neg hd1, if_pos hlt']
          rw [eH]
          exact ⟨he03.chg F, F, ⟨F1, F2, vh, vr, hS3, hFt, hFrb⟩, fun k hk => .inl hk⟩
        · try simp only [zW, zU, reduceIte, Nat.reduceEqDiff, Nat.reduceAdd, reduceCtorEq, Q9]
          exact ⟨by simp [sub, Env.get], by omega⟩
      rintro w' ⟨rfl, hnlt⟩
      have eH : actH H l a = setH H ((pickF l a.of).getD 0 ⟨0, 0, 0⟩) a.n ((pickF l a.of).getD 1 ⟨0, 0, 0⟩) := by unfold actH; rw [if_neg hd0, if_neg hd1, if_neg hnlt]
      rw [eH]
      generalize hx0 : (pickF l a.of).getD 0 ⟨0, 0, 0⟩ = x0
      generalize hx1 : (pickF l a.of).getD 1 ⟨0, 0, 0⟩ = x1
      have hw0 : (pickF l a.of)[0]? = some x0 := by rw [← hx0, List.getD_eq_getElem?_getD, List.getElem?_eq_getElem (by omega : 0 < (pickF l a.of).length)]; rfl
      have hw1 : (pickF l a.of)[1]? = some x1 := by rw [← hx1, List.getD_eq_getElem?_getD, List.getElem?_eq_getElem (by omega : 1 < (pickF l a.of).length)]; rfl
      generalize hws : pickF l a.of = ws at *
      obtain ⟨gh, oh, rfl, hch0⟩ := hch 0 x0.row (by simp [hw0])
      obtain ⟨gh', oh', e1, hch1⟩ := hch 1 x1.row (by simp [hw1])
      cases e1
      obtain ⟨gr, or', rfl, hcr0⟩ := hcr 0 x0.row (by simp [hw0])
      obtain ⟨gr', or'', e2, hcr1⟩ := hcr 1 x1.row (by simp [hw1])
      cases e2
      have hgh : w1.heap.size ≤ gh := hPW.2.2.1 gh (by rw [hph]; rfl)
      have hgr : w1.heap.size ≤ gr := hPW.2.2.2 gr (by rw [hpr]; rfl)
      have out : ∀ k, w.heap.size ≤ k → ¬ (F1 k ∨ F2 k) := fun k hk h => by
        rcases h with h | h
        · have := hF1l k h; omega
        · have := hF2l k h; omega
      obtain ⟨E0, hE0⟩ : ∃ E0 : Env, E0 = [(0, ptrOf hb), (1, ptrOf qb), (2, ptrOf bz), (7, ptrOf B7), (9, ptrOf B9)] := ⟨_, rfl⟩
      obtain ⟨slots, hsl⟩ : ∃ slots : List (Option Nat), slots = [some 100, some 101, some 102, some 103, some 104, some 105, some 106, some 107, some 108, some 109, some 110, some 111, some 112, some 113, some 114, some 115, some 116, some 117, some 118, some 119, some 120, some 121, some 122, some 123, some 124, some 8] := ⟨_, rfl⟩
      obtain ⟨vals, hvl⟩ : ∃ vals : List (Option Value), vals = [some (ptrOf hb), some (.pointer (some ⟨B9, 0, none⟩)), some ph, some (.pointer (some ⟨gh, oh + 0 * 3, none⟩)), some (wv x0), some (.pointer (some ⟨B7, 2, none⟩)), some (.int .i64 a.n), some (.pointer (some ⟨B9, 0, none⟩)), some ph, some (.pointer (some ⟨gh, oh + 1 * 3, none⟩)), some (wv x1), some (.int .i64 (setE H x0 a.n x1)),
        some (ptrOf qb), some (.pointer (some ⟨B9, 1, none⟩)), some pr, some (.pointer (some ⟨gr, or' + 0 * 3, none⟩)), some (wv x0), some (.pointer (some ⟨B7, 2, none⟩)), some (.int .i64 a.n), some (.pointer (some ⟨B9, 1, none⟩)), some pr, some (.pointer (some ⟨gr, or' + 1 * 3, none⟩)), some (wv x1), some (.int .i64 (setE H x0 a.n x1)), some (.bool true), some (.bool true)] := ⟨_, rfl⟩
      have inj : injB slots = true := by subst hsl; rfl
      have free : freeB slots (E0.map Prod.fst) = true := by subst hsl; subst hE0; rfl
      refine ok_seq (fun M hM => ?_)
      refine ok_anyC (JS slots vals E0 (Q2 w' hb rb qb H (setH H x0 a.n x1) F1 F2 11 23)) Fx.mixed (by decide) (by decide +kernel) E0 (by subst hE0; simp [sub, Env.get]) ?_ ?_ ?_
      · exact ⟨fun s v h => h, fun i s v _ _ h => (by cases h), (Ext.drew _).chg _, fun _ _ => hS3.hp.ext (Ext.drew _), fun _ => hS3.rp.ext (Ext.drew _), fun h => (by cases h)⟩
      · intro L K wj j o hJ hcl ho hLj hn
        have hj : j < 26 := by have := (List.getElem?_eq_some_iff.1 ho).1; simpa using this
        have hcj := hJ.q.1
        have hjj : j = 0 ∨ j = 1 ∨ j = 2 ∨ j = 3 ∨ j = 4 ∨ j = 5 ∨ j = 6 ∨ j = 7 ∨ j = 8 ∨ j = 9 ∨ j = 10 ∨ j = 11 ∨ j = 12 ∨ j = 13 ∨ j = 14 ∨ j = 15 ∨ j = 16 ∨ j = 17 ∨ j = 18 ∨ j = 19 ∨ j = 20 ∨ j = 21 ∨ j = 22 ∨ j = 23 ∨ j = 24 ∨ j = 25 := by omega
        have kp : ∀ j, (11 : Nat) ≠ j → (23 : Nat) ≠ j → Q2 w' hb rb qb H (setH H x0 a.n x1) F1 F2 11 23 (up L j) wj := fun j h1 h2 => hJ.q.keep h1 h2
        rcases hjj with rfl | rfl | rfl | rfl | rfl | rfl | rfl | rfl | rfl | rfl | rfl | rfl | rfl | rfl | rfl | rfl | rfl | rfl | rfl | rfl | rfl | rfl | rfl | rfl | rfl | rfl <;> simp only [List.getElem?_cons_zero, List.getElem?_cons_succ, Option.some.injEq] at ho <;> subst ho
        · have f := hJ.env 0 _ (by rw [hE0]; rfl)
          simp only [wpL, opF, ev, f]
          exact hJ.step inj free (by rw [hsl]; rfl) (by rw [hvl]; rfl) (kp 0 (by decide) (by decide))
        · have f := hJ.env 9 _ (by rw [hE0]; rfl)
          simp only [wpL, opF, ev, f, Fx.fo32_0, add_at]
          exact hJ.step inj free (by rw [hsl]; rfl) (by rw [hvl]; rfl) (kp 1 (by decide) (by decide))
        · have f := hJ.simple 1 101 _ (by rw [hsl]; rfl) (by rw [hvl]; rfl) (hn 1 (by simp [needs, Region.binds]))
          simp only [wpL, opF, ev, f, Fx.ag29]
          exact ⟨_, hcj.cell (hb93.cell (j := 0) rfl) (out B9 (by omega)), hJ.step inj free (by rw [hsl]; rfl) (by rw [hvl]; rfl) (kp 2 (by decide) (by decide))⟩
        · have f := hJ.simple 2 102 _ (by rw [hsl]; rfl) (by rw [hvl]; rfl) (hn 2 (by simp [needs, Region.binds]))
          rw [hph] at f
          simp only [wpL, opF, ev, f, Fx.es29]
          refine ⟨by omega, by omega, ?_⟩
          simp only [add_at]
          exact hJ.step inj free (by rw [hsl]; rfl) (by rw [hvl]; rfl) (kp 3 (by decide) (by decide))
        · have f := hJ.simple 3 103 _ (by rw [hsl]; rfl) (by rw [hvl]; rfl) (hn 3 (by simp [needs, Region.binds]))
          simp only [wpL, opF, ev, f, Fx.ag38]
          exact ⟨x0.row, rfl, hcj.cellsAt hch0 (out gh (by omega)), hJ.step inj free (by rw [hsl]; rfl) (by rw [hvl]; rfl) (kp 4 (by decide) (by decide))⟩
        · have f := hJ.env 7 _ (by rw [hE0]; rfl)
          simp only [wpL, opF, ev, f, Fx.fo40_2, add_at]
          exact hJ.step inj free (by rw [hsl]; rfl) (by rw [hvl]; rfl) (kp 5 (by decide) (by decide))
        · have f := hJ.simple 5 105 _ (by rw [hsl]; rfl) (by rw [hvl]; rfl) (hn 5 (by simp [needs, Region.binds]))
          simp only [wpL, opF, ev, f, Fx.ag2]
          exact ⟨_, hcj.cell c2' (out B7 (by omega)), hJ.step inj free (by rw [hsl]; rfl) (by rw [hvl]; rfl) (kp 6 (by decide) (by decide))⟩
        · have f := hJ.env 9 _ (by rw [hE0]; rfl)
          simp only [wpL, opF, ev, f, Fx.fo32_0, add_at]
          exact hJ.step inj free (by rw [hsl]; rfl) (by rw [hvl]; rfl) (kp 7 (by decide) (by decide))
        · have f := hJ.simple 7 107 _ (by rw [hsl]; rfl) (by rw [hvl]; rfl) (hn 7 (by simp [needs, Region.binds]))
          simp only [wpL, opF, ev, f, Fx.ag29]
          exact ⟨_, hcj.cell (hb93.cell (j := 0) rfl) (out B9 (by omega)), hJ.step inj free (by rw [hsl]; rfl) (by rw [hvl]; rfl) (kp 8 (by decide) (by decide))⟩
        · have f := hJ.simple 8 108 _ (by rw [hsl]; rfl) (by rw [hvl]; rfl) (hn 8 (by simp [needs, Region.binds]))
          rw [hph] at f
          simp only [wpL, opF, ev, f, Fx.es29]
          refine ⟨by omega, by omega, ?_⟩
          simp only [add_at]
          exact hJ.step inj free (by rw [hsl]; rfl) (by rw [hvl]; rfl) (kp 9 (by decide) (by decide))
        · have f := hJ.simple 9 109 _ (by rw [hsl]; rfl) (by rw [hvl]; rfl) (hn 9 (by simp [needs, Region.binds]))
          simp only [wpL, opF, ev, f, Fx.ag38]
          exact ⟨x1.row, rfl, hcj.cellsAt hch1 (out gh (by omega)), hJ.step inj free (by rw [hsl]; rfl) (by rw [hvl]; rfl) (kp 10 (by decide) (by decide))⟩
        · have f0 := hJ.simple 0 100 _ (by rw [hsl]; rfl) (by rw [hvl]; rfl) (hn 0 (by simp [needs, Region.binds]))
          have f1 := hJ.simple 4 104 _ (by rw [hsl]; rfl) (by rw [hvl]; rfl) (hn 4 (by simp [needs, Region.binds]))
          have f2 := hJ.simple 6 106 _ (by rw [hsl]; rfl) (by rw [hvl]; rfl) (hn 6 (by simp [needs, Region.binds]))
          have f3 := hJ.simple 10 110 _ (by rw [hsl]; rfl) (by rw [hvl]; rfl) (hn 10 (by simp [needs, Region.binds]))
          have c23 : L 23 = false := hcl.no (j := 23) (k := 11) rfl (by simp [needs, Region.binds]) hLj
          simp only [wpL, opF, evs, ev, f0, f1, f2, f3]
          refine Inv.call Fx.en22 (Set_ok wj hb rb H F1 (hJ.q.2.1 hLj c23) (by omega) x0 a.n x1) ?_
          rintro v w5 ⟨rfl, hc5, F1', g1, g2⟩
          have hs5 := hc5.size
          have hsj := hcj.size
          refine hJ.step inj free (by rw [hsl]; rfl) (by rw [hvl]; rfl) ⟨hcj.trans (hc5.mono fun k _ h => .inl h), fun h => (by rw [up_self] at h; cases h), fun _ => (hJ.q.2.2.1 c23).chg hc5 (fun k hk h => hS3.d12 k h hk), fun _ => ⟨F1', g1, fun k hk => (g2 k hk).imp id (fun h => by omega), fun k hk => ?_, fun h => ?_⟩⟩
          · rcases g2 k hk with h | h
            · have := hF1l k h; omega
            · omega
          · rw [up_ne (by decide), c23] at h; cases h
        · have f := hJ.env 1 _ (by rw [hE0]; rfl)
          simp only [wpL, opF, ev, f]
          exact hJ.step inj free (by rw [hsl]; rfl) (by rw [hvl]; rfl) (kp 12 (by decide) (by decide))
        · have f := hJ.env 9 _ (by rw [hE0]; rfl)
          simp only [wpL, opF, ev, f, Fx.fo32_1, add_at]
          exact hJ.step inj free (by rw [hsl]; rfl) (by rw [hvl]; rfl) (kp 13 (by decide) (by decide))
        · have f := hJ.simple 13 113 _ (by rw [hsl]; rfl) (by rw [hvl]; rfl) (hn 13 (by simp [needs, Region.binds]))
          simp only [wpL, opF, ev, f, Fx.ag30]
          exact ⟨_, hcj.cell (hb93.cell (j := 1) rfl) (out B9 (by omega)), hJ.step inj free (by rw [hsl]; rfl) (by rw [hvl]; rfl) (kp 14 (by decide) (by decide))⟩
        · have f := hJ.simple 14 114 _ (by rw [hsl]; rfl) (by rw [hvl]; rfl) (hn 14 (by simp [needs, Region.binds]))
          rw [hpr] at f
          simp only [wpL, opF, ev, f, Fx.es30]
          refine ⟨by omega, by omega, ?_⟩
          simp only [add_at]
          exact hJ.step inj free (by rw [hsl]; rfl) (by rw [hvl]; rfl) (kp 15 (by decide) (by decide))
        · have f := hJ.simple 15 115 _ (by rw [hsl]; rfl) (by rw [hvl]; rfl) (hn 15 (by simp [needs, Region.binds]))
          simp only [wpL, opF, ev, f, Fx.ag75]
          exact ⟨x0.row, rfl, hcj.cellsAt hcr0 (out gr (by omega)), hJ.step inj free (by rw [hsl]; rfl) (by rw [hvl]; rfl) (kp 16 (by decide) (by decide))⟩
        · have f := hJ.env 7 _ (by rw [hE0]; rfl)
          simp only [wpL, opF, ev, f, Fx.fo40_2, add_at]
          exact hJ.step inj free (by rw [hsl]; rfl) (by rw [hvl]; rfl) (kp 17 (by decide) (by decide))
        · have f := hJ.simple 17 117 _ (by rw [hsl]; rfl) (by rw [hvl]; rfl) (hn 17 (by simp [needs, Region.binds]))
          simp only [wpL, opF, ev, f, Fx.ag2]
          exact ⟨_, hcj.cell c2' (out B7 (by omega)), hJ.step inj free (by rw [hsl]; rfl) (by rw [hvl]; rfl) (kp 18 (by decide) (by decide))⟩
        · have f := hJ.env 9 _ (by rw [hE0]; rfl)
          simp only [wpL, opF, ev, f, Fx.fo32_1, add_at]
          exact hJ.step inj free (by rw [hsl]; rfl) (by rw [hvl]; rfl) (kp 19 (by decide) (by decide))
        · have f := hJ.simple 19 119 _ (by rw [hsl]; rfl) (by rw [hvl]; rfl) (hn 19 (by simp [needs, Region.binds]))
          simp only [wpL, opF, ev, f, Fx.ag30]
          exact ⟨_, hcj.cell (hb93.cell (j := 1) rfl) (out B9 (by omega)), hJ.step inj free (by rw [hsl]; rfl) (by rw [hvl]; rfl) (kp 20 (by decide) (by decide))⟩
        · have f := hJ.simple 20 120 _ (by rw [hsl]; rfl) (by rw [hvl]; rfl) (hn 20 (by simp [needs, Region.binds]))
          rw [hpr] at f
          simp only [wpL, opF, ev, f, Fx.es30]
          refine ⟨by omega, by omega, ?_⟩
          simp only [add_at]
          exact hJ.step inj free (by rw [hsl]; rfl) (by rw [hvl]; rfl) (kp 21 (by decide) (by decide))
        · have f := hJ.simple 21 121 _ (by rw [hsl]; rfl) (by rw [hvl]; rfl) (hn 21 (by simp [needs, Region.binds]))
          simp only [wpL, opF, ev, f, Fx.ag75]
          exact ⟨x1.row, rfl, hcj.cellsAt hcr1 (out gr (by omega)), hJ.step inj free (by rw [hsl]; rfl) (by rw [hvl]; rfl) (kp 22 (by decide) (by decide))⟩
        · have f0 := hJ.simple 12 112 _ (by rw [hsl]; rfl) (by rw [hvl]; rfl) (hn 12 (by simp [needs, Region.binds]))
          have f1 := hJ.simple 16 116 _ (by rw [hsl]; rfl) (by rw [hvl]; rfl) (hn 16 (by simp [needs, Region.binds]))
          have f2 := hJ.simple 18 118 _ (by rw [hsl]; rfl) (by rw [hvl]; rfl) (hn 18 (by simp [needs, Region.binds]))
          have f3 := hJ.simple 22 122 _ (by rw [hsl]; rfl) (by rw [hvl]; rfl) (hn 22 (by simp [needs, Region.binds]))
          have c11 : L 11 = true := hn 11 (by simp [needs, Region.binds])
          obtain ⟨F1', g1, g2, g3, -⟩ := hJ.q.2.2.2 c11
          simp only [wpL, opF, evs, ev, f0, f1, f2, f3]
          have hsj := hcj.size
          refine Inv.call Fx.en30 (rSet_ok wj qb H F2 (hJ.q.2.2.1 hLj) (fun k hk => by have := hF2l k hk; omega) (by omega) hLim x0 x1 a.n) ?_
          rintro v w5 ⟨rfl, hc5, F2', g4, g5⟩
          have hs5 := hc5.size
          refine hJ.step inj free (by rw [hsl]; rfl) (by rw [hvl]; rfl) ⟨hcj.trans (hc5.mono fun k _ h => .inr h), fun _ h => (by rw [up_self] at h; cases h), fun h => (by rw [up_self] at h; cases h), fun _ => ⟨F1', g1.chg hc5 (fun k hk h => ?_) hS3.nrb.2.1, g2, fun k hk => by have := g3 k hk; omega, fun _ => ⟨F2', g4, fun k hk => (g5 k hk).imp id (fun h => by omega), fun k hk => ?_, fun k h1 h2 h3 => ?_⟩⟩⟩
          · rcases g2 k hk with h1 | h1
            · exact hS3.d12 k h1 h
            · exact out k (by omega) (.inr h)
          · rcases g5 k hk with h | h
            · have := hF2l k h; omega
            · omega
          · have h4 := g3 k h1
            rcases g5 k h3 with h | h
            · exact out k (by omega) (.inr h)
            · omega
        · have f := hJ.simple 11 111 _ (by rw [hsl]; rfl) (by rw [hvl]; rfl) (hn 11 (by simp [needs, Region.binds]))
          have f2 := hJ.simple 23 123 _ (by rw [hsl]; rfl) (by rw [hvl]; rfl) (hn 23 (by simp [needs, Region.binds]))
          simp only [wpL, opF, ev, f, f2, bvEql]
          refine ⟨trivial, ?_⟩
          simp only [decide_true]
          exact hJ.step inj free (by rw [hsl]; rfl) (by rw [hvl]; rfl) (kp 24 (by decide) (by decide))
        · have f := hJ.simple 24 124 _ (by rw [hsl]; rfl) (by rw [hvl]; rfl) (hn 24 (by simp [needs, Region.binds]))
          simp only [wpL, opF, ev, f]
          exact hJ.step inj free (by rw [hsl]; rfl) (by rw [hvl]; rfl) (kp 25 (by decide) (by decide))
      intro K w4 hJ
      obtain ⟨hc4, -, -, hq⟩ := hJ.q
      obtain ⟨F1', q1, q2, q3, hq2⟩ := hq rfl
      obtain ⟨F2', q4, q5, q6, q7⟩ := hq2 rfl
      have k8 : K.get 8 = some (.bool true) := hJ.simple 25 8 _ (by subst hsl; rfl) (by subst hvl; rfl) rfl
      clear hJ
      try simp only [zW, zU, reduceIte, Nat.reduceEqDiff, Nat.reduceAdd, reduceCtorEq, Q9]
      refine hM _ _ _ ?_; clear hM M
      refine ok_less [(8, .bool true)] (by simp only [sub, and_true]; exact k8) ?_
      refine ok_ret ?_
      try simp only [zW, zU, reduceIte, Nat.reduceEqDiff, Nat.reduceAdd, reduceCtorEq, Q9]
      have hs4 := hc4.size
      have hS4 : StR w4 hb rb qb bz (setH H x0 a.n x1) l F1' F2' vh vr := hS3.both q1 q4 hc4 (fun k hk => (q2 k hk).imp id (fun h => ⟨h, q3 k hk⟩)) (fun k hk => (q5 k hk).imp id (fun h => ⟨h, q6 k hk⟩)) (fun k h1 h2 h3 => q7 k h2 h1 h3)
      refine ⟨(he03.chg F).trans (hc4.mono fun k _ h => by rcases h with h | h; exact hFt k (.inl h); exact hFt k (.inr (.inl h))), Ft F1' F2' bz vh vr, ⟨F1', F2', vh, vr, hS4, fun k hk => hk, fun h => ?_⟩, fun k hk => ?_⟩
      · rcases h with h | h | h | h | h
        · exact hS4.nrb.1 h
        · exact hS4.nrb.2.1 h
        · exact hS4.nrb.2.2.1 h
        · exact hS4.nrb.2.2.2.1 h
        · exact hS4.nrb.2.2.2.2 h
      · have hkl := hS4.lt k hk
        rcases hk with h | h | h | h | h
        · rcases q2 k h with h | h
          · exact .inl (hFt k (.inl h))
          · exact .inr (by omega)
        · rcases q5 k h with h | h
          · exact .inl (hFt k (.inr (.inl h)))
          · exact .inr (by omega)
        · exact .inl (hFt k (.inr (.inr (.inl h))))
        · exact .inl (hFt k (.inr (.inr (.inr (.inl h)))))
        · exact .inl (hFt k (.inr (.inr (.inr (.inr h)))))
end Go.Proofs.YtldeokfhipjbfaaGreatDoor
