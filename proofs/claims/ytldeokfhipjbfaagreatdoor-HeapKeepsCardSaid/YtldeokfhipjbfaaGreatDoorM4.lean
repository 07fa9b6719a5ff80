/- Part 4 of 12: H4, H5, H6, H7, H8, H9. -/
import Derived.Test.YtldeokfhipjbfaaGreatDoorM3
/- args, Clone, add, Text, make.  -/
set_option linter.unusedVariables false
set_option linter.unusedSimpArgs false
namespace Go.Proofs.YtldeokfhipjbfaaGreatDoor
open Go Go.Proofs.Vg Go.RowKit

abbrev SlW (w : World) (v : Value) (l : List Wd) : Prop := Sli w 3 v (l.map Wd.row)
theorem wd_len (l : List Wd) : (l.map Wd.row).length = l.length := by simp

-- -- function 79
set_option maxHeartbeats 2000000 in
set_option maxRecDepth 8000 in
theorem args_ok (w : World) (hb rb : Nat) (H : List Ob) (F : Nat → Prop) (hH : HeapW w hb rb H F) (hl : H.length ≤ 1073741824) (x : Wd) :
    Rets Tryz.prog 79 [ptrOf hb, wv x] w (fun v w' => (∃ A c, v = .slice A (argsOf H x).length c) ∧ SlW w v (argsOf H x) ∧ Ext w w' ∧ ∃ g, WL w g v (argsOf H x) ∧ (argsOf H x ≠ [] → F g)) := by
  refine rets_of_ok Tryz.func79 rfl rfl ?_
  refine ok_seq (fun M hM => ok_region rfl ?_)
  repeat ((try subst X); (first | (first | apply zL | apply zH | apply zE); intro X hX | apply zl | apply zh | apply ze); try simp only [zU, reduceIte, Nat.reduceEqDiff, Nat.reduceAdd, reduceCtorEq, Q79])
  refine Runs.box (fun w1 he1 hs1 hb1 => ?_)
  generalize hB : w.heap.size = B at *
  simp only [Value.cells, Wd.row] at hb1
  obtain ⟨vs, ps, gs, hR0, hf, -⟩ := hH
  have hR := hR0.ext he1
  repeat ((try subst X); (first | (first | apply zL | apply zH | apply zE); intro X hX | apply zl | apply zh | apply ze); try simp only [zU, reduceIte, Nat.reduceEqDiff, Nat.reduceAdd, reduceCtorEq, Q79])
  refine hM _ _ _ ?_; clear hM M
  refine ok_join [] (fun w' => w' = w1 ∧ argsOf H x = []) ?_ ?_
  · refine ok_seq (fun M hM => ok_region rfl ?_)
    repeat ((try subst X); (first | (first | apply zL | apply zH | apply zE); intro X hX | apply zl | apply zh | apply ze); try simp only [zU, reduceIte, Nat.reduceEqDiff, Nat.reduceAdd, reduceCtorEq, Q79])
    refine ⟨_, hb1.cell (j := 2) rfl, ?_⟩
    repeat ((try subst X); (first | (first | apply zL | apply zH | apply zE); intro X hX | apply zl | apply zh | apply ze); try simp only [zU, reduceIte, Nat.reduceEqDiff, Nat.reduceAdd, reduceCtorEq, Q79])
    refine Inv.call Fx.en57 (object_ok w1 hb rb vs ps gs H hR hl x.r) ?_
    rintro v w' ⟨rfl, hv⟩
    repeat ((try subst X); (first | (first | apply zL | apply zH | apply zE); intro X hX | apply zl | apply zh | apply ze); try simp only [zU, reduceIte, Nat.reduceEqDiff, Nat.reduceAdd, reduceCtorEq, Q79])
    refine hM _ _ _ ?_; clear hM M
    refine ok_seq (fun M hM => ok_region rfl ?_)
    repeat ((try subst X); (first | (first | apply zL | apply zH | apply zE); intro X hX | apply zl | apply zh | apply ze); try simp only [zU, reduceIte, Nat.reduceEqDiff, Nat.reduceAdd, reduceCtorEq, Q79])
    rcases hv with ⟨ho, rfl⟩ | ⟨i, p, g, o, ho, hr, hi, hp, hg, rfl⟩
    · refine Runs.ptrNe Fx.un103 ?_
      repeat ((try subst X); (first | (first | apply zL | apply zH | apply zE); intro X hX | apply zl | apply zh | apply ze); try simp only [zU, reduceIte, Nat.reduceEqDiff, Nat.reduceAdd, reduceCtorEq, Q79])
      refine hM _ _ _ ?_; clear hM M
      refine ok_cond rfl (fun h => by cases h) (fun h => ok_skip ?_)
      try simp only [zW, zU, reduceIte, Nat.reduceEqDiff, Nat.reduceAdd, reduceCtorEq, Q79]
      simp [sub, argsOf, argsO, ho]
    · refine Runs.ptrNe Fx.un103 ?_
      repeat ((try subst X); (first | (first | apply zL | apply zH | apply zE); intro X hX | apply zl | apply zh | apply ze); try simp only [zU, reduceIte, Nat.reduceEqDiff, Nat.reduceAdd, reduceCtorEq, Q79])
      have hob := hR.obj i p g o hp hg hi
      refine ⟨_, ObW.text hob, ?_⟩
      repeat ((try subst X); (first | (first | apply zL | apply zH | apply zE); intro X hX | apply zl | apply zh | apply ze); try simp only [zU, reduceIte, Nat.reduceEqDiff, Nat.reduceAdd, reduceCtorEq, Q79])
      refine hM _ _ _ ?_; clear hM M
      cases o with
      | text s =>
        refine ok_cond (b := false) rfl (fun h => by cases h) (fun h => ok_skip ?_)
        try simp only [zW, zU, reduceIte, Nat.reduceEqDiff, Nat.reduceAdd, reduceCtorEq, Q79]
        simp [sub, argsOf, argsO, ho]
      | words s l =>
        refine ok_cond (b := true) rfl (fun _ => ?_) (fun h => by cases h)
        obtain ⟨lv, h1, h2⟩ := hR0.obj i p g _ hp hg hi
        refine ok_seq (fun M hM => ok_region rfl ?_)
        repeat ((try subst X); (first | (first | apply zL | apply zH | apply zE); intro X hX | apply zl | apply zh | apply ze); try simp only [zU, reduceIte, Nat.reduceEqDiff, Nat.reduceAdd, reduceCtorEq, Q79])
        refine ⟨_, (h1.ext he1).cell (j := 0) rfl, ?_⟩
        repeat ((try subst X); (first | (first | apply zL | apply zH | apply zE); intro X hX | apply zl | apply zh | apply ze); try simp only [zU, reduceIte, Nat.reduceEqDiff, Nat.reduceAdd, reduceCtorEq, Q79])
        refine hM _ _ _ ?_; clear hM M
        refine ok_ret ?_
        try simp only [zW, zU, reduceIte, Nat.reduceEqDiff, Nat.reduceAdd, reduceCtorEq, Q79]
        obtain ⟨A, c, rfl, -⟩ := id h2
        have : argsOf H x = l := by simp [argsOf, argsO, ho]
        rw [this]
        exact ⟨⟨A, c, rfl⟩, h2.sli, he1, g, h2, fun _ => (hf g (.inr (.inr (.inr (List.mem_of_getElem? hg))))).1⟩
  rintro w' ⟨rfl, hnil⟩
  refine ok_seq (fun M hM => ok_region rfl ?_); repeat ((try subst X); (first | (first | apply zL | apply zH | apply zE); intro X hX | apply zl | apply zh | apply ze); try simp only [zU, reduceIte, Nat.reduceEqDiff, Nat.reduceAdd, reduceCtorEq, Q79])
  refine hM _ _ _ ?_; clear hM M
  refine ok_ret ?_
  try simp only [zW, zU, reduceIte, Nat.reduceEqDiff, Nat.reduceAdd, reduceCtorEq, Q79]
  rw [hnil]
  exact ⟨⟨none, 0, rfl⟩, ⟨none, 0, rfl, by simp, fun j row hj => by simp at hj⟩, he1, 0, ⟨none, 0, rfl, by simp, by simp, fun h => absurd rfl h⟩, fun h => absurd rfl h⟩

theorem words_rows (l : List Wd) : ∀ r ∈ l.map Wd.row, r.length = 3 ∧ ∀ u ∈ r, u.oneCell' = true := by
  intro r hr
  obtain ⟨x, -, rfl⟩ := List.mem_map.1 hr
  refine ⟨rfl, fun u hu => ?_⟩
  simp [Wd.row] at hu
  rcases hu with rfl | rfl | rfl <;> rfl
theorem flat_words (l : List Wd) : (l.map Wd.row).flatten.length = l.length * 3 := by
  induction l with
  | nil => rfl
  | cons x xs ih => rw [List.map_cons, List.flatten_cons, List.length_append, ih, List.length_cons]; simp [Wd.row]; omega
/-- An own row of words is a list of words in its block. -/
theorem WL.of_own {w : World} {base : Nat} {v : Value} {l : List Wd} (h : w.ownsRow base 38 3 v l.length (l.map Wd.row).flatten) (hl : l.length ≤ 1073741824) : ∃ g, WL w g v l ∧ (l ≠ [] → v.ownBlock = some g) := by
  rcases h.2 with ⟨rfl, h0⟩ | ⟨g, cap, cur, rfl, hbase, hb, hnc, hcap, hcs, htk⟩
  · have : l = [] := List.length_eq_zero_iff.1 h0
    subst this
    exact ⟨0, ⟨none, 0, rfl, by simp, by simp, fun h => absurd rfl h⟩, fun h => absurd rfl h⟩
  · exact ⟨g, ⟨_, cap, rfl, hl, hnc, fun _ => ⟨rfl, cur.toList, by simpa [Blk] using hb, htk⟩⟩, fun _ => rfl⟩

-- -- function 78
set_option maxHeartbeats 2000000 in
set_option maxRecDepth 8000 in
theorem clone_ok (w : World) (v : Value) (l : List Wd) (hv : SlW w v l) (hl : l.length ≤ 1073741824) :
    Rets Tryz.prog 78 [v] w (fun v' w' => (∃ A c, v' = .slice A l.length c) ∧ (∃ g, WL w' g v' l ∧ (l ≠ [] → w.heap.size ≤ g)) ∧ Ext w w') := by
  obtain ⟨A, c, rfl, hlen, hcell⟩ := id hv
  rw [wd_len] at hv ⊢
  refine rets_of_ok Tryz.func78 rfl rfl ?_
  refine ok_seq (fun M hM => ok_region rfl ?_); repeat ((try subst X); (first | (first | apply zL | apply zH | apply zE); intro X hX | apply zl | apply zh | apply ze); try simp only [zU, reduceIte, Nat.reduceEqDiff, Nat.reduceAdd, reduceCtorEq, Q78])
  refine hM _ _ _ ?_; clear hM M
  cases A with
  | none =>
    have hnil : l = [] := by
      cases l with
      | nil => rfl
      | cons x xs => obtain ⟨b, o, h1, _⟩ := hcell 0 x.row rfl; cases h1
    subst hnil
    refine ok_seq (fun M0 hM0 => ?_)
    refine ok_seq (fun M hM => ok_region rfl ?_)
    repeat ((try subst X); (first | (first | apply zL | apply zH | apply zE); intro X hX | apply zl | apply zh | apply ze); try simp only [zU, reduceIte, Nat.reduceEqDiff, Nat.reduceAdd, reduceCtorEq, Q78])
    refine Runs.slEq Fx.un29 ?_
    repeat ((try subst X); (first | (first | apply zL | apply zH | apply zE); intro X hX | apply zl | apply zh | apply ze); try simp only [zU, reduceIte, Nat.reduceEqDiff, Nat.reduceAdd, reduceCtorEq, Q78])
    refine hM _ _ _ ?_; clear hM M
    refine ok_cond rfl (fun _ => ?_) (fun h => by cases h)
    refine ok_seq (fun M hM => ok_region rfl ?_); repeat ((try subst X); (first | (first | apply zL | apply zH | apply zE); intro X hX | apply zl | apply zh | apply ze); try simp only [zU, reduceIte, Nat.reduceEqDiff, Nat.reduceAdd, reduceCtorEq, Q78])
    refine hM _ _ _ ?_; clear hM M
    refine ok_ret ?_
    try simp only [zW, zU, reduceIte, Nat.reduceEqDiff, Nat.reduceAdd, reduceCtorEq, Q78]
    exact ⟨⟨none, 0, rfl⟩, ⟨0, ⟨none, 0, rfl, by simp, by simp, fun h => absurd rfl h⟩, fun h => absurd rfl h⟩, Ext.refl _⟩
  | some a =>
    refine ok_join [(0, .slice (some a) l.length c)] (fun w' => w' = w) ?_ ?_
    · refine ok_seq (fun M hM => ok_region rfl ?_)
      repeat ((try subst X); (first | (first | apply zL | apply zH | apply zE); intro X hX | apply zl | apply zh | apply ze); try simp only [zU, reduceIte, Nat.reduceEqDiff, Nat.reduceAdd, reduceCtorEq, Q78])
      refine Runs.slEq Fx.un29 ?_
      repeat ((try subst X); (first | (first | apply zL | apply zH | apply zE); intro X hX | apply zl | apply zh | apply ze); try simp only [zU, reduceIte, Nat.reduceEqDiff, Nat.reduceAdd, reduceCtorEq, Q78])
      refine hM _ _ _ ?_; clear hM M
      refine ok_cond rfl (fun h => by cases h) (fun h => ok_skip ?_)
      try simp only [zW, zU, reduceIte, Nat.reduceEqDiff, Nat.reduceAdd, reduceCtorEq, Q78]
      simp [sub, Env.get]
    rintro w' rfl
    refine ok_seq (fun M hM => ok_region rfl ?_)
    repeat ((try subst X); (first | (first | apply zL | apply zH | apply zE); intro X hX | apply zl | apply zh | apply ze); try simp only [zU, reduceIte, Nat.reduceEqDiff, Nat.reduceAdd, reduceCtorEq, Q78])
    refine Runs.lit00 Fx.un29 Fx.zi38 (fun w1 he1 hs1 hb1 => ?_)
    repeat ((try subst X); (first | (first | apply zL | apply zH | apply zE); intro X hX | apply zl | apply zh | apply ze); try simp only [zU, reduceIte, Nat.reduceEqDiff, Nat.reduceAdd, reduceCtorEq, Q78])
    refine Runs.appendR (base := w'.heap.size) (n := 0) (xs := []) (rows := l.map Wd.row) Fx.un29 Fx.zi38 rfl (by decide) ⟨rfl, .inr ⟨w'.heap.size, 0, #[], rfl, Nat.le_refl _, by simpa [Blk] using hb1, Nat.le_refl _, Nat.zero_le _, rfl, rfl⟩⟩ (hv.ext he1) (words_rows l) (by simp [maxLen]; omega) (by simp; omega) (by omega) (fun v' w2 hown hg hb2 => ?_)
    rw [wd_len, Nat.zero_add, List.nil_append] at hown
    repeat ((try subst X); (first | (first | apply zL | apply zH | apply zE); intro X hX | apply zl | apply zh | apply ze); try simp only [zU, reduceIte, Nat.reduceEqDiff, Nat.reduceAdd, reduceCtorEq, Q78])
    refine hM _ _ _ ?_; clear hM M
    refine ok_ret ?_
    try simp only [zW, zU, reduceIte, Nat.reduceEqDiff, Nat.reduceAdd, reduceCtorEq, Q78]
    obtain ⟨g, hW, hg2⟩ := WL.of_own hown hl
    obtain ⟨A', c', hv', -⟩ := id hW
    refine ⟨⟨A', c', hv'⟩, ⟨g, hW, fun hne => (hown.lt g (hg2 hne)).1⟩, he1.chg_trans (S := fun k => w'.heap.size ≤ k) ⟨hg.os, hg.tape, hg.output, hg.size, fun k hk hs => hg.block k hk (fun e => hs (by simp [Value.ownBlock] at e; omega))⟩ (fun k h => h)⟩

/-- A heap grows by an object. -/
theorem HeapR.push {w w' : World} {hb rb : Nat} {vs vs' : Value} {ps gs : List Nat} {H : List Ob} {F S : Nat → Prop} {p g : Nat} {o : Ob} (h : HeapR w hb rb vs ps gs H) (hf : ∀ k, Foot hb vs ps gs k → F k) (hrb : ¬ F rb)
    (hc : Chg S w w') (hS : ∀ k, S k → k = hb ∨ vs.ownBlock = some k) (hhead : Blk w' hb [vs', .map (some rb)] 70) (hown : w'.ownsRow 0 103 1 vs' (H.length + 1) (ps.map ptrOf ++ [ptrOf p]))
    (ho : ObW w' p g o) (hp : ¬ F p) (hg : ¬ F g) (hv' : ∀ k, vs'.ownBlock = some k → vs.ownBlock = some k ∨ (k ≠ hb ∧ k ∉ ps ∧ k ∉ gs ∧ k ≠ p ∧ k ≠ g)) : HeapR w' hb rb vs' (ps ++ [p]) (gs ++ [g]) (H ++ [o]) := by
  have hn : ∀ k, k ∈ ps ∨ k ∈ gs → ¬ S k := by
    intro k hk hs
    rcases hS k hs with rfl | h2
    · rcases hk with h3 | h3
      · exact h.ap.1.1 h3
      · exact h.ap.1.2 h3
    · rcases hk with h3 | h3
      · exact (h.ap.2 k h2).2.1 h3
      · exact (h.ap.2 k h2).2.2 h3
  refine ⟨hhead, h.rules.chg hc (fun hs => hrb (by rcases hS rb hs with h1 | h1; exact hf _ (.inl h1); exact hf _ (.inr (.inl h1)))), by simpa using hown, by simp [h.lenp], by simp [h.leng], ?_, ?_, ⟨⟨?_, ?_⟩, ?_⟩, ?_⟩
  · refine List.nodup_append.2 ⟨h.ndp, List.pairwise_singleton _ _, fun a ha b hb2 e => ?_⟩
    simp at hb2
    exact hp (hb2 ▸ e ▸ hf a (.inr (.inr (.inl ha))))
  · refine List.nodup_append.2 ⟨h.ndg, List.pairwise_singleton _ _, fun a ha b hb2 e => ?_⟩
    simp at hb2
    exact hg (hb2 ▸ e ▸ hf a (.inr (.inr (.inr ha))))
  · simp only [List.mem_append, List.mem_singleton, not_or]
    exact ⟨h.ap.1.1, fun e => hp (e ▸ hf hb (.inl rfl))⟩
  · simp only [List.mem_append, List.mem_singleton, not_or]
    exact ⟨h.ap.1.2, fun e => hg (e ▸ hf hb (.inl rfl))⟩
  · intro k hk
    simp only [List.mem_append, List.mem_singleton, not_or]
    rcases hv' k hk with h2 | ⟨h2, h3, h4, h5, h6⟩
    · exact ⟨(h.ap.2 k h2).1, ⟨(h.ap.2 k h2).2.1, fun e => hp (e ▸ hf k (.inr (.inl h2)))⟩, ⟨(h.ap.2 k h2).2.2, fun e => hg (e ▸ hf k (.inr (.inl h2)))⟩⟩
    · exact ⟨h2, ⟨h3, h5⟩, ⟨h4, h6⟩⟩
  · intro i p' g' o' h1 h2 h3
    rcases Nat.lt_or_ge i H.length with hi | hi
    · rw [List.getElem?_append_left (by rw [h.lenp]; exact hi)] at h1
      rw [List.getElem?_append_left (by rw [h.leng]; exact hi)] at h2
      rw [List.getElem?_append_left hi] at h3
      exact (h.obj i p' g' o' h1 h2 h3).chg hc (hn _ (.inl (List.mem_of_getElem? h1))) (hn _ (.inr (List.mem_of_getElem? h2)))
    · rw [List.getElem?_append_right (by rw [h.lenp]; exact hi)] at h1
      rw [List.getElem?_append_right (by rw [h.leng]; exact hi)] at h2
      rw [List.getElem?_append_right hi] at h3
      have hi0 : i = H.length := by have := (List.getElem?_eq_some_iff.1 h3).1; simp at this; omega
      subst hi0
      simp [h.lenp] at h1; simp [h.leng] at h2; simp at h3
      subst h1; subst h2; subst h3
      exact ho

-- -- function 92
set_option maxHeartbeats 2000000 in
set_option maxRecDepth 8000 in
theorem add_ok (w : World) (hb rb : Nat) (H : List Ob) (F : Nat → Prop) (hH : HeapW w hb rb H F) (hl : H.length ≤ 1048576) (p g : Nat) (o : Ob) (ho : ObW w p g o) (hp : ¬ F p) (hg : ¬ F g) (hps : p < w.heap.size) (hgs : g < w.heap.size) (hpr : p ≠ rb) (hgr : g ≠ rb) :
    Rets Tryz.prog 92 [ptrOf hb, ptrOf p] w (fun v w' => v = .int .i64 ((H.length : Int) + 1) ∧ Chg F w w' ∧ ∃ F', HeapW w' hb rb (H ++ [o]) F' ∧ ∀ k, F' k → F k ∨ k = p ∨ k = g ∨ (w.heap.size ≤ k ∧ k < w'.heap.size)) := by
  obtain ⟨vs, ps, gs, hR, hf, hrb⟩ := hH
  obtain ⟨A, c, hv, hlen, hcell⟩ := hR.sli (by omega)
  have hL : (ps.map fun p => [ptrOf p]).length = H.length := by simp [hR.lenp]
  rw [hL] at hv
  subst hv
  refine rets_of_ok Tryz.func92 rfl rfl ?_
  refine ok_seq (fun M hM => ok_region rfl ?_); repeat ((try subst X); (first | (first | apply zL | apply zH | apply zE); intro X hX | apply zl | apply zh | apply ze); try simp only [zU, reduceIte, Nat.reduceEqDiff, Nat.reduceAdd, reduceCtorEq, Q92])
  refine hM _ _ _ ?_; clear hM M
  refine ok_seq (fun M hM => ok_region rfl ?_)
  repeat ((try subst X); (first | (first | apply zL | apply zH | apply zE); intro X hX | apply zl | apply zh | apply ze); try simp only [zU, reduceIte, Nat.reduceEqDiff, Nat.reduceAdd, reduceCtorEq, Q92])
  refine ⟨_, hR.head.cell (j := 0) rfl, ?_⟩
  repeat ((try subst X); (first | (first | apply zL | apply zH | apply zE); intro X hX | apply zl | apply zh | apply ze); try simp only [zU, reduceIte, Nat.reduceEqDiff, Nat.reduceAdd, reduceCtorEq, Q92])
  refine Runs.lit (cs := [ptrOf p]) Fx.un67 Fx.zi103 (by decide) (by kernel_rfl) (by decide) (fun w1 he1 hs1 hb1 => ?_)
  repeat ((try subst X); (first | (first | apply zL | apply zH | apply zE); intro X hX | apply zl | apply zh | apply ze); try simp only [zU, reduceIte, Nat.reduceEqDiff, Nat.reduceAdd, reduceCtorEq, Q92])
  have hown1 := owns_chg' hR.own (he1.chg (fun _ => False)) (fun _ _ h => h)
  refine Runs.append1' Fx.un67 Fx.zi103 rfl (by decide) hown1 hb1 rfl (by intro u hu; simp at hu; subst hu; rfl) (by simp [maxLen]; omega) (by omega) (by omega) (fun v' w2 hown2 hg2 hblk => ?_)
  repeat ((try subst X); (first | (first | apply zL | apply zH | apply zE); intro X hX | apply zl | apply zh | apply ze); try simp only [zU, reduceIte, Nat.reduceEqDiff, Nat.reduceAdd, reduceCtorEq, Q92])
  have hc12 : Chg (fun k => (Value.slice A H.length c).ownBlock = some k) w1 w2 := ⟨hg2.os, hg2.tape, hg2.output, hg2.size, fun k hk hs => hg2.block k hk (fun e => hs e.symm)⟩
  have hhb : ¬ (Value.slice A H.length c).ownBlock = some hb := fun h => (hR.ap.2 hb h).1 rfl
  have hb2 : Blk w2 hb [.slice A H.length c, .map (some rb)] 70 := (hR.head.ext he1).chg hc12 hhb
  obtain ⟨g', cap, hvn⟩ : ∃ g' cap, v' = .slice (some ⟨g', 0, none⟩) (H.length + 1) cap := by
    rcases hown2.2 with ⟨-, h0⟩ | ⟨g', cap, cur, h1, _⟩
    · omega
    · exact ⟨g', cap, h1⟩
  subst hvn
  refine Runs.store hb2 Fx.zi67 rfl (by intro u hu; simp [Value.cells] at hu; subst hu; rfl) (by simp) (fun w3 hc3 hs3 hb3 => ?_)
  simp only [splice, Value.cells, List.take_zero, List.nil_append, List.singleton_append, List.length_singleton, Nat.zero_add, List.drop_succ_cons, List.drop_zero] at hb3
  repeat ((try subst X); (first | (first | apply zL | apply zH | apply zE); intro X hX | apply zl | apply zh | apply ze); try simp only [zU, reduceIte, Nat.reduceEqDiff, Nat.reduceAdd, reduceCtorEq, Q92])
  refine hM _ _ _ ?_; clear hM M
  refine ok_seq (fun M hM => ok_region rfl ?_)
  repeat ((try subst X); (first | (first | apply zL | apply zH | apply zE); intro X hX | apply zl | apply zh | apply ze); try simp only [zU, reduceIte, Nat.reduceEqDiff, Nat.reduceAdd, reduceCtorEq, Q92])
  refine ⟨_, hb3.cell (j := 0) rfl, ?_⟩
  repeat ((try subst X); (first | (first | apply zL | apply zH | apply zE); intro X hX | apply zl | apply zh | apply ze); try simp only [zU, reduceIte, Nat.reduceEqDiff, Nat.reduceAdd, reduceCtorEq, Q92])
  refine hM _ _ _ ?_; clear hM M
  refine ok_ret ?_
  try simp only [zW, zU, reduceIte, Nat.reduceEqDiff, Nat.reduceAdd, reduceCtorEq, Q92]
  have hcF : Chg F w w3 := (he1.chg F).trans ((hc12.mono (fun k _ hk => hf k (.inr (.inl hk)) |>.1)).trans (hc3.mono (fun k _ hk => by subst hk; exact (hf k (.inl rfl)).1)))
  refine ⟨by push_cast; rfl, hcF, fun k => F k ∨ k = p ∨ k = g ∨ k = g', ⟨_, ps ++ [p], gs ++ [g], HeapR.push (S := fun k => k = hb ∨ (Value.slice A H.length c).ownBlock = some k) hR (fun k hk => (hf k hk).1) hrb ?_ (fun k h => h) hb3 ?_ ?_ hp hg ?_, ?_, ?_⟩, ?_⟩
  · exact (he1.chg _).trans ((hc12.mono (fun k _ hk => .inr hk)).trans (hc3.mono (fun k _ hk => .inl hk)))
  · exact owns_chg' hown2 hc3 (fun k hk hs => by
      rcases hblk with h1 | h1
      · exact hhb (hs ▸ h1 ▸ hk)
      · rw [h1] at hk; cases hk; have := (hf hb (.inl rfl)).2; omega)
  · refine ((ho.chg (he1.chg (fun _ => False)) id id).chg hc12 ?_ ?_).chg hc3 ?_ ?_
    · exact fun h => hp (hf p (.inr (.inl h))).1
    · exact fun h => hg (hf g (.inr (.inl h))).1
    · exact fun h => hp (h ▸ (hf hb (.inl rfl)).1)
    · exact fun h => hg (h ▸ (hf hb (.inl rfl)).1)
  · intro k hk
    rcases hblk with h1 | h1
    · exact .inl (h1 ▸ hk)
    · rw [h1] at hk; cases hk
      refine .inr ⟨?_, ?_, ?_, by omega, by omega⟩
      · intro e; have := (hf hb (.inl rfl)).2; omega
      · intro e; have := (hf _ (.inr (.inr (.inl e)))).2; omega
      · intro e; have := (hf _ (.inr (.inr (.inr e)))).2; omega
  · intro k hk
    have hs13 : w.heap.size ≤ w3.heap.size := hcF.size
    rcases hk with rfl | hk | hk | hk
    · exact ⟨.inl (hf _ (.inl rfl)).1, by have := (hf _ (.inl rfl)).2; omega⟩
    · simp [Value.ownBlock] at hk; subst hk
      refine ⟨.inr (.inr (.inr rfl)), ?_⟩
      have := (hown2.lt g' rfl).2
      omega
    · rcases List.mem_append.1 hk with hk | hk
      · exact ⟨.inl (hf _ (.inr (.inr (.inl hk)))).1, by have := (hf _ (.inr (.inr (.inl hk)))).2; omega⟩
      · simp at hk; subst hk; exact ⟨.inr (.inl rfl), by omega⟩
    · rcases List.mem_append.1 hk with hk | hk
      · exact ⟨.inl (hf _ (.inr (.inr (.inr hk)))).1, by have := (hf _ (.inr (.inr (.inr hk)))).2; omega⟩
      · simp at hk; subst hk; exact ⟨.inr (.inr (.inl rfl)), by omega⟩
  · rintro (h | h | h | h)
    · exact hrb h
    · exact hpr h.symm
    · exact hgr h.symm
    · rcases hblk with h1 | h1
      · exact hrb (h ▸ (hf g' (.inr (.inl (h1 ▸ rfl)))).1)
      · simp [Value.ownBlock] at h1; have := hR.rules.lt; omega
  · rintro k (h | h | h | h)
    · exact .inl h
    · exact .inr (.inl h)
    · exact .inr (.inr (.inl h))
    · subst h
      rcases hblk with h1 | h1
      · exact .inl (hf k (.inr (.inl (h1 ▸ rfl)))).1
      · simp [Value.ownBlock] at h1; refine .inr (.inr (.inr ⟨by omega, ?_⟩)); have := (hown2.lt k rfl).2; omega
end Go.Proofs.YtldeokfhipjbfaaGreatDoor
/- Text, make.  -/
set_option linter.unusedVariables false
set_option linter.unusedSimpArgs false
namespace Go.Proofs.YtldeokfhipjbfaaGreatDoor
open Go Go.Proofs.Vg Go.RowKit

end Go.Proofs.YtldeokfhipjbfaaGreatDoor
namespace Go.Proofs.Vg
open Go Go.RowKit
/-- The heap 'H' has become 'H2'; what belongs to it is old or new. -/
def Grown (w w' : World) (hb rb : Nat) (H2 : List Ob) (F : Nat → Prop) : Prop :=
  Chg F w w' ∧ ∃ F', HeapW w' hb rb H2 F' ∧ ∀ k, F' k → F k ∨ (w.heap.size ≤ k ∧ k < w'.heap.size)

theorem HeapW.lt {w : World} {hb rb : Nat} {H : List Ob} {F : Nat → Prop} (h : HeapW w hb rb H F) : rb < w.heap.size := by
  obtain ⟨vs, ps, gs, hR, -⟩ := h
  exact hR.rules.lt
/-- The same heap, with what belongs to it alone. -/
theorem HeapW.tight {w : World} {hb rb : Nat} {H : List Ob} {F : Nat → Prop} (h : HeapW w hb rb H F) : HeapW w hb rb H (fun k => F k ∧ k < w.heap.size) := by
  obtain ⟨vs, ps, gs, hR, hf, hrb⟩ := h
  exact ⟨vs, ps, gs, hR, fun k hk => ⟨hf k hk, (hf k hk).2⟩, fun h => hrb h.1⟩
theorem Chg.trans_new {a b c : World} {F S : Nat → Prop} (h : Chg F a b) (k : Chg S b c) (hs : ∀ i, S i → a.heap.size ≤ i) : Chg F a c :=
  ⟨k.os.trans h.os, k.tape.trans h.tape, k.output.trans h.output, Nat.le_trans h.size k.size, fun i hi hf => by
    rw [k.block i (Nat.lt_of_lt_of_le hi h.size) (fun h => by have := hs i h; omega), h.block i hi hf]⟩
theorem Grown.refl {w : World} {hb rb : Nat} {H : List Ob} {F : Nat → Prop} (h : HeapW w hb rb H F) : Grown w w hb rb H F := ⟨Chg.refl _ _, F, h, fun k hk => .inl hk⟩
theorem Grown.ext {w w' : World} {hb rb : Nat} {H : List Ob} {F : Nat → Prop} (h : HeapW w hb rb H F) (he : Ext w w') : Grown w w' hb rb H F := ⟨he.chg F, F, h.ext he, fun k hk => .inl hk⟩
theorem Grown.ext_left {w w1 w' : World} {hb rb : Nat} {H : List Ob} {F : Nat → Prop} (he : Ext w w1) (h : Grown w1 w' hb rb H F) : Grown w w' hb rb H F := by
  obtain ⟨h1, F', h2, h3⟩ := h
  refine ⟨(he.chg F).trans h1, F', h2, fun k hk => ?_⟩
  rcases h3 k hk with h | ⟨h, h'⟩
  · exact .inl h
  · exact .inr ⟨Nat.le_trans he.size h, h'⟩
end Go.Proofs.Vg
namespace Go.Proofs.YtldeokfhipjbfaaGreatDoor
open Go Go.Proofs.Vg Go.RowKit

-- -- function 91
set_option maxHeartbeats 2000000 in
set_option maxRecDepth 8000 in
theorem text_ok (w : World) (hb rb : Nat) (H : List Ob) (F : Nat → Prop) (hH : HeapW w hb rb H F) (hF : ∀ k, F k → k < w.heap.size) (hl : H.length ≤ 1048576) (s : ByteArray) :
    Rets Tryz.prog 91 [ptrOf hb, .string s] w (fun v w' => v = wv ⟨3, 0, (H.length : Int) + 1⟩ ∧ Grown w w' hb rb (H ++ [.text s]) F) := by
  refine rets_of_okC Tryz.func91 rfl rfl ?_
  refine ok_seq (fun M hM => ok_region rfl ?_)
  repeat ((try subst X); (first | (first | apply zL | apply zH | apply zE); intro X hX | apply zl | apply zh | apply ze); try simp only [zU, reduceIte, Nat.reduceEqDiff, Nat.reduceAdd, reduceCtorEq, Q91])
  refine Runs.alloc Fx.zi38 (fun w1 he1 hs1 hb1 => ?_)
  simp only [Value.cells] at hb1
  generalize hB : w.heap.size = B at hs1 hb1
  repeat ((try subst X); (first | (first | apply zL | apply zH | apply zE); intro X hX | apply zl | apply zh | apply ze); try simp only [zU, reduceIte, Nat.reduceEqDiff, Nat.reduceAdd, reduceCtorEq, Q91])
  refine hM _ _ _ ?_; clear hM M
  refine ok_join [(0, ptrOf hb), (1, .string s), (4, ptrOf B)] (fun w' => w' = w1) ?_ ?_
  · refine ok_seq (fun M hM => ok_region rfl ?_)
    repeat ((try subst X); (first | (first | apply zL | apply zH | apply zE); intro X hX | apply zl | apply zh | apply ze); try simp only [zU, reduceIte, Nat.reduceEqDiff, Nat.reduceAdd, reduceCtorEq, Q91])
    refine Runs.ptrEq Fx.un25 ?_
    repeat ((try subst X); (first | (first | apply zL | apply zH | apply zE); intro X hX | apply zl | apply zh | apply ze); try simp only [zU, reduceIte, Nat.reduceEqDiff, Nat.reduceAdd, reduceCtorEq, Q91])
    refine hM _ _ _ ?_; clear hM M
    refine ok_cond rfl (fun h => by cases h) (fun h => ok_skip ?_)
    try simp only [zW, zU, reduceIte, Nat.reduceEqDiff, Nat.reduceAdd, reduceCtorEq, Q91]
    simp [sub, Env.get]
  rintro w' rfl
  refine ok_seq (fun M hM => ok_region rfl ?_)
  repeat ((try subst X); (first | (first | apply zL | apply zH | apply zE); intro X hX | apply zl | apply zh | apply ze); try simp only [zU, reduceIte, Nat.reduceEqDiff, Nat.reduceAdd, reduceCtorEq, Q91])
  refine ⟨_, w', run_build (P := Tryz.prog) w' 108 _ #[.slice none 0 0, .string s, .bool true, .int .i64 0] (by kernel_rfl), ?_⟩
  repeat ((try subst X); (first | (first | apply zL | apply zH | apply zE); intro X hX | apply zl | apply zh | apply ze); try simp only [zU, reduceIte, Nat.reduceEqDiff, Nat.reduceAdd, reduceCtorEq, Q91])
  refine Runs.box (fun w2 he2 hs2 hb2 => ?_)
  simp only [Value.cells] at hb2
  generalize hp : w'.heap.size = p at hs2 hb2
  repeat ((try subst X); (first | (first | apply zL | apply zH | apply zE); intro X hX | apply zl | apply zh | apply ze); try simp only [zU, reduceIte, Nat.reduceEqDiff, Nat.reduceAdd, reduceCtorEq, Q91])
  have hrb := hH.lt
  refine Inv.call Fx.en92 (add_ok w2 hb rb H F (hH.ext (he1.trans he2)) hl p p (.text s) hb2 (fun h => by have := hF p h; omega) (fun h => by have := hF p h; omega) (by omega) (by omega) (by omega) (by omega)) ?_
  rintro v w3 ⟨rfl, hc3, F', hH3, hF'⟩
  repeat ((try subst X); (first | (first | apply zL | apply zH | apply zE); intro X hX | apply zl | apply zh | apply ze); try simp only [zU, reduceIte, Nat.reduceEqDiff, Nat.reduceAdd, reduceCtorEq, Q91])
  refine ⟨_, w3, run_build (P := Tryz.prog) w3 38 _ #[.int .i64 3, .int .i64 0, .int .i64 ((H.length : Int) + 1)] (by kernel_rfl), ?_⟩
  repeat ((try subst X); (first | (first | apply zL | apply zH | apply zE); intro X hX | apply zl | apply zh | apply ze); try simp only [zU, reduceIte, Nat.reduceEqDiff, Nat.reduceAdd, reduceCtorEq, Q91])
  have hBF : ¬ F B := fun h => by have := hF B h; omega
  have hb13 : Blk w3 B [.int .i64 0, .int .i64 0, .int .i64 0] 38 := (hb1.ext he2).chg hc3 hBF
  refine Runs.store hb13 Fx.zi38 rfl (by intro u hu; simp [Value.cells] at hu; rcases hu with rfl | rfl | rfl <;> rfl) (by simp) (fun w4 hc4 hs4 hb4 => ?_)
  rw [splice_all _ _ (by simp [Value.cells])] at hb4
  simp only [Value.cells] at hb4
  repeat ((try subst X); (first | (first | apply zL | apply zH | apply zE); intro X hX | apply zl | apply zh | apply ze); try simp only [zU, reduceIte, Nat.reduceEqDiff, Nat.reduceAdd, reduceCtorEq, Q91])
  refine hM _ _ _ ?_; clear hM M
  refine ok_ret ?_
  try simp only [zW, zU, reduceIte, Nat.reduceEqDiff, Nat.reduceAdd, reduceCtorEq, Q91]
  refine ⟨_, rfl, hb4.cells (o := 0) (row := [.int .i64 3, .int .i64 0, .int .i64 ((H.length : Int) + 1)]) (fun j u hj => by simpa using hj), rfl, ?_⟩
  have hs23 := hc3.size
  have hnB : ¬ F' B := fun h => by rcases hF' B h with h | h | h | h <;> first | exact hBF h | omega
  refine ⟨(((he1.trans he2).chg F).trans hc3).trans_new hc4 (fun k hk => by omega), F', hH3.chg hc4 (fun k hk e => hnB (e ▸ hk)) (by omega), fun k hk => ?_⟩
  rcases hF' k hk with h | h | h | h
  · exact .inl h
  · exact .inr (by omega)
  · exact .inr (by omega)
  · exact .inr (by omega)

def mkW (H : List Ob) (k n : Int) (l : List Wd) : List Ob × Wd := if 0 < l.length ∨ k = 7 then (H ++ [.words (if k = 7 then 7 else 4) l], ⟨k, n, (H.length : Int) + 1⟩) else (H, ⟨k, n, 0⟩)

-- -- function 56
set_option maxHeartbeats 2000000 in
set_option maxRecDepth 8000 in
theorem make_ok (w : World) (hb rb : Nat) (H : List Ob) (F : Nat → Prop) (hH : HeapW w hb rb H F) (hF : ∀ k, F k → k < w.heap.size) (hl : H.length ≤ 1048576) (k n : Int) (av : Value) (l : List Wd) (hav : SlW w av l) (hll : l.length ≤ 1073741824) :
    Rets Tryz.prog 56 [ptrOf hb, .int .i64 k, .int .i64 n, av] w (fun v w' => v = wv (mkW H k n l).2 ∧ Grown w w' hb rb (mkW H k n l).1 F) := by
  obtain ⟨A, c, rfl, hlen, hcell⟩ := id hav
  rw [wd_len] at hav ⊢
  have hrb := hH.lt
  refine rets_of_okC Tryz.func56 rfl rfl ?_
  refine ok_seq (fun M hM => ok_region rfl ?_)
  repeat ((try subst X); (first | (first | apply zL | apply zH | apply zE); intro X hX | apply zl | apply zh | apply ze); try simp only [zU, reduceIte, Nat.reduceEqDiff, Nat.reduceAdd, reduceCtorEq, Q56])
  refine Runs.alloc Fx.zi38 (fun w1 he1 hs1 hb1 => ?_)
  simp only [Value.cells] at hb1
  generalize hB : w.heap.size = B at hs1 hb1
  repeat ((try subst X); (first | (first | apply zL | apply zH | apply zE); intro X hX | apply zl | apply zh | apply ze); try simp only [zU, reduceIte, Nat.reduceEqDiff, Nat.reduceAdd, reduceCtorEq, Q56])
  refine hM _ _ _ ?_; clear hM M
  refine ok_seq (fun M hM => ok_region rfl ?_)
  repeat ((try subst X); (first | (first | apply zL | apply zH | apply zE); intro X hX | apply zl | apply zh | apply ze); try simp only [zU, reduceIte, Nat.reduceEqDiff, Nat.reduceAdd, reduceCtorEq, Q56])
  refine ⟨_, w1, run_build (P := Tryz.prog) w1 38 _ #[.int .i64 k, .int .i64 n, .int .i64 0] (by kernel_rfl), ?_⟩
  repeat ((try subst X); (first | (first | apply zL | apply zH | apply zE); intro X hX | apply zl | apply zh | apply ze); try simp only [zU, reduceIte, Nat.reduceEqDiff, Nat.reduceAdd, reduceCtorEq, Q56])
  refine Runs.alloc Fx.zi38 (fun w2 he2 hs2 hb2 => ?_)
  simp only [Value.cells] at hb2
  generalize hC : w1.heap.size = C at hs2 hb2
  repeat ((try subst X); (first | (first | apply zL | apply zH | apply zE); intro X hX | apply zl | apply zh | apply ze); try simp only [zU, reduceIte, Nat.reduceEqDiff, Nat.reduceAdd, reduceCtorEq, Q56])
  refine Runs.store hb2 Fx.zi38 rfl (by intro u hu; simp [Value.cells] at hu; rcases hu with rfl | rfl | rfl <;> rfl) (by simp) (fun w3 hc3 hs3 hb3 => ?_)
  rw [splice_all _ _ (by simp [Value.cells])] at hb3
  simp only [Value.cells] at hb3
  have he3 : Ext w w3 := (he1.trans he2).chg_trans hc3 (fun i hi => by omega)
  have hb13 : Blk w3 B [.int .i64 0, .int .i64 0, .int .i64 0] 38 := (hb1.ext he2).chg hc3 (by omega)
  repeat ((try subst X); (first | (first | apply zL | apply zH | apply zE); intro X hX | apply zl | apply zh | apply ze); try simp only [zU, reduceIte, Nat.reduceEqDiff, Nat.reduceAdd, reduceCtorEq, Q56])
  refine hM _ _ _ ?_; clear hM M
  refine ok_join [(8, ptrOf B), (9, ptrOf C)] (fun w' => Chg F w w' ∧ ∃ F', HeapW w' hb rb (mkW H k n l).1 F' ∧ (∀ k, F' k → F k ∨ (w.heap.size ≤ k ∧ k < w'.heap.size ∧ k ≠ B ∧ k ≠ C)) ∧ Blk w' B [.int .i64 0, .int .i64 0, .int .i64 0] 38 ∧ Blk w' C (mkW H k n l).2.row 38) ?_ ?_
  rotate_left
  · rintro w4 ⟨hc4, F', hH4, hF4, hbB, hbC⟩
    refine ok_seq (fun M hM => ok_region rfl ?_)
    repeat ((try subst X); (first | (first | apply zL | apply zH | apply zE); intro X hX | apply zl | apply zh | apply ze); try simp only [zU, reduceIte, Nat.reduceEqDiff, Nat.reduceAdd, reduceCtorEq, Q56])
    refine ⟨(mkW H k n l).2.row, rfl, hbC.cells (o := 0) (fun j u hj => by simpa using hj), ?_⟩
    repeat ((try subst X); (first | (first | apply zL | apply zH | apply zE); intro X hX | apply zl | apply zh | apply ze); try simp only [zU, reduceIte, Nat.reduceEqDiff, Nat.reduceAdd, reduceCtorEq, Q56])
    refine Runs.store hbB Fx.zi38 rfl (by intro u hu; simp [Value.cells, Wd.row] at hu; rcases hu with rfl | rfl | rfl <;> rfl) (by simp) (fun w5 hc5 hs5 hb5 => ?_)
    rw [splice_all _ _ (by simp [Value.cells])] at hb5
    simp only [Value.cells] at hb5
    repeat ((try subst X); (first | (first | apply zL | apply zH | apply zE); intro X hX | apply zl | apply zh | apply ze); try simp only [zU, reduceIte, Nat.reduceEqDiff, Nat.reduceAdd, reduceCtorEq, Q56])
    refine hM _ _ _ ?_; clear hM M
    refine ok_ret ?_
    try simp only [zW, zU, reduceIte, Nat.reduceEqDiff, Nat.reduceAdd, reduceCtorEq, Q56]
    refine ⟨_, rfl, hb5.cells (o := 0) (row := (mkW H k n l).2.row) (fun j u hj => by simpa using hj), rfl, ?_⟩
    have hs4 := hc4.size
    have hnB : ¬ F' B := fun h => by
      rcases hF4 B h with h | h
      · have := hF B h; omega
      · omega
    refine ⟨hc4.trans_new hc5 (fun k hk => by omega), F', hH4.chg hc5 (fun k hk e => hnB (e ▸ hk)) (by omega), fun k hk => ?_⟩
    rcases hF4 k hk with h | h
    · exact .inl h
    · exact .inr (by omega)
  refine ok_join [(0, ptrOf hb), (1, .int .i64 k), (3, .slice A l.length c), (8, ptrOf B), (9, ptrOf C), (20, .bool (decide (0 < l.length ∨ k = 7)))] (fun w' => w' = w3) ?_ ?_
  · refine ok_region rfl ?_
    repeat ((try subst X); (first | (first | apply zL | apply zH | apply zE); intro X hX | apply zl | apply zh | apply ze); try simp only [zU, reduceIte, Nat.reduceEqDiff, Nat.reduceAdd, reduceCtorEq, Q56])
    refine ⟨fun h => ?_, fun h => ?_⟩
    · have h1 : ¬ (0 < l.length) := by simpa using h
      have h2 : ¬ ((0 : Int) < (l.length : Int)) := by omega
      simp only [h2, decide_false]
      repeat ((try subst X); (first | (first | apply zL | apply zH | apply zE); intro X hX | apply zl | apply zh | apply ze); try simp only [zU, reduceIte, Nat.reduceEqDiff, Nat.reduceAdd, reduceCtorEq, Q56])
      simp [sub, Env.get, h1]
    · have h1 : 0 < l.length := by
        have : (0 : Int) < (l.length : Int) := by simpa using h
        omega
      repeat ((try subst X); (first | (first | apply zL | apply zH | apply zE); intro X hX | apply zl | apply zh | apply ze); try simp only [zU, reduceIte, Nat.reduceEqDiff, Nat.reduceAdd, reduceCtorEq, Q56])
      simp [sub, Env.get, h1]
  rintro w' rfl
  refine ok_if rfl (fun hc => ?_) (fun hc => ok_skip ?_)
  rotate_left
  · try simp only [zW, zU, reduceIte, Nat.reduceEqDiff, Nat.reduceAdd, reduceCtorEq, Q56]
    have hmk : mkW H k n l = (H, ⟨k, n, 0⟩) := by unfold mkW; rw [if_neg hc]
    rw [hmk]
    refine ⟨by simp [sub, Env.get], he3.chg F, F, hH.ext he3, fun k hk => .inl hk, hb13, by simpa [Wd.row] using hb3⟩
  have hmk : mkW H k n l = (H ++ [.words (if k = 7 then 7 else 4) l], ⟨k, n, (H.length : Int) + 1⟩) := by unfold mkW; rw [if_pos hc]
  rw [hmk]
  refine ok_seq (fun M hM => ok_region rfl ?_); repeat ((try subst X); (first | (first | apply zL | apply zH | apply zE); intro X hX | apply zl | apply zh | apply ze); try simp only [zU, reduceIte, Nat.reduceEqDiff, Nat.reduceAdd, reduceCtorEq, Q56])
  refine hM _ _ _ ?_; clear hM M
  refine ok_join [(0, ptrOf hb), (3, .slice A l.length c), (8, ptrOf B), (9, ptrOf C), (10, .int .i64 (if k = 7 then 7 else 4))] (fun w2 => w2 = w') ?_ ?_
  · refine ok_seq (fun M hM => ok_region rfl ?_); repeat ((try subst X); (first | (first | apply zL | apply zH | apply zE); intro X hX | apply zl | apply zh | apply ze); try simp only [zU, reduceIte, Nat.reduceEqDiff, Nat.reduceAdd, reduceCtorEq, Q56])
    refine hM _ _ _ ?_; clear hM M
    refine ok_if rfl (fun hk => ?_) (fun hk => ok_skip ?_)
    · refine ok_region rfl ?_
      repeat ((try subst X); (first | (first | apply zL | apply zH | apply zE); intro X hX | apply zl | apply zh | apply ze); try simp only [zU, reduceIte, Nat.reduceEqDiff, Nat.reduceAdd, reduceCtorEq, Q56])
      simp [sub, Env.get, hk]
    · try simp only [zW, zU, reduceIte, Nat.reduceEqDiff, Nat.reduceAdd, reduceCtorEq, Q56]
      simp [sub, Env.get, hk]
  rintro w'' rfl
  refine ok_region rfl ?_
  repeat ((try subst X); (first | (first | apply zL | apply zH | apply zE); intro X hX | apply zl | apply zh | apply ze); try simp only [zU, reduceIte, Nat.reduceEqDiff, Nat.reduceAdd, reduceCtorEq, Q56])
  refine Inv.call Fx.en78 (clone_ok w'' _ l (hav.ext he3) hll) ?_
  rintro v w4 ⟨⟨A4, c4, rfl⟩, ⟨g, hW, hgn⟩, he4⟩
  repeat ((try subst X); (first | (first | apply zL | apply zH | apply zE); intro X hX | apply zl | apply zh | apply ze); try simp only [zU, reduceIte, Nat.reduceEqDiff, Nat.reduceAdd, reduceCtorEq, Q56])
  refine ⟨_, w4, run_build (P := Tryz.prog) w4 106 _ #[.slice A4 l.length c4] (by kernel_rfl), ?_⟩
  repeat ((try subst X); (first | (first | apply zL | apply zH | apply zE); intro X hX | apply zl | apply zh | apply ze); try simp only [zU, reduceIte, Nat.reduceEqDiff, Nat.reduceAdd, reduceCtorEq, Q56])
  refine ⟨_, w4, run_build (P := Tryz.prog) w4 108 _ #[.slice A4 l.length c4, .string ⟨#[]⟩, .bool false, .int .i64 (if k = 7 then 7 else 4)] (by kernel_rfl), ?_⟩
  repeat ((try subst X); (first | (first | apply zL | apply zH | apply zE); intro X hX | apply zl | apply zh | apply ze); try simp only [zU, reduceIte, Nat.reduceEqDiff, Nat.reduceAdd, reduceCtorEq, Q56])
  refine Runs.box (fun w5 he5 hs5 hb5 => ?_)
  simp only [Value.cells] at hb5
  generalize hp : w4.heap.size = p at hs5 hb5
  have hs3' := he3.size
  have hs4' := he4.size
  -- the block of the words: the object's own, where there are none
  obtain ⟨g2, hW2, hg2, hg2s⟩ : ∃ g2, WL w5 g2 (.slice A4 l.length c4) l ∧ (g2 = p ∨ (w''.heap.size ≤ g2 ∧ g2 < w5.heap.size)) ∧ g2 < w5.heap.size := by
    by_cases hn0 : l = []
    · subst hn0
      obtain ⟨A', c', h1, h2, h3, -⟩ := hW.ext he5
      exact ⟨p, ⟨A', c', h1, h2, h3, fun h => absurd rfl h⟩, .inl rfl, by omega⟩
    · obtain ⟨A', c', h1, h2, h3, h4⟩ := id hW
      obtain ⟨-, cs, h5, -⟩ := h4 hn0
      have := h5.lt
      exact ⟨g, hW.ext he5, .inr ⟨hgn hn0, by omega⟩, by omega⟩
  repeat ((try subst X); (first | (first | apply zL | apply zH | apply zE); intro X hX | apply zl | apply zh | apply ze); try simp only [zU, reduceIte, Nat.reduceEqDiff, Nat.reduceAdd, reduceCtorEq, Q56])
  refine Inv.call Fx.en92 (add_ok w5 hb rb H F (hH.ext (he3.trans (he4.trans he5))) hl p g2 (.words (if k = 7 then 7 else 4) l) ⟨_, hb5, hW2⟩ (fun h => by have := hF p h; omega) (fun h => by have := hF g2 h; omega) (by omega) (by omega) (by omega) (by omega)) ?_
  rintro v w6 ⟨rfl, hc6, F', hH6, hF'⟩
  have hs6 := hc6.size
  repeat ((try subst X); (first | (first | apply zL | apply zH | apply zE); intro X hX | apply zl | apply zh | apply ze); try simp only [zU, reduceIte, Nat.reduceEqDiff, Nat.reduceAdd, reduceCtorEq, Q56])
  have hBF : ¬ F B := fun h => by have := hF B h; omega
  have hCF : ¬ F C := fun h => by have := hF C h; omega
  have hbC6 : Blk w6 C [.int .i64 k, .int .i64 n, .int .i64 0] 38 := ((hb3.ext he4).ext he5).chg hc6 hCF
  have hbB6 : Blk w6 B [.int .i64 0, .int .i64 0, .int .i64 0] 38 := ((hb13.ext he4).ext he5).chg hc6 hBF
  refine Runs.store hbC6 Fx.zi3 rfl (by intro u hu; simp [Value.cells] at hu; subst hu; rfl) (by simp) (fun w7 hc7 hs7 hb7 => ?_)
  repeat ((try subst X); (first | (first | apply zL | apply zH | apply zE); intro X hX | apply zl | apply zh | apply ze); try simp only [zU, reduceIte, Nat.reduceEqDiff, Nat.reduceAdd, reduceCtorEq, Q56])
  have hnC : ¬ F' C := fun h => by rcases hF' C h with h | h | h | h <;> first | exact hCF h | omega
  have hnB : ¬ F' B := fun h => by rcases hF' B h with h | h | h | h <;> first | exact hBF h | omega
  refine ⟨by simp [sub, Env.get], (((he3.trans (he4.trans he5)).chg F).trans hc6).trans_new hc7 (fun k hk => by omega), F', hH6.chg hc7 (fun k hk e => hnC (e ▸ hk)) (by omega), fun k hk => ?_, hbB6.chg hc7 (by omega), by simpa [splice, Value.cells, Wd.row] using hb7⟩
  have h1 : k ≠ C := fun e => hnC (e ▸ hk)
  have h2 : k ≠ B := fun e => hnB (e ▸ hk)
  rcases hF' k hk with h | h | h | h
  · exact .inl h
  · exact .inr (by omega)
  · exact .inr (by omega)
  · exact .inr (by omega)
end Go.Proofs.YtldeokfhipjbfaaGreatDoor
/- slices.ContainsFunc over values and over words: with an invariant. -/
set_option linter.unusedVariables false
set_option linter.unusedSimpArgs false
namespace Go.Proofs.Vg
open Go Go.RowKit
theorem Inv.weaken {P : Program} {fv : Value} {args : List Value} {w : World} {R next : Value → World → Prop} {pan : List PanicEntry → World → Prop} (h : Inv P fv args w (callR R fun _ _ => False)) (hn : ∀ v w', R v w' → next v w') : Inv P fv args w (callR next pan) := by
  have hq : ∀ e w', callR R (fun _ _ => False) e w' → callR next pan e w' := fun e w' he => by cases e <;> simp only [callR] at he ⊢ <;> first | exact hn _ _ he | exact he.elim
  rcases h with ⟨f, fi, ca, h1, h2, h3⟩ | ⟨l, fi, ca, fn, tmps, assign, body, h1, h2, h3⟩
  · exact .inl ⟨f, fi, ca, h1, h2, Calls.mono h3 hq⟩
  · exact .inr ⟨l, fi, ca, fn, tmps, assign, body, h1, h2, RoundIn.mono h3 hq⟩
end Go.Proofs.Vg
namespace Go.Proofs.YtldeokfhipjbfaaGreatDoor
open Go Go.Proofs.Vg Go.RowKit

-- -- function 93
set_option maxHeartbeats 2000000 in
set_option maxRecDepth 8000 in
theorem indexFuncV_ok (w : World) (A : Option Addr) (n c : Nat) (fv : Value) (hn : n ≤ 140737488355328) (J : Nat → World → Prop) (Q : World → Prop)
    (h0 : J 0 w) (hp : ∀ i w', i < n → J i w' → ∃ row, row.length = 4 ∧ (∃ b o, A = some ⟨b, o, none⟩ ∧ cellsAt w' ⟨b, o + i * 4, none⟩ row) ∧ Inv Tryz.prog fv [.agg row.toArray] w' (callR (fun v w'' => ∃ b, v = .bool b ∧ (b = true → Q w'') ∧ (b = false → J (i + 1) w'')) fun _ _ => False)) :
    Rets Tryz.prog 93 [.slice A n c, fv] w (fun v w' => ∃ i : Int, v = .int .i64 i ∧ ((0 ≤ i ∧ Q w') ∨ (i < 0 ∧ J n w'))) := by
  refine rets_of_ok Tryz.func93 rfl rfl ?_
  refine ok_seq (fun M hM => ok_region rfl ?_); repeat ((try subst X); (first | (first | apply zL | apply zH | apply zE); intro X hX | apply zl | apply zh | apply ze); try simp only [zU, reduceIte, Nat.reduceEqDiff, Nat.reduceAdd, reduceCtorEq, Q93])
  refine hM _ _ _ ?_; clear hM M
  refine ok_seq (fun M0 hM0 => ?_)
  refine ok_seq (fun M hM => ok_region rfl ?_); repeat ((try subst X); (first | (first | apply zL | apply zH | apply zE); intro X hX | apply zl | apply zh | apply ze); try simp only [zU, reduceIte, Nat.reduceEqDiff, Nat.reduceAdd, reduceCtorEq, Q93])
  refine hM _ _ _ ?_; clear hM M
  refine ok_block ?_
  refine ok_loop (S := Nat) (fun k => [(0, .slice A n c), (1, fv), (7, .int .i64 (n : Int)), (8, .int .i64 (k : Int))]) (fun k w' => k ≤ n ∧ J k w') (fun k => n - k) 0 ?_ ?_ ?_
  · simp [sub, Env.get, argEnv]
  · exact ⟨Nat.zero_le _, h0⟩
  rintro k w' ⟨hk, hJ⟩
  refine ok_seq (fun M hM => ok_region rfl ?_); repeat ((try subst X); (first | (first | apply zL | apply zH | apply zE); intro X hX | apply zl | apply zh | apply ze); try simp only [zU, reduceIte, Nat.reduceEqDiff, Nat.reduceAdd, reduceCtorEq, Q93])
  refine hM _ _ _ ?_; clear hM M
  refine ok_seq (fun M hM => ok_if rfl (fun hc => ok_skip ?_) (fun hc => ok_exit ?_))
  · try simp only [zW, zU, reduceIte, Nat.reduceEqDiff, Nat.reduceAdd, reduceCtorEq, Q93]
    refine hM _ _ _ ?_; clear hM M
    have hkl : k < n := by omega
    obtain ⟨row, hrl, ⟨b, o, rfl, hcell⟩, hI⟩ := hp k w' hkl hJ
    refine ok_seq (fun M1 hM1 => ok_block ?_)
    refine ok_seq (fun M hM => ok_region rfl ?_); repeat ((try subst X); (first | (first | apply zL | apply zH | apply zE); intro X hX | apply zl | apply zh | apply ze); try simp only [zU, reduceIte, Nat.reduceEqDiff, Nat.reduceAdd, reduceCtorEq, Q93])
    refine hM _ _ _ ?_; clear hM M
    refine ok_seq (fun M hM => ok_region rfl ?_)
    repeat ((try subst X); (first | (first | apply zL | apply zH | apply zE); intro X hX | apply zl | apply zh | apply ze); try simp only [zU, reduceIte, Nat.reduceEqDiff, Nat.reduceAdd, reduceCtorEq, Q93])
    refine ⟨by omega, by omega, ?_⟩
    repeat ((try subst X); (first | (first | apply zL | apply zH | apply zE); intro X hX | apply zl | apply zh | apply ze); try simp only [zU, reduceIte, Nat.reduceEqDiff, Nat.reduceAdd, reduceCtorEq, Q93])
    refine ⟨row, hrl, hcell, ?_⟩
    repeat ((try subst X); (first | (first | apply zL | apply zH | apply zE); intro X hX | apply zl | apply zh | apply ze); try simp only [zU, reduceIte, Nat.reduceEqDiff, Nat.reduceAdd, reduceCtorEq, Q93])
    refine Inv.weaken hI (fun v w2 hv => ?_)
    obtain ⟨b', rfl, hb1, hb2⟩ := hv
    repeat ((try subst X); (first | (first | apply zL | apply zH | apply zE); intro X hX | apply zl | apply zh | apply ze); try simp only [zU, reduceIte, Nat.reduceEqDiff, Nat.reduceAdd, reduceCtorEq, Q93])
    refine hM _ _ _ ?_; clear hM M
    refine ok_cond rfl (fun hc => ?_) (fun hc => ok_skip ?_)
    · refine ok_seq (fun M hM => ok_region rfl ?_); repeat ((try subst X); (first | (first | apply zL | apply zH | apply zE); intro X hX | apply zl | apply zh | apply ze); try simp only [zU, reduceIte, Nat.reduceEqDiff, Nat.reduceAdd, reduceCtorEq, Q93])
      refine hM _ _ _ ?_; clear hM M
      refine ok_ret ?_
      try simp only [zW, zU, reduceIte, Nat.reduceEqDiff, Nat.reduceAdd, reduceCtorEq, Q93]
      exact ⟨(k : Int), rfl, .inl ⟨by omega, hb1 hc⟩⟩
    · try simp only [zW, zU, reduceIte, Nat.reduceEqDiff, Nat.reduceAdd, reduceCtorEq, Q93]
      refine hM1 _ _ _ ?_; clear hM1 M1
      refine ok_region rfl ?_
      repeat ((try subst X); (first | (first | apply zL | apply zH | apply zE); intro X hX | apply zl | apply zh | apply ze); try simp only [zU, reduceIte, Nat.reduceEqDiff, Nat.reduceAdd, reduceCtorEq, Q93])
      refine ⟨by simp only [inI]; omega, ?_⟩
      repeat ((try subst X); (first | (first | apply zL | apply zH | apply zE); intro X hX | apply zl | apply zh | apply ze); try simp only [zU, reduceIte, Nat.reduceEqDiff, Nat.reduceAdd, reduceCtorEq, Q93])
      exact ⟨k + 1, by simp [sub, Env.get], ⟨by omega, hb2 hc⟩, by omega⟩
  · try simp only [zW, zU, reduceIte, Nat.reduceEqDiff, Nat.reduceAdd, reduceCtorEq, Q93]
    refine hM0 _ _ _ ?_; clear hM0 M0 hM M
    refine ok_seq (fun M hM => ok_region rfl ?_); repeat ((try subst X); (first | (first | apply zL | apply zH | apply zE); intro X hX | apply zl | apply zh | apply ze); try simp only [zU, reduceIte, Nat.reduceEqDiff, Nat.reduceAdd, reduceCtorEq, Q93])
    refine hM _ _ _ ?_; clear hM M
    refine ok_ret ?_
    try simp only [zW, zU, reduceIte, Nat.reduceEqDiff, Nat.reduceAdd, reduceCtorEq, Q93]
    have hkn : k = n := by omega
    subst hkn
    exact ⟨-1, rfl, .inr ⟨by omega, hJ⟩⟩

-- -- function 59
set_option maxHeartbeats 2000000 in
set_option maxRecDepth 8000 in
theorem containsV_ok (w : World) (A : Option Addr) (n c : Nat) (fv : Value) (hn : n ≤ 140737488355328) (J : Nat → World → Prop) (Q : World → Prop)
    (h0 : J 0 w) (hp : ∀ i w', i < n → J i w' → ∃ row, row.length = 4 ∧ (∃ b o, A = some ⟨b, o, none⟩ ∧ cellsAt w' ⟨b, o + i * 4, none⟩ row) ∧ Inv Tryz.prog fv [.agg row.toArray] w' (callR (fun v w'' => ∃ b, v = .bool b ∧ (b = true → Q w'') ∧ (b = false → J (i + 1) w'')) fun _ _ => False)) :
    Rets Tryz.prog 59 [.slice A n c, fv] w (fun v w' => ∃ b, v = .bool b ∧ (b = true → Q w') ∧ (b = false → J n w')) := by
  refine rets_of_ok Tryz.func59 rfl rfl ?_
  refine ok_seq (fun M hM => ok_region rfl ?_); repeat ((try subst X); (first | (first | apply zL | apply zH | apply zE); intro X hX | apply zl | apply zh | apply ze); try simp only [zU, reduceIte, Nat.reduceEqDiff, Nat.reduceAdd, reduceCtorEq, Q59])
  refine hM _ _ _ ?_; clear hM M
  refine ok_seq (fun M hM => ok_region rfl ?_)
  repeat ((try subst X); (first | (first | apply zL | apply zH | apply zE); intro X hX | apply zl | apply zh | apply ze); try simp only [zU, reduceIte, Nat.reduceEqDiff, Nat.reduceAdd, reduceCtorEq, Q59])
  refine Inv.call Fx.en93 (indexFuncV_ok w A n c fv hn J Q h0 hp) ?_
  rintro v w' ⟨i, rfl, hi⟩
  repeat ((try subst X); (first | (first | apply zL | apply zH | apply zE); intro X hX | apply zl | apply zh | apply ze); try simp only [zU, reduceIte, Nat.reduceEqDiff, Nat.reduceAdd, reduceCtorEq, Q59])
  refine hM _ _ _ ?_; clear hM M
  refine ok_ret ?_
  try simp only [zW, zU, reduceIte, Nat.reduceEqDiff, Nat.reduceAdd, reduceCtorEq, Q59]
  rcases hi with ⟨h1, h2⟩ | ⟨h1, h2⟩
  · exact ⟨true, by simpa using h1, fun _ => h2, fun h => by cases h⟩
  · exact ⟨false, by simpa using h1, fun h => (by cases h), fun _ => h2⟩


-- -- function 87
set_option maxHeartbeats 2000000 in
set_option maxRecDepth 8000 in
theorem indexFuncW_ok (w : World) (A : Option Addr) (n c : Nat) (fv : Value) (hn : n ≤ 140737488355328) (J : Nat → World → Prop) (Q : World → Prop)
    (h0 : J 0 w) (hp : ∀ i w', i < n → J i w' → ∃ row, row.length = 3 ∧ (∃ b o, A = some ⟨b, o, none⟩ ∧ cellsAt w' ⟨b, o + i * 3, none⟩ row) ∧ Inv Tryz.prog fv [.agg row.toArray] w' (callR (fun v w'' => ∃ b, v = .bool b ∧ (b = true → Q w'') ∧ (b = false → J (i + 1) w'')) fun _ _ => False)) :
    Rets Tryz.prog 87 [.slice A n c, fv] w (fun v w' => ∃ i : Int, v = .int .i64 i ∧ ((0 ≤ i ∧ Q w') ∨ (i < 0 ∧ J n w'))) := by
  refine rets_of_ok Tryz.func87 rfl rfl ?_
  refine ok_seq (fun M hM => ok_region rfl ?_); repeat ((try subst X); (first | (first | apply zL | apply zH | apply zE); intro X hX | apply zl | apply zh | apply ze); try simp only [zU, reduceIte, Nat.reduceEqDiff, Nat.reduceAdd, reduceCtorEq, Q87])
  refine hM _ _ _ ?_; clear hM M
  refine ok_seq (fun M0 hM0 => ?_)
  refine ok_seq (fun M hM => ok_region rfl ?_); repeat ((try subst X); (first | (first | apply zL | apply zH | apply zE); intro X hX | apply zl | apply zh | apply ze); try simp only [zU, reduceIte, Nat.reduceEqDiff, Nat.reduceAdd, reduceCtorEq, Q87])
  refine hM _ _ _ ?_; clear hM M
  refine ok_block ?_
  refine ok_loop (S := Nat) (fun k => [(0, .slice A n c), (1, fv), (7, .int .i64 (n : Int)), (8, .int .i64 (k : Int))]) (fun k w' => k ≤ n ∧ J k w') (fun k => n - k) 0 ?_ ?_ ?_
  · simp [sub, Env.get, argEnv]
  · exact ⟨Nat.zero_le _, h0⟩
  rintro k w' ⟨hk, hJ⟩
  refine ok_seq (fun M hM => ok_region rfl ?_); repeat ((try subst X); (first | (first | apply zL | apply zH | apply zE); intro X hX | apply zl | apply zh | apply ze); try simp only [zU, reduceIte, Nat.reduceEqDiff, Nat.reduceAdd, reduceCtorEq, Q87])
  refine hM _ _ _ ?_; clear hM M
  refine ok_seq (fun M hM => ok_if rfl (fun hc => ok_skip ?_) (fun hc => ok_exit ?_))
  · try simp only [zW, zU, reduceIte, Nat.reduceEqDiff, Nat.reduceAdd, reduceCtorEq, Q87]
    refine hM _ _ _ ?_; clear hM M
    have hkl : k < n := by omega
    obtain ⟨row, hrl, ⟨b, o, rfl, hcell⟩, hI⟩ := hp k w' hkl hJ
    refine ok_seq (fun M1 hM1 => ok_block ?_)
    refine ok_seq (fun M hM => ok_region rfl ?_); repeat ((try subst X); (first | (first | apply zL | apply zH | apply zE); intro X hX | apply zl | apply zh | apply ze); try simp only [zU, reduceIte, Nat.reduceEqDiff, Nat.reduceAdd, reduceCtorEq, Q87])
    refine hM _ _ _ ?_; clear hM M
    refine ok_seq (fun M hM => ok_region rfl ?_)
    repeat ((try subst X); (first | (first | apply zL | apply zH | apply zE); intro X hX | apply zl | apply zh | apply ze); try simp only [zU, reduceIte, Nat.reduceEqDiff, Nat.reduceAdd, reduceCtorEq, Q87])
    refine ⟨by omega, by omega, ?_⟩
    repeat ((try subst X); (first | (first | apply zL | apply zH | apply zE); intro X hX | apply zl | apply zh | apply ze); try simp only [zU, reduceIte, Nat.reduceEqDiff, Nat.reduceAdd, reduceCtorEq, Q87])
    refine ⟨row, hrl, hcell, ?_⟩
    repeat ((try subst X); (first | (first | apply zL | apply zH | apply zE); intro X hX | apply zl | apply zh | apply ze); try simp only [zU, reduceIte, Nat.reduceEqDiff, Nat.reduceAdd, reduceCtorEq, Q87])
    refine Inv.weaken hI (fun v w2 hv => ?_)
    obtain ⟨b', rfl, hb1, hb2⟩ := hv
    repeat ((try subst X); (first | (first | apply zL | apply zH | apply zE); intro X hX | apply zl | apply zh | apply ze); try simp only [zU, reduceIte, Nat.reduceEqDiff, Nat.reduceAdd, reduceCtorEq, Q87])
    refine hM _ _ _ ?_; clear hM M
    refine ok_cond rfl (fun hc => ?_) (fun hc => ok_skip ?_)
    · refine ok_seq (fun M hM => ok_region rfl ?_); repeat ((try subst X); (first | (first | apply zL | apply zH | apply zE); intro X hX | apply zl | apply zh | apply ze); try simp only [zU, reduceIte, Nat.reduceEqDiff, Nat.reduceAdd, reduceCtorEq, Q87])
      refine hM _ _ _ ?_; clear hM M
      refine ok_ret ?_
      try simp only [zW, zU, reduceIte, Nat.reduceEqDiff, Nat.reduceAdd, reduceCtorEq, Q87]
      exact ⟨(k : Int), rfl, .inl ⟨by omega, hb1 hc⟩⟩
    · try simp only [zW, zU, reduceIte, Nat.reduceEqDiff, Nat.reduceAdd, reduceCtorEq, Q87]
      refine hM1 _ _ _ ?_; clear hM1 M1
      refine ok_region rfl ?_
      repeat ((try subst X); (first | (first | apply zL | apply zH | apply zE); intro X hX | apply zl | apply zh | apply ze); try simp only [zU, reduceIte, Nat.reduceEqDiff, Nat.reduceAdd, reduceCtorEq, Q87])
      refine ⟨by simp only [inI]; omega, ?_⟩
      repeat ((try subst X); (first | (first | apply zL | apply zH | apply zE); intro X hX | apply zl | apply zh | apply ze); try simp only [zU, reduceIte, Nat.reduceEqDiff, Nat.reduceAdd, reduceCtorEq, Q87])
      exact ⟨k + 1, by simp [sub, Env.get], ⟨by omega, hb2 hc⟩, by omega⟩
  · try simp only [zW, zU, reduceIte, Nat.reduceEqDiff, Nat.reduceAdd, reduceCtorEq, Q87]
    refine hM0 _ _ _ ?_; clear hM0 M0 hM M
    refine ok_seq (fun M hM => ok_region rfl ?_); repeat ((try subst X); (first | (first | apply zL | apply zH | apply zE); intro X hX | apply zl | apply zh | apply ze); try simp only [zU, reduceIte, Nat.reduceEqDiff, Nat.reduceAdd, reduceCtorEq, Q87])
    refine hM _ _ _ ?_; clear hM M
    refine ok_ret ?_
    try simp only [zW, zU, reduceIte, Nat.reduceEqDiff, Nat.reduceAdd, reduceCtorEq, Q87]
    have hkn : k = n := by omega
    subst hkn
    exact ⟨-1, rfl, .inr ⟨by omega, hJ⟩⟩

-- -- function 47
set_option maxHeartbeats 2000000 in
set_option maxRecDepth 8000 in
theorem containsW_ok (w : World) (A : Option Addr) (n c : Nat) (fv : Value) (hn : n ≤ 140737488355328) (J : Nat → World → Prop) (Q : World → Prop)
    (h0 : J 0 w) (hp : ∀ i w', i < n → J i w' → ∃ row, row.length = 3 ∧ (∃ b o, A = some ⟨b, o, none⟩ ∧ cellsAt w' ⟨b, o + i * 3, none⟩ row) ∧ Inv Tryz.prog fv [.agg row.toArray] w' (callR (fun v w'' => ∃ b, v = .bool b ∧ (b = true → Q w'') ∧ (b = false → J (i + 1) w'')) fun _ _ => False)) :
    Rets Tryz.prog 47 [.slice A n c, fv] w (fun v w' => ∃ b, v = .bool b ∧ (b = true → Q w') ∧ (b = false → J n w')) := by
  refine rets_of_ok Tryz.func47 rfl rfl ?_
  refine ok_seq (fun M hM => ok_region rfl ?_); repeat ((try subst X); (first | (first | apply zL | apply zH | apply zE); intro X hX | apply zl | apply zh | apply ze); try simp only [zU, reduceIte, Nat.reduceEqDiff, Nat.reduceAdd, reduceCtorEq, Q47])
  refine hM _ _ _ ?_; clear hM M
  refine ok_seq (fun M hM => ok_region rfl ?_)
  repeat ((try subst X); (first | (first | apply zL | apply zH | apply zE); intro X hX | apply zl | apply zh | apply ze); try simp only [zU, reduceIte, Nat.reduceEqDiff, Nat.reduceAdd, reduceCtorEq, Q47])
  refine Inv.call Fx.en87 (indexFuncW_ok w A n c fv hn J Q h0 hp) ?_
  rintro v w' ⟨i, rfl, hi⟩
  repeat ((try subst X); (first | (first | apply zL | apply zH | apply zE); intro X hX | apply zl | apply zh | apply ze); try simp only [zU, reduceIte, Nat.reduceEqDiff, Nat.reduceAdd, reduceCtorEq, Q47])
  refine hM _ _ _ ?_; clear hM M
  refine ok_ret ?_
  try simp only [zW, zU, reduceIte, Nat.reduceEqDiff, Nat.reduceAdd, reduceCtorEq, Q47]
  rcases hi with ⟨h1, h2⟩ | ⟨h1, h2⟩
  · exact ⟨true, by simpa using h1, fun _ => h2, fun h => by cases h⟩
  · exact ⟨false, by simpa using h1, fun h => (by cases h), fun _ => h2⟩

end Go.Proofs.YtldeokfhipjbfaaGreatDoor
/- known, formed: which values can be stored. -/
set_option linter.unusedVariables false
set_option linter.unusedSimpArgs false
namespace Go.Proofs.Vg
open Go Go.RowKit
def kindF (n : Int) : Option Value := if 1 ≤ n ∧ n ≤ 8 then some (.int .i64 n) else none
def rankL : List Value := [.int .i64 0, .int .i64 1, .int .i64 2, .int .i64 3, .int .i64 4, .int .i64 5, .int .i64 6, .int .i64 7, .int .i64 8, .int .i64 0]
/-- The package's variables. -/
structure Glob (w : World) (mk : Nat) : Prop where
  kc : w.cell? ⟨1, 0, none⟩ = some (.map (some mk))
  km : MapI w mk kindF
  rk : cellsAt w ⟨0, 0, none⟩ rankL
theorem Glob.ext {w w' : World} {mk : Nat} (h : Glob w mk) (he : Ext w w') : Glob w' mk := ⟨he.cell h.kc, h.km.ext he, he.cellsAt h.rk⟩
mutual
def knownV : Val → Bool
  | .mk k _ _ args => decide (1 ≤ k ∧ k ≤ 8) && knownVs args
def knownVs : List Val → Bool
  | [] => true
  | x :: xs => knownV x && knownVs xs
end
def wellV (k n : Int) (t : ByteArray) (len : Nat) : Bool :=
  if k = 1 ∨ k = 2 then decide (t = ⟨#[]⟩) && decide (len = 0)
  else if k = 3 then decide (n = 0) && decide (len = 0)
  else if k = 8 then decide (t = ⟨#[]⟩) && decide (0 ≤ n) && decide (len = 0)
  else if k = 7 then decide (t = ⟨#[]⟩) && decide (n = 0)
  else decide (t = ⟨#[]⟩) && decide (0 ≤ n)
mutual
def formedV : Val → Bool
  | .mk k n t args => wellV k n t args.length && formedVs args
def formedVs : List Val → Bool
  | [] => true
  | x :: xs => formedV x && formedVs xs
end
theorem knownVs_iff : ∀ (l : List Val), knownVs l = true ↔ ∀ (i : Nat) (x : Val), l[i]? = some x → knownV x = true
  | [] => by simp [knownVs]
  | x :: xs => by
    simp only [knownVs, Bool.and_eq_true, knownVs_iff xs]
    constructor
    · rintro ⟨h1, h2⟩ i y hy
      cases i with
      | zero => simp at hy; subst hy; exact h1
      | succ i => exact h2 i y (by simpa using hy)
    · intro h
      exact ⟨h 0 x rfl, fun i y hy => h (i + 1) y (by simpa using hy)⟩
theorem formedVs_iff : ∀ (l : List Val), formedVs l = true ↔ ∀ (i : Nat) (x : Val), l[i]? = some x → formedV x = true
  | [] => by simp [formedVs]
  | x :: xs => by
    simp only [formedVs, Bool.and_eq_true, formedVs_iff xs]
    constructor
    · rintro ⟨h1, h2⟩ i y hy
      cases i with
      | zero => simp at hy; subst hy; exact h1
      | succ i => exact h2 i y (by simpa using hy)
    · intro h
      exact ⟨h 0 x rfl, fun i y hy => h (i + 1) y (by simpa using hy)⟩
theorem VRow.len {w : World} {r : List Value} {x : Val} (h : VRow w r x) : r.length = 4 := by
  cases x; simp only [VRow] at h; obtain ⟨_, rfl, _⟩ := h; rfl
theorem VRow.one {w : World} {r : List Value} {x : Val} (h : VRow w r x) : ∀ u ∈ r, u.oneCell' = true := by
  cases x; simp only [VRow] at h
  obtain ⟨v, rfl, h1, h2, _⟩ := h
  intro u hu; simp at hu; rcases hu with rfl | rfl | rfl | rfl <;> first | rfl | exact h1
theorem VRow.cells {w : World} {r : List Value} {x : Val} (h : VRow w r x) : (Value.agg r.toArray).cells = r.toArray := rfl
def SliS (w : World) (S : Nat → Prop) (sz : Nat) (v : Value) (rows : List (List Value)) : Prop :=
  ∃ A c, v = .slice A rows.length c ∧ rows.length ≤ 140737488355328 ∧ ∀ (j : Nat) (row : List Value), rows[j]? = some row → ∃ b o, A = some ⟨b, o, none⟩ ∧ S b ∧ cellsAt w ⟨b, o + j * sz, none⟩ row
theorem SliS.sli {w : World} {S : Nat → Prop} {sz : Nat} {v : Value} {rows : List (List Value)} (h : SliS w S sz v rows) : Sli w sz v rows := by
  obtain ⟨A, c, h1, h2, h3⟩ := h
  exact ⟨A, c, h1, h2, fun j row hj => by obtain ⟨b, o, h4, _, h5⟩ := h3 j row hj; exact ⟨b, o, h4, h5⟩⟩
mutual
/-- Four cells that read as a value; what they lead to lies in 'S'. -/
def VRowS (w : World) (S : Nat → Prop) : List Value → Val → Prop
  | row, .mk k n t args => ∃ v, row = [.int .i64 k, .int .i64 n, .string t, v] ∧ v.oneCell' = true ∧ v.cells = #[v] ∧ ∃ rows, SliS w S 4 v rows ∧ VRowsS w S rows args
def VRowsS (w : World) (S : Nat → Prop) : List (List Value) → List Val → Prop
  | [], [] => True
  | r :: rs, x :: xs => VRowS w S r x ∧ VRowsS w S rs xs
  | _, _ => False
end
mutual
theorem VRowS.row {w : World} {S : Nat → Prop} : ∀ (row : List Value) (x : Val), VRowS w S row x → VRow w row x
  | row, .mk k n t args, h => by
    simp only [VRowS] at h
    simp only [VRow]
    obtain ⟨v, h1, h2, h3, rows, h4, h5⟩ := h
    exact ⟨v, h1, h2, h3, rows, h4.sli, VRowsS.rows rows args h5⟩
theorem VRowsS.rows {w : World} {S : Nat → Prop} : ∀ (rows : List (List Value)) (xs : List Val), VRowsS w S rows xs → VRows w rows xs
  | [], [], _ => by simp only [VRows]
  | r :: rs, x :: xs, h => by
    simp only [VRowsS] at h
    simp only [VRows]
    exact ⟨VRowS.row r x h.1, VRowsS.rows rs xs h.2⟩
  | [], _ :: _, h => by simp [VRowsS] at h
  | _ :: _, [], h => by simp [VRowsS] at h
end
mutual
theorem VRowS.chg {w w' : World} {S S' T : Nat → Prop} (hc : Chg T w w') (hs : ∀ k, S k → S' k ∧ ¬ T k) : ∀ (row : List Value) (x : Val), VRowS w S row x → VRowS w' S' row x
  | row, .mk k n t args, h => by
    simp only [VRowS] at h ⊢
    obtain ⟨v, h1, h2, h3, rows, ⟨A, c, h6, h7, h8⟩, h5⟩ := h
    refine ⟨v, h1, h2, h3, rows, ⟨A, c, h6, h7, fun j row hj => ?_⟩, VRowsS.chg hc hs rows args h5⟩
    obtain ⟨b, o, h9, h10, h11⟩ := h8 j row hj
    exact ⟨b, o, h9, (hs b h10).1, hc.cellsAt h11 (hs b h10).2⟩
theorem VRowsS.chg {w w' : World} {S S' T : Nat → Prop} (hc : Chg T w w') (hs : ∀ k, S k → S' k ∧ ¬ T k) : ∀ (rows : List (List Value)) (xs : List Val), VRowsS w S rows xs → VRowsS w' S' rows xs
  | [], [], _ => by simp only [VRowsS]
  | r :: rs, x :: xs, h => by
    simp only [VRowsS] at h ⊢
    exact ⟨VRowS.chg hc hs r x h.1, VRowsS.chg hc hs rs xs h.2⟩
  | [], _ :: _, h => by simp [VRowsS] at h
  | _ :: _, [], h => by simp [VRowsS] at h
end
theorem VRowsS.snoc {w : World} {S : Nat → Prop} {r : List Value} {x : Val} : ∀ (rows : List (List Value)) (xs : List Val), VRowsS w S rows xs → VRowS w S r x → VRowsS w S (rows ++ [r]) (xs ++ [x])
  | [], [], _, h => by simp only [List.nil_append, VRowsS]; exact ⟨h, trivial⟩
  | r' :: rs, x' :: xs, h, h' => by
    simp only [List.cons_append, VRowsS] at h ⊢
    exact ⟨h.1, VRowsS.snoc rs xs h.2 h'⟩
  | [], _ :: _, h, _ => by simp [VRowsS] at h
  | _ :: _, [], h, _ => by simp [VRowsS] at h
theorem VRowsS.length {w : World} {S : Nat → Prop} {rows : List (List Value)} {xs : List Val} (h : VRowsS w S rows xs) : rows.length = xs.length := (VRowsS.rows rows xs h).length
theorem VRowsS.len4 {w : World} {S : Nat → Prop} : ∀ (rows : List (List Value)) (xs : List Val), VRowsS w S rows xs → ∀ r ∈ rows, r.length = 4
  | [], [], _ => by simp
  | r' :: rs, x' :: xs, h => by
    simp only [VRowsS] at h
    intro r hr
    rcases List.mem_cons.1 hr with rfl | hr
    · exact (VRowS.row _ _ h.1).len
    · exact VRowsS.len4 rs xs h.2 r hr
  | [], _ :: _, h => by simp [VRowsS] at h
  | _ :: _, [], h => by simp [VRowsS] at h
mutual
/-- What reads leads below the world's size. -/
theorem VRow.toS {w : World} : ∀ (row : List Value) (x : Val), VRow w row x → VRowS w (fun k => k < w.heap.size) row x
  | row, .mk k n t args, h => by
    simp only [VRow] at h
    simp only [VRowS]
    obtain ⟨v, h1, h2, h3, rows, ⟨A, c, h6, h7, h8⟩, h5⟩ := h
    refine ⟨v, h1, h2, h3, rows, ⟨A, c, h6, h7, fun j row hj => ?_⟩, VRows.toS rows args h5⟩
    obtain ⟨b, o, h9, h10⟩ := h8 j row hj
    refine ⟨b, o, h9, ?_, h10⟩
    have hjl : j < args.length := by have := (List.getElem?_eq_some_iff.1 hj).1; rw [← VRows.length h5]; exact this
    obtain ⟨r, hr, hv⟩ := VRows.get h5 j _ (List.getElem?_eq_getElem hjl)
    rw [hj] at hr; cases hr
    have hl := hv.len
    have hc := h10 0 (row[0]'(by omega)) (List.getElem?_eq_getElem _)
    have := World.block_lt_of_cell? w _ hc
    simpa [add_at] using this
theorem VRows.toS {w : World} : ∀ (rows : List (List Value)) (xs : List Val), VRows w rows xs → VRowsS w (fun k => k < w.heap.size) rows xs
  | [], [], _ => by simp only [VRowsS]
  | r :: rs, x :: xs, h => by
    simp only [VRows] at h
    simp only [VRowsS]
    exact ⟨VRow.toS r x h.1, VRows.toS rs xs h.2⟩
  | [], _ :: _, h => by simp [VRows] at h
  | _ :: _, [], h => by simp [VRows] at h
end
theorem VRowsS.get {w : World} {S : Nat → Prop} : ∀ {rows : List (List Value)} {xs : List Val}, VRowsS w S rows xs → ∀ (i : Nat) (x : Val), xs[i]? = some x → ∃ r, rows[i]? = some r ∧ VRowS w S r x
  | [], [], _, i, x, hx => by simp at hx
  | r :: rs, y :: xs, h, i, x, hx => by
    simp only [VRowsS] at h
    cases i with
    | zero => simp at hx; subst hx; exact ⟨r, rfl, h.1⟩
    | succ i => exact VRowsS.get h.2 i x (by simpa using hx)
  | [], _ :: _, h, _, _, _ => by simp [VRowsS] at h
  | _ :: _, [], h, _, _, _ => by simp [VRowsS] at h
theorem VRowS.ext {w w' : World} {S : Nat → Prop} {row : List Value} {x : Val} (h : VRowS w S row x) (he : Ext w w') : VRowS w' S row x := VRowS.chg (he.chg (fun _ => False)) (fun k hk => ⟨hk, id⟩) row x h
theorem Glob.chg {w w' : World} {mk : Nat} {T : Nat → Prop} (h : Glob w mk) (hc : Chg T w w') (h0 : ¬ T 0) (h1 : ¬ T 1) (hm : ¬ T mk) : Glob w' mk := ⟨hc.cell h.kc h1, h.km.chg hc hm, hc.cellsAt h.rk h0⟩
theorem Glob.lt {w : World} {mk : Nat} (h : Glob w mk) : 0 < w.heap.size ∧ 1 < w.heap.size ∧ mk < w.heap.size :=
  ⟨by have := World.block_lt_of_cell? w _ (h.rk 0 _ rfl); simpa [add_at] using this, World.block_lt_of_cell? w _ h.kc, h.km.lt⟩
end Go.Proofs.Vg
namespace Go.Proofs.YtldeokfhipjbfaaGreatDoor
open Go Go.Proofs.Vg Go.RowKit

-- -- function 52
set_option maxHeartbeats 2000000 in
set_option maxRecDepth 8000 in
theorem known_ok : ∀ (m : Nat) (x : Val) (w : World) (r : List Value) (mk : Nat), SizeOf.sizeOf x ≤ m → VRow w r x → Glob w mk → Rets Tryz.prog 52 [.agg r.toArray] w (fun v w' => v = .int .i64 (if knownV x then 0 else 3) ∧ Ext w w') := by
  intro m
  induction m with
  | zero => intro x w r mk hm; cases x; simp at hm
  | succ m ih =>
    rintro ⟨k, n, t, a⟩ w r mk hm hr hg
    simp only [VRow] at hr
    obtain ⟨v, rfl, hv1, hv2, rows, hsl, hrows⟩ := hr
    obtain ⟨A, cp, rfl, hlen, hcell⟩ := hsl
    have hl := hrows.length
    refine rets_of_ok Tryz.func52 rfl rfl ?_
    refine ok_seq (fun M hM => ok_region rfl ?_)
    repeat ((try subst X); (first | (first | apply zL | apply zH | apply zE); intro X hX | apply zl | apply zh | apply ze); try simp only [zU, reduceIte, Nat.reduceEqDiff, Nat.reduceAdd, reduceCtorEq, Q52])
    refine Runs.box (fun w1 he1 hz1 hb1 => ?_)
    generalize hB1 : w.heap.size = B1 at hz1 hb1
    simp only [Value.cells] at hb1
    repeat ((try subst X); (first | (first | apply zL | apply zH | apply zE); intro X hX | apply zl | apply zh | apply ze); try simp only [zU, reduceIte, Nat.reduceEqDiff, Nat.reduceAdd, reduceCtorEq, Q52])
    refine hM _ _ _ ?_; clear hM M
    rw [hl] at hb1
    refine ok_join [(1, ptrOf B1)] (fun w' => Ext w w' ∧ Ext w1 w' ∧ 1 ≤ k ∧ k ≤ 8) ?_ ?_
    · refine ok_seq (fun M hM => ok_region rfl ?_)
      repeat ((try subst X); (first | (first | apply zL | apply zH | apply zE); intro X hX | apply zl | apply zh | apply ze); try simp only [zU, reduceIte, Nat.reduceEqDiff, Nat.reduceAdd, reduceCtorEq, Q52])
      refine ⟨_, (hg.ext he1).kc, ?_⟩
      repeat ((try subst X); (first | (first | apply zL | apply zH | apply zE); intro X hX | apply zl | apply zh | apply ze); try simp only [zU, reduceIte, Nat.reduceEqDiff, Nat.reduceAdd, reduceCtorEq, Q52])
      refine ⟨_, hb1.cell (j := 0) rfl, ?_⟩
      repeat ((try subst X); (first | (first | apply zL | apply zH | apply zE); intro X hX | apply zl | apply zh | apply ze); try simp only [zU, reduceIte, Nat.reduceEqDiff, Nat.reduceAdd, reduceCtorEq, Q52])
      refine Runs.lookupI Fx.un137 Fx.un3 Fx.zi3 (hg.ext he1).km k ?_
      repeat ((try subst X); (first | (first | apply zL | apply zH | apply zE); intro X hX | apply zl | apply zh | apply ze); try simp only [zU, reduceIte, Nat.reduceEqDiff, Nat.reduceAdd, reduceCtorEq, Q52])
      refine hM _ _ _ ?_; clear hM M
      refine ok_seq (fun M hM => ok_region rfl ?_)
      repeat ((try subst X); (first | (first | apply zL | apply zH | apply zE); intro X hX | apply zl | apply zh | apply ze); try simp only [zU, reduceIte, Nat.reduceEqDiff, Nat.reduceAdd, reduceCtorEq, Q52])
      by_cases hk : 1 ≤ k ∧ k ≤ 8
      · have : kindF k = some (.int .i64 k) := by unfold kindF; rw [if_pos hk]
        simp only [this, Option.isSome_some]
        repeat ((try subst X); (first | (first | apply zL | apply zH | apply zE); intro X hX | apply zl | apply zh | apply ze); try simp only [zU, reduceIte, Nat.reduceEqDiff, Nat.reduceAdd, reduceCtorEq, Q52])
        refine hM _ _ _ ?_; clear hM M
        refine ok_cond rfl (fun h => by cases h) (fun h => ok_skip ?_)
        try simp only [zW, zU, reduceIte, Nat.reduceEqDiff, Nat.reduceAdd, reduceCtorEq, Q52]
        exact ⟨by simp [sub, Env.get], he1, Ext.refl _, hk.1, hk.2⟩
      · have : kindF k = none := by unfold kindF; rw [if_neg hk]
        simp only [this, Option.isSome_none]
        repeat ((try subst X); (first | (first | apply zL | apply zH | apply zE); intro X hX | apply zl | apply zh | apply ze); try simp only [zU, reduceIte, Nat.reduceEqDiff, Nat.reduceAdd, reduceCtorEq, Q52])
        refine hM _ _ _ ?_; clear hM M
        refine ok_cond rfl (fun _ => ?_) (fun h => by cases h)
        refine ok_seq (fun M hM => ok_region rfl ?_); repeat ((try subst X); (first | (first | apply zL | apply zH | apply zE); intro X hX | apply zl | apply zh | apply ze); try simp only [zU, reduceIte, Nat.reduceEqDiff, Nat.reduceAdd, reduceCtorEq, Q52])
        refine hM _ _ _ ?_; clear hM M
        refine ok_ret ?_
        try simp only [zW, zU, reduceIte, Nat.reduceEqDiff, Nat.reduceAdd, reduceCtorEq, Q52]
        refine ⟨?_, he1⟩
        simp [knownV, hk]
    rintro w2 ⟨he2, he12, hk1, hk2⟩
    have hb2 := hb1.ext he12
    refine ok_seq (fun M0 hM0 => ?_)
    refine ok_seq (fun M hM => ok_region rfl ?_)
    repeat ((try subst X); (first | (first | apply zL | apply zH | apply zE); intro X hX | apply zl | apply zh | apply ze); try simp only [zU, reduceIte, Nat.reduceEqDiff, Nat.reduceAdd, reduceCtorEq, Q52])
    refine ⟨_, hb2.cell (j := 3) rfl, ?_⟩
    repeat ((try subst X); (first | (first | apply zL | apply zH | apply zE); intro X hX | apply zl | apply zh | apply ze); try simp only [zU, reduceIte, Nat.reduceEqDiff, Nat.reduceAdd, reduceCtorEq, Q52])
    refine hM _ _ _ ?_; clear hM M
    refine ok_block ?_
    refine ok_loop (S := Nat) (fun i => [(1, ptrOf B1), (18, .slice A a.length cp), (19, .int .i64 (a.length : Int)), (20, .int .i64 (i : Int))]) (fun i w' => Ext w2 w' ∧ i ≤ a.length ∧ ∀ (j : Nat) (x : Val), j < i → a[j]? = some x → knownV x = true) (fun i => a.length - i) 0 ?_ ?_ ?_
    · simp [sub, Env.get]
    · exact ⟨Ext.refl _, Nat.zero_le _, fun j x h => absurd h (Nat.not_lt_zero _)⟩
    rintro i w4 ⟨he4, hi, hall⟩
    refine ok_seq (fun M hM => ok_region rfl ?_); repeat ((try subst X); (first | (first | apply zL | apply zH | apply zE); intro X hX | apply zl | apply zh | apply ze); try simp only [zU, reduceIte, Nat.reduceEqDiff, Nat.reduceAdd, reduceCtorEq, Q52])
    refine hM _ _ _ ?_; clear hM M
    refine ok_seq (fun M1 hM1 => ?_)
    refine ok_if rfl (fun hc => ok_skip ?_) (fun hc => ok_exit ?_)
    rotate_left
    · try simp only [zW, zU, reduceIte, Nat.reduceEqDiff, Nat.reduceAdd, reduceCtorEq, Q52]
      refine hM0 _ _ _ ?_; clear hM0 M0 hM1 M1
      refine ok_seq (fun M hM => ok_region rfl ?_); repeat ((try subst X); (first | (first | apply zL | apply zH | apply zE); intro X hX | apply zl | apply zh | apply ze); try simp only [zU, reduceIte, Nat.reduceEqDiff, Nat.reduceAdd, reduceCtorEq, Q52])
      refine hM _ _ _ ?_; clear hM M
      refine ok_ret ?_
      try simp only [zW, zU, reduceIte, Nat.reduceEqDiff, Nat.reduceAdd, reduceCtorEq, Q52]
      refine ⟨?_, he2.trans he4⟩
      have : knownVs a = true := (knownVs_iff a).2 fun j x hx => hall j x (by have := (List.getElem?_eq_some_iff.1 hx).1; omega) hx
      simp [knownV, this, hk1, hk2]
    · try simp only [zW, zU, reduceIte, Nat.reduceEqDiff, Nat.reduceAdd, reduceCtorEq, Q52]
      refine hM1 _ _ _ ?_; clear hM1 M1
      have hil : i < a.length := by omega
      have hxi : a[i]? = some a[i] := List.getElem?_eq_getElem hil
      obtain ⟨rr, hrr, hvr⟩ := hrows.get i _ hxi
      obtain ⟨b, o, rfl, hcr⟩ := hcell i rr hrr
      have hr4 := hvr.len
      have hsz : SizeOf.sizeOf a[i] ≤ m := by
        have := List.sizeOf_lt_of_mem (List.getElem_mem hil)
        simp at hm
        omega
      refine ok_seq (fun M1 hM1 => ok_block ?_)
      refine ok_seq (fun M hM => ok_region rfl ?_)
      repeat ((try subst X); (first | (first | apply zL | apply zH | apply zE); intro X hX | apply zl | apply zh | apply ze); try simp only [zU, reduceIte, Nat.reduceEqDiff, Nat.reduceAdd, reduceCtorEq, Q52])
      refine ⟨by omega, by omega, ?_⟩
      repeat ((try subst X); (first | (first | apply zL | apply zH | apply zE); intro X hX | apply zl | apply zh | apply ze); try simp only [zU, reduceIte, Nat.reduceEqDiff, Nat.reduceAdd, reduceCtorEq, Q52])
      refine ⟨rr, hr4, he4.cellsAt (he2.cellsAt hcr), ?_⟩
      repeat ((try subst X); (first | (first | apply zL | apply zH | apply zE); intro X hX | apply zl | apply zh | apply ze); try simp only [zU, reduceIte, Nat.reduceEqDiff, Nat.reduceAdd, reduceCtorEq, Q52])
      refine Runs.alloc Fx.zi36 (fun w5 he5 hs5 hb5 => ?_)
      generalize hB5 : w4.heap.size = B5 at hs5 hb5
      repeat ((try subst X); (first | (first | apply zL | apply zH | apply zE); intro X hX | apply zl | apply zh | apply ze); try simp only [zU, reduceIte, Nat.reduceEqDiff, Nat.reduceAdd, reduceCtorEq, Q52])
      refine Runs.store hb5 Fx.zi36 (by simpa [Value.cells] using hr4) (by simpa [Value.cells] using hvr.one) (by simp [Value.cells]) (fun w6 hc6 hs6 hb6 => ?_)
      rw [splice_all _ _ (by simp [Value.cells, hr4])] at hb6
      simp only [Value.cells] at hb6
      have he6 : Ext w4 w6 := he5.chg_trans hc6 (fun i hi => by omega)
      have hw6 := (he2.trans he4).trans he6
      repeat ((try subst X); (first | (first | apply zL | apply zH | apply zE); intro X hX | apply zl | apply zh | apply ze); try simp only [zU, reduceIte, Nat.reduceEqDiff, Nat.reduceAdd, reduceCtorEq, Q52])
      refine hM _ _ _ ?_; clear hM M
      refine ok_seq (fun M hM => ok_region rfl ?_)
      repeat ((try subst X); (first | (first | apply zL | apply zH | apply zE); intro X hX | apply zl | apply zh | apply ze); try simp only [zU, reduceIte, Nat.reduceEqDiff, Nat.reduceAdd, reduceCtorEq, Q52])
      refine ⟨rr, hr4, hb6.cells (o := 0) (fun j u hj => by simpa using hj), ?_⟩
      repeat ((try subst X); (first | (first | apply zL | apply zH | apply zE); intro X hX | apply zl | apply zh | apply ze); try simp only [zU, reduceIte, Nat.reduceEqDiff, Nat.reduceAdd, reduceCtorEq, Q52])
      refine Inv.call Fx.en52 (ih a[i] w6 rr mk hsz (VRow.ext hw6 _ _ hvr) (hg.ext hw6)) ?_
      rintro v w7 ⟨rfl, he7⟩
      repeat ((try subst X); (first | (first | apply zL | apply zH | apply zE); intro X hX | apply zl | apply zh | apply ze); try simp only [zU, reduceIte, Nat.reduceEqDiff, Nat.reduceAdd, reduceCtorEq, Q52])
      refine hM _ _ _ ?_; clear hM M
      refine ok_seq (fun M hM => ok_region rfl ?_); repeat ((try subst X); (first | (first | apply zL | apply zH | apply zE); intro X hX | apply zl | apply zh | apply ze); try simp only [zU, reduceIte, Nat.reduceEqDiff, Nat.reduceAdd, reduceCtorEq, Q52])
      refine hM _ _ _ ?_; clear hM M
      cases hkn : knownV a[i] with
      | false =>
        refine ok_cond (b := true) rfl (fun _ => ?_) (fun h => by cases h)
        refine ok_seq (fun M hM => ok_region rfl ?_); repeat ((try subst X); (first | (first | apply zL | apply zH | apply zE); intro X hX | apply zl | apply zh | apply ze); try simp only [zU, reduceIte, Nat.reduceEqDiff, Nat.reduceAdd, reduceCtorEq, Q52])
        refine hM _ _ _ ?_; clear hM M
        refine ok_ret ?_
        try simp only [zW, zU, reduceIte, Nat.reduceEqDiff, Nat.reduceAdd, reduceCtorEq, Q52]
        refine ⟨?_, hw6.trans he7⟩
        have : knownVs a = false := by
          cases hx : knownVs a with
          | false => rfl
          | true => have := (knownVs_iff a).1 hx i _ hxi; rw [this] at hkn; cases hkn
        simp [knownV, this]
      | true =>
        refine ok_cond (b := false) rfl (fun h => by cases h) (fun _ => ok_skip ?_)
        try simp only [zW, zU, reduceIte, Nat.reduceEqDiff, Nat.reduceAdd, reduceCtorEq, Q52]
        refine hM1 _ _ _ ?_; clear hM1 M1
        refine ok_region rfl ?_
        repeat ((try subst X); (first | (first | apply zL | apply zH | apply zE); intro X hX | apply zl | apply zh | apply ze); try simp only [zU, reduceIte, Nat.reduceEqDiff, Nat.reduceAdd, reduceCtorEq, Q52])
        refine ⟨by simp only [inI]; omega, ?_⟩
        repeat ((try subst X); (first | (first | apply zL | apply zH | apply zE); intro X hX | apply zl | apply zh | apply ze); try simp only [zU, reduceIte, Nat.reduceEqDiff, Nat.reduceAdd, reduceCtorEq, Q52])
        refine ⟨i + 1, by simp [sub, Env.get], ⟨he4.trans (he6.trans he7), by omega, fun j x hj hx => ?_⟩, by omega⟩
        rcases Nat.lt_or_ge j i with h | h
        · exact hall j x h hx
        · have : j = i := by omega
          subst this
          rw [hxi] at hx
          cases hx
          exact hkn
end Go.Proofs.YtldeokfhipjbfaaGreatDoor
/- formed: the shape of a value that can be stored. -/
set_option linter.unusedVariables false
set_option linter.unusedSimpArgs false
namespace Go.Proofs.YtldeokfhipjbfaaGreatDoor
open Go Go.Proofs.Vg Go.RowKit

-- -- function 90
set_option maxHeartbeats 2000000 in
set_option maxRecDepth 8000 in
theorem formed1_ok (w : World) (r : List Value) (x : Val) (hr : VRow w r x) (h : ∀ w', Ext w w' → Rets Tryz.prog 53 [.agg r.toArray] w' (fun v w'' => v = .bool (formedV x) ∧ Ext w' w'')) : Rets Tryz.prog 90 [.agg r.toArray] w (fun v w' => v = .bool (!formedV x) ∧ Ext w w') := by
  refine rets_of_ok Tryz.func90 rfl rfl ?_
  refine ok_seq (fun M hM => ok_region rfl ?_)
  repeat ((try subst X); (first | (first | apply zL | apply zH | apply zE); intro X hX | apply zl | apply zh | apply ze); try simp only [zU, reduceIte, Nat.reduceEqDiff, Nat.reduceAdd, reduceCtorEq, Q90])
  refine Runs.box (fun w1 he1 hz1 hb1 => ?_)
  generalize hB1 : w.heap.size = B1 at hz1 hb1
  simp only [Value.cells] at hb1
  repeat ((try subst X); (first | (first | apply zL | apply zH | apply zE); intro X hX | apply zl | apply zh | apply ze); try simp only [zU, reduceIte, Nat.reduceEqDiff, Nat.reduceAdd, reduceCtorEq, Q90])
  refine hM _ _ _ ?_; clear hM M
  refine ok_seq (fun M hM => ok_region rfl ?_)
  repeat ((try subst X); (first | (first | apply zL | apply zH | apply zE); intro X hX | apply zl | apply zh | apply ze); try simp only [zU, reduceIte, Nat.reduceEqDiff, Nat.reduceAdd, reduceCtorEq, Q90])
  refine ⟨r, hr.len, hb1.cells (o := 0) (fun j u hj => by simpa using hj), ?_⟩
  repeat ((try subst X); (first | (first | apply zL | apply zH | apply zE); intro X hX | apply zl | apply zh | apply ze); try simp only [zU, reduceIte, Nat.reduceEqDiff, Nat.reduceAdd, reduceCtorEq, Q90])
  refine Inv.call Fx.en53 (h w1 he1) ?_
  rintro v w7 ⟨rfl, he7⟩
  repeat ((try subst X); (first | (first | apply zL | apply zH | apply zE); intro X hX | apply zl | apply zh | apply ze); try simp only [zU, reduceIte, Nat.reduceEqDiff, Nat.reduceAdd, reduceCtorEq, Q90])
  refine hM _ _ _ ?_; clear hM M
  refine ok_ret ?_
  try simp only [zW, zU, reduceIte, Nat.reduceEqDiff, Nat.reduceAdd, reduceCtorEq, Q90]
  exact he1.trans he7

-- -- function 53
set_option maxHeartbeats 2000000 in
set_option maxRecDepth 8000 in
theorem formed_ok : ∀ (m : Nat) (x : Val) (w : World) (r : List Value), SizeOf.sizeOf x ≤ m → VRow w r x → Rets Tryz.prog 53 [.agg r.toArray] w (fun v w' => v = .bool (formedV x) ∧ Ext w w') := by
  intro m
  induction m with
  | zero => intro x w r hm; cases x; simp at hm
  | succ m ih =>
    rintro ⟨k, n, t, a⟩ w r hm hr
    simp only [VRow] at hr
    obtain ⟨v, rfl, hv1, hv2, rows, hsl, hrows⟩ := hr
    obtain ⟨A, cp, rfl, hlen, hcell⟩ := hsl
    have hl := hrows.length
    refine rets_of_ok Tryz.func53 rfl rfl ?_
    refine ok_seq (fun M hM => ok_region rfl ?_)
    repeat ((try subst X); (first | (first | apply zL | apply zH | apply zE); intro X hX | apply zl | apply zh | apply ze); try simp only [zU, reduceIte, Nat.reduceEqDiff, Nat.reduceAdd, reduceCtorEq, Q53])
    refine Runs.box (fun w1 he1 hz1 hb1 => ?_)
    generalize hB1 : w.heap.size = B1 at hz1 hb1
    simp only [Value.cells] at hb1
    repeat ((try subst X); (first | (first | apply zL | apply zH | apply zE); intro X hX | apply zl | apply zh | apply ze); try simp only [zU, reduceIte, Nat.reduceEqDiff, Nat.reduceAdd, reduceCtorEq, Q53])
    refine hM _ _ _ ?_; clear hM M
    rw [hl] at hb1
    refine ok_seq (fun M hM => ok_region rfl ?_)
    repeat ((try subst X); (first | (first | apply zL | apply zH | apply zE); intro X hX | apply zl | apply zh | apply ze); try simp only [zU, reduceIte, Nat.reduceEqDiff, Nat.reduceAdd, reduceCtorEq, Q53])
    refine ⟨_, hb1.cell (j := 2) rfl, ?_⟩
    repeat ((try subst X); (first | (first | apply zL | apply zH | apply zE); intro X hX | apply zl | apply zh | apply ze); try simp only [zU, reduceIte, Nat.reduceEqDiff, Nat.reduceAdd, reduceCtorEq, Q53])
    refine hM _ _ _ ?_; clear hM M
    refine ok_join [(1, ptrOf B1), (3, .bool (wellV k n t a.length))] (fun w' => w' = w1) ?_ ?_
    · refine ok_seq (fun M hM => ok_region rfl ?_)
      repeat ((try subst X); (first | (first | apply zL | apply zH | apply zE); intro X hX | apply zl | apply zh | apply ze); try simp only [zU, reduceIte, Nat.reduceEqDiff, Nat.reduceAdd, reduceCtorEq, Q53])
      refine ⟨_, hb1.cell (j := 0) rfl, ?_⟩
      repeat ((try subst X); (first | (first | apply zL | apply zH | apply zE); intro X hX | apply zl | apply zh | apply ze); try simp only [zU, reduceIte, Nat.reduceEqDiff, Nat.reduceAdd, reduceCtorEq, Q53])
      refine hM _ _ _ ?_; clear hM M
      refine ok_block ?_
      refine ok_join [(1, ptrOf B1), (3, .bool (decide (t = ⟨#[]⟩))), (8, .int .i64 k), (15, .bool (decide (k = 1 ∨ k = 2)))] (fun w' => w' = w1) ?_ ?_
      · refine ok_seq (fun M hM => ok_region rfl ?_); repeat ((try subst X); (first | (first | apply zL | apply zH | apply zE); intro X hX | apply zl | apply zh | apply ze); try simp only [zU, reduceIte, Nat.reduceEqDiff, Nat.reduceAdd, reduceCtorEq, Q53])
        refine hM _ _ _ ?_; clear hM M
        refine ok_if rfl (fun hk => ok_skip ?_) (fun hk => ?_)
        · try simp only [zW, zU, reduceIte, Nat.reduceEqDiff, Nat.reduceAdd, reduceCtorEq, Q53]
          simp [sub, Env.get, hk]
        · refine ok_region rfl ?_
          repeat ((try subst X); (first | (first | apply zL | apply zH | apply zE); intro X hX | apply zl | apply zh | apply ze); try simp only [zU, reduceIte, Nat.reduceEqDiff, Nat.reduceAdd, reduceCtorEq, Q53])
          simp [sub, Env.get, hk]
      rintro w2 rfl
      refine ok_if rfl (fun hk => ?_) (fun hk => ?_)
      · refine ok_region rfl ?_
        repeat ((try subst X); (first | (first | apply zL | apply zH | apply zE); intro X hX | apply zl | apply zh | apply ze); try simp only [zU, reduceIte, Nat.reduceEqDiff, Nat.reduceAdd, reduceCtorEq, Q53])
        refine ⟨fun h => ?_, fun h => ?_⟩
        · have ht : t = ⟨#[]⟩ := by simpa using h
          repeat ((try subst X); (first | (first | apply zL | apply zH | apply zE); intro X hX | apply zl | apply zh | apply ze); try simp only [zU, reduceIte, Nat.reduceEqDiff, Nat.reduceAdd, reduceCtorEq, Q53])
          refine ⟨_, hb1.cell (j := 3) rfl, ?_⟩
          repeat ((try subst X); (first | (first | apply zL | apply zH | apply zE); intro X hX | apply zl | apply zh | apply ze); try simp only [zU, reduceIte, Nat.reduceEqDiff, Nat.reduceAdd, reduceCtorEq, Q53])
          simp [sub, Env.get, wellV, hk, ht]
        · have ht : ¬ t = ⟨#[]⟩ := by simpa using h
          repeat ((try subst X); (first | (first | apply zL | apply zH | apply zE); intro X hX | apply zl | apply zh | apply ze); try simp only [zU, reduceIte, Nat.reduceEqDiff, Nat.reduceAdd, reduceCtorEq, Q53])
          simp [sub, Env.get, wellV, hk, ht]
      · refine ok_seq (fun M hM => ok_region rfl ?_); repeat ((try subst X); (first | (first | apply zL | apply zH | apply zE); intro X hX | apply zl | apply zh | apply ze); try simp only [zU, reduceIte, Nat.reduceEqDiff, Nat.reduceAdd, reduceCtorEq, Q53])
        refine hM _ _ _ ?_; clear hM M
        refine ok_if rfl (fun hk3 => ?_) (fun hk3 => ?_)
        · refine ok_region rfl ?_
          repeat ((try subst X); (first | (first | apply zL | apply zH | apply zE); intro X hX | apply zl | apply zh | apply ze); try simp only [zU, reduceIte, Nat.reduceEqDiff, Nat.reduceAdd, reduceCtorEq, Q53])
          refine ⟨_, hb1.cell (j := 1) rfl, ?_⟩
          repeat ((try subst X); (first | (first | apply zL | apply zH | apply zE); intro X hX | apply zl | apply zh | apply ze); try simp only [zU, reduceIte, Nat.reduceEqDiff, Nat.reduceAdd, reduceCtorEq, Q53])
          refine ⟨fun h => ?_, fun h => ?_⟩
          · have ht : n = 0 := by simpa using h
            repeat ((try subst X); (first | (first | apply zL | apply zH | apply zE); intro X hX | apply zl | apply zh | apply ze); try simp only [zU, reduceIte, Nat.reduceEqDiff, Nat.reduceAdd, reduceCtorEq, Q53])
            refine ⟨_, hb1.cell (j := 3) rfl, ?_⟩
            repeat ((try subst X); (first | (first | apply zL | apply zH | apply zE); intro X hX | apply zl | apply zh | apply ze); try simp only [zU, reduceIte, Nat.reduceEqDiff, Nat.reduceAdd, reduceCtorEq, Q53])
            simp [sub, Env.get, wellV, hk, hk3, ht]
          · have ht : ¬ n = 0 := by simpa using h
            repeat ((try subst X); (first | (first | apply zL | apply zH | apply zE); intro X hX | apply zl | apply zh | apply ze); try simp only [zU, reduceIte, Nat.reduceEqDiff, Nat.reduceAdd, reduceCtorEq, Q53])
            simp [sub, Env.get, wellV, hk, hk3, ht]
        · refine ok_seq (fun M hM => ok_region rfl ?_); repeat ((try subst X); (first | (first | apply zL | apply zH | apply zE); intro X hX | apply zl | apply zh | apply ze); try simp only [zU, reduceIte, Nat.reduceEqDiff, Nat.reduceAdd, reduceCtorEq, Q53])
          refine hM _ _ _ ?_; clear hM M
          refine ok_if rfl (fun hk8 => ?_) (fun hk8 => ?_)
          · refine ok_region rfl ?_
            repeat ((try subst X); (first | (first | apply zL | apply zH | apply zE); intro X hX | apply zl | apply zh | apply ze); try simp only [zU, reduceIte, Nat.reduceEqDiff, Nat.reduceAdd, reduceCtorEq, Q53])
            refine ⟨fun h => ?_, fun h => ?_⟩
            · have ht : t = ⟨#[]⟩ := by simpa using h
              repeat ((try subst X); (first | (first | apply zL | apply zH | apply zE); intro X hX | apply zl | apply zh | apply ze); try simp only [zU, reduceIte, Nat.reduceEqDiff, Nat.reduceAdd, reduceCtorEq, Q53])
              refine ⟨_, hb1.cell (j := 1) rfl, ?_⟩
              repeat ((try subst X); (first | (first | apply zL | apply zH | apply zE); intro X hX | apply zl | apply zh | apply ze); try simp only [zU, reduceIte, Nat.reduceEqDiff, Nat.reduceAdd, reduceCtorEq, Q53])
              refine ⟨fun h => ?_, fun h => ?_⟩
              · have hn : 0 ≤ n := by simpa using h
                repeat ((try subst X); (first | (first | apply zL | apply zH | apply zE); intro X hX | apply zl | apply zh | apply ze); try simp only [zU, reduceIte, Nat.reduceEqDiff, Nat.reduceAdd, reduceCtorEq, Q53])
                refine ⟨_, hb1.cell (j := 3) rfl, ?_⟩
                repeat ((try subst X); (first | (first | apply zL | apply zH | apply zE); intro X hX | apply zl | apply zh | apply ze); try simp only [zU, reduceIte, Nat.reduceEqDiff, Nat.reduceAdd, reduceCtorEq, Q53])
                simp [sub, Env.get, wellV, hk, hk3, hk8, ht, hn]
              · have hn : ¬ 0 ≤ n := by simpa using h
                repeat ((try subst X); (first | (first | apply zL | apply zH | apply zE); intro X hX | apply zl | apply zh | apply ze); try simp only [zU, reduceIte, Nat.reduceEqDiff, Nat.reduceAdd, reduceCtorEq, Q53])
                simp [sub, Env.get, wellV, hk, hk3, hk8, ht, hn]
            · have ht : ¬ t = ⟨#[]⟩ := by simpa using h
              repeat ((try subst X); (first | (first | apply zL | apply zH | apply zE); intro X hX | apply zl | apply zh | apply ze); try simp only [zU, reduceIte, Nat.reduceEqDiff, Nat.reduceAdd, reduceCtorEq, Q53])
              simp [sub, Env.get, wellV, hk, hk3, hk8, ht]
          · refine ok_seq (fun M hM => ok_region rfl ?_); repeat ((try subst X); (first | (first | apply zL | apply zH | apply zE); intro X hX | apply zl | apply zh | apply ze); try simp only [zU, reduceIte, Nat.reduceEqDiff, Nat.reduceAdd, reduceCtorEq, Q53])
            refine hM _ _ _ ?_; clear hM M
            refine ok_if rfl (fun hk7 => ?_) (fun hk7 => ?_)
            · refine ok_region rfl ?_
              repeat ((try subst X); (first | (first | apply zL | apply zH | apply zE); intro X hX | apply zl | apply zh | apply ze); try simp only [zU, reduceIte, Nat.reduceEqDiff, Nat.reduceAdd, reduceCtorEq, Q53])
              refine ⟨fun h => ?_, fun h => ?_⟩
              · have ht : t = ⟨#[]⟩ := by simpa using h
                repeat ((try subst X); (first | (first | apply zL | apply zH | apply zE); intro X hX | apply zl | apply zh | apply ze); try simp only [zU, reduceIte, Nat.reduceEqDiff, Nat.reduceAdd, reduceCtorEq, Q53])
                refine ⟨_, hb1.cell (j := 1) rfl, ?_⟩
                repeat ((try subst X); (first | (first | apply zL | apply zH | apply zE); intro X hX | apply zl | apply zh | apply ze); try simp only [zU, reduceIte, Nat.reduceEqDiff, Nat.reduceAdd, reduceCtorEq, Q53])
                simp [sub, Env.get, wellV, hk, hk3, hk8, hk7, ht]
              · have ht : ¬ t = ⟨#[]⟩ := by simpa using h
                repeat ((try subst X); (first | (first | apply zL | apply zH | apply zE); intro X hX | apply zl | apply zh | apply ze); try simp only [zU, reduceIte, Nat.reduceEqDiff, Nat.reduceAdd, reduceCtorEq, Q53])
                simp [sub, Env.get, wellV, hk, hk3, hk8, hk7, ht]
            · refine ok_region rfl ?_
              repeat ((try subst X); (first | (first | apply zL | apply zH | apply zE); intro X hX | apply zl | apply zh | apply ze); try simp only [zU, reduceIte, Nat.reduceEqDiff, Nat.reduceAdd, reduceCtorEq, Q53])
              refine ⟨fun h => ?_, fun h => ?_⟩
              · have ht : t = ⟨#[]⟩ := by simpa using h
                repeat ((try subst X); (first | (first | apply zL | apply zH | apply zE); intro X hX | apply zl | apply zh | apply ze); try simp only [zU, reduceIte, Nat.reduceEqDiff, Nat.reduceAdd, reduceCtorEq, Q53])
                refine ⟨_, hb1.cell (j := 1) rfl, ?_⟩
                repeat ((try subst X); (first | (first | apply zL | apply zH | apply zE); intro X hX | apply zl | apply zh | apply ze); try simp only [zU, reduceIte, Nat.reduceEqDiff, Nat.reduceAdd, reduceCtorEq, Q53])
                simp [sub, Env.get, wellV, hk, hk3, hk8, hk7, ht]
              · have ht : ¬ t = ⟨#[]⟩ := by simpa using h
                repeat ((try subst X); (first | (first | apply zL | apply zH | apply zE); intro X hX | apply zl | apply zh | apply ze); try simp only [zU, reduceIte, Nat.reduceEqDiff, Nat.reduceAdd, reduceCtorEq, Q53])
                simp [sub, Env.get, wellV, hk, hk3, hk8, hk7, ht]
    rintro w2 rfl
    refine ok_seq (fun M hM => ok_region rfl ?_)
    repeat ((try subst X); (first | (first | apply zL | apply zH | apply zE); intro X hX | apply zl | apply zh | apply ze); try simp only [zU, reduceIte, Nat.reduceEqDiff, Nat.reduceAdd, reduceCtorEq, Q53])
    refine ⟨fun h => ?_, fun h => ?_⟩
    · have hw : wellV k n t a.length = true := h
      repeat ((try subst X); (first | (first | apply zL | apply zH | apply zE); intro X hX | apply zl | apply zh | apply ze); try simp only [zU, reduceIte, Nat.reduceEqDiff, Nat.reduceAdd, reduceCtorEq, Q53])
      refine ⟨_, hb1.cell (j := 3) rfl, ?_⟩
      repeat ((try subst X); (first | (first | apply zL | apply zH | apply zE); intro X hX | apply zl | apply zh | apply ze); try simp only [zU, reduceIte, Nat.reduceEqDiff, Nat.reduceAdd, reduceCtorEq, Q53])
      refine Inv.call Fx.en59 (containsV_ok w2 A a.length cp _ (by omega) (fun i w' => Ext w2 w' ∧ ∀ (j : Nat) (x : Val), j < i → a[j]? = some x → formedV x = true) (fun w' => Ext w2 w' ∧ formedVs a = false) ⟨Ext.refl _, fun j x h => absurd h (Nat.not_lt_zero _)⟩ ?_) ?_
      · rintro i w' hil ⟨he', hall⟩
        have hxi : a[i]? = some a[i] := List.getElem?_eq_getElem hil
        obtain ⟨rr, hrr, hvr⟩ := hrows.get i _ hxi
        obtain ⟨b, o, rfl, hcr⟩ := hcell i rr hrr
        have hsz : SizeOf.sizeOf a[i] ≤ m := by
          have := List.sizeOf_lt_of_mem (List.getElem_mem hil)
          simp at hm
          omega
        have hvr' := VRow.ext (he1.trans he') _ _ hvr
        refine ⟨rr, hvr.len, ⟨b, o, rfl, (he1.trans he').cellsAt hcr⟩, Inv.call Fx.en90 (formed1_ok w' rr a[i] hvr' (fun w'' he'' => ih a[i] w'' rr hsz (VRow.ext he'' _ _ hvr'))) ?_⟩
        rintro v w'' ⟨rfl, he''⟩
        refine ⟨_, rfl, fun hb => ⟨he'.trans he'', ?_⟩, fun hb => ⟨he'.trans he'', fun j x hj hx => ?_⟩⟩
        · cases hx : formedVs a with
          | false => rfl
          | true => have := (formedVs_iff a).1 hx i _ hxi; rw [this] at hb; cases hb
        · rcases Nat.lt_or_ge j i with h | h
          · exact hall j x h hx
          · have : j = i := by omega
            subst this
            rw [hxi] at hx
            cases hx
            simpa using hb
      rintro v w' ⟨b, rfl, hbt, hbf⟩
      repeat ((try subst X); (first | (first | apply zL | apply zH | apply zE); intro X hX | apply zl | apply zh | apply ze); try simp only [zU, reduceIte, Nat.reduceEqDiff, Nat.reduceAdd, reduceCtorEq, Q53])
      refine hM _ _ _ ?_; clear hM M
      refine ok_ret ?_
      try simp only [zW, zU, reduceIte, Nat.reduceEqDiff, Nat.reduceAdd, reduceCtorEq, Q53]
      cases b with
      | true =>
        obtain ⟨he', hf⟩ := hbt rfl
        exact ⟨by simp [formedV, hf], he1.trans he'⟩
      | false =>
        obtain ⟨he', hall⟩ := hbf rfl
        have : formedVs a = true := (formedVs_iff a).2 fun j x hx => hall j x (List.getElem?_eq_some_iff.1 hx).1 hx
        exact ⟨by simp [formedV, hw, this], he1.trans he'⟩
    · have hw : wellV k n t a.length = false := h
      repeat ((try subst X); (first | (first | apply zL | apply zH | apply zE); intro X hX | apply zl | apply zh | apply ze); try simp only [zU, reduceIte, Nat.reduceEqDiff, Nat.reduceAdd, reduceCtorEq, Q53])
      refine hM _ _ _ ?_; clear hM M
      refine ok_ret ?_
      try simp only [zW, zU, reduceIte, Nat.reduceEqDiff, Nat.reduceAdd, reduceCtorEq, Q53]
      exact ⟨by simp [formedV, hw], he1⟩
end Go.Proofs.YtldeokfhipjbfaaGreatDoor
/- store, Store.  -/
set_option linter.unusedVariables false
set_option linter.unusedSimpArgs false
namespace Go.Proofs.YtldeokfhipjbfaaGreatDoor
open Go Go.Proofs.Vg Go.RowKit

mutual
def cntV : Val → Nat
  | .mk _ _ _ args => 1 + cntVs args
def cntVs : List Val → Nat
  | [] => 0
  | x :: xs => cntV x + cntVs xs
end
mutual
def storeV (H : List Ob) : Val → List Ob × Wd
  | .mk k n t args => if k = 1 ∨ k = 2 ∨ k = 8 then (H, ⟨k, n, 0⟩) else if k = 3 then (H ++ [.text t], ⟨3, 0, (H.length : Int) + 1⟩) else mkW (storeVs H args).1 k n (storeVs H args).2
def storeVs (H : List Ob) : List Val → List Ob × List Wd
  | [] => (H, [])
  | x :: xs => ((storeVs (storeV H x).1 xs).1, (storeV H x).2 :: (storeVs (storeV H x).1 xs).2)
end
theorem storeVs_snoc (x : Val) : ∀ (l : List Val) (H : List Ob), storeVs H (l ++ [x]) = ((storeV (storeVs H l).1 x).1, (storeVs H l).2 ++ [(storeV (storeVs H l).1 x).2])
  | [], H => by simp [storeVs]
  | y :: l, H => by simp only [List.cons_append, storeVs, storeVs_snoc x l]
theorem storeVs_length : ∀ (l : List Val) (H : List Ob), (storeVs H l).2.length = l.length
  | [], H => by simp [storeVs]
  | y :: l, H => by simp only [storeVs, List.length_cons, storeVs_length l]
theorem mkW_length (H : List Ob) (k n : Int) (l : List Wd) : (mkW H k n l).1.length ≤ H.length + 1 := by
  unfold mkW; split <;> simp
mutual
theorem storeV_length : ∀ (x : Val) (H : List Ob), (storeV H x).1.length ≤ H.length + cntV x
  | .mk k n t args, H => by
    simp only [storeV, cntV]
    split
    · simp
    split
    · simp
    have h1 := mkW_length (storeVs H args).1 k n (storeVs H args).2
    have h2 := storeVs_len args H
    omega
theorem storeVs_len : ∀ (l : List Val) (H : List Ob), (storeVs H l).1.length ≤ H.length + cntVs l
  | [], H => by simp [storeVs]
  | y :: l, H => by
    simp only [storeVs, cntVs]
    have h1 := storeV_length y H
    have h2 := storeVs_len l (storeV H y).1
    omega
end
theorem cntVs_take (l : List Val) : ∀ (i : Nat) (x : Val), l[i]? = some x → cntVs (l.take i) + cntV x ≤ cntVs l := by
  induction l with
  | nil => intro i x h; simp at h
  | cons y l ih =>
    intro i x h
    cases i with
    | zero => simp at h; subst h; simp [cntVs]
    | succ i =>
      have := ih i x (by simpa using h)
      simp only [List.take_succ_cons, cntVs]
      omega
theorem knownVs_get {l : List Val} (h : knownVs l = true) {i : Nat} {x : Val} (hx : l[i]? = some x) : knownV x = true := (knownVs_iff l).1 h i x hx
theorem cntVs_len (l : List Val) : l.length ≤ cntVs l := by
  induction l with
  | nil => simp
  | cons x xs ih => cases x; simp only [List.length_cons, cntVs, cntV]; omega

-- -- function 54
set_option maxHeartbeats 4000000 in
set_option maxRecDepth 8000 in
theorem store_ok : ∀ (m : Nat) (x : Val) (w : World) (S : Nat → Prop) (r : List Value) (mk hb rb : Nat) (H : List Ob) (F : Nat → Prop), SizeOf.sizeOf x ≤ m → VRowS w S r x → (∀ k, S k → ¬ F k ∧ k < w.heap.size) → Glob w mk → (¬ F 0 ∧ ¬ F 1 ∧ ¬ F mk) → knownV x = true →
    HeapW w hb rb H F → (∀ k, F k → k < w.heap.size) → H.length + cntV x ≤ 1048576 →
    Rets Tryz.prog 54 [ptrOf hb, .agg r.toArray] w (fun v w' => v = wv (storeV H x).2 ∧ Grown w w' hb rb (storeV H x).1 F) := by
  intro m
  induction m with
  | zero => intro x w S r mk hb rb H F hm; cases x; simp at hm
  | succ m ih =>
    rintro ⟨k, n, t, a⟩ w S r mk hb rb H F hm hr hS hg hgF hkn hH hF hlen0
    have hglt := hg.lt
    simp only [VRowS] at hr
    obtain ⟨v, rfl, hv1, hv2, rows, hsl, hrows⟩ := hr
    obtain ⟨A, cp, rfl, hlen, hcell⟩ := hsl
    have hl := hrows.length
    simp only [knownV, Bool.and_eq_true, decide_eq_true_eq] at hkn
    obtain ⟨⟨hk1, hk2⟩, hkns⟩ := hkn
    simp only [cntV] at hlen0
    have hcl := cntVs_len a
    have hrb := hH.lt
    refine rets_of_okC Tryz.func54 rfl rfl ?_
    refine ok_seq (fun M hM => ok_region rfl ?_)
    repeat ((try subst X); (first | (first | apply zL | apply zH | apply zE); intro X hX | apply zl | apply zh | apply ze); try simp only [zU, reduceIte, Nat.reduceEqDiff, Nat.reduceAdd, reduceCtorEq, Q54])
    refine Runs.box (fun w1 he1 hz1 hb1 => ?_)
    generalize hB1 : w.heap.size = B1 at hz1 hb1
    simp only [Value.cells] at hb1
    rw [hl] at hb1
    repeat ((try subst X); (first | (first | apply zL | apply zH | apply zE); intro X hX | apply zl | apply zh | apply ze); try simp only [zU, reduceIte, Nat.reduceEqDiff, Nat.reduceAdd, reduceCtorEq, Q54])
    refine Runs.alloc Fx.zi38 (fun w2 he2 hz2 hb2 => ?_)
    generalize hB2 : w1.heap.size = B2 at hz2 hb2
    simp only [Value.cells] at hb2
    have hb12 := hb1.ext he2
    have he02' := he1.trans he2
    repeat ((try subst X); (first | (first | apply zL | apply zH | apply zE); intro X hX | apply zl | apply zh | apply ze); try simp only [zU, reduceIte, Nat.reduceEqDiff, Nat.reduceAdd, reduceCtorEq, Q54])
    refine hM _ _ _ ?_; clear hM M
    refine ok_seq (fun M hM => ok_region rfl ?_)
    repeat ((try subst X); (first | (first | apply zL | apply zH | apply zE); intro X hX | apply zl | apply zh | apply ze); try simp only [zU, reduceIte, Nat.reduceEqDiff, Nat.reduceAdd, reduceCtorEq, Q54])
    refine ⟨_, (hg.ext he02').kc, ?_⟩
    repeat ((try subst X); (first | (first | apply zL | apply zH | apply zE); intro X hX | apply zl | apply zh | apply ze); try simp only [zU, reduceIte, Nat.reduceEqDiff, Nat.reduceAdd, reduceCtorEq, Q54])
    refine ⟨_, hb12.cell (j := 0) rfl, ?_⟩
    repeat ((try subst X); (first | (first | apply zL | apply zH | apply zE); intro X hX | apply zl | apply zh | apply ze); try simp only [zU, reduceIte, Nat.reduceEqDiff, Nat.reduceAdd, reduceCtorEq, Q54])
    refine Runs.lookupI Fx.un137 Fx.un3 Fx.zi3 (hg.ext he02').km k ?_
    have hkf : kindF k = some (.int .i64 k) := by unfold kindF; rw [if_pos ⟨hk1, hk2⟩]
    rw [hkf]
    simp only [Option.getD_some]
    repeat ((try subst X); (first | (first | apply zL | apply zH | apply zE); intro X hX | apply zl | apply zh | apply ze); try simp only [zU, reduceIte, Nat.reduceEqDiff, Nat.reduceAdd, reduceCtorEq, Q54])
    refine hM _ _ _ ?_; clear hM M
    refine ok_join [(0, ptrOf hb), (3, ptrOf B1), (4, ptrOf B2), (5, .int .i64 k)] (fun w' => w' = w2 ∧ ¬ (k = 1 ∨ k = 2 ∨ k = 8) ∧ ¬ k = 3) ?_ ?_
    · refine ok_seq (fun M hM => ok_region rfl ?_); repeat ((try subst X); (first | (first | apply zL | apply zH | apply zE); intro X hX | apply zl | apply zh | apply ze); try simp only [zU, reduceIte, Nat.reduceEqDiff, Nat.reduceAdd, reduceCtorEq, Q54])
      refine hM _ _ _ ?_; clear hM M
      refine ok_block ?_
      refine ok_join [(0, ptrOf hb), (3, ptrOf B1), (4, ptrOf B2), (5, .int .i64 k), (13, .int .i64 k), (14, .bool (decide (k = 1 ∨ k = 2 ∨ k = 8)))] (fun w' => w' = w2) ?_ ?_
      · refine ok_seq (fun M hM => ok_region rfl ?_); repeat ((try subst X); (first | (first | apply zL | apply zH | apply zE); intro X hX | apply zl | apply zh | apply ze); try simp only [zU, reduceIte, Nat.reduceEqDiff, Nat.reduceAdd, reduceCtorEq, Q54])
        refine hM _ _ _ ?_; clear hM M
        refine ok_if rfl (fun hk => ok_skip ?_) (fun hk => ?_)
        · try simp only [zW, zU, reduceIte, Nat.reduceEqDiff, Nat.reduceAdd, reduceCtorEq, Q54]
          simp [sub, Env.get, hk]
        · refine ok_seq (fun M hM => ok_region rfl ?_); repeat ((try subst X); (first | (first | apply zL | apply zH | apply zE); intro X hX | apply zl | apply zh | apply ze); try simp only [zU, reduceIte, Nat.reduceEqDiff, Nat.reduceAdd, reduceCtorEq, Q54])
          refine hM _ _ _ ?_; clear hM M
          refine ok_if rfl (fun hk' => ok_skip ?_) (fun hk' => ?_)
          · try simp only [zW, zU, reduceIte, Nat.reduceEqDiff, Nat.reduceAdd, reduceCtorEq, Q54]
            simp [sub, Env.get, hk, hk']
          · refine ok_region rfl ?_
            repeat ((try subst X); (first | (first | apply zL | apply zH | apply zE); intro X hX | apply zl | apply zh | apply ze); try simp only [zU, reduceIte, Nat.reduceEqDiff, Nat.reduceAdd, reduceCtorEq, Q54])
            simp [sub, Env.get, hk, hk']
      rintro w' rfl
      refine ok_if rfl (fun hk => ?_) (fun hk => ?_)
      · refine ok_seq (fun M hM => ok_region rfl ?_)
        repeat ((try subst X); (first | (first | apply zL | apply zH | apply zE); intro X hX | apply zl | apply zh | apply ze); try simp only [zU, reduceIte, Nat.reduceEqDiff, Nat.reduceAdd, reduceCtorEq, Q54])
        refine ⟨_, hb12.cell (j := 1) rfl, ?_⟩
        repeat ((try subst X); (first | (first | apply zL | apply zH | apply zE); intro X hX | apply zl | apply zh | apply ze); try simp only [zU, reduceIte, Nat.reduceEqDiff, Nat.reduceAdd, reduceCtorEq, Q54])
        refine ⟨_, w', run_build (P := Tryz.prog) w' 38 _ #[.int .i64 k, .int .i64 n, .int .i64 0] (by kernel_rfl), ?_⟩
        repeat ((try subst X); (first | (first | apply zL | apply zH | apply zE); intro X hX | apply zl | apply zh | apply ze); try simp only [zU, reduceIte, Nat.reduceEqDiff, Nat.reduceAdd, reduceCtorEq, Q54])
        refine Runs.store hb2 Fx.zi38 rfl (by intro u hu; simp [Value.cells] at hu; rcases hu with rfl | rfl | rfl <;> rfl) (by simp) (fun w5 hc5 hs5 hb5 => ?_)
        rw [splice_all _ _ (by simp [Value.cells])] at hb5
        simp only [Value.cells] at hb5
        repeat ((try subst X); (first | (first | apply zL | apply zH | apply zE); intro X hX | apply zl | apply zh | apply ze); try simp only [zU, reduceIte, Nat.reduceEqDiff, Nat.reduceAdd, reduceCtorEq, Q54])
        refine hM _ _ _ ?_; clear hM M
        refine ok_ret ?_
        try simp only [zW, zU, reduceIte, Nat.reduceEqDiff, Nat.reduceAdd, reduceCtorEq, Q54]
        have hst : storeV H (.mk k n t a) = (H, ⟨k, n, 0⟩) := by simp only [storeV]; rw [if_pos hk]
        rw [hst]
        refine ⟨_, rfl, hb5.cells (o := 0) (row := [.int .i64 k, .int .i64 n, .int .i64 0]) (fun j u hj => by simpa using hj), rfl, ?_⟩
        exact Grown.ext hH (he02'.chg_trans hc5 (fun i hi => by omega))
      · refine ok_seq (fun M hM => ok_region rfl ?_); repeat ((try subst X); (first | (first | apply zL | apply zH | apply zE); intro X hX | apply zl | apply zh | apply ze); try simp only [zU, reduceIte, Nat.reduceEqDiff, Nat.reduceAdd, reduceCtorEq, Q54])
        refine hM _ _ _ ?_; clear hM M
        refine ok_if rfl (fun hk3 => ?_) (fun hk3 => ok_skip ?_)
        rotate_left
        · try simp only [zW, zU, reduceIte, Nat.reduceEqDiff, Nat.reduceAdd, reduceCtorEq, Q54]
          exact ⟨by simp [sub, Env.get], hk, hk3⟩
        refine ok_seq (fun M hM => ok_region rfl ?_)
        repeat ((try subst X); (first | (first | apply zL | apply zH | apply zE); intro X hX | apply zl | apply zh | apply ze); try simp only [zU, reduceIte, Nat.reduceEqDiff, Nat.reduceAdd, reduceCtorEq, Q54])
        refine ⟨_, hb12.cell (j := 2) rfl, ?_⟩
        repeat ((try subst X); (first | (first | apply zL | apply zH | apply zE); intro X hX | apply zl | apply zh | apply ze); try simp only [zU, reduceIte, Nat.reduceEqDiff, Nat.reduceAdd, reduceCtorEq, Q54])
        have hs02 := he02'.size
        refine Inv.call Fx.en91 (text_ok w' hb rb H F (hH.ext he02') (fun k hk => by have := hF k hk; omega) (by omega) t) ?_
        rintro v w3 ⟨rfl, hc3, F', hH3, hF'⟩
        repeat ((try subst X); (first | (first | apply zL | apply zH | apply zE); intro X hX | apply zl | apply zh | apply ze); try simp only [zU, reduceIte, Nat.reduceEqDiff, Nat.reduceAdd, reduceCtorEq, Q54])
        have hBF : ¬ F B2 := fun h => by have := hF B2 h; omega
        have hs3 := hc3.size
        refine Runs.store (hb2.chg hc3 hBF) Fx.zi38 rfl (by intro u hu; simp [Value.cells, Wd.row] at hu; rcases hu with rfl | rfl | rfl <;> rfl) (by simp) (fun w5 hc5 hs5 hb5 => ?_)
        rw [splice_all _ _ (by simp [Value.cells])] at hb5
        simp only [Value.cells] at hb5
        repeat ((try subst X); (first | (first | apply zL | apply zH | apply zE); intro X hX | apply zl | apply zh | apply ze); try simp only [zU, reduceIte, Nat.reduceEqDiff, Nat.reduceAdd, reduceCtorEq, Q54])
        refine hM _ _ _ ?_; clear hM M
        refine ok_ret ?_
        try simp only [zW, zU, reduceIte, Nat.reduceEqDiff, Nat.reduceAdd, reduceCtorEq, Q54]
        have hst : storeV H (.mk k n t a) = (H ++ [.text t], ⟨3, 0, (H.length : Int) + 1⟩) := by simp only [storeV]; rw [if_neg hk, if_pos hk3]
        rw [hst]
        refine ⟨_, rfl, hb5.cells (o := 0) (row := Wd.row ⟨3, 0, (H.length : Int) + 1⟩) (fun j u hj => by simpa using hj), rfl, ?_⟩
        have hnB : ¬ F' B2 := fun h => by rcases hF' B2 h with h | h <;> first | exact hBF h | omega
        refine ⟨((he02'.chg F).trans hc3).trans_new hc5 (fun k hk => by omega), F', hH3.chg hc5 (fun k hk e => hnB (e ▸ hk)) (by omega), fun k hk => ?_⟩
        rcases hF' k hk with h | h
        · exact .inl h
        · exact .inr (by omega)
    rintro w' ⟨rfl, hk8, hk3⟩
    have hst : storeV H (.mk k n t a) = mkW (storeVs H a).1 k n (storeVs H a).2 := by simp only [storeV]; rw [if_neg hk8, if_neg hk3]
    rw [hst]
    have hs02 := he02'.size
    refine ok_seq (fun M hM => ok_region rfl ?_); repeat ((try subst X); (first | (first | apply zL | apply zH | apply zE); intro X hX | apply zl | apply zh | apply ze); try simp only [zU, reduceIte, Nat.reduceEqDiff, Nat.reduceAdd, reduceCtorEq, Q54])
    refine hM _ _ _ ?_; clear hM M
    refine ok_seq (fun M0 hM0 => ?_)
    refine ok_seq (fun M hM => ok_region rfl ?_)
    repeat ((try subst X); (first | (first | apply zL | apply zH | apply zE); intro X hX | apply zl | apply zh | apply ze); try simp only [zU, reduceIte, Nat.reduceEqDiff, Nat.reduceAdd, reduceCtorEq, Q54])
    refine ⟨_, hb12.cell (j := 3) rfl, ?_⟩
    repeat ((try subst X); (first | (first | apply zL | apply zH | apply zE); intro X hX | apply zl | apply zh | apply ze); try simp only [zU, reduceIte, Nat.reduceEqDiff, Nat.reduceAdd, reduceCtorEq, Q54])
    refine hM _ _ _ ?_; clear hM M
    refine ok_block ?_
    refine ok_loop (S := Nat × Value) (fun s => [(0, ptrOf hb), (3, ptrOf B1), (4, ptrOf B2), (5, .int .i64 k), (6, s.2), (29, .slice A a.length cp), (30, .int .i64 (a.length : Int)), (31, .int .i64 (s.1 : Int))])
      (fun s w4 => s.1 ≤ a.length ∧ Chg F w w4 ∧ ∃ F', HeapW w4 hb rb (storeVs H (a.take s.1)).1 F' ∧ (∀ k, F' k → F k ∨ (w.heap.size ≤ k ∧ k < w4.heap.size ∧ k ≠ B1 ∧ k ≠ B2)) ∧
        Blk w4 B1 [.int .i64 k, .int .i64 n, .string t, .slice A a.length cp] 36 ∧ Blk w4 B2 [.int .i64 0, .int .i64 0, .int .i64 0] 38 ∧
        w4.ownsRow 0 38 3 s.2 s.1 ((storeVs H (a.take s.1)).2.map Wd.row).flatten ∧ (∀ k, s.2.ownBlock = some k → ¬ F' k ∧ k ≠ B1 ∧ k ≠ B2 ∧ w.heap.size ≤ k)) (fun s => a.length - s.1) (0, .slice none 0 0) ?_ ?_ ?_
    · simp [sub, Env.get]
    · refine ⟨Nat.zero_le _, he02'.chg F, F, hH.ext he02', fun k hk => .inl hk, hb12, hb2, World.ownsRow_nil _ _ _ _, fun k hk => by simp [Value.ownBlock] at hk⟩
    rintro ⟨i, va⟩ w4 ⟨hi, hc4, F', hH4, hF4, hB1', hB2', hown, hob⟩
    simp only at hi hH4 hown hob ⊢
    have hs4 := hc4.size
    have hl1 := hB1'.lt
    have hl2 := hB2'.lt
    have hF4s : ∀ k, F' k → k < w4.heap.size := fun k hk => by
      rcases hF4 k hk with h | h
      · have := hF k h; omega
      · omega
    have hnB1 : ¬ F' B1 := fun h => by
      rcases hF4 B1 h with h | h
      · have := hF B1 h; omega
      · omega
    have hnB2 : ¬ F' B2 := fun h => by
      rcases hF4 B2 h with h | h
      · have := hF B2 h; omega
      · omega
    refine ok_seq (fun M hM => ok_region rfl ?_); repeat ((try subst X); (first | (first | apply zL | apply zH | apply zE); intro X hX | apply zl | apply zh | apply ze); try simp only [zU, reduceIte, Nat.reduceEqDiff, Nat.reduceAdd, reduceCtorEq, Q54])
    refine hM _ _ _ ?_; clear hM M
    refine ok_seq (fun M1 hM1 => ?_)
    refine ok_if rfl (fun hc => ok_skip ?_) (fun hc => ok_exit ?_)
    rotate_left
    · try simp only [zW, zU, reduceIte, Nat.reduceEqDiff, Nat.reduceAdd, reduceCtorEq, Q54]
      refine hM0 _ _ _ ?_; clear hM0 M0 hM1 M1
      have hia : i = a.length := by omega
      subst hia
      rw [List.take_of_length_le (Nat.le_refl _)] at hH4 hown
      have hsl := storeVs_length a H
      have hlen1 := storeVs_len a H
      have hSl : SlW w4 va (storeVs H a).2 := Sli.of_own hown rfl (fun r hr => (words_rows _ r hr).1) (by simp [hsl]) (by omega)
      obtain ⟨A9, c9, hva⟩ : ∃ A9 c9, va = .slice A9 (storeVs H a).2.length c9 := by
        obtain ⟨A9, c9, h1, _⟩ := hSl
        exact ⟨A9, c9, by rw [h1]; simp⟩
      refine ok_seq (fun M hM => ok_region rfl ?_)
      repeat ((try subst X); (first | (first | apply zL | apply zH | apply zE); intro X hX | apply zl | apply zh | apply ze); try simp only [zU, reduceIte, Nat.reduceEqDiff, Nat.reduceAdd, reduceCtorEq, Q54])
      refine ⟨_, hB1'.cell (j := 1) rfl, ?_⟩
      repeat ((try subst X); (first | (first | apply zL | apply zH | apply zE); intro X hX | apply zl | apply zh | apply ze); try simp only [zU, reduceIte, Nat.reduceEqDiff, Nat.reduceAdd, reduceCtorEq, Q54])
      refine Inv.call Fx.en56 (make_ok w4 hb rb _ F' hH4 (fun k hk => hF4s k hk) (by omega) k n va _ hSl (by omega)) ?_
      rintro v w5 ⟨rfl, hc5, F5, hH5, hF5⟩
      have hs5 := hc5.size
      repeat ((try subst X); (first | (first | apply zL | apply zH | apply zE); intro X hX | apply zl | apply zh | apply ze); try simp only [zU, reduceIte, Nat.reduceEqDiff, Nat.reduceAdd, reduceCtorEq, Q54])
      refine Runs.store (hB2'.chg hc5 hnB2) Fx.zi38 rfl (by intro u hu; simp [Value.cells, Wd.row] at hu; rcases hu with rfl | rfl | rfl <;> rfl) (by simp) (fun w6 hc6 hs6 hb6 => ?_)
      rw [splice_all _ _ (by simp [Value.cells])] at hb6
      simp only [Value.cells] at hb6
      repeat ((try subst X); (first | (first | apply zL | apply zH | apply zE); intro X hX | apply zl | apply zh | apply ze); try simp only [zU, reduceIte, Nat.reduceEqDiff, Nat.reduceAdd, reduceCtorEq, Q54])
      refine hM _ _ _ ?_; clear hM M
      refine ok_ret ?_
      try simp only [zW, zU, reduceIte, Nat.reduceEqDiff, Nat.reduceAdd, reduceCtorEq, Q54]
      refine ⟨_, rfl, hb6.cells (o := 0) (row := (mkW (storeVs H a).1 k n (storeVs H a).2).2.row) (fun j u hj => by simpa using hj), rfl, ?_⟩
      have hnB : ¬ F5 B2 := fun h => by rcases hF5 B2 h with h | h <;> first | exact hnB2 h | omega
      have hc5' : Chg F w w5 := ⟨hc5.os.trans hc4.os, hc5.tape.trans hc4.tape, hc5.output.trans hc4.output, by omega, fun j hj hf => by
        rw [hc5.block j (by omega) (fun h => by rcases hF4 j h with h | h <;> first | exact hf h | omega), hc4.block j hj hf]⟩
      refine ⟨hc5'.trans_new hc6 (fun k hk => by omega), F5, hH5.chg hc6 (fun k hk e => hnB (e ▸ hk)) (by omega), fun k hk => ?_⟩
      rcases hF5 k hk with h | h
      · rcases hF4 k h with h | h
        · exact .inl h
        · exact .inr (by omega)
      · exact .inr (by omega)
    · try simp only [zW, zU, reduceIte, Nat.reduceEqDiff, Nat.reduceAdd, reduceCtorEq, Q54]
      refine hM1 _ _ _ ?_; clear hM1 M1
      have hil : i < a.length := by omega
      have hxi : a[i]? = some a[i] := List.getElem?_eq_getElem hil
      obtain ⟨rr, hrr, hvr⟩ := hrows.get i _ hxi
      obtain ⟨b, o, rfl, hbS, hcr⟩ := hcell i rr hrr
      have hr4 := (VRowS.row _ _ hvr).len
      have hct := cntVs_take a i _ hxi
      have hcl1 := storeVs_len (a.take i) H
      have hsz : SizeOf.sizeOf a[i] ≤ m := by
        have := List.sizeOf_lt_of_mem (List.getElem_mem hil)
        simp at hm
        omega
      refine ok_seq (fun M1 hM1 => ok_block ?_)
      refine ok_seq (fun M hM => ok_region rfl ?_)
      repeat ((try subst X); (first | (first | apply zL | apply zH | apply zE); intro X hX | apply zl | apply zh | apply ze); try simp only [zU, reduceIte, Nat.reduceEqDiff, Nat.reduceAdd, reduceCtorEq, Q54])
      refine ⟨by omega, by omega, ?_⟩
      repeat ((try subst X); (first | (first | apply zL | apply zH | apply zE); intro X hX | apply zl | apply zh | apply ze); try simp only [zU, reduceIte, Nat.reduceEqDiff, Nat.reduceAdd, reduceCtorEq, Q54])
      refine ⟨rr, hr4, hc4.cellsAt hcr (hS b hbS).1, ?_⟩
      repeat ((try subst X); (first | (first | apply zL | apply zH | apply zE); intro X hX | apply zl | apply zh | apply ze); try simp only [zU, reduceIte, Nat.reduceEqDiff, Nat.reduceAdd, reduceCtorEq, Q54])
      refine Runs.alloc Fx.zi36 (fun w5 he5 hs5 hb5 => ?_)
      generalize hB5 : w4.heap.size = B5 at hs5 hb5
      repeat ((try subst X); (first | (first | apply zL | apply zH | apply zE); intro X hX | apply zl | apply zh | apply ze); try simp only [zU, reduceIte, Nat.reduceEqDiff, Nat.reduceAdd, reduceCtorEq, Q54])
      refine Runs.store hb5 Fx.zi36 (by simpa [Value.cells] using hr4) (by simpa [Value.cells] using (VRowS.row _ _ hvr).one) (by simp [Value.cells]) (fun w6 hc6 hs6 hb6 => ?_)
      rw [splice_all _ _ (by simp [Value.cells, hr4])] at hb6
      simp only [Value.cells] at hb6
      have he6 : Ext w4 w6 := he5.chg_trans hc6 (fun i hi => by omega)
      have hvr6 : VRowS w6 S rr a[i] := VRowS.ext (VRowS.chg hc4 (fun k hk => ⟨hk, (hS k hk).1⟩) _ _ hvr) he6
      have hg6 : Glob w6 mk := (hg.chg hc4 hgF.1 hgF.2.1 hgF.2.2).ext he6
      have hnF' : ∀ k, k < w.heap.size → ¬ F k → ¬ F' k := fun k hk hn hf => by rcases hF4 k hf with h | h <;> first | exact hn h | omega
      have hs46 := he6.size
      repeat ((try subst X); (first | (first | apply zL | apply zH | apply zE); intro X hX | apply zl | apply zh | apply ze); try simp only [zU, reduceIte, Nat.reduceEqDiff, Nat.reduceAdd, reduceCtorEq, Q54])
      refine hM _ _ _ ?_; clear hM M
      refine ok_region rfl ?_
      repeat ((try subst X); (first | (first | apply zL | apply zH | apply zE); intro X hX | apply zl | apply zh | apply ze); try simp only [zU, reduceIte, Nat.reduceEqDiff, Nat.reduceAdd, reduceCtorEq, Q54])
      refine ⟨rr, hr4, hb6.cells (o := 0) (fun j u hj => by simpa using hj), ?_⟩
      repeat ((try subst X); (first | (first | apply zL | apply zH | apply zE); intro X hX | apply zl | apply zh | apply ze); try simp only [zU, reduceIte, Nat.reduceEqDiff, Nat.reduceAdd, reduceCtorEq, Q54])
      refine Inv.call Fx.en54 (ih a[i] w6 S rr mk hb rb _ F' hsz hvr6 (fun k hk => ⟨hnF' k (hS k hk).2 (hS k hk).1, by have := (hS k hk).2; omega⟩) hg6 ⟨hnF' 0 hglt.1 hgF.1, hnF' 1 hglt.2.1 hgF.2.1, hnF' mk hglt.2.2 hgF.2.2⟩ (knownVs_get hkns hxi) (hH4.ext he6) (fun k hk => by have := hF4s k hk; omega) (by omega)) ?_
      rintro v w7 ⟨rfl, hc7, F7, hH7, hF7⟩
      have hs7 := hc7.size
      have hown6 := owns_chg' hown (he6.chg (fun _ => False)) (fun _ _ h => h)
      have hown7 := owns_chg' hown6 hc7 (fun k hk => (hob k hk).1)
      generalize hq : storeV (storeVs H (a.take i)).1 a[i] = q at hH7
      repeat ((try subst X); (first | (first | apply zL | apply zH | apply zE); intro X hX | apply zl | apply zh | apply ze); try simp only [zU, reduceIte, Nat.reduceEqDiff, Nat.reduceAdd, reduceCtorEq, Q54])
      refine Runs.lit (cs := q.2.row) Fx.un29 Fx.zi38 (by decide) (by kernel_rfl) (by decide) (fun w8 he8 hs8 hb8 => ?_)
      repeat ((try subst X); (first | (first | apply zL | apply zH | apply zE); intro X hX | apply zl | apply zh | apply ze); try simp only [zU, reduceIte, Nat.reduceEqDiff, Nat.reduceAdd, reduceCtorEq, Q54])
      have hown8 := owns_chg' hown7 (he8.chg (fun _ => False)) (fun _ _ h => h)
      refine Runs.append1' Fx.un29 Fx.zi38 rfl (by decide) hown8 hb8 rfl (by intro u hu; simp [Wd.row] at hu; rcases hu with rfl | rfl | rfl <;> rfl) (by simp [maxLen]; omega) (by omega) (by omega) (fun v' w9 hown9 hg9 hblk => ?_)
      have hc9 : Chg (fun k => va.ownBlock = some k) w8 w9 := ⟨hg9.os, hg9.tape, hg9.output, hg9.size, fun k hk hs => hg9.block k hk (fun e => hs e.symm)⟩
      have hs9 := hc9.size
      have hvl : ∀ k, va.ownBlock = some k → k < w4.heap.size := fun k hk => (hown.lt k hk).2
      have hF7s : ∀ k, F7 k → k < w7.heap.size ∧ (F' k ∨ w6.heap.size ≤ k) := fun k hk => by
        rcases hF7 k hk with h | h
        · have := hF4s k h; exact ⟨by omega, .inl h⟩
        · exact ⟨by omega, .inr h.1⟩
      repeat ((try subst X); (first | (first | apply zL | apply zH | apply zE); intro X hX | apply zl | apply zh | apply ze); try simp only [zU, reduceIte, Nat.reduceEqDiff, Nat.reduceAdd, reduceCtorEq, Q54])
      refine hM1 _ _ _ ?_; clear hM1 M1
      refine ok_region rfl ?_
      repeat ((try subst X); (first | (first | apply zL | apply zH | apply zE); intro X hX | apply zl | apply zh | apply ze); try simp only [zU, reduceIte, Nat.reduceEqDiff, Nat.reduceAdd, reduceCtorEq, Q54])
      refine ⟨by simp only [inI]; omega, ?_⟩
      repeat ((try subst X); (first | (first | apply zL | apply zH | apply zE); intro X hX | apply zl | apply zh | apply ze); try simp only [zU, reduceIte, Nat.reduceEqDiff, Nat.reduceAdd, reduceCtorEq, Q54])
      have htk : a.take (i + 1) = a.take i ++ [a[i]] := List.take_succ_eq_append_getElem hil
      have hsn : storeVs H (a.take (i + 1)) = (q.1, (storeVs H (a.take i)).2 ++ [q.2]) := by rw [htk, storeVs_snoc, hq]
      have hnF7 : ∀ k, va.ownBlock = some k → ¬ F7 k := fun k hk hf => by
        have h1 := hvl k hk
        rcases (hF7s k hf).2 with h | h
        · exact (hob k hk).1 h
        · omega
      have hBlk : ∀ (B : Nat) (cs : List Value) (e : TypeId), Blk w4 B cs e → ¬ F' B → (∀ k, va.ownBlock = some k → k ≠ B) → Blk w9 B cs e := fun B cs e hb hn hv =>
        (((hb.ext he6).chg hc7 hn).ext he8).chg hc9 (fun h => hv B h rfl)
      refine ⟨(i + 1, v'), by simp [sub, Env.get], ⟨by omega, ?_, F7, ?_, fun k hk => ?_, hBlk B1 _ _ hB1' hnB1 (fun k hk => (hob k hk).2.1), hBlk B2 _ _ hB2' hnB2 (fun k hk => (hob k hk).2.2.1), ?_, fun k hk => ?_⟩, by omega⟩
      · refine ⟨hc9.os.trans (he8.os.trans (hc7.os.trans (he6.os.trans hc4.os))), hc9.tape.trans (he8.tape.trans (hc7.tape.trans (he6.tape.trans hc4.tape))), hc9.output.trans (he8.output.trans (hc7.output.trans (he6.output.trans hc4.output))), by omega, fun j hj hf => ?_⟩
        rw [hc9.block j (by omega) (fun h => by have := (hob j h).2.2.2; omega), Below.block he8 j (by omega), hc7.block j (by omega) (fun h => by rcases hF4 j h with h | h <;> first | exact hf h | omega), Below.block he6 j (by omega), hc4.block j hj hf]
      · simp only [hsn]
        exact (hH7.ext he8).chg hc9 (fun k hk h => hnF7 k h hk) (fun h => by have := (hob rb h).2.2.2; omega)
      · have h1 := hF7s k hk
        rcases h1.2 with h | h
        · rcases hF4 k h with h' | h'
          · exact .inl h'
          · exact .inr (by omega)
        · exact .inr (by omega)
      · simp only [hsn]
        rw [List.map_append, List.flatten_append]
        simpa using hown9
      · rcases hblk with h | h
        · rw [h] at hk
          exact ⟨hnF7 k hk, (hob k hk).2⟩
        · rw [h] at hk; cases hk
          exact ⟨fun hf => by have := (hF7s _ hf).1; omega, by omega, by omega, by omega⟩
end Go.Proofs.YtldeokfhipjbfaaGreatDoor
