/- Part 5 of 12: N5, Vg42, N6, N7. -/
import Derived.Test.YtcpjojaklpgnkaaGreatM4
import Derived.Test.YtcpjojaklpgnkaaGreatM3
import Derived.Test.YtcpjojaklpgnkaaGreatM2
/- Chapter 31: goals, Occurs, times, large.  -/
set_option linter.unusedVariables false
set_option linter.unusedSimpArgs false
namespace Go.Proofs.Vg
def occG (g : G) (v : Int) : Bool := (preG g 1).any fun e => ownG e.1 v
def timesG (g : G) (v : Int) : Nat := ((preG g 1).filter fun e => ownG e.1 v).length
end Go.Proofs.Vg
namespace Go.Proofs.YtcpjojaklpgnkaaGreat
open Go Go.Proofs.Vg Go.RowKit
-- -- function 52
theorem goals_ok (w : World) (cs : List Value) (hl : cs.length = 9) : Rets Tryz.prog 52 [.agg cs.toArray] w (fun v w' => Ext w w' ∧ w'.heap.size = w.heap.size + 1 ∧ v = .func (.func 102) #[] [Value.pointer (some ⟨w.heap.size, 0, none⟩)].toArray ∧ Blk w' w.heap.size cs 37) := by
  refine rets_of_ok Tryz.func52 rfl rfl ?_
  refine ok_seq (fun M hM => ok_region rfl ?_)
  repeat ((try subst X); (first | (first | apply zL | apply zH | apply zE); intro X hX | apply zh | apply zl | apply ze); try simp only [zU, reduceIte, Nat.reduceEqDiff, Nat.reduceAdd, reduceCtorEq, Q52])
  refine Runs.box (fun w1 he1 hs1 hb1 => ?_)
  rw [agg_cells] at hb1
  repeat ((try subst X); (first | (first | apply zL | apply zH | apply zE); intro X hX | apply zh | apply zl | apply ze); try simp only [zU, reduceIte, Nat.reduceEqDiff, Nat.reduceAdd, reduceCtorEq, Q52])
  refine hM _ _ _ ?_; clear hM M
  refine ok_seq (fun M hM => ok_region rfl ?_); repeat ((try subst X); (first | (first | apply zL | apply zH | apply zE); intro X hX | apply zh | apply zl | apply ze); try simp only [zU, reduceIte, Nat.reduceEqDiff, Nat.reduceAdd, reduceCtorEq, Q52])
  refine hM _ _ _ ?_; clear hM M
  refine ok_ret ?_
  try simp only [zW, zU, reduceIte, Nat.reduceEqDiff, Nat.reduceAdd, reduceCtorEq, Q52]
  exact ⟨he1, hs1, hb1⟩
-- -- function 18
set_option maxHeartbeats 4000000 in
set_option maxRecDepth 8000 in
theorem occurs_ok (w : World) (S : Nat → Prop) (cs : List Value) (g : G) (v : Int) (h : Rd w S cs (encG g)) (hh : g.ht ≤ 549755813888) : Rets Tryz.prog 18 [.agg cs.toArray, .int .i64 v] w (fun r w' => r = .bool (occG g v) ∧ Ext w w') := by
  replace h := h.old
  have hcl : cs.length = 9 := by rw [h.len, encG_len]
  refine rets_of_okX Tryz.func18 rfl rfl ?_
  refine ok_seq (fun M hM => ok_region rfl ?_)
  repeat ((try subst X); (first | (first | apply zL | apply zH | apply zE); intro X hX | apply zh | apply zl | apply ze); try simp only [zU, reduceIte, Nat.reduceEqDiff, Nat.reduceAdd, reduceCtorEq, Q18])
  refine Runs.box (fun w1 he1 hs1 hb1 => ?_)
  rw [agg_cells] at hb1
  repeat ((try subst X); (first | (first | apply zL | apply zH | apply zE); intro X hX | apply zh | apply zl | apply ze); try simp only [zU, reduceIte, Nat.reduceEqDiff, Nat.reduceAdd, reduceCtorEq, Q18])
  refine Runs.box (fun w2 he2 hs2 hb2 => ?_)
  simp only [Value.cells] at hb2
  repeat ((try subst X); (first | (first | apply zL | apply zH | apply zE); intro X hX | apply zh | apply zl | apply ze); try simp only [zU, reduceIte, Nat.reduceEqDiff, Nat.reduceAdd, reduceCtorEq, Q18])
  refine Runs.alloc Fx.zi4 (fun w3 he3 hs3 hb3 => ?_)
  simp only [Value.cells] at hb3
  generalize hB1 : w.heap.size = B1 at *
  generalize hB2 : w1.heap.size = B2 at *
  generalize hB3 : w2.heap.size = B3 at *
  repeat ((try subst X); (first | (first | apply zL | apply zH | apply zE); intro X hX | apply zh | apply zl | apply ze); try simp only [zU, reduceIte, Nat.reduceEqDiff, Nat.reduceAdd, reduceCtorEq, Q18])
  refine hM _ _ _ ?_; clear hM M
  refine ok_seq (fun M0 hM0 => ?_)
  refine ok_seq (fun M hM => ok_region rfl ?_)
  repeat ((try subst X); (first | (first | apply zL | apply zH | apply zE); intro X hX | apply zh | apply zl | apply ze); try simp only [zU, reduceIte, Nat.reduceEqDiff, Nat.reduceAdd, reduceCtorEq, Q18])
  refine ⟨cs, hcl, ((hb1.ext he2).ext he3).all, ?_⟩
  repeat ((try subst X); (first | (first | apply zL | apply zH | apply zE); intro X hX | apply zh | apply zl | apply ze); try simp only [zU, reduceIte, Nat.reduceEqDiff, Nat.reduceAdd, reduceCtorEq, Q18])
  refine Inv.call Fx.en52 (goals_ok w3 cs hcl) ?_
  rintro _ w4 ⟨he4, hs4, rfl, hb4⟩
  generalize hB4 : w3.heap.size = B4 at *
  repeat ((try subst X); (first | (first | apply zL | apply zH | apply zE); intro X hX | apply zh | apply zl | apply ze); try simp only [zU, reduceIte, Nat.reduceEqDiff, Nat.reduceAdd, reduceCtorEq, Q18])
  refine hM _ _ _ ?_; clear hM M
  have he04 : Ext w w4 := ((he1.trans he2).trans he3).trans he4
  replace hb3 := hb3.ext he4
  replace hb2 := (hb2.ext he3).ext he4
  refine ok_block ?_
  refine ok_goals (T := fun k => k = B3) (I := fun rest W => Blk W B2 [.int .i64 v] 3 ∧ Blk W B3 [.bool false] 4 ∧ occG g v = rest.any fun e => ownG e.1 v) (Jx := fun c W => c = .ret ∧ Blk W B3 [.bool true] 4 ∧ occG g v = true) rfl hb4 ((h.ext he04).mono fun k hk _ e => by have h1 : k < B1 := hk; omega) (fun k hk => by omega) ⟨by decide, by decide⟩ hh ?_ ?_ ⟨hb2, hb3, rfl⟩ ?_ ?_ ?_ ?_
  · rintro l W W' hc ⟨h1, h2, h3⟩
    exact ⟨h1.chg hc (by omega), h2.chg hc (by omega), h3⟩
  · rintro c W W' hc ⟨h1, h2, h3⟩
    exact ⟨h1, h2.chg hc (by omega), h3⟩
  · rintro k d rest W cs1 ⟨h1, h2, h3⟩ hcW hW hr hd0 hd1
    have hcl1 : cs1.length = 9 := by rw [hr.len, encG_len]
    refine ok_region rfl ?_
    repeat ((try subst X); (first | (first | apply zL | apply zH | apply zE); intro X hX | apply zh | apply zl | apply ze); try simp only [zU, reduceIte, Nat.reduceEqDiff, Nat.reduceAdd, reduceCtorEq, Q18])
    refine Runs.alloc Fx.zi37 (fun w5 he5 hs5 hb5 => ?_)
    generalize hB5 : W.heap.size = B5 at *
    repeat ((try subst X); (first | (first | apply zL | apply zH | apply zE); intro X hX | apply zh | apply zl | apply ze); try simp only [zU, reduceIte, Nat.reduceEqDiff, Nat.reduceAdd, reduceCtorEq, Q18])
    refine Runs.store hb5 Fx.zi37 (by simpa [Value.cells] using hcl1) (fun u hu => (hr.one u (by simpa [Value.cells] using hu)).1) (by simp [Value.cells]) (fun w6 hc6 hs6 hb6 => ?_)
    rw [agg_cells, splice_all _ _ (by simpa [Value.cells] using hcl1)] at hb6
    repeat ((try subst X); (first | (first | apply zL | apply zH | apply zE); intro X hX | apply zh | apply zl | apply ze); try simp only [zU, reduceIte, Nat.reduceEqDiff, Nat.reduceAdd, reduceCtorEq, Q18])
    have he56 : Ext W w6 := he5.chg_trans hc6 (by intro k hk; omega)
    refine ⟨he56, fun W2 ho => ?_⟩
    have hc2 : Chg (fun k => k = w4.heap.size ∨ k = w4.heap.size + 1) w6 W2 := ⟨ho.os, ho.tape, ho.output, by rw [ho.size]; exact Nat.le_refl _, fun k _ hk => ho.block k (fun e => hk (.inl e)) (fun e => hk (.inr e))⟩
    have g1 := (h1.ext he56).chg hc2 (by omega)
    have g2 := (h2.ext he56).chg hc2 (by omega)
    have g3 := hb6.chg hc2 (by omega)
    refine ok_block ?_
    refine ok_seq (fun M hM => ok_region rfl ?_)
    repeat ((try subst X); (first | (first | apply zL | apply zH | apply zE); intro X hX | apply zh | apply zl | apply ze); try simp only [zU, reduceIte, Nat.reduceEqDiff, Nat.reduceAdd, reduceCtorEq, Q18])
    refine ⟨cs1, hcl1, g3.all, ?_⟩
    repeat ((try subst X); (first | (first | apply zL | apply zH | apply zE); intro X hX | apply zh | apply zl | apply ze); try simp only [zU, reduceIte, Nat.reduceEqDiff, Nat.reduceAdd, reduceCtorEq, Q18])
    refine ⟨_, g1.cell rfl, ?_⟩
    repeat ((try subst X); (first | (first | apply zL | apply zH | apply zE); intro X hX | apply zh | apply zl | apply ze); try simp only [zU, reduceIte, Nat.reduceEqDiff, Nat.reduceAdd, reduceCtorEq, Q18])
    refine Inv.call Fx.en53 (has_ok W2 _ cs1 k v ((hr.ext he56).chg hc2 (fun k hk _ e => by rcases e with e | e; exact hk.2.1 e; exact hk.2.2 e))) ?_
    rintro _ w7 ⟨rfl, he7⟩
    repeat ((try subst X); (first | (first | apply zL | apply zH | apply zE); intro X hX | apply zh | apply zl | apply ze); try simp only [zU, reduceIte, Nat.reduceEqDiff, Nat.reduceAdd, reduceCtorEq, Q18])
    refine hM _ _ _ ?_; clear hM M
    cases ho : ownG k v with
    | true =>
      refine ok_cond rfl (fun _ => ?_) (fun h => by cases h)
      refine ok_seq (fun M hM => ok_region rfl ?_)
      repeat ((try subst X); (first | (first | apply zL | apply zH | apply zE); intro X hX | apply zh | apply zl | apply ze); try simp only [zU, reduceIte, Nat.reduceEqDiff, Nat.reduceAdd, reduceCtorEq, Q18])
      refine Runs.store (g2.ext he7) Fx.zi4 rfl (by intro u hu; simp [Value.cells] at hu; subst hu; rfl) (by simp) (fun w8 hc8 hs8 hb8 => ?_)
      repeat ((try subst X); (first | (first | apply zL | apply zH | apply zE); intro X hX | apply zh | apply zl | apply ze); try simp only [zU, reduceIte, Nat.reduceEqDiff, Nat.reduceAdd, reduceCtorEq, Q18])
      refine hM _ _ _ ?_; clear hM M
      refine ok_ret ?_
      exact ⟨(he7.chg _).trans hc8, hb8, by rw [h3]; simp [ho]⟩
    | false =>
      refine ok_cond rfl (fun h => by cases h) (fun _ => ok_skip ?_)
      exact ⟨he7.chg _, g1.ext he7, g2.ext he7, by rw [h3]; simp [ho]⟩
  · rintro W ⟨h1, h2, h3⟩ hcW hd
    refine hM0 _ _ _ ?_; clear hM0 M0
    refine ok_seq (fun M hM => ok_region rfl ?_)
    repeat ((try subst X); (first | (first | apply zL | apply zH | apply zE); intro X hX | apply zh | apply zl | apply ze); try simp only [zU, reduceIte, Nat.reduceEqDiff, Nat.reduceAdd, reduceCtorEq, Q18])
    refine Runs.store h2 Fx.zi4 rfl (by intro u hu; simp [Value.cells] at hu; subst hu; rfl) (by simp) (fun w8 hc8 hs8 hb8 => ?_)
    repeat ((try subst X); (first | (first | apply zL | apply zH | apply zE); intro X hX | apply zh | apply zl | apply ze); try simp only [zU, reduceIte, Nat.reduceEqDiff, Nat.reduceAdd, reduceCtorEq, Q18])
    refine hM _ _ _ ?_; clear hM M
    refine ok_ret (finX_ret1 ((hc8.block _ (by have := (Array.getElem?_eq_some_iff.1 hd).1; exact this) (by omega)).trans hd) fun w9 hc9 hs9 => ?_)
    try simp only [zW, zU, reduceIte, Nat.reduceEqDiff, Nat.reduceAdd, reduceCtorEq, Q18]
    exact ⟨_, (hb8.chg hc9 (by omega)).cell rfl, by rw [h3]; rfl, (he04.chg_trans hcW (by omega)).chg_trans (hc8.trans' hc9) (by have := he04.size; have := hcW.size; omega)⟩
  · rintro W ⟨-, h2, h3⟩ hcW hd
    refine finX_ret1 hd fun w9 hc9 hs9 => ?_
    try simp only [zW, zU, reduceIte, Nat.reduceEqDiff, Nat.reduceAdd, reduceCtorEq, Q18]
    exact ⟨_, (h2.chg hc9 (by omega)).cell rfl, by rw [h3], (he04.chg_trans hcW (by omega)).chg_trans hc9 (by omega)⟩
  · rintro id W ⟨h1, -⟩
    cases h1
-- -- function 192
set_option maxHeartbeats 4000000 in
set_option maxRecDepth 8000 in
theorem times_ok (w : World) (S : Nat → Prop) (cs : List Value) (g : G) (v : Int) (h : Rd w S cs (encG g)) (hh : g.ht ≤ 549755813888) (hn : (preG g 1).length ≤ 549755813888) : Rets Tryz.prog 192 [.agg cs.toArray, .int .i64 v] w (fun r w' => r = .int .i64 (timesG g v) ∧ Ext w w') := by
  replace h := h.old
  have hcl : cs.length = 9 := by rw [h.len, encG_len]
  refine rets_of_okX Tryz.func192 rfl rfl ?_
  refine ok_seq (fun M hM => ok_region rfl ?_)
  repeat ((try subst X); (first | (first | apply zL | apply zH | apply zE); intro X hX | apply zh | apply zl | apply ze); try simp only [zU, reduceIte, Nat.reduceEqDiff, Nat.reduceAdd, reduceCtorEq, Q192])
  refine Runs.box (fun w1 he1 hs1 hb1 => ?_)
  rw [agg_cells] at hb1
  repeat ((try subst X); (first | (first | apply zL | apply zH | apply zE); intro X hX | apply zh | apply zl | apply ze); try simp only [zU, reduceIte, Nat.reduceEqDiff, Nat.reduceAdd, reduceCtorEq, Q192])
  refine Runs.box (fun w2 he2 hs2 hb2 => ?_)
  simp only [Value.cells] at hb2
  repeat ((try subst X); (first | (first | apply zL | apply zH | apply zE); intro X hX | apply zh | apply zl | apply ze); try simp only [zU, reduceIte, Nat.reduceEqDiff, Nat.reduceAdd, reduceCtorEq, Q192])
  refine hM _ _ _ ?_; clear hM M
  refine ok_seq (fun M hM => ok_region rfl ?_)
  repeat ((try subst X); (first | (first | apply zL | apply zH | apply zE); intro X hX | apply zh | apply zl | apply ze); try simp only [zU, reduceIte, Nat.reduceEqDiff, Nat.reduceAdd, reduceCtorEq, Q192])
  refine Runs.alloc Fx.zi3 (fun w3a he3a hs3a hb3a => ?_)
  simp only [Value.cells] at hb3a
  repeat ((try subst X); (first | (first | apply zL | apply zH | apply zE); intro X hX | apply zh | apply zl | apply ze); try simp only [zU, reduceIte, Nat.reduceEqDiff, Nat.reduceAdd, reduceCtorEq, Q192])
  refine Runs.store hb3a Fx.zi3 rfl (by intro u hu; simp [Value.cells] at hu; subst hu; rfl) (by simp) (fun w3 hc3 hs3 hb3 => ?_)
  simp only [splice, Value.cells, List.take_zero, List.nil_append, List.length_singleton, Nat.zero_add, List.drop_succ_cons, List.drop_zero, List.append_nil, List.drop_nil] at hb3
  have he3 : Ext w2 w3 := he3a.chg_trans hc3 (by intro k hk; omega)
  generalize hB1 : w.heap.size = B1 at *
  generalize hB2 : w1.heap.size = B2 at *
  generalize hB3 : w2.heap.size = B3 at *
  repeat ((try subst X); (first | (first | apply zL | apply zH | apply zE); intro X hX | apply zh | apply zl | apply ze); try simp only [zU, reduceIte, Nat.reduceEqDiff, Nat.reduceAdd, reduceCtorEq, Q192])
  refine hM _ _ _ ?_; clear hM M
  refine ok_seq (fun M0 hM0 => ?_)
  refine ok_seq (fun M hM => ok_region rfl ?_)
  repeat ((try subst X); (first | (first | apply zL | apply zH | apply zE); intro X hX | apply zh | apply zl | apply ze); try simp only [zU, reduceIte, Nat.reduceEqDiff, Nat.reduceAdd, reduceCtorEq, Q192])
  refine ⟨cs, hcl, ((hb1.ext he2).ext he3).all, ?_⟩
  repeat ((try subst X); (first | (first | apply zL | apply zH | apply zE); intro X hX | apply zh | apply zl | apply ze); try simp only [zU, reduceIte, Nat.reduceEqDiff, Nat.reduceAdd, reduceCtorEq, Q192])
  refine Inv.call Fx.en52 (goals_ok w3 cs hcl) ?_
  rintro _ w4 ⟨he4, hs4, rfl, hb4⟩
  generalize hB4 : w3.heap.size = B4 at *
  repeat ((try subst X); (first | (first | apply zL | apply zH | apply zE); intro X hX | apply zh | apply zl | apply ze); try simp only [zU, reduceIte, Nat.reduceEqDiff, Nat.reduceAdd, reduceCtorEq, Q192])
  refine hM _ _ _ ?_; clear hM M
  have he04 : Ext w w4 := ((he1.trans he2).trans he3).trans he4
  replace hb3 := hb3.ext he4
  replace hb2 := (hb2.ext he3).ext he4
  refine ok_block ?_
  refine ok_goals (T := fun k => k = B3) (I := fun rest W => Blk W B2 [.int .i64 v] 3 ∧ ∃ m : Nat, Blk W B3 [.int .i64 (m : Int)] 3 ∧ timesG g v = m + (rest.filter fun e => ownG e.1 v).length) (Jx := fun c W => False) rfl hb4 ((h.ext he04).mono fun k hk _ e => by have h1 : k < B1 := hk; omega) (fun k hk => by omega) ⟨by decide, by decide⟩ hh ?_ ?_ ⟨hb2, 0, hb3, by simp [timesG]⟩ ?_ ?_ ?_ ?_
  · rintro l W W' hc ⟨h1, m, h2, h3⟩
    exact ⟨h1.chg hc (by omega), m, h2.chg hc (by omega), h3⟩
  · rintro c W W' hc h1
    exact h1
  · rintro k d rest W cs1 ⟨h1, m, h2, h3⟩ hcW hW hr hd0 hd1
    have hcl1 : cs1.length = 9 := by rw [hr.len, encG_len]
    have htl : timesG g v ≤ 549755813888 := Nat.le_trans (List.length_filter_le _ _) hn
    refine ok_region rfl ?_
    repeat ((try subst X); (first | (first | apply zL | apply zH | apply zE); intro X hX | apply zh | apply zl | apply ze); try simp only [zU, reduceIte, Nat.reduceEqDiff, Nat.reduceAdd, reduceCtorEq, Q192])
    refine Runs.alloc Fx.zi37 (fun w5 he5 hs5 hb5 => ?_)
    generalize hB5 : W.heap.size = B5 at *
    repeat ((try subst X); (first | (first | apply zL | apply zH | apply zE); intro X hX | apply zh | apply zl | apply ze); try simp only [zU, reduceIte, Nat.reduceEqDiff, Nat.reduceAdd, reduceCtorEq, Q192])
    refine Runs.store hb5 Fx.zi37 (by simpa [Value.cells] using hcl1) (fun u hu => (hr.one u (by simpa [Value.cells] using hu)).1) (by simp [Value.cells]) (fun w6 hc6 hs6 hb6 => ?_)
    rw [agg_cells, splice_all _ _ (by simpa [Value.cells] using hcl1)] at hb6
    repeat ((try subst X); (first | (first | apply zL | apply zH | apply zE); intro X hX | apply zh | apply zl | apply ze); try simp only [zU, reduceIte, Nat.reduceEqDiff, Nat.reduceAdd, reduceCtorEq, Q192])
    have he56 : Ext W w6 := he5.chg_trans hc6 (by intro k hk; omega)
    refine ⟨he56, fun W2 ho => ?_⟩
    have hc2 : Chg (fun k => k = w4.heap.size ∨ k = w4.heap.size + 1) w6 W2 := ⟨ho.os, ho.tape, ho.output, by rw [ho.size]; exact Nat.le_refl _, fun k _ hk => ho.block k (fun e => hk (.inl e)) (fun e => hk (.inr e))⟩
    have g1 := (h1.ext he56).chg hc2 (by omega)
    have g2 := (h2.ext he56).chg hc2 (by omega)
    have g3 := hb6.chg hc2 (by omega)
    refine ok_block ?_
    refine ok_seq (fun M hM => ok_region rfl ?_)
    repeat ((try subst X); (first | (first | apply zL | apply zH | apply zE); intro X hX | apply zh | apply zl | apply ze); try simp only [zU, reduceIte, Nat.reduceEqDiff, Nat.reduceAdd, reduceCtorEq, Q192])
    refine ⟨cs1, hcl1, g3.all, ?_⟩
    repeat ((try subst X); (first | (first | apply zL | apply zH | apply zE); intro X hX | apply zh | apply zl | apply ze); try simp only [zU, reduceIte, Nat.reduceEqDiff, Nat.reduceAdd, reduceCtorEq, Q192])
    refine ⟨_, g1.cell rfl, ?_⟩
    repeat ((try subst X); (first | (first | apply zL | apply zH | apply zE); intro X hX | apply zh | apply zl | apply ze); try simp only [zU, reduceIte, Nat.reduceEqDiff, Nat.reduceAdd, reduceCtorEq, Q192])
    refine Inv.call Fx.en53 (has_ok W2 _ cs1 k v ((hr.ext he56).chg hc2 (fun k hk _ e => by rcases e with e | e; exact hk.2.1 e; exact hk.2.2 e))) ?_
    rintro _ w7 ⟨rfl, he7⟩
    repeat ((try subst X); (first | (first | apply zL | apply zH | apply zE); intro X hX | apply zh | apply zl | apply ze); try simp only [zU, reduceIte, Nat.reduceEqDiff, Nat.reduceAdd, reduceCtorEq, Q192])
    refine hM _ _ _ ?_; clear hM M
    cases ho : ownG k v with
    | true =>
      have h3' : timesG g v = (m + 1) + (rest.filter fun e => ownG e.1 v).length := by rw [h3]; simp [ho]; omega
      refine ok_cond rfl (fun _ => ?_) (fun h => by cases h)
      refine ok_region rfl ?_
      repeat ((try subst X); (first | (first | apply zL | apply zH | apply zE); intro X hX | apply zh | apply zl | apply ze); try simp only [zU, reduceIte, Nat.reduceEqDiff, Nat.reduceAdd, reduceCtorEq, Q192])
      refine ⟨_, (g2.ext he7).cell rfl, ?_⟩
      repeat ((try subst X); (first | (first | apply zL | apply zH | apply zE); intro X hX | apply zh | apply zl | apply ze); try simp only [zU, reduceIte, Nat.reduceEqDiff, Nat.reduceAdd, reduceCtorEq, Q192])
      refine ⟨by simp only [inI]; omega, ?_⟩
      repeat ((try subst X); (first | (first | apply zL | apply zH | apply zE); intro X hX | apply zh | apply zl | apply ze); try simp only [zU, reduceIte, Nat.reduceEqDiff, Nat.reduceAdd, reduceCtorEq, Q192])
      refine Runs.store (g2.ext he7) Fx.zi3 rfl (by intro u hu; simp [Value.cells] at hu; subst hu; rfl) (by simp) (fun w8 hc8 hs8 hb8 => ?_)
      simp only [splice, Value.cells, List.take_zero, List.nil_append, List.length_singleton, Nat.zero_add, List.drop_succ_cons, List.drop_zero, List.append_nil, List.drop_nil] at hb8
      repeat ((try subst X); (first | (first | apply zL | apply zH | apply zE); intro X hX | apply zh | apply zl | apply ze); try simp only [zU, reduceIte, Nat.reduceEqDiff, Nat.reduceAdd, reduceCtorEq, Q192])
      exact ⟨(he7.chg _).trans hc8, (g1.ext he7).chg hc8 (by omega), m + 1, by exact_mod_cast hb8, h3'⟩
    | false =>
      refine ok_cond rfl (fun h => by cases h) (fun _ => ok_skip ?_)
      exact ⟨he7.chg _, g1.ext he7, m, g2.ext he7, by rw [h3]; simp [ho]⟩
  · rintro W ⟨h1, m, h2, h3⟩ hcW hd
    refine hM0 _ _ _ ?_; clear hM0 M0
    refine ok_seq (fun M hM => ok_region rfl ?_)
    repeat ((try subst X); (first | (first | apply zL | apply zH | apply zE); intro X hX | apply zh | apply zl | apply ze); try simp only [zU, reduceIte, Nat.reduceEqDiff, Nat.reduceAdd, reduceCtorEq, Q192])
    refine ⟨_, h2.cell rfl, ?_⟩
    repeat ((try subst X); (first | (first | apply zL | apply zH | apply zE); intro X hX | apply zh | apply zl | apply ze); try simp only [zU, reduceIte, Nat.reduceEqDiff, Nat.reduceAdd, reduceCtorEq, Q192])
    refine hM _ _ _ ?_; clear hM M
    refine ok_ret (finX_ret1 hd fun w9 hc9 hs9 => ?_)
    try simp only [zW, zU, reduceIte, Nat.reduceEqDiff, Nat.reduceAdd, reduceCtorEq, Q192]
    exact ⟨by rw [h3]; simp, (he04.chg_trans hcW (by omega)).chg_trans hc9 (by omega)⟩
  · rintro W h1; exact h1.elim
  · rintro id W h1; exact h1.elim
-- -- function 28
set_option maxHeartbeats 4000000 in
set_option maxRecDepth 8000 in
theorem large_ok (w : World) (S : Nat → Prop) (cs : List Value) (g : G) (h : Rd w S cs (encG g)) (hh : g.ht ≤ 126) (hn : (preG g 1).length ≤ 5000) : Rets Tryz.prog 28 [.agg cs.toArray] w (fun r w' => r = .bool false ∧ Ext w w') := by
  replace h := h.old
  have hcl : cs.length = 9 := by rw [h.len, encG_len]
  refine rets_of_okX Tryz.func28 rfl rfl ?_
  refine ok_seq (fun M hM => ok_region rfl ?_)
  repeat ((try subst X); (first | (first | apply zL | apply zH | apply zE); intro X hX | apply zh | apply zl | apply ze); try simp only [zU, reduceIte, Nat.reduceEqDiff, Nat.reduceAdd, reduceCtorEq, Q28])
  refine Runs.box (fun w1 he1 hs1 hb1 => ?_)
  rw [agg_cells] at hb1
  repeat ((try subst X); (first | (first | apply zL | apply zH | apply zE); intro X hX | apply zh | apply zl | apply ze); try simp only [zU, reduceIte, Nat.reduceEqDiff, Nat.reduceAdd, reduceCtorEq, Q28])
  refine Runs.alloc Fx.zi4 (fun w2 he2 hs2 hb2 => ?_)
  simp only [Value.cells] at hb2
  repeat ((try subst X); (first | (first | apply zL | apply zH | apply zE); intro X hX | apply zh | apply zl | apply ze); try simp only [zU, reduceIte, Nat.reduceEqDiff, Nat.reduceAdd, reduceCtorEq, Q28])
  refine hM _ _ _ ?_; clear hM M
  refine ok_seq (fun M hM => ok_region rfl ?_)
  repeat ((try subst X); (first | (first | apply zL | apply zH | apply zE); intro X hX | apply zh | apply zl | apply ze); try simp only [zU, reduceIte, Nat.reduceEqDiff, Nat.reduceAdd, reduceCtorEq, Q28])
  refine Runs.alloc Fx.zi3 (fun w3a he3a hs3a hb3a => ?_)
  simp only [Value.cells] at hb3a
  repeat ((try subst X); (first | (first | apply zL | apply zH | apply zE); intro X hX | apply zh | apply zl | apply ze); try simp only [zU, reduceIte, Nat.reduceEqDiff, Nat.reduceAdd, reduceCtorEq, Q28])
  refine Runs.store hb3a Fx.zi3 rfl (by intro u hu; simp [Value.cells] at hu; subst hu; rfl) (by simp) (fun w3 hc3 hs3 hb3 => ?_)
  simp only [splice, Value.cells, List.take_zero, List.nil_append, List.length_singleton, Nat.zero_add, List.drop_succ_cons, List.drop_zero, List.append_nil, List.drop_nil] at hb3
  have he3 : Ext w2 w3 := he3a.chg_trans hc3 (by intro k hk; omega)
  generalize hB1 : w.heap.size = B1 at *
  generalize hB2 : w1.heap.size = B2 at *
  generalize hB3 : w2.heap.size = B3 at *
  repeat ((try subst X); (first | (first | apply zL | apply zH | apply zE); intro X hX | apply zh | apply zl | apply ze); try simp only [zU, reduceIte, Nat.reduceEqDiff, Nat.reduceAdd, reduceCtorEq, Q28])
  refine hM _ _ _ ?_; clear hM M
  refine ok_seq (fun M0 hM0 => ?_)
  refine ok_seq (fun M hM => ok_region rfl ?_)
  repeat ((try subst X); (first | (first | apply zL | apply zH | apply zE); intro X hX | apply zh | apply zl | apply ze); try simp only [zU, reduceIte, Nat.reduceEqDiff, Nat.reduceAdd, reduceCtorEq, Q28])
  refine ⟨cs, hcl, ((hb1.ext he2).ext he3).all, ?_⟩
  repeat ((try subst X); (first | (first | apply zL | apply zH | apply zE); intro X hX | apply zh | apply zl | apply ze); try simp only [zU, reduceIte, Nat.reduceEqDiff, Nat.reduceAdd, reduceCtorEq, Q28])
  refine Inv.call Fx.en52 (goals_ok w3 cs hcl) ?_
  rintro _ w4 ⟨he4, hs4, rfl, hb4⟩
  generalize hB4 : w3.heap.size = B4 at *
  repeat ((try subst X); (first | (first | apply zL | apply zH | apply zE); intro X hX | apply zh | apply zl | apply ze); try simp only [zU, reduceIte, Nat.reduceEqDiff, Nat.reduceAdd, reduceCtorEq, Q28])
  refine hM _ _ _ ?_; clear hM M
  have he04 : Ext w w4 := ((he1.trans he2).trans he3).trans he4
  replace hb3 := hb3.ext he4
  replace hb2 := (hb2.ext he3).ext he4
  refine ok_block ?_
  refine ok_goals (T := fun k => k = B3) (I := fun rest W => Blk W B2 [.bool false] 4 ∧ ∃ m : Nat, Blk W B3 [.int .i64 (m : Int)] 3 ∧ m + rest.length ≤ 5000 ∧ ∀ e ∈ rest, e.2 ≤ 127) (Jx := fun c W => False) rfl hb4 ((h.ext he04).mono fun k hk _ e => by have h1 : k < B1 := hk; omega) (fun k hk => by omega) ⟨by decide, by decide⟩ (by omega) ?_ ?_ ⟨hb2, 0, hb3, by simpa using hn, fun e he => by have := preG_dep g 1 e he; omega⟩ ?_ ?_ ?_ ?_
  · rintro l W W' hc ⟨h1, m, h2, h3⟩
    exact ⟨h1.chg hc (by omega), m, h2.chg hc (by omega), h3⟩
  · rintro c W W' hc h1
    exact h1
  · rintro k d rest W cs1 ⟨h1, m, h2, h3, h4⟩ hcW hW hr hd0 hd1
    have hdk := h4 _ List.mem_cons_self
    simp only [List.length_cons] at h3 hdk
    refine ok_region rfl ?_
    repeat ((try subst X); (first | (first | apply zL | apply zH | apply zE); intro X hX | apply zh | apply zl | apply ze); try simp only [zU, reduceIte, Nat.reduceEqDiff, Nat.reduceAdd, reduceCtorEq, Q28])
    refine ⟨Ext.refl _, fun W2 ho => ?_⟩
    have hc2 : Chg (fun k => k = w4.heap.size ∨ k = w4.heap.size + 1) W W2 := ⟨ho.os, ho.tape, ho.output, by rw [ho.size]; exact Nat.le_refl _, fun k _ hk => ho.block k (fun e => hk (.inl e)) (fun e => hk (.inr e))⟩
    have g1 := h1.chg hc2 (by omega)
    have g2 := h2.chg hc2 (by omega)
    refine ok_block ?_
    refine ok_seq (fun M hM => ok_region rfl ?_)
    repeat ((try subst X); (first | (first | apply zL | apply zH | apply zE); intro X hX | apply zh | apply zl | apply ze); try simp only [zU, reduceIte, Nat.reduceEqDiff, Nat.reduceAdd, reduceCtorEq, Q28])
    refine ⟨_, g2.cell rfl, ?_⟩
    repeat ((try subst X); (first | (first | apply zL | apply zH | apply zE); intro X hX | apply zh | apply zl | apply ze); try simp only [zU, reduceIte, Nat.reduceEqDiff, Nat.reduceAdd, reduceCtorEq, Q28])
    refine ⟨by simp only [inI]; omega, ?_⟩
    repeat ((try subst X); (first | (first | apply zL | apply zH | apply zE); intro X hX | apply zh | apply zl | apply ze); try simp only [zU, reduceIte, Nat.reduceEqDiff, Nat.reduceAdd, reduceCtorEq, Q28])
    refine Runs.store g2 Fx.zi3 rfl (by intro u hu; simp [Value.cells] at hu; subst hu; rfl) (by simp) (fun w8 hc8 hs8 hb8 => ?_)
    simp only [splice, Value.cells, List.take_zero, List.nil_append, List.length_singleton, Nat.zero_add, List.drop_succ_cons, List.drop_zero, List.append_nil, List.drop_nil] at hb8
    repeat ((try subst X); (first | (first | apply zL | apply zH | apply zE); intro X hX | apply zh | apply zl | apply ze); try simp only [zU, reduceIte, Nat.reduceEqDiff, Nat.reduceAdd, reduceCtorEq, Q28])
    refine hM _ _ _ ?_; clear hM M
    refine ok_seq (fun M hM => ok_region rfl ?_)
    repeat ((try subst X); (first | (first | apply zL | apply zH | apply zE); intro X hX | apply zh | apply zl | apply ze); try simp only [zU, reduceIte, Nat.reduceEqDiff, Nat.reduceAdd, reduceCtorEq, Q28])
    refine ⟨_, hb8.cell rfl, ?_⟩
    have hd1 : decide ((5000 : Int) < (m : Int) + 1) = false := by simp; omega
    have hd2 : decide ((128 : Int) < d) = false := by simp; omega
    repeat ((try subst X); (first | (first | apply zL | apply zH | apply zE); intro X hX | apply zh | apply zl | apply ze); try simp only [zU, reduceIte, Nat.reduceEqDiff, Nat.reduceAdd, reduceCtorEq, Q28])
    simp only [hd1]
    repeat ((try subst X); (first | (first | apply zL | apply zH | apply zE); intro X hX | apply zh | apply zl | apply ze); try simp only [zU, reduceIte, Nat.reduceEqDiff, Nat.reduceAdd, reduceCtorEq, Q28])
    refine ⟨fun _ => ?_, fun h => by cases h⟩
    repeat ((try subst X); (first | (first | apply zL | apply zH | apply zE); intro X hX | apply zh | apply zl | apply ze); try simp only [zU, reduceIte, Nat.reduceEqDiff, Nat.reduceAdd, reduceCtorEq, Q28])
    simp only [hd2]
    repeat ((try subst X); (first | (first | apply zL | apply zH | apply zE); intro X hX | apply zh | apply zl | apply ze); try simp only [zU, reduceIte, Nat.reduceEqDiff, Nat.reduceAdd, reduceCtorEq, Q28])
    refine hM _ _ _ ?_; clear hM M
    refine ok_cond rfl (fun h => by cases h) (fun _ => ok_skip ?_)
    exact ⟨hc8, g1.chg hc8 (by omega), m + 1, by exact_mod_cast hb8, by omega, fun e he => h4 e (List.mem_cons_of_mem _ he)⟩
  · rintro W ⟨h1, m, h2, h3⟩ hcW hd
    refine hM0 _ _ _ ?_; clear hM0 M0
    refine ok_seq (fun M hM => ok_region rfl ?_)
    repeat ((try subst X); (first | (first | apply zL | apply zH | apply zE); intro X hX | apply zh | apply zl | apply ze); try simp only [zU, reduceIte, Nat.reduceEqDiff, Nat.reduceAdd, reduceCtorEq, Q28])
    refine Runs.store h1 Fx.zi4 rfl (by intro u hu; simp [Value.cells] at hu; subst hu; rfl) (by simp) (fun w8 hc8 hs8 hb8 => ?_)
    repeat ((try subst X); (first | (first | apply zL | apply zH | apply zE); intro X hX | apply zh | apply zl | apply ze); try simp only [zU, reduceIte, Nat.reduceEqDiff, Nat.reduceAdd, reduceCtorEq, Q28])
    refine hM _ _ _ ?_; clear hM M
    refine ok_ret (finX_ret1 ((hc8.block _ (by have := (Array.getElem?_eq_some_iff.1 hd).1; exact this) (by omega)).trans hd) fun w9 hc9 hs9 => ?_)
    try simp only [zW, zU, reduceIte, Nat.reduceEqDiff, Nat.reduceAdd, reduceCtorEq, Q28]
    exact ⟨_, (hb8.chg hc9 (by omega)).cell rfl, rfl, (he04.chg_trans hcW (by omega)).chg_trans (hc8.trans' hc9) (by have := he04.size; have := hcW.size; omega)⟩
  · rintro W h1; exact h1.elim
  · rintro id W h1; exact h1.elim
end Go.Proofs.YtcpjojaklpgnkaaGreat
/- A region that draws its order, some of its waiting left out: what may come in more orders. -/
set_option linter.unusedVariables false
set_option linter.unusedSimpArgs false
namespace Go.Proofs.Vg
open Go Go.RowKit
def isData (e : Edge) : Bool := match e.ground with | .data => true | _ => false
def relax1 (R : List Nat) (i : Nat) (o : Oper) : Oper := if R.contains i then { o with after := o.after.filter isData } else o
def relaxL (R : List Nat) : Nat → List Oper → List Oper
  | _, [] => []
  | i, o :: r => relax1 R i o :: relaxL R (i + 1) r
def relax (R : List Nat) (ops : List Oper) : List Oper := relaxL R 0 ops
/-- They do the same. -/
def SameO (o o' : Oper) : Prop := o'.op = o.op ∧ o'.dst = o.dst ∧ o'.guard = o.guard ∧ o'.type = o.type
theorem relax1_same (R : List Nat) (i : Nat) (o : Oper) : SameO o (relax1 R i o) := by unfold relax1; split <;> exact ⟨rfl, rfl, rfl, rfl⟩
theorem relaxL_get (R : List Nat) : ∀ (l : List Oper) (k i : Nat), (relaxL R k l)[i]? = (l[i]?).map (relax1 R (k + i))
  | [], k, i => by simp [relaxL]
  | o :: r, k, i => by
    cases i with
    | zero => simp [relaxL]
    | succ i => simp only [relaxL, List.getElem?_cons_succ]; rw [relaxL_get R r (k + 1) i]; congr 2; omega
theorem relax_get (R : List Nat) (l : List Oper) (i : Nat) : (relax R l)[i]? = (l[i]?).map (relax1 R i) := by unfold relax; rw [relaxL_get]; simp
theorem relax_len (R : List Nat) (l : List Oper) : (relax R l).length = l.length := by
  have : ∀ (l : List Oper) (k : Nat), (relaxL R k l).length = l.length := by
    intro l
    induction l with
    | nil => intro k; rfl
    | cons o r ih => intro k; simp [relaxL, ih]
  exact this l 0
theorem needs_relax (R : List Nat) (i : Nat) (o : Oper) : ∀ k ∈ needs (relax1 R i o), k ∈ needs o := by
  intro k hk
  unfold relax1 at hk
  split at hk
  · simp only [needs, List.mem_filterMap] at hk ⊢
    obtain ⟨e, he, h⟩ := hk
    simp only [Array.toList_filter, List.mem_filter] at he
    exact ⟨e, he.1, h⟩
  · exact hk
theorem gdst_relax (R : List Nat) (ops : List Oper) (j : Nat) : gdst (relax R ops) j = gdst ops j := by
  unfold gdst
  rw [relax_get]
  cases h : ops[j]? with
  | none => rfl
  | some o => simp only [Option.map_some]; exact (relax1_same R j o).2.1
section
variable {P : Program} {ρ : Option Nat} {N : Nat} {K : Env} {ds : List Deferred} {w : World} {a : Act} {ops : List Oper} {C : World → Prop}
theorem wpH_same (R : List Nat) {M : Env → Prop} : ∀ (l l' : List Oper), l.length = l'.length → (∀ (i : Nat) (o o' : Oper), l[i]? = some o → l'[i]? = some o' → SameO o o') → wpH P (relax R ops) C M l' = wpH P ops C M l
  | [], [], _, _ => by funext K; simp only [wpH]
  | [], _ :: _, hl, _ => by simp at hl
  | _ :: _, [], hl, _ => by simp at hl
  | o :: r, o' :: r', hl, hs => by
    obtain ⟨h1, h2, h3, h4⟩ := hs 0 o o' rfl rfl
    have ih := wpH_same R (M := M) r r' (by simpa using hl) (fun i x x' hx hx' => hs (i + 1) x x' (by simpa using hx) (by simpa using hx'))
    funext K
    simp only [wpH, h1, h2, h3, h4, ih, gdst_relax]
theorem wpE_same (R : List Nat) {pan : List PanicEntry → Env → World → Prop} {M : Env → World → Prop} : ∀ (l l' : List Oper) (fl : List (Bool × Bool)), l.length = l'.length → (∀ (i : Nat) (o o' : Oper), l[i]? = some o → l'[i]? = some o' → SameO o o') → wpE P (relax R ops) C pan M fl l' = wpE P ops C pan M fl l
  | [], [], fl, _, _ => by funext K w; simp only [wpE]
  | [], _ :: _, _, hl, _ => by simp at hl
  | _ :: _, [], _, hl, _ => by simp at hl
  | o :: r, o' :: r', fl, hl, hs => by
    obtain ⟨h1, h2, h3, h4⟩ := hs 0 o o' rfl rfl
    have ih := wpE_same R (pan := pan) (M := M) r r' fl.tail (by simpa using hl) (fun i x x' hx hx' => hs (i + 1) x x' (by simpa using hx) (by simpa using hx'))
    funext K w
    simp only [wpE, h1, h2, h3, h4, ih, gdst_relax]
theorem any_drawP (σ : List Nat) (n : Nat) (fl : List (Bool × Bool)) (C : World → Prop) {Φ : Post} (hN : 0 < N) (hd : dstsOk N ops = true) (hB : orderOk ops σ n = true) (hfl : flags (reord ops σ) n = fl)
    (hC : C { w with drawn := w.drawn + 1 })
    (h : wpH P ops C (fun K' => ∀ w', C w' → wpE P ops C (fun ch K w => Φ (.panic ch) K ds w) (fun K w => Φ .normal K ds w) fl ((pickL ops σ).drop n) K' w') ((pickL ops σ).take n) K) :
    ∀ a, Kn K N ds a → wpAnyIn (fence ρ) 0 P .any ops.toArray (lift N Φ) ops.length (Array.replicate ops.length false) a { w with drawn := w.drawn + 1 } := by
  intro a ha
  subst hfl
  simp only [orderOk, Bool.and_eq_true] at hB
  obtain ⟨⟨hp, hσ⟩, hB⟩ := hB
  have hmm : ∀ i ∈ σ, i < ops.length := fun i hi => by simpa using List.all_eq_true.1 hσ i hi
  have hn := (drawOk_parts hB).1
  have hl : (reord ops σ).length = ops.length := by rw [reord, List.length_map, reord_len hp hmm]
  have hpl := reord_len hp hmm
  have hlen : ((pickL ops σ).take n).length = n := by simp [hpl]; omega
  have hdall : ∀ l, (∀ o ∈ l, o ∈ pickL ops σ) → dstsOk N l = true := fun l hl => by
    simp only [dstsOk, List.all_eq_true] at hd ⊢
    intro o ho
    obtain ⟨j, hj⟩ := List.mem_iff_getElem?.1 (hl o ho)
    rw [pickL_get σ hmm] at hj
    cases hs : σ[j]? with
    | none => rw [hs] at hj; simp at hj
    | some i => rw [hs] at hj; simp at hj; exact hd o (List.mem_of_getElem? hj)
  obtain ⟨A, V, K', hA, hst, hk', hM⟩ := wpHL_steps (ρ := ρ) hN (pickL ops σ) ((pickL ops σ).take n) 0 K a (fun j hj => by rw [hlen] at hj; simp [List.getElem?_take, hj]) (hdall _ fun o ho => List.mem_of_mem_take ho) ha h
  rw [hlen] at hst hk'
  simp only [Nat.zero_add] at hst hk'
  have orig : ∀ (i : Nat) (o : Oper), (reord ops σ)[i]? = some o → ∃ o0, (pickL ops σ)[i]? = some o0 ∧ o = ren (place σ) o0 := fun i o ho => by
    rw [reord, List.getElem?_map] at ho
    cases hx : (pickL ops σ)[i]? with
    | none => rw [hx] at ho; simp at ho
    | some o0 => rw [hx] at ho; simp at ho; exact ⟨o0, rfl, ho.symm⟩
  have := any_of_heads (P := P) (ρ := ρ) (C := C) (Q := lift N Φ) hB (A := A) (V := V) (fun i o hi ho => by
      obtain ⟨o0, h0, rfl⟩ := orig i o ho
      exact (hst i o0 (Nat.zero_le _) hi h0).1) (fun i o hi ho => by
      obtain ⟨o0, h0, rfl⟩ := orig i o ho
      exact (hst i o0 (Nat.zero_le _) hi h0).2.ren hp hmm)
    (fun w' hw' => by
      have := wpE_sound (ρ := ρ) (Φ := Φ) (ops := ops) (C := C) (pan := fun ch K w => Φ (.panic ch) K ds w) (M := fun K w => Φ .normal K ds w) (fun _ _ _ h => h) (fun _ _ h => h) ((pickL ops σ).drop n) _ _ _ _ (hdall _ fun o ho => List.mem_of_mem_drop ho) hk' (hM w' hw')
      have := wpT_ren hp hmm _ _ _ _ this
      rw [List.map_drop] at this
      exact this) hC
  rw [hA] at this
  rw [hl] at this
  have h8 := any_perm (Q := lift N Φ) hp hmm ops.length (Array.replicate ops.length false) (Array.replicate ops.length false) a _ (by simp) (by simp) (fun i hi => ?_) this
  · exact h8
  · have h9 := ((permOk_spec hp).2 i hi).2
    simp [hi, h9]

theorem pickL_relax (R : List Nat) (σ : List Nat) (hσ : ∀ i ∈ σ, i < ops.length) : (pickL (relax R ops) σ).length = (pickL ops σ).length ∧ ∀ (i : Nat) (o o' : Oper), (pickL ops σ)[i]? = some o → (pickL (relax R ops) σ)[i]? = some o' → SameO o o' := by
  have hσ' : ∀ i ∈ σ, i < (relax R ops).length := by rw [relax_len]; exact hσ
  have get : ∀ i : Nat, (pickL (relax R ops) σ)[i]? = ((σ[i]?).bind fun j => (ops[j]?).map (relax1 R j)) := fun i => by
    rw [pickL_get σ hσ']
    cases σ[i]? with
    | none => rfl
    | some j => simp only [Option.bind_some]; exact relax_get R ops j
  refine ⟨?_, fun i o o' h1 h2 => ?_⟩
  · refine Nat.le_antisymm ?_ ?_
    · refine Nat.le_of_not_lt fun hlt => ?_
      have h1 : (pickL ops σ)[(pickL ops σ).length]? = none := List.getElem?_eq_none (Nat.le_refl _)
      have h2 : (pickL (relax R ops) σ)[(pickL ops σ).length]? = some _ := List.getElem?_eq_getElem hlt
      rw [get] at h2
      rw [pickL_get σ hσ] at h1
      cases hs : σ[(pickL ops σ).length]? with
      | none => rw [hs] at h2; cases h2
      | some j => rw [hs] at h1 h2; simp at h1 h2; obtain ⟨x, hx, _⟩ := h2; have := (List.getElem?_eq_some_iff.1 hx).1; omega
    · refine Nat.le_of_not_lt fun hlt => ?_
      have h1 : (pickL (relax R ops) σ)[(pickL (relax R ops) σ).length]? = none := List.getElem?_eq_none (Nat.le_refl _)
      have h2 : (pickL ops σ)[(pickL (relax R ops) σ).length]? = some _ := List.getElem?_eq_getElem hlt
      rw [get] at h1
      rw [pickL_get σ hσ] at h2
      cases hs : σ[(pickL (relax R ops) σ).length]? with
      | none => rw [hs] at h2; cases h2
      | some j => rw [hs] at h1 h2; simp at h1 h2; have := (List.getElem?_eq_some_iff.1 h2).1; omega
  · rw [get] at h2
    rw [pickL_get σ hσ] at h1
    cases hs : σ[i]? with
    | none => rw [hs] at h1; cases h1
    | some j =>
      rw [hs] at h1 h2
      simp only [Option.bind_some] at h1 h2
      rw [h1] at h2
      simp at h2
      subst h2
      exact relax1_same R j o
theorem any_relax (R : List Nat) {Q : Exit → Act → World → Prop} (hn : needsOk ops = true) : ∀ (fuel : Nat) (listed : Array Bool) (a : Act) (w : World), listed.size = ops.length →
    wpAnyIn (fence ρ) 0 P .any (relax R ops).toArray Q fuel listed a w → wpAnyIn (fence ρ) 0 P .any ops.toArray Q fuel listed a w := by
  have hsz := relax_len R ops
  have sub_ready : ∀ (listed : Array Bool) (i : Nat), listed.size = ops.length → i ∈ Region.ready .any ops.toArray listed → i ∈ Region.ready .any (relax R ops).toArray listed := fun listed i hs hi => by
    obtain ⟨o, ho, h1, h2⟩ := (ready_iff hs).1 hi
    refine (ready_iff (by rw [hsz]; exact hs)).2 ⟨relax1 R i o, by rw [relax_get, ho]; rfl, h1, fun k hk => h2 k (needs_relax R i o k hk)⟩
  have none_ready : ∀ (listed : Array Bool), listed.size = ops.length → Region.ready .any ops.toArray listed = [] → Region.ready .any (relax R ops).toArray listed = [] := fun listed hs h0 => by
    apply List.eq_nil_iff_forall_not_mem.2
    intro i hi
    obtain ⟨o, ho, h1, _⟩ := (ready_iff (by rw [hsz]; exact hs)).1 hi
    have hil : i < ops.length := by rw [← hsz]; exact (List.getElem?_eq_some_iff.1 ho).1
    have hm : i ∈ missing ops.length listed := missing_mem.2 ⟨hil, h1⟩
    obtain ⟨j, hj, h3, h4⟩ := missing_first (n := ops.length) (listed := listed) (fun e => by rw [e] at hm; cases hm)
    have hoj : ops[j]? = some ops[j] := List.getElem?_eq_getElem hj
    have : j ∈ Region.ready .any ops.toArray listed := (ready_iff hs).2 ⟨_, hoj, h3, fun k hk => h4 k (needsOk_lt hn hoj k hk)⟩
    rw [h0] at this
    cases this
  have hop : ∀ (i : Nat) (Kt : Act → World → Prop) (a : Act) (w : World), wpOpIn (fence ρ) 0 P (relax R ops).toArray Q i Kt a w → wpOpIn (fence ρ) 0 P ops.toArray Q i Kt a w := fun i Kt a w h => by
    have hy : ∀ t, yielded (relax R ops).toArray t = yielded ops.toArray t := fun t => by
      funext j
      simp only [yielded, List.getElem?_toArray, relax_get]
      cases ops[j]? with
      | none => rfl
      | some o => simp only [Option.map_some, Option.bind_some, (relax1_same R j o).2.1]
    unfold wpOpIn at h ⊢
    simp only [List.getElem?_toArray, relax_get] at h ⊢
    cases ho : ops[i]? with
    | none => rw [ho] at h; exact h
    | some o =>
      rw [ho] at h
      simp only [Option.map_some, hy] at h ⊢
      unfold relax1 at h
      split at h <;> exact h
  intro fuel
  induction fuel with
  | zero =>
    intro listed a w hs h
    refine ⟨?_, h.2⟩
    apply List.eq_nil_iff_forall_not_mem.2
    intro i hi
    have := sub_ready listed i hs hi
    rw [h.1] at this; cases this
  | succ fuel ih =>
    intro listed a w hs h
    refine ⟨fun h0 => h.1 (none_ready listed hs h0), fun i hi => ?_⟩
    exact wpOpIn_mono (fun a w => ih _ a w (by simp [hs])) (hop i _ a w (h.2 i (sub_ready listed i hs hi)))
/-- A REGION THAT DRAWS ITS ORDER, taken in the order 'σ', the operations of R waiting for their operands alone. -/
theorem ok_drawR (R : List Nat) (σ : List Nat) (n : Nat) (fl : List (Bool × Bool)) (C : World → Prop) {id : Nat} {Φ : Post} (hm : P.follows .mixedOrders = true) (hN : 0 < N) (hd : dstsOk N ops = true) (hnd : needsOk ops = true) (hd' : dstsOk N (relax R ops) = true) (hB : orderOk (relax R ops) σ n = true) (hfl : flags (reord (relax R ops) σ) n = fl)
    (hC : C { w with drawn := w.drawn + 1 })
    (h : wpH P ops C (fun K' => ∀ w', C w' → wpE P ops C (fun ch K w => Φ (.panic ch) K ds w) (fun K w => Φ .normal K ds w) fl ((pickL ops σ).drop n) K' w') ((pickL ops σ).take n) K) :
    ok P ρ N (.region id ops.toArray true) K ds w Φ := by
  intro a ha
  refine wpIn_region_any hm ?_
  have hσ : ∀ i ∈ σ, i < ops.length := fun i hi => by
    simp only [orderOk, Bool.and_eq_true] at hB
    have := List.all_eq_true.1 hB.1.2 i hi
    rw [relax_len] at this
    simpa using this
  obtain ⟨hpl, hps⟩ := pickL_relax (ops := ops) R σ hσ
  have key := any_drawP (ρ := ρ) (ops := relax R ops) (K := K) (ds := ds) (w := w) σ n fl C (Φ := Φ) hN hd' hB hfl hC (by
    rw [wpH_same R ((pickL ops σ).take n) ((pickL (relax R ops) σ).take n) (by simp [hpl]) (fun i o o' h1 h2 => hps i o o' ?_ ?_)]
    · have : (fun K' => ∀ w', C w' → wpE P (relax R ops) C (fun ch K w => Φ (.panic ch) K ds w) (fun K w => Φ .normal K ds w) fl ((pickL (relax R ops) σ).drop n) K' w') = (fun K' => ∀ w', C w' → wpE P ops C (fun ch K w => Φ (.panic ch) K ds w) (fun K w => Φ .normal K ds w) fl ((pickL ops σ).drop n) K' w') := by
        funext K'
        rw [wpE_same R ((pickL ops σ).drop n) ((pickL (relax R ops) σ).drop n) fl (by simp [hpl]) (fun i o o' h1 h2 => hps (n + i) o o' (by rw [List.getElem?_drop] at h1; exact h1) (by rw [List.getElem?_drop] at h2; exact h2))]
      rw [this]
      exact h
    · rw [List.getElem?_take] at h1; split at h1; exact h1; cases h1
    · rw [List.getElem?_take] at h2; split at h2; exact h2; cases h2) a ha
  have := any_relax (ρ := ρ) R (Q := lift N Φ) hnd ops.length (Array.replicate ops.length false) a { w with drawn := w.drawn + 1 } (by simp) (by rw [relax_len] at key; exact key)
  simpa using this
end
end Go.Proofs.Vg
/- Chapter 31: cloneGoal, Find.  -/
set_option linter.unusedVariables false
set_option linter.unusedSimpArgs false
namespace Go.Proofs.YtcpjojaklpgnkaaGreat
open Go Go.Proofs.Vg Go.RowKit
theorem set_same {α : Type} {l : List α} {i : Nat} {x : α} (h : l[i]? = some x) : l.set i x = l := by
  obtain ⟨hl, rfl⟩ := List.getElem?_eq_some_iff.1 h
  exact List.set_getElem_self hl
-- -- function 50
set_option maxHeartbeats 8000000 in
set_option maxRecDepth 8000 in
theorem cloneGoal_ok (g : G) : ∀ (w : World) (S : Nat → Prop) (cs : List Value), Rd w S cs (encG g) →
    Rets Tryz.prog 50 [.agg cs.toArray] w (fun v w' => Ext w w' ∧ ∃ cs', v = .agg cs'.toArray ∧ Rd w' (fun k => S k ∨ w.heap.size ≤ k) cs' (encG g)) := by
  induction g using G.ind with
  | h g ih =>
  intro w S cs h
  replace h := h.mono (S' := fun k => S k ∧ k < w.heap.size) (fun k h1 h2 => ⟨h1, h2⟩)
  obtain ⟨Aa, ca, Ak, ck, Ac, cc, rfl, ha, hk, hc⟩ := rdG h
  obtain ⟨_, _, -, hkl, hkb, hkc⟩ := hk.hd
  obtain ⟨_, _, -, hcl, hcb, hcc⟩ := hc.hd
  obtain ⟨_, _, -, hal, hab, hac⟩ := ha.hd
  simp only [List.length_map] at hkl hkb hkc hcl hcb hcc hal hab hac
  refine rets_of_okC Tryz.func50 rfl rfl ?_
  refine ok_seq (fun M hM => ok_region rfl ?_)
  repeat ((try subst X); (first | (first | apply zL | apply zH | apply zE); intro X hX | apply zh | apply zl | apply ze); try simp only [zU, reduceIte, Nat.reduceEqDiff, Nat.reduceAdd, reduceCtorEq, Q50])
  refine Runs.box (fun w1 he1 hs1 hb1 => ?_)
  rw [agg_cells] at hb1
  repeat ((try subst X); (first | (first | apply zL | apply zH | apply zE); intro X hX | apply zh | apply zl | apply ze); try simp only [zU, reduceIte, Nat.reduceEqDiff, Nat.reduceAdd, reduceCtorEq, Q50])
  refine Runs.alloc Fx.zi37 (fun w2 he2 hs2 hb2 => ?_)
  simp only [Value.cells] at hb2
  generalize hB1 : w.heap.size = B1 at *
  generalize hB2 : w1.heap.size = B2 at *
  repeat ((try subst X); (first | (first | apply zL | apply zH | apply zE); intro X hX | apply zh | apply zl | apply ze); try simp only [zU, reduceIte, Nat.reduceEqDiff, Nat.reduceAdd, reduceCtorEq, Q50])
  refine hM _ _ _ ?_; clear hM M
  replace hb1 := hb1.ext he2
  have he02 := he1.trans he2
  refine ok_seq (fun M hM => ?_)
  refine (ok_drawR [0, 3, 6, 8] [0, 1, 3, 4, 6, 8, 2, 5, 7, 9] 6 [(true, false), (false, false), (false, false), (false, true)] (Ext _) Fx.mixed (by decide) rfl rfl rfl (by decide +kernel) (by decide +kernel) (Ext.drew _) ?_); simp only [pickL, List.getElem?_cons_zero, List.getElem?_cons_succ, List.take_succ_cons, List.take_zero, List.drop_succ_cons, List.drop_zero]
  repeat ((try subst X); (first | (first | apply zL | apply zH | apply zE); intro X hX | apply zh | apply zl | apply ze); try simp only [zU, reduceIte, Nat.reduceEqDiff, Nat.reduceAdd, reduceCtorEq, Q50])
  refine ⟨_, fun w' h => Blk.cell (Blk.ext (by assumption) h) rfl, ?_⟩
  repeat ((try subst X); (first | (first | apply zL | apply zH | apply zE); intro X hX | apply zh | apply zl | apply ze); try simp only [zU, reduceIte, Nat.reduceEqDiff, Nat.reduceAdd, reduceCtorEq, Q50])
  refine ⟨_, fun w' h => Blk.cell (Blk.ext (by assumption) h) rfl, ?_⟩
  repeat ((try subst X); (first | (first | apply zL | apply zH | apply zE); intro X hX | apply zh | apply zl | apply ze); try simp only [zU, reduceIte, Nat.reduceEqDiff, Nat.reduceAdd, reduceCtorEq, Q50])
  intro w3 he3
  repeat ((try subst X); (first | (first | apply zL | apply zH | apply zE); intro X hX | apply zh | apply zl | apply ze); try simp only [zU, reduceIte, Nat.reduceEqDiff, Nat.reduceAdd, reduceCtorEq, Q50])
  obtain ⟨F, hF1, hF2, hF3, hF4⟩ : ∃ F : Nat → Prop, (∀ k, F k → k ≠ B1 ∧ k ≠ B2) ∧ (∀ k, B2 < k → F k) ∧ (∀ k, S k ∧ k < B1 → F k) ∧ (∀ k, F k → S k ∨ B1 ≤ k) :=
    ⟨fun k => (S k ∧ k < B1) ∨ B2 < k, fun k h => by omega, fun k h => .inr h, fun k h => .inl h, fun k h => by rcases h with h | h; exact .inl h.1; exact .inr (by omega)⟩
  have hz2 : w2.heap.size = B2 + 1 := hs2
  have hz3 := he3.size
  have he03 := he02.trans he3
  refine Inv.call Fx.en66 (clone66 w3 (fun k => S k ∧ k < B1) _ _ (ha.ext he03) (by intro r hr; simp at hr; obtain ⟨x, -, rfl⟩ := hr; rfl)) ?_
  rintro va w4 ⟨he4, hva⟩
  have hz4 := he4.size
  repeat ((try subst X); (first | (first | apply zL | apply zH | apply zE); intro X hX | apply zh | apply zl | apply ze); try simp only [zU, reduceIte, Nat.reduceEqDiff, Nat.reduceAdd, reduceCtorEq, Q50])
  refine ⟨he3.trans he4, ?_⟩
  repeat ((try subst X); (first | (first | apply zL | apply zH | apply zE); intro X hX | apply zh | apply zl | apply ze); try simp only [zU, reduceIte, Nat.reduceEqDiff, Nat.reduceAdd, reduceCtorEq, Q50])
  have he04 := he03.trans he4
  have hvaL := fun k h => (hva.lt (k := k) h).2
  refine Inv.call Fx.en100 (clone100 w4 F _ _ ((hc.ext he04).mono fun k hk _ => hF3 k hk) (by intro r hr; simp at hr; obtain ⟨x, -, rfl⟩ := hr; rfl)) ?_
  rintro vc w5 ⟨he5, hvc⟩
  have hz5 := he5.size
  repeat ((try subst X); (first | (first | apply zL | apply zH | apply zE); intro X hX | apply zh | apply zl | apply ze); try simp only [zU, reduceIte, Nat.reduceEqDiff, Nat.reduceAdd, reduceCtorEq, Q50])
  have he25 := (he3.trans he4).trans he5
  have he05 := he04.trans he5
  replace hb1 := hb1.ext he25
  replace hb2 := hb2.ext he25
  replace hva := hva.ext he5
  obtain ⟨A5, c5, rfl, -⟩ := hva.len
  obtain ⟨A7, c7, rfl, -⟩ := hvc.len
  refine Runs.store hb1 Fx.zi29 rfl (by intro u hu; simp [Value.cells] at hu; subst hu; rfl) (by simp) (fun w6 hc6 hs6 hb6 => ?_)
  simp only [splice, Value.cells, List.length_singleton, Nat.reduceAdd, List.take_succ_cons, List.take_zero, List.drop_succ_cons, List.drop_zero, List.cons_append, List.nil_append, List.drop_nil] at hb6
  repeat ((try subst X); (first | (first | apply zL | apply zH | apply zE); intro X hX | apply zh | apply zl | apply ze); try simp only [zU, reduceIte, Nat.reduceEqDiff, Nat.reduceAdd, reduceCtorEq, Q50])
  refine Runs.store hb6 Fx.zi35 rfl (by intro u hu; simp [Value.cells] at hu; subst hu; rfl) (by simp) (fun w7 hc7 hs7 hb7 => ?_)
  simp only [splice, Value.cells, List.length_singleton, Nat.reduceAdd, List.take_succ_cons, List.take_zero, List.drop_succ_cons, List.drop_zero, List.cons_append, List.nil_append, List.drop_nil] at hb7
  repeat ((try subst X); (first | (first | apply zL | apply zH | apply zE); intro X hX | apply zh | apply zl | apply ze); try simp only [zU, reduceIte, Nat.reduceEqDiff, Nat.reduceAdd, reduceCtorEq, Q50])
  refine hM _ _ _ ?_; clear hM M
  have hc57 : Chg (fun x => x = B1) w5 w7 := hc6.trans hc7
  have he07 : Ext w w7 := he05.chg_trans hc57 (by intro k hk; omega)
  replace hb2 := hb2.chg hc57 (by omega)
  replace hvc := hvc.chg hc57 (fun k hk e => by have := (hvc.lt hk).1; omega) (fun k hk _ => (hF1 k hk).1)
  replace hva := hva.chg hc57 (fun k hk e => by have := (hva.lt hk).1; omega) (fun k hk _ => (hF1 k (hF3 k hk)).1)
  have hkR : Rd w7 F [.slice Ak g.kids.length ck] [.sl 128 (g.kids.map encG)] := (hk.ext he07).mono fun k hk _ => hF3 k hk
  have hvb := fun k h => (hvc.lt (k := k) h).1
  have hval := fun k h => (hva.lt (k := k) h)
  replace hvc := hvc.rebase (b := B2 + 1) (by omega)
  obtain ⟨rows, hrows⟩ : ∃ rows, rows = g.cases.map fun r => [D.sl 24 (r.map encC)] := ⟨_, rfl⟩
  rw [← hrows] at hvc hb7
  have hrl : rows.length = g.cases.length := by simp [hrows]
  rw [hrl] at hvc hb7
  obtain ⟨va, hvaE⟩ : ∃ va, va = Value.slice A5 (g.args.map fun n => [iD n]).length c5 := ⟨_, rfl⟩
  obtain ⟨vc, hvcE⟩ : ∃ vc, vc = Value.slice A7 g.cases.length c7 := ⟨_, rfl⟩
  have hB27 : B2 < w7.heap.size := by have := hc57.size; omega
  have hva7 : Rd w7 (fun k => F k ∧ vc.ownBlock ≠ some k) [va] [isD g.args] := by
    rw [hvaE]
    refine hva.rd (by simpa using hal) (by simpa using hab) (fun k hkl hk => ?_)
    rcases hk with ⟨hk, _⟩ | hk
    · exact ⟨hF3 k hk, fun e => by have := (hvc.lt (hvcE ▸ e)).1; have := hk.2; omega⟩
    · have h1 := hvaL k hk
      exact ⟨hF2 k (by have := (hval k hk).1; omega), fun e => by have := hvb k (by rw [hvcE] at e; simpa [Value.ownBlock] using e); omega⟩
  have hvk7 : Rd w7 (fun k => F k ∧ vc.ownBlock ≠ some k) [.slice Ak g.kids.length ck] [.sl 128 (g.kids.map encG)] := by
    refine (hk.ext he07).mono fun k hk _ => ⟨hF3 k hk, fun e => ?_⟩
    have := (hvc.lt (hvcE ▸ e)).1
    have := hk.2
    omega
  rw [← hvaE, ← hvcE] at hb7
  rw [← hvcE] at hvc
  clear hkR hva hb6 hc6 hs6 hs7 hc7
  refine ok_join [(1, .pointer (some ⟨B1, 0, none⟩)), (2, .pointer (some ⟨B2, 0, none⟩))] (fun W => Ext w W ∧ B2 < W.heap.size ∧ Blk W B1 [.int .i64 g.kind, .int .i64 g.left, .int .i64 g.num, .string g.text, .int .i64 g.form, va, .slice Ak g.kids.length ck, vc, .int .i64 g.pos] 37 ∧ Blk W B2 [.int .i64 0, .int .i64 0, .int .i64 0, .string ByteArray.empty, .int .i64 0, .slice none 0 0, .slice none 0 0, .slice none 0 0, .int .i64 0] 37 ∧
      Own W F (B2 + 1) 105 1 vc rows ∧ Rd W (fun k => F k ∧ vc.ownBlock ≠ some k) [va] [isD g.args] ∧ Rd W (fun k => F k ∧ vc.ownBlock ≠ some k) [.slice Ak g.kids.length ck] [.sl 128 (g.kids.map encG)]) ?_ ?_
  · refine ok_seq (fun M hM => ok_region rfl ?_)
    repeat ((try subst X); (first | (first | apply zL | apply zH | apply zE); intro X hX | apply zh | apply zl | apply ze); try simp only [zU, reduceIte, Nat.reduceEqDiff, Nat.reduceAdd, reduceCtorEq, Q50])
    refine ⟨_, Blk.cell (by assumption) rfl, ?_⟩
    rw [hvcE]
    repeat ((try subst X); (first | (first | apply zL | apply zH | apply zE); intro X hX | apply zh | apply zl | apply ze); try simp only [zU, reduceIte, Nat.reduceEqDiff, Nat.reduceAdd, reduceCtorEq, Q50])
    refine hM _ _ _ ?_; clear hM M
    rw [← hvcE]
    refine ok_for [(1, .pointer (some ⟨B1, 0, none⟩)), (2, .pointer (some ⟨B2, 0, none⟩)), (17, vc)] (fun i W => Ext w W ∧ B2 < W.heap.size ∧ Blk W B1 [.int .i64 g.kind, .int .i64 g.left, .int .i64 g.num, .string g.text, .int .i64 g.form, va, .slice Ak g.kids.length ck, vc, .int .i64 g.pos] 37 ∧ Blk W B2 [.int .i64 0, .int .i64 0, .int .i64 0, .string ByteArray.empty, .int .i64 0, .slice none 0 0, .slice none 0 0, .slice none 0 0, .int .i64 0] 37 ∧
      Own W F (B2 + 1) 105 1 vc rows ∧ Rd W (fun k => F k ∧ vc.ownBlock ≠ some k) [va] [isD g.args] ∧ Rd W (fun k => F k ∧ vc.ownBlock ≠ some k) [.slice Ak g.kids.length ck] [.sl 128 (g.kids.map encG)]) rfl (by simp [sub, Env.get]) rfl (by simp [sub, Env.get]) hcl ⟨he07, hB27, hb7, hb2, hvc, hva7, hvk7⟩ ?_ ?_
    · rintro i W hi ⟨he, hB, hb1, hb2, hvc, hva, hvk⟩
      have hri : rows[i]? = some [D.sl 24 (g.cases[i].map encC)] := by simp [hrows, hi]
      obtain ⟨g7, cap, r, hv7, hcell, hrl1, hr⟩ := hvc.row hri (by omega)
      match r, hrl1 with
      | [x], _ =>
      have hx := hcell 0 x rfl
      rw [add_at] at hx
      rw [hvcE] at hv7
      injection hv7 with hA7 _ hc7
      subst hA7 hc7
      refine ok_seq (fun M hM => ok_region rfl ?_)
      rw [hvcE]
      repeat ((try subst X); (first | (first | apply zL | apply zH | apply zE); intro X hX | apply zh | apply zl | apply ze); try simp only [zU, reduceIte, Nat.reduceEqDiff, Nat.reduceAdd, reduceCtorEq, Q50])
      refine ⟨by omega, by omega, ?_⟩
      repeat ((try subst X); (first | (first | apply zL | apply zH | apply zE); intro X hX | apply zh | apply zl | apply ze); try simp only [zU, reduceIte, Nat.reduceEqDiff, Nat.reduceAdd, reduceCtorEq, Q50])
      refine ⟨x, by simpa [add_at] using hx, ?_⟩
      repeat ((try subst X); (first | (first | apply zL | apply zH | apply zE); intro X hX | apply zh | apply zl | apply ze); try simp only [zU, reduceIte, Nat.reduceEqDiff, Nat.reduceAdd, reduceCtorEq, Q50])
      refine hM _ _ _ ?_; clear hM M
      refine (ok_drawR [0, 5] [0, 1, 2, 3, 5, 4, 6] 5 [(true, false), (false, true)] (Ext _) Fx.mixed (by decide) rfl rfl rfl (by decide +kernel) (by decide +kernel) (Ext.drew _) ?_); simp only [pickL, List.getElem?_cons_zero, List.getElem?_cons_succ, List.take_succ_cons, List.take_zero, List.drop_succ_cons, List.drop_zero]
      repeat ((try subst X); (first | (first | apply zL | apply zH | apply zE); intro X hX | apply zh | apply zl | apply ze); try simp only [zU, reduceIte, Nat.reduceEqDiff, Nat.reduceAdd, reduceCtorEq, Q50])
      refine ⟨vc, fun w' h => Blk.cell (hb1.ext h) rfl, ?_⟩
      rw [hvcE]
      repeat ((try subst X); (first | (first | apply zL | apply zH | apply zE); intro X hX | apply zh | apply zl | apply ze); try simp only [zU, reduceIte, Nat.reduceEqDiff, Nat.reduceAdd, reduceCtorEq, Q50])
      refine ⟨by omega, by omega, ?_⟩
      repeat ((try subst X); (first | (first | apply zL | apply zH | apply zE); intro X hX | apply zh | apply zl | apply ze); try simp only [zU, reduceIte, Nat.reduceEqDiff, Nat.reduceAdd, reduceCtorEq, Q50])
      intro w8 he8
      repeat ((try subst X); (first | (first | apply zL | apply zH | apply zE); intro X hX | apply zh | apply zl | apply ze); try simp only [zU, reduceIte, Nat.reduceEqDiff, Nat.reduceAdd, reduceCtorEq, Q50])
      refine Inv.call Fx.en101 (clone101 w8 (fun k => F k ∧ vc.ownBlock ≠ some k) _ _ (hr.ext he8) (by intro r hr; simp at hr; obtain ⟨x, y, -, rfl⟩ := hr; rfl)) ?_
      rintro vl w9 ⟨he9, hvl⟩
      repeat ((try subst X); (first | (first | apply zL | apply zH | apply zE); intro X hX | apply zh | apply zl | apply ze); try simp only [zU, reduceIte, Nat.reduceEqDiff, Nat.reduceAdd, reduceCtorEq, Q50])
      have hz8 := he8.size
      have hz9 := he9.size
      have he89 := he8.trans he9
      obtain ⟨A9, c9, rfl, -⟩ := hvl.len
      have hlb : (g.cases[i].map encC).length * 24 ≤ 140737488355328 ∧ (g.cases[i].map encC).length ≤ 140737488355328 := by
        obtain ⟨_, _, -, h1, h2, -⟩ := hr.hd; exact ⟨h2, h1⟩
      have hvlR : Rd w9 (fun k => F k ∧ vc.ownBlock ≠ some k) [.slice A9 (g.cases[i].map encC).length c9] [.sl 24 (g.cases[i].map encC)] := hvl.rd hlb.2 hlb.1 (fun k _ hk => ?_)
      obtain ⟨g', cap', cur, hv', hbk, hle, hbg, hst⟩ := (hvc.ext he89).store hri (off := 0) hvlR (by simp) (by simp)
      rw [hvcE] at hv'
      injection hv' with hA' _ hc'
      cases hA'
      refine ⟨he89, ?_⟩
      repeat ((try subst X); (first | (first | apply zL | apply zH | apply zE); intro X hX | apply zh | apply zl | apply ze); try simp only [zU, reduceIte, Nat.reduceEqDiff, Nat.reduceAdd, reduceCtorEq, Q50])
      simp only [Nat.zero_add]
      refine Runs.store hbk Fx.zi105 rfl cell1s (by simpa using hle) (fun w10 hc10 hs10 hb10 => ?_)
      have hvc10 := hst w10 hc10 (by simpa [Value.cells] using hb10)
      rw [show spliceD [D.sl 24 (g.cases[i].map encC)] 0 [D.sl 24 (g.cases[i].map encC)] = [D.sl 24 (g.cases[i].map encC)] from rfl, set_same hri] at hvc10
      have hvo : vc.ownBlock = some g7 := by rw [hvcE]; rfl
      repeat ((try subst X); (first | (first | apply zL | apply zH | apply zE); intro X hX | apply zh | apply zl | apply ze); try simp only [zU, reduceIte, Nat.reduceEqDiff, Nat.reduceAdd, reduceCtorEq, Q50])
      exact ⟨by simp [sub, Env.get, hvcE], (he.trans he89).chg_trans hc10 (by omega), by have := hc10.size; omega, (hb1.ext he89).chg hc10 (by omega), (hb2.ext he89).chg hc10 (by omega), hvc10,
        (hva.ext he89).chg hc10 (fun k hk _ e => hk.2 (e ▸ hvo)), (hvk.ext he89).chg hc10 (fun k hk _ e => hk.2 (e ▸ hvo))⟩
      rcases hk with hk | hk
      · exact hk.1
      · have := (hvl.lt hk).1
        exact ⟨hF2 k (by omega), fun e => by have := (hvc.lt e).2; omega⟩
    · rintro W ⟨he, hB, hb1, hb2, hvc, hva, hvk⟩
      exact ⟨rfl, by simp [sub, Env.get], he, hB, hb1, hb2, hvc, hva, hvk⟩
  rintro W0 ⟨he, hB, hb1, hb2, hvc, hva, hvk⟩
  have hcR : Rd W0 (fun k => F k ∧ k < W0.heap.size) [vc] [casesD g.cases] := by
    have := hvc.rd (b := 24) (by rw [hrl]; exact hcl) (by rw [hrl]; exact hcb) (S' := fun k => F k ∧ k < W0.heap.size) (fun k hkl hk => by
      rcases hk with hk | hk
      · exact ⟨hk.1, hkl⟩
      · exact ⟨hF2 k (by have := (hvc.lt hk).1; omega), hkl⟩)
    rw [hrows] at this; exact this
  replace hva : Rd W0 (fun k => F k ∧ k < W0.heap.size) [va] [isD g.args] := hva.mono fun k hk hl => ⟨hk.1, hl⟩
  clear hvc hvk hva7 hvk7
  have hkW : Rd W0 (fun k => S k ∧ k < B1) [.slice Ak g.kids.length ck] [.sl 128 (g.kids.map encG)] := hk.ext he
  refine ok_seq (fun M hM => ok_region rfl ?_)
  repeat ((try subst X); (first | (first | apply zL | apply zH | apply zE); intro X hX | apply zh | apply zl | apply ze); try simp only [zU, reduceIte, Nat.reduceEqDiff, Nat.reduceAdd, reduceCtorEq, Q50])
  refine ⟨_, Blk.cell (by assumption) rfl, ?_⟩
  repeat ((try subst X); (first | (first | apply zL | apply zH | apply zE); intro X hX | apply zh | apply zl | apply ze); try simp only [zU, reduceIte, Nat.reduceEqDiff, Nat.reduceAdd, reduceCtorEq, Q50])
  refine hM _ _ _ ?_; clear hM M
  refine ok_seq (fun M hM => ok_region rfl ?_)
  repeat ((try subst X); (first | (first | apply zL | apply zH | apply zE); intro X hX | apply zh | apply zl | apply ze); try simp only [zU, reduceIte, Nat.reduceEqDiff, Nat.reduceAdd, reduceCtorEq, Q50])
  refine Runs.store hb1 Fx.zi34 rfl cell1s (by simp) (fun w3 hc3 hs3 hb3 => ?_)
  simp only [splice, Value.cells, List.length_singleton, Nat.reduceAdd, List.take_succ_cons, List.take_zero, List.drop_succ_cons, List.drop_zero, List.cons_append, List.nil_append, List.drop_nil] at hb3
  repeat ((try subst X); (first | (first | apply zL | apply zH | apply zE); intro X hX | apply zh | apply zl | apply ze); try simp only [zU, reduceIte, Nat.reduceEqDiff, Nat.reduceAdd, reduceCtorEq, Q50])
  refine hM _ _ _ ?_; clear hM M
  have he3 : Ext w w3 := he.chg_trans hc3 (by omega)
  replace hb2 := hb2.chg hc3 (by omega)
  replace hcR := hcR.chg hc3 (fun k hk _ => (hF1 k hk.1).1)
  replace hva := hva.chg hc3 (fun k hk _ => (hF1 k hk.1).1)
  replace hkW := hkW.chg hc3 (fun k hk _ => by have := hk.2; omega)
  generalize hZ : W0.heap.size = Z at *
  obtain ⟨vc', hvcE'⟩ : ∃ x, x = vc := ⟨_, rfl⟩
  refine ok_join [(1, .pointer (some ⟨B1, 0, none⟩)), (2, .pointer (some ⟨B2, 0, none⟩))] (fun W => Ext w W ∧ ∃ v, Blk W B1 [.int .i64 g.kind, .int .i64 g.left, .int .i64 g.num, .string g.text, .int .i64 g.form, va, v, vc, .int .i64 g.pos] 37 ∧ Blk W B2 [.int .i64 0, .int .i64 0, .int .i64 0, .string ByteArray.empty, .int .i64 0, .slice none 0 0, .slice none 0 0, .slice none 0 0, .int .i64 0] 37 ∧
      Own W F Z 37 9 v (g.kids.map encG) ∧ Rd W (fun k => F k ∧ k < Z) [va] [isD g.args] ∧ Rd W (fun k => F k ∧ k < Z) [vc] [casesD g.cases]) ?_ ?_
  · refine ok_seq (fun M hM => ok_region rfl ?_)
    repeat ((try subst X); (first | (first | apply zL | apply zH | apply zE); intro X hX | apply zh | apply zl | apply ze); try simp only [zU, reduceIte, Nat.reduceEqDiff, Nat.reduceAdd, reduceCtorEq, Q50])
    refine hM _ _ _ ?_; clear hM M
    refine ok_for [(1, .pointer (some ⟨B1, 0, none⟩)), (2, .pointer (some ⟨B2, 0, none⟩)), (34, .slice Ak g.kids.length ck)] (fun i W => Ext w W ∧ Z ≤ W.heap.size ∧ Rd W (fun k => S k ∧ k < B1) [.slice Ak g.kids.length ck] [.sl 128 (g.kids.map encG)] ∧ ∃ v, Blk W B1 [.int .i64 g.kind, .int .i64 g.left, .int .i64 g.num, .string g.text, .int .i64 g.form, va, v, vc, .int .i64 g.pos] 37 ∧ Blk W B2 [.int .i64 0, .int .i64 0, .int .i64 0, .string ByteArray.empty, .int .i64 0, .slice none 0 0, .slice none 0 0, .slice none 0 0, .int .i64 0] 37 ∧
      Own W F Z 37 9 v ((g.kids.take i).map encG) ∧ Rd W (fun k => F k ∧ k < Z) [va] [isD g.args] ∧ Rd W (fun k => F k ∧ k < Z) [vc] [casesD g.cases]) rfl (by simp [sub, Env.get]) rfl (by simp [sub, Env.get]) hkl ⟨he3, by omega, hkW, _, hb3, hb2, by simpa using Own.nil (by decide), hva, hcR⟩ ?_ ?_
    · rintro i W hi ⟨he, hZW, qkW, v, qb1, qb2, qown, qva, qcR⟩
      have hB1Z : B1 < Z := by omega
      have hB1W : B1 < W.heap.size := by omega
      obtain ⟨k1, o1, r1, hA1, -, hk1, hcell1, hr1⟩ := qkW.row (j := i) (row := encG g.kids[i]) (by simp [hi])
      subst hA1
      rw [encG_len] at hcell1
      have hrl1 : r1.length = 9 := by rw [hr1.len, encG_len]
      refine ok_seq (fun M hM => ok_region rfl ?_)
      repeat ((try subst X); (first | (first | apply zL | apply zH | apply zE); intro X hX | apply zh | apply zl | apply ze); try simp only [zU, reduceIte, Nat.reduceEqDiff, Nat.reduceAdd, reduceCtorEq, Q50])
      refine ⟨by omega, by omega, ?_⟩
      repeat ((try subst X); (first | (first | apply zL | apply zH | apply zE); intro X hX | apply zh | apply zl | apply ze); try simp only [zU, reduceIte, Nat.reduceEqDiff, Nat.reduceAdd, reduceCtorEq, Q50])
      refine ⟨r1, hrl1, by simpa [add_at] using hcell1, ?_⟩
      repeat ((try subst X); (first | (first | apply zL | apply zH | apply zE); intro X hX | apply zh | apply zl | apply ze); try simp only [zU, reduceIte, Nat.reduceEqDiff, Nat.reduceAdd, reduceCtorEq, Q50])
      refine Runs.alloc Fx.zi37 (fun w4 he4 hs4 hb4 => ?_)
      generalize hB4 : W.heap.size = B4 at *
      repeat ((try subst X); (first | (first | apply zL | apply zH | apply zE); intro X hX | apply zh | apply zl | apply ze); try simp only [zU, reduceIte, Nat.reduceEqDiff, Nat.reduceAdd, reduceCtorEq, Q50])
      refine Runs.store hb4 Fx.zi37 (by simpa [Value.cells] using hrl1) (fun u hu => (hr1.one u (by simpa [Value.cells] using hu)).1) (by simp [Value.cells]) (fun w5 hc5 hs5 hb5 => ?_)
      rw [agg_cells, splice_all _ _ (by simpa [Value.cells] using hrl1)] at hb5
      repeat ((try subst X); (first | (first | apply zL | apply zH | apply zE); intro X hX | apply zh | apply zl | apply ze); try simp only [zU, reduceIte, Nat.reduceEqDiff, Nat.reduceAdd, reduceCtorEq, Q50])
      refine hM _ _ _ ?_; clear hM M
      have hc45 : Chg (fun x => x = B4) W w5 := (he4.chg _).trans hc5
      have he45 : Ext W w5 := he4.chg_trans hc5 (by intro k hk; omega)
      replace qb1 := qb1.chg hc45 (by omega)
      replace qb2 := qb2.chg hc45 (by omega)
      replace qva := qva.chg hc45 (fun k hk _ => by have := hk.2; omega)
      replace qcR := qcR.chg hc45 (fun k hk _ => by have := hk.2; omega)
      replace qkW := qkW.chg hc45 (fun k hk _ => by have := hk.2; omega)
      replace qown := qown.chg hc45 (fun k hk => by have := (qown.lt hk).2; omega) (fun k _ hl => by omega)
      have hr5 := hr1.chg hc45 (fun k hk _ => by have := hk.2; omega)
      refine (ok_drawR [0, 6] [0, 1, 2, 6, 3, 4, 5, 7] 4 [(true, false), (true, false), (false, false), (false, true)] (Ext _) Fx.mixed (by decide) rfl rfl rfl (by decide +kernel) (by decide +kernel) (Ext.drew _) ?_); simp only [pickL, List.getElem?_cons_zero, List.getElem?_cons_succ, List.take_succ_cons, List.take_zero, List.drop_succ_cons, List.drop_zero]
      repeat ((try subst X); (first | (first | apply zL | apply zH | apply zE); intro X hX | apply zh | apply zl | apply ze); try simp only [zU, reduceIte, Nat.reduceEqDiff, Nat.reduceAdd, reduceCtorEq, Q50])
      refine ⟨_, fun w' h => Blk.cell (Blk.ext (by assumption) h) rfl, ?_⟩
      repeat ((try subst X); (first | (first | apply zL | apply zH | apply zE); intro X hX | apply zh | apply zl | apply ze); try simp only [zU, reduceIte, Nat.reduceEqDiff, Nat.reduceAdd, reduceCtorEq, Q50])
      refine ⟨_, hrl1, fun w' h => Blk.all (hb5.ext h), ?_⟩
      repeat ((try subst X); (first | (first | apply zL | apply zH | apply zE); intro X hX | apply zh | apply zl | apply ze); try simp only [zU, reduceIte, Nat.reduceEqDiff, Nat.reduceAdd, reduceCtorEq, Q50])
      intro w6 he6
      repeat ((try subst X); (first | (first | apply zL | apply zH | apply zE); intro X hX | apply zh | apply zl | apply ze); try simp only [zU, reduceIte, Nat.reduceEqDiff, Nat.reduceAdd, reduceCtorEq, Q50])
      refine Inv.call Fx.en50 (ih _ (List.getElem_mem hi) w6 (fun k => S k ∧ k < B1) r1 (hr5.ext he6)) ?_
      rintro _ w7 ⟨he7, cs7, rfl, hr7⟩
      repeat ((try subst X); (first | (first | apply zL | apply zH | apply zE); intro X hX | apply zh | apply zl | apply ze); try simp only [zU, reduceIte, Nat.reduceEqDiff, Nat.reduceAdd, reduceCtorEq, Q50])
      refine ⟨he6.trans he7, ?_⟩
      repeat ((try subst X); (first | (first | apply zL | apply zH | apply zE); intro X hX | apply zh | apply zl | apply ze); try simp only [zU, reduceIte, Nat.reduceEqDiff, Nat.reduceAdd, reduceCtorEq, Q50])
      refine Runs.lit1 Fx.un34 Fx.zi37 rfl rfl (by rw [hr7.len, encG_len]) (by decide) (by decide) (fun w8 he8 hs8 hb8 => ?_)
      repeat ((try subst X); (first | (first | apply zL | apply zH | apply zE); intro X hX | apply zh | apply zl | apply ze); try simp only [zU, reduceIte, Nat.reduceEqDiff, Nat.reduceAdd, reduceCtorEq, Q50])
      have he58 := (he6.trans he7).trans he8
      have hz6 := he6.size
      have hz58 := he58.size
      have hz5 := hc45.size
      refine ⟨he58, ?_⟩
      repeat ((try subst X); (first | (first | apply zL | apply zH | apply zE); intro X hX | apply zh | apply zl | apply ze); try simp only [zU, reduceIte, Nat.reduceEqDiff, Nat.reduceAdd, reduceCtorEq, Q50])
      have hlen : ((g.kids.take i).map encG).length = i := by simp; omega
      refine Runs.pushD Fx.un34 Fx.zi37 rfl (by decide) (qown.ext he58) hb8 ((hr7.ext he8).mono fun k hk _ => ⟨by rcases hk with hk | hk; exact hF3 k hk; exact hF2 k (by omega), fun e => ?_⟩) (encG_len _) (by rw [hlen]; omega) (by omega) (fun v9 w9 hown9 hc9 hblk9 => ?_)
      · have := qown.lt e
        rcases hk with hk | hk
        · have := hk.2; omega
        · omega
      obtain ⟨A9, c9, rfl, -⟩ := hown9.len
      repeat ((try subst X); (first | (first | apply zL | apply zH | apply zE); intro X hX | apply zh | apply zl | apply ze); try simp only [zU, reduceIte, Nat.reduceEqDiff, Nat.reduceAdd, reduceCtorEq, Q50])
      have hob : ∀ k, v.ownBlock = some k → Z ≤ k := fun k h => (qown.lt h).1
      replace qb1 := (qb1.ext he58).chg hc9 (fun e => by have := hob _ e; omega)
      refine Runs.store qb1 Fx.zi34 rfl cell1s (by simp) (fun w10 hc10 hs10 hb10 => ?_)
      simp only [splice, Value.cells, List.length_singleton, Nat.reduceAdd, List.take_succ_cons, List.take_zero, List.drop_succ_cons, List.drop_zero, List.cons_append, List.nil_append, List.drop_nil] at hb10
      repeat ((try subst X); (first | (first | apply zL | apply zH | apply zE); intro X hX | apply zh | apply zl | apply ze); try simp only [zU, reduceIte, Nat.reduceEqDiff, Nat.reduceAdd, reduceCtorEq, Q50])
      have hc510 : Chg (fun x => x = B1 ∨ Z ≤ x) w5 w10 := (he58.chg _).trans ((hc9.mono fun k _ hk => .inr (hob k hk)).trans (hc10.mono fun k _ hk => .inl hk))
      refine ⟨by simp [sub, Env.get], (he.trans he45).chg_trans hc510 (by intro k hk; omega), by have := hc510.size; omega, qkW.chg hc510 (fun k hk _ => by have := hk.2; omega), _, hb10, qb2.chg hc510 (by omega), ?_, qva.chg hc510 (fun k hk _ => by have := (hF1 k hk.1).1; have := hk.2; omega), qcR.chg hc510 (fun k hk _ => by have := (hF1 k hk.1).1; have := hk.2; omega)⟩
      rw [List.take_succ_eq_append_getElem hi, List.map_append]
      refine hown9.chg hc10 (fun k hk e => ?_) (fun k hk _ e => (hF1 k hk).1 e)
      have := (hown9.lt hk).1; omega
    · rintro W ⟨he, hZW, -, v, qb1, qb2, qown, qva, qcR⟩
      rw [List.take_length] at qown
      exact ⟨rfl, by simp [sub, Env.get], he, v, qb1, qb2, qown, qva, qcR⟩
  · rintro W ⟨he, v, hb1, hb2, hown, hva, hcR⟩
    obtain ⟨A9, c9, rfl, -⟩ := hown.len
    refine ok_seq (fun M hM => ok_region rfl ?_)
    repeat ((try subst X); (first | (first | apply zL | apply zH | apply zE); intro X hX | apply zh | apply zl | apply ze); try simp only [zU, reduceIte, Nat.reduceEqDiff, Nat.reduceAdd, reduceCtorEq, Q50])
    refine ⟨_, rfl, Blk.all (by assumption), ?_⟩
    repeat ((try subst X); (first | (first | apply zL | apply zH | apply zE); intro X hX | apply zh | apply zl | apply ze); try simp only [zU, reduceIte, Nat.reduceEqDiff, Nat.reduceAdd, reduceCtorEq, Q50])
    refine Runs.store hb2 Fx.zi37 rfl (by rw [hvaE, hvcE]; simp [Value.cells, Value.oneCell']) (by simp) (fun w5 hc5 hs5 hb5 => ?_)
    simp only [splice, Value.cells, List.length_cons, List.length_nil, Nat.reduceAdd, Nat.zero_add, List.take_zero, List.drop_succ_cons, List.drop_zero, List.append_nil, List.nil_append, List.drop_nil] at hb5
    repeat ((try subst X); (first | (first | apply zL | apply zH | apply zE); intro X hX | apply zh | apply zl | apply ze); try simp only [zU, reduceIte, Nat.reduceEqDiff, Nat.reduceAdd, reduceCtorEq, Q50])
    refine hM _ _ _ ?_; clear hM M
    refine ok_ret ?_
    try simp only [zW, zU, reduceIte, Nat.reduceEqDiff, Nat.reduceAdd, reduceCtorEq, Q50]
    have hl : (g.kids.map encG).length = g.kids.length := by simp
    refine ⟨_, rfl, hb5.all, he.chg_trans hc5 (by intro k hk; omega), _, rfl, ?_⟩
    refine Rd.mono (S := F) (rdG_mk ((hva.mono fun k hk _ => hk.1).chg hc5 (fun k hk _ e => (hF1 k hk).2 e)) ((hown.chg hc5 (fun k hk e => ?_) (fun k hk _ e => (hF1 k hk).2 e)).rd (by rw [hl]; omega) (by rw [hl]; omega) (fun k _ hk => ?_)) ((hcR.mono fun k hk _ => hk.1).chg hc5 (fun k hk _ e => (hF1 k hk).2 e))) (fun k hk _ => hF4 k hk)
    · have := (hown.lt hk).1; omega
    · rcases hk with ⟨hk, _⟩ | hk
      · exact hk
      · exact hF2 k (by have := (hown.lt hk).1; omega)
end Go.Proofs.YtcpjojaklpgnkaaGreat
/- Chapter 31: Find, given, put.  -/
set_option linter.unusedVariables false
set_option linter.unusedSimpArgs false
namespace Go.Proofs.Vg
def zeroG : G := .mk 0 0 0 ByteArray.empty 0 [] [] [] 0
/-- The goal at a path. -/
def findG : G → List Int → Option G
  | g, [] => some g
  | g, n :: r => if n < 0 ∨ (g.kids.length : Int) ≤ n then none else match g.kids[n.toNat]? with | some k => findG k r | none => none
theorem findG_bad {g : G} {n : Int} {r : List Int} (h : n < 0 ∨ (g.kids.length : Int) ≤ n) : findG g (n :: r) = none := by simp only [findG]; rw [if_pos h]
theorem findG_step {g k : G} {n : Int} {r : List Int} (h0 : 0 ≤ n) (h : n < (g.kids.length : Int)) (hk : g.kids[n.toNat]? = some k) : findG g (n :: r) = findG k r := by
  simp only [findG]; rw [if_neg (by omega), hk]
/-- Another goal at a path. -/
def putG : G → List Int → G → G
  | _, [], x => x
  | g, n :: r, x => match g.kids[n.toNat]? with | some k => g.withKids (g.kids.set n.toNat (putG k r x)) | none => g
theorem findG_cons {g : G} {n : Int} {r : List Int} (h : (findG g (n :: r)).isSome = true) : ∃ k, 0 ≤ n ∧ n < (g.kids.length : Int) ∧ g.kids[n.toNat]? = some k ∧ findG g (n :: r) = findG k r := by
  by_cases hb : n < 0 ∨ (g.kids.length : Int) ≤ n
  · rw [findG_bad hb] at h; cases h
  · have hk : g.kids[n.toNat]? = some (g.kids[n.toNat]'(by omega)) := List.getElem?_eq_getElem _
    exact ⟨_, by omega, by omega, hk, findG_step (by omega) (by omega) hk⟩
end Go.Proofs.Vg
namespace Go.Proofs.YtcpjojaklpgnkaaGreat
open Go Go.Proofs.Vg Go.RowKit
theorem st37 : stInf Tryz.prog 37 = some ([(0, 1), (1, 1), (2, 1), (3, 1), (4, 1), (5, 1), (6, 1), (7, 1), (8, 1)], #[.int .i64 0, .int .i64 0, .int .i64 0, .string ByteArray.empty, .int .i64 0, .slice none 0 0, .slice none 0 0, .slice none 0 0, .int .i64 0]) := by kernel_rfl
theorem rd_zeroG (w : World) (S : Nat → Prop) : Rd w S [.int .i64 0, .int .i64 0, .int .i64 0, .string ByteArray.empty, .int .i64 0, .slice none 0 0, .slice none 0 0, .slice none 0 0, .int .i64 0] (encG zeroG) :=
  rdG_mk (g := zeroG) Rd.empty Rd.empty Rd.empty
-- -- function 16
set_option maxHeartbeats 4000000 in
set_option maxRecDepth 8000 in
theorem find_ok (w : World) (S : Nat → Prop) (cs : List Value) (g : G) (vp : Value) (path : List Int) (h : Rd w S cs (encG g)) (hp : Rd w S [vp] [isD path]) :
    Rets Tryz.prog 16 [.agg cs.toArray, vp] w (fun v w' => Ext w w' ∧ ∃ cs', v = .tuple #[.agg cs'.toArray, .bool (findG g path).isSome] ∧ Rd w' (fun k => S k ∨ w.heap.size ≤ k) cs' (encG ((findG g path).getD zeroG))) := by
  obtain ⟨Ap, cp, rfl, hpl, hpc⟩ := hp.ints
  have hcl : cs.length = 9 := by rw [h.len, encG_len]
  refine rets_of_okC Tryz.func16 rfl rfl ?_
  refine ok_seq (fun M hM => ok_region rfl ?_)
  repeat ((try subst X); (first | (first | apply zL | apply zH | apply zE); intro X hX | apply zh | apply zl | apply ze); try simp only [zU, reduceIte, Nat.reduceEqDiff, Nat.reduceAdd, reduceCtorEq, Q16])
  refine Runs.box (fun w1 he1 hs1 hb1 => ?_)
  rw [agg_cells] at hb1
  repeat ((try subst X); (first | (first | apply zL | apply zH | apply zE); intro X hX | apply zh | apply zl | apply ze); try simp only [zU, reduceIte, Nat.reduceEqDiff, Nat.reduceAdd, reduceCtorEq, Q16])
  refine Runs.alloc Fx.zi37 (fun w2 he2 hs2 hb2 => ?_)
  simp only [Value.cells] at hb2
  generalize hB1 : w.heap.size = B1 at *
  generalize hB2 : w1.heap.size = B2 at *
  repeat ((try subst X); (first | (first | apply zL | apply zH | apply zE); intro X hX | apply zh | apply zl | apply ze); try simp only [zU, reduceIte, Nat.reduceEqDiff, Nat.reduceAdd, reduceCtorEq, Q16])
  refine hM _ _ _ ?_; clear hM M
  have he02 := he1.trans he2
  refine ok_seq (fun M0 hM0 => ?_)
  refine ok_seq (fun M hM => ok_region rfl ?_)
  repeat ((try subst X); (first | (first | apply zL | apply zH | apply zE); intro X hX | apply zh | apply zl | apply ze); try simp only [zU, reduceIte, Nat.reduceEqDiff, Nat.reduceAdd, reduceCtorEq, Q16])
  refine hM _ _ _ ?_; clear hM M
  refine ok_for [(8, .slice Ap path.length cp), (2, .pointer (some ⟨B1, 0, none⟩)), (4, .pointer (some ⟨B2, 0, none⟩))] (fun i W => Ext w W ∧ B2 < W.heap.size ∧ ∃ gi ci, findG g path = findG gi (path.drop i) ∧ Blk W B1 ci 37 ∧ Blk W B2 [.int .i64 0, .int .i64 0, .int .i64 0, .string ByteArray.empty, .int .i64 0, .slice none 0 0, .slice none 0 0, .slice none 0 0, .int .i64 0] 37 ∧ Rd W (fun k => S k ∧ k < B1) ci (encG gi)) rfl (by simp [sub, Env.get]) rfl (by simp [sub, Env.get]) hpl ⟨he02, by omega, g, cs, rfl, hb1.ext he2, hb2, (h.mono (S' := fun k => S k ∧ k < B1) (fun k h1 h2 => ⟨h1, hB1 ▸ h2⟩)).ext he02⟩ ?_ ?_
  · rintro i W hi ⟨he, hB, gi, ci, hf, hb1, hb2, hg⟩
    have hx : path[i]? = some path[i] := List.getElem?_eq_getElem hi
    have hdr : path.drop i = path[i] :: path.drop (i + 1) := List.drop_eq_getElem_cons hi
    obtain ⟨k, o, hA, -, hcell⟩ := hpc i _ hx
    subst hA
    generalize hn : path[i] = n at *
    have hg0 := hg
    obtain ⟨Aa, ca, Ak, ck, Ac, cc, rfl, -, hk, -⟩ := rdG hg
    refine ok_seq (fun M hM => ok_region rfl ?_)
    repeat ((try subst X); (first | (first | apply zL | apply zH | apply zE); intro X hX | apply zh | apply zl | apply ze); try simp only [zU, reduceIte, Nat.reduceEqDiff, Nat.reduceAdd, reduceCtorEq, Q16])
    refine ⟨by omega, by omega, ?_⟩
    repeat ((try subst X); (first | (first | apply zL | apply zH | apply zE); intro X hX | apply zh | apply zl | apply ze); try simp only [zU, reduceIte, Nat.reduceEqDiff, Nat.reduceAdd, reduceCtorEq, Q16])
    refine ⟨_, he.cell (by simpa [add_at] using hcell), ?_⟩
    repeat ((try subst X); (first | (first | apply zL | apply zH | apply zE); intro X hX | apply zh | apply zl | apply ze); try simp only [zU, reduceIte, Nat.reduceEqDiff, Nat.reduceAdd, reduceCtorEq, Q16])
    refine hM _ _ _ ?_; clear hM M
    refine ok_seq (fun M hM => ?_)
    refine ok_join [(2, .pointer (some ⟨B1, 0, none⟩)), (4, .pointer (some ⟨B2, 0, none⟩)), (7, .int .i64 n), (8, .slice (some ⟨k, o, none⟩) path.length cp), (9, .int .i64 (path.length : Int)), (10, .int .i64 (i : Int)), (22, .bool (decide (n < 0 ∨ (gi.kids.length : Int) ≤ n)))] (fun w' => w' = W) ?_ ?_
    · refine ok_region rfl ?_
      repeat ((try subst X); (first | (first | apply zL | apply zH | apply zE); intro X hX | apply zh | apply zl | apply ze); try simp only [zU, reduceIte, Nat.reduceEqDiff, Nat.reduceAdd, reduceCtorEq, Q16])
      by_cases hneg : n < 0
      · simp only [hneg, decide_true, true_or]
        repeat ((try subst X); (first | (first | apply zL | apply zH | apply zE); intro X hX | apply zh | apply zl | apply ze); try simp only [zU, reduceIte, Nat.reduceEqDiff, Nat.reduceAdd, reduceCtorEq, Q16])
        refine ⟨fun h => (by cases h), fun _ => ?_⟩
        repeat ((try subst X); (first | (first | apply zL | apply zH | apply zE); intro X hX | apply zh | apply zl | apply ze); try simp only [zU, reduceIte, Nat.reduceEqDiff, Nat.reduceAdd, reduceCtorEq, Q16])
        simp [sub, Env.get, hneg]
      · simp only [hneg, decide_false, false_or]
        repeat ((try subst X); (first | (first | apply zL | apply zH | apply zE); intro X hX | apply zh | apply zl | apply ze); try simp only [zU, reduceIte, Nat.reduceEqDiff, Nat.reduceAdd, reduceCtorEq, Q16])
        refine ⟨fun _ => ?_, fun h => (by cases h)⟩
        repeat ((try subst X); (first | (first | apply zL | apply zH | apply zE); intro X hX | apply zh | apply zl | apply ze); try simp only [zU, reduceIte, Nat.reduceEqDiff, Nat.reduceAdd, reduceCtorEq, Q16])
        refine ⟨_, Blk.cell (by assumption) rfl, ?_⟩
        repeat ((try subst X); (first | (first | apply zL | apply zH | apply zE); intro X hX | apply zh | apply zl | apply ze); try simp only [zU, reduceIte, Nat.reduceEqDiff, Nat.reduceAdd, reduceCtorEq, Q16])
        simp [sub, Env.get, hneg]
    rintro _ rfl
    by_cases hbad : n < 0 ∨ (gi.kids.length : Int) ≤ n
    · have hnone : findG g path = none := by rw [hf, hdr]; exact findG_bad hbad
      refine ok_cond (b := true) (by simp [ev, Env.get, hbad]) (fun _ => ?_) (fun h => by cases h)
      refine ok_seq (fun M2 hM2 => ok_region rfl ?_)
      repeat ((try subst X); (first | (first | apply zL | apply zH | apply zE); intro X hX | apply zh | apply zl | apply ze); try simp only [zU, reduceIte, Nat.reduceEqDiff, Nat.reduceAdd, reduceCtorEq, Q16])
      refine Runs.build (parts := []) st37 rfl ?_
      repeat ((try subst X); (first | (first | apply zL | apply zH | apply zE); intro X hX | apply zh | apply zl | apply ze); try simp only [zU, reduceIte, Nat.reduceEqDiff, Nat.reduceAdd, reduceCtorEq, Q16])
      refine Runs.store hb2 Fx.zi37 rfl (by simp [Value.cells, Value.oneCell']) (by simp) (fun w5 hc5 hs5 hb5 => ?_)
      simp only [splice, Value.cells, List.length_cons, List.length_nil, Nat.reduceAdd, Nat.zero_add, List.take_zero, List.drop_succ_cons, List.drop_zero, List.append_nil, List.nil_append, List.drop_nil] at hb5
      repeat ((try subst X); (first | (first | apply zL | apply zH | apply zE); intro X hX | apply zh | apply zl | apply ze); try simp only [zU, reduceIte, Nat.reduceEqDiff, Nat.reduceAdd, reduceCtorEq, Q16])
      refine hM2 _ _ _ ?_; clear hM2 M2
      refine ok_ret ?_
      try simp only [zW, zU, reduceIte, Nat.reduceEqDiff, Nat.reduceAdd, reduceCtorEq, Q16]
      rw [hnone]
      exact ⟨_, rfl, hb5.all, he.chg_trans hc5 (by omega), _, rfl, rd_zeroG _ _⟩
    · refine ok_cond (b := false) (by simp [ev, Env.get, hbad]) (fun h => by cases h) (fun _ => ok_skip ?_)
      refine hM _ _ _ ?_; clear hM M
      have hkid : gi.kids[n.toNat]? = some (gi.kids[n.toNat]'(by omega)) := List.getElem?_eq_getElem _
      generalize gi.kids[n.toNat]'(by omega) = kd at hkid
      obtain ⟨k', o', r, hA', hSk, hkl, hcell', hr⟩ := hk.row (j := n.toNat) (row := encG kd) (by simp [hkid])
      subst hA'
      rw [encG_len] at hcell'
      have hrl : r.length = 9 := by rw [hr.len, encG_len]
      refine ok_region rfl ?_
      repeat ((try subst X); (first | (first | apply zL | apply zH | apply zE); intro X hX | apply zh | apply zl | apply ze); try simp only [zU, reduceIte, Nat.reduceEqDiff, Nat.reduceAdd, reduceCtorEq, Q16])
      refine ⟨_, Blk.cell (by assumption) rfl, ?_⟩
      repeat ((try subst X); (first | (first | apply zL | apply zH | apply zE); intro X hX | apply zh | apply zl | apply ze); try simp only [zU, reduceIte, Nat.reduceEqDiff, Nat.reduceAdd, reduceCtorEq, Q16])
      refine ⟨by omega, by omega, ?_⟩
      repeat ((try subst X); (first | (first | apply zL | apply zH | apply zE); intro X hX | apply zh | apply zl | apply ze); try simp only [zU, reduceIte, Nat.reduceEqDiff, Nat.reduceAdd, reduceCtorEq, Q16])
      refine ⟨r, hrl, by simpa [add_at] using hcell', ?_⟩
      repeat ((try subst X); (first | (first | apply zL | apply zH | apply zE); intro X hX | apply zh | apply zl | apply ze); try simp only [zU, reduceIte, Nat.reduceEqDiff, Nat.reduceAdd, reduceCtorEq, Q16])
      refine Runs.store hb1 Fx.zi37 (by simpa [Value.cells] using hrl) (fun u hu => (hr.one u (by simpa [Value.cells] using hu)).1) (by simp [Value.cells, hrl]) (fun w5 hc5 hs5 hb5 => ?_)
      rw [agg_cells, splice_all _ _ (by simpa using hrl)] at hb5
      repeat ((try subst X); (first | (first | apply zL | apply zH | apply zE); intro X hX | apply zh | apply zl | apply ze); try simp only [zU, reduceIte, Nat.reduceEqDiff, Nat.reduceAdd, reduceCtorEq, Q16])
      refine ⟨by simp [sub, Env.get], he.chg_trans hc5 (by omega), by have := hc5.size; omega, kd, r, ?_, hb5, hb2.chg hc5 (by omega), hr.chg hc5 (fun k hk _ => by have := hk.2; omega)⟩
      rw [hf, hdr]; exact findG_step (by omega) (by omega) hkid
  · rintro W ⟨he, hB, gi, ci, hf, hb1, hb2, hg⟩
    refine hM0 _ _ _ ?_; clear hM0 M0
    rw [List.drop_length] at hf
    have hl : ci.length = 9 := by rw [hg.len, encG_len]
    refine ok_seq (fun M hM => ok_region rfl ?_)
    repeat ((try subst X); (first | (first | apply zL | apply zH | apply zE); intro X hX | apply zh | apply zl | apply ze); try simp only [zU, reduceIte, Nat.reduceEqDiff, Nat.reduceAdd, reduceCtorEq, Q16])
    refine ⟨ci, hl, hb1.all, ?_⟩
    repeat ((try subst X); (first | (first | apply zL | apply zH | apply zE); intro X hX | apply zh | apply zl | apply ze); try simp only [zU, reduceIte, Nat.reduceEqDiff, Nat.reduceAdd, reduceCtorEq, Q16])
    refine Inv.call Fx.en50 (cloneGoal_ok gi W _ ci hg) ?_
    rintro _ w4 ⟨he4, cs4, rfl, hr4⟩
    have hl4 : cs4.length = 9 := by rw [hr4.len, encG_len]
    repeat ((try subst X); (first | (first | apply zL | apply zH | apply zE); intro X hX | apply zh | apply zl | apply ze); try simp only [zU, reduceIte, Nat.reduceEqDiff, Nat.reduceAdd, reduceCtorEq, Q16])
    refine Runs.store (hb2.ext he4) Fx.zi37 (by simpa [Value.cells] using hl4) (fun u hu => (hr4.one u (by simpa [Value.cells] using hu)).1) (by simp [Value.cells, hl4]) (fun w5 hc5 hs5 hb5 => ?_)
    rw [agg_cells, splice_all _ _ (by simpa using hl4)] at hb5
    repeat ((try subst X); (first | (first | apply zL | apply zH | apply zE); intro X hX | apply zh | apply zl | apply ze); try simp only [zU, reduceIte, Nat.reduceEqDiff, Nat.reduceAdd, reduceCtorEq, Q16])
    refine hM _ _ _ ?_; clear hM M
    refine ok_ret ?_
    try simp only [zW, zU, reduceIte, Nat.reduceEqDiff, Nat.reduceAdd, reduceCtorEq, Q16]
    refine ⟨cs4, hl4, hb5.all, (he.trans he4).chg_trans hc5 (by omega), cs4, ?_, ?_⟩
    · rw [hf]; rfl
    · rw [hf]
      refine (hr4.mono fun k hk _ => ?_).chg (S := fun k => S k ∧ k < B1 ∨ W.heap.size ≤ k) hc5 (fun k hk _ => by rcases hk with hk | hk; have := hk.2; omega; omega) |>.mono (fun k hk _ => by rcases hk with hk | hk; exact .inl hk.1; exact .inr (by have := he.size; omega))
      exact hk
-- -- function 71
set_option maxHeartbeats 4000000 in
set_option maxRecDepth 8000 in
theorem put_ok (path : List Int) : ∀ (w : World) (S : Nat → Prop) (cs cb : List Value) (g x : G) (vp : Value), Rd w S cs (encG g) → Rd w S [vp] [isD path] → Rd w S cb (encG x) → (findG g path).isSome = true →
    Rets Tryz.prog 71 [.agg cs.toArray, vp, .agg cb.toArray] w (fun v w' => Ext w w' ∧ ∃ cs', v = .agg cs'.toArray ∧ Rd w' (fun k => S k ∨ w.heap.size ≤ k) cs' (encG (putG g path x))) := by
  induction path with
  | nil =>
    intro w S cs cb g x vp h hp hx hf
    obtain ⟨Ap, cp, rfl, hpl, hpc⟩ := hp.ints
    have hlb : cb.length = 9 := by rw [hx.len, encG_len]
    refine rets_of_okC Tryz.func71 rfl rfl ?_
    refine ok_seq (fun M hM => ok_region rfl ?_)
    repeat ((try subst X); (first | (first | apply zL | apply zH | apply zE); intro X hX | apply zh | apply zl | apply ze); try simp only [zU, reduceIte, Nat.reduceEqDiff, Nat.reduceAdd, reduceCtorEq, Q71])
    refine Runs.box (fun w1 he1 hs1 hb1 => ?_)
    repeat ((try subst X); (first | (first | apply zL | apply zH | apply zE); intro X hX | apply zh | apply zl | apply ze); try simp only [zU, reduceIte, Nat.reduceEqDiff, Nat.reduceAdd, reduceCtorEq, Q71])
    refine Runs.box (fun w2 he2 hs2 hb2 => ?_)
    rw [agg_cells] at hb2
    repeat ((try subst X); (first | (first | apply zL | apply zH | apply zE); intro X hX | apply zh | apply zl | apply ze); try simp only [zU, reduceIte, Nat.reduceEqDiff, Nat.reduceAdd, reduceCtorEq, Q71])
    refine Runs.alloc Fx.zi37 (fun w3 he3 hs3 hb3 => ?_)
    simp only [Value.cells] at hb3
    repeat ((try subst X); (first | (first | apply zL | apply zH | apply zE); intro X hX | apply zh | apply zl | apply ze); try simp only [zU, reduceIte, Nat.reduceEqDiff, Nat.reduceAdd, reduceCtorEq, Q71])
    refine hM _ _ _ ?_; clear hM M
    refine ok_seq (fun M hM => ok_seq (fun M2 hM2 => ok_region rfl ?_))
    repeat ((try subst X); (first | (first | apply zL | apply zH | apply zE); intro X hX | apply zh | apply zl | apply ze); try simp only [zU, reduceIte, Nat.reduceEqDiff, Nat.reduceAdd, reduceCtorEq, Q71])
    refine hM2 _ _ _ ?_; clear hM2 M2
    refine ok_cond rfl (fun _ => ?_) (fun h => by cases h)
    refine ok_seq (fun M hM => ok_region rfl ?_)
    repeat ((try subst X); (first | (first | apply zL | apply zH | apply zE); intro X hX | apply zh | apply zl | apply ze); try simp only [zU, reduceIte, Nat.reduceEqDiff, Nat.reduceAdd, reduceCtorEq, Q71])
    refine ⟨cb, hlb, (hb2.ext he3).all, ?_⟩
    repeat ((try subst X); (first | (first | apply zL | apply zH | apply zE); intro X hX | apply zh | apply zl | apply ze); try simp only [zU, reduceIte, Nat.reduceEqDiff, Nat.reduceAdd, reduceCtorEq, Q71])
    have he03 := (he1.trans he2).trans he3
    have hz3 := he03.size
    have hz23 := (he1.trans he2).size
    refine Runs.store hb3 Fx.zi37 (by simpa [Value.cells] using hlb) (fun u hu => (hx.one u (by simpa [Value.cells] using hu)).1) (by simp [Value.cells, hlb]) (fun w5 hc5 hs5 hb5 => ?_)
    rw [agg_cells, splice_all _ _ (by simpa using hlb)] at hb5
    repeat ((try subst X); (first | (first | apply zL | apply zH | apply zE); intro X hX | apply zh | apply zl | apply ze); try simp only [zU, reduceIte, Nat.reduceEqDiff, Nat.reduceAdd, reduceCtorEq, Q71])
    refine hM _ _ _ ?_; clear hM M
    refine ok_ret ?_
    try simp only [zW, zU, reduceIte, Nat.reduceEqDiff, Nat.reduceAdd, reduceCtorEq, Q71]
    exact ⟨cb, hlb, hb5.all, he03.chg_trans hc5 (by omega), cb, rfl, ((hx.mono (S' := fun k => S k ∧ k < w.heap.size) fun k h1 h2 => ⟨h1, h2⟩).ext he03).chg hc5 (fun k hk _ => by have := hk.2; omega) |>.mono fun k hk _ => .inl hk.1⟩
  | cons n r ih =>
    intro w S cs cb g x vp h hp hx hf
    obtain ⟨Ap, cp, rfl, hpl, hpc⟩ := hp.ints
    obtain ⟨kd, hn0, hn1, hkd, hfk⟩ := findG_cons hf
    rw [hfk] at hf
    have hput : putG g (n :: r) x = g.withKids (g.kids.set n.toNat (putG kd r x)) := by simp only [putG]; rw [hkd]
    rw [hput]
    have hlb : cb.length = 9 := by rw [hx.len, encG_len]
    replace h := h.mono (S' := fun k => S k ∧ k < w.heap.size) (fun k h1 h2 => ⟨h1, h2⟩)
    replace hx := hx.mono (S' := fun k => S k ∧ k < w.heap.size) (fun k h1 h2 => ⟨h1, h2⟩)
    replace hp := hp.mono (S' := fun k => S k ∧ k < w.heap.size) (fun k h1 h2 => ⟨h1, h2⟩)
    obtain ⟨Aa, ca, Ak, ck, Ac, cc, rfl, ha, hk, hc⟩ := rdG h
    obtain ⟨_, _, -, hkl, hkb, hkc⟩ := hk.hd
    simp only [List.length_map] at hkl hkb hkc
    refine rets_of_okC Tryz.func71 rfl rfl ?_
    refine ok_seq (fun M hM => ok_region rfl ?_)
    repeat ((try subst X); (first | (first | apply zL | apply zH | apply zE); intro X hX | apply zh | apply zl | apply ze); try simp only [zU, reduceIte, Nat.reduceEqDiff, Nat.reduceAdd, reduceCtorEq, Q71])
    refine Runs.box (fun w1 he1 hs1 hb1 => ?_)
    rw [agg_cells] at hb1
    repeat ((try subst X); (first | (first | apply zL | apply zH | apply zE); intro X hX | apply zh | apply zl | apply ze); try simp only [zU, reduceIte, Nat.reduceEqDiff, Nat.reduceAdd, reduceCtorEq, Q71])
    refine Runs.box (fun w2 he2 hs2 hb2 => ?_)
    rw [agg_cells] at hb2
    repeat ((try subst X); (first | (first | apply zL | apply zH | apply zE); intro X hX | apply zh | apply zl | apply ze); try simp only [zU, reduceIte, Nat.reduceEqDiff, Nat.reduceAdd, reduceCtorEq, Q71])
    refine Runs.alloc Fx.zi37 (fun w3 he3 hs3 hb3 => ?_)
    simp only [Value.cells] at hb3
    generalize hB1 : w.heap.size = B1 at *
    generalize hB2 : w1.heap.size = B2 at *
    generalize hB3 : w2.heap.size = B3 at *
    repeat ((try subst X); (first | (first | apply zL | apply zH | apply zE); intro X hX | apply zh | apply zl | apply ze); try simp only [zU, reduceIte, Nat.reduceEqDiff, Nat.reduceAdd, reduceCtorEq, Q71])
    refine hM _ _ _ ?_; clear hM M
    refine ok_seq (fun M hM => ok_seq (fun M2 hM2 => ok_region rfl ?_))
    repeat ((try subst X); (first | (first | apply zL | apply zH | apply zE); intro X hX | apply zh | apply zl | apply ze); try simp only [zU, reduceIte, Nat.reduceEqDiff, Nat.reduceAdd, reduceCtorEq, Q71])
    refine hM2 _ _ _ ?_; clear hM2 M2
    refine ok_cond (b := false) (by simp [ev, Env.get]; omega) (fun h => by cases h) (fun _ => ok_skip ?_)
    refine hM _ _ _ ?_; clear hM M
    have he03 := (he1.trans he2).trans he3
    replace hb1 := (hb1.ext he2).ext he3
    replace hb2 := hb2.ext he3
    obtain ⟨F, hF1, hF2, hF3, hF4⟩ : ∃ F : Nat → Prop, (∀ k, F k → k ≠ B1 ∧ k ≠ B2 ∧ k ≠ B3) ∧ (∀ k, B3 < k → F k) ∧ (∀ k, S k ∧ k < B1 → F k) ∧ (∀ k, F k → S k ∨ B1 ≤ k) :=
      ⟨fun k => (S k ∧ k < B1) ∨ B3 < k, fun k h => by omega, fun k h => .inr h, fun k h => .inl h, fun k h => by rcases h with h | h; exact .inl h.1; exact .inr (by omega)⟩
    refine ok_seq (fun M hM => ok_region rfl ?_)
    repeat ((try subst X); (first | (first | apply zL | apply zH | apply zE); intro X hX | apply zh | apply zl | apply ze); try simp only [zU, reduceIte, Nat.reduceEqDiff, Nat.reduceAdd, reduceCtorEq, Q71])
    refine ⟨_, Blk.cell (by assumption) rfl, ?_⟩
    repeat ((try subst X); (first | (first | apply zL | apply zH | apply zE); intro X hX | apply zh | apply zl | apply ze); try simp only [zU, reduceIte, Nat.reduceEqDiff, Nat.reduceAdd, reduceCtorEq, Q71])
    refine Inv.call Fx.en123 (clone123 w3 (fun k => S k ∧ k < B1) _ _ (hk.ext he03) (mapG_wid _)) ?_
    rintro vk w4 ⟨he4, hown⟩
    have hz4 := he4.size
    obtain ⟨A4, c4, rfl, -⟩ := hown.len
    simp only [List.length_map] at hown
    repeat ((try subst X); (first | (first | apply zL | apply zH | apply zE); intro X hX | apply zh | apply zl | apply ze); try simp only [zU, reduceIte, Nat.reduceEqDiff, Nat.reduceAdd, reduceCtorEq, Q71])
    refine Runs.store (hb1.ext he4) Fx.zi34 rfl cell1s (by simp) (fun w5 hc5 hs5 hb5 => ?_)
    simp only [splice, Value.cells, List.length_singleton, Nat.reduceAdd, List.take_succ_cons, List.take_zero, List.drop_succ_cons, List.drop_zero, List.cons_append, List.nil_append, List.drop_nil, List.length_map] at hb5
    repeat ((try subst X); (first | (first | apply zL | apply zH | apply zE); intro X hX | apply zh | apply zl | apply ze); try simp only [zU, reduceIte, Nat.reduceEqDiff, Nat.reduceAdd, reduceCtorEq, Q71])
    refine hM _ _ _ ?_; clear hM M
    replace hb2 := (hb2.ext he4).chg hc5 (by omega)
    replace hb3 := (hb3.ext he4).chg hc5 (by omega)
    have he04 := he03.trans he4
    have he05 : Ext w w5 := he04.chg_trans hc5 (by omega)
    have hol := fun k h => (hown.lt (k := k) h)
    replace hown := hown.chg hc5 (fun k hk e => by have := (hol k hk).1; omega) (fun k hk _ => by have := hk.2; omega)
    have ha5 := ha.ext he05
    have hc5' := hc.ext he05
    have hx5 := hx.ext he05
    have hp5 := hp.ext he05
    simp only [List.length_map]
    obtain ⟨kp, op, hAp, -, hcell⟩ := hpc 0 n rfl
    subst hAp
    have hrowk : (g.kids.map encG)[n.toNat]? = some (encG kd) := by simp [hkd]
    obtain ⟨gk, capk, rk, hvk, hck, hrkl, hrk⟩ := hown.row hrowk (by simpa using hkl)
    simp only [List.length_map] at hvk
    injection hvk with hA4 _ hc4
    subst hA4 hc4
    have hlen1 : (((r.length + 1 : Nat) : Int)) = (r.length : Int) + 1 := by push_cast; rfl
    obtain ⟨Asl, csl, hsl, hslR⟩ := run_sliceD (P := Tryz.prog) (w := w5) Fx.un29 Fx.zi3 hp5 (by intro r hr; simp at hr; rcases hr with rfl | ⟨x, -, rfl⟩ <;> rfl) (some 1) none .i64 .i64 (by simp) (by simp)
    simp only [Option.map_some, Option.map_none, Option.getD_none, Option.getD_some] at hsl hslR
    refine ok_seq (fun M hM => ?_)
    refine (ok_drawR [0, 3, 5, 8, 10, 16] [0, 1, 2, 3, 4, 5, 6, 7, 8, 9, 10, 11, 12, 13, 14, 16, 15, 17] 16 [(true, false), (false, true)] (Ext _) Fx.mixed (by decide) rfl rfl rfl (by decide +kernel) (by decide +kernel) (Ext.drew _) ?_); simp only [pickL, List.getElem?_cons_zero, List.getElem?_cons_succ, List.take_succ_cons, List.take_zero, List.drop_succ_cons, List.drop_zero]
    repeat ((try subst X); (first | (first | apply zL | apply zH | apply zE); intro X hX | apply zh | apply zl | apply ze); try simp only [zU, reduceIte, Nat.reduceEqDiff, Nat.reduceAdd, reduceCtorEq, Q71])
    refine ⟨_, fun w' h => (hb5.ext h).cell rfl, ?_⟩
    repeat ((try subst X); (first | (first | apply zL | apply zH | apply zE); intro X hX | apply zh | apply zl | apply ze); try simp only [zU, reduceIte, Nat.reduceEqDiff, Nat.reduceAdd, reduceCtorEq, Q71])
    refine ⟨by omega, by first | omega | (simp; done) | (simp; omega), ?_⟩
    repeat ((try subst X); (first | (first | apply zL | apply zH | apply zE); intro X hX | apply zh | apply zl | apply ze); try simp only [zU, reduceIte, Nat.reduceEqDiff, Nat.reduceAdd, reduceCtorEq, Q71])
    refine ⟨.int .i64 n, fun w' h => (he05.trans h).cell (by simpa [add_at] using hcell), ?_⟩
    repeat ((try subst X); (first | (first | apply zL | apply zH | apply zE); intro X hX | apply zh | apply zl | apply ze); try simp only [zU, reduceIte, Nat.reduceEqDiff, Nat.reduceAdd, reduceCtorEq, Q71])
    refine ⟨_, fun w' h => (hb5.ext h).cell rfl, ?_⟩
    repeat ((try subst X); (first | (first | apply zL | apply zH | apply zE); intro X hX | apply zh | apply zl | apply ze); try simp only [zU, reduceIte, Nat.reduceEqDiff, Nat.reduceAdd, reduceCtorEq, Q71])
    refine ⟨by omega, by first | omega | (simp; done) | (simp; omega), ?_⟩
    repeat ((try subst X); (first | (first | apply zL | apply zH | apply zE); intro X hX | apply zh | apply zl | apply ze); try simp only [zU, reduceIte, Nat.reduceEqDiff, Nat.reduceAdd, reduceCtorEq, Q71])
    refine ⟨.int .i64 n, fun w' h => (he05.trans h).cell (by simpa [add_at] using hcell), ?_⟩
    repeat ((try subst X); (first | (first | apply zL | apply zH | apply zE); intro X hX | apply zh | apply zl | apply ze); try simp only [zU, reduceIte, Nat.reduceEqDiff, Nat.reduceAdd, reduceCtorEq, Q71])
    refine ⟨by omega, by first | omega | (simp; done) | (simp; omega), ?_⟩
    repeat ((try subst X); (first | (first | apply zL | apply zH | apply zE); intro X hX | apply zh | apply zl | apply ze); try simp only [zU, reduceIte, Nat.reduceEqDiff, Nat.reduceAdd, reduceCtorEq, Q71])
    refine ⟨rk, hrkl, fun w' h => h.cellsAt (by simpa [add_at] using hck), ?_⟩
    repeat ((try subst X); (first | (first | apply zL | apply zH | apply zE); intro X hX | apply zh | apply zl | apply ze); try simp only [zU, reduceIte, Nat.reduceEqDiff, Nat.reduceAdd, reduceCtorEq, Q71])
    refine ⟨_, fun w' _ => hsl w', ?_⟩
    repeat ((try subst X); (first | (first | apply zL | apply zH | apply zE); intro X hX | apply zh | apply zl | apply ze); try simp only [zU, reduceIte, Nat.reduceEqDiff, Nat.reduceAdd, reduceCtorEq, Q71])
    refine ⟨cb, hlb, fun w' h => (hb2.ext h).all, ?_⟩
    repeat ((try subst X); (first | (first | apply zL | apply zH | apply zE); intro X hX | apply zh | apply zl | apply ze); try simp only [zU, reduceIte, Nat.reduceEqDiff, Nat.reduceAdd, reduceCtorEq, Q71])
    refine ⟨by omega, by first | omega | (simp; done) | (simp; omega), ?_⟩
    repeat ((try subst X); (first | (first | apply zL | apply zH | apply zE); intro X hX | apply zh | apply zl | apply ze); try simp only [zU, reduceIte, Nat.reduceEqDiff, Nat.reduceAdd, reduceCtorEq, Q71])
    intro w6 he6
    repeat ((try subst X); (first | (first | apply zL | apply zH | apply zE); intro X hX | apply zh | apply zl | apply ze); try simp only [zU, reduceIte, Nat.reduceEqDiff, Nat.reduceAdd, reduceCtorEq, Q71])
    refine Inv.call Fx.en71 (ih w6 (fun k => S k ∧ k < B1) rk cb kd x _ ((hrk.ext he6).mono fun k hk _ => hk.1) ?_ (hx5.ext he6) hf) ?_
    · have := hslR w6 _ (hp5.ext he6)
      simp only [List.length_map, List.map_cons, List.length_cons] at this
      rw [List.take_of_length_le (by simp)] at this
      simpa using this
    rintro _ w7 ⟨he7, cs7, rfl, hr7⟩
    have hz6 := he6.size
    have hz7 := he7.size
    have hz5 := hc5.size
    have he57 := he6.trans he7
    have hl7 : cs7.length = 9 := by rw [hr7.len, encG_len]
    repeat ((try subst X); (first | (first | apply zL | apply zH | apply zE); intro X hX | apply zh | apply zl | apply ze); try simp only [zU, reduceIte, Nat.reduceEqDiff, Nat.reduceAdd, reduceCtorEq, Q71])
    refine ⟨he57, ?_⟩
    repeat ((try subst X); (first | (first | apply zL | apply zH | apply zE); intro X hX | apply zh | apply zl | apply ze); try simp only [zU, reduceIte, Nat.reduceEqDiff, Nat.reduceAdd, reduceCtorEq, Q71])
    have hown7 : Own w7 F w3.heap.size 37 9 (.slice (some ⟨gk, 0, none⟩) g.kids.length c4) (g.kids.map encG) := (hown.ext he57).mono fun k hk _ _ => hF3 k hk
    obtain ⟨g', cap', cur, hv', hbk, hle, hbg, hst⟩ := hown7.store hrowk (off := 0) (ds := encG (putG kd r x)) (hr7.mono fun k hk _ => ⟨by
      rcases hk with hk | hk
      · exact hF3 k hk
      · exact hF2 k (by omega), fun e => by
      have := hol k e
      rcases hk with hk | hk
      · have := hk.2; omega
      · omega⟩) (by rw [hl7]; decide) (by rw [hl7]; decide)
    simp only [List.length_map] at hv'
    injection hv' with hA' _ hc'
    cases hA'
    simp only [Nat.zero_add]
    refine Runs.store hbk Fx.zi37 (by simpa [Value.cells] using hl7) (fun u hu => (hr7.one u (by simpa [Value.cells] using hu)).1) (by rw [hl7] at hle; simpa using hle) (fun w8 hc8 hs8 hb8 => ?_)
    have hown8 := hst w8 hc8 (by simpa [Value.cells] using hb8)
    rw [show spliceD (encG kd) 0 (encG (putG kd r x)) = encG (putG kd r x) by simp [spliceD, encG_len]] at hown8
    have hg1 : gk ≠ B1 := by omega
    have hg2 : gk ≠ B2 := by omega
    have hg3 : gk ≠ B3 := by omega
    repeat ((try subst X); (first | (first | apply zL | apply zH | apply zE); intro X hX | apply zh | apply zl | apply ze); try simp only [zU, reduceIte, Nat.reduceEqDiff, Nat.reduceAdd, reduceCtorEq, Q71])
    refine hM _ _ _ ?_; clear hM M
    have hb58 : Chg (fun k => k = gk) w5 w8 := (he57.chg _).trans hc8
    refine ok_seq (fun M hM => ok_region rfl ?_)
    repeat ((try subst X); (first | (first | apply zL | apply zH | apply zE); intro X hX | apply zh | apply zl | apply ze); try simp only [zU, reduceIte, Nat.reduceEqDiff, Nat.reduceAdd, reduceCtorEq, Q71])
    refine ⟨_, rfl, (hb5.chg hb58 (fun e => hg1 e.symm)).all, ?_⟩
    repeat ((try subst X); (first | (first | apply zL | apply zH | apply zE); intro X hX | apply zh | apply zl | apply ze); try simp only [zU, reduceIte, Nat.reduceEqDiff, Nat.reduceAdd, reduceCtorEq, Q71])
    refine Runs.store (hb3.chg hb58 (fun e => hg3 e.symm)) Fx.zi37 rfl (by simp [Value.cells, Value.oneCell']) (by simp) (fun w9 hc9 hs9 hb9 => ?_)
    simp only [splice, Value.cells, List.length_cons, List.length_nil, Nat.reduceAdd, Nat.zero_add, List.take_zero, List.drop_succ_cons, List.drop_zero, List.append_nil, List.nil_append, List.drop_nil] at hb9
    repeat ((try subst X); (first | (first | apply zL | apply zH | apply zE); intro X hX | apply zh | apply zl | apply ze); try simp only [zU, reduceIte, Nat.reduceEqDiff, Nat.reduceAdd, reduceCtorEq, Q71])
    refine hM _ _ _ ?_; clear hM M
    refine ok_ret ?_
    try simp only [zW, zU, reduceIte, Nat.reduceEqDiff, Nat.reduceAdd, reduceCtorEq, Q71]
    have hc59 : Chg (fun k => k = gk ∨ k = B3) w5 w9 := hb58.trans' hc9
    have hgl := hol gk rfl
    refine ⟨_, rfl, hb9.all, he05.chg_trans hc59 (by intro k hk; omega), _, rfl, ?_⟩
    have hset : (g.kids.map encG).set n.toNat (encG (putG kd r x)) = (g.withKids (g.kids.set n.toNat (putG kd r x))).kids.map encG := by
      cases g; simp [G.withKids, G.kids, List.map_set]
    rw [hset] at hown8
    have hkl2 : ((g.withKids (g.kids.set n.toNat (putG kd r x))).kids.map encG).length = g.kids.length := by cases g; simp [G.withKids, G.kids]
    refine Rd.mono (S := F) ?_ (fun k hk _ => hF4 k hk)
    have := rdG_mk (g := g.withKids (g.kids.set n.toNat (putG kd r x))) (w := w9) (S := F) (va := .slice Aa g.args.length ca) (vk := .slice (some ⟨gk, 0, none⟩) g.kids.length c4) (vc := .slice Ac g.cases.length cc) ?_ ?_ ?_
    · cases g; exact this
    · have := (ha5.chg hc59 (fun k hk _ => by have := hk.2; omega)).mono (S' := F) fun k hk _ => hF3 k hk
      cases g; exact this
    · have := (hown8.chg hc9 (fun k hk => by cases hk; omega) (fun k hk _ => by have := (hF1 k hk).2.2; omega)).rd (b := 128) (by rw [hkl2]; exact hkl) (by rw [hkl2]; exact hkb) (S' := F) (fun k _ hk => by
        rcases hk with hk | hk
        · exact hk.1
        · exact hF2 k (by have := (hol k hk).1; omega))
      exact this
    · have := (hc5'.chg hc59 (fun k hk _ => by have := hk.2; omega)).mono (S' := F) fun k hk _ => hF3 k hk
      cases g; exact this
end Go.Proofs.YtcpjojaklpgnkaaGreat
