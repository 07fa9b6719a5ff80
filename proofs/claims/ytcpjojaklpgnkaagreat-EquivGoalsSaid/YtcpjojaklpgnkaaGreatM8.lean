/- Part 8 of 12: N14, N15, N16, N38. -/
import Derived.Test.YtcpjojaklpgnkaaGreatM7
import Derived.Test.YtcpjojaklpgnkaaGreatM4
import Derived.Test.YtcpjojaklpgnkaaGreatM6
import Derived.MapKept
/- Chapter 31: the reference's ahead, given.  -/
set_option linter.unusedVariables false
set_option linter.unusedSimpArgs false
namespace Go.Proofs.YtcpjojaklpgnkaaGreat
open Go Go.Proofs.Vg Go.RowKit
-- -- function 58
set_option maxHeartbeats 2000000 in
set_option maxRecDepth 8000 in
theorem rahead_ok (w : World) (S : Nat → Prop) (cs : List Value) (g : G) (n v : Int) (h : Rd w S cs (encG g)) (hn : 0 ≤ n) : Rets Tryz.prog 58 [.agg cs.toArray, .int .i64 n, .int .i64 v] w (fun r w' => r = .bool (aheadG g.kids n.toNat v) ∧ Ext w w') := by
  obtain ⟨Aa, ca, Ak, ck, Ac, cc, rfl, -, hk, -⟩ := rdG h
  obtain ⟨_, _, -, hkl, -, -⟩ := hk.hd
  simp only [List.length_map] at hkl
  refine rets_of_ok Tryz.func58 rfl rfl ?_
  refine ok_seq (fun M hM => ok_region rfl ?_)
  repeat ((try subst X); (first | (first | apply zL | apply zH | apply zE); intro X hX | apply zh | apply zl | apply ze); try simp only [zU, reduceIte, Nat.reduceEqDiff, Nat.reduceAdd, reduceCtorEq, Q58])
  refine Runs.box (fun w1 he1 hs1 hb1 => ?_)
  rw [agg_cells] at hb1
  repeat ((try subst X); (first | (first | apply zL | apply zH | apply zE); intro X hX | apply zh | apply zl | apply ze); try simp only [zU, reduceIte, Nat.reduceEqDiff, Nat.reduceAdd, reduceCtorEq, Q58])
  refine hM _ _ _ ?_; clear hM M
  refine ok_seq (fun M0 hM0 => ?_)
  refine ok_seq (fun M hM => ok_region rfl ?_); repeat ((try subst X); (first | (first | apply zL | apply zH | apply zE); intro X hX | apply zh | apply zl | apply ze); try simp only [zU, reduceIte, Nat.reduceEqDiff, Nat.reduceAdd, reduceCtorEq, Q58])
  refine hM _ _ _ ?_; clear hM M
  refine ok_while g.kids.length [(1, .int .i64 n), (2, .int .i64 v), (3, .pointer (some ⟨w.heap.size, 0, none⟩))] (fun i W => Ext w1 W ∧ aheadG g.kids n.toNat v = ((g.kids.take n.toNat).drop i).any fun k => occG k v) (fun i W => Ext w1 W ∧ (i : Int) < n ∧ aheadG g.kids n.toNat v = ((g.kids.take n.toNat).drop i).any fun k => occG k v) rfl rfl (by simp [sub, Env.get]) hkl ⟨Ext.refl _, by simp [aheadG]⟩ ?_ ?_
  · rintro i W hi ⟨he, hno⟩
    replace hb1 := hb1.ext he
    refine ok_region rfl ?_
    repeat ((try subst X); (first | (first | apply zL | apply zH | apply zE); intro X hX | apply zh | apply zl | apply ze); try simp only [zU, reduceIte, Nat.reduceEqDiff, Nat.reduceAdd, reduceCtorEq, Q58])
    by_cases h1 : (i : Int) < n
    · simp only [h1, decide_true]
      repeat ((try subst X); (first | (first | apply zL | apply zH | apply zE); intro X hX | apply zh | apply zl | apply ze); try simp only [zU, reduceIte, Nat.reduceEqDiff, Nat.reduceAdd, reduceCtorEq, Q58])
      refine ⟨fun _ => ?_, fun h => by cases h⟩
      repeat ((try subst X); (first | (first | apply zL | apply zH | apply zE); intro X hX | apply zh | apply zl | apply ze); try simp only [zU, reduceIte, Nat.reduceEqDiff, Nat.reduceAdd, reduceCtorEq, Q58])
      refine ⟨_, Blk.cell (by assumption) rfl, ?_⟩
      repeat ((try subst X); (first | (first | apply zL | apply zH | apply zE); intro X hX | apply zh | apply zl | apply ze); try simp only [zU, reduceIte, Nat.reduceEqDiff, Nat.reduceAdd, reduceCtorEq, Q58])
      refine ⟨by simp [sub, Env.get], wh (fun hlt => ⟨he, h1, hno⟩) (fun hge => ?_)⟩
      refine hM0 _ _ _ ?_; clear hM0 M0
      refine ok_seq (fun M hM => ok_region rfl ?_); repeat ((try subst X); (first | (first | apply zL | apply zH | apply zE); intro X hX | apply zh | apply zl | apply ze); try simp only [zU, reduceIte, Nat.reduceEqDiff, Nat.reduceAdd, reduceCtorEq, Q58])
      refine hM _ _ _ ?_; clear hM M
      refine ok_ret ?_
      try simp only [zW, zU, reduceIte, Nat.reduceEqDiff, Nat.reduceAdd, reduceCtorEq, Q58]
      refine ⟨?_, he1.trans he⟩
      rw [hno, List.drop_eq_nil_of_le (by simp; omega)]; rfl
    · simp only [h1, decide_false]
      repeat ((try subst X); (first | (first | apply zL | apply zH | apply zE); intro X hX | apply zh | apply zl | apply ze); try simp only [zU, reduceIte, Nat.reduceEqDiff, Nat.reduceAdd, reduceCtorEq, Q58])
      refine ⟨fun h => (by cases h), fun _ => ?_⟩
      repeat ((try subst X); (first | (first | apply zL | apply zH | apply zE); intro X hX | apply zh | apply zl | apply ze); try simp only [zU, reduceIte, Nat.reduceEqDiff, Nat.reduceAdd, reduceCtorEq, Q58])
      refine ⟨by simp [sub, Env.get], .inr ?_⟩
      refine hM0 _ _ _ ?_; clear hM0 M0
      refine ok_seq (fun M hM => ok_region rfl ?_); repeat ((try subst X); (first | (first | apply zL | apply zH | apply zE); intro X hX | apply zh | apply zl | apply ze); try simp only [zU, reduceIte, Nat.reduceEqDiff, Nat.reduceAdd, reduceCtorEq, Q58])
      refine hM _ _ _ ?_; clear hM M
      refine ok_ret ?_
      try simp only [zW, zU, reduceIte, Nat.reduceEqDiff, Nat.reduceAdd, reduceCtorEq, Q58]
      refine ⟨?_, he1.trans he⟩
      rw [hno, List.drop_eq_nil_of_le (by simp; omega)]; rfl
  · rintro i W hi ⟨he, hlt, hno⟩
    replace hb1 := hb1.ext he
    have hil : i < (g.kids.take n.toNat).length := by simp; omega
    have hdr : (g.kids.take n.toNat).drop i = g.kids[i] :: (g.kids.take n.toNat).drop (i + 1) := by rw [List.drop_eq_getElem_cons hil]; simp
    obtain ⟨k, o, r, hA, -, hkl', hcell, hr⟩ := (hk.ext (he1.trans he)).row (j := i) (row := encG g.kids[i]) (by simp [hi])
    subst hA
    rw [encG_len] at hcell
    have hrl : r.length = 9 := by rw [hr.len, encG_len]
    refine ok_seq (fun M hM => ok_region rfl ?_)
    repeat ((try subst X); (first | (first | apply zL | apply zH | apply zE); intro X hX | apply zh | apply zl | apply ze); try simp only [zU, reduceIte, Nat.reduceEqDiff, Nat.reduceAdd, reduceCtorEq, Q58])
    refine ⟨_, Blk.cell (by assumption) rfl, ?_⟩
    repeat ((try subst X); (first | (first | apply zL | apply zH | apply zE); intro X hX | apply zh | apply zl | apply ze); try simp only [zU, reduceIte, Nat.reduceEqDiff, Nat.reduceAdd, reduceCtorEq, Q58])
    refine ⟨by omega, by omega, ?_⟩
    repeat ((try subst X); (first | (first | apply zL | apply zH | apply zE); intro X hX | apply zh | apply zl | apply ze); try simp only [zU, reduceIte, Nat.reduceEqDiff, Nat.reduceAdd, reduceCtorEq, Q58])
    refine ⟨r, hrl, by simpa [add_at] using hcell, ?_⟩
    repeat ((try subst X); (first | (first | apply zL | apply zH | apply zE); intro X hX | apply zh | apply zl | apply ze); try simp only [zU, reduceIte, Nat.reduceEqDiff, Nat.reduceAdd, reduceCtorEq, Q58])
    refine Inv.call Fx.en19 (roccurs_ok _ v W _ r hr) ?_
    rintro _ w3 ⟨rfl, he3⟩
    repeat ((try subst X); (first | (first | apply zL | apply zH | apply zE); intro X hX | apply zh | apply zl | apply ze); try simp only [zU, reduceIte, Nat.reduceEqDiff, Nat.reduceAdd, reduceCtorEq, Q58])
    refine hM _ _ _ ?_; clear hM M
    cases hq : occG g.kids[i] v with
    | true =>
      refine ok_cond rfl (fun _ => ?_) (fun h => by cases h)
      refine ok_seq (fun M hM => ok_region rfl ?_); repeat ((try subst X); (first | (first | apply zL | apply zH | apply zE); intro X hX | apply zh | apply zl | apply ze); try simp only [zU, reduceIte, Nat.reduceEqDiff, Nat.reduceAdd, reduceCtorEq, Q58])
      refine hM _ _ _ ?_; clear hM M
      refine ok_ret ?_
      try simp only [zW, zU, reduceIte, Nat.reduceEqDiff, Nat.reduceAdd, reduceCtorEq, Q58]
      exact ⟨by rw [hno, hdr]; simp only [List.any_cons, hq, Bool.true_or], (he1.trans he).trans he3⟩
    | false =>
      refine ok_cond rfl (fun h => by cases h) (fun _ => ok_skip ?_)
      try simp only [zW, zU, reduceIte, Nat.reduceEqDiff, Nat.reduceAdd, reduceCtorEq, Q58]
      exact ⟨by simp [sub, Env.get], he.trans he3, by rw [hno, hdr]; simp only [List.any_cons, hq, Bool.false_or]⟩
-- -- function 57
set_option maxHeartbeats 4000000 in
set_option maxRecDepth 8000 in
theorem rgiven_ok (w : World) (S : Nat → Prop) (cs : List Value) (p : Pr) (insts : List In) (vi : Value) (v : Int) (h : Rd w S cs (encP p)) (hi : Rd w S [vi] [.sl 64 (insts.map encI)]) :
    Rets Tryz.prog 57 [.agg cs.toArray, vi, .int .i64 v] w (fun r w' => r = .bool (givenP p insts v) ∧ Ext w w') := by
  obtain ⟨Ai, ci, rfl, hil, -, -⟩ := hi.hd
  simp only [List.length_map] at hi hil
  obtain ⟨Av, cv, Ah, ch, Am, cm, Aa, ca, Ak, ck, Ac, cc, rfl, -, hh, hm, -⟩ := rdP h
  obtain ⟨_, _, hA, hhl, hhc⟩ := hh.ints
  injection hA with hA1 _ hA2
  subst hA1 hA2
  obtain ⟨_, _, -, hml, -, -⟩ := hm.hd
  simp only [List.length_map] at hml
  have hfin : ∀ i, (∀ j, j < i → givenAt p insts v j = false) → ¬ (i < p.heads.length ∧ i < p.modes.length) → givenP p insts v = false := fun i hno hge => by
    rw [givenP, List.any_eq_false]
    intro j hj
    rcases Nat.lt_or_ge j i with h1 | h1
    · rw [hno j h1]; simp
    · have hjl := List.mem_range.1 hj
      have : p.modes[j]? = none := List.getElem?_eq_none (by omega)
      simp [givenAt, this]
  refine rets_of_ok Tryz.func57 rfl rfl ?_
  refine ok_seq (fun M hM => ok_region rfl ?_)
  repeat ((try subst X); (first | (first | apply zL | apply zH | apply zE); intro X hX | apply zh | apply zl | apply ze); try simp only [zU, reduceIte, Nat.reduceEqDiff, Nat.reduceAdd, reduceCtorEq, Q57])
  refine Runs.box (fun w1 he1 hs1 hb1 => ?_)
  rw [agg_cells] at hb1
  repeat ((try subst X); (first | (first | apply zL | apply zH | apply zE); intro X hX | apply zh | apply zl | apply ze); try simp only [zU, reduceIte, Nat.reduceEqDiff, Nat.reduceAdd, reduceCtorEq, Q57])
  refine hM _ _ _ ?_; clear hM M
  refine ok_seq (fun M0 hM0 => ?_)
  refine ok_seq (fun M hM => ok_region rfl ?_); repeat ((try subst X); (first | (first | apply zL | apply zH | apply zE); intro X hX | apply zh | apply zl | apply ze); try simp only [zU, reduceIte, Nat.reduceEqDiff, Nat.reduceAdd, reduceCtorEq, Q57])
  refine hM _ _ _ ?_; clear hM M
  refine ok_while p.heads.length [(1, .slice Ai insts.length ci), (2, .int .i64 v), (3, .pointer (some ⟨w.heap.size, 0, none⟩))] (fun i W => w1 = W ∧ ∀ j, j < i → givenAt p insts v j = false) (fun i W => w1 = W ∧ i < p.modes.length ∧ ∀ j, j < i → givenAt p insts v j = false) rfl rfl (by simp [sub, Env.get]) hhl ⟨rfl, fun j h => by omega⟩ ?_ ?_
  · rintro i _ hi ⟨rfl, hno⟩
    refine ok_region rfl ?_
    repeat ((try subst X); (first | (first | apply zL | apply zH | apply zE); intro X hX | apply zh | apply zl | apply ze); try simp only [zU, reduceIte, Nat.reduceEqDiff, Nat.reduceAdd, reduceCtorEq, Q57])
    refine ⟨_, Blk.cell (by assumption) rfl, ?_⟩
    repeat ((try subst X); (first | (first | apply zL | apply zH | apply zE); intro X hX | apply zh | apply zl | apply ze); try simp only [zU, reduceIte, Nat.reduceEqDiff, Nat.reduceAdd, reduceCtorEq, Q57])
    by_cases h1 : i < p.heads.length
    · have h1' : decide ((i : Int) < (p.heads.length : Int)) = true := by simp [h1]
      simp only [h1']
      repeat ((try subst X); (first | (first | apply zL | apply zH | apply zE); intro X hX | apply zh | apply zl | apply ze); try simp only [zU, reduceIte, Nat.reduceEqDiff, Nat.reduceAdd, reduceCtorEq, Q57])
      refine ⟨fun _ => ?_, fun h => by cases h⟩
      repeat ((try subst X); (first | (first | apply zL | apply zH | apply zE); intro X hX | apply zh | apply zl | apply ze); try simp only [zU, reduceIte, Nat.reduceEqDiff, Nat.reduceAdd, reduceCtorEq, Q57])
      refine ⟨_, Blk.cell (by assumption) rfl, ?_⟩
      repeat ((try subst X); (first | (first | apply zL | apply zH | apply zE); intro X hX | apply zh | apply zl | apply ze); try simp only [zU, reduceIte, Nat.reduceEqDiff, Nat.reduceAdd, reduceCtorEq, Q57])
      refine ⟨by simp [sub, Env.get], ?_⟩
      by_cases h2 : i < p.modes.length
      · exact .inl ⟨by simp [h2], h1, h2, hno⟩
      · refine .inr ⟨by simp; omega, ?_⟩
        refine hM0 _ _ _ ?_; clear hM0 M0
        refine ok_seq (fun M hM => ok_region rfl ?_); repeat ((try subst X); (first | (first | apply zL | apply zH | apply zE); intro X hX | apply zh | apply zl | apply ze); try simp only [zU, reduceIte, Nat.reduceEqDiff, Nat.reduceAdd, reduceCtorEq, Q57])
        refine hM _ _ _ ?_; clear hM M
        refine ok_ret ?_
        try simp only [zW, zU, reduceIte, Nat.reduceEqDiff, Nat.reduceAdd, reduceCtorEq, Q57]
        exact ⟨congrArg _ (hfin i hno (by omega)).symm, he1⟩
    · have h1' : decide ((i : Int) < (p.heads.length : Int)) = false := by simp; omega
      simp only [h1']
      repeat ((try subst X); (first | (first | apply zL | apply zH | apply zE); intro X hX | apply zh | apply zl | apply ze); try simp only [zU, reduceIte, Nat.reduceEqDiff, Nat.reduceAdd, reduceCtorEq, Q57])
      refine ⟨fun h => (by cases h), fun _ => ?_⟩
      repeat ((try subst X); (first | (first | apply zL | apply zH | apply zE); intro X hX | apply zh | apply zl | apply ze); try simp only [zU, reduceIte, Nat.reduceEqDiff, Nat.reduceAdd, reduceCtorEq, Q57])
      refine ⟨by simp [sub, Env.get], .inr ?_⟩
      refine hM0 _ _ _ ?_; clear hM0 M0
      refine ok_seq (fun M hM => ok_region rfl ?_); repeat ((try subst X); (first | (first | apply zL | apply zH | apply zE); intro X hX | apply zh | apply zl | apply ze); try simp only [zU, reduceIte, Nat.reduceEqDiff, Nat.reduceAdd, reduceCtorEq, Q57])
      refine hM _ _ _ ?_; clear hM M
      refine ok_ret ?_
      try simp only [zW, zU, reduceIte, Nat.reduceEqDiff, Nat.reduceAdd, reduceCtorEq, Q57]
      exact ⟨congrArg _ (hfin i hno (by omega)).symm, he1⟩
  · rintro i _ hi' ⟨rfl, him, hno⟩
    have hx : p.heads[i]? = some p.heads[i] := List.getElem?_eq_getElem hi'
    obtain ⟨k, o, hA, -, hcell⟩ := hhc i _ hx
    subst hA
    generalize p.heads[i] = hd at hx hcell
    have hmi : p.modes[i]? = some p.modes[i] := List.getElem?_eq_getElem him
    obtain ⟨k2, o2, hAm, hmc⟩ := modeAt (hm.ext he1) hmi
    subst hAm
    generalize hmm : p.modes[i] = m at *
    have hga : givenAt p insts v i = (decide (hd = v) && bndI insts m.1) := by simp [givenAt, hx, hmi]
    refine ok_seq (fun M hM => ok_region rfl ?_)
    repeat ((try subst X); (first | (first | apply zL | apply zH | apply zE); intro X hX | apply zh | apply zl | apply ze); try simp only [zU, reduceIte, Nat.reduceEqDiff, Nat.reduceAdd, reduceCtorEq, Q57])
    refine ⟨_, Blk.cell (by assumption) rfl, ?_⟩
    repeat ((try subst X); (first | (first | apply zL | apply zH | apply zE); intro X hX | apply zh | apply zl | apply ze); try simp only [zU, reduceIte, Nat.reduceEqDiff, Nat.reduceAdd, reduceCtorEq, Q57])
    refine ⟨by omega, by omega, ?_⟩
    repeat ((try subst X); (first | (first | apply zL | apply zH | apply zE); intro X hX | apply zh | apply zl | apply ze); try simp only [zU, reduceIte, Nat.reduceEqDiff, Nat.reduceAdd, reduceCtorEq, Q57])
    refine ⟨_, by simpa [add_at] using hmc, ?_⟩
    repeat ((try subst X); (first | (first | apply zL | apply zH | apply zE); intro X hX | apply zh | apply zl | apply ze); try simp only [zU, reduceIte, Nat.reduceEqDiff, Nat.reduceAdd, reduceCtorEq, Q57])
    refine hM _ _ _ ?_; clear hM M
    refine ok_join [(1, .slice Ai insts.length ci), (2, .int .i64 v), (3, .pointer (some ⟨w.heap.size, 0, none⟩)), (7, .int .i64 (i : Int)), (53, .bool (givenAt p insts v i))] (fun w' => w1 = w') ?_ ?_
    · refine ok_region rfl ?_
      repeat ((try subst X); (first | (first | apply zL | apply zH | apply zE); intro X hX | apply zh | apply zl | apply ze); try simp only [zU, reduceIte, Nat.reduceEqDiff, Nat.reduceAdd, reduceCtorEq, Q57])
      refine ⟨_, Blk.cell (by assumption) rfl, ?_⟩
      repeat ((try subst X); (first | (first | apply zL | apply zH | apply zE); intro X hX | apply zh | apply zl | apply ze); try simp only [zU, reduceIte, Nat.reduceEqDiff, Nat.reduceAdd, reduceCtorEq, Q57])
      refine ⟨by omega, by omega, ?_⟩
      repeat ((try subst X); (first | (first | apply zL | apply zH | apply zE); intro X hX | apply zh | apply zl | apply ze); try simp only [zU, reduceIte, Nat.reduceEqDiff, Nat.reduceAdd, reduceCtorEq, Q57])
      refine ⟨_, he1.cell (by simpa [add_at] using hcell), ?_⟩
      repeat ((try subst X); (first | (first | apply zL | apply zH | apply zE); intro X hX | apply zh | apply zl | apply ze); try simp only [zU, reduceIte, Nat.reduceEqDiff, Nat.reduceAdd, reduceCtorEq, Q57])
      by_cases hv : hd = v
      · simp only [hv, decide_true]
        repeat ((try subst X); (first | (first | apply zL | apply zH | apply zE); intro X hX | apply zh | apply zl | apply ze); try simp only [zU, reduceIte, Nat.reduceEqDiff, Nat.reduceAdd, reduceCtorEq, Q57])
        refine ⟨fun _ => ?_, fun h => by cases h⟩
        repeat ((try subst X); (first | (first | apply zL | apply zH | apply zE); intro X hX | apply zh | apply zl | apply ze); try simp only [zU, reduceIte, Nat.reduceEqDiff, Nat.reduceAdd, reduceCtorEq, Q57])
        by_cases h0 : m.1 < 0
        · have hb : givenAt p insts v i = true := by rw [hga]; simp [hv, bndI, h0]
          simp only [h0, decide_true]
          repeat ((try subst X); (first | (first | apply zL | apply zH | apply zE); intro X hX | apply zh | apply zl | apply ze); try simp only [zU, reduceIte, Nat.reduceEqDiff, Nat.reduceAdd, reduceCtorEq, Q57])
          refine ⟨fun h => (by cases h), fun _ => ?_⟩
          repeat ((try subst X); (first | (first | apply zL | apply zH | apply zE); intro X hX | apply zh | apply zl | apply ze); try simp only [zU, reduceIte, Nat.reduceEqDiff, Nat.reduceAdd, reduceCtorEq, Q57])
          simp [sub, Env.get, hb]
        · simp only [h0, decide_false]
          repeat ((try subst X); (first | (first | apply zL | apply zH | apply zE); intro X hX | apply zh | apply zl | apply ze); try simp only [zU, reduceIte, Nat.reduceEqDiff, Nat.reduceAdd, reduceCtorEq, Q57])
          refine ⟨fun _ => ?_, fun h => by cases h⟩
          repeat ((try subst X); (first | (first | apply zL | apply zH | apply zE); intro X hX | apply zh | apply zl | apply ze); try simp only [zU, reduceIte, Nat.reduceEqDiff, Nat.reduceAdd, reduceCtorEq, Q57])
          by_cases h2 : (insts.length : Int) ≤ m.1
          · have hb : givenAt p insts v i = true := by rw [hga]; simp [hv, bndI, h2]
            simp only [h2, decide_true]
            repeat ((try subst X); (first | (first | apply zL | apply zH | apply zE); intro X hX | apply zh | apply zl | apply ze); try simp only [zU, reduceIte, Nat.reduceEqDiff, Nat.reduceAdd, reduceCtorEq, Q57])
            refine ⟨fun h => (by cases h), fun _ => ?_⟩
            repeat ((try subst X); (first | (first | apply zL | apply zH | apply zE); intro X hX | apply zh | apply zl | apply ze); try simp only [zU, reduceIte, Nat.reduceEqDiff, Nat.reduceAdd, reduceCtorEq, Q57])
            simp [sub, Env.get, hb]
          · simp only [h2, decide_false]
            repeat ((try subst X); (first | (first | apply zL | apply zH | apply zE); intro X hX | apply zh | apply zl | apply ze); try simp only [zU, reduceIte, Nat.reduceEqDiff, Nat.reduceAdd, reduceCtorEq, Q57])
            refine ⟨fun _ => ?_, fun h => by cases h⟩
            repeat ((try subst X); (first | (first | apply zL | apply zH | apply zE); intro X hX | apply zh | apply zl | apply ze); try simp only [zU, reduceIte, Nat.reduceEqDiff, Nat.reduceAdd, reduceCtorEq, Q57])
            have hin : insts[m.1.toNat]? = some (insts[m.1.toNat]'(by omega)) := List.getElem?_eq_getElem _
            generalize insts[m.1.toNat]'(by omega) = q at hin
            obtain ⟨k3, o3, hAi, hic⟩ := instAt (hi.ext he1) hin
            subst hAi
            refine ⟨by omega, by omega, ?_⟩
            repeat ((try subst X); (first | (first | apply zL | apply zH | apply zE); intro X hX | apply zh | apply zl | apply ze); try simp only [zU, reduceIte, Nat.reduceEqDiff, Nat.reduceAdd, reduceCtorEq, Q57])
            refine ⟨_, by simpa [add_at] using hic, ?_⟩
            repeat ((try subst X); (first | (first | apply zL | apply zH | apply zE); intro X hX | apply zh | apply zl | apply ze); try simp only [zU, reduceIte, Nat.reduceEqDiff, Nat.reduceAdd, reduceCtorEq, Q57])
            have hb : givenAt p insts v i = !decide (q.kind = 0) := by rw [hga]; simp [hv, bndI, h0, h2, hin]
            simp [sub, Env.get, hb]
      · have : givenAt p insts v i = false := by rw [hga]; simp [hv]
        simp only [hv, decide_false]
        repeat ((try subst X); (first | (first | apply zL | apply zH | apply zE); intro X hX | apply zh | apply zl | apply ze); try simp only [zU, reduceIte, Nat.reduceEqDiff, Nat.reduceAdd, reduceCtorEq, Q57])
        refine ⟨fun h => (by cases h), fun _ => ?_⟩
        repeat ((try subst X); (first | (first | apply zL | apply zH | apply zE); intro X hX | apply zh | apply zl | apply ze); try simp only [zU, reduceIte, Nat.reduceEqDiff, Nat.reduceAdd, reduceCtorEq, Q57])
        simp [sub, Env.get, this]
    rintro _ rfl
    cases hq : givenAt p insts v i with
    | true =>
      refine ok_cond rfl (fun _ => ?_) (fun h => by cases h)
      refine ok_seq (fun M hM => ok_region rfl ?_); repeat ((try subst X); (first | (first | apply zL | apply zH | apply zE); intro X hX | apply zh | apply zl | apply ze); try simp only [zU, reduceIte, Nat.reduceEqDiff, Nat.reduceAdd, reduceCtorEq, Q57])
      refine hM _ _ _ ?_; clear hM M
      refine ok_ret ?_
      try simp only [zW, zU, reduceIte, Nat.reduceEqDiff, Nat.reduceAdd, reduceCtorEq, Q57]
      refine ⟨congrArg _ (Eq.symm ?_), he1⟩
      rw [givenP, List.any_eq_true]
      exact ⟨i, List.mem_range.2 hi', hq⟩
    | false =>
      refine ok_cond rfl (fun h => by cases h) (fun _ => ok_skip ?_)
      try simp only [zW, zU, reduceIte, Nat.reduceEqDiff, Nat.reduceAdd, reduceCtorEq, Q57]
      refine ⟨by simp [sub, Env.get], fun j hj => ?_⟩
      rcases Nat.lt_or_ge j i with h1 | h1
      · exact hno j h1
      · have : j = i := by omega
        rw [this]; exact hq
end Go.Proofs.YtcpjojaklpgnkaaGreat
/- Chapter 31: the reference's Bound.  -/
set_option linter.unusedVariables false
set_option linter.unusedSimpArgs false
namespace Go.Proofs.YtcpjojaklpgnkaaGreat
open Go Go.Proofs.Vg Go.RowKit
theorem boundW_last (i : Nat) (v : Int) : ∀ (path : List Int) (g last : G), findG g path = some last → aheadG last.kids i v = true → boundW g path i v = true
  | [], g, last, h, ha => by cases h; exact ha
  | n :: r, g, last, h, ha => by
    obtain ⟨k, -, -, hk, hf⟩ := findG_cons (by rw [h]; rfl)
    rw [hf] at h
    have ih := boundW_last i v r k last h ha
    simp only [boundW, hk, ih, Bool.or_true]
-- -- function 21
set_option maxHeartbeats 8000000 in
set_option maxRecDepth 8000 in
theorem rBound_ok (w : World) (S : Nat → Prop) (cs : List Value) (p : Pr) (insts : List In) (vi vp : Value) (path : List Int) (idx v : Int) (h : Rd w S cs (encP p)) (hi : Rd w S [vi] [.sl 64 (insts.map encI)]) (hp : Rd w S [vp] [isD path]) (hh : p.body.ht ≤ 549755813888) :
    Rets Tryz.prog 21 [.agg cs.toArray, vi, vp, .int .i64 idx, .int .i64 v] w (fun r w' => r = .bool (boundP p insts path idx v) ∧ Ext w w') := by
  replace h := h.old
  replace hp := hp.old
  replace hi := hi.old
  have h0 := h
  have hcl := h.len
  obtain ⟨Av, cv, Ah, ch, Am, cm, Aa, ca, Ak, ck, Ac, cc, rfl, -, hhd, hm, hb⟩ := rdP h
  refine rets_of_ok Tryz.func21 rfl rfl ?_
  refine ok_seq (fun M hM => ok_region rfl ?_)
  repeat ((try subst X); (first | (first | apply zL | apply zH | apply zE); intro X hX | apply zh | apply zl | apply ze); try simp only [zU, reduceIte, Nat.reduceEqDiff, Nat.reduceAdd, reduceCtorEq, Q21])
  refine Runs.box (fun w1 he1 hs1 hb1 => ?_)
  rw [agg_cells] at hb1
  generalize hB1 : w.heap.size = B1 at *
  repeat ((try subst X); (first | (first | apply zL | apply zH | apply zE); intro X hX | apply zh | apply zl | apply ze); try simp only [zU, reduceIte, Nat.reduceEqDiff, Nat.reduceAdd, reduceCtorEq, Q21])
  refine hM _ _ _ ?_; clear hM M
  refine ok_seq (fun M hM => ok_region rfl ?_)
  repeat ((try subst X); (first | (first | apply zL | apply zH | apply zE); intro X hX | apply zh | apply zl | apply ze); try simp only [zU, reduceIte, Nat.reduceEqDiff, Nat.reduceAdd, reduceCtorEq, Q21])
  refine ⟨[.int .i64 p.body.kind, .int .i64 p.body.left, .int .i64 p.body.num, .string p.body.text, .int .i64 p.body.form, .slice Aa p.body.args.length ca, .slice Ak p.body.kids.length ck, .slice Ac p.body.cases.length cc, .int .i64 p.body.pos], rfl, Blk.at_ (o := 6) hb1 rfl, ?_⟩
  repeat ((try subst X); (first | (first | apply zL | apply zH | apply zE); intro X hX | apply zh | apply zl | apply ze); try simp only [zU, reduceIte, Nat.reduceEqDiff, Nat.reduceAdd, reduceCtorEq, Q21])
  refine Inv.call Fx.en17 (rfind_ok w1 _ _ p.body vp path (hb.ext he1) (hp.ext he1)) ?_
  rintro _ w2 ⟨he2, c2, rfl, hr2⟩
  have hl2 : c2.length = 9 := by rw [hr2.len, encG_len]
  repeat ((try subst X); (first | (first | apply zL | apply zH | apply zE); intro X hX | apply zh | apply zl | apply ze); try simp only [zU, reduceIte, Nat.reduceEqDiff, Nat.reduceAdd, reduceCtorEq, Q21])
  refine Runs.alloc Fx.zi37 (fun w3a he3a hs3a hb3a => ?_)
  simp only [Value.cells] at hb3a
  generalize hB3 : w2.heap.size = B3 at *
  repeat ((try subst X); (first | (first | apply zL | apply zH | apply zE); intro X hX | apply zh | apply zl | apply ze); try simp only [zU, reduceIte, Nat.reduceEqDiff, Nat.reduceAdd, reduceCtorEq, Q21])
  refine Runs.store hb3a Fx.zi37 (by simpa [Value.cells] using hl2) (fun u hu => (hr2.one u (by simpa [Value.cells] using hu)).1) (by simp [Value.cells]) (fun w3 hc3 hs3 hb3 => ?_)
  rw [agg_cells, splice_all _ _ (by simpa [Value.cells] using hl2)] at hb3
  have he3 : Ext w2 w3 := he3a.chg_trans hc3 (by omega)
  have he03 := (he1.trans he2).trans he3
  have hr3 : Rd w3 (fun k => k < B3) c2 (encG ((findG p.body path).getD zeroG)) := (hr2.mono (S' := fun k => k < B3) (fun k _ hl => by omega)).ext he3
  repeat ((try subst X); (first | (first | apply zL | apply zH | apply zE); intro X hX | apply zh | apply zl | apply ze); try simp only [zU, reduceIte, Nat.reduceEqDiff, Nat.reduceAdd, reduceCtorEq, Q21])
  refine hM _ _ _ ?_; clear hM M
  have hz12 := he2.size
  replace hb1 := hb1.ext (he2.trans he3)
  cases hf : findG p.body path with
  | none =>
    have hbp : boundP p insts path idx v = false := by simp [boundP, hf]
    refine ok_seq (fun M0 hM0 => ok_seq (fun M hM => ok_region rfl ?_))
    simp only [Option.isSome_none]
    repeat ((try subst X); (first | (first | apply zL | apply zH | apply zE); intro X hX | apply zh | apply zl | apply ze); try simp only [zU, reduceIte, Nat.reduceEqDiff, Nat.reduceAdd, reduceCtorEq, Q21])
    refine hM _ _ _ ?_; clear hM M
    refine ok_cond rfl (fun _ => ?_) (fun h => by cases h)
    refine ok_seq (fun M hM => ok_region rfl ?_); repeat ((try subst X); (first | (first | apply zL | apply zH | apply zE); intro X hX | apply zh | apply zl | apply ze); try simp only [zU, reduceIte, Nat.reduceEqDiff, Nat.reduceAdd, reduceCtorEq, Q21])
    refine hM _ _ _ ?_; clear hM M
    refine ok_ret ?_
    try simp only [zW, zU, reduceIte, Nat.reduceEqDiff, Nat.reduceAdd, reduceCtorEq, Q21]
    exact ⟨by rw [hbp], he03⟩
  | some last =>
    rw [hf] at hr3
    simp only [Option.getD_some] at hr3
    obtain ⟨Ba, ba, Bk, bk, Bc, bc, rfl, -, hk, -⟩ := rdG hr3
    refine ok_seq (fun M0 hM0 => ?_)
    refine ok_join [(1, vi), (2, vp), (3, .int .i64 idx), (4, .int .i64 v), (5, .pointer (some ⟨B1, 0, none⟩)), (11, .pointer (some ⟨B3, 0, none⟩)), (39, .bool (decide (last.kind ≠ 0 ∨ idx < 0 ∨ (last.kids.length : Int) < idx)))] (fun W => w3 = W) ?_ ?_
    · refine ok_region rfl ?_
      simp only [Option.isSome_some]
      repeat ((try subst X); (first | (first | apply zL | apply zH | apply zE); intro X hX | apply zh | apply zl | apply ze); try simp only [zU, reduceIte, Nat.reduceEqDiff, Nat.reduceAdd, reduceCtorEq, Q21])
      refine ⟨_, Blk.cell (by assumption) rfl, ?_⟩
      repeat ((try subst X); (first | (first | apply zL | apply zH | apply zE); intro X hX | apply zh | apply zl | apply ze); try simp only [zU, reduceIte, Nat.reduceEqDiff, Nat.reduceAdd, reduceCtorEq, Q21])
      by_cases h1 : last.kind = 0
      · simp only [h1, decide_true]
        repeat ((try subst X); (first | (first | apply zL | apply zH | apply zE); intro X hX | apply zh | apply zl | apply ze); try simp only [zU, reduceIte, Nat.reduceEqDiff, Nat.reduceAdd, reduceCtorEq, Q21])
        refine ⟨fun _ => ?_, fun h => by cases h⟩
        repeat ((try subst X); (first | (first | apply zL | apply zH | apply zE); intro X hX | apply zh | apply zl | apply ze); try simp only [zU, reduceIte, Nat.reduceEqDiff, Nat.reduceAdd, reduceCtorEq, Q21])
        by_cases h2 : idx < 0
        · simp only [h2, decide_true]
          repeat ((try subst X); (first | (first | apply zL | apply zH | apply zE); intro X hX | apply zh | apply zl | apply ze); try simp only [zU, reduceIte, Nat.reduceEqDiff, Nat.reduceAdd, reduceCtorEq, Q21])
          refine ⟨fun h => (by cases h), fun _ => ?_⟩
          repeat ((try subst X); (first | (first | apply zL | apply zH | apply zE); intro X hX | apply zh | apply zl | apply ze); try simp only [zU, reduceIte, Nat.reduceEqDiff, Nat.reduceAdd, reduceCtorEq, Q21])
          simp [sub, Env.get, h1, h2]
        · simp only [h2, decide_false]
          repeat ((try subst X); (first | (first | apply zL | apply zH | apply zE); intro X hX | apply zh | apply zl | apply ze); try simp only [zU, reduceIte, Nat.reduceEqDiff, Nat.reduceAdd, reduceCtorEq, Q21])
          refine ⟨fun _ => ?_, fun h => (by cases h)⟩
          repeat ((try subst X); (first | (first | apply zL | apply zH | apply zE); intro X hX | apply zh | apply zl | apply ze); try simp only [zU, reduceIte, Nat.reduceEqDiff, Nat.reduceAdd, reduceCtorEq, Q21])
          refine ⟨_, Blk.cell (by assumption) rfl, ?_⟩
          repeat ((try subst X); (first | (first | apply zL | apply zH | apply zE); intro X hX | apply zh | apply zl | apply ze); try simp only [zU, reduceIte, Nat.reduceEqDiff, Nat.reduceAdd, reduceCtorEq, Q21])
          simp [sub, Env.get, h1, h2]
      · simp only [h1, decide_false]
        repeat ((try subst X); (first | (first | apply zL | apply zH | apply zE); intro X hX | apply zh | apply zl | apply ze); try simp only [zU, reduceIte, Nat.reduceEqDiff, Nat.reduceAdd, reduceCtorEq, Q21])
        refine ⟨fun h => (by cases h), fun _ => ?_⟩
        repeat ((try subst X); (first | (first | apply zL | apply zH | apply zE); intro X hX | apply zh | apply zl | apply ze); try simp only [zU, reduceIte, Nat.reduceEqDiff, Nat.reduceAdd, reduceCtorEq, Q21])
        simp [sub, Env.get, h1]
    rintro _ rfl
    by_cases hbad : last.kind ≠ 0 ∨ idx < 0 ∨ (last.kids.length : Int) < idx
    · have hbp : boundP p insts path idx v = false := by simp only [boundP, hf]; rw [if_pos hbad]
      refine ok_cond (b := true) (by simp only [ev, Env.get, reduceIte, Nat.reduceEqDiff, hbad, decide_true]) (fun _ => ?_) (fun h => by cases h)
      refine ok_seq (fun M hM => ok_region rfl ?_); repeat ((try subst X); (first | (first | apply zL | apply zH | apply zE); intro X hX | apply zh | apply zl | apply ze); try simp only [zU, reduceIte, Nat.reduceEqDiff, Nat.reduceAdd, reduceCtorEq, Q21])
      refine hM _ _ _ ?_; clear hM M
      refine ok_ret ?_
      try simp only [zW, zU, reduceIte, Nat.reduceEqDiff, Nat.reduceAdd, reduceCtorEq, Q21]
      exact ⟨by rw [hbp], he03⟩
    · have hbp : boundP p insts path idx v = (givenP p insts v || boundW p.body path idx.toNat v) := by simp only [boundP, hf]; rw [if_neg hbad]
      refine ok_cond (b := false) (by simp only [ev, Env.get, reduceIte, Nat.reduceEqDiff, hbad, decide_false]) (fun h => by cases h) (fun _ => ok_skip ?_)
      refine hM0 _ _ _ ?_; clear hM0 M0
      refine ok_seq (fun M0 hM0 => ?_)
      refine ok_join [(1, vi), (2, vp), (3, .int .i64 idx), (4, .int .i64 v), (5, .pointer (some ⟨B1, 0, none⟩)), (49, .bool (givenP p insts v || aheadG last.kids idx.toNat v))] (fun W => Ext w3 W) ?_ ?_
      · refine ok_region rfl ?_
        repeat ((try subst X); (first | (first | apply zL | apply zH | apply zE); intro X hX | apply zh | apply zl | apply ze); try simp only [zU, reduceIte, Nat.reduceEqDiff, Nat.reduceAdd, reduceCtorEq, Q21])
        refine ⟨_, rfl, hb1.all, ?_⟩
        repeat ((try subst X); (first | (first | apply zL | apply zH | apply zE); intro X hX | apply zh | apply zl | apply ze); try simp only [zU, reduceIte, Nat.reduceEqDiff, Nat.reduceAdd, reduceCtorEq, Q21])
        refine Inv.call Fx.en57 (rgiven_ok w3 _ _ p insts vi v (h0.ext he03) (hi.ext he03)) ?_
        rintro _ w4 ⟨rfl, he4⟩
        repeat ((try subst X); (first | (first | apply zL | apply zH | apply zE); intro X hX | apply zh | apply zl | apply ze); try simp only [zU, reduceIte, Nat.reduceEqDiff, Nat.reduceAdd, reduceCtorEq, Q21])
        cases hg : givenP p insts v with
        | true =>
          repeat ((try subst X); (first | (first | apply zL | apply zH | apply zE); intro X hX | apply zh | apply zl | apply ze); try simp only [zU, reduceIte, Nat.reduceEqDiff, Nat.reduceAdd, reduceCtorEq, Q21])
          refine ⟨fun h => (by cases h), fun _ => ?_⟩
          repeat ((try subst X); (first | (first | apply zL | apply zH | apply zE); intro X hX | apply zh | apply zl | apply ze); try simp only [zU, reduceIte, Nat.reduceEqDiff, Nat.reduceAdd, reduceCtorEq, Q21])
          simp [sub, Env.get, he4]
          exact .inl hg
        | false =>
          repeat ((try subst X); (first | (first | apply zL | apply zH | apply zE); intro X hX | apply zh | apply zl | apply ze); try simp only [zU, reduceIte, Nat.reduceEqDiff, Nat.reduceAdd, reduceCtorEq, Q21])
          refine ⟨fun _ => ?_, fun h => by cases h⟩
          repeat ((try subst X); (first | (first | apply zL | apply zH | apply zE); intro X hX | apply zh | apply zl | apply ze); try simp only [zU, reduceIte, Nat.reduceEqDiff, Nat.reduceAdd, reduceCtorEq, Q21])
          refine ⟨_, rfl, (hb3.ext he4).all, ?_⟩
          repeat ((try subst X); (first | (first | apply zL | apply zH | apply zE); intro X hX | apply zh | apply zl | apply ze); try simp only [zU, reduceIte, Nat.reduceEqDiff, Nat.reduceAdd, reduceCtorEq, Q21])
          refine Inv.call Fx.en58 (rahead_ok w4 _ _ last idx v (hr3.ext he4) (by omega)) ?_
          rintro _ w5 ⟨rfl, he5⟩
          repeat ((try subst X); (first | (first | apply zL | apply zH | apply zE); intro X hX | apply zh | apply zl | apply ze); try simp only [zU, reduceIte, Nat.reduceEqDiff, Nat.reduceAdd, reduceCtorEq, Q21])
          simp [sub, Env.get, he4.trans he5]
          intro h; rw [hg] at h; cases h
      rintro w4 he4
      have he04 := he03.trans he4
      replace hb1 := hb1.ext he4
      cases hg : (givenP p insts v || aheadG last.kids idx.toNat v) with
      | true =>
        refine ok_cond rfl (fun _ => ?_) (fun h => by cases h)
        refine ok_seq (fun M hM => ok_region rfl ?_); repeat ((try subst X); (first | (first | apply zL | apply zH | apply zE); intro X hX | apply zh | apply zl | apply ze); try simp only [zU, reduceIte, Nat.reduceEqDiff, Nat.reduceAdd, reduceCtorEq, Q21])
        refine hM _ _ _ ?_; clear hM M
        refine ok_ret ?_
        try simp only [zW, zU, reduceIte, Nat.reduceEqDiff, Nat.reduceAdd, reduceCtorEq, Q21]
        refine ⟨?_, he04⟩
        rw [hbp]
        rcases Bool.or_eq_true_iff.1 hg with h1 | h1
        · rw [h1]; rfl
        · rw [boundW_last _ _ path p.body last hf h1, Bool.or_true]
      | false =>
        refine ok_cond rfl (fun h => by cases h) (fun _ => ok_skip ?_)
        refine hM0 _ _ _ ?_; clear hM0 M0
        obtain ⟨hg1, hg2⟩ := Bool.or_eq_false_iff.1 hg
        rw [hg1, Bool.false_or] at hbp
        obtain ⟨Ap, cp, rfl, hpl, hpc⟩ := hp.ints
        refine ok_seq (fun M hM => ok_region rfl ?_)
        repeat ((try subst X); (first | (first | apply zL | apply zH | apply zE); intro X hX | apply zh | apply zl | apply ze); try simp only [zU, reduceIte, Nat.reduceEqDiff, Nat.reduceAdd, reduceCtorEq, Q21])
        refine ⟨[.int .i64 p.body.kind, .int .i64 p.body.left, .int .i64 p.body.num, .string p.body.text, .int .i64 p.body.form, .slice Aa p.body.args.length ca, .slice Ak p.body.kids.length ck, .slice Ac p.body.cases.length cc, .int .i64 p.body.pos], rfl, Blk.at_ (o := 6) hb1 rfl, ?_⟩
        repeat ((try subst X); (first | (first | apply zL | apply zH | apply zE); intro X hX | apply zh | apply zl | apply ze); try simp only [zU, reduceIte, Nat.reduceEqDiff, Nat.reduceAdd, reduceCtorEq, Q21])
        refine Runs.alloc Fx.zi37 (fun w5a he5a hs5a hb5a => ?_)
        simp only [Value.cells] at hb5a
        generalize hB13 : w4.heap.size = B13 at *
        repeat ((try subst X); (first | (first | apply zL | apply zH | apply zE); intro X hX | apply zh | apply zl | apply ze); try simp only [zU, reduceIte, Nat.reduceEqDiff, Nat.reduceAdd, reduceCtorEq, Q21])
        refine Runs.store hb5a Fx.zi37 rfl (by simp [Value.cells, Value.oneCell']) (by simp) (fun w5 hc5 hs5 hb5 => ?_)
        simp only [splice, Value.cells, List.length_cons, List.length_nil, Nat.reduceAdd, Nat.zero_add, List.take_zero, List.drop_succ_cons, List.drop_zero, List.append_nil, List.nil_append, List.drop_nil] at hb5
        have he45 : Ext w4 w5 := he5a.chg_trans hc5 (by omega)
        have he05 := he04.trans he45
        have hz04 := he04.size
        repeat ((try subst X); (first | (first | apply zL | apply zH | apply zE); intro X hX | apply zh | apply zl | apply ze); try simp only [zU, reduceIte, Nat.reduceEqDiff, Nat.reduceAdd, reduceCtorEq, Q21])
        refine hM _ _ _ ?_; clear hM M
        refine ok_seq (fun M0 hM0 => ?_)
        refine ok_seq (fun M hM => ok_region rfl ?_); repeat ((try subst X); (first | (first | apply zL | apply zH | apply zE); intro X hX | apply zh | apply zl | apply ze); try simp only [zU, reduceIte, Nat.reduceEqDiff, Nat.reduceAdd, reduceCtorEq, Q21])
        refine hM _ _ _ ?_; clear hM M
        refine ok_while path.length [(2, .slice Ap path.length cp), (4, .int .i64 v), (13, .pointer (some ⟨B13, 0, none⟩))] (fun i W => Ext w W ∧ B13 < W.heap.size ∧ ∃ gi ci, findG gi (path.drop i) = some last ∧ boundW p.body path idx.toNat v = boundW gi (path.drop i) idx.toNat v ∧ gi.ht ≤ p.body.ht ∧ Blk W B13 ci 37 ∧ Rd W (fun k => k < B13) ci (encG gi)) (fun i W => Ext w W ∧ B13 < W.heap.size ∧ ∃ gi ci, findG gi (path.drop i) = some last ∧ boundW p.body path idx.toNat v = boundW gi (path.drop i) idx.toNat v ∧ gi.ht ≤ p.body.ht ∧ Blk W B13 ci 37 ∧ Rd W (fun k => k < B13) ci (encG gi)) rfl rfl (by simp [sub, Env.get]) hpl ⟨he05, by omega, p.body, _, hf, rfl, Nat.le_refl _, hb5, (hb.ext he05).mono fun k hk _ => by have h1 : k < B1 := hk; omega⟩ ?_ ?_
        · rintro i W hi ⟨he, hZ, gi, ci, hfi, hbw, hht, hbi, hri⟩
          refine ok_region rfl ?_
          repeat ((try subst X); (first | (first | apply zL | apply zH | apply zE); intro X hX | apply zh | apply zl | apply ze); try simp only [zU, reduceIte, Nat.reduceEqDiff, Nat.reduceAdd, reduceCtorEq, Q21])
          refine ⟨by simp [sub, Env.get], wh (fun hlt => ⟨he, hZ, gi, ci, hfi, hbw, hht, hbi, hri⟩) (fun hge => ?_)⟩
          obtain rfl : i = path.length := by omega
          rw [List.drop_length] at hfi hbw
          cases hfi
          refine hM0 _ _ _ ?_; clear hM0 M0
          refine ok_seq (fun M hM => ok_region rfl ?_); repeat ((try subst X); (first | (first | apply zL | apply zH | apply zE); intro X hX | apply zh | apply zl | apply ze); try simp only [zU, reduceIte, Nat.reduceEqDiff, Nat.reduceAdd, reduceCtorEq, Q21])
          refine hM _ _ _ ?_; clear hM M
          refine ok_ret ?_
          try simp only [zW, zU, reduceIte, Nat.reduceEqDiff, Nat.reduceAdd, reduceCtorEq, Q21]
          refine ⟨?_, he⟩
          rw [hbp, hbw]; simp only [boundW]; rw [hg2]
        · rintro i W hi ⟨he, hZ, gi, ci, hfi, hbw, hht, hbi, hri⟩
          have hx : path[i]? = some path[i] := List.getElem?_eq_getElem hi
          have hdr : path.drop i = path[i] :: path.drop (i + 1) := List.drop_eq_getElem_cons hi
          obtain ⟨k, o, hA, -, hcell⟩ := hpc i _ hx
          subst hA
          generalize hn : path[i] = n at *
          have hri0 := hri
          obtain ⟨Ea, ea, Ek, ek, Ec, ec, rfl, -, hki, -⟩ := rdG hri
          rw [hdr] at hfi hbw
          obtain ⟨kd, hn0, hn1, hkd, hfk⟩ := findG_cons (by rw [hfi]; rfl)
          rw [hfk] at hfi
          have hbw1 : boundW gi (n :: path.drop (i + 1)) idx.toNat v = (wayG gi n v || boundW kd (path.drop (i + 1)) idx.toNat v) := by simp only [boundW]; rw [hkd]
          rw [hbw1] at hbw
          have hkt := htGs_mem (List.mem_of_getElem? hkd)
          rw [G.ht_eq gi] at hht
          refine ok_join [(2, .slice (some ⟨k, o, none⟩) path.length cp), (4, .int .i64 v), (13, .pointer (some ⟨B13, 0, none⟩)), (14, .int .i64 (i : Int))] (fun W' => Ext W W' ∧ wayG gi n v = false) ?_ ?_
          · refine ok_seq (fun M2 hM2 => ok_region rfl ?_)
            repeat ((try subst X); (first | (first | apply zL | apply zH | apply zE); intro X hX | apply zh | apply zl | apply ze); try simp only [zU, reduceIte, Nat.reduceEqDiff, Nat.reduceAdd, reduceCtorEq, Q21])
            refine ⟨_, Blk.cell (by assumption) rfl, ?_⟩
            repeat ((try subst X); (first | (first | apply zL | apply zH | apply zE); intro X hX | apply zh | apply zl | apply ze); try simp only [zU, reduceIte, Nat.reduceEqDiff, Nat.reduceAdd, reduceCtorEq, Q21])
            refine hM2 _ _ _ ?_; clear hM2 M2
            refine ok_block ?_
            refine ok_join [(2, .slice (some ⟨k, o, none⟩) path.length cp), (4, .int .i64 v), (13, .pointer (some ⟨B13, 0, none⟩)), (14, .int .i64 (i : Int)), (59, .int .i64 gi.kind), (60, .bool (decide (gi.kind = 0 ∨ gi.kind = 2)))] (fun W' => W = W') ?_ ?_
            · refine ok_seq (fun M2 hM2 => ok_region rfl ?_)
              repeat ((try subst X); (first | (first | apply zL | apply zH | apply zE); intro X hX | apply zh | apply zl | apply ze); try simp only [zU, reduceIte, Nat.reduceEqDiff, Nat.reduceAdd, reduceCtorEq, Q21])
              refine hM2 _ _ _ ?_; clear hM2 M2
              by_cases h0 : gi.kind = 0
              · refine ok_cond (b := true) (by simp [ev, Env.get, h0]) (fun _ => ok_skip ?_) (fun h => by cases h)
                simp [sub, Env.get, h0, thenN]
              · refine ok_cond (b := false) (by simp [ev, Env.get, h0]) (fun h => by cases h) (fun _ => ok_region rfl ?_)
                repeat ((try subst X); (first | (first | apply zL | apply zH | apply zE); intro X hX | apply zh | apply zl | apply ze); try simp only [zU, reduceIte, Nat.reduceEqDiff, Nat.reduceAdd, reduceCtorEq, Q21])
                simp [sub, Env.get, h0]
            rintro _ rfl
            by_cases hk02 : gi.kind = 0 ∨ gi.kind = 2
            · refine ok_cond (b := true) (by simp [ev, Env.get, hk02]) (fun _ => ?_) (fun h => by cases h)
              have hwg : wayG gi n v = aheadG gi.kids n.toNat v := by simp [wayG, hk02]
              refine ok_seq (fun M2 hM2 => ?_)
              refine (ok_drawR [3] [0, 1, 2, 3, 4, 5, 6] 6 [(false, true)] (Ext _) Fx.mixed (by decide) rfl rfl rfl (by decide +kernel) (by decide +kernel) (Ext.drew _) ?_); simp only [pickL, List.getElem?_cons_zero, List.getElem?_cons_succ, List.take_succ_cons, List.take_zero, List.drop_succ_cons, List.drop_zero]
              repeat ((try subst X); (first | (first | apply zL | apply zH | apply zE); intro X hX | apply zh | apply zl | apply ze); try simp only [zU, reduceIte, Nat.reduceEqDiff, Nat.reduceAdd, reduceCtorEq, Q21])
              refine ⟨_, rfl, fun w' h => (hbi.ext h).all, ?_⟩
              repeat ((try subst X); (first | (first | apply zL | apply zH | apply zE); intro X hX | apply zh | apply zl | apply ze); try simp only [zU, reduceIte, Nat.reduceEqDiff, Nat.reduceAdd, reduceCtorEq, Q21])
              refine ⟨by omega, by omega, ?_⟩
              repeat ((try subst X); (first | (first | apply zL | apply zH | apply zE); intro X hX | apply zh | apply zl | apply ze); try simp only [zU, reduceIte, Nat.reduceEqDiff, Nat.reduceAdd, reduceCtorEq, Q21])
              refine ⟨.int .i64 n, fun w' h => (he.trans h).cell (by simpa [add_at] using hcell), ?_⟩
              repeat ((try subst X); (first | (first | apply zL | apply zH | apply zE); intro X hX | apply zh | apply zl | apply ze); try simp only [zU, reduceIte, Nat.reduceEqDiff, Nat.reduceAdd, reduceCtorEq, Q21])
              intro w6 he6
              repeat ((try subst X); (first | (first | apply zL | apply zH | apply zE); intro X hX | apply zh | apply zl | apply ze); try simp only [zU, reduceIte, Nat.reduceEqDiff, Nat.reduceAdd, reduceCtorEq, Q21])
              refine Inv.call Fx.en58 (rahead_ok w6 _ _ gi n v (hri0.ext he6) hn0) ?_
              rintro _ w7 ⟨rfl, he7⟩
              repeat ((try subst X); (first | (first | apply zL | apply zH | apply zE); intro X hX | apply zh | apply zl | apply ze); try simp only [zU, reduceIte, Nat.reduceEqDiff, Nat.reduceAdd, reduceCtorEq, Q21])
              refine hM2 _ _ _ ?_; clear hM2 M2
              cases hq : aheadG gi.kids n.toNat v with
              | true =>
                refine ok_cond rfl (fun _ => ?_) (fun h => by cases h)
                refine ok_seq (fun M hM => ok_region rfl ?_)
                repeat ((try subst X); (first | (first | apply zL | apply zH | apply zE); intro X hX | apply zh | apply zl | apply ze); try simp only [zU, reduceIte, Nat.reduceEqDiff, Nat.reduceAdd, reduceCtorEq, Q21])
                refine hM _ _ _ ?_; clear hM M
                refine ok_ret ?_
                try simp only [zW, zU, reduceIte, Nat.reduceEqDiff, Nat.reduceAdd, reduceCtorEq, Q21]
                exact ⟨by rw [hbp, hbw, hwg, hq]; rfl, (he.trans he6).trans he7⟩
              | false =>
                refine ok_cond rfl (fun h => by cases h) (fun _ => ok_skip ?_)
                simp [sub, Env.get, thenN, inBlockN, he6.trans he7, hwg, hq]
            · refine ok_cond (b := false) (by simp [ev, Env.get, hk02]) (fun h => by cases h) (fun _ => ?_)
              refine ok_seq (fun M2 hM2 => ok_region rfl ?_)
              repeat ((try subst X); (first | (first | apply zL | apply zH | apply zE); intro X hX | apply zh | apply zl | apply ze); try simp only [zU, reduceIte, Nat.reduceEqDiff, Nat.reduceAdd, reduceCtorEq, Q21])
              refine hM2 _ _ _ ?_; clear hM2 M2
              by_cases h3 : gi.kind = 3
              · refine ok_cond (b := true) (by simp [ev, Env.get, h3]) (fun _ => ?_) (fun h => by cases h)
                have hn : n < (gi.kids.length : Int) := hn1
                refine ok_join [(2, .slice (some ⟨k, o, none⟩) path.length cp), (4, .int .i64 v), (13, .pointer (some ⟨B13, 0, none⟩)), (14, .int .i64 (i : Int)), (84, .bool (wayG gi n v))] (fun W' => Ext W W') ?_ ?_
                · refine ok_region rfl ?_
                  repeat ((try subst X); (first | (first | apply zL | apply zH | apply zE); intro X hX | apply zh | apply zl | apply ze); try simp only [zU, reduceIte, Nat.reduceEqDiff, Nat.reduceAdd, reduceCtorEq, Q21])
                  refine ⟨by omega, by omega, ?_⟩
                  repeat ((try subst X); (first | (first | apply zL | apply zH | apply zE); intro X hX | apply zh | apply zl | apply ze); try simp only [zU, reduceIte, Nat.reduceEqDiff, Nat.reduceAdd, reduceCtorEq, Q21])
                  refine ⟨.int .i64 n, he.cell (by simpa [add_at] using hcell), ?_⟩
                  repeat ((try subst X); (first | (first | apply zL | apply zH | apply zE); intro X hX | apply zh | apply zl | apply ze); try simp only [zU, reduceIte, Nat.reduceEqDiff, Nat.reduceAdd, reduceCtorEq, Q21])
                  by_cases h1 : n = 1
                  · simp only [h1, decide_true]
                    have hk0 : gi.kids[0]? = some (gi.kids[0]'(by omega)) := List.getElem?_eq_getElem _
                    generalize gi.kids[0]'(by omega) = k0 at hk0
                    obtain ⟨k3, o3, r3, hA3, -, -, hc3, hr3⟩ := hki.row (j := 0) (row := encG k0) (by simp [hk0])
                    subst hA3
                    rw [encG_len] at hc3
                    have hr3l : r3.length = 9 := by rw [hr3.len, encG_len]
                    repeat ((try subst X); (first | (first | apply zL | apply zH | apply zE); intro X hX | apply zh | apply zl | apply ze); try simp only [zU, reduceIte, Nat.reduceEqDiff, Nat.reduceAdd, reduceCtorEq, Q21])
                    refine ⟨fun _ => ?_, fun h => (by cases h)⟩
                    repeat ((try subst X); (first | (first | apply zL | apply zH | apply zE); intro X hX | apply zh | apply zl | apply ze); try simp only [zU, reduceIte, Nat.reduceEqDiff, Nat.reduceAdd, reduceCtorEq, Q21])
                    refine ⟨_, hbi.cell rfl, ?_⟩
                    repeat ((try subst X); (first | (first | apply zL | apply zH | apply zE); intro X hX | apply zh | apply zl | apply ze); try simp only [zU, reduceIte, Nat.reduceEqDiff, Nat.reduceAdd, reduceCtorEq, Q21])
                    refine ⟨by omega, by omega, ?_⟩
                    repeat ((try subst X); (first | (first | apply zL | apply zH | apply zE); intro X hX | apply zh | apply zl | apply ze); try simp only [zU, reduceIte, Nat.reduceEqDiff, Nat.reduceAdd, reduceCtorEq, Q21])
                    refine ⟨r3, hr3l, by simpa [add_at] using hc3, ?_⟩
                    repeat ((try subst X); (first | (first | apply zL | apply zH | apply zE); intro X hX | apply zh | apply zl | apply ze); try simp only [zU, reduceIte, Nat.reduceEqDiff, Nat.reduceAdd, reduceCtorEq, Q21])
                    refine Inv.call Fx.en19 (roccurs_ok k0 v W _ r3 hr3) ?_
                    rintro _ w7 ⟨rfl, he7⟩
                    repeat ((try subst X); (first | (first | apply zL | apply zH | apply zE); intro X hX | apply zh | apply zl | apply ze); try simp only [zU, reduceIte, Nat.reduceEqDiff, Nat.reduceAdd, reduceCtorEq, Q21])
                    simp [sub, Env.get, wayG, h3, h1, hk0, he7]
                  · simp only [h1, decide_false]
                    repeat ((try subst X); (first | (first | apply zL | apply zH | apply zE); intro X hX | apply zh | apply zl | apply ze); try simp only [zU, reduceIte, Nat.reduceEqDiff, Nat.reduceAdd, reduceCtorEq, Q21])
                    refine ⟨fun h => (by cases h), fun _ => ?_⟩
                    repeat ((try subst X); (first | (first | apply zL | apply zH | apply zE); intro X hX | apply zh | apply zl | apply ze); try simp only [zU, reduceIte, Nat.reduceEqDiff, Nat.reduceAdd, reduceCtorEq, Q21])
                    simp [sub, Env.get, wayG, h3, h1, Ext.refl]
                rintro w6 he6
                cases hq : wayG gi n v with
                | true =>
                  refine ok_cond rfl (fun _ => ?_) (fun h => by cases h)
                  refine ok_seq (fun M hM => ok_region rfl ?_)
                  repeat ((try subst X); (first | (first | apply zL | apply zH | apply zE); intro X hX | apply zh | apply zl | apply ze); try simp only [zU, reduceIte, Nat.reduceEqDiff, Nat.reduceAdd, reduceCtorEq, Q21])
                  refine hM _ _ _ ?_; clear hM M
                  refine ok_ret ?_
                  try simp only [zW, zU, reduceIte, Nat.reduceEqDiff, Nat.reduceAdd, reduceCtorEq, Q21]
                  exact ⟨by rw [hbp, hbw, hq]; rfl, he.trans he6⟩
                | false =>
                  refine ok_cond rfl (fun h => by cases h) (fun _ => ok_skip ?_)
                  simp [sub, Env.get, thenN, inBlockN, he6]
              · refine ok_cond (b := false) (by simp [ev, Env.get, h3]) (fun h => by cases h) (fun _ => ?_)
                refine ok_seq (fun M2 hM2 => ok_region rfl ?_)
                repeat ((try subst X); (first | (first | apply zL | apply zH | apply zE); intro X hX | apply zh | apply zl | apply ze); try simp only [zU, reduceIte, Nat.reduceEqDiff, Nat.reduceAdd, reduceCtorEq, Q21])
                refine hM2 _ _ _ ?_; clear hM2 M2
                by_cases h6 : gi.kind = 6
                · have hwg : wayG gi n v = decide (gi.left = v) := by simp [wayG, h6]
                  refine ok_cond (b := true) (by simp [ev, Env.get, h6]) (fun _ => ?_) (fun h => by cases h)
                  refine ok_seq (fun M2 hM2 => ok_region rfl ?_)
                  repeat ((try subst X); (first | (first | apply zL | apply zH | apply zE); intro X hX | apply zh | apply zl | apply ze); try simp only [zU, reduceIte, Nat.reduceEqDiff, Nat.reduceAdd, reduceCtorEq, Q21])
                  refine ⟨_, Blk.cell (by assumption) rfl, ?_⟩
                  repeat ((try subst X); (first | (first | apply zL | apply zH | apply zE); intro X hX | apply zh | apply zl | apply ze); try simp only [zU, reduceIte, Nat.reduceEqDiff, Nat.reduceAdd, reduceCtorEq, Q21])
                  refine hM2 _ _ _ ?_; clear hM2 M2
                  refine ok_if rfl (fun hq => ?_) (fun hq => ok_skip ?_)
                  · refine ok_seq (fun M hM => ok_region rfl ?_)
                    repeat ((try subst X); (first | (first | apply zL | apply zH | apply zE); intro X hX | apply zh | apply zl | apply ze); try simp only [zU, reduceIte, Nat.reduceEqDiff, Nat.reduceAdd, reduceCtorEq, Q21])
                    refine hM _ _ _ ?_; clear hM M
                    refine ok_ret ?_
                    try simp only [zW, zU, reduceIte, Nat.reduceEqDiff, Nat.reduceAdd, reduceCtorEq, Q21]
                    exact ⟨by rw [hbp, hbw, hwg]; simp [hq], he⟩
                  · simp [sub, Env.get, thenN, inBlockN, hwg, hq, Ext.refl]
                · refine ok_cond (b := false) (by simp [ev, Env.get, h6]) (fun h => by cases h) (fun _ => ok_skip ?_)
                  simp [sub, Env.get, wayG, hk02, h3, h6, Ext.refl, thenN, inBlockN]
          · rintro W2 ⟨heW, hw⟩
            rw [hw, Bool.false_or] at hbw
            replace he := he.trans heW
            replace hbi := hbi.ext heW
            have hzW := heW.size
            obtain ⟨k2, o2, rk, hA2, -, hkl2, hck, hrk⟩ := (hki.ext heW).row (j := n.toNat) (row := encG kd) (by simp [hkd])
            subst hA2
            rw [encG_len] at hck
            have hrkl : rk.length = 9 := by rw [hrk.len, encG_len]
            refine (ok_drawR [0, 4, 6] [0, 1, 2, 3, 4, 5, 6, 7, 8] 8 [(false, true)] (Ext _) Fx.mixed (by decide) rfl rfl rfl (by decide +kernel) (by decide +kernel) (Ext.drew _) ?_); simp only [pickL, List.getElem?_cons_zero, List.getElem?_cons_succ, List.take_succ_cons, List.take_zero, List.drop_succ_cons, List.drop_zero]
            repeat ((try subst X); (first | (first | apply zL | apply zH | apply zE); intro X hX | apply zh | apply zl | apply ze); try simp only [zU, reduceIte, Nat.reduceEqDiff, Nat.reduceAdd, reduceCtorEq, Q21])
            refine ⟨_, fun w' h => (hbi.ext h).cell rfl, ?_⟩
            repeat ((try subst X); (first | (first | apply zL | apply zH | apply zE); intro X hX | apply zh | apply zl | apply ze); try simp only [zU, reduceIte, Nat.reduceEqDiff, Nat.reduceAdd, reduceCtorEq, Q21])
            refine ⟨by omega, by omega, ?_⟩
            repeat ((try subst X); (first | (first | apply zL | apply zH | apply zE); intro X hX | apply zh | apply zl | apply ze); try simp only [zU, reduceIte, Nat.reduceEqDiff, Nat.reduceAdd, reduceCtorEq, Q21])
            refine ⟨.int .i64 n, fun w' h => (he.trans h).cell (by simpa [add_at] using hcell), ?_⟩
            repeat ((try subst X); (first | (first | apply zL | apply zH | apply zE); intro X hX | apply zh | apply zl | apply ze); try simp only [zU, reduceIte, Nat.reduceEqDiff, Nat.reduceAdd, reduceCtorEq, Q21])
            refine ⟨by omega, by omega, ?_⟩
            repeat ((try subst X); (first | (first | apply zL | apply zH | apply zE); intro X hX | apply zh | apply zl | apply ze); try simp only [zU, reduceIte, Nat.reduceEqDiff, Nat.reduceAdd, reduceCtorEq, Q21])
            refine ⟨rk, hrkl, fun w' h => h.cellsAt (by simpa [add_at] using hck), ?_⟩
            repeat ((try subst X); (first | (first | apply zL | apply zH | apply zE); intro X hX | apply zh | apply zl | apply ze); try simp only [zU, reduceIte, Nat.reduceEqDiff, Nat.reduceAdd, reduceCtorEq, Q21])
            intro w7 he7
            have hz7 := he7.size
            repeat ((try subst X); (first | (first | apply zL | apply zH | apply zE); intro X hX | apply zh | apply zl | apply ze); try simp only [zU, reduceIte, Nat.reduceEqDiff, Nat.reduceAdd, reduceCtorEq, Q21])
            refine Runs.store (hbi.ext he7) Fx.zi37 (by simpa [Value.cells] using hrkl) (fun u hu => (hrk.one u (by simpa [Value.cells] using hu)).1) (by simp [Value.cells, hrkl]) (fun w8 hc8 hs8 hb8 => ?_)
            rw [agg_cells, splice_all _ _ (by simpa using hrkl)] at hb8
            repeat ((try subst X); (first | (first | apply zL | apply zH | apply zE); intro X hX | apply zh | apply zl | apply ze); try simp only [zU, reduceIte, Nat.reduceEqDiff, Nat.reduceAdd, reduceCtorEq, Q21])
            exact ⟨by simp [sub, Env.get], (he.trans he7).chg_trans hc8 (by omega), by omega, kd, rk, hfi, hbw, by omega, hb8, (hrk.ext he7).chg hc8 (fun k hk _ e => by have h1 : k < B13 := hk; omega)⟩
end Go.Proofs.YtcpjojaklpgnkaaGreat
/- Chapter 31: goals that read alike are found equal. -/
set_option linter.unusedVariables false
set_option linter.unusedSimpArgs false
namespace Go.Proofs.YtcpjojaklpgnkaaGreat
open Go Go.Proofs.Vg Go.RowKit
section
variable {P : Program} {w : World} {t : TypeId} {x y : Operand} {nx : Value → World → Prop}
theorem run_eq_int {t0 : TypeId} {k0 : IntKind} (h0 : P.underlying t0 = some (.int k0)) (a b : Int) (d : Nat) : (Op.equalIn (d + 1) t0 (.int .i64 a) (.int .i64 b)).run P w = .ok (decide (a = b)) w := by
  rw [Op.equalIn]
  by_cases q : a = b <;> simp [run_underlying h0, Result.andThen, q]
theorem run_eq_str {t0 : TypeId} (h0 : P.underlying t0 = some .string) (a : ByteArray) (d : Nat) : (Op.equalIn (d + 1) t0 (.string a) (.string a)).run P w = .ok true w := by
  rw [Op.equalIn]
  simp [run_underlying h0, Result.andThen]
  exact (Go.MapKept.bytes_beq a a).2 rfl
theorem run_part {t0 : TypeId} {d : TypeDesc} (h0 : P.underlying t0 = some d) (hd : (∃ k, d = .int k) ∨ d = .string) (cs : Array Value) (o : Nat) (v : Value) (h : cs[o]? = some v) : (part t0 cs o).run P w = .ok v w := by
  rcases hd with ⟨k, rfl⟩ | rfl <;> simp [part, isAgg, run_underlying h0, Result.andThen, h]
set_option maxHeartbeats 2000000 in
theorem run_eq_case {n0 n1 : String} {t0 t1 : TypeId} {e0 e1 : Bool} {g0 g1 p0 p1 : String} {b0 b1 : Nat} {k0 : IntKind}
    (ht : P.underlying t = some (.struct #[⟨n0, t0, 0, e0, g0, p0, b0⟩, ⟨n1, t1, 1, e1, g1, p1, b1⟩])) (hs : P.stoodInHeld t = false)
    (h0 : P.underlying t0 = some (.int k0)) (h1 : P.underlying t1 = some .string) (hn : n0 ≠ "_" ∧ n1 ≠ "_") (n : Int) (s : ByteArray) (d : Nat) :
    (Op.equalIn (d + 1 + 1) t (.agg #[.int .i64 n, .string s]) (.agg #[.int .i64 n, .string s])).run P w = .ok true w := by
  rw [Op.equalIn]
  have c0 : ∀ (u v : Value), (part t0 #[u, v] 0).run P w = .ok u w := fun u v => run_part h0 (.inl ⟨_, rfl⟩) _ _ _ rfl
  have c1 : ∀ (u v : Value), (part t1 #[u, v] 1).run P w = .ok v w := fun u v => run_part h1 (.inr rfl) _ _ _ rfl
  have d0 := fun a b => run_eq_int (w := w) h0 a b d
  have d1 := fun a => run_eq_str (w := w) h1 a d
  simp [run_underlying ht, Result.andThen, hs, hn.1, hn.2, c0, c1, d0, d1]
end
theorem us108 : Tryz.prog.underlying 108 = some (.struct #[⟨"Num", 2, 0, false, "", "", 0⟩, ⟨"Text", 9, 1, false, "", "", 8⟩]) := by kernel_rfl
theorem si108 : Tryz.prog.stoodInHeld 108 = false := by kernel_rfl
theorem eg108 : Tryz.prog.eqGuardType Tryz.prog.depth 108 = false := by kernel_rfl
theorem run_caseNe {w : World} {x y : Operand} {n : Int} {s : ByteArray} : (do eqGuard .neq 108 x y (.agg #[.int .i64 n, .string s]) (.agg #[.int .i64 n, .string s]); binOp .neq 108 (.agg #[.int .i64 n, .string s]) (.agg #[.int .i64 n, .string s]) : Sem Value).run Tryz.prog w = .ok (.bool false) w := by
  have he : (Op.equal 108 (.agg #[.int .i64 n, .string s]) (.agg #[.int .i64 n, .string s])).run Tryz.prog w = .ok true w := run_eq_case (d := 9998) us108 si108 Fx.un2 Fx.un9 (by decide) n s
  simp [eqGuard, binOp, he, eg108, Result.andThen]
theorem rdC {w : World} {S : Nat → Prop} {r : List Value} {n : Int} {s : ByteArray} (h : Rd w S r [iD n, sD s]) : r = [.int .i64 n, .string s] := by
  match r, h.len with
  | [a, b], _ =>
    obtain ⟨e1, h1⟩ := h.atc
    obtain ⟨e2, -⟩ := h1.atc
    rw [e1, e2]
-- -- function 13
set_option maxHeartbeats 2000000 in
set_option maxRecDepth 8000 in
theorem eqInts_ok (w : World) (S S' : Nat → Prop) (a b : Value) (xs : List Int) (ha : Rd w S [a] [isD xs]) (hb : Rd w S' [b] [isD xs]) : Rets Tryz.prog 13 [a, b] w (fun r w' => r = .bool true ∧ Ext w w') := by
  obtain ⟨A, c, rfl, hl, hac⟩ := ha.ints
  obtain ⟨B, c', rfl, -, hbc⟩ := hb.ints
  refine rets_of_ok Tryz.func13 rfl rfl ?_
  refine ok_seq (fun M hM => ok_region rfl ?_); repeat ((try subst X); (first | (first | apply zL | apply zH | apply zE); intro X hX | apply zh | apply zl | apply ze); try simp only [zU, reduceIte, Nat.reduceEqDiff, Nat.reduceAdd, reduceCtorEq, Q13])
  refine hM _ _ _ ?_; clear hM M
  refine ok_seq (fun M0 hM0 => ok_seq (fun M hM => ok_region rfl ?_))
  repeat ((try subst X); (first | (first | apply zL | apply zH | apply zE); intro X hX | apply zh | apply zl | apply ze); try simp only [zU, reduceIte, Nat.reduceEqDiff, Nat.reduceAdd, reduceCtorEq, Q13])
  refine hM _ _ _ ?_; clear hM M
  refine ok_cond (b := false) (by simp [ev, Env.get]) (fun h => by cases h) (fun _ => ok_skip ?_)
  refine hM0 _ _ _ ?_; clear hM0 M0
  refine ok_seq (fun M0 hM0 => ?_)
  refine ok_seq (fun M hM => ok_region rfl ?_); repeat ((try subst X); (first | (first | apply zL | apply zH | apply zE); intro X hX | apply zh | apply zl | apply ze); try simp only [zU, reduceIte, Nat.reduceEqDiff, Nat.reduceAdd, reduceCtorEq, Q13])
  refine hM _ _ _ ?_; clear hM M
  refine ok_for [(0, .slice A xs.length c), (1, .slice B xs.length c')] (fun i W => Ext w W) rfl (by simp [sub, Env.get]) rfl (by simp [sub, Env.get]) hl (Ext.refl _) ?_ ?_
  · rintro i W hi he
    have hx : xs[i]? = some xs[i] := List.getElem?_eq_getElem hi
    obtain ⟨k, o, hA, -, h1⟩ := hac i _ hx
    obtain ⟨k2, o2, hB, -, h2⟩ := hbc i _ hx
    subst hA hB
    refine ok_seq (fun M hM => ok_region rfl ?_); repeat ((try subst X); (first | (first | apply zL | apply zH | apply zE); intro X hX | apply zh | apply zl | apply ze); try simp only [zU, reduceIte, Nat.reduceEqDiff, Nat.reduceAdd, reduceCtorEq, Q13])
    refine hM _ _ _ ?_; clear hM M
    refine ok_seq (fun M hM => ?_)
    refine (ok_drawR [2, 6] [0, 1, 2, 3, 4, 5, 6, 7, 8] 9 [] (Ext _) Fx.mixed (by decide) rfl rfl rfl (by decide +kernel) (by decide +kernel) (Ext.drew _) ?_); simp only [pickL, List.getElem?_cons_zero, List.getElem?_cons_succ, List.take_succ_cons, List.take_zero, List.drop_succ_cons, List.drop_zero]
    repeat ((try subst X); (first | (first | apply zL | apply zH | apply zE); intro X hX | apply zh | apply zl | apply ze); try simp only [zU, reduceIte, Nat.reduceEqDiff, Nat.reduceAdd, reduceCtorEq, Q13])
    refine ⟨by omega, by omega, ?_⟩
    repeat ((try subst X); (first | (first | apply zL | apply zH | apply zE); intro X hX | apply zh | apply zl | apply ze); try simp only [zU, reduceIte, Nat.reduceEqDiff, Nat.reduceAdd, reduceCtorEq, Q13])
    refine ⟨.int .i64 xs[i], fun w' h => (he.trans h).cell (by simpa [add_at] using h1), ?_⟩
    repeat ((try subst X); (first | (first | apply zL | apply zH | apply zE); intro X hX | apply zh | apply zl | apply ze); try simp only [zU, reduceIte, Nat.reduceEqDiff, Nat.reduceAdd, reduceCtorEq, Q13])
    refine ⟨by omega, by omega, ?_⟩
    repeat ((try subst X); (first | (first | apply zL | apply zH | apply zE); intro X hX | apply zh | apply zl | apply ze); try simp only [zU, reduceIte, Nat.reduceEqDiff, Nat.reduceAdd, reduceCtorEq, Q13])
    refine ⟨.int .i64 xs[i], fun w' h => (he.trans h).cell (by simpa [add_at] using h2), ?_⟩
    repeat ((try subst X); (first | (first | apply zL | apply zH | apply zE); intro X hX | apply zh | apply zl | apply ze); try simp only [zU, reduceIte, Nat.reduceEqDiff, Nat.reduceAdd, reduceCtorEq, Q13])
    intro w6 he6
    repeat ((try subst X); (first | (first | apply zL | apply zH | apply zE); intro X hX | apply zh | apply zl | apply ze); try simp only [zU, reduceIte, Nat.reduceEqDiff, Nat.reduceAdd, reduceCtorEq, Q13])
    refine hM _ _ _ ?_; clear hM M
    refine ok_cond (b := false) (by simp [ev, Env.get]) (fun h => by cases h) (fun _ => ok_skip ?_)
    exact ⟨rfl, by simp [sub, Env.get], he.trans he6⟩
  · rintro W he
    refine hM0 _ _ _ ?_; clear hM0 M0
    refine ok_seq (fun M hM => ok_region rfl ?_); repeat ((try subst X); (first | (first | apply zL | apply zH | apply zE); intro X hX | apply zh | apply zl | apply ze); try simp only [zU, reduceIte, Nat.reduceEqDiff, Nat.reduceAdd, reduceCtorEq, Q13])
    refine hM _ _ _ ?_; clear hM M
    refine ok_ret ?_
    try simp only [zW, zU, reduceIte, Nat.reduceEqDiff, Nat.reduceAdd, reduceCtorEq, Q13]
    exact he
-- -- function 46
set_option maxHeartbeats 2000000 in
set_option maxRecDepth 8000 in
theorem eqCase_ok (w : World) (S S' : Nat → Prop) (a b : Value) (xs : List (Int × ByteArray)) (ha : Rd w S [a] [.sl 24 (xs.map encC)]) (hb : Rd w S' [b] [.sl 24 (xs.map encC)]) : Rets Tryz.prog 46 [a, b] w (fun r w' => r = .bool true ∧ Ext w w') := by
  obtain ⟨A, c, rfl, hl, -, -⟩ := ha.hd
  obtain ⟨B, c', rfl, -⟩ := hb.hd
  simp only [List.length_map] at ha hb hl ⊢
  refine rets_of_ok Tryz.func46 rfl rfl ?_
  refine ok_seq (fun M hM => ok_region rfl ?_); repeat ((try subst X); (first | (first | apply zL | apply zH | apply zE); intro X hX | apply zh | apply zl | apply ze); try simp only [zU, reduceIte, Nat.reduceEqDiff, Nat.reduceAdd, reduceCtorEq, Q46])
  refine hM _ _ _ ?_; clear hM M
  refine ok_seq (fun M0 hM0 => ok_seq (fun M hM => ok_region rfl ?_))
  repeat ((try subst X); (first | (first | apply zL | apply zH | apply zE); intro X hX | apply zh | apply zl | apply ze); try simp only [zU, reduceIte, Nat.reduceEqDiff, Nat.reduceAdd, reduceCtorEq, Q46])
  refine hM _ _ _ ?_; clear hM M
  refine ok_cond (b := false) (by simp [ev, Env.get]) (fun h => by cases h) (fun _ => ok_skip ?_)
  refine hM0 _ _ _ ?_; clear hM0 M0
  refine ok_seq (fun M0 hM0 => ?_)
  refine ok_seq (fun M hM => ok_region rfl ?_); repeat ((try subst X); (first | (first | apply zL | apply zH | apply zE); intro X hX | apply zh | apply zl | apply ze); try simp only [zU, reduceIte, Nat.reduceEqDiff, Nat.reduceAdd, reduceCtorEq, Q46])
  refine hM _ _ _ ?_; clear hM M
  refine ok_for [(0, .slice A xs.length c), (1, .slice B xs.length c')] (fun i W => Ext w W) rfl (by simp [sub, Env.get]) rfl (by simp [sub, Env.get]) hl (Ext.refl _) ?_ ?_
  · rintro i W hi he
    obtain ⟨k, o, r, hA, -, -, h1, hr⟩ := ha.row (j := i) (row := encC xs[i]) (by simp [hi])
    obtain ⟨k2, o2, r2, hB, -, -, h2, hr2⟩ := hb.row (j := i) (row := encC xs[i]) (by simp [hi])
    subst hA hB
    obtain rfl := rdC hr
    obtain rfl := rdC hr2
    refine ok_seq (fun M hM => ok_region rfl ?_); repeat ((try subst X); (first | (first | apply zL | apply zH | apply zE); intro X hX | apply zh | apply zl | apply ze); try simp only [zU, reduceIte, Nat.reduceEqDiff, Nat.reduceAdd, reduceCtorEq, Q46])
    refine hM _ _ _ ?_; clear hM M
    refine ok_seq (fun M hM => ?_)
    refine (ok_drawR [2, 6] [0, 1, 2, 3, 4, 5, 6, 7, 8] 9 [] (Ext _) Fx.mixed (by decide) rfl rfl rfl (by decide +kernel) (by decide +kernel) (Ext.drew _) ?_); simp only [pickL, List.getElem?_cons_zero, List.getElem?_cons_succ, List.take_succ_cons, List.take_zero, List.drop_succ_cons, List.drop_zero]
    repeat ((try subst X); (first | (first | apply zL | apply zH | apply zE); intro X hX | apply zh | apply zl | apply ze); try simp only [zU, reduceIte, Nat.reduceEqDiff, Nat.reduceAdd, reduceCtorEq, Q46])
    refine ⟨by omega, by omega, ?_⟩
    repeat ((try subst X); (first | (first | apply zL | apply zH | apply zE); intro X hX | apply zh | apply zl | apply ze); try simp only [zU, reduceIte, Nat.reduceEqDiff, Nat.reduceAdd, reduceCtorEq, Q46])
    refine ⟨_, rfl, fun w' h => (he.trans h).cellsAt (by simpa [add_at] using h1), ?_⟩
    repeat ((try subst X); (first | (first | apply zL | apply zH | apply zE); intro X hX | apply zh | apply zl | apply ze); try simp only [zU, reduceIte, Nat.reduceEqDiff, Nat.reduceAdd, reduceCtorEq, Q46])
    refine ⟨by omega, by omega, ?_⟩
    repeat ((try subst X); (first | (first | apply zL | apply zH | apply zE); intro X hX | apply zh | apply zl | apply ze); try simp only [zU, reduceIte, Nat.reduceEqDiff, Nat.reduceAdd, reduceCtorEq, Q46])
    refine ⟨_, rfl, fun w' h => (he.trans h).cellsAt (by simpa [add_at] using h2), ?_⟩
    repeat ((try subst X); (first | (first | apply zL | apply zH | apply zE); intro X hX | apply zh | apply zl | apply ze); try simp only [zU, reduceIte, Nat.reduceEqDiff, Nat.reduceAdd, reduceCtorEq, Q46])
    refine ⟨.bool false, fun w' _ => run_caseNe, ?_⟩
    repeat ((try subst X); (first | (first | apply zL | apply zH | apply zE); intro X hX | apply zh | apply zl | apply ze); try simp only [zU, reduceIte, Nat.reduceEqDiff, Nat.reduceAdd, reduceCtorEq, Q46])
    intro w6 he6
    repeat ((try subst X); (first | (first | apply zL | apply zH | apply zE); intro X hX | apply zh | apply zl | apply ze); try simp only [zU, reduceIte, Nat.reduceEqDiff, Nat.reduceAdd, reduceCtorEq, Q46])
    refine hM _ _ _ ?_; clear hM M
    refine ok_cond (b := false) (by simp [ev, Env.get]) (fun h => by cases h) (fun _ => ok_skip ?_)
    exact ⟨rfl, by simp [sub, Env.get], he.trans he6⟩
  · rintro W he
    refine hM0 _ _ _ ?_; clear hM0 M0
    refine ok_seq (fun M hM => ok_region rfl ?_); repeat ((try subst X); (first | (first | apply zL | apply zH | apply zE); intro X hX | apply zh | apply zl | apply ze); try simp only [zU, reduceIte, Nat.reduceEqDiff, Nat.reduceAdd, reduceCtorEq, Q46])
    refine hM _ _ _ ?_; clear hM M
    refine ok_ret ?_
    try simp only [zW, zU, reduceIte, Nat.reduceEqDiff, Nat.reduceAdd, reduceCtorEq, Q46]
    exact he
-- -- function 44
set_option maxHeartbeats 4000000 in
set_option maxRecDepth 8000 in
theorem eqGoals_ok (w : World) (S S' : Nat → Prop) (a b : Value) (l : List G) (ha : Rd w S [a] [.sl 128 (l.map encG)]) (hb : Rd w S' [b] [.sl 128 (l.map encG)])
    (hf : ∀ k ∈ l, ∀ (W : World) (T T' : Nat → Prop) (c c' : List Value), Rd W T c (encG k) → Rd W T' c' (encG k) → Rets Tryz.prog 14 [.agg c.toArray, .agg c'.toArray] W (fun r w' => r = .bool true ∧ Ext W w')) :
    Rets Tryz.prog 44 [a, b, .func (.func 14) #[] #[]] w (fun r w' => r = .bool true ∧ Ext w w') := by
  obtain ⟨A, c, rfl, hl, -, -⟩ := ha.hd
  obtain ⟨B, c', rfl, -⟩ := hb.hd
  simp only [List.length_map] at ha hb hl ⊢
  refine rets_of_ok Tryz.func44 rfl rfl ?_
  refine ok_seq (fun M hM => ok_region rfl ?_); repeat ((try subst X); (first | (first | apply zL | apply zH | apply zE); intro X hX | apply zh | apply zl | apply ze); try simp only [zU, reduceIte, Nat.reduceEqDiff, Nat.reduceAdd, reduceCtorEq, Q44])
  refine hM _ _ _ ?_; clear hM M
  refine ok_seq (fun M0 hM0 => ok_seq (fun M hM => ok_region rfl ?_))
  repeat ((try subst X); (first | (first | apply zL | apply zH | apply zE); intro X hX | apply zh | apply zl | apply ze); try simp only [zU, reduceIte, Nat.reduceEqDiff, Nat.reduceAdd, reduceCtorEq, Q44])
  refine hM _ _ _ ?_; clear hM M
  refine ok_cond (b := false) (by simp [ev, Env.get]) (fun h => by cases h) (fun _ => ok_skip ?_)
  refine hM0 _ _ _ ?_; clear hM0 M0
  refine ok_seq (fun M0 hM0 => ?_)
  refine ok_seq (fun M hM => ok_region rfl ?_); repeat ((try subst X); (first | (first | apply zL | apply zH | apply zE); intro X hX | apply zh | apply zl | apply ze); try simp only [zU, reduceIte, Nat.reduceEqDiff, Nat.reduceAdd, reduceCtorEq, Q44])
  refine hM _ _ _ ?_; clear hM M
  refine ok_for [(15, .slice A l.length c), (1, .slice B l.length c'), (2, .func (.func 14) #[] #[])] (fun i W => Ext w W) rfl (by simp [sub, Env.get]) rfl (by simp [sub, Env.get]) hl (Ext.refl _) ?_ ?_
  · rintro i W hi he
    obtain ⟨k, o, r1, hA, -, -, h1, hr1⟩ := (ha.ext he).row (j := i) (row := encG l[i]) (by simp [hi])
    obtain ⟨k2, o2, r2, hB, -, -, h2, hr2⟩ := (hb.ext he).row (j := i) (row := encG l[i]) (by simp [hi])
    subst hA hB
    rw [encG_len] at h1 h2
    have hl1 : r1.length = 9 := by rw [hr1.len, encG_len]
    have hl2 : r2.length = 9 := by rw [hr2.len, encG_len]
    refine ok_seq (fun M hM => ok_region rfl ?_)
    repeat ((try subst X); (first | (first | apply zL | apply zH | apply zE); intro X hX | apply zh | apply zl | apply ze); try simp only [zU, reduceIte, Nat.reduceEqDiff, Nat.reduceAdd, reduceCtorEq, Q44])
    refine ⟨by omega, by omega, ?_⟩
    repeat ((try subst X); (first | (first | apply zL | apply zH | apply zE); intro X hX | apply zh | apply zl | apply ze); try simp only [zU, reduceIte, Nat.reduceEqDiff, Nat.reduceAdd, reduceCtorEq, Q44])
    refine ⟨r1, hl1, by simpa [add_at] using h1, ?_⟩
    repeat ((try subst X); (first | (first | apply zL | apply zH | apply zE); intro X hX | apply zh | apply zl | apply ze); try simp only [zU, reduceIte, Nat.reduceEqDiff, Nat.reduceAdd, reduceCtorEq, Q44])
    refine Runs.alloc Fx.zi37 (fun w4 he4 hs4 hb4 => ?_)
    repeat ((try subst X); (first | (first | apply zL | apply zH | apply zE); intro X hX | apply zh | apply zl | apply ze); try simp only [zU, reduceIte, Nat.reduceEqDiff, Nat.reduceAdd, reduceCtorEq, Q44])
    refine Runs.store hb4 Fx.zi37 (by simpa [Value.cells] using hl1) (fun u hu => (hr1.one u (by simpa [Value.cells] using hu)).1) (by simp [Value.cells]) (fun w5 hc5 hs5 hb5 => ?_)
    rw [agg_cells, splice_all _ _ (by simpa [Value.cells] using hl1)] at hb5
    have he5 : Ext W w5 := he4.chg_trans hc5 (by intro k hk; omega)
    repeat ((try subst X); (first | (first | apply zL | apply zH | apply zE); intro X hX | apply zh | apply zl | apply ze); try simp only [zU, reduceIte, Nat.reduceEqDiff, Nat.reduceAdd, reduceCtorEq, Q44])
    refine hM _ _ _ ?_; clear hM M
    refine ok_seq (fun M hM => ok_region rfl ?_)
    repeat ((try subst X); (first | (first | apply zL | apply zH | apply zE); intro X hX | apply zh | apply zl | apply ze); try simp only [zU, reduceIte, Nat.reduceEqDiff, Nat.reduceAdd, reduceCtorEq, Q44])
    refine ⟨by omega, by omega, ?_⟩
    repeat ((try subst X); (first | (first | apply zL | apply zH | apply zE); intro X hX | apply zh | apply zl | apply ze); try simp only [zU, reduceIte, Nat.reduceEqDiff, Nat.reduceAdd, reduceCtorEq, Q44])
    refine ⟨r2, hl2, he5.cellsAt (by simpa [add_at] using h2), ?_⟩
    repeat ((try subst X); (first | (first | apply zL | apply zH | apply zE); intro X hX | apply zh | apply zl | apply ze); try simp only [zU, reduceIte, Nat.reduceEqDiff, Nat.reduceAdd, reduceCtorEq, Q44])
    refine Runs.alloc Fx.zi37 (fun w6 he6 hs6 hb6 => ?_)
    repeat ((try subst X); (first | (first | apply zL | apply zH | apply zE); intro X hX | apply zh | apply zl | apply ze); try simp only [zU, reduceIte, Nat.reduceEqDiff, Nat.reduceAdd, reduceCtorEq, Q44])
    refine Runs.store hb6 Fx.zi37 (by simpa [Value.cells] using hl2) (fun u hu => (hr2.one u (by simpa [Value.cells] using hu)).1) (by simp [Value.cells]) (fun w7 hc7 hs7 hb7 => ?_)
    rw [agg_cells, splice_all _ _ (by simpa [Value.cells] using hl2)] at hb7
    have he57 : Ext w5 w7 := he6.chg_trans hc7 (by intro k hk; omega)
    have he7 := he5.trans he57
    repeat ((try subst X); (first | (first | apply zL | apply zH | apply zE); intro X hX | apply zh | apply zl | apply ze); try simp only [zU, reduceIte, Nat.reduceEqDiff, Nat.reduceAdd, reduceCtorEq, Q44])
    refine hM _ _ _ ?_; clear hM M
    refine ok_seq (fun M hM => ok_region rfl ?_)
    repeat ((try subst X); (first | (first | apply zL | apply zH | apply zE); intro X hX | apply zh | apply zl | apply ze); try simp only [zU, reduceIte, Nat.reduceEqDiff, Nat.reduceAdd, reduceCtorEq, Q44])
    refine ⟨r1, hl1, (hb5.ext he57).all, ?_⟩
    repeat ((try subst X); (first | (first | apply zL | apply zH | apply zE); intro X hX | apply zh | apply zl | apply ze); try simp only [zU, reduceIte, Nat.reduceEqDiff, Nat.reduceAdd, reduceCtorEq, Q44])
    refine ⟨r2, hl2, hb7.all, ?_⟩
    repeat ((try subst X); (first | (first | apply zL | apply zH | apply zE); intro X hX | apply zh | apply zl | apply ze); try simp only [zU, reduceIte, Nat.reduceEqDiff, Nat.reduceAdd, reduceCtorEq, Q44])
    refine Inv.call Fx.en14 (hf _ (List.getElem_mem hi) w7 _ _ r1 r2 (hr1.ext he7) (hr2.ext he7)) ?_
    rintro _ w8 ⟨rfl, he8⟩
    repeat ((try subst X); (first | (first | apply zL | apply zH | apply zE); intro X hX | apply zh | apply zl | apply ze); try simp only [zU, reduceIte, Nat.reduceEqDiff, Nat.reduceAdd, reduceCtorEq, Q44])
    refine hM _ _ _ ?_; clear hM M
    refine ok_cond rfl (fun h => by cases h) (fun _ => ok_skip ?_)
    exact ⟨rfl, by simp [sub, Env.get], (he.trans he7).trans he8⟩
  · rintro W he
    refine hM0 _ _ _ ?_; clear hM0 M0
    refine ok_seq (fun M hM => ok_region rfl ?_); repeat ((try subst X); (first | (first | apply zL | apply zH | apply zE); intro X hX | apply zh | apply zl | apply ze); try simp only [zU, reduceIte, Nat.reduceEqDiff, Nat.reduceAdd, reduceCtorEq, Q44])
    refine hM _ _ _ ?_; clear hM M
    refine ok_ret ?_
    try simp only [zW, zU, reduceIte, Nat.reduceEqDiff, Nat.reduceAdd, reduceCtorEq, Q44]
    exact he
-- -- function 45
set_option maxHeartbeats 4000000 in
set_option maxRecDepth 8000 in
theorem eqCases_ok (w : World) (S S' : Nat → Prop) (a b : Value) (l : List (List (Int × ByteArray))) (ha : Rd w S [a] [casesD l]) (hb : Rd w S' [b] [casesD l]) :
    Rets Tryz.prog 45 [a, b, .func (.func 46) #[] #[]] w (fun r w' => r = .bool true ∧ Ext w w') := by
  obtain ⟨A, c, rfl, hl, -, -⟩ := ha.hd
  obtain ⟨B, c', rfl, -⟩ := hb.hd
  simp only [List.length_map] at ha hb hl ⊢
  refine rets_of_ok Tryz.func45 rfl rfl ?_
  refine ok_seq (fun M hM => ok_region rfl ?_); repeat ((try subst X); (first | (first | apply zL | apply zH | apply zE); intro X hX | apply zh | apply zl | apply ze); try simp only [zU, reduceIte, Nat.reduceEqDiff, Nat.reduceAdd, reduceCtorEq, Q45])
  refine hM _ _ _ ?_; clear hM M
  refine ok_seq (fun M0 hM0 => ok_seq (fun M hM => ok_region rfl ?_))
  repeat ((try subst X); (first | (first | apply zL | apply zH | apply zE); intro X hX | apply zh | apply zl | apply ze); try simp only [zU, reduceIte, Nat.reduceEqDiff, Nat.reduceAdd, reduceCtorEq, Q45])
  refine hM _ _ _ ?_; clear hM M
  refine ok_cond (b := false) (by simp [ev, Env.get]) (fun h => by cases h) (fun _ => ok_skip ?_)
  refine hM0 _ _ _ ?_; clear hM0 M0
  refine ok_seq (fun M0 hM0 => ?_)
  refine ok_seq (fun M hM => ok_region rfl ?_); repeat ((try subst X); (first | (first | apply zL | apply zH | apply zE); intro X hX | apply zh | apply zl | apply ze); try simp only [zU, reduceIte, Nat.reduceEqDiff, Nat.reduceAdd, reduceCtorEq, Q45])
  refine hM _ _ _ ?_; clear hM M
  refine ok_for [(15, .slice A l.length c), (1, .slice B l.length c'), (2, .func (.func 46) #[] #[])] (fun i W => Ext w W) rfl (by simp [sub, Env.get]) rfl (by simp [sub, Env.get]) hl (Ext.refl _) ?_ ?_
  · rintro i W hi he
    obtain ⟨k, o, r1, hA, -, -, h1, hr1⟩ := (ha.ext he).row (j := i) (row := [.sl 24 (l[i].map encC)]) (by simp [hi])
    obtain ⟨k2, o2, r2, hB, -, -, h2, hr2⟩ := (hb.ext he).row (j := i) (row := [.sl 24 (l[i].map encC)]) (by simp [hi])
    subst hA hB
    obtain ⟨x1, rfl⟩ := List.length_eq_one_iff.1 (show r1.length = 1 by rw [hr1.len]; rfl)
    obtain ⟨x2, rfl⟩ := List.length_eq_one_iff.1 (show r2.length = 1 by rw [hr2.len]; rfl)
    have h1' := h1 0 x1 rfl
    have h2' := h2 0 x2 rfl
    refine ok_seq (fun M hM => ok_region rfl ?_)
    repeat ((try subst X); (first | (first | apply zL | apply zH | apply zE); intro X hX | apply zh | apply zl | apply ze); try simp only [zU, reduceIte, Nat.reduceEqDiff, Nat.reduceAdd, reduceCtorEq, Q45])
    refine ⟨by omega, by omega, ?_⟩
    repeat ((try subst X); (first | (first | apply zL | apply zH | apply zE); intro X hX | apply zh | apply zl | apply ze); try simp only [zU, reduceIte, Nat.reduceEqDiff, Nat.reduceAdd, reduceCtorEq, Q45])
    refine ⟨x1, by simpa [add_at] using h1', ?_⟩
    repeat ((try subst X); (first | (first | apply zL | apply zH | apply zE); intro X hX | apply zh | apply zl | apply ze); try simp only [zU, reduceIte, Nat.reduceEqDiff, Nat.reduceAdd, reduceCtorEq, Q45])
    refine hM _ _ _ ?_; clear hM M
    refine ok_seq (fun M hM => ok_region rfl ?_)
    repeat ((try subst X); (first | (first | apply zL | apply zH | apply zE); intro X hX | apply zh | apply zl | apply ze); try simp only [zU, reduceIte, Nat.reduceEqDiff, Nat.reduceAdd, reduceCtorEq, Q45])
    refine ⟨by omega, by omega, ?_⟩
    repeat ((try subst X); (first | (first | apply zL | apply zH | apply zE); intro X hX | apply zh | apply zl | apply ze); try simp only [zU, reduceIte, Nat.reduceEqDiff, Nat.reduceAdd, reduceCtorEq, Q45])
    refine ⟨x2, by simpa [add_at] using h2', ?_⟩
    repeat ((try subst X); (first | (first | apply zL | apply zH | apply zE); intro X hX | apply zh | apply zl | apply ze); try simp only [zU, reduceIte, Nat.reduceEqDiff, Nat.reduceAdd, reduceCtorEq, Q45])
    refine hM _ _ _ ?_; clear hM M
    refine ok_seq (fun M hM => ok_region rfl ?_)
    repeat ((try subst X); (first | (first | apply zL | apply zH | apply zE); intro X hX | apply zh | apply zl | apply ze); try simp only [zU, reduceIte, Nat.reduceEqDiff, Nat.reduceAdd, reduceCtorEq, Q45])
    refine Inv.call Fx.en46 (eqCase_ok W _ _ x1 x2 l[i] hr1 hr2) ?_
    rintro _ w8 ⟨rfl, he8⟩
    repeat ((try subst X); (first | (first | apply zL | apply zH | apply zE); intro X hX | apply zh | apply zl | apply ze); try simp only [zU, reduceIte, Nat.reduceEqDiff, Nat.reduceAdd, reduceCtorEq, Q45])
    refine hM _ _ _ ?_; clear hM M
    refine ok_cond rfl (fun h => by cases h) (fun _ => ok_skip ?_)
    exact ⟨rfl, by simp [sub, Env.get], he.trans he8⟩
  · rintro W he
    refine hM0 _ _ _ ?_; clear hM0 M0
    refine ok_seq (fun M hM => ok_region rfl ?_); repeat ((try subst X); (first | (first | apply zL | apply zH | apply zE); intro X hX | apply zh | apply zl | apply ze); try simp only [zU, reduceIte, Nat.reduceEqDiff, Nat.reduceAdd, reduceCtorEq, Q45])
    refine hM _ _ _ ?_; clear hM M
    refine ok_ret ?_
    try simp only [zW, zU, reduceIte, Nat.reduceEqDiff, Nat.reduceAdd, reduceCtorEq, Q45]
    exact he
-- -- function 14
set_option maxHeartbeats 8000000 in
set_option maxRecDepth 8000 in
theorem eqGoal_ok (g : G) : ∀ (w : World) (S S' : Nat → Prop) (c c' : List Value), Rd w S c (encG g) → Rd w S' c' (encG g) → Rets Tryz.prog 14 [.agg c.toArray, .agg c'.toArray] w (fun r w' => r = .bool true ∧ Ext w w') := by
  induction g using G.ind with
  | h g ih =>
  intro w S S' c c' h h'
  obtain ⟨Aa, ca, Ak, ck, Ac, cc, rfl, ha, hk, hc⟩ := rdG h
  obtain ⟨Ba, ba, Bk, bk, Bc, bc, rfl, ha', hk', hc'⟩ := rdG h'
  refine rets_of_ok Tryz.func14 rfl rfl ?_
  refine ok_seq (fun M hM => ok_region rfl ?_)
  repeat ((try subst X); (first | (first | apply zL | apply zH | apply zE); intro X hX | apply zh | apply zl | apply ze); try simp only [zU, reduceIte, Nat.reduceEqDiff, Nat.reduceAdd, reduceCtorEq, Q14])
  refine Runs.box (fun w1 he1 hs1 hb1 => ?_)
  rw [agg_cells] at hb1
  repeat ((try subst X); (first | (first | apply zL | apply zH | apply zE); intro X hX | apply zh | apply zl | apply ze); try simp only [zU, reduceIte, Nat.reduceEqDiff, Nat.reduceAdd, reduceCtorEq, Q14])
  refine Runs.box (fun w2 he2 hs2 hb2 => ?_)
  rw [agg_cells] at hb2
  repeat ((try subst X); (first | (first | apply zL | apply zH | apply zE); intro X hX | apply zh | apply zl | apply ze); try simp only [zU, reduceIte, Nat.reduceEqDiff, Nat.reduceAdd, reduceCtorEq, Q14])
  refine hM _ _ _ ?_; clear hM M
  replace hb1 := hb1.ext he2
  have he02 := he1.trans he2
  refine ok_seq (fun M hM => ok_region rfl ?_)
  repeat ((try subst X); (first | (first | apply zL | apply zH | apply zE); intro X hX | apply zh | apply zl | apply ze); try simp only [zU, reduceIte, Nat.reduceEqDiff, Nat.reduceAdd, reduceCtorEq, Q14])
  refine ⟨_, hb1.cell rfl, ?_⟩
  repeat ((try subst X); (first | (first | apply zL | apply zH | apply zE); intro X hX | apply zh | apply zl | apply ze); try simp only [zU, reduceIte, Nat.reduceEqDiff, Nat.reduceAdd, reduceCtorEq, Q14])
  refine ⟨_, hb2.cell rfl, ?_⟩
  repeat ((try subst X); (first | (first | apply zL | apply zH | apply zE); intro X hX | apply zh | apply zl | apply ze); try simp only [zU, reduceIte, Nat.reduceEqDiff, Nat.reduceAdd, reduceCtorEq, Q14])
  repeat ((try subst X); (first | (first | apply zL | apply zH | apply zE); intro X hX | apply zh | apply zl | apply ze); try simp only [zU, reduceIte, Nat.reduceEqDiff, Nat.reduceAdd, reduceCtorEq, Q14])
  refine ⟨_, hb1.cell rfl, ?_⟩
  repeat ((try subst X); (first | (first | apply zL | apply zH | apply zE); intro X hX | apply zh | apply zl | apply ze); try simp only [zU, reduceIte, Nat.reduceEqDiff, Nat.reduceAdd, reduceCtorEq, Q14])
  refine ⟨_, hb2.cell rfl, ?_⟩
  repeat ((try subst X); (first | (first | apply zL | apply zH | apply zE); intro X hX | apply zh | apply zl | apply ze); try simp only [zU, reduceIte, Nat.reduceEqDiff, Nat.reduceAdd, reduceCtorEq, Q14])
  repeat ((try subst X); (first | (first | apply zL | apply zH | apply zE); intro X hX | apply zh | apply zl | apply ze); try simp only [zU, reduceIte, Nat.reduceEqDiff, Nat.reduceAdd, reduceCtorEq, Q14])
  refine ⟨_, hb1.cell rfl, ?_⟩
  repeat ((try subst X); (first | (first | apply zL | apply zH | apply zE); intro X hX | apply zh | apply zl | apply ze); try simp only [zU, reduceIte, Nat.reduceEqDiff, Nat.reduceAdd, reduceCtorEq, Q14])
  refine ⟨_, hb2.cell rfl, ?_⟩
  repeat ((try subst X); (first | (first | apply zL | apply zH | apply zE); intro X hX | apply zh | apply zl | apply ze); try simp only [zU, reduceIte, Nat.reduceEqDiff, Nat.reduceAdd, reduceCtorEq, Q14])
  repeat ((try subst X); (first | (first | apply zL | apply zH | apply zE); intro X hX | apply zh | apply zl | apply ze); try simp only [zU, reduceIte, Nat.reduceEqDiff, Nat.reduceAdd, reduceCtorEq, Q14])
  refine ⟨_, hb1.cell rfl, ?_⟩
  repeat ((try subst X); (first | (first | apply zL | apply zH | apply zE); intro X hX | apply zh | apply zl | apply ze); try simp only [zU, reduceIte, Nat.reduceEqDiff, Nat.reduceAdd, reduceCtorEq, Q14])
  refine ⟨_, hb2.cell rfl, ?_⟩
  repeat ((try subst X); (first | (first | apply zL | apply zH | apply zE); intro X hX | apply zh | apply zl | apply ze); try simp only [zU, reduceIte, Nat.reduceEqDiff, Nat.reduceAdd, reduceCtorEq, Q14])
  repeat ((try subst X); (first | (first | apply zL | apply zH | apply zE); intro X hX | apply zh | apply zl | apply ze); try simp only [zU, reduceIte, Nat.reduceEqDiff, Nat.reduceAdd, reduceCtorEq, Q14])
  refine ⟨_, hb1.cell rfl, ?_⟩
  repeat ((try subst X); (first | (first | apply zL | apply zH | apply zE); intro X hX | apply zh | apply zl | apply ze); try simp only [zU, reduceIte, Nat.reduceEqDiff, Nat.reduceAdd, reduceCtorEq, Q14])
  refine ⟨_, hb2.cell rfl, ?_⟩
  repeat ((try subst X); (first | (first | apply zL | apply zH | apply zE); intro X hX | apply zh | apply zl | apply ze); try simp only [zU, reduceIte, Nat.reduceEqDiff, Nat.reduceAdd, reduceCtorEq, Q14])
  repeat ((try subst X); (first | (first | apply zL | apply zH | apply zE); intro X hX | apply zh | apply zl | apply ze); try simp only [zU, reduceIte, Nat.reduceEqDiff, Nat.reduceAdd, reduceCtorEq, Q14])
  refine ⟨_, hb1.cell rfl, ?_⟩
  repeat ((try subst X); (first | (first | apply zL | apply zH | apply zE); intro X hX | apply zh | apply zl | apply ze); try simp only [zU, reduceIte, Nat.reduceEqDiff, Nat.reduceAdd, reduceCtorEq, Q14])
  refine ⟨_, hb2.cell rfl, ?_⟩
  repeat ((try subst X); (first | (first | apply zL | apply zH | apply zE); intro X hX | apply zh | apply zl | apply ze); try simp only [zU, reduceIte, Nat.reduceEqDiff, Nat.reduceAdd, reduceCtorEq, Q14])
  repeat ((try subst X); (first | (first | apply zL | apply zH | apply zE); intro X hX | apply zh | apply zl | apply ze); try simp only [zU, reduceIte, Nat.reduceEqDiff, Nat.reduceAdd, reduceCtorEq, Q14])
  refine ⟨_, hb1.cell rfl, ?_⟩
  repeat ((try subst X); (first | (first | apply zL | apply zH | apply zE); intro X hX | apply zh | apply zl | apply ze); try simp only [zU, reduceIte, Nat.reduceEqDiff, Nat.reduceAdd, reduceCtorEq, Q14])
  refine ⟨_, hb2.cell rfl, ?_⟩
  repeat ((try subst X); (first | (first | apply zL | apply zH | apply zE); intro X hX | apply zh | apply zl | apply ze); try simp only [zU, reduceIte, Nat.reduceEqDiff, Nat.reduceAdd, reduceCtorEq, Q14])
  refine Inv.call Fx.en13 (eqInts_ok w2 _ _ _ _ g.args (ha.ext he02) (ha'.ext he02)) ?_
  rintro _ w3 ⟨rfl, he3⟩
  repeat ((try subst X); (first | (first | apply zL | apply zH | apply zE); intro X hX | apply zh | apply zl | apply ze); try simp only [zU, reduceIte, Nat.reduceEqDiff, Nat.reduceAdd, reduceCtorEq, Q14])
  refine ⟨_, (hb1.ext he3).cell rfl, ?_⟩
  repeat ((try subst X); (first | (first | apply zL | apply zH | apply zE); intro X hX | apply zh | apply zl | apply ze); try simp only [zU, reduceIte, Nat.reduceEqDiff, Nat.reduceAdd, reduceCtorEq, Q14])
  refine ⟨_, (hb2.ext he3).cell rfl, ?_⟩
  repeat ((try subst X); (first | (first | apply zL | apply zH | apply zE); intro X hX | apply zh | apply zl | apply ze); try simp only [zU, reduceIte, Nat.reduceEqDiff, Nat.reduceAdd, reduceCtorEq, Q14])
  have he03 := he02.trans he3
  refine Inv.call Fx.en44 (eqGoals_ok w3 _ _ _ _ g.kids (hk.ext he03) (hk'.ext he03) (fun k hk W T T' c c' h h' => ih k hk W T T' c c' h h')) ?_
  rintro _ w4 ⟨rfl, he4⟩
  have he24 := he3.trans he4
  have he04 := he03.trans he4
  repeat ((try subst X); (first | (first | apply zL | apply zH | apply zE); intro X hX | apply zh | apply zl | apply ze); try simp only [zU, reduceIte, Nat.reduceEqDiff, Nat.reduceAdd, reduceCtorEq, Q14])
  refine ⟨_, (hb1.ext he24).cell rfl, ?_⟩
  repeat ((try subst X); (first | (first | apply zL | apply zH | apply zE); intro X hX | apply zh | apply zl | apply ze); try simp only [zU, reduceIte, Nat.reduceEqDiff, Nat.reduceAdd, reduceCtorEq, Q14])
  refine ⟨_, (hb2.ext he24).cell rfl, ?_⟩
  repeat ((try subst X); (first | (first | apply zL | apply zH | apply zE); intro X hX | apply zh | apply zl | apply ze); try simp only [zU, reduceIte, Nat.reduceEqDiff, Nat.reduceAdd, reduceCtorEq, Q14])
  refine Inv.call Fx.en45 (eqCases_ok w4 _ _ _ _ g.cases (hc.ext he04) (hc'.ext he04)) ?_
  rintro _ w5 ⟨rfl, he5⟩
  repeat ((try subst X); (first | (first | apply zL | apply zH | apply zE); intro X hX | apply zh | apply zl | apply ze); try simp only [zU, reduceIte, Nat.reduceEqDiff, Nat.reduceAdd, reduceCtorEq, Q14])
  refine hM _ _ _ ?_; clear hM M
  refine ok_ret ?_
  try simp only [zW, zU, reduceIte, Nat.reduceEqDiff, Nat.reduceAdd, reduceCtorEq, Q14]
  exact he04.trans he5
end Go.Proofs.YtcpjojaklpgnkaaGreat
/- Chapter 31: EquivGoals, the law. -/
set_option linter.unusedVariables false
set_option linter.unusedSimpArgs false
namespace Go.Proofs.YtcpjojaklpgnkaaGreat
open Go Go.Proofs.Vg Go.RowKit
theorem smP_ht {p : Pr} (h : smP p) : p.body.ht ≤ 549755813888 := by
  have := ht_sz p.body
  have := h.size
  omega
-- -- function 4
set_option maxHeartbeats 16000000 in
set_option maxRecDepth 8000 in
theorem goals4_ok (hawake : ∀ w : World, Rets Tryz.prog 5 [] w (fun r w' => r = .bool true ∧ Ext w w')) (w : World) (S : Nat → Prop) (cs : List Value) (p : Pr) (insts : List In) (vi vp : Value) (path : List Int) (idx v : Int) (h : Rd w S cs (encP p)) (hi : Rd w S [vi] [.sl 64 (insts.map encI)]) (hp : Rd w S [vp] [isD path]) :
    Rets Tryz.prog 4 [.agg cs.toArray, vi, .agg #[vp, .int .i64 idx, .int .i64 v]] w (fun r w' => r = .bool true ∧ Ext w w') := by
  replace h := h.old
  replace hi := hi.old
  replace hp := hp.old
  have hcl : cs.length = 17 := h.len
  obtain ⟨Ai, ci, rfl, -, -, -⟩ := hi.hd
  obtain ⟨Ap, cp, rfl, -, -⟩ := hp.ints
  simp only [List.length_map] at hi ⊢
  have h0 := h
  obtain ⟨Av, cv, Ah, ch, Am, cm, Aa, ca, Ak, ck, Ac, cc, hcs, -, -, -, hb⟩ := rdP h
  have hpc6 : ∀ {W : World} {b : Nat}, Blk W b cs 39 → cellsAt W ⟨b, 6, none⟩ [.int .i64 p.body.kind, .int .i64 p.body.left, .int .i64 p.body.num, .string p.body.text, .int .i64 p.body.form, .slice Aa p.body.args.length ca, .slice Ak p.body.kids.length ck, .slice Ac p.body.cases.length cc, .int .i64 p.body.pos] := fun hb => Blk.at_ (o := 6) hb (by rw [hcs]; rfl)
  clear hcs
  refine rets_of_ok Tryz.func4 rfl rfl ?_
  refine ok_seq (fun M hM => ok_region rfl ?_)
  repeat ((try subst X); (first | (first | apply zL | apply zH | apply zE); intro X hX | apply zh | apply zl | apply ze); try simp only [zU, reduceIte, Nat.reduceEqDiff, Nat.reduceAdd, reduceCtorEq, Q4])
  refine Runs.box (fun w1 he1 hs1 hb1 => ?_)
  rw [agg_cells] at hb1
  generalize hB1 : w.heap.size = B1 at *
  repeat ((try subst X); (first | (first | apply zL | apply zH | apply zE); intro X hX | apply zh | apply zl | apply ze); try simp only [zU, reduceIte, Nat.reduceEqDiff, Nat.reduceAdd, reduceCtorEq, Q4])
  refine Runs.box (fun w2 he2 hs2 hb2 => ?_)
  simp only [Value.cells] at hb2
  generalize hB2 : w1.heap.size = B2 at *
  repeat ((try subst X); (first | (first | apply zL | apply zH | apply zE); intro X hX | apply zh | apply zl | apply ze); try simp only [zU, reduceIte, Nat.reduceEqDiff, Nat.reduceAdd, reduceCtorEq, Q4])
  refine hM _ _ _ ?_; clear hM M
  replace hb1 := hb1.ext he2
  have he02 := he1.trans he2
  refine ok_seq (fun M0 hM0 => ok_seq (fun M hM => ok_region rfl ?_))
  repeat ((try subst X); (first | (first | apply zL | apply zH | apply zE); intro X hX | apply zh | apply zl | apply ze); try simp only [zU, reduceIte, Nat.reduceEqDiff, Nat.reduceAdd, reduceCtorEq, Q4])
  refine Inv.call Fx.en5 (hawake w2) ?_
  rintro _ w3 ⟨rfl, he3⟩
  repeat ((try subst X); (first | (first | apply zL | apply zH | apply zE); intro X hX | apply zh | apply zl | apply ze); try simp only [zU, reduceIte, Nat.reduceEqDiff, Nat.reduceAdd, reduceCtorEq, Q4])
  refine hM _ _ _ ?_; clear hM M
  refine ok_cond rfl (fun h => by cases h) (fun _ => ok_skip ?_)
  refine hM0 _ _ _ ?_; clear hM0 M0
  replace hb1 := hb1.ext he3
  replace hb2 := hb2.ext he3
  have he03 := he02.trans he3
  refine ok_seq (fun M0 hM0 => ?_)
  refine ok_seq (fun M hM => ok_region rfl ?_)
  repeat ((try subst X); (first | (first | apply zL | apply zH | apply zE); intro X hX | apply zh | apply zl | apply ze); try simp only [zU, reduceIte, Nat.reduceEqDiff, Nat.reduceAdd, reduceCtorEq, Q4])
  refine ⟨cs, hcl, hb1.all, ?_⟩
  repeat ((try subst X); (first | (first | apply zL | apply zH | apply zE); intro X hX | apply zh | apply zl | apply ze); try simp only [zU, reduceIte, Nat.reduceEqDiff, Nat.reduceAdd, reduceCtorEq, Q4])
  refine Inv.call Fx.en15 (proc_ok w3 _ cs p (h.ext he03)) ?_
  rintro _ w4 ⟨he4, b, rfl, hsm⟩
  replace hb1 := hb1.ext he4
  replace hb2 := hb2.ext he4
  have he04 := he03.trans he4
  cases b with
  | false =>
    repeat ((try subst X); (first | (first | apply zL | apply zH | apply zE); intro X hX | apply zh | apply zl | apply ze); try simp only [zU, reduceIte, Nat.reduceEqDiff, Nat.reduceAdd, reduceCtorEq, Q4])
    refine hM _ _ _ ?_; clear hM M
    refine ok_cond rfl (fun _ => ?_) (fun h => by cases h)
    refine ok_seq (fun M hM => ok_region rfl ?_); repeat ((try subst X); (first | (first | apply zL | apply zH | apply zE); intro X hX | apply zh | apply zl | apply ze); try simp only [zU, reduceIte, Nat.reduceEqDiff, Nat.reduceAdd, reduceCtorEq, Q4])
    refine hM _ _ _ ?_; clear hM M
    refine ok_ret ?_
    try simp only [zW, zU, reduceIte, Nat.reduceEqDiff, Nat.reduceAdd, reduceCtorEq, Q4]
    exact he04
  | true =>
  have hht := smP_ht (hsm rfl)
  repeat ((try subst X); (first | (first | apply zL | apply zH | apply zE); intro X hX | apply zh | apply zl | apply ze); try simp only [zU, reduceIte, Nat.reduceEqDiff, Nat.reduceAdd, reduceCtorEq, Q4])
  by_cases h40 : (40 : Int) < (insts.length : Int)
  · simp only [h40, decide_true]
    repeat ((try subst X); (first | (first | apply zL | apply zH | apply zE); intro X hX | apply zh | apply zl | apply ze); try simp only [zU, reduceIte, Nat.reduceEqDiff, Nat.reduceAdd, reduceCtorEq, Q4])
    refine ⟨fun h => (by cases h), fun _ => ?_⟩
    repeat ((try subst X); (first | (first | apply zL | apply zH | apply zE); intro X hX | apply zh | apply zl | apply ze); try simp only [zU, reduceIte, Nat.reduceEqDiff, Nat.reduceAdd, reduceCtorEq, Q4])
    refine hM _ _ _ ?_; clear hM M
    refine ok_cond rfl (fun _ => ?_) (fun h => by cases h)
    refine ok_seq (fun M hM => ok_region rfl ?_); repeat ((try subst X); (first | (first | apply zL | apply zH | apply zE); intro X hX | apply zh | apply zl | apply ze); try simp only [zU, reduceIte, Nat.reduceEqDiff, Nat.reduceAdd, reduceCtorEq, Q4])
    refine hM _ _ _ ?_; clear hM M
    refine ok_ret ?_
    try simp only [zW, zU, reduceIte, Nat.reduceEqDiff, Nat.reduceAdd, reduceCtorEq, Q4]
    exact he04
  simp only [h40, decide_false]
  repeat ((try subst X); (first | (first | apply zL | apply zH | apply zE); intro X hX | apply zh | apply zl | apply ze); try simp only [zU, reduceIte, Nat.reduceEqDiff, Nat.reduceAdd, reduceCtorEq, Q4])
  refine ⟨fun _ => ?_, fun h => (by cases h)⟩
  repeat ((try subst X); (first | (first | apply zL | apply zH | apply zE); intro X hX | apply zh | apply zl | apply ze); try simp only [zU, reduceIte, Nat.reduceEqDiff, Nat.reduceAdd, reduceCtorEq, Q4])
  refine ⟨_, Blk.cell hb2 rfl, ?_⟩
  repeat ((try subst X); (first | (first | apply zL | apply zH | apply zE); intro X hX | apply zh | apply zl | apply ze); try simp only [zU, reduceIte, Nat.reduceEqDiff, Nat.reduceAdd, reduceCtorEq, Q4])
  by_cases h60 : (60 : Int) < (path.length : Int)
  · simp only [h60, decide_true]
    repeat ((try subst X); (first | (first | apply zL | apply zH | apply zE); intro X hX | apply zh | apply zl | apply ze); try simp only [zU, reduceIte, Nat.reduceEqDiff, Nat.reduceAdd, reduceCtorEq, Q4])
    refine hM _ _ _ ?_; clear hM M
    refine ok_cond rfl (fun _ => ?_) (fun h => by cases h)
    refine ok_seq (fun M hM => ok_region rfl ?_); repeat ((try subst X); (first | (first | apply zL | apply zH | apply zE); intro X hX | apply zh | apply zl | apply ze); try simp only [zU, reduceIte, Nat.reduceEqDiff, Nat.reduceAdd, reduceCtorEq, Q4])
    refine hM _ _ _ ?_; clear hM M
    refine ok_ret ?_
    try simp only [zW, zU, reduceIte, Nat.reduceEqDiff, Nat.reduceAdd, reduceCtorEq, Q4]
    exact he04
  simp only [h60, decide_false]
  repeat ((try subst X); (first | (first | apply zL | apply zH | apply zE); intro X hX | apply zh | apply zl | apply ze); try simp only [zU, reduceIte, Nat.reduceEqDiff, Nat.reduceAdd, reduceCtorEq, Q4])
  refine hM _ _ _ ?_; clear hM M
  refine ok_cond rfl (fun h => by cases h) (fun _ => ok_skip ?_)
  refine hM0 _ _ _ ?_; clear hM0 M0
  clear h40 h60
  refine ok_seq (fun M hM => ok_region rfl ?_)
  repeat ((try subst X); (first | (first | apply zL | apply zH | apply zE); intro X hX | apply zh | apply zl | apply ze); try simp only [zU, reduceIte, Nat.reduceEqDiff, Nat.reduceAdd, reduceCtorEq, Q4])
  refine ⟨_, rfl, hpc6 hb1, ?_⟩
  repeat ((try subst X); (first | (first | apply zL | apply zH | apply zE); intro X hX | apply zh | apply zl | apply ze); try simp only [zU, reduceIte, Nat.reduceEqDiff, Nat.reduceAdd, reduceCtorEq, Q4])
  refine ⟨_, Blk.cell hb2 rfl, ?_⟩
  repeat ((try subst X); (first | (first | apply zL | apply zH | apply zE); intro X hX | apply zh | apply zl | apply ze); try simp only [zU, reduceIte, Nat.reduceEqDiff, Nat.reduceAdd, reduceCtorEq, Q4])
  refine Inv.call Fx.en16 (find_ok w4 _ _ p.body _ path (hb.ext he04) (hp.ext he04)) ?_
  rintro _ w5 ⟨he5, c1, rfl, hc1⟩
  have hc1l : c1.length = 9 := by rw [hc1.len, encG_len]
  repeat ((try subst X); (first | (first | apply zL | apply zH | apply zE); intro X hX | apply zh | apply zl | apply ze); try simp only [zU, reduceIte, Nat.reduceEqDiff, Nat.reduceAdd, reduceCtorEq, Q4])
  refine Runs.alloc Fx.zi37 (fun w6 he6 hs6 hb6 => ?_)
  simp only [Value.cells] at hb6
  generalize hB6 : w5.heap.size = B6 at *
  repeat ((try subst X); (first | (first | apply zL | apply zH | apply zE); intro X hX | apply zh | apply zl | apply ze); try simp only [zU, reduceIte, Nat.reduceEqDiff, Nat.reduceAdd, reduceCtorEq, Q4])
  refine Runs.store hb6 Fx.zi37 (by simpa [Value.cells] using hc1l) (fun u hu => (hc1.one u (by simpa [Value.cells] using hu)).1) (by simp) (fun w7 hc7 hs7 hb7 => ?_)
  rw [agg_cells, splice_all _ _ (by simpa using hc1l)] at hb7
  repeat ((try subst X); (first | (first | apply zL | apply zH | apply zE); intro X hX | apply zh | apply zl | apply ze); try simp only [zU, reduceIte, Nat.reduceEqDiff, Nat.reduceAdd, reduceCtorEq, Q4])
  refine hM _ _ _ ?_; clear hM M
  have he57 : Ext w5 w7 := he6.chg_trans hc7 (by intro k hk; omega)
  have he47 := he5.trans he57
  have he07 := he04.trans he47
  replace hb1 := hb1.ext he47
  replace hb2 := hb2.ext he47
  replace hc1 := (hc1.old).ext he57
  refine ok_seq (fun M hM => ok_region rfl ?_)
  repeat ((try subst X); (first | (first | apply zL | apply zH | apply zE); intro X hX | apply zh | apply zl | apply ze); try simp only [zU, reduceIte, Nat.reduceEqDiff, Nat.reduceAdd, reduceCtorEq, Q4])
  refine ⟨_, rfl, hpc6 hb1, ?_⟩
  repeat ((try subst X); (first | (first | apply zL | apply zH | apply zE); intro X hX | apply zh | apply zl | apply ze); try simp only [zU, reduceIte, Nat.reduceEqDiff, Nat.reduceAdd, reduceCtorEq, Q4])
  refine ⟨_, Blk.cell hb2 rfl, ?_⟩
  repeat ((try subst X); (first | (first | apply zL | apply zH | apply zE); intro X hX | apply zh | apply zl | apply ze); try simp only [zU, reduceIte, Nat.reduceEqDiff, Nat.reduceAdd, reduceCtorEq, Q4])
  refine Inv.call Fx.en17 (rfind_ok w7 _ _ p.body _ path (hb.ext he07) (hp.ext he07)) ?_
  rintro _ w8 ⟨he8, c2, rfl, hc2⟩
  have hc2l : c2.length = 9 := by rw [hc2.len, encG_len]
  repeat ((try subst X); (first | (first | apply zL | apply zH | apply zE); intro X hX | apply zh | apply zl | apply ze); try simp only [zU, reduceIte, Nat.reduceEqDiff, Nat.reduceAdd, reduceCtorEq, Q4])
  refine Runs.alloc Fx.zi37 (fun w9 he9 hs9 hb9 => ?_)
  simp only [Value.cells] at hb9
  generalize hB9 : w8.heap.size = B9 at *
  repeat ((try subst X); (first | (first | apply zL | apply zH | apply zE); intro X hX | apply zh | apply zl | apply ze); try simp only [zU, reduceIte, Nat.reduceEqDiff, Nat.reduceAdd, reduceCtorEq, Q4])
  refine Runs.store hb9 Fx.zi37 (by simpa [Value.cells] using hc2l) (fun u hu => (hc2.one u (by simpa [Value.cells] using hu)).1) (by simp) (fun w10 hc10 hs10 hb10 => ?_)
  rw [agg_cells, splice_all _ _ (by simpa using hc2l)] at hb10
  repeat ((try subst X); (first | (first | apply zL | apply zH | apply zE); intro X hX | apply zh | apply zl | apply ze); try simp only [zU, reduceIte, Nat.reduceEqDiff, Nat.reduceAdd, reduceCtorEq, Q4])
  refine hM _ _ _ ?_; clear hM M
  have he810 : Ext w8 w10 := he9.chg_trans hc10 (by intro k hk; omega)
  have he710 := he8.trans he810
  have he010 := he07.trans he710
  replace hb1 := hb1.ext he710
  replace hb2 := hb2.ext he710
  replace hb7 := hb7.ext he710
  replace hc1 := hc1.ext he710
  replace hc2 := (hc2.old).ext he810
  refine ok_seq (fun M hM => ?_)
  refine (ok_drawR [] [0, 1, 2, 3, 4, 5, 6, 7, 8, 9, 10, 11, 12, 13, 14, 15, 16, 17, 18, 19, 20, 21, 22, 23, 24, 25, 26, 27, 28, 29, 30, 31, 32, 33, 34, 35, 36, 37, 38, 39, 40, 41, 42] 43 [] (Ext _) Fx.mixed (by decide) rfl rfl rfl (by decide +kernel) (by decide +kernel) (Ext.drew _) ?_); simp only [pickL, List.getElem?_cons_zero, List.getElem?_cons_succ, List.take_succ_cons, List.take_zero, List.drop_succ_cons, List.drop_zero]
  repeat ((try subst X); (first | (first | apply zL | apply zH | apply zE); intro X hX | apply zh | apply zl | apply ze); try simp only [zU, reduceIte, Nat.reduceEqDiff, Nat.reduceAdd, reduceCtorEq, Q4])
  refine ⟨c1, hc1l, fun w' h => (hb7.ext h).all, ?_⟩
  repeat ((try subst X); (first | (first | apply zL | apply zH | apply zE); intro X hX | apply zh | apply zl | apply ze); try simp only [zU, reduceIte, Nat.reduceEqDiff, Nat.reduceAdd, reduceCtorEq, Q4])
  refine ⟨c2, hc2l, fun w' h => (hb10.ext h).all, ?_⟩
  repeat ((try subst X); (first | (first | apply zL | apply zH | apply zE); intro X hX | apply zh | apply zl | apply ze); try simp only [zU, reduceIte, Nat.reduceEqDiff, Nat.reduceAdd, reduceCtorEq, Q4])
  refine ⟨.bool true, fun w' h => Inv.call Fx.en14 (eqGoal_ok _ w' _ _ c1 c2 (hc1.ext h) (hc2.ext h)) (by rintro _ w'' ⟨rfl, he⟩; exact ⟨rfl, h.trans he⟩), ?_⟩
  repeat ((try subst X); (first | (first | apply zL | apply zH | apply zE); intro X hX | apply zh | apply zl | apply ze); try simp only [zU, reduceIte, Nat.reduceEqDiff, Nat.reduceAdd, reduceCtorEq, Q4])
  refine ⟨_, rfl, fun w' h => (hpc6 (hb1.ext h)), ?_⟩
  repeat ((try subst X); (first | (first | apply zL | apply zH | apply zE); intro X hX | apply zh | apply zl | apply ze); try simp only [zU, reduceIte, Nat.reduceEqDiff, Nat.reduceAdd, reduceCtorEq, Q4])
  refine ⟨_, fun w' h => Blk.cell (hb2.ext h) rfl, ?_⟩
  repeat ((try subst X); (first | (first | apply zL | apply zH | apply zE); intro X hX | apply zh | apply zl | apply ze); try simp only [zU, reduceIte, Nat.reduceEqDiff, Nat.reduceAdd, reduceCtorEq, Q4])
  refine ⟨.bool (occG p.body v), fun w' h => Inv.call Fx.en18 (occurs_ok w' _ _ p.body v ((hb.ext he010).ext h) hht) (by rintro _ w'' ⟨rfl, he⟩; exact ⟨rfl, h.trans he⟩), ?_⟩
  repeat ((try subst X); (first | (first | apply zL | apply zH | apply zE); intro X hX | apply zh | apply zl | apply ze); try simp only [zU, reduceIte, Nat.reduceEqDiff, Nat.reduceAdd, reduceCtorEq, Q4])
  refine ⟨_, rfl, fun w' h => (hpc6 (hb1.ext h)), ?_⟩
  repeat ((try subst X); (first | (first | apply zL | apply zH | apply zE); intro X hX | apply zh | apply zl | apply ze); try simp only [zU, reduceIte, Nat.reduceEqDiff, Nat.reduceAdd, reduceCtorEq, Q4])
  refine ⟨_, fun w' h => Blk.cell (hb2.ext h) rfl, ?_⟩
  repeat ((try subst X); (first | (first | apply zL | apply zH | apply zE); intro X hX | apply zh | apply zl | apply ze); try simp only [zU, reduceIte, Nat.reduceEqDiff, Nat.reduceAdd, reduceCtorEq, Q4])
  refine ⟨.bool (occG p.body v), fun w' h => Inv.call Fx.en19 (roccurs_ok p.body v w' _ _ ((hb.ext he010).ext h)) (by rintro _ w'' ⟨rfl, he⟩; exact ⟨rfl, h.trans he⟩), ?_⟩
  repeat ((try subst X); (first | (first | apply zL | apply zH | apply zE); intro X hX | apply zh | apply zl | apply ze); try simp only [zU, reduceIte, Nat.reduceEqDiff, Nat.reduceAdd, reduceCtorEq, Q4])
  refine ⟨cs, hcl, fun w' h => (hb1.ext h).all, ?_⟩
  repeat ((try subst X); (first | (first | apply zL | apply zH | apply zE); intro X hX | apply zh | apply zl | apply ze); try simp only [zU, reduceIte, Nat.reduceEqDiff, Nat.reduceAdd, reduceCtorEq, Q4])
  refine ⟨_, fun w' h => Blk.cell (hb2.ext h) rfl, ?_⟩
  repeat ((try subst X); (first | (first | apply zL | apply zH | apply zE); intro X hX | apply zh | apply zl | apply ze); try simp only [zU, reduceIte, Nat.reduceEqDiff, Nat.reduceAdd, reduceCtorEq, Q4])
  refine ⟨_, fun w' h => Blk.cell (hb2.ext h) rfl, ?_⟩
  repeat ((try subst X); (first | (first | apply zL | apply zH | apply zE); intro X hX | apply zh | apply zl | apply ze); try simp only [zU, reduceIte, Nat.reduceEqDiff, Nat.reduceAdd, reduceCtorEq, Q4])
  refine ⟨_, fun w' h => Blk.cell (hb2.ext h) rfl, ?_⟩
  repeat ((try subst X); (first | (first | apply zL | apply zH | apply zE); intro X hX | apply zh | apply zl | apply ze); try simp only [zU, reduceIte, Nat.reduceEqDiff, Nat.reduceAdd, reduceCtorEq, Q4])
  refine ⟨.bool (boundP p insts path idx v), fun w' h => Inv.call Fx.en20 (Bound_ok w' _ cs p insts _ _ path idx v ((h0.ext he010).ext h) ((hi.ext he010).ext h) ((hp.ext he010).ext h) hht) (by rintro _ w'' ⟨rfl, he⟩; exact ⟨rfl, h.trans he⟩), ?_⟩
  repeat ((try subst X); (first | (first | apply zL | apply zH | apply zE); intro X hX | apply zh | apply zl | apply ze); try simp only [zU, reduceIte, Nat.reduceEqDiff, Nat.reduceAdd, reduceCtorEq, Q4])
  refine ⟨cs, hcl, fun w' h => (hb1.ext h).all, ?_⟩
  repeat ((try subst X); (first | (first | apply zL | apply zH | apply zE); intro X hX | apply zh | apply zl | apply ze); try simp only [zU, reduceIte, Nat.reduceEqDiff, Nat.reduceAdd, reduceCtorEq, Q4])
  refine ⟨_, fun w' h => Blk.cell (hb2.ext h) rfl, ?_⟩
  repeat ((try subst X); (first | (first | apply zL | apply zH | apply zE); intro X hX | apply zh | apply zl | apply ze); try simp only [zU, reduceIte, Nat.reduceEqDiff, Nat.reduceAdd, reduceCtorEq, Q4])
  refine ⟨_, fun w' h => Blk.cell (hb2.ext h) rfl, ?_⟩
  repeat ((try subst X); (first | (first | apply zL | apply zH | apply zE); intro X hX | apply zh | apply zl | apply ze); try simp only [zU, reduceIte, Nat.reduceEqDiff, Nat.reduceAdd, reduceCtorEq, Q4])
  refine ⟨_, fun w' h => Blk.cell (hb2.ext h) rfl, ?_⟩
  repeat ((try subst X); (first | (first | apply zL | apply zH | apply zE); intro X hX | apply zh | apply zl | apply ze); try simp only [zU, reduceIte, Nat.reduceEqDiff, Nat.reduceAdd, reduceCtorEq, Q4])
  refine ⟨.bool (boundP p insts path idx v), fun w' h => Inv.call Fx.en21 (rBound_ok w' _ cs p insts _ _ path idx v ((h0.ext he010).ext h) ((hi.ext he010).ext h) ((hp.ext he010).ext h) hht) (by rintro _ w'' ⟨rfl, he⟩; exact ⟨rfl, h.trans he⟩), ?_⟩
  repeat ((try subst X); (first | (first | apply zL | apply zH | apply zE); intro X hX | apply zh | apply zl | apply ze); try simp only [zU, reduceIte, Nat.reduceEqDiff, Nat.reduceAdd, reduceCtorEq, Q4])
  intro w11 he11
  repeat ((try subst X); (first | (first | apply zL | apply zH | apply zE); intro X hX | apply zh | apply zl | apply ze); try simp only [zU, reduceIte, Nat.reduceEqDiff, Nat.reduceAdd, reduceCtorEq, Q4])
  refine hM _ _ _ ?_; clear hM M
  refine ok_ret ?_
  try simp only [zW, zU, reduceIte, Nat.reduceEqDiff, Nat.reduceAdd, reduceCtorEq, Q4]
  exact he010.trans he11
end Go.Proofs.YtcpjojaklpgnkaaGreat
