/- Part 8 of 14: G11, G12, G13, G14. -/
import Derived.Test.YtafjfcameabbmaaM7
import Derived.Test.YtafjfcameabbmaaM3
/- The trace: read, Right.  -/
set_option linter.unusedVariables false
set_option linter.unusedSimpArgs false
namespace Go.Proofs.Vg
open Go Go.RowKit
def stepsN (es : List Ev) : List Nd := es.foldl stepN []
theorem stepsN_snoc (l : List Ev) (e : Ev) : stepsN (l ++ [e]) = stepN (stepsN l) e := by simp [stepsN, List.foldl_append]
def badAt (es : List Ev) (j : Nat) : Bool := match es[j]? with | some e => !fitsR (stepsN (es.take j)) e | none => false
def firstBad (es : List Ev) : Nat → Nat → Option Nat
  | 0, _ => none
  | f + 1, i => if badAt es i then some i else firstBad es f (i + 1)
/-- The index of the first wrong event. -/
def rightN (es : List Ev) : Int := match firstBad es es.length 0 with | some j => (j : Int) | none => -1
def okTo (es : List Ev) (i : Nat) : Prop := ∀ j, j < i → badAt es j = false
theorem firstBad_skip (es : List Ev) : ∀ (i f s : Nat), (∀ j, s ≤ j → j < s + i → badAt es j = false) → firstBad es (i + f) s = firstBad es f (s + i)
  | 0, f, s, _ => by simp
  | i + 1, f, s, h => by
    rw [show i + 1 + f = (i + f) + 1 by omega, firstBad, h s (Nat.le_refl _) (by omega)]
    simp only [Bool.false_eq_true, if_false]
    rw [firstBad_skip es i f (s + 1) (fun j h1 h2 => h j (by omega) (by omega))]
    congr 1
    omega
theorem rightN_bad {es : List Ev} {i : Nat} {e : Ev} (h : okTo es i) (he : es[i]? = some e) (hf : fitsR (stepsN (es.take i)) e = false) : rightN es = (i : Int) := by
  have hil := (List.getElem?_eq_some_iff.1 he).1
  have h1 := firstBad_skip es i (es.length - i) 0 (fun j _ hj => h j (by omega))
  rw [show i + (es.length - i) = es.length by omega, Nat.zero_add, show es.length - i = (es.length - i - 1) + 1 by omega, firstBad] at h1
  have hb : badAt es i = true := by simp [badAt, he, hf]
  rw [hb] at h1
  simp only [if_true] at h1
  simp only [rightN, h1]
theorem rightN_ok {es : List Ev} (h : okTo es es.length) : rightN es = -1 := by
  have h1 := firstBad_skip es es.length 0 0 (fun j _ hj => h j (by omega))
  simp only [Nat.add_zero, firstBad] at h1
  simp only [rightN, h1]
theorem okTo_of_right {es : List Ev} (h : rightN es < 0) : okTo es es.length := by
  intro j hj
  cases hb : badAt es j with
  | false => rfl
  | true =>
    exfalso
    have : ∀ (f s : Nat), s ≤ j → j < s + f → ∃ k, firstBad es f s = some k := by
      intro f
      induction f with
      | zero => intro s h1 h2; omega
      | succ f ih =>
        intro s h1 h2
        simp only [firstBad]
        cases hs : badAt es s with
        | true => exact ⟨s, by simp⟩
        | false =>
          simp only [Bool.false_eq_true, if_false]
          rcases Nat.lt_or_ge s j with h3 | h3
          · exact ih (s + 1) (by omega) (by omega)
          · have : s = j := by omega
            rw [this, hb] at hs; cases hs
    obtain ⟨k, hk⟩ := this es.length 0 (Nat.zero_le _) (by omega)
    simp only [rightN, hk] at h
    omega
theorem okTo.fits {es : List Ev} {n i : Nat} {e : Ev} (h : okTo es n) (hi : i < n) (he : es[i]? = some e) : fitsR (stepsN (es.take i)) e = true := by
  have := h i hi
  simp [badAt, he] at this
  exact this
theorem okTo.wf {es : List Ev} {i : Nat} (h : okTo es i) (hi : i ≤ es.length) : WF i (stepsN (es.take i)) ∧ KI (stepsN (es.take i)) := by
  induction i with
  | zero =>
    simp only [List.take_zero, stepsN, List.foldl_nil]
    exact ⟨⟨Nat.le_refl _, fun i d h => by simp at h, fun i d h => by simp at h, fun i d h => by simp at h, fun i d h => by simp at h⟩, fun i d h => by simp at h⟩
  | succ i ih =>
    obtain ⟨h1, h2⟩ := ih (fun j hj => h j (by omega)) (by omega)
    have he : es[i]? = some es[i] := List.getElem?_eq_getElem (by omega)
    have hf := h.fits (Nat.lt_succ_self i) he
    rw [List.take_succ_eq_append_getElem (by omega), stepsN_snoc]
    exact ⟨h1.step hf, h2.step h1 hf⟩
theorem okTo.take {es : List Ev} {n : Nat} (h : okTo es es.length) (hn : n ≤ es.length) : okTo (es.take n) n := by
  intro j hj
  have := h j (by omega)
  unfold badAt at this ⊢
  rw [List.getElem?_take, if_pos hj, List.take_take, Nat.min_eq_left (by omega)]
  exact this
/-- A slice that reads as events. -/
def EvSl (w : World) (S : Nat → Prop) (v : Value) (es : List Ev) : Prop := ∃ rows, SliS w S 6 v rows ∧ rows.length = es.length ∧ ∀ (i : Nat) (r : List Value) (e : Ev), rows[i]? = some r → es[i]? = some e → EvRow w S r e
theorem EvRow.ext {w w' : World} {S : Nat → Prop} {r : List Value} {e : Ev} (h : EvRow w S r e) (he : Ext w w') : EvRow w' S r e := by
  obtain ⟨v, h1, h2⟩ := h
  exact ⟨v, h1, h2.chg (he.chg (fun _ => False)) (fun k hk => ⟨hk, id⟩)⟩
theorem EvSl.ext {w w' : World} {S : Nat → Prop} {v : Value} {es : List Ev} (h : EvSl w S v es) (he : Ext w w') : EvSl w' S v es := by
  obtain ⟨rows, h1, h2, h3⟩ := h
  exact ⟨rows, h1.chg (he.chg (fun _ => False)) (fun k hk => ⟨hk, id⟩), h2, fun i r e hr hv => (h3 i r e hr hv).ext he⟩
theorem EvRow.cells {w : World} {S : Nat → Prop} {r : List Value} {e : Ev} (h : EvRow w S r e) : r.length = 6 ∧ (Value.agg r.toArray).cells = r.toArray ∧ ∀ u ∈ r, u.oneCell' = true := by
  obtain ⟨v, rfl, h1, h2, -⟩ := h
  refine ⟨rfl, rfl, ?_⟩
  intro u hu; simp at hu; rcases hu with rfl | rfl | rfl | rfl | rfl | rfl <;> first | rfl | exact h1
end Go.Proofs.Vg
namespace Go.Proofs.Ytafjfcameabbmaa
open Go Go.Proofs.Vg Go.RowKit

-- -- function 51
set_option maxHeartbeats 4000000 in
set_option maxRecDepth 8000 in
theorem read_ok (w : World) (S : Nat → Prop) (v : Value) (es : List Ev) (h : EvSl w S v es) (hl : es.length ≤ 400) (hS : ∀ k, S k → k < w.heap.size) :
    Rets Try.prog 51 [v] w (fun r w' => ∃ bb, r = .tuple #[.pointer (some ⟨bb, 0, none⟩), .int .i64 (rightN es)] ∧ Ext w w' ∧ (rightN es = -1 → ∃ vn vb vks rows busy, BM w' bb S vn vb vks rows (stepsN es) busy ∧ ∀ k, BFoot bb vn vb vks k → w.heap.size ≤ k ∧ k < w'.heap.size)) := by
  obtain ⟨rws, ⟨A, c, rfl, hlen, hcell⟩, hrl, hrow⟩ := h
  rw [hrl]
  refine rets_of_ok Try.func51 rfl rfl ?_
  refine ok_seq (fun M hM => ok_region rfl ?_); repeat ((try first | (refine z3 hX ?_; clear hX X) | (refine z2 hX ?_; clear hX X)); (first | refine zL fun X hX => ?_ | refine zH fun X hX => ?_ | refine zE fun X hX => ?_ | refine zl ?_ | refine zh ?_ | refine ze ?_); try simp only [oweC, oweP, opF, opH, ev, evs, evp, evo, Env.get, Env.set, putE, gdst, S0, S1, thenN, inBlockN, argEnv, builtinR, retE, fin, callR, reduceIte, Nat.reduceEqDiff, Nat.reduceAdd, reduceCtorEq, forall_const, Q51])
  refine hM _ _ _ ?_; clear hM M
  refine ok_seq (fun M hM => ok_region rfl ?_)
  repeat ((try first | (refine z3 hX ?_; clear hX X) | (refine z2 hX ?_; clear hX X)); (first | refine zL fun X hX => ?_ | refine zH fun X hX => ?_ | refine zE fun X hX => ?_ | refine zl ?_ | refine zh ?_ | refine ze ?_); try simp only [oweC, oweP, opF, opH, ev, evs, evp, evo, Env.get, Env.set, putE, gdst, S0, S1, thenN, inBlockN, argEnv, builtinR, retE, fin, callR, reduceIte, Nat.reduceEqDiff, Nat.reduceAdd, reduceCtorEq, forall_const, Q51])
  refine ⟨_, w, run_build (P := Try.prog) w 98 _ #[.slice none 0 0, .slice none 0 0] (by kernel_rfl), ?_⟩
  repeat ((try first | (refine z3 hX ?_; clear hX X) | (refine z2 hX ?_; clear hX X)); (first | refine zL fun X hX => ?_ | refine zH fun X hX => ?_ | refine zE fun X hX => ?_ | refine zl ?_ | refine zh ?_ | refine ze ?_); try simp only [oweC, oweP, opF, opH, ev, evs, evp, evo, Env.get, Env.set, putE, gdst, S0, S1, thenN, inBlockN, argEnv, builtinR, retE, fin, callR, reduceIte, Nat.reduceEqDiff, Nat.reduceAdd, reduceCtorEq, forall_const, Q51])
  refine Runs.box (fun w1 he1 hz1 hb1 => ?_)
  generalize hB1 : w.heap.size = bb at hz1 hb1
  simp only [Value.cells] at hb1
  repeat ((try first | (refine z3 hX ?_; clear hX X) | (refine z2 hX ?_; clear hX X)); (first | refine zL fun X hX => ?_ | refine zH fun X hX => ?_ | refine zE fun X hX => ?_ | refine zl ?_ | refine zh ?_ | refine ze ?_); try simp only [oweC, oweP, opF, opH, ev, evs, evp, evo, Env.get, Env.set, putE, gdst, S0, S1, thenN, inBlockN, argEnv, builtinR, retE, fin, callR, reduceIte, Nat.reduceEqDiff, Nat.reduceAdd, reduceCtorEq, forall_const, Q51])
  refine hM _ _ _ ?_; clear hM M
  refine ok_seq (fun M0 hM0 => ?_)
  refine ok_seq (fun M hM => ok_region rfl ?_); repeat ((try first | (refine z3 hX ?_; clear hX X) | (refine z2 hX ?_; clear hX X)); (first | refine zL fun X hX => ?_ | refine zH fun X hX => ?_ | refine zE fun X hX => ?_ | refine zl ?_ | refine zh ?_ | refine ze ?_); try simp only [oweC, oweP, opF, opH, ev, evs, evp, evo, Env.get, Env.set, putE, gdst, S0, S1, thenN, inBlockN, argEnv, builtinR, retE, fin, callR, reduceIte, Nat.reduceEqDiff, Nat.reduceAdd, reduceCtorEq, forall_const, Q51])
  refine hM _ _ _ ?_; clear hM M
  refine ok_block ?_
  have hbm0 : BM w1 bb S (.slice none 0 0) (.slice none 0 0) [] [] [] [] := by
    refine ⟨hb1, ⟨World.ownsRow_nil _ _ _ _, rfl, rfl, fun i d hd => by simp at hd, fun i j u v k hu => by simp at hu, fun k hk => by simp [Value.ownBlock] at hk, fun i v k hi => by simp at hi⟩, World.ownsRow_nil _ _ _ _, rfl, fun hs => by have := hS bb hs; omega, fun hf => ?_, fun k hk => by simp [Value.ownBlock] at hk⟩
    rcases hf with hf | ⟨i, v, hi, _⟩
    · simp [Value.ownBlock] at hf
    · simp at hi
  refine ok_loop (S := Nat) (fun i => [(4, .pointer (some ⟨bb, 0, none⟩)), (9, .slice A es.length c), (10, .int .i64 (es.length : Int)), (11, .int .i64 (i : Int))])
    (fun i w' => Ext w w' ∧ i ≤ es.length ∧ okTo es i ∧ ∃ vn vb vks rows busy, BM w' bb S vn vb vks rows (stepsN (es.take i)) busy ∧ BusyOk (stepsN (es.take i)) busy ∧ ∀ k, BFoot bb vn vb vks k → w.heap.size ≤ k ∧ k < w'.heap.size) (fun i => es.length - i) 0 ?_ ?_ ?_
  · simp [sub, Env.get, argEnv]
  · refine ⟨he1, Nat.zero_le _, fun j hj => absurd hj (Nat.not_lt_zero _), _, _, _, _, _, hbm0, fun j hj => absurd hj (Nat.not_lt_zero _), fun k hk => ?_⟩
    rcases hk with rfl | hk | hk | ⟨i, v, hi, _⟩
    · omega
    · simp [Value.ownBlock] at hk
    · simp [Value.ownBlock] at hk
    · simp at hi
  rintro i w2 ⟨he2, hi, hok, vn, vb, vks, rows, busy, hbm, hbz, hF⟩
  have hs2 := he2.size
  refine ok_seq (fun M hM => ok_region rfl ?_); repeat ((try first | (refine z3 hX ?_; clear hX X) | (refine z2 hX ?_; clear hX X)); (first | refine zL fun X hX => ?_ | refine zH fun X hX => ?_ | refine zE fun X hX => ?_ | refine zl ?_ | refine zh ?_ | refine ze ?_); try simp only [oweC, oweP, opF, opH, ev, evs, evp, evo, Env.get, Env.set, putE, gdst, S0, S1, thenN, inBlockN, argEnv, builtinR, retE, fin, callR, reduceIte, Nat.reduceEqDiff, Nat.reduceAdd, reduceCtorEq, forall_const, Q51])
  refine hM _ _ _ ?_; clear hM M
  refine ok_seq (fun M1 hM1 => ?_)
  refine ok_if rfl (fun hc => ok_skip ?_) (fun hc => ok_exit ?_)
  rotate_left
  · try simp only [wpL, wpH, wpE, oweC, oweP, opF, opH, ev, evs, evp, evo, Env.get, Env.set, putE, gdst, S0, S1, thenN, inBlockN, argEnv, builtinR, retE, fin, callR, reduceIte, Nat.reduceEqDiff, Nat.reduceAdd, reduceCtorEq, forall_const, Q51]
    refine hM0 _ _ _ ?_; clear hM0 M0 hM1 M1
    have hia : i = es.length := by omega
    subst hia
    refine ok_seq (fun M hM => ok_region rfl ?_); repeat ((try first | (refine z3 hX ?_; clear hX X) | (refine z2 hX ?_; clear hX X)); (first | refine zL fun X hX => ?_ | refine zH fun X hX => ?_ | refine zE fun X hX => ?_ | refine zl ?_ | refine zh ?_ | refine ze ?_); try simp only [oweC, oweP, opF, opH, ev, evs, evp, evo, Env.get, Env.set, putE, gdst, S0, S1, thenN, inBlockN, argEnv, builtinR, retE, fin, callR, reduceIte, Nat.reduceEqDiff, Nat.reduceAdd, reduceCtorEq, forall_const, Q51])
    refine hM _ _ _ ?_; clear hM M
    refine ok_ret ?_
    try simp only [wpL, wpH, wpE, oweC, oweP, opF, opH, ev, evs, evp, evo, Env.get, Env.set, putE, gdst, S0, S1, thenN, inBlockN, argEnv, builtinR, retE, fin, callR, reduceIte, Nat.reduceEqDiff, Nat.reduceAdd, reduceCtorEq, forall_const, Q51]
    have hr := rightN_ok hok
    rw [List.take_of_length_le (Nat.le_refl _)] at hbm
    exact ⟨bb, by rw [hr], he2, fun _ => ⟨_, _, _, _, _, hbm, hF⟩⟩
  try simp only [wpL, wpH, wpE, oweC, oweP, opF, opH, ev, evs, evp, evo, Env.get, Env.set, putE, gdst, S0, S1, thenN, inBlockN, argEnv, builtinR, retE, fin, callR, reduceIte, Nat.reduceEqDiff, Nat.reduceAdd, reduceCtorEq, forall_const, Q51]
  refine hM1 _ _ _ ?_; clear hM1 M1
  have hil : i < es.length := by omega
  have hei : es[i]? = some es[i] := List.getElem?_eq_getElem hil
  have htk : es.take (i + 1) = es.take i ++ [es[i]] := List.take_succ_eq_append_getElem hil
  generalize es[i] = e at hei htk
  have hri : rws[i]? = some (rws[i]'(by omega)) := List.getElem?_eq_getElem (by omega)
  generalize (rws[i]'(by omega)) = r at hri
  have hre := hrow i r e hri hei
  obtain ⟨b, o, rfl, hbS, hcr⟩ := hcell i r hri
  obtain ⟨hr6, hrc, hro⟩ := hre.cells
  obtain ⟨hwf, -⟩ := hok.wf hi
  refine ok_seq (fun M1 hM1 => ok_block ?_)
  refine ok_seq (fun M hM => ok_region rfl ?_)
  repeat ((try first | (refine z3 hX ?_; clear hX X) | (refine z2 hX ?_; clear hX X)); (first | refine zL fun X hX => ?_ | refine zH fun X hX => ?_ | refine zE fun X hX => ?_ | refine zl ?_ | refine zh ?_ | refine ze ?_); try simp only [oweC, oweP, opF, opH, ev, evs, evp, evo, Env.get, Env.set, putE, gdst, S0, S1, thenN, inBlockN, argEnv, builtinR, retE, fin, callR, reduceIte, Nat.reduceEqDiff, Nat.reduceAdd, reduceCtorEq, forall_const, Q51])
  refine ⟨by omega, by omega, ?_⟩
  repeat ((try first | (refine z3 hX ?_; clear hX X) | (refine z2 hX ?_; clear hX X)); (first | refine zL fun X hX => ?_ | refine zH fun X hX => ?_ | refine zE fun X hX => ?_ | refine zl ?_ | refine zh ?_ | refine ze ?_); try simp only [oweC, oweP, opF, opH, ev, evs, evp, evo, Env.get, Env.set, putE, gdst, S0, S1, thenN, inBlockN, argEnv, builtinR, retE, fin, callR, reduceIte, Nat.reduceEqDiff, Nat.reduceAdd, reduceCtorEq, forall_const, Q51])
  refine ⟨r, hr6, he2.cellsAt hcr, ?_⟩
  repeat ((try first | (refine z3 hX ?_; clear hX X) | (refine z2 hX ?_; clear hX X)); (first | refine zL fun X hX => ?_ | refine zH fun X hX => ?_ | refine zE fun X hX => ?_ | refine zl ?_ | refine zh ?_ | refine ze ?_); try simp only [oweC, oweP, opF, opH, ev, evs, evp, evo, Env.get, Env.set, putE, gdst, S0, S1, thenN, inBlockN, argEnv, builtinR, retE, fin, callR, reduceIte, Nat.reduceEqDiff, Nat.reduceAdd, reduceCtorEq, forall_const, Q51])
  refine Runs.alloc Fx.zi69 (fun w3 he3 hs3 hb3 => ?_)
  generalize hB3 : w2.heap.size = B3 at hs3 hb3
  repeat ((try first | (refine z3 hX ?_; clear hX X) | (refine z2 hX ?_; clear hX X)); (first | refine zL fun X hX => ?_ | refine zH fun X hX => ?_ | refine zE fun X hX => ?_ | refine zl ?_ | refine zh ?_ | refine ze ?_); try simp only [oweC, oweP, opF, opH, ev, evs, evp, evo, Env.get, Env.set, putE, gdst, S0, S1, thenN, inBlockN, argEnv, builtinR, retE, fin, callR, reduceIte, Nat.reduceEqDiff, Nat.reduceAdd, reduceCtorEq, forall_const, Q51])
  refine Runs.store hb3 Fx.zi69 (by rw [hrc]; simpa using hr6) (by rw [hrc]; simpa using hro) (by simp [Value.cells]) (fun w4 hc4 hs4 hb4 => ?_)
  rw [splice_all _ _ (by rw [hrc]; simp [Value.cells, hr6]), hrc] at hb4
  have he24 : Ext w2 w4 := he3.chg_trans hc4 (fun i hi => by omega)
  have hs24 := he24.size
  repeat ((try first | (refine z3 hX ?_; clear hX X) | (refine z2 hX ?_; clear hX X)); (first | refine zL fun X hX => ?_ | refine zH fun X hX => ?_ | refine zE fun X hX => ?_ | refine zl ?_ | refine zh ?_ | refine ze ?_); try simp only [oweC, oweP, opF, opH, ev, evs, evp, evo, Env.get, Env.set, putE, gdst, S0, S1, thenN, inBlockN, argEnv, builtinR, retE, fin, callR, reduceIte, Nat.reduceEqDiff, Nat.reduceAdd, reduceCtorEq, forall_const, Q51])
  refine hM _ _ _ ?_; clear hM M
  refine ok_seq (fun M hM => ok_region rfl ?_)
  repeat ((try first | (refine z3 hX ?_; clear hX X) | (refine z2 hX ?_; clear hX X)); (first | refine zL fun X hX => ?_ | refine zH fun X hX => ?_ | refine zE fun X hX => ?_ | refine zl ?_ | refine zh ?_ | refine ze ?_); try simp only [oweC, oweP, opF, opH, ev, evs, evp, evo, Env.get, Env.set, putE, gdst, S0, S1, thenN, inBlockN, argEnv, builtinR, retE, fin, callR, reduceIte, Nat.reduceEqDiff, Nat.reduceAdd, reduceCtorEq, forall_const, Q51])
  refine ⟨r, hr6, hb4.cells (o := 0) (fun j u hj => by simpa using hj), ?_⟩
  repeat ((try first | (refine z3 hX ?_; clear hX X) | (refine z2 hX ?_; clear hX X)); (first | refine zL fun X hX => ?_ | refine zH fun X hX => ?_ | refine zE fun X hX => ?_ | refine zl ?_ | refine zh ?_ | refine ze ?_); try simp only [oweC, oweP, opF, opH, ev, evs, evp, evo, Env.get, Env.set, putE, gdst, S0, S1, thenN, inBlockN, argEnv, builtinR, retE, fin, callR, reduceIte, Nat.reduceEqDiff, Nat.reduceAdd, reduceCtorEq, forall_const, Q51])
  refine Inv.call Fx.en57 (take_ok w4 bb S vn vb vks rows _ busy (hbm.ext he24) i (by omega) hwf hbz (fun k hk => by have := hS k hk; omega) (fun k hk => by have := hF k hk; omega) r e (hre.ext (he2.trans he24))) ?_
  rintro vv w5 ⟨rfl, hff, hft⟩
  repeat ((try first | (refine z3 hX ?_; clear hX X) | (refine z2 hX ?_; clear hX X)); (first | refine zL fun X hX => ?_ | refine zH fun X hX => ?_ | refine zE fun X hX => ?_ | refine zl ?_ | refine zh ?_ | refine ze ?_); try simp only [oweC, oweP, opF, opH, ev, evs, evp, evo, Env.get, Env.set, putE, gdst, S0, S1, thenN, inBlockN, argEnv, builtinR, retE, fin, callR, reduceIte, Nat.reduceEqDiff, Nat.reduceAdd, reduceCtorEq, forall_const, Q51])
  refine hM _ _ _ ?_; clear hM M
  cases hf : fitsR (stepsN (es.take i)) e with
  | false =>
    refine ok_cond (b := true) rfl (fun _ => ?_) (fun h => by cases h)
    refine ok_seq (fun M hM => ok_region rfl ?_); repeat ((try first | (refine z3 hX ?_; clear hX X) | (refine z2 hX ?_; clear hX X)); (first | refine zL fun X hX => ?_ | refine zH fun X hX => ?_ | refine zE fun X hX => ?_ | refine zl ?_ | refine zh ?_ | refine ze ?_); try simp only [oweC, oweP, opF, opH, ev, evs, evp, evo, Env.get, Env.set, putE, gdst, S0, S1, thenN, inBlockN, argEnv, builtinR, retE, fin, callR, reduceIte, Nat.reduceEqDiff, Nat.reduceAdd, reduceCtorEq, forall_const, Q51])
    refine hM _ _ _ ?_; clear hM M
    refine ok_ret ?_
    try simp only [wpL, wpH, wpE, oweC, oweP, opF, opH, ev, evs, evp, evo, Env.get, Env.set, putE, gdst, S0, S1, thenN, inBlockN, argEnv, builtinR, retE, fin, callR, reduceIte, Nat.reduceEqDiff, Nat.reduceAdd, reduceCtorEq, forall_const, Q51]
    have hr := rightN_bad hok hei hf
    exact ⟨bb, by rw [hr], (he2.trans he24).trans (hff hf), fun hh => by rw [hr] at hh; omega⟩
  | true =>
    refine ok_cond (b := false) rfl (fun h => by cases h) (fun _ => ok_skip ?_)
    try simp only [wpL, wpH, wpE, oweC, oweP, opF, opH, ev, evs, evp, evo, Env.get, Env.set, putE, gdst, S0, S1, thenN, inBlockN, argEnv, builtinR, retE, fin, callR, reduceIte, Nat.reduceEqDiff, Nat.reduceAdd, reduceCtorEq, forall_const, Q51]
    refine hM1 _ _ _ ?_; clear hM1 M1
    obtain ⟨vn', vb', vks', rows', busy', hbm', hbz', hc5, hF'⟩ := hft hf
    have he25 : Ext w w5 := (he2.trans he24).chg_trans hc5 (fun k hk => (hF k hk).1)
    have hs5 := hc5.size
    refine ok_region rfl ?_
    repeat ((try first | (refine z3 hX ?_; clear hX X) | (refine z2 hX ?_; clear hX X)); (first | refine zL fun X hX => ?_ | refine zH fun X hX => ?_ | refine zE fun X hX => ?_ | refine zl ?_ | refine zh ?_ | refine ze ?_); try simp only [oweC, oweP, opF, opH, ev, evs, evp, evo, Env.get, Env.set, putE, gdst, S0, S1, thenN, inBlockN, argEnv, builtinR, retE, fin, callR, reduceIte, Nat.reduceEqDiff, Nat.reduceAdd, reduceCtorEq, forall_const, Q51])
    refine ⟨by simp only [inI]; omega, ?_⟩
    repeat ((try first | (refine z3 hX ?_; clear hX X) | (refine z2 hX ?_; clear hX X)); (first | refine zL fun X hX => ?_ | refine zH fun X hX => ?_ | refine zE fun X hX => ?_ | refine zl ?_ | refine zh ?_ | refine ze ?_); try simp only [oweC, oweP, opF, opH, ev, evs, evp, evo, Env.get, Env.set, putE, gdst, S0, S1, thenN, inBlockN, argEnv, builtinR, retE, fin, callR, reduceIte, Nat.reduceEqDiff, Nat.reduceAdd, reduceCtorEq, forall_const, Q51])
    refine ⟨i + 1, by simp [sub, Env.get], ⟨he25, by omega, fun j hj => ?_, vn', vb', vks', rows', busy', by rw [htk, stepsN_snoc]; exact hbm', by rw [htk, stepsN_snoc]; exact hbz', fun k hk => ?_⟩, by omega⟩
    · rcases Nat.lt_or_ge j i with h1 | h1
      · exact hok j h1
      · have : j = i := by omega
        subst this
        simp [badAt, hei, hf]
    · rcases hF' k hk with h1 | h1
      · have := hF k h1; omega
      · omega

-- -- function 33
set_option maxHeartbeats 4000000 in
theorem right_ok (w : World) (S : Nat → Prop) (v : Value) (es : List Ev) (h : EvSl w S v es) (hl : es.length ≤ 400) (hS : ∀ k, S k → k < w.heap.size) :
    Rets Try.prog 33 [v] w (fun r w' => r = .int .i64 (rightN es) ∧ Ext w w') := by
  refine rets_of_ok Try.func33 rfl rfl ?_
  refine ok_seq (fun M hM => ok_region rfl ?_); repeat ((try first | (refine z3 hX ?_; clear hX X) | (refine z2 hX ?_; clear hX X)); (first | refine zL fun X hX => ?_ | refine zH fun X hX => ?_ | refine zE fun X hX => ?_ | refine zl ?_ | refine zh ?_ | refine ze ?_); try simp only [oweC, oweP, opF, opH, ev, evs, evp, evo, Env.get, Env.set, putE, gdst, S0, S1, thenN, inBlockN, argEnv, builtinR, retE, fin, callR, reduceIte, Nat.reduceEqDiff, Nat.reduceAdd, reduceCtorEq, forall_const, Q33])
  refine hM _ _ _ ?_; clear hM M
  refine ok_seq (fun M hM => ok_region rfl ?_)
  repeat ((try first | (refine z3 hX ?_; clear hX X) | (refine z2 hX ?_; clear hX X)); (first | refine zL fun X hX => ?_ | refine zH fun X hX => ?_ | refine zE fun X hX => ?_ | refine zl ?_ | refine zh ?_ | refine ze ?_); try simp only [oweC, oweP, opF, opH, ev, evs, evp, evo, Env.get, Env.set, putE, gdst, S0, S1, thenN, inBlockN, argEnv, builtinR, retE, fin, callR, reduceIte, Nat.reduceEqDiff, Nat.reduceAdd, reduceCtorEq, forall_const, Q33])
  refine Inv.call Fx.en51 (read_ok w S v es h hl hS) ?_
  rintro r w1 ⟨bb, rfl, he1, -⟩
  repeat ((try first | (refine z3 hX ?_; clear hX X) | (refine z2 hX ?_; clear hX X)); (first | refine zL fun X hX => ?_ | refine zH fun X hX => ?_ | refine zE fun X hX => ?_ | refine zl ?_ | refine zh ?_ | refine ze ?_); try simp only [oweC, oweP, opF, opH, ev, evs, evp, evo, Env.get, Env.set, putE, gdst, S0, S1, thenN, inBlockN, argEnv, builtinR, retE, fin, callR, reduceIte, Nat.reduceEqDiff, Nat.reduceAdd, reduceCtorEq, forall_const, Q33])
  refine hM _ _ _ ?_; clear hM M
  refine ok_seq (fun M hM => ok_region rfl ?_); repeat ((try first | (refine z3 hX ?_; clear hX X) | (refine z2 hX ?_; clear hX X)); (first | refine zL fun X hX => ?_ | refine zH fun X hX => ?_ | refine zE fun X hX => ?_ | refine zl ?_ | refine zh ?_ | refine ze ?_); try simp only [oweC, oweP, opF, opH, ev, evs, evp, evo, Env.get, Env.set, putE, gdst, S0, S1, thenN, inBlockN, argEnv, builtinR, retE, fin, callR, reduceIte, Nat.reduceEqDiff, Nat.reduceAdd, reduceCtorEq, forall_const, Q33])
  refine hM _ _ _ ?_; clear hM M
  refine ok_ret ?_
  try simp only [wpL, wpH, wpE, oweC, oweP, opF, opH, ev, evs, evp, evo, Env.get, Env.set, putE, gdst, S0, S1, thenN, inBlockN, argEnv, builtinR, retE, fin, callR, reduceIte, Nat.reduceEqDiff, Nat.reduceAdd, reduceCtorEq, forall_const, Q33]
  exact he1
end Go.Proofs.Ytafjfcameabbmaa
/- The trace: Tree.  -/
set_option linter.unusedVariables false
set_option linter.unusedSimpArgs false
namespace Go.Proofs.Vg
open Go Go.RowKit
theorem VSlS.mono {w : World} {S S' : Nat → Prop} {v : Value} {xs : List Val} (h : VSlS w S v xs) (hs : ∀ k, S k → S' k) : VSlS w S' v xs := h.chg (Chg.refl (fun _ => False) _) (fun k hk => ⟨hs k hk, id⟩)
theorem NM.mono {w : World} {et : TypeId} {S S' : Nat → Prop} {vn : Value} {vks : List Value} {rows : List (List Value)} {nds : List Nd} (h : NM w et S vn vks rows nds) (hs : ∀ k, S k → S' k) (hd : ∀ k, S' k → ¬ NFoot vn vks k) : NM w et S' vn vks rows nds := by
  refine ⟨h.own, h.lr, h.lk, fun i d hi => ?_, h.apart, fun k hk => ⟨fun hh => hd k hh (.inl hk), (h.top k hk).2⟩, fun i v k hi hk hh => hd k hh (.inr ⟨i, v, hi, hk⟩)⟩
  obtain ⟨h5, va, vl, vk, h1, h2, h3, h4, h6⟩ := h.row i d hi
  exact ⟨h5, va, vl, vk, h1, h2, h3.mono hs, h4.mono hs, h6⟩
theorem BM.mono {w : World} {bb : Nat} {S S' : Nat → Prop} {vn vb : Value} {vks : List Value} {rows : List (List Value)} {nds : List Nd} {busy : List Int} (h : BM w bb S vn vb vks rows nds busy) (hs : ∀ k, S k → S' k) (hd : ∀ k, S' k → ¬ BFoot bb vn vb vks k) : BM w bb S' vn vb vks rows nds busy :=
  ⟨h.head, h.nm.mono hs (fun k hk hf => hd k hk (.inr (.inr hf))), h.bz, h.lb, fun hh => hd bb hh (.inl rfl), h.hn, fun k hk => ⟨fun hh => hd k hh (.inr (.inl hk)), (h.bs k hk).2⟩⟩
theorem set_self {α : Type} {l : List α} {i : Nat} {x : α} (h : l[i]? = some x) : l.set i x = l := by
  apply List.ext_getElem?
  intro j
  rw [List.getElem?_set]
  have hl := (List.getElem?_eq_some_iff.1 h).1
  split
  · rename_i e; subst e; first | (rw [if_pos hl, h]) | exact h.symm
  · rfl
theorem sm_steps (es : List Ev) (h : ∀ e ∈ es, SmVs e.args) : ∀ d ∈ stepsN es, SmVs d.args ∧ SmVs d.last := by
  have nil : SmVs [] := ⟨by simp, by simp only [smE]⟩
  suffices H : ∀ (es : List Ev) (nds : List Nd), (∀ e ∈ es, SmVs e.args) → (∀ d ∈ nds, SmVs d.args ∧ SmVs d.last) → ∀ d ∈ es.foldl stepN nds, SmVs d.args ∧ SmVs d.last from H es [] h (fun d hd => by simp at hd)
  intro es
  induction es with
  | nil => intro nds _ h; exact h
  | cons e es ih =>
    intro nds h1 h2
    refine ih _ (fun e he => h1 e (List.mem_cons_of_mem _ he)) ?_
    have he := h1 e List.mem_cons_self
    have modi : ∀ (l : List Nd) (i : Nat) (f : Nd → Nd), (∀ d ∈ l, SmVs d.args ∧ SmVs d.last) → (∀ d, SmVs d.args ∧ SmVs d.last → SmVs (f d).args ∧ SmVs (f d).last) → ∀ d ∈ l.modify i f, SmVs d.args ∧ SmVs d.last := fun l i f hl hf d hd => by
      obtain ⟨j, hj⟩ := List.mem_iff_getElem?.1 hd
      rw [List.getElem?_modify] at hj
      cases hx : l[j]? with
      | none => rw [hx] at hj; simp at hj
      | some d0 =>
        rw [hx] at hj
        have h0 := hl d0 (List.mem_of_getElem? hx)
        by_cases hij : i = j
        · simp [hij] at hj; subst hj; exact hf d0 h0
        · simp [hij] at hj; subst hj; exact h0
    have hnew : ∀ d ∈ nds ++ [newN e], SmVs d.args ∧ SmVs d.last := fun d hd => by
      rcases List.mem_append.1 hd with hd | hd
      · exact h2 d hd
      · simp at hd; subst hd; exact ⟨he, nil⟩
    unfold stepN
    refine modi _ _ _ ?_ (fun d hd => ⟨hd.1, ?_⟩)
    · split
      · unfold begN
        split
        · exact modi _ _ _ hnew (fun d hd => hd)
        · exact hnew
      · exact h2
    · simp only [stepD]
      split
      · exact he
      · exact hd.2
end Go.Proofs.Vg
namespace Go.Proofs.Ytafjfcameabbmaa
open Go Go.Proofs.Vg Go.RowKit

-- -- function 35
set_option maxHeartbeats 4000000 in
set_option maxRecDepth 8000 in
theorem traceTree_ok (w : World) (S : Nat → Prop) (v : Value) (es : List Ev) (h : EvSl w S v es) (hl : es.length ≤ 400) (hS : ∀ k, S k → k < w.heap.size) (hsm : ∀ e ∈ es, SmVs e.args) (hr : rightN es = -1) :
    Rets Try.prog 35 [v] w (fun r w' => ∃ vn vks rows S', r = .tuple #[vn, .int .i64 0] ∧ Ext w w' ∧ NM w' 79 S' vn vks rows (stepsN es) ∧ ∀ k, S' k → k < w'.heap.size) := by
  refine rets_of_ok Try.func35 rfl rfl ?_
  refine ok_seq (fun M hM => ok_region rfl ?_); repeat ((try first | (refine z3 hX ?_; clear hX X) | (refine z2 hX ?_; clear hX X)); (first | refine zL fun X hX => ?_ | refine zH fun X hX => ?_ | refine zE fun X hX => ?_ | refine zl ?_ | refine zh ?_ | refine ze ?_); try simp only [oweC, oweP, opF, opH, ev, evs, evp, evo, Env.get, Env.set, putE, gdst, S0, S1, thenN, inBlockN, argEnv, builtinR, retE, fin, callR, reduceIte, Nat.reduceEqDiff, Nat.reduceAdd, reduceCtorEq, forall_const, Q35])
  refine hM _ _ _ ?_; clear hM M
  refine ok_seq (fun M hM => ok_region rfl ?_)
  repeat ((try first | (refine z3 hX ?_; clear hX X) | (refine z2 hX ?_; clear hX X)); (first | refine zL fun X hX => ?_ | refine zH fun X hX => ?_ | refine zE fun X hX => ?_ | refine zl ?_ | refine zh ?_ | refine ze ?_); try simp only [oweC, oweP, opF, opH, ev, evs, evp, evo, Env.get, Env.set, putE, gdst, S0, S1, thenN, inBlockN, argEnv, builtinR, retE, fin, callR, reduceIte, Nat.reduceEqDiff, Nat.reduceAdd, reduceCtorEq, forall_const, Q35])
  refine Inv.call Fx.en51 (read_ok w S v es h hl hS) ?_
  rintro r w1 ⟨bb, rfl, he1, hbm⟩
  obtain ⟨vn, vb, vks, rows, busy, hbm, hF⟩ := hbm hr
  have hok := okTo_of_right (es := es) (by omega)
  obtain ⟨hwf, -⟩ := hok.wf (Nat.le_refl _)
  rw [List.take_of_length_le (Nat.le_refl _)] at hwf
  have hn := hwf.n
  have hsmd := sm_steps es hsm
  obtain ⟨nds, hnds⟩ : ∃ nds, nds = stepsN es := ⟨_, rfl⟩
  rw [← hnds] at hbm hwf hn hsmd
  rw [hr]
  repeat ((try first | (refine z3 hX ?_; clear hX X) | (refine z2 hX ?_; clear hX X)); (first | refine zL fun X hX => ?_ | refine zH fun X hX => ?_ | refine zE fun X hX => ?_ | refine zl ?_ | refine zh ?_ | refine ze ?_); try simp only [oweC, oweP, opF, opH, ev, evs, evp, evo, Env.get, Env.set, putE, gdst, S0, S1, thenN, inBlockN, argEnv, builtinR, retE, fin, callR, reduceIte, Nat.reduceEqDiff, Nat.reduceAdd, reduceCtorEq, forall_const, Q35])
  refine hM _ _ _ ?_; clear hM M
  refine ok_join [(4, .pointer (some ⟨bb, 0, none⟩))] (fun w' => w' = w1) ?_ ?_
  · refine ok_seq (fun M hM => ok_region rfl ?_); repeat ((try first | (refine z3 hX ?_; clear hX X) | (refine z2 hX ?_; clear hX X)); (first | refine zL fun X hX => ?_ | refine zH fun X hX => ?_ | refine zE fun X hX => ?_ | refine zl ?_ | refine zh ?_ | refine ze ?_); try simp only [oweC, oweP, opF, opH, ev, evs, evp, evo, Env.get, Env.set, putE, gdst, S0, S1, thenN, inBlockN, argEnv, builtinR, retE, fin, callR, reduceIte, Nat.reduceEqDiff, Nat.reduceAdd, reduceCtorEq, forall_const, Q35])
    refine hM _ _ _ ?_; clear hM M
    refine ok_cond (b := false) rfl (fun h => by cases h) (fun _ => ok_skip ?_)
    try simp only [wpL, wpH, wpE, oweC, oweP, opF, opH, ev, evs, evp, evo, Env.get, Env.set, putE, gdst, S0, S1, thenN, inBlockN, argEnv, builtinR, retE, fin, callR, reduceIte, Nat.reduceEqDiff, Nat.reduceAdd, reduceCtorEq, forall_const, Q35]
    simp [sub, Env.get]
  rintro w1' hw1'
  subst hw1'
  have hs1 := he1.size
  obtain ⟨A, cp, hvn⟩ := hbm.nm.len
  refine ok_seq (fun M0 hM0 => ?_)
  refine ok_seq (fun M hM => ok_region rfl ?_)
  repeat ((try first | (refine z3 hX ?_; clear hX X) | (refine z2 hX ?_; clear hX X)); (first | refine zL fun X hX => ?_ | refine zH fun X hX => ?_ | refine zE fun X hX => ?_ | refine zl ?_ | refine zh ?_ | refine ze ?_); try simp only [oweC, oweP, opF, opH, ev, evs, evp, evo, Env.get, Env.set, putE, gdst, S0, S1, thenN, inBlockN, argEnv, builtinR, retE, fin, callR, reduceIte, Nat.reduceEqDiff, Nat.reduceAdd, reduceCtorEq, forall_const, Q35])
  refine ⟨_, hbm.head.cell (j := 0) rfl, ?_⟩
  rw [hvn]
  repeat ((try first | (refine z3 hX ?_; clear hX X) | (refine z2 hX ?_; clear hX X)); (first | refine zL fun X hX => ?_ | refine zH fun X hX => ?_ | refine zE fun X hX => ?_ | refine zl ?_ | refine zh ?_ | refine ze ?_); try simp only [oweC, oweP, opF, opH, ev, evs, evp, evo, Env.get, Env.set, putE, gdst, S0, S1, thenN, inBlockN, argEnv, builtinR, retE, fin, callR, reduceIte, Nat.reduceEqDiff, Nat.reduceAdd, reduceCtorEq, forall_const, Q35])
  refine hM _ _ _ ?_; clear hM M
  rw [← hvn]
  refine ok_block ?_
  refine ok_loop (S := Nat) (fun i => [(4, .pointer (some ⟨bb, 0, none⟩)), (18, .int .i64 (nds.length : Int)), (19, .int .i64 (i : Int))])
    (fun i w' => Ext w w' ∧ w1'.heap.size ≤ w'.heap.size ∧ i ≤ nds.length ∧ ∃ rows, BM w' bb (fun k => k < w'.heap.size ∧ ¬ BFoot bb vn vb vks k) vn vb vks rows nds busy) (fun i => nds.length - i) 0 ?_ ?_ ?_
  · simp [sub, Env.get, argEnv]
  · exact ⟨he1, Nat.le_refl _, Nat.zero_le _, rows, hbm.mono (fun k hk => ⟨by have := hS k hk; omega, hbm.sdis k hk⟩) (fun k hk => hk.2)⟩
  rintro i w2 ⟨he2, hs12, hi, rows2, hb2⟩
  refine ok_seq (fun M hM => ok_region rfl ?_); repeat ((try first | (refine z3 hX ?_; clear hX X) | (refine z2 hX ?_; clear hX X)); (first | refine zL fun X hX => ?_ | refine zH fun X hX => ?_ | refine zE fun X hX => ?_ | refine zl ?_ | refine zh ?_ | refine ze ?_); try simp only [oweC, oweP, opF, opH, ev, evs, evp, evo, Env.get, Env.set, putE, gdst, S0, S1, thenN, inBlockN, argEnv, builtinR, retE, fin, callR, reduceIte, Nat.reduceEqDiff, Nat.reduceAdd, reduceCtorEq, forall_const, Q35])
  refine hM _ _ _ ?_; clear hM M
  refine ok_seq (fun M1 hM1 => ?_)
  refine ok_if rfl (fun hc => ok_skip ?_) (fun hc => ok_exit ?_)
  rotate_left
  · try simp only [wpL, wpH, wpE, oweC, oweP, opF, opH, ev, evs, evp, evo, Env.get, Env.set, putE, gdst, S0, S1, thenN, inBlockN, argEnv, builtinR, retE, fin, callR, reduceIte, Nat.reduceEqDiff, Nat.reduceAdd, reduceCtorEq, forall_const, Q35]
    refine hM0 _ _ _ ?_; clear hM0 M0 hM1 M1
    refine ok_seq (fun M hM => ok_region rfl ?_)
    repeat ((try first | (refine z3 hX ?_; clear hX X) | (refine z2 hX ?_; clear hX X)); (first | refine zL fun X hX => ?_ | refine zH fun X hX => ?_ | refine zE fun X hX => ?_ | refine zl ?_ | refine zh ?_ | refine ze ?_); try simp only [oweC, oweP, opF, opH, ev, evs, evp, evo, Env.get, Env.set, putE, gdst, S0, S1, thenN, inBlockN, argEnv, builtinR, retE, fin, callR, reduceIte, Nat.reduceEqDiff, Nat.reduceAdd, reduceCtorEq, forall_const, Q35])
    refine ⟨_, hb2.head.cell (j := 0) rfl, ?_⟩
    repeat ((try first | (refine z3 hX ?_; clear hX X) | (refine z2 hX ?_; clear hX X)); (first | refine zL fun X hX => ?_ | refine zH fun X hX => ?_ | refine zE fun X hX => ?_ | refine zl ?_ | refine zh ?_ | refine ze ?_); try simp only [oweC, oweP, opF, opH, ev, evs, evp, evo, Env.get, Env.set, putE, gdst, S0, S1, thenN, inBlockN, argEnv, builtinR, retE, fin, callR, reduceIte, Nat.reduceEqDiff, Nat.reduceAdd, reduceCtorEq, forall_const, Q35])
    refine hM _ _ _ ?_; clear hM M
    refine ok_ret ?_
    try simp only [wpL, wpH, wpE, oweC, oweP, opF, opH, ev, evs, evp, evo, Env.get, Env.set, putE, gdst, S0, S1, thenN, inBlockN, argEnv, builtinR, retE, fin, callR, reduceIte, Nat.reduceEqDiff, Nat.reduceAdd, reduceCtorEq, forall_const, Q35]
    exact ⟨vn, vks, rows2, _, rfl, he2, hnds ▸ hb2.nm, fun k hk => hk.1⟩
  try simp only [wpL, wpH, wpE, oweC, oweP, opF, opH, ev, evs, evp, evo, Env.get, Env.set, putE, gdst, S0, S1, thenN, inBlockN, argEnv, builtinR, retE, fin, callR, reduceIte, Nat.reduceEqDiff, Nat.reduceAdd, reduceCtorEq, forall_const, Q35]
  refine hM1 _ _ _ ?_; clear hM1 M1
  have hil : i < nds.length := by omega
  have hd : nds[i]? = some nds[i] := List.getElem?_eq_getElem hil
  generalize nds[i] = d at hd
  obtain ⟨g, cap, va, vl, vk, hv, hvk, h5, hcell, hva, hvl, -⟩ := hb2.nm.at_ (by omega) hd
  obtain ⟨hsa, hsl⟩ := hsmd d (List.mem_of_getElem? hd)
  have hcva := hcell 8 _ (row_args h5 va vl vk)
  have hcvl := hcell 9 _ (row_last h5 va vl vk)
  have hvo : vn.ownBlock = some g := by rw [hv]; rfl
  refine ok_seq (fun M1 hM1 => ok_block ?_)
  refine ok_seq (fun M hM => ok_region rfl ?_); repeat ((try first | (refine z3 hX ?_; clear hX X) | (refine z2 hX ?_; clear hX X)); (first | refine zL fun X hX => ?_ | refine zH fun X hX => ?_ | refine zE fun X hX => ?_ | refine zl ?_ | refine zh ?_ | refine ze ?_); try simp only [oweC, oweP, opF, opH, ev, evs, evp, evo, Env.get, Env.set, putE, gdst, S0, S1, thenN, inBlockN, argEnv, builtinR, retE, fin, callR, reduceIte, Nat.reduceEqDiff, Nat.reduceAdd, reduceCtorEq, forall_const, Q35])
  refine hM _ _ _ ?_; clear hM M
  refine (ok_drawP [0, 1, 2, 3, 4, 5, 6, 7, 8, 9, 10, 11, 12, 13, 14, 15, 16, 17, 19, 20, 21, 22, 23, 24, 25, 26, 18, 27, 28, 29, 30, 31, 32, 33] 26 [(true, false), (true, false), (false, false), (false, false), (false, false), (false, true), (false, true), (false, true)] (Ext _) Fx.mixed (by decide) rfl (by decide +kernel) (by decide +kernel) (Ext.drew _) ?_); simp only [pickL, List.getElem?_cons_zero, List.getElem?_cons_succ, List.take_succ_cons, List.take_zero, List.drop_succ_cons, List.drop_zero]
  repeat ((try first | (refine z3 hX ?_; clear hX X) | (refine z2 hX ?_; clear hX X)); (first | refine zL fun X hX => ?_ | refine zH fun X hX => ?_ | refine zE fun X hX => ?_ | refine zl ?_ | refine zh ?_ | refine ze ?_); try simp only [oweC, oweP, opF, opH, ev, evs, evp, evo, Env.get, Env.set, putE, gdst, S0, S1, thenN, inBlockN, argEnv, builtinR, retE, fin, callR, reduceIte, Nat.reduceEqDiff, Nat.reduceAdd, reduceCtorEq, forall_const, Q35])
  refine ⟨_, fun w' hw => (hb2.head.ext hw).cell (j := 0) rfl, ?_⟩
  repeat ((try first | (refine z3 hX ?_; clear hX X) | (refine z2 hX ?_; clear hX X)); (first | refine zL fun X hX => ?_ | refine zH fun X hX => ?_ | refine zE fun X hX => ?_ | refine zl ?_ | refine zh ?_ | refine ze ?_); try simp only [oweC, oweP, opF, opH, ev, evs, evp, evo, Env.get, Env.set, putE, gdst, S0, S1, thenN, inBlockN, argEnv, builtinR, retE, fin, callR, reduceIte, Nat.reduceEqDiff, Nat.reduceAdd, reduceCtorEq, forall_const, Q35])
  refine ⟨_, fun w' hw => (hb2.head.ext hw).cell (j := 0) rfl, ?_⟩
  repeat ((try first | (refine z3 hX ?_; clear hX X) | (refine z2 hX ?_; clear hX X)); (first | refine zL fun X hX => ?_ | refine zH fun X hX => ?_ | refine zE fun X hX => ?_ | refine zl ?_ | refine zh ?_ | refine ze ?_); try simp only [oweC, oweP, opF, opH, ev, evs, evp, evo, Env.get, Env.set, putE, gdst, S0, S1, thenN, inBlockN, argEnv, builtinR, retE, fin, callR, reduceIte, Nat.reduceEqDiff, Nat.reduceAdd, reduceCtorEq, forall_const, Q35])
  refine ⟨_, fun w' hw => (hb2.head.ext hw).cell (j := 0) rfl, ?_⟩
  rw [hv]
  repeat ((try first | (refine z3 hX ?_; clear hX X) | (refine z2 hX ?_; clear hX X)); (first | refine zL fun X hX => ?_ | refine zH fun X hX => ?_ | refine zE fun X hX => ?_ | refine zl ?_ | refine zh ?_ | refine ze ?_); try simp only [oweC, oweP, opF, opH, ev, evs, evp, evo, Env.get, Env.set, putE, gdst, S0, S1, thenN, inBlockN, argEnv, builtinR, retE, fin, callR, reduceIte, Nat.reduceEqDiff, Nat.reduceAdd, reduceCtorEq, forall_const, Q35])
  refine ⟨by omega, by omega, ?_⟩
  repeat ((try first | (refine z3 hX ?_; clear hX X) | (refine z2 hX ?_; clear hX X)); (first | refine zL fun X hX => ?_ | refine zH fun X hX => ?_ | refine zE fun X hX => ?_ | refine zl ?_ | refine zh ?_ | refine ze ?_); try simp only [oweC, oweP, opF, opH, ev, evs, evp, evo, Env.get, Env.set, putE, gdst, S0, S1, thenN, inBlockN, argEnv, builtinR, retE, fin, callR, reduceIte, Nat.reduceEqDiff, Nat.reduceAdd, reduceCtorEq, forall_const, Q35])
  refine ⟨va, fun w' hw => hw.cell (by simpa using hcva), ?_⟩
  repeat ((try first | (refine z3 hX ?_; clear hX X) | (refine z2 hX ?_; clear hX X)); (first | refine zL fun X hX => ?_ | refine zH fun X hX => ?_ | refine zE fun X hX => ?_ | refine zl ?_ | refine zh ?_ | refine ze ?_); try simp only [oweC, oweP, opF, opH, ev, evs, evp, evo, Env.get, Env.set, putE, gdst, S0, S1, thenN, inBlockN, argEnv, builtinR, retE, fin, callR, reduceIte, Nat.reduceEqDiff, Nat.reduceAdd, reduceCtorEq, forall_const, Q35])
  refine ⟨_, fun w' hw => (hb2.head.ext hw).cell (j := 0) rfl, ?_⟩
  rw [hv]
  repeat ((try first | (refine z3 hX ?_; clear hX X) | (refine z2 hX ?_; clear hX X)); (first | refine zL fun X hX => ?_ | refine zH fun X hX => ?_ | refine zE fun X hX => ?_ | refine zl ?_ | refine zh ?_ | refine ze ?_); try simp only [oweC, oweP, opF, opH, ev, evs, evp, evo, Env.get, Env.set, putE, gdst, S0, S1, thenN, inBlockN, argEnv, builtinR, retE, fin, callR, reduceIte, Nat.reduceEqDiff, Nat.reduceAdd, reduceCtorEq, forall_const, Q35])
  refine ⟨by omega, by omega, ?_⟩
  repeat ((try first | (refine z3 hX ?_; clear hX X) | (refine z2 hX ?_; clear hX X)); (first | refine zL fun X hX => ?_ | refine zH fun X hX => ?_ | refine zE fun X hX => ?_ | refine zl ?_ | refine zh ?_ | refine ze ?_); try simp only [oweC, oweP, opF, opH, ev, evs, evp, evo, Env.get, Env.set, putE, gdst, S0, S1, thenN, inBlockN, argEnv, builtinR, retE, fin, callR, reduceIte, Nat.reduceEqDiff, Nat.reduceAdd, reduceCtorEq, forall_const, Q35])
  refine ⟨vl, fun w' hw => hw.cell (by simpa using hcvl), ?_⟩
  repeat ((try first | (refine z3 hX ?_; clear hX X) | (refine z2 hX ?_; clear hX X)); (first | refine zL fun X hX => ?_ | refine zH fun X hX => ?_ | refine zE fun X hX => ?_ | refine zl ?_ | refine zh ?_ | refine ze ?_); try simp only [oweC, oweP, opF, opH, ev, evs, evp, evo, Env.get, Env.set, putE, gdst, S0, S1, thenN, inBlockN, argEnv, builtinR, retE, fin, callR, reduceIte, Nat.reduceEqDiff, Nat.reduceAdd, reduceCtorEq, forall_const, Q35])
  intro w3 he3
  repeat ((try first | (refine z3 hX ?_; clear hX X) | (refine z2 hX ?_; clear hX X)); (first | refine zL fun X hX => ?_ | refine zH fun X hX => ?_ | refine zE fun X hX => ?_ | refine zl ?_ | refine zh ?_ | refine ze ?_); try simp only [oweC, oweP, opF, opH, ev, evs, evp, evo, Env.get, Env.set, putE, gdst, S0, S1, thenN, inBlockN, argEnv, builtinR, retE, fin, callR, reduceIte, Nat.reduceEqDiff, Nat.reduceAdd, reduceCtorEq, forall_const, Q35])
  refine Inv.call Fx.en52 (copied52_ok _ d.args va w3 (Nat.le_refl _) hsa (hva.vsl.ext he3)) ?_
  rintro u1 w4 ⟨hu1, he4⟩
  refine ⟨he3.trans he4, ?_⟩
  repeat ((try first | (refine z3 hX ?_; clear hX X) | (refine z2 hX ?_; clear hX X)); (first | refine zL fun X hX => ?_ | refine zH fun X hX => ?_ | refine zE fun X hX => ?_ | refine zl ?_ | refine zh ?_ | refine ze ?_); try simp only [oweC, oweP, opF, opH, ev, evs, evp, evo, Env.get, Env.set, putE, gdst, S0, S1, thenN, inBlockN, argEnv, builtinR, retE, fin, callR, reduceIte, Nat.reduceEqDiff, Nat.reduceAdd, reduceCtorEq, forall_const, Q35])
  refine Inv.call Fx.en52 (copied52_ok _ d.last vl w4 (Nat.le_refl _) hsl (hvl.vsl.ext (he3.trans he4))) ?_
  rintro u2 w5 ⟨hu2, he5⟩
  refine ⟨(he3.trans he4).trans he5, ?_⟩
  have he25 := (he3.trans he4).trans he5
  have hs3 := he3.size
  have hs4 := he4.size
  have hs5 := he5.size
  have hFl : ∀ k, BFoot bb vn vb vks k → k < w2.heap.size := fun k hk => by have := hF k hk; omega
  have hb5 : BM w5 bb (fun k => k < w5.heap.size ∧ ¬ BFoot bb vn vb vks k) vn vb vks rows2 nds busy := (hb2.ext he25).mono (fun k hk => ⟨by omega, hk.2⟩) (fun k hk => hk.2)
  have hu1' : VSlS w5 (fun k => k < w5.heap.size ∧ ¬ BFoot bb vn vb vks k) u1 d.args := hu1.chg (he5.chg (fun _ => False)) (fun k hk => ⟨⟨by omega, fun hf => by have := hFl k hf; omega⟩, id⟩)
  have hu2' : VSlS w5 (fun k => k < w5.heap.size ∧ ¬ BFoot bb vn vb vks k) u2 d.last := hu2.mono (fun k hk => ⟨by omega, fun hf => by have := hFl k hf; omega⟩)
  obtain ⟨gP, capP, curP, hvP, hgF, hbP, hleP, hputP⟩ := hb5.turnG hd (d' := d) (off := 8) (u := u1) (fun _ => u1) id (by omega) (fun va vl vk => row_set_args h5 d.args va vl vk u1) (fun _ _ => hu1') (fun _ h => h) rfl h5
  rw [hv] at hvP
  cases hvP
  repeat ((try first | (refine z3 hX ?_; clear hX X) | (refine z2 hX ?_; clear hX X)); (first | refine zL fun X hX => ?_ | refine zH fun X hX => ?_ | refine zE fun X hX => ?_ | refine zl ?_ | refine zh ?_ | refine ze ?_); try simp only [oweC, oweP, opF, opH, ev, evs, evp, evo, Env.get, Env.set, putE, gdst, S0, S1, thenN, inBlockN, argEnv, builtinR, retE, fin, callR, reduceIte, Nat.reduceEqDiff, Nat.reduceAdd, reduceCtorEq, forall_const, Q35])
  refine ⟨by omega, by omega, ?_⟩
  repeat ((try first | (refine z3 hX ?_; clear hX X) | (refine z2 hX ?_; clear hX X)); (first | refine zL fun X hX => ?_ | refine zH fun X hX => ?_ | refine zE fun X hX => ?_ | refine zl ?_ | refine zh ?_ | refine ze ?_); try simp only [oweC, oweP, opF, opH, ev, evs, evp, evo, Env.get, Env.set, putE, gdst, S0, S1, thenN, inBlockN, argEnv, builtinR, retE, fin, callR, reduceIte, Nat.reduceEqDiff, Nat.reduceAdd, reduceCtorEq, forall_const, Q35])
  simp only [Nat.zero_add, Nat.add_assoc]
  refine Runs.store hbP Fx.zi35' (by rw [hu1.2.1]; rfl) (by rw [hu1.2.1]; intro u hu; simp at hu; subst hu; exact hu1.1) (by simpa [Nat.add_assoc] using hleP) (fun w6 hc6 hs6 hb6 => ?_)
  obtain ⟨rows6, hB6⟩ := hputP w6 hc6 (by rw [hu1.2.1] at hb6; simpa [Nat.add_assoc] using hb6)
  rw [set_self hd] at hB6
  have hu2'' : VSlS w6 (fun k => k < w5.heap.size ∧ ¬ BFoot bb vn vb vks k) u2 d.last := hu2'.chg hc6 (fun k hk => ⟨hk, fun e => hk.2 (e ▸ hgF)⟩)
  obtain ⟨gQ, capQ, curQ, hvQ, -, hbQ, hleQ, hputQ⟩ := hB6.turnG hd (d' := d) (off := 9) (u := u2) id (fun _ => u2) (by omega) (fun va vl vk => row_set_last h5 d.last va vl vk u2) (fun _ h => h) (fun _ _ => hu2'') rfl h5
  rw [hv] at hvQ
  cases hvQ
  repeat ((try first | (refine z3 hX ?_; clear hX X) | (refine z2 hX ?_; clear hX X)); (first | refine zL fun X hX => ?_ | refine zH fun X hX => ?_ | refine zE fun X hX => ?_ | refine zl ?_ | refine zh ?_ | refine ze ?_); try simp only [oweC, oweP, opF, opH, ev, evs, evp, evo, Env.get, Env.set, putE, gdst, S0, S1, thenN, inBlockN, argEnv, builtinR, retE, fin, callR, reduceIte, Nat.reduceEqDiff, Nat.reduceAdd, reduceCtorEq, forall_const, Q35])
  refine ⟨by omega, by omega, ?_⟩
  repeat ((try first | (refine z3 hX ?_; clear hX X) | (refine z2 hX ?_; clear hX X)); (first | refine zL fun X hX => ?_ | refine zH fun X hX => ?_ | refine zE fun X hX => ?_ | refine zl ?_ | refine zh ?_ | refine ze ?_); try simp only [oweC, oweP, opF, opH, ev, evs, evp, evo, Env.get, Env.set, putE, gdst, S0, S1, thenN, inBlockN, argEnv, builtinR, retE, fin, callR, reduceIte, Nat.reduceEqDiff, Nat.reduceAdd, reduceCtorEq, forall_const, Q35])
  simp only [Nat.zero_add, Nat.add_assoc]
  refine Runs.store hbQ Fx.zi35' (by rw [hu2.2.1]; rfl) (by rw [hu2.2.1]; intro u hu; simp at hu; subst hu; exact hu2.1) (by simpa [Nat.add_assoc] using hleQ) (fun w7 hc7 hs7 hb7 => ?_)
  obtain ⟨rows7, hB7⟩ := hputQ w7 hc7 (by rw [hu2.2.1] at hb7; simpa [Nat.add_assoc] using hb7)
  rw [set_self hd] at hB7
  repeat ((try first | (refine z3 hX ?_; clear hX X) | (refine z2 hX ?_; clear hX X)); (first | refine zL fun X hX => ?_ | refine zH fun X hX => ?_ | refine zE fun X hX => ?_ | refine zl ?_ | refine zh ?_ | refine ze ?_); try simp only [oweC, oweP, opF, opH, ev, evs, evp, evo, Env.get, Env.set, putE, gdst, S0, S1, thenN, inBlockN, argEnv, builtinR, retE, fin, callR, reduceIte, Nat.reduceEqDiff, Nat.reduceAdd, reduceCtorEq, forall_const, Q35])
  refine hM1 _ _ _ ?_; clear hM1 M1
  refine ok_region rfl ?_
  repeat ((try first | (refine z3 hX ?_; clear hX X) | (refine z2 hX ?_; clear hX X)); (first | refine zL fun X hX => ?_ | refine zH fun X hX => ?_ | refine zE fun X hX => ?_ | refine zl ?_ | refine zh ?_ | refine ze ?_); try simp only [oweC, oweP, opF, opH, ev, evs, evp, evo, Env.get, Env.set, putE, gdst, S0, S1, thenN, inBlockN, argEnv, builtinR, retE, fin, callR, reduceIte, Nat.reduceEqDiff, Nat.reduceAdd, reduceCtorEq, forall_const, Q35])
  refine ⟨by simp only [inI]; omega, ?_⟩
  repeat ((try first | (refine z3 hX ?_; clear hX X) | (refine z2 hX ?_; clear hX X)); (first | refine zL fun X hX => ?_ | refine zH fun X hX => ?_ | refine zE fun X hX => ?_ | refine zl ?_ | refine zh ?_ | refine ze ?_); try simp only [oweC, oweP, opF, opH, ev, evs, evp, evo, Env.get, Env.set, putE, gdst, S0, S1, thenN, inBlockN, argEnv, builtinR, retE, fin, callR, reduceIte, Nat.reduceEqDiff, Nat.reduceAdd, reduceCtorEq, forall_const, Q35])
  have hgw : w.heap.size ≤ g := (hF g hgF).1
  refine ⟨i + 1, by simp [sub, Env.get], ⟨((he2.trans he25).chg_trans hc6 (fun k hk => by omega)).chg_trans hc7 (fun k hk => by omega), by omega, by omega, rows7, hB7.mono (fun k hk => ⟨by omega, hk.2⟩) (fun k hk => hk.2)⟩, by omega⟩
end Go.Proofs.Ytafjfcameabbmaa
/- moment, weight, Large: additions may overflow there.   -/
set_option linter.unusedVariables false
set_option linter.unusedSimpArgs false
namespace Go.Proofs.Vg
open Go Go.RowKit
/-- The first index (of f, from i on) where p holds. -/
def firstP (p : Nat → Bool) : Nat → Nat → Option Nat
  | 0, _ => none
  | f + 1, i => if p i then some i else firstP p f (i + 1)
theorem firstP_skip (p : Nat → Bool) : ∀ (i f s : Nat), (∀ j, s ≤ j → j < s + i → p j = false) → firstP p (i + f) s = firstP p f (s + i)
  | 0, f, s, _ => by simp
  | i + 1, f, s, h => by
    rw [show i + 1 + f = (i + f) + 1 by omega, firstP, h s (Nat.le_refl _) (by omega)]
    simp only [Bool.false_eq_true, if_false]
    rw [firstP_skip p i f (s + 1) (fun j h1 h2 => h j (by omega) (by omega))]
    congr 1
    omega
theorem firstP_at {p : Nat → Bool} {n i : Nat} (hi : i < n) (h : ∀ j, j < i → p j = false) (hp : p i = true) : firstP p n 0 = some i := by
  have h1 := firstP_skip p i (n - i) 0 (fun j _ hj => h j (by omega))
  rw [show i + (n - i) = n by omega, Nat.zero_add, show n - i = (n - i - 1) + 1 by omega, firstP, hp] at h1
  simpa using h1
theorem firstP_none {p : Nat → Bool} {n : Nat} (h : ∀ j, j < n → p j = false) : firstP p n 0 = none := by
  have h1 := firstP_skip p n 0 0 (fun j _ hj => h j (by omega))
  simpa [firstP] using h1
theorem firstP_lt {p : Nat → Bool} : ∀ {n i j : Nat}, firstP p n i = some j → j < i + n ∧ p j = true
  | 0, _, _, h => by simp [firstP] at h
  | n + 1, i, j, h => by
    simp only [firstP] at h
    split at h
    · rename_i hp; cases h; exact ⟨by omega, hp⟩
    · have := firstP_lt h; exact ⟨by omega, this.2⟩
def isEx (e : Ev) : Bool := decide (e.call = 1) && decide (e.port = 1)
def exits (es : List Ev) (i : Nat) : Nat := (es.take i).countP isEx
def momAt (es : List Ev) (k : Int) (j : Nat) : Bool := match es[j]? with | some e => isEx e && decide (((exits es (j + 1) : Nat) : Int) = k) | none => false
/-- Where the k-th exit of the first call is. -/
def momN (es : List Ev) (k : Int) : Option Nat := firstP (momAt es k) es.length 0
def kAt (k : Int) (n : Nat) : Int := (k - n + 9223372036854775808) % 18446744073709551616 - 9223372036854775808
theorem kAt_step (k : Int) (n : Nat) : IntKind.i64.wrap (kAt k n - 1) = kAt k (n + 1) := by rw [wrap64]; unfold kAt; omega
theorem kAt_zero {k : Int} (h : inI .i64 k) {n : Nat} (hn : n ≤ 1000) : kAt k n = 0 ↔ (n : Int) = k := by simp only [inI] at h; unfold kAt; omega
theorem exits_step {es : List Ev} {i : Nat} {e : Ev} (h : es[i]? = some e) : exits es (i + 1) = exits es i + (if isEx e then 1 else 0) := by
  obtain ⟨hl, rfl⟩ := List.getElem?_eq_some_iff.1 h
  rw [exits, List.take_succ_eq_append_getElem hl, List.countP_append]
  simp [exits, List.countP_cons]
theorem exits_le (es : List Ev) (i : Nat) : exits es i ≤ es.length := Nat.le_trans List.countP_le_length (by simp; omega)
/-- What 'weight' reckons, as it runs. -/
def wtL (xs : List Val) (most n : Int) : Int :=
  match xs with
  | [] => n
  | .mk _ _ t args :: r => if n ≤ most then wtL r most (IntKind.i64.wrap (n + IntKind.i64.wrap (IntKind.i64.wrap (1 + IntKind.i64.wrap ((t.size : Int).tdiv 8)) + wtL args (IntKind.i64.wrap (most - n)) 0))) else n
termination_by SizeOf.sizeOf xs
theorem wtL_nil (most n : Int) : wtL [] most n = n := by rw [wtL]
theorem wtL_stop (xs : List Val) (most n : Int) (h : ¬ n ≤ most) : wtL xs most n = n := by
  cases xs with
  | nil => exact wtL_nil _ _
  | cons x r => cases x; rw [wtL, if_neg h]
theorem wtL_cons (k a : Int) (t : ByteArray) (args r : List Val) (most n : Int) (h : n ≤ most) : wtL (.mk k a t args :: r) most n = wtL r most (IntKind.i64.wrap (n + IntKind.i64.wrap (IntKind.i64.wrap (1 + IntKind.i64.wrap ((t.size : Int).tdiv 8)) + wtL args (IntKind.i64.wrap (most - n)) 0))) := by rw [wtL, if_pos h]
end Go.Proofs.Vg
namespace Go.Proofs.Ytafjfcameabbmaa
open Go Go.Proofs.Vg Go.RowKit

-- -- function 34
set_option maxHeartbeats 4000000 in
set_option maxRecDepth 8000 in
theorem moment_ok (w : World) (S : Nat → Prop) (v : Value) (es : List Ev) (h : EvSl w S v es) (hl : es.length ≤ 400) (k : Int) (hk : inI .i64 k) :
    Rets Try.prog 34 [v, .int .i64 k] w (fun r w' => r = (match momN es k with | some j => .tuple #[.int .i64 ((j : Int) + 1), .bool true] | none => .tuple #[.int .i64 0, .bool false]) ∧ Ext w w') := by
  obtain ⟨rws, ⟨A, c, rfl, hlen, hcell⟩, hrl, hrow⟩ := h
  rw [hrl]
  refine rets_of_ok Try.func34 rfl rfl ?_
  refine ok_seq (fun M hM => ok_region rfl ?_); repeat ((try first | (refine z3 hX ?_; clear hX X) | (refine z2 hX ?_; clear hX X)); (first | refine zL fun X hX => ?_ | refine zH fun X hX => ?_ | refine zE fun X hX => ?_ | refine zB fun X hX => ?_ | refine zb ?_ | refine zA fun X hX => ?_ | refine za ?_ | refine zl ?_ | refine zh ?_ | refine ze ?_); try simp only [oweC, oweP, opF, opH, opHW, opFW, ev, evs, evp, evo, Env.get, Env.set, putE, gdst, S0, S1, thenN, inBlockN, argEnv, builtinR, retE, fin, callR, reduceIte, Nat.reduceEqDiff, Nat.reduceAdd, reduceCtorEq, forall_const, Q34])
  refine hM _ _ _ ?_; clear hM M
  refine ok_seq (fun M0 hM0 => ?_)
  refine ok_seq (fun M hM => ok_region rfl ?_); repeat ((try first | (refine z3 hX ?_; clear hX X) | (refine z2 hX ?_; clear hX X)); (first | refine zL fun X hX => ?_ | refine zH fun X hX => ?_ | refine zE fun X hX => ?_ | refine zB fun X hX => ?_ | refine zb ?_ | refine zA fun X hX => ?_ | refine za ?_ | refine zl ?_ | refine zh ?_ | refine ze ?_); try simp only [oweC, oweP, opF, opH, opHW, opFW, ev, evs, evp, evo, Env.get, Env.set, putE, gdst, S0, S1, thenN, inBlockN, argEnv, builtinR, retE, fin, callR, reduceIte, Nat.reduceEqDiff, Nat.reduceAdd, reduceCtorEq, forall_const, Q34])
  refine hM _ _ _ ?_; clear hM M
  refine ok_block ?_
  refine ok_loop (S := Nat) (fun i => [(1, .int .i64 (kAt k (exits es i))), (8, .slice A es.length c), (9, .int .i64 (es.length : Int)), (10, .int .i64 (i : Int))])
    (fun i w' => Ext w w' ∧ i ≤ es.length ∧ ∀ j, j < i → momAt es k j = false) (fun i => es.length - i) 0 ?_ ?_ ?_
  · have : kAt k (exits es 0) = k := by simp only [inI] at hk; simp only [exits, List.take_zero, List.countP_nil]; unfold kAt; omega
    simp [sub, Env.get, argEnv, this]
  · exact ⟨Ext.refl _, Nat.zero_le _, fun j hj => absurd hj (Nat.not_lt_zero _)⟩
  rintro i w2 ⟨he2, hi, hnone⟩
  refine ok_seq (fun M hM => ok_region rfl ?_); repeat ((try first | (refine z3 hX ?_; clear hX X) | (refine z2 hX ?_; clear hX X)); (first | refine zL fun X hX => ?_ | refine zH fun X hX => ?_ | refine zE fun X hX => ?_ | refine zB fun X hX => ?_ | refine zb ?_ | refine zA fun X hX => ?_ | refine za ?_ | refine zl ?_ | refine zh ?_ | refine ze ?_); try simp only [oweC, oweP, opF, opH, opHW, opFW, ev, evs, evp, evo, Env.get, Env.set, putE, gdst, S0, S1, thenN, inBlockN, argEnv, builtinR, retE, fin, callR, reduceIte, Nat.reduceEqDiff, Nat.reduceAdd, reduceCtorEq, forall_const, Q34])
  refine hM _ _ _ ?_; clear hM M
  refine ok_seq (fun M1 hM1 => ?_)
  refine ok_if rfl (fun hc => ok_skip ?_) (fun hc => ok_exit ?_)
  rotate_left
  · try simp only [wpL, wpH, wpE, oweC, oweP, opF, opH, ev, evs, evp, evo, Env.get, Env.set, putE, gdst, S0, S1, thenN, inBlockN, argEnv, builtinR, retE, fin, callR, reduceIte, Nat.reduceEqDiff, Nat.reduceAdd, reduceCtorEq, forall_const, Q34]
    refine hM0 _ _ _ ?_; clear hM0 M0 hM1 M1
    have hia : i = es.length := by omega
    subst hia
    refine ok_seq (fun M hM => ok_region rfl ?_); repeat ((try first | (refine z3 hX ?_; clear hX X) | (refine z2 hX ?_; clear hX X)); (first | refine zL fun X hX => ?_ | refine zH fun X hX => ?_ | refine zE fun X hX => ?_ | refine zB fun X hX => ?_ | refine zb ?_ | refine zA fun X hX => ?_ | refine za ?_ | refine zl ?_ | refine zh ?_ | refine ze ?_); try simp only [oweC, oweP, opF, opH, opHW, opFW, ev, evs, evp, evo, Env.get, Env.set, putE, gdst, S0, S1, thenN, inBlockN, argEnv, builtinR, retE, fin, callR, reduceIte, Nat.reduceEqDiff, Nat.reduceAdd, reduceCtorEq, forall_const, Q34])
    refine hM _ _ _ ?_; clear hM M
    refine ok_ret ?_
    try simp only [wpL, wpH, wpE, oweC, oweP, opF, opH, ev, evs, evp, evo, Env.get, Env.set, putE, gdst, S0, S1, thenN, inBlockN, argEnv, builtinR, retE, fin, callR, reduceIte, Nat.reduceEqDiff, Nat.reduceAdd, reduceCtorEq, forall_const, Q34]
    have : momN es k = none := firstP_none hnone
    rw [this]
    exact ⟨rfl, he2⟩
  try simp only [wpL, wpH, wpE, oweC, oweP, opF, opH, ev, evs, evp, evo, Env.get, Env.set, putE, gdst, S0, S1, thenN, inBlockN, argEnv, builtinR, retE, fin, callR, reduceIte, Nat.reduceEqDiff, Nat.reduceAdd, reduceCtorEq, forall_const, Q34]
  refine hM1 _ _ _ ?_; clear hM1 M1
  have hil : i < es.length := by omega
  have hei : es[i]? = some es[i] := List.getElem?_eq_getElem hil
  generalize es[i] = e at hei
  have hri : rws[i]? = some (rws[i]'(by omega)) := List.getElem?_eq_getElem (by omega)
  generalize (rws[i]'(by omega)) = r at hri
  have hre := hrow i r e hri hei
  obtain ⟨b, o, rfl, hbS, hcr⟩ := hcell i r hri
  obtain ⟨hr6, hrc, hro⟩ := hre.cells
  have hst := exits_step hei
  have hle := exits_le es (i + 1)
  refine ok_seq (fun M1 hM1 => ok_block ?_)
  refine ok_seq (fun M hM => ok_region rfl ?_)
  repeat ((try first | (refine z3 hX ?_; clear hX X) | (refine z2 hX ?_; clear hX X)); (first | refine zL fun X hX => ?_ | refine zH fun X hX => ?_ | refine zE fun X hX => ?_ | refine zB fun X hX => ?_ | refine zb ?_ | refine zA fun X hX => ?_ | refine za ?_ | refine zl ?_ | refine zh ?_ | refine ze ?_); try simp only [oweC, oweP, opF, opH, opHW, opFW, ev, evs, evp, evo, Env.get, Env.set, putE, gdst, S0, S1, thenN, inBlockN, argEnv, builtinR, retE, fin, callR, reduceIte, Nat.reduceEqDiff, Nat.reduceAdd, reduceCtorEq, forall_const, Q34])
  refine ⟨by omega, by omega, ?_⟩
  repeat ((try first | (refine z3 hX ?_; clear hX X) | (refine z2 hX ?_; clear hX X)); (first | refine zL fun X hX => ?_ | refine zH fun X hX => ?_ | refine zE fun X hX => ?_ | refine zB fun X hX => ?_ | refine zb ?_ | refine zA fun X hX => ?_ | refine za ?_ | refine zl ?_ | refine zh ?_ | refine ze ?_); try simp only [oweC, oweP, opF, opH, opHW, opFW, ev, evs, evp, evo, Env.get, Env.set, putE, gdst, S0, S1, thenN, inBlockN, argEnv, builtinR, retE, fin, callR, reduceIte, Nat.reduceEqDiff, Nat.reduceAdd, reduceCtorEq, forall_const, Q34])
  refine ⟨r, hr6, he2.cellsAt hcr, ?_⟩
  repeat ((try first | (refine z3 hX ?_; clear hX X) | (refine z2 hX ?_; clear hX X)); (first | refine zL fun X hX => ?_ | refine zH fun X hX => ?_ | refine zE fun X hX => ?_ | refine zB fun X hX => ?_ | refine zb ?_ | refine zA fun X hX => ?_ | refine za ?_ | refine zl ?_ | refine zh ?_ | refine ze ?_); try simp only [oweC, oweP, opF, opH, opHW, opFW, ev, evs, evp, evo, Env.get, Env.set, putE, gdst, S0, S1, thenN, inBlockN, argEnv, builtinR, retE, fin, callR, reduceIte, Nat.reduceEqDiff, Nat.reduceAdd, reduceCtorEq, forall_const, Q34])
  refine Runs.alloc Fx.zi69 (fun w3 he3 hs3 hb3 => ?_)
  generalize hB3 : w2.heap.size = B3 at hs3 hb3
  repeat ((try first | (refine z3 hX ?_; clear hX X) | (refine z2 hX ?_; clear hX X)); (first | refine zL fun X hX => ?_ | refine zH fun X hX => ?_ | refine zE fun X hX => ?_ | refine zB fun X hX => ?_ | refine zb ?_ | refine zA fun X hX => ?_ | refine za ?_ | refine zl ?_ | refine zh ?_ | refine ze ?_); try simp only [oweC, oweP, opF, opH, opHW, opFW, ev, evs, evp, evo, Env.get, Env.set, putE, gdst, S0, S1, thenN, inBlockN, argEnv, builtinR, retE, fin, callR, reduceIte, Nat.reduceEqDiff, Nat.reduceAdd, reduceCtorEq, forall_const, Q34])
  refine Runs.store hb3 Fx.zi69 (by rw [hrc]; simpa using hr6) (by rw [hrc]; simpa using hro) (by simp [Value.cells]) (fun w4 hc4 hs4 hb4 => ?_)
  rw [splice_all _ _ (by rw [hrc]; simp [Value.cells, hr6]), hrc] at hb4
  have he24 : Ext w2 w4 := he3.chg_trans hc4 (fun i hi => by omega)
  have he4 := he2.trans he24
  obtain ⟨ve, rfl, -⟩ := hre
  repeat ((try first | (refine z3 hX ?_; clear hX X) | (refine z2 hX ?_; clear hX X)); (first | refine zL fun X hX => ?_ | refine zH fun X hX => ?_ | refine zE fun X hX => ?_ | refine zB fun X hX => ?_ | refine zb ?_ | refine zA fun X hX => ?_ | refine za ?_ | refine zl ?_ | refine zh ?_ | refine ze ?_); try simp only [oweC, oweP, opF, opH, opHW, opFW, ev, evs, evp, evo, Env.get, Env.set, putE, gdst, S0, S1, thenN, inBlockN, argEnv, builtinR, retE, fin, callR, reduceIte, Nat.reduceEqDiff, Nat.reduceAdd, reduceCtorEq, forall_const, Q34])
  refine hM _ _ _ ?_; clear hM M
  have nxt : ∀ (K : Env), (sub [(1, .int .i64 (kAt k (exits es (i + 1)))), (8, .slice (some ⟨b, o, none⟩) es.length c), (9, .int .i64 (es.length : Int)), (10, .int .i64 (i : Int))] K) → momAt es k i = false → M1 K [] w4 := by
    intro K hsub hm
    refine hM1 _ _ _ ?_; clear hM1 M1
    refine ok_less _ hsub ?_
    refine ok_region rfl ?_
    repeat ((try first | (refine z3 hX ?_; clear hX X) | (refine z2 hX ?_; clear hX X)); (first | refine zL fun X hX => ?_ | refine zH fun X hX => ?_ | refine zE fun X hX => ?_ | refine zB fun X hX => ?_ | refine zb ?_ | refine zA fun X hX => ?_ | refine za ?_ | refine zl ?_ | refine zh ?_ | refine ze ?_); try simp only [oweC, oweP, opF, opH, opHW, opFW, ev, evs, evp, evo, Env.get, Env.set, putE, gdst, S0, S1, thenN, inBlockN, argEnv, builtinR, retE, fin, callR, reduceIte, Nat.reduceEqDiff, Nat.reduceAdd, reduceCtorEq, forall_const, Q34])
    refine ⟨by simp only [inI]; omega, ?_⟩
    repeat ((try first | (refine z3 hX ?_; clear hX X) | (refine z2 hX ?_; clear hX X)); (first | refine zL fun X hX => ?_ | refine zH fun X hX => ?_ | refine zE fun X hX => ?_ | refine zB fun X hX => ?_ | refine zb ?_ | refine zA fun X hX => ?_ | refine za ?_ | refine zl ?_ | refine zh ?_ | refine ze ?_); try simp only [oweC, oweP, opF, opH, opHW, opFW, ev, evs, evp, evo, Env.get, Env.set, putE, gdst, S0, S1, thenN, inBlockN, argEnv, builtinR, retE, fin, callR, reduceIte, Nat.reduceEqDiff, Nat.reduceAdd, reduceCtorEq, forall_const, Q34])
    refine ⟨i + 1, by simp [sub, Env.get], ⟨he4, by omega, fun j hj => ?_⟩, by omega⟩
    rcases Nat.lt_or_ge j i with h1 | h1
    · exact hnone j h1
    · have : j = i := by omega
      subst this; exact hm
  refine ok_seq (fun M hM => ok_region rfl ?_)
  repeat ((try first | (refine z3 hX ?_; clear hX X) | (refine z2 hX ?_; clear hX X)); (first | refine zL fun X hX => ?_ | refine zH fun X hX => ?_ | refine zE fun X hX => ?_ | refine zB fun X hX => ?_ | refine zb ?_ | refine zA fun X hX => ?_ | refine za ?_ | refine zl ?_ | refine zh ?_ | refine ze ?_); try simp only [oweC, oweP, opF, opH, opHW, opFW, ev, evs, evp, evo, Env.get, Env.set, putE, gdst, S0, S1, thenN, inBlockN, argEnv, builtinR, retE, fin, callR, reduceIte, Nat.reduceEqDiff, Nat.reduceAdd, reduceCtorEq, forall_const, Q34])
  refine ⟨_, hb4.cell (j := 1) rfl, ?_⟩
  repeat ((try first | (refine z3 hX ?_; clear hX X) | (refine z2 hX ?_; clear hX X)); (first | refine zL fun X hX => ?_ | refine zH fun X hX => ?_ | refine zE fun X hX => ?_ | refine zB fun X hX => ?_ | refine zb ?_ | refine zA fun X hX => ?_ | refine za ?_ | refine zl ?_ | refine zh ?_ | refine ze ?_); try simp only [oweC, oweP, opF, opH, opHW, opFW, ev, evs, evp, evo, Env.get, Env.set, putE, gdst, S0, S1, thenN, inBlockN, argEnv, builtinR, retE, fin, callR, reduceIte, Nat.reduceEqDiff, Nat.reduceAdd, reduceCtorEq, forall_const, Q34])
  by_cases hcall : e.call = 1
  rotate_left
  · simp only [hcall, decide_false]
    repeat ((try first | (refine z3 hX ?_; clear hX X) | (refine z2 hX ?_; clear hX X)); (first | refine zL fun X hX => ?_ | refine zH fun X hX => ?_ | refine zE fun X hX => ?_ | refine zB fun X hX => ?_ | refine zb ?_ | refine zA fun X hX => ?_ | refine za ?_ | refine zl ?_ | refine zh ?_ | refine ze ?_); try simp only [oweC, oweP, opF, opH, opHW, opFW, ev, evs, evp, evo, Env.get, Env.set, putE, gdst, S0, S1, thenN, inBlockN, argEnv, builtinR, retE, fin, callR, reduceIte, Nat.reduceEqDiff, Nat.reduceAdd, reduceCtorEq, forall_const, Q34])
    refine ⟨fun h => (by cases h), fun _ => ?_⟩
    repeat ((try first | (refine z3 hX ?_; clear hX X) | (refine z2 hX ?_; clear hX X)); (first | refine zL fun X hX => ?_ | refine zH fun X hX => ?_ | refine zE fun X hX => ?_ | refine zB fun X hX => ?_ | refine zb ?_ | refine zA fun X hX => ?_ | refine za ?_ | refine zl ?_ | refine zh ?_ | refine ze ?_); try simp only [oweC, oweP, opF, opH, opHW, opFW, ev, evs, evp, evo, Env.get, Env.set, putE, gdst, S0, S1, thenN, inBlockN, argEnv, builtinR, retE, fin, callR, reduceIte, Nat.reduceEqDiff, Nat.reduceAdd, reduceCtorEq, forall_const, Q34])
    refine hM _ _ _ ?_; clear hM M
    refine ok_cond (b := false) rfl (fun h => by cases h) (fun _ => ok_skip ?_)
    try simp only [wpL, wpH, wpE, oweC, oweP, opF, opH, ev, evs, evp, evo, Env.get, Env.set, putE, gdst, S0, S1, thenN, inBlockN, argEnv, builtinR, retE, fin, callR, reduceIte, Nat.reduceEqDiff, Nat.reduceAdd, reduceCtorEq, forall_const, Q34]
    have hx : isEx e = false := by simp [isEx, hcall]
    rw [hx] at hst
    exact nxt _ (by simp [sub, Env.get, hst]) (by simp [momAt, hei, hx])
  simp only [hcall, decide_true]
  repeat ((try first | (refine z3 hX ?_; clear hX X) | (refine z2 hX ?_; clear hX X)); (first | refine zL fun X hX => ?_ | refine zH fun X hX => ?_ | refine zE fun X hX => ?_ | refine zB fun X hX => ?_ | refine zb ?_ | refine zA fun X hX => ?_ | refine za ?_ | refine zl ?_ | refine zh ?_ | refine ze ?_); try simp only [oweC, oweP, opF, opH, opHW, opFW, ev, evs, evp, evo, Env.get, Env.set, putE, gdst, S0, S1, thenN, inBlockN, argEnv, builtinR, retE, fin, callR, reduceIte, Nat.reduceEqDiff, Nat.reduceAdd, reduceCtorEq, forall_const, Q34])
  refine ⟨fun _ => ?_, fun h => by cases h⟩
  repeat ((try first | (refine z3 hX ?_; clear hX X) | (refine z2 hX ?_; clear hX X)); (first | refine zL fun X hX => ?_ | refine zH fun X hX => ?_ | refine zE fun X hX => ?_ | refine zB fun X hX => ?_ | refine zb ?_ | refine zA fun X hX => ?_ | refine za ?_ | refine zl ?_ | refine zh ?_ | refine ze ?_); try simp only [oweC, oweP, opF, opH, opHW, opFW, ev, evs, evp, evo, Env.get, Env.set, putE, gdst, S0, S1, thenN, inBlockN, argEnv, builtinR, retE, fin, callR, reduceIte, Nat.reduceEqDiff, Nat.reduceAdd, reduceCtorEq, forall_const, Q34])
  refine ⟨_, hb4.cell (j := 0) rfl, ?_⟩
  repeat ((try first | (refine z3 hX ?_; clear hX X) | (refine z2 hX ?_; clear hX X)); (first | refine zL fun X hX => ?_ | refine zH fun X hX => ?_ | refine zE fun X hX => ?_ | refine zB fun X hX => ?_ | refine zb ?_ | refine zA fun X hX => ?_ | refine za ?_ | refine zl ?_ | refine zh ?_ | refine ze ?_); try simp only [oweC, oweP, opF, opH, opHW, opFW, ev, evs, evp, evo, Env.get, Env.set, putE, gdst, S0, S1, thenN, inBlockN, argEnv, builtinR, retE, fin, callR, reduceIte, Nat.reduceEqDiff, Nat.reduceAdd, reduceCtorEq, forall_const, Q34])
  by_cases hport : e.port = 1
  rotate_left
  · simp only [hport, decide_false]
    repeat ((try first | (refine z3 hX ?_; clear hX X) | (refine z2 hX ?_; clear hX X)); (first | refine zL fun X hX => ?_ | refine zH fun X hX => ?_ | refine zE fun X hX => ?_ | refine zB fun X hX => ?_ | refine zb ?_ | refine zA fun X hX => ?_ | refine za ?_ | refine zl ?_ | refine zh ?_ | refine ze ?_); try simp only [oweC, oweP, opF, opH, opHW, opFW, ev, evs, evp, evo, Env.get, Env.set, putE, gdst, S0, S1, thenN, inBlockN, argEnv, builtinR, retE, fin, callR, reduceIte, Nat.reduceEqDiff, Nat.reduceAdd, reduceCtorEq, forall_const, Q34])
    refine hM _ _ _ ?_; clear hM M
    refine ok_cond (b := false) rfl (fun h => by cases h) (fun _ => ok_skip ?_)
    try simp only [wpL, wpH, wpE, oweC, oweP, opF, opH, ev, evs, evp, evo, Env.get, Env.set, putE, gdst, S0, S1, thenN, inBlockN, argEnv, builtinR, retE, fin, callR, reduceIte, Nat.reduceEqDiff, Nat.reduceAdd, reduceCtorEq, forall_const, Q34]
    have hx : isEx e = false := by simp [isEx, hport]
    rw [hx] at hst
    exact nxt _ (by simp [sub, Env.get, hst]) (by simp [momAt, hei, hx])
  simp only [hport, decide_true]
  have hx : isEx e = true := by simp [isEx, hport, hcall]
  rw [hx] at hst
  simp only [if_true] at hst
  repeat ((try first | (refine z3 hX ?_; clear hX X) | (refine z2 hX ?_; clear hX X)); (first | refine zL fun X hX => ?_ | refine zH fun X hX => ?_ | refine zE fun X hX => ?_ | refine zB fun X hX => ?_ | refine zb ?_ | refine zA fun X hX => ?_ | refine za ?_ | refine zl ?_ | refine zh ?_ | refine ze ?_); try simp only [oweC, oweP, opF, opH, opHW, opFW, ev, evs, evp, evo, Env.get, Env.set, putE, gdst, S0, S1, thenN, inBlockN, argEnv, builtinR, retE, fin, callR, reduceIte, Nat.reduceEqDiff, Nat.reduceAdd, reduceCtorEq, forall_const, Q34])
  refine hM _ _ _ ?_; clear hM M
  refine ok_cond (b := true) rfl (fun _ => ?_) (fun h => by cases h)
  refine ok_seq (fun M hM => ok_regionF rfl ?_)
  repeat ((try first | (refine z3 hX ?_; clear hX X) | (refine z2 hX ?_; clear hX X)); (first | refine zL fun X hX => ?_ | refine zH fun X hX => ?_ | refine zE fun X hX => ?_ | refine zB fun X hX => ?_ | refine zb ?_ | refine zA fun X hX => ?_ | refine za ?_ | refine zl ?_ | refine zh ?_ | refine ze ?_); try simp only [oweC, oweP, opF, opH, opHW, opFW, ev, evs, evp, evo, Env.get, Env.set, putE, gdst, S0, S1, thenN, inBlockN, argEnv, builtinR, retE, fin, callR, reduceIte, Nat.reduceEqDiff, Nat.reduceAdd, reduceCtorEq, forall_const, Q34])
  rw [kAt_step, ← hst]
  repeat ((try first | (refine z3 hX ?_; clear hX X) | (refine z2 hX ?_; clear hX X)); (first | refine zL fun X hX => ?_ | refine zH fun X hX => ?_ | refine zE fun X hX => ?_ | refine zB fun X hX => ?_ | refine zb ?_ | refine zA fun X hX => ?_ | refine za ?_ | refine zl ?_ | refine zh ?_ | refine ze ?_); try simp only [oweC, oweP, opF, opH, opHW, opFW, ev, evs, evp, evo, Env.get, Env.set, putE, gdst, S0, S1, thenN, inBlockN, argEnv, builtinR, retE, fin, callR, reduceIte, Nat.reduceEqDiff, Nat.reduceAdd, reduceCtorEq, forall_const, Q34])
  refine hM _ _ _ ?_; clear hM M
  refine ok_seq (fun M hM => ok_region rfl ?_); repeat ((try first | (refine z3 hX ?_; clear hX X) | (refine z2 hX ?_; clear hX X)); (first | refine zL fun X hX => ?_ | refine zH fun X hX => ?_ | refine zE fun X hX => ?_ | refine zB fun X hX => ?_ | refine zb ?_ | refine zA fun X hX => ?_ | refine za ?_ | refine zl ?_ | refine zh ?_ | refine ze ?_); try simp only [oweC, oweP, opF, opH, opHW, opFW, ev, evs, evp, evo, Env.get, Env.set, putE, gdst, S0, S1, thenN, inBlockN, argEnv, builtinR, retE, fin, callR, reduceIte, Nat.reduceEqDiff, Nat.reduceAdd, reduceCtorEq, forall_const, Q34])
  refine hM _ _ _ ?_; clear hM M
  have hz := kAt_zero hk (n := exits es (i + 1)) (by omega)
  refine ok_if rfl (fun hc2 => ?_) (fun hc2 => ok_skip ?_)
  · refine ok_seq (fun M hM => ok_region rfl ?_)
    repeat ((try first | (refine z3 hX ?_; clear hX X) | (refine z2 hX ?_; clear hX X)); (first | refine zL fun X hX => ?_ | refine zH fun X hX => ?_ | refine zE fun X hX => ?_ | refine zB fun X hX => ?_ | refine zb ?_ | refine zA fun X hX => ?_ | refine za ?_ | refine zl ?_ | refine zh ?_ | refine ze ?_); try simp only [oweC, oweP, opF, opH, opHW, opFW, ev, evs, evp, evo, Env.get, Env.set, putE, gdst, S0, S1, thenN, inBlockN, argEnv, builtinR, retE, fin, callR, reduceIte, Nat.reduceEqDiff, Nat.reduceAdd, reduceCtorEq, forall_const, Q34])
    refine ⟨by simp only [inI]; omega, ?_⟩
    repeat ((try first | (refine z3 hX ?_; clear hX X) | (refine z2 hX ?_; clear hX X)); (first | refine zL fun X hX => ?_ | refine zH fun X hX => ?_ | refine zE fun X hX => ?_ | refine zB fun X hX => ?_ | refine zb ?_ | refine zA fun X hX => ?_ | refine za ?_ | refine zl ?_ | refine zh ?_ | refine ze ?_); try simp only [oweC, oweP, opF, opH, opHW, opFW, ev, evs, evp, evo, Env.get, Env.set, putE, gdst, S0, S1, thenN, inBlockN, argEnv, builtinR, retE, fin, callR, reduceIte, Nat.reduceEqDiff, Nat.reduceAdd, reduceCtorEq, forall_const, Q34])
    refine hM _ _ _ ?_; clear hM M
    refine ok_ret ?_
    try simp only [wpL, wpH, wpE, oweC, oweP, opF, opH, ev, evs, evp, evo, Env.get, Env.set, putE, gdst, S0, S1, thenN, inBlockN, argEnv, builtinR, retE, fin, callR, reduceIte, Nat.reduceEqDiff, Nat.reduceAdd, reduceCtorEq, forall_const, Q34]
    have : momN es k = some i := firstP_at hil hnone (by simp [momAt, hei, hx, hz.1 hc2])
    rw [this]
    exact ⟨rfl, he4⟩
  · try simp only [wpL, wpH, wpE, oweC, oweP, opF, opH, ev, evs, evp, evo, Env.get, Env.set, putE, gdst, S0, S1, thenN, inBlockN, argEnv, builtinR, retE, fin, callR, reduceIte, Nat.reduceEqDiff, Nat.reduceAdd, reduceCtorEq, forall_const, Q34]
    exact nxt _ (by simp [sub, Env.get]) (by
      have : ¬ (((exits es (i + 1) : Nat) : Int) = k) := fun h => hc2 (hz.2 h)
      simp [momAt, hei, this])
end Go.Proofs.Ytafjfcameabbmaa
/- weight, Large.   -/
set_option linter.unusedVariables false
set_option linter.unusedSimpArgs false
namespace Go.Proofs.Vg
open Go Go.RowKit
theorem runQuo8 {P : Program} {t : TypeId} {x y : Operand} (n : Int) (w : World) : (do eqGuard .quo t x y (.int .i64 n) (.int .i64 8); binOp .quo t (.int .i64 n) (.int .i64 8) : Sem Value).run P w = .ok (.int .i64 (IntKind.i64.wrap (n.tdiv 8))) w := by simp [eqGuard, binOp, Op.intArith, Op.intDiv]
/-- What 'Large' reckons, as it runs. -/
def lgL : List Ev → Int → Int
  | [], n => n
  | e :: r, n => if n ≤ 3000 then lgL r (IntKind.i64.wrap (n + IntKind.i64.wrap (1 + wtL e.args 3000 0))) else n
theorem lgL_stop (xs : List Ev) (n : Int) (h : ¬ n ≤ 3000) : lgL xs n = n := by
  cases xs with
  | nil => rfl
  | cons x r => rw [lgL, if_neg h]
def largeN (es : List Ev) : Bool := decide (3000 < lgL es 0) || decide (400 < (es.length : Int))
end Go.Proofs.Vg
namespace Go.Proofs.Ytafjfcameabbmaa
open Go Go.Proofs.Vg Go.RowKit

-- -- function 32
set_option maxHeartbeats 4000000 in
set_option maxRecDepth 8000 in
theorem weight_ok : ∀ (m : Nat) (xs : List Val) (v : Value) (w : World) (most : Int), SizeOf.sizeOf xs ≤ m → VSl w v xs → Rets Try.prog 32 [v, .int .i64 most] w (fun r w' => r = .int .i64 (wtL xs most 0) ∧ Ext w w') := by
  intro m
  induction m with
  | zero => intro xs v w most hm; cases xs <;> simp at hm
  | succ m ih =>
    intro xs v w most hm hv
    obtain ⟨hv1, hv2, rows, ⟨A, c, rfl, hlen, hcell⟩, hrows⟩ := hv
    have hl := hrows.length
    rw [hl]
    refine rets_of_ok Try.func32 rfl rfl ?_
    refine ok_seq (fun M hM => ok_region rfl ?_); repeat ((try first | (refine z3 hX ?_; clear hX X) | (refine z2 hX ?_; clear hX X)); (first | refine zL fun X hX => ?_ | refine zH fun X hX => ?_ | refine zE fun X hX => ?_ | refine zB fun X hX => ?_ | refine zb ?_ | refine zA fun X hX => ?_ | refine za ?_ | refine zl ?_ | refine zh ?_ | refine ze ?_); try simp only [oweC, oweP, opF, opH, opHW, opFW, ev, evs, evp, evo, Env.get, Env.set, putE, gdst, S0, S1, thenN, inBlockN, argEnv, builtinR, retE, fin, callR, reduceIte, Nat.reduceEqDiff, Nat.reduceAdd, reduceCtorEq, forall_const, Q32])
    refine hM _ _ _ ?_; clear hM M
    refine ok_seq (fun M hM => ok_region rfl ?_); repeat ((try first | (refine z3 hX ?_; clear hX X) | (refine z2 hX ?_; clear hX X)); (first | refine zL fun X hX => ?_ | refine zH fun X hX => ?_ | refine zE fun X hX => ?_ | refine zB fun X hX => ?_ | refine zb ?_ | refine zA fun X hX => ?_ | refine za ?_ | refine zl ?_ | refine zh ?_ | refine ze ?_); try simp only [oweC, oweP, opF, opH, opHW, opFW, ev, evs, evp, evo, Env.get, Env.set, putE, gdst, S0, S1, thenN, inBlockN, argEnv, builtinR, retE, fin, callR, reduceIte, Nat.reduceEqDiff, Nat.reduceAdd, reduceCtorEq, forall_const, Q32])
    refine hM _ _ _ ?_; clear hM M
    refine ok_seq (fun M0 hM0 => ?_)
    refine ok_seq (fun M hM => ok_region rfl ?_); repeat ((try first | (refine z3 hX ?_; clear hX X) | (refine z2 hX ?_; clear hX X)); (first | refine zL fun X hX => ?_ | refine zH fun X hX => ?_ | refine zE fun X hX => ?_ | refine zB fun X hX => ?_ | refine zb ?_ | refine zA fun X hX => ?_ | refine za ?_ | refine zl ?_ | refine zh ?_ | refine ze ?_); try simp only [oweC, oweP, opF, opH, opHW, opFW, ev, evs, evp, evo, Env.get, Env.set, putE, gdst, S0, S1, thenN, inBlockN, argEnv, builtinR, retE, fin, callR, reduceIte, Nat.reduceEqDiff, Nat.reduceAdd, reduceCtorEq, forall_const, Q32])
    refine hM _ _ _ ?_; clear hM M
    refine ok_block ?_
    refine ok_loop (S := Nat × Int) (fun s => [(0, .slice A xs.length c), (1, .int .i64 most), (5, .int .i64 s.2), (6, .int .i64 (s.1 : Int))])
      (fun s w' => Ext w w' ∧ s.1 ≤ xs.length ∧ wtL xs most 0 = wtL (xs.drop s.1) most s.2) (fun s => xs.length - s.1) (0, 0) ?_ ?_ ?_
    · simp [sub, Env.get, argEnv]
    · exact ⟨Ext.refl _, Nat.zero_le _, rfl⟩
    rintro ⟨i, n⟩ w2 ⟨he2, hi, hwt⟩
    simp only at hi hwt ⊢
    refine ok_seq (fun M1 hM1 => ?_)
    have fini : ∀ (K : Env), (sub [(5, .int .i64 n)] K) → wtL xs most 0 = n → M0 K [] w2 := by
      intro K hsub hm
      refine hM0 _ _ _ ?_; clear hM0 M0 hM1 M1
      refine ok_less _ hsub ?_
      refine ok_seq (fun M hM => ok_region rfl ?_); repeat ((try first | (refine z3 hX ?_; clear hX X) | (refine z2 hX ?_; clear hX X)); (first | refine zL fun X hX => ?_ | refine zH fun X hX => ?_ | refine zE fun X hX => ?_ | refine zB fun X hX => ?_ | refine zb ?_ | refine zA fun X hX => ?_ | refine za ?_ | refine zl ?_ | refine zh ?_ | refine ze ?_); try simp only [oweC, oweP, opF, opH, opHW, opFW, ev, evs, evp, evo, Env.get, Env.set, putE, gdst, S0, S1, thenN, inBlockN, argEnv, builtinR, retE, fin, callR, reduceIte, Nat.reduceEqDiff, Nat.reduceAdd, reduceCtorEq, forall_const, Q32])
      refine hM _ _ _ ?_; clear hM M
      refine ok_ret ?_
      try simp only [wpL, wpH, wpE, oweC, oweP, opF, opH, ev, evs, evp, evo, Env.get, Env.set, putE, gdst, S0, S1, thenN, inBlockN, argEnv, builtinR, retE, fin, callR, reduceIte, Nat.reduceEqDiff, Nat.reduceAdd, reduceCtorEq, forall_const, Q32]
      exact ⟨by rw [hm], he2⟩
    refine ok_seq (fun M hM => ok_region rfl ?_)
    repeat ((try first | (refine z3 hX ?_; clear hX X) | (refine z2 hX ?_; clear hX X)); (first | refine zL fun X hX => ?_ | refine zH fun X hX => ?_ | refine zE fun X hX => ?_ | refine zB fun X hX => ?_ | refine zb ?_ | refine zA fun X hX => ?_ | refine za ?_ | refine zl ?_ | refine zh ?_ | refine ze ?_); try simp only [oweC, oweP, opF, opH, opHW, opFW, ev, evs, evp, evo, Env.get, Env.set, putE, gdst, S0, S1, thenN, inBlockN, argEnv, builtinR, retE, fin, callR, reduceIte, Nat.reduceEqDiff, Nat.reduceAdd, reduceCtorEq, forall_const, Q32])
    by_cases hil : i < xs.length
    rotate_left
    · have hil' : ¬ ((i : Int) < (xs.length : Int)) := by omega
      simp only [hil', decide_false]
      repeat ((try first | (refine z3 hX ?_; clear hX X) | (refine z2 hX ?_; clear hX X)); (first | refine zL fun X hX => ?_ | refine zH fun X hX => ?_ | refine zE fun X hX => ?_ | refine zB fun X hX => ?_ | refine zb ?_ | refine zA fun X hX => ?_ | refine za ?_ | refine zl ?_ | refine zh ?_ | refine ze ?_); try simp only [oweC, oweP, opF, opH, opHW, opFW, ev, evs, evp, evo, Env.get, Env.set, putE, gdst, S0, S1, thenN, inBlockN, argEnv, builtinR, retE, fin, callR, reduceIte, Nat.reduceEqDiff, Nat.reduceAdd, reduceCtorEq, forall_const, Q32])
      refine ⟨fun h => (by cases h), fun _ => ?_⟩
      repeat ((try first | (refine z3 hX ?_; clear hX X) | (refine z2 hX ?_; clear hX X)); (first | refine zL fun X hX => ?_ | refine zH fun X hX => ?_ | refine zE fun X hX => ?_ | refine zB fun X hX => ?_ | refine zb ?_ | refine zA fun X hX => ?_ | refine za ?_ | refine zl ?_ | refine zh ?_ | refine ze ?_); try simp only [oweC, oweP, opF, opH, opHW, opFW, ev, evs, evp, evo, Env.get, Env.set, putE, gdst, S0, S1, thenN, inBlockN, argEnv, builtinR, retE, fin, callR, reduceIte, Nat.reduceEqDiff, Nat.reduceAdd, reduceCtorEq, forall_const, Q32])
      refine hM _ _ _ ?_; clear hM M
      refine ok_cond (b := false) rfl (fun h => by cases h) (fun _ => ok_exit ?_)
      try simp only [wpL, wpH, wpE, oweC, oweP, opF, opH, ev, evs, evp, evo, Env.get, Env.set, putE, gdst, S0, S1, thenN, inBlockN, argEnv, builtinR, retE, fin, callR, reduceIte, Nat.reduceEqDiff, Nat.reduceAdd, reduceCtorEq, forall_const, Q32]
      exact fini _ (by simp [sub, Env.get]) (by rw [hwt, List.drop_of_length_le (by omega), wtL_nil])
    have hil' : (i : Int) < (xs.length : Int) := by omega
    simp only [hil', decide_true]
    repeat ((try first | (refine z3 hX ?_; clear hX X) | (refine z2 hX ?_; clear hX X)); (first | refine zL fun X hX => ?_ | refine zH fun X hX => ?_ | refine zE fun X hX => ?_ | refine zB fun X hX => ?_ | refine zb ?_ | refine zA fun X hX => ?_ | refine za ?_ | refine zl ?_ | refine zh ?_ | refine ze ?_); try simp only [oweC, oweP, opF, opH, opHW, opFW, ev, evs, evp, evo, Env.get, Env.set, putE, gdst, S0, S1, thenN, inBlockN, argEnv, builtinR, retE, fin, callR, reduceIte, Nat.reduceEqDiff, Nat.reduceAdd, reduceCtorEq, forall_const, Q32])
    refine ⟨fun _ => ?_, fun h => (by cases h)⟩
    repeat ((try first | (refine z3 hX ?_; clear hX X) | (refine z2 hX ?_; clear hX X)); (first | refine zL fun X hX => ?_ | refine zH fun X hX => ?_ | refine zE fun X hX => ?_ | refine zB fun X hX => ?_ | refine zb ?_ | refine zA fun X hX => ?_ | refine za ?_ | refine zl ?_ | refine zh ?_ | refine ze ?_); try simp only [oweC, oweP, opF, opH, opHW, opFW, ev, evs, evp, evo, Env.get, Env.set, putE, gdst, S0, S1, thenN, inBlockN, argEnv, builtinR, retE, fin, callR, reduceIte, Nat.reduceEqDiff, Nat.reduceAdd, reduceCtorEq, forall_const, Q32])
    by_cases hn : n ≤ most
    rotate_left
    · simp only [hn, decide_false]
      repeat ((try first | (refine z3 hX ?_; clear hX X) | (refine z2 hX ?_; clear hX X)); (first | refine zL fun X hX => ?_ | refine zH fun X hX => ?_ | refine zE fun X hX => ?_ | refine zB fun X hX => ?_ | refine zb ?_ | refine zA fun X hX => ?_ | refine za ?_ | refine zl ?_ | refine zh ?_ | refine ze ?_); try simp only [oweC, oweP, opF, opH, opHW, opFW, ev, evs, evp, evo, Env.get, Env.set, putE, gdst, S0, S1, thenN, inBlockN, argEnv, builtinR, retE, fin, callR, reduceIte, Nat.reduceEqDiff, Nat.reduceAdd, reduceCtorEq, forall_const, Q32])
      refine hM _ _ _ ?_; clear hM M
      refine ok_cond (b := false) rfl (fun h => by cases h) (fun _ => ok_exit ?_)
      try simp only [wpL, wpH, wpE, oweC, oweP, opF, opH, ev, evs, evp, evo, Env.get, Env.set, putE, gdst, S0, S1, thenN, inBlockN, argEnv, builtinR, retE, fin, callR, reduceIte, Nat.reduceEqDiff, Nat.reduceAdd, reduceCtorEq, forall_const, Q32]
      exact fini _ (by simp [sub, Env.get]) (by rw [hwt, wtL_stop _ _ _ hn])
    simp only [hn, decide_true]
    repeat ((try first | (refine z3 hX ?_; clear hX X) | (refine z2 hX ?_; clear hX X)); (first | refine zL fun X hX => ?_ | refine zH fun X hX => ?_ | refine zE fun X hX => ?_ | refine zB fun X hX => ?_ | refine zb ?_ | refine zA fun X hX => ?_ | refine za ?_ | refine zl ?_ | refine zh ?_ | refine ze ?_); try simp only [oweC, oweP, opF, opH, opHW, opFW, ev, evs, evp, evo, Env.get, Env.set, putE, gdst, S0, S1, thenN, inBlockN, argEnv, builtinR, retE, fin, callR, reduceIte, Nat.reduceEqDiff, Nat.reduceAdd, reduceCtorEq, forall_const, Q32])
    refine hM _ _ _ ?_; clear hM M
    refine ok_cond (b := true) rfl (fun _ => ok_skip ?_) (fun h => by cases h)
    try simp only [wpL, wpH, wpE, oweC, oweP, opF, opH, ev, evs, evp, evo, Env.get, Env.set, putE, gdst, S0, S1, thenN, inBlockN, argEnv, builtinR, retE, fin, callR, reduceIte, Nat.reduceEqDiff, Nat.reduceAdd, reduceCtorEq, forall_const, Q32]
    refine hM1 _ _ _ ?_; clear hM1 M1 fini
    have hxi : xs[i]? = some xs[i] := List.getElem?_eq_getElem hil
    have hdr : xs.drop i = xs[i] :: xs.drop (i + 1) := List.drop_eq_getElem_cons hil
    have hszx := List.sizeOf_lt_of_mem (List.getElem_mem hil)
    generalize xs[i] = x at hxi hdr hszx
    obtain ⟨rr, hrr, hvr⟩ := hrows.get i _ hxi
    obtain ⟨b, o, rfl, hcr⟩ := hcell i rr hrr
    obtain ⟨k, a, t, args⟩ := x
    simp only [VRow] at hvr
    obtain ⟨va0, rfl, h1, h2, rows2, h3, h4⟩ := hvr
    simp at hszx
    refine ok_seq (fun M1 hM1 => ok_block ?_)
    have hct := hcr 2 _ rfl
    have hca := hcr 3 _ rfl
    simp only [add_at] at hct hca
    refine (ok_drawW 21 [] (Ext _) Fx.mixed (by decide) rfl (by decide +kernel) (by decide +kernel) (Ext.drew _) ?_)
    repeat ((try first | (refine z3 hX ?_; clear hX X) | (refine z2 hX ?_; clear hX X)); (first | refine zL fun X hX => ?_ | refine zH fun X hX => ?_ | refine zE fun X hX => ?_ | refine zB fun X hX => ?_ | refine zb ?_ | refine zA fun X hX => ?_ | refine za ?_ | refine zl ?_ | refine zh ?_ | refine ze ?_); try simp only [oweC, oweP, opF, opH, opHW, opFW, ev, evs, evp, evo, Env.get, Env.set, putE, gdst, S0, S1, thenN, inBlockN, argEnv, builtinR, retE, fin, callR, reduceIte, Nat.reduceEqDiff, Nat.reduceAdd, reduceCtorEq, forall_const, Q32])
    refine ⟨by omega, by omega, ?_⟩
    repeat ((try first | (refine z3 hX ?_; clear hX X) | (refine z2 hX ?_; clear hX X)); (first | refine zL fun X hX => ?_ | refine zH fun X hX => ?_ | refine zE fun X hX => ?_ | refine zB fun X hX => ?_ | refine zb ?_ | refine zA fun X hX => ?_ | refine za ?_ | refine zl ?_ | refine zh ?_ | refine ze ?_); try simp only [oweC, oweP, opF, opH, opHW, opFW, ev, evs, evp, evo, Env.get, Env.set, putE, gdst, S0, S1, thenN, inBlockN, argEnv, builtinR, retE, fin, callR, reduceIte, Nat.reduceEqDiff, Nat.reduceAdd, reduceCtorEq, forall_const, Q32])
    refine ⟨.string t, fun w' hw => hw.cell (he2.cell (by simpa using hct)), ?_⟩
    repeat ((try first | (refine z3 hX ?_; clear hX X) | (refine z2 hX ?_; clear hX X)); (first | refine zL fun X hX => ?_ | refine zH fun X hX => ?_ | refine zE fun X hX => ?_ | refine zB fun X hX => ?_ | refine zb ?_ | refine zA fun X hX => ?_ | refine za ?_ | refine zl ?_ | refine zh ?_ | refine ze ?_); try simp only [oweC, oweP, opF, opH, opHW, opFW, ev, evs, evp, evo, Env.get, Env.set, putE, gdst, S0, S1, thenN, inBlockN, argEnv, builtinR, retE, fin, callR, reduceIte, Nat.reduceEqDiff, Nat.reduceAdd, reduceCtorEq, forall_const, Q32])
    refine ⟨_, fun w' _ => runQuo8 _ w', ?_⟩
    repeat ((try first | (refine z3 hX ?_; clear hX X) | (refine z2 hX ?_; clear hX X)); (first | refine zL fun X hX => ?_ | refine zH fun X hX => ?_ | refine zE fun X hX => ?_ | refine zB fun X hX => ?_ | refine zb ?_ | refine zA fun X hX => ?_ | refine za ?_ | refine zl ?_ | refine zh ?_ | refine ze ?_); try simp only [oweC, oweP, opF, opH, opHW, opFW, ev, evs, evp, evo, Env.get, Env.set, putE, gdst, S0, S1, thenN, inBlockN, argEnv, builtinR, retE, fin, callR, reduceIte, Nat.reduceEqDiff, Nat.reduceAdd, reduceCtorEq, forall_const, Q32])
    refine ⟨by omega, by omega, ?_⟩
    repeat ((try first | (refine z3 hX ?_; clear hX X) | (refine z2 hX ?_; clear hX X)); (first | refine zL fun X hX => ?_ | refine zH fun X hX => ?_ | refine zE fun X hX => ?_ | refine zB fun X hX => ?_ | refine zb ?_ | refine zA fun X hX => ?_ | refine za ?_ | refine zl ?_ | refine zh ?_ | refine ze ?_); try simp only [oweC, oweP, opF, opH, opHW, opFW, ev, evs, evp, evo, Env.get, Env.set, putE, gdst, S0, S1, thenN, inBlockN, argEnv, builtinR, retE, fin, callR, reduceIte, Nat.reduceEqDiff, Nat.reduceAdd, reduceCtorEq, forall_const, Q32])
    refine ⟨va0, fun w' hw => hw.cell (he2.cell (by simpa using hca)), ?_⟩
    repeat ((try first | (refine z3 hX ?_; clear hX X) | (refine z2 hX ?_; clear hX X)); (first | refine zL fun X hX => ?_ | refine zH fun X hX => ?_ | refine zE fun X hX => ?_ | refine zB fun X hX => ?_ | refine zb ?_ | refine zA fun X hX => ?_ | refine za ?_ | refine zl ?_ | refine zh ?_ | refine ze ?_); try simp only [oweC, oweP, opF, opH, opHW, opFW, ev, evs, evp, evo, Env.get, Env.set, putE, gdst, S0, S1, thenN, inBlockN, argEnv, builtinR, retE, fin, callR, reduceIte, Nat.reduceEqDiff, Nat.reduceAdd, reduceCtorEq, forall_const, Q32])
    refine ⟨.int .i64 (wtL args (IntKind.i64.wrap (most - n)) 0), fun w' hw => Inv.call Fx.en32 (ih args va0 w' _ (by omega) ⟨h1, h2, rows2, h3.ext (he2.trans hw), VRows.ext (he2.trans hw) _ _ h4⟩) (fun r w'' h => ⟨h.1, hw.trans h.2⟩), ?_⟩
    repeat ((try first | (refine z3 hX ?_; clear hX X) | (refine z2 hX ?_; clear hX X)); (first | refine zL fun X hX => ?_ | refine zH fun X hX => ?_ | refine zE fun X hX => ?_ | refine zB fun X hX => ?_ | refine zb ?_ | refine zA fun X hX => ?_ | refine za ?_ | refine zl ?_ | refine zh ?_ | refine ze ?_); try simp only [oweC, oweP, opF, opH, opHW, opFW, ev, evs, evp, evo, Env.get, Env.set, putE, gdst, S0, S1, thenN, inBlockN, argEnv, builtinR, retE, fin, callR, reduceIte, Nat.reduceEqDiff, Nat.reduceAdd, reduceCtorEq, forall_const, Q32])
    intro w3 he3
    repeat ((try first | (refine z3 hX ?_; clear hX X) | (refine z2 hX ?_; clear hX X)); (first | refine zL fun X hX => ?_ | refine zH fun X hX => ?_ | refine zE fun X hX => ?_ | refine zB fun X hX => ?_ | refine zb ?_ | refine zA fun X hX => ?_ | refine za ?_ | refine zl ?_ | refine zh ?_ | refine ze ?_); try simp only [oweC, oweP, opF, opH, opHW, opFW, ev, evs, evp, evo, Env.get, Env.set, putE, gdst, S0, S1, thenN, inBlockN, argEnv, builtinR, retE, fin, callR, reduceIte, Nat.reduceEqDiff, Nat.reduceAdd, reduceCtorEq, forall_const, Q32])
    refine hM1 _ _ _ ?_; clear hM1 M1
    refine ok_region rfl ?_
    repeat ((try first | (refine z3 hX ?_; clear hX X) | (refine z2 hX ?_; clear hX X)); (first | refine zL fun X hX => ?_ | refine zH fun X hX => ?_ | refine zE fun X hX => ?_ | refine zB fun X hX => ?_ | refine zb ?_ | refine zA fun X hX => ?_ | refine za ?_ | refine zl ?_ | refine zh ?_ | refine ze ?_); try simp only [oweC, oweP, opF, opH, opHW, opFW, ev, evs, evp, evo, Env.get, Env.set, putE, gdst, S0, S1, thenN, inBlockN, argEnv, builtinR, retE, fin, callR, reduceIte, Nat.reduceEqDiff, Nat.reduceAdd, reduceCtorEq, forall_const, Q32])
    refine ⟨by simp only [inI]; omega, ?_⟩
    repeat ((try first | (refine z3 hX ?_; clear hX X) | (refine z2 hX ?_; clear hX X)); (first | refine zL fun X hX => ?_ | refine zH fun X hX => ?_ | refine zE fun X hX => ?_ | refine zB fun X hX => ?_ | refine zb ?_ | refine zA fun X hX => ?_ | refine za ?_ | refine zl ?_ | refine zh ?_ | refine ze ?_); try simp only [oweC, oweP, opF, opH, opHW, opFW, ev, evs, evp, evo, Env.get, Env.set, putE, gdst, S0, S1, thenN, inBlockN, argEnv, builtinR, retE, fin, callR, reduceIte, Nat.reduceEqDiff, Nat.reduceAdd, reduceCtorEq, forall_const, Q32])
    refine ⟨(i + 1, IntKind.i64.wrap (n + IntKind.i64.wrap (IntKind.i64.wrap (1 + IntKind.i64.wrap ((t.size : Int).tdiv 8)) + wtL args (IntKind.i64.wrap (most - n)) 0))), by simp [sub, Env.get], ⟨he2.trans he3, by omega, ?_⟩, by omega⟩
    rw [hwt, hdr, wtL_cons _ _ _ _ _ _ _ hn]

-- -- function 16
set_option maxHeartbeats 4000000 in
set_option maxRecDepth 8000 in
theorem tlarge_ok (w : World) (S : Nat → Prop) (v : Value) (es : List Ev) (h : EvSl w S v es) : Rets Try.prog 16 [v] w (fun r w' => r = .bool (largeN es) ∧ Ext w w') := by
  obtain ⟨rws, ⟨A, c, rfl, hlen, hcell⟩, hrl, hrow⟩ := h
  rw [hrl]
  refine rets_of_ok Try.func16 rfl rfl ?_
  refine ok_seq (fun M hM => ok_region rfl ?_); repeat ((try first | (refine z3 hX ?_; clear hX X) | (refine z2 hX ?_; clear hX X)); (first | refine zL fun X hX => ?_ | refine zH fun X hX => ?_ | refine zE fun X hX => ?_ | refine zB fun X hX => ?_ | refine zb ?_ | refine zA fun X hX => ?_ | refine za ?_ | refine zl ?_ | refine zh ?_ | refine ze ?_); try simp only [oweC, oweP, opF, opH, opHW, opFW, ev, evs, evp, evo, Env.get, Env.set, putE, gdst, S0, S1, thenN, inBlockN, argEnv, builtinR, retE, fin, callR, reduceIte, Nat.reduceEqDiff, Nat.reduceAdd, reduceCtorEq, forall_const, Q16])
  refine hM _ _ _ ?_; clear hM M
  refine ok_seq (fun M hM => ok_region rfl ?_); repeat ((try first | (refine z3 hX ?_; clear hX X) | (refine z2 hX ?_; clear hX X)); (first | refine zL fun X hX => ?_ | refine zH fun X hX => ?_ | refine zE fun X hX => ?_ | refine zB fun X hX => ?_ | refine zb ?_ | refine zA fun X hX => ?_ | refine za ?_ | refine zl ?_ | refine zh ?_ | refine ze ?_); try simp only [oweC, oweP, opF, opH, opHW, opFW, ev, evs, evp, evo, Env.get, Env.set, putE, gdst, S0, S1, thenN, inBlockN, argEnv, builtinR, retE, fin, callR, reduceIte, Nat.reduceEqDiff, Nat.reduceAdd, reduceCtorEq, forall_const, Q16])
  refine hM _ _ _ ?_; clear hM M
  refine ok_seq (fun M0 hM0 => ?_)
  refine ok_seq (fun M hM => ok_region rfl ?_); repeat ((try first | (refine z3 hX ?_; clear hX X) | (refine z2 hX ?_; clear hX X)); (first | refine zL fun X hX => ?_ | refine zH fun X hX => ?_ | refine zE fun X hX => ?_ | refine zB fun X hX => ?_ | refine zb ?_ | refine zA fun X hX => ?_ | refine za ?_ | refine zl ?_ | refine zh ?_ | refine ze ?_); try simp only [oweC, oweP, opF, opH, opHW, opFW, ev, evs, evp, evo, Env.get, Env.set, putE, gdst, S0, S1, thenN, inBlockN, argEnv, builtinR, retE, fin, callR, reduceIte, Nat.reduceEqDiff, Nat.reduceAdd, reduceCtorEq, forall_const, Q16])
  refine hM _ _ _ ?_; clear hM M
  refine ok_block ?_
  refine ok_loop (S := Nat × Int) (fun s => [(0, .slice A es.length c), (3, .int .i64 s.2), (4, .int .i64 (s.1 : Int))])
    (fun s w' => Ext w w' ∧ s.1 ≤ es.length ∧ lgL es 0 = lgL (es.drop s.1) s.2) (fun s => es.length - s.1) (0, 0) ?_ ?_ ?_
  · simp [sub, Env.get, argEnv]
  · exact ⟨Ext.refl _, Nat.zero_le _, rfl⟩
  rintro ⟨i, n⟩ w2 ⟨he2, hi, hwt⟩
  simp only at hi hwt ⊢
  refine ok_seq (fun M1 hM1 => ?_)
  have fini : ∀ (K : Env), (sub [(0, .slice A es.length c), (3, .int .i64 n)] K) → lgL es 0 = n → M0 K [] w2 := by
    intro K hsub hm
    refine hM0 _ _ _ ?_; clear hM0 M0 hM1 M1
    refine ok_less _ hsub ?_
    refine ok_seq (fun M hM => ok_region rfl ?_)
    repeat ((try first | (refine z3 hX ?_; clear hX X) | (refine z2 hX ?_; clear hX X)); (first | refine zL fun X hX => ?_ | refine zH fun X hX => ?_ | refine zE fun X hX => ?_ | refine zB fun X hX => ?_ | refine zb ?_ | refine zA fun X hX => ?_ | refine za ?_ | refine zl ?_ | refine zh ?_ | refine ze ?_); try simp only [oweC, oweP, opF, opH, opHW, opFW, ev, evs, evp, evo, Env.get, Env.set, putE, gdst, S0, S1, thenN, inBlockN, argEnv, builtinR, retE, fin, callR, reduceIte, Nat.reduceEqDiff, Nat.reduceAdd, reduceCtorEq, forall_const, Q16])
    by_cases hn : 3000 < n
    · simp only [hn, decide_true]
      repeat ((try first | (refine z3 hX ?_; clear hX X) | (refine z2 hX ?_; clear hX X)); (first | refine zL fun X hX => ?_ | refine zH fun X hX => ?_ | refine zE fun X hX => ?_ | refine zB fun X hX => ?_ | refine zb ?_ | refine zA fun X hX => ?_ | refine za ?_ | refine zl ?_ | refine zh ?_ | refine ze ?_); try simp only [oweC, oweP, opF, opH, opHW, opFW, ev, evs, evp, evo, Env.get, Env.set, putE, gdst, S0, S1, thenN, inBlockN, argEnv, builtinR, retE, fin, callR, reduceIte, Nat.reduceEqDiff, Nat.reduceAdd, reduceCtorEq, forall_const, Q16])
      refine ⟨fun h => (by cases h), fun _ => ?_⟩
      repeat ((try first | (refine z3 hX ?_; clear hX X) | (refine z2 hX ?_; clear hX X)); (first | refine zL fun X hX => ?_ | refine zH fun X hX => ?_ | refine zE fun X hX => ?_ | refine zB fun X hX => ?_ | refine zb ?_ | refine zA fun X hX => ?_ | refine za ?_ | refine zl ?_ | refine zh ?_ | refine ze ?_); try simp only [oweC, oweP, opF, opH, opHW, opFW, ev, evs, evp, evo, Env.get, Env.set, putE, gdst, S0, S1, thenN, inBlockN, argEnv, builtinR, retE, fin, callR, reduceIte, Nat.reduceEqDiff, Nat.reduceAdd, reduceCtorEq, forall_const, Q16])
      refine hM _ _ _ ?_; clear hM M
      refine ok_ret ?_
      try simp only [wpL, wpH, wpE, oweC, oweP, opF, opH, ev, evs, evp, evo, Env.get, Env.set, putE, gdst, S0, S1, thenN, inBlockN, argEnv, builtinR, retE, fin, callR, reduceIte, Nat.reduceEqDiff, Nat.reduceAdd, reduceCtorEq, forall_const, Q16]
      exact ⟨by simp [largeN, hm, hn], he2⟩
    · simp only [hn, decide_false]
      repeat ((try first | (refine z3 hX ?_; clear hX X) | (refine z2 hX ?_; clear hX X)); (first | refine zL fun X hX => ?_ | refine zH fun X hX => ?_ | refine zE fun X hX => ?_ | refine zB fun X hX => ?_ | refine zb ?_ | refine zA fun X hX => ?_ | refine za ?_ | refine zl ?_ | refine zh ?_ | refine ze ?_); try simp only [oweC, oweP, opF, opH, opHW, opFW, ev, evs, evp, evo, Env.get, Env.set, putE, gdst, S0, S1, thenN, inBlockN, argEnv, builtinR, retE, fin, callR, reduceIte, Nat.reduceEqDiff, Nat.reduceAdd, reduceCtorEq, forall_const, Q16])
      refine ⟨fun _ => ?_, fun h => (by cases h)⟩
      repeat ((try first | (refine z3 hX ?_; clear hX X) | (refine z2 hX ?_; clear hX X)); (first | refine zL fun X hX => ?_ | refine zH fun X hX => ?_ | refine zE fun X hX => ?_ | refine zB fun X hX => ?_ | refine zb ?_ | refine zA fun X hX => ?_ | refine za ?_ | refine zl ?_ | refine zh ?_ | refine ze ?_); try simp only [oweC, oweP, opF, opH, opHW, opFW, ev, evs, evp, evo, Env.get, Env.set, putE, gdst, S0, S1, thenN, inBlockN, argEnv, builtinR, retE, fin, callR, reduceIte, Nat.reduceEqDiff, Nat.reduceAdd, reduceCtorEq, forall_const, Q16])
      refine hM _ _ _ ?_; clear hM M
      refine ok_ret ?_
      try simp only [wpL, wpH, wpE, oweC, oweP, opF, opH, ev, evs, evp, evo, Env.get, Env.set, putE, gdst, S0, S1, thenN, inBlockN, argEnv, builtinR, retE, fin, callR, reduceIte, Nat.reduceEqDiff, Nat.reduceAdd, reduceCtorEq, forall_const, Q16]
      exact ⟨by simp [largeN, hm, hn], he2⟩
  refine ok_seq (fun M hM => ok_region rfl ?_)
  repeat ((try first | (refine z3 hX ?_; clear hX X) | (refine z2 hX ?_; clear hX X)); (first | refine zL fun X hX => ?_ | refine zH fun X hX => ?_ | refine zE fun X hX => ?_ | refine zB fun X hX => ?_ | refine zb ?_ | refine zA fun X hX => ?_ | refine za ?_ | refine zl ?_ | refine zh ?_ | refine ze ?_); try simp only [oweC, oweP, opF, opH, opHW, opFW, ev, evs, evp, evo, Env.get, Env.set, putE, gdst, S0, S1, thenN, inBlockN, argEnv, builtinR, retE, fin, callR, reduceIte, Nat.reduceEqDiff, Nat.reduceAdd, reduceCtorEq, forall_const, Q16])
  by_cases hil : i < es.length
  rotate_left
  · have hil' : ¬ ((i : Int) < (es.length : Int)) := by omega
    simp only [hil', decide_false]
    repeat ((try first | (refine z3 hX ?_; clear hX X) | (refine z2 hX ?_; clear hX X)); (first | refine zL fun X hX => ?_ | refine zH fun X hX => ?_ | refine zE fun X hX => ?_ | refine zB fun X hX => ?_ | refine zb ?_ | refine zA fun X hX => ?_ | refine za ?_ | refine zl ?_ | refine zh ?_ | refine ze ?_); try simp only [oweC, oweP, opF, opH, opHW, opFW, ev, evs, evp, evo, Env.get, Env.set, putE, gdst, S0, S1, thenN, inBlockN, argEnv, builtinR, retE, fin, callR, reduceIte, Nat.reduceEqDiff, Nat.reduceAdd, reduceCtorEq, forall_const, Q16])
    refine ⟨fun h => (by cases h), fun _ => ?_⟩
    repeat ((try first | (refine z3 hX ?_; clear hX X) | (refine z2 hX ?_; clear hX X)); (first | refine zL fun X hX => ?_ | refine zH fun X hX => ?_ | refine zE fun X hX => ?_ | refine zB fun X hX => ?_ | refine zb ?_ | refine zA fun X hX => ?_ | refine za ?_ | refine zl ?_ | refine zh ?_ | refine ze ?_); try simp only [oweC, oweP, opF, opH, opHW, opFW, ev, evs, evp, evo, Env.get, Env.set, putE, gdst, S0, S1, thenN, inBlockN, argEnv, builtinR, retE, fin, callR, reduceIte, Nat.reduceEqDiff, Nat.reduceAdd, reduceCtorEq, forall_const, Q16])
    refine hM _ _ _ ?_; clear hM M
    refine ok_cond (b := false) rfl (fun h => by cases h) (fun _ => ok_exit ?_)
    try simp only [wpL, wpH, wpE, oweC, oweP, opF, opH, ev, evs, evp, evo, Env.get, Env.set, putE, gdst, S0, S1, thenN, inBlockN, argEnv, builtinR, retE, fin, callR, reduceIte, Nat.reduceEqDiff, Nat.reduceAdd, reduceCtorEq, forall_const, Q16]
    exact fini _ (by simp [sub, Env.get]) (by rw [hwt, List.drop_of_length_le (by omega)]; rfl)
  have hil' : (i : Int) < (es.length : Int) := by omega
  simp only [hil', decide_true]
  repeat ((try first | (refine z3 hX ?_; clear hX X) | (refine z2 hX ?_; clear hX X)); (first | refine zL fun X hX => ?_ | refine zH fun X hX => ?_ | refine zE fun X hX => ?_ | refine zB fun X hX => ?_ | refine zb ?_ | refine zA fun X hX => ?_ | refine za ?_ | refine zl ?_ | refine zh ?_ | refine ze ?_); try simp only [oweC, oweP, opF, opH, opHW, opFW, ev, evs, evp, evo, Env.get, Env.set, putE, gdst, S0, S1, thenN, inBlockN, argEnv, builtinR, retE, fin, callR, reduceIte, Nat.reduceEqDiff, Nat.reduceAdd, reduceCtorEq, forall_const, Q16])
  refine ⟨fun _ => ?_, fun h => (by cases h)⟩
  repeat ((try first | (refine z3 hX ?_; clear hX X) | (refine z2 hX ?_; clear hX X)); (first | refine zL fun X hX => ?_ | refine zH fun X hX => ?_ | refine zE fun X hX => ?_ | refine zB fun X hX => ?_ | refine zb ?_ | refine zA fun X hX => ?_ | refine za ?_ | refine zl ?_ | refine zh ?_ | refine ze ?_); try simp only [oweC, oweP, opF, opH, opHW, opFW, ev, evs, evp, evo, Env.get, Env.set, putE, gdst, S0, S1, thenN, inBlockN, argEnv, builtinR, retE, fin, callR, reduceIte, Nat.reduceEqDiff, Nat.reduceAdd, reduceCtorEq, forall_const, Q16])
  by_cases hn : n ≤ 3000
  rotate_left
  · simp only [hn, decide_false]
    repeat ((try first | (refine z3 hX ?_; clear hX X) | (refine z2 hX ?_; clear hX X)); (first | refine zL fun X hX => ?_ | refine zH fun X hX => ?_ | refine zE fun X hX => ?_ | refine zB fun X hX => ?_ | refine zb ?_ | refine zA fun X hX => ?_ | refine za ?_ | refine zl ?_ | refine zh ?_ | refine ze ?_); try simp only [oweC, oweP, opF, opH, opHW, opFW, ev, evs, evp, evo, Env.get, Env.set, putE, gdst, S0, S1, thenN, inBlockN, argEnv, builtinR, retE, fin, callR, reduceIte, Nat.reduceEqDiff, Nat.reduceAdd, reduceCtorEq, forall_const, Q16])
    refine hM _ _ _ ?_; clear hM M
    refine ok_cond (b := false) rfl (fun h => by cases h) (fun _ => ok_exit ?_)
    try simp only [wpL, wpH, wpE, oweC, oweP, opF, opH, ev, evs, evp, evo, Env.get, Env.set, putE, gdst, S0, S1, thenN, inBlockN, argEnv, builtinR, retE, fin, callR, reduceIte, Nat.reduceEqDiff, Nat.reduceAdd, reduceCtorEq, forall_const, Q16]
    exact fini _ (by simp [sub, Env.get]) (by rw [hwt, lgL_stop _ _ hn])
  simp only [hn, decide_true]
  repeat ((try first | (refine z3 hX ?_; clear hX X) | (refine z2 hX ?_; clear hX X)); (first | refine zL fun X hX => ?_ | refine zH fun X hX => ?_ | refine zE fun X hX => ?_ | refine zB fun X hX => ?_ | refine zb ?_ | refine zA fun X hX => ?_ | refine za ?_ | refine zl ?_ | refine zh ?_ | refine ze ?_); try simp only [oweC, oweP, opF, opH, opHW, opFW, ev, evs, evp, evo, Env.get, Env.set, putE, gdst, S0, S1, thenN, inBlockN, argEnv, builtinR, retE, fin, callR, reduceIte, Nat.reduceEqDiff, Nat.reduceAdd, reduceCtorEq, forall_const, Q16])
  refine hM _ _ _ ?_; clear hM M
  refine ok_cond (b := true) rfl (fun _ => ok_skip ?_) (fun h => by cases h)
  try simp only [wpL, wpH, wpE, oweC, oweP, opF, opH, ev, evs, evp, evo, Env.get, Env.set, putE, gdst, S0, S1, thenN, inBlockN, argEnv, builtinR, retE, fin, callR, reduceIte, Nat.reduceEqDiff, Nat.reduceAdd, reduceCtorEq, forall_const, Q16]
  refine hM1 _ _ _ ?_; clear hM1 M1 fini
  have hei : es[i]? = some es[i] := List.getElem?_eq_getElem hil
  have hdr : es.drop i = es[i] :: es.drop (i + 1) := List.drop_eq_getElem_cons hil
  generalize es[i] = e at hei hdr
  have hri : rws[i]? = some (rws[i]'(by omega)) := List.getElem?_eq_getElem (by omega)
  generalize (rws[i]'(by omega)) = r at hri
  have hre := hrow i r e hri hei
  obtain ⟨b, o, rfl, hbS, hcr⟩ := hcell i r hri
  obtain ⟨va0, rfl, hva⟩ := hre
  have hca := hcr 5 _ rfl
  simp only [add_at] at hca
  refine ok_seq (fun M1 hM1 => ok_block ?_)
  refine ok_regionF rfl ?_
  repeat ((try first | (refine z3 hX ?_; clear hX X) | (refine z2 hX ?_; clear hX X)); (first | refine zL fun X hX => ?_ | refine zH fun X hX => ?_ | refine zE fun X hX => ?_ | refine zB fun X hX => ?_ | refine zb ?_ | refine zA fun X hX => ?_ | refine za ?_ | refine zl ?_ | refine zh ?_ | refine ze ?_); try simp only [oweC, oweP, opF, opH, opHW, opFW, ev, evs, evp, evo, Env.get, Env.set, putE, gdst, S0, S1, thenN, inBlockN, argEnv, builtinR, retE, fin, callR, reduceIte, Nat.reduceEqDiff, Nat.reduceAdd, reduceCtorEq, forall_const, Q16])
  refine ⟨by omega, by omega, ?_⟩
  repeat ((try first | (refine z3 hX ?_; clear hX X) | (refine z2 hX ?_; clear hX X)); (first | refine zL fun X hX => ?_ | refine zH fun X hX => ?_ | refine zE fun X hX => ?_ | refine zB fun X hX => ?_ | refine zb ?_ | refine zA fun X hX => ?_ | refine za ?_ | refine zl ?_ | refine zh ?_ | refine ze ?_); try simp only [oweC, oweP, opF, opH, opHW, opFW, ev, evs, evp, evo, Env.get, Env.set, putE, gdst, S0, S1, thenN, inBlockN, argEnv, builtinR, retE, fin, callR, reduceIte, Nat.reduceEqDiff, Nat.reduceAdd, reduceCtorEq, forall_const, Q16])
  refine ⟨va0, he2.cell (by simpa using hca), ?_⟩
  repeat ((try first | (refine z3 hX ?_; clear hX X) | (refine z2 hX ?_; clear hX X)); (first | refine zL fun X hX => ?_ | refine zH fun X hX => ?_ | refine zE fun X hX => ?_ | refine zB fun X hX => ?_ | refine zb ?_ | refine zA fun X hX => ?_ | refine za ?_ | refine zl ?_ | refine zh ?_ | refine ze ?_); try simp only [oweC, oweP, opF, opH, opHW, opFW, ev, evs, evp, evo, Env.get, Env.set, putE, gdst, S0, S1, thenN, inBlockN, argEnv, builtinR, retE, fin, callR, reduceIte, Nat.reduceEqDiff, Nat.reduceAdd, reduceCtorEq, forall_const, Q16])
  refine Inv.call Fx.en32 (weight_ok _ e.args va0 w2 3000 (Nat.le_refl _) (hva.vsl.ext he2)) ?_
  rintro r w3 ⟨rfl, he3⟩
  repeat ((try first | (refine z3 hX ?_; clear hX X) | (refine z2 hX ?_; clear hX X)); (first | refine zL fun X hX => ?_ | refine zH fun X hX => ?_ | refine zE fun X hX => ?_ | refine zB fun X hX => ?_ | refine zb ?_ | refine zA fun X hX => ?_ | refine za ?_ | refine zl ?_ | refine zh ?_ | refine ze ?_); try simp only [oweC, oweP, opF, opH, opHW, opFW, ev, evs, evp, evo, Env.get, Env.set, putE, gdst, S0, S1, thenN, inBlockN, argEnv, builtinR, retE, fin, callR, reduceIte, Nat.reduceEqDiff, Nat.reduceAdd, reduceCtorEq, forall_const, Q16])
  refine hM1 _ _ _ ?_; clear hM1 M1
  refine ok_region rfl ?_
  repeat ((try first | (refine z3 hX ?_; clear hX X) | (refine z2 hX ?_; clear hX X)); (first | refine zL fun X hX => ?_ | refine zH fun X hX => ?_ | refine zE fun X hX => ?_ | refine zB fun X hX => ?_ | refine zb ?_ | refine zA fun X hX => ?_ | refine za ?_ | refine zl ?_ | refine zh ?_ | refine ze ?_); try simp only [oweC, oweP, opF, opH, opHW, opFW, ev, evs, evp, evo, Env.get, Env.set, putE, gdst, S0, S1, thenN, inBlockN, argEnv, builtinR, retE, fin, callR, reduceIte, Nat.reduceEqDiff, Nat.reduceAdd, reduceCtorEq, forall_const, Q16])
  refine ⟨by simp only [inI]; omega, ?_⟩
  repeat ((try first | (refine z3 hX ?_; clear hX X) | (refine z2 hX ?_; clear hX X)); (first | refine zL fun X hX => ?_ | refine zH fun X hX => ?_ | refine zE fun X hX => ?_ | refine zB fun X hX => ?_ | refine zb ?_ | refine zA fun X hX => ?_ | refine za ?_ | refine zl ?_ | refine zh ?_ | refine ze ?_); try simp only [oweC, oweP, opF, opH, opHW, opFW, ev, evs, evp, evo, Env.get, Env.set, putE, gdst, S0, S1, thenN, inBlockN, argEnv, builtinR, retE, fin, callR, reduceIte, Nat.reduceEqDiff, Nat.reduceAdd, reduceCtorEq, forall_const, Q16])
  refine ⟨(i + 1, IntKind.i64.wrap (n + IntKind.i64.wrap (1 + wtL e.args 3000 0))), by simp [sub, Env.get], ⟨he2.trans he3, by omega, ?_⟩, by omega⟩
  rw [hwt, hdr, lgL, if_pos hn]
end Go.Proofs.Ytafjfcameabbmaa
