/- Part 6 of 14: G6, G7, G8. -/
import Derived.Test.YtafjfcameabbmaaM5
import Derived.Test.YtafjfcameabbmaaM3
/- The builder: begin.  -/
set_option linter.unusedVariables false
set_option linter.unusedSimpArgs false
namespace Go.Proofs.Vg
open Go Go.RowKit
def fitsC (nds : List Nd) (e : Ev) : Bool :=
  decide (e.call = (nds.length : Int) + 1) && !(decide (e.call = 1) && !decide (e.parent = 0)) && !(decide (1 < e.call) && !decide (stateN nds e.parent = 1))
def newN (e : Ev) : Nd := ⟨e.proc, e.parent, e.at_, [0, 0, 0, 0, 0], e.args, [], [], 0⟩
def begN (nds : List Nd) (e : Ev) : List Nd :=
  if 0 < e.parent then (nds ++ [newN e]).modify (e.parent - 1).toNat (fun d => { d with kids := d.kids ++ [e.call] }) else nds ++ [newN e]
theorem Chg.thn {S T : Nat → Prop} {a b c : World} (h : Chg S a b) (k : Chg T b c) (hs : ∀ i, T i → S i ∨ a.heap.size ≤ i) : Chg S a c := by
  refine ⟨k.os.trans h.os, k.tape.trans h.tape, k.output.trans h.output, Nat.le_trans h.size k.size, fun i hi hn => ?_⟩
  rw [k.block i (Nat.lt_of_lt_of_le hi h.size) (fun ht => by rcases hs i ht with h1 | h1; exact hn h1; omega)]
  exact h.block i hi hn
theorem modify_set {α : Type} (l : List α) (i : Nat) (f : α → α) (x : α) (h : l[i]? = some x) : l.modify i f = l.set i (f x) := by
  have hl := (List.getElem?_eq_some_iff.1 h).1
  apply List.ext_getElem?
  intro j
  rw [List.getElem?_modify, List.getElem?_set]
  by_cases hj : i = j
  · subst hj; rw [h]; simp [hl]
  · simp [hj]
theorem stateN_le {nds : List Nd} {c : Int} (h : stateN nds c ≠ 0) : 1 ≤ c ∧ c ≤ (nds.length : Int) := by
  unfold stateN at h
  split at h
  · rename_i h1
    refine ⟨h1, ?_⟩
    split at h
    · rename_i d hd
      have := (List.getElem?_eq_some_iff.1 hd).1
      omega
    · exact (h rfl).elim
  · exact (h rfl).elim
theorem fitsC_parent {nds : List Nd} {e : Ev} (h : fitsC nds e = true) (hp : 0 < e.parent) : e.parent ≤ (nds.length : Int) ∧ stateN nds e.parent = 1 := by
  simp [fitsC] at h
  obtain ⟨⟨h1, h2⟩, h3⟩ := h
  have hs : stateN nds e.parent = 1 := by
    refine h3.resolve_left (fun hc => ?_)
    have := h2.resolve_left (by omega)
    omega
  exact ⟨(stateN_le (by rw [hs]; decide)).2, hs⟩
end Go.Proofs.Vg
namespace Go.Proofs.Ytafjfcameabbmaa
open Go Go.Proofs.Vg Go.RowKit

-- -- function 63
set_option maxHeartbeats 4000000 in
set_option maxRecDepth 8000 in
theorem tbegin_ok (w : World) (bb : Nat) (S : Nat → Prop) (vn vb : Value) (vks : List Value) (rows : List (List Value)) (nds : List Nd) (busy : List Int) (h : BM w bb S vn vb vks rows nds busy) (hl : nds.length ≤ 1000) (hkl : ∀ d ∈ nds, d.kids.length ≤ 1000) (hS : ∀ k, S k → k < w.heap.size) (hF : ∀ k, BFoot bb vn vb vks k → k < w.heap.size) (r : List Value) (e : Ev) (he : EvRow w S r e) :
    Rets Try.prog 63 [.pointer (some ⟨bb, 0, none⟩), .agg r.toArray] w (fun v w' => v = .bool (fitsC nds e) ∧ (fitsC nds e = false → Ext w w') ∧ (fitsC nds e = true → ∃ vn' vb' vks' rows', BM w' bb S vn' vb' vks' rows' (begN nds e) (busy ++ [0]) ∧ Chg (BFoot bb vn vb vks) w w' ∧ ∀ k, BFoot bb vn' vb' vks' k → BFoot bb vn vb vks k ∨ (w.heap.size ≤ k ∧ k < w'.heap.size))) := by
  obtain ⟨ve, rfl, hve⟩ := he
  obtain ⟨Ae, le, ce, hves⟩ : ∃ Ae le ce, ve = .slice Ae le ce := by
    obtain ⟨-, -, rows0, ⟨Ae, ce, h1, -⟩, -⟩ := id hve
    exact ⟨Ae, _, ce, h1⟩
  subst hves
  obtain ⟨A, cp, hvn⟩ := h.nm.len
  refine rets_of_ok Try.func63 rfl rfl ?_
  refine ok_seq (fun M hM => ok_region rfl ?_)
  repeat ((try first | (refine z3 hX ?_; clear hX X) | (refine z2 hX ?_; clear hX X)); (first | refine zL fun X hX => ?_ | refine zH fun X hX => ?_ | refine zE fun X hX => ?_ | refine zl ?_ | refine zh ?_ | refine ze ?_); try simp only [oweC, oweP, opF, opH, ev, evs, evp, evo, Env.get, Env.set, putE, gdst, S0, S1, thenN, inBlockN, argEnv, builtinR, retE, fin, callR, reduceIte, Nat.reduceEqDiff, Nat.reduceAdd, reduceCtorEq, forall_const, Q63])
  refine Runs.box (fun w1 he1 hz1 hb1 => ?_)
  generalize hB1 : w.heap.size = B1 at hz1 hb1
  simp only [Value.cells] at hb1
  repeat ((try first | (refine z3 hX ?_; clear hX X) | (refine z2 hX ?_; clear hX X)); (first | refine zL fun X hX => ?_ | refine zH fun X hX => ?_ | refine zE fun X hX => ?_ | refine zl ?_ | refine zh ?_ | refine ze ?_); try simp only [oweC, oweP, opF, opH, ev, evs, evp, evo, Env.get, Env.set, putE, gdst, S0, S1, thenN, inBlockN, argEnv, builtinR, retE, fin, callR, reduceIte, Nat.reduceEqDiff, Nat.reduceAdd, reduceCtorEq, forall_const, Q63])
  refine hM _ _ _ ?_; clear hM M
  have h1 := h.ext he1
  have hc0 : ∀ w', Ext w1 w' → w'.cell? ⟨B1, 1, none⟩ = some (.int .i64 e.call) := fun w' hw => (hb1.ext hw).cell rfl
  have hc2 : ∀ w', Ext w1 w' → w'.cell? ⟨B1, 2, none⟩ = some (.int .i64 e.parent) := fun w' hw => (hb1.ext hw).cell rfl
  have hvn0 : ∀ w', Ext w1 w' → w'.cell? ⟨bb, 0, none⟩ = some (.slice A nds.length cp) := fun w' hw => by rw [← hvn]; exact (h1.ext hw).head.cell (j := 0) rfl
  refine ok_join [(0, .pointer (some ⟨bb, 0, none⟩)), (3, .pointer (some ⟨B1, 0, none⟩))] (fun w' => Ext w1 w' ∧ fitsC nds e = true) ?_ ?_
  · refine ok_join [(0, .pointer (some ⟨bb, 0, none⟩)), (3, .pointer (some ⟨B1, 0, none⟩)), (36, .bool (!fitsC nds e))] (fun w' => Ext w1 w') ?_ ?_
    · refine (ok_draw 31 [] (Ext _) Fx.mixed (by decide) rfl (by decide +kernel) (by decide +kernel) (Ext.drew _) ?_)
      repeat ((try first | (refine z3 hX ?_; clear hX X) | (refine z2 hX ?_; clear hX X)); (first | refine zL fun X hX => ?_ | refine zH fun X hX => ?_ | refine zE fun X hX => ?_ | refine zl ?_ | refine zh ?_ | refine ze ?_); try simp only [oweC, oweP, opF, opH, ev, evs, evp, evo, Env.get, Env.set, putE, gdst, S0, S1, thenN, inBlockN, argEnv, builtinR, retE, fin, callR, reduceIte, Nat.reduceEqDiff, Nat.reduceAdd, reduceCtorEq, forall_const, Q63])
      refine ⟨_, hc0, ?_⟩
      repeat ((try first | (refine z3 hX ?_; clear hX X) | (refine z2 hX ?_; clear hX X)); (first | refine zL fun X hX => ?_ | refine zH fun X hX => ?_ | refine zE fun X hX => ?_ | refine zl ?_ | refine zh ?_ | refine ze ?_); try simp only [oweC, oweP, opF, opH, ev, evs, evp, evo, Env.get, Env.set, putE, gdst, S0, S1, thenN, inBlockN, argEnv, builtinR, retE, fin, callR, reduceIte, Nat.reduceEqDiff, Nat.reduceAdd, reduceCtorEq, forall_const, Q63])
      refine ⟨_, hvn0, ?_⟩
      repeat ((try first | (refine z3 hX ?_; clear hX X) | (refine z2 hX ?_; clear hX X)); (first | refine zL fun X hX => ?_ | refine zH fun X hX => ?_ | refine zE fun X hX => ?_ | refine zl ?_ | refine zh ?_ | refine ze ?_); try simp only [oweC, oweP, opF, opH, ev, evs, evp, evo, Env.get, Env.set, putE, gdst, S0, S1, thenN, inBlockN, argEnv, builtinR, retE, fin, callR, reduceIte, Nat.reduceEqDiff, Nat.reduceAdd, reduceCtorEq, forall_const, Q63])
      refine ⟨by simp only [inI]; omega, ?_⟩
      repeat ((try first | (refine z3 hX ?_; clear hX X) | (refine z2 hX ?_; clear hX X)); (first | refine zL fun X hX => ?_ | refine zH fun X hX => ?_ | refine zE fun X hX => ?_ | refine zl ?_ | refine zh ?_ | refine ze ?_); try simp only [oweC, oweP, opF, opH, ev, evs, evp, evo, Env.get, Env.set, putE, gdst, S0, S1, thenN, inBlockN, argEnv, builtinR, retE, fin, callR, reduceIte, Nat.reduceEqDiff, Nat.reduceAdd, reduceCtorEq, forall_const, Q63])
      by_cases hcall : e.call = (nds.length : Int) + 1
      · simp only [hcall, decide_true, Bool.not_true]
        refine ⟨fun _ => ?_, fun h => by cases h⟩
        repeat ((try first | (refine z3 hX ?_; clear hX X) | (refine z2 hX ?_; clear hX X)); (first | refine zL fun X hX => ?_ | refine zH fun X hX => ?_ | refine zE fun X hX => ?_ | refine zl ?_ | refine zh ?_ | refine ze ?_); try simp only [oweC, oweP, opF, opH, ev, evs, evp, evo, Env.get, Env.set, putE, gdst, S0, S1, thenN, inBlockN, argEnv, builtinR, retE, fin, callR, reduceIte, Nat.reduceEqDiff, Nat.reduceAdd, reduceCtorEq, forall_const, Q63])
        refine ⟨.int .i64 e.call, hc0, ?_⟩
        repeat ((try first | (refine z3 hX ?_; clear hX X) | (refine z2 hX ?_; clear hX X)); (first | refine zL fun X hX => ?_ | refine zH fun X hX => ?_ | refine zE fun X hX => ?_ | refine zl ?_ | refine zh ?_ | refine ze ?_); try simp only [oweC, oweP, opF, opH, ev, evs, evp, evo, Env.get, Env.set, putE, gdst, S0, S1, thenN, inBlockN, argEnv, builtinR, retE, fin, callR, reduceIte, Nat.reduceEqDiff, Nat.reduceAdd, reduceCtorEq, forall_const, Q63])
        refine ⟨fun hh => ?_, fun hh => ?_⟩
        · have hone : e.call = 1 := by simpa using hh
          repeat ((try first | (refine z3 hX ?_; clear hX X) | (refine z2 hX ?_; clear hX X)); (first | refine zL fun X hX => ?_ | refine zH fun X hX => ?_ | refine zE fun X hX => ?_ | refine zl ?_ | refine zh ?_ | refine ze ?_); try simp only [oweC, oweP, opF, opH, ev, evs, evp, evo, Env.get, Env.set, putE, gdst, S0, S1, thenN, inBlockN, argEnv, builtinR, retE, fin, callR, reduceIte, Nat.reduceEqDiff, Nat.reduceAdd, reduceCtorEq, forall_const, Q63])
          refine ⟨_, hc2, ?_⟩
          simp only [hone, decide_true]
          repeat ((try first | (refine z3 hX ?_; clear hX X) | (refine z2 hX ?_; clear hX X)); (first | refine zL fun X hX => ?_ | refine zH fun X hX => ?_ | refine zE fun X hX => ?_ | refine zl ?_ | refine zh ?_ | refine ze ?_); try simp only [oweC, oweP, opF, opH, ev, evs, evp, evo, Env.get, Env.set, putE, gdst, S0, S1, thenN, inBlockN, argEnv, builtinR, retE, fin, callR, reduceIte, Nat.reduceEqDiff, Nat.reduceAdd, reduceCtorEq, forall_const, Q63])
          by_cases hp0 : e.parent = 0
          · simp only [hp0, decide_true, Bool.not_true]
            repeat ((try first | (refine z3 hX ?_; clear hX X) | (refine z2 hX ?_; clear hX X)); (first | refine zL fun X hX => ?_ | refine zH fun X hX => ?_ | refine zE fun X hX => ?_ | refine zl ?_ | refine zh ?_ | refine ze ?_); try simp only [oweC, oweP, opF, opH, ev, evs, evp, evo, Env.get, Env.set, putE, gdst, S0, S1, thenN, inBlockN, argEnv, builtinR, retE, fin, callR, reduceIte, Nat.reduceEqDiff, Nat.reduceAdd, reduceCtorEq, forall_const, Q63])
            refine ⟨fun _ => ?_, fun h => by cases h⟩
            repeat ((try first | (refine z3 hX ?_; clear hX X) | (refine z2 hX ?_; clear hX X)); (first | refine zL fun X hX => ?_ | refine zH fun X hX => ?_ | refine zE fun X hX => ?_ | refine zl ?_ | refine zh ?_ | refine ze ?_); try simp only [oweC, oweP, opF, opH, ev, evs, evp, evo, Env.get, Env.set, putE, gdst, S0, S1, thenN, inBlockN, argEnv, builtinR, retE, fin, callR, reduceIte, Nat.reduceEqDiff, Nat.reduceAdd, reduceCtorEq, forall_const, Q63])
            refine ⟨.int .i64 e.call, hc0, ?_⟩
            simp only [hone]
            repeat ((try first | (refine z3 hX ?_; clear hX X) | (refine z2 hX ?_; clear hX X)); (first | refine zL fun X hX => ?_ | refine zH fun X hX => ?_ | refine zE fun X hX => ?_ | refine zl ?_ | refine zh ?_ | refine ze ?_); try simp only [oweC, oweP, opF, opH, ev, evs, evp, evo, Env.get, Env.set, putE, gdst, S0, S1, thenN, inBlockN, argEnv, builtinR, retE, fin, callR, reduceIte, Nat.reduceEqDiff, Nat.reduceAdd, reduceCtorEq, forall_const, Q63])
            refine ⟨fun h => by simp at h, fun _ => ?_⟩
            repeat ((try first | (refine z3 hX ?_; clear hX X) | (refine z2 hX ?_; clear hX X)); (first | refine zL fun X hX => ?_ | refine zH fun X hX => ?_ | refine zE fun X hX => ?_ | refine zl ?_ | refine zh ?_ | refine ze ?_); try simp only [oweC, oweP, opF, opH, ev, evs, evp, evo, Env.get, Env.set, putE, gdst, S0, S1, thenN, inBlockN, argEnv, builtinR, retE, fin, callR, reduceIte, Nat.reduceEqDiff, Nat.reduceAdd, reduceCtorEq, forall_const, Q63])
            intro w2 he2
            repeat ((try first | (refine z3 hX ?_; clear hX X) | (refine z2 hX ?_; clear hX X)); (first | refine zL fun X hX => ?_ | refine zH fun X hX => ?_ | refine zE fun X hX => ?_ | refine zl ?_ | refine zh ?_ | refine ze ?_); try simp only [oweC, oweP, opF, opH, ev, evs, evp, evo, Env.get, Env.set, putE, gdst, S0, S1, thenN, inBlockN, argEnv, builtinR, retE, fin, callR, reduceIte, Nat.reduceEqDiff, Nat.reduceAdd, reduceCtorEq, forall_const, Q63])
            simp [sub, Env.get, fitsC, hcall, hp0, he2, hone]
            omega
          · simp only [hp0, decide_false, Bool.not_false]
            repeat ((try first | (refine z3 hX ?_; clear hX X) | (refine z2 hX ?_; clear hX X)); (first | refine zL fun X hX => ?_ | refine zH fun X hX => ?_ | refine zE fun X hX => ?_ | refine zl ?_ | refine zh ?_ | refine ze ?_); try simp only [oweC, oweP, opF, opH, ev, evs, evp, evo, Env.get, Env.set, putE, gdst, S0, S1, thenN, inBlockN, argEnv, builtinR, retE, fin, callR, reduceIte, Nat.reduceEqDiff, Nat.reduceAdd, reduceCtorEq, forall_const, Q63])
            refine ⟨fun h => (by cases h), fun _ => ?_⟩
            repeat ((try first | (refine z3 hX ?_; clear hX X) | (refine z2 hX ?_; clear hX X)); (first | refine zL fun X hX => ?_ | refine zH fun X hX => ?_ | refine zE fun X hX => ?_ | refine zl ?_ | refine zh ?_ | refine ze ?_); try simp only [oweC, oweP, opF, opH, ev, evs, evp, evo, Env.get, Env.set, putE, gdst, S0, S1, thenN, inBlockN, argEnv, builtinR, retE, fin, callR, reduceIte, Nat.reduceEqDiff, Nat.reduceAdd, reduceCtorEq, forall_const, Q63])
            intro w2 he2
            repeat ((try first | (refine z3 hX ?_; clear hX X) | (refine z2 hX ?_; clear hX X)); (first | refine zL fun X hX => ?_ | refine zH fun X hX => ?_ | refine zE fun X hX => ?_ | refine zl ?_ | refine zh ?_ | refine ze ?_); try simp only [oweC, oweP, opF, opH, ev, evs, evp, evo, Env.get, Env.set, putE, gdst, S0, S1, thenN, inBlockN, argEnv, builtinR, retE, fin, callR, reduceIte, Nat.reduceEqDiff, Nat.reduceAdd, reduceCtorEq, forall_const, Q63])
            simp [sub, Env.get, fitsC, hp0, he2, hone]
        · have hone : ¬ e.call = 1 := by simpa using hh
          simp only [hone, decide_false]
          repeat ((try first | (refine z3 hX ?_; clear hX X) | (refine z2 hX ?_; clear hX X)); (first | refine zL fun X hX => ?_ | refine zH fun X hX => ?_ | refine zE fun X hX => ?_ | refine zl ?_ | refine zh ?_ | refine ze ?_); try simp only [oweC, oweP, opF, opH, ev, evs, evp, evo, Env.get, Env.set, putE, gdst, S0, S1, thenN, inBlockN, argEnv, builtinR, retE, fin, callR, reduceIte, Nat.reduceEqDiff, Nat.reduceAdd, reduceCtorEq, forall_const, Q63])
          refine ⟨.int .i64 e.call, hc0, ?_⟩
          repeat ((try first | (refine z3 hX ?_; clear hX X) | (refine z2 hX ?_; clear hX X)); (first | refine zL fun X hX => ?_ | refine zH fun X hX => ?_ | refine zE fun X hX => ?_ | refine zl ?_ | refine zh ?_ | refine ze ?_); try simp only [oweC, oweP, opF, opH, ev, evs, evp, evo, Env.get, Env.set, putE, gdst, S0, S1, thenN, inBlockN, argEnv, builtinR, retE, fin, callR, reduceIte, Nat.reduceEqDiff, Nat.reduceAdd, reduceCtorEq, forall_const, Q63])
          refine ⟨fun hh => ?_, fun hh => ?_⟩
          · have hgt : 1 < e.call := by simpa using hh
            repeat ((try first | (refine z3 hX ?_; clear hX X) | (refine z2 hX ?_; clear hX X)); (first | refine zL fun X hX => ?_ | refine zH fun X hX => ?_ | refine zE fun X hX => ?_ | refine zl ?_ | refine zh ?_ | refine ze ?_); try simp only [oweC, oweP, opF, opH, ev, evs, evp, evo, Env.get, Env.set, putE, gdst, S0, S1, thenN, inBlockN, argEnv, builtinR, retE, fin, callR, reduceIte, Nat.reduceEqDiff, Nat.reduceAdd, reduceCtorEq, forall_const, Q63])
            refine ⟨_, hc2, ?_⟩
            simp only [hgt, decide_true]
            repeat ((try first | (refine z3 hX ?_; clear hX X) | (refine z2 hX ?_; clear hX X)); (first | refine zL fun X hX => ?_ | refine zH fun X hX => ?_ | refine zE fun X hX => ?_ | refine zl ?_ | refine zh ?_ | refine ze ?_); try simp only [oweC, oweP, opF, opH, ev, evs, evp, evo, Env.get, Env.set, putE, gdst, S0, S1, thenN, inBlockN, argEnv, builtinR, retE, fin, callR, reduceIte, Nat.reduceEqDiff, Nat.reduceAdd, reduceCtorEq, forall_const, Q63])
            refine ⟨.int .i64 (stateN nds e.parent), fun w' hw => Inv.call Fx.en65 (state_ok w' bb S vn vb vks rows nds busy (h1.ext hw) (by omega) e.parent) (fun v w6 ⟨a, b⟩ => ⟨a, by rw [b]; exact hw⟩), ?_⟩
            repeat ((try first | (refine z3 hX ?_; clear hX X) | (refine z2 hX ?_; clear hX X)); (first | refine zL fun X hX => ?_ | refine zH fun X hX => ?_ | refine zE fun X hX => ?_ | refine zl ?_ | refine zh ?_ | refine ze ?_); try simp only [oweC, oweP, opF, opH, ev, evs, evp, evo, Env.get, Env.set, putE, gdst, S0, S1, thenN, inBlockN, argEnv, builtinR, retE, fin, callR, reduceIte, Nat.reduceEqDiff, Nat.reduceAdd, reduceCtorEq, forall_const, Q63])
            intro w2 he2
            repeat ((try first | (refine z3 hX ?_; clear hX X) | (refine z2 hX ?_; clear hX X)); (first | refine zL fun X hX => ?_ | refine zH fun X hX => ?_ | refine zE fun X hX => ?_ | refine zl ?_ | refine zh ?_ | refine ze ?_); try simp only [oweC, oweP, opF, opH, ev, evs, evp, evo, Env.get, Env.set, putE, gdst, S0, S1, thenN, inBlockN, argEnv, builtinR, retE, fin, callR, reduceIte, Nat.reduceEqDiff, Nat.reduceAdd, reduceCtorEq, forall_const, Q63])
            by_cases hst : stateN nds e.parent = 1 <;> simp [sub, Env.get, fitsC, hcall, he2, hone, hgt, hst] <;> omega
          · have hgt : ¬ 1 < e.call := by simpa using hh
            omega
      · simp only [hcall, decide_false, Bool.not_false]
        refine ⟨fun h => (by cases h), fun _ => ?_⟩
        repeat ((try first | (refine z3 hX ?_; clear hX X) | (refine z2 hX ?_; clear hX X)); (first | refine zL fun X hX => ?_ | refine zH fun X hX => ?_ | refine zE fun X hX => ?_ | refine zl ?_ | refine zh ?_ | refine ze ?_); try simp only [oweC, oweP, opF, opH, ev, evs, evp, evo, Env.get, Env.set, putE, gdst, S0, S1, thenN, inBlockN, argEnv, builtinR, retE, fin, callR, reduceIte, Nat.reduceEqDiff, Nat.reduceAdd, reduceCtorEq, forall_const, Q63])
        intro w2 he2
        repeat ((try first | (refine z3 hX ?_; clear hX X) | (refine z2 hX ?_; clear hX X)); (first | refine zL fun X hX => ?_ | refine zH fun X hX => ?_ | refine zE fun X hX => ?_ | refine zl ?_ | refine zh ?_ | refine ze ?_); try simp only [oweC, oweP, opF, opH, ev, evs, evp, evo, Env.get, Env.set, putE, gdst, S0, S1, thenN, inBlockN, argEnv, builtinR, retE, fin, callR, reduceIte, Nat.reduceEqDiff, Nat.reduceAdd, reduceCtorEq, forall_const, Q63])
        simp [sub, Env.get, fitsC, hcall, he2]
    intro w2 he2
    cases hf : fitsC nds e with
    | false =>
      refine ok_cond (b := true) rfl (fun _ => ?_) (fun h => by cases h)
      refine ok_seq (fun M hM => ok_region rfl ?_); repeat ((try first | (refine z3 hX ?_; clear hX X) | (refine z2 hX ?_; clear hX X)); (first | refine zL fun X hX => ?_ | refine zH fun X hX => ?_ | refine zE fun X hX => ?_ | refine zl ?_ | refine zh ?_ | refine ze ?_); try simp only [oweC, oweP, opF, opH, ev, evs, evp, evo, Env.get, Env.set, putE, gdst, S0, S1, thenN, inBlockN, argEnv, builtinR, retE, fin, callR, reduceIte, Nat.reduceEqDiff, Nat.reduceAdd, reduceCtorEq, forall_const, Q63])
      refine hM _ _ _ ?_; clear hM M
      refine ok_ret ?_
      try simp only [wpL, wpH, wpE, oweC, oweP, opF, opH, ev, evs, evp, evo, Env.get, Env.set, putE, gdst, S0, S1, thenN, inBlockN, argEnv, builtinR, retE, fin, callR, reduceIte, Nat.reduceEqDiff, Nat.reduceAdd, reduceCtorEq, forall_const, Q63]
      exact he1.trans he2
    | true =>
      refine ok_cond (b := false) rfl (fun h => by cases h) (fun _ => ok_skip ?_)
      try simp only [wpL, wpH, wpE, oweC, oweP, opF, opH, ev, evs, evp, evo, Env.get, Env.set, putE, gdst, S0, S1, thenN, inBlockN, argEnv, builtinR, retE, fin, callR, reduceIte, Nat.reduceEqDiff, Nat.reduceAdd, reduceCtorEq, forall_const, Q63]
      exact ⟨by simp [sub, Env.get], he2⟩
  rintro w2 ⟨he2, hfit⟩
  rw [hfit]
  have he02 := he1.trans he2
  have h2 := h.ext he02
  have hs02 := he02.size
  have hb12 := hb1.ext he2
  have hl1 := hb12.lt
  have hBl : w.heap.size ≤ B1 := by omega
  -- the new call
  refine ok_seq (fun M hM => (ok_draw 14 [(true, false), (false, false), (false, true), (false, true), (false, true)] (Ext _) Fx.mixed (by decide) rfl (by decide +kernel) (by decide +kernel) (Ext.drew _) ?_))
  repeat ((try first | (refine z3 hX ?_; clear hX X) | (refine z2 hX ?_; clear hX X)); (first | refine zL fun X hX => ?_ | refine zH fun X hX => ?_ | refine zE fun X hX => ?_ | refine zl ?_ | refine zh ?_ | refine ze ?_); try simp only [oweC, oweP, opF, opH, ev, evs, evp, evo, Env.get, Env.set, putE, gdst, S0, S1, thenN, inBlockN, argEnv, builtinR, retE, fin, callR, reduceIte, Nat.reduceEqDiff, Nat.reduceAdd, reduceCtorEq, forall_const, Q63])
  refine ⟨_, fun w' hw => by have := (h2.ext hw).head.cell (j := 0) (u := vn) rfl; rw [hvn] at this; exact this, ?_⟩
  repeat ((try first | (refine z3 hX ?_; clear hX X) | (refine z2 hX ?_; clear hX X)); (first | refine zL fun X hX => ?_ | refine zH fun X hX => ?_ | refine zE fun X hX => ?_ | refine zl ?_ | refine zh ?_ | refine ze ?_); try simp only [oweC, oweP, opF, opH, ev, evs, evp, evo, Env.get, Env.set, putE, gdst, S0, S1, thenN, inBlockN, argEnv, builtinR, retE, fin, callR, reduceIte, Nat.reduceEqDiff, Nat.reduceAdd, reduceCtorEq, forall_const, Q63])
  refine ⟨_, fun w' hw => (hb12.ext hw).cell (j := 3) rfl, ?_⟩
  repeat ((try first | (refine z3 hX ?_; clear hX X) | (refine z2 hX ?_; clear hX X)); (first | refine zL fun X hX => ?_ | refine zH fun X hX => ?_ | refine zE fun X hX => ?_ | refine zl ?_ | refine zh ?_ | refine ze ?_); try simp only [oweC, oweP, opF, opH, ev, evs, evp, evo, Env.get, Env.set, putE, gdst, S0, S1, thenN, inBlockN, argEnv, builtinR, retE, fin, callR, reduceIte, Nat.reduceEqDiff, Nat.reduceAdd, reduceCtorEq, forall_const, Q63])
  refine ⟨_, fun w' hw => (hb12.ext hw).cell (j := 2) rfl, ?_⟩
  repeat ((try first | (refine z3 hX ?_; clear hX X) | (refine z2 hX ?_; clear hX X)); (first | refine zL fun X hX => ?_ | refine zH fun X hX => ?_ | refine zE fun X hX => ?_ | refine zl ?_ | refine zh ?_ | refine ze ?_); try simp only [oweC, oweP, opF, opH, ev, evs, evp, evo, Env.get, Env.set, putE, gdst, S0, S1, thenN, inBlockN, argEnv, builtinR, retE, fin, callR, reduceIte, Nat.reduceEqDiff, Nat.reduceAdd, reduceCtorEq, forall_const, Q63])
  refine ⟨_, fun w' hw => (hb12.ext hw).cell (j := 4) rfl, ?_⟩
  repeat ((try first | (refine z3 hX ?_; clear hX X) | (refine z2 hX ?_; clear hX X)); (first | refine zL fun X hX => ?_ | refine zH fun X hX => ?_ | refine zE fun X hX => ?_ | refine zl ?_ | refine zh ?_ | refine ze ?_); try simp only [oweC, oweP, opF, opH, ev, evs, evp, evo, Env.get, Env.set, putE, gdst, S0, S1, thenN, inBlockN, argEnv, builtinR, retE, fin, callR, reduceIte, Nat.reduceEqDiff, Nat.reduceAdd, reduceCtorEq, forall_const, Q63])
  refine ⟨_, fun w' hw => (hb12.ext hw).cell (j := 5) rfl, ?_⟩
  repeat ((try first | (refine z3 hX ?_; clear hX X) | (refine z2 hX ?_; clear hX X)); (first | refine zL fun X hX => ?_ | refine zH fun X hX => ?_ | refine zE fun X hX => ?_ | refine zl ?_ | refine zh ?_ | refine ze ?_); try simp only [oweC, oweP, opF, opH, ev, evs, evp, evo, Env.get, Env.set, putE, gdst, S0, S1, thenN, inBlockN, argEnv, builtinR, retE, fin, callR, reduceIte, Nat.reduceEqDiff, Nat.reduceAdd, reduceCtorEq, forall_const, Q63])
  refine ⟨_, fun w' _ => run_build (P := Try.prog) w' 79 _ ((newN e).row (.slice Ae le ce) (.slice none 0 0) (.slice none 0 0)).toArray (by kernel_rfl), ?_⟩
  repeat ((try first | (refine z3 hX ?_; clear hX X) | (refine z2 hX ?_; clear hX X)); (first | refine zL fun X hX => ?_ | refine zH fun X hX => ?_ | refine zE fun X hX => ?_ | refine zl ?_ | refine zh ?_ | refine ze ?_); try simp only [oweC, oweP, opF, opH, ev, evs, evp, evo, Env.get, Env.set, putE, gdst, S0, S1, thenN, inBlockN, argEnv, builtinR, retE, fin, callR, reduceIte, Nat.reduceEqDiff, Nat.reduceAdd, reduceCtorEq, forall_const, Q63])
  intro w3 he3
  repeat ((try first | (refine z3 hX ?_; clear hX X) | (refine z2 hX ?_; clear hX X)); (first | refine zL fun X hX => ?_ | refine zH fun X hX => ?_ | refine zE fun X hX => ?_ | refine zl ?_ | refine zh ?_ | refine ze ?_); try simp only [oweC, oweP, opF, opH, ev, evs, evp, evo, Env.get, Env.set, putE, gdst, S0, S1, thenN, inBlockN, argEnv, builtinR, retE, fin, callR, reduceIte, Nat.reduceEqDiff, Nat.reduceAdd, reduceCtorEq, forall_const, Q63])
  refine Runs.lit (cs := (newN e).row (.slice Ae le ce) (.slice none 0 0) (.slice none 0 0)) Fx.un73 Fx.zi79 (by decide) (by kernel_rfl) (by decide) (fun w4 he4 hs4 hb4 => ?_)
  refine ⟨he3.trans he4, ?_⟩
  repeat ((try first | (refine z3 hX ?_; clear hX X) | (refine z2 hX ?_; clear hX X)); (first | refine zL fun X hX => ?_ | refine zH fun X hX => ?_ | refine zE fun X hX => ?_ | refine zl ?_ | refine zh ?_ | refine ze ?_); try simp only [oweC, oweP, opF, opH, ev, evs, evp, evo, Env.get, Env.set, putE, gdst, S0, S1, thenN, inBlockN, argEnv, builtinR, retE, fin, callR, reduceIte, Nat.reduceEqDiff, Nat.reduceAdd, reduceCtorEq, forall_const, Q63])
  have he24 := he3.trans he4
  have h4 := h2.ext he24
  have hs24 := he24.size
  have hone : ∀ u ∈ (newN e).row (.slice Ae le ce) (.slice none 0 0) (.slice none 0 0), u.oneCell' = true := by
    intro u hu
    simp [Nd.row, newN, ivs] at hu
    rcases hu with rfl | rfl | rfl | rfl | rfl | rfl | rfl <;> rfl
  refine Runs.append1' Fx.un73 Fx.zi79 rfl (by decide) (hvn ▸ h4.nm.own) hb4 rfl hone (by simp [maxLen]; omega) (by omega) (by omega) (fun vn2 w5 hown5 hg5 hblk5 => ?_)
  have hc5 : Chg (fun k => vn.ownBlock = some k) w4 w5 := by rw [hvn]; exact grown_chg hg5
  have hnb : ∀ k, vn2.ownBlock = some k → vn.ownBlock = some k ∨ w4.heap.size ≤ k := fun k hk => by
    rcases hblk5 with h' | h'
    · exact .inl (by rw [hvn]; exact h' ▸ hk)
    · rw [h'] at hk; cases hk; exact .inr (Nat.le_refl _)
  have hS4 : ∀ k, S k → k < w4.heap.size := fun k hk => by have := hS k hk; omega
  have hS5 : ∀ k, S k → ¬ vn.ownBlock = some k := fun k hk e => (h.nm.top k e).1 hk
  have hnm5 := h4.nm.push (vn' := vn2) (d := newN e) (va := .slice Ae le ce) (vl := .slice none 0 0) hS4 hc5 hown5 hnb rfl rfl ((hve.chg ((he02.trans he24).chg (fun _ => False)) (fun k hk => ⟨hk, id⟩)).chg hc5 (fun k hk => ⟨hk, hS5 k hk⟩)) (VSlS.nil _ _)
  have hs5 := hc5.size
  have hbbl := hF bb (.inl rfl)
  have hvbl : ∀ k, vb.ownBlock = some k → k < w.heap.size := fun k hk => hF k (.inr (.inl hk))
  have hvnl : ∀ k, vn.ownBlock = some k → k < w.heap.size := fun k hk => hF k (.inr (.inr (.inl hk)))
  have hhead5 : Blk w5 bb [vn, vb] 98 := h4.head.chg hc5 (fun e => h.hn (.inl e))
  have hvn2 : vn2.oneCell' = true ∧ vn2.cells = #[vn2] := by
    rcases hown5.2 with ⟨rfl, _⟩ | ⟨g, cap, cur, rfl, _⟩ <;> exact ⟨rfl, rfl⟩
  repeat ((try first | (refine z3 hX ?_; clear hX X) | (refine z2 hX ?_; clear hX X)); (first | refine zL fun X hX => ?_ | refine zH fun X hX => ?_ | refine zE fun X hX => ?_ | refine zl ?_ | refine zh ?_ | refine ze ?_); try simp only [oweC, oweP, opF, opH, ev, evs, evp, evo, Env.get, Env.set, putE, gdst, S0, S1, thenN, inBlockN, argEnv, builtinR, retE, fin, callR, reduceIte, Nat.reduceEqDiff, Nat.reduceAdd, reduceCtorEq, forall_const, Q63])
  refine Runs.store hhead5 Fx.zi73 (by rw [hvn2.2]; rfl) (by rw [hvn2.2]; intro u hu; simp at hu; subst hu; exact hvn2.1) (by simp) (fun w6 hc6 hs6 hb6 => ?_)
  rw [hvn2.2] at hb6
  simp only [splice, List.take_zero, List.nil_append, List.singleton_append, List.length_singleton, Nat.zero_add, List.drop_succ_cons, List.drop_zero] at hb6
  repeat ((try first | (refine z3 hX ?_; clear hX X) | (refine z2 hX ?_; clear hX X)); (first | refine zL fun X hX => ?_ | refine zH fun X hX => ?_ | refine zE fun X hX => ?_ | refine zl ?_ | refine zh ?_ | refine ze ?_); try simp only [oweC, oweP, opF, opH, ev, evs, evp, evo, Env.get, Env.set, putE, gdst, S0, S1, thenN, inBlockN, argEnv, builtinR, retE, fin, callR, reduceIte, Nat.reduceEqDiff, Nat.reduceAdd, reduceCtorEq, forall_const, Q63])
  refine hM _ _ _ ?_; clear hM M
  have hvbn : ∀ k, vb.ownBlock = some k → ¬ vn.ownBlock = some k := fun k hk hk' => (h.bs k hk).2.2 (.inl hk')
  have hbz6 := owns_chg' (owns_chg' h4.bz hc5 (fun k hk e => hvbn k hk e)) hc6 (fun k hk e => (h.bs k hk).2.1 e)
  obtain ⟨Ab, cb, hvb⟩ : ∃ Ab cb, vb = .slice Ab nds.length cb := by
    rcases h.bz.2 with ⟨h1, h2⟩ | ⟨g, cap, cur, h1, _⟩
    · exact ⟨none, 0, by rw [h1, h2]⟩
    · exact ⟨_, _, h1⟩
  refine ok_seq (fun M hM => ok_region rfl ?_)
  repeat ((try first | (refine z3 hX ?_; clear hX X) | (refine z2 hX ?_; clear hX X)); (first | refine zL fun X hX => ?_ | refine zH fun X hX => ?_ | refine zE fun X hX => ?_ | refine zl ?_ | refine zh ?_ | refine ze ?_); try simp only [oweC, oweP, opF, opH, ev, evs, evp, evo, Env.get, Env.set, putE, gdst, S0, S1, thenN, inBlockN, argEnv, builtinR, retE, fin, callR, reduceIte, Nat.reduceEqDiff, Nat.reduceAdd, reduceCtorEq, forall_const, Q63])
  refine ⟨_, hb6.cell (j := 1) rfl, ?_⟩
  repeat ((try first | (refine z3 hX ?_; clear hX X) | (refine z2 hX ?_; clear hX X)); (first | refine zL fun X hX => ?_ | refine zH fun X hX => ?_ | refine zE fun X hX => ?_ | refine zl ?_ | refine zh ?_ | refine ze ?_); try simp only [oweC, oweP, opF, opH, ev, evs, evp, evo, Env.get, Env.set, putE, gdst, S0, S1, thenN, inBlockN, argEnv, builtinR, retE, fin, callR, reduceIte, Nat.reduceEqDiff, Nat.reduceAdd, reduceCtorEq, forall_const, Q63])
  refine Runs.lit (cs := [.int .i64 0]) Fx.un26 Fx.zi3 (by decide) (by kernel_rfl) (by decide) (fun w7 he7 hs7 hb7 => ?_)
  repeat ((try first | (refine z3 hX ?_; clear hX X) | (refine z2 hX ?_; clear hX X)); (first | refine zL fun X hX => ?_ | refine zH fun X hX => ?_ | refine zE fun X hX => ?_ | refine zl ?_ | refine zh ?_ | refine ze ?_); try simp only [oweC, oweP, opF, opH, ev, evs, evp, evo, Env.get, Env.set, putE, gdst, S0, S1, thenN, inBlockN, argEnv, builtinR, retE, fin, callR, reduceIte, Nat.reduceEqDiff, Nat.reduceAdd, reduceCtorEq, forall_const, Q63])
  have hbz7 := owns_chg' hbz6 (he7.chg (fun _ => False)) (fun _ _ h => h)
  refine Runs.append1' Fx.un26 Fx.zi3 rfl (by decide) hbz7 hb7 rfl (by intro u hu; simp at hu; subst hu; rfl) (by simp [maxLen]; omega) (by omega) (by omega) (fun vb2 w8 hown8 hg8 hblk8 => ?_)
  have hc8 := grown_chg hg8
  have hs8 := hc8.size
  have hvb2 : vb2.oneCell' = true ∧ vb2.cells = #[vb2] := by
    rcases hown8.2 with ⟨rfl, _⟩ | ⟨g, cap, cur, rfl, _⟩ <;> exact ⟨rfl, rfl⟩
  have hhead8 : Blk w8 bb [vn2, vb] 98 := (hb6.ext he7).chg hc8 (fun e => (h.bs bb e).2.1 rfl)
  repeat ((try first | (refine z3 hX ?_; clear hX X) | (refine z2 hX ?_; clear hX X)); (first | refine zL fun X hX => ?_ | refine zH fun X hX => ?_ | refine zE fun X hX => ?_ | refine zl ?_ | refine zh ?_ | refine ze ?_); try simp only [oweC, oweP, opF, opH, ev, evs, evp, evo, Env.get, Env.set, putE, gdst, S0, S1, thenN, inBlockN, argEnv, builtinR, retE, fin, callR, reduceIte, Nat.reduceEqDiff, Nat.reduceAdd, reduceCtorEq, forall_const, Q63])
  refine Runs.store hhead8 Fx.zi26 (by rw [hvb2.2]; rfl) (by rw [hvb2.2]; intro u hu; simp at hu; subst hu; exact hvb2.1) (by simp) (fun w9 hc9 hs9 hb9 => ?_)
  rw [hvb2.2] at hb9
  simp only [splice, List.take_succ_cons, List.take_zero, List.cons_append, List.nil_append, List.length_singleton, Nat.reduceAdd, List.drop_succ_cons, List.drop_zero, List.append_nil, List.drop_nil] at hb9
  repeat ((try first | (refine z3 hX ?_; clear hX X) | (refine z2 hX ?_; clear hX X)); (first | refine zL fun X hX => ?_ | refine zH fun X hX => ?_ | refine zE fun X hX => ?_ | refine zl ?_ | refine zh ?_ | refine ze ?_); try simp only [oweC, oweP, opF, opH, ev, evs, evp, evo, Env.get, Env.set, putE, gdst, S0, S1, thenN, inBlockN, argEnv, builtinR, retE, fin, callR, reduceIte, Nat.reduceEqDiff, Nat.reduceAdd, reduceCtorEq, forall_const, Q63])
  refine hM _ _ _ ?_; clear hM M
  have hs9' := hc9.size
  have hNF : ∀ k, NFoot vn2 (vks ++ [.slice none 0 0]) k → NFoot vn vks k ∨ (w4.heap.size ≤ k ∧ k < w5.heap.size) := fun k hk => by
    rcases hk with hk | ⟨i, v, hi, hk⟩
    · rcases hnb k hk with h' | h'
      · exact .inl (.inl h')
      · exact .inr ⟨h', (hown5.lt k hk).2⟩
    · rcases Nat.lt_or_ge i vks.length with h' | h'
      · rw [List.getElem?_append_left h'] at hi
        exact .inl (.inr ⟨i, v, hi, hk⟩)
      · rw [List.getElem?_append_right h'] at hi
        have h3 := List.mem_of_getElem? hi
        simp at h3; subst h3
        simp [Value.ownBlock] at hk
  have hNFl : ∀ k, NFoot vn vks k → k < w.heap.size := fun k hk => hF k (.inr (.inr hk))
  have hvbl2 : ∀ k, vb2.ownBlock = some k → vb.ownBlock = some k ∨ (w7.heap.size ≤ k ∧ k < w8.heap.size) := fun k hk => by
    rcases hblk8 with h' | h'
    · exact .inl (h' ▸ hk)
    · have := (hown8.lt k hk).2
      rw [h'] at hk; cases hk; exact .inr ⟨Nat.le_refl _, this⟩
  have hc59 : Chg (fun k => k = bb ∨ vb.ownBlock = some k) w5 w9 := (hc6.mono fun k _ h => .inl h).trans ((he7.chg _).trans ((hc8.mono fun k _ h => .inr h).trans (hc9.mono fun k _ h => .inl h)))
  have hnm9 : NM w9 79 S vn2 (vks ++ [.slice none 0 0]) (rows ++ [(newN e).row (.slice Ae le ce) (.slice none 0 0) (.slice none 0 0)]) (nds ++ [newN e]) := by
    refine hnm5.chg hc59 (fun k hk hh => ?_) (fun k hk hh => ?_)
    · rcases hNF k hk with h1 | h1
      · rcases hh with hh | hh
        · exact h.hn (hh ▸ h1)
        · exact (h.bs k hh).2.2 h1
      · rcases hh with hh | hh
        · omega
        · have := hvbl k hh; omega
    · rcases hh with hh | hh
      · exact h.hs (hh ▸ hk)
      · exact (h.bs k hh).1 hk
  have hBM9 : BM w9 bb S vn2 vb2 (vks ++ [.slice none 0 0]) (rows ++ [(newN e).row (.slice Ae le ce) (.slice none 0 0) (.slice none 0 0)]) (nds ++ [newN e]) (busy ++ [0]) := by
    refine ⟨hb9, hnm9, ?_, by simp [h.lb], h.hs, fun hk => ?_, fun k hk => ⟨fun hs => ?_, fun hk' => ?_, fun hk' => ?_⟩⟩
    · have := owns_chg' hown8 hc9 (fun k hk e => by
        rcases hvbl2 k hk with h1 | h1
        · exact (h.bs k h1).2.1 e
        · omega)
      simpa [ivs] using this
    · rcases hNF bb hk with h1 | h1
      · exact h.hn h1
      · omega
    · rcases hvbl2 k hk with h1 | h1
      · exact (h.bs k h1).1 hs
      · have := hS k hs; omega
    · rcases hvbl2 k hk with h1 | h1
      · exact (h.bs k h1).2.1 hk'
      · omega
    · rcases hvbl2 k hk with h1 | h1
      · rcases hNF k hk' with h3 | h3
        · exact (h.bs k h1).2.2 h3
        · have := hvbl k h1; omega
      · rcases hNF k hk' with h3 | h3
        · have := hNFl k h3; omega
        · omega
  have hBF9 : ∀ k, BFoot bb vn2 vb2 (vks ++ [.slice none 0 0]) k → BFoot bb vn vb vks k ∨ (w.heap.size ≤ k ∧ k < w9.heap.size) := fun k hk => by
    rcases hk with hk | hk | hk
    · exact .inl (.inl hk)
    · rcases hvbl2 k hk with h1 | h1
      · exact .inl (.inr (.inl h1))
      · exact .inr (by omega)
    · rcases hNF k hk with h1 | h1
      · exact .inl (.inr (.inr h1))
      · exact .inr (by omega)
  have hcW9 : Chg (BFoot bb vn vb vks) w w9 := ((he02.trans he24).chg _).trans ((hc5.mono fun k _ hk => .inr (.inr (.inl hk))).trans (hc59.mono fun k _ hk => by rcases hk with hk | hk; exact .inl hk; exact .inr (.inl hk)))
  have hb19 : Blk w9 B1 _ 69 := ((hb12.ext he24).chg hc5 (fun e => by have := hvnl B1 e; omega)).chg hc59 (fun hh => by
    rcases hh with hh | hh
    · omega
    · have := hvbl B1 hh; omega)
  refine ok_join [] (fun w' => ∃ vks' rows', BM w' bb S vn2 vb2 vks' rows' (begN nds e) (busy ++ [0]) ∧ Chg (BFoot bb vn vb vks) w w' ∧ ∀ k, BFoot bb vn2 vb2 vks' k → BFoot bb vn vb vks k ∨ (w.heap.size ≤ k ∧ k < w'.heap.size)) ?_ ?_
  · refine ok_seq (fun M hM => ok_region rfl ?_)
    repeat ((try first | (refine z3 hX ?_; clear hX X) | (refine z2 hX ?_; clear hX X)); (first | refine zL fun X hX => ?_ | refine zH fun X hX => ?_ | refine zE fun X hX => ?_ | refine zl ?_ | refine zh ?_ | refine ze ?_); try simp only [oweC, oweP, opF, opH, ev, evs, evp, evo, Env.get, Env.set, putE, gdst, S0, S1, thenN, inBlockN, argEnv, builtinR, retE, fin, callR, reduceIte, Nat.reduceEqDiff, Nat.reduceAdd, reduceCtorEq, forall_const, Q63])
    refine ⟨_, hb19.cell (j := 2) rfl, ?_⟩
    repeat ((try first | (refine z3 hX ?_; clear hX X) | (refine z2 hX ?_; clear hX X)); (first | refine zL fun X hX => ?_ | refine zH fun X hX => ?_ | refine zE fun X hX => ?_ | refine zl ?_ | refine zh ?_ | refine ze ?_); try simp only [oweC, oweP, opF, opH, ev, evs, evp, evo, Env.get, Env.set, putE, gdst, S0, S1, thenN, inBlockN, argEnv, builtinR, retE, fin, callR, reduceIte, Nat.reduceEqDiff, Nat.reduceAdd, reduceCtorEq, forall_const, Q63])
    refine hM _ _ _ ?_; clear hM M
    refine ok_if rfl (fun hpar => ?_) (fun hpar => ok_skip ?_)
    rotate_left
    · try simp only [wpL, wpH, wpE, oweC, oweP, opF, opH, ev, evs, evp, evo, Env.get, Env.set, putE, gdst, S0, S1, thenN, inBlockN, argEnv, builtinR, retE, fin, callR, reduceIte, Nat.reduceEqDiff, Nat.reduceAdd, reduceCtorEq, forall_const, Q63]
      have : begN nds e = nds ++ [newN e] := by unfold begN; rw [if_neg (by omega)]
      rw [this]
      exact ⟨by simp [sub], _, _, hBM9, hcW9, hBF9⟩
    have hpl := (fitsC_parent hfit (by omega)).1
    obtain ⟨i, hi⟩ : ∃ i : Nat, e.parent = (i : Int) + 1 := ⟨(e.parent - 1).toNat, by omega⟩
    have hil : i < (nds ++ [newN e]).length := by simp; omega
    have hd : (nds ++ [newN e])[i]? = some (nds ++ [newN e])[i] := List.getElem?_eq_getElem hil
    have hkd : (nds ++ [newN e])[i].kids.length ≤ 1000 := by
      rcases List.mem_append.1 (List.getElem_mem hil) with h1 | h1
      · exact hkl _ h1
      · rw [List.mem_singleton.1 h1]; simp [newN]
    have hmod : begN nds e = (nds ++ [newN e]).set i { (nds ++ [newN e])[i] with kids := (nds ++ [newN e])[i].kids ++ [e.call] } := by
      unfold begN
      rw [if_pos (by omega), hi, show ((i : Int) + 1 - 1).toNat = i by omega, modify_set _ _ _ _ hd]
    generalize (nds ++ [newN e])[i] = d at hd hmod hkd
    obtain ⟨g, cap, va, vl, vk, hv, hvk, h5, hcell, -, -, hko⟩ := hBM9.nm.at_ (by simp; omega) hd
    have hvo : vn2.ownBlock = some g := by rw [hv]; rfl
    rw [List.length_append, List.length_singleton] at hv
    refine ok_seq (fun M hM => (ok_draw 9 [] (Ext _) Fx.mixed (by decide) rfl (by decide +kernel) (by decide +kernel) (Ext.drew _) ?_))
    repeat ((try first | (refine z3 hX ?_; clear hX X) | (refine z2 hX ?_; clear hX X)); (first | refine zL fun X hX => ?_ | refine zH fun X hX => ?_ | refine zE fun X hX => ?_ | refine zl ?_ | refine zh ?_ | refine ze ?_); try simp only [oweC, oweP, opF, opH, ev, evs, evp, evo, Env.get, Env.set, putE, gdst, S0, S1, thenN, inBlockN, argEnv, builtinR, retE, fin, callR, reduceIte, Nat.reduceEqDiff, Nat.reduceAdd, reduceCtorEq, forall_const, Q63])
    refine ⟨_, fun w' hw => (hb9.ext hw).cell (j := 0) rfl, ?_⟩
    rw [hv]
    repeat ((try first | (refine z3 hX ?_; clear hX X) | (refine z2 hX ?_; clear hX X)); (first | refine zL fun X hX => ?_ | refine zH fun X hX => ?_ | refine zE fun X hX => ?_ | refine zl ?_ | refine zh ?_ | refine ze ?_); try simp only [oweC, oweP, opF, opH, ev, evs, evp, evo, Env.get, Env.set, putE, gdst, S0, S1, thenN, inBlockN, argEnv, builtinR, retE, fin, callR, reduceIte, Nat.reduceEqDiff, Nat.reduceAdd, reduceCtorEq, forall_const, Q63])
    refine ⟨_, fun w' hw => (hb19.ext hw).cell (j := 2) rfl, ?_⟩
    repeat ((try first | (refine z3 hX ?_; clear hX X) | (refine z2 hX ?_; clear hX X)); (first | refine zL fun X hX => ?_ | refine zH fun X hX => ?_ | refine zE fun X hX => ?_ | refine zl ?_ | refine zh ?_ | refine ze ?_); try simp only [oweC, oweP, opF, opH, ev, evs, evp, evo, Env.get, Env.set, putE, gdst, S0, S1, thenN, inBlockN, argEnv, builtinR, retE, fin, callR, reduceIte, Nat.reduceEqDiff, Nat.reduceAdd, reduceCtorEq, forall_const, Q63])
    refine ⟨by simp only [inI]; omega, ?_⟩
    repeat ((try first | (refine z3 hX ?_; clear hX X) | (refine z2 hX ?_; clear hX X)); (first | refine zL fun X hX => ?_ | refine zH fun X hX => ?_ | refine zE fun X hX => ?_ | refine zl ?_ | refine zh ?_ | refine ze ?_); try simp only [oweC, oweP, opF, opH, ev, evs, evp, evo, Env.get, Env.set, putE, gdst, S0, S1, thenN, inBlockN, argEnv, builtinR, retE, fin, callR, reduceIte, Nat.reduceEqDiff, Nat.reduceAdd, reduceCtorEq, forall_const, Q63])
    refine ⟨by omega, by omega, ?_⟩
    repeat ((try first | (refine z3 hX ?_; clear hX X) | (refine z2 hX ?_; clear hX X)); (first | refine zL fun X hX => ?_ | refine zH fun X hX => ?_ | refine zE fun X hX => ?_ | refine zl ?_ | refine zh ?_ | refine ze ?_); try simp only [oweC, oweP, opF, opH, ev, evs, evp, evo, Env.get, Env.set, putE, gdst, S0, S1, thenN, inBlockN, argEnv, builtinR, retE, fin, callR, reduceIte, Nat.reduceEqDiff, Nat.reduceAdd, reduceCtorEq, forall_const, Q63])
    intro w10 he10
    repeat ((try first | (refine z3 hX ?_; clear hX X) | (refine z2 hX ?_; clear hX X)); (first | refine zL fun X hX => ?_ | refine zH fun X hX => ?_ | refine zE fun X hX => ?_ | refine zl ?_ | refine zh ?_ | refine ze ?_); try simp only [oweC, oweP, opF, opH, ev, evs, evp, evo, Env.get, Env.set, putE, gdst, S0, S1, thenN, inBlockN, argEnv, builtinR, retE, fin, callR, reduceIte, Nat.reduceEqDiff, Nat.reduceAdd, reduceCtorEq, forall_const, Q63])
    rw [hi, show ((i : Int) + 1 - 1).toNat = i by omega]
    refine hM _ _ _ ?_; clear hM M
    simp only [Nat.zero_add]
    refine (ok_draw 7 [(true, false), (false, false), (false, true), (false, true), (false, true)] (Ext _) Fx.mixed (by decide) rfl (by decide +kernel) (by decide +kernel) (Ext.drew _) ?_)
    repeat ((try first | (refine z3 hX ?_; clear hX X) | (refine z2 hX ?_; clear hX X)); (first | refine zL fun X hX => ?_ | refine zH fun X hX => ?_ | refine zE fun X hX => ?_ | refine zl ?_ | refine zh ?_ | refine ze ?_); try simp only [oweC, oweP, opF, opH, ev, evs, evp, evo, Env.get, Env.set, putE, gdst, S0, S1, thenN, inBlockN, argEnv, builtinR, retE, fin, callR, reduceIte, Nat.reduceEqDiff, Nat.reduceAdd, reduceCtorEq, forall_const, Q63])
    refine ⟨_, fun w' hw => ((he10.trans hw).cell (hcell 10 _ (row_kids h5 va vl vk))), ?_⟩
    repeat ((try first | (refine z3 hX ?_; clear hX X) | (refine z2 hX ?_; clear hX X)); (first | refine zL fun X hX => ?_ | refine zH fun X hX => ?_ | refine zE fun X hX => ?_ | refine zl ?_ | refine zh ?_ | refine ze ?_); try simp only [oweC, oweP, opF, opH, ev, evs, evp, evo, Env.get, Env.set, putE, gdst, S0, S1, thenN, inBlockN, argEnv, builtinR, retE, fin, callR, reduceIte, Nat.reduceEqDiff, Nat.reduceAdd, reduceCtorEq, forall_const, Q63])
    refine ⟨_, fun w' hw => (hb19.ext (he10.trans hw)).cell (j := 1) rfl, ?_⟩
    repeat ((try first | (refine z3 hX ?_; clear hX X) | (refine z2 hX ?_; clear hX X)); (first | refine zL fun X hX => ?_ | refine zH fun X hX => ?_ | refine zE fun X hX => ?_ | refine zl ?_ | refine zh ?_ | refine ze ?_); try simp only [oweC, oweP, opF, opH, ev, evs, evp, evo, Env.get, Env.set, putE, gdst, S0, S1, thenN, inBlockN, argEnv, builtinR, retE, fin, callR, reduceIte, Nat.reduceEqDiff, Nat.reduceAdd, reduceCtorEq, forall_const, Q63])
    intro w11 he11
    repeat ((try first | (refine z3 hX ?_; clear hX X) | (refine z2 hX ?_; clear hX X)); (first | refine zL fun X hX => ?_ | refine zH fun X hX => ?_ | refine zE fun X hX => ?_ | refine zl ?_ | refine zh ?_ | refine ze ?_); try simp only [oweC, oweP, opF, opH, ev, evs, evp, evo, Env.get, Env.set, putE, gdst, S0, S1, thenN, inBlockN, argEnv, builtinR, retE, fin, callR, reduceIte, Nat.reduceEqDiff, Nat.reduceAdd, reduceCtorEq, forall_const, Q63])
    refine Runs.lit (cs := [.int .i64 e.call]) Fx.un26 Fx.zi3 (by decide) (by kernel_rfl) (by decide) (fun w12 he12 hs12 hb12' => ?_)
    refine ⟨he11.trans he12, ?_⟩
    repeat ((try first | (refine z3 hX ?_; clear hX X) | (refine z2 hX ?_; clear hX X)); (first | refine zL fun X hX => ?_ | refine zH fun X hX => ?_ | refine zE fun X hX => ?_ | refine zl ?_ | refine zh ?_ | refine ze ?_); try simp only [oweC, oweP, opF, opH, ev, evs, evp, evo, Env.get, Env.set, putE, gdst, S0, S1, thenN, inBlockN, argEnv, builtinR, retE, fin, callR, reduceIte, Nat.reduceEqDiff, Nat.reduceAdd, reduceCtorEq, forall_const, Q63])
    have he9 := he10.trans (he11.trans he12)
    have hB12 := hBM9.ext he9
    have hsz9 := he9.size
    obtain ⟨Ak, ck, hvks⟩ : ∃ Ak ck, vk = .slice Ak d.kids.length ck := by
      rcases hko.2 with ⟨h1, h2⟩ | ⟨g, cap, cur, h1, _⟩
      · exact ⟨none, 0, by rw [h1, h2]⟩
      · exact ⟨_, _, h1⟩
    have hko12 := owns_chg' hko (he9.chg (fun _ => False)) (fun _ _ h => h)
    rw [hvks]
    rw [hvks] at hko12
    refine Runs.append1' Fx.un26 Fx.zi3 rfl (by decide) hko12 hb12' rfl (by intro u hu; simp at hu; subst hu; rfl) (by simp [maxLen]; omega) (by omega) (by omega) (fun vk2 w13 hown13 hg13 hblk13 => ?_)
    have hc13 : Chg (fun k => vk.ownBlock = some k) w12 w13 := by rw [hvks]; exact grown_chg hg13
    have hvk2 : vk2.oneCell' = true ∧ vk2.cells = #[vk2] := by
      rcases hown13.2 with ⟨rfl, _⟩ | ⟨g, cap, cur, rfl, _⟩ <;> exact ⟨rfl, rfl⟩
    have hnb13 : ∀ k, vk2.ownBlock = some k → vk.ownBlock = some k ∨ w12.heap.size ≤ k := fun k hk => by
      rcases hblk13 with h' | h'
      · exact .inl (by rw [hvks]; exact h' ▸ hk)
      · rw [h'] at hk; cases hk; exact .inr (Nat.le_refl _)
    have hs13 := hc13.size
    have hS12 : ∀ k, S k → k < w12.heap.size := fun k hk => by have := hS k hk; omega
    have hvn12 : ∀ k, vn2.ownBlock = some k → k < w12.heap.size := fun k hk => by
      rcases hBF9 k (.inr (.inr (.inl hk))) with h1 | h1
      · have := hF k h1; omega
      · omega
    obtain ⟨g', cap', cur, hv', hbg, hle, hput⟩ := hB12.nm.kid hd hvk hS12 hvn12 hc13 hown13 hnb13
    rw [List.length_append, List.length_singleton, hv] at hv'
    cases hv'
    repeat ((try first | (refine z3 hX ?_; clear hX X) | (refine z2 hX ?_; clear hX X)); (first | refine zL fun X hX => ?_ | refine zH fun X hX => ?_ | refine zE fun X hX => ?_ | refine zl ?_ | refine zh ?_ | refine ze ?_); try simp only [oweC, oweP, opF, opH, ev, evs, evp, evo, Env.get, Env.set, putE, gdst, S0, S1, thenN, inBlockN, argEnv, builtinR, retE, fin, callR, reduceIte, Nat.reduceEqDiff, Nat.reduceAdd, reduceCtorEq, forall_const, Q63])
    refine Runs.store hbg Fx.zi26 (by rw [hvk2.2]; rfl) (by rw [hvk2.2]; intro u hu; simp at hu; subst hu; exact hvk2.1) (by simpa using hle) (fun w14 hc14 hs14 hb14 => ?_)
    rw [hvk2.2] at hb14
    repeat ((try first | (refine z3 hX ?_; clear hX X) | (refine z2 hX ?_; clear hX X)); (first | refine zL fun X hX => ?_ | refine zH fun X hX => ?_ | refine zE fun X hX => ?_ | refine zl ?_ | refine zh ?_ | refine ze ?_); try simp only [oweC, oweP, opF, opH, ev, evs, evp, evo, Env.get, Env.set, putE, gdst, S0, S1, thenN, inBlockN, argEnv, builtinR, retE, fin, callR, reduceIte, Nat.reduceEqDiff, Nat.reduceAdd, reduceCtorEq, forall_const, Q63])
    obtain ⟨rows', hnm14⟩ := hput w14 hc14 hb14
    have hvkF : ∀ k, vk.ownBlock = some k → BFoot bb vn2 vb2 (vks ++ [.slice none 0 0]) k := fun k hk => .inr (.inr (.inr ⟨i, vk, hvk, hk⟩))
    have hgF : BFoot bb vn2 vb2 (vks ++ [.slice none 0 0]) g := .inr (.inr (.inl hvo))
    have hc914 : Chg (BFoot bb vn2 vb2 (vks ++ [.slice none 0 0])) w9 w14 := (he9.chg _).trans ((hc13.mono fun k _ hk => hvkF k hk).trans (hc14.mono fun k _ hk => by rw [hk]; exact hgF))
    have hNF' : ∀ k, NFoot vn2 ((vks ++ [Value.slice none 0 0]).set i vk2) k → NFoot vn2 (vks ++ [.slice none 0 0]) k ∨ (w12.heap.size ≤ k ∧ k < w13.heap.size) := fun k hk => by
      rcases hk with hk | ⟨j, v, hj, hk⟩
      · exact .inl (.inl hk)
      · by_cases hji : i = j
        · subst hji
          rw [List.getElem?_set_self (List.getElem?_eq_some_iff.1 hvk).1] at hj
          cases hj
          rcases hnb13 k hk with h1 | h1
          · exact .inl (.inr ⟨i, vk, hvk, h1⟩)
          · exact .inr ⟨h1, (hown13.lt k hk).2⟩
        · rw [List.getElem?_set_ne hji] at hj
          exact .inl (.inr ⟨j, v, hj, hk⟩)
    have hBl9 : ∀ k, BFoot bb vn2 vb2 (vks ++ [.slice none 0 0]) k → k < w9.heap.size := fun k hk => by
      rcases hBF9 k hk with h1 | h1
      · have := hF k h1; omega
      · omega
    have hne : ∀ k, vb2.ownBlock = some k → ¬ NFoot vn2 (vks ++ [.slice none 0 0]) k := fun k hk => (hBM9.bs k hk).2.2
    refine ⟨by simp [sub], (vks ++ [Value.slice none 0 0]).set i vk2, rows', ?_, hcW9.thn hc914 (fun k hk => ?_), fun k hk => ?_⟩
    · rw [hmod]
      refine ⟨(hB12.head.chg hc13 (fun hh => hBM9.hn (.inr ⟨i, vk, hvk, hh⟩))).chg hc14 (fun hh => hBM9.hn (.inl (hh ▸ hvo))), hnm14, ?_, by simp [h.lb], h.hs, fun hk => ?_, fun k hk => ⟨(hBM9.bs k hk).1, (hBM9.bs k hk).2.1, fun hk' => ?_⟩⟩
      · rw [List.length_set]
        exact owns_chg' (owns_chg' hB12.bz hc13 (fun k hk hh => hne k hk (.inr ⟨i, vk, hvk, hh⟩))) hc14 (fun k hk hh => hne k hk (.inl (hh ▸ hvo)))
      · rcases hNF' bb hk with h1 | h1
        · exact hBM9.hn h1
        · omega
      · rcases hNF' k hk' with h1 | h1
        · exact hne k hk h1
        · have := hBl9 k (.inr (.inl hk)); omega
    · rcases hBF9 k hk with h1 | h1
      · exact .inl h1
      · exact .inr h1.1
    · have hs14' := hc14.size
      have : BFoot bb vn2 vb2 (vks ++ [.slice none 0 0]) k ∨ (w12.heap.size ≤ k ∧ k < w13.heap.size) := by
        rcases hk with hk | hk | hk
        · exact .inl (.inl hk)
        · exact .inl (.inr (.inl hk))
        · rcases hNF' k hk with h1 | h1
          · exact .inl (.inr (.inr h1))
          · exact .inr h1
      rcases this with h1 | h1
      · rcases hBF9 k h1 with h2 | h2
        · exact .inl h2
        · exact .inr (by omega)
      · exact .inr (by omega)
  rintro w13 ⟨vks', rows', hB13, hc13, hF13⟩
  refine ok_seq (fun M hM => ok_region rfl ?_); repeat ((try first | (refine z3 hX ?_; clear hX X) | (refine z2 hX ?_; clear hX X)); (first | refine zL fun X hX => ?_ | refine zH fun X hX => ?_ | refine zE fun X hX => ?_ | refine zl ?_ | refine zh ?_ | refine ze ?_); try simp only [oweC, oweP, opF, opH, ev, evs, evp, evo, Env.get, Env.set, putE, gdst, S0, S1, thenN, inBlockN, argEnv, builtinR, retE, fin, callR, reduceIte, Nat.reduceEqDiff, Nat.reduceAdd, reduceCtorEq, forall_const, Q63])
  refine hM _ _ _ ?_; clear hM M
  refine ok_ret ?_
  try simp only [wpL, wpH, wpE, oweC, oweP, opF, opH, ev, evs, evp, evo, Env.get, Env.set, putE, gdst, S0, S1, thenN, inBlockN, argEnv, builtinR, retE, fin, callR, reduceIte, Nat.reduceEqDiff, Nat.reduceAdd, reduceCtorEq, forall_const, Q63]
  exact ⟨_, _, _, _, hB13, hc13, hF13⟩
end Go.Proofs.Ytafjfcameabbmaa
/- The calls: what an event does to them, in plain terms; one cell of a call turned.  -/
set_option linter.unusedVariables false
set_option linter.unusedSimpArgs false
namespace Go.Proofs.Vg
open Go Go.RowKit
theorem NM.turnG {w : World} {et : TypeId} {S : Nat → Prop} {vn : Value} {vks : List Value} {rows : List (List Value)} {nds : List Nd} (h : NM w et S vn vks rows nds) {i : Nat} {d d' : Nd} (hd : nds[i]? = some d) {off : Nat} {u : Value} (fa fl : Value → Value) (ho : off < 12)
    (hrow : ∀ va vl vk, splice (d.row va vl vk) off [u] = d'.row (fa va) (fl vl) vk) (ha : ∀ va, VSlS w S va d.args → VSlS w S (fa va) d'.args) (hla : ∀ vl, VSlS w S vl d.last → VSlS w S (fl vl) d'.last) (hk : d'.kids = d.kids) (hp : d'.ports.length = 5) :
    ∃ g cap cur, vn = .slice (some ⟨g, 0, none⟩) nds.length cap ∧ Blk w g cur et ∧ i * 12 + off + 1 ≤ cur.length ∧
      ∀ w', Chg (· = g) w w' → Blk w' g (splice cur (i * 12 + off) [u]) et → ∃ rows', NM w' et S vn vks rows' (nds.set i d') := by
  obtain ⟨h5, va, vl, vk, h1, h2, h3, h4, h6⟩ := h.row i d hd
  obtain ⟨g, cap, cur, hv, hb, hle, hn, -, hw⟩ := own_store h.own h.rlen h2 (by decide) (off := off) (vs := [u]) (by simp only [List.length_singleton]; omega) (by simp)
  have hil := (List.getElem?_eq_some_iff.1 hd).1
  have hvo : vn.ownBlock = some g := by rw [hv]; rfl
  refine ⟨g, cap, cur, hv, hb, by simpa using hle, fun w' hc hb' => ⟨rows.set i (d'.row (fa va) (fl vl) vk), ?_⟩⟩
  have hown := hw w' hb'
  rw [hrow va vl vk] at hown
  have hsT : ∀ k, S k → ¬ k = g := fun k hk e => (h.top g hvo).1 (e ▸ hk)
  refine ⟨by rw [List.length_set]; exact hown, by simp [h.lr], by simp [h.lk], fun j e he => ?_, h.apart, h.top, h.sk⟩
  by_cases hji : j = i
  · subst hji
    rw [List.getElem?_set_self hil] at he
    cases he
    refine ⟨hp, _, _, vk, h1, by rw [List.getElem?_set_self (by rw [h.lr]; exact hil)], ?_, ?_, ?_⟩
    · exact (ha _ h3).chg hc (fun k hk => ⟨hk, hsT k hk⟩)
    · exact (hla _ h4).chg hc (fun k hk => ⟨hk, hsT k hk⟩)
    · rw [hk]; exact owns_chg' h6 hc (fun k hk e => (h.top g hvo).2 j vk h1 (e ▸ hk))
  · rw [List.getElem?_set_ne (fun e => hji e.symm)] at he
    obtain ⟨g5, wa, wl, wk, g1, g2, g3, g4, g6⟩ := h.row j e he
    refine ⟨g5, wa, wl, wk, g1, by rw [List.getElem?_set_ne (fun e => hji e.symm)]; exact g2, g3.chg hc (fun k hk => ⟨hk, hsT k hk⟩), g4.chg hc (fun k hk => ⟨hk, hsT k hk⟩), owns_chg' g6 hc (fun k hk e => (h.top g hvo).2 j wk g1 (e ▸ hk))⟩
theorem BM.turnG {w : World} {bb : Nat} {S : Nat → Prop} {vn vb : Value} {vks : List Value} {rows : List (List Value)} {nds : List Nd} {busy : List Int} (h : BM w bb S vn vb vks rows nds busy) {i : Nat} {d d' : Nd} (hd : nds[i]? = some d) {off : Nat} {u : Value} (fa fl : Value → Value) (ho : off < 12)
    (hrow : ∀ va vl vk, splice (d.row va vl vk) off [u] = d'.row (fa va) (fl vl) vk) (ha : ∀ va, VSlS w S va d.args → VSlS w S (fa va) d'.args) (hla : ∀ vl, VSlS w S vl d.last → VSlS w S (fl vl) d'.last) (hk : d'.kids = d.kids) (hp : d'.ports.length = 5) :
    ∃ g cap cur, vn = .slice (some ⟨g, 0, none⟩) nds.length cap ∧ BFoot bb vn vb vks g ∧ Blk w g cur 79 ∧ i * 12 + off + 1 ≤ cur.length ∧
      ∀ w', Chg (· = g) w w' → Blk w' g (splice cur (i * 12 + off) [u]) 79 → ∃ rows', BM w' bb S vn vb vks rows' (nds.set i d') busy := by
  obtain ⟨g, cap, cur, hv, hb, hle, hput⟩ := h.nm.turnG hd fa fl ho hrow ha hla hk hp
  have hvo : vn.ownBlock = some g := by rw [hv]; rfl
  refine ⟨g, cap, cur, hv, .inr (.inr (.inl hvo)), hb, hle, fun w' hc hb' => ?_⟩
  obtain ⟨rows', hn⟩ := hput w' hc hb'
  refine ⟨rows', h.head.chg hc (fun e => h.hn (.inl (e ▸ hvo))), hn, ?_, by simp [h.lb], h.hs, h.hn, h.bs⟩
  rw [List.length_set]
  exact owns_chg' h.bz hc (fun k hk e => (h.bs k hk).2.2 (.inl (e ▸ hvo)))
theorem row_port {d : Nd} {p : Nat} {x : Int} (h : d.ports[p]? = some x) (va vl vk : Value) : (d.row va vl vk)[3 + p]? = some (.int .i64 x) := by
  unfold Nd.row
  have hl := (List.getElem?_eq_some_iff.1 h).1
  rw [List.getElem?_append_right (by simp), List.getElem?_append_left (by simp [ivs]; omega)]
  simp [ivs, h]
theorem row_set_port {d : Nd} {p : Nat} (h : d.ports.length = 5) (hp : p < 5) (x : Int) (va vl vk : Value) : splice (d.row va vl vk) (3 + p) [.int .i64 x] = ({ d with ports := d.ports.set p x } : Nd).row va vl vk := by
  obtain ⟨pr, pa, at_, ports, ar, la, ki, st⟩ := d
  simp only at h ⊢
  match ports, h with
  | [a, b, c, e, f], _ =>
    have : p = 0 ∨ p = 1 ∨ p = 2 ∨ p = 3 ∨ p = 4 := by omega
    rcases this with rfl | rfl | rfl | rfl | rfl <;> rfl
theorem row_set_last {d : Nd} (h : d.ports.length = 5) (xs : List Val) (va vl vk u : Value) : splice (d.row va vl vk) 9 [u] = ({ d with last := xs } : Nd).row va u vk := by
  obtain ⟨pr, pa, at_, ports, ar, la, ki, st⟩ := d
  simp only at h ⊢
  match ports, h with
  | [a, b, c, e, f], _ => rfl
theorem row_set_args {d : Nd} (h : d.ports.length = 5) (xs : List Val) (va vl vk u : Value) : splice (d.row va vl vk) 8 [u] = ({ d with args := xs } : Nd).row u vl vk := by
  obtain ⟨pr, pa, at_, ports, ar, la, ki, st⟩ := d
  simp only at h ⊢
  match ports, h with
  | [a, b, c, e, f], _ => rfl
theorem row_args {d : Nd} (h : d.ports.length = 5) (va vl vk : Value) : (d.row va vl vk)[8]? = some va := by
  obtain ⟨pr, pa, at_, ports, ar, la, ki, st⟩ := d
  simp only at h ⊢
  match ports, h with
  | [a, b, c, e, f], _ => rfl
theorem row_last {d : Nd} (h : d.ports.length = 5) (va vl vk : Value) : (d.row va vl vk)[9]? = some vl := by
  obtain ⟨pr, pa, at_, ports, ar, la, ki, st⟩ := d
  simp only at h ⊢
  match ports, h with
  | [a, b, c, e, f], _ => rfl
-- what an event does
def atN (nds : List Nd) (c : Int) : Option Nd := if 1 ≤ c then nds[(c - 1).toNat]? else none
def inKid (c : Int) (d : Nd) : Bool := decide (d.parent = c) && decide (d.state = 1)
def fitsR (nds : List Nd) (e : Ev) : Bool :=
  if e.port = 0 then fitsC nds e
  else decide (0 ≤ e.port) && decide (e.port ≤ 4) && (match atN nds e.call with
    | none => false
    | some d => decide (d.parent = e.parent) && decide (d.proc = e.proc) && decide (d.at_ = e.at_) && decide (d.args.length = e.args.length) &&
      (if e.port = 2 then decide (d.state = 2) && (decide (e.parent = 0) || decide (stateN nds e.parent = 1)) else decide (d.state = 1) && !nds.any (inKid e.call)))
def stepD (e : Ev) (d : Nd) : Nd := { d with ports := d.ports.set e.port.toNat (d.ports.getD e.port.toNat 0 + 1), last := if e.port = 1 then e.args else d.last, state := if e.port = 0 ∨ e.port = 2 then 1 else if e.port = 1 then 2 else 3 }
def stepN (nds : List Nd) (e : Ev) : List Nd := (if e.port = 0 then begN nds e else nds).modify (e.call - 1).toNat (stepD e)
/-- What holds of the calls of a list of m events. -/
structure WF (m : Nat) (nds : List Nd) : Prop where
  n : nds.length ≤ m
  par : ∀ (i : Nat) (d : Nd), nds[i]? = some d → 0 ≤ d.parent ∧ d.parent ≤ (i : Int)
  ports : ∀ (i : Nat) (d : Nd), nds[i]? = some d → d.ports.length = 5 ∧ ∀ x ∈ d.ports, 0 ≤ x ∧ x ≤ (m : Int)
  kids : ∀ (i : Nat) (d : Nd), nds[i]? = some d → d.kids.length ≤ nds.length ∧ ∀ k ∈ d.kids, (i : Int) + 1 < k ∧ k ≤ (nds.length : Int)
  st : ∀ (i : Nat) (d : Nd), nds[i]? = some d → d.state = 1 ∨ d.state = 2 ∨ d.state = 3
def BusyOk (nds : List Nd) (busy : List Int) : Prop := ∀ (i : Nat), i < nds.length → busy[i]? = some ((nds.countP (inKid ((i : Int) + 1)) : Nat) : Int)
end Go.Proofs.Vg
/- The calls: what an event does to them keeps them in order. -/
set_option linter.unusedVariables false
set_option linter.unusedSimpArgs false
namespace Go.Proofs.Vg
open Go Go.RowKit
theorem countP_turn (l : List Nd) (i : Nat) (d d' : Nd) (hd : l[i]? = some d) (p : Nd → Bool) : (l.set i d').countP p + (if p d then 1 else 0) = l.countP p + (if p d' then 1 else 0) := by
  induction l generalizing i with
  | nil => simp at hd
  | cons x l ih =>
    cases i with
    | zero => simp at hd; subst hd; simp only [List.set_cons_zero, List.countP_cons]; omega
    | succ i => have := ih i (by simpa using hd); simp only [List.set_cons_succ, List.countP_cons]; omega
theorem busy_enter {nds : List Nd} {busy : List Int} (h : BusyOk nds busy) (hl : busy.length = nds.length) {i : Nat} {d : Nd} (hd : nds[i]? = some d) (hp0 : 0 ≤ d.parent) (hp1 : d.parent ≤ (i : Int)) (s : Int) : BusyOk (nds.set i { d with state := s }) (busyE d s busy) := by
  intro j hj
  rw [List.length_set] at hj
  have hil := (List.getElem?_eq_some_iff.1 hd).1
  have hc := countP_turn nds i d { d with state := s } hd (inKid ((j : Int) + 1))
  have hb := h j hj
  by_cases hpj : d.parent = (j : Int) + 1
  · have e1 : (d.parent - 1).toNat = j := by omega
    have hbl : j < busy.length := by omega
    have hg : busy.getD j 0 = ((nds.countP (inKid ((j : Int) + 1)) : Nat) : Int) := by rw [List.getD_eq_getElem?_getD, hb]; rfl
    unfold busyE
    rw [if_pos (by omega), e1, hg]
    simp only [inKid, hpj, decide_true, Bool.true_and, decide_eq_true_eq] at hc
    by_cases h1 : d.state = 1 <;> by_cases h2 : s = 1
    · simp only [h1, h2, ne_eq, not_true_eq_false, false_and, and_false, if_false, if_true] at hc ⊢
      rw [hb]; congr 1; simp only [inKid, hpj]; omega
    · rw [if_neg (fun h => h.1 h1), if_pos ⟨h1, h2⟩, List.getElem?_set_self hbl]
      rw [if_pos h1, if_neg h2] at hc
      congr 1; simp only [inKid, hpj]; omega
    · rw [if_pos ⟨h1, h2⟩, List.getElem?_set_self hbl]
      rw [if_neg h1, if_pos h2] at hc
      congr 1; simp only [inKid, hpj]; omega
    · rw [if_neg (fun h => h2 h.2), if_neg (fun h => h1 h.1), hb]
      rw [if_neg h1, if_neg h2] at hc
      congr 1; simp only [inKid, hpj]; omega
  · have hn : ∀ st, inKid ((j : Int) + 1) { d with state := st } = false := fun st => by simp [inKid, hpj]
    rw [hn s, show inKid ((j : Int) + 1) d = false from hn d.state] at hc
    have hc2 : (nds.set i { d with state := s }).countP (inKid ((j : Int) + 1)) = nds.countP (inKid ((j : Int) + 1)) := by simpa using hc
    rw [hc2]
    unfold busyE
    split
    · have hne : (d.parent - 1).toNat ≠ j := by omega
      split
      · rw [List.getElem?_set_ne hne]; exact hb
      · split
        · rw [List.getElem?_set_ne hne]; exact hb
        · exact hb
    · exact hb
theorem begN_get {nds : List Nd} {e : Ev} {j : Nat} {d' : Nd} (hp : e.parent ≤ (nds.length : Int)) (h : (begN nds e)[j]? = some d') :
    (∃ d, nds[j]? = some d ∧ (d' = d ∨ (e.parent = (j : Int) + 1 ∧ d' = { d with kids := d.kids ++ [e.call] }))) ∨ (j = nds.length ∧ d' = newN e) := by
  unfold begN at h
  have get : ∀ d, (nds ++ [newN e])[j]? = some d → nds[j]? = some d ∨ (j = nds.length ∧ d = newN e) := fun d hd => by
    rcases Nat.lt_or_ge j nds.length with h1 | h1
    · rw [List.getElem?_append_left h1] at hd; exact .inl hd
    · rw [List.getElem?_append_right h1] at hd
      have h2 := (List.getElem?_eq_some_iff.1 hd).1
      simp at h2
      have h3 : j = nds.length := by omega
      subst h3
      simp at hd
      exact .inr ⟨rfl, hd.symm⟩
  split at h
  · rename_i hpos
    rw [List.getElem?_modify] at h
    cases hg : (nds ++ [newN e])[j]? with
    | none => rw [hg] at h; simp at h
    | some d =>
      rw [hg] at h
      simp only [Option.map_eq_map, Option.map_some, Option.some.injEq] at h
      rcases get d hg with h1 | ⟨h1, h2⟩
      · left
        refine ⟨d, h1, ?_⟩
        split at h
        · rename_i h3
          exact .inr ⟨by omega, h.symm⟩
        · exact .inl h.symm
      · right
        rw [if_neg (by omega)] at h
        exact ⟨h1, by rw [← h2]; exact h.symm⟩
  · rcases get d' h with h1 | h1
    · exact .inl ⟨d', h1, .inl rfl⟩
    · exact .inr h1
theorem begN_len (nds : List Nd) (e : Ev) : (begN nds e).length = nds.length + 1 := by unfold begN; split <;> simp
theorem begN_new {nds : List Nd} {e : Ev} (hp : e.parent ≤ (nds.length : Int)) : (begN nds e)[nds.length]? = some (newN e) := by
  have h1 : (begN nds e)[nds.length]? = some ((begN nds e)[nds.length]'(by rw [begN_len]; omega)) := List.getElem?_eq_getElem _
  rcases begN_get hp h1 with ⟨d, h2, _⟩ | ⟨_, h2⟩
  · have := (List.getElem?_eq_some_iff.1 h2).1; omega
  · rw [h2] at h1; exact h1
theorem begN_count {nds : List Nd} {e : Ev} (hp : e.parent ≤ (nds.length : Int)) (c : Int) : (begN nds e).countP (inKid c) = nds.countP (inKid c) := by
  have h0 : (nds ++ [newN e]).countP (inKid c) = nds.countP (inKid c) := by simp [List.countP_append, inKid, newN]
  unfold begN
  split
  · rename_i hpos
    have hil : (e.parent - 1).toNat < (nds ++ [newN e]).length := by simp; omega
    have hd : (nds ++ [newN e])[(e.parent - 1).toNat]? = some (nds ++ [newN e])[(e.parent - 1).toNat] := List.getElem?_eq_getElem hil
    generalize (nds ++ [newN e])[(e.parent - 1).toNat] = d at hd
    rw [modify_set _ _ _ _ hd]
    have := countP_turn (nds ++ [newN e]) _ _ { d with kids := d.kids ++ [e.call] } hd (inKid c)
    have h2 : inKid c { d with kids := d.kids ++ [e.call] } = inKid c d := rfl
    rw [h2] at this
    omega
  · exact h0
theorem busy_beg {m : Nat} {nds : List Nd} {busy : List Int} (h : BusyOk nds busy) (hw : WF m nds) (hl : busy.length = nds.length) {e : Ev} (hp : e.parent ≤ (nds.length : Int)) : BusyOk (begN nds e) (busy ++ [0]) := by
  intro j hj
  rw [begN_len] at hj
  rw [begN_count hp]
  rcases Nat.lt_or_ge j nds.length with h1 | h1
  · rw [List.getElem?_append_left (by omega)]; exact h j h1
  · have h2 : j = nds.length := by omega
    subst h2
    rw [List.getElem?_append_right (by omega)]
    have : nds.countP (inKid ((nds.length : Int) + 1)) = 0 := by
      rw [List.countP_eq_zero]
      intro d hd
      obtain ⟨i, hi⟩ := List.mem_iff_getElem?.1 hd
      have h3 := (hw.par i d hi).2
      have h4 := (List.getElem?_eq_some_iff.1 hi).1
      simp [inKid]; omega
    rw [this]; simp [hl]
theorem busy_bound {nds : List Nd} {busy : List Int} (h : BusyOk nds busy) (hl : busy.length = nds.length) (hn : nds.length ≤ 1048576) : ∀ x ∈ busy, -1048576 ≤ x ∧ x ≤ 1048576 := by
  intro x hx
  obtain ⟨i, hi⟩ := List.mem_iff_getElem?.1 hx
  have h1 := (List.getElem?_eq_some_iff.1 hi).1
  rw [h i (by omega)] at hi
  cases hi
  have := List.countP_le_length (p := inKid ((i : Int) + 1)) (l := nds)
  omega
theorem busy_pos {nds : List Nd} {busy : List Int} (h : BusyOk nds busy) {i : Nat} (hi : i < nds.length) : ∃ x, busy[i]? = some x ∧ (0 < x ↔ nds.any (inKid ((i : Int) + 1)) = true) := by
  refine ⟨_, h i hi, ?_⟩
  have : 0 < nds.countP (inKid ((i : Int) + 1)) ↔ nds.any (inKid ((i : Int) + 1)) = true := by rw [List.countP_pos_iff, List.any_eq_true]
  exact ⟨fun h => this.1 (by omega), fun h => by have := this.2 h; omega⟩
theorem stepN_len {nds : List Nd} {e : Ev} : (stepN nds e).length = if e.port = 0 then nds.length + 1 else nds.length := by
  unfold stepN
  split <;> simp [begN_len]
theorem stepD_ports {m : Nat} {e : Ev} {d : Nd} (h0 : 0 ≤ e.port) (h4 : e.port ≤ 4) (h : d.ports.length = 5 ∧ ∀ x ∈ d.ports, 0 ≤ x ∧ x ≤ (m : Int)) : (stepD e d).ports.length = 5 ∧ ∀ x ∈ (stepD e d).ports, 0 ≤ x ∧ x ≤ ((m + 1 : Nat) : Int) := by
  refine ⟨by simp [stepD, h.1], fun x hx => ?_⟩
  simp only [stepD] at hx
  rcases List.mem_or_eq_of_mem_set hx with h1 | h1
  · have := h.2 x h1; omega
  · have hlt : e.port.toNat < d.ports.length := by rw [h.1]; omega
    have h2 := h.2 _ (List.getElem_mem hlt)
    rw [List.getD_eq_getElem?_getD, List.getElem?_eq_getElem hlt] at h1
    simp only [Option.getD_some] at h1
    omega
theorem fitsC_call {nds : List Nd} {e : Ev} (h : fitsC nds e = true) : e.call = (nds.length : Int) + 1 := by
  simp [fitsC] at h; exact h.1.1
theorem fitsC_par {nds : List Nd} {e : Ev} (h : fitsC nds e = true) : 0 ≤ e.parent ∧ e.parent ≤ (nds.length : Int) := by
  have hc := fitsC_call h
  simp [fitsC] at h
  obtain ⟨⟨h1, h2⟩, h3⟩ := h
  rcases h2 with h2 | h2
  · rcases h3 with h3 | h3
    · omega
    · have := stateN_le (nds := nds) (c := e.parent) (by rw [h3]; decide); omega
  · omega
theorem WF.step {m : Nat} {nds : List Nd} (h : WF m nds) {e : Ev} (hf : fitsR nds e = true) : WF (m + 1) (stepN nds e) := by
  unfold fitsR at hf
  by_cases hp : e.port = 0
  · rw [if_pos hp] at hf
    have hc := fitsC_call hf
    obtain ⟨hp0, hp1⟩ := fitsC_par hf
    have hlen : (stepN nds e).length = nds.length + 1 := by rw [stepN_len, if_pos hp]
    have hn := h.n
    have get : ∀ (j : Nat) (d' : Nd), (stepN nds e)[j]? = some d' → (∃ d, nds[j]? = some d ∧ (d' = d ∨ (e.parent = (j : Int) + 1 ∧ d' = { d with kids := d.kids ++ [e.call] }))) ∨ (j = nds.length ∧ d' = stepD e (newN e)) := by
      intro j d' hd
      unfold stepN at hd
      rw [if_pos hp, List.getElem?_modify] at hd
      cases hg : (begN nds e)[j]? with
      | none => rw [hg] at hd; simp at hd
      | some d =>
        rw [hg] at hd
        simp only [Option.map_eq_map, Option.map_some, Option.some.injEq] at hd
        rcases begN_get hp1 hg with ⟨d0, h1, h2⟩ | ⟨h1, h2⟩
        · have := (List.getElem?_eq_some_iff.1 h1).1
          rw [if_neg (by omega)] at hd
          exact .inl ⟨d0, h1, by rw [← hd]; exact h2⟩
        · rw [if_pos (by omega)] at hd
          exact .inr ⟨h1, by rw [← hd, h2]⟩
    refine ⟨by omega, fun i d' hd => ?_, fun i d' hd => ?_, fun i d' hd => ?_, fun i d' hd => ?_⟩
    · rcases get i d' hd with ⟨d, h1, rfl | ⟨_, rfl⟩⟩ | ⟨rfl, rfl⟩
      · exact h.par i _ h1
      · exact h.par i d h1
      · simp only [stepD, newN]; omega
    · rcases get i d' hd with ⟨d, h1, rfl | ⟨_, rfl⟩⟩ | ⟨rfl, rfl⟩
      · have := h.ports i _ h1; exact ⟨this.1, fun x hx => by have := this.2 x hx; omega⟩
      · have := h.ports i d h1; exact ⟨this.1, fun x hx => by have := this.2 x hx; omega⟩
      · exact stepD_ports (by omega) (by omega) ⟨rfl, fun x hx => by simp [newN] at hx; omega⟩
    · rw [hlen]
      rcases get i d' hd with ⟨d, h1, rfl | ⟨_, rfl⟩⟩ | ⟨rfl, rfl⟩
      · have := h.kids i _ h1; exact ⟨by omega, fun k hk => by have := this.2 k hk; omega⟩
      · have hil := (List.getElem?_eq_some_iff.1 h1).1
        have := h.kids i d h1
        refine ⟨by simp; omega, fun k hk => ?_⟩
        simp only [List.mem_append, List.mem_singleton] at hk
        rcases hk with hk | hk
        · have := this.2 k hk; omega
        · omega
      · simp [stepD, newN]
    · rcases get i d' hd with ⟨d, h1, rfl | ⟨_, rfl⟩⟩ | ⟨rfl, rfl⟩
      · exact h.st i _ h1
      · exact h.st i d h1
      · simp [stepD, hp]
  · rw [if_neg hp] at hf
    simp only [Bool.and_eq_true, decide_eq_true_eq] at hf
    have hlen : (stepN nds e).length = nds.length := by rw [stepN_len, if_neg hp]
    have hn := h.n
    have get : ∀ (j : Nat) (d' : Nd), (stepN nds e)[j]? = some d' → ∃ d, nds[j]? = some d ∧ (d' = d ∨ d' = stepD e d) := by
      intro j d' hd
      unfold stepN at hd
      rw [if_neg hp, List.getElem?_modify] at hd
      cases hg : nds[j]? with
      | none => rw [hg] at hd; simp at hd
      | some d =>
        rw [hg] at hd
        simp only [Option.map_eq_map, Option.map_some, Option.some.injEq] at hd
        refine ⟨d, rfl, ?_⟩
        split at hd
        · exact .inr hd.symm
        · exact .inl hd.symm
    refine ⟨by omega, fun i d' hd => ?_, fun i d' hd => ?_, fun i d' hd => ?_, fun i d' hd => ?_⟩
    · obtain ⟨d, h1, rfl | rfl⟩ := get i d' hd
      · exact h.par i _ h1
      · have := h.par i d h1; exact this
    · obtain ⟨d, h1, rfl | rfl⟩ := get i d' hd
      · have := h.ports i _ h1; exact ⟨this.1, fun x hx => by have := this.2 x hx; omega⟩
      · exact stepD_ports hf.1.1 hf.1.2 (h.ports i d h1)
    · rw [hlen]
      obtain ⟨d, h1, rfl | rfl⟩ := get i d' hd
      · exact h.kids i _ h1
      · have := h.kids i d h1; exact this
    · obtain ⟨d, h1, rfl | rfl⟩ := get i d' hd
      · exact h.st i _ h1
      · simp only [stepD]; repeat' split
        all_goals simp
theorem WF.mono {m m' : Nat} {nds : List Nd} (h : WF m nds) (hm : m ≤ m') : WF m' nds :=
  ⟨by have := h.n; omega, h.par, fun i d hd => ⟨(h.ports i d hd).1, fun x hx => by have := (h.ports i d hd).2 x hx; omega⟩, h.kids, h.st⟩
theorem WF.stN {m : Nat} {nds : List Nd} (h : WF m nds) (c : Int) : stateN nds c = 0 ↔ atN nds c = none := by
  unfold stateN atN
  split
  · cases hg : nds[(c - 1).toNat]? with
    | none => simp
    | some d => have := h.st _ d hg; simp; omega
  · simp
end Go.Proofs.Vg
