/- Part 13 of 14: D7, D8, D9, D10, D11, D12. -/
import Derived.Test.YtafjfcameabbmaaM12
import Derived.Test.YtafjfcameabbmaaM3
/- question. -/
set_option linter.unusedVariables false
set_option linter.unusedSimpArgs false
namespace Go.Proofs.Ytafjfcameabbmaa
open Go Go.Proofs.Vg Go.RowKit Dbg
namespace Dbg
/-- How far a weight is from half. -/
def far (wi all : Int) : Int := if 2 * wi - all < 0 then -(2 * wi - all) else 2 * wi - all
def qstep (sus : List Bool) (root : Nat) (wt : Nat → Int) (all : Int) (p : Int × Int) (i : Nat) : Int × Int :=
  if sus.getD i false = false ∨ i = root then p else if p.1 < 0 ∨ far (wt i) all < p.2 then ((i : Int), far (wt i) all) else p
def qfold (sus : List Bool) (root : Nat) (wt : Nat → Int) (all : Int) (n : Nat) : Int × Int := (List.range n).foldl (qstep sus root wt all) (-1, 0)
theorem qfold_succ (sus : List Bool) (root : Nat) (wt : Nat → Int) (all : Int) (n : Nat) : qfold sus root wt all (n + 1) = qstep sus root wt all (qfold sus root wt all n) n := by
  simp [qfold, List.range_succ]
end Dbg

-- -- function 22
set_option maxHeartbeats 2000000 in
theorem question_ok (w0 w : World) (q B : Nat) (vn : Value) (ks : List (List Int)) (sus : List Bool) (root : Nat) (hn : NodesG w0 vn ks) (hs : Srch w0 w q B vn sus root) (hl : sus.length = ks.length) (hbd : ks.length ≤ 1000) (hed : edgesB ks = true)
    (wt : Nat → Int) (hwt : ∀ i, i < ks.length → wt i = (if sus.getD i false then 1 else 0) + ((kidsOf ks i).map fun k => wt k.toNat).sum) (hw0 : ∀ i, 0 ≤ wt i) (hw1 : ∀ i, wt i ≤ 1000) :
    Rets Try.prog 22 [.pointer (some ⟨q, 0, none⟩)] w (fun v w' => v = .int .i64 (qfold sus root wt (sus.count true : Nat) ks.length).1 ∧ Ext w w') := by
  refine rets_of_ok Try.func22 rfl rfl ?_
  refine ok_seq (fun M hM => ok_region rfl ?_); try simp only [wpL, wpH, wpE, oweC, oweP, opF, opH, ev, evs, evp, evo, Env.get, Env.set, putE, gdst, S0, S1, thenN, inBlockN, argEnv, builtinR, retE, fin, callR, reduceIte, Nat.reduceEqDiff, Nat.reduceAdd, reduceCtorEq, forall_const, Q22]
  refine hM _ _ _ ?_; clear hM M
  refine ok_seq (fun M hM => ok_region rfl ?_)
  try simp only [wpL, wpH, wpE, oweC, oweP, opF, opH, ev, evs, evp, evo, Env.get, Env.set, putE, gdst, S0, S1, thenN, inBlockN, argEnv, builtinR, retE, fin, callR, reduceIte, Nat.reduceEqDiff, Nat.reduceAdd, reduceCtorEq, forall_const, Q22]
  refine Inv.call Fx.en44 (weights_ok w0 w q B vn ks sus root hn hs hl hbd hed wt hwt hw0 hw1) ?_
  rintro v w1 ⟨B3, rfl, hb3, he1⟩
  try simp only [wpL, wpH, wpE, oweC, oweP, opF, opH, ev, evs, evp, evo, Env.get, Env.set, putE, gdst, S0, S1, thenN, inBlockN, argEnv, builtinR, retE, fin, callR, reduceIte, Nat.reduceEqDiff, Nat.reduceAdd, reduceCtorEq, forall_const, Q22]
  refine hM _ _ _ ?_; clear hM M
  obtain ⟨hext, hq, hB, hqB, hbq, hbB⟩ := hs.mono he1
  clear hs hn
  refine ok_seq (fun M hM => ok_region rfl ?_); try simp only [wpL, wpH, wpE, oweC, oweP, opF, opH, ev, evs, evp, evo, Env.get, Env.set, putE, gdst, S0, S1, thenN, inBlockN, argEnv, builtinR, retE, fin, callR, reduceIte, Nat.reduceEqDiff, Nat.reduceAdd, reduceCtorEq, forall_const, Q22]
  refine hM _ _ _ ?_; clear hM M
  refine ok_join [(0, .pointer (some ⟨q, 0, none⟩)), (3, .slice (some ⟨B3, 0, none⟩) ks.length ks.length), (4, .int .i64 ((sus.count true : Nat) : Int))] (fun w' => w' = w1) ?_ ?_
  · refine ok_seq (fun M hM => ok_region rfl ?_)
    try simp only [wpL, wpH, wpE, oweC, oweP, opF, opH, ev, evs, evp, evo, Env.get, Env.set, putE, gdst, S0, S1, thenN, inBlockN, argEnv, builtinR, retE, fin, callR, reduceIte, Nat.reduceEqDiff, Nat.reduceAdd, reduceCtorEq, forall_const, Q22]
    refine ⟨_, hbq.cell rfl, ?_⟩
    try simp only [wpL, wpH, wpE, oweC, oweP, opF, opH, ev, evs, evp, evo, Env.get, Env.set, putE, gdst, S0, S1, thenN, inBlockN, argEnv, builtinR, retE, fin, callR, reduceIte, Nat.reduceEqDiff, Nat.reduceAdd, reduceCtorEq, forall_const, Q22]
    refine hM _ _ _ ?_; clear hM M
    refine ok_block ?_
    refine ok_loop (S := Nat) (fun i => [(0, .pointer (some ⟨q, 0, none⟩)), (3, .slice (some ⟨B3, 0, none⟩) ks.length ks.length), (4, .int .i64 (((sus.take i).count true : Nat) : Int)), (17, .slice (some ⟨B, 0, none⟩) sus.length sus.length), (18, .int .i64 (sus.length : Int)), (19, .int .i64 (i : Int))])
      (fun i w' => w' = w1 ∧ i ≤ sus.length) (fun i => sus.length - i) 0 ?_ ?_ ?_
    · simp [sub, Env.get]
    · exact ⟨rfl, Nat.zero_le _⟩
    rintro i w2 ⟨rfl, hi⟩
    refine ok_seq (fun M hM => ok_region rfl ?_); try simp only [wpL, wpH, wpE, oweC, oweP, opF, opH, ev, evs, evp, evo, Env.get, Env.set, putE, gdst, S0, S1, thenN, inBlockN, argEnv, builtinR, retE, fin, callR, reduceIte, Nat.reduceEqDiff, Nat.reduceAdd, reduceCtorEq, forall_const, Q22]
    refine hM _ _ _ ?_; clear hM M
    refine ok_seq (fun M hM => ok_if rfl (fun hc => ok_skip ?_) (fun hc => ok_exit ?_))
    rotate_left
    · try simp only [wpL, wpH, wpE, oweC, oweP, opF, opH, ev, evs, evp, evo, Env.get, Env.set, putE, gdst, S0, S1, thenN, inBlockN, argEnv, builtinR, retE, fin, callR, reduceIte, Nat.reduceEqDiff, Nat.reduceAdd, reduceCtorEq, forall_const, Q22]
      have : i = sus.length := by omega
      subst this
      simp [sub, Env.get]
    · try simp only [wpL, wpH, wpE, oweC, oweP, opF, opH, ev, evs, evp, evo, Env.get, Env.set, putE, gdst, S0, S1, thenN, inBlockN, argEnv, builtinR, retE, fin, callR, reduceIte, Nat.reduceEqDiff, Nat.reduceAdd, reduceCtorEq, forall_const, Q22]
      refine hM _ _ _ ?_; clear hM M
      have hil : i < sus.length := by omega
      have hcs : (sus.take (i + 1)).count true = (sus.take i).count true + (if sus[i] = true then 1 else 0) := by
        rw [List.take_succ_eq_append_getElem hil, List.count_append, List.count_singleton]
        simp
      have hcl : (sus.take i).count true ≤ sus.length := Nat.le_trans List.count_le_length (by simp; omega)
      refine ok_join [(0, .pointer (some ⟨q, 0, none⟩)), (3, .slice (some ⟨B3, 0, none⟩) ks.length ks.length), (4, .int .i64 (((sus.take (i + 1)).count true : Nat) : Int)), (17, .slice (some ⟨B, 0, none⟩) sus.length sus.length), (18, .int .i64 (sus.length : Int)), (19, .int .i64 (i : Int))] (fun w' => w' = w2) (ok_block ?_) ?_
      · refine ok_seq (fun M hM => ok_region rfl ?_); try simp only [wpL, wpH, wpE, oweC, oweP, opF, opH, ev, evs, evp, evo, Env.get, Env.set, putE, gdst, S0, S1, thenN, inBlockN, argEnv, builtinR, retE, fin, callR, reduceIte, Nat.reduceEqDiff, Nat.reduceAdd, reduceCtorEq, forall_const, Q22]
        refine ⟨by omega, by omega, _, by simpa using hbB.cell (bv_get _ _ hil), ?_⟩
        try simp only [wpL, wpH, wpE, oweC, oweP, opF, opH, ev, evs, evp, evo, Env.get, Env.set, putE, gdst, S0, S1, thenN, inBlockN, argEnv, builtinR, retE, fin, callR, reduceIte, Nat.reduceEqDiff, Nat.reduceAdd, reduceCtorEq, forall_const, Q22]
        refine hM _ _ _ ?_; clear hM M
        refine ok_seq (fun M hM => ok_region rfl ?_); try simp only [wpL, wpH, wpE, oweC, oweP, opF, opH, ev, evs, evp, evo, Env.get, Env.set, putE, gdst, S0, S1, thenN, inBlockN, argEnv, builtinR, retE, fin, callR, reduceIte, Nat.reduceEqDiff, Nat.reduceAdd, reduceCtorEq, forall_const, Q22]
        refine hM _ _ _ ?_; clear hM M
        refine ok_cond rfl (fun ht => ?_) (fun hf => ok_skip ?_)
        · refine ok_region rfl ?_
          try simp only [wpL, wpH, wpE, oweC, oweP, opF, opH, ev, evs, evp, evo, Env.get, Env.set, putE, gdst, S0, S1, thenN, inBlockN, argEnv, builtinR, retE, fin, callR, reduceIte, Nat.reduceEqDiff, Nat.reduceAdd, reduceCtorEq, forall_const, Q22]
          refine ⟨by simp only [inI]; omega, ?_⟩
          simp [sub, Env.get, hcs, ht]
        · try simp only [wpL, wpH, wpE, oweC, oweP, opF, opH, ev, evs, evp, evo, Env.get, Env.set, putE, gdst, S0, S1, thenN, inBlockN, argEnv, builtinR, retE, fin, callR, reduceIte, Nat.reduceEqDiff, Nat.reduceAdd, reduceCtorEq, forall_const, Q22]
          simp [sub, Env.get, hcs, hf]
      · rintro w3 rfl
        refine ok_region rfl ?_
        try simp only [wpL, wpH, wpE, oweC, oweP, opF, opH, ev, evs, evp, evo, Env.get, Env.set, putE, gdst, S0, S1, thenN, inBlockN, argEnv, builtinR, retE, fin, callR, reduceIte, Nat.reduceEqDiff, Nat.reduceAdd, reduceCtorEq, forall_const, Q22]
        refine ⟨by simp only [inI]; omega, i + 1, by simp [sub, Env.get], by omega, by omega⟩
  rintro w2 rfl
  generalize hall : ((sus.count true : Nat) : Int) = all at *
  have hall0 : 0 ≤ all ∧ all ≤ 1000 := by
    have : sus.count true ≤ sus.length := List.count_le_length
    omega
  refine ok_seq (fun M hM => ok_region rfl ?_); try simp only [wpL, wpH, wpE, oweC, oweP, opF, opH, ev, evs, evp, evo, Env.get, Env.set, putE, gdst, S0, S1, thenN, inBlockN, argEnv, builtinR, retE, fin, callR, reduceIte, Nat.reduceEqDiff, Nat.reduceAdd, reduceCtorEq, forall_const, Q22]
  refine hM _ _ _ ?_; clear hM M
  refine ok_join [(7, .int .i64 (qfold sus root wt all ks.length).1)] (fun w' => w' = w2) ?_ ?_
  · refine ok_seq (fun M hM => ok_region rfl ?_)
    try simp only [wpL, wpH, wpE, oweC, oweP, opF, opH, ev, evs, evp, evo, Env.get, Env.set, putE, gdst, S0, S1, thenN, inBlockN, argEnv, builtinR, retE, fin, callR, reduceIte, Nat.reduceEqDiff, Nat.reduceAdd, reduceCtorEq, forall_const, Q22]
    refine ⟨_, hbq.cell rfl, ?_⟩
    try simp only [wpL, wpH, wpE, oweC, oweP, opF, opH, ev, evs, evp, evo, Env.get, Env.set, putE, gdst, S0, S1, thenN, inBlockN, argEnv, builtinR, retE, fin, callR, reduceIte, Nat.reduceEqDiff, Nat.reduceAdd, reduceCtorEq, forall_const, Q22]
    refine hM _ _ _ ?_; clear hM M
    refine ok_block ?_
    refine ok_loop (S := Nat) (fun i => [(0, .pointer (some ⟨q, 0, none⟩)), (3, .slice (some ⟨B3, 0, none⟩) ks.length ks.length), (4, .int .i64 all), (7, .int .i64 (qfold sus root wt all i).1), (8, .int .i64 (qfold sus root wt all i).2), (30, .slice (some ⟨B, 0, none⟩) sus.length sus.length), (31, .int .i64 (sus.length : Int)), (32, .int .i64 (i : Int))])
      (fun i w' => w' = w2 ∧ i ≤ sus.length) (fun i => sus.length - i) 0 ?_ ?_ ?_
    · simp [sub, Env.get, qfold]
    · exact ⟨rfl, Nat.zero_le _⟩
    rintro i w3 ⟨rfl, hi⟩
    refine ok_seq (fun M hM => ok_region rfl ?_); try simp only [wpL, wpH, wpE, oweC, oweP, opF, opH, ev, evs, evp, evo, Env.get, Env.set, putE, gdst, S0, S1, thenN, inBlockN, argEnv, builtinR, retE, fin, callR, reduceIte, Nat.reduceEqDiff, Nat.reduceAdd, reduceCtorEq, forall_const, Q22]
    refine hM _ _ _ ?_; clear hM M
    refine ok_seq (fun M hM => ok_if rfl (fun hc => ok_skip ?_) (fun hc => ok_exit ?_))
    rotate_left
    · try simp only [wpL, wpH, wpE, oweC, oweP, opF, opH, ev, evs, evp, evo, Env.get, Env.set, putE, gdst, S0, S1, thenN, inBlockN, argEnv, builtinR, retE, fin, callR, reduceIte, Nat.reduceEqDiff, Nat.reduceAdd, reduceCtorEq, forall_const, Q22]
      have : i = sus.length := by omega
      subst this
      simp [sub, Env.get, hl]
    · try simp only [wpL, wpH, wpE, oweC, oweP, opF, opH, ev, evs, evp, evo, Env.get, Env.set, putE, gdst, S0, S1, thenN, inBlockN, argEnv, builtinR, retE, fin, callR, reduceIte, Nat.reduceEqDiff, Nat.reduceAdd, reduceCtorEq, forall_const, Q22]
      refine hM _ _ _ ?_; clear hM M
      have hil : i < sus.length := by omega
      have hgetD : sus.getD i false = sus[i] := by simp [List.getD_eq_getElem?_getD, hil]
      have hqs := qfold_succ sus root wt all i
      generalize hp : qfold sus root wt all i = p at *
      refine ok_join [(0, .pointer (some ⟨q, 0, none⟩)), (3, .slice (some ⟨B3, 0, none⟩) ks.length ks.length), (4, .int .i64 all), (7, .int .i64 (qfold sus root wt all (i + 1)).1), (8, .int .i64 (qfold sus root wt all (i + 1)).2), (30, .slice (some ⟨B, 0, none⟩) sus.length sus.length), (31, .int .i64 (sus.length : Int)), (32, .int .i64 (i : Int))] (fun w' => w' = w3) (ok_block ?_) ?_
      · refine ok_seq (fun M hM => ok_region rfl ?_); try simp only [wpL, wpH, wpE, oweC, oweP, opF, opH, ev, evs, evp, evo, Env.get, Env.set, putE, gdst, S0, S1, thenN, inBlockN, argEnv, builtinR, retE, fin, callR, reduceIte, Nat.reduceEqDiff, Nat.reduceAdd, reduceCtorEq, forall_const, Q22]
        refine ⟨by omega, by omega, _, by simpa using hbB.cell (bv_get _ _ hil), ?_⟩
        try simp only [wpL, wpH, wpE, oweC, oweP, opF, opH, ev, evs, evp, evo, Env.get, Env.set, putE, gdst, S0, S1, thenN, inBlockN, argEnv, builtinR, retE, fin, callR, reduceIte, Nat.reduceEqDiff, Nat.reduceAdd, reduceCtorEq, forall_const, Q22]
        refine hM _ _ _ ?_; clear hM M
        have hskip : (sus[i] = false ∨ i = root) → qfold sus root wt all (i + 1) = p := fun h => by
          rw [hqs]; unfold qstep; rw [if_pos (by rw [hgetD]; exact h)]
        have hdo : ¬ (sus[i] = false ∨ i = root) → qfold sus root wt all (i + 1) = if p.1 < 0 ∨ far (wt i) all < p.2 then ((i : Int), far (wt i) all) else p := fun h => by
          rw [hqs]; unfold qstep; rw [if_neg (by rw [hgetD]; exact h)]
        refine ok_join [(0, .pointer (some ⟨q, 0, none⟩)), (3, .slice (some ⟨B3, 0, none⟩) ks.length ks.length), (4, .int .i64 all), (7, .int .i64 p.1), (8, .int .i64 p.2), (9, .int .i64 (i : Int)), (30, .slice (some ⟨B, 0, none⟩) sus.length sus.length), (31, .int .i64 (sus.length : Int)), (32, .int .i64 (i : Int))] (fun w' => w' = w3 ∧ ¬ (sus[i] = false ∨ i = root)) ?_ ?_
        · refine ok_seq (fun M hM => ok_region rfl ?_)
          try simp only [wpL, wpH, wpE, oweC, oweP, opF, opH, ev, evs, evp, evo, Env.get, Env.set, putE, gdst, S0, S1, thenN, inBlockN, argEnv, builtinR, retE, fin, callR, reduceIte, Nat.reduceEqDiff, Nat.reduceAdd, reduceCtorEq, forall_const, Q22]
          refine ⟨fun ht => ⟨_, hbq.cell rfl, ?_⟩, fun ht => ?_⟩
          · try simp only [wpL, wpH, wpE, oweC, oweP, opF, opH, ev, evs, evp, evo, Env.get, Env.set, putE, gdst, S0, S1, thenN, inBlockN, argEnv, builtinR, retE, fin, callR, reduceIte, Nat.reduceEqDiff, Nat.reduceAdd, reduceCtorEq, forall_const, Q22]
            refine hM _ _ _ ?_; clear hM M
            have ht' : sus[i] = true := by simpa using ht
            refine ok_if rfl (fun hc => ok_exit ?_) (fun hc => ok_skip ?_)
            · try simp only [wpL, wpH, wpE, oweC, oweP, opF, opH, ev, evs, evp, evo, Env.get, Env.set, putE, gdst, S0, S1, thenN, inBlockN, argEnv, builtinR, retE, fin, callR, reduceIte, Nat.reduceEqDiff, Nat.reduceAdd, reduceCtorEq, forall_const, Q22]
              have : i = root := by omega
              rw [hskip (.inr this)]
              simp [sub, Env.get]
            · try simp only [wpL, wpH, wpE, oweC, oweP, opF, opH, ev, evs, evp, evo, Env.get, Env.set, putE, gdst, S0, S1, thenN, inBlockN, argEnv, builtinR, retE, fin, callR, reduceIte, Nat.reduceEqDiff, Nat.reduceAdd, reduceCtorEq, forall_const, Q22]
              have : ¬ i = root := by omega
              simp [sub, Env.get, ht', this]
          · try simp only [wpL, wpH, wpE, oweC, oweP, opF, opH, ev, evs, evp, evo, Env.get, Env.set, putE, gdst, S0, S1, thenN, inBlockN, argEnv, builtinR, retE, fin, callR, reduceIte, Nat.reduceEqDiff, Nat.reduceAdd, reduceCtorEq, forall_const, Q22]
            refine hM _ _ _ ?_; clear hM M
            have ht' : sus[i] = false := by simpa using ht
            refine ok_cond rfl (fun _ => ok_exit ?_) (fun h => by cases h)
            try simp only [wpL, wpH, wpE, oweC, oweP, opF, opH, ev, evs, evp, evo, Env.get, Env.set, putE, gdst, S0, S1, thenN, inBlockN, argEnv, builtinR, retE, fin, callR, reduceIte, Nat.reduceEqDiff, Nat.reduceAdd, reduceCtorEq, forall_const, Q22]
            rw [hskip (.inl ht')]
            simp [sub, Env.get]
        · rintro w4 ⟨rfl, hnot⟩
          have hd := hdo hnot
          clear hskip hdo hnot
          have hg : (iv (wlist ks.length wt 0))[i]? = some (.int .i64 (wt i)) := by
            simp [iv, wlist_get _ _ _ _ (show i < ks.length by omega)]
          have := hw0 i
          have := hw1 i
          refine ok_seq (fun M hM => ok_region rfl ?_); try simp only [wpL, wpH, wpE, oweC, oweP, opF, opH, ev, evs, evp, evo, Env.get, Env.set, putE, gdst, S0, S1, thenN, inBlockN, argEnv, builtinR, retE, fin, callR, reduceIte, Nat.reduceEqDiff, Nat.reduceAdd, reduceCtorEq, forall_const, Q22]
          refine ⟨by omega, by omega, _, by simpa using hb3.cell hg, ?_⟩
          try simp only [wpL, wpH, wpE, oweC, oweP, opF, opH, ev, evs, evp, evo, Env.get, Env.set, putE, gdst, S0, S1, thenN, inBlockN, argEnv, builtinR, retE, fin, callR, reduceIte, Nat.reduceEqDiff, Nat.reduceAdd, reduceCtorEq, forall_const, Q22]
          refine ⟨by simp only [inI]; omega, by simp only [inI]; omega, ?_⟩
          refine hM _ _ _ ?_; clear hM M
          refine ok_join [(0, .pointer (some ⟨q, 0, none⟩)), (3, .slice (some ⟨B3, 0, none⟩) ks.length ks.length), (4, .int .i64 all), (7, .int .i64 p.1), (8, .int .i64 p.2), (9, .int .i64 (i : Int)), (11, .int .i64 (far (wt i) all)), (30, .slice (some ⟨B, 0, none⟩) sus.length sus.length), (31, .int .i64 (sus.length : Int)), (32, .int .i64 (i : Int))] (fun w' => w' = w4) ?_ ?_
          · refine ok_seq (fun M hM => ok_region rfl ?_); try simp only [wpL, wpH, wpE, oweC, oweP, opF, opH, ev, evs, evp, evo, Env.get, Env.set, putE, gdst, S0, S1, thenN, inBlockN, argEnv, builtinR, retE, fin, callR, reduceIte, Nat.reduceEqDiff, Nat.reduceAdd, reduceCtorEq, forall_const, Q22]
            refine hM _ _ _ ?_; clear hM M
            refine ok_if rfl (fun hc => ?_) (fun hc => ok_skip ?_)
            · refine ok_region rfl ?_
              try simp only [wpL, wpH, wpE, oweC, oweP, opF, opH, ev, evs, evp, evo, Env.get, Env.set, putE, gdst, S0, S1, thenN, inBlockN, argEnv, builtinR, retE, fin, callR, reduceIte, Nat.reduceEqDiff, Nat.reduceAdd, reduceCtorEq, forall_const, Q22]
              refine ⟨by simp only [inI]; omega, ?_⟩
              simp [sub, Env.get, far, hc]
            · try simp only [wpL, wpH, wpE, oweC, oweP, opF, opH, ev, evs, evp, evo, Env.get, Env.set, putE, gdst, S0, S1, thenN, inBlockN, argEnv, builtinR, retE, fin, callR, reduceIte, Nat.reduceEqDiff, Nat.reduceAdd, reduceCtorEq, forall_const, Q22]
              simp [sub, Env.get, far, hc]
          rintro w5 rfl
          generalize far (wt i) all = d at *
          have last : ∀ (c : Bool) (K : Env), K.get 64 = some (.bool c) → (c = true ↔ (p.1 < 0 ∨ d < p.2)) → sub [(0, .pointer (some ⟨q, 0, none⟩)), (3, .slice (some ⟨B3, 0, none⟩) ks.length ks.length), (4, .int .i64 all), (7, .int .i64 p.1), (8, .int .i64 p.2), (9, .int .i64 (i : Int)), (11, .int .i64 d), (30, .slice (some ⟨B, 0, none⟩) sus.length sus.length), (31, .int .i64 (sus.length : Int)), (32, .int .i64 (i : Int))] K → True := fun _ _ _ _ _ => trivial
          clear last
          refine ok_join [(0, .pointer (some ⟨q, 0, none⟩)), (3, .slice (some ⟨B3, 0, none⟩) ks.length ks.length), (4, .int .i64 all), (7, .int .i64 p.1), (8, .int .i64 p.2), (9, .int .i64 (i : Int)), (11, .int .i64 d), (30, .slice (some ⟨B, 0, none⟩) sus.length sus.length), (31, .int .i64 (sus.length : Int)), (32, .int .i64 (i : Int)), (64, .bool (decide (p.1 < 0 ∨ d < p.2)))] (fun w' => w' = w5) ?_ ?_
          · refine ok_region rfl ?_
            try simp only [wpL, wpH, wpE, oweC, oweP, opF, opH, ev, evs, evp, evo, Env.get, Env.set, putE, gdst, S0, S1, thenN, inBlockN, argEnv, builtinR, retE, fin, callR, reduceIte, Nat.reduceEqDiff, Nat.reduceAdd, reduceCtorEq, forall_const, Q22]
            refine ⟨fun h1 => ?_, fun h1 => ?_⟩
            · have h1' : ¬ p.1 < 0 := by simpa using h1
              simp [sub, Env.get, h1']
            · have h1' : p.1 < 0 := by simpa using h1
              simp [sub, Env.get, h1']
          rintro w6 rfl
          refine ok_if rfl (fun hc => ?_) (fun hc => ok_skip ?_)
          · refine ok_region rfl ?_
            try simp only [wpL, wpH, wpE, oweC, oweP, opF, opH, ev, evs, evp, evo, Env.get, Env.set, putE, gdst, S0, S1, thenN, inBlockN, argEnv, builtinR, retE, fin, callR, reduceIte, Nat.reduceEqDiff, Nat.reduceAdd, reduceCtorEq, forall_const, Q22]
            rw [hd, if_pos hc]
            simp [sub, Env.get]
          · try simp only [wpL, wpH, wpE, oweC, oweP, opF, opH, ev, evs, evp, evo, Env.get, Env.set, putE, gdst, S0, S1, thenN, inBlockN, argEnv, builtinR, retE, fin, callR, reduceIte, Nat.reduceEqDiff, Nat.reduceAdd, reduceCtorEq, forall_const, Q22]
            rw [hd, if_neg hc]
            simp [sub, Env.get]
      · rintro w4 rfl
        refine ok_region rfl ?_
        try simp only [wpL, wpH, wpE, oweC, oweP, opF, opH, ev, evs, evp, evo, Env.get, Env.set, putE, gdst, S0, S1, thenN, inBlockN, argEnv, builtinR, retE, fin, callR, reduceIte, Nat.reduceEqDiff, Nat.reduceAdd, reduceCtorEq, forall_const, Q22]
        refine ⟨by simp only [inI]; omega, i + 1, by simp [sub, Env.get], by omega, by omega⟩
  rintro w3 rfl
  refine ok_seq (fun M hM => ok_region rfl ?_); try simp only [wpL, wpH, wpE, oweC, oweP, opF, opH, ev, evs, evp, evo, Env.get, Env.set, putE, gdst, S0, S1, thenN, inBlockN, argEnv, builtinR, retE, fin, callR, reduceIte, Nat.reduceEqDiff, Nat.reduceAdd, reduceCtorEq, forall_const, Q22]
  refine hM _ _ _ ?_; clear hM M
  refine ok_ret ?_
  try simp only [wpL, wpH, wpE, oweC, oweP, opF, opH, ev, evs, evp, evo, Env.get, Env.set, putE, gdst, S0, S1, thenN, inBlockN, argEnv, builtinR, retE, fin, callR, reduceIte, Nat.reduceEqDiff, Nat.reduceAdd, reduceCtorEq, forall_const, Q22]
  exact he1
end Go.Proofs.Ytafjfcameabbmaa
/- What lies below a node; below, answer. -/
set_option linter.unusedVariables false
set_option linter.unusedSimpArgs false
namespace Go.Proofs.Ytafjfcameabbmaa
open Go Go.Proofs.Vg Go.RowKit Dbg
namespace Dbg
/-- A node and those below it, in order. -/
def descF (ks : List (List Int)) : Nat → Nat → List Nat
  | 0, _ => []
  | f + 1, i => i :: (kidsOf ks i).flatMap fun k => descF ks f k.toNat
def desc (ks : List (List Int)) (i : Nat) : List Nat := descF ks (ks.length - i) i
theorem descF_fuel {ks : List (List Int)} (he : edgesB ks = true) : ∀ (f g i : Nat), i < ks.length → ks.length - i ≤ f → ks.length - i ≤ g → descF ks f i = descF ks g i
  | 0, g, i, hi, hf, _ => by omega
  | f + 1, 0, i, hi, _, hg => by omega
  | f + 1, g + 1, i, hi, hf, hg => by
    simp only [descF]
    congr 1
    rw [List.flatMap_eq_foldl, List.flatMap_eq_foldl, ← List.flatMap_eq_foldl, ← List.flatMap_eq_foldl]
    have : ∀ k ∈ kidsOf ks i, descF ks f k.toNat = descF ks g k.toNat := fun k hk => by
      have := kids_edge he hi hk
      exact descF_fuel he f g k.toNat (by omega) (by omega) (by omega)
    rw [List.flatMap_def, List.flatMap_def, List.map_congr_left this]
theorem desc_eq {ks : List (List Int)} (he : edgesB ks = true) {i : Nat} (hi : i < ks.length) : desc ks i = i :: (kidsOf ks i).flatMap fun k => desc ks k.toNat := by
  unfold desc
  obtain ⟨m, hm⟩ : ∃ m, ks.length - i = m + 1 := ⟨ks.length - i - 1, by omega⟩
  rw [hm]
  simp only [descF]
  congr 1
  have : ∀ k ∈ kidsOf ks i, descF ks m k.toNat = descF ks (ks.length - k.toNat) k.toNat := fun k hk => by
    have := kids_edge he hi hk
    exact descF_fuel he _ _ _ (by omega) (by omega) (by omega)
  rw [List.flatMap_def, List.flatMap_def, List.map_congr_left this]
theorem desc_lt {ks : List (List Int)} (he : edgesB ks = true) : ∀ (f i : Nat), ks.length - i ≤ f → i < ks.length → ∀ v ∈ desc ks i, i ≤ v ∧ v < ks.length
  | 0, i, hf, hi, v, hv => by omega
  | f + 1, i, hf, hi, v, hv => by
    rw [desc_eq he hi] at hv
    rcases List.mem_cons.1 hv with rfl | hv
    · omega
    · obtain ⟨k, hk, hv⟩ := List.mem_flatMap.1 hv
      have hk' := kids_edge he hi hk
      have := desc_lt he f k.toNat (by omega) (by omega) v hv
      omega
/-- Marks. -/
def marked (m : List Bool) (l : List Nat) : List Bool := l.foldl (fun m v => m.set v true) m
@[simp] theorem mark_length (m : List Bool) (l : List Nat) : (marked m l).length = m.length := by
  induction l generalizing m with
  | nil => rfl
  | cons v l ih => simp only [marked, List.foldl_cons] at ih ⊢; rw [ih]; simp
theorem mark_append (m : List Bool) (l l' : List Nat) : marked m (l ++ l') = marked (marked m l) l' := by simp [marked]
theorem mark_cons (m : List Bool) (v : Nat) (l : List Nat) : marked m (v :: l) = marked (m.set v true) l := rfl
theorem mark_get (m : List Bool) (l : List Nat) (v : Nat) (h : v < m.length) : (marked m l).getD v false = (decide (v ∈ l) || m.getD v false) := by
  induction l generalizing m with
  | nil => simp [marked]
  | cons u l ih =>
    rw [mark_cons, ih _ (by simpa using h)]
    by_cases hu : u = v
    · subst hu; simp [h]
    · have : ¬ v = u := fun e => hu e.symm
      simp [List.getElem?_set, hu, this]
/-- The kids' parts, the first ones. -/
def below (ks : List (List Int)) (i j : Nat) : List Nat := i :: ((kidsOf ks i).take j).flatMap fun k => desc ks k.toNat
theorem below_zero (ks : List (List Int)) (i : Nat) : below ks i 0 = [i] := rfl
theorem below_succ (ks : List (List Int)) (i j : Nat) (h : j < (kidsOf ks i).length) : below ks i (j + 1) = below ks i j ++ desc ks (kidsOf ks i)[j].toNat := by
  unfold below
  rw [List.take_succ_eq_append_getElem h, List.flatMap_append]
  simp
theorem below_all {ks : List (List Int)} (he : edgesB ks = true) {i : Nat} (hi : i < ks.length) : below ks i (kidsOf ks i).length = desc ks i := by
  rw [desc_eq he hi]; simp [below]
end Dbg

-- -- function 46
theorem mark1_ok (w : World) (b6 Bm i : Nat) (m : List Bool) (hi : i < m.length) (h6 : Blk w b6 [.slice (some ⟨Bm, 0, none⟩) m.length m.length] 23) (hm : Blk w Bm (bv m) 4) :
    Rets Try.prog 46 [.int .i64 (i : Int), .pointer (some ⟨b6, 0, none⟩)] w (fun v w' => v = .bool true ∧ Blk w' Bm (bv (m.set i true)) 4 ∧ Chg (· = Bm) w w') := by
  refine rets_of_ok Try.func46 rfl rfl ?_
  refine ok_seq (fun M hM => ok_region rfl ?_); try simp only [wpL, wpH, wpE, oweC, oweP, opF, opH, ev, evs, evp, evo, Env.get, Env.set, putE, gdst, S0, S1, thenN, inBlockN, argEnv, builtinR, retE, fin, callR, reduceIte, Nat.reduceEqDiff, Nat.reduceAdd, reduceCtorEq, forall_const, Q46]
  refine hM _ _ _ ?_; clear hM M
  refine ok_seq (fun M hM => ok_region rfl ?_)
  try simp only [wpL, wpH, wpE, oweC, oweP, opF, opH, ev, evs, evp, evo, Env.get, Env.set, putE, gdst, S0, S1, thenN, inBlockN, argEnv, builtinR, retE, fin, callR, reduceIte, Nat.reduceEqDiff, Nat.reduceAdd, reduceCtorEq, forall_const, Q46]
  refine ⟨_, h6.cell rfl, ?_⟩
  try simp only [wpL, wpH, wpE, oweC, oweP, opF, opH, ev, evs, evp, evo, Env.get, Env.set, putE, gdst, S0, S1, thenN, inBlockN, argEnv, builtinR, retE, fin, callR, reduceIte, Nat.reduceEqDiff, Nat.reduceAdd, reduceCtorEq, forall_const, Q46]
  refine ⟨by omega, by omega, ?_⟩
  refine Runs.store (o := 0 + i) hm Fx.zi4 rfl (by simp [Value.cells, Value.oneCell']) (by simp; omega) (fun W3 hc3 hz3 hb3 => ?_)
  try simp only [wpL, wpH, wpE, oweC, oweP, opF, opH, ev, evs, evp, evo, Env.get, Env.set, putE, gdst, S0, S1, thenN, inBlockN, argEnv, builtinR, retE, fin, callR, reduceIte, Nat.reduceEqDiff, Nat.reduceAdd, reduceCtorEq, forall_const, Q46]
  refine hM _ _ _ ?_; clear hM M
  refine ok_seq (fun M hM => ok_region rfl ?_); try simp only [wpL, wpH, wpE, oweC, oweP, opF, opH, ev, evs, evp, evo, Env.get, Env.set, putE, gdst, S0, S1, thenN, inBlockN, argEnv, builtinR, retE, fin, callR, reduceIte, Nat.reduceEqDiff, Nat.reduceAdd, reduceCtorEq, forall_const, Q46]
  refine hM _ _ _ ?_; clear hM M
  refine ok_ret ?_
  try simp only [wpL, wpH, wpE, oweC, oweP, opF, opH, ev, evs, evp, evo, Env.get, Env.set, putE, gdst, S0, S1, thenN, inBlockN, argEnv, builtinR, retE, fin, callR, reduceIte, Nat.reduceEqDiff, Nat.reduceAdd, reduceCtorEq, forall_const, Q46]
  refine ⟨?_, hc3⟩
  have : splice (bv m) (0 + i) (Value.bool true).cells.toList = bv (m.set i true) := by
    rw [Nat.zero_add]
    have := splice_one (bv m) i (.bool true) (by simpa using hi)
    rw [show (Value.bool true).cells.toList = [.bool true] from rfl, this]
    simp [bv, List.map_set]
  rw [← this]; exact hb3

-- -- function 45
set_option maxHeartbeats 1000000 in
theorem below_ok (w0 : World) (q B : Nat) (vn : Value) (ks : List (List Int)) (sus : List Bool) (root b6 Bm : Nat) (hn : NodesG w0 vn ks) (hbd : ks.length ≤ 1000) (hed : edgesB ks = true) (hm0 : w0.heap.size ≤ Bm) (h6m : b6 ≠ Bm) (hqm : q ≠ Bm) :
    ∀ (f i : Nat) (w : World) (m : List Bool), ks.length - i ≤ f → i < ks.length → m.length = ks.length → Ext w0 w → Blk w q [vn, .slice (some ⟨B, 0, none⟩) sus.length sus.length, .int .i64 (root : Int)] 55 →
      Blk w b6 [.slice (some ⟨Bm, 0, none⟩) m.length m.length] 23 → Blk w Bm (bv m) 4 →
      Rets Try.prog 45 [.pointer (some ⟨q, 0, none⟩), .int .i64 (i : Int), .func (.func 46) #[] #[.pointer (some ⟨b6, 0, none⟩)]] w (fun v w' => v = .bool true ∧ Blk w' Bm (bv (marked m (desc ks i))) 4 ∧ Chg (· = Bm) w w') := by
  intro f
  induction f with
  | zero => intro i w m hf hi; omega
  | succ f ih =>
    intro i w m hf hi hml he0 hbq hb6 hbm
    obtain ⟨A, cp, rfl, hlen, hrow⟩ := hn.at_
    have hklen : (kidsOf ks i).length = ks[i].length := by rw [kidsOf_get ks i hi]
    refine rets_of_ok Try.func45 rfl rfl ?_
    refine ok_seq (fun M hM => ok_region rfl ?_); try simp only [wpL, wpH, wpE, oweC, oweP, opF, opH, ev, evs, evp, evo, Env.get, Env.set, putE, gdst, S0, S1, thenN, inBlockN, argEnv, builtinR, retE, fin, callR, reduceIte, Nat.reduceEqDiff, Nat.reduceAdd, reduceCtorEq, forall_const, Q45]
    refine hM _ _ _ ?_; clear hM M
    refine ok_join [(0, .pointer (some ⟨q, 0, none⟩)), (1, .int .i64 (i : Int)), (2, .func (.func 46) #[] #[.pointer (some ⟨b6, 0, none⟩)])] (fun w' => Blk w' Bm (bv (marked m [i])) 4 ∧ Chg (· = Bm) w w') ?_ ?_
    · refine ok_seq (fun M hM => ok_region rfl ?_)
      try simp only [wpL, wpH, wpE, oweC, oweP, opF, opH, ev, evs, evp, evo, Env.get, Env.set, putE, gdst, S0, S1, thenN, inBlockN, argEnv, builtinR, retE, fin, callR, reduceIte, Nat.reduceEqDiff, Nat.reduceAdd, reduceCtorEq, forall_const, Q45]
      refine Inv.clos (cap := [.pointer (some ⟨b6, 0, none⟩)]) Fx.en46 (mark1_ok w b6 Bm i m (by omega) hb6 hbm) ?_
      rintro v w1 ⟨rfl, hb1, hc1⟩
      try simp only [wpL, wpH, wpE, oweC, oweP, opF, opH, ev, evs, evp, evo, Env.get, Env.set, putE, gdst, S0, S1, thenN, inBlockN, argEnv, builtinR, retE, fin, callR, reduceIte, Nat.reduceEqDiff, Nat.reduceAdd, reduceCtorEq, forall_const, Q45]
      refine hM _ _ _ ?_; clear hM M
      refine ok_cond rfl (fun h => by cases h) (fun _ => ok_skip ?_)
      try simp only [wpL, wpH, wpE, oweC, oweP, opF, opH, ev, evs, evp, evo, Env.get, Env.set, putE, gdst, S0, S1, thenN, inBlockN, argEnv, builtinR, retE, fin, callR, reduceIte, Nat.reduceEqDiff, Nat.reduceAdd, reduceCtorEq, forall_const, Q45]
      exact ⟨by simp [sub, Env.get], hb1, hc1⟩
    rintro w1 ⟨hb1, hc1⟩
    obtain ⟨b, o, c, p, vi, vo, vk, rfl, hcells, h1, h2, h3, h4, hk⟩ := hrow i hi
    obtain ⟨A2, c2, rfl, hl2, hk⟩ := hk.at_
    have hnb : ∀ {W : World} {a : Addr} {u : Value}, Chg (· = Bm) w W → w0.cell? a = some u → W.cell? a = some u := fun hW ha => hW.cell (he0.cell ha) (by
      have := World.block_lt_of_cell? w0 _ ha
      show ¬ _ = _
      omega)
    have hkc : w0.cell? ⟨b, o + i * 5 + 4, none⟩ = some (.slice A2 ks[i].length c2) := by simpa [add_at] using hcells 4 _ rfl
    refine ok_join [] (fun w' => Blk w' Bm (bv (marked m (desc ks i))) 4 ∧ Chg (· = Bm) w w') ?_ ?_
    · refine ok_seq (fun M hM => ok_region rfl ?_)
      try simp only [wpL, wpH, wpE, oweC, oweP, opF, opH, ev, evs, evp, evo, Env.get, Env.set, putE, gdst, S0, S1, thenN, inBlockN, argEnv, builtinR, retE, fin, callR, reduceIte, Nat.reduceEqDiff, Nat.reduceAdd, reduceCtorEq, forall_const, Q45]
      refine ⟨_, (hbq.chg hc1 hqm).cell rfl, ?_⟩
      try simp only [wpL, wpH, wpE, oweC, oweP, opF, opH, ev, evs, evp, evo, Env.get, Env.set, putE, gdst, S0, S1, thenN, inBlockN, argEnv, builtinR, retE, fin, callR, reduceIte, Nat.reduceEqDiff, Nat.reduceAdd, reduceCtorEq, forall_const, Q45]
      refine ⟨by omega, by omega, _, hnb hc1 hkc, ?_⟩
      try simp only [wpL, wpH, wpE, oweC, oweP, opF, opH, ev, evs, evp, evo, Env.get, Env.set, putE, gdst, S0, S1, thenN, inBlockN, argEnv, builtinR, retE, fin, callR, reduceIte, Nat.reduceEqDiff, Nat.reduceAdd, reduceCtorEq, forall_const, Q45]
      refine hM _ _ _ ?_; clear hM M
      refine ok_block ?_
      refine ok_loop (S := Nat) (fun j => [(0, .pointer (some ⟨q, 0, none⟩)), (1, .int .i64 (i : Int)), (2, .func (.func 46) #[] #[.pointer (some ⟨b6, 0, none⟩)]), (20, .slice A2 ks[i].length c2), (21, .int .i64 (ks[i].length : Int)), (22, .int .i64 (j : Int))])
        (fun j w' => Blk w' Bm (bv (marked m (below ks i j))) 4 ∧ Chg (· = Bm) w w' ∧ j ≤ ks[i].length) (fun j => ks[i].length - j) 0 ?_ ?_ ?_
      · simp [sub, Env.get]
      · exact ⟨hb1, hc1, Nat.zero_le _⟩
      rintro j w2 ⟨hb2, hc2, hj⟩
      refine ok_seq (fun M hM => ok_region rfl ?_); try simp only [wpL, wpH, wpE, oweC, oweP, opF, opH, ev, evs, evp, evo, Env.get, Env.set, putE, gdst, S0, S1, thenN, inBlockN, argEnv, builtinR, retE, fin, callR, reduceIte, Nat.reduceEqDiff, Nat.reduceAdd, reduceCtorEq, forall_const, Q45]
      refine hM _ _ _ ?_; clear hM M
      refine ok_seq (fun M hM => ok_if rfl (fun hc => ok_skip ?_) (fun hc => ok_exit ?_))
      rotate_left
      · try simp only [wpL, wpH, wpE, oweC, oweP, opF, opH, ev, evs, evp, evo, Env.get, Env.set, putE, gdst, S0, S1, thenN, inBlockN, argEnv, builtinR, retE, fin, callR, reduceIte, Nat.reduceEqDiff, Nat.reduceAdd, reduceCtorEq, forall_const, Q45]
        have hje : j = (kidsOf ks i).length := by omega
        subst hje
        rw [below_all hed hi] at hb2
        exact ⟨trivial, hb2, hc2⟩
      · try simp only [wpL, wpH, wpE, oweC, oweP, opF, opH, ev, evs, evp, evo, Env.get, Env.set, putE, gdst, S0, S1, thenN, inBlockN, argEnv, builtinR, retE, fin, callR, reduceIte, Nat.reduceEqDiff, Nat.reduceAdd, reduceCtorEq, forall_const, Q45]
        refine hM _ _ _ ?_; clear hM M
        have hjl : j < ks[i].length := by omega
        have hjl' : j < (kidsOf ks i).length := by omega
        obtain ⟨bk, ok_, rfl, hkj⟩ := hk j hjl
        have hbs := below_succ ks i j hjl'
        have hmem : (kidsOf ks i)[j] ∈ kidsOf ks i := List.getElem_mem _
        have hed1 := kids_edge hed hi hmem
        have hgj : (kidsOf ks i)[j]'hjl' = ks[i][j] := by simp only [kidsOf_get ks i hi]
        rw [hgj] at hbs hed1
        have hkk := hnb hc2 hkj
        generalize ks[i][j] = k at *
        obtain ⟨k', rfl⟩ : ∃ k' : Nat, k = (k' : Int) := ⟨k.toNat, by omega⟩
        refine ok_seq (fun M1 hM1 => ok_block ?_)
        refine ok_seq (fun M hM => ok_region rfl ?_); try simp only [wpL, wpH, wpE, oweC, oweP, opF, opH, ev, evs, evp, evo, Env.get, Env.set, putE, gdst, S0, S1, thenN, inBlockN, argEnv, builtinR, retE, fin, callR, reduceIte, Nat.reduceEqDiff, Nat.reduceAdd, reduceCtorEq, forall_const, Q45]
        refine ⟨by omega, by omega, _, hkk, ?_⟩
        try simp only [wpL, wpH, wpE, oweC, oweP, opF, opH, ev, evs, evp, evo, Env.get, Env.set, putE, gdst, S0, S1, thenN, inBlockN, argEnv, builtinR, retE, fin, callR, reduceIte, Nat.reduceEqDiff, Nat.reduceAdd, reduceCtorEq, forall_const, Q45]
        refine hM _ _ _ ?_; clear hM M
        refine ok_seq (fun M hM => ok_region rfl ?_)
        try simp only [wpL, wpH, wpE, oweC, oweP, opF, opH, ev, evs, evp, evo, Env.get, Env.set, putE, gdst, S0, S1, thenN, inBlockN, argEnv, builtinR, retE, fin, callR, reduceIte, Nat.reduceEqDiff, Nat.reduceAdd, reduceCtorEq, forall_const, Q45]
        refine Inv.call Fx.en45 (ih k' w2 (marked m (below ks i j)) (by omega) (by omega) (by simpa using hml) ?_ (hbq.chg hc2 hqm) (by simpa using hb6.chg hc2 h6m) hb2) ?_
        · exact he0.chg_trans hc2 (fun k hk => by subst hk; exact hm0)
        rintro v w3 ⟨rfl, hb3, hc3⟩
        try simp only [wpL, wpH, wpE, oweC, oweP, opF, opH, ev, evs, evp, evo, Env.get, Env.set, putE, gdst, S0, S1, thenN, inBlockN, argEnv, builtinR, retE, fin, callR, reduceIte, Nat.reduceEqDiff, Nat.reduceAdd, reduceCtorEq, forall_const, Q45]
        refine hM _ _ _ ?_; clear hM M
        refine ok_cond rfl (fun h => by cases h) (fun _ => ok_skip ?_)
        try simp only [wpL, wpH, wpE, oweC, oweP, opF, opH, ev, evs, evp, evo, Env.get, Env.set, putE, gdst, S0, S1, thenN, inBlockN, argEnv, builtinR, retE, fin, callR, reduceIte, Nat.reduceEqDiff, Nat.reduceAdd, reduceCtorEq, forall_const, Q45]
        refine hM1 _ _ _ ?_; clear hM1 M1
        refine ok_region rfl ?_
        try simp only [wpL, wpH, wpE, oweC, oweP, opF, opH, ev, evs, evp, evo, Env.get, Env.set, putE, gdst, S0, S1, thenN, inBlockN, argEnv, builtinR, retE, fin, callR, reduceIte, Nat.reduceEqDiff, Nat.reduceAdd, reduceCtorEq, forall_const, Q45]
        refine ⟨by simp only [inI]; omega, j + 1, by simp [sub, Env.get], ⟨?_, hc2.trans hc3, by omega⟩, by omega⟩
        rw [hbs, mark_append]
        exact hb3
    · rintro w2 ⟨hb2, hc2⟩
      refine ok_seq (fun M hM => ok_region rfl ?_); try simp only [wpL, wpH, wpE, oweC, oweP, opF, opH, ev, evs, evp, evo, Env.get, Env.set, putE, gdst, S0, S1, thenN, inBlockN, argEnv, builtinR, retE, fin, callR, reduceIte, Nat.reduceEqDiff, Nat.reduceAdd, reduceCtorEq, forall_const, Q45]
      refine hM _ _ _ ?_; clear hM M
      refine ok_ret ?_
      try simp only [wpL, wpH, wpE, oweC, oweP, opF, opH, ev, evs, evp, evo, Env.get, Env.set, putE, gdst, S0, S1, thenN, inBlockN, argEnv, builtinR, retE, fin, callR, reduceIte, Nat.reduceEqDiff, Nat.reduceAdd, reduceCtorEq, forall_const, Q45]
      exact ⟨hb2, hc2⟩
end Go.Proofs.Ytafjfcameabbmaa
/- answer. -/
set_option linter.unusedVariables false
set_option linter.unusedSimpArgs false
namespace Go.Proofs.Ytafjfcameabbmaa
open Go Go.Proofs.Vg Go.RowKit Dbg
namespace Dbg
def newAt (ks : List (List Int)) (sus : List Bool) (qi : Nat) (wrong : Bool) (v : Nat) : Bool := sus.getD v false && (decide (v ∈ desc ks qi) == wrong)
/-- The suspects when the first j have been gone through. -/
def newPart (ks : List (List Int)) (sus : List Bool) (qi : Nat) (wrong : Bool) (j : Nat) : List Bool := (List.range sus.length).map fun v => if v < j then newAt ks sus qi wrong v else sus.getD v false
def newSus (ks : List (List Int)) (sus : List Bool) (qi : Nat) (wrong : Bool) : List Bool := newPart ks sus qi wrong sus.length
@[simp] theorem newPart_length (ks : List (List Int)) (sus : List Bool) (qi : Nat) (wrong : Bool) (j : Nat) : (newPart ks sus qi wrong j).length = sus.length := by simp [newPart]
@[simp] theorem newSus_length (ks : List (List Int)) (sus : List Bool) (qi : Nat) (wrong : Bool) : (newSus ks sus qi wrong).length = sus.length := by simp [newSus]
theorem newPart_get (ks : List (List Int)) (sus : List Bool) (qi : Nat) (wrong : Bool) (j v : Nat) (h : v < sus.length) : (newPart ks sus qi wrong j)[v]? = some (if v < j then newAt ks sus qi wrong v else sus.getD v false) := by simp [newPart, h]
theorem newSus_getD (ks : List (List Int)) (sus : List Bool) (qi : Nat) (wrong : Bool) (v : Nat) (h : v < sus.length) : (newSus ks sus qi wrong).getD v false = newAt ks sus qi wrong v := by
  rw [List.getD_eq_getElem?_getD]
  unfold newSus
  rw [newPart_get _ _ _ _ _ _ h, if_pos h]
  rfl
theorem newPart_zero (ks : List (List Int)) (sus : List Bool) (qi : Nat) (wrong : Bool) : newPart ks sus qi wrong 0 = sus := by
  apply List.ext_getElem?
  intro v
  rcases Nat.lt_or_ge v sus.length with hv | hv
  · rw [newPart_get _ _ _ _ _ _ hv, if_neg (by omega)]; simp [List.getD_eq_getElem?_getD, hv]
  · rw [List.getElem?_eq_none (by simp; omega), List.getElem?_eq_none hv]
theorem newPart_succ (ks : List (List Int)) (sus : List Bool) (qi : Nat) (wrong : Bool) (j : Nat) : (newPart ks sus qi wrong j).set j (newAt ks sus qi wrong j) = newPart ks sus qi wrong (j + 1) := by
  apply List.ext_getElem?
  intro v
  rw [List.getElem?_set]
  rcases Nat.lt_or_ge v sus.length with hv | hv
  · rw [newPart_get _ _ _ _ _ _ hv, newPart_get _ _ _ _ _ _ hv]
    by_cases h : j = v
    · subst h; simp [hv]
    · rw [if_neg h]
      by_cases h2 : v < j
      · rw [if_pos h2, if_pos (by omega)]
      · rw [if_neg h2, if_neg (by omega)]
  · rw [List.getElem?_eq_none (show (newPart ks sus qi wrong j).length ≤ v by simpa using hv), List.getElem?_eq_none (show (newPart ks sus qi wrong (j + 1)).length ≤ v by simpa using hv)]
    split
    · rename_i h; subst h
      rw [if_neg (by simp; omega)]
    · rfl
end Dbg

-- -- function 23
set_option maxHeartbeats 2000000 in
set_option maxRecDepth 8000 in
theorem answer_ok (w0 w : World) (q B : Nat) (vn : Value) (ks : List (List Int)) (sus : List Bool) (root qi : Nat) (wrong : Bool) (hn : NodesG w0 vn ks) (hs : Srch w0 w q B vn sus root) (hl : sus.length = ks.length) (hbd : ks.length ≤ 1000) (hed : edgesB ks = true) (hqi : qi < ks.length) :
    Rets Try.prog 23 [.pointer (some ⟨q, 0, none⟩), .int .i64 (qi : Int), .bool wrong] w (fun v w' => Srch w0 w' q B vn (newSus ks sus qi wrong) (if wrong = true then qi else root) ∧ Chg (fun k => k = q ∨ k = B) w w') := by
  have hs' := hs
  obtain ⟨hext, hq, hB, hqB, hbq, hbB⟩ := hs'
  obtain ⟨A, cp, rfl, hlen, hrow⟩ := hn.at_
  clear hrow
  have hqlt := hbq.lt
  have hBlt := hbB.lt
  refine rets_of_ok Try.func23 rfl rfl ?_
  refine ok_seq (fun M hM => ok_region rfl ?_)
  try simp only [wpL, wpH, wpE, oweC, oweP, opF, opH, ev, evs, evp, evo, Env.get, Env.set, putE, gdst, S0, S1, thenN, inBlockN, argEnv, builtinR, retE, fin, callR, reduceIte, Nat.reduceEqDiff, Nat.reduceAdd, reduceCtorEq, forall_const, Q23]
  refine ⟨_, hbq.cell rfl, ?_⟩
  try simp only [wpL, wpH, wpE, oweC, oweP, opF, opH, ev, evs, evp, evo, Env.get, Env.set, putE, gdst, S0, S1, thenN, inBlockN, argEnv, builtinR, retE, fin, callR, reduceIte, Nat.reduceEqDiff, Nat.reduceAdd, reduceCtorEq, forall_const, Q23]
  refine Runs.make1 Fx.un23 Fx.zi4 rfl (by omega) (by omega) (by omega) (fun w1 he1 hz1 hb1 => ?_)
  try simp only [wpL, wpH, wpE, oweC, oweP, opF, opH, ev, evs, evp, evo, Env.get, Env.set, putE, gdst, S0, S1, thenN, inBlockN, argEnv, builtinR, retE, fin, callR, reduceIte, Nat.reduceEqDiff, Nat.reduceAdd, reduceCtorEq, forall_const, Q23]
  refine Runs.alloc Fx.zi23 (fun w2 he2 hz2 hb2 => ?_)
  try simp only [wpL, wpH, wpE, oweC, oweP, opF, opH, ev, evs, evp, evo, Env.get, Env.set, putE, gdst, S0, S1, thenN, inBlockN, argEnv, builtinR, retE, fin, callR, reduceIte, Nat.reduceEqDiff, Nat.reduceAdd, reduceCtorEq, forall_const, Q23]
  refine Runs.store hb2 Fx.zi23 rfl (by simp [Value.cells, Value.oneCell']) (by simp [Value.cells]) (fun w3 hc3 hz3 hb3 => ?_)
  try simp only [wpL, wpH, wpE, oweC, oweP, opF, opH, ev, evs, evp, evo, Env.get, Env.set, putE, gdst, S0, S1, thenN, inBlockN, argEnv, builtinR, retE, fin, callR, reduceIte, Nat.reduceEqDiff, Nat.reduceAdd, reduceCtorEq, forall_const, Q23]
  refine hM _ _ _ ?_; clear hM M
  generalize hBm : w.heap.size = Bm at *
  generalize hB6 : w1.heap.size = B6 at *
  have he3 : Ext w w3 := (he1.trans he2).chg_trans hc3 (fun k hk => by subst hk; have := he1.size; omega)
  have hbm3 : Blk w3 Bm (bv (List.replicate ks.length false)) 4 := by
    have : Blk w3 Bm _ 4 := (hb1.ext he2).chg hc3 (by omega)
    simpa [bv] using this
  have hb63 : Blk w3 B6 [.slice (some ⟨Bm, 0, none⟩) ks.length ks.length] 23 := by simpa [splice, Value.cells] using hb3
  have hB6lt := hb63.lt
  have hBmlt := hbm3.lt
  clear hb1 hb2 hb3 hc3 he2 he1
  have hs3 := hs.mono he3
  refine ok_seq (fun M hM => ok_region rfl ?_)
  try simp only [wpL, wpH, wpE, oweC, oweP, opF, opH, ev, evs, evp, evo, Env.get, Env.set, putE, gdst, S0, S1, thenN, inBlockN, argEnv, builtinR, retE, fin, callR, reduceIte, Nat.reduceEqDiff, Nat.reduceAdd, reduceCtorEq, forall_const, Q23]
  refine Inv.call Fx.en45 (below_ok w0 q B _ ks sus root B6 Bm hn hbd hed (by have := hext.size; omega) (by omega) (by omega) (ks.length - qi) qi w3 (List.replicate ks.length false) (Nat.le_refl _) hqi (by simp) hs3.ext hs3.blk (by simpa using hb63) hbm3) ?_
  rintro v w4 ⟨rfl, hb4, hc4⟩
  try simp only [wpL, wpH, wpE, oweC, oweP, opF, opH, ev, evs, evp, evo, Env.get, Env.set, putE, gdst, S0, S1, thenN, inBlockN, argEnv, builtinR, retE, fin, callR, reduceIte, Nat.reduceEqDiff, Nat.reduceAdd, reduceCtorEq, forall_const, Q23]
  refine hM _ _ _ ?_; clear hM M
  have he4 : Ext w w4 := he3.chg_trans hc4 (fun k hk => by omega)
  have hb64 := hb63.chg hc4 (show ¬ B6 = Bm by omega)
  have hs4 := hs.mono he4
  have hin : ∀ v, v < ks.length → (marked (List.replicate ks.length false) (desc ks qi)).getD v false = decide (v ∈ desc ks qi) := fun v hv => by
    rw [mark_get _ _ _ (by simpa using hv)]
    simp [List.getD_eq_getElem?_getD, hv]
  have hml : (marked (List.replicate ks.length false) (desc ks qi)).length = ks.length := by simp
  generalize marked (List.replicate ks.length false) (desc ks qi) = m at *
  clear hbm3 hb63 hs3 hc4 hs
  refine ok_join [(0, .pointer (some ⟨q, 0, none⟩)), (1, .int .i64 (qi : Int)), (2, .bool wrong)] (fun w' => Chg (· = B) w4 w' ∧ Blk w' B (bv (newSus ks sus qi wrong)) 4) ?_ ?_
  · refine ok_seq (fun M hM => ok_region rfl ?_)
    try simp only [wpL, wpH, wpE, oweC, oweP, opF, opH, ev, evs, evp, evo, Env.get, Env.set, putE, gdst, S0, S1, thenN, inBlockN, argEnv, builtinR, retE, fin, callR, reduceIte, Nat.reduceEqDiff, Nat.reduceAdd, reduceCtorEq, forall_const, Q23]
    refine ⟨_, hs4.blk.cell rfl, ?_⟩
    try simp only [wpL, wpH, wpE, oweC, oweP, opF, opH, ev, evs, evp, evo, Env.get, Env.set, putE, gdst, S0, S1, thenN, inBlockN, argEnv, builtinR, retE, fin, callR, reduceIte, Nat.reduceEqDiff, Nat.reduceAdd, reduceCtorEq, forall_const, Q23]
    refine hM _ _ _ ?_; clear hM M
    refine ok_block ?_
    refine ok_loop (S := Nat) (fun j => [(0, .pointer (some ⟨q, 0, none⟩)), (1, .int .i64 (qi : Int)), (2, .bool wrong), (6, .pointer (some ⟨B6, 0, none⟩)), (22, .int .i64 (sus.length : Int)), (23, .int .i64 (j : Int))])
      (fun j w' => Chg (· = B) w4 w' ∧ j ≤ sus.length ∧ Blk w' B (bv (newPart ks sus qi wrong j)) 4) (fun j => sus.length - j) 0 ?_ ?_ ?_
    · simp [sub, Env.get]
    · exact ⟨Chg.refl _ _, Nat.zero_le _, by rw [newPart_zero]; exact hs4.sus⟩
    rintro j w5 ⟨hc5, hj, hb5⟩
    refine ok_seq (fun M hM => ok_region rfl ?_); try simp only [wpL, wpH, wpE, oweC, oweP, opF, opH, ev, evs, evp, evo, Env.get, Env.set, putE, gdst, S0, S1, thenN, inBlockN, argEnv, builtinR, retE, fin, callR, reduceIte, Nat.reduceEqDiff, Nat.reduceAdd, reduceCtorEq, forall_const, Q23]
    refine hM _ _ _ ?_; clear hM M
    refine ok_seq (fun M hM => ok_if rfl (fun hc => ok_skip ?_) (fun hc => ok_exit ?_))
    rotate_left
    · try simp only [wpL, wpH, wpE, oweC, oweP, opF, opH, ev, evs, evp, evo, Env.get, Env.set, putE, gdst, S0, S1, thenN, inBlockN, argEnv, builtinR, retE, fin, callR, reduceIte, Nat.reduceEqDiff, Nat.reduceAdd, reduceCtorEq, forall_const, Q23]
      have hje : j = sus.length := by omega
      subst hje
      exact ⟨by simp [sub, Env.get], hc5, hb5⟩
    · try simp only [wpL, wpH, wpE, oweC, oweP, opF, opH, ev, evs, evp, evo, Env.get, Env.set, putE, gdst, S0, S1, thenN, inBlockN, argEnv, builtinR, retE, fin, callR, reduceIte, Nat.reduceEqDiff, Nat.reduceAdd, reduceCtorEq, forall_const, Q23]
      refine hM _ _ _ ?_; clear hM M
      have hjl : j < sus.length := by omega
      refine ok_seq (fun M1 hM1 => ok_block ?_)
      refine ok_seq (fun M hM => ok_region rfl ?_); try simp only [wpL, wpH, wpE, oweC, oweP, opF, opH, ev, evs, evp, evo, Env.get, Env.set, putE, gdst, S0, S1, thenN, inBlockN, argEnv, builtinR, retE, fin, callR, reduceIte, Nat.reduceEqDiff, Nat.reduceAdd, reduceCtorEq, forall_const, Q23]
      refine hM _ _ _ ?_; clear hM M
      refine (ok_draw 21 [(false, true)] (Ext _) Fx.mixed (by decide) rfl (by decide +kernel) (by decide +kernel) (Ext.drew _) ?_)
      repeat ((try first | (refine z3 hX ?_; clear hX X) | (refine z2 hX ?_; clear hX X)); (first | refine zL fun X hX => ?_ | refine zH fun X hX => ?_ | refine zE fun X hX => ?_ | refine zl ?_ | refine zh ?_ | refine ze ?_); try simp only [oweC, oweP, opF, opH, ev, evs, evp, evo, Env.get, Env.set, putE, gdst, S0, S1, thenN, inBlockN, argEnv, builtinR, retE, fin, callR, reduceIte, Nat.reduceEqDiff, Nat.reduceAdd, reduceCtorEq, forall_const, Q23])
      have hgj : (bv (newPart ks sus qi wrong j))[j]? = some (.bool (sus.getD j false)) := by
        simp only [bv, List.getElem?_map, newPart_get _ _ _ _ _ _ hjl, Nat.lt_irrefl, if_false, Option.map_some]
      have hgm : (bv m)[j]? = some (.bool (decide (j ∈ desc ks qi))) := by
        have := hin j (by omega)
        rw [List.getD_eq_getElem?_getD, List.getElem?_eq_getElem (by omega), Option.getD_some] at this
        rw [bv_get _ _ (by omega), this]
      have hnew : newAt ks sus qi wrong j = (sus.getD j false && (decide (j ∈ desc ks qi) == wrong)) := rfl
      have fin2 : ∀ (b : Bool) (w6 w7 : World), Ext w5 w6 → b = newAt ks sus qi wrong j → Chg (· = B) w6 w7 → Blk w7 B (splice (bv (newPart ks sus qi wrong j)) (0 + j) (Value.bool b).cells.toList) 4 → Chg (· = B) w4 w7 ∧ Blk w7 B (bv (newPart ks sus qi wrong (j + 1))) 4 := by
        rintro b w6 w7 he6 rfl hc7 hb7
        refine ⟨(hc5.trans (he6.chg _)).trans hc7, ?_⟩
        have : splice (bv (newPart ks sus qi wrong j)) (0 + j) (Value.bool (newAt ks sus qi wrong j)).cells.toList = bv (newPart ks sus qi wrong (j + 1)) := by
          rw [Nat.zero_add]
          have := splice_one (bv (newPart ks sus qi wrong j)) j (.bool (newAt ks sus qi wrong j)) (by simpa using hjl)
          rw [show (Value.bool (newAt ks sus qi wrong j)).cells.toList = [.bool (newAt ks sus qi wrong j)] from rfl, this, ← newPart_succ]
          simp [bv, List.map_set]
        rw [← this]; exact hb7
      refine ⟨_, fun w2 h => h.cell (hs4.blk.chg hc5 (by omega) |>.cell rfl), ?_⟩
      repeat ((try first | (refine z3 hX ?_; clear hX X) | (refine z2 hX ?_; clear hX X)); (first | refine zL fun X hX => ?_ | refine zH fun X hX => ?_ | refine zE fun X hX => ?_ | refine zl ?_ | refine zh ?_ | refine ze ?_); try simp only [oweC, oweP, opF, opH, ev, evs, evp, evo, Env.get, Env.set, putE, gdst, S0, S1, thenN, inBlockN, argEnv, builtinR, retE, fin, callR, reduceIte, Nat.reduceEqDiff, Nat.reduceAdd, reduceCtorEq, forall_const, Q23])
      refine ⟨_, fun w2 h => h.cell (hs4.blk.chg hc5 (by omega) |>.cell rfl), ?_⟩
      repeat ((try first | (refine z3 hX ?_; clear hX X) | (refine z2 hX ?_; clear hX X)); (first | refine zL fun X hX => ?_ | refine zH fun X hX => ?_ | refine zE fun X hX => ?_ | refine zl ?_ | refine zh ?_ | refine ze ?_); try simp only [oweC, oweP, opF, opH, ev, evs, evp, evo, Env.get, Env.set, putE, gdst, S0, S1, thenN, inBlockN, argEnv, builtinR, retE, fin, callR, reduceIte, Nat.reduceEqDiff, Nat.reduceAdd, reduceCtorEq, forall_const, Q23])
      refine ⟨by omega, by omega, ?_⟩
      repeat ((try first | (refine z3 hX ?_; clear hX X) | (refine z2 hX ?_; clear hX X)); (first | refine zL fun X hX => ?_ | refine zH fun X hX => ?_ | refine zE fun X hX => ?_ | refine zl ?_ | refine zh ?_ | refine ze ?_); try simp only [oweC, oweP, opF, opH, ev, evs, evp, evo, Env.get, Env.set, putE, gdst, S0, S1, thenN, inBlockN, argEnv, builtinR, retE, fin, callR, reduceIte, Nat.reduceEqDiff, Nat.reduceAdd, reduceCtorEq, forall_const, Q23])
      refine ⟨_, fun w2 h => by simpa using (hb5.ext h).cell hgj, ?_⟩
      repeat ((try first | (refine z3 hX ?_; clear hX X) | (refine z2 hX ?_; clear hX X)); (first | refine zL fun X hX => ?_ | refine zH fun X hX => ?_ | refine zE fun X hX => ?_ | refine zl ?_ | refine zh ?_ | refine ze ?_); try simp only [oweC, oweP, opF, opH, ev, evs, evp, evo, Env.get, Env.set, putE, gdst, S0, S1, thenN, inBlockN, argEnv, builtinR, retE, fin, callR, reduceIte, Nat.reduceEqDiff, Nat.reduceAdd, reduceCtorEq, forall_const, Q23])
      have tail : ∀ (b : Bool) (w6 : World) (nx : World → Prop), Ext w5 w6 → b = newAt ks sus qi wrong j → (∀ w7, Chg (· = B) w4 w7 → Blk w7 B (bv (newPart ks sus qi wrong (j + 1))) 4 → nx w7) → Runs Try.prog (storeVar 4 ⟨B, 0 + j, none⟩ (.bool b)) w6 (fun _ w' => nx w') := fun b w6 nx he6 hb hnx =>
        Runs.store (o := 0 + j) (hb5.ext he6) Fx.zi4 rfl (by simp [Value.cells, Value.oneCell']) (by simp; omega) (fun w7 hc7 hz7 hb7 => (fun h => hnx w7 h.1 h.2) (fin2 b w6 w7 he6 hb hc7 hb7))
      refine ⟨fun ht => ⟨_, fun w2 h => h.cell ((hb64.chg hc5 (by omega)).cell rfl), ?_⟩, fun hf => ?_⟩
      · repeat ((try first | (refine z3 hX ?_; clear hX X) | (refine z2 hX ?_; clear hX X)); (first | refine zL fun X hX => ?_ | refine zH fun X hX => ?_ | refine zE fun X hX => ?_ | refine zl ?_ | refine zh ?_ | refine ze ?_); try simp only [oweC, oweP, opF, opH, ev, evs, evp, evo, Env.get, Env.set, putE, gdst, S0, S1, thenN, inBlockN, argEnv, builtinR, retE, fin, callR, reduceIte, Nat.reduceEqDiff, Nat.reduceAdd, reduceCtorEq, forall_const, Q23])
        refine ⟨by omega, by omega, ?_⟩
        repeat ((try first | (refine z3 hX ?_; clear hX X) | (refine z2 hX ?_; clear hX X)); (first | refine zL fun X hX => ?_ | refine zH fun X hX => ?_ | refine zE fun X hX => ?_ | refine zl ?_ | refine zh ?_ | refine ze ?_); try simp only [oweC, oweP, opF, opH, ev, evs, evp, evo, Env.get, Env.set, putE, gdst, S0, S1, thenN, inBlockN, argEnv, builtinR, retE, fin, callR, reduceIte, Nat.reduceEqDiff, Nat.reduceAdd, reduceCtorEq, forall_const, Q23])
        refine ⟨_, fun w2 h => by simpa using ((hb4.chg hc5 (by omega)).ext h).cell hgm, ?_⟩
        repeat ((try first | (refine z3 hX ?_; clear hX X) | (refine z2 hX ?_; clear hX X)); (first | refine zL fun X hX => ?_ | refine zH fun X hX => ?_ | refine zE fun X hX => ?_ | refine zl ?_ | refine zh ?_ | refine ze ?_); try simp only [oweC, oweP, opF, opH, ev, evs, evp, evo, Env.get, Env.set, putE, gdst, S0, S1, thenN, inBlockN, argEnv, builtinR, retE, fin, callR, reduceIte, Nat.reduceEqDiff, Nat.reduceAdd, reduceCtorEq, forall_const, Q23])
        refine ⟨by omega, by omega, ?_⟩
        repeat ((try first | (refine z3 hX ?_; clear hX X) | (refine z2 hX ?_; clear hX X)); (first | refine zL fun X hX => ?_ | refine zH fun X hX => ?_ | refine zE fun X hX => ?_ | refine zl ?_ | refine zh ?_ | refine ze ?_); try simp only [oweC, oweP, opF, opH, ev, evs, evp, evo, Env.get, Env.set, putE, gdst, S0, S1, thenN, inBlockN, argEnv, builtinR, retE, fin, callR, reduceIte, Nat.reduceEqDiff, Nat.reduceAdd, reduceCtorEq, forall_const, Q23])
        intro w6 he6
        repeat ((try first | (refine z3 hX ?_; clear hX X) | (refine z2 hX ?_; clear hX X)); (first | refine zL fun X hX => ?_ | refine zH fun X hX => ?_ | refine zE fun X hX => ?_ | refine zl ?_ | refine zh ?_ | refine ze ?_); try simp only [oweC, oweP, opF, opH, ev, evs, evp, evo, Env.get, Env.set, putE, gdst, S0, S1, thenN, inBlockN, argEnv, builtinR, retE, fin, callR, reduceIte, Nat.reduceEqDiff, Nat.reduceAdd, reduceCtorEq, forall_const, Q23])
        refine tail _ w6 _ he6 ?_ (fun w7 hc7 hb7 => ?_)
        · rw [hnew, List.getD_eq_getElem?_getD, ht, Bool.true_and]
          cases wrong <;> simp
        repeat ((try first | (refine z3 hX ?_; clear hX X) | (refine z2 hX ?_; clear hX X)); (first | refine zL fun X hX => ?_ | refine zH fun X hX => ?_ | refine zE fun X hX => ?_ | refine zl ?_ | refine zh ?_ | refine ze ?_); try simp only [oweC, oweP, opF, opH, ev, evs, evp, evo, Env.get, Env.set, putE, gdst, S0, S1, thenN, inBlockN, argEnv, builtinR, retE, fin, callR, reduceIte, Nat.reduceEqDiff, Nat.reduceAdd, reduceCtorEq, forall_const, Q23])
        refine hM1 _ _ _ ?_; clear hM1 M1
        refine ok_region rfl ?_
        repeat ((try first | (refine z3 hX ?_; clear hX X) | (refine z2 hX ?_; clear hX X)); (first | refine zL fun X hX => ?_ | refine zH fun X hX => ?_ | refine zE fun X hX => ?_ | refine zl ?_ | refine zh ?_ | refine ze ?_); try simp only [oweC, oweP, opF, opH, ev, evs, evp, evo, Env.get, Env.set, putE, gdst, S0, S1, thenN, inBlockN, argEnv, builtinR, retE, fin, callR, reduceIte, Nat.reduceEqDiff, Nat.reduceAdd, reduceCtorEq, forall_const, Q23])
        refine ⟨by simp only [inI]; omega, ?_⟩
        repeat ((try first | (refine z3 hX ?_; clear hX X) | (refine z2 hX ?_; clear hX X)); (first | refine zL fun X hX => ?_ | refine zH fun X hX => ?_ | refine zE fun X hX => ?_ | refine zl ?_ | refine zh ?_ | refine ze ?_); try simp only [oweC, oweP, opF, opH, ev, evs, evp, evo, Env.get, Env.set, putE, gdst, S0, S1, thenN, inBlockN, argEnv, builtinR, retE, fin, callR, reduceIte, Nat.reduceEqDiff, Nat.reduceAdd, reduceCtorEq, forall_const, Q23])
        exact ⟨j + 1, by simp [sub, Env.get], ⟨hc7, by omega, hb7⟩, by omega⟩
      · repeat ((try first | (refine z3 hX ?_; clear hX X) | (refine z2 hX ?_; clear hX X)); (first | refine zL fun X hX => ?_ | refine zH fun X hX => ?_ | refine zE fun X hX => ?_ | refine zl ?_ | refine zh ?_ | refine ze ?_); try simp only [oweC, oweP, opF, opH, ev, evs, evp, evo, Env.get, Env.set, putE, gdst, S0, S1, thenN, inBlockN, argEnv, builtinR, retE, fin, callR, reduceIte, Nat.reduceEqDiff, Nat.reduceAdd, reduceCtorEq, forall_const, Q23])
        refine ⟨by omega, by omega, ?_⟩
        repeat ((try first | (refine z3 hX ?_; clear hX X) | (refine z2 hX ?_; clear hX X)); (first | refine zL fun X hX => ?_ | refine zH fun X hX => ?_ | refine zE fun X hX => ?_ | refine zl ?_ | refine zh ?_ | refine ze ?_); try simp only [oweC, oweP, opF, opH, ev, evs, evp, evo, Env.get, Env.set, putE, gdst, S0, S1, thenN, inBlockN, argEnv, builtinR, retE, fin, callR, reduceIte, Nat.reduceEqDiff, Nat.reduceAdd, reduceCtorEq, forall_const, Q23])
        intro w6 he6
        repeat ((try first | (refine z3 hX ?_; clear hX X) | (refine z2 hX ?_; clear hX X)); (first | refine zL fun X hX => ?_ | refine zH fun X hX => ?_ | refine zE fun X hX => ?_ | refine zl ?_ | refine zh ?_ | refine ze ?_); try simp only [oweC, oweP, opF, opH, ev, evs, evp, evo, Env.get, Env.set, putE, gdst, S0, S1, thenN, inBlockN, argEnv, builtinR, retE, fin, callR, reduceIte, Nat.reduceEqDiff, Nat.reduceAdd, reduceCtorEq, forall_const, Q23])
        refine tail _ w6 _ he6 ?_ (fun w7 hc7 hb7 => ?_)
        · rw [hnew, List.getD_eq_getElem?_getD, hf, Bool.false_and]
        repeat ((try first | (refine z3 hX ?_; clear hX X) | (refine z2 hX ?_; clear hX X)); (first | refine zL fun X hX => ?_ | refine zH fun X hX => ?_ | refine zE fun X hX => ?_ | refine zl ?_ | refine zh ?_ | refine ze ?_); try simp only [oweC, oweP, opF, opH, ev, evs, evp, evo, Env.get, Env.set, putE, gdst, S0, S1, thenN, inBlockN, argEnv, builtinR, retE, fin, callR, reduceIte, Nat.reduceEqDiff, Nat.reduceAdd, reduceCtorEq, forall_const, Q23])
        refine hM1 _ _ _ ?_; clear hM1 M1
        refine ok_region rfl ?_
        repeat ((try first | (refine z3 hX ?_; clear hX X) | (refine z2 hX ?_; clear hX X)); (first | refine zL fun X hX => ?_ | refine zH fun X hX => ?_ | refine zE fun X hX => ?_ | refine zl ?_ | refine zh ?_ | refine ze ?_); try simp only [oweC, oweP, opF, opH, ev, evs, evp, evo, Env.get, Env.set, putE, gdst, S0, S1, thenN, inBlockN, argEnv, builtinR, retE, fin, callR, reduceIte, Nat.reduceEqDiff, Nat.reduceAdd, reduceCtorEq, forall_const, Q23])
        refine ⟨by simp only [inI]; omega, ?_⟩
        repeat ((try first | (refine z3 hX ?_; clear hX X) | (refine z2 hX ?_; clear hX X)); (first | refine zL fun X hX => ?_ | refine zH fun X hX => ?_ | refine zE fun X hX => ?_ | refine zl ?_ | refine zh ?_ | refine ze ?_); try simp only [oweC, oweP, opF, opH, ev, evs, evp, evo, Env.get, Env.set, putE, gdst, S0, S1, thenN, inBlockN, argEnv, builtinR, retE, fin, callR, reduceIte, Nat.reduceEqDiff, Nat.reduceAdd, reduceCtorEq, forall_const, Q23])
        exact ⟨j + 1, by simp [sub, Env.get], ⟨hc7, by omega, hb7⟩, by omega⟩
  rintro w5 ⟨hc5, hb5⟩
  have hbq5 : Blk w5 q _ 55 := hs4.blk.chg hc5 (by omega)
  have hq5 := hbq5.lt
  refine ok_seq (fun M hM => ok_region rfl ?_)
  try simp only [wpL, wpH, wpE, oweC, oweP, opF, opH, ev, evs, evp, evo, Env.get, Env.set, putE, gdst, S0, S1, thenN, inBlockN, argEnv, builtinR, retE, fin, callR, reduceIte, Nat.reduceEqDiff, Nat.reduceAdd, reduceCtorEq, forall_const, Q23]
  refine hM _ _ _ ?_; clear hM M
  refine ok_cond rfl (fun ht => ?_) (fun hf => ok_skip ?_)
  · refine ok_region rfl ?_
    try simp only [wpL, wpH, wpE, oweC, oweP, opF, opH, ev, evs, evp, evo, Env.get, Env.set, putE, gdst, S0, S1, thenN, inBlockN, argEnv, builtinR, retE, fin, callR, reduceIte, Nat.reduceEqDiff, Nat.reduceAdd, reduceCtorEq, forall_const, Q23]
    refine Runs.store (o := 0 + 2) hbq5 Fx.zi3 rfl (by simp [Value.cells, Value.oneCell']) (by simp) (fun w6 hc6 hz6 hb6 => ?_)
    try simp only [wpL, wpH, wpE, oweC, oweP, opF, opH, ev, evs, evp, evo, Env.get, Env.set, putE, gdst, S0, S1, thenN, inBlockN, argEnv, builtinR, retE, fin, callR, reduceIte, Nat.reduceEqDiff, Nat.reduceAdd, reduceCtorEq, forall_const, Q23]
    subst ht
    refine ⟨⟨?_, hq, hB, hqB, ?_, ?_⟩, ?_⟩
    · exact ((hs4.ext.chg_trans hc5 (fun k hk => by omega))).chg_trans hc6 (fun k hk => by omega)
    · simpa [splice, Value.cells] using hb6
    · exact hb5.chg hc6 (by omega)
    · exact ((he4.chg _).trans (hc5.mono (fun k _ h => .inr h))).trans (hc6.mono (fun k _ h => .inl h))
  · try simp only [wpL, wpH, wpE, oweC, oweP, opF, opH, ev, evs, evp, evo, Env.get, Env.set, putE, gdst, S0, S1, thenN, inBlockN, argEnv, builtinR, retE, fin, callR, reduceIte, Nat.reduceEqDiff, Nat.reduceAdd, reduceCtorEq, forall_const, Q23]
    subst hf
    refine ⟨⟨?_, hq, hB, hqB, ?_, hb5⟩, ?_⟩
    · exact hs4.ext.chg_trans hc5 (fun k hk => by omega)
    · simpa using hbq5
    · exact (he4.chg _).trans (hc5.mono (fun k _ h => .inr h))
end Go.Proofs.Ytafjfcameabbmaa
/- Plain: the game of questions. -/
set_option linter.unusedVariables false
set_option linter.unusedSimpArgs false
namespace Go.Proofs.Ytafjfcameabbmaa
open Go Go.Proofs.Vg Go.RowKit Dbg
namespace Dbg
theorem desc_out {ks : List (List Int)} {i : Nat} (h : ks.length ≤ i) : desc ks i = [] := by
  unfold desc; rw [show ks.length - i = 0 by omega]; rfl
/-- How often a number is a kid of the nodes of a list. -/
def kidn (ks : List (List Int)) (l : List Nat) (v : Nat) : Nat := (l.map fun u => (kidsOf ks u).count (v : Int)).sum
theorem kidn_append (ks : List (List Int)) (l l' : List Nat) (v : Nat) : kidn ks (l ++ l') v = kidn ks l v + kidn ks l' v := by simp [kidn]
theorem desc_count {ks : List (List Int)} (he : edgesB ks = true) (v : Nat) : ∀ (f i : Nat), ks.length - i ≤ f → i < ks.length → (desc ks i).count v = (if v = i then 1 else 0) + kidn ks (desc ks i) v
  | 0, i, hf, hi => by omega
  | f + 1, i, hf, hi => by
    have key : ∀ (l : List Int), (∀ k ∈ l, (i : Int) < k ∧ k < (ks.length : Int)) → (l.flatMap fun k => desc ks k.toNat).count v = l.count (v : Int) + kidn ks (l.flatMap fun k => desc ks k.toNat) v := by
      intro l hl
      induction l with
      | nil => simp [kidn]
      | cons k l ih =>
        have hk := hl k List.mem_cons_self
        rw [List.flatMap_cons, List.count_append, kidn_append, ih (fun k hk => hl k (List.mem_cons_of_mem _ hk)), desc_count he v f k.toNat (by omega) (by omega), List.count_cons]
        have : (k == (v : Int)) = decide (v = k.toNat) := by
          rw [Bool.eq_iff_iff]; simp; omega
        rw [this]
        by_cases h : v = k.toNat <;> simp [h] <;> omega
    rw [desc_eq he hi]
    rw [List.count_cons, key _ (fun k hk => kids_edge he hi hk)]
    have h1 : kidn ks (i :: (kidsOf ks i).flatMap fun k => desc ks k.toNat) v = (kidsOf ks i).count (v : Int) + kidn ks ((kidsOf ks i).flatMap fun k => desc ks k.toNat) v := by simp [kidn]
    rw [h1]
    by_cases h : v = i
    · subst h; simp; omega
    · have : (i == v) = false := by simp; omega
      simp [h, this]
/-- In a formed tree a node is a kid of one node at most. -/
theorem kid_one {ks : List (List Int)} (ho : onesB ks = true) {v : Nat} (hv : v < ks.length) (h0 : 0 < v) : ks.flatten.count (v : Int) = 1 := by
  simp only [onesB, List.all_eq_true, List.mem_range, Bool.or_eq_true, beq_iff_eq] at ho
  rcases ho v hv with h | h
  · omega
  · exact h
theorem count_flatten (ks : List (List Int)) (v : Int) : ks.flatten.count v = ((List.range ks.length).map fun u => (kidsOf ks u).count v).sum := by
  induction ks with
  | nil => simp
  | cons k ks ih =>
    rw [List.flatten_cons, List.count_append, ih, List.length_cons, List.range_succ_eq_map, List.map_cons, List.sum_cons, List.map_map]
    rfl
/-- A sum of numbers over a range, of which one is 1: the others are 0. -/
theorem sum_one (f : Nat → Nat) (n : Nat) (h : ((List.range n).map f).sum = 1) : ∃ p, p < n ∧ f p = 1 ∧ ∀ u, u < n → u ≠ p → f u = 0 := by
  induction n with
  | zero => simp at h
  | succ n ih =>
    rw [List.range_succ, List.map_append, List.sum_append] at h
    simp at h
    by_cases h0 : f n = 0
    · obtain ⟨p, hp, h1, h2⟩ := ih (by omega)
      refine ⟨p, by omega, h1, fun u hu hup => ?_⟩
      by_cases hun : u = n
      · rw [hun, h0]
      · exact h2 u (by omega) hup
    · have h00 : ((List.range n).map f).sum = 0 := by omega
      refine ⟨n, by omega, by omega, fun u hu hup => ?_⟩
      have hm : f u ∈ (List.range n).map f := List.mem_map.2 ⟨u, List.mem_range.2 (by omega), rfl⟩
      have := List.sum_eq_zero_iff_forall_eq_nat.1 h00 _ hm
      exact this
theorem parent {ks : List (List Int)} (he : edgesB ks = true) (ho : onesB ks = true) {v : Nat} (hv : v < ks.length) (h0 : 0 < v) :
    ∃ p, p < v ∧ (v : Int) ∈ kidsOf ks p ∧ ∀ l : List Nat, (∀ u ∈ l, u < ks.length) → kidn ks l v = l.count p := by
  have h1 := kid_one ho hv h0
  rw [count_flatten] at h1
  obtain ⟨p, hp, hp1, hp0⟩ := sum_one _ _ h1
  have hmem : (v : Int) ∈ kidsOf ks p := List.count_pos_iff.1 (by omega)
  have := kids_edge he hp hmem
  refine ⟨p, by omega, hmem, fun l hl => ?_⟩
  induction l with
  | nil => simp [kidn]
  | cons u l ih =>
    have ih := ih (fun u hu => hl u (List.mem_cons_of_mem _ hu))
    have hu := hl u List.mem_cons_self
    unfold kidn at ih ⊢
    rw [List.map_cons, List.sum_cons, ih, List.count_cons]
    by_cases hup : u = p
    · subst hup; simp; omega
    · have : (u == p) = false := by simpa using hup
      simp only [this]
      have := hp0 u hu hup
      rw [this]; simp
theorem desc_once {ks : List (List Int)} (he : edgesB ks = true) (ho : onesB ks = true) {i : Nat} (hi : i < ks.length) : ∀ v, v < ks.length → (desc ks i).count v ≤ 1 := by
  intro v
  induction v using Nat.strongRecOn with
  | _ v ih =>
    intro hv
    have hall : ∀ u ∈ desc ks i, u < ks.length := fun u hu => (desc_lt he _ i (Nat.le_refl _) hi u hu).2
    have hlow : ∀ u ∈ desc ks i, i ≤ u := fun u hu => (desc_lt he _ i (Nat.le_refl _) hi u hu).1
    rw [desc_count he v _ i (Nat.le_refl _) hi]
    by_cases h0 : v = 0
    · subst h0
      have : kidn ks (desc ks i) 0 = 0 := by
        unfold kidn
        have hz : ∀ u ∈ desc ks i, (kidsOf ks u).count ((0 : Nat) : Int) = 0 := fun u hu => by
          rw [List.count_eq_zero]
          intro hm
          have := kids_edge he (hall u hu) hm
          omega
        generalize desc ks i = l at hz
        induction l with
        | nil => rfl
        | cons u l ih2 => rw [List.map_cons, List.sum_cons, hz u List.mem_cons_self, ih2 (fun u hu => hz u (List.mem_cons_of_mem _ hu))]
      rw [this]; split <;> omega
    · obtain ⟨p, hpv, _, hk⟩ := parent he ho hv (by omega)
      rw [hk _ hall]
      by_cases hvi : v = i
      · have : (desc ks i).count p = 0 := by
          rw [List.count_eq_zero]
          intro hm
          have := hlow p hm
          omega
        rw [this]; split <;> omega
      · rw [if_neg hvi]
        have := ih p hpv (by omega)
        omega
theorem desc_nodup {ks : List (List Int)} (he : edgesB ks = true) (ho : onesB ks = true) (i : Nat) : (desc ks i).Nodup := by
  rcases Nat.lt_or_ge i ks.length with hi | hi
  · rw [List.nodup_iff_count]
    intro v
    by_cases hm : v ∈ desc ks i
    · exact desc_once he ho hi v (desc_lt he _ i (Nat.le_refl _) hi v hm).2
    · rw [List.count_eq_zero.2 hm]; omega
  · rw [desc_out hi]; exact List.nodup_nil
theorem nodup_le {l : List Nat} {n : Nat} (h : l.Nodup) (hl : ∀ v ∈ l, v < n) : l.length ≤ n := by
  have h1 : l ⊆ List.range n := fun v hv => List.mem_range.2 (hl v hv)
  have := List.Nodup.length_le_of_subset h h1
  simpa using this
theorem desc_mem {ks : List (List Int)} (he : edgesB ks = true) {i : Nat} (hi : i < ks.length) {v : Nat} : v ∈ desc ks i ↔ v = i ∨ ∃ u ∈ desc ks i, (v : Int) ∈ kidsOf ks u := by
  have h1 := desc_count he v _ i (Nat.le_refl _) hi
  constructor
  · intro h
    by_cases hv : v = i
    · exact .inl hv
    · refine .inr ?_
      have hp : 0 < (desc ks i).count v := List.count_pos_iff.2 h
      rw [h1, if_neg hv, Nat.zero_add] at hp
      unfold kidn at hp
      generalize desc ks i = l at hp
      induction l with
      | nil => simp at hp
      | cons u l ih =>
        rw [List.map_cons, List.sum_cons] at hp
        by_cases hc : 0 < (kidsOf ks u).count (v : Int)
        · exact ⟨u, List.mem_cons_self, List.count_pos_iff.1 hc⟩
        · obtain ⟨u', hu', hk⟩ := ih (by omega)
          exact ⟨u', List.mem_cons_of_mem _ hu', hk⟩
  · rintro (rfl | ⟨u, hu, hk⟩)
    · rw [desc_eq he hi]; exact List.mem_cons_self
    · refine List.count_pos_iff.1 ?_
      rw [h1]
      have : 0 < kidn ks (desc ks i) v := by
        unfold kidn
        have hpos : 0 < (kidsOf ks u).count (v : Int) := List.count_pos_iff.2 hk
        generalize desc ks i = l at hu
        induction l with
        | nil => cases hu
        | cons u' l ih =>
          rw [List.map_cons, List.sum_cons]
          rcases List.mem_cons.1 hu with rfl | h
          · omega
          · have := ih h; omega
      omega
theorem desc_self {ks : List (List Int)} (he : edgesB ks = true) {i : Nat} (hi : i < ks.length) : i ∈ desc ks i := (desc_mem he hi).2 (.inl rfl)
theorem desc_lt' {ks : List (List Int)} (he : edgesB ks = true) {i v : Nat} (hi : i < ks.length) (hv : v ∈ desc ks i) : i ≤ v ∧ v < ks.length := desc_lt he _ i (Nat.le_refl _) hi v hv
theorem desc_trans {ks : List (List Int)} (he : edgesB ks = true) {i j : Nat} (hi : i < ks.length) (hj : j ∈ desc ks i) : ∀ v, v ∈ desc ks j → v ∈ desc ks i := by
  have hjl := (desc_lt' he hi hj).2
  intro v
  induction v using Nat.strongRecOn with
  | _ v ih =>
    intro hv
    rcases (desc_mem he hjl).1 hv with rfl | ⟨u, hu, hk⟩
    · exact hj
    · have hul := (desc_lt' he hjl hu).2
      have := kids_edge he hul hk
      exact (desc_mem he hi).2 (.inr ⟨u, ih u (by omega) hu, hk⟩)
theorem desc_all {ks : List (List Int)} (he : edgesB ks = true) (ho : onesB ks = true) : ∀ v, v < ks.length → v ∈ desc ks 0 := by
  intro v
  induction v using Nat.strongRecOn with
  | _ v ih =>
    intro hv
    by_cases h0 : v = 0
    · subst h0; exact desc_self he hv
    · obtain ⟨p, hp, hk, _⟩ := parent he ho hv (by omega)
      exact (desc_mem he (by omega)).2 (.inr ⟨p, ih p hp (by omega), hk⟩)

/-- The weight of a node. -/
def wtN (ks : List (List Int)) (sus : List Bool) (i : Nat) : Nat := (desc ks i).countP fun v => sus.getD v false
def wtZ (ks : List (List Int)) (sus : List Bool) (i : Nat) : Int := (wtN ks sus i : Nat)
theorem wt_rec {ks : List (List Int)} (he : edgesB ks = true) (sus : List Bool) {i : Nat} (hi : i < ks.length) : wtZ ks sus i = (if sus.getD i false then 1 else 0) + ((kidsOf ks i).map fun k => wtZ ks sus k.toNat).sum := by
  have hl : ∀ l : List Int, (((l.flatMap fun k => desc ks k.toNat).countP fun v => sus.getD v false : Nat) : Int) = (l.map fun k => wtZ ks sus k.toNat).sum := by
    intro l
    induction l with
    | nil => rfl
    | cons k l ih => rw [List.flatMap_cons, List.countP_append, List.map_cons, List.sum_cons, ← ih]; simp [wtZ, wtN]
  unfold wtZ
  rw [wtN, desc_eq he hi, List.countP_cons]
  have := hl (kidsOf ks i)
  unfold wtZ at this
  rw [← this]
  split <;> simp <;> omega
theorem wt_le {ks : List (List Int)} (he : edgesB ks = true) (ho : onesB ks = true) (sus : List Bool) (i : Nat) : 0 ≤ wtZ ks sus i ∧ wtZ ks sus i ≤ (ks.length : Int) := by
  have h1 : wtN ks sus i ≤ (desc ks i).length := List.countP_le_length
  have h2 : (desc ks i).length ≤ ks.length := by
    rcases Nat.lt_or_ge i ks.length with hi | hi
    · exact nodup_le (desc_nodup he ho i) (fun v hv => (desc_lt' he hi hv).2)
    · rw [desc_out hi]; simp
  unfold wtZ
  omega
end Dbg
end Go.Proofs.Ytafjfcameabbmaa
/- Plain: the states of the game. -/
set_option linter.unusedVariables false
set_option linter.unusedSimpArgs false
namespace Go.Proofs.Ytafjfcameabbmaa
open Go Go.Proofs.Vg Go.RowKit Dbg
namespace Dbg
structure Good (ks : List (List Int)) (sus : List Bool) (root : Nat) : Prop where
  len : sus.length = ks.length
  lt : root < ks.length
  at_ : sus.getD root false = true
  sub : ∀ v, sus.getD v false = true → v ∈ desc ks root
theorem Good.first {ks : List (List Int)} (he : edgesB ks = true) (ho : onesB ks = true) (h : 0 < ks.length) : Good ks (List.replicate ks.length true) 0 :=
  ⟨by simp, h, by simp [List.getD_eq_getElem?_getD, List.getElem?_replicate, h], fun v hv => by
    refine desc_all he ho v ?_
    rcases Nat.lt_or_ge v ks.length with h | h
    · exact h
    · simp [List.getD_eq_getElem?_getD, List.getElem?_replicate, Nat.not_lt.2 h] at hv⟩
def quest (ks : List (List Int)) (sus : List Bool) (root : Nat) : Int := (qfold sus root (wtZ ks sus) ((sus.count true : Nat) : Int) ks.length).1
/-- What is picked was there to be picked. -/
theorem qfold_spec (sus : List Bool) (root : Nat) (wt : Nat → Int) (all : Int) : ∀ n, (qfold sus root wt all n).1 = -1 ∧ (∀ i, i < n → sus.getD i false = true → i = root) ∨ ∃ i : Nat, (qfold sus root wt all n).1 = (i : Int) ∧ i < n ∧ sus.getD i false = true ∧ i ≠ root
  | 0 => .inl ⟨rfl, fun i h => absurd h (Nat.not_lt_zero _)⟩
  | n + 1 => by
    rw [qfold_succ]
    have ih := qfold_spec sus root wt all n
    generalize qfold sus root wt all n = p at *
    unfold qstep
    by_cases hs : sus.getD n false = false ∨ n = root
    · rw [if_pos hs]
      rcases ih with ⟨h1, h2⟩ | ⟨i, h1, h2, h3, h4⟩
      · refine .inl ⟨h1, fun i hi hsi => ?_⟩
        by_cases hin : i = n
        · subst hin
          rcases hs with hs | hs
          · rw [hs] at hsi; cases hsi
          · exact hs
        · exact h2 i (by omega) hsi
      · exact .inr ⟨i, h1, by omega, h3, h4⟩
    · rw [if_neg hs]
      have hn1 : sus.getD n false = true := by
        cases h : sus.getD n false with
        | true => rfl
        | false => exact absurd (.inl h) hs
      have hn2 : n ≠ root := fun h => hs (.inr h)
      by_cases hc : p.1 < 0 ∨ far (wt n) all < p.2
      · rw [if_pos hc]
        exact .inr ⟨n, rfl, by omega, hn1, hn2⟩
      · rw [if_neg hc]
        rcases ih with ⟨h1, h2⟩ | ⟨i, h1, h2, h3, h4⟩
        · rw [h1] at hc; exact absurd (.inl (by decide)) hc
        · exact .inr ⟨i, h1, by omega, h3, h4⟩
theorem quest_spec (ks : List (List Int)) (sus : List Bool) (root : Nat) : quest ks sus root = -1 ∧ (∀ i, i < ks.length → sus.getD i false = true → i = root) ∨ ∃ i : Nat, quest ks sus root = (i : Int) ∧ i < ks.length ∧ sus.getD i false = true ∧ i ≠ root := qfold_spec _ _ _ _ _
theorem getD_out {sus : List Bool} {v : Nat} (h : sus.length ≤ v) : sus.getD v false = false := by
  rw [List.getD_eq_getElem?_getD, List.getElem?_eq_none h]; rfl
theorem newSus_getD' (ks : List (List Int)) (sus : List Bool) (qi : Nat) (wrong : Bool) (v : Nat) : (newSus ks sus qi wrong).getD v false = newAt ks sus qi wrong v := by
  rcases Nat.lt_or_ge v sus.length with h | h
  · exact newSus_getD _ _ _ _ _ h
  · rw [getD_out (by simpa using h)]
    unfold newAt
    rw [getD_out h]; rfl
/-- A question's answer. -/
theorem Good.step {ks : List (List Int)} (he : edgesB ks = true) {sus : List Bool} {root qi : Nat} (h : Good ks sus root) (hq : sus.getD qi false = true) (hqr : qi ≠ root) (wrong : Bool) : Good ks (newSus ks sus qi wrong) (if wrong = true then qi else root) := by
  have hqd := h.sub qi hq
  have hql := desc_lt' he h.lt hqd
  have hrq : root ∉ desc ks qi := fun hm => by have := desc_lt' he hql.2 hm; omega
  cases wrong with
  | true =>
    refine ⟨by simpa using h.len, by simpa using hql.2, ?_, fun v hv => ?_⟩
    · simp only [if_true]; rw [newSus_getD']; unfold newAt; rw [hq]; simp [desc_self he hql.2]
    · rw [newSus_getD'] at hv; unfold newAt at hv
      simp only [Bool.and_eq_true] at hv
      simpa using hv.2
  | false =>
    refine ⟨by simpa using h.len, by simpa using h.lt, ?_, fun v hv => ?_⟩
    · simp only [Bool.false_eq_true, if_false]; rw [newSus_getD']; unfold newAt; rw [h.at_]; simp [hrq]
    · rw [newSus_getD'] at hv; unfold newAt at hv
      simp only [Bool.and_eq_true] at hv
      simpa using h.sub v hv.1
/-- Fewer suspects. -/
theorem count_getD (l : List Bool) : l.count true = (List.range l.length).countP fun v => l.getD v false := by
  induction l with
  | nil => rfl
  | cons b l ih =>
    rw [List.count_cons, ih, List.length_cons, List.range_succ_eq_map, List.countP_cons, List.countP_map]
    have : (List.range l.length).countP ((fun v => (b :: l).getD v false) ∘ Nat.succ) = (List.range l.length).countP fun v => l.getD v false := by
      congr 1
    rw [this]
    cases b <;> simp
theorem countP_lt {p q : Nat → Bool} {l : List Nat} (h : ∀ v, p v = true → q v = true) {x : Nat} (hx : x ∈ l) (hp : p x = false) (hq : q x = true) : l.countP p < l.countP q := by
  induction l with
  | nil => cases hx
  | cons y l ih =>
    rw [List.countP_cons, List.countP_cons]
    rcases List.mem_cons.1 hx with rfl | hx
    · have : l.countP p ≤ l.countP q := List.countP_mono_left (fun v _ => h v)
      simp [hp, hq]; omega
    · have := ih hx
      by_cases hy : p y = true
      · simp [hy, h y hy]; omega
      · have : p y = false := by simpa using hy
        simp [this]; split <;> omega
theorem Good.fewer {ks : List (List Int)} (he : edgesB ks = true) {sus : List Bool} {root qi : Nat} (h : Good ks sus root) (hq : sus.getD qi false = true) (hqr : qi ≠ root) (wrong : Bool) : (newSus ks sus qi wrong).count true < sus.count true := by
  have hqd := h.sub qi hq
  have hql := desc_lt' he h.lt hqd
  have hrq : root ∉ desc ks qi := fun hm => by have := desc_lt' he hql.2 hm; omega
  rw [count_getD, count_getD, newSus_length]
  have hp : ∀ v, (newSus ks sus qi wrong).getD v false = true → sus.getD v false = true := fun v hv => by
    rw [newSus_getD'] at hv; unfold newAt at hv
    simp only [Bool.and_eq_true] at hv
    exact hv.1
  cases wrong with
  | true =>
    refine countP_lt hp (List.mem_range.2 (by rw [h.len]; exact h.lt) : root ∈ _) ?_ h.at_
    rw [newSus_getD']; unfold newAt; simp [hrq]
  | false =>
    refine countP_lt hp (List.mem_range.2 (by rw [h.len]; exact hql.2) : qi ∈ _) ?_ hq
    rw [newSus_getD']; unfold newAt; simp [desc_self he hql.2]
/-- The number of suspects is the root's weight. -/
theorem Good.all {ks : List (List Int)} (he : edgesB ks = true) (ho : onesB ks = true) {sus : List Bool} {root : Nat} (h : Good ks sus root) : wtN ks sus root = sus.count true := by
  rw [count_getD, wtN]
  have hn := desc_nodup he ho root
  have hl : ∀ v ∈ desc ks root, v < sus.length := fun v hv => by rw [h.len]; exact (desc_lt' he h.lt hv).2
  rw [List.countP_eq_length_filter, List.countP_eq_length_filter]
  refine Nat.le_antisymm ?_ ?_
  · refine List.Nodup.length_le_of_subset (List.Nodup.sublist List.filter_sublist hn) ?_
    intro v hv
    simp only [List.mem_filter] at hv ⊢
    exact ⟨List.mem_range.2 (hl v hv.1), hv.2⟩
  · refine List.Nodup.length_le_of_subset (List.Nodup.sublist List.filter_sublist List.nodup_range) ?_
    intro v hv
    simp only [List.mem_filter] at hv ⊢
    exact ⟨h.sub v hv.2, hv.2⟩

/-! The game: after k questions. -/
structure St where
  sus : List Bool
  root : Nat
  asked : List Int
def St.q (ks : List (List Int)) (s : St) : Int := quest ks s.sus s.root
def St.next (ks : List (List Int)) (ans : Nat → Bool) (s : St) : St :=
  { sus := newSus ks s.sus (s.q ks).toNat (ans (s.q ks).toNat), root := if ans (s.q ks).toNat = true then (s.q ks).toNat else s.root, asked := s.asked ++ [s.q ks] }
def st (ks : List (List Int)) (ans : Nat → Bool) : Nat → St
  | 0 => { sus := List.replicate ks.length true, root := 0, asked := [] }
  | k + 1 => (st ks ans k).next ks ans
/-- k questions are asked. -/
def Asks (ks : List (List Int)) (ans : Nat → Bool) (k : Nat) : Prop := ∀ j, j < k → 0 ≤ (st ks ans j).q ks
def Ends (ks : List (List Int)) (ans : Nat → Bool) (k : Nat) : Prop := Asks ks ans k ∧ (st ks ans k).q ks < 0
theorem Ends.same {ks : List (List Int)} {ans : Nat → Bool} {k l : Nat} (h : Ends ks ans k) (h' : Ends ks ans l) : k = l := by
  rcases Nat.lt_trichotomy k l with hlt | heq | hgt
  · have := h'.1 k hlt; have := h.2; omega
  · exact heq
  · have := h.1 l hgt; have := h'.2; omega
theorem q_pos {ks : List (List Int)} {s : St} (h : 0 ≤ s.q ks) : ∃ i : Nat, s.q ks = (i : Int) ∧ i < ks.length ∧ s.sus.getD i false = true ∧ i ≠ s.root := by
  rcases quest_spec ks s.sus s.root with ⟨h1, _⟩ | h1
  · unfold St.q at h; rw [h1] at h; exact absurd h (by decide)
  · exact h1
theorem st_good {ks : List (List Int)} (he : edgesB ks = true) (ho : onesB ks = true) (h0 : 0 < ks.length) (ans : Nat → Bool) : ∀ k, Asks ks ans k → Good ks (st ks ans k).sus (st ks ans k).root
  | 0, _ => Good.first he ho h0
  | k + 1, h => by
    have ih := st_good he ho h0 ans k (fun j hj => h j (by omega))
    obtain ⟨i, hq, hi, hs, hr⟩ := q_pos (h k (by omega))
    simp only [st, St.next, hq, Int.toNat_natCast]
    exact ih.step he hs hr _
theorem st_fewer {ks : List (List Int)} (he : edgesB ks = true) (ho : onesB ks = true) (h0 : 0 < ks.length) (ans : Nat → Bool) {k : Nat} (h : Asks ks ans (k + 1)) : (st ks ans (k + 1)).sus.count true < (st ks ans k).sus.count true := by
  have ih := st_good he ho h0 ans k (fun j hj => h j (by omega))
  obtain ⟨i, hq, hi, hs, hr⟩ := q_pos (h k (by omega))
  simp only [st, St.next, hq, Int.toNat_natCast]
  exact ih.fewer he hs hr _
theorem asked_length {ks : List (List Int)} (ans : Nat → Bool) : ∀ k, (st ks ans k).asked.length = k
  | 0 => rfl
  | k + 1 => by simp [st, St.next, asked_length ans k]
theorem asks_lt {ks : List (List Int)} (he : edgesB ks = true) (ho : onesB ks = true) (h0 : 0 < ks.length) (ans : Nat → Bool) : ∀ k, Asks ks ans k → k + (st ks ans k).sus.count true ≤ ks.length
  | 0, _ => by simp [st]
  | k + 1, h => by
    have := st_fewer he ho h0 ans h
    have := asks_lt he ho h0 ans k (fun j hj => h j (by omega))
    omega
end Dbg
end Go.Proofs.Ytafjfcameabbmaa
/- debug.Blame. -/
set_option linter.unusedVariables false
set_option linter.unusedSimpArgs false
namespace Go.Proofs.Ytafjfcameabbmaa
open Go Go.Proofs.Vg Go.RowKit Dbg

/-- What is owned stays when other blocks change. -/
theorem owns_chg {w w' : World} {base sz n : Nat} {e : TypeId} {v : Value} {xs : List Value} {S : Nat → Prop} (h : w.ownsRow base e sz v n xs) (hc : Chg S w w') (hs : ∀ k, base ≤ k → k < w.heap.size → ¬ S k) : w'.ownsRow base e sz v n xs := by
  refine ⟨h.1, ?_⟩
  rcases h.2 with h1 | ⟨g, cap, cur, rfl, hb, hg, hr⟩
  · exact .inl h1
  · have hlt := (Array.getElem?_eq_some_iff.1 hg).1
    exact .inr ⟨g, cap, cur, rfl, hb, (hc.block g hlt (hs g hb hlt)).trans hg, hr⟩
theorem iv_flat (xs : List Int) : iv xs = (ints xs).flatten := by
  induction xs with
  | nil => rfl
  | cons x xs ih =>
    show _ :: iv xs = (_ :: ints xs).flatten
    rw [List.flatten_cons, ← ih]; rfl
theorem own_slI {w : World} {base n : Nat} {e : TypeId} {v : Value} {xs : List Int} (h : w.ownsRow base e 1 v n (iv xs)) (hn : xs.length = n) (hb : n ≤ 140737488355328) : SlI w v xs :=
  Sli.of_own h (iv_flat xs) (by simp [ints]) (by simpa using hn) hb

/-- What Blame returns. -/
def BlameR (ks : List (List Int)) (ws : List Bool) (r : Int) (asked : List Int) (e : Int) : Prop :=
  if formedB ks = true ∧ ws.length = ks.length then
    if ws.getD 0 false = true then ∃ k, Dbg.Ends ks (fun v => ws.getD v false) k ∧ r = ((st ks (fun v => ws.getD v false) k).root : Int) ∧ asked = (st ks (fun v => ws.getD v false) k).asked ∧ e = 0
    else r = 0 ∧ asked = [] ∧ e = 22
  else r = 0 ∧ asked = [] ∧ e = 2
theorem BlameR.same {ks : List (List Int)} {ws : List Bool} {r r' e e' : Int} {a a' : List Int} (h : BlameR ks ws r a e) (h' : BlameR ks ws r' a' e') : r = r' ∧ a = a' ∧ e = e' := by
  unfold BlameR at h h'
  split at h
  · rename_i h1
    rw [if_pos h1] at h'
    split at h
    · rename_i h2
      rw [if_pos h2] at h'
      obtain ⟨k, hk, rfl, rfl, rfl⟩ := h
      obtain ⟨l, hl, rfl, rfl, rfl⟩ := h'
      rw [hk.same hl]
      exact ⟨rfl, rfl, rfl⟩
    · rename_i h2
      rw [if_neg h2] at h'
      obtain ⟨rfl, rfl, rfl⟩ := h
      obtain ⟨rfl, rfl, rfl⟩ := h'
      exact ⟨rfl, rfl, rfl⟩
  · rename_i h1
    rw [if_neg h1] at h'
    obtain ⟨rfl, rfl, rfl⟩ := h
    obtain ⟨rfl, rfl, rfl⟩ := h'
    exact ⟨rfl, rfl, rfl⟩
theorem formedB_parts {ks : List (List Int)} (h : formedB ks = true) : 0 < ks.length ∧ edgesB ks = true ∧ onesB ks = true := by
  simp only [formedB, Bool.and_eq_true, decide_eq_true_eq] at h
  exact ⟨h.1.1, h.1.2, h.2⟩

-- -- function 10
set_option maxHeartbeats 2000000 in
set_option maxRecDepth 4000 in
theorem blame_ok (w : World) (vn vw : Value) (ks : List (List Int)) (ws : List Bool) (hn : NodesG w vn ks) (hw : SlB w vw ws) (hs : ks.length + ks.flatten.length ≤ 1000) :
    Rets Try.prog 10 [vn, vw] w (fun v w' => Ext w w' ∧ ∃ (r e : Int) (va : Value) (asked : List Int), v = .tuple #[.int .i64 r, va, .int .i64 e] ∧ SlI w' va asked ∧ BlameR ks ws r asked e) := by
  have hnil : ∀ w, SlI w (.slice none 0 0) [] := fun w => ⟨none, 0, rfl, by simp, fun j row hj => by simp [ints] at hj⟩
  obtain ⟨A, cp, rfl, hlen, -⟩ := hn.at_
  obtain ⟨Aw, cw, rfl, hwl, hwc⟩ := hw.at_
  refine rets_of_ok Try.func10 rfl rfl ?_
  refine ok_seq (fun M hM => ok_region rfl ?_); repeat ((try first | (refine z3 hX ?_; clear hX X) | (refine z2 hX ?_; clear hX X)); (first | refine zL fun X hX => ?_ | refine zH fun X hX => ?_ | refine zE fun X hX => ?_ | refine zl ?_ | refine zh ?_ | refine ze ?_); try simp only [oweC, oweP, opF, opH, ev, evs, evp, evo, Env.get, Env.set, putE, gdst, S0, S1, thenN, inBlockN, argEnv, builtinR, retE, fin, callR, reduceIte, Nat.reduceEqDiff, Nat.reduceAdd, reduceCtorEq, forall_const, Q10])
  refine hM _ _ _ ?_; clear hM M
  refine ok_join [(0, .slice A ks.length cp), (1, .slice Aw ws.length cw)] (fun w' => Ext w w' ∧ formedB ks = true ∧ ws.length = ks.length) ?_ ?_
  · refine ok_seq (fun M hM => ok_region rfl ?_)
    repeat ((try first | (refine z3 hX ?_; clear hX X) | (refine z2 hX ?_; clear hX X)); (first | refine zL fun X hX => ?_ | refine zH fun X hX => ?_ | refine zE fun X hX => ?_ | refine zl ?_ | refine zh ?_ | refine ze ?_); try simp only [oweC, oweP, opF, opH, ev, evs, evp, evo, Env.get, Env.set, putE, gdst, S0, S1, thenN, inBlockN, argEnv, builtinR, retE, fin, callR, reduceIte, Nat.reduceEqDiff, Nat.reduceAdd, reduceCtorEq, forall_const, Q10])
    refine Inv.call Fx.en20 (formed_ok w _ ks hn hs) ?_
    rintro v w1 ⟨rfl, he1⟩
    repeat ((try first | (refine z3 hX ?_; clear hX X) | (refine z2 hX ?_; clear hX X)); (first | refine zL fun X hX => ?_ | refine zH fun X hX => ?_ | refine zE fun X hX => ?_ | refine zl ?_ | refine zh ?_ | refine ze ?_); try simp only [oweC, oweP, opF, opH, ev, evs, evp, evo, Env.get, Env.set, putE, gdst, S0, S1, thenN, inBlockN, argEnv, builtinR, retE, fin, callR, reduceIte, Nat.reduceEqDiff, Nat.reduceAdd, reduceCtorEq, forall_const, Q10])
    refine ⟨fun hf => ?_, fun hf => ?_⟩
    · have hf' : formedB ks = true := by simpa using hf
      repeat ((try first | (refine z3 hX ?_; clear hX X) | (refine z2 hX ?_; clear hX X)); (first | refine zL fun X hX => ?_ | refine zH fun X hX => ?_ | refine zE fun X hX => ?_ | refine zl ?_ | refine zh ?_ | refine ze ?_); try simp only [oweC, oweP, opF, opH, ev, evs, evp, evo, Env.get, Env.set, putE, gdst, S0, S1, thenN, inBlockN, argEnv, builtinR, retE, fin, callR, reduceIte, Nat.reduceEqDiff, Nat.reduceAdd, reduceCtorEq, forall_const, Q10])
      refine hM _ _ _ ?_; clear hM M
      refine ok_ifn rfl (fun hc => ?_) (fun hc => ok_skip ?_)
      · refine ok_seq (fun M hM => ok_region rfl ?_); repeat ((try first | (refine z3 hX ?_; clear hX X) | (refine z2 hX ?_; clear hX X)); (first | refine zL fun X hX => ?_ | refine zH fun X hX => ?_ | refine zE fun X hX => ?_ | refine zl ?_ | refine zh ?_ | refine ze ?_); try simp only [oweC, oweP, opF, opH, ev, evs, evp, evo, Env.get, Env.set, putE, gdst, S0, S1, thenN, inBlockN, argEnv, builtinR, retE, fin, callR, reduceIte, Nat.reduceEqDiff, Nat.reduceAdd, reduceCtorEq, forall_const, Q10])
        refine hM _ _ _ ?_; clear hM M
        refine ok_ret ?_
        try simp only [wpL, wpH, wpE, oweC, oweP, opF, opH, ev, evs, evp, evo, Env.get, Env.set, putE, gdst, S0, S1, thenN, inBlockN, argEnv, builtinR, retE, fin, callR, reduceIte, Nat.reduceEqDiff, Nat.reduceAdd, reduceCtorEq, forall_const, Q10]
        have hne : ¬ ws.length = ks.length := by omega
        exact ⟨he1, _, _, _, [], rfl, hnil _, by simp [BlameR, hne]⟩
      · try simp only [wpL, wpH, wpE, oweC, oweP, opF, opH, ev, evs, evp, evo, Env.get, Env.set, putE, gdst, S0, S1, thenN, inBlockN, argEnv, builtinR, retE, fin, callR, reduceIte, Nat.reduceEqDiff, Nat.reduceAdd, reduceCtorEq, forall_const, Q10]
        refine ⟨by simp [sub, Env.get], he1, hf', by omega⟩
    · have hf' : formedB ks = false := by simpa using hf
      repeat ((try first | (refine z3 hX ?_; clear hX X) | (refine z2 hX ?_; clear hX X)); (first | refine zL fun X hX => ?_ | refine zH fun X hX => ?_ | refine zE fun X hX => ?_ | refine zl ?_ | refine zh ?_ | refine ze ?_); try simp only [oweC, oweP, opF, opH, ev, evs, evp, evo, Env.get, Env.set, putE, gdst, S0, S1, thenN, inBlockN, argEnv, builtinR, retE, fin, callR, reduceIte, Nat.reduceEqDiff, Nat.reduceAdd, reduceCtorEq, forall_const, Q10])
      refine hM _ _ _ ?_; clear hM M
      refine ok_cond rfl (fun _ => ?_) (fun h => by cases h)
      refine ok_seq (fun M hM => ok_region rfl ?_); repeat ((try first | (refine z3 hX ?_; clear hX X) | (refine z2 hX ?_; clear hX X)); (first | refine zL fun X hX => ?_ | refine zH fun X hX => ?_ | refine zE fun X hX => ?_ | refine zl ?_ | refine zh ?_ | refine ze ?_); try simp only [oweC, oweP, opF, opH, ev, evs, evp, evo, Env.get, Env.set, putE, gdst, S0, S1, thenN, inBlockN, argEnv, builtinR, retE, fin, callR, reduceIte, Nat.reduceEqDiff, Nat.reduceAdd, reduceCtorEq, forall_const, Q10])
      refine hM _ _ _ ?_; clear hM M
      refine ok_ret ?_
      try simp only [wpL, wpH, wpE, oweC, oweP, opF, opH, ev, evs, evp, evo, Env.get, Env.set, putE, gdst, S0, S1, thenN, inBlockN, argEnv, builtinR, retE, fin, callR, reduceIte, Nat.reduceEqDiff, Nat.reduceAdd, reduceCtorEq, forall_const, Q10]
      exact ⟨he1, _, _, _, [], rfl, hnil _, by simp [BlameR, hf']⟩
  rintro w1 ⟨he1, hfm, hwn⟩
  obtain ⟨h0, hed, hon⟩ := formedB_parts hfm
  obtain ⟨bw, ow, hAw, hcw0⟩ := hwc 0 (by omega)
  have hg0 : ws.getD 0 false = ws[0]'(by omega) := by simp [List.getD_eq_getElem?_getD, show 0 < ws.length by omega]
  refine ok_join [(0, .slice A ks.length cp), (1, .slice Aw ws.length cw)] (fun w' => w' = w1 ∧ ws.getD 0 false = true) ?_ ?_
  · subst hAw
    refine ok_seq (fun M hM => ok_region rfl ?_); repeat ((try first | (refine z3 hX ?_; clear hX X) | (refine z2 hX ?_; clear hX X)); (first | refine zL fun X hX => ?_ | refine zH fun X hX => ?_ | refine zE fun X hX => ?_ | refine zl ?_ | refine zh ?_ | refine ze ?_); try simp only [oweC, oweP, opF, opH, ev, evs, evp, evo, Env.get, Env.set, putE, gdst, S0, S1, thenN, inBlockN, argEnv, builtinR, retE, fin, callR, reduceIte, Nat.reduceEqDiff, Nat.reduceAdd, reduceCtorEq, forall_const, Q10])
    refine ⟨by omega, by omega, ?_⟩
    repeat ((try first | (refine z3 hX ?_; clear hX X) | (refine z2 hX ?_; clear hX X)); (first | refine zL fun X hX => ?_ | refine zH fun X hX => ?_ | refine zE fun X hX => ?_ | refine zl ?_ | refine zh ?_ | refine ze ?_); try simp only [oweC, oweP, opF, opH, ev, evs, evp, evo, Env.get, Env.set, putE, gdst, S0, S1, thenN, inBlockN, argEnv, builtinR, retE, fin, callR, reduceIte, Nat.reduceEqDiff, Nat.reduceAdd, reduceCtorEq, forall_const, Q10])
    refine ⟨_, he1.cell (by simpa using hcw0), ?_⟩
    repeat ((try first | (refine z3 hX ?_; clear hX X) | (refine z2 hX ?_; clear hX X)); (first | refine zL fun X hX => ?_ | refine zH fun X hX => ?_ | refine zE fun X hX => ?_ | refine zl ?_ | refine zh ?_ | refine ze ?_); try simp only [oweC, oweP, opF, opH, ev, evs, evp, evo, Env.get, Env.set, putE, gdst, S0, S1, thenN, inBlockN, argEnv, builtinR, retE, fin, callR, reduceIte, Nat.reduceEqDiff, Nat.reduceAdd, reduceCtorEq, forall_const, Q10])
    refine hM _ _ _ ?_; clear hM M
    refine ok_cond rfl (fun hc => ?_) (fun hc => ok_skip ?_)
    · refine ok_seq (fun M hM => ok_region rfl ?_); repeat ((try first | (refine z3 hX ?_; clear hX X) | (refine z2 hX ?_; clear hX X)); (first | refine zL fun X hX => ?_ | refine zH fun X hX => ?_ | refine zE fun X hX => ?_ | refine zl ?_ | refine zh ?_ | refine ze ?_); try simp only [oweC, oweP, opF, opH, ev, evs, evp, evo, Env.get, Env.set, putE, gdst, S0, S1, thenN, inBlockN, argEnv, builtinR, retE, fin, callR, reduceIte, Nat.reduceEqDiff, Nat.reduceAdd, reduceCtorEq, forall_const, Q10])
      refine hM _ _ _ ?_; clear hM M
      refine ok_ret ?_
      try simp only [wpL, wpH, wpE, oweC, oweP, opF, opH, ev, evs, evp, evo, Env.get, Env.set, putE, gdst, S0, S1, thenN, inBlockN, argEnv, builtinR, retE, fin, callR, reduceIte, Nat.reduceEqDiff, Nat.reduceAdd, reduceCtorEq, forall_const, Q10]
      have hc' : ws.getD 0 false = false := by rw [hg0]; simpa using hc
      refine ⟨he1, _, _, _, [], rfl, hnil _, ?_⟩
      unfold BlameR
      rw [if_pos ⟨hfm, hwn⟩, if_neg (by rw [hc']; decide)]
      exact ⟨rfl, rfl, rfl⟩
    · try simp only [wpL, wpH, wpE, oweC, oweP, opF, opH, ev, evs, evp, evo, Env.get, Env.set, putE, gdst, S0, S1, thenN, inBlockN, argEnv, builtinR, retE, fin, callR, reduceIte, Nat.reduceEqDiff, Nat.reduceAdd, reduceCtorEq, forall_const, Q10]
      refine ⟨by simp [sub, Env.get], ?_⟩
      rw [hg0]; simpa using hc
  rintro w2 ⟨rfl, hw0⟩
  refine ok_seq (fun M hM => ok_region rfl ?_)
  repeat ((try first | (refine z3 hX ?_; clear hX X) | (refine z2 hX ?_; clear hX X)); (first | refine zL fun X hX => ?_ | refine zH fun X hX => ?_ | refine zE fun X hX => ?_ | refine zl ?_ | refine zh ?_ | refine ze ?_); try simp only [oweC, oweP, opF, opH, ev, evs, evp, evo, Env.get, Env.set, putE, gdst, S0, S1, thenN, inBlockN, argEnv, builtinR, retE, fin, callR, reduceIte, Nat.reduceEqDiff, Nat.reduceAdd, reduceCtorEq, forall_const, Q10])
  refine Inv.call Fx.en21 (begin_ok w2 _ ks (hn.ext he1) h0 (by omega)) ?_
  rintro v w3 ⟨q, B, rfl, hs3⟩
  repeat ((try first | (refine z3 hX ?_; clear hX X) | (refine z2 hX ?_; clear hX X)); (first | refine zL fun X hX => ?_ | refine zH fun X hX => ?_ | refine zE fun X hX => ?_ | refine zl ?_ | refine zh ?_ | refine ze ?_); try simp only [oweC, oweP, opF, opH, ev, evs, evp, evo, Env.get, Env.set, putE, gdst, S0, S1, thenN, inBlockN, argEnv, builtinR, retE, fin, callR, reduceIte, Nat.reduceEqDiff, Nat.reduceAdd, reduceCtorEq, forall_const, Q10])
  refine hM _ _ _ ?_; clear hM M
  refine ok_seq (fun M hM => ok_region rfl ?_); repeat ((try first | (refine z3 hX ?_; clear hX X) | (refine z2 hX ?_; clear hX X)); (first | refine zL fun X hX => ?_ | refine zH fun X hX => ?_ | refine zE fun X hX => ?_ | refine zl ?_ | refine zh ?_ | refine ze ?_); try simp only [oweC, oweP, opF, opH, ev, evs, evp, evo, Env.get, Env.set, putE, gdst, S0, S1, thenN, inBlockN, argEnv, builtinR, retE, fin, callR, reduceIte, Nat.reduceEqDiff, Nat.reduceAdd, reduceCtorEq, forall_const, Q10])
  refine hM _ _ _ ?_; clear hM M
  have hn2 := hn.ext he1
  have hqlt := hs3.blk.lt
  have hBlt := hs3.sus.lt
  generalize hans : (fun v => ws.getD v false) = ans at *
  have hbnd : ks.length ≤ 1000 := by omega
  have quest_ok : ∀ (k : Nat) (w' : World), Asks ks ans k → Srch w2 w' q B (.slice A ks.length cp) (st ks ans k).sus (st ks ans k).root → Rets Try.prog 22 [.pointer (some ⟨q, 0, none⟩)] w' (fun v w'' => v = .int .i64 ((st ks ans k).q ks) ∧ Ext w' w'') := fun k w' hk hsr =>
    question_ok w2 w' q B _ ks _ _ hn2 hsr (st_good hed hon h0 ans k hk).len hbnd hed (wtZ ks (st ks ans k).sus) (fun i hi => wt_rec hed _ hi) (fun i => (wt_le hed hon _ i).1) (fun i => by have := (wt_le hed hon (st ks ans k).sus i).2; omega)
  generalize hbase : w3.heap.size = base at *
  refine ok_seq (fun M0 hM0 => ?_)
  · refine ok_seq (fun M hM => ok_region rfl ?_)
    repeat ((try first | (refine z3 hX ?_; clear hX X) | (refine z2 hX ?_; clear hX X)); (first | refine zL fun X hX => ?_ | refine zH fun X hX => ?_ | refine zE fun X hX => ?_ | refine zl ?_ | refine zh ?_ | refine ze ?_); try simp only [oweC, oweP, opF, opH, ev, evs, evp, evo, Env.get, Env.set, putE, gdst, S0, S1, thenN, inBlockN, argEnv, builtinR, retE, fin, callR, reduceIte, Nat.reduceEqDiff, Nat.reduceAdd, reduceCtorEq, forall_const, Q10])
    refine Inv.call Fx.en22 (quest_ok 0 w3 (fun j hj => absurd hj (Nat.not_lt_zero _)) hs3) ?_
    rintro v w4 ⟨rfl, he4⟩
    repeat ((try first | (refine z3 hX ?_; clear hX X) | (refine z2 hX ?_; clear hX X)); (first | refine zL fun X hX => ?_ | refine zH fun X hX => ?_ | refine zE fun X hX => ?_ | refine zl ?_ | refine zh ?_ | refine ze ?_); try simp only [oweC, oweP, opF, opH, ev, evs, evp, evo, Env.get, Env.set, putE, gdst, S0, S1, thenN, inBlockN, argEnv, builtinR, retE, fin, callR, reduceIte, Nat.reduceEqDiff, Nat.reduceAdd, reduceCtorEq, forall_const, Q10])
    refine hM _ _ _ ?_; clear hM M
    refine ok_block ?_
    refine ok_loop (S := Nat × Value) (fun s => [(0, .slice A ks.length cp), (1, .slice Aw ws.length cw), (7, .pointer (some ⟨q, 0, none⟩)), (8, s.2), (9, .int .i64 ((st ks ans s.1).q ks))])
      (fun s w' => Srch w2 w' q B (.slice A ks.length cp) (st ks ans s.1).sus (st ks ans s.1).root ∧ w'.ownsRow base 3 1 s.2 s.1 (iv (st ks ans s.1).asked) ∧ Asks ks ans s.1 ∧ base ≤ w'.heap.size) (fun s => ks.length - s.1) (0, .slice none 0 0) ?_ ?_ ?_
    · simp [sub, Env.get]
    · refine ⟨hs3.mono he4, World.ownsRow_nil _ _ _ _, fun j hj => absurd hj (Nat.not_lt_zero _), by have := he4.size; omega⟩
    rintro ⟨k, va⟩ w5 ⟨hs5, hown, hk, hb5⟩
    simp only
    refine ok_seq (fun M1 hM1 => ?_)
    refine ok_seq (fun M hM => ok_region rfl ?_); repeat ((try first | (refine z3 hX ?_; clear hX X) | (refine z2 hX ?_; clear hX X)); (first | refine zL fun X hX => ?_ | refine zH fun X hX => ?_ | refine zE fun X hX => ?_ | refine zl ?_ | refine zh ?_ | refine ze ?_); try simp only [oweC, oweP, opF, opH, ev, evs, evp, evo, Env.get, Env.set, putE, gdst, S0, S1, thenN, inBlockN, argEnv, builtinR, retE, fin, callR, reduceIte, Nat.reduceEqDiff, Nat.reduceAdd, reduceCtorEq, forall_const, Q10])
    refine hM _ _ _ ?_; clear hM M
    refine ok_if rfl (fun hc => ok_skip ?_) (fun hc => ok_exit ?_)
    rotate_left
    · try simp only [wpL, wpH, wpE, oweC, oweP, opF, opH, ev, evs, evp, evo, Env.get, Env.set, putE, gdst, S0, S1, thenN, inBlockN, argEnv, builtinR, retE, fin, callR, reduceIte, Nat.reduceEqDiff, Nat.reduceAdd, reduceCtorEq, forall_const, Q10]
      refine hM0 _ _ _ ?_; clear hM0 M0 hM1 M1
      refine ok_seq (fun M hM => ok_region rfl ?_)
      repeat ((try first | (refine z3 hX ?_; clear hX X) | (refine z2 hX ?_; clear hX X)); (first | refine zL fun X hX => ?_ | refine zH fun X hX => ?_ | refine zE fun X hX => ?_ | refine zl ?_ | refine zh ?_ | refine ze ?_); try simp only [oweC, oweP, opF, opH, ev, evs, evp, evo, Env.get, Env.set, putE, gdst, S0, S1, thenN, inBlockN, argEnv, builtinR, retE, fin, callR, reduceIte, Nat.reduceEqDiff, Nat.reduceAdd, reduceCtorEq, forall_const, Q10])
      refine ⟨_, hs5.blk.cell rfl, ?_⟩
      repeat ((try first | (refine z3 hX ?_; clear hX X) | (refine z2 hX ?_; clear hX X)); (first | refine zL fun X hX => ?_ | refine zH fun X hX => ?_ | refine zE fun X hX => ?_ | refine zl ?_ | refine zh ?_ | refine ze ?_); try simp only [oweC, oweP, opF, opH, ev, evs, evp, evo, Env.get, Env.set, putE, gdst, S0, S1, thenN, inBlockN, argEnv, builtinR, retE, fin, callR, reduceIte, Nat.reduceEqDiff, Nat.reduceAdd, reduceCtorEq, forall_const, Q10])
      refine hM _ _ _ ?_; clear hM M
      refine ok_ret ?_
      try simp only [wpL, wpH, wpE, oweC, oweP, opF, opH, ev, evs, evp, evo, Env.get, Env.set, putE, gdst, S0, S1, thenN, inBlockN, argEnv, builtinR, retE, fin, callR, reduceIte, Nat.reduceEqDiff, Nat.reduceAdd, reduceCtorEq, forall_const, Q10]
      have hlt := asks_lt hed hon h0 ans _ hk
      refine ⟨he1.trans hs5.ext, _, _, _, _, rfl, own_slI hown (asked_length _ _) (by omega), ?_⟩
      unfold BlameR
      rw [if_pos ⟨hfm, hwn⟩, if_pos hw0, hans]
      exact ⟨k, ⟨hk, by omega⟩, rfl, rfl, rfl⟩
    · try simp only [wpL, wpH, wpE, oweC, oweP, opF, opH, ev, evs, evp, evo, Env.get, Env.set, putE, gdst, S0, S1, thenN, inBlockN, argEnv, builtinR, retE, fin, callR, reduceIte, Nat.reduceEqDiff, Nat.reduceAdd, reduceCtorEq, forall_const, Q10]
      refine hM1 _ _ _ ?_; clear hM1 M1
      obtain ⟨i, hq, hi, hsi, hri⟩ := q_pos hc
      have hk1 : Asks ks ans (k + 1) := fun j hj => by
        rcases Nat.lt_or_ge j k with h | h
        · exact hk j h
        · have : j = k := by omega
          subst this; exact hc
      have hst1 : (st ks ans (k + 1)).asked = (st ks ans k).asked ++ [(i : Int)] := by simp only [st, St.next, hq]
      have hstS : (st ks ans (k + 1)).sus = newSus ks (st ks ans k).sus i (ans i) := by simp only [st, St.next, hq, Int.toNat_natCast]
      have hstR : (st ks ans (k + 1)).root = if ans i = true then i else (st ks ans k).root := by simp only [st, St.next, hq, Int.toNat_natCast]
      have hlt := asks_lt hed hon h0 ans _ hk1
      rw [hq]
      refine ok_seq (fun M1 hM1 => ok_block ?_)
      refine ok_seq (fun M hM => ok_region rfl ?_)
      repeat ((try first | (refine z3 hX ?_; clear hX X) | (refine z2 hX ?_; clear hX X)); (first | refine zL fun X hX => ?_ | refine zH fun X hX => ?_ | refine zE fun X hX => ?_ | refine zl ?_ | refine zh ?_ | refine ze ?_); try simp only [oweC, oweP, opF, opH, ev, evs, evp, evo, Env.get, Env.set, putE, gdst, S0, S1, thenN, inBlockN, argEnv, builtinR, retE, fin, callR, reduceIte, Nat.reduceEqDiff, Nat.reduceAdd, reduceCtorEq, forall_const, Q10])
      refine Runs.lit (cs := [.int .i64 (i : Int)]) Fx.un26 Fx.zi3 (by decide) (by kernel_rfl) (by decide) (fun w6 he6 hz6 hb6 => ?_)
      repeat ((try first | (refine z3 hX ?_; clear hX X) | (refine z2 hX ?_; clear hX X)); (first | refine zL fun X hX => ?_ | refine zH fun X hX => ?_ | refine zE fun X hX => ?_ | refine zl ?_ | refine zh ?_ | refine ze ?_); try simp only [oweC, oweP, opF, opH, ev, evs, evp, evo, Env.get, Env.set, putE, gdst, S0, S1, thenN, inBlockN, argEnv, builtinR, retE, fin, callR, reduceIte, Nat.reduceEqDiff, Nat.reduceAdd, reduceCtorEq, forall_const, Q10])
      refine Runs.append1 Fx.un26 Fx.zi3 rfl (by decide) (owns_chg hown (he6.chg (fun _ => False)) (fun _ _ _ h => h)) hb6 rfl (by simp [Value.oneCell']) (by simp [maxLen]; omega) (by omega) (by omega) (fun v' w7 hown7 hg7 => ?_)
      repeat ((try first | (refine z3 hX ?_; clear hX X) | (refine z2 hX ?_; clear hX X)); (first | refine zL fun X hX => ?_ | refine zH fun X hX => ?_ | refine zE fun X hX => ?_ | refine zl ?_ | refine zh ?_ | refine ze ?_); try simp only [oweC, oweP, opF, opH, ev, evs, evp, evo, Env.get, Env.set, putE, gdst, S0, S1, thenN, inBlockN, argEnv, builtinR, retE, fin, callR, reduceIte, Nat.reduceEqDiff, Nat.reduceAdd, reduceCtorEq, forall_const, Q10])
      refine hM _ _ _ ?_; clear hM M
      have hc57 : Chg (fun k => base ≤ k) w5 w7 := (he6.chg _).trans (grown_ext (B := 0) (owns_chg hown (he6.chg (fun _ => False)) (fun _ _ _ h => h)) hg7 _ (fun _ h => h))
      have hs7 : Srch w2 w7 q B (.slice A ks.length cp) (st ks ans k).sus (st ks ans k).root :=
        ⟨hs5.ext.chg_trans hc57 (fun j hj => by have := hs3.ext.size; omega), hs5.hq, hs5.hB, hs5.ne, hs5.blk.chg hc57 (by omega), hs5.sus.chg hc57 (by omega)⟩
      have hbi : ∃ b o, Aw = some ⟨b, o, none⟩ ∧ w.cell? ⟨b, o + i, none⟩ = some (.bool (ans i)) := by
        obtain ⟨b, o, h1, h2⟩ := hwc i (by omega)
        refine ⟨b, o, h1, ?_⟩
        have : ans i = ws[i]'(by omega) := by rw [← hans]; simp [List.getD_eq_getElem?_getD, show i < ws.length by omega]
        rw [this]; exact h2
      obtain ⟨bi, oi, rfl, hci⟩ := hbi
      refine ok_region rfl ?_
      repeat ((try first | (refine z3 hX ?_; clear hX X) | (refine z2 hX ?_; clear hX X)); (first | refine zL fun X hX => ?_ | refine zH fun X hX => ?_ | refine zE fun X hX => ?_ | refine zl ?_ | refine zh ?_ | refine ze ?_); try simp only [oweC, oweP, opF, opH, ev, evs, evp, evo, Env.get, Env.set, putE, gdst, S0, S1, thenN, inBlockN, argEnv, builtinR, retE, fin, callR, reduceIte, Nat.reduceEqDiff, Nat.reduceAdd, reduceCtorEq, forall_const, Q10])
      refine ⟨by omega, by omega, ?_⟩
      repeat ((try first | (refine z3 hX ?_; clear hX X) | (refine z2 hX ?_; clear hX X)); (first | refine zL fun X hX => ?_ | refine zH fun X hX => ?_ | refine zE fun X hX => ?_ | refine zl ?_ | refine zh ?_ | refine ze ?_); try simp only [oweC, oweP, opF, opH, ev, evs, evp, evo, Env.get, Env.set, putE, gdst, S0, S1, thenN, inBlockN, argEnv, builtinR, retE, fin, callR, reduceIte, Nat.reduceEqDiff, Nat.reduceAdd, reduceCtorEq, forall_const, Q10])
      refine ⟨_, hs7.ext.cell (he1.cell hci), ?_⟩
      repeat ((try first | (refine z3 hX ?_; clear hX X) | (refine z2 hX ?_; clear hX X)); (first | refine zL fun X hX => ?_ | refine zH fun X hX => ?_ | refine zE fun X hX => ?_ | refine zl ?_ | refine zh ?_ | refine ze ?_); try simp only [oweC, oweP, opF, opH, ev, evs, evp, evo, Env.get, Env.set, putE, gdst, S0, S1, thenN, inBlockN, argEnv, builtinR, retE, fin, callR, reduceIte, Nat.reduceEqDiff, Nat.reduceAdd, reduceCtorEq, forall_const, Q10])
      refine Inv.call Fx.en23 (answer_ok w2 w7 q B _ ks _ _ i (ans i) hn2 hs7 (st_good hed hon h0 ans k hk).len hbnd hed hi) ?_
      rintro v w8 ⟨hs8, hc8⟩
      rw [← hstS, ← hstR] at hs8
      repeat ((try first | (refine z3 hX ?_; clear hX X) | (refine z2 hX ?_; clear hX X)); (first | refine zL fun X hX => ?_ | refine zH fun X hX => ?_ | refine zE fun X hX => ?_ | refine zl ?_ | refine zh ?_ | refine ze ?_); try simp only [oweC, oweP, opF, opH, ev, evs, evp, evo, Env.get, Env.set, putE, gdst, S0, S1, thenN, inBlockN, argEnv, builtinR, retE, fin, callR, reduceIte, Nat.reduceEqDiff, Nat.reduceAdd, reduceCtorEq, forall_const, Q10])
      refine hM1 _ _ _ ?_; clear hM1 M1
      refine ok_region rfl ?_
      repeat ((try first | (refine z3 hX ?_; clear hX X) | (refine z2 hX ?_; clear hX X)); (first | refine zL fun X hX => ?_ | refine zH fun X hX => ?_ | refine zE fun X hX => ?_ | refine zl ?_ | refine zh ?_ | refine ze ?_); try simp only [oweC, oweP, opF, opH, ev, evs, evp, evo, Env.get, Env.set, putE, gdst, S0, S1, thenN, inBlockN, argEnv, builtinR, retE, fin, callR, reduceIte, Nat.reduceEqDiff, Nat.reduceAdd, reduceCtorEq, forall_const, Q10])
      refine Inv.call Fx.en22 (quest_ok (k + 1) w8 hk1 hs8) ?_
      rintro v w9 ⟨rfl, he9⟩
      repeat ((try first | (refine z3 hX ?_; clear hX X) | (refine z2 hX ?_; clear hX X)); (first | refine zL fun X hX => ?_ | refine zH fun X hX => ?_ | refine zE fun X hX => ?_ | refine zl ?_ | refine zh ?_ | refine ze ?_); try simp only [oweC, oweP, opF, opH, ev, evs, evp, evo, Env.get, Env.set, putE, gdst, S0, S1, thenN, inBlockN, argEnv, builtinR, retE, fin, callR, reduceIte, Nat.reduceEqDiff, Nat.reduceAdd, reduceCtorEq, forall_const, Q10])
      have hb7 := hg7.size
      have hb8 := hc8.size
      have hb6' := he6.size
      refine ⟨(k + 1, v'), by simp [sub, Env.get], ⟨hs8.mono he9, ?_, hk1, by have := he9.size; omega⟩, by simp only; omega⟩
      simp only
      rw [hst1]
      refine owns_chg (owns_chg (by simpa [iv] using hown7) hc8 (fun k h1 h2 => by omega)) (he9.chg (fun _ => False)) (fun _ _ _ h => h)
end Go.Proofs.Ytafjfcameabbmaa
