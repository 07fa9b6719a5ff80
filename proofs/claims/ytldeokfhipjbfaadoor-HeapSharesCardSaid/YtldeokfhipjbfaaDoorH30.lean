/- HeapShares: arrays that are shared: Args; what is found, in plain Lean; the walk. -/
import Derived.Test.YtldeokfhipjbfaaDoorH23
set_option linter.unusedVariables false
set_option linter.unusedSimpArgs false
namespace Go.Proofs.YtldeokfhipjbfaaDoor
open Go Go.Proofs.Vg Go.RowKit

-- -- function 16
set_option maxHeartbeats 4000000 in
set_option maxRecDepth 8000 in
theorem Args_ok (w : World) (hb rb : Nat) (H : List Ob) (F : Nat → Prop) (hH : HeapW w hb rb H F) (hl : H.length ≤ 1073741824) (hLim : LimH H) (x : Wd) (hr : rightW H x = true) (hk : x.k = 4) :
    Rets Tryd.prog 16 [ptrOf hb, wv x] w (fun v w' => ∃ A c, v = .tuple #[.slice A (argsOf H x).length c, .int .i64 0] ∧ SlW w' (.slice A (argsOf H x).length c) (argsOf H x) ∧ Ext w w') := by
  refine rets_of_ok Tryd.func16 rfl rfl ?_
  refine ok_seq (fun M hM => ok_region rfl ?_)
  repeat ((try first | (refine ofX3 hX ?_; clear hX X) | (refine ofX2 hX ?_; clear hX X)); (first | refine wpL_step (fun X hX => ?_) | refine wpH_step (fun X hX => ?_) | refine wpE_step (fun X hX => ?_) | refine wpL_end ?_ | refine wpH_end ?_ | refine wpE_end ?_); try simp only [ oweC, oweP, opF, opH, ev, evs, evp, evo, Env.get, Env.set, putE, gdst, S0, S1, thenN, inBlockN, argEnv, builtinR, retE, fin, callR, reduceIte, Nat.reduceEqDiff, Nat.reduceAdd, reduceCtorEq, forall_const, Tryd.results16, Fx.ag3, Fx.ag31, Fx.fo31_0])
  refine Runs.box (fun w1 he1 hz1 hb1 => ?_)
  generalize hB1 : w.heap.size = B1 at hz1 hb1
  simp only [Value.cells] at hb1
  repeat ((try first | (refine ofX3 hX ?_; clear hX X) | (refine ofX2 hX ?_; clear hX X)); (first | refine wpL_step (fun X hX => ?_) | refine wpH_step (fun X hX => ?_) | refine wpE_step (fun X hX => ?_) | refine wpL_end ?_ | refine wpH_end ?_ | refine wpE_end ?_); try simp only [ oweC, oweP, opF, opH, ev, evs, evp, evo, Env.get, Env.set, putE, gdst, S0, S1, thenN, inBlockN, argEnv, builtinR, retE, fin, callR, reduceIte, Nat.reduceEqDiff, Nat.reduceAdd, reduceCtorEq, forall_const, Tryd.results16, Fx.ag3, Fx.ag31, Fx.fo31_0])
  refine hM _ _ _ ?_; clear hM M
  refine ok_join [(0, ptrOf hb), (3, ptrOf B1)] (fun w' => Ext w1 w') ?_ ?_
  · refine ok_block ?_
    refine ok_seq (fun M hM => ok_region rfl ?_)
    repeat ((try first | (refine ofX3 hX ?_; clear hX X) | (refine ofX2 hX ?_; clear hX X)); (first | refine wpL_step (fun X hX => ?_) | refine wpH_step (fun X hX => ?_) | refine wpE_step (fun X hX => ?_) | refine wpL_end ?_ | refine wpH_end ?_ | refine wpE_end ?_); try simp only [ oweC, oweP, opF, opH, ev, evs, evp, evo, Env.get, Env.set, putE, gdst, S0, S1, thenN, inBlockN, argEnv, builtinR, retE, fin, callR, reduceIte, Nat.reduceEqDiff, Nat.reduceAdd, reduceCtorEq, forall_const, Tryd.results16, Fx.ag3, Fx.ag31, Fx.fo31_0])
    refine Runs.ptrEq Fx.un28 ?_
    repeat ((try first | (refine ofX3 hX ?_; clear hX X) | (refine ofX2 hX ?_; clear hX X)); (first | refine wpL_step (fun X hX => ?_) | refine wpH_step (fun X hX => ?_) | refine wpE_step (fun X hX => ?_) | refine wpL_end ?_ | refine wpH_end ?_ | refine wpE_end ?_); try simp only [ oweC, oweP, opF, opH, ev, evs, evp, evo, Env.get, Env.set, putE, gdst, S0, S1, thenN, inBlockN, argEnv, builtinR, retE, fin, callR, reduceIte, Nat.reduceEqDiff, Nat.reduceAdd, reduceCtorEq, forall_const, Tryd.results16, Fx.ag3, Fx.ag31, Fx.fo31_0])
    refine hM _ _ _ ?_; clear hM M
    refine ok_cond rfl (fun h => by cases h) (fun _ => ?_)
    refine ok_seq (fun M hM => ok_region rfl ?_)
    repeat ((try first | (refine ofX3 hX ?_; clear hX X) | (refine ofX2 hX ?_; clear hX X)); (first | refine wpL_step (fun X hX => ?_) | refine wpH_step (fun X hX => ?_) | refine wpE_step (fun X hX => ?_) | refine wpL_end ?_ | refine wpH_end ?_ | refine wpE_end ?_); try simp only [ oweC, oweP, opF, opH, ev, evs, evp, evo, Env.get, Env.set, putE, gdst, S0, S1, thenN, inBlockN, argEnv, builtinR, retE, fin, callR, reduceIte, Nat.reduceEqDiff, Nat.reduceAdd, reduceCtorEq, forall_const, Tryd.results16, Fx.ag3, Fx.ag31, Fx.fo31_0])
    refine ⟨x.row, rfl, hb1.cells (o := 0) (fun j u hj => by simpa using hj), ?_⟩
    repeat ((try first | (refine ofX3 hX ?_; clear hX X) | (refine ofX2 hX ?_; clear hX X)); (first | refine wpL_step (fun X hX => ?_) | refine wpH_step (fun X hX => ?_) | refine wpE_step (fun X hX => ?_) | refine wpL_end ?_ | refine wpH_end ?_ | refine wpE_end ?_); try simp only [ oweC, oweP, opF, opH, ev, evs, evp, evo, Env.get, Env.set, putE, gdst, S0, S1, thenN, inBlockN, argEnv, builtinR, retE, fin, callR, reduceIte, Nat.reduceEqDiff, Nat.reduceAdd, reduceCtorEq, forall_const, Tryd.results16, Fx.ag3, Fx.ag31, Fx.fo31_0])
    refine Inv.call Fx.en13 (right_ok w1 hb rb H F (hH.ext he1) hl x) ?_
    rintro v w2 ⟨rfl, he2⟩
    rw [hr]
    repeat ((try first | (refine ofX3 hX ?_; clear hX X) | (refine ofX2 hX ?_; clear hX X)); (first | refine wpL_step (fun X hX => ?_) | refine wpH_step (fun X hX => ?_) | refine wpE_step (fun X hX => ?_) | refine wpL_end ?_ | refine wpH_end ?_ | refine wpE_end ?_); try simp only [ oweC, oweP, opF, opH, ev, evs, evp, evo, Env.get, Env.set, putE, gdst, S0, S1, thenN, inBlockN, argEnv, builtinR, retE, fin, callR, reduceIte, Nat.reduceEqDiff, Nat.reduceAdd, reduceCtorEq, forall_const, Tryd.results16, Fx.ag3, Fx.ag31, Fx.fo31_0])
    refine hM _ _ _ ?_; clear hM M
    refine ok_cond rfl (fun h => by cases h) (fun _ => ?_)
    have hk0 : w2.cell? ⟨B1, 0, none⟩ = some (.int .i64 4) := by
      have := (hb1.ext he2).cell (j := 0) (u := .int .i64 x.k) rfl
      rw [hk] at this; exact this
    refine ok_seq (fun M hM => ok_region rfl ?_)
    repeat ((try first | (refine ofX3 hX ?_; clear hX X) | (refine ofX2 hX ?_; clear hX X)); (first | refine wpL_step (fun X hX => ?_) | refine wpH_step (fun X hX => ?_) | refine wpE_step (fun X hX => ?_) | refine wpL_end ?_ | refine wpH_end ?_ | refine wpE_end ?_); try simp only [ oweC, oweP, opF, opH, ev, evs, evp, evo, Env.get, Env.set, putE, gdst, S0, S1, thenN, inBlockN, argEnv, builtinR, retE, fin, callR, reduceIte, Nat.reduceEqDiff, Nat.reduceAdd, reduceCtorEq, forall_const, Tryd.results16, Fx.ag3, Fx.ag31, Fx.fo31_0])
    refine ⟨_, hk0, ?_⟩
    repeat ((try first | (refine ofX3 hX ?_; clear hX X) | (refine ofX2 hX ?_; clear hX X)); (first | refine wpL_step (fun X hX => ?_) | refine wpH_step (fun X hX => ?_) | refine wpE_step (fun X hX => ?_) | refine wpL_end ?_ | refine wpH_end ?_ | refine wpE_end ?_); try simp only [ oweC, oweP, opF, opH, ev, evs, evp, evo, Env.get, Env.set, putE, gdst, S0, S1, thenN, inBlockN, argEnv, builtinR, retE, fin, callR, reduceIte, Nat.reduceEqDiff, Nat.reduceAdd, reduceCtorEq, forall_const, Tryd.results16, Fx.ag3, Fx.ag31, Fx.fo31_0])
    refine hM _ _ _ ?_; clear hM M
    refine ok_cond rfl (fun h => by cases h) (fun _ => ok_skip ?_)
    try simp only [wpL, wpH, wpE, oweC, oweP, opF, opH, ev, evs, evp, evo, Env.get, Env.set, putE, gdst, S0, S1, thenN, inBlockN, argEnv, builtinR, retE, fin, callR, reduceIte, Nat.reduceEqDiff, Nat.reduceAdd, reduceCtorEq, forall_const, Tryd.results16, Fx.ag3, Fx.ag31, Fx.fo31_0]
    exact ⟨by simp [sub, Env.get], he2⟩
  intro w2 he2
  have he02 := he1.trans he2
  refine ok_seq (fun M hM => ok_region rfl ?_)
  repeat ((try first | (refine ofX3 hX ?_; clear hX X) | (refine ofX2 hX ?_; clear hX X)); (first | refine wpL_step (fun X hX => ?_) | refine wpH_step (fun X hX => ?_) | refine wpE_step (fun X hX => ?_) | refine wpL_end ?_ | refine wpH_end ?_ | refine wpE_end ?_); try simp only [ oweC, oweP, opF, opH, ev, evs, evp, evo, Env.get, Env.set, putE, gdst, S0, S1, thenN, inBlockN, argEnv, builtinR, retE, fin, callR, reduceIte, Nat.reduceEqDiff, Nat.reduceAdd, reduceCtorEq, forall_const, Tryd.results16, Fx.ag3, Fx.ag31, Fx.fo31_0])
  refine ⟨x.row, rfl, (hb1.ext he2).cells (o := 0) (fun j u hj => by simpa using hj), ?_⟩
  repeat ((try first | (refine ofX3 hX ?_; clear hX X) | (refine ofX2 hX ?_; clear hX X)); (first | refine wpL_step (fun X hX => ?_) | refine wpH_step (fun X hX => ?_) | refine wpE_step (fun X hX => ?_) | refine wpL_end ?_ | refine wpH_end ?_ | refine wpE_end ?_); try simp only [ oweC, oweP, opF, opH, ev, evs, evp, evo, Env.get, Env.set, putE, gdst, S0, S1, thenN, inBlockN, argEnv, builtinR, retE, fin, callR, reduceIte, Nat.reduceEqDiff, Nat.reduceAdd, reduceCtorEq, forall_const, Tryd.results16, Fx.ag3, Fx.ag31, Fx.fo31_0])
  refine Inv.call Fx.en37 (args_ok w2 hb rb H F (hH.ext he02) hl x) ?_
  rintro v w3 ⟨⟨A, c, rfl⟩, hsl, he3, -⟩
  repeat ((try first | (refine ofX3 hX ?_; clear hX X) | (refine ofX2 hX ?_; clear hX X)); (first | refine wpL_step (fun X hX => ?_) | refine wpH_step (fun X hX => ?_) | refine wpE_step (fun X hX => ?_) | refine wpL_end ?_ | refine wpH_end ?_ | refine wpE_end ?_); try simp only [ oweC, oweP, opF, opH, ev, evs, evp, evo, Env.get, Env.set, putE, gdst, S0, S1, thenN, inBlockN, argEnv, builtinR, retE, fin, callR, reduceIte, Nat.reduceEqDiff, Nat.reduceAdd, reduceCtorEq, forall_const, Tryd.results16, Fx.ag3, Fx.ag31, Fx.fo31_0])
  have hal := hLim.args x
  refine Inv.call Fx.en36 (clone_ok w3 _ (argsOf H x) (hsl.ext he3) (by omega)) ?_
  rintro v w4 ⟨⟨A4, c4, rfl⟩, ⟨g, hWL, -⟩, he4⟩
  repeat ((try first | (refine ofX3 hX ?_; clear hX X) | (refine ofX2 hX ?_; clear hX X)); (first | refine wpL_step (fun X hX => ?_) | refine wpH_step (fun X hX => ?_) | refine wpE_step (fun X hX => ?_) | refine wpL_end ?_ | refine wpH_end ?_ | refine wpE_end ?_); try simp only [ oweC, oweP, opF, opH, ev, evs, evp, evo, Env.get, Env.set, putE, gdst, S0, S1, thenN, inBlockN, argEnv, builtinR, retE, fin, callR, reduceIte, Nat.reduceEqDiff, Nat.reduceAdd, reduceCtorEq, forall_const, Tryd.results16, Fx.ag3, Fx.ag31, Fx.fo31_0])
  refine hM _ _ _ ?_; clear hM M
  refine ok_ret ?_
  try simp only [wpL, wpH, wpE, oweC, oweP, opF, opH, ev, evs, evp, evo, Env.get, Env.set, putE, gdst, S0, S1, thenN, inBlockN, argEnv, builtinR, retE, fin, callR, reduceIte, Nat.reduceEqDiff, Nat.reduceAdd, reduceCtorEq, forall_const, Tryd.results16, Fx.ag3, Fx.ag31, Fx.fo31_0]
  exact ⟨A4, c4, rfl, hWL.sli, he02.trans (he3.trans he4)⟩

/-- The heap after the acts of HeapShares. -/
def wA1 (H2 : List Ob) : Wd := ⟨7, 0, (H2.length : Int) + 1⟩
def wB1 (H2 : List Ob) : Wd := ⟨4, 0, (H2.length : Int) + 2⟩
def wC1 (H2 : List Ob) : Wd := ⟨7, 0, (H2.length : Int) + 3⟩
def H3s (H2 : List Ob) (x : Wd) : List Ob := H2 ++ [.words 7 [x]]
def H4s (H2 : List Ob) (x : Wd) : List Ob := H3s H2 x ++ [.words 4 [wA1 H2, wA1 H2]]
def H5s (H2 : List Ob) (x z : Wd) : List Ob := H4s H2 x ++ [.words 7 [z]]
theorem mk3 (H2 : List Ob) (x : Wd) : mkW H2 7 0 [x] = (H3s H2 x, wA1 H2) := by simp [mkW, H3s, wA1]
theorem mk4 (H2 : List Ob) (x : Wd) : mkW (H3s H2 x) 4 0 [wA1 H2, wA1 H2] = (H4s H2 x, wB1 H2) := by
  simp [mkW, H4s, H3s, wB1]; omega
theorem mk5 (H2 : List Ob) (x z : Wd) : mkW (H4s H2 x) 7 0 [z] = (H5s H2 x z, wC1 H2) := by
  simp [mkW, H5s, H4s, H3s, wC1]; omega
theorem at1 (H2 : List Ob) (x z : Wd) : objAt (H5s H2 x z) ((H2.length : Int) + 1) = some (.words 7 [x]) ∧ objAt (H5s H2 x z) ((H2.length : Int) + 2) = some (.words 4 [wA1 H2, wA1 H2]) ∧ objAt (H5s H2 x z) ((H2.length : Int) + 3) = some (.words 7 [z]) := by
  unfold objAt H5s H4s H3s
  refine ⟨?_, ?_, ?_⟩
  · rw [if_pos (by omega), show ((H2.length : Int) + 1 - 1).toNat = H2.length by omega]; simp
  · rw [if_pos (by omega), show ((H2.length : Int) + 2 - 1).toNat = H2.length + 1 by omega]; simp
  · rw [if_pos (by omega), show ((H2.length : Int) + 3 - 1).toNat = H2.length + 2 by omega]; simp
theorem right3 (H2 : List Ob) (x : Wd) : rightW (H3s H2 x) (wA1 H2) = true := by
  have h := objAt_new H2 (.words 7 [x])
  unfold rightW wA1 H3s
  simp [h, isArrO]
theorem rightA1 (H2 : List Ob) (x z : Wd) : rightW (H5s H2 x z) (wA1 H2) = true ∧ rightW (H5s H2 x z) (wB1 H2) = true ∧ rightW (H5s H2 x z) (wC1 H2) = true := by
  obtain ⟨h1, h2, h3⟩ := at1 H2 x z
  refine ⟨?_, ?_, ?_⟩
  · unfold rightW wA1; simp [h1, isArrO]
  · unfold rightW wB1; simp [h2, isDataO]
  · unfold rightW wC1; simp [h3, isArrO]
theorem set5 (H2 : List Ob) (x y z : Wd) (hy : rightW (H5s H2 x z) y = true) (hk : y.k ≠ 0 ∧ y.k ≠ 9) : setE (H5s H2 x z) (wA1 H2) 0 y = 0 ∧ setE (H5s H2 x z) (wA1 H2) 1 y = 24 ∧ setH (H5s H2 x z) (wA1 H2) 0 y = H5s H2 y z ∧ setH (H5s H2 x z) (wA1 H2) 1 y = H5s H2 x z := by
  obtain ⟨h1, h2, h3⟩ := at1 H2 x z
  obtain ⟨r1, r2, r3⟩ := rightA1 H2 x z
  have ha : argsOf (H5s H2 x z) (wA1 H2) = [x] := by unfold argsOf; rw [show (wA1 H2).r = (H2.length : Int) + 1 from rfl, h1]; rfl
  have e0 : setE (H5s H2 x z) (wA1 H2) 0 y = 0 := by
    unfold setE
    rw [if_pos ⟨r1, hy, hk.1, hk.2⟩, if_pos (show (wA1 H2).k = 7 from rfl), ha]; simp
  have e1 : setE (H5s H2 x z) (wA1 H2) 1 y = 24 := by
    unfold setE
    rw [if_pos ⟨r1, hy, hk.1, hk.2⟩, if_pos (show (wA1 H2).k = 7 from rfl), ha]; simp
  refine ⟨e0, e1, ?_, ?_⟩
  · unfold setH
    rw [if_pos e0, ha, show ((wA1 H2).r - 1).toNat = H2.length by simp [wA1]]
    simp [H5s, H4s, H3s]
  · unfold setH
    rw [if_neg (by rw [e1]; decide)]
/-- What is read then. -/
theorem shares_spec (H2 : List Ob) (x y : Wd) (v w : Val) (hD : Desc H2) (hL : LimH H2) (hx : rightW H2 x = true) (hy : rightW H2 y = true) (hlx : Lds H2 x v) (hly : Lds H2 y w) (hv : cntV v ≤ 120) (hw : cntV w ≤ 120) :
    Desc (H5s H2 y x) ∧ LimH (H5s H2 y x) ∧ (∀ u : Wd, u = wA1 H2 → errL (H5s H2 y x) u = 0 ∧ Lds (H5s H2 y x) u (.mk 7 0 ⟨#[]⟩ [w])) ∧ (∀ u : Wd, u = wC1 H2 → errL (H5s H2 y x) u = 0 ∧ Lds (H5s H2 y x) u (.mk 7 0 ⟨#[]⟩ [v])) ∧ argsOf (H5s H2 y x) (wB1 H2) = [wA1 H2, wA1 H2] := by
  obtain ⟨h1, h2, h3⟩ := at1 H2 y x
  obtain ⟨r1, r2, r3⟩ := rightA1 H2 y x
  have rx := right_ref hx
  have ry := right_ref hy
  have D3 : Desc (H3s H2 y) := hD.app (by intro z hz; simp [Ob.list] at hz; subst hz; exact ry)
  have D4 : Desc (H4s H2 y) := D3.app (by intro z hz; simp [Ob.list] at hz; subst hz; simp [wA1, H3s]; omega)
  have D5 : Desc (H5s H2 y x) := D4.app (by intro z hz; simp [Ob.list] at hz; subst hz; simp [H4s, H3s]; omega)
  have L5 : LimH (H5s H2 y x) := ((hL.app (by simp [Ob.list])).app (by simp [Ob.list])).app (by simp [Ob.list])
  have hE : H5s H2 y x = H2 ++ ([.words 7 [y]] ++ [.words 4 [wA1 H2, wA1 H2]] ++ [.words 7 [x]]) := by simp [H5s, H4s, H3s]
  have lx : Lds (H5s H2 y x) x v := by rw [hE]; exact Lds_app hD.wf v x rx.2 hlx
  have ly : Lds (H5s H2 y x) y w := by rw [hE]; exact Lds_app hD.wf w y ry.2 hly
  have key : ∀ (u z : Wd) (q : Val), u.k = 7 → u.n = 0 → rightW (H5s H2 y x) u = true → argsOf (H5s H2 y x) u = [z] → Lds (H5s H2 y x) z q → cntV q ≤ 120 → errL (H5s H2 y x) u = 0 ∧ Lds (H5s H2 y x) u (.mk 7 0 ⟨#[]⟩ [q]) := by
    intro u z q hk hn hr ha hl hc
    have hld : Lds (H5s H2 y x) u (.mk 7 0 ⟨#[]⟩ [q]) := by
      simp only [Lds]
      rw [if_neg (by omega), if_neg (by omega), ha]
      exact ⟨by omega, by omega, hk.symm, hn.symm, trivial, by simp only [LdsL]; exact ⟨hl, trivial⟩⟩
    refine ⟨?_, hld⟩
    have hp : partsF (H5s H2 y x) 100000 [u] = cntVs [.mk 7 0 ⟨#[]⟩ [q]] := parts_cnt _ _ _ (by simp only [LdsL]; exact ⟨hld, trivial⟩) (by simp only [cntVs, cntV]; omega)
    have hri : ringF (H5s H2 y x) [u] = false := ring_desc D5 _ (fun a ha => by simp at ha; subst ha; exact right_ref hr)
    simp only [errL, hr, hri, hp, cntVs, cntV]
    simp
    omega
  refine ⟨D5, L5, fun u hu => ?_, fun u hu => ?_, ?_⟩
  · subst hu
    exact key _ y w rfl rfl r1 (by unfold argsOf; rw [show (wA1 H2).r = (H2.length : Int) + 1 from rfl, h1]; rfl) ly hw
  · subst hu
    exact key _ x v rfl rfl r3 (by unfold argsOf; rw [show (wC1 H2).r = (H2.length : Int) + 3 from rfl, h3]; rfl) lx hv
  · unfold argsOf; rw [show (wB1 H2).r = (H2.length : Int) + 2 from rfl, h2]; rfl
end Go.Proofs.YtldeokfhipjbfaaDoor
namespace Go.Proofs.Vg
open Go Go.RowKit
/-- A block of one's own beside the heap. -/
def LocB (w : World) (F : Nat → Prop) (C : Nat) (cs : List Value) (e : TypeId) : Prop := Blk w C cs e ∧ ¬ F C
theorem LocB.ext {w w' : World} {F : Nat → Prop} {C : Nat} {cs : List Value} {e : TypeId} (h : LocB w F C cs e) (he : Ext w w') : LocB w' F C cs e := ⟨h.1.ext he, h.2⟩
theorem LocB.grown {w w' : World} {F F' : Nat → Prop} {C : Nat} {cs : List Value} {e : TypeId} (h : LocB w F C cs e) (hc : Chg F w w') (hF : ∀ k, F' k → F k ∨ (w.heap.size ≤ k ∧ k < w'.heap.size)) : LocB w' F' C cs e := by
  refine ⟨h.1.chg hc h.2, fun hf => ?_⟩
  rcases hF C hf with h1 | h1
  · exact h.2 h1
  · have := h.1.lt; omega
end Go.Proofs.Vg
namespace Go.Proofs.YtldeokfhipjbfaaDoor
open Go Go.Proofs.Vg Go.RowKit

theorem storeS_stored {x : Val} {H : List Ob} (h0 : (storeS H x).2.2 = 0) (hD : Desc H) (hL : LimH H) (hc : cntV x ≤ 1048576) : Stored H (storeS H x).1 (storeS H x).2.1 x := by
  unfold storeS at h0 ⊢
  split
  · rename_i hk
    rw [if_pos hk] at h0
    split
    · rename_i hf
      exact store_spec x H hk hf hD hL hc
    · rename_i hf
      rw [if_neg hf] at h0
      cases h0
  · rename_i hk
    rw [if_neg hk] at h0
    cases h0
theorem storeS_len (x : Val) (H : List Ob) : (storeS H x).1.length ≤ H.length + cntV x := by
  unfold storeS
  split
  · split
    · exact storeV_length x H
    · simp
  · simp
theorem one_row {w : World} {cs : List Value} {q : Val} (h : VRow w cs (.mk 7 0 ⟨#[]⟩ [q])) : ∃ A c b o row, cs = [.int .i64 7, .int .i64 0, .string ⟨#[]⟩, .slice A 1 c] ∧ A = some ⟨b, o, none⟩ ∧ row.length = 4 ∧ cellsAt w ⟨b, o, none⟩ row ∧ VRow w row q := by
  simp only [VRow] at h
  obtain ⟨v, rfl, -, -, rows, ⟨A, c, rfl, -, hcell⟩, hr⟩ := h
  match rows, hr with
  | [row], hr =>
    simp only [VRows] at hr
    obtain ⟨b, o, hA, hcc⟩ := hcell 0 row rfl
    exact ⟨A, c, b, o, row, rfl, hA, hr.1.len, by simpa using hcc, hr.1⟩

-- -- function 4
set_option maxHeartbeats 8000000 in
set_option maxRecDepth 8000 in
theorem heapShares_ok (w : World) (mk : Nat) (r s : List Value) (x y : Val) (hr : VRow w r x) (hs : VRow w s y) (hg : Glob w mk) : Rets Tryd.prog 4 [.agg r.toArray, .agg s.toArray] w (fun v w' => v = .bool true ∧ Ext w w') := by
  have hglt := hg.lt
  have hrS := VRow.toS _ _ hr
  have hsS := VRow.toS _ _ hs
  have hr4 := hr.len
  have hs4 := hs.len
  have wd1 : ∀ (z : Wd), ∀ u ∈ (Value.cells (wv z)).toList, u.oneCell' = true := by intro z u hu; simp [Value.cells, Wd.row] at hu; rcases hu with rfl | rfl | rfl <;> rfl
  refine rets_of_ok Tryd.func4 rfl rfl ?_
  refine ok_seq (fun M hM => ok_region rfl ?_)
  repeat ((try first | (refine ofX3 hX ?_; clear hX X) | (refine ofX2 hX ?_; clear hX X)); (first | refine wpL_step (fun X hX => ?_) | refine wpH_step (fun X hX => ?_) | refine wpE_step (fun X hX => ?_) | refine wpL_end ?_ | refine wpH_end ?_ | refine wpE_end ?_); try simp only [ oweC, oweP, opF, opH, ev, evs, evp, evo, Env.get, Env.set, putE, gdst, S0, S1, thenN, inBlockN, argEnv, builtinR, retE, fin, callR, reduceIte, Nat.reduceEqDiff, Nat.reduceAdd, reduceCtorEq, forall_const, Tryd.results4, Fx.ag22, Fx.ag24, Fx.ag31, Fx.es22, Fx.es42, Fx.fo24_3, Fx.isl22, Fx.isl42])
  refine Runs.box (fun w1 he1 hz1 hb1 => ?_)
  generalize hB1 : w.heap.size = B1 at hz1 hb1
  simp only [Value.cells] at hb1
  repeat ((try first | (refine ofX3 hX ?_; clear hX X) | (refine ofX2 hX ?_; clear hX X)); (first | refine wpL_step (fun X hX => ?_) | refine wpH_step (fun X hX => ?_) | refine wpE_step (fun X hX => ?_) | refine wpL_end ?_ | refine wpH_end ?_ | refine wpE_end ?_); try simp only [ oweC, oweP, opF, opH, ev, evs, evp, evo, Env.get, Env.set, putE, gdst, S0, S1, thenN, inBlockN, argEnv, builtinR, retE, fin, callR, reduceIte, Nat.reduceEqDiff, Nat.reduceAdd, reduceCtorEq, forall_const, Tryd.results4, Fx.ag22, Fx.ag24, Fx.ag31, Fx.es22, Fx.es42, Fx.fo24_3, Fx.isl22, Fx.isl42])
  refine Runs.box (fun w2 he2 hz2 hb2 => ?_)
  generalize hB2 : w1.heap.size = B2 at hz2 hb2
  simp only [Value.cells] at hb2
  repeat ((try first | (refine ofX3 hX ?_; clear hX X) | (refine ofX2 hX ?_; clear hX X)); (first | refine wpL_step (fun X hX => ?_) | refine wpH_step (fun X hX => ?_) | refine wpE_step (fun X hX => ?_) | refine wpL_end ?_ | refine wpH_end ?_ | refine wpE_end ?_); try simp only [ oweC, oweP, opF, opH, ev, evs, evp, evo, Env.get, Env.set, putE, gdst, S0, S1, thenN, inBlockN, argEnv, builtinR, retE, fin, callR, reduceIte, Nat.reduceEqDiff, Nat.reduceAdd, reduceCtorEq, forall_const, Tryd.results4, Fx.ag22, Fx.ag24, Fx.ag31, Fx.es22, Fx.es42, Fx.fo24_3, Fx.isl22, Fx.isl42])
  refine hM _ _ _ ?_; clear hM M
  have hb12 := hb1.ext he2
  have he02 := he1.trans he2
  refine ok_join [(2, ptrOf B1), (3, ptrOf B2)] (fun w' => Ext w2 w') ?_ ?_
  · refine ok_seq (fun M hM => ok_region rfl ?_)
    repeat ((try first | (refine ofX3 hX ?_; clear hX X) | (refine ofX2 hX ?_; clear hX X)); (first | refine wpL_step (fun X hX => ?_) | refine wpH_step (fun X hX => ?_) | refine wpE_step (fun X hX => ?_) | refine wpL_end ?_ | refine wpH_end ?_ | refine wpE_end ?_); try simp only [ oweC, oweP, opF, opH, ev, evs, evp, evo, Env.get, Env.set, putE, gdst, S0, S1, thenN, inBlockN, argEnv, builtinR, retE, fin, callR, reduceIte, Nat.reduceEqDiff, Nat.reduceAdd, reduceCtorEq, forall_const, Tryd.results4, Fx.ag22, Fx.ag24, Fx.ag31, Fx.es22, Fx.es42, Fx.fo24_3, Fx.isl22, Fx.isl42])
    refine Inv.call Fx.en6 (awake_ok w2 mk (hg.ext he02)) ?_
    rintro v w3 ⟨rfl, he3⟩
    repeat ((try first | (refine ofX3 hX ?_; clear hX X) | (refine ofX2 hX ?_; clear hX X)); (first | refine wpL_step (fun X hX => ?_) | refine wpH_step (fun X hX => ?_) | refine wpE_step (fun X hX => ?_) | refine wpL_end ?_ | refine wpH_end ?_ | refine wpE_end ?_); try simp only [ oweC, oweP, opF, opH, ev, evs, evp, evo, Env.get, Env.set, putE, gdst, S0, S1, thenN, inBlockN, argEnv, builtinR, retE, fin, callR, reduceIte, Nat.reduceEqDiff, Nat.reduceAdd, reduceCtorEq, forall_const, Tryd.results4, Fx.ag22, Fx.ag24, Fx.ag31, Fx.es22, Fx.es42, Fx.fo24_3, Fx.isl22, Fx.isl42])
    refine hM _ _ _ ?_; clear hM M
    refine ok_cond rfl (fun h => by cases h) (fun _ => ok_skip ?_)
    try simp only [wpL, wpH, wpE, oweC, oweP, opF, opH, ev, evs, evp, evo, Env.get, Env.set, putE, gdst, S0, S1, thenN, inBlockN, argEnv, builtinR, retE, fin, callR, reduceIte, Nat.reduceEqDiff, Nat.reduceAdd, reduceCtorEq, forall_const, Tryd.results4, Fx.ag22, Fx.ag24, Fx.ag31, Fx.es22, Fx.es42, Fx.fo24_3, Fx.isl22, Fx.isl42]
    exact ⟨by simp [sub, Env.get], he3⟩
  intro w3 he3
  have he03 := he02.trans he3
  refine ok_seq (fun M hM => ok_region rfl ?_)
  repeat ((try first | (refine ofX3 hX ?_; clear hX X) | (refine ofX2 hX ?_; clear hX X)); (first | refine wpL_step (fun X hX => ?_) | refine wpH_step (fun X hX => ?_) | refine wpE_step (fun X hX => ?_) | refine wpL_end ?_ | refine wpH_end ?_ | refine wpE_end ?_); try simp only [ oweC, oweP, opF, opH, ev, evs, evp, evo, Env.get, Env.set, putE, gdst, S0, S1, thenN, inBlockN, argEnv, builtinR, retE, fin, callR, reduceIte, Nat.reduceEqDiff, Nat.reduceAdd, reduceCtorEq, forall_const, Tryd.results4, Fx.ag22, Fx.ag24, Fx.ag31, Fx.es22, Fx.es42, Fx.fo24_3, Fx.isl22, Fx.isl42])
  refine Runs.alloc Fx.zi3 (fun w4 he4 hz4 hb4 => ?_)
  generalize hB4 : w3.heap.size = B4 at hz4 hb4
  repeat ((try first | (refine ofX3 hX ?_; clear hX X) | (refine ofX2 hX ?_; clear hX X)); (first | refine wpL_step (fun X hX => ?_) | refine wpH_step (fun X hX => ?_) | refine wpE_step (fun X hX => ?_) | refine wpL_end ?_ | refine wpH_end ?_ | refine wpE_end ?_); try simp only [ oweC, oweP, opF, opH, ev, evs, evp, evo, Env.get, Env.set, putE, gdst, S0, S1, thenN, inBlockN, argEnv, builtinR, retE, fin, callR, reduceIte, Nat.reduceEqDiff, Nat.reduceAdd, reduceCtorEq, forall_const, Tryd.results4, Fx.ag22, Fx.ag24, Fx.ag31, Fx.es22, Fx.es42, Fx.fo24_3, Fx.isl22, Fx.isl42])
  refine Runs.store hb4 Fx.zi3 rfl (by intro u hu; simp [Value.cells] at hu; subst hu; rfl) (by simp [Value.cells]) (fun w5 hc5 hz5 hb5 => ?_)
  rw [splice_all _ _ (by simp [Value.cells])] at hb5
  simp only [Value.cells] at hb5
  have hz23 := he3.size
  have hz02 := he02.size
  have he05 : Ext w w5 := (he03.trans he4).chg_trans hc5 (fun k hk => by omega)
  have hb15 : Blk w5 B1 r 24 := ((hb12.ext he3).ext he4).chg hc5 (by omega)
  have hb25 : Blk w5 B2 s 24 := ((hb2.ext he3).ext he4).chg hc5 (by omega)
  repeat ((try first | (refine ofX3 hX ?_; clear hX X) | (refine ofX2 hX ?_; clear hX X)); (first | refine wpL_step (fun X hX => ?_) | refine wpH_step (fun X hX => ?_) | refine wpE_step (fun X hX => ?_) | refine wpL_end ?_ | refine wpH_end ?_ | refine wpE_end ?_); try simp only [ oweC, oweP, opF, opH, ev, evs, evp, evo, Env.get, Env.set, putE, gdst, S0, S1, thenN, inBlockN, argEnv, builtinR, retE, fin, callR, reduceIte, Nat.reduceEqDiff, Nat.reduceAdd, reduceCtorEq, forall_const, Tryd.results4, Fx.ag22, Fx.ag24, Fx.ag31, Fx.es22, Fx.es42, Fx.fo24_3, Fx.isl22, Fx.isl42])
  refine hM _ _ _ ?_; clear hM M
  refine ok_join [(2, ptrOf B1), (3, ptrOf B2)] (fun w' => Ext w w' ∧ Blk w' B1 r 24 ∧ Blk w' B2 s 24 ∧ cntV x ≤ 120 ∧ cntV y ≤ 120 ∧ cntV x + cntV y ≤ 120) ?_ ?_
  · refine ok_seq (fun M hM => ok_region rfl ?_)
    repeat ((try first | (refine ofX3 hX ?_; clear hX X) | (refine ofX2 hX ?_; clear hX X)); (first | refine wpL_step (fun X hX => ?_) | refine wpH_step (fun X hX => ?_) | refine wpE_step (fun X hX => ?_) | refine wpL_end ?_ | refine wpH_end ?_ | refine wpE_end ?_); try simp only [ oweC, oweP, opF, opH, ev, evs, evp, evo, Env.get, Env.set, putE, gdst, S0, S1, thenN, inBlockN, argEnv, builtinR, retE, fin, callR, reduceIte, Nat.reduceEqDiff, Nat.reduceAdd, reduceCtorEq, forall_const, Tryd.results4, Fx.ag22, Fx.ag24, Fx.ag31, Fx.es22, Fx.es42, Fx.fo24_3, Fx.isl22, Fx.isl42])
    refine ⟨r, hr4, hb15.cells (o := 0) (fun j u hj => by simpa using hj), ?_⟩
    repeat ((try first | (refine ofX3 hX ?_; clear hX X) | (refine ofX2 hX ?_; clear hX X)); (first | refine wpL_step (fun X hX => ?_) | refine wpH_step (fun X hX => ?_) | refine wpE_step (fun X hX => ?_) | refine wpL_end ?_ | refine wpH_end ?_ | refine wpE_end ?_); try simp only [ oweC, oweP, opF, opH, ev, evs, evp, evo, Env.get, Env.set, putE, gdst, S0, S1, thenN, inBlockN, argEnv, builtinR, retE, fin, callR, reduceIte, Nat.reduceEqDiff, Nat.reduceAdd, reduceCtorEq, forall_const, Tryd.results4, Fx.ag22, Fx.ag24, Fx.ag31, Fx.es22, Fx.es42, Fx.fo24_3, Fx.isl22, Fx.isl42])
    refine Inv.call Fx.en7 (few_ok _ x w5 (fun k => k < w.heap.size) r B4 120 (Nat.le_refl _) (VRowS.ext hrS he05) (by omega) hb5 (by decide) (by decide)) ?_
    rintro v w6 ⟨b, L', rfl, hb6, hc6, hbb⟩
    have he06 : Ext w w6 := he05.chg_trans hc6 (fun k hk => by omega)
    have hb16 : Blk w6 B1 r 24 := hb15.chg hc6 (by omega)
    have hb26 : Blk w6 B2 s 24 := hb25.chg hc6 (by omega)
    repeat ((try first | (refine ofX3 hX ?_; clear hX X) | (refine ofX2 hX ?_; clear hX X)); (first | refine wpL_step (fun X hX => ?_) | refine wpH_step (fun X hX => ?_) | refine wpE_step (fun X hX => ?_) | refine wpL_end ?_ | refine wpH_end ?_ | refine wpE_end ?_); try simp only [ oweC, oweP, opF, opH, ev, evs, evp, evo, Env.get, Env.set, putE, gdst, S0, S1, thenN, inBlockN, argEnv, builtinR, retE, fin, callR, reduceIte, Nat.reduceEqDiff, Nat.reduceAdd, reduceCtorEq, forall_const, Tryd.results4, Fx.ag22, Fx.ag24, Fx.ag31, Fx.es22, Fx.es42, Fx.fo24_3, Fx.isl22, Fx.isl42])
    cases b with
    | false =>
      refine ⟨fun h => (by cases h), fun _ => ?_⟩
      repeat ((try first | (refine ofX3 hX ?_; clear hX X) | (refine ofX2 hX ?_; clear hX X)); (first | refine wpL_step (fun X hX => ?_) | refine wpH_step (fun X hX => ?_) | refine wpE_step (fun X hX => ?_) | refine wpL_end ?_ | refine wpH_end ?_ | refine wpE_end ?_); try simp only [ oweC, oweP, opF, opH, ev, evs, evp, evo, Env.get, Env.set, putE, gdst, S0, S1, thenN, inBlockN, argEnv, builtinR, retE, fin, callR, reduceIte, Nat.reduceEqDiff, Nat.reduceAdd, reduceCtorEq, forall_const, Tryd.results4, Fx.ag22, Fx.ag24, Fx.ag31, Fx.es22, Fx.es42, Fx.fo24_3, Fx.isl22, Fx.isl42])
      refine hM _ _ _ ?_; clear hM M
      refine ok_cond (b := true) rfl (fun _ => ?_) (fun h => by cases h)
      refine ok_seq (fun M hM => ok_region rfl ?_); repeat ((try first | (refine ofX3 hX ?_; clear hX X) | (refine ofX2 hX ?_; clear hX X)); (first | refine wpL_step (fun X hX => ?_) | refine wpH_step (fun X hX => ?_) | refine wpE_step (fun X hX => ?_) | refine wpL_end ?_ | refine wpH_end ?_ | refine wpE_end ?_); try simp only [ oweC, oweP, opF, opH, ev, evs, evp, evo, Env.get, Env.set, putE, gdst, S0, S1, thenN, inBlockN, argEnv, builtinR, retE, fin, callR, reduceIte, Nat.reduceEqDiff, Nat.reduceAdd, reduceCtorEq, forall_const, Tryd.results4, Fx.ag22, Fx.ag24, Fx.ag31, Fx.es22, Fx.es42, Fx.fo24_3, Fx.isl22, Fx.isl42])
      refine hM _ _ _ ?_; clear hM M
      refine ok_ret ?_
      try simp only [wpL, wpH, wpE, oweC, oweP, opF, opH, ev, evs, evp, evo, Env.get, Env.set, putE, gdst, S0, S1, thenN, inBlockN, argEnv, builtinR, retE, fin, callR, reduceIte, Nat.reduceEqDiff, Nat.reduceAdd, reduceCtorEq, forall_const, Tryd.results4, Fx.ag22, Fx.ag24, Fx.ag31, Fx.es22, Fx.es42, Fx.fo24_3, Fx.isl22, Fx.isl42]
      exact he06
    | true =>
      obtain ⟨hL1, hL2⟩ := hbb rfl
      refine ⟨fun _ => ?_, fun h => by cases h⟩
      repeat ((try first | (refine ofX3 hX ?_; clear hX X) | (refine ofX2 hX ?_; clear hX X)); (first | refine wpL_step (fun X hX => ?_) | refine wpH_step (fun X hX => ?_) | refine wpE_step (fun X hX => ?_) | refine wpL_end ?_ | refine wpH_end ?_ | refine wpE_end ?_); try simp only [ oweC, oweP, opF, opH, ev, evs, evp, evo, Env.get, Env.set, putE, gdst, S0, S1, thenN, inBlockN, argEnv, builtinR, retE, fin, callR, reduceIte, Nat.reduceEqDiff, Nat.reduceAdd, reduceCtorEq, forall_const, Tryd.results4, Fx.ag22, Fx.ag24, Fx.ag31, Fx.es22, Fx.es42, Fx.fo24_3, Fx.isl22, Fx.isl42])
      refine ⟨s, hs4, hb26.cells (o := 0) (fun j u hj => by simpa using hj), ?_⟩
      repeat ((try first | (refine ofX3 hX ?_; clear hX X) | (refine ofX2 hX ?_; clear hX X)); (first | refine wpL_step (fun X hX => ?_) | refine wpH_step (fun X hX => ?_) | refine wpE_step (fun X hX => ?_) | refine wpL_end ?_ | refine wpH_end ?_ | refine wpE_end ?_); try simp only [ oweC, oweP, opF, opH, ev, evs, evp, evo, Env.get, Env.set, putE, gdst, S0, S1, thenN, inBlockN, argEnv, builtinR, retE, fin, callR, reduceIte, Nat.reduceEqDiff, Nat.reduceAdd, reduceCtorEq, forall_const, Tryd.results4, Fx.ag22, Fx.ag24, Fx.ag31, Fx.es22, Fx.es42, Fx.fo24_3, Fx.isl22, Fx.isl42])
      refine Inv.call Fx.en7 (few_ok _ y w6 (fun k => k < w.heap.size) s B4 L' (Nat.le_refl _) (VRowS.ext hsS he06) (by omega) hb6 hL2 (by omega)) ?_
      rintro v w7 ⟨b, L2, rfl, hb7, hc7, hbb2⟩
      have he07 : Ext w w7 := he06.chg_trans hc7 (fun k hk => by omega)
      repeat ((try first | (refine ofX3 hX ?_; clear hX X) | (refine ofX2 hX ?_; clear hX X)); (first | refine wpL_step (fun X hX => ?_) | refine wpH_step (fun X hX => ?_) | refine wpE_step (fun X hX => ?_) | refine wpL_end ?_ | refine wpH_end ?_ | refine wpE_end ?_); try simp only [ oweC, oweP, opF, opH, ev, evs, evp, evo, Env.get, Env.set, putE, gdst, S0, S1, thenN, inBlockN, argEnv, builtinR, retE, fin, callR, reduceIte, Nat.reduceEqDiff, Nat.reduceAdd, reduceCtorEq, forall_const, Tryd.results4, Fx.ag22, Fx.ag24, Fx.ag31, Fx.es22, Fx.es42, Fx.fo24_3, Fx.isl22, Fx.isl42])
      cases b with
      | false =>
        repeat ((try first | (refine ofX3 hX ?_; clear hX X) | (refine ofX2 hX ?_; clear hX X)); (first | refine wpL_step (fun X hX => ?_) | refine wpH_step (fun X hX => ?_) | refine wpE_step (fun X hX => ?_) | refine wpL_end ?_ | refine wpH_end ?_ | refine wpE_end ?_); try simp only [ oweC, oweP, opF, opH, ev, evs, evp, evo, Env.get, Env.set, putE, gdst, S0, S1, thenN, inBlockN, argEnv, builtinR, retE, fin, callR, reduceIte, Nat.reduceEqDiff, Nat.reduceAdd, reduceCtorEq, forall_const, Tryd.results4, Fx.ag22, Fx.ag24, Fx.ag31, Fx.es22, Fx.es42, Fx.fo24_3, Fx.isl22, Fx.isl42])
        refine hM _ _ _ ?_; clear hM M
        refine ok_cond (b := true) rfl (fun _ => ?_) (fun h => by cases h)
        refine ok_seq (fun M hM => ok_region rfl ?_); repeat ((try first | (refine ofX3 hX ?_; clear hX X) | (refine ofX2 hX ?_; clear hX X)); (first | refine wpL_step (fun X hX => ?_) | refine wpH_step (fun X hX => ?_) | refine wpE_step (fun X hX => ?_) | refine wpL_end ?_ | refine wpH_end ?_ | refine wpE_end ?_); try simp only [ oweC, oweP, opF, opH, ev, evs, evp, evo, Env.get, Env.set, putE, gdst, S0, S1, thenN, inBlockN, argEnv, builtinR, retE, fin, callR, reduceIte, Nat.reduceEqDiff, Nat.reduceAdd, reduceCtorEq, forall_const, Tryd.results4, Fx.ag22, Fx.ag24, Fx.ag31, Fx.es22, Fx.es42, Fx.fo24_3, Fx.isl22, Fx.isl42])
        refine hM _ _ _ ?_; clear hM M
        refine ok_ret ?_
        try simp only [wpL, wpH, wpE, oweC, oweP, opF, opH, ev, evs, evp, evo, Env.get, Env.set, putE, gdst, S0, S1, thenN, inBlockN, argEnv, builtinR, retE, fin, callR, reduceIte, Nat.reduceEqDiff, Nat.reduceAdd, reduceCtorEq, forall_const, Tryd.results4, Fx.ag22, Fx.ag24, Fx.ag31, Fx.es22, Fx.es42, Fx.fo24_3, Fx.isl22, Fx.isl42]
        exact he07
      | true =>
        obtain ⟨hL3, hL4⟩ := hbb2 rfl
        repeat ((try first | (refine ofX3 hX ?_; clear hX X) | (refine ofX2 hX ?_; clear hX X)); (first | refine wpL_step (fun X hX => ?_) | refine wpH_step (fun X hX => ?_) | refine wpE_step (fun X hX => ?_) | refine wpL_end ?_ | refine wpH_end ?_ | refine wpE_end ?_); try simp only [ oweC, oweP, opF, opH, ev, evs, evp, evo, Env.get, Env.set, putE, gdst, S0, S1, thenN, inBlockN, argEnv, builtinR, retE, fin, callR, reduceIte, Nat.reduceEqDiff, Nat.reduceAdd, reduceCtorEq, forall_const, Tryd.results4, Fx.ag22, Fx.ag24, Fx.ag31, Fx.es22, Fx.es42, Fx.fo24_3, Fx.isl22, Fx.isl42])
        refine hM _ _ _ ?_; clear hM M
        refine ok_cond (b := false) rfl (fun h => by cases h) (fun _ => ok_skip ?_)
        try simp only [wpL, wpH, wpE, oweC, oweP, opF, opH, ev, evs, evp, evo, Env.get, Env.set, putE, gdst, S0, S1, thenN, inBlockN, argEnv, builtinR, retE, fin, callR, reduceIte, Nat.reduceEqDiff, Nat.reduceAdd, reduceCtorEq, forall_const, Tryd.results4, Fx.ag22, Fx.ag24, Fx.ag31, Fx.es22, Fx.es42, Fx.fo24_3, Fx.isl22, Fx.isl42]
        exact ⟨by simp [sub, Env.get], he07, hb16.chg hc7 (by omega), hb26.chg hc7 (by omega), by omega, by omega, by omega⟩
  rintro w5' ⟨he5', hbx, hby, hcx, hcy, hcxy⟩
  clear hb15 hb25 he05 hb5 hc5 he4 he3 he03
  -- the heap
  refine ok_seq (fun M hM => ok_region rfl ?_)
  repeat ((try first | (refine ofX3 hX ?_; clear hX X) | (refine ofX2 hX ?_; clear hX X)); (first | refine wpL_step (fun X hX => ?_) | refine wpH_step (fun X hX => ?_) | refine wpE_step (fun X hX => ?_) | refine wpL_end ?_ | refine wpH_end ?_ | refine wpE_end ?_); try simp only [ oweC, oweP, opF, opH, ev, evs, evp, evo, Env.get, Env.set, putE, gdst, S0, S1, thenN, inBlockN, argEnv, builtinR, retE, fin, callR, reduceIte, Nat.reduceEqDiff, Nat.reduceAdd, reduceCtorEq, forall_const, Tryd.results4, Fx.ag22, Fx.ag24, Fx.ag31, Fx.es22, Fx.es42, Fx.fo24_3, Fx.isl22, Fx.isl42])
  refine Inv.call Fx.en8 (new_ok w5') ?_
  rintro v w6 ⟨hb, rb, rfl, hH6, he6, hhb, hrb⟩
  have hs5 := he5'.size
  have hA6 : AW w5' w6 hb rb [] (fun k => k = hb) := ⟨hH6, he6, fun k hk => by subst hk; obtain ⟨vs, ps, gs, h1, h2, h3⟩ := hH6; exact ⟨by omega, (h2 _ (.inl rfl)).2⟩⟩
  have hs6 := hA6.ext.size
  have hB1l := hbx.lt
  have hB2l := hby.lt
  repeat ((try first | (refine ofX3 hX ?_; clear hX X) | (refine ofX2 hX ?_; clear hX X)); (first | refine wpL_step (fun X hX => ?_) | refine wpH_step (fun X hX => ?_) | refine wpE_step (fun X hX => ?_) | refine wpL_end ?_ | refine wpH_end ?_ | refine wpE_end ?_); try simp only [ oweC, oweP, opF, opH, ev, evs, evp, evo, Env.get, Env.set, putE, gdst, S0, S1, thenN, inBlockN, argEnv, builtinR, retE, fin, callR, reduceIte, Nat.reduceEqDiff, Nat.reduceAdd, reduceCtorEq, forall_const, Tryd.results4, Fx.ag22, Fx.ag24, Fx.ag31, Fx.es22, Fx.es42, Fx.fo24_3, Fx.isl22, Fx.isl42])
  refine hM _ _ _ ?_; clear hM M
  refine ok_seq (fun M hM => ok_region rfl ?_)
  repeat ((try first | (refine ofX3 hX ?_; clear hX X) | (refine ofX2 hX ?_; clear hX X)); (first | refine wpL_step (fun X hX => ?_) | refine wpH_step (fun X hX => ?_) | refine wpE_step (fun X hX => ?_) | refine wpL_end ?_ | refine wpH_end ?_ | refine wpE_end ?_); try simp only [ oweC, oweP, opF, opH, ev, evs, evp, evo, Env.get, Env.set, putE, gdst, S0, S1, thenN, inBlockN, argEnv, builtinR, retE, fin, callR, reduceIte, Nat.reduceEqDiff, Nat.reduceAdd, reduceCtorEq, forall_const, Tryd.results4, Fx.ag22, Fx.ag24, Fx.ag31, Fx.es22, Fx.es42, Fx.fo24_3, Fx.isl22, Fx.isl42])
  refine ⟨r, hr4, (hbx.ext he6).cells (o := 0) (fun j u hj => by simpa using hj), ?_⟩
  repeat ((try first | (refine ofX3 hX ?_; clear hX X) | (refine ofX2 hX ?_; clear hX X)); (first | refine wpL_step (fun X hX => ?_) | refine wpH_step (fun X hX => ?_) | refine wpE_step (fun X hX => ?_) | refine wpL_end ?_ | refine wpH_end ?_ | refine wpE_end ?_); try simp only [ oweC, oweP, opF, opH, ev, evs, evp, evo, Env.get, Env.set, putE, gdst, S0, S1, thenN, inBlockN, argEnv, builtinR, retE, fin, callR, reduceIte, Nat.reduceEqDiff, Nat.reduceAdd, reduceCtorEq, forall_const, Tryd.results4, Fx.ag22, Fx.ag24, Fx.ag31, Fx.es22, Fx.es42, Fx.fo24_3, Fx.isl22, Fx.isl42])
  refine Inv.call Fx.en9 (Store_ok x w6 (fun k => k < w.heap.size) r mk hb rb [] _ (VRowS.ext hrS (he5'.trans hA6.ext)) (fun k hk => ⟨fun h => by omega, by omega⟩) (hg.ext (he5'.trans hA6.ext)) ⟨by omega, by omega, by omega⟩ hA6.hp (fun k hk => (hA6.lt k hk).2) (by simp; omega)) ?_
  have hst1 := fun h0 => storeS_stored (x := x) (H := []) h0 desc_nil lim_nil (by omega)
  have hln1 := storeS_len x []
  simp only [List.length_nil, Nat.zero_add] at hln1
  generalize storeS [] x = q1 at *
  rintro v w7 ⟨rfl, hG7⟩
  obtain ⟨F7, hA7, hc7, hF7⟩ := hA6.grown hG7
  repeat ((try first | (refine ofX3 hX ?_; clear hX X) | (refine ofX2 hX ?_; clear hX X)); (first | refine wpL_step (fun X hX => ?_) | refine wpH_step (fun X hX => ?_) | refine wpE_step (fun X hX => ?_) | refine wpL_end ?_ | refine wpH_end ?_ | refine wpE_end ?_); try simp only [ oweC, oweP, opF, opH, ev, evs, evp, evo, Env.get, Env.set, putE, gdst, S0, S1, thenN, inBlockN, argEnv, builtinR, retE, fin, callR, reduceIte, Nat.reduceEqDiff, Nat.reduceAdd, reduceCtorEq, forall_const, Tryd.results4, Fx.ag22, Fx.ag24, Fx.ag31, Fx.es22, Fx.es42, Fx.fo24_3, Fx.isl22, Fx.isl42])
  refine Runs.alloc Fx.zi31 (fun w8 he8 hs8 hb8 => ?_)
  generalize hC7 : w7.heap.size = C7 at hs8 hb8
  repeat ((try first | (refine ofX3 hX ?_; clear hX X) | (refine ofX2 hX ?_; clear hX X)); (first | refine wpL_step (fun X hX => ?_) | refine wpH_step (fun X hX => ?_) | refine wpE_step (fun X hX => ?_) | refine wpL_end ?_ | refine wpH_end ?_ | refine wpE_end ?_); try simp only [ oweC, oweP, opF, opH, ev, evs, evp, evo, Env.get, Env.set, putE, gdst, S0, S1, thenN, inBlockN, argEnv, builtinR, retE, fin, callR, reduceIte, Nat.reduceEqDiff, Nat.reduceAdd, reduceCtorEq, forall_const, Tryd.results4, Fx.ag22, Fx.ag24, Fx.ag31, Fx.es22, Fx.es42, Fx.fo24_3, Fx.isl22, Fx.isl42])
  refine Runs.store hb8 Fx.zi31 rfl (wd1 _) (by simp [Value.cells]) (fun w9 hc9 hs9 hb9 => ?_)
  rw [splice_all _ _ (by simp [Value.cells])] at hb9
  simp only [Value.cells] at hb9
  have hA9 := hA7.ex (he8.chg_trans hc9 (fun k hk => by omega))
  have hl7 := hA7.lt
  have hC7L : LocB w9 F7 C7 q1.2.1.row 31 := ⟨hb9, fun h => by have := hl7 C7 h; omega⟩
  have hgt : ∀ {W : World}, Ext w5' W → Glob W mk := fun h => hg.ext (he5'.trans h)
  have hB2A : ∀ {W : World}, Ext w5' W → cellsAt W ⟨B2, 0, none⟩ s := fun h => (hby.ext h).cells (o := 0) (fun j u hj => by simpa using hj)
  have hB1A : ∀ {W : World}, Ext w5' W → cellsAt W ⟨B1, 0, none⟩ r := fun h => (hbx.ext h).cells (o := 0) (fun j u hj => by simpa using hj)
  repeat ((try first | (refine ofX3 hX ?_; clear hX X) | (refine ofX2 hX ?_; clear hX X)); (first | refine wpL_step (fun X hX => ?_) | refine wpH_step (fun X hX => ?_) | refine wpE_step (fun X hX => ?_) | refine wpL_end ?_ | refine wpH_end ?_ | refine wpE_end ?_); try simp only [ oweC, oweP, opF, opH, ev, evs, evp, evo, Env.get, Env.set, putE, gdst, S0, S1, thenN, inBlockN, argEnv, builtinR, retE, fin, callR, reduceIte, Nat.reduceEqDiff, Nat.reduceAdd, reduceCtorEq, forall_const, Tryd.results4, Fx.ag22, Fx.ag24, Fx.ag31, Fx.es22, Fx.es42, Fx.fo24_3, Fx.isl22, Fx.isl42])
  refine hM _ _ _ ?_; clear hM M
  refine ok_seq (fun M hM => ok_region rfl ?_)
  repeat ((try first | (refine ofX3 hX ?_; clear hX X) | (refine ofX2 hX ?_; clear hX X)); (first | refine wpL_step (fun X hX => ?_) | refine wpH_step (fun X hX => ?_) | refine wpE_step (fun X hX => ?_) | refine wpL_end ?_ | refine wpH_end ?_ | refine wpE_end ?_); try simp only [ oweC, oweP, opF, opH, ev, evs, evp, evo, Env.get, Env.set, putE, gdst, S0, S1, thenN, inBlockN, argEnv, builtinR, retE, fin, callR, reduceIte, Nat.reduceEqDiff, Nat.reduceAdd, reduceCtorEq, forall_const, Tryd.results4, Fx.ag22, Fx.ag24, Fx.ag31, Fx.es22, Fx.es42, Fx.fo24_3, Fx.isl22, Fx.isl42])
  refine ⟨s, hs4, hB2A hA9.ext, ?_⟩
  repeat ((try first | (refine ofX3 hX ?_; clear hX X) | (refine ofX2 hX ?_; clear hX X)); (first | refine wpL_step (fun X hX => ?_) | refine wpH_step (fun X hX => ?_) | refine wpE_step (fun X hX => ?_) | refine wpL_end ?_ | refine wpH_end ?_ | refine wpE_end ?_); try simp only [ oweC, oweP, opF, opH, ev, evs, evp, evo, Env.get, Env.set, putE, gdst, S0, S1, thenN, inBlockN, argEnv, builtinR, retE, fin, callR, reduceIte, Nat.reduceEqDiff, Nat.reduceAdd, reduceCtorEq, forall_const, Tryd.results4, Fx.ag22, Fx.ag24, Fx.ag31, Fx.es22, Fx.es42, Fx.fo24_3, Fx.isl22, Fx.isl42])
  refine Inv.call Fx.en9 (Store_ok y w9 (fun k => k < w.heap.size) s mk hb rb q1.1 F7 (VRowS.ext hsS (he5'.trans hA9.ext)) (fun k hk => ⟨fun h => by have := hA9.lt k h; omega, by have := hA9.ext.size; omega⟩) (hgt hA9.ext) ⟨fun h => by have := hA9.lt _ h; omega, fun h => by have := hA9.lt _ h; omega, fun h => by have := hA9.lt _ h; omega⟩ hA9.hp (fun k hk => (hA9.lt k hk).2) (by omega)) ?_
  have hst2 := fun h0 hD hL => storeS_stored (x := y) (H := q1.1) h0 hD hL (by omega)
  have hln2 := storeS_len y q1.1
  generalize storeS q1.1 y = q2 at *
  rintro v w10 ⟨rfl, hG10⟩
  obtain ⟨F10, hA10, hc10, hF10⟩ := hA9.grown hG10
  have hC7L := hC7L.grown hc10 hF10
  repeat ((try first | (refine ofX3 hX ?_; clear hX X) | (refine ofX2 hX ?_; clear hX X)); (first | refine wpL_step (fun X hX => ?_) | refine wpH_step (fun X hX => ?_) | refine wpE_step (fun X hX => ?_) | refine wpL_end ?_ | refine wpH_end ?_ | refine wpE_end ?_); try simp only [ oweC, oweP, opF, opH, ev, evs, evp, evo, Env.get, Env.set, putE, gdst, S0, S1, thenN, inBlockN, argEnv, builtinR, retE, fin, callR, reduceIte, Nat.reduceEqDiff, Nat.reduceAdd, reduceCtorEq, forall_const, Tryd.results4, Fx.ag22, Fx.ag24, Fx.ag31, Fx.es22, Fx.es42, Fx.fo24_3, Fx.isl22, Fx.isl42])
  refine Runs.alloc Fx.zi31 (fun w11 he11 hs11 hb11 => ?_)
  generalize hC9 : w10.heap.size = C9 at hs11 hb11
  repeat ((try first | (refine ofX3 hX ?_; clear hX X) | (refine ofX2 hX ?_; clear hX X)); (first | refine wpL_step (fun X hX => ?_) | refine wpH_step (fun X hX => ?_) | refine wpE_step (fun X hX => ?_) | refine wpL_end ?_ | refine wpH_end ?_ | refine wpE_end ?_); try simp only [ oweC, oweP, opF, opH, ev, evs, evp, evo, Env.get, Env.set, putE, gdst, S0, S1, thenN, inBlockN, argEnv, builtinR, retE, fin, callR, reduceIte, Nat.reduceEqDiff, Nat.reduceAdd, reduceCtorEq, forall_const, Tryd.results4, Fx.ag22, Fx.ag24, Fx.ag31, Fx.es22, Fx.es42, Fx.fo24_3, Fx.isl22, Fx.isl42])
  refine Runs.store hb11 Fx.zi31 rfl (wd1 _) (by simp [Value.cells]) (fun w12 hc12 hs12 hb12 => ?_)
  rw [splice_all _ _ (by simp [Value.cells])] at hb12
  simp only [Value.cells] at hb12
  have he1012 : Ext w10 w12 := he11.chg_trans hc12 (fun k hk => by omega)
  have hA12 := hA10.ex he1012
  have hC7L := hC7L.ext he1012
  have hl10 := hA10.lt
  have hC9L : LocB w12 F10 C9 q2.2.1.row 31 := ⟨hb12, fun h => by have := hl10 C9 h; omega⟩
  repeat ((try first | (refine ofX3 hX ?_; clear hX X) | (refine ofX2 hX ?_; clear hX X)); (first | refine wpL_step (fun X hX => ?_) | refine wpH_step (fun X hX => ?_) | refine wpE_step (fun X hX => ?_) | refine wpL_end ?_ | refine wpH_end ?_ | refine wpE_end ?_); try simp only [ oweC, oweP, opF, opH, ev, evs, evp, evo, Env.get, Env.set, putE, gdst, S0, S1, thenN, inBlockN, argEnv, builtinR, retE, fin, callR, reduceIte, Nat.reduceEqDiff, Nat.reduceAdd, reduceCtorEq, forall_const, Tryd.results4, Fx.ag22, Fx.ag24, Fx.ag31, Fx.es22, Fx.es42, Fx.fo24_3, Fx.isl22, Fx.isl42])
  refine hM _ _ _ ?_; clear hM M
  refine ok_join [(2, ptrOf B1), (3, ptrOf B2), (6, ptrOf hb), (7, ptrOf C7), (9, ptrOf C9)] (fun w' => w' = w12 ∧ q1.2.2 = 0 ∧ q2.2.2 = 0) ?_ ?_
  · refine ok_join [(2, ptrOf B1), (3, ptrOf B2), (6, ptrOf hb), (7, ptrOf C7), (9, ptrOf C9), (49, .bool (!decide (q1.2.2 = 0 ∧ q2.2.2 = 0)))] (fun w' => w' = w12) ?_ ?_
    · refine ok_region rfl ?_
      repeat ((try first | (refine ofX3 hX ?_; clear hX X) | (refine ofX2 hX ?_; clear hX X)); (first | refine wpL_step (fun X hX => ?_) | refine wpH_step (fun X hX => ?_) | refine wpE_step (fun X hX => ?_) | refine wpL_end ?_ | refine wpH_end ?_ | refine wpE_end ?_); try simp only [ oweC, oweP, opF, opH, ev, evs, evp, evo, Env.get, Env.set, putE, gdst, S0, S1, thenN, inBlockN, argEnv, builtinR, retE, fin, callR, reduceIte, Nat.reduceEqDiff, Nat.reduceAdd, reduceCtorEq, forall_const, Tryd.results4, Fx.ag22, Fx.ag24, Fx.ag31, Fx.es22, Fx.es42, Fx.fo24_3, Fx.isl22, Fx.isl42])
      refine ⟨fun h => ?_, fun h => ?_⟩
      · have h1 : q1.2.2 = 0 := by simpa using h
        simp only [h1, decide_true, Bool.not_true]
        repeat ((try first | (refine ofX3 hX ?_; clear hX X) | (refine ofX2 hX ?_; clear hX X)); (first | refine wpL_step (fun X hX => ?_) | refine wpH_step (fun X hX => ?_) | refine wpE_step (fun X hX => ?_) | refine wpL_end ?_ | refine wpH_end ?_ | refine wpE_end ?_); try simp only [ oweC, oweP, opF, opH, ev, evs, evp, evo, Env.get, Env.set, putE, gdst, S0, S1, thenN, inBlockN, argEnv, builtinR, retE, fin, callR, reduceIte, Nat.reduceEqDiff, Nat.reduceAdd, reduceCtorEq, forall_const, Tryd.results4, Fx.ag22, Fx.ag24, Fx.ag31, Fx.es22, Fx.es42, Fx.fo24_3, Fx.isl22, Fx.isl42])
        simp [sub, Env.get, h1]
      · have h1 : ¬ q1.2.2 = 0 := by simpa using h
        repeat ((try first | (refine ofX3 hX ?_; clear hX X) | (refine ofX2 hX ?_; clear hX X)); (first | refine wpL_step (fun X hX => ?_) | refine wpH_step (fun X hX => ?_) | refine wpE_step (fun X hX => ?_) | refine wpL_end ?_ | refine wpH_end ?_ | refine wpE_end ?_); try simp only [ oweC, oweP, opF, opH, ev, evs, evp, evo, Env.get, Env.set, putE, gdst, S0, S1, thenN, inBlockN, argEnv, builtinR, retE, fin, callR, reduceIte, Nat.reduceEqDiff, Nat.reduceAdd, reduceCtorEq, forall_const, Tryd.results4, Fx.ag22, Fx.ag24, Fx.ag31, Fx.es22, Fx.es42, Fx.fo24_3, Fx.isl22, Fx.isl42])
        simp [sub, Env.get, h1]
    rintro w' rfl
    refine ok_ifn rfl (fun hq => ?_) (fun hq => ok_skip ?_)
    · refine ok_seq (fun M hM => ok_region rfl ?_); repeat ((try first | (refine ofX3 hX ?_; clear hX X) | (refine ofX2 hX ?_; clear hX X)); (first | refine wpL_step (fun X hX => ?_) | refine wpH_step (fun X hX => ?_) | refine wpE_step (fun X hX => ?_) | refine wpL_end ?_ | refine wpH_end ?_ | refine wpE_end ?_); try simp only [ oweC, oweP, opF, opH, ev, evs, evp, evo, Env.get, Env.set, putE, gdst, S0, S1, thenN, inBlockN, argEnv, builtinR, retE, fin, callR, reduceIte, Nat.reduceEqDiff, Nat.reduceAdd, reduceCtorEq, forall_const, Tryd.results4, Fx.ag22, Fx.ag24, Fx.ag31, Fx.es22, Fx.es42, Fx.fo24_3, Fx.isl22, Fx.isl42])
      refine hM _ _ _ ?_; clear hM M
      refine ok_ret ?_
      try simp only [wpL, wpH, wpE, oweC, oweP, opF, opH, ev, evs, evp, evo, Env.get, Env.set, putE, gdst, S0, S1, thenN, inBlockN, argEnv, builtinR, retE, fin, callR, reduceIte, Nat.reduceEqDiff, Nat.reduceAdd, reduceCtorEq, forall_const, Tryd.results4, Fx.ag22, Fx.ag24, Fx.ag31, Fx.es22, Fx.es42, Fx.fo24_3, Fx.isl22, Fx.isl42]
      exact he5'.trans hA12.ext
    · try simp only [wpL, wpH, wpE, oweC, oweP, opF, opH, ev, evs, evp, evo, Env.get, Env.set, putE, gdst, S0, S1, thenN, inBlockN, argEnv, builtinR, retE, fin, callR, reduceIte, Nat.reduceEqDiff, Nat.reduceAdd, reduceCtorEq, forall_const, Tryd.results4, Fx.ag22, Fx.ag24, Fx.ag31, Fx.es22, Fx.es42, Fx.fo24_3, Fx.isl22, Fx.isl42]
      exact ⟨by simp [sub, Env.get], hq.1, hq.2⟩
  rintro w' ⟨rfl, hq1, hq2⟩
  obtain ⟨-, hD1, hL1, hr1, hk1, hld1⟩ := hst1 hq1
  obtain ⟨⟨E2, hE2⟩, hD2, hL2, hr2, hk2, hld2⟩ := hst2 hq2 hD1 hL1
  have hr1' : rightW q2.1 q1.2.1 = true := by rw [hE2]; exact rightW_app hr1
  have hld1' : Lds q2.1 q1.2.1 x := by rw [hE2]; exact Lds_app hD1.wf x _ (right_ref hr1).2 hld1
  clear hst1 hst2
  generalize q2.1 = H2 at *
  generalize q2.2.1 = y2 at *
  generalize q1.1 = H1 at *
  generalize q1.2.1 = x2 at *
  have hx2 : rightW H2 x2 = true := hr1'
  have bad : ∀ (H : List Ob) (z : Wd), rightW H z = true → z.k ≠ 0 ∧ z.k ≠ 9 → badArg H z = false := fun H z h h2 => by simp [badArg, h, h2]
  have hH2l : H2.length ≤ 240 := by omega
  -- a
  refine ok_seq (fun M hM => ok_region rfl ?_)
  repeat ((try first | (refine ofX3 hX ?_; clear hX X) | (refine ofX2 hX ?_; clear hX X)); (first | refine wpL_step (fun X hX => ?_) | refine wpH_step (fun X hX => ?_) | refine wpE_step (fun X hX => ?_) | refine wpL_end ?_ | refine wpH_end ?_ | refine wpE_end ?_); try simp only [ oweC, oweP, opF, opH, ev, evs, evp, evo, Env.get, Env.set, putE, gdst, S0, S1, thenN, inBlockN, argEnv, builtinR, retE, fin, callR, reduceIte, Nat.reduceEqDiff, Nat.reduceAdd, reduceCtorEq, forall_const, Tryd.results4, Fx.ag22, Fx.ag24, Fx.ag31, Fx.es22, Fx.es42, Fx.fo24_3, Fx.isl22, Fx.isl42])
  refine ⟨x2.row, rfl, hC7L.1.cells (o := 0) (fun j u hj => by simpa using hj), ?_⟩
  repeat ((try first | (refine ofX3 hX ?_; clear hX X) | (refine ofX2 hX ?_; clear hX X)); (first | refine wpL_step (fun X hX => ?_) | refine wpH_step (fun X hX => ?_) | refine wpE_step (fun X hX => ?_) | refine wpL_end ?_ | refine wpH_end ?_ | refine wpE_end ?_); try simp only [ oweC, oweP, opF, opH, ev, evs, evp, evo, Env.get, Env.set, putE, gdst, S0, S1, thenN, inBlockN, argEnv, builtinR, retE, fin, callR, reduceIte, Nat.reduceEqDiff, Nat.reduceAdd, reduceCtorEq, forall_const, Tryd.results4, Fx.ag22, Fx.ag24, Fx.ag31, Fx.es22, Fx.es42, Fx.fo24_3, Fx.isl22, Fx.isl42])
  refine Runs.lit (cs := x2.row) Fx.un42 Fx.zi31 (by decide) (by kernel_rfl) (by decide) (fun w13 he13 hs13 hb13 => ?_)
  generalize hB13 : w'.heap.size = B13 at hs13 hb13
  have one : ∀ (W : World) (B : Nat) (z : Wd), Blk W B z.row 31 → SlW W (.slice (some ⟨B, 0, none⟩) 1 1) [z] := fun W B z hbx => ⟨some ⟨B, 0, none⟩, 1, rfl, by simp, fun j row hj => by
    have hj0 : j = 0 := by have := (List.getElem?_eq_some_iff.1 hj).1; simp at this; exact this
    subst hj0
    simp at hj; subst hj
    exact ⟨B, 0, rfl, hbx.cells (o := 0) (fun j u hj => by simpa using hj)⟩⟩
  have hA13 := hA12.ex he13
  have hC7L := hC7L.ext he13
  have hC9L := hC9L.ext he13
  repeat ((try first | (refine ofX3 hX ?_; clear hX X) | (refine ofX2 hX ?_; clear hX X)); (first | refine wpL_step (fun X hX => ?_) | refine wpH_step (fun X hX => ?_) | refine wpE_step (fun X hX => ?_) | refine wpL_end ?_ | refine wpH_end ?_ | refine wpE_end ?_); try simp only [ oweC, oweP, opF, opH, ev, evs, evp, evo, Env.get, Env.set, putE, gdst, S0, S1, thenN, inBlockN, argEnv, builtinR, retE, fin, callR, reduceIte, Nat.reduceEqDiff, Nat.reduceAdd, reduceCtorEq, forall_const, Tryd.results4, Fx.ag22, Fx.ag24, Fx.ag31, Fx.es22, Fx.es42, Fx.fo24_3, Fx.isl22, Fx.isl42])
  have hme : makeE H2 7 0 [x2] = 0 := by simp [makeE, bad H2 x2 hx2 hk1]
  refine Inv.call Fx.en14 (Make_ok w13 hb rb H2 F10 hA13.hp (fun k hk => (hA13.lt k hk).2) (by omega) 7 0 _ [x2] (one w13 B13 x2 hb13) (by simp)) ?_
  rw [hme, mk3]
  rintro v w14 ⟨rfl, hG14⟩
  simp only [if_true] at hG14 ⊢
  obtain ⟨F14, hA14, hc14, hF14⟩ := hA13.grown hG14
  have hC7L := hC7L.grown hc14 hF14
  have hC9L := hC9L.grown hc14 hF14
  have hl14 := hA14.lt
  repeat ((try first | (refine ofX3 hX ?_; clear hX X) | (refine ofX2 hX ?_; clear hX X)); (first | refine wpL_step (fun X hX => ?_) | refine wpH_step (fun X hX => ?_) | refine wpE_step (fun X hX => ?_) | refine wpL_end ?_ | refine wpH_end ?_ | refine wpE_end ?_); try simp only [ oweC, oweP, opF, opH, ev, evs, evp, evo, Env.get, Env.set, putE, gdst, S0, S1, thenN, inBlockN, argEnv, builtinR, retE, fin, callR, reduceIte, Nat.reduceEqDiff, Nat.reduceAdd, reduceCtorEq, forall_const, Tryd.results4, Fx.ag22, Fx.ag24, Fx.ag31, Fx.es22, Fx.es42, Fx.fo24_3, Fx.isl22, Fx.isl42])
  refine Runs.alloc Fx.zi31 (fun w15 he15 hs15 hb15 => ?_)
  generalize hC11 : w14.heap.size = C11 at hs15 hb15
  repeat ((try first | (refine ofX3 hX ?_; clear hX X) | (refine ofX2 hX ?_; clear hX X)); (first | refine wpL_step (fun X hX => ?_) | refine wpH_step (fun X hX => ?_) | refine wpE_step (fun X hX => ?_) | refine wpL_end ?_ | refine wpH_end ?_ | refine wpE_end ?_); try simp only [ oweC, oweP, opF, opH, ev, evs, evp, evo, Env.get, Env.set, putE, gdst, S0, S1, thenN, inBlockN, argEnv, builtinR, retE, fin, callR, reduceIte, Nat.reduceEqDiff, Nat.reduceAdd, reduceCtorEq, forall_const, Tryd.results4, Fx.ag22, Fx.ag24, Fx.ag31, Fx.es22, Fx.es42, Fx.fo24_3, Fx.isl22, Fx.isl42])
  refine Runs.store hb15 Fx.zi31 rfl (wd1 _) (by simp [Value.cells]) (fun w16 hc16 hs16 hb16 => ?_)
  rw [splice_all _ _ (by simp [Value.cells])] at hb16
  simp only [Value.cells] at hb16
  have he1416 : Ext w14 w16 := he15.chg_trans hc16 (fun k hk => by omega)
  have hA16 := hA14.ex he1416
  have hC7L := hC7L.ext he1416
  have hC9L := hC9L.ext he1416
  have hC11L : LocB w16 F14 C11 (wA1 H2).row 31 := ⟨hb16, fun h => by have := hl14 C11 h; omega⟩
  repeat ((try first | (refine ofX3 hX ?_; clear hX X) | (refine ofX2 hX ?_; clear hX X)); (first | refine wpL_step (fun X hX => ?_) | refine wpH_step (fun X hX => ?_) | refine wpE_step (fun X hX => ?_) | refine wpL_end ?_ | refine wpH_end ?_ | refine wpE_end ?_); try simp only [ oweC, oweP, opF, opH, ev, evs, evp, evo, Env.get, Env.set, putE, gdst, S0, S1, thenN, inBlockN, argEnv, builtinR, retE, fin, callR, reduceIte, Nat.reduceEqDiff, Nat.reduceAdd, reduceCtorEq, forall_const, Tryd.results4, Fx.ag22, Fx.ag24, Fx.ag31, Fx.es22, Fx.es42, Fx.fo24_3, Fx.isl22, Fx.isl42])
  refine hM _ _ _ ?_; clear hM M
  -- b
  refine ok_seq (fun M hM => ok_region rfl ?_)
  repeat ((try first | (refine ofX3 hX ?_; clear hX X) | (refine ofX2 hX ?_; clear hX X)); (first | refine wpL_step (fun X hX => ?_) | refine wpH_step (fun X hX => ?_) | refine wpE_step (fun X hX => ?_) | refine wpL_end ?_ | refine wpH_end ?_ | refine wpE_end ?_); try simp only [ oweC, oweP, opF, opH, ev, evs, evp, evo, Env.get, Env.set, putE, gdst, S0, S1, thenN, inBlockN, argEnv, builtinR, retE, fin, callR, reduceIte, Nat.reduceEqDiff, Nat.reduceAdd, reduceCtorEq, forall_const, Tryd.results4, Fx.ag22, Fx.ag24, Fx.ag31, Fx.es22, Fx.es42, Fx.fo24_3, Fx.isl22, Fx.isl42])
  refine ⟨(wA1 H2).row, rfl, hC11L.1.cells (o := 0) (fun j u hj => by simpa using hj), ?_⟩
  repeat ((try first | (refine ofX3 hX ?_; clear hX X) | (refine ofX2 hX ?_; clear hX X)); (first | refine wpL_step (fun X hX => ?_) | refine wpH_step (fun X hX => ?_) | refine wpE_step (fun X hX => ?_) | refine wpL_end ?_ | refine wpH_end ?_ | refine wpE_end ?_); try simp only [ oweC, oweP, opF, opH, ev, evs, evp, evo, Env.get, Env.set, putE, gdst, S0, S1, thenN, inBlockN, argEnv, builtinR, retE, fin, callR, reduceIte, Nat.reduceEqDiff, Nat.reduceAdd, reduceCtorEq, forall_const, Tryd.results4, Fx.ag22, Fx.ag24, Fx.ag31, Fx.es22, Fx.es42, Fx.fo24_3, Fx.isl22, Fx.isl42])
  refine ⟨(wA1 H2).row, rfl, hC11L.1.cells (o := 0) (fun j u hj => by simpa using hj), ?_⟩
  repeat ((try first | (refine ofX3 hX ?_; clear hX X) | (refine ofX2 hX ?_; clear hX X)); (first | refine wpL_step (fun X hX => ?_) | refine wpH_step (fun X hX => ?_) | refine wpE_step (fun X hX => ?_) | refine wpL_end ?_ | refine wpH_end ?_ | refine wpE_end ?_); try simp only [ oweC, oweP, opF, opH, ev, evs, evp, evo, Env.get, Env.set, putE, gdst, S0, S1, thenN, inBlockN, argEnv, builtinR, retE, fin, callR, reduceIte, Nat.reduceEqDiff, Nat.reduceAdd, reduceCtorEq, forall_const, Tryd.results4, Fx.ag22, Fx.ag24, Fx.ag31, Fx.es22, Fx.es42, Fx.fo24_3, Fx.isl22, Fx.isl42])
  refine Runs.lit (cs := (wA1 H2).row ++ (wA1 H2).row) Fx.un42 Fx.zi31 (by decide) (by kernel_rfl) (by decide) (fun w17 he17 hs17 hb17 => ?_)
  generalize hB17 : w16.heap.size = B17 at hs17 hb17
  have hA17 := hA16.ex he17
  have hC7L := hC7L.ext he17
  have hC9L := hC9L.ext he17
  have hC11L := hC11L.ext he17
  have htwo : SlW w17 (.slice (some ⟨B17, 0, none⟩) 2 2) [wA1 H2, wA1 H2] := ⟨some ⟨B17, 0, none⟩, 2, rfl, by simp, fun j row hj => by
    have hjl := (List.getElem?_eq_some_iff.1 hj).1
    simp at hjl
    have : j = 0 ∨ j = 1 := by omega
    rcases this with rfl | rfl
    · simp at hj; subst hj
      exact ⟨B17, 0, rfl, hb17.cells (o := 0) (fun j u hj => by
        have h3 := (List.getElem?_eq_some_iff.1 hj).1
        rw [Nat.zero_add, List.getElem?_append_left h3]; exact hj)⟩
    · simp at hj; subst hj
      exact ⟨B17, 0, rfl, hb17.cells (o := 3) (fun j u hj => by
        rw [List.getElem?_append_right (by simp)]
        simpa using hj)⟩⟩
  have hra := right3 H2 x2
  have hme4 : makeE (H3s H2 x2) 4 0 [wA1 H2, wA1 H2] = 0 := by simp [makeE, bad (H3s H2 x2) (wA1 H2) hra (by simp [wA1])]
  repeat ((try first | (refine ofX3 hX ?_; clear hX X) | (refine ofX2 hX ?_; clear hX X)); (first | refine wpL_step (fun X hX => ?_) | refine wpH_step (fun X hX => ?_) | refine wpE_step (fun X hX => ?_) | refine wpL_end ?_ | refine wpH_end ?_ | refine wpE_end ?_); try simp only [ oweC, oweP, opF, opH, ev, evs, evp, evo, Env.get, Env.set, putE, gdst, S0, S1, thenN, inBlockN, argEnv, builtinR, retE, fin, callR, reduceIte, Nat.reduceEqDiff, Nat.reduceAdd, reduceCtorEq, forall_const, Tryd.results4, Fx.ag22, Fx.ag24, Fx.ag31, Fx.es22, Fx.es42, Fx.fo24_3, Fx.isl22, Fx.isl42])
  refine Inv.call Fx.en14 (Make_ok w17 hb rb (H3s H2 x2) F14 hA17.hp (fun k hk => (hA17.lt k hk).2) (by simp [H3s]; omega) 4 0 _ [wA1 H2, wA1 H2] htwo (by simp)) ?_
  rw [hme4, mk4]
  rintro v w18 ⟨rfl, hG18⟩
  simp only [if_true] at hG18 ⊢
  obtain ⟨F18, hA18, hc18, hF18⟩ := hA17.grown hG18
  have hC7L := hC7L.grown hc18 hF18
  have hC9L := hC9L.grown hc18 hF18
  have hC11L := hC11L.grown hc18 hF18
  have hl18 := hA18.lt
  repeat ((try first | (refine ofX3 hX ?_; clear hX X) | (refine ofX2 hX ?_; clear hX X)); (first | refine wpL_step (fun X hX => ?_) | refine wpH_step (fun X hX => ?_) | refine wpE_step (fun X hX => ?_) | refine wpL_end ?_ | refine wpH_end ?_ | refine wpE_end ?_); try simp only [ oweC, oweP, opF, opH, ev, evs, evp, evo, Env.get, Env.set, putE, gdst, S0, S1, thenN, inBlockN, argEnv, builtinR, retE, fin, callR, reduceIte, Nat.reduceEqDiff, Nat.reduceAdd, reduceCtorEq, forall_const, Tryd.results4, Fx.ag22, Fx.ag24, Fx.ag31, Fx.es22, Fx.es42, Fx.fo24_3, Fx.isl22, Fx.isl42])
  refine Runs.alloc Fx.zi31 (fun w19 he19 hs19 hb19 => ?_)
  generalize hC12 : w18.heap.size = C12 at hs19 hb19
  repeat ((try first | (refine ofX3 hX ?_; clear hX X) | (refine ofX2 hX ?_; clear hX X)); (first | refine wpL_step (fun X hX => ?_) | refine wpH_step (fun X hX => ?_) | refine wpE_step (fun X hX => ?_) | refine wpL_end ?_ | refine wpH_end ?_ | refine wpE_end ?_); try simp only [ oweC, oweP, opF, opH, ev, evs, evp, evo, Env.get, Env.set, putE, gdst, S0, S1, thenN, inBlockN, argEnv, builtinR, retE, fin, callR, reduceIte, Nat.reduceEqDiff, Nat.reduceAdd, reduceCtorEq, forall_const, Tryd.results4, Fx.ag22, Fx.ag24, Fx.ag31, Fx.es22, Fx.es42, Fx.fo24_3, Fx.isl22, Fx.isl42])
  refine Runs.store hb19 Fx.zi31 rfl (wd1 _) (by simp [Value.cells]) (fun w20 hc20 hs20 hb20 => ?_)
  rw [splice_all _ _ (by simp [Value.cells])] at hb20
  simp only [Value.cells] at hb20
  have he1820 : Ext w18 w20 := he19.chg_trans hc20 (fun k hk => by omega)
  have hA20 := hA18.ex he1820
  have hC7L := hC7L.ext he1820
  have hC9L := hC9L.ext he1820
  have hC11L := hC11L.ext he1820
  have hC12L : LocB w20 F18 C12 (wB1 H2).row 31 := ⟨hb20, fun h => by have := hl18 C12 h; omega⟩
  repeat ((try first | (refine ofX3 hX ?_; clear hX X) | (refine ofX2 hX ?_; clear hX X)); (first | refine wpL_step (fun X hX => ?_) | refine wpH_step (fun X hX => ?_) | refine wpE_step (fun X hX => ?_) | refine wpL_end ?_ | refine wpH_end ?_ | refine wpE_end ?_); try simp only [ oweC, oweP, opF, opH, ev, evs, evp, evo, Env.get, Env.set, putE, gdst, S0, S1, thenN, inBlockN, argEnv, builtinR, retE, fin, callR, reduceIte, Nat.reduceEqDiff, Nat.reduceAdd, reduceCtorEq, forall_const, Tryd.results4, Fx.ag22, Fx.ag24, Fx.ag31, Fx.es22, Fx.es42, Fx.fo24_3, Fx.isl22, Fx.isl42])
  refine hM _ _ _ ?_; clear hM M
  -- c
  refine ok_seq (fun M hM => ok_region rfl ?_)
  repeat ((try first | (refine ofX3 hX ?_; clear hX X) | (refine ofX2 hX ?_; clear hX X)); (first | refine wpL_step (fun X hX => ?_) | refine wpH_step (fun X hX => ?_) | refine wpE_step (fun X hX => ?_) | refine wpL_end ?_ | refine wpH_end ?_ | refine wpE_end ?_); try simp only [ oweC, oweP, opF, opH, ev, evs, evp, evo, Env.get, Env.set, putE, gdst, S0, S1, thenN, inBlockN, argEnv, builtinR, retE, fin, callR, reduceIte, Nat.reduceEqDiff, Nat.reduceAdd, reduceCtorEq, forall_const, Tryd.results4, Fx.ag22, Fx.ag24, Fx.ag31, Fx.es22, Fx.es42, Fx.fo24_3, Fx.isl22, Fx.isl42])
  refine ⟨x2.row, rfl, hC7L.1.cells (o := 0) (fun j u hj => by simpa using hj), ?_⟩
  repeat ((try first | (refine ofX3 hX ?_; clear hX X) | (refine ofX2 hX ?_; clear hX X)); (first | refine wpL_step (fun X hX => ?_) | refine wpH_step (fun X hX => ?_) | refine wpE_step (fun X hX => ?_) | refine wpL_end ?_ | refine wpH_end ?_ | refine wpE_end ?_); try simp only [ oweC, oweP, opF, opH, ev, evs, evp, evo, Env.get, Env.set, putE, gdst, S0, S1, thenN, inBlockN, argEnv, builtinR, retE, fin, callR, reduceIte, Nat.reduceEqDiff, Nat.reduceAdd, reduceCtorEq, forall_const, Tryd.results4, Fx.ag22, Fx.ag24, Fx.ag31, Fx.es22, Fx.es42, Fx.fo24_3, Fx.isl22, Fx.isl42])
  refine Runs.lit (cs := x2.row) Fx.un42 Fx.zi31 (by decide) (by kernel_rfl) (by decide) (fun w21 he21 hs21 hb21 => ?_)
  generalize hB21 : w20.heap.size = B21 at hs21 hb21
  have hA21 := hA20.ex he21
  have hC9L := hC9L.ext he21
  have hC11L := hC11L.ext he21
  have hC12L := hC12L.ext he21
  have hr4' : rightW (H4s H2 x2) x2 = true := by
    have : H4s H2 x2 = H2 ++ ([.words 7 [x2]] ++ [.words 4 [wA1 H2, wA1 H2]]) := by simp [H4s, H3s]
    rw [this]; exact rightW_app hx2
  have hme5 : makeE (H4s H2 x2) 7 0 [x2] = 0 := by simp [makeE, bad (H4s H2 x2) x2 hr4' hk1]
  repeat ((try first | (refine ofX3 hX ?_; clear hX X) | (refine ofX2 hX ?_; clear hX X)); (first | refine wpL_step (fun X hX => ?_) | refine wpH_step (fun X hX => ?_) | refine wpE_step (fun X hX => ?_) | refine wpL_end ?_ | refine wpH_end ?_ | refine wpE_end ?_); try simp only [ oweC, oweP, opF, opH, ev, evs, evp, evo, Env.get, Env.set, putE, gdst, S0, S1, thenN, inBlockN, argEnv, builtinR, retE, fin, callR, reduceIte, Nat.reduceEqDiff, Nat.reduceAdd, reduceCtorEq, forall_const, Tryd.results4, Fx.ag22, Fx.ag24, Fx.ag31, Fx.es22, Fx.es42, Fx.fo24_3, Fx.isl22, Fx.isl42])
  refine Inv.call Fx.en14 (Make_ok w21 hb rb (H4s H2 x2) F18 hA21.hp (fun k hk => (hA21.lt k hk).2) (by simp [H4s, H3s]; omega) 7 0 _ [x2] (one w21 B21 x2 hb21) (by simp)) ?_
  rw [hme5, mk5]
  rintro v w22 ⟨rfl, hG22⟩
  simp only [if_true] at hG22 ⊢
  obtain ⟨F22, hA22, hc22, hF22⟩ := hA21.grown hG22
  have hC9L := hC9L.grown hc22 hF22
  have hC11L := hC11L.grown hc22 hF22
  have hC12L := hC12L.grown hc22 hF22
  have hl22 := hA22.lt
  repeat ((try first | (refine ofX3 hX ?_; clear hX X) | (refine ofX2 hX ?_; clear hX X)); (first | refine wpL_step (fun X hX => ?_) | refine wpH_step (fun X hX => ?_) | refine wpE_step (fun X hX => ?_) | refine wpL_end ?_ | refine wpH_end ?_ | refine wpE_end ?_); try simp only [ oweC, oweP, opF, opH, ev, evs, evp, evo, Env.get, Env.set, putE, gdst, S0, S1, thenN, inBlockN, argEnv, builtinR, retE, fin, callR, reduceIte, Nat.reduceEqDiff, Nat.reduceAdd, reduceCtorEq, forall_const, Tryd.results4, Fx.ag22, Fx.ag24, Fx.ag31, Fx.es22, Fx.es42, Fx.fo24_3, Fx.isl22, Fx.isl42])
  refine Runs.alloc Fx.zi31 (fun w23 he23 hs23 hb23 => ?_)
  generalize hC13 : w22.heap.size = C13 at hs23 hb23
  repeat ((try first | (refine ofX3 hX ?_; clear hX X) | (refine ofX2 hX ?_; clear hX X)); (first | refine wpL_step (fun X hX => ?_) | refine wpH_step (fun X hX => ?_) | refine wpE_step (fun X hX => ?_) | refine wpL_end ?_ | refine wpH_end ?_ | refine wpE_end ?_); try simp only [ oweC, oweP, opF, opH, ev, evs, evp, evo, Env.get, Env.set, putE, gdst, S0, S1, thenN, inBlockN, argEnv, builtinR, retE, fin, callR, reduceIte, Nat.reduceEqDiff, Nat.reduceAdd, reduceCtorEq, forall_const, Tryd.results4, Fx.ag22, Fx.ag24, Fx.ag31, Fx.es22, Fx.es42, Fx.fo24_3, Fx.isl22, Fx.isl42])
  refine Runs.store hb23 Fx.zi31 rfl (wd1 _) (by simp [Value.cells]) (fun w24 hc24 hs24 hb24 => ?_)
  rw [splice_all _ _ (by simp [Value.cells])] at hb24
  simp only [Value.cells] at hb24
  have he2224 : Ext w22 w24 := he23.chg_trans hc24 (fun k hk => by omega)
  have hA24 := hA22.ex he2224
  have hC9L := hC9L.ext he2224
  have hC11L := hC11L.ext he2224
  have hC12L := hC12L.ext he2224
  have hC13L : LocB w24 F22 C13 (wC1 H2).row 31 := ⟨hb24, fun h => by have := hl22 C13 h; omega⟩
  repeat ((try first | (refine ofX3 hX ?_; clear hX X) | (refine ofX2 hX ?_; clear hX X)); (first | refine wpL_step (fun X hX => ?_) | refine wpH_step (fun X hX => ?_) | refine wpE_step (fun X hX => ?_) | refine wpL_end ?_ | refine wpH_end ?_ | refine wpE_end ?_); try simp only [ oweC, oweP, opF, opH, ev, evs, evp, evo, Env.get, Env.set, putE, gdst, S0, S1, thenN, inBlockN, argEnv, builtinR, retE, fin, callR, reduceIte, Nat.reduceEqDiff, Nat.reduceAdd, reduceCtorEq, forall_const, Tryd.results4, Fx.ag22, Fx.ag24, Fx.ag31, Fx.es22, Fx.es42, Fx.fo24_3, Fx.isl22, Fx.isl42])
  refine hM _ _ _ ?_; clear hM M
  have hH5l : ∀ z z' : Wd, (H5s H2 z z').length = H2.length + 3 := fun z z' => by simp [H5s, H4s, H3s]
  have hry5 : rightW (H5s H2 x2 x2) y2 = true := by
    have : H5s H2 x2 x2 = H2 ++ ([.words 7 [x2]] ++ [.words 4 [wA1 H2, wA1 H2]] ++ [.words 7 [x2]]) := by simp [H5s, H4s, H3s]
    rw [this]; exact rightW_app hr2
  obtain ⟨hse0, hse1, hsh0, hsh1⟩ := set5 H2 x2 y2 x2 hry5 hk2
  obtain ⟨hD5, hL5, hLa, hLc, harg⟩ := shares_spec H2 x2 y2 x y hD2 hL2 hx2 hr2 hld1' hld2 hcx hcy
  obtain ⟨rA, rB, rC⟩ := rightA1 H2 y2 x2
  -- Set
  refine ok_join [(2, ptrOf B1), (3, ptrOf B2), (6, ptrOf hb), (12, ptrOf C12), (13, ptrOf C13)] (fun W => ∃ F, AW w5' W hb rb (H5s H2 y2 x2) F ∧ LocB W F C12 (wB1 H2).row 31 ∧ LocB W F C13 (wC1 H2).row 31) ?_ ?_
  · refine ok_seq (fun M hM => ok_region rfl ?_)
    repeat ((try first | (refine ofX3 hX ?_; clear hX X) | (refine ofX2 hX ?_; clear hX X)); (first | refine wpL_step (fun X hX => ?_) | refine wpH_step (fun X hX => ?_) | refine wpE_step (fun X hX => ?_) | refine wpL_end ?_ | refine wpH_end ?_ | refine wpE_end ?_); try simp only [ oweC, oweP, opF, opH, ev, evs, evp, evo, Env.get, Env.set, putE, gdst, S0, S1, thenN, inBlockN, argEnv, builtinR, retE, fin, callR, reduceIte, Nat.reduceEqDiff, Nat.reduceAdd, reduceCtorEq, forall_const, Tryd.results4, Fx.ag22, Fx.ag24, Fx.ag31, Fx.es22, Fx.es42, Fx.fo24_3, Fx.isl22, Fx.isl42])
    refine ⟨(wA1 H2).row, rfl, hC11L.1.cells (o := 0) (fun j u hj => by simpa using hj), ?_⟩
    repeat ((try first | (refine ofX3 hX ?_; clear hX X) | (refine ofX2 hX ?_; clear hX X)); (first | refine wpL_step (fun X hX => ?_) | refine wpH_step (fun X hX => ?_) | refine wpE_step (fun X hX => ?_) | refine wpL_end ?_ | refine wpH_end ?_ | refine wpE_end ?_); try simp only [ oweC, oweP, opF, opH, ev, evs, evp, evo, Env.get, Env.set, putE, gdst, S0, S1, thenN, inBlockN, argEnv, builtinR, retE, fin, callR, reduceIte, Nat.reduceEqDiff, Nat.reduceAdd, reduceCtorEq, forall_const, Tryd.results4, Fx.ag22, Fx.ag24, Fx.ag31, Fx.es22, Fx.es42, Fx.fo24_3, Fx.isl22, Fx.isl42])
    refine ⟨y2.row, rfl, hC9L.1.cells (o := 0) (fun j u hj => by simpa using hj), ?_⟩
    repeat ((try first | (refine ofX3 hX ?_; clear hX X) | (refine ofX2 hX ?_; clear hX X)); (first | refine wpL_step (fun X hX => ?_) | refine wpH_step (fun X hX => ?_) | refine wpE_step (fun X hX => ?_) | refine wpL_end ?_ | refine wpH_end ?_ | refine wpE_end ?_); try simp only [ oweC, oweP, opF, opH, ev, evs, evp, evo, Env.get, Env.set, putE, gdst, S0, S1, thenN, inBlockN, argEnv, builtinR, retE, fin, callR, reduceIte, Nat.reduceEqDiff, Nat.reduceAdd, reduceCtorEq, forall_const, Tryd.results4, Fx.ag22, Fx.ag24, Fx.ag31, Fx.es22, Fx.es42, Fx.fo24_3, Fx.isl22, Fx.isl42])
    refine Inv.call Fx.en15 (Set_ok w24 hb rb (H5s H2 x2 x2) F22 hA24.hp (by rw [hH5l]; omega) (wA1 H2) 1 y2) ?_
    rw [hse1, hsh1]
    rintro v w25 ⟨rfl, hG25⟩
    obtain ⟨F25, hA25, hc25, hF25⟩ := hA24.grown hG25
    have hC9L := hC9L.grown hc25 hF25
    have hC11L := hC11L.grown hc25 hF25
    have hC12L := hC12L.grown hc25 hF25
    have hC13L := hC13L.grown hc25 hF25
    repeat ((try first | (refine ofX3 hX ?_; clear hX X) | (refine ofX2 hX ?_; clear hX X)); (first | refine wpL_step (fun X hX => ?_) | refine wpH_step (fun X hX => ?_) | refine wpE_step (fun X hX => ?_) | refine wpL_end ?_ | refine wpH_end ?_ | refine wpE_end ?_); try simp only [ oweC, oweP, opF, opH, ev, evs, evp, evo, Env.get, Env.set, putE, gdst, S0, S1, thenN, inBlockN, argEnv, builtinR, retE, fin, callR, reduceIte, Nat.reduceEqDiff, Nat.reduceAdd, reduceCtorEq, forall_const, Tryd.results4, Fx.ag22, Fx.ag24, Fx.ag31, Fx.es22, Fx.es42, Fx.fo24_3, Fx.isl22, Fx.isl42])
    refine ⟨(wA1 H2).row, rfl, hC11L.1.cells (o := 0) (fun j u hj => by simpa using hj), ?_⟩
    repeat ((try first | (refine ofX3 hX ?_; clear hX X) | (refine ofX2 hX ?_; clear hX X)); (first | refine wpL_step (fun X hX => ?_) | refine wpH_step (fun X hX => ?_) | refine wpE_step (fun X hX => ?_) | refine wpL_end ?_ | refine wpH_end ?_ | refine wpE_end ?_); try simp only [ oweC, oweP, opF, opH, ev, evs, evp, evo, Env.get, Env.set, putE, gdst, S0, S1, thenN, inBlockN, argEnv, builtinR, retE, fin, callR, reduceIte, Nat.reduceEqDiff, Nat.reduceAdd, reduceCtorEq, forall_const, Tryd.results4, Fx.ag22, Fx.ag24, Fx.ag31, Fx.es22, Fx.es42, Fx.fo24_3, Fx.isl22, Fx.isl42])
    refine ⟨y2.row, rfl, hC9L.1.cells (o := 0) (fun j u hj => by simpa using hj), ?_⟩
    repeat ((try first | (refine ofX3 hX ?_; clear hX X) | (refine ofX2 hX ?_; clear hX X)); (first | refine wpL_step (fun X hX => ?_) | refine wpH_step (fun X hX => ?_) | refine wpE_step (fun X hX => ?_) | refine wpL_end ?_ | refine wpH_end ?_ | refine wpE_end ?_); try simp only [ oweC, oweP, opF, opH, ev, evs, evp, evo, Env.get, Env.set, putE, gdst, S0, S1, thenN, inBlockN, argEnv, builtinR, retE, fin, callR, reduceIte, Nat.reduceEqDiff, Nat.reduceAdd, reduceCtorEq, forall_const, Tryd.results4, Fx.ag22, Fx.ag24, Fx.ag31, Fx.es22, Fx.es42, Fx.fo24_3, Fx.isl22, Fx.isl42])
    refine Inv.call Fx.en15 (Set_ok w25 hb rb (H5s H2 x2 x2) F25 hA25.hp (by rw [hH5l]; omega) (wA1 H2) 0 y2) ?_
    rw [hse0, hsh0]
    rintro v w26 ⟨rfl, hG26⟩
    obtain ⟨F26, hA26, hc26, hF26⟩ := hA25.grown hG26
    repeat ((try first | (refine ofX3 hX ?_; clear hX X) | (refine ofX2 hX ?_; clear hX X)); (first | refine wpL_step (fun X hX => ?_) | refine wpH_step (fun X hX => ?_) | refine wpE_step (fun X hX => ?_) | refine wpL_end ?_ | refine wpH_end ?_ | refine wpE_end ?_); try simp only [ oweC, oweP, opF, opH, ev, evs, evp, evo, Env.get, Env.set, putE, gdst, S0, S1, thenN, inBlockN, argEnv, builtinR, retE, fin, callR, reduceIte, Nat.reduceEqDiff, Nat.reduceAdd, reduceCtorEq, forall_const, Tryd.results4, Fx.ag22, Fx.ag24, Fx.ag31, Fx.es22, Fx.es42, Fx.fo24_3, Fx.isl22, Fx.isl42])
    refine hM _ _ _ ?_; clear hM M
    refine ok_cond (b := false) rfl (fun h => by cases h) (fun _ => ok_skip ?_)
    try simp only [wpL, wpH, wpE, oweC, oweP, opF, opH, ev, evs, evp, evo, Env.get, Env.set, putE, gdst, S0, S1, thenN, inBlockN, argEnv, builtinR, retE, fin, callR, reduceIte, Nat.reduceEqDiff, Nat.reduceAdd, reduceCtorEq, forall_const, Tryd.results4, Fx.ag22, Fx.ag24, Fx.ag31, Fx.es22, Fx.es42, Fx.fo24_3, Fx.isl22, Fx.isl42]
    exact ⟨by simp [sub, Env.get], F26, hA26, hC12L.grown hc26 hF26, hC13L.grown hc26 hF26⟩
  rintro W ⟨F, hA, hLB, hLC⟩
  -- Args
  refine ok_seq (fun M hM => ok_region rfl ?_)
  repeat ((try first | (refine ofX3 hX ?_; clear hX X) | (refine ofX2 hX ?_; clear hX X)); (first | refine wpL_step (fun X hX => ?_) | refine wpH_step (fun X hX => ?_) | refine wpE_step (fun X hX => ?_) | refine wpL_end ?_ | refine wpH_end ?_ | refine wpE_end ?_); try simp only [ oweC, oweP, opF, opH, ev, evs, evp, evo, Env.get, Env.set, putE, gdst, S0, S1, thenN, inBlockN, argEnv, builtinR, retE, fin, callR, reduceIte, Nat.reduceEqDiff, Nat.reduceAdd, reduceCtorEq, forall_const, Tryd.results4, Fx.ag22, Fx.ag24, Fx.ag31, Fx.es22, Fx.es42, Fx.fo24_3, Fx.isl22, Fx.isl42])
  refine ⟨(wB1 H2).row, rfl, hLB.1.cells (o := 0) (fun j u hj => by simpa using hj), ?_⟩
  repeat ((try first | (refine ofX3 hX ?_; clear hX X) | (refine ofX2 hX ?_; clear hX X)); (first | refine wpL_step (fun X hX => ?_) | refine wpH_step (fun X hX => ?_) | refine wpE_step (fun X hX => ?_) | refine wpL_end ?_ | refine wpH_end ?_ | refine wpE_end ?_); try simp only [ oweC, oweP, opF, opH, ev, evs, evp, evo, Env.get, Env.set, putE, gdst, S0, S1, thenN, inBlockN, argEnv, builtinR, retE, fin, callR, reduceIte, Nat.reduceEqDiff, Nat.reduceAdd, reduceCtorEq, forall_const, Tryd.results4, Fx.ag22, Fx.ag24, Fx.ag31, Fx.es22, Fx.es42, Fx.fo24_3, Fx.isl22, Fx.isl42])
  refine Inv.call Fx.en16 (Args_ok W hb rb (H5s H2 y2 x2) F hA.hp (by rw [hH5l]; omega) hL5 (wB1 H2) rB rfl) ?_
  rw [harg]
  rintro v W2 ⟨A2, c2, rfl, hsl2, heW2⟩
  simp only [List.length_cons, List.length_nil, Nat.zero_add, Nat.reduceAdd] at hsl2 ⊢
  have hA2 := hA.ex heW2
  have hLC := hLC.ext heW2
  repeat ((try first | (refine ofX3 hX ?_; clear hX X) | (refine ofX2 hX ?_; clear hX X)); (first | refine wpL_step (fun X hX => ?_) | refine wpH_step (fun X hX => ?_) | refine wpE_step (fun X hX => ?_) | refine wpL_end ?_ | refine wpH_end ?_ | refine wpE_end ?_); try simp only [ oweC, oweP, opF, opH, ev, evs, evp, evo, Env.get, Env.set, putE, gdst, S0, S1, thenN, inBlockN, argEnv, builtinR, retE, fin, callR, reduceIte, Nat.reduceEqDiff, Nat.reduceAdd, reduceCtorEq, forall_const, Tryd.results4, Fx.ag22, Fx.ag24, Fx.ag31, Fx.es22, Fx.es42, Fx.fo24_3, Fx.isl22, Fx.isl42])
  refine hM _ _ _ ?_; clear hM M
  refine ok_join [(2, ptrOf B1), (3, ptrOf B2), (6, ptrOf hb), (13, ptrOf C13), (15, .slice A2 2 c2)] (fun W' => W' = W2) ?_ ?_
  · refine ok_seq (fun M hM => ok_region rfl ?_)
    repeat ((try first | (refine ofX3 hX ?_; clear hX X) | (refine ofX2 hX ?_; clear hX X)); (first | refine wpL_step (fun X hX => ?_) | refine wpH_step (fun X hX => ?_) | refine wpE_step (fun X hX => ?_) | refine wpL_end ?_ | refine wpH_end ?_ | refine wpE_end ?_); try simp only [ oweC, oweP, opF, opH, ev, evs, evp, evo, Env.get, Env.set, putE, gdst, S0, S1, thenN, inBlockN, argEnv, builtinR, retE, fin, callR, reduceIte, Nat.reduceEqDiff, Nat.reduceAdd, reduceCtorEq, forall_const, Tryd.results4, Fx.ag22, Fx.ag24, Fx.ag31, Fx.es22, Fx.es42, Fx.fo24_3, Fx.isl22, Fx.isl42])
    refine hM _ _ _ ?_; clear hM M
    refine ok_cond (b := false) rfl (fun h => by cases h) (fun _ => ok_skip ?_)
    try simp only [wpL, wpH, wpE, oweC, oweP, opF, opH, ev, evs, evp, evo, Env.get, Env.set, putE, gdst, S0, S1, thenN, inBlockN, argEnv, builtinR, retE, fin, callR, reduceIte, Nat.reduceEqDiff, Nat.reduceAdd, reduceCtorEq, forall_const, Tryd.results4, Fx.ag22, Fx.ag24, Fx.ag31, Fx.es22, Fx.es42, Fx.fo24_3, Fx.isl22, Fx.isl42]
    simp [sub, Env.get]
  rintro W2' rfl
  have hB1A' : ∀ {W : World}, Ext w5' W → cellsAt W ⟨B1, 0, none⟩ r := hB1A
  have hrx : ∀ {W : World}, Ext w5' W → VRow W r x := fun h => VRow.ext (he5'.trans h) _ _ hr
  have hry : ∀ {W : World}, Ext w5' W → VRow W s y := fun h => VRow.ext (he5'.trans h) _ _ hs
  refine ok_join [(2, ptrOf B1), (6, ptrOf hb), (13, ptrOf C13)] (fun W' => Ext W2' W') ?_ ?_
  · refine ok_seq (fun M hM => ok_region rfl ?_); repeat ((try first | (refine ofX3 hX ?_; clear hX X) | (refine ofX2 hX ?_; clear hX X)); (first | refine wpL_step (fun X hX => ?_) | refine wpH_step (fun X hX => ?_) | refine wpE_step (fun X hX => ?_) | refine wpL_end ?_ | refine wpH_end ?_ | refine wpE_end ?_); try simp only [ oweC, oweP, opF, opH, ev, evs, evp, evo, Env.get, Env.set, putE, gdst, S0, S1, thenN, inBlockN, argEnv, builtinR, retE, fin, callR, reduceIte, Nat.reduceEqDiff, Nat.reduceAdd, reduceCtorEq, forall_const, Tryd.results4, Fx.ag22, Fx.ag24, Fx.ag31, Fx.es22, Fx.es42, Fx.fo24_3, Fx.isl22, Fx.isl42])
    refine hM _ _ _ ?_; clear hM M
    refine ok_block ?_
    refine ok_loop (S := Nat) (fun i => [(2, ptrOf B1), (3, ptrOf B2), (6, ptrOf hb), (13, ptrOf C13), (109, .slice A2 2 c2), (110, .int .i64 2), (111, .int .i64 (i : Int))]) (fun i W' => Ext W2' W' ∧ i ≤ 2) (fun i => 2 - i) 0 ?_ ?_ ?_
    · simp [sub, Env.get]
    · exact ⟨Ext.refl _, Nat.zero_le _⟩
    rintro i W3 ⟨heW3, hi⟩
    refine ok_seq (fun M hM => ok_region rfl ?_)
    repeat ((try first | (refine ofX3 hX ?_; clear hX X) | (refine ofX2 hX ?_; clear hX X)); (first | refine wpL_step (fun X hX => ?_) | refine wpH_step (fun X hX => ?_) | refine wpE_step (fun X hX => ?_) | refine wpL_end ?_ | refine wpH_end ?_ | refine wpE_end ?_); try simp only [ oweC, oweP, opF, opH, ev, evs, evp, evo, Env.get, Env.set, putE, gdst, S0, S1, thenN, inBlockN, argEnv, builtinR, retE, fin, callR, reduceIte, Nat.reduceEqDiff, Nat.reduceAdd, reduceCtorEq, forall_const, Tryd.results4, Fx.ag22, Fx.ag24, Fx.ag31, Fx.es22, Fx.es42, Fx.fo24_3, Fx.isl22, Fx.isl42])
    refine hM _ _ _ ?_; clear hM M
    refine ok_seq (fun M1 hM1 => ?_)
    refine ok_if rfl (fun hc => ok_skip ?_) (fun hc => ok_exit ?_)
    rotate_left
    · try simp only [wpL, wpH, wpE, oweC, oweP, opF, opH, ev, evs, evp, evo, Env.get, Env.set, putE, gdst, S0, S1, thenN, inBlockN, argEnv, builtinR, retE, fin, callR, reduceIte, Nat.reduceEqDiff, Nat.reduceAdd, reduceCtorEq, forall_const, Tryd.results4, Fx.ag22, Fx.ag24, Fx.ag31, Fx.es22, Fx.es42, Fx.fo24_3, Fx.isl22, Fx.isl42]
      exact ⟨by simp [sub, Env.get], heW3⟩
    try simp only [wpL, wpH, wpE, oweC, oweP, opF, opH, ev, evs, evp, evo, Env.get, Env.set, putE, gdst, S0, S1, thenN, inBlockN, argEnv, builtinR, retE, fin, callR, reduceIte, Nat.reduceEqDiff, Nat.reduceAdd, reduceCtorEq, forall_const, Tryd.results4, Fx.ag22, Fx.ag24, Fx.ag31, Fx.es22, Fx.es42, Fx.fo24_3, Fx.isl22, Fx.isl42]
    refine hM1 _ _ _ ?_; clear hM1 M1
    have hil : i < 2 := by omega
    obtain ⟨A3, c3, hA3, -, hcel⟩ := hsl2
    injection hA3 with hA3a hA3b hA3c
    subst hA3a
    have hrow : ([wA1 H2, wA1 H2].map Wd.row)[i]? = some (wA1 H2).row := by
      have : i = 0 ∨ i = 1 := by omega
      rcases this with rfl | rfl <;> rfl
    obtain ⟨bb, oo, rfl, hce⟩ := hcel i _ hrow
    have hA3' := hA2.ex heW3
    refine ok_seq (fun M1 hM1 => ok_block ?_)
    refine ok_seq (fun M hM => ok_region rfl ?_)
    repeat ((try first | (refine ofX3 hX ?_; clear hX X) | (refine ofX2 hX ?_; clear hX X)); (first | refine wpL_step (fun X hX => ?_) | refine wpH_step (fun X hX => ?_) | refine wpE_step (fun X hX => ?_) | refine wpL_end ?_ | refine wpH_end ?_ | refine wpE_end ?_); try simp only [ oweC, oweP, opF, opH, ev, evs, evp, evo, Env.get, Env.set, putE, gdst, S0, S1, thenN, inBlockN, argEnv, builtinR, retE, fin, callR, reduceIte, Nat.reduceEqDiff, Nat.reduceAdd, reduceCtorEq, forall_const, Tryd.results4, Fx.ag22, Fx.ag24, Fx.ag31, Fx.es22, Fx.es42, Fx.fo24_3, Fx.isl22, Fx.isl42])
    refine ⟨by omega, by omega, ?_⟩
    repeat ((try first | (refine ofX3 hX ?_; clear hX X) | (refine ofX2 hX ?_; clear hX X)); (first | refine wpL_step (fun X hX => ?_) | refine wpH_step (fun X hX => ?_) | refine wpE_step (fun X hX => ?_) | refine wpL_end ?_ | refine wpH_end ?_ | refine wpE_end ?_); try simp only [ oweC, oweP, opF, opH, ev, evs, evp, evo, Env.get, Env.set, putE, gdst, S0, S1, thenN, inBlockN, argEnv, builtinR, retE, fin, callR, reduceIte, Nat.reduceEqDiff, Nat.reduceAdd, reduceCtorEq, forall_const, Tryd.results4, Fx.ag22, Fx.ag24, Fx.ag31, Fx.es22, Fx.es42, Fx.fo24_3, Fx.isl22, Fx.isl42])
    refine ⟨(wA1 H2).row, rfl, heW3.cellsAt (by simpa using hce), ?_⟩
    repeat ((try first | (refine ofX3 hX ?_; clear hX X) | (refine ofX2 hX ?_; clear hX X)); (first | refine wpL_step (fun X hX => ?_) | refine wpH_step (fun X hX => ?_) | refine wpE_step (fun X hX => ?_) | refine wpL_end ?_ | refine wpH_end ?_ | refine wpE_end ?_); try simp only [ oweC, oweP, opF, opH, ev, evs, evp, evo, Env.get, Env.set, putE, gdst, S0, S1, thenN, inBlockN, argEnv, builtinR, retE, fin, callR, reduceIte, Nat.reduceEqDiff, Nat.reduceAdd, reduceCtorEq, forall_const, Tryd.results4, Fx.ag22, Fx.ag24, Fx.ag31, Fx.es22, Fx.es42, Fx.fo24_3, Fx.isl22, Fx.isl42])
    refine Runs.alloc Fx.zi31 (fun W4 he4 hs4' hb4 => ?_)
    generalize hD4 : W3.heap.size = D4 at hs4' hb4
    repeat ((try first | (refine ofX3 hX ?_; clear hX X) | (refine ofX2 hX ?_; clear hX X)); (first | refine wpL_step (fun X hX => ?_) | refine wpH_step (fun X hX => ?_) | refine wpE_step (fun X hX => ?_) | refine wpL_end ?_ | refine wpH_end ?_ | refine wpE_end ?_); try simp only [ oweC, oweP, opF, opH, ev, evs, evp, evo, Env.get, Env.set, putE, gdst, S0, S1, thenN, inBlockN, argEnv, builtinR, retE, fin, callR, reduceIte, Nat.reduceEqDiff, Nat.reduceAdd, reduceCtorEq, forall_const, Tryd.results4, Fx.ag22, Fx.ag24, Fx.ag31, Fx.es22, Fx.es42, Fx.fo24_3, Fx.isl22, Fx.isl42])
    refine Runs.store hb4 Fx.zi31 rfl (wd1 _) (by simp [Value.cells]) (fun W5 hc5 hs5' hb5 => ?_)
    rw [splice_all _ _ (by simp [Value.cells])] at hb5
    simp only [Value.cells] at hb5
    have he35 : Ext W3 W5 := he4.chg_trans hc5 (fun k hk => by omega)
    have hA5 := hA3'.ex he35
    repeat ((try first | (refine ofX3 hX ?_; clear hX X) | (refine ofX2 hX ?_; clear hX X)); (first | refine wpL_step (fun X hX => ?_) | refine wpH_step (fun X hX => ?_) | refine wpE_step (fun X hX => ?_) | refine wpL_end ?_ | refine wpH_end ?_ | refine wpE_end ?_); try simp only [ oweC, oweP, opF, opH, ev, evs, evp, evo, Env.get, Env.set, putE, gdst, S0, S1, thenN, inBlockN, argEnv, builtinR, retE, fin, callR, reduceIte, Nat.reduceEqDiff, Nat.reduceAdd, reduceCtorEq, forall_const, Tryd.results4, Fx.ag22, Fx.ag24, Fx.ag31, Fx.es22, Fx.es42, Fx.fo24_3, Fx.isl22, Fx.isl42])
    refine hM _ _ _ ?_; clear hM M
    refine ok_seq (fun M hM => ok_region rfl ?_)
    repeat ((try first | (refine ofX3 hX ?_; clear hX X) | (refine ofX2 hX ?_; clear hX X)); (first | refine wpL_step (fun X hX => ?_) | refine wpH_step (fun X hX => ?_) | refine wpE_step (fun X hX => ?_) | refine wpL_end ?_ | refine wpH_end ?_ | refine wpE_end ?_); try simp only [ oweC, oweP, opF, opH, ev, evs, evp, evo, Env.get, Env.set, putE, gdst, S0, S1, thenN, inBlockN, argEnv, builtinR, retE, fin, callR, reduceIte, Nat.reduceEqDiff, Nat.reduceAdd, reduceCtorEq, forall_const, Tryd.results4, Fx.ag22, Fx.ag24, Fx.ag31, Fx.es22, Fx.es42, Fx.fo24_3, Fx.isl22, Fx.isl42])
    refine ⟨(wA1 H2).row, rfl, hb5.cells (o := 0) (fun j u hj => by simpa using hj), ?_⟩
    repeat ((try first | (refine ofX3 hX ?_; clear hX X) | (refine ofX2 hX ?_; clear hX X)); (first | refine wpL_step (fun X hX => ?_) | refine wpH_step (fun X hX => ?_) | refine wpE_step (fun X hX => ?_) | refine wpL_end ?_ | refine wpH_end ?_ | refine wpE_end ?_); try simp only [ oweC, oweP, opF, opH, ev, evs, evp, evo, Env.get, Env.set, putE, gdst, S0, S1, thenN, inBlockN, argEnv, builtinR, retE, fin, callR, reduceIte, Nat.reduceEqDiff, Nat.reduceAdd, reduceCtorEq, forall_const, Tryd.results4, Fx.ag22, Fx.ag24, Fx.ag31, Fx.es22, Fx.es42, Fx.fo24_3, Fx.isl22, Fx.isl42])
    refine Inv.call Fx.en10 (Load_ok hb rb (H5s H2 y2 x2) F (by rw [hH5l]; omega) hL5.args hD5.wf mk (.mk 7 0 ⟨#[]⟩ [y]) (wA1 H2) W5 (fun _ _ _ => (hLa _ rfl).2) hA5.hp (hgt hA5.ext)) ?_
    rw [(hLa _ rfl).1]
    rintro v W6 ⟨cs, rfl, hcs, he6⟩
    rw [if_pos rfl] at hcs
    obtain ⟨A6, c6, b6, o6, row6, rfl, rfl, hrl6, hcell6, hrow6⟩ := one_row hcs
    repeat ((try first | (refine ofX3 hX ?_; clear hX X) | (refine ofX2 hX ?_; clear hX X)); (first | refine wpL_step (fun X hX => ?_) | refine wpH_step (fun X hX => ?_) | refine wpE_step (fun X hX => ?_) | refine wpL_end ?_ | refine wpH_end ?_ | refine wpE_end ?_); try simp only [ oweC, oweP, opF, opH, ev, evs, evp, evo, Env.get, Env.set, putE, gdst, S0, S1, thenN, inBlockN, argEnv, builtinR, retE, fin, callR, reduceIte, Nat.reduceEqDiff, Nat.reduceAdd, reduceCtorEq, forall_const, Tryd.results4, Fx.ag22, Fx.ag24, Fx.ag31, Fx.es22, Fx.es42, Fx.fo24_3, Fx.isl22, Fx.isl42])
    refine Runs.alloc Fx.zi24 (fun W7 he7 hs7 hb7 => ?_)
    generalize hD7 : W6.heap.size = D7 at hs7 hb7
    repeat ((try first | (refine ofX3 hX ?_; clear hX X) | (refine ofX2 hX ?_; clear hX X)); (first | refine wpL_step (fun X hX => ?_) | refine wpH_step (fun X hX => ?_) | refine wpE_step (fun X hX => ?_) | refine wpL_end ?_ | refine wpH_end ?_ | refine wpE_end ?_); try simp only [ oweC, oweP, opF, opH, ev, evs, evp, evo, Env.get, Env.set, putE, gdst, S0, S1, thenN, inBlockN, argEnv, builtinR, retE, fin, callR, reduceIte, Nat.reduceEqDiff, Nat.reduceAdd, reduceCtorEq, forall_const, Tryd.results4, Fx.ag22, Fx.ag24, Fx.ag31, Fx.es22, Fx.es42, Fx.fo24_3, Fx.isl22, Fx.isl42])
    refine Runs.store hb7 Fx.zi24 rfl (by intro u hu; simp [Value.cells] at hu; rcases hu with rfl | rfl | rfl | rfl <;> rfl) (by simp [Value.cells]) (fun W8 hc8 hs8' hb8 => ?_)
    rw [splice_all _ _ (by simp [Value.cells])] at hb8
    simp only [Value.cells] at hb8
    have he68 : Ext W6 W8 := he7.chg_trans hc8 (fun k hk => by omega)
    have he38 := he35.trans (he6.trans he68)
    have hA8 := hA3'.ex he38
    repeat ((try first | (refine ofX3 hX ?_; clear hX X) | (refine ofX2 hX ?_; clear hX X)); (first | refine wpL_step (fun X hX => ?_) | refine wpH_step (fun X hX => ?_) | refine wpE_step (fun X hX => ?_) | refine wpL_end ?_ | refine wpH_end ?_ | refine wpE_end ?_); try simp only [ oweC, oweP, opF, opH, ev, evs, evp, evo, Env.get, Env.set, putE, gdst, S0, S1, thenN, inBlockN, argEnv, builtinR, retE, fin, callR, reduceIte, Nat.reduceEqDiff, Nat.reduceAdd, reduceCtorEq, forall_const, Tryd.results4, Fx.ag22, Fx.ag24, Fx.ag31, Fx.es22, Fx.es42, Fx.fo24_3, Fx.isl22, Fx.isl42])
    refine hM _ _ _ ?_; clear hM M
    refine ok_seq (fun M hM => ok_draw 17 [] (Ext _) Fx.mixed (by decide) rfl (by decide +kernel) (by decide +kernel) (Ext.drew _) ?_); repeat ((try first | (refine ofX3 hX ?_; clear hX X) | (refine ofX2 hX ?_; clear hX X)); (first | refine wpL_step (fun X hX => ?_) | refine wpH_step (fun X hX => ?_) | refine wpE_step (fun X hX => ?_) | refine wpL_end ?_ | refine wpH_end ?_ | refine wpE_end ?_); try simp only [ oweC, oweP, opF, opH, ev, evs, evp, evo, Env.get, Env.set, putE, gdst, S0, S1, thenN, inBlockN, argEnv, builtinR, retE, fin, callR, reduceIte, Nat.reduceEqDiff, Nat.reduceAdd, reduceCtorEq, forall_const, Tryd.results4, Fx.ag22, Fx.ag24, Fx.ag31, Fx.es22, Fx.es42, Fx.fo24_3, Fx.isl22, Fx.isl42])
    refine ⟨_, fun w' h => h.cell (hb8.cell (j := 3) rfl), ?_⟩
    repeat ((try first | (refine ofX3 hX ?_; clear hX X) | (refine ofX2 hX ?_; clear hX X)); (first | refine wpL_step (fun X hX => ?_) | refine wpH_step (fun X hX => ?_) | refine wpE_step (fun X hX => ?_) | refine wpL_end ?_ | refine wpH_end ?_ | refine wpE_end ?_); try simp only [ oweC, oweP, opF, opH, ev, evs, evp, evo, Env.get, Env.set, putE, gdst, S0, S1, thenN, inBlockN, argEnv, builtinR, retE, fin, callR, reduceIte, Nat.reduceEqDiff, Nat.reduceAdd, reduceCtorEq, forall_const, Tryd.results4, Fx.ag22, Fx.ag24, Fx.ag31, Fx.es22, Fx.es42, Fx.fo24_3, Fx.isl22, Fx.isl42])
    simp only [show (((1 : Nat) : Int) = 1) = True from eq_true rfl, decide_true, Bool.not_true]
    refine ⟨fun _ => ?_, fun h => by cases h⟩
    repeat ((try first | (refine ofX3 hX ?_; clear hX X) | (refine ofX2 hX ?_; clear hX X)); (first | refine wpL_step (fun X hX => ?_) | refine wpH_step (fun X hX => ?_) | refine wpE_step (fun X hX => ?_) | refine wpL_end ?_ | refine wpH_end ?_ | refine wpE_end ?_); try simp only [ oweC, oweP, opF, opH, ev, evs, evp, evo, Env.get, Env.set, putE, gdst, S0, S1, thenN, inBlockN, argEnv, builtinR, retE, fin, callR, reduceIte, Nat.reduceEqDiff, Nat.reduceAdd, reduceCtorEq, forall_const, Tryd.results4, Fx.ag22, Fx.ag24, Fx.ag31, Fx.es22, Fx.es42, Fx.fo24_3, Fx.isl22, Fx.isl42])
    refine ⟨_, fun w' h => h.cell (hb8.cell (j := 3) rfl), ?_⟩
    repeat ((try first | (refine ofX3 hX ?_; clear hX X) | (refine ofX2 hX ?_; clear hX X)); (first | refine wpL_step (fun X hX => ?_) | refine wpH_step (fun X hX => ?_) | refine wpE_step (fun X hX => ?_) | refine wpL_end ?_ | refine wpH_end ?_ | refine wpE_end ?_); try simp only [ oweC, oweP, opF, opH, ev, evs, evp, evo, Env.get, Env.set, putE, gdst, S0, S1, thenN, inBlockN, argEnv, builtinR, retE, fin, callR, reduceIte, Nat.reduceEqDiff, Nat.reduceAdd, reduceCtorEq, forall_const, Tryd.results4, Fx.ag22, Fx.ag24, Fx.ag31, Fx.es22, Fx.es42, Fx.fo24_3, Fx.isl22, Fx.isl42])
    refine ⟨by omega, by omega, ?_⟩
    repeat ((try first | (refine ofX3 hX ?_; clear hX X) | (refine ofX2 hX ?_; clear hX X)); (first | refine wpL_step (fun X hX => ?_) | refine wpH_step (fun X hX => ?_) | refine wpE_step (fun X hX => ?_) | refine wpL_end ?_ | refine wpH_end ?_ | refine wpE_end ?_); try simp only [ oweC, oweP, opF, opH, ev, evs, evp, evo, Env.get, Env.set, putE, gdst, S0, S1, thenN, inBlockN, argEnv, builtinR, retE, fin, callR, reduceIte, Nat.reduceEqDiff, Nat.reduceAdd, reduceCtorEq, forall_const, Tryd.results4, Fx.ag22, Fx.ag24, Fx.ag31, Fx.es22, Fx.es42, Fx.fo24_3, Fx.isl22, Fx.isl42])
    refine ⟨row6, hrl6, fun w' h => h.cellsAt (he68.cellsAt (by simpa using hcell6)), ?_⟩
    repeat ((try first | (refine ofX3 hX ?_; clear hX X) | (refine ofX2 hX ?_; clear hX X)); (first | refine wpL_step (fun X hX => ?_) | refine wpH_step (fun X hX => ?_) | refine wpE_step (fun X hX => ?_) | refine wpL_end ?_ | refine wpH_end ?_ | refine wpE_end ?_); try simp only [ oweC, oweP, opF, opH, ev, evs, evp, evo, Env.get, Env.set, putE, gdst, S0, S1, thenN, inBlockN, argEnv, builtinR, retE, fin, callR, reduceIte, Nat.reduceEqDiff, Nat.reduceAdd, reduceCtorEq, forall_const, Tryd.results4, Fx.ag22, Fx.ag24, Fx.ag31, Fx.es22, Fx.es42, Fx.fo24_3, Fx.isl22, Fx.isl42])
    refine ⟨s, hs4, fun w' h => hB2A (hA8.ext.trans h), ?_⟩
    repeat ((try first | (refine ofX3 hX ?_; clear hX X) | (refine ofX2 hX ?_; clear hX X)); (first | refine wpL_step (fun X hX => ?_) | refine wpH_step (fun X hX => ?_) | refine wpE_step (fun X hX => ?_) | refine wpL_end ?_ | refine wpH_end ?_ | refine wpE_end ?_); try simp only [ oweC, oweP, opF, opH, ev, evs, evp, evo, Env.get, Env.set, putE, gdst, S0, S1, thenN, inBlockN, argEnv, builtinR, retE, fin, callR, reduceIte, Nat.reduceEqDiff, Nat.reduceAdd, reduceCtorEq, forall_const, Tryd.results4, Fx.ag22, Fx.ag24, Fx.ag31, Fx.es22, Fx.es42, Fx.fo24_3, Fx.isl22, Fx.isl42])
    refine ⟨.bool true, fun w' h => Inv.call Fx.en12 (equal_ok _ y y w' row6 s (Nat.le_refl _) (VRow.ext (he68.trans h) _ _ hrow6) (hry (hA8.ext.trans h))) (fun v w6 ⟨h1, h2⟩ => ⟨by rw [h1, eqV_refl _ y (Nat.le_refl _)], h.trans h2⟩), ?_⟩
    repeat ((try first | (refine ofX3 hX ?_; clear hX X) | (refine ofX2 hX ?_; clear hX X)); (first | refine wpL_step (fun X hX => ?_) | refine wpH_step (fun X hX => ?_) | refine wpE_step (fun X hX => ?_) | refine wpL_end ?_ | refine wpH_end ?_ | refine wpE_end ?_); try simp only [ oweC, oweP, opF, opH, ev, evs, evp, evo, Env.get, Env.set, putE, gdst, S0, S1, thenN, inBlockN, argEnv, builtinR, retE, fin, callR, reduceIte, Nat.reduceEqDiff, Nat.reduceAdd, reduceCtorEq, forall_const, Tryd.results4, Fx.ag22, Fx.ag24, Fx.ag31, Fx.es22, Fx.es42, Fx.fo24_3, Fx.isl22, Fx.isl42])
    intro W9 heW9
    repeat ((try first | (refine ofX3 hX ?_; clear hX X) | (refine ofX2 hX ?_; clear hX X)); (first | refine wpL_step (fun X hX => ?_) | refine wpH_step (fun X hX => ?_) | refine wpE_step (fun X hX => ?_) | refine wpL_end ?_ | refine wpH_end ?_ | refine wpE_end ?_); try simp only [ oweC, oweP, opF, opH, ev, evs, evp, evo, Env.get, Env.set, putE, gdst, S0, S1, thenN, inBlockN, argEnv, builtinR, retE, fin, callR, reduceIte, Nat.reduceEqDiff, Nat.reduceAdd, reduceCtorEq, forall_const, Tryd.results4, Fx.ag22, Fx.ag24, Fx.ag31, Fx.es22, Fx.es42, Fx.fo24_3, Fx.isl22, Fx.isl42])
    refine hM _ _ _ ?_; clear hM M
    refine ok_cond (b := false) rfl (fun h => by cases h) (fun _ => ok_skip ?_)
    try simp only [wpL, wpH, wpE, oweC, oweP, opF, opH, ev, evs, evp, evo, Env.get, Env.set, putE, gdst, S0, S1, thenN, inBlockN, argEnv, builtinR, retE, fin, callR, reduceIte, Nat.reduceEqDiff, Nat.reduceAdd, reduceCtorEq, forall_const, Tryd.results4, Fx.ag22, Fx.ag24, Fx.ag31, Fx.es22, Fx.es42, Fx.fo24_3, Fx.isl22, Fx.isl42]
    refine hM1 _ _ _ ?_; clear hM1 M1
    refine ok_region rfl ?_
    repeat ((try first | (refine ofX3 hX ?_; clear hX X) | (refine ofX2 hX ?_; clear hX X)); (first | refine wpL_step (fun X hX => ?_) | refine wpH_step (fun X hX => ?_) | refine wpE_step (fun X hX => ?_) | refine wpL_end ?_ | refine wpH_end ?_ | refine wpE_end ?_); try simp only [ oweC, oweP, opF, opH, ev, evs, evp, evo, Env.get, Env.set, putE, gdst, S0, S1, thenN, inBlockN, argEnv, builtinR, retE, fin, callR, reduceIte, Nat.reduceEqDiff, Nat.reduceAdd, reduceCtorEq, forall_const, Tryd.results4, Fx.ag22, Fx.ag24, Fx.ag31, Fx.es22, Fx.es42, Fx.fo24_3, Fx.isl22, Fx.isl42])
    refine ⟨by simp only [inI]; omega, ?_⟩
    repeat ((try first | (refine ofX3 hX ?_; clear hX X) | (refine ofX2 hX ?_; clear hX X)); (first | refine wpL_step (fun X hX => ?_) | refine wpH_step (fun X hX => ?_) | refine wpE_step (fun X hX => ?_) | refine wpL_end ?_ | refine wpH_end ?_ | refine wpE_end ?_); try simp only [ oweC, oweP, opF, opH, ev, evs, evp, evo, Env.get, Env.set, putE, gdst, S0, S1, thenN, inBlockN, argEnv, builtinR, retE, fin, callR, reduceIte, Nat.reduceEqDiff, Nat.reduceAdd, reduceCtorEq, forall_const, Tryd.results4, Fx.ag22, Fx.ag24, Fx.ag31, Fx.es22, Fx.es42, Fx.fo24_3, Fx.isl22, Fx.isl42])
    exact ⟨i + 1, by simp [sub, Env.get], ⟨heW3.trans (he38.trans heW9), by omega⟩, by omega⟩
  intro W3 heW3
  have hA3 := hA2.ex heW3
  have hLC3 := hLC.ext heW3
  refine ok_seq (fun M hM => ok_region rfl ?_)
  repeat ((try first | (refine ofX3 hX ?_; clear hX X) | (refine ofX2 hX ?_; clear hX X)); (first | refine wpL_step (fun X hX => ?_) | refine wpH_step (fun X hX => ?_) | refine wpE_step (fun X hX => ?_) | refine wpL_end ?_ | refine wpH_end ?_ | refine wpE_end ?_); try simp only [ oweC, oweP, opF, opH, ev, evs, evp, evo, Env.get, Env.set, putE, gdst, S0, S1, thenN, inBlockN, argEnv, builtinR, retE, fin, callR, reduceIte, Nat.reduceEqDiff, Nat.reduceAdd, reduceCtorEq, forall_const, Tryd.results4, Fx.ag22, Fx.ag24, Fx.ag31, Fx.es22, Fx.es42, Fx.fo24_3, Fx.isl22, Fx.isl42])
  refine ⟨(wC1 H2).row, rfl, hLC3.1.cells (o := 0) (fun j u hj => by simpa using hj), ?_⟩
  repeat ((try first | (refine ofX3 hX ?_; clear hX X) | (refine ofX2 hX ?_; clear hX X)); (first | refine wpL_step (fun X hX => ?_) | refine wpH_step (fun X hX => ?_) | refine wpE_step (fun X hX => ?_) | refine wpL_end ?_ | refine wpH_end ?_ | refine wpE_end ?_); try simp only [ oweC, oweP, opF, opH, ev, evs, evp, evo, Env.get, Env.set, putE, gdst, S0, S1, thenN, inBlockN, argEnv, builtinR, retE, fin, callR, reduceIte, Nat.reduceEqDiff, Nat.reduceAdd, reduceCtorEq, forall_const, Tryd.results4, Fx.ag22, Fx.ag24, Fx.ag31, Fx.es22, Fx.es42, Fx.fo24_3, Fx.isl22, Fx.isl42])
  refine Inv.call Fx.en10 (Load_ok hb rb (H5s H2 y2 x2) F (by rw [hH5l]; omega) hL5.args hD5.wf mk (.mk 7 0 ⟨#[]⟩ [x]) (wC1 H2) W3 (fun _ _ _ => (hLc _ rfl).2) hA3.hp (hgt hA3.ext)) ?_
  rw [(hLc _ rfl).1]
  rintro v W6 ⟨cs, rfl, hcs, he6⟩
  rw [if_pos rfl] at hcs
  obtain ⟨A6, c6, b6, o6, row6, rfl, rfl, hrl6, hcell6, hrow6⟩ := one_row hcs
  repeat ((try first | (refine ofX3 hX ?_; clear hX X) | (refine ofX2 hX ?_; clear hX X)); (first | refine wpL_step (fun X hX => ?_) | refine wpH_step (fun X hX => ?_) | refine wpE_step (fun X hX => ?_) | refine wpL_end ?_ | refine wpH_end ?_ | refine wpE_end ?_); try simp only [ oweC, oweP, opF, opH, ev, evs, evp, evo, Env.get, Env.set, putE, gdst, S0, S1, thenN, inBlockN, argEnv, builtinR, retE, fin, callR, reduceIte, Nat.reduceEqDiff, Nat.reduceAdd, reduceCtorEq, forall_const, Tryd.results4, Fx.ag22, Fx.ag24, Fx.ag31, Fx.es22, Fx.es42, Fx.fo24_3, Fx.isl22, Fx.isl42])
  refine Runs.alloc Fx.zi24 (fun W7 he7 hs7 hb7 => ?_)
  generalize hD7 : W6.heap.size = D7 at hs7 hb7
  repeat ((try first | (refine ofX3 hX ?_; clear hX X) | (refine ofX2 hX ?_; clear hX X)); (first | refine wpL_step (fun X hX => ?_) | refine wpH_step (fun X hX => ?_) | refine wpE_step (fun X hX => ?_) | refine wpL_end ?_ | refine wpH_end ?_ | refine wpE_end ?_); try simp only [ oweC, oweP, opF, opH, ev, evs, evp, evo, Env.get, Env.set, putE, gdst, S0, S1, thenN, inBlockN, argEnv, builtinR, retE, fin, callR, reduceIte, Nat.reduceEqDiff, Nat.reduceAdd, reduceCtorEq, forall_const, Tryd.results4, Fx.ag22, Fx.ag24, Fx.ag31, Fx.es22, Fx.es42, Fx.fo24_3, Fx.isl22, Fx.isl42])
  refine Runs.store hb7 Fx.zi24 rfl (by intro u hu; simp [Value.cells] at hu; rcases hu with rfl | rfl | rfl | rfl <;> rfl) (by simp [Value.cells]) (fun W8 hc8 hs8' hb8 => ?_)
  rw [splice_all _ _ (by simp [Value.cells])] at hb8
  simp only [Value.cells] at hb8
  have he68 : Ext W6 W8 := he7.chg_trans hc8 (fun k hk => by omega)
  have hA8 := hA3.ex (he6.trans he68)
  repeat ((try first | (refine ofX3 hX ?_; clear hX X) | (refine ofX2 hX ?_; clear hX X)); (first | refine wpL_step (fun X hX => ?_) | refine wpH_step (fun X hX => ?_) | refine wpE_step (fun X hX => ?_) | refine wpL_end ?_ | refine wpH_end ?_ | refine wpE_end ?_); try simp only [ oweC, oweP, opF, opH, ev, evs, evp, evo, Env.get, Env.set, putE, gdst, S0, S1, thenN, inBlockN, argEnv, builtinR, retE, fin, callR, reduceIte, Nat.reduceEqDiff, Nat.reduceAdd, reduceCtorEq, forall_const, Tryd.results4, Fx.ag22, Fx.ag24, Fx.ag31, Fx.es22, Fx.es42, Fx.fo24_3, Fx.isl22, Fx.isl42])
  refine hM _ _ _ ?_; clear hM M
  refine ok_seq (fun M hM => ok_draw 17 [] (Ext _) Fx.mixed (by decide) rfl (by decide +kernel) (by decide +kernel) (Ext.drew _) ?_); repeat ((try first | (refine ofX3 hX ?_; clear hX X) | (refine ofX2 hX ?_; clear hX X)); (first | refine wpL_step (fun X hX => ?_) | refine wpH_step (fun X hX => ?_) | refine wpE_step (fun X hX => ?_) | refine wpL_end ?_ | refine wpH_end ?_ | refine wpE_end ?_); try simp only [ oweC, oweP, opF, opH, ev, evs, evp, evo, Env.get, Env.set, putE, gdst, S0, S1, thenN, inBlockN, argEnv, builtinR, retE, fin, callR, reduceIte, Nat.reduceEqDiff, Nat.reduceAdd, reduceCtorEq, forall_const, Tryd.results4, Fx.ag22, Fx.ag24, Fx.ag31, Fx.es22, Fx.es42, Fx.fo24_3, Fx.isl22, Fx.isl42])
  refine ⟨_, fun w' h => h.cell (hb8.cell (j := 3) rfl), ?_⟩
  repeat ((try first | (refine ofX3 hX ?_; clear hX X) | (refine ofX2 hX ?_; clear hX X)); (first | refine wpL_step (fun X hX => ?_) | refine wpH_step (fun X hX => ?_) | refine wpE_step (fun X hX => ?_) | refine wpL_end ?_ | refine wpH_end ?_ | refine wpE_end ?_); try simp only [ oweC, oweP, opF, opH, ev, evs, evp, evo, Env.get, Env.set, putE, gdst, S0, S1, thenN, inBlockN, argEnv, builtinR, retE, fin, callR, reduceIte, Nat.reduceEqDiff, Nat.reduceAdd, reduceCtorEq, forall_const, Tryd.results4, Fx.ag22, Fx.ag24, Fx.ag31, Fx.es22, Fx.es42, Fx.fo24_3, Fx.isl22, Fx.isl42])
  simp only [show (((1 : Nat) : Int) = 1) = True from eq_true rfl, decide_true]
  refine ⟨fun _ => ?_, fun h => by cases h⟩
  repeat ((try first | (refine ofX3 hX ?_; clear hX X) | (refine ofX2 hX ?_; clear hX X)); (first | refine wpL_step (fun X hX => ?_) | refine wpH_step (fun X hX => ?_) | refine wpE_step (fun X hX => ?_) | refine wpL_end ?_ | refine wpH_end ?_ | refine wpE_end ?_); try simp only [ oweC, oweP, opF, opH, ev, evs, evp, evo, Env.get, Env.set, putE, gdst, S0, S1, thenN, inBlockN, argEnv, builtinR, retE, fin, callR, reduceIte, Nat.reduceEqDiff, Nat.reduceAdd, reduceCtorEq, forall_const, Tryd.results4, Fx.ag22, Fx.ag24, Fx.ag31, Fx.es22, Fx.es42, Fx.fo24_3, Fx.isl22, Fx.isl42])
  refine ⟨_, fun w' h => h.cell (hb8.cell (j := 3) rfl), ?_⟩
  repeat ((try first | (refine ofX3 hX ?_; clear hX X) | (refine ofX2 hX ?_; clear hX X)); (first | refine wpL_step (fun X hX => ?_) | refine wpH_step (fun X hX => ?_) | refine wpE_step (fun X hX => ?_) | refine wpL_end ?_ | refine wpH_end ?_ | refine wpE_end ?_); try simp only [ oweC, oweP, opF, opH, ev, evs, evp, evo, Env.get, Env.set, putE, gdst, S0, S1, thenN, inBlockN, argEnv, builtinR, retE, fin, callR, reduceIte, Nat.reduceEqDiff, Nat.reduceAdd, reduceCtorEq, forall_const, Tryd.results4, Fx.ag22, Fx.ag24, Fx.ag31, Fx.es22, Fx.es42, Fx.fo24_3, Fx.isl22, Fx.isl42])
  refine ⟨by omega, by omega, ?_⟩
  repeat ((try first | (refine ofX3 hX ?_; clear hX X) | (refine ofX2 hX ?_; clear hX X)); (first | refine wpL_step (fun X hX => ?_) | refine wpH_step (fun X hX => ?_) | refine wpE_step (fun X hX => ?_) | refine wpL_end ?_ | refine wpH_end ?_ | refine wpE_end ?_); try simp only [ oweC, oweP, opF, opH, ev, evs, evp, evo, Env.get, Env.set, putE, gdst, S0, S1, thenN, inBlockN, argEnv, builtinR, retE, fin, callR, reduceIte, Nat.reduceEqDiff, Nat.reduceAdd, reduceCtorEq, forall_const, Tryd.results4, Fx.ag22, Fx.ag24, Fx.ag31, Fx.es22, Fx.es42, Fx.fo24_3, Fx.isl22, Fx.isl42])
  refine ⟨row6, hrl6, fun w' h => h.cellsAt (he68.cellsAt (by simpa using hcell6)), ?_⟩
  repeat ((try first | (refine ofX3 hX ?_; clear hX X) | (refine ofX2 hX ?_; clear hX X)); (first | refine wpL_step (fun X hX => ?_) | refine wpH_step (fun X hX => ?_) | refine wpE_step (fun X hX => ?_) | refine wpL_end ?_ | refine wpH_end ?_ | refine wpE_end ?_); try simp only [ oweC, oweP, opF, opH, ev, evs, evp, evo, Env.get, Env.set, putE, gdst, S0, S1, thenN, inBlockN, argEnv, builtinR, retE, fin, callR, reduceIte, Nat.reduceEqDiff, Nat.reduceAdd, reduceCtorEq, forall_const, Tryd.results4, Fx.ag22, Fx.ag24, Fx.ag31, Fx.es22, Fx.es42, Fx.fo24_3, Fx.isl22, Fx.isl42])
  refine ⟨r, hr4, fun w' h => hB1A (hA8.ext.trans h), ?_⟩
  repeat ((try first | (refine ofX3 hX ?_; clear hX X) | (refine ofX2 hX ?_; clear hX X)); (first | refine wpL_step (fun X hX => ?_) | refine wpH_step (fun X hX => ?_) | refine wpE_step (fun X hX => ?_) | refine wpL_end ?_ | refine wpH_end ?_ | refine wpE_end ?_); try simp only [ oweC, oweP, opF, opH, ev, evs, evp, evo, Env.get, Env.set, putE, gdst, S0, S1, thenN, inBlockN, argEnv, builtinR, retE, fin, callR, reduceIte, Nat.reduceEqDiff, Nat.reduceAdd, reduceCtorEq, forall_const, Tryd.results4, Fx.ag22, Fx.ag24, Fx.ag31, Fx.es22, Fx.es42, Fx.fo24_3, Fx.isl22, Fx.isl42])
  refine ⟨.bool true, fun w' h => Inv.call Fx.en12 (equal_ok _ x x w' row6 r (Nat.le_refl _) (VRow.ext (he68.trans h) _ _ hrow6) (hrx (hA8.ext.trans h))) (fun v w6 ⟨h1, h2⟩ => ⟨by rw [h1, eqV_refl _ x (Nat.le_refl _)], h.trans h2⟩), ?_⟩
  repeat ((try first | (refine ofX3 hX ?_; clear hX X) | (refine ofX2 hX ?_; clear hX X)); (first | refine wpL_step (fun X hX => ?_) | refine wpH_step (fun X hX => ?_) | refine wpE_step (fun X hX => ?_) | refine wpL_end ?_ | refine wpH_end ?_ | refine wpE_end ?_); try simp only [ oweC, oweP, opF, opH, ev, evs, evp, evo, Env.get, Env.set, putE, gdst, S0, S1, thenN, inBlockN, argEnv, builtinR, retE, fin, callR, reduceIte, Nat.reduceEqDiff, Nat.reduceAdd, reduceCtorEq, forall_const, Tryd.results4, Fx.ag22, Fx.ag24, Fx.ag31, Fx.es22, Fx.es42, Fx.fo24_3, Fx.isl22, Fx.isl42])
  intro W9 heW9
  repeat ((try first | (refine ofX3 hX ?_; clear hX X) | (refine ofX2 hX ?_; clear hX X)); (first | refine wpL_step (fun X hX => ?_) | refine wpH_step (fun X hX => ?_) | refine wpE_step (fun X hX => ?_) | refine wpL_end ?_ | refine wpH_end ?_ | refine wpE_end ?_); try simp only [ oweC, oweP, opF, opH, ev, evs, evp, evo, Env.get, Env.set, putE, gdst, S0, S1, thenN, inBlockN, argEnv, builtinR, retE, fin, callR, reduceIte, Nat.reduceEqDiff, Nat.reduceAdd, reduceCtorEq, forall_const, Tryd.results4, Fx.ag22, Fx.ag24, Fx.ag31, Fx.es22, Fx.es42, Fx.fo24_3, Fx.isl22, Fx.isl42])
  refine hM _ _ _ ?_; clear hM M
  refine ok_ret ?_
  try simp only [wpL, wpH, wpE, oweC, oweP, opF, opH, ev, evs, evp, evo, Env.get, Env.set, putE, gdst, S0, S1, thenN, inBlockN, argEnv, builtinR, retE, fin, callR, reduceIte, Nat.reduceEqDiff, Nat.reduceAdd, reduceCtorEq, forall_const, Tryd.results4, Fx.ag22, Fx.ag24, Fx.ag31, Fx.es22, Fx.es42, Fx.fo24_3, Fx.isl22, Fx.isl42]
  exact he5'.trans (hA8.ext.trans heW9)
end Go.Proofs.YtldeokfhipjbfaaDoor
