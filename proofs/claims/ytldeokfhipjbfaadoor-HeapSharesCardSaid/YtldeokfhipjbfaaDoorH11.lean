/- ring: is there a way round? -/
import Derived.Test.YtldeokfhipjbfaaDoorH10
set_option linter.unusedVariables false
set_option linter.unusedSimpArgs false
namespace Go.Proofs.Vg
open Go Go.RowKit

def visitL (g : List Int → Int → Bool × List Int) : List Int → List Wd → Bool × List Int
  | st, [] => (false, st)
  | st, x :: l => if (g st x.r).1 = true then (true, (g st x.r).2) else visitL g (g st x.r).2 l
def listO : Option Ob → List Wd
  | some o => o.list
  | none => []
def visitF (H : List Ob) : Nat → List Int → Int → Bool × List Int
  | 0, st, r => if r = 0 ∨ st[r.toNat]? = some 2 then (false, st) else (true, st)
  | f + 1, st, r => if r = 0 ∨ st[r.toNat]? = some 2 then (false, st) else if st[r.toNat]? = some 1 then (true, st) else
    if (visitL (visitF H f) (st.set r.toNat 1) (listO (objAt H r))).1 = true then (true, (visitL (visitF H f) (st.set r.toNat 1) (listO (objAt H r))).2)
    else (false, (visitL (visitF H f) (st.set r.toNat 1) (listO (objAt H r))).2.set r.toNat 2)
def ringF (H : List Ob) (l : List Wd) : Bool := (visitL (visitF H (H.length + 2)) (List.replicate (H.length + 1) 0) l).1
/-- Every word of every object leads to an object, or to none. -/
def Wf (H : List Ob) : Prop := ∀ o ∈ H, ∀ x ∈ o.list, 0 ≤ x.r ∧ x.r ≤ (H.length : Int)

def zer (st : List Int) : Nat := st.countP (fun x => decide (x = 0))
structure OkSt (n : Nat) (st : List Int) : Prop where
  len : st.length = n
  val : ∀ x ∈ st, x = 0 ∨ x = 1 ∨ x = 2
theorem zer_set {st : List Int} {i : Nat} {v : Int} (hv : v ≠ 0) : zer (st.set i v) ≤ zer st := by
  induction st generalizing i with
  | nil => simp [zer]
  | cons x xs ih =>
    cases i with
    | zero => simp [zer, List.countP_cons, hv]
    | succ i =>
      have := ih (i := i)
      simp only [zer, List.set_cons_succ, List.countP_cons] at this ⊢
      omega
theorem zer_set0 {st : List Int} {i : Nat} {v : Int} (hv : v ≠ 0) (h : st[i]? = some 0) : zer (st.set i v) + 1 = zer st := by
  induction st generalizing i with
  | nil => simp at h
  | cons x xs ih =>
    cases i with
    | zero => simp at h; subst h; simp [zer, List.countP_cons, hv]
    | succ i =>
      have := ih (i := i) (by simpa using h)
      simp only [zer, List.set_cons_succ, List.countP_cons] at this ⊢
      omega
theorem OkSt.set {n : Nat} {st : List Int} (h : OkSt n st) (i : Nat) (v : Int) (hv : v = 0 ∨ v = 1 ∨ v = 2) : OkSt n (st.set i v) := by
  refine ⟨by simp [h.len], fun x hx => ?_⟩
  rcases List.mem_or_eq_of_mem_set hx with h1 | h1
  · exact h.val x h1
  · exact h1 ▸ hv
theorem visitL_inv {n : Nat} {g : List Int → Int → Bool × List Int} (hg : ∀ st r, OkSt n st → OkSt n (g st r).2 ∧ zer (g st r).2 ≤ zer st) : ∀ (l : List Wd) (st : List Int), OkSt n st → OkSt n (visitL g st l).2 ∧ zer (visitL g st l).2 ≤ zer st := by
  intro l
  induction l with
  | nil => intro st h; exact ⟨h, Nat.le_refl _⟩
  | cons x l ih =>
    intro st h
    have h1 := hg st x.r h
    simp only [visitL]
    split
    · exact h1
    · have h2 := ih _ h1.1
      exact ⟨h2.1, by omega⟩
theorem visitF_inv {H : List Ob} {n : Nat} : ∀ (f : Nat) (st : List Int) (r : Int), OkSt n st → OkSt n (visitF H f st r).2 ∧ zer (visitF H f st r).2 ≤ zer st := by
  intro f
  induction f with
  | zero => intro st r h; simp only [visitF]; split <;> exact ⟨h, Nat.le_refl _⟩
  | succ f ih =>
    intro st r h
    simp only [visitF]
    split
    · exact ⟨h, Nat.le_refl _⟩
    split
    · exact ⟨h, Nat.le_refl _⟩
    have h1 := visitL_inv (n := n) ih (listO (objAt H r)) (st.set r.toNat 1) (h.set _ _ (by simp))
    have h2 := zer_set (st := st) (i := r.toNat) (v := 1) (by decide)
    split
    · exact ⟨h1.1, by simp only; omega⟩
    · have h3 := zer_set (st := (visitL (visitF H f) (st.set r.toNat 1) (listO (objAt H r))).2) (i := r.toNat) (v := 2) (by decide)
      exact ⟨h1.1.set _ _ (by simp), by simp only; omega⟩
/-- An object's list, read. -/
theorem ObW.list {w : World} {p g : Nat} {o : Ob} (h : ObW w p g o) : ∃ A c, w.cell? ⟨p, 0, none⟩ = some (.slice A o.list.length c) ∧ Sli w 3 (.slice A o.list.length c) (o.list.map Wd.row) ∧ o.list.length ≤ 1073741824 := by
  cases o with
  | text s => exact ⟨none, 0, Blk.cell h rfl, ⟨none, 0, rfl, by simp [Ob.list], fun j row hj => by simp [Ob.list] at hj⟩, by simp [Ob.list]⟩
  | words s l =>
    obtain ⟨lv, h1, h2⟩ := h
    obtain ⟨A, c, rfl, h3, h4⟩ := id h2
    exact ⟨A, c, h1.cell rfl, h2.sli, h3⟩

def ivs (l : List Int) : List Value := l.map (Value.int .i64)
structure RW (w : World) (B c1 c2 c3 hb rb : Nat) (vs : Value) (ps gs : List Nat) (H : List Ob) (st : List Int) : Prop where
  bs : Blk w B (ivs st) 3
  k1 : w.cell? ⟨c1, 0, none⟩ = some (.slice (some ⟨B, 0, none⟩) (H.length + 1) (H.length + 1))
  k2 : w.cell? ⟨c2, 0, none⟩ = some (ptrOf hb)
  k3 : w.cell? ⟨c3, 0, none⟩ = some (.func (.func 52) #[] #[ptrOf c1, ptrOf c2, ptrOf c3])
  hp : HeapR w hb rb vs ps gs H
structure Apart (B c1 c2 c3 hb rb : Nat) (vs : Value) (ps gs : List Nat) : Prop where
  n1 : c1 ≠ B
  n2 : c2 ≠ B
  n3 : c3 ≠ B
  nr : rb ≠ B
  nf : ∀ k, Foot hb vs ps gs k → k ≠ B
theorem RW.chg {w w' : World} {B c1 c2 c3 hb rb : Nat} {vs : Value} {ps gs : List Nat} {H : List Ob} {st st' : List Int} (h : RW w B c1 c2 c3 hb rb vs ps gs H st) (ha : Apart B c1 c2 c3 hb rb vs ps gs) (hc : Chg (· = B) w w') (hs : Blk w' B (ivs st') 3) : RW w' B c1 c2 c3 hb rb vs ps gs H st' :=
  ⟨hs, hc.cell h.k1 ha.n1, hc.cell h.k2 ha.n2, hc.cell h.k3 ha.n3, h.hp.chg hc ha.nf ha.nr⟩
theorem RW.ext {w w' : World} {B c1 c2 c3 hb rb : Nat} {vs : Value} {ps gs : List Nat} {H : List Ob} {st : List Int} (h : RW w B c1 c2 c3 hb rb vs ps gs H st) (ha : Apart B c1 c2 c3 hb rb vs ps gs) (he : Ext w w') : RW w' B c1 c2 c3 hb rb vs ps gs H st := h.chg ha (he.chg _) (h.bs.ext he)
theorem ivs_get {l : List Int} {i : Nat} {v : Int} (h : l[i]? = some v) : (ivs l)[i]? = some (.int .i64 v) := by simp [ivs, h]
theorem ivs_set (l : List Int) (i : Nat) (v : Int) (h : i < l.length) : splice (ivs l) i [.int .i64 v] = ivs (l.set i v) := by
  rw [splice_one _ _ _ (by simpa [ivs] using h)]; simp [ivs, List.map_set]
end Go.Proofs.Vg
namespace Go.Proofs.YtldeokfhipjbfaaDoor
open Go Go.Proofs.Vg Go.RowKit

theorem Fx.zi86 : zinfo Tryd.prog 86 = some (some .nilFunc, 1, 8) := by kernel_rfl
-- -- function 52
set_option maxHeartbeats 4000000 in
set_option maxRecDepth 8000 in
theorem visit_ok (H : List Ob) (hW : Wf H) (hl : H.length ≤ 1073741824) (B c1 c2 c3 hb rb : Nat) (vs : Value) (ps gs : List Nat) (ha : Apart B c1 c2 c3 hb rb vs ps gs) : ∀ (f : Nat) (st : List Int) (r : Int) (w : World), OkSt (H.length + 1) st → zer st + 1 ≤ f → 0 ≤ r → r ≤ (H.length : Int) →
    RW w B c1 c2 c3 hb rb vs ps gs H st →
    Rets Tryd.prog 52 [.int .i64 r, ptrOf c1, ptrOf c2, ptrOf c3] w (fun v w' => v = .bool (visitF H f st r).1 ∧ Chg (· = B) w w' ∧ Blk w' B (ivs (visitF H f st r).2) 3) := by
  intro f
  induction f with
  | zero => intro st r w hst hz; omega
  | succ f ih =>
    intro st r w hst hz h0 h1 hR
    obtain ⟨ri, rfl⟩ : ∃ ri : Nat, r = (ri : Int) := ⟨r.toNat, by omega⟩
    have hri : ri < st.length := by rw [hst.len]; omega
    have hv : st[ri]? = some st[ri] := List.getElem?_eq_getElem hri
    have hcell := hR.bs.cell (j := ri) (ivs_get hv)
    generalize hvv : st[ri] = v at *
    refine rets_of_ok Tryd.func52 rfl rfl ?_
    refine ok_seq (fun M hM => ok_region rfl ?_); repeat ((try first | (refine ofX3 hX ?_; clear hX X) | (refine ofX2 hX ?_; clear hX X)); (first | refine wpL_step (fun X hX => ?_) | refine wpH_step (fun X hX => ?_) | refine wpE_step (fun X hX => ?_) | refine wpL_end ?_ | refine wpH_end ?_ | refine wpE_end ?_); try simp only [ oweC, oweP, opF, opH, ev, evs, evp, evo, Env.get, Env.set, putE, gdst, S0, S1, thenN, inBlockN, argEnv, builtinR, retE, fin, callR, reduceIte, Nat.reduceEqDiff, Nat.reduceAdd, reduceCtorEq, forall_const, Tryd.results52, Fx.ag28, Fx.ag3, Fx.ag31, Fx.ag42, Fx.ag56, Fx.ag73, Fx.ag78, Fx.ag86, Fx.es42, Fx.es56, Fx.es78, Fx.fo31_2, Fx.fo59_0, Fx.fo70_0, Fx.fo72_0, Fx.isl42])
    refine hM _ _ _ ?_; clear hM M
    refine ok_join [(0, .int .i64 (ri : Int)), (1, ptrOf c1), (2, ptrOf c2), (3, ptrOf c3)] (fun w' => w' = w ∧ ¬ ((ri : Int) = 0 ∨ v = 2)) ?_ ?_
    · refine ok_seq (fun M hM => ok_region rfl ?_)
      repeat ((try first | (refine ofX3 hX ?_; clear hX X) | (refine ofX2 hX ?_; clear hX X)); (first | refine wpL_step (fun X hX => ?_) | refine wpH_step (fun X hX => ?_) | refine wpE_step (fun X hX => ?_) | refine wpL_end ?_ | refine wpH_end ?_ | refine wpE_end ?_); try simp only [ oweC, oweP, opF, opH, ev, evs, evp, evo, Env.get, Env.set, putE, gdst, S0, S1, thenN, inBlockN, argEnv, builtinR, retE, fin, callR, reduceIte, Nat.reduceEqDiff, Nat.reduceAdd, reduceCtorEq, forall_const, Tryd.results52, Fx.ag28, Fx.ag3, Fx.ag31, Fx.ag42, Fx.ag56, Fx.ag73, Fx.ag78, Fx.ag86, Fx.es42, Fx.es56, Fx.es78, Fx.fo31_2, Fx.fo59_0, Fx.fo70_0, Fx.fo72_0, Fx.isl42])
      refine ⟨fun h => ?_, fun h => ?_⟩
      · have hr0 : ¬ ((ri : Int) = 0) := by simpa using h
        repeat ((try first | (refine ofX3 hX ?_; clear hX X) | (refine ofX2 hX ?_; clear hX X)); (first | refine wpL_step (fun X hX => ?_) | refine wpH_step (fun X hX => ?_) | refine wpE_step (fun X hX => ?_) | refine wpL_end ?_ | refine wpH_end ?_ | refine wpE_end ?_); try simp only [ oweC, oweP, opF, opH, ev, evs, evp, evo, Env.get, Env.set, putE, gdst, S0, S1, thenN, inBlockN, argEnv, builtinR, retE, fin, callR, reduceIte, Nat.reduceEqDiff, Nat.reduceAdd, reduceCtorEq, forall_const, Tryd.results52, Fx.ag28, Fx.ag3, Fx.ag31, Fx.ag42, Fx.ag56, Fx.ag73, Fx.ag78, Fx.ag86, Fx.es42, Fx.es56, Fx.es78, Fx.fo31_2, Fx.fo59_0, Fx.fo70_0, Fx.fo72_0, Fx.isl42])
        refine ⟨_, hR.k1, ?_⟩
        repeat ((try first | (refine ofX3 hX ?_; clear hX X) | (refine ofX2 hX ?_; clear hX X)); (first | refine wpL_step (fun X hX => ?_) | refine wpH_step (fun X hX => ?_) | refine wpE_step (fun X hX => ?_) | refine wpL_end ?_ | refine wpH_end ?_ | refine wpE_end ?_); try simp only [ oweC, oweP, opF, opH, ev, evs, evp, evo, Env.get, Env.set, putE, gdst, S0, S1, thenN, inBlockN, argEnv, builtinR, retE, fin, callR, reduceIte, Nat.reduceEqDiff, Nat.reduceAdd, reduceCtorEq, forall_const, Tryd.results52, Fx.ag28, Fx.ag3, Fx.ag31, Fx.ag42, Fx.ag56, Fx.ag73, Fx.ag78, Fx.ag86, Fx.es42, Fx.es56, Fx.es78, Fx.fo31_2, Fx.fo59_0, Fx.fo70_0, Fx.fo72_0, Fx.isl42])
        refine ⟨by omega, by omega, ?_⟩
        repeat ((try first | (refine ofX3 hX ?_; clear hX X) | (refine ofX2 hX ?_; clear hX X)); (first | refine wpL_step (fun X hX => ?_) | refine wpH_step (fun X hX => ?_) | refine wpE_step (fun X hX => ?_) | refine wpL_end ?_ | refine wpH_end ?_ | refine wpE_end ?_); try simp only [ oweC, oweP, opF, opH, ev, evs, evp, evo, Env.get, Env.set, putE, gdst, S0, S1, thenN, inBlockN, argEnv, builtinR, retE, fin, callR, reduceIte, Nat.reduceEqDiff, Nat.reduceAdd, reduceCtorEq, forall_const, Tryd.results52, Fx.ag28, Fx.ag3, Fx.ag31, Fx.ag42, Fx.ag56, Fx.ag73, Fx.ag78, Fx.ag86, Fx.es42, Fx.es56, Fx.es78, Fx.fo31_2, Fx.fo59_0, Fx.fo70_0, Fx.fo72_0, Fx.isl42])
        refine ⟨_, by simpa using hcell, ?_⟩
        simp only [hr0, decide_false]
        repeat ((try first | (refine ofX3 hX ?_; clear hX X) | (refine ofX2 hX ?_; clear hX X)); (first | refine wpL_step (fun X hX => ?_) | refine wpH_step (fun X hX => ?_) | refine wpE_step (fun X hX => ?_) | refine wpL_end ?_ | refine wpH_end ?_ | refine wpE_end ?_); try simp only [ oweC, oweP, opF, opH, ev, evs, evp, evo, Env.get, Env.set, putE, gdst, S0, S1, thenN, inBlockN, argEnv, builtinR, retE, fin, callR, reduceIte, Nat.reduceEqDiff, Nat.reduceAdd, reduceCtorEq, forall_const, Tryd.results52, Fx.ag28, Fx.ag3, Fx.ag31, Fx.ag42, Fx.ag56, Fx.ag73, Fx.ag78, Fx.ag86, Fx.es42, Fx.es56, Fx.es78, Fx.fo31_2, Fx.fo59_0, Fx.fo70_0, Fx.fo72_0, Fx.isl42])
        refine hM _ _ _ ?_; clear hM M
        refine ok_if rfl (fun hc => ?_) (fun hc => ok_skip ?_)
        · refine ok_seq (fun M hM => ok_region rfl ?_); repeat ((try first | (refine ofX3 hX ?_; clear hX X) | (refine ofX2 hX ?_; clear hX X)); (first | refine wpL_step (fun X hX => ?_) | refine wpH_step (fun X hX => ?_) | refine wpE_step (fun X hX => ?_) | refine wpL_end ?_ | refine wpH_end ?_ | refine wpE_end ?_); try simp only [ oweC, oweP, opF, opH, ev, evs, evp, evo, Env.get, Env.set, putE, gdst, S0, S1, thenN, inBlockN, argEnv, builtinR, retE, fin, callR, reduceIte, Nat.reduceEqDiff, Nat.reduceAdd, reduceCtorEq, forall_const, Tryd.results52, Fx.ag28, Fx.ag3, Fx.ag31, Fx.ag42, Fx.ag56, Fx.ag73, Fx.ag78, Fx.ag86, Fx.es42, Fx.es56, Fx.es78, Fx.fo31_2, Fx.fo59_0, Fx.fo70_0, Fx.fo72_0, Fx.isl42])
          refine hM _ _ _ ?_; clear hM M
          refine ok_ret ?_
          try simp only [wpL, wpH, wpE, oweC, oweP, opF, opH, ev, evs, evp, evo, Env.get, Env.set, putE, gdst, S0, S1, thenN, inBlockN, argEnv, builtinR, retE, fin, callR, reduceIte, Nat.reduceEqDiff, Nat.reduceAdd, reduceCtorEq, forall_const, Tryd.results52, Fx.ag28, Fx.ag3, Fx.ag31, Fx.ag42, Fx.ag56, Fx.ag73, Fx.ag78, Fx.ag86, Fx.es42, Fx.es56, Fx.es78, Fx.fo31_2, Fx.fo59_0, Fx.fo70_0, Fx.fo72_0, Fx.isl42]
          have : visitF H (f + 1) st (ri : Int) = (false, st) := by simp [visitF, hv, hc]
          rw [this]
          exact ⟨rfl, Chg.refl _ _, hR.bs⟩
        · try simp only [wpL, wpH, wpE, oweC, oweP, opF, opH, ev, evs, evp, evo, Env.get, Env.set, putE, gdst, S0, S1, thenN, inBlockN, argEnv, builtinR, retE, fin, callR, reduceIte, Nat.reduceEqDiff, Nat.reduceAdd, reduceCtorEq, forall_const, Tryd.results52, Fx.ag28, Fx.ag3, Fx.ag31, Fx.ag42, Fx.ag56, Fx.ag73, Fx.ag78, Fx.ag86, Fx.es42, Fx.es56, Fx.es78, Fx.fo31_2, Fx.fo59_0, Fx.fo70_0, Fx.fo72_0, Fx.isl42]
          have hr0' : ¬ ri = 0 := by omega
          simp [sub, Env.get, hr0', hc]
      · have hr0 : (ri : Int) = 0 := by simpa using h
        repeat ((try first | (refine ofX3 hX ?_; clear hX X) | (refine ofX2 hX ?_; clear hX X)); (first | refine wpL_step (fun X hX => ?_) | refine wpH_step (fun X hX => ?_) | refine wpE_step (fun X hX => ?_) | refine wpL_end ?_ | refine wpH_end ?_ | refine wpE_end ?_); try simp only [ oweC, oweP, opF, opH, ev, evs, evp, evo, Env.get, Env.set, putE, gdst, S0, S1, thenN, inBlockN, argEnv, builtinR, retE, fin, callR, reduceIte, Nat.reduceEqDiff, Nat.reduceAdd, reduceCtorEq, forall_const, Tryd.results52, Fx.ag28, Fx.ag3, Fx.ag31, Fx.ag42, Fx.ag56, Fx.ag73, Fx.ag78, Fx.ag86, Fx.es42, Fx.es56, Fx.es78, Fx.fo31_2, Fx.fo59_0, Fx.fo70_0, Fx.fo72_0, Fx.isl42])
        refine hM _ _ _ ?_; clear hM M
        refine ok_cond rfl (fun _ => ?_) (fun h => by cases h)
        refine ok_seq (fun M hM => ok_region rfl ?_); repeat ((try first | (refine ofX3 hX ?_; clear hX X) | (refine ofX2 hX ?_; clear hX X)); (first | refine wpL_step (fun X hX => ?_) | refine wpH_step (fun X hX => ?_) | refine wpE_step (fun X hX => ?_) | refine wpL_end ?_ | refine wpH_end ?_ | refine wpE_end ?_); try simp only [ oweC, oweP, opF, opH, ev, evs, evp, evo, Env.get, Env.set, putE, gdst, S0, S1, thenN, inBlockN, argEnv, builtinR, retE, fin, callR, reduceIte, Nat.reduceEqDiff, Nat.reduceAdd, reduceCtorEq, forall_const, Tryd.results52, Fx.ag28, Fx.ag3, Fx.ag31, Fx.ag42, Fx.ag56, Fx.ag73, Fx.ag78, Fx.ag86, Fx.es42, Fx.es56, Fx.es78, Fx.fo31_2, Fx.fo59_0, Fx.fo70_0, Fx.fo72_0, Fx.isl42])
        refine hM _ _ _ ?_; clear hM M
        refine ok_ret ?_
        try simp only [wpL, wpH, wpE, oweC, oweP, opF, opH, ev, evs, evp, evo, Env.get, Env.set, putE, gdst, S0, S1, thenN, inBlockN, argEnv, builtinR, retE, fin, callR, reduceIte, Nat.reduceEqDiff, Nat.reduceAdd, reduceCtorEq, forall_const, Tryd.results52, Fx.ag28, Fx.ag3, Fx.ag31, Fx.ag42, Fx.ag56, Fx.ag73, Fx.ag78, Fx.ag86, Fx.es42, Fx.es56, Fx.es78, Fx.fo31_2, Fx.fo59_0, Fx.fo70_0, Fx.fo72_0, Fx.isl42]
        have : visitF H (f + 1) st (ri : Int) = (false, st) := by simp [visitF, hr0]
        rw [this]
        exact ⟨rfl, Chg.refl _ _, hR.bs⟩
    rintro w' ⟨rfl, hn⟩
    have hr0 : ¬ ((ri : Int) = 0) := fun h => hn (.inl h)
    have hv2 : ¬ v = 2 := fun h => hn (.inr h)
    refine ok_join [(0, .int .i64 (ri : Int)), (1, ptrOf c1), (2, ptrOf c2), (3, ptrOf c3)] (fun w2 => w2 = w' ∧ ¬ v = 1) ?_ ?_
    · refine ok_seq (fun M hM => ok_region rfl ?_)
      repeat ((try first | (refine ofX3 hX ?_; clear hX X) | (refine ofX2 hX ?_; clear hX X)); (first | refine wpL_step (fun X hX => ?_) | refine wpH_step (fun X hX => ?_) | refine wpE_step (fun X hX => ?_) | refine wpL_end ?_ | refine wpH_end ?_ | refine wpE_end ?_); try simp only [ oweC, oweP, opF, opH, ev, evs, evp, evo, Env.get, Env.set, putE, gdst, S0, S1, thenN, inBlockN, argEnv, builtinR, retE, fin, callR, reduceIte, Nat.reduceEqDiff, Nat.reduceAdd, reduceCtorEq, forall_const, Tryd.results52, Fx.ag28, Fx.ag3, Fx.ag31, Fx.ag42, Fx.ag56, Fx.ag73, Fx.ag78, Fx.ag86, Fx.es42, Fx.es56, Fx.es78, Fx.fo31_2, Fx.fo59_0, Fx.fo70_0, Fx.fo72_0, Fx.isl42])
      refine ⟨_, hR.k1, ?_⟩
      repeat ((try first | (refine ofX3 hX ?_; clear hX X) | (refine ofX2 hX ?_; clear hX X)); (first | refine wpL_step (fun X hX => ?_) | refine wpH_step (fun X hX => ?_) | refine wpE_step (fun X hX => ?_) | refine wpL_end ?_ | refine wpH_end ?_ | refine wpE_end ?_); try simp only [ oweC, oweP, opF, opH, ev, evs, evp, evo, Env.get, Env.set, putE, gdst, S0, S1, thenN, inBlockN, argEnv, builtinR, retE, fin, callR, reduceIte, Nat.reduceEqDiff, Nat.reduceAdd, reduceCtorEq, forall_const, Tryd.results52, Fx.ag28, Fx.ag3, Fx.ag31, Fx.ag42, Fx.ag56, Fx.ag73, Fx.ag78, Fx.ag86, Fx.es42, Fx.es56, Fx.es78, Fx.fo31_2, Fx.fo59_0, Fx.fo70_0, Fx.fo72_0, Fx.isl42])
      refine ⟨by omega, by omega, ?_⟩
      repeat ((try first | (refine ofX3 hX ?_; clear hX X) | (refine ofX2 hX ?_; clear hX X)); (first | refine wpL_step (fun X hX => ?_) | refine wpH_step (fun X hX => ?_) | refine wpE_step (fun X hX => ?_) | refine wpL_end ?_ | refine wpH_end ?_ | refine wpE_end ?_); try simp only [ oweC, oweP, opF, opH, ev, evs, evp, evo, Env.get, Env.set, putE, gdst, S0, S1, thenN, inBlockN, argEnv, builtinR, retE, fin, callR, reduceIte, Nat.reduceEqDiff, Nat.reduceAdd, reduceCtorEq, forall_const, Tryd.results52, Fx.ag28, Fx.ag3, Fx.ag31, Fx.ag42, Fx.ag56, Fx.ag73, Fx.ag78, Fx.ag86, Fx.es42, Fx.es56, Fx.es78, Fx.fo31_2, Fx.fo59_0, Fx.fo70_0, Fx.fo72_0, Fx.isl42])
      refine ⟨_, by simpa using hcell, ?_⟩
      repeat ((try first | (refine ofX3 hX ?_; clear hX X) | (refine ofX2 hX ?_; clear hX X)); (first | refine wpL_step (fun X hX => ?_) | refine wpH_step (fun X hX => ?_) | refine wpE_step (fun X hX => ?_) | refine wpL_end ?_ | refine wpH_end ?_ | refine wpE_end ?_); try simp only [ oweC, oweP, opF, opH, ev, evs, evp, evo, Env.get, Env.set, putE, gdst, S0, S1, thenN, inBlockN, argEnv, builtinR, retE, fin, callR, reduceIte, Nat.reduceEqDiff, Nat.reduceAdd, reduceCtorEq, forall_const, Tryd.results52, Fx.ag28, Fx.ag3, Fx.ag31, Fx.ag42, Fx.ag56, Fx.ag73, Fx.ag78, Fx.ag86, Fx.es42, Fx.es56, Fx.es78, Fx.fo31_2, Fx.fo59_0, Fx.fo70_0, Fx.fo72_0, Fx.isl42])
      refine hM _ _ _ ?_; clear hM M
      refine ok_if rfl (fun hc => ?_) (fun hc => ok_skip ?_)
      · refine ok_seq (fun M hM => ok_region rfl ?_); repeat ((try first | (refine ofX3 hX ?_; clear hX X) | (refine ofX2 hX ?_; clear hX X)); (first | refine wpL_step (fun X hX => ?_) | refine wpH_step (fun X hX => ?_) | refine wpE_step (fun X hX => ?_) | refine wpL_end ?_ | refine wpH_end ?_ | refine wpE_end ?_); try simp only [ oweC, oweP, opF, opH, ev, evs, evp, evo, Env.get, Env.set, putE, gdst, S0, S1, thenN, inBlockN, argEnv, builtinR, retE, fin, callR, reduceIte, Nat.reduceEqDiff, Nat.reduceAdd, reduceCtorEq, forall_const, Tryd.results52, Fx.ag28, Fx.ag3, Fx.ag31, Fx.ag42, Fx.ag56, Fx.ag73, Fx.ag78, Fx.ag86, Fx.es42, Fx.es56, Fx.es78, Fx.fo31_2, Fx.fo59_0, Fx.fo70_0, Fx.fo72_0, Fx.isl42])
        refine hM _ _ _ ?_; clear hM M
        refine ok_ret ?_
        try simp only [wpL, wpH, wpE, oweC, oweP, opF, opH, ev, evs, evp, evo, Env.get, Env.set, putE, gdst, S0, S1, thenN, inBlockN, argEnv, builtinR, retE, fin, callR, reduceIte, Nat.reduceEqDiff, Nat.reduceAdd, reduceCtorEq, forall_const, Tryd.results52, Fx.ag28, Fx.ag3, Fx.ag31, Fx.ag42, Fx.ag56, Fx.ag73, Fx.ag78, Fx.ag86, Fx.es42, Fx.es56, Fx.es78, Fx.fo31_2, Fx.fo59_0, Fx.fo70_0, Fx.fo72_0, Fx.isl42]
        have : visitF H (f + 1) st (ri : Int) = (true, st) := by
          have hr0' : ¬ ri = 0 := by omega
          simp [visitF, hv, hc, hr0']
        rw [this]
        exact ⟨rfl, Chg.refl _ _, hR.bs⟩
      · try simp only [wpL, wpH, wpE, oweC, oweP, opF, opH, ev, evs, evp, evo, Env.get, Env.set, putE, gdst, S0, S1, thenN, inBlockN, argEnv, builtinR, retE, fin, callR, reduceIte, Nat.reduceEqDiff, Nat.reduceAdd, reduceCtorEq, forall_const, Tryd.results52, Fx.ag28, Fx.ag3, Fx.ag31, Fx.ag42, Fx.ag56, Fx.ag73, Fx.ag78, Fx.ag86, Fx.es42, Fx.es56, Fx.es78, Fx.fo31_2, Fx.fo59_0, Fx.fo70_0, Fx.fo72_0, Fx.isl42]
        simp [sub, Env.get, hc]
    rintro w2 ⟨rfl, hv1⟩
    have hv0 : v = 0 := by
      rcases hst.val v (List.mem_of_getElem? hv) with h | h | h
      · exact h
      · exact absurd h hv1
      · exact absurd h hv2
    subst hv0
    have hst1 := hst.set ri 1 (by simp)
    have hz1 : zer (st.set ri 1) + 1 ≤ f := by have := zer_set0 (v := 1) (by decide) hv; omega
    obtain ⟨i, o, hio, hi, ho, hoo⟩ := objAt_in (H := H) (r := (ri : Int)) (by omega) h1
    obtain rfl : ri = i + 1 := by omega
    have hoW : ∀ x ∈ o.list, 0 ≤ x.r ∧ x.r ≤ (H.length : Int) := hW o (List.mem_of_getElem? ho)
    have hvF : visitF H (f + 1) st ((i + 1 : Nat) : Int) = (if (visitL (visitF H f) (st.set (i + 1) 1) o.list).1 = true then (true, (visitL (visitF H f) (st.set (i + 1) 1) o.list).2) else (false, (visitL (visitF H f) (st.set (i + 1) 1) o.list).2.set (i + 1) 2)) := by
      have e1 : ((i : Int) + 1).toNat = i + 1 := by omega
      have e2 : ¬ ((i : Int) + 1 = 0) := by omega
      simp only [visitF, Int.toNat_natCast, hv, hoo, listO]
      rw [if_neg (by push_cast; simp [e2]), if_neg (by decide)]
    rw [hvF]
    refine ok_seq (fun M hM => ok_region rfl ?_)
    repeat ((try first | (refine ofX3 hX ?_; clear hX X) | (refine ofX2 hX ?_; clear hX X)); (first | refine wpL_step (fun X hX => ?_) | refine wpH_step (fun X hX => ?_) | refine wpE_step (fun X hX => ?_) | refine wpL_end ?_ | refine wpH_end ?_ | refine wpE_end ?_); try simp only [ oweC, oweP, opF, opH, ev, evs, evp, evo, Env.get, Env.set, putE, gdst, S0, S1, thenN, inBlockN, argEnv, builtinR, retE, fin, callR, reduceIte, Nat.reduceEqDiff, Nat.reduceAdd, reduceCtorEq, forall_const, Tryd.results52, Fx.ag28, Fx.ag3, Fx.ag31, Fx.ag42, Fx.ag56, Fx.ag73, Fx.ag78, Fx.ag86, Fx.es42, Fx.es56, Fx.es78, Fx.fo31_2, Fx.fo59_0, Fx.fo70_0, Fx.fo72_0, Fx.isl42])
    refine ⟨_, hR.k1, ?_⟩
    repeat ((try first | (refine ofX3 hX ?_; clear hX X) | (refine ofX2 hX ?_; clear hX X)); (first | refine wpL_step (fun X hX => ?_) | refine wpH_step (fun X hX => ?_) | refine wpE_step (fun X hX => ?_) | refine wpL_end ?_ | refine wpH_end ?_ | refine wpE_end ?_); try simp only [ oweC, oweP, opF, opH, ev, evs, evp, evo, Env.get, Env.set, putE, gdst, S0, S1, thenN, inBlockN, argEnv, builtinR, retE, fin, callR, reduceIte, Nat.reduceEqDiff, Nat.reduceAdd, reduceCtorEq, forall_const, Tryd.results52, Fx.ag28, Fx.ag3, Fx.ag31, Fx.ag42, Fx.ag56, Fx.ag73, Fx.ag78, Fx.ag86, Fx.es42, Fx.es56, Fx.es78, Fx.fo31_2, Fx.fo59_0, Fx.fo70_0, Fx.fo72_0, Fx.isl42])
    refine ⟨by omega, by omega, ?_⟩
    repeat ((try first | (refine ofX3 hX ?_; clear hX X) | (refine ofX2 hX ?_; clear hX X)); (first | refine wpL_step (fun X hX => ?_) | refine wpH_step (fun X hX => ?_) | refine wpE_step (fun X hX => ?_) | refine wpL_end ?_ | refine wpH_end ?_ | refine wpE_end ?_); try simp only [ oweC, oweP, opF, opH, ev, evs, evp, evo, Env.get, Env.set, putE, gdst, S0, S1, thenN, inBlockN, argEnv, builtinR, retE, fin, callR, reduceIte, Nat.reduceEqDiff, Nat.reduceAdd, reduceCtorEq, forall_const, Tryd.results52, Fx.ag28, Fx.ag3, Fx.ag31, Fx.ag42, Fx.ag56, Fx.ag73, Fx.ag78, Fx.ag86, Fx.es42, Fx.es56, Fx.es78, Fx.fo31_2, Fx.fo59_0, Fx.fo70_0, Fx.fo72_0, Fx.isl42])
    simp only [Nat.zero_add]
    refine Runs.store (b := B) (o := i + 1) (v := .int .i64 1) hR.bs Fx.zi3 rfl (by intro u hu; simp [Value.cells] at hu; subst hu; rfl) (by simp [ivs]; omega) (fun w3 hc3 hs3 hb3 => ?_)
    rw [show (Value.cells (.int .i64 1)).toList = [Value.int .i64 1] from rfl, ivs_set _ _ _ hri] at hb3
    repeat ((try first | (refine ofX3 hX ?_; clear hX X) | (refine ofX2 hX ?_; clear hX X)); (first | refine wpL_step (fun X hX => ?_) | refine wpH_step (fun X hX => ?_) | refine wpE_step (fun X hX => ?_) | refine wpL_end ?_ | refine wpH_end ?_ | refine wpE_end ?_); try simp only [ oweC, oweP, opF, opH, ev, evs, evp, evo, Env.get, Env.set, putE, gdst, S0, S1, thenN, inBlockN, argEnv, builtinR, retE, fin, callR, reduceIte, Nat.reduceEqDiff, Nat.reduceAdd, reduceCtorEq, forall_const, Tryd.results52, Fx.ag28, Fx.ag3, Fx.ag31, Fx.ag42, Fx.ag56, Fx.ag73, Fx.ag78, Fx.ag86, Fx.es42, Fx.es56, Fx.es78, Fx.fo31_2, Fx.fo59_0, Fx.fo70_0, Fx.fo72_0, Fx.isl42])
    refine hM _ _ _ ?_; clear hM M
    have hR3 := hR.chg ha hc3 hb3
    obtain ⟨p, g, hp, hg, hob⟩ := hR3.hp.at_ ho
    obtain ⟨A, c, hlc, hls, hll⟩ := hob.list
    obtain ⟨Av, cv, hvs, hvlen, hvcell⟩ := hR3.hp.sli hl
    have hL : (ps.map fun p => [ptrOf p]).length = H.length := by simp [hR3.hp.lenp]
    rw [hL] at hvs
    subst hvs
    obtain ⟨b, off, rfl, hcc⟩ := hvcell i [ptrOf p] (by rw [List.getElem?_map, hp]; rfl)
    have hcc0 := hcc 0 _ rfl
    refine ok_seq (fun M0 hM0 => ?_)
    refine ok_seq (fun M hM => ok_region rfl ?_)
    repeat ((try first | (refine ofX3 hX ?_; clear hX X) | (refine ofX2 hX ?_; clear hX X)); (first | refine wpL_step (fun X hX => ?_) | refine wpH_step (fun X hX => ?_) | refine wpE_step (fun X hX => ?_) | refine wpL_end ?_ | refine wpH_end ?_ | refine wpE_end ?_); try simp only [ oweC, oweP, opF, opH, ev, evs, evp, evo, Env.get, Env.set, putE, gdst, S0, S1, thenN, inBlockN, argEnv, builtinR, retE, fin, callR, reduceIte, Nat.reduceEqDiff, Nat.reduceAdd, reduceCtorEq, forall_const, Tryd.results52, Fx.ag28, Fx.ag3, Fx.ag31, Fx.ag42, Fx.ag56, Fx.ag73, Fx.ag78, Fx.ag86, Fx.es42, Fx.es56, Fx.es78, Fx.fo31_2, Fx.fo59_0, Fx.fo70_0, Fx.fo72_0, Fx.isl42])
    refine ⟨_, hR3.k2, ?_⟩
    repeat ((try first | (refine ofX3 hX ?_; clear hX X) | (refine ofX2 hX ?_; clear hX X)); (first | refine wpL_step (fun X hX => ?_) | refine wpH_step (fun X hX => ?_) | refine wpE_step (fun X hX => ?_) | refine wpL_end ?_ | refine wpH_end ?_ | refine wpE_end ?_); try simp only [ oweC, oweP, opF, opH, ev, evs, evp, evo, Env.get, Env.set, putE, gdst, S0, S1, thenN, inBlockN, argEnv, builtinR, retE, fin, callR, reduceIte, Nat.reduceEqDiff, Nat.reduceAdd, reduceCtorEq, forall_const, Tryd.results52, Fx.ag28, Fx.ag3, Fx.ag31, Fx.ag42, Fx.ag56, Fx.ag73, Fx.ag78, Fx.ag86, Fx.es42, Fx.es56, Fx.es78, Fx.fo31_2, Fx.fo59_0, Fx.fo70_0, Fx.fo72_0, Fx.isl42])
    refine ⟨_, hR3.hp.head.cell (j := 0) rfl, ?_⟩
    repeat ((try first | (refine ofX3 hX ?_; clear hX X) | (refine ofX2 hX ?_; clear hX X)); (first | refine wpL_step (fun X hX => ?_) | refine wpH_step (fun X hX => ?_) | refine wpE_step (fun X hX => ?_) | refine wpL_end ?_ | refine wpH_end ?_ | refine wpE_end ?_); try simp only [ oweC, oweP, opF, opH, ev, evs, evp, evo, Env.get, Env.set, putE, gdst, S0, S1, thenN, inBlockN, argEnv, builtinR, retE, fin, callR, reduceIte, Nat.reduceEqDiff, Nat.reduceAdd, reduceCtorEq, forall_const, Tryd.results52, Fx.ag28, Fx.ag3, Fx.ag31, Fx.ag42, Fx.ag56, Fx.ag73, Fx.ag78, Fx.ag86, Fx.es42, Fx.es56, Fx.es78, Fx.fo31_2, Fx.fo59_0, Fx.fo70_0, Fx.fo72_0, Fx.isl42])
    refine ⟨by simp only [inI]; omega, ?_⟩
    repeat ((try first | (refine ofX3 hX ?_; clear hX X) | (refine ofX2 hX ?_; clear hX X)); (first | refine wpL_step (fun X hX => ?_) | refine wpH_step (fun X hX => ?_) | refine wpE_step (fun X hX => ?_) | refine wpL_end ?_ | refine wpH_end ?_ | refine wpE_end ?_); try simp only [ oweC, oweP, opF, opH, ev, evs, evp, evo, Env.get, Env.set, putE, gdst, S0, S1, thenN, inBlockN, argEnv, builtinR, retE, fin, callR, reduceIte, Nat.reduceEqDiff, Nat.reduceAdd, reduceCtorEq, forall_const, Tryd.results52, Fx.ag28, Fx.ag3, Fx.ag31, Fx.ag42, Fx.ag56, Fx.ag73, Fx.ag78, Fx.ag86, Fx.es42, Fx.es56, Fx.es78, Fx.fo31_2, Fx.fo59_0, Fx.fo70_0, Fx.fo72_0, Fx.isl42])
    refine ⟨by omega, by omega, ?_⟩
    repeat ((try first | (refine ofX3 hX ?_; clear hX X) | (refine ofX2 hX ?_; clear hX X)); (first | refine wpL_step (fun X hX => ?_) | refine wpH_step (fun X hX => ?_) | refine wpE_step (fun X hX => ?_) | refine wpL_end ?_ | refine wpH_end ?_ | refine wpE_end ?_); try simp only [ oweC, oweP, opF, opH, ev, evs, evp, evo, Env.get, Env.set, putE, gdst, S0, S1, thenN, inBlockN, argEnv, builtinR, retE, fin, callR, reduceIte, Nat.reduceEqDiff, Nat.reduceAdd, reduceCtorEq, forall_const, Tryd.results52, Fx.ag28, Fx.ag3, Fx.ag31, Fx.ag42, Fx.ag56, Fx.ag73, Fx.ag78, Fx.ag86, Fx.es42, Fx.es56, Fx.es78, Fx.fo31_2, Fx.fo59_0, Fx.fo70_0, Fx.fo72_0, Fx.isl42])
    have e5 : (((i + 1 : Nat) : Int) - 1).toNat = i := by omega
    refine ⟨_, by rw [e5]; simpa [add_at] using hcc0, ?_⟩
    repeat ((try first | (refine ofX3 hX ?_; clear hX X) | (refine ofX2 hX ?_; clear hX X)); (first | refine wpL_step (fun X hX => ?_) | refine wpH_step (fun X hX => ?_) | refine wpE_step (fun X hX => ?_) | refine wpL_end ?_ | refine wpH_end ?_ | refine wpE_end ?_); try simp only [ oweC, oweP, opF, opH, ev, evs, evp, evo, Env.get, Env.set, putE, gdst, S0, S1, thenN, inBlockN, argEnv, builtinR, retE, fin, callR, reduceIte, Nat.reduceEqDiff, Nat.reduceAdd, reduceCtorEq, forall_const, Tryd.results52, Fx.ag28, Fx.ag3, Fx.ag31, Fx.ag42, Fx.ag56, Fx.ag73, Fx.ag78, Fx.ag86, Fx.es42, Fx.es56, Fx.es78, Fx.fo31_2, Fx.fo59_0, Fx.fo70_0, Fx.fo72_0, Fx.isl42])
    refine ⟨_, hlc, ?_⟩
    repeat ((try first | (refine ofX3 hX ?_; clear hX X) | (refine ofX2 hX ?_; clear hX X)); (first | refine wpL_step (fun X hX => ?_) | refine wpH_step (fun X hX => ?_) | refine wpE_step (fun X hX => ?_) | refine wpL_end ?_ | refine wpH_end ?_ | refine wpE_end ?_); try simp only [ oweC, oweP, opF, opH, ev, evs, evp, evo, Env.get, Env.set, putE, gdst, S0, S1, thenN, inBlockN, argEnv, builtinR, retE, fin, callR, reduceIte, Nat.reduceEqDiff, Nat.reduceAdd, reduceCtorEq, forall_const, Tryd.results52, Fx.ag28, Fx.ag3, Fx.ag31, Fx.ag42, Fx.ag56, Fx.ag73, Fx.ag78, Fx.ag86, Fx.es42, Fx.es56, Fx.es78, Fx.fo31_2, Fx.fo59_0, Fx.fo70_0, Fx.fo72_0, Fx.isl42])
    refine hM _ _ _ ?_; clear hM M
    refine ok_block ?_
    refine ok_loop (S := Nat × List Int) (fun s => [(0, .int .i64 ((i + 1 : Nat) : Int)), (1, ptrOf c1), (2, ptrOf c2), (3, ptrOf c3), (36, .slice A o.list.length c), (37, .int .i64 (o.list.length : Int)), (38, .int .i64 (s.1 : Int))])
      (fun s w4 => s.1 ≤ o.list.length ∧ OkSt (H.length + 1) s.2 ∧ zer s.2 + 1 ≤ f ∧ RW w4 B c1 c2 c3 hb rb (.slice (some ⟨b, off, none⟩) H.length cv) ps gs H s.2 ∧ Chg (· = B) w3 w4 ∧ visitL (visitF H f) (st.set (i + 1) 1) o.list = visitL (visitF H f) s.2 (o.list.drop s.1)) (fun s => o.list.length - s.1) (0, st.set (i + 1) 1) ?_ ?_ ?_
    · simp [sub, Env.get]
    · exact ⟨Nat.zero_le _, hst1, hz1, hR3, Chg.refl _ _, by simp⟩
    rintro ⟨j, s⟩ w4 ⟨hj, hs4, hz4, hR4, hc4, hvl⟩
    simp only at hj hs4 hz4 hR4 hvl ⊢
    refine ok_seq (fun M hM => ok_region rfl ?_); repeat ((try first | (refine ofX3 hX ?_; clear hX X) | (refine ofX2 hX ?_; clear hX X)); (first | refine wpL_step (fun X hX => ?_) | refine wpH_step (fun X hX => ?_) | refine wpE_step (fun X hX => ?_) | refine wpL_end ?_ | refine wpH_end ?_ | refine wpE_end ?_); try simp only [ oweC, oweP, opF, opH, ev, evs, evp, evo, Env.get, Env.set, putE, gdst, S0, S1, thenN, inBlockN, argEnv, builtinR, retE, fin, callR, reduceIte, Nat.reduceEqDiff, Nat.reduceAdd, reduceCtorEq, forall_const, Tryd.results52, Fx.ag28, Fx.ag3, Fx.ag31, Fx.ag42, Fx.ag56, Fx.ag73, Fx.ag78, Fx.ag86, Fx.es42, Fx.es56, Fx.es78, Fx.fo31_2, Fx.fo59_0, Fx.fo70_0, Fx.fo72_0, Fx.isl42])
    refine hM _ _ _ ?_; clear hM M
    refine ok_seq (fun M1 hM1 => ?_)
    refine ok_if rfl (fun hc => ok_skip ?_) (fun hc => ok_exit ?_)
    rotate_left
    · try simp only [wpL, wpH, wpE, oweC, oweP, opF, opH, ev, evs, evp, evo, Env.get, Env.set, putE, gdst, S0, S1, thenN, inBlockN, argEnv, builtinR, retE, fin, callR, reduceIte, Nat.reduceEqDiff, Nat.reduceAdd, reduceCtorEq, forall_const, Tryd.results52, Fx.ag28, Fx.ag3, Fx.ag31, Fx.ag42, Fx.ag56, Fx.ag73, Fx.ag78, Fx.ag86, Fx.es42, Fx.es56, Fx.es78, Fx.fo31_2, Fx.fo59_0, Fx.fo70_0, Fx.fo72_0, Fx.isl42]
      refine hM0 _ _ _ ?_; clear hM0 M0 hM1 M1
      rw [List.drop_of_length_le (by omega)] at hvl
      simp only [visitL] at hvl
      rw [hvl]
      have hri4 : i + 1 < s.length := by rw [hs4.len]; omega
      refine ok_seq (fun M hM => ok_region rfl ?_)
      repeat ((try first | (refine ofX3 hX ?_; clear hX X) | (refine ofX2 hX ?_; clear hX X)); (first | refine wpL_step (fun X hX => ?_) | refine wpH_step (fun X hX => ?_) | refine wpE_step (fun X hX => ?_) | refine wpL_end ?_ | refine wpH_end ?_ | refine wpE_end ?_); try simp only [ oweC, oweP, opF, opH, ev, evs, evp, evo, Env.get, Env.set, putE, gdst, S0, S1, thenN, inBlockN, argEnv, builtinR, retE, fin, callR, reduceIte, Nat.reduceEqDiff, Nat.reduceAdd, reduceCtorEq, forall_const, Tryd.results52, Fx.ag28, Fx.ag3, Fx.ag31, Fx.ag42, Fx.ag56, Fx.ag73, Fx.ag78, Fx.ag86, Fx.es42, Fx.es56, Fx.es78, Fx.fo31_2, Fx.fo59_0, Fx.fo70_0, Fx.fo72_0, Fx.isl42])
      refine ⟨_, hR4.k1, ?_⟩
      repeat ((try first | (refine ofX3 hX ?_; clear hX X) | (refine ofX2 hX ?_; clear hX X)); (first | refine wpL_step (fun X hX => ?_) | refine wpH_step (fun X hX => ?_) | refine wpE_step (fun X hX => ?_) | refine wpL_end ?_ | refine wpH_end ?_ | refine wpE_end ?_); try simp only [ oweC, oweP, opF, opH, ev, evs, evp, evo, Env.get, Env.set, putE, gdst, S0, S1, thenN, inBlockN, argEnv, builtinR, retE, fin, callR, reduceIte, Nat.reduceEqDiff, Nat.reduceAdd, reduceCtorEq, forall_const, Tryd.results52, Fx.ag28, Fx.ag3, Fx.ag31, Fx.ag42, Fx.ag56, Fx.ag73, Fx.ag78, Fx.ag86, Fx.es42, Fx.es56, Fx.es78, Fx.fo31_2, Fx.fo59_0, Fx.fo70_0, Fx.fo72_0, Fx.isl42])
      refine ⟨by omega, by omega, ?_⟩
      repeat ((try first | (refine ofX3 hX ?_; clear hX X) | (refine ofX2 hX ?_; clear hX X)); (first | refine wpL_step (fun X hX => ?_) | refine wpH_step (fun X hX => ?_) | refine wpE_step (fun X hX => ?_) | refine wpL_end ?_ | refine wpH_end ?_ | refine wpE_end ?_); try simp only [ oweC, oweP, opF, opH, ev, evs, evp, evo, Env.get, Env.set, putE, gdst, S0, S1, thenN, inBlockN, argEnv, builtinR, retE, fin, callR, reduceIte, Nat.reduceEqDiff, Nat.reduceAdd, reduceCtorEq, forall_const, Tryd.results52, Fx.ag28, Fx.ag3, Fx.ag31, Fx.ag42, Fx.ag56, Fx.ag73, Fx.ag78, Fx.ag86, Fx.es42, Fx.es56, Fx.es78, Fx.fo31_2, Fx.fo59_0, Fx.fo70_0, Fx.fo72_0, Fx.isl42])
      simp only [Nat.zero_add]
      refine Runs.store (b := B) (o := i + 1) (v := .int .i64 2) hR4.bs Fx.zi3 rfl (by intro u hu; simp [Value.cells] at hu; subst hu; rfl) (by simp [ivs]; omega) (fun w5 hc5 hs5 hb5 => ?_)
      rw [show (Value.cells (.int .i64 2)).toList = [Value.int .i64 2] from rfl, ivs_set _ _ _ hri4] at hb5
      repeat ((try first | (refine ofX3 hX ?_; clear hX X) | (refine ofX2 hX ?_; clear hX X)); (first | refine wpL_step (fun X hX => ?_) | refine wpH_step (fun X hX => ?_) | refine wpE_step (fun X hX => ?_) | refine wpL_end ?_ | refine wpH_end ?_ | refine wpE_end ?_); try simp only [ oweC, oweP, opF, opH, ev, evs, evp, evo, Env.get, Env.set, putE, gdst, S0, S1, thenN, inBlockN, argEnv, builtinR, retE, fin, callR, reduceIte, Nat.reduceEqDiff, Nat.reduceAdd, reduceCtorEq, forall_const, Tryd.results52, Fx.ag28, Fx.ag3, Fx.ag31, Fx.ag42, Fx.ag56, Fx.ag73, Fx.ag78, Fx.ag86, Fx.es42, Fx.es56, Fx.es78, Fx.fo31_2, Fx.fo59_0, Fx.fo70_0, Fx.fo72_0, Fx.isl42])
      refine hM _ _ _ ?_; clear hM M
      refine ok_seq (fun M hM => ok_region rfl ?_); repeat ((try first | (refine ofX3 hX ?_; clear hX X) | (refine ofX2 hX ?_; clear hX X)); (first | refine wpL_step (fun X hX => ?_) | refine wpH_step (fun X hX => ?_) | refine wpE_step (fun X hX => ?_) | refine wpL_end ?_ | refine wpH_end ?_ | refine wpE_end ?_); try simp only [ oweC, oweP, opF, opH, ev, evs, evp, evo, Env.get, Env.set, putE, gdst, S0, S1, thenN, inBlockN, argEnv, builtinR, retE, fin, callR, reduceIte, Nat.reduceEqDiff, Nat.reduceAdd, reduceCtorEq, forall_const, Tryd.results52, Fx.ag28, Fx.ag3, Fx.ag31, Fx.ag42, Fx.ag56, Fx.ag73, Fx.ag78, Fx.ag86, Fx.es42, Fx.es56, Fx.es78, Fx.fo31_2, Fx.fo59_0, Fx.fo70_0, Fx.fo72_0, Fx.isl42])
      refine hM _ _ _ ?_; clear hM M
      refine ok_ret ?_
      try simp only [wpL, wpH, wpE, oweC, oweP, opF, opH, ev, evs, evp, evo, Env.get, Env.set, putE, gdst, S0, S1, thenN, inBlockN, argEnv, builtinR, retE, fin, callR, reduceIte, Nat.reduceEqDiff, Nat.reduceAdd, reduceCtorEq, forall_const, Tryd.results52, Fx.ag28, Fx.ag3, Fx.ag31, Fx.ag42, Fx.ag56, Fx.ag73, Fx.ag78, Fx.ag86, Fx.es42, Fx.es56, Fx.es78, Fx.fo31_2, Fx.fo59_0, Fx.fo70_0, Fx.fo72_0, Fx.isl42]
      exact ⟨hc3.trans (hc4.trans hc5), hb5⟩
    · try simp only [wpL, wpH, wpE, oweC, oweP, opF, opH, ev, evs, evp, evo, Env.get, Env.set, putE, gdst, S0, S1, thenN, inBlockN, argEnv, builtinR, retE, fin, callR, reduceIte, Nat.reduceEqDiff, Nat.reduceAdd, reduceCtorEq, forall_const, Tryd.results52, Fx.ag28, Fx.ag3, Fx.ag31, Fx.ag42, Fx.ag56, Fx.ag73, Fx.ag78, Fx.ag86, Fx.es42, Fx.es56, Fx.es78, Fx.fo31_2, Fx.fo59_0, Fx.fo70_0, Fx.fo72_0, Fx.isl42]
      refine hM1 _ _ _ ?_; clear hM1 M1
      have hjl : j < o.list.length := by omega
      have hob4 := hR4.hp.obj i p g o hp hg ho
      obtain ⟨A', c', hlc', hls', -⟩ := hob4.list
      have hpB : ¬ p = B := ha.nf p (.inr (.inr (.inl (List.mem_of_getElem? hp))))
      rw [hc4.cell hlc hpB] at hlc'
      injection hlc' with hlc'
      injection hlc' with hA _ hcc'
      subst hA; subst hcc'
      have hxj : o.list[j]? = some o.list[j] := List.getElem?_eq_getElem hjl
      have hxr := hoW _ (List.getElem_mem hjl)
      generalize hx : o.list[j] = x at hxj hxr
      have hdr : o.list.drop j = x :: o.list.drop (j + 1) := by rw [List.drop_eq_getElem_cons hjl, hx]
      rw [hdr] at hvl
      simp only [visitL] at hvl
      obtain ⟨A2, c2', h2, -, hcel⟩ := hls'
      injection h2 with h2a h2b h2c
      subst h2a
      obtain ⟨bb, oo, rfl, hce⟩ := hcel j x.row (by rw [List.getElem?_map, hxj]; rfl)
      refine ok_seq (fun M1 hM1 => ok_block ?_)
      refine ok_seq (fun M hM => ok_region rfl ?_)
      repeat ((try first | (refine ofX3 hX ?_; clear hX X) | (refine ofX2 hX ?_; clear hX X)); (first | refine wpL_step (fun X hX => ?_) | refine wpH_step (fun X hX => ?_) | refine wpE_step (fun X hX => ?_) | refine wpL_end ?_ | refine wpH_end ?_ | refine wpE_end ?_); try simp only [ oweC, oweP, opF, opH, ev, evs, evp, evo, Env.get, Env.set, putE, gdst, S0, S1, thenN, inBlockN, argEnv, builtinR, retE, fin, callR, reduceIte, Nat.reduceEqDiff, Nat.reduceAdd, reduceCtorEq, forall_const, Tryd.results52, Fx.ag28, Fx.ag3, Fx.ag31, Fx.ag42, Fx.ag56, Fx.ag73, Fx.ag78, Fx.ag86, Fx.es42, Fx.es56, Fx.es78, Fx.fo31_2, Fx.fo59_0, Fx.fo70_0, Fx.fo72_0, Fx.isl42])
      refine ⟨by omega, by omega, ?_⟩
      repeat ((try first | (refine ofX3 hX ?_; clear hX X) | (refine ofX2 hX ?_; clear hX X)); (first | refine wpL_step (fun X hX => ?_) | refine wpH_step (fun X hX => ?_) | refine wpE_step (fun X hX => ?_) | refine wpL_end ?_ | refine wpH_end ?_ | refine wpE_end ?_); try simp only [ oweC, oweP, opF, opH, ev, evs, evp, evo, Env.get, Env.set, putE, gdst, S0, S1, thenN, inBlockN, argEnv, builtinR, retE, fin, callR, reduceIte, Nat.reduceEqDiff, Nat.reduceAdd, reduceCtorEq, forall_const, Tryd.results52, Fx.ag28, Fx.ag3, Fx.ag31, Fx.ag42, Fx.ag56, Fx.ag73, Fx.ag78, Fx.ag86, Fx.es42, Fx.es56, Fx.es78, Fx.fo31_2, Fx.fo59_0, Fx.fo70_0, Fx.fo72_0, Fx.isl42])
      refine ⟨x.row, rfl, by simpa using hce, ?_⟩
      repeat ((try first | (refine ofX3 hX ?_; clear hX X) | (refine ofX2 hX ?_; clear hX X)); (first | refine wpL_step (fun X hX => ?_) | refine wpH_step (fun X hX => ?_) | refine wpE_step (fun X hX => ?_) | refine wpL_end ?_ | refine wpH_end ?_ | refine wpE_end ?_); try simp only [ oweC, oweP, opF, opH, ev, evs, evp, evo, Env.get, Env.set, putE, gdst, S0, S1, thenN, inBlockN, argEnv, builtinR, retE, fin, callR, reduceIte, Nat.reduceEqDiff, Nat.reduceAdd, reduceCtorEq, forall_const, Tryd.results52, Fx.ag28, Fx.ag3, Fx.ag31, Fx.ag42, Fx.ag56, Fx.ag73, Fx.ag78, Fx.ag86, Fx.es42, Fx.es56, Fx.es78, Fx.fo31_2, Fx.fo59_0, Fx.fo70_0, Fx.fo72_0, Fx.isl42])
      refine Runs.alloc Fx.zi31 (fun w5 he5 hs5 hb5 => ?_)
      generalize hB5 : w4.heap.size = B5 at hs5 hb5
      repeat ((try first | (refine ofX3 hX ?_; clear hX X) | (refine ofX2 hX ?_; clear hX X)); (first | refine wpL_step (fun X hX => ?_) | refine wpH_step (fun X hX => ?_) | refine wpE_step (fun X hX => ?_) | refine wpL_end ?_ | refine wpH_end ?_ | refine wpE_end ?_); try simp only [ oweC, oweP, opF, opH, ev, evs, evp, evo, Env.get, Env.set, putE, gdst, S0, S1, thenN, inBlockN, argEnv, builtinR, retE, fin, callR, reduceIte, Nat.reduceEqDiff, Nat.reduceAdd, reduceCtorEq, forall_const, Tryd.results52, Fx.ag28, Fx.ag3, Fx.ag31, Fx.ag42, Fx.ag56, Fx.ag73, Fx.ag78, Fx.ag86, Fx.es42, Fx.es56, Fx.es78, Fx.fo31_2, Fx.fo59_0, Fx.fo70_0, Fx.fo72_0, Fx.isl42])
      refine Runs.store hb5 Fx.zi31 rfl (by intro u hu; simp [Value.cells, Wd.row] at hu; rcases hu with rfl | rfl | rfl <;> rfl) (by simp [Value.cells]) (fun w6 hc6 hs6 hb6 => ?_)
      rw [splice_all _ _ (by simp [Value.cells])] at hb6
      simp only [Value.cells] at hb6
      have he6 : Ext w4 w6 := he5.chg_trans hc6 (fun i hi => by omega)
      have hR6 := hR4.ext ha he6
      repeat ((try first | (refine ofX3 hX ?_; clear hX X) | (refine ofX2 hX ?_; clear hX X)); (first | refine wpL_step (fun X hX => ?_) | refine wpH_step (fun X hX => ?_) | refine wpE_step (fun X hX => ?_) | refine wpL_end ?_ | refine wpH_end ?_ | refine wpE_end ?_); try simp only [ oweC, oweP, opF, opH, ev, evs, evp, evo, Env.get, Env.set, putE, gdst, S0, S1, thenN, inBlockN, argEnv, builtinR, retE, fin, callR, reduceIte, Nat.reduceEqDiff, Nat.reduceAdd, reduceCtorEq, forall_const, Tryd.results52, Fx.ag28, Fx.ag3, Fx.ag31, Fx.ag42, Fx.ag56, Fx.ag73, Fx.ag78, Fx.ag86, Fx.es42, Fx.es56, Fx.es78, Fx.fo31_2, Fx.fo59_0, Fx.fo70_0, Fx.fo72_0, Fx.isl42])
      refine hM _ _ _ ?_; clear hM M
      refine ok_seq (fun M hM => ok_region rfl ?_)
      repeat ((try first | (refine ofX3 hX ?_; clear hX X) | (refine ofX2 hX ?_; clear hX X)); (first | refine wpL_step (fun X hX => ?_) | refine wpH_step (fun X hX => ?_) | refine wpE_step (fun X hX => ?_) | refine wpL_end ?_ | refine wpH_end ?_ | refine wpE_end ?_); try simp only [ oweC, oweP, opF, opH, ev, evs, evp, evo, Env.get, Env.set, putE, gdst, S0, S1, thenN, inBlockN, argEnv, builtinR, retE, fin, callR, reduceIte, Nat.reduceEqDiff, Nat.reduceAdd, reduceCtorEq, forall_const, Tryd.results52, Fx.ag28, Fx.ag3, Fx.ag31, Fx.ag42, Fx.ag56, Fx.ag73, Fx.ag78, Fx.ag86, Fx.es42, Fx.es56, Fx.es78, Fx.fo31_2, Fx.fo59_0, Fx.fo70_0, Fx.fo72_0, Fx.isl42])
      refine ⟨_, hR6.k3, ?_⟩
      repeat ((try first | (refine ofX3 hX ?_; clear hX X) | (refine ofX2 hX ?_; clear hX X)); (first | refine wpL_step (fun X hX => ?_) | refine wpH_step (fun X hX => ?_) | refine wpE_step (fun X hX => ?_) | refine wpL_end ?_ | refine wpH_end ?_ | refine wpE_end ?_); try simp only [ oweC, oweP, opF, opH, ev, evs, evp, evo, Env.get, Env.set, putE, gdst, S0, S1, thenN, inBlockN, argEnv, builtinR, retE, fin, callR, reduceIte, Nat.reduceEqDiff, Nat.reduceAdd, reduceCtorEq, forall_const, Tryd.results52, Fx.ag28, Fx.ag3, Fx.ag31, Fx.ag42, Fx.ag56, Fx.ag73, Fx.ag78, Fx.ag86, Fx.es42, Fx.es56, Fx.es78, Fx.fo31_2, Fx.fo59_0, Fx.fo70_0, Fx.fo72_0, Fx.isl42])
      refine ⟨_, hb6.cell (j := 2) (by rfl : _ = some (Value.int .i64 x.r)), ?_⟩
      repeat ((try first | (refine ofX3 hX ?_; clear hX X) | (refine ofX2 hX ?_; clear hX X)); (first | refine wpL_step (fun X hX => ?_) | refine wpH_step (fun X hX => ?_) | refine wpE_step (fun X hX => ?_) | refine wpL_end ?_ | refine wpH_end ?_ | refine wpE_end ?_); try simp only [ oweC, oweP, opF, opH, ev, evs, evp, evo, Env.get, Env.set, putE, gdst, S0, S1, thenN, inBlockN, argEnv, builtinR, retE, fin, callR, reduceIte, Nat.reduceEqDiff, Nat.reduceAdd, reduceCtorEq, forall_const, Tryd.results52, Fx.ag28, Fx.ag3, Fx.ag31, Fx.ag42, Fx.ag56, Fx.ag73, Fx.ag78, Fx.ag86, Fx.es42, Fx.es56, Fx.es78, Fx.fo31_2, Fx.fo59_0, Fx.fo70_0, Fx.fo72_0, Fx.isl42])
      refine Inv.clos (cap := [ptrOf c1, ptrOf c2, ptrOf c3]) Fx.en52 (ih s x.r w6 hs4 hz4 hxr.1 hxr.2 hR6) ?_
      rintro v w7 ⟨rfl, hc7, hb7⟩
      have hc47 : Chg (· = B) w3 w7 := hc4.trans ((he6.chg _).trans hc7)
      repeat ((try first | (refine ofX3 hX ?_; clear hX X) | (refine ofX2 hX ?_; clear hX X)); (first | refine wpL_step (fun X hX => ?_) | refine wpH_step (fun X hX => ?_) | refine wpE_step (fun X hX => ?_) | refine wpL_end ?_ | refine wpH_end ?_ | refine wpE_end ?_); try simp only [ oweC, oweP, opF, opH, ev, evs, evp, evo, Env.get, Env.set, putE, gdst, S0, S1, thenN, inBlockN, argEnv, builtinR, retE, fin, callR, reduceIte, Nat.reduceEqDiff, Nat.reduceAdd, reduceCtorEq, forall_const, Tryd.results52, Fx.ag28, Fx.ag3, Fx.ag31, Fx.ag42, Fx.ag56, Fx.ag73, Fx.ag78, Fx.ag86, Fx.es42, Fx.es56, Fx.es78, Fx.fo31_2, Fx.fo59_0, Fx.fo70_0, Fx.fo72_0, Fx.isl42])
      refine hM _ _ _ ?_; clear hM M
      cases hres : (visitF H f s x.r).1 with
      | true =>
        rw [hres] at hvl
        simp only [if_true] at hvl
        refine ok_cond (b := true) rfl (fun _ => ?_) (fun h => by cases h)
        refine ok_seq (fun M hM => ok_region rfl ?_); repeat ((try first | (refine ofX3 hX ?_; clear hX X) | (refine ofX2 hX ?_; clear hX X)); (first | refine wpL_step (fun X hX => ?_) | refine wpH_step (fun X hX => ?_) | refine wpE_step (fun X hX => ?_) | refine wpL_end ?_ | refine wpH_end ?_ | refine wpE_end ?_); try simp only [ oweC, oweP, opF, opH, ev, evs, evp, evo, Env.get, Env.set, putE, gdst, S0, S1, thenN, inBlockN, argEnv, builtinR, retE, fin, callR, reduceIte, Nat.reduceEqDiff, Nat.reduceAdd, reduceCtorEq, forall_const, Tryd.results52, Fx.ag28, Fx.ag3, Fx.ag31, Fx.ag42, Fx.ag56, Fx.ag73, Fx.ag78, Fx.ag86, Fx.es42, Fx.es56, Fx.es78, Fx.fo31_2, Fx.fo59_0, Fx.fo70_0, Fx.fo72_0, Fx.isl42])
        refine hM _ _ _ ?_; clear hM M
        refine ok_ret ?_
        try simp only [wpL, wpH, wpE, oweC, oweP, opF, opH, ev, evs, evp, evo, Env.get, Env.set, putE, gdst, S0, S1, thenN, inBlockN, argEnv, builtinR, retE, fin, callR, reduceIte, Nat.reduceEqDiff, Nat.reduceAdd, reduceCtorEq, forall_const, Tryd.results52, Fx.ag28, Fx.ag3, Fx.ag31, Fx.ag42, Fx.ag56, Fx.ag73, Fx.ag78, Fx.ag86, Fx.es42, Fx.es56, Fx.es78, Fx.fo31_2, Fx.fo59_0, Fx.fo70_0, Fx.fo72_0, Fx.isl42]
        rw [hvl]
        exact ⟨rfl, hc3.trans hc47, hb7⟩
      | false =>
        rw [hres] at hvl
        simp only [Bool.false_eq_true, if_false] at hvl
        refine ok_cond (b := false) rfl (fun h => by cases h) (fun _ => ok_skip ?_)
        try simp only [wpL, wpH, wpE, oweC, oweP, opF, opH, ev, evs, evp, evo, Env.get, Env.set, putE, gdst, S0, S1, thenN, inBlockN, argEnv, builtinR, retE, fin, callR, reduceIte, Nat.reduceEqDiff, Nat.reduceAdd, reduceCtorEq, forall_const, Tryd.results52, Fx.ag28, Fx.ag3, Fx.ag31, Fx.ag42, Fx.ag56, Fx.ag73, Fx.ag78, Fx.ag86, Fx.es42, Fx.es56, Fx.es78, Fx.fo31_2, Fx.fo59_0, Fx.fo70_0, Fx.fo72_0, Fx.isl42]
        refine hM1 _ _ _ ?_; clear hM1 M1
        refine ok_region rfl ?_
        repeat ((try first | (refine ofX3 hX ?_; clear hX X) | (refine ofX2 hX ?_; clear hX X)); (first | refine wpL_step (fun X hX => ?_) | refine wpH_step (fun X hX => ?_) | refine wpE_step (fun X hX => ?_) | refine wpL_end ?_ | refine wpH_end ?_ | refine wpE_end ?_); try simp only [ oweC, oweP, opF, opH, ev, evs, evp, evo, Env.get, Env.set, putE, gdst, S0, S1, thenN, inBlockN, argEnv, builtinR, retE, fin, callR, reduceIte, Nat.reduceEqDiff, Nat.reduceAdd, reduceCtorEq, forall_const, Tryd.results52, Fx.ag28, Fx.ag3, Fx.ag31, Fx.ag42, Fx.ag56, Fx.ag73, Fx.ag78, Fx.ag86, Fx.es42, Fx.es56, Fx.es78, Fx.fo31_2, Fx.fo59_0, Fx.fo70_0, Fx.fo72_0, Fx.isl42])
        refine ⟨by simp only [inI]; omega, ?_⟩
        repeat ((try first | (refine ofX3 hX ?_; clear hX X) | (refine ofX2 hX ?_; clear hX X)); (first | refine wpL_step (fun X hX => ?_) | refine wpH_step (fun X hX => ?_) | refine wpE_step (fun X hX => ?_) | refine wpL_end ?_ | refine wpH_end ?_ | refine wpE_end ?_); try simp only [ oweC, oweP, opF, opH, ev, evs, evp, evo, Env.get, Env.set, putE, gdst, S0, S1, thenN, inBlockN, argEnv, builtinR, retE, fin, callR, reduceIte, Nat.reduceEqDiff, Nat.reduceAdd, reduceCtorEq, forall_const, Tryd.results52, Fx.ag28, Fx.ag3, Fx.ag31, Fx.ag42, Fx.ag56, Fx.ag73, Fx.ag78, Fx.ag86, Fx.es42, Fx.es56, Fx.es78, Fx.fo31_2, Fx.fo59_0, Fx.fo70_0, Fx.fo72_0, Fx.isl42])
        have hin := visitF_inv (H := H) f s x.r hs4
        exact ⟨(j + 1, (visitF H f s x.r).2), by simp [sub, Env.get], ⟨by omega, hin.1, by simp only; omega, hR6.chg ha hc7 hb7, hc47, hvl⟩, by omega⟩

-- -- function 53
set_option maxHeartbeats 4000000 in
set_option maxRecDepth 8000 in
theorem ring2_ok (w : World) (x : Wd) (c1 c2 c3 : Nat) (hc : w.cell? ⟨c3, 0, none⟩ = some (.func (.func 52) #[] #[ptrOf c1, ptrOf c2, ptrOf c3])) {R : Value → World → Prop}
    (h : ∀ w', Ext w w' → Rets Tryd.prog 52 [.int .i64 x.r, ptrOf c1, ptrOf c2, ptrOf c3] w' R) : Rets Tryd.prog 53 [wv x, ptrOf c3] w R := by
  refine rets_of_ok Tryd.func53 rfl rfl ?_
  refine ok_seq (fun M hM => ok_region rfl ?_)
  repeat ((try first | (refine ofX3 hX ?_; clear hX X) | (refine ofX2 hX ?_; clear hX X)); (first | refine wpL_step (fun X hX => ?_) | refine wpH_step (fun X hX => ?_) | refine wpE_step (fun X hX => ?_) | refine wpL_end ?_ | refine wpH_end ?_ | refine wpE_end ?_); try simp only [ oweC, oweP, opF, opH, ev, evs, evp, evo, Env.get, Env.set, putE, gdst, S0, S1, thenN, inBlockN, argEnv, builtinR, retE, fin, callR, reduceIte, Nat.reduceEqDiff, Nat.reduceAdd, reduceCtorEq, forall_const, Tryd.results53, Fx.ag3, Fx.ag86, Fx.fo31_2])
  refine Runs.box (fun w1 he1 hz1 hb1 => ?_)
  simp only [Value.cells, Wd.row] at hb1
  repeat ((try first | (refine ofX3 hX ?_; clear hX X) | (refine ofX2 hX ?_; clear hX X)); (first | refine wpL_step (fun X hX => ?_) | refine wpH_step (fun X hX => ?_) | refine wpE_step (fun X hX => ?_) | refine wpL_end ?_ | refine wpH_end ?_ | refine wpE_end ?_); try simp only [ oweC, oweP, opF, opH, ev, evs, evp, evo, Env.get, Env.set, putE, gdst, S0, S1, thenN, inBlockN, argEnv, builtinR, retE, fin, callR, reduceIte, Nat.reduceEqDiff, Nat.reduceAdd, reduceCtorEq, forall_const, Tryd.results53, Fx.ag3, Fx.ag86, Fx.fo31_2])
  refine hM _ _ _ ?_; clear hM M
  refine ok_seq (fun M hM => ok_region rfl ?_)
  repeat ((try first | (refine ofX3 hX ?_; clear hX X) | (refine ofX2 hX ?_; clear hX X)); (first | refine wpL_step (fun X hX => ?_) | refine wpH_step (fun X hX => ?_) | refine wpE_step (fun X hX => ?_) | refine wpL_end ?_ | refine wpH_end ?_ | refine wpE_end ?_); try simp only [ oweC, oweP, opF, opH, ev, evs, evp, evo, Env.get, Env.set, putE, gdst, S0, S1, thenN, inBlockN, argEnv, builtinR, retE, fin, callR, reduceIte, Nat.reduceEqDiff, Nat.reduceAdd, reduceCtorEq, forall_const, Tryd.results53, Fx.ag3, Fx.ag86, Fx.fo31_2])
  refine ⟨_, he1.cell hc, ?_⟩
  repeat ((try first | (refine ofX3 hX ?_; clear hX X) | (refine ofX2 hX ?_; clear hX X)); (first | refine wpL_step (fun X hX => ?_) | refine wpH_step (fun X hX => ?_) | refine wpE_step (fun X hX => ?_) | refine wpL_end ?_ | refine wpH_end ?_ | refine wpE_end ?_); try simp only [ oweC, oweP, opF, opH, ev, evs, evp, evo, Env.get, Env.set, putE, gdst, S0, S1, thenN, inBlockN, argEnv, builtinR, retE, fin, callR, reduceIte, Nat.reduceEqDiff, Nat.reduceAdd, reduceCtorEq, forall_const, Tryd.results53, Fx.ag3, Fx.ag86, Fx.fo31_2])
  refine ⟨_, hb1.cell (j := 2) rfl, ?_⟩
  repeat ((try first | (refine ofX3 hX ?_; clear hX X) | (refine ofX2 hX ?_; clear hX X)); (first | refine wpL_step (fun X hX => ?_) | refine wpH_step (fun X hX => ?_) | refine wpE_step (fun X hX => ?_) | refine wpL_end ?_ | refine wpH_end ?_ | refine wpE_end ?_); try simp only [ oweC, oweP, opF, opH, ev, evs, evp, evo, Env.get, Env.set, putE, gdst, S0, S1, thenN, inBlockN, argEnv, builtinR, retE, fin, callR, reduceIte, Nat.reduceEqDiff, Nat.reduceAdd, reduceCtorEq, forall_const, Tryd.results53, Fx.ag3, Fx.ag86, Fx.fo31_2])
  refine Inv.clos (cap := [ptrOf c1, ptrOf c2, ptrOf c3]) Fx.en52 (h w1 he1) ?_
  rintro v w7 hR
  repeat ((try first | (refine ofX3 hX ?_; clear hX X) | (refine ofX2 hX ?_; clear hX X)); (first | refine wpL_step (fun X hX => ?_) | refine wpH_step (fun X hX => ?_) | refine wpE_step (fun X hX => ?_) | refine wpL_end ?_ | refine wpH_end ?_ | refine wpE_end ?_); try simp only [ oweC, oweP, opF, opH, ev, evs, evp, evo, Env.get, Env.set, putE, gdst, S0, S1, thenN, inBlockN, argEnv, builtinR, retE, fin, callR, reduceIte, Nat.reduceEqDiff, Nat.reduceAdd, reduceCtorEq, forall_const, Tryd.results53, Fx.ag3, Fx.ag86, Fx.fo31_2])
  refine hM _ _ _ ?_; clear hM M
  refine ok_ret ?_
  try simp only [wpL, wpH, wpE, oweC, oweP, opF, opH, ev, evs, evp, evo, Env.get, Env.set, putE, gdst, S0, S1, thenN, inBlockN, argEnv, builtinR, retE, fin, callR, reduceIte, Nat.reduceEqDiff, Nat.reduceAdd, reduceCtorEq, forall_const, Tryd.results53, Fx.ag3, Fx.ag86, Fx.fo31_2]
  exact hR

theorem zer_rep (n : Nat) : zer (List.replicate n 0) = n := by
  unfold zer
  rw [List.countP_replicate]; simp
theorem visitL_take (g : List Int → Int → Bool × List Int) (st : List Int) (l : List Wd) (i : Nat) (x : Wd) (hx : l[i]? = some x) : l.drop i = x :: l.drop (i + 1) := by
  have hi := (List.getElem?_eq_some_iff.1 hx).1
  rw [List.drop_eq_getElem_cons hi]
  rw [List.getElem?_eq_getElem hi] at hx
  rw [Option.some.inj hx]

-- -- function 29
set_option maxHeartbeats 4000000 in
set_option maxRecDepth 8000 in
theorem ring_ok (w : World) (hb rb : Nat) (H : List Ob) (F : Nat → Prop) (hH : HeapW w hb rb H F) (hl : H.length ≤ 1073741824) (hW : Wf H) (lv : Value) (l : List Wd) (hv : SlW w lv l) (hlr : ∀ x ∈ l, 0 ≤ x.r ∧ x.r ≤ (H.length : Int)) :
    Rets Tryd.prog 29 [ptrOf hb, lv] w (fun v w' => v = .bool (ringF H l) ∧ Ext w w') := by
  obtain ⟨A, c, rfl, hlen, hcell⟩ := id hv
  rw [wd_len] at hlen ⊢
  obtain ⟨vs, ps, gs, hR, hf, hrb⟩ := id hH
  obtain ⟨Av, cv, hvs, hvlen, hvcell⟩ := hR.sli hl
  have hL : (ps.map fun p => [ptrOf p]).length = H.length := by simp [hR.lenp]
  rw [hL] at hvs
  subst hvs
  have hrbs := hR.rules.lt
  refine rets_of_ok Tryd.func29 rfl rfl ?_
  refine ok_seq (fun M hM => ok_region rfl ?_)
  repeat ((try first | (refine ofX3 hX ?_; clear hX X) | (refine ofX2 hX ?_; clear hX X)); (first | refine wpL_step (fun X hX => ?_) | refine wpH_step (fun X hX => ?_) | refine wpE_step (fun X hX => ?_) | refine wpL_end ?_ | refine wpH_end ?_ | refine wpE_end ?_); try simp only [ oweC, oweP, opF, opH, ev, evs, evp, evo, Env.get, Env.set, putE, gdst, S0, S1, thenN, inBlockN, argEnv, builtinR, retE, fin, callR, reduceIte, Nat.reduceEqDiff, Nat.reduceAdd, reduceCtorEq, forall_const, Tryd.results29, Fx.ag28, Fx.ag56, Fx.fo59_0, Fx.isl56])
  refine Runs.box (fun w1 he1 hz1 hb1 => ?_)
  generalize hB1 : w.heap.size = B1 at hz1 hb1
  simp only [Value.cells] at hb1
  repeat ((try first | (refine ofX3 hX ?_; clear hX X) | (refine ofX2 hX ?_; clear hX X)); (first | refine wpL_step (fun X hX => ?_) | refine wpH_step (fun X hX => ?_) | refine wpE_step (fun X hX => ?_) | refine wpL_end ?_ | refine wpH_end ?_ | refine wpE_end ?_); try simp only [ oweC, oweP, opF, opH, ev, evs, evp, evo, Env.get, Env.set, putE, gdst, S0, S1, thenN, inBlockN, argEnv, builtinR, retE, fin, callR, reduceIte, Nat.reduceEqDiff, Nat.reduceAdd, reduceCtorEq, forall_const, Tryd.results29, Fx.ag28, Fx.ag56, Fx.fo59_0, Fx.isl56])
  refine hM _ _ _ ?_; clear hM M
  refine ok_seq (fun M hM => ok_region rfl ?_)
  repeat ((try first | (refine ofX3 hX ?_; clear hX X) | (refine ofX2 hX ?_; clear hX X)); (first | refine wpL_step (fun X hX => ?_) | refine wpH_step (fun X hX => ?_) | refine wpE_step (fun X hX => ?_) | refine wpL_end ?_ | refine wpH_end ?_ | refine wpE_end ?_); try simp only [ oweC, oweP, opF, opH, ev, evs, evp, evo, Env.get, Env.set, putE, gdst, S0, S1, thenN, inBlockN, argEnv, builtinR, retE, fin, callR, reduceIte, Nat.reduceEqDiff, Nat.reduceAdd, reduceCtorEq, forall_const, Tryd.results29, Fx.ag28, Fx.ag56, Fx.fo59_0, Fx.isl56])
  refine ⟨_, hb1.cell (j := 0) rfl, ?_⟩
  repeat ((try first | (refine ofX3 hX ?_; clear hX X) | (refine ofX2 hX ?_; clear hX X)); (first | refine wpL_step (fun X hX => ?_) | refine wpH_step (fun X hX => ?_) | refine wpE_step (fun X hX => ?_) | refine wpL_end ?_ | refine wpH_end ?_ | refine wpE_end ?_); try simp only [ oweC, oweP, opF, opH, ev, evs, evp, evo, Env.get, Env.set, putE, gdst, S0, S1, thenN, inBlockN, argEnv, builtinR, retE, fin, callR, reduceIte, Nat.reduceEqDiff, Nat.reduceAdd, reduceCtorEq, forall_const, Tryd.results29, Fx.ag28, Fx.ag56, Fx.fo59_0, Fx.isl56])
  refine ⟨_, (hR.head.ext he1).cell (j := 0) rfl, ?_⟩
  repeat ((try first | (refine ofX3 hX ?_; clear hX X) | (refine ofX2 hX ?_; clear hX X)); (first | refine wpL_step (fun X hX => ?_) | refine wpH_step (fun X hX => ?_) | refine wpE_step (fun X hX => ?_) | refine wpL_end ?_ | refine wpH_end ?_ | refine wpE_end ?_); try simp only [ oweC, oweP, opF, opH, ev, evs, evp, evo, Env.get, Env.set, putE, gdst, S0, S1, thenN, inBlockN, argEnv, builtinR, retE, fin, callR, reduceIte, Nat.reduceEqDiff, Nat.reduceAdd, reduceCtorEq, forall_const, Tryd.results29, Fx.ag28, Fx.ag56, Fx.fo59_0, Fx.isl56])
  refine ⟨by simp only [inI]; omega, ?_⟩
  repeat ((try first | (refine ofX3 hX ?_; clear hX X) | (refine ofX2 hX ?_; clear hX X)); (first | refine wpL_step (fun X hX => ?_) | refine wpH_step (fun X hX => ?_) | refine wpE_step (fun X hX => ?_) | refine wpL_end ?_ | refine wpH_end ?_ | refine wpE_end ?_); try simp only [ oweC, oweP, opF, opH, ev, evs, evp, evo, Env.get, Env.set, putE, gdst, S0, S1, thenN, inBlockN, argEnv, builtinR, retE, fin, callR, reduceIte, Nat.reduceEqDiff, Nat.reduceAdd, reduceCtorEq, forall_const, Tryd.results29, Fx.ag28, Fx.ag56, Fx.fo59_0, Fx.isl56])
  refine Runs.make1 Fx.un78 Fx.zi3 rfl (by omega) (by omega) (by omega) (fun w2 he2 hz2 hb2 => ?_)
  generalize hB2 : w1.heap.size = B2 at hz2 hb2
  have hto : ((H.length : Int) + 1).toNat = H.length + 1 := by omega
  rw [hto] at hb2 ⊢
  repeat ((try first | (refine ofX3 hX ?_; clear hX X) | (refine ofX2 hX ?_; clear hX X)); (first | refine wpL_step (fun X hX => ?_) | refine wpH_step (fun X hX => ?_) | refine wpE_step (fun X hX => ?_) | refine wpL_end ?_ | refine wpH_end ?_ | refine wpE_end ?_); try simp only [ oweC, oweP, opF, opH, ev, evs, evp, evo, Env.get, Env.set, putE, gdst, S0, S1, thenN, inBlockN, argEnv, builtinR, retE, fin, callR, reduceIte, Nat.reduceEqDiff, Nat.reduceAdd, reduceCtorEq, forall_const, Tryd.results29, Fx.ag28, Fx.ag56, Fx.fo59_0, Fx.isl56])
  refine Runs.alloc Fx.zi78 (fun w3 he3 hz3 hb3 => ?_)
  generalize hB3 : w2.heap.size = B3 at hz3 hb3
  simp only [Value.cells] at hb3
  repeat ((try first | (refine ofX3 hX ?_; clear hX X) | (refine ofX2 hX ?_; clear hX X)); (first | refine wpL_step (fun X hX => ?_) | refine wpH_step (fun X hX => ?_) | refine wpE_step (fun X hX => ?_) | refine wpL_end ?_ | refine wpH_end ?_ | refine wpE_end ?_); try simp only [ oweC, oweP, opF, opH, ev, evs, evp, evo, Env.get, Env.set, putE, gdst, S0, S1, thenN, inBlockN, argEnv, builtinR, retE, fin, callR, reduceIte, Nat.reduceEqDiff, Nat.reduceAdd, reduceCtorEq, forall_const, Tryd.results29, Fx.ag28, Fx.ag56, Fx.fo59_0, Fx.isl56])
  refine Runs.store hb3 Fx.zi78 rfl (by intro u hu; simp [Value.cells] at hu; subst hu; rfl) (by simp) (fun w4 hc4 hz4 hb4 => ?_)
  rw [splice_all _ _ (by simp [Value.cells])] at hb4
  simp only [Value.cells] at hb4
  repeat ((try first | (refine ofX3 hX ?_; clear hX X) | (refine ofX2 hX ?_; clear hX X)); (first | refine wpL_step (fun X hX => ?_) | refine wpH_step (fun X hX => ?_) | refine wpE_step (fun X hX => ?_) | refine wpL_end ?_ | refine wpH_end ?_ | refine wpE_end ?_); try simp only [ oweC, oweP, opF, opH, ev, evs, evp, evo, Env.get, Env.set, putE, gdst, S0, S1, thenN, inBlockN, argEnv, builtinR, retE, fin, callR, reduceIte, Nat.reduceEqDiff, Nat.reduceAdd, reduceCtorEq, forall_const, Tryd.results29, Fx.ag28, Fx.ag56, Fx.fo59_0, Fx.isl56])
  refine hM _ _ _ ?_; clear hM M
  refine ok_seq (fun M hM => ok_region rfl ?_)
  repeat ((try first | (refine ofX3 hX ?_; clear hX X) | (refine ofX2 hX ?_; clear hX X)); (first | refine wpL_step (fun X hX => ?_) | refine wpH_step (fun X hX => ?_) | refine wpE_step (fun X hX => ?_) | refine wpL_end ?_ | refine wpH_end ?_ | refine wpE_end ?_); try simp only [ oweC, oweP, opF, opH, ev, evs, evp, evo, Env.get, Env.set, putE, gdst, S0, S1, thenN, inBlockN, argEnv, builtinR, retE, fin, callR, reduceIte, Nat.reduceEqDiff, Nat.reduceAdd, reduceCtorEq, forall_const, Tryd.results29, Fx.ag28, Fx.ag56, Fx.fo59_0, Fx.isl56])
  refine Runs.alloc Fx.zi86 (fun w5 he5 hz5 hb5 => ?_)
  generalize hB5 : w4.heap.size = B5 at hz5 hb5
  repeat ((try first | (refine ofX3 hX ?_; clear hX X) | (refine ofX2 hX ?_; clear hX X)); (first | refine wpL_step (fun X hX => ?_) | refine wpH_step (fun X hX => ?_) | refine wpE_step (fun X hX => ?_) | refine wpL_end ?_ | refine wpH_end ?_ | refine wpE_end ?_); try simp only [ oweC, oweP, opF, opH, ev, evs, evp, evo, Env.get, Env.set, putE, gdst, S0, S1, thenN, inBlockN, argEnv, builtinR, retE, fin, callR, reduceIte, Nat.reduceEqDiff, Nat.reduceAdd, reduceCtorEq, forall_const, Tryd.results29, Fx.ag28, Fx.ag56, Fx.fo59_0, Fx.isl56])
  refine hM _ _ _ ?_; clear hM M
  refine ok_seq (fun M hM => ok_region rfl ?_)
  repeat ((try first | (refine ofX3 hX ?_; clear hX X) | (refine ofX2 hX ?_; clear hX X)); (first | refine wpL_step (fun X hX => ?_) | refine wpH_step (fun X hX => ?_) | refine wpE_step (fun X hX => ?_) | refine wpL_end ?_ | refine wpH_end ?_ | refine wpE_end ?_); try simp only [ oweC, oweP, opF, opH, ev, evs, evp, evo, Env.get, Env.set, putE, gdst, S0, S1, thenN, inBlockN, argEnv, builtinR, retE, fin, callR, reduceIte, Nat.reduceEqDiff, Nat.reduceAdd, reduceCtorEq, forall_const, Tryd.results29, Fx.ag28, Fx.ag56, Fx.fo59_0, Fx.isl56])
  refine Runs.store hb5 Fx.zi86 rfl (by intro u hu; simp [Value.cells] at hu; subst hu; rfl) (by simp [Value.cells]) (fun w6 hc6 hz6 hb6 => ?_)
  rw [splice_all _ _ (by simp [Value.cells])] at hb6
  simp only [Value.cells] at hb6
  have he13 : Ext w w3 := he1.trans (he2.trans he3)
  have he14 : Ext w w4 := he13.chg_trans hc4 (fun k hk => by omega)
  have he16 : Ext w w6 := (he14.trans he5).chg_trans hc6 (fun k hk => by omega)
  have hFs : ∀ k, Foot hb (.slice Av H.length cv) ps gs k → k < w.heap.size := fun k hk => (hf k hk).2
  have ha : Apart B2 B3 B1 B5 hb rb (.slice Av H.length cv) ps gs := ⟨by omega, by omega, by omega, by omega, fun k hk => by have := hFs k hk; omega⟩
  have hR6 : RW w6 B2 B3 B1 B5 hb rb (.slice Av H.length cv) ps gs H (List.replicate (H.length + 1) 0) := by
    refine ⟨?_, ?_, ?_, hb6.cell (j := 0) rfl, hR.chg (he16.chg (fun _ => False)) (fun _ _ => id) id⟩
    · have : Blk w6 B2 (List.replicate (H.length + 1) (Value.int .i64 0)) 3 := (((hb2.ext he3).chg hc4 (by omega)).ext he5).chg hc6 (by omega)
      simpa [ivs] using this
    · exact hc6.cell (he5.cell (hb4.cell (j := 0) rfl)) (by simp only; omega)
    · exact hc6.cell (he5.cell (hc4.cell ((he2.trans he3).cell (hb1.cell (j := 0) rfl)) (by simp only; omega))) (by simp only; omega)
  repeat ((try first | (refine ofX3 hX ?_; clear hX X) | (refine ofX2 hX ?_; clear hX X)); (first | refine wpL_step (fun X hX => ?_) | refine wpH_step (fun X hX => ?_) | refine wpE_step (fun X hX => ?_) | refine wpL_end ?_ | refine wpH_end ?_ | refine wpE_end ?_); try simp only [ oweC, oweP, opF, opH, ev, evs, evp, evo, Env.get, Env.set, putE, gdst, S0, S1, thenN, inBlockN, argEnv, builtinR, retE, fin, callR, reduceIte, Nat.reduceEqDiff, Nat.reduceAdd, reduceCtorEq, forall_const, Tryd.results29, Fx.ag28, Fx.ag56, Fx.fo59_0, Fx.isl56])
  refine hM _ _ _ ?_; clear hM M
  refine ok_seq (fun M hM => ok_region rfl ?_)
  repeat ((try first | (refine ofX3 hX ?_; clear hX X) | (refine ofX2 hX ?_; clear hX X)); (first | refine wpL_step (fun X hX => ?_) | refine wpH_step (fun X hX => ?_) | refine wpE_step (fun X hX => ?_) | refine wpL_end ?_ | refine wpH_end ?_ | refine wpE_end ?_); try simp only [ oweC, oweP, opF, opH, ev, evs, evp, evo, Env.get, Env.set, putE, gdst, S0, S1, thenN, inBlockN, argEnv, builtinR, retE, fin, callR, reduceIte, Nat.reduceEqDiff, Nat.reduceAdd, reduceCtorEq, forall_const, Tryd.results29, Fx.ag28, Fx.ag56, Fx.fo59_0, Fx.isl56])
  refine Inv.call Fx.en32 (containsW_ok w6 A l.length c _ hlen
    (fun i w' => Chg (· = B2) w6 w' ∧ ∃ st, OkSt (H.length + 1) st ∧ zer st + 1 ≤ H.length + 2 ∧ RW w' B2 B3 B1 B5 hb rb (.slice Av H.length cv) ps gs H st ∧ visitL (visitF H (H.length + 2)) (List.replicate (H.length + 1) 0) l = visitL (visitF H (H.length + 2)) st (l.drop i))
    (fun w' => Chg (· = B2) w6 w' ∧ ringF H l = true) ?_ ?_) ?_
  · exact ⟨Chg.refl _ _, _, ⟨by simp, fun x hx => .inl (List.eq_of_mem_replicate hx)⟩, by rw [zer_rep]; omega, hR6, by simp⟩
  · rintro i w7 hil ⟨hc7, st, hst, hzs, hR7, hvl⟩
    have hxi : l[i]? = some l[i] := List.getElem?_eq_getElem hil
    have hxr := hlr _ (List.getElem_mem hil)
    generalize l[i] = x at hxi hxr
    rw [visitL_take (visitF H 0) st l i x hxi] at hvl
    simp only [visitL] at hvl
    obtain ⟨b, o, hA, hcc⟩ := hcell i x.row (by rw [List.getElem?_map, hxi]; rfl)
    have he17 : Ext w w7 := he16.chg_trans hc7 (fun k hk => by omega)
    have hin := visitF_inv (H := H) (H.length + 2) st x.r hst
    refine ⟨x.row, rfl, ⟨b, o, hA, he17.cellsAt hcc⟩, Inv.clos (cap := [ptrOf B5]) (R := fun v w8 => v = .bool (visitF H (H.length + 2) st x.r).1 ∧ Chg (· = B2) w7 w8 ∧ Blk w8 B2 (ivs (visitF H (H.length + 2) st x.r).2) 3) Fx.en53 (ring2_ok w7 x B3 B1 B5 hR7.k3 (fun w8 he8 => (visit_ok H hW hl B2 B3 B1 B5 hb rb _ ps gs ha (H.length + 2) st x.r w8 hst hzs hxr.1 hxr.2 (hR7.ext ha he8)).mono (fun v w9 h => ⟨h.1, (he8.chg _).trans h.2.1, h.2.2⟩))) ?_⟩
    rintro v w8 ⟨rfl, hc8, hb8⟩
    cases hres : (visitF H (H.length + 2) st x.r).1 with
    | true =>
      rw [hres] at hvl
      simp only [if_true] at hvl
      exact ⟨true, rfl, fun _ => ⟨hc7.trans hc8, by simp [ringF, hvl]⟩, fun h => by cases h⟩
    | false =>
      rw [hres] at hvl
      simp only [Bool.false_eq_true, if_false] at hvl
      exact ⟨false, rfl, fun h => (by cases h), fun _ => ⟨hc7.trans hc8, _, hin.1, by omega, hR7.chg ha hc8 hb8, hvl⟩⟩
  rintro v w7 ⟨b, rfl, hbt, hbf⟩
  repeat ((try first | (refine ofX3 hX ?_; clear hX X) | (refine ofX2 hX ?_; clear hX X)); (first | refine wpL_step (fun X hX => ?_) | refine wpH_step (fun X hX => ?_) | refine wpE_step (fun X hX => ?_) | refine wpL_end ?_ | refine wpH_end ?_ | refine wpE_end ?_); try simp only [ oweC, oweP, opF, opH, ev, evs, evp, evo, Env.get, Env.set, putE, gdst, S0, S1, thenN, inBlockN, argEnv, builtinR, retE, fin, callR, reduceIte, Nat.reduceEqDiff, Nat.reduceAdd, reduceCtorEq, forall_const, Tryd.results29, Fx.ag28, Fx.ag56, Fx.fo59_0, Fx.isl56])
  refine hM _ _ _ ?_; clear hM M
  refine ok_ret ?_
  try simp only [wpL, wpH, wpE, oweC, oweP, opF, opH, ev, evs, evp, evo, Env.get, Env.set, putE, gdst, S0, S1, thenN, inBlockN, argEnv, builtinR, retE, fin, callR, reduceIte, Nat.reduceEqDiff, Nat.reduceAdd, reduceCtorEq, forall_const, Tryd.results29, Fx.ag28, Fx.ag56, Fx.fo59_0, Fx.isl56]
  cases b with
  | true =>
    obtain ⟨hc7, hr⟩ := hbt rfl
    exact ⟨by rw [hr], he16.chg_trans hc7 (fun k hk => by omega)⟩
  | false =>
    obtain ⟨hc7, st, -, -, -, hvl⟩ := hbf rfl
    refine ⟨?_, he16.chg_trans hc7 (fun k hk => by omega)⟩
    rw [List.drop_of_length_le (Nat.le_refl _)] at hvl
    simp only [visitL] at hvl
    simp [ringF, hvl]
end Go.Proofs.YtldeokfhipjbfaaDoor
