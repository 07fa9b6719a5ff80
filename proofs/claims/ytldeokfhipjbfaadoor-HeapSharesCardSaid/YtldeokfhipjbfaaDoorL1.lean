/- The heap's law in plain Lean: what is stored reads as it was. -/
import Derived.Test.YtldeokfhipjbfaaDoorH14
set_option linter.unusedVariables false
set_option linter.unusedSimpArgs false
namespace Go.Proofs.YtldeokfhipjbfaaDoor
open Go Go.Proofs.Vg Go.RowKit

/-- The words of an object lead to earlier objects. -/
def Desc (H : List Ob) : Prop := ∀ (i : Nat) (o : Ob), H[i]? = some o → ∀ x ∈ o.list, 0 ≤ x.r ∧ x.r ≤ (i : Int)
def LimH (H : List Ob) : Prop := ∀ o ∈ H, o.list.length ≤ 1048576
theorem Desc.wf {H : List Ob} (h : Desc H) : Wf H := by
  intro o ho x hx
  obtain ⟨i, hi⟩ := List.mem_iff_getElem?.1 ho
  have := h i o hi x hx
  have := (List.getElem?_eq_some_iff.1 hi).1
  omega
theorem LimH.args {H : List Ob} (h : LimH H) (x : Wd) : (argsOf H x).length ≤ 1048576 := by
  unfold argsOf
  cases ho : objAt H x.r with
  | none => simp [argsO]
  | some o =>
    have hm : o ∈ H := by
      unfold objAt at ho
      split at ho
      · exact List.mem_of_getElem? ho
      · cases ho
    cases o with
    | text s => simp [argsO]
    | words s l => exact h _ hm
theorem objAt_app {H E : List Ob} {r : Int} (h : r ≤ (H.length : Int)) : objAt (H ++ E) r = objAt H r := by
  unfold objAt
  split
  · rw [List.getElem?_append_left (by omega)]
  · rfl
theorem objAt_new (H : List Ob) (o : Ob) : objAt (H ++ [o]) ((H.length : Int) + 1) = some o := by
  unfold objAt
  rw [if_pos (by omega), show ((H.length : Int) + 1 - 1).toNat = H.length by omega]
  simp
theorem rightW_app {H E : List Ob} {x : Wd} (h : rightW H x = true) : rightW (H ++ E) x = true := by
  have hr := right_ref h
  unfold rightW at h ⊢
  rw [objAt_app hr.2]
  exact h
theorem argsOf_app {H E : List Ob} {x : Wd} (h : x.r ≤ (H.length : Int)) : argsOf (H ++ E) x = argsOf H x := by unfold argsOf; rw [objAt_app h]
theorem argsOf_ref {H : List Ob} (hW : Wf H) (x : Wd) : ∀ y ∈ argsOf H x, 0 ≤ y.r ∧ y.r ≤ (H.length : Int) := by
  intro y hy
  unfold argsOf at hy
  cases ho : objAt H x.r with
  | none => rw [ho] at hy; simp [argsO] at hy
  | some o =>
    have hm : o ∈ H := by
      unfold objAt at ho
      split at ho
      · exact List.mem_of_getElem? ho
      · cases ho
    rw [ho] at hy
    cases o with
    | text s => simp [argsO] at hy
    | words s l => exact hW _ hm y hy
mutual
theorem Lds_app {H E : List Ob} (hW : Wf H) : ∀ (v : Val) (x : Wd), x.r ≤ (H.length : Int) → Lds H x v → Lds (H ++ E) x v
  | .mk k n t args, x, hr, h => by
    simp only [Lds] at h ⊢
    split
    · rename_i h1; rw [if_pos h1] at h; exact h
    rename_i h1
    rw [if_neg h1] at h
    split
    · rename_i h2; rw [if_pos h2] at h; rw [objAt_app hr]; exact h
    rename_i h2
    rw [if_neg h2] at h
    rw [argsOf_app hr]
    exact ⟨h.1, h.2.1, h.2.2.1, h.2.2.2.1, h.2.2.2.2.1, LdsL_app hW args _ (argsOf_ref hW x) h.2.2.2.2.2⟩
theorem LdsL_app {H E : List Ob} (hW : Wf H) : ∀ (vs : List Val) (xs : List Wd), (∀ y ∈ xs, 0 ≤ y.r ∧ y.r ≤ (H.length : Int)) → LdsL H xs vs → LdsL (H ++ E) xs vs
  | [], [], _, _ => by simp only [LdsL]
  | v :: vs, x :: xs, hr, h => by
    simp only [LdsL] at h ⊢
    exact ⟨Lds_app hW v x (hr x List.mem_cons_self).2 h.1, LdsL_app hW vs xs (fun y hy => hr y (List.mem_cons_of_mem _ hy)) h.2⟩
  | [], _ :: _, _, h => by simp [LdsL] at h
  | _ :: _, [], _, h => by simp [LdsL] at h
end
theorem Desc.app {H : List Ob} (h : Desc H) {o : Ob} (ho : ∀ x ∈ o.list, 0 ≤ x.r ∧ x.r ≤ (H.length : Int)) : Desc (H ++ [o]) := by
  intro i o' hi x hx
  rcases Nat.lt_or_ge i H.length with h1 | h1
  · rw [List.getElem?_append_left h1] at hi
    exact h i o' hi x hx
  · rw [List.getElem?_append_right h1] at hi
    have : i = H.length := by have := (List.getElem?_eq_some_iff.1 hi).1; simp at this; omega
    subst this
    simp at hi; subst hi
    exact ho x hx
theorem LimH.app {H : List Ob} (h : LimH H) {o : Ob} (ho : o.list.length ≤ 1048576) : LimH (H ++ [o]) := by
  intro o' hm
  rcases List.mem_append.1 hm with hm | hm
  · exact h o' hm
  · simp at hm; subst hm; exact ho

/-- What storing leaves. -/
structure Stored (H H' : List Ob) (x : Wd) (v : Val) : Prop where
  app : ∃ E, H' = H ++ E
  desc : Desc H'
  lim : LimH H'
  right : rightW H' x = true
  kind : x.k ≠ 0 ∧ x.k ≠ 9
  reads : Lds H' x v
theorem mk_spec {H : List Ob} {k n : Int} {ws : List Wd} {args : List Val} (hk : k = 4 ∨ k = 5 ∨ k = 6 ∨ k = 7) (hn : k = 7 → n = 0) (hD : Desc H) (hL : LimH H) (hl : ws.length ≤ 1048576) (hr : ∀ y ∈ ws, 0 ≤ y.r ∧ y.r ≤ (H.length : Int)) (hld : LdsL H ws args) :
    Stored H (mkW H k n ws).1 (mkW H k n ws).2 (.mk k n ⟨#[]⟩ args) := by
  unfold mkW
  split
  · rename_i hc
    have ho := objAt_new H (.words (if k = 7 then 7 else 4) ws)
    refine ⟨⟨_, rfl⟩, hD.app hr, hL.app hl, ?_, ?_, ?_⟩
    · unfold rightW
      simp only [ho]
      rcases hk with rfl | rfl | rfl | rfl
      · simp [isDataO]
      · simp [isDataO]
      · simp [isDataO]
      · simp [isArrO, hn rfl]
    · simp only; omega
    · simp only [Lds]
      rw [if_neg (by omega), if_neg (by omega)]
      have ha : argsOf (H ++ [.words (if k = 7 then 7 else 4) ws]) ⟨k, n, (H.length : Int) + 1⟩ = ws := by unfold argsOf; rw [ho]; rfl
      rw [ha]
      exact ⟨by omega, by omega, trivial, trivial, trivial, LdsL_app hD.wf args ws hr hld⟩
  · rename_i hc
    have hw : ws = [] := by
      cases ws with
      | nil => rfl
      | cons y ys => exact absurd (Or.inl (by simp)) hc
    subst hw
    have h7 : ¬ k = 7 := fun h => hc (.inr h)
    have ho : objAt H 0 = none := objAt_lt (by omega)
    refine ⟨⟨[], by simp⟩, hD, hL, ?_, ?_, ?_⟩
    · unfold rightW
      rcases hk with rfl | rfl | rfl | rfl
      · simp
      · simp
      · simp
      · exact absurd rfl h7
    · simp only; omega
    · simp only [Lds]
      rw [if_neg (by omega), if_neg (by omega)]
      have ha : argsOf H ⟨k, n, 0⟩ = [] := by unfold argsOf; rw [ho]; rfl
      rw [ha]
      exact ⟨by omega, by omega, trivial, trivial, trivial, hld⟩
mutual
theorem store_spec : ∀ (x : Val) (H : List Ob), knownV x = true → formedV x = true → Desc H → LimH H → cntV x ≤ 1048576 → Stored H (storeV H x).1 (storeV H x).2 x
  | .mk k n t args, H, hk, hf, hD, hL, hc => by
    simp only [knownV, Bool.and_eq_true, decide_eq_true_eq] at hk
    simp only [formedV, Bool.and_eq_true] at hf
    obtain ⟨⟨hk1, hk2⟩, hks⟩ := hk
    obtain ⟨hw, hfs⟩ := hf
    simp only [cntV] at hc
    have hcl := cntVs_len args
    have ho : objAt H 0 = none := objAt_lt (by omega)
    have nilL : ∀ (H : List Ob), args.length = 0 → LdsL H [] args := fun H h => by
      have : args = [] := List.length_eq_zero_iff.1 h
      subst this; simp only [LdsL]
    unfold wellV at hw
    simp only [storeV]
    split
    · rename_i h1
      have hq : t = ⟨#[]⟩ ∧ args.length = 0 := by
        rcases h1 with rfl | rfl | rfl
        · simpa using hw
        · simpa using hw
        · simp at hw; exact ⟨hw.1.1, by simp [hw.2]⟩
      refine ⟨⟨[], by simp⟩, hD, hL, ?_, ?_, ?_⟩
      · unfold rightW
        rcases h1 with rfl | rfl | rfl <;> simp
      · simp only; omega
      · simp only [Lds]
        rw [if_neg (by omega), if_neg (by omega)]
        have ha : argsOf H ⟨k, n, 0⟩ = [] := by unfold argsOf; rw [ho]; rfl
        rw [ha]
        exact ⟨by omega, by omega, trivial, trivial, hq.1, nilL H hq.2⟩
    · rename_i h1
      split
      · rename_i h3
        subst h3
        simp at hw
        have hoo := objAt_new H (.text t)
        refine ⟨⟨_, rfl⟩, hD.app (by simp [Ob.list]), hL.app (by simp [Ob.list]), ?_, ?_, ?_⟩
        · unfold rightW
          simp [hoo, isTextO]
        · simp only; omega
        · simp only [Lds]
          have ha : args = [] := by simpa using hw.2
          subst ha
          simp [hw.1, hoo]
      · rename_i h3
        have hkk : k = 4 ∨ k = 5 ∨ k = 6 ∨ k = 7 := by omega
        have hq : t = ⟨#[]⟩ ∧ (k = 7 → n = 0) := by
          rcases hkk with rfl | rfl | rfl | rfl <;> simp at hw <;> simp [hw]
        obtain ⟨⟨E, hE⟩, h4, h5, h6, h7⟩ := stores_spec args H hks hfs hD hL (by omega)
        rw [hq.1]
        have hsl := storeVs_length args H
        obtain ⟨⟨E2, hE2⟩, g2, g3, g4, g5, g6⟩ := mk_spec hkk hq.2 h4 h5 (by omega) (fun y hy => right_ref (h6 y hy).1) h7
        exact ⟨⟨E ++ E2, by rw [hE2, hE, List.append_assoc]⟩, g2, g3, g4, g5, g6⟩
theorem stores_spec : ∀ (l : List Val) (H : List Ob), knownVs l = true → formedVs l = true → Desc H → LimH H → cntVs l ≤ 1048576 →
    (∃ E, (storeVs H l).1 = H ++ E) ∧ Desc (storeVs H l).1 ∧ LimH (storeVs H l).1 ∧ (∀ y ∈ (storeVs H l).2, rightW (storeVs H l).1 y = true ∧ y.k ≠ 0 ∧ y.k ≠ 9) ∧ LdsL (storeVs H l).1 (storeVs H l).2 l
  | [], H, _, _, hD, hL, _ => by
    simp only [storeVs]
    exact ⟨⟨[], by simp⟩, hD, hL, by simp, by simp only [LdsL]⟩
  | x :: l, H, hk, hf, hD, hL, hc => by
    simp only [knownVs, Bool.and_eq_true] at hk
    simp only [formedVs, Bool.and_eq_true] at hf
    simp only [cntVs] at hc
    simp only [storeVs]
    obtain ⟨⟨E, hE⟩, h2, h3, h4, h5, h6⟩ := store_spec x H hk.1 hf.1 hD hL (by omega)
    obtain ⟨⟨E2, hE2⟩, g2, g3, g4, g5⟩ := stores_spec l (storeV H x).1 hk.2 hf.2 h2 h3 (by omega)
    refine ⟨⟨E ++ E2, by rw [hE2, hE, List.append_assoc]⟩, g2, g3, fun y hy => ?_, ?_⟩
    · rcases List.mem_cons.1 hy with rfl | hy
      · rw [hE2]; exact ⟨rightW_app h4, h5⟩
      · exact g4 y hy
    · simp only [LdsL]
      refine ⟨?_, g5⟩
      rw [hE2]
      exact Lds_app h2.wf x _ (right_ref h4).2 h6
end
/-- A heap whose words lead to earlier objects has no ring. -/
theorem visit_desc {H : List Ob} (hD : Desc H) : ∀ (f : Nat) (st : List Int) (r : Int), 0 ≤ r → r ≤ (f : Int) → (∀ j : Nat, (j : Int) ≤ r → st[j]? ≠ some 1) → (visitF H f st r).1 = false ∧ ∀ j : Nat, (visitF H f st r).2[j]? = some 1 → st[j]? = some 1 := by
  intro f
  induction f with
  | zero =>
    intro st r h0 h1 hs
    have : r = 0 := by omega
    subst this
    simp [visitF]
  | succ f ih =>
    intro st r h0 h1 hs
    simp only [visitF]
    split
    · exact ⟨rfl, fun j h => h⟩
    rename_i hn
    split
    · rename_i h2
      exact absurd h2 (hs r.toNat (by omega))
    rename_i h2
    have hr0 : ¬ r = 0 := fun e => hn (.inl e)
    have hlist : ∀ x ∈ listO (objAt H r), 0 ≤ x.r ∧ x.r ≤ r - 1 := by
      intro x hx
      cases ho : objAt H r with
      | none => rw [ho] at hx; simp [listO] at hx
      | some o =>
        rw [ho] at hx
        have hi : H[(r - 1).toNat]? = some o := by
          unfold objAt at ho
          rw [if_pos (by omega)] at ho
          exact ho
        have := hD _ o hi x hx
        omega
    have key : ∀ (l : List Wd) (s : List Int), (∀ x ∈ l, 0 ≤ x.r ∧ x.r ≤ r - 1) → (∀ j : Nat, s[j]? = some 1 → (st.set r.toNat 1)[j]? = some 1) → (visitL (visitF H f) s l).1 = false ∧ ∀ j : Nat, (visitL (visitF H f) s l).2[j]? = some 1 → (st.set r.toNat 1)[j]? = some 1 := by
      intro l
      induction l with
      | nil => intro s _ hs2; exact ⟨rfl, hs2⟩
      | cons x l ihl =>
        intro s hl hs2
        have hx := hl x List.mem_cons_self
        have h3 := ih s x.r hx.1 (by omega) (fun j hj hsj => by
          have h4 := hs2 j hsj
          rw [List.getElem?_set] at h4
          split at h4
          · omega
          · exact hs j (by omega) h4)
        simp only [visitL]
        rw [h3.1]
        simp only [Bool.false_eq_true, if_false]
        exact ihl _ (fun y hy => hl y (List.mem_cons_of_mem _ hy)) (fun j hj => hs2 j (h3.2 j hj))
    have hk := key (listO (objAt H r)) (st.set r.toNat 1) hlist (fun j h => h)
    rw [hk.1]
    simp only [Bool.false_eq_true, if_false]
    refine ⟨trivial, fun j hj => ?_⟩
    rw [List.getElem?_set] at hj
    split at hj
    · split at hj
      · cases hj
      · cases hj
    · rename_i hne
      have := hk.2 j hj
      rw [List.getElem?_set, if_neg hne] at this
      exact this
theorem ring_desc {H : List Ob} (hD : Desc H) (l : List Wd) (hl : ∀ x ∈ l, 0 ≤ x.r ∧ x.r ≤ (H.length : Int)) : ringF H l = false := by
  unfold ringF
  have key : ∀ (l : List Wd) (s : List Int), (∀ x ∈ l, 0 ≤ x.r ∧ x.r ≤ (H.length : Int)) → (∀ j : Nat, s[j]? ≠ some 1) → (visitL (visitF H (H.length + 2)) s l).1 = false := by
    intro l
    induction l with
    | nil => intro s _ _; rfl
    | cons x l ih =>
      intro s hl hs
      have hx := hl x List.mem_cons_self
      have h3 := visit_desc hD (H.length + 2) s x.r hx.1 (by omega) (fun j _ => hs j)
      simp only [visitL]
      rw [h3.1]
      simp only [Bool.false_eq_true, if_false]
      exact ih _ (fun y hy => hl y (List.mem_cons_of_mem _ hy)) (fun j hj => hs j (h3.2 j hj))
  refine key l _ hl (fun j hj => ?_)
  rw [List.getElem?_replicate] at hj
  split at hj <;> cases hj
theorem cntVs_app : ∀ (a b : List Val), cntVs (a ++ b) = cntVs a + cntVs b
  | [], b => by simp [cntVs]
  | x :: a, b => by simp only [List.cons_append, cntVs, cntVs_app a b]; omega
theorem LdsL_split {H : List Ob} : ∀ (xs : List Wd) (x : Wd) (vs : List Val), LdsL H (xs ++ [x]) vs → ∃ us v, vs = us ++ [v] ∧ LdsL H xs us ∧ Lds H x v
  | [], x, vs, h => by
    cases vs with
    | nil => simp [LdsL] at h
    | cons v vs =>
      simp only [List.nil_append, LdsL] at h
      cases vs with
      | nil => exact ⟨[], v, rfl, by simp only [LdsL], h.1⟩
      | cons u us => exact absurd h.2 (by simp [LdsL])
  | y :: xs, x, vs, h => by
    cases vs with
    | nil => simp [LdsL] at h
    | cons v vs =>
      simp only [List.cons_append, LdsL] at h
      obtain ⟨us, u, rfl, h1, h2⟩ := LdsL_split xs x vs h.2
      exact ⟨v :: us, u, rfl, by simp only [LdsL]; exact ⟨h.1, h1⟩, h2⟩
theorem LdsL_join {H : List Ob} : ∀ (xs : List Wd) (us : List Val) (ys : List Wd) (vs : List Val), LdsL H xs us → LdsL H ys vs → LdsL H (xs ++ ys) (us ++ vs)
  | [], [], ys, vs, _, h => h
  | x :: xs, u :: us, ys, vs, h, h' => by
    simp only [LdsL, List.cons_append] at h ⊢
    exact ⟨h.1, LdsL_join xs us ys vs h.2 h'⟩
  | [], _ :: _, _, _, h, _ => by simp [LdsL] at h
  | _ :: _, [], _, _, h, _ => by simp [LdsL] at h
theorem Lds_args {H : List Ob} {x : Wd} {v : Val} (h : Lds H x v) : ∃ args, LdsL H (argsOf H x) args ∧ cntV v = 1 + cntVs args := by
  obtain ⟨k, n, t, args⟩ := v
  simp only [Lds] at h
  split at h
  · obtain ⟨-, -, -, rfl, hr⟩ := h
    have : argsOf H x = [] := by unfold argsOf; rw [hr, objAt_lt (by omega)]; rfl
    rw [this]
    exact ⟨[], by simp only [LdsL], by simp only [cntV]⟩
  split at h
  · obtain ⟨-, -, rfl, ho⟩ := h
    have : argsOf H x = [] := by unfold argsOf; rw [ho]; rfl
    rw [this]
    exact ⟨[], by simp only [LdsL], by simp only [cntV]⟩
  · exact ⟨args, h.2.2.2.2.2, by simp only [cntV]⟩
theorem parts_cnt {H : List Ob} : ∀ (f : Nat) (todo : List Wd) (vs : List Val), LdsL H todo vs → cntVs vs ≤ f → partsF H f todo = cntVs vs := by
  intro f
  induction f with
  | zero =>
    intro todo vs h hc
    have hl := cntVs_len vs
    have : vs = [] := List.length_eq_zero_iff.1 (by omega)
    subst this
    have : todo = [] := List.length_eq_zero_iff.1 (by rw [LdsL.length _ _ h]; rfl)
    subst this
    rfl
  | succ f ih =>
    intro todo vs h hc
    cases hg : todo.getLast? with
    | none =>
      have : todo = [] := List.getLast?_eq_none_iff.1 hg
      subst this
      have : vs = [] := List.length_eq_zero_iff.1 (by rw [← LdsL.length _ _ h]; rfl)
      subst this
      rfl
    | some x =>
      obtain ⟨init, rfl⟩ : ∃ init, todo = init ++ [x] := ⟨todo.dropLast, by
        have := List.getLast?_eq_some_iff.1 hg
        obtain ⟨ys, rfl⟩ := this
        simp⟩
      obtain ⟨us, v, rfl, h1, h2⟩ := LdsL_split init x vs h
      obtain ⟨args, h3, h4⟩ := Lds_args h2
      simp only [partsF, List.getLast?_concat, List.dropLast_concat]
      rw [cntVs_app] at hc ⊢
      simp only [cntVs] at hc ⊢
      rw [ih (init ++ argsOf H x) (us ++ args) (LdsL_join _ _ _ _ h1 h3) (by rw [cntVs_app]; omega), cntVs_app]
      omega
end Go.Proofs.YtldeokfhipjbfaaDoor
