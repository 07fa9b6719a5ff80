/- Plain: who is to blame. -/
import Derived.Test.YtafjfcameabbmaaD14
set_option linter.unusedVariables false
set_option linter.unusedSimpArgs false
namespace Go.Proofs.Ytafjfcameabbmaa
open Go Go.Proofs.Vg Go.RowKit Dbg
namespace Dbg
theorem parent_one {ks : List (List Int)} (he : edgesB ks = true) (ho : onesB ks = true) {u u' : Nat} {c : Nat} (hu : u < ks.length) (hu' : u' < ks.length) (h : (c : Int) ∈ kidsOf ks u) (h' : (c : Int) ∈ kidsOf ks u') : u = u' := by
  have he1 := kids_edge he hu h
  obtain ⟨p, hp, hpk, hk⟩ := parent he ho (v := c) (by omega) (by omega)
  have key : ∀ x, x < ks.length → (c : Int) ∈ kidsOf ks x → x = p := fun x hx hm => by
    have h1 := hk [x] (by simpa using hx)
    have h2 : 0 < (kidsOf ks x).count (c : Int) := List.count_pos_iff.2 hm
    by_cases hxp : x = p
    · exact hxp
    · have : [x].count p = 0 := by simp [List.count_cons]; omega
      rw [this] at h1
      simp [kidn] at h1
      omega
  rw [key u hu h, key u' hu' h']
/-- What holds of the game as it goes on. -/
structure Tale (ks : List (List Int)) (ans : Nat → Bool) (s : St) : Prop where
  wrong : ans s.root = true
  cleared : ∀ v, v ∈ desc ks s.root → s.sus.getD v false = false → ∃ q, q < ks.length ∧ ans q = false ∧ v ∈ desc ks q ∧ ∀ u, s.sus.getD u false = true → u ∉ desc ks q
  gone : ∀ a ∈ (0 : Int) :: s.asked, ∃ i : Nat, a = (i : Int) ∧ i < ks.length ∧ (s.sus.getD i false = false ∨ i = s.root)
  once : ((0 : Int) :: s.asked).Nodup
theorem nodup_snoc {l : List Int} {a : Int} (h : l.Nodup) (ha : a ∉ l) : (l ++ [a]).Nodup := by
  rw [List.nodup_append]
  refine ⟨h, by simp, fun x hx y hy => ?_⟩
  simp at hy
  subst hy
  exact fun e => ha (e ▸ hx)
theorem tale {ks : List (List Int)} (he : edgesB ks = true) (ho : onesB ks = true) (h0 : 0 < ks.length) {ans : Nat → Bool} (hw : ans 0 = true) : ∀ k, Asks ks ans k → Tale ks ans (st ks ans k)
  | 0, _ => ⟨hw, fun v hv hs => by
      have hvl := (desc_lt' he h0 hv).2
      simp [st, List.getD_eq_getElem?_getD, List.getElem?_replicate, hvl] at hs, fun a ha => by
      simp [st] at ha
      exact ⟨0, by simpa using ha, h0, .inr rfl⟩, by simp [st]⟩
  | k + 1, h => by
    have ih := tale he ho h0 hw k (fun j hj => h j (by omega))
    have hg := st_good he ho h0 ans k (fun j hj => h j (by omega))
    obtain ⟨i, hq, hi, hs, hr⟩ := q_pos (h k (by omega))
    have hid := hg.sub i hs
    have hri : (st ks ans k).root ∉ desc ks i := fun hm => by
      have := desc_lt' he hi hm
      have := desc_lt' he hg.lt hid
      omega
    have hsub : ∀ (b : Bool) v, (newSus ks (st ks ans k).sus i b).getD v false = true → (st ks ans k).sus.getD v false = true := fun b v hv => by
      rw [newSus_getD'] at hv; unfold newAt at hv
      simp only [Bool.and_eq_true] at hv
      exact hv.1
    have hni : (i : Int) ∉ (0 : Int) :: (st ks ans k).asked := fun hm => by
      obtain ⟨j, hj, _, hj2⟩ := ih.gone _ hm
      have : i = j := by omega
      subst this
      rcases hj2 with h | h
      · rw [hs] at h; cases h
      · exact hr h
    have hgone : ∀ (b : Bool) (root' : Nat), (root' = if b = true then i else (st ks ans k).root) → ∀ a ∈ (0 : Int) :: ((st ks ans k).asked ++ [(i : Int)]), ∃ j : Nat, a = (j : Int) ∧ j < ks.length ∧ ((newSus ks (st ks ans k).sus i b).getD j false = false ∨ j = root') := by
      rintro b root' rfl a ha
      have ha' : a ∈ ((0 : Int) :: (st ks ans k).asked) ∨ a = (i : Int) := by
        simp only [List.mem_cons, List.mem_append, List.not_mem_nil, or_false] at ha ⊢
        rcases ha with h | h | h
        · exact .inl (.inl h)
        · exact .inl (.inr h)
        · exact .inr h
      rcases ha' with ha' | rfl
      · obtain ⟨j, rfl, hjl, hj⟩ := ih.gone a ha'
        refine ⟨j, rfl, hjl, ?_⟩
        rcases hj with hj | rfl
        · refine .inl ?_
          cases hx : (newSus ks (st ks ans k).sus i b).getD j false with
          | false => rfl
          | true => rw [hsub b j hx] at hj; cases hj
        · cases b with
          | true =>
            refine .inl ?_
            rw [newSus_getD']; unfold newAt
            simp [hri]
          | false => exact .inr (by simp)
      · refine ⟨i, rfl, hi, ?_⟩
        cases b with
        | true => exact .inr (by simp)
        | false =>
          refine .inl ?_
          rw [newSus_getD']; unfold newAt
          simp [desc_self he hi]
    have honce : ((0 : Int) :: ((st ks ans k).asked ++ [(i : Int)])).Nodup := by
      have := nodup_snoc ih.once hni
      simpa using this
    have hst : st ks ans (k + 1) = { sus := newSus ks (st ks ans k).sus i (ans i), root := if ans i = true then i else (st ks ans k).root, asked := (st ks ans k).asked ++ [(i : Int)] } := by
      simp only [st, St.next, hq, Int.toNat_natCast]
    rw [hst]
    cases ha : ans i with
    | true =>
      refine ⟨by simpa using ha, fun v hv hsv => ?_, hgone true _ (by simp), honce⟩
      simp only [if_true] at hv
      have hvo : (st ks ans k).sus.getD v false = false := by
        simp only at hsv
        rw [newSus_getD'] at hsv; unfold newAt at hsv
        cases hx : (st ks ans k).sus.getD v false with
        | false => rfl
        | true => rw [hx] at hsv; simp [hv] at hsv
      obtain ⟨q, hql, h1, h2, h3⟩ := ih.cleared v (desc_trans he hg.lt hid v hv) hvo
      exact ⟨q, hql, h1, h2, fun u hu => h3 u (hsub _ u hu)⟩
    | false =>
      refine ⟨by simpa using ih.wrong, fun v hv hsv => ?_, hgone false _ (by simp), honce⟩
      simp only [Bool.false_eq_true, if_false] at hv
      cases hx : (st ks ans k).sus.getD v false with
      | false =>
        obtain ⟨q, hql, h1, h2, h3⟩ := ih.cleared v hv hx
        exact ⟨q, hql, h1, h2, fun u hu => h3 u (hsub _ u hu)⟩
      | true =>
        simp only at hsv
        rw [newSus_getD'] at hsv; unfold newAt at hsv
        rw [hx] at hsv
        have hvi : v ∈ desc ks i := by simpa using hsv
        refine ⟨i, hi, ha, hvi, fun u hu => ?_⟩
        simp only at hu
        rw [newSus_getD'] at hu; unfold newAt at hu
        simp only [Bool.and_eq_true] at hu
        simpa using hu.2
/-- THE NODE THAT IS TO BLAME IS WRONG, AND NONE OF ITS KIDS IS. -/
theorem blamed {ks : List (List Int)} (he : edgesB ks = true) (ho : onesB ks = true) (h0 : 0 < ks.length) {ans : Nat → Bool} (hw : ans 0 = true) {k : Nat} (h : Dbg.Ends ks ans k) : ∀ c ∈ kidsOf ks (st ks ans k).root, ans c.toNat = false := by
  intro c hc
  have ht := tale he ho h0 hw k h.1
  have hg := st_good he ho h0 ans k h.1
  have hce := kids_edge he hg.lt hc
  obtain ⟨c, rfl⟩ : ∃ c' : Nat, c = (c' : Int) := ⟨c.toNat, by omega⟩
  simp only [Int.toNat_natCast]
  have hcd : c ∈ desc ks (st ks ans k).root := (desc_mem he hg.lt).2 (.inr ⟨_, desc_self he hg.lt, hc⟩)
  have hcs : (st ks ans k).sus.getD c false = false := by
    cases hx : (st ks ans k).sus.getD c false with
    | false => rfl
    | true =>
      rcases quest_spec ks (st ks ans k).sus (st ks ans k).root with ⟨_, h2⟩ | ⟨i, h1, _⟩
      · have := h2 c (by omega) hx; omega
      · have := h.2; unfold St.q at this; omega
  obtain ⟨q, hql, h1, h2, h3⟩ := ht.cleared c hcd hcs
  rcases (desc_mem he hql).1 h2 with rfl | ⟨u, hu, hk⟩
  · exact h1
  · have := parent_one he ho (desc_lt' he hql hu).2 hg.lt hk hc
    subst this
    exact absurd hu (h3 _ hg.at_)
theorem asked_few {ks : List (List Int)} (he : edgesB ks = true) (ho : onesB ks = true) (h0 : 0 < ks.length) {ans : Nat → Bool} {k : Nat} (h : Asks ks ans k) : k < ks.length := by
  have hg := st_good he ho h0 ans k h
  have := asks_lt he ho h0 ans k h
  have : 0 < (st ks ans k).sus.count true := by
    rw [count_getD]
    exact List.countP_pos_iff.2 ⟨(st ks ans k).root, List.mem_range.2 (by rw [hg.len]; exact hg.lt), hg.at_⟩
  omega
end Dbg
end Go.Proofs.Ytafjfcameabbmaa
