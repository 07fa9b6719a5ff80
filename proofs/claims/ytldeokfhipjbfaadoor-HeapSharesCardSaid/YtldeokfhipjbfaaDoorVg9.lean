import Derived.Test.YtldeokfhipjbfaaDoorVg8
set_option linter.unusedVariables false
set_option linter.unusedSimpArgs false
namespace Go.Proofs.Vg
open Go Go.RowKit

section
variable {P : Program} {ρ : Option Nat} {N : Nat} {K : Env} {ds : List Deferred} {w : World} {ops : List Oper} {n : Nat} {C : World → Prop} {Q : Exit → Act → World → Prop}

theorem drawOk_parts (h : drawOk ops n = true) : n ≤ ops.length ∧ (∀ j, j < n → headOk ops (masks [] ops) n j = true) ∧ distinctOk ops n = true ∧ (∀ t, n ≤ t → t < ops.length → tailOk ops (masks [] ops) n t = true) := by
  simp only [drawOk, Bool.and_eq_true, decide_eq_true_eq, List.all_eq_true, List.mem_range, Bool.or_eq_true] at h
  exact ⟨h.1.1.1, h.1.1.2, h.1.2, fun t h1 h2 => (h.2 t h2).resolve_left (by omega)⟩
theorem needs_lt (h : drawOk ops n = true) {j : Nat} {o : Oper} (ho : ops[j]? = some o) : ∀ k ∈ needs o, k < j := by
  obtain ⟨_, hh, _, ht⟩ := drawOk_parts h
  have hj : j < ops.length := (List.getElem?_eq_some_iff.1 ho).1
  intro k hk
  rcases Nat.lt_or_ge j n with hjn | hjn
  · have := hh j hjn
    simp only [headOk, ho, Bool.and_eq_true, List.all_eq_true] at this
    simpa using this.1.2 k hk
  · have := ht j hjn hj
    simp only [tailOk, ho, Bool.and_eq_true, List.all_eq_true] at this
    simpa using this.1.2 k hk
theorem sel_ok (h : drawOk ops n = true) {j : Nat} {o : Oper} (ho : ops[j]? = some o) : notSel o.op = true := by
  obtain ⟨_, hh, _, ht⟩ := drawOk_parts h
  have hj : j < ops.length := (List.getElem?_eq_some_iff.1 ho).1
  rcases Nat.lt_or_ge j n with hjn | hjn
  · have := hh j hjn
    simp only [headOk, ho, Bool.and_eq_true] at this
    exact this.1.1
  · have := ht j hjn hj
    simp only [tailOk, ho, Bool.and_eq_true] at this
    exact this.1.1
/-- A later operation and one before it. -/
theorem tail_before (h : drawOk ops n = true) {t i : Nat} {o : Oper} (ht : n ≤ t) (ho : ops[t]? = some o) (hi : i < t) :
    ((masks [] ops).getD t 0).testBit i = true ∨ (i < n ∧ kindAt ops i ≠ 2 ∧ ∃ oi, ops[i]? = some oi ∧ (∀ d, oi.dst = some d → d ∉ looks ops o ∧ o.dst ≠ some d) ∧ (∀ d, o.dst = some d → d ∉ looks ops oi)) := by
  obtain ⟨_, _, _, hh⟩ := drawOk_parts h
  have htl : t < ops.length := (List.getElem?_eq_some_iff.1 ho).1
  have := hh t ht htl
  simp only [tailOk, ho, Bool.and_eq_true, List.all_eq_true, List.mem_range] at this
  have := this.2 i hi
  simp only [Bool.or_eq_true, Bool.and_eq_true, decide_eq_true_eq, bne_iff_ne, ne_eq] at this
  rcases this with h1 | ⟨⟨h1, h2⟩, h3⟩
  · exact .inl h1
  · refine .inr ⟨h1, h2, ?_⟩
    cases hoi : ops[i]? with
    | none => rw [hoi] at h3; cases h3
    | some oi =>
      rw [hoi] at h3
      simp only [Bool.and_eq_true] at h3
      refine ⟨oi, rfl, fun d hd => ?_, fun d hd => ?_⟩
      · have := h3.1
        rw [hd] at this
        simpa using this
      · have := h3.2
        rw [hd] at this
        simpa using this

theorem getD_set {listed : Array Bool} {i k : Nat} (hi : i < listed.size) : (listed.setIfInBounds i true).getD k false = (decide (k = i) || listed.getD k false) := by
  by_cases h : k = i
  · subst h; simp [hi]
  · simp [h, Array.getElem?_setIfInBounds_ne (Ne.symm h)]

/-- What lies in the slots when some heads have come. -/
structure Sl (ops : List Oper) (n : Nat) (a0 : Act) (V : Nat → Value) (S : Nat → Bool) (b : Act) : Prop where
  defers : b.defers = a0.defers
  size : b.tmps.size = a0.tmps.size
  come : ∀ k t, k < n → S k = true → (ops[k]?).bind (·.dst) = some t → t < a0.tmps.size → b.tmps[t]? = some (V k)
  rest : ∀ t, (∀ k, k < n → S k = true → (ops[k]?).bind (·.dst) ≠ some t) → b.tmps[t]? = a0.tmps[t]?

theorem Sl.eq {a0 b b' : Act} {V : Nat → Value} {S : Nat → Bool} (h : Sl ops n a0 V S b) (h' : Sl ops n a0 V S b') : b = b' := by
  have ht : b.tmps = b'.tmps := by
    apply Array.ext_getElem?
    intro t
    by_cases hx : ∃ k, k < n ∧ S k = true ∧ (ops[k]?).bind (·.dst) = some t
    · obtain ⟨k, hk, hs, hd⟩ := hx
      rcases Nat.lt_or_ge t a0.tmps.size with hlt | hge
      · rw [h.come k t hk hs hd hlt, h'.come k t hk hs hd hlt]
      · rw [Array.getElem?_eq_none (by rw [h.size]; exact hge), Array.getElem?_eq_none (by rw [h'.size]; exact hge)]
    · have hr : ∀ k, k < n → S k = true → (ops[k]?).bind (·.dst) ≠ some t := fun k hk hs hd => hx ⟨k, hk, hs, hd⟩
      rw [h.rest t hr, h'.rest t hr]
  cases b; cases b'
  simp only [Act.mk.injEq]
  exact ⟨ht, h.defers.trans h'.defers.symm⟩

theorem Sl.put (hd : distinctOk ops n = true) {a0 b : Act} {V : Nat → Value} {S S' : Nat → Bool} (h : Sl ops n a0 V S b) {i : Nat} {o : Oper} (hi : i < n) (ho : ops[i]? = some o)
    (hS : ∀ k, k < n → (S' k = true ↔ k = i ∨ S k = true)) : Sl ops n a0 V S' (b.put o.dst (V i)) := by
  have hdist : ∀ k t, k < n → k ≠ i → (ops[k]?).bind (·.dst) = some t → o.dst ≠ some t := by
    intro k t hk hki hkd hod
    have := List.all_eq_true.1 (List.all_eq_true.1 hd k (List.mem_range.2 hk)) i (List.mem_range.2 hi)
    simp only [hkd, ho, Option.bind_some, hod, Bool.or_eq_true, beq_iff_eq, bne_iff_ne, ne_eq, not_true_eq_false, or_false] at this
    exact hki this
  refine ⟨?_, ?_, ?_, ?_⟩
  · cases o.dst <;> exact h.defers
  · cases o.dst <;> simp [Act.put, h.size]
  · intro k t hk hs hkd hlt
    by_cases hki : k = i
    · subst hki
      have hod : o.dst = some t := by simpa [ho] using hkd
      simp [Act.put, hod, h.size, hlt]
    · have hs' : S k = true := by
        rcases (hS k hk).1 hs with h | h
        · exact absurd h hki
        · exact h
      have hne := hdist k t hk hki hkd
      have := h.come k t hk hs' hkd hlt
      cases hod : o.dst with
      | none => exact this
      | some d =>
        have : d ≠ t := fun e => hne (by rw [hod, e])
        simp only [Act.put, Array.getElem?_setIfInBounds_ne this]
        assumption
  · intro t hr
    have h1 := h.rest t (fun k hk hs => hr k hk ((hS k hk).2 (.inr hs)))
    have h2 := hr i hi ((hS i hi).2 (.inl rfl))
    cases hod : o.dst with
    | none => exact h1
    | some d =>
      have : d ≠ t := fun e => h2 (by simp [ho, hod, e])
      simp only [Act.put, Array.getElem?_setIfInBounds_ne this]
      exact h1
end
end Go.Proofs.Vg
