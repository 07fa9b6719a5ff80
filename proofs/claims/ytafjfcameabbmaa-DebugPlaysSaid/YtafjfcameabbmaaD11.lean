/- Plain: the states of the game. -/
import Derived.Test.YtafjfcameabbmaaD10
set_option linter.unusedVariables false
set_option linter.unusedSimpArgs false
namespace Go.Proofs.Ytafjfcameabbmaa
open Go Go.Proofs.Vg Go.RowKit Dbg
namespace Dbg
structure Good (ks : List (List Int)) (sus : List Bool) (root : Nat) : Prop where
  len : sus.length = ks.length
  lt : root < ks.length
  at_ : sus.getD root false = true
  sub : ∀ v, sus.getD v false = true → v ∈ desc ks root
theorem Good.first {ks : List (List Int)} (he : edgesB ks = true) (ho : onesB ks = true) (h : 0 < ks.length) : Good ks (List.replicate ks.length true) 0 :=
  ⟨by simp, h, by simp [List.getD_eq_getElem?_getD, List.getElem?_replicate, h], fun v hv => by
    refine desc_all he ho v ?_
    rcases Nat.lt_or_ge v ks.length with h | h
    · exact h
    · simp [List.getD_eq_getElem?_getD, List.getElem?_replicate, Nat.not_lt.2 h] at hv⟩
def quest (ks : List (List Int)) (sus : List Bool) (root : Nat) : Int := (qfold sus root (wtZ ks sus) ((sus.count true : Nat) : Int) ks.length).1
/-- What is picked was there to be picked. -/
theorem qfold_spec (sus : List Bool) (root : Nat) (wt : Nat → Int) (all : Int) : ∀ n, (qfold sus root wt all n).1 = -1 ∧ (∀ i, i < n → sus.getD i false = true → i = root) ∨ ∃ i : Nat, (qfold sus root wt all n).1 = (i : Int) ∧ i < n ∧ sus.getD i false = true ∧ i ≠ root
  | 0 => .inl ⟨rfl, fun i h => absurd h (Nat.not_lt_zero _)⟩
  | n + 1 => by
    rw [qfold_succ]
    have ih := qfold_spec sus root wt all n
    generalize qfold sus root wt all n = p at *
    unfold qstep
    by_cases hs : sus.getD n false = false ∨ n = root
    · rw [if_pos hs]
      rcases ih with ⟨h1, h2⟩ | ⟨i, h1, h2, h3, h4⟩
      · refine .inl ⟨h1, fun i hi hsi => ?_⟩
        by_cases hin : i = n
        · subst hin
          rcases hs with hs | hs
          · rw [hs] at hsi; cases hsi
          · exact hs
        · exact h2 i (by omega) hsi
      · exact .inr ⟨i, h1, by omega, h3, h4⟩
    · rw [if_neg hs]
      have hn1 : sus.getD n false = true := by
        cases h : sus.getD n false with
        | true => rfl
        | false => exact absurd (.inl h) hs
      have hn2 : n ≠ root := fun h => hs (.inr h)
      by_cases hc : p.1 < 0 ∨ far (wt n) all < p.2
      · rw [if_pos hc]
        exact .inr ⟨n, rfl, by omega, hn1, hn2⟩
      · rw [if_neg hc]
        rcases ih with ⟨h1, h2⟩ | ⟨i, h1, h2, h3, h4⟩
        · rw [h1] at hc; exact absurd (.inl (by decide)) hc
        · exact .inr ⟨i, h1, by omega, h3, h4⟩
theorem quest_spec (ks : List (List Int)) (sus : List Bool) (root : Nat) : quest ks sus root = -1 ∧ (∀ i, i < ks.length → sus.getD i false = true → i = root) ∨ ∃ i : Nat, quest ks sus root = (i : Int) ∧ i < ks.length ∧ sus.getD i false = true ∧ i ≠ root := qfold_spec _ _ _ _ _
theorem getD_out {sus : List Bool} {v : Nat} (h : sus.length ≤ v) : sus.getD v false = false := by
  rw [List.getD_eq_getElem?_getD, List.getElem?_eq_none h]; rfl
theorem newSus_getD' (ks : List (List Int)) (sus : List Bool) (qi : Nat) (wrong : Bool) (v : Nat) : (newSus ks sus qi wrong).getD v false = newAt ks sus qi wrong v := by
  rcases Nat.lt_or_ge v sus.length with h | h
  · exact newSus_getD _ _ _ _ _ h
  · rw [getD_out (by simpa using h)]
    unfold newAt
    rw [getD_out h]; rfl
/-- A question's answer. -/
theorem Good.step {ks : List (List Int)} (he : edgesB ks = true) {sus : List Bool} {root qi : Nat} (h : Good ks sus root) (hq : sus.getD qi false = true) (hqr : qi ≠ root) (wrong : Bool) : Good ks (newSus ks sus qi wrong) (if wrong = true then qi else root) := by
  have hqd := h.sub qi hq
  have hql := desc_lt' he h.lt hqd
  have hrq : root ∉ desc ks qi := fun hm => by have := desc_lt' he hql.2 hm; omega
  cases wrong with
  | true =>
    refine ⟨by simpa using h.len, by simpa using hql.2, ?_, fun v hv => ?_⟩
    · simp only [if_true]; rw [newSus_getD']; unfold newAt; rw [hq]; simp [desc_self he hql.2]
    · rw [newSus_getD'] at hv; unfold newAt at hv
      simp only [Bool.and_eq_true] at hv
      simpa using hv.2
  | false =>
    refine ⟨by simpa using h.len, by simpa using h.lt, ?_, fun v hv => ?_⟩
    · simp only [Bool.false_eq_true, if_false]; rw [newSus_getD']; unfold newAt; rw [h.at_]; simp [hrq]
    · rw [newSus_getD'] at hv; unfold newAt at hv
      simp only [Bool.and_eq_true] at hv
      simpa using h.sub v hv.1
/-- Fewer suspects. -/
theorem count_getD (l : List Bool) : l.count true = (List.range l.length).countP fun v => l.getD v false := by
  induction l with
  | nil => rfl
  | cons b l ih =>
    rw [List.count_cons, ih, List.length_cons, List.range_succ_eq_map, List.countP_cons, List.countP_map]
    have : (List.range l.length).countP ((fun v => (b :: l).getD v false) ∘ Nat.succ) = (List.range l.length).countP fun v => l.getD v false := by
      congr 1
    rw [this]
    cases b <;> simp
theorem countP_lt {p q : Nat → Bool} {l : List Nat} (h : ∀ v, p v = true → q v = true) {x : Nat} (hx : x ∈ l) (hp : p x = false) (hq : q x = true) : l.countP p < l.countP q := by
  induction l with
  | nil => cases hx
  | cons y l ih =>
    rw [List.countP_cons, List.countP_cons]
    rcases List.mem_cons.1 hx with rfl | hx
    · have : l.countP p ≤ l.countP q := List.countP_mono_left (fun v _ => h v)
      simp [hp, hq]; omega
    · have := ih hx
      by_cases hy : p y = true
      · simp [hy, h y hy]; omega
      · have : p y = false := by simpa using hy
        simp [this]; split <;> omega
theorem Good.fewer {ks : List (List Int)} (he : edgesB ks = true) {sus : List Bool} {root qi : Nat} (h : Good ks sus root) (hq : sus.getD qi false = true) (hqr : qi ≠ root) (wrong : Bool) : (newSus ks sus qi wrong).count true < sus.count true := by
  have hqd := h.sub qi hq
  have hql := desc_lt' he h.lt hqd
  have hrq : root ∉ desc ks qi := fun hm => by have := desc_lt' he hql.2 hm; omega
  rw [count_getD, count_getD, newSus_length]
  have hp : ∀ v, (newSus ks sus qi wrong).getD v false = true → sus.getD v false = true := fun v hv => by
    rw [newSus_getD'] at hv; unfold newAt at hv
    simp only [Bool.and_eq_true] at hv
    exact hv.1
  cases wrong with
  | true =>
    refine countP_lt hp (List.mem_range.2 (by rw [h.len]; exact h.lt) : root ∈ _) ?_ h.at_
    rw [newSus_getD']; unfold newAt; simp [hrq]
  | false =>
    refine countP_lt hp (List.mem_range.2 (by rw [h.len]; exact hql.2) : qi ∈ _) ?_ hq
    rw [newSus_getD']; unfold newAt; simp [desc_self he hql.2]
/-- The number of suspects is the root's weight. -/
theorem Good.all {ks : List (List Int)} (he : edgesB ks = true) (ho : onesB ks = true) {sus : List Bool} {root : Nat} (h : Good ks sus root) : wtN ks sus root = sus.count true := by
  rw [count_getD, wtN]
  have hn := desc_nodup he ho root
  have hl : ∀ v ∈ desc ks root, v < sus.length := fun v hv => by rw [h.len]; exact (desc_lt' he h.lt hv).2
  rw [List.countP_eq_length_filter, List.countP_eq_length_filter]
  refine Nat.le_antisymm ?_ ?_
  · refine List.Nodup.length_le_of_subset (List.Nodup.sublist List.filter_sublist hn) ?_
    intro v hv
    simp only [List.mem_filter] at hv ⊢
    exact ⟨List.mem_range.2 (hl v hv.1), hv.2⟩
  · refine List.Nodup.length_le_of_subset (List.Nodup.sublist List.filter_sublist List.nodup_range) ?_
    intro v hv
    simp only [List.mem_filter] at hv ⊢
    exact ⟨h.sub v hv.2, hv.2⟩

/-! The game: after k questions. -/
structure St where
  sus : List Bool
  root : Nat
  asked : List Int
def St.q (ks : List (List Int)) (s : St) : Int := quest ks s.sus s.root
def St.next (ks : List (List Int)) (ans : Nat → Bool) (s : St) : St :=
  { sus := newSus ks s.sus (s.q ks).toNat (ans (s.q ks).toNat), root := if ans (s.q ks).toNat = true then (s.q ks).toNat else s.root, asked := s.asked ++ [s.q ks] }
def st (ks : List (List Int)) (ans : Nat → Bool) : Nat → St
  | 0 => { sus := List.replicate ks.length true, root := 0, asked := [] }
  | k + 1 => (st ks ans k).next ks ans
/-- k questions are asked. -/
def Asks (ks : List (List Int)) (ans : Nat → Bool) (k : Nat) : Prop := ∀ j, j < k → 0 ≤ (st ks ans j).q ks
def Ends (ks : List (List Int)) (ans : Nat → Bool) (k : Nat) : Prop := Asks ks ans k ∧ (st ks ans k).q ks < 0
theorem Ends.same {ks : List (List Int)} {ans : Nat → Bool} {k l : Nat} (h : Ends ks ans k) (h' : Ends ks ans l) : k = l := by
  rcases Nat.lt_trichotomy k l with hlt | heq | hgt
  · have := h'.1 k hlt; have := h.2; omega
  · exact heq
  · have := h.1 l hgt; have := h'.2; omega
theorem q_pos {ks : List (List Int)} {s : St} (h : 0 ≤ s.q ks) : ∃ i : Nat, s.q ks = (i : Int) ∧ i < ks.length ∧ s.sus.getD i false = true ∧ i ≠ s.root := by
  rcases quest_spec ks s.sus s.root with ⟨h1, _⟩ | h1
  · unfold St.q at h; rw [h1] at h; exact absurd h (by decide)
  · exact h1
theorem st_good {ks : List (List Int)} (he : edgesB ks = true) (ho : onesB ks = true) (h0 : 0 < ks.length) (ans : Nat → Bool) : ∀ k, Asks ks ans k → Good ks (st ks ans k).sus (st ks ans k).root
  | 0, _ => Good.first he ho h0
  | k + 1, h => by
    have ih := st_good he ho h0 ans k (fun j hj => h j (by omega))
    obtain ⟨i, hq, hi, hs, hr⟩ := q_pos (h k (by omega))
    simp only [st, St.next, hq, Int.toNat_natCast]
    exact ih.step he hs hr _
theorem st_fewer {ks : List (List Int)} (he : edgesB ks = true) (ho : onesB ks = true) (h0 : 0 < ks.length) (ans : Nat → Bool) {k : Nat} (h : Asks ks ans (k + 1)) : (st ks ans (k + 1)).sus.count true < (st ks ans k).sus.count true := by
  have ih := st_good he ho h0 ans k (fun j hj => h j (by omega))
  obtain ⟨i, hq, hi, hs, hr⟩ := q_pos (h k (by omega))
  simp only [st, St.next, hq, Int.toNat_natCast]
  exact ih.fewer he hs hr _
theorem asked_length {ks : List (List Int)} (ans : Nat → Bool) : ∀ k, (st ks ans k).asked.length = k
  | 0 => rfl
  | k + 1 => by simp [st, St.next, asked_length ans k]
theorem asks_lt {ks : List (List Int)} (he : edgesB ks = true) (ho : onesB ks = true) (h0 : 0 < ks.length) (ans : Nat → Bool) : ∀ k, Asks ks ans k → k + (st ks ans k).sus.count true ≤ ks.length
  | 0, _ => by simp [st]
  | k + 1, h => by
    have := st_fewer he ho h0 ans h
    have := asks_lt he ho h0 ans k (fun j hj => h j (by omega))
    omega
end Dbg
end Go.Proofs.Ytafjfcameabbmaa
