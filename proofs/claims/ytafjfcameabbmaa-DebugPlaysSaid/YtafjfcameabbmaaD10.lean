/- Plain: the game of questions. -/
import Derived.Test.YtafjfcameabbmaaD9
set_option linter.unusedVariables false
set_option linter.unusedSimpArgs false
namespace Go.Proofs.Ytafjfcameabbmaa
open Go Go.Proofs.Vg Go.RowKit Dbg
namespace Dbg
theorem desc_out {ks : List (List Int)} {i : Nat} (h : ks.length ≤ i) : desc ks i = [] := by
  unfold desc; rw [show ks.length - i = 0 by omega]; rfl
/-- How often a number is a kid of the nodes of a list. -/
def kidn (ks : List (List Int)) (l : List Nat) (v : Nat) : Nat := (l.map fun u => (kidsOf ks u).count (v : Int)).sum
theorem kidn_append (ks : List (List Int)) (l l' : List Nat) (v : Nat) : kidn ks (l ++ l') v = kidn ks l v + kidn ks l' v := by simp [kidn]
theorem desc_count {ks : List (List Int)} (he : edgesB ks = true) (v : Nat) : ∀ (f i : Nat), ks.length - i ≤ f → i < ks.length → (desc ks i).count v = (if v = i then 1 else 0) + kidn ks (desc ks i) v
  | 0, i, hf, hi => by omega
  | f + 1, i, hf, hi => by
    have key : ∀ (l : List Int), (∀ k ∈ l, (i : Int) < k ∧ k < (ks.length : Int)) → (l.flatMap fun k => desc ks k.toNat).count v = l.count (v : Int) + kidn ks (l.flatMap fun k => desc ks k.toNat) v := by
      intro l hl
      induction l with
      | nil => simp [kidn]
      | cons k l ih =>
        have hk := hl k List.mem_cons_self
        rw [List.flatMap_cons, List.count_append, kidn_append, ih (fun k hk => hl k (List.mem_cons_of_mem _ hk)), desc_count he v f k.toNat (by omega) (by omega), List.count_cons]
        have : (k == (v : Int)) = decide (v = k.toNat) := by
          rw [Bool.eq_iff_iff]; simp; omega
        rw [this]
        by_cases h : v = k.toNat <;> simp [h] <;> omega
    rw [desc_eq he hi]
    rw [List.count_cons, key _ (fun k hk => kids_edge he hi hk)]
    have h1 : kidn ks (i :: (kidsOf ks i).flatMap fun k => desc ks k.toNat) v = (kidsOf ks i).count (v : Int) + kidn ks ((kidsOf ks i).flatMap fun k => desc ks k.toNat) v := by simp [kidn]
    rw [h1]
    by_cases h : v = i
    · subst h; simp; omega
    · have : (i == v) = false := by simp; omega
      simp [h, this]
/-- In a formed tree a node is a kid of one node at most. -/
theorem kid_one {ks : List (List Int)} (ho : onesB ks = true) {v : Nat} (hv : v < ks.length) (h0 : 0 < v) : ks.flatten.count (v : Int) = 1 := by
  simp only [onesB, List.all_eq_true, List.mem_range, Bool.or_eq_true, beq_iff_eq] at ho
  rcases ho v hv with h | h
  · omega
  · exact h
theorem count_flatten (ks : List (List Int)) (v : Int) : ks.flatten.count v = ((List.range ks.length).map fun u => (kidsOf ks u).count v).sum := by
  induction ks with
  | nil => simp
  | cons k ks ih =>
    rw [List.flatten_cons, List.count_append, ih, List.length_cons, List.range_succ_eq_map, List.map_cons, List.sum_cons, List.map_map]
    rfl
/-- A sum of numbers over a range, of which one is 1: the others are 0. -/
theorem sum_one (f : Nat → Nat) (n : Nat) (h : ((List.range n).map f).sum = 1) : ∃ p, p < n ∧ f p = 1 ∧ ∀ u, u < n → u ≠ p → f u = 0 := by
  induction n with
  | zero => simp at h
  | succ n ih =>
    rw [List.range_succ, List.map_append, List.sum_append] at h
    simp at h
    by_cases h0 : f n = 0
    · obtain ⟨p, hp, h1, h2⟩ := ih (by omega)
      refine ⟨p, by omega, h1, fun u hu hup => ?_⟩
      by_cases hun : u = n
      · rw [hun, h0]
      · exact h2 u (by omega) hup
    · have h00 : ((List.range n).map f).sum = 0 := by omega
      refine ⟨n, by omega, by omega, fun u hu hup => ?_⟩
      have hm : f u ∈ (List.range n).map f := List.mem_map.2 ⟨u, List.mem_range.2 (by omega), rfl⟩
      have := List.sum_eq_zero_iff_forall_eq_nat.1 h00 _ hm
      exact this
theorem parent {ks : List (List Int)} (he : edgesB ks = true) (ho : onesB ks = true) {v : Nat} (hv : v < ks.length) (h0 : 0 < v) :
    ∃ p, p < v ∧ (v : Int) ∈ kidsOf ks p ∧ ∀ l : List Nat, (∀ u ∈ l, u < ks.length) → kidn ks l v = l.count p := by
  have h1 := kid_one ho hv h0
  rw [count_flatten] at h1
  obtain ⟨p, hp, hp1, hp0⟩ := sum_one _ _ h1
  have hmem : (v : Int) ∈ kidsOf ks p := List.count_pos_iff.1 (by omega)
  have := kids_edge he hp hmem
  refine ⟨p, by omega, hmem, fun l hl => ?_⟩
  induction l with
  | nil => simp [kidn]
  | cons u l ih =>
    have ih := ih (fun u hu => hl u (List.mem_cons_of_mem _ hu))
    have hu := hl u List.mem_cons_self
    unfold kidn at ih ⊢
    rw [List.map_cons, List.sum_cons, ih, List.count_cons]
    by_cases hup : u = p
    · subst hup; simp; omega
    · have : (u == p) = false := by simpa using hup
      simp only [this]
      have := hp0 u hu hup
      rw [this]; simp
theorem desc_once {ks : List (List Int)} (he : edgesB ks = true) (ho : onesB ks = true) {i : Nat} (hi : i < ks.length) : ∀ v, v < ks.length → (desc ks i).count v ≤ 1 := by
  intro v
  induction v using Nat.strongRecOn with
  | _ v ih =>
    intro hv
    have hall : ∀ u ∈ desc ks i, u < ks.length := fun u hu => (desc_lt he _ i (Nat.le_refl _) hi u hu).2
    have hlow : ∀ u ∈ desc ks i, i ≤ u := fun u hu => (desc_lt he _ i (Nat.le_refl _) hi u hu).1
    rw [desc_count he v _ i (Nat.le_refl _) hi]
    by_cases h0 : v = 0
    · subst h0
      have : kidn ks (desc ks i) 0 = 0 := by
        unfold kidn
        have hz : ∀ u ∈ desc ks i, (kidsOf ks u).count ((0 : Nat) : Int) = 0 := fun u hu => by
          rw [List.count_eq_zero]
          intro hm
          have := kids_edge he (hall u hu) hm
          omega
        generalize desc ks i = l at hz
        induction l with
        | nil => rfl
        | cons u l ih2 => rw [List.map_cons, List.sum_cons, hz u List.mem_cons_self, ih2 (fun u hu => hz u (List.mem_cons_of_mem _ hu))]
      rw [this]; split <;> omega
    · obtain ⟨p, hpv, _, hk⟩ := parent he ho hv (by omega)
      rw [hk _ hall]
      by_cases hvi : v = i
      · have : (desc ks i).count p = 0 := by
          rw [List.count_eq_zero]
          intro hm
          have := hlow p hm
          omega
        rw [this]; split <;> omega
      · rw [if_neg hvi]
        have := ih p hpv (by omega)
        omega
theorem desc_nodup {ks : List (List Int)} (he : edgesB ks = true) (ho : onesB ks = true) (i : Nat) : (desc ks i).Nodup := by
  rcases Nat.lt_or_ge i ks.length with hi | hi
  · rw [List.nodup_iff_count]
    intro v
    by_cases hm : v ∈ desc ks i
    · exact desc_once he ho hi v (desc_lt he _ i (Nat.le_refl _) hi v hm).2
    · rw [List.count_eq_zero.2 hm]; omega
  · rw [desc_out hi]; exact List.nodup_nil
theorem nodup_le {l : List Nat} {n : Nat} (h : l.Nodup) (hl : ∀ v ∈ l, v < n) : l.length ≤ n := by
  have h1 : l ⊆ List.range n := fun v hv => List.mem_range.2 (hl v hv)
  have := List.Nodup.length_le_of_subset h h1
  simpa using this
theorem desc_mem {ks : List (List Int)} (he : edgesB ks = true) {i : Nat} (hi : i < ks.length) {v : Nat} : v ∈ desc ks i ↔ v = i ∨ ∃ u ∈ desc ks i, (v : Int) ∈ kidsOf ks u := by
  have h1 := desc_count he v _ i (Nat.le_refl _) hi
  constructor
  · intro h
    by_cases hv : v = i
    · exact .inl hv
    · refine .inr ?_
      have hp : 0 < (desc ks i).count v := List.count_pos_iff.2 h
      rw [h1, if_neg hv, Nat.zero_add] at hp
      unfold kidn at hp
      generalize desc ks i = l at hp
      induction l with
      | nil => simp at hp
      | cons u l ih =>
        rw [List.map_cons, List.sum_cons] at hp
        by_cases hc : 0 < (kidsOf ks u).count (v : Int)
        · exact ⟨u, List.mem_cons_self, List.count_pos_iff.1 hc⟩
        · obtain ⟨u', hu', hk⟩ := ih (by omega)
          exact ⟨u', List.mem_cons_of_mem _ hu', hk⟩
  · rintro (rfl | ⟨u, hu, hk⟩)
    · rw [desc_eq he hi]; exact List.mem_cons_self
    · refine List.count_pos_iff.1 ?_
      rw [h1]
      have : 0 < kidn ks (desc ks i) v := by
        unfold kidn
        have hpos : 0 < (kidsOf ks u).count (v : Int) := List.count_pos_iff.2 hk
        generalize desc ks i = l at hu
        induction l with
        | nil => cases hu
        | cons u' l ih =>
          rw [List.map_cons, List.sum_cons]
          rcases List.mem_cons.1 hu with rfl | h
          · omega
          · have := ih h; omega
      omega
theorem desc_self {ks : List (List Int)} (he : edgesB ks = true) {i : Nat} (hi : i < ks.length) : i ∈ desc ks i := (desc_mem he hi).2 (.inl rfl)
theorem desc_lt' {ks : List (List Int)} (he : edgesB ks = true) {i v : Nat} (hi : i < ks.length) (hv : v ∈ desc ks i) : i ≤ v ∧ v < ks.length := desc_lt he _ i (Nat.le_refl _) hi v hv
theorem desc_trans {ks : List (List Int)} (he : edgesB ks = true) {i j : Nat} (hi : i < ks.length) (hj : j ∈ desc ks i) : ∀ v, v ∈ desc ks j → v ∈ desc ks i := by
  have hjl := (desc_lt' he hi hj).2
  intro v
  induction v using Nat.strongRecOn with
  | _ v ih =>
    intro hv
    rcases (desc_mem he hjl).1 hv with rfl | ⟨u, hu, hk⟩
    · exact hj
    · have hul := (desc_lt' he hjl hu).2
      have := kids_edge he hul hk
      exact (desc_mem he hi).2 (.inr ⟨u, ih u (by omega) hu, hk⟩)
theorem desc_all {ks : List (List Int)} (he : edgesB ks = true) (ho : onesB ks = true) : ∀ v, v < ks.length → v ∈ desc ks 0 := by
  intro v
  induction v using Nat.strongRecOn with
  | _ v ih =>
    intro hv
    by_cases h0 : v = 0
    · subst h0; exact desc_self he hv
    · obtain ⟨p, hp, hk, _⟩ := parent he ho hv (by omega)
      exact (desc_mem he (by omega)).2 (.inr ⟨p, ih p hp (by omega), hk⟩)

/-- The weight of a node. -/
def wtN (ks : List (List Int)) (sus : List Bool) (i : Nat) : Nat := (desc ks i).countP fun v => sus.getD v false
def wtZ (ks : List (List Int)) (sus : List Bool) (i : Nat) : Int := (wtN ks sus i : Nat)
theorem wt_rec {ks : List (List Int)} (he : edgesB ks = true) (sus : List Bool) {i : Nat} (hi : i < ks.length) : wtZ ks sus i = (if sus.getD i false then 1 else 0) + ((kidsOf ks i).map fun k => wtZ ks sus k.toNat).sum := by
  have hl : ∀ l : List Int, (((l.flatMap fun k => desc ks k.toNat).countP fun v => sus.getD v false : Nat) : Int) = (l.map fun k => wtZ ks sus k.toNat).sum := by
    intro l
    induction l with
    | nil => rfl
    | cons k l ih => rw [List.flatMap_cons, List.countP_append, List.map_cons, List.sum_cons, ← ih]; simp [wtZ, wtN]
  unfold wtZ
  rw [wtN, desc_eq he hi, List.countP_cons]
  have := hl (kidsOf ks i)
  unfold wtZ at this
  rw [← this]
  split <;> simp <;> omega
theorem wt_le {ks : List (List Int)} (he : edgesB ks = true) (ho : onesB ks = true) (sus : List Bool) (i : Nat) : 0 ≤ wtZ ks sus i ∧ wtZ ks sus i ≤ (ks.length : Int) := by
  have h1 : wtN ks sus i ≤ (desc ks i).length := List.countP_le_length
  have h2 : (desc ks i).length ≤ ks.length := by
    rcases Nat.lt_or_ge i ks.length with hi | hi
    · exact nodup_le (desc_nodup he ho i) (fun v hv => (desc_lt' he hi hv).2)
    · rw [desc_out hi]; simp
  unfold wtZ
  omega
end Dbg
end Go.Proofs.Ytafjfcameabbmaa
