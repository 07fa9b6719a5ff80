/- Plain: trees of kids; what 'formed' means. No program. -/
import Derived.Test.YtafjfcameabbmaaVg15
set_option linter.unusedVariables false
set_option linter.unusedSimpArgs false
namespace Go.Proofs.Ytafjfcameabbmaa
open Go Go.Proofs.Vg Go.RowKit
namespace Dbg
def kidsOf (ks : List (List Int)) (i : Nat) : List Int := ks.getD i []
def edgeB (n i : Nat) (k : Int) : Bool := decide ((i : Int) < k) && decide (k < (n : Int))
def edgesB (ks : List (List Int)) : Bool := (List.range ks.length).all fun i => (kidsOf ks i).all (edgeB ks.length i)
def onesB (ks : List (List Int)) : Bool := (List.range ks.length).all fun v => v == 0 || ks.flatten.count (v : Int) == 1
def formedB (ks : List (List Int)) : Bool := decide (0 < ks.length) && edgesB ks && onesB ks
/-- The parents' counters. -/
def counts (n : Nat) (T : List Int) : List Int := (List.range n).map fun (v : Nat) => ((T.count (v : Int) : Nat) : Int)
@[simp] theorem counts_length (n : Nat) (T : List Int) : (counts n T).length = n := by simp [counts]
theorem counts_get (n : Nat) (T : List Int) (v : Nat) (h : v < n) : (counts n T)[v]? = some ((T.count (v : Int) : Nat) : Int) := by simp [counts, h]
theorem counts_snoc (n : Nat) (T : List Int) (k : Int) (h0 : 0 ≤ k) (h1 : k < n) : counts n (T ++ [k]) = (counts n T).set k.toNat (((T.count k : Nat) : Int) + 1) := by
  apply List.ext_getElem?
  intro v
  rcases Nat.lt_or_ge v n with hv | hv
  · rw [counts_get n _ v hv, List.getElem?_set]
    by_cases e : k.toNat = v
    · subst e
      have : ((k.toNat : Nat) : Int) = k := by omega
      simp [hv, this]
    · have : (k == (v : Int)) = false := by simp; omega
      rw [if_neg e, counts_get n _ v hv, List.count_append]
      have h3 : List.count (v : Int) [k] = 0 := by
        rw [List.count_eq_zero]; simp; omega
      rw [h3, Nat.add_zero]
  · rw [List.getElem?_eq_none (by simp; omega), List.getElem?_eq_none (by simp; omega)]
theorem counts_nil (n : Nat) : counts n [] = List.replicate n 0 := by
  apply List.ext_getElem?
  intro v
  rcases Nat.lt_or_ge v n with hv | hv
  · rw [counts_get n _ v hv]; simp [hv]
  · rw [List.getElem?_eq_none (by simp; omega), List.getElem?_eq_none (by simp; omega)]
/-- What came before node i, and before its j-th kid. -/
def upto (ks : List (List Int)) (i j : Nat) : List Int := (ks.take i).flatten ++ (kidsOf ks i).take j
theorem upto_zero (ks : List (List Int)) : upto ks 0 0 = [] := by simp [upto]
theorem upto_kid (ks : List (List Int)) (i j : Nat) (h : j < (kidsOf ks i).length) : upto ks i (j + 1) = upto ks i j ++ [(kidsOf ks i)[j]] := by
  unfold upto
  rw [List.take_succ_eq_append_getElem h, List.append_assoc]
theorem upto_node (ks : List (List Int)) (i : Nat) (h : i < ks.length) : upto ks i (kidsOf ks i).length = upto ks (i + 1) 0 := by
  unfold upto
  rw [List.take_length, List.take_succ_eq_append_getElem h, List.flatten_append]
  simp [kidsOf, h]
theorem upto_end (ks : List (List Int)) : upto ks ks.length 0 = ks.flatten := by simp [upto]
theorem kidsOf_get (ks : List (List Int)) (i : Nat) (h : i < ks.length) : kidsOf ks i = ks[i] := by simp [kidsOf, h]
theorem upto_length (ks : List (List Int)) (i j : Nat) (h : i < ks.length) : (upto ks i j).length ≤ ks.flatten.length := by
  have h1 : (upto ks i j).length ≤ (upto ks (i + 1) 0).length := by
    rw [← upto_node ks i h]
    unfold upto
    simp
    omega
  have h2 : ((ks.take (i + 1)).flatten).length ≤ ks.flatten.length := by
    conv => rhs; rw [← List.take_append_drop (i + 1) ks]
    rw [List.flatten_append]; simp
  unfold upto at h1 ⊢
  simp at h1 h2 ⊢
  omega
theorem onesB_iff (ks : List (List Int)) : ((counts ks.length ks.flatten).drop 1).any (fun x => !decide (x = 1)) = !onesB ks := by
  rw [Bool.eq_iff_iff]
  simp only [List.any_eq_true, Bool.not_eq_true', decide_eq_false_iff_not, onesB, List.all_eq_false, Bool.or_eq_true, beq_iff_eq, not_or, List.mem_range]
  constructor
  · rintro ⟨x, hx, hne⟩
    obtain ⟨j, hj⟩ := List.mem_iff_getElem?.1 hx
    rw [List.getElem?_drop] at hj
    have hlt : 1 + j < ks.length := by
      have := (List.getElem?_eq_some_iff.1 hj).1; simpa using this
    rw [counts_get _ _ _ hlt] at hj
    cases hj
    exact ⟨1 + j, hlt, by omega, by omega⟩
  · rintro ⟨v, hv, h0, h1⟩
    refine ⟨((ks.flatten.count (v : Int) : Nat) : Int), ?_, by omega⟩
    refine List.mem_iff_getElem?.2 ⟨v - 1, ?_⟩
    rw [List.getElem?_drop, show 1 + (v - 1) = v by omega, counts_get _ _ _ hv]
end Dbg

/-- A slice of nodes whose kids are these. -/
def NodesG (w : World) (v : Value) (ks : List (List Int)) : Prop :=
  ∃ rows, Sli w 5 v rows ∧ rows.length = ks.length ∧ ∀ i, (h : i < ks.length) → ∃ (c p : Int) (vi vo vk : Value), rows[i]? = some [.int .i64 c, .int .i64 p, vi, vo, vk] ∧ vi.oneCell' = true ∧ vo.oneCell' = true ∧ vi.cells = #[vi] ∧ vo.cells = #[vo] ∧ SlI w vk ks[i]
theorem NodesG.ext {w w' : World} {v : Value} {ks : List (List Int)} (h : NodesG w v ks) (he : Ext w w') : NodesG w' v ks := by
  obtain ⟨rows, hs, hl, hr⟩ := h
  refine ⟨rows, hs.ext he, hl, fun i hi => ?_⟩
  obtain ⟨c, p, vi, vo, vk, h1, h2, h3, h4, h5, h6⟩ := hr i hi
  exact ⟨c, p, vi, vo, vk, h1, h2, h3, h4, h5, h6.ext he⟩
theorem NodesG.at_ {w : World} {v : Value} {ks : List (List Int)} (h : NodesG w v ks) : ∃ A cp, v = .slice A ks.length cp ∧ ks.length ≤ 140737488355328 ∧
    ∀ i, (h : i < ks.length) → ∃ (b o : Nat) (c p : Int) (vi vo vk : Value), A = some ⟨b, o, none⟩ ∧ cellsAt w ⟨b, o + i * 5, none⟩ [.int .i64 c, .int .i64 p, vi, vo, vk] ∧ vi.oneCell' = true ∧ vo.oneCell' = true ∧ vi.cells = #[vi] ∧ vo.cells = #[vo] ∧ SlI w vk ks[i] := by
  obtain ⟨rows, ⟨A, cp, hv, hl, hc⟩, hn, hr⟩ := h
  refine ⟨A, cp, by rw [← hn]; exact hv, by rw [← hn]; exact hl, fun i hi => ?_⟩
  obtain ⟨c, p, vi, vo, vk, h1, h2, h3, h4, h5, h6⟩ := hr i hi
  obtain ⟨b, o, hA, hcc⟩ := hc i _ h1
  exact ⟨b, o, c, p, vi, vo, vk, hA, hcc, h2, h3, h4, h5, h6⟩
end Go.Proofs.Ytafjfcameabbmaa
