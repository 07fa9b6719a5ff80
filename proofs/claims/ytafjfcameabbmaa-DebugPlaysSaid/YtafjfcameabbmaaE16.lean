/- Plain: playing Next leads where Blame leads. -/
import Derived.Test.YtafjfcameabbmaaE10
import Derived.Test.YtafjfcameabbmaaD15
set_option linter.unusedVariables false
set_option linter.unusedSimpArgs false
namespace Go.Proofs.Ytafjfcameabbmaa
open Go Go.Proofs.Vg Go.RowKit Dbg
namespace Dbg
theorem asked_get {ks : List (List Int)} (ans : Nat → Bool) : ∀ (k j : Nat), j < k → (st ks ans k).asked[j]? = some ((st ks ans j).q ks)
  | 0, j, h => by omega
  | k + 1, j, h => by
    have hl := asked_length (ks := ks) ans k
    simp only [st, St.next]
    rcases Nat.lt_or_ge j k with hj | hj
    · rw [List.getElem?_append_left (by omega)]
      exact asked_get ans k j hj
    · have : j = k := by omega
      subst this
      rw [List.getElem?_append_right (by omega), hl]
      simp
/-- What has been said to be right, and to be wrong, of the first i questions. -/
def rights (ans : Nat → Bool) (l : List Int) (i : Nat) : List Int := (l.take i).filter fun x => !ans x.toNat
def wrongs (ans : Nat → Bool) (l : List Int) (i : Nat) : List Int := (l.take i).filter fun x => ans x.toNat
theorem rights_succ (ans : Nat → Bool) (l : List Int) (i : Nat) (h : i < l.length) : rights ans l (i + 1) = rights ans l i ++ (if ans l[i].toNat = true then [] else [l[i]]) := by
  unfold rights
  rw [List.take_succ_eq_append_getElem h, List.filter_append]
  congr 1
  cases hx : ans l[i].toNat <;> simp [hx]
theorem wrongs_succ (ans : Nat → Bool) (l : List Int) (i : Nat) (h : i < l.length) : wrongs ans l (i + 1) = wrongs ans l i ++ (if ans l[i].toNat = true then [l[i]] else []) := by
  unfold wrongs
  rw [List.take_succ_eq_append_getElem h, List.filter_append]
  congr 1
  cases hx : ans l[i].toNat <;> simp [hx]
theorem plays {ks : List (List Int)} (hfm : formedB ks = true) {ans : Nat → Bool} (hw : ans 0 = true) {k : Nat} (hk : Dbg.Ends ks ans k) {i : Nat} (hi : i ≤ k) {q e : Int} {d : Bool}
    (h : NextR ks (rights ans (st ks ans k).asked i) (wrongs ans (st ks ans k).asked i) q d e) : e = 0 ∧ (i = k → d = true ∧ q = ((st ks ans k).root : Int)) ∧ (i < k → d = false ∧ (st ks ans k).asked[i]? = some q) := by
  obtain ⟨h0, hed, hon⟩ := formedB_parts hfm
  have ht := tale hed hon h0 hw k hk.1
  have hlen := asked_length (ks := ks) ans k
  have hget := asked_get (ks := ks) ans k
  generalize hl : (st ks ans k).asked = l at *
  have hpos : ∀ x ∈ l, 0 < x ∧ x < (ks.length : Int) := fun x hx => by
    obtain ⟨j, rfl, hjl, _⟩ := ht.gone x (by rw [hl]; exact List.mem_cons_of_mem _ hx)
    have hn := (List.nodup_cons.1 ht.once).1
    rw [hl] at hn
    have : (j : Int) ≠ 0 := fun e => hn (e ▸ hx)
    omega
  have hnd : l.Nodup := by have := (List.nodup_cons.1 ht.once).2; rwa [hl] at this
  have hR : ∀ x, x ∈ rights ans l i ↔ x ∈ l.take i ∧ ans x.toNat = false := fun x => by simp [rights]
  have hW : ∀ x, x ∈ wrongs ans l i ↔ x ∈ l.take i ∧ ans x.toNat = true := fun x => by simp [wrongs]
  have hsub : ∀ x ∈ l.take i, x ∈ l := fun x hx => List.mem_of_mem_take hx
  have h1 : ¬ ∃ x, x ∈ rights ans l i ++ wrongs ans l i ∧ (x < 0 ∨ (ks.length : Int) ≤ x) := by
    rintro ⟨x, hx, ho⟩
    have : x ∈ l := by
      rcases List.mem_append.1 hx with hx | hx
      · exact hsub x ((hR x).1 hx).1
      · exact hsub x ((hW x).1 hx).1
    have := hpos x this
    omega
  have h2 : ¬ ∃ x, x ∈ rights ans l i ∧ (x = 0 ∨ x ∈ wrongs ans l i) := by
    rintro ⟨x, hx, ho⟩
    have hx' := (hR x).1 hx
    rcases ho with rfl | ho
    · have := hpos 0 (hsub 0 hx'.1); omega
    · have := (hW x).1 ho
      rw [hx'.2] at this
      exact absurd this.2 (by decide)
  have hqn : ∀ j, j < k → ∃ v : Nat, (st ks ans j).q ks = (v : Int) := fun j hj => by
    obtain ⟨v, hv, _⟩ := q_pos (hk.1 j hj)
    exact ⟨v, hv⟩
  have hin : ∀ j, j < i → (st ks ans j).q ks ∈ l.take i := fun j hj => by
    refine List.mem_of_getElem? (i := j) ?_
    rw [List.getElem?_take, if_pos hj]
    exact hget j (by omega)
  have hsame : ∀ j, j ≤ i → st ks (ansW (wrongs ans l i)) j = st ks ans j := by
    intro j
    induction j with
    | zero => intro _; rfl
    | succ j ih =>
      intro hj
      have ih := ih (by omega)
      obtain ⟨v, hv⟩ := hqn j (by omega)
      have hmem := hin j (by omega)
      have ha : ansW (wrongs ans l i) v = ans v := by
        rw [hv] at hmem
        unfold ansW
        cases hx : ans v with
        | true => simp [hW, hmem, hx]
        | false => simp [hW, hx]
      simp only [st, ih, St.next, hv, Int.toNat_natCast, ha]
  have hgoes : Goes ks (rights ans l i) (wrongs ans l i) i := fun j hj => by
    rw [hsame j (by omega)]
    refine ⟨hk.1 j (by omega), ?_⟩
    have hmem := hin j hj
    cases hx : ans ((st ks ans j).q ks).toNat with
    | true => exact .inl ((hW _).2 ⟨hmem, hx⟩)
    | false => exact .inr ((hR _).2 ⟨hmem, hx⟩)
  rcases Nat.lt_or_ge i k with hik | hik
  · have hgi := hget i hik
    have hil : i < l.length := by omega
    have hnot : (st ks ans i).q ks ∉ l.take i := fun hm => by
      obtain ⟨j, hj⟩ := List.mem_iff_getElem?.1 hm
      rw [List.getElem?_take] at hj
      split at hj
      · rename_i hji
        rw [List.getElem?_eq_getElem hil] at hgi
        rw [List.getElem?_eq_getElem (by omega)] at hj
        have := List.pairwise_iff_getElem.1 hnd j i (by omega) hil hji
        exact this (by rw [Option.some.inj hj, Option.some.inj hgi])
      · cases hj
    have hexp : NextR ks (rights ans l i) (wrongs ans l i) ((st ks ans i).q ks) false 0 := by
      unfold NextR
      rw [if_pos hfm, if_neg h1, if_neg h2]
      refine ⟨i, hgoes, rfl, .inr ?_⟩
      rw [hsame i (Nat.le_refl _)]
      exact ⟨hk.1 i hik, fun hm => hnot ((hW _).1 hm).1, fun hm => hnot ((hR _).1 hm).1, rfl, rfl⟩
    obtain ⟨rfl, rfl, rfl⟩ := h.same hexp
    exact ⟨rfl, fun e => by omega, fun _ => ⟨rfl, hgi⟩⟩
  · have hik' : i = k := by omega
    subst hik'
    have hexp : NextR ks (rights ans l i) (wrongs ans l i) ((st ks ans i).root : Int) true 0 := by
      unfold NextR
      rw [if_pos hfm, if_neg h1, if_neg h2]
      refine ⟨i, hgoes, rfl, .inl ?_⟩
      rw [hsame i (Nat.le_refl _)]
      exact ⟨hk.2, rfl, rfl⟩
    obtain ⟨rfl, rfl, rfl⟩ := h.same hexp
    exact ⟨rfl, fun _ => ⟨rfl, rfl⟩, fun e => by omega⟩
end Dbg
end Go.Proofs.Ytafjfcameabbmaa
