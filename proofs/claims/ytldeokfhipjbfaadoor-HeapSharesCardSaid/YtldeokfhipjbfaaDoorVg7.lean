import Derived.Test.YtldeokfhipjbfaaDoorVg6
set_option linter.unusedVariables false
set_option linter.unusedSimpArgs false
namespace Go.Proofs.Vg
open Go Go.RowKit

/-! Regions that draw their order: some operations first, in whatever order; then the others, one behind the other. -/
def needs (o : Oper) : List Nat := o.after.toList.filterMap fun e => if Region.binds .any e then some e.on else none
/-- What must have come before each: bit sets. -/
def maskOf (acc : List Nat) (l : List Nat) : Nat := l.foldr (fun i s => s ||| (2 ^ i ||| acc.getD i 0)) 0
def masks : List Nat → List Oper → List Nat
  | acc, [] => acc
  | acc, o :: r => masks (acc ++ [maskOf acc (needs o)]) r
def looks (ops : List Oper) (o : Oper) : List Nat :=
  (o.op.operands.toList.filterMap fun | .tmp t => some t | _ => none) ++
  (match o.guard with | some (g, _) => (gdst ops g).toList | none => [])
def notSel : Op → Bool | .select .. => false | _ => true
def kindAt (ops : List Oper) (i : Nat) : Nat := match ops[i]? with | some o => kindOf o.op | none => 0
def headOk (ops : List Oper) (B : List Nat) (n j : Nat) : Bool :=
  match ops[j]? with
  | none => false
  | some o => notSel o.op && (needs o).all (· < j) && (List.range n).all fun i => match (ops[i]?).bind (·.dst) with
      | none => true
      | some d => !(looks ops o).contains d || (i != j && ((B.getD j 0).testBit i || (B.getD i 0).testBit j))
def distinctOk (ops : List Oper) (n : Nat) : Bool :=
  (List.range n).all fun i => (List.range n).all fun j => i == j || (match (ops[i]?).bind (·.dst), (ops[j]?).bind (·.dst) with
    | some d, some e => d != e
    | _, _ => true)
/-- A later operation waits for those before it, but perhaps for heads that turn nothing and that it can't tell. -/
def tailOk (ops : List Oper) (B : List Nat) (n t : Nat) : Bool :=
  match ops[t]? with
  | none => false
  | some o => notSel o.op && (needs o).all (· < t) && (List.range t).all fun i => (B.getD t 0).testBit i || (decide (i < n) && kindAt ops i != 2 && (match ops[i]? with
      | none => false
      | some oi => (match oi.dst with | some d => !(looks ops o).contains d && o.dst != some d | none => true) && (match o.dst with | some d => !(looks ops oi).contains d | none => true)))
/-- Does operation t leave some head behind that reads memory? -/
def late (ops : List Oper) (B : List Nat) (n t : Nat) : Bool := (List.range n).any fun i => !(B.getD t 0).testBit i && kindAt ops i == 1
def drawOk (ops : List Oper) (n : Nat) : Bool :=
  decide (n ≤ ops.length) && (List.range n).all (headOk ops (masks [] ops) n) && distinctOk ops n && (List.range ops.length).all fun t => decide (t < n) || tailOk ops (masks [] ops) n t
def lates (ops : List Oper) (n : Nat) : List Bool := (List.range (ops.length - n)).map fun j => late ops (masks [] ops) n (n + j)

/-- The state of a schedule. -/
def Closed (ops : List Oper) (L : Nat → Bool) : Prop := ∀ j o, ops[j]? = some o → L j = true → ∀ i ∈ needs o, L i = true

theorem maskOf_bit (acc : List Nat) : ∀ (l : List Nat) (i : Nat), (maskOf acc l).testBit i = true → ∃ k ∈ l, i = k ∨ (acc.getD k 0).testBit i = true
  | [], i, h => by simp [maskOf] at h
  | k :: l, i, h => by
    simp only [maskOf, List.foldr_cons] at h
    rw [Nat.testBit_or, Nat.testBit_or] at h
    simp only [Bool.or_eq_true] at h
    rcases h with h | h | h
    · obtain ⟨k', hk', h'⟩ := maskOf_bit acc l i h
      exact ⟨k', List.mem_cons_of_mem _ hk', h'⟩
    · rw [Nat.testBit_two_pow] at h
      have hk : k = i := by simpa using h
      exact ⟨k, List.mem_cons_self, .inl hk.symm⟩
    · exact ⟨k, List.mem_cons_self, .inr h⟩

theorem masks_spec (ops : List Oper) {L : Nat → Bool} (hc : Closed ops L) : ∀ (rest : List Oper) (acc : List Nat) (k : Nat), acc.length = k → (∀ j, rest[j]? = ops[k + j]?) →
    (∀ j, j < k → (∀ o, ops[j]? = some o → ∀ i ∈ needs o, L i = true) → ∀ i, (acc.getD j 0).testBit i = true → L i = true) →
    ∀ j, (∀ o, ops[j]? = some o → ∀ i ∈ needs o, L i = true) → ∀ i, ((masks acc rest).getD j 0).testBit i = true → L i = true
  | [], acc, k, hk, hr, hacc, j, hj, i, hb => by
    simp only [masks] at hb
    rcases Nat.lt_or_ge j k with h | h
    · exact hacc j h hj i hb
    · rw [List.getD_eq_getElem?_getD, List.getElem?_eq_none (by omega)] at hb
      simp at hb
  | o :: rest, acc, k, hk, hr, hacc, j, hj, i, hb => by
    simp only [masks] at hb
    refine masks_spec ops hc rest _ (k + 1) (by simp [hk]) (fun j => by have := hr (j + 1); simpa [Nat.add_assoc, Nat.add_comm 1 j] using this) ?_ j hj i hb
    intro j' hj' hn i' hb'
    rcases Nat.lt_or_ge j' k with h | h
    · rw [List.getD_eq_getElem?_getD, List.getElem?_append_left (by omega), ← List.getD_eq_getElem?_getD] at hb'
      exact hacc j' h hn i' hb'
    · have : j' = k := by omega
      subst this
      rw [List.getD_eq_getElem?_getD, List.getElem?_append_right (by omega), hk] at hb'
      simp at hb'
      obtain ⟨q, hq, h'⟩ := maskOf_bit _ _ _ hb'
      have ho : ops[j']? = some o := by simpa using (hr 0).symm
      have hLq := hn o ho q hq
      rcases h' with rfl | h'
      · exact hLq
      · rcases Nat.lt_or_ge q j' with hq' | hq'
        · exact hacc q hq' (fun o' ho' => hc q o' ho' hLq) i' (by simpa using h')
        · rw [List.getD_eq_getElem?_getD, List.getElem?_eq_none (by omega)] at h'
          simp at h'
theorem mask_listed {ops : List Oper} {L : Nat → Bool} (hc : Closed ops L) {j : Nat} (hj : ∀ o, ops[j]? = some o → ∀ i ∈ needs o, L i = true) {i : Nat} (hb : ((masks [] ops).getD j 0).testBit i = true) : L i = true :=
  masks_spec ops hc ops [] 0 rfl (fun j => by simp) (fun j h => absurd h (Nat.not_lt_zero _)) j hj i hb

theorem ready_iff {ops : List Oper} {listed : Array Bool} {i : Nat} (hs : listed.size = ops.length) : i ∈ Region.ready .any ops.toArray listed ↔ ∃ o, ops[i]? = some o ∧ listed.getD i false = false ∧ ∀ k ∈ needs o, listed.getD k false = true := by
  have key : ∀ i, i < ops.length → listed.getD i true = listed.getD i false := fun i hi => by simp [show i < listed.size by omega]
  simp only [Region.ready, List.mem_filter, List.mem_range, Bool.and_eq_true, Bool.not_eq_true', List.size_toArray, List.getElem?_toArray]
  constructor
  · rintro ⟨hi, h1, h2⟩
    have ho : ops[i]? = some ops[i] := List.getElem?_eq_getElem hi
    refine ⟨ops[i], ho, by rw [← key i hi]; exact h1, fun k hk => ?_⟩
    rw [ho] at h2
    simp only [Option.map_some, Option.getD_some] at h2
    simp only [needs, List.mem_filterMap] at hk
    obtain ⟨e, he, hb⟩ := hk
    split at hb
    · rename_i hbb
      cases hb
      have := Array.all_eq_true'.1 h2 e (by simpa using he)
      simp only [hbb, Bool.not_true, Bool.false_or] at this
      exact this
    · cases hb
  · rintro ⟨o, ho, h1, h2⟩
    have hi : i < ops.length := (List.getElem?_eq_some_iff.1 ho).1
    refine ⟨hi, by rw [key i hi]; exact h1, ?_⟩
    rw [ho]
    simp only [Option.map_some, Option.getD_some]
    refine Array.all_eq_true'.2 fun e he => ?_
    cases hb : Region.binds .any e with
    | false => simp
    | true =>
      simp only [Bool.not_true, Bool.false_or]
      exact h2 _ (by simp only [needs, List.mem_filterMap]; exact ⟨e, by simpa using he, by simp [hb]⟩)
end Go.Proofs.Vg
