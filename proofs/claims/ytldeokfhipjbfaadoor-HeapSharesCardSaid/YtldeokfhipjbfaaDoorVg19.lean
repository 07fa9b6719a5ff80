/- Values as trees: api.Value in memory (Kind, Num, Text, Args: four cells). -/
import Derived.Test.YtldeokfhipjbfaaDoorVg17
set_option linter.unusedVariables false
set_option linter.unusedSimpArgs false
namespace Go.Proofs.Vg
open Go Go.RowKit

inductive Val where
  | mk (kind num : Int) (text : ByteArray) (args : List Val)
mutual
/-- Four cells that read as a value. -/
def VRow (w : World) : List Value → Val → Prop
  | row, .mk k n t args => ∃ v, row = [.int .i64 k, .int .i64 n, .string t, v] ∧ v.oneCell' = true ∧ v.cells = #[v] ∧ ∃ rows, Sli w 4 v rows ∧ VRows w rows args
def VRows (w : World) : List (List Value) → List Val → Prop
  | [], [] => True
  | r :: rs, x :: xs => VRow w r x ∧ VRows w rs xs
  | _, _ => False
end
/-- A slice that reads as values. -/
def VSl (w : World) (v : Value) (xs : List Val) : Prop := v.oneCell' = true ∧ v.cells = #[v] ∧ ∃ rows, Sli w 4 v rows ∧ VRows w rows xs
mutual
theorem VRow.ext {w w' : World} (he : Ext w w') : ∀ (row : List Value) (x : Val), VRow w row x → VRow w' row x
  | row, .mk k n t args, h => by
    simp only [VRow] at h ⊢
    obtain ⟨v, h1, h2, h3, rows, h4, h5⟩ := h
    exact ⟨v, h1, h2, h3, rows, h4.ext he, VRows.ext he rows args h5⟩
theorem VRows.ext {w w' : World} (he : Ext w w') : ∀ (rows : List (List Value)) (xs : List Val), VRows w rows xs → VRows w' rows xs
  | [], [], _ => by simp only [VRows]
  | r :: rs, x :: xs, h => by
    simp only [VRows] at h ⊢
    exact ⟨VRow.ext he r x h.1, VRows.ext he rs xs h.2⟩
  | [], _ :: _, h => by simp [VRows] at h
  | _ :: _, [], h => by simp [VRows] at h
end
theorem VSl.ext {w w' : World} {v : Value} {xs : List Val} (h : VSl w v xs) (he : Ext w w') : VSl w' v xs := by
  obtain ⟨h1, h2, rows, h3, h4⟩ := h
  exact ⟨h1, h2, rows, h3.ext he, VRows.ext he _ _ h4⟩
theorem VRows.length {w : World} : ∀ {rows : List (List Value)} {xs : List Val}, VRows w rows xs → rows.length = xs.length
  | [], [], _ => rfl
  | r :: rs, x :: xs, h => by simp only [VRows] at h; simp [VRows.length h.2]
  | [], _ :: _, h => by simp [VRows] at h
  | _ :: _, [], h => by simp [VRows] at h
theorem VRows.get {w : World} : ∀ {rows : List (List Value)} {xs : List Val}, VRows w rows xs → ∀ (i : Nat) (x : Val), xs[i]? = some x → ∃ r, rows[i]? = some r ∧ VRow w r x
  | [], [], _, i, x, hx => by simp at hx
  | r :: rs, y :: xs, h, i, x, hx => by
    simp only [VRows] at h
    cases i with
    | zero => simp at hx; subst hx; exact ⟨r, rfl, h.1⟩
    | succ i => exact VRows.get h.2 i x (by simpa using hx)
  | [], _ :: _, h, _, _, _ => by simp [VRows] at h
  | _ :: _, [], h, _, _, _ => by simp [VRows] at h
end Go.Proofs.Vg
