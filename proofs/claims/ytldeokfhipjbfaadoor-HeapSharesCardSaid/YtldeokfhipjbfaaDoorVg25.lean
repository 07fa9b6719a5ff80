/- Small laws in one: for short texts. -/
import Derived.Test.YtldeokfhipjbfaaDoorVg24
set_option linter.unusedVariables false
namespace Go.Proofs.Vg
open Go Go.RowKit
theorem S0 :
    (∀ {α : Type} (a : α) (l : List α) (d : α), (a :: l).headD d = a) ∧ (∀ {α : Type} (a : α) (l : List α), (a :: l).tail = l) ∧
    (∀ {α : Type} (a : α) (l : List α) (n : Nat), (a :: l).take (n + 1) = a :: l.take n) ∧ (∀ {α : Type} (l : List α), l.take 0 = []) ∧
    (∀ {α : Type} (a : α) (l : List α) (n : Nat), (a :: l).drop (n + 1) = l.drop n) ∧ (∀ {α : Type} (l : List α), l.drop 0 = l) ∧
    (∀ {α : Type} (a : α) (l : List α), (a :: l)[0]? = some a) ∧ (∀ {α : Type} (a : α) (l : List α) (n : Nat), (a :: l)[n + 1]? = l[n]?) ∧
    ((!true) = false) ∧ ((!false) = true) ∧ (∀ p : Prop, (True ∧ p) = p) ∧ (∀ p : Prop, (p ∧ True) = p) ∧ (∀ p : Prop, (False → p) = True) ∧ (∀ p : Prop, (True → p) = p) ∧
    (∀ h : Decidable True, @decide True h = true) ∧ (∀ h : Decidable False, @decide False h = false) ∧
    (∀ {α : Type} (l : List α), l.toArray.toList = l) ∧ (∀ {α : Type} (a : α) (l m : List α), (a :: l) ++ m = a :: (l ++ m)) ∧ (∀ {α : Type} (l : List α), [] ++ l = l) ∧
    (∀ n : Nat, ((n : Int)).toNat = n) ∧ (∀ b o n : Nat, (⟨b, o, none⟩ : Addr).add n = ⟨b, o + n, none⟩) ∧ (∀ n : Nat, n * 1 = n) ∧ (∀ n : Nat, n + 0 = n) :=
  ⟨fun _ _ _ => rfl, fun _ _ => rfl, fun _ _ _ => rfl, fun _ => rfl, fun _ _ _ => rfl, fun _ => rfl, fun _ _ => rfl, fun _ _ _ => rfl, rfl, rfl, fun p => true_and p, fun p => and_true p, fun p => false_implies p, fun p => true_implies p,
    fun _ => decide_true _, fun _ => decide_false _, fun _ => rfl, fun _ _ _ => rfl, fun _ => rfl, fun _ => rfl, add_at, Nat.mul_one, Nat.add_zero⟩
theorem S1 :
    (∀ (P : Program) (t : TypeId) (k k' : IntKind) (a b : Int), binV P t .add (.int k a) (.int k' b) = some (k = k' ∧ inI k (a + b), .int k (a + b))) ∧
    (∀ (P : Program) (t : TypeId) (k k' : IntKind) (a b : Int), binV P t .sub (.int k a) (.int k' b) = some (k = k' ∧ inI k (a - b), .int k (a - b))) ∧
    (∀ (P : Program) (t : TypeId) (k k' : IntKind) (a b : Int), binV P t .mul (.int k a) (.int k' b) = some (k = k' ∧ inI k (a * b), .int k (a * b))) ∧
    (∀ (P : Program) (t : TypeId) (k k' : IntKind) (a b : Int), binV P t .eql (.int k a) (.int k' b) = some (k = k', .bool (decide (a = b)))) ∧
    (∀ (P : Program) (t : TypeId) (k k' : IntKind) (a b : Int), binV P t .neq (.int k a) (.int k' b) = some (k = k', .bool (!decide (a = b)))) ∧
    (∀ (P : Program) (t : TypeId) (k k' : IntKind) (a b : Int), binV P t .lss (.int k a) (.int k' b) = some (k = k', .bool (decide (a < b)))) ∧
    (∀ (P : Program) (t : TypeId) (k k' : IntKind) (a b : Int), binV P t .leq (.int k a) (.int k' b) = some (k = k', .bool (decide (a ≤ b)))) ∧
    (∀ (P : Program) (t : TypeId) (k k' : IntKind) (a b : Int), binV P t .gtr (.int k a) (.int k' b) = some (k = k', .bool (decide (b < a)))) ∧
    (∀ (P : Program) (t : TypeId) (k k' : IntKind) (a b : Int), binV P t .geq (.int k a) (.int k' b) = some (k = k', .bool (decide (b ≤ a)))) ∧
    (∀ (P : Program) (t : TypeId) (s u : ByteArray), binV P t .eql (.string s) (.string u) = some (True, .bool (decide (s = u)))) ∧
    (∀ (P : Program) (t : TypeId) (s u : ByteArray), binV P t .neq (.string s) (.string u) = some (True, .bool (!decide (s = u)))) ∧
    (∀ (P : Program) (t : TypeId) (x y : Bool), binV P t .eql (.bool x) (.bool y) = some (P.underlying t = some .bool, .bool (decide (x = y)))) ∧
    (∀ (P : Program) (t : TypeId) (x y : Bool), binV P t .neq (.bool x) (.bool y) = some (P.underlying t = some .bool, .bool (!decide (x = y)))) :=
  ⟨fun _ _ _ _ _ _ => rfl, fun _ _ _ _ _ _ => rfl, fun _ _ _ _ _ _ => rfl, fun _ _ _ _ _ _ => rfl, fun _ _ _ _ _ _ => rfl, fun _ _ _ _ _ _ => rfl, fun _ _ _ _ _ _ => rfl, fun _ _ _ _ _ _ => rfl, fun _ _ _ _ _ _ => rfl,
    fun _ _ _ _ => rfl, fun _ _ _ _ => rfl, fun _ _ _ _ => rfl, fun _ _ _ _ => rfl⟩
end Go.Proofs.Vg
