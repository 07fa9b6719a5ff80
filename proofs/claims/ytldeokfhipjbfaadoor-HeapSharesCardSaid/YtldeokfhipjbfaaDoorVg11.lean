import Derived.Test.YtldeokfhipjbfaaDoorVg10
set_option linter.unusedVariables false
set_option linter.unusedSimpArgs false
namespace Go.Proofs.Vg
open Go Go.RowKit

section
variable {P : Program} {t : TypeId} {k k' : IntKind} {a b : Int} {s u : ByteArray} {x y : Bool}
theorem bvAdd : binV P t .add (.int k a) (.int k' b) = some (k = k' ∧ inI k (a + b), .int k (a + b)) := rfl
theorem bvSub : binV P t .sub (.int k a) (.int k' b) = some (k = k' ∧ inI k (a - b), .int k (a - b)) := rfl
theorem bvMul : binV P t .mul (.int k a) (.int k' b) = some (k = k' ∧ inI k (a * b), .int k (a * b)) := rfl
theorem bvEql : binV P t .eql (.int k a) (.int k' b) = some (k = k', .bool (decide (a = b))) := rfl
theorem bvNeq : binV P t .neq (.int k a) (.int k' b) = some (k = k', .bool (!decide (a = b))) := rfl
theorem bvLss : binV P t .lss (.int k a) (.int k' b) = some (k = k', .bool (decide (a < b))) := rfl
theorem bvLeq : binV P t .leq (.int k a) (.int k' b) = some (k = k', .bool (decide (a ≤ b))) := rfl
theorem bvGtr : binV P t .gtr (.int k a) (.int k' b) = some (k = k', .bool (decide (b < a))) := rfl
theorem bvGeq : binV P t .geq (.int k a) (.int k' b) = some (k = k', .bool (decide (b ≤ a))) := rfl
theorem bvSEql : binV P t .eql (.string s) (.string u) = some (True, .bool (decide (s = u))) := rfl
theorem bvSNeq : binV P t .neq (.string s) (.string u) = some (True, .bool (!decide (s = u))) := rfl
theorem bvBEql : binV P t .eql (.bool x) (.bool y) = some (P.underlying t = some .bool, .bool (decide (x = y))) := rfl
theorem bvBNeq : binV P t .neq (.bool x) (.bool y) = some (P.underlying t = some .bool, .bool (!decide (x = y))) := rfl
end

/-- A test that is decided. -/
theorem ok_if {P : Program} {ρ : Option Nat} {N : Nat} {K : Env} {ds : List Deferred} {w : World} {Φ : Post} {c : Operand} {x y : Code} {p : Prop} [Decidable p] (hc : ev K c = some (.bool (decide p)))
    (ht : p → ok P ρ N x K ds w Φ) (hf : ¬ p → ok P ρ N y K ds w Φ) : ok P ρ N (.cond c x y) K ds w Φ :=
  ok_cond hc (fun h => ht (of_decide_eq_true h)) (fun h => hf (of_decide_eq_false h))
theorem ok_ifn {P : Program} {ρ : Option Nat} {N : Nat} {K : Env} {ds : List Deferred} {w : World} {Φ : Post} {c : Operand} {x y : Code} {p : Prop} [Decidable p] (hc : ev K c = some (.bool (!decide p)))
    (ht : ¬ p → ok P ρ N x K ds w Φ) (hf : p → ok P ρ N y K ds w Φ) : ok P ρ N (.cond c x y) K ds w Φ :=
  ok_cond hc (fun h => ht (by simpa using h)) (fun h => hf (by simpa using h))

/-- A function's contract: it returns. -/
def Rets (P : Program) (f : FuncId) (args : List Value) (w : World) (R : Value → World → Prop) : Prop := Calls P f args.toArray w (callR R fun _ _ => False)

section
variable {P : Program} {w : World} {next : Value → World → Prop} {pan : List PanicEntry → World → Prop} {R : Value → World → Prop}

theorem Rets.mono {f : FuncId} {args : List Value} {R' : Value → World → Prop} (h : Rets P f args w R) (hr : ∀ v w', R v w' → R' v w') : Rets P f args w R' :=
  Calls.mono h fun e w' he => by cases e <;> simp only [callR] at he ⊢ <;> first | exact hr _ _ he | exact he

theorem Inv.call {f : FuncId} {args : List Value} (hen : ∀ (as : Array Value) (w : World), (callFunc f as).run P w = .ok (.enter f as) w) (h : Rets P f args w R) (hn : ∀ v w', R v w' → next v w') :
    Inv P (.func (.func f) #[] #[]) args w (callR next pan) := by
  refine .inl ⟨f, #[], #[], rfl, hen, ?_⟩
  have : (#[] ++ args.toArray ++ #[] : Array Value) = args.toArray := by simp
  rw [this]
  exact Calls.mono h fun e w' he => by cases e <;> simp only [callR] at he ⊢ <;> first | exact hn _ _ he | exact he.elim
/-- A closure: its captured values behind the arguments. -/
theorem Inv.clos {f : FuncId} {args cap : List Value} (hen : ∀ (as : Array Value) (w : World), (callFunc f as).run P w = .ok (.enter f as) w) (h : Rets P f (args ++ cap) w R) (hn : ∀ v w', R v w' → next v w') :
    Inv P (.func (.func f) #[] cap.toArray) args w (callR next pan) := by
  refine .inl ⟨f, #[], cap.toArray, rfl, hen, ?_⟩
  have : (#[] ++ args.toArray ++ cap.toArray : Array Value) = (args ++ cap).toArray := by simp
  rw [this]
  exact Calls.mono h fun e w' he => by cases e <;> simp only [callR] at he ⊢ <;> first | exact hn _ _ he | exact he.elim

/-- A function's contract, from its body. -/
theorem rets_of_ok {f : FuncId} {fn : Func} {c : Code} {args : List Value} (hf : P.funcs[f]? = some fn) (hb : fn.body = some c) (hn : fn.ntmps = args.length + (fn.ntmps - args.length))
    (h : ok P none fn.ntmps c (argEnv 0 args) [] w (fin fn.results.toList (callR R fun _ _ => False))) : Rets P f args w R := calls_of_ok hf hb hn h

theorem add_at (b o n : Nat) : (⟨b, o, none⟩ : Addr).add n = ⟨b, o + n, none⟩ := by unfold Addr.add; split <;> simp_all

/-! Slices: 'sz' cells an element. -/
def Sli (w : World) (sz : Nat) (v : Value) (rows : List (List Value)) : Prop :=
  ∃ A c, v = .slice A rows.length c ∧ rows.length ≤ 140737488355328 ∧ ∀ j row, rows[j]? = some row → ∃ b o, A = some ⟨b, o, none⟩ ∧ cellsAt w ⟨b, o + j * sz, none⟩ row
theorem Sli.ext {sz : Nat} {v : Value} {rows : List (List Value)} {w' : World} (h : Sli w sz v rows) (he : Ext w w') : Sli w' sz v rows := by
  obtain ⟨A, c, hv, hl, hr⟩ := h
  exact ⟨A, c, hv, hl, fun j row hj => by
    obtain ⟨b, o, hA, hc⟩ := hr j row hj
    exact ⟨b, o, hA, he.cellsAt hc⟩⟩
def ints (xs : List Int) : List (List Value) := xs.map fun x => [.int .i64 x]
def bls (xs : List Bool) : List (List Value) := xs.map fun x => [.bool x]
abbrev SlI (w : World) (v : Value) (xs : List Int) : Prop := Sli w 1 v (ints xs)
abbrev SlB (w : World) (v : Value) (xs : List Bool) : Prop := Sli w 1 v (bls xs)
@[simp] theorem ints_length (xs : List Int) : (ints xs).length = xs.length := by simp [ints]
@[simp] theorem bls_length (xs : List Bool) : (bls xs).length = xs.length := by simp [bls]
/-- An element's cell. -/
theorem SlI.at_ {v : Value} {xs : List Int} (h : SlI w v xs) : ∃ A c, v = .slice A xs.length c ∧ xs.length ≤ 140737488355328 ∧ ∀ j, (hj : j < xs.length) → ∃ b o, A = some ⟨b, o, none⟩ ∧ w.cell? ⟨b, o + j, none⟩ = some (.int .i64 xs[j]) := by
  obtain ⟨A, c, hv, hl, hr⟩ := h
  refine ⟨A, c, by simpa using hv, by simpa using hl, fun j hj => ?_⟩
  obtain ⟨b, o, hA, hc⟩ := hr j [.int .i64 xs[j]] (by simp [ints, hj])
  refine ⟨b, o, hA, ?_⟩
  have := hc 0 _ rfl
  simpa [add_at] using this
theorem SlB.at_ {v : Value} {xs : List Bool} (h : SlB w v xs) : ∃ A c, v = .slice A xs.length c ∧ xs.length ≤ 140737488355328 ∧ ∀ j, (hj : j < xs.length) → ∃ b o, A = some ⟨b, o, none⟩ ∧ w.cell? ⟨b, o + j, none⟩ = some (.bool xs[j]) := by
  obtain ⟨A, c, hv, hl, hr⟩ := h
  refine ⟨A, c, by simpa using hv, by simpa using hl, fun j hj => ?_⟩
  obtain ⟨b, o, hA, hc⟩ := hr j [.bool xs[j]] (by simp [bls, hj])
  refine ⟨b, o, hA, ?_⟩
  have := hc 0 _ rfl
  simpa [add_at] using this
end
end Go.Proofs.Vg
