import Derived.Test.YtldeokfhipjbfaaDoorVg15
set_option linter.unusedVariables false
set_option linter.unusedSimpArgs false
namespace Go.Proofs.Vg
open Go Go.RowKit
section
variable {P : Program} {ρ : Option Nat} {N : Nat} {K : Env} {ds : List Deferred} {w : World} {Φ : Post}
/-- One behind the other, with what is known between them. -/
theorem ok_join {c d : Code} (K1 : Env) (F : World → Prop) (h : ok P ρ N c K ds w (thenN (fun K' ds' w' => ds' = ds ∧ sub K1 K' ∧ F w') Φ)) (h2 : ∀ w', F w' → ok P ρ N d K1 ds w' Φ) : ok P ρ N (.seq c d) K ds w Φ :=
  ok_seq (fun M hM => ok_mono h fun e K' ds' w' he => by
    cases e <;> simp only [thenN] at he ⊢ <;> first | exact he | skip
    obtain ⟨rfl, hs, hf⟩ := he
    exact hM _ _ _ (ok_less K1 hs (h2 _ hf)))

variable {ops : List Oper} {pan : List PanicEntry → Env → World → Prop} {M : Env → World → Prop} {H : Env → Prop} {C : World → Prop}
/-! One operation at a time: what comes behind it is a name. -/
theorem ofX2 {X Y : Value → Env → Prop} (h : X = Y) {v : Value} {K : Env} (hy : Y v K) : X v K := h ▸ hy
theorem ofX3 {X Y : Value → Env → World → Prop} (h : X = Y) {v : Value} {K : Env} {w : World} (hy : Y v K w) : X v K w := h ▸ hy
theorem wpL_step {o : Oper} {rest : List Oper} (h : ∀ X : Value → Env → World → Prop, X = (fun v K' w' => wpL P ops pan M rest (putE o.dst v K') w') →
    match o.guard with
    | none => opF P K w (fun v w' => X v K w') (fun ch w' => pan ch K w') o.type o.op
    | some (j, want) => match gdst ops j with
      | some d => (match K.get d with
        | some (.bool b) => (b = want → opF P (K.set d (.bool want)) w (fun v w' => X v (K.set d (.bool want)) w') (fun ch w' => pan ch (K.set d (.bool want)) w') o.type o.op) ∧
            (b = !want → X undef (K.set d (.bool !want)) w)
        | some (.tuple _) => X undef K w
        | _ => False)
      | none => False) : wpL P ops pan M (o :: rest) K w := h _ rfl
theorem wpL_end (h : M K w) : wpL P ops pan M [] K w := h
theorem wpH_step {o : Oper} {rest : List Oper} (h : ∀ X : Value → Env → Prop, X = (fun v K' => wpH P ops C H rest (putE o.dst v K')) →
    match o.guard with
    | none => opH P K C (fun v => X v K) o.type o.op
    | some (j, want) => match gdst ops j with
      | some d => (match K.get d with
        | some (.bool b) => (b = want → opH P (K.set d (.bool want)) C (fun v => X v (K.set d (.bool want))) o.type o.op) ∧
            (b = !want → X undef (K.set d (.bool !want)))
        | some (.tuple _) => X undef K
        | _ => False)
      | none => False) : wpH P ops C H (o :: rest) K := h _ rfl
theorem wpH_end (h : H K) : wpH P ops C H [] K := h
theorem wpE_step {fl : List (Bool × Bool)} {o : Oper} {rest : List Oper} (h : ∀ X : Value → Env → World → Prop, X = (fun v K' w' => wpE P ops C pan M fl.tail rest (putE o.dst v K') w') →
    match o.guard with
    | none => opF P K w (fun v w' => oweC (fl.headD (false, false)).1 (C w') (X v K w')) (fun ch w' => oweP (fl.headD (false, false)).2 (pan ch K w')) o.type o.op
    | some (j, want) => match gdst ops j with
      | some d => (match K.get d with
        | some (.bool b) => (b = want → opF P (K.set d (.bool want)) w (fun v w' => oweC (fl.headD (false, false)).1 (C w') (X v (K.set d (.bool want)) w')) (fun ch w' => oweP (fl.headD (false, false)).2 (pan ch (K.set d (.bool want)) w')) o.type o.op) ∧
            (b = !want → oweC (fl.headD (false, false)).1 (C w) (X undef (K.set d (.bool !want)) w))
        | some (.tuple _) => oweC (fl.headD (false, false)).1 (C w) (X undef K w)
        | _ => False)
      | none => False) : wpE P ops C pan M fl (o :: rest) K w := h _ rfl
theorem wpE_end {fl : List (Bool × Bool)} (h : M K w) : wpE P ops C pan M fl [] K w := h
end
end Go.Proofs.Vg
