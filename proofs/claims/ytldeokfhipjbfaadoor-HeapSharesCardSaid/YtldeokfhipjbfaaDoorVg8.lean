import Derived.Test.YtldeokfhipjbfaaDoorVg7
set_option linter.unusedVariables false
set_option linter.unusedSimpArgs false
namespace Go.Proofs.Vg
open Go Go.RowKit

/-- One value, and a world of the class. -/
def Upon1 (P : Program) (ρ : Option Nat) (C : World → Prop) (v : Value) : Result Next → Prop
  | .ok (.value u) w' => u = v ∧ C w'
  | .ok .skip w' => v = undef ∧ C w'
  | .ok (.enter f args) w' => CallsIn (fence ρ) 0 P f args w' (fun e w'' => e = .returned v ∧ C w'')
  | .ok (.round l f tmps as bd) w' => RoundIn (fence ρ) 0 P l f tmps as bd w' (fun e w'' => e = .returned v ∧ C w'')
  | .ok (.row row args) w' => RowsIn (fence ρ) 0 P row args w' (fun u w'' => u = v ∧ C w'')
  | _ => False

section
variable {P : Program} {ρ : Option Nat} {N : Nat} {K : Env} {ds : List Deferred} {w : World} {ops : List Oper} {n : Nat} {C : World → Prop}

theorem upon1_of_opF {o : Oper} {a : Act} {v : Value} {w' : World} (ha : Kn K N ds a) (hN : 0 < N) (h : opF P K w' (fun u w'' => u = v ∧ C w'') (fun _ _ => False) o.type o.op) :
    Upon1 P ρ C v ((o.semAt (fence ρ).round a.eval).run P w') := by
  have h1 := opF_sound (o := { o with dst := some 0 }) (ρ := ρ) (M := fun a' w'' => a'.tmps[0]? = some v ∧ C w'' ∧ a'.defers = a.defers) (Q := fun _ _ _ => False) ha h
    (fun u w'' hu => ⟨by
      have : 0 < a.tmps.size := by rw [ha.size]; exact hN
      simp [Act.put, this, hu.1], hu.2, rfl⟩) (fun _ _ h => h)
  have h2 := h1.2
  have hs : ({ o with dst := some 0 } : Oper).semAt (fence ρ).round a.eval = o.semAt (fence ρ).round a.eval := rfl
  rw [hs] at h2
  have hput : ∀ u, (a.put (some 0) u).tmps[0]? = some v → u = v := fun u hu => by
    have : 0 < a.tmps.size := by rw [ha.size]; exact hN
    simpa [Act.put, this] using hu
  generalize (o.semAt (fence ρ).round a.eval).run P w' = r at h2
  cases r with
  | ok x w1 =>
    cases x <;> simp only [Oper.uponIn] at h2 <;> simp only [Upon1]
    all_goals first | exact h2.elim | skip
    · exact ⟨hput _ h2.1, h2.2.1⟩
    · exact ⟨(hput _ h2.1).symm, h2.2.1⟩
    · refine CallsIn.mono h2.2 fun e w2 he => ?_
      cases e <;> simp only at he
      · exact ⟨by rw [hput _ he.1], he.2.1⟩
      · obtain ⟨_, _, he⟩ := he; exact he.elim
    · refine RoundIn.mono h2.2 fun e w2 he => ?_
      cases e <;> simp only at he
      · exact ⟨by rw [hput _ he.1], he.2.1⟩
      · obtain ⟨_, _, he⟩ := he; exact he.elim
    · rename_i d
      have h3 : d :: a.defers = a.defers := h2.2.2
      exact absurd (congrArg List.length h3) (by simp)
    · exact RowsIn.mono h2.2 fun u w2 he => ⟨hput _ he.1, he.2.1⟩
  | halt x w1 => cases x <;> simp only [Oper.uponIn] at h2 <;> exact h2.elim

/-- An operation that leaves one value, whenever it comes. -/
def Yl (P : Program) (ρ : Option Nat) (ops : List Oper) (C : World → Prop) (o : Oper) (v : Value) (a : Act) : Prop :=
  (Region.wanted o (yielded ops.toArray a.tmps) = true ∧ (kindOf o.op = 2 → ∀ w, C w → Upon1 P ρ C v ((o.semAt (fence ρ).round a.eval).run P w)) ∧
    (kindOf o.op ≠ 2 → ∀ w, (kindOf o.op = 0 ∨ C w) → Upon1 P ρ (fun w' => w' = w) v ((o.semAt (fence ρ).round a.eval).run P w))) ∨
  (Region.wanted o (yielded ops.toArray a.tmps) = false ∧ v = undef)

theorem upon1_next {o : Oper} {a : Act} {v : Value} {w' : World} {M : Act → World → Prop} {Q : Exit → Act → World → Prop} (h3 : Upon1 P ρ C v ((o.semAt (fence ρ).round a.eval).run P w')) (hM : ∀ w'', C w'' → M (a.put o.dst v) w'') : o.wpIn (fence ρ) 0 P a w' M Q := by
  refine ⟨fun _ _ => trivial, ?_⟩
  generalize (o.semAt (fence ρ).round a.eval).run P w' = r at h3
  cases r with
  | ok x w1 =>
    cases x <;> simp only [Upon1] at h3 <;> simp only [Oper.uponIn]
    all_goals first | exact h3.elim | skip
    · rw [h3.1]; exact hM _ h3.2
    · rw [← h3.1]; exact hM _ h3.2
    · refine ⟨fence_depth _ _, CallsIn.mono h3 fun e w2 ⟨he, hc⟩ => ?_⟩
      subst he; exact hM _ hc
    · refine ⟨fence_depth _ _, RoundIn.mono h3 fun e w2 ⟨he, hc⟩ => ?_⟩
      subst he; exact hM _ hc
    · exact ⟨fence_depth _ _, RowsIn.mono h3 fun u w2 ⟨he, hc⟩ => by subst he; exact hM _ hc⟩
  | halt x w1 => simp only [Upon1] at h3

/-- In a world of the class. -/
theorem Yl.op {i : Nat} {o : Oper} {a : Act} {v : Value} {w' : World} {M : Act → World → Prop} {Q : Exit → Act → World → Prop} (hy : Yl P ρ ops C o v a) (ho : ops[i]? = some o) (hw : C w') (hM : ∀ w'', C w'' → M (a.put o.dst v) w'') :
    wpOpIn (fence ρ) 0 P ops.toArray Q i M a w' := by
  unfold wpOpIn
  simp only [List.getElem?_toArray, ho]
  rcases hy with ⟨h1, h2, h3⟩ | ⟨h1, rfl⟩
  · rw [if_pos h1]
    by_cases hk : kindOf o.op = 2
    · exact upon1_next (h2 hk w' hw) hM
    · exact upon1_next (h3 hk w' (.inr hw)) (fun w'' h => by rw [h]; exact hM _ hw)
  · rw [if_neg (by simp [h1])]
    exact ⟨fun _ _ => trivial, hM _ hw⟩
/-- One that makes no call: it turns nothing. -/
theorem Yl.op1 {i : Nat} {o : Oper} {a : Act} {v : Value} {w' : World} {M : Act → World → Prop} {Q : Exit → Act → World → Prop} (hy : Yl P ρ ops C o v a) (ho : ops[i]? = some o) (hk : kindOf o.op ≠ 2) (hw : kindOf o.op = 0 ∨ C w') (hM : M (a.put o.dst v) w') :
    wpOpIn (fence ρ) 0 P ops.toArray Q i M a w' := by
  unfold wpOpIn
  simp only [List.getElem?_toArray, ho]
  rcases hy with ⟨h1, h2, h3⟩ | ⟨h1, rfl⟩
  · rw [if_pos h1]
    exact upon1_next (h3 hk w' hw) (fun w'' h => by rw [h]; exact hM)
  · rw [if_neg (by simp [h1])]
    exact ⟨fun _ _ => trivial, hM⟩

/-- Two acts that an operation can't tell. -/
theorem same_op {o : Oper} {a b : Act} (hsel : notSel o.op = true) (hl : ∀ t ∈ looks ops o, a.tmps[t]? = b.tmps[t]?) :
    Region.wanted o (yielded ops.toArray a.tmps) = Region.wanted o (yielded ops.toArray b.tmps) ∧ o.semAt (fence ρ).round a.eval = o.semAt (fence ρ).round b.eval := by
  have he : ∀ x ∈ o.op.operands, a.eval x = b.eval x := by
    intro x hx
    cases x with
    | tmp t =>
      have ht : t ∈ looks ops o := List.mem_append_left _ (List.mem_filterMap.2 ⟨.tmp t, by simpa using hx, rfl⟩)
      have := hl t ht
      simp only [Act.eval, Array.getD_eq_getD_getElem?, this]
    | _ => rfl
  have hexec : execOp a.eval o = execOp b.eval o := execOp_congr o (fun cs b' hc => by rw [hc] at hsel; cases hsel) he
  refine ⟨?_, ?_⟩
  · unfold Region.wanted
    cases hg : o.guard with
    | none => rfl
    | some gd =>
      obtain ⟨j, want⟩ := gd
      have : yielded ops.toArray a.tmps j = yielded ops.toArray b.tmps j := by
        unfold yielded
        simp only [List.getElem?_toArray]
        cases hj : ops[j]? with
        | none => rfl
        | some oj =>
          simp only [Option.bind_some]
          cases hd : oj.dst with
          | none => rfl
          | some d =>
            simp only [Option.bind_some]
            have : d ∈ looks ops o := List.mem_append_right _ (by rw [hg]; simp only; simp [gdst, hj, hd])
            rw [hl d this]
      simp only [this]
  · unfold Oper.semAt
    split
    · rename_i l c _ ho'
      have := resolve_congr (ρ := a.eval) (ρ' := b.eval) c o.type (fun x hx => he x (by rw [ho']; simpa [Op.operands] using hx))
      rw [this]
    · exact hexec

theorem Yl.same {o : Oper} {a b : Act} {v : Value} (hy : Yl P ρ ops C o v a) (hsel : notSel o.op = true) (hl : ∀ t ∈ looks ops o, a.tmps[t]? = b.tmps[t]?) : Yl P ρ ops C o v b := by
  obtain ⟨h1, h2⟩ := same_op (ρ := ρ) hsel hl
  unfold Yl at hy ⊢
  rw [h1, h2] at hy
  exact hy

/-- The later operations, one behind the other; 'fl': must the class hold behind this one; have all heads come. -/
def wpT (P : Program) (ρ : Option Nat) (ops : Array Oper) (C : World → Prop) (Q : Exit → Act → World → Prop) : List (Bool × Bool) → List Oper → Act → World → Prop
  | _, [], a, w => Q .normal a w
  | fl, o :: rest, a, w =>
    if Region.wanted o (yielded ops a.tmps) then o.wpIn (fence ρ) 0 P a w (fun a' w' => ((fl.headD (false, false)).1 = true → C w') ∧ wpT P ρ ops C Q fl.tail rest a' w') (fun e a' w' => (fl.headD (false, false)).2 = true ∧ Q e a' w')
    else ((fl.headD (false, false)).1 = true → C w) ∧ wpT P ρ ops C Q fl.tail rest (a.put o.dst undef) w

theorem wpIn_transfer {o : Oper} {a b : Act} {w : World} {M M' : Act → World → Prop} {Q Q' : Exit → Act → World → Prop} (hs : o.semAt (fence ρ).round a.eval = o.semAt (fence ρ).round b.eval) (hd : a.defers = b.defers)
    (h : o.wpIn (fence ρ) 0 P a w M Q) (hM : ∀ ds v w', M (({ tmps := a.tmps, defers := ds } : Act).put o.dst v) w' → M' (({ tmps := b.tmps, defers := ds } : Act).put o.dst v) w') (hQ : ∀ ch w', Q (.panic ch) a w' → Q' (.panic ch) b w') (hL : LetsOut Q → LetsOut Q') :
    o.wpIn (fence ρ) 0 P b w M' Q' := by
  obtain ⟨_, h⟩ := h
  refine ⟨fun _ _ => trivial, ?_⟩
  rw [← hs]
  have hM1 : ∀ v w', M (a.put o.dst v) w' → M' (b.put o.dst v) w' := fun v w' hm => by
    have := hM a.defers v w' hm
    rw [hd] at this
    exact this
  generalize (o.semAt (fence ρ).round a.eval).run P w = r at h
  cases r with
  | ok x w1 =>
    cases x <;> simp only [Oper.uponIn] at h ⊢
    · exact hM1 _ _ h
    · exact hM1 _ _ h
    · refine ⟨h.1, CallsIn.mono h.2 fun e w2 he => ?_⟩
      cases e <;> simp only at he ⊢
      · exact hM1 _ _ he
      · exact hQ _ _ he
      · exact hL he
    · refine ⟨h.1, RoundIn.mono h.2 fun e w2 he => ?_⟩
      cases e <;> simp only at he ⊢
      · exact hM1 _ _ he
      · exact hQ _ _ he
      · exact hL he
    · rw [← hd]; exact hM _ _ _ h
    · exact ⟨h.1, RowsIn.mono h.2 fun u w2 he => hM1 _ _ he⟩
  | halt x w1 => cases x <;> simp only [Oper.uponIn] at h ⊢ <;> exact hQ _ _ h
end
end Go.Proofs.Vg
