import Derived.Test.YtldeokfhipjbfaaDoorVg3
set_option linter.unusedVariables false
set_option linter.unusedSimpArgs false
namespace Go.Proofs.Vg
open Go Go.RowKit

def putE (dst : Option Nat) (v : Value) (K : Env) : Env := match dst with | some d => (d, v) :: K | none => K
def Env.set : Env → Nat → Value → Env
  | [], _, _ => []
  | (i, u) :: r, j, v => if j = i then (i, v) :: r else (i, u) :: Env.set r j v
theorem Env.get_set (K : Env) (j : Nat) (v : Value) (i : Nat) : (K.set j v).get i = if i = j then (K.get j).map (fun _ => v) else K.get i := by
  induction K with
  | nil => simp [Env.set, Env.get]
  | cons p r ih =>
    obtain ⟨k, u⟩ := p
    simp only [Env.set, Env.get]
    by_cases h1 : j = k
    · subst h1
      simp only [if_true, Env.get]
      by_cases h2 : i = j <;> simp [h2]
    · simp only [if_neg h1, Env.get, ih]
      by_cases h2 : i = k
      · subst h2
        simp [Ne.symm h1]
      · simp only [if_neg h2]
def gdst (ops : List Oper) (j : Nat) : Option Nat := match ops[j]? with | some o => o.dst | none => none

/-- What a list of operations owes, carried out in the order of the text. -/
def wpL (P : Program) (ops : List Oper) (pan : List PanicEntry → Env → World → Prop) (M : Env → World → Prop) : List Oper → Env → World → Prop
  | [], K, w => M K w
  | o :: rest, K, w =>
    match o.guard with
    | none => opF P K w (fun v w' => wpL P ops pan M rest (putE o.dst v K) w') (fun ch w' => pan ch K w') o.type o.op
    | some (j, want) => match gdst ops j with
      | some d => (match K.get d with
        | some (.bool b) => (b = want → opF P (K.set d (.bool want)) w (fun v w' => wpL P ops pan M rest (putE o.dst v (K.set d (.bool want))) w') (fun ch w' => pan ch (K.set d (.bool want)) w') o.type o.op) ∧
            (b = !want → wpL P ops pan M rest (putE o.dst undef (K.set d (.bool !want))) w)
        | some (.tuple _) => wpL P ops pan M rest (putE o.dst undef K) w
        | _ => False)
      | none => False

def dstsOk (N : Nat) (ops : List Oper) : Bool := ops.all fun o => match o.dst with | some d => decide (d < N) | none => true

section
variable {P : Program} {ρ : Option Nat} {N : Nat} {K : Env} {ds : List Deferred} {w : World} {a : Act} {Φ : Post}

theorem Kn.put {dst : Option Nat} {v : Value} (ha : Kn K N ds a) (hd : ∀ d, dst = some d → d < N) : Kn (putE dst v K) N ds (a.put dst v) := by
  cases dst with
  | none => exact ha
  | some d =>
    refine ⟨by simp [Act.put, ha.size], ha.defers, fun i u h => ?_⟩
    simp only [putE, Env.get] at h
    simp only [Act.put]
    split at h
    · rename_i e
      subst e
      cases h
      rw [Array.getElem?_setIfInBounds_self_of_lt (by rw [ha.size]; exact hd _ rfl)]
    · rename_i e
      rw [Array.getElem?_setIfInBounds_ne (Ne.symm e)]
      exact ha.at_ i u h
theorem Kn.set {d : Nat} {v : Value} (ha : Kn K N ds a) (hv : K.get d = some v) : Kn (K.set d v) N ds a :=
  ⟨ha.size, ha.defers, fun i u h => by
    rw [Env.get_set] at h
    split at h
    · rename_i e; subst e; rw [hv] at h; cases h; exact ha.at_ _ _ hv
    · exact ha.at_ i u h⟩

theorem wpL_sound {ops : List Oper} {pan : List PanicEntry → Env → World → Prop} {M : Env → World → Prop} (hp : ∀ ch K w, pan ch K w → Φ (.panic ch) K ds w) (hM : ∀ K w, M K w → Φ .normal K ds w) :
    ∀ (rest : List Oper) (K : Env) (w : World) (a : Act), dstsOk N rest = true → Kn K N ds a → wpL P ops pan M rest K w → wpListIn (fence ρ) 0 P ops.toArray (lift N Φ) rest a w
  | [], K, w, a, _, ha, h => ⟨K, ds, ha, hM _ _ h⟩
  | o :: rest, K, w, a, hd, ha, h => by
    simp only [dstsOk, List.all_cons, Bool.and_eq_true] at hd
    have hd0 : ∀ d, o.dst = some d → d < N := fun d he => by have := hd.1; rw [he] at this; simpa using this
    simp only [wpL] at h
    unfold wpListIn
    cases hg : o.guard with
    | none =>
      rw [hg] at h
      simp only [Region.wanted, hg, if_true]
      exact opF_sound ha h (fun v w' hv => wpL_sound hp hM rest _ _ _ hd.2 (ha.put hd0) hv) (fun ch w' hc => ⟨K, ds, ha, hp _ _ _ hc⟩)
    | some gd =>
      obtain ⟨j, want⟩ := gd
      rw [hg] at h
      simp only at h
      split at h
      · rename_i d hgd
        have hy : yielded ops.toArray a.tmps j = match a.tmps[d]? with | some (.bool b) => some b | _ => none := by
          unfold gdst at hgd
          split at hgd
          · rename_i oj hj
            simp only [yielded, List.getElem?_toArray, hj, Option.bind_some, hgd]
            split <;> simp_all
          · cases hgd
        split at h
        · rename_i b hb
          have hya : yielded ops.toArray a.tmps j = some b := by rw [hy, ha.at_ _ _ hb]
          by_cases hbw : b = want
          · subst hbw
            have hw : Region.wanted o (yielded ops.toArray a.tmps) = true := by simp [Region.wanted, hg, hya]
            rw [if_pos hw]
            have ha' := ha.set hb
            exact opF_sound ha' (h.1 rfl) (fun v w' hv => wpL_sound hp hM rest _ _ _ hd.2 (ha'.put hd0) hv) (fun ch w' hc => ⟨_, ds, ha', hp _ _ _ hc⟩)
          · have hbn : b = !want := by cases b <;> cases want <;> simp_all
            have hw : ¬ Region.wanted o (yielded ops.toArray a.tmps) = true := by simp [Region.wanted, hg, hya, hbw]
            rw [if_neg hw]
            have ha' := ha.set (hbn ▸ hb)
            exact ⟨fun _ _ => trivial, wpL_sound hp hM rest _ _ _ hd.2 (ha'.put hd0) (h.2 hbn)⟩
        · rename_i x hb
          have hya : yielded ops.toArray a.tmps j = none := by rw [hy, ha.at_ _ _ hb]
          have hw : ¬ Region.wanted o (yielded ops.toArray a.tmps) = true := by simp [Region.wanted, hg, hya]
          rw [if_neg hw]
          exact ⟨fun _ _ => trivial, wpL_sound hp hM rest _ _ _ hd.2 (ha.put hd0) h⟩
        · exact h.elim
      · exact h.elim

/-- A region in the order of the text. -/
theorem ok_region {id : Nat} {ops : List Oper} (hd : dstsOk N ops = true) (h : wpL P ops (fun ch K w => Φ (.panic ch) K ds w) (fun K w => Φ .normal K ds w) ops K w) :
    ok P ρ N (.region id ops.toArray false) K ds w Φ :=
  fun a ha => wpIn_region_lit (wpL_sound (fun _ _ _ h => h) (fun _ _ h => h) ops K w a hd ha h)
end
end Go.Proofs.Vg
