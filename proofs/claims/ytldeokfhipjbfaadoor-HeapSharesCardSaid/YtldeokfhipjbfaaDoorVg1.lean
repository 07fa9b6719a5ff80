/- A small calculus of triples over the kit's own 'Code.wpIn': what is known of some temporaries, and of the world; a function reckons what a list of operations owes. -/
import Derived.CallsIn
import Derived.TacticsIn
import Derived.Below
import Derived.WalkKit
set_option linter.unusedVariables false
set_option linter.unusedSimpArgs false
namespace Go.Proofs.Vg
open Go Go.RowKit

/-- What is known of temporaries. -/
abbrev Env := List (Nat × Value)
def Env.get : Env → Nat → Option Value
  | [], _ => none
  | (i, v) :: r, j => if j = i then some v else Env.get r j

/-- An activation of which this is known. -/
structure Kn (K : Env) (N : Nat) (ds : List Deferred) (a : Act) : Prop where
  size : a.tmps.size = N
  defers : a.defers = ds
  at_ : ∀ i v, K.get i = some v → a.tmps[i]? = some v

/-- A fence that lets everything in. -/
def fence (ρ : Option Nat) : Fence := { fn := fun _ => True, depth := none, alive := false, round := ρ }
theorem fence_none : fence none = Fence.wide := rfl
theorem fence_room (ρ : Option Nat) (n : Nat) : (fence ρ).room n := fun _ h => by simp [fence] at h
theorem fence_depth (ρ : Option Nat) (n : Nat) : (fence ρ).depth.isSome = true → 1 ≤ n := fun h => by simp [fence] at h

abbrev Post := Exit → Env → List Deferred → World → Prop
def lift (N : Nat) (Φ : Post) : Exit → Act → World → Prop := fun e a w => ∃ K ds, Kn K N ds a ∧ Φ e K ds w

/-- THE TRIPLE. -/
def ok (P : Program) (ρ : Option Nat) (N : Nat) (c : Code) (K : Env) (ds : List Deferred) (w : World) (Φ : Post) : Prop :=
  ∀ a, Kn K N ds a → c.wpIn (fence ρ) 0 P (lift N Φ) a w

section
variable {P : Program} {ρ : Option Nat} {N : Nat} {K : Env} {ds : List Deferred} {w : World} {Φ : Post}

theorem ok_mono {c : Code} {Φ' : Post} (h : ok P ρ N c K ds w Φ) (hq : ∀ e K ds w, Φ e K ds w → Φ' e K ds w) : ok P ρ N c K ds w Φ' :=
  fun a ha => wpIn_mono (h a ha) fun e a w ⟨K, ds, hk, hp⟩ => ⟨K, ds, hk, hq _ _ _ _ hp⟩

/-- Less is known. -/
def sub : Env → Env → Prop
  | [], _ => True
  | (i, v) :: r, K => K.get i = some v ∧ sub r K
theorem sub_get {K' : Env} : ∀ {L : Env}, sub L K' → ∀ i v, L.get i = some v → K'.get i = some v
  | [], _, i, v, h => by simp [Env.get] at h
  | (j, u) :: r, hs, i, v, h => by
    simp only [Env.get] at h
    split at h
    · rename_i e; subst e; cases h; exact hs.1
    · exact sub_get hs.2 i v h
theorem Kn.less {K' : Env} {a : Act} (h : Kn K N ds a) (hs : sub K' K) : Kn K' N ds a := ⟨h.size, h.defers, fun i v hv => h.at_ i v (sub_get hs i v hv)⟩
theorem ok_less {c : Code} (K' : Env) (hs : sub K' K) (h : ok P ρ N c K' ds w Φ) : ok P ρ N c K ds w Φ := fun a ha => h a (ha.less hs)

def thenN (M : Env → List Deferred → World → Prop) (Φ : Post) : Post
  | .normal, K, ds, w => M K ds w
  | e, K, ds, w => Φ e K ds w

theorem ok_seq {x y : Code} (h : ∀ M : Env → List Deferred → World → Prop, (∀ K ds w, ok P ρ N y K ds w Φ → M K ds w) → ok P ρ N x K ds w (thenN M Φ)) : ok P ρ N (.seq x y) K ds w Φ := by
  intro a ha
  refine wpIn_seq ?_
  have := h (fun K ds w => ok P ρ N y K ds w Φ) (fun _ _ _ h => h) a ha
  refine wpIn_mono this ?_
  rintro e a' w' ⟨K', ds', hk, hp⟩
  cases e <;> simp only [thenN] at hp <;> simp only [Exit.then] <;> first | exact hp a' hk | exact ⟨K', ds', hk, hp⟩

theorem ok_skip (h : Φ .normal K ds w) : ok P ρ N .skip K ds w Φ := fun a ha => wpIn_skip ⟨K, ds, ha, h⟩
theorem ok_ret (h : Φ .ret K ds w) : ok P ρ N .ret K ds w Φ := fun a ha => wpIn_ret ⟨K, ds, ha, h⟩
theorem ok_exit {id : Nat} (h : Φ (.exit id) K ds w) : ok P ρ N (.exit id) K ds w Φ := fun a ha => wpIn_exit ⟨K, ds, ha, h⟩

def inBlockN (id : Nat) (Φ : Post) : Post
  | .exit id', K, ds, w => if id' = id then Φ .normal K ds w else Φ (.exit id') K ds w
  | e, K, ds, w => Φ e K ds w
theorem ok_block {id : Nat} {c : Code} (h : ok P ρ N c K ds w (inBlockN id Φ)) : ok P ρ N (.block id c) K ds w Φ := by
  intro a ha
  refine wpIn_block (wpIn_mono (h a ha) ?_)
  rintro e a' w' ⟨K', ds', hk, hp⟩
  cases e <;> simp only [inBlockN] at hp <;> simp only [Exit.inBlock] <;> first | exact ⟨K', ds', hk, hp⟩ | skip
  split at hp <;> rename_i h1 <;> simp only [h1, if_true, if_false] <;> exact ⟨K', ds', hk, hp⟩

/-- What an operand is. -/
def ev (K : Env) : Operand → Option Value
  | .tmp t => K.get t
  | .const v => some v
  | .global g => some (.pointer (some ⟨g, 0, none⟩))
  | .func f => some (.func (.func f) #[] #[])
theorem ev_eval {a : Act} (ha : Kn K N ds a) {x : Operand} {v : Value} (h : ev K x = some v) : a.eval x = v := by
  cases x with
  | tmp t =>
    have := ha.at_ t v h
    simp only [Act.eval, Array.getD_eq_getD_getElem?, this, Option.getD_some]
  | const u => simpa [ev, Act.eval] using h
  | global g => simpa [ev, Act.eval] using h
  | func f => simpa [ev, Act.eval] using h

theorem ok_cond {c : Operand} {x y : Code} {b : Bool} (hc : ev K c = some (.bool b)) (ht : b = true → ok P ρ N x K ds w Φ) (hf : b = false → ok P ρ N y K ds w Φ) : ok P ρ N (.cond c x y) K ds w Φ := by
  intro a ha
  refine wpIn_cond (ev_eval ha hc) ?_
  cases b
  · exact hf rfl a ha
  · exact ht rfl a ha

/-- A loop: its state is a ghost s. -/
theorem ok_loop {c : Code} {S : Type} (inv : S → Env) (wi : S → World → Prop) (μ : S → Nat) (s0 : S) (h0 : sub (inv s0) K) (hw0 : wi s0 w)
    (hr : ∀ s w, wi s w → ok P ρ N c (inv s) ds w (thenN (fun K' ds' w' => ds' = ds ∧ ∃ s', sub (inv s') K' ∧ wi s' w' ∧ μ s' < μ s) Φ)) : ok P ρ N (.loop c) K ds w Φ := by
  intro a ha b k cs hro hb hrm
  have key : ∀ n s w a, μ s = n → wi s w → Kn (inv s) N ds a →
      ∃ e a' w', lift N Φ e a' w' ∧ ArrivesIn (Machine.fenced P (fence ρ)) P (lone (b.atR a (.code c :: .inLoop c :: k)) cs w) b k cs e a' w' := by
    intro n
    induction n using Nat.strongRecOn with
    | _ n ih =>
      intro s w a hn hw hk
      obtain ⟨e, a₁, w₁, ⟨K', ds', hk', hp⟩, harr⟩ := hr s w hw a hk b (.inLoop c :: k) cs hro hb hrm
      have pass : e ≠ .normal → ∃ e a' w', lift N Φ e a' w' ∧ ArrivesIn (Machine.fenced P (fence ρ)) P (lone (b.atR a (.code c :: .inLoop c :: k)) cs w) b k cs e a' w' := fun hne =>
        ⟨e, a₁, w₁, ⟨K', ds', hk', by cases e <;> first | exact hp | exact absurd rfl hne⟩, .pass (x := .inLoop c) rfl (fun _ _ => .inl hne) harr⟩
      cases e with
      | normal =>
        simp only [thenN] at hp
        obtain ⟨hds, s', hs', hw', hlt⟩ := hp
        rw [hds] at hk'
        obtain ⟨e₂, a₂, w₂, hq₂, harr₂⟩ := ih (μ s') (hn ▸ hlt) s' w₁ a₁ rfl hw' (hk'.less hs')
        exact ⟨e₂, a₂, w₂, hq₂, .of_steps (StepsIn.trans harr (.one (fenced_calm hb hrm rfl) stepR_inLoop)) harr₂⟩
      | exit id => exact pass (by simp)
      | goto l => exact pass (by simp)
      | ret => exact pass (by simp)
      | panic ch => exact pass (by simp)
      | outgrown => exact pass (by simp)
  obtain ⟨e, a', w', hq, harr⟩ := key _ s0 w a rfl hw0 (ha.less h0)
  exact ⟨e, a', w', hq, .of_steps (.one (fenced_calm hb hrm rfl) stepR_loop) harr⟩
end
end Go.Proofs.Vg
