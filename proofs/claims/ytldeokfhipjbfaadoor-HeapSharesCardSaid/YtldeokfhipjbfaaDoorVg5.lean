import Derived.Test.YtldeokfhipjbfaaDoorVg4
set_option linter.unusedVariables false
set_option linter.unusedSimpArgs false
namespace Go.Proofs.Vg
open Go Go.RowKit

def argEnv : Nat → List Value → Env
  | _, [] => []
  | i, v :: r => (i, v) :: argEnv (i + 1) r
theorem argEnv_get : ∀ (l : List Value) (i j : Nat) (v : Value), (argEnv i l).get j = some v → i ≤ j ∧ l[j - i]? = some v
  | [], i, j, v, h => by simp [argEnv, Env.get] at h
  | u :: r, i, j, v, h => by
    simp only [argEnv, Env.get] at h
    split at h
    · rename_i e; subst e; cases h; simp
    · rename_i e
      have := argEnv_get r (i + 1) j v h
      refine ⟨by omega, ?_⟩
      rw [show j - i = (j - (i + 1)) + 1 by omega, List.getElem?_cons_succ]
      exact this.2

/-- What a function hands back. -/
def retE (K : Env) : List ResultVar → Option Value
  | [] => some (.tuple #[])
  | [.tmp t] => K.get t
  | [.tmp t, .tmp u] => match K.get t, K.get u with
    | some a, some b => some (.tuple #[a, b])
    | _, _ => none
  | [.tmp t, .tmp u, .tmp x] => match K.get t, K.get u, K.get x with
    | some a, some b, some c => some (.tuple #[a, b, c])
    | _, _, _ => none
  | _ => none

section
variable {P : Program} {ρ : Option Nat} {N : Nat} {K : Env} {ds : List Deferred} {w : World} {a : Act} {Φ : Post}

theorem Kn.getD (ha : Kn K N ds a) {t : Nat} {v : Value} (h : K.get t = some v) : a.tmps.getD t undef = v := by
  have := ha.at_ _ _ h
  simp only [Array.getD_eq_getD_getElem?, this, Option.getD_some]

theorem results_tmp3' {fn : Func} {t u v : Tmp} (h : fn.results = #[.tmp t, .tmp u, .tmp v]) (tmps : Array Value) (P : Program) (w : World) :
    (results fn tmps).run P w = .ok (.tuple #[tmps.getD t undef, tmps.getD u undef, tmps.getD v undef]) w := by
  simp [results, h]

theorem retE_run {fn : Func} {v : Value} (ha : Kn K N ds a) (h : retE K fn.results.toList = some v) (w : World) : (results fn a.tmps).run P w = .ok v w := by
  have hr : fn.results = fn.results.toList.toArray := by simp
  generalize fn.results.toList = l at *
  unfold retE at h
  split at h
  · cases h; exact results_none hr _ _ _
  · rename_i t
    rw [results_tmp hr, ha.getD h]
  · rename_i t u
    split at h
    · rename_i x y hx hy
      cases h
      rw [results_tmp2 hr, ha.getD hx, ha.getD hy]
    · cases h
  · rename_i t u x
    split at h
    · rename_i p q r hp hq hr'
      cases h
      rw [results_tmp3' hr, ha.getD hp, ha.getD hq, ha.getD hr']
    · cases h
  · cases h

/-- A function's end. -/
def fin (rs : List ResultVar) (R : Ending → World → Prop) : Post
  | .normal, K, ds, w => ds = [] ∧ match retE K rs with | some v => R (.returned v) w | none => False
  | .ret, K, ds, w => ds = [] ∧ match retE K rs with | some v => R (.returned v) w | none => False
  | .panic ch, K, ds, w => ds = [] ∧ R (.panicked ch) w
  | _, _, _, _ => False

theorem Kn.enter (args : List Value) (n : Nat) : Kn (argEnv 0 args) (args.length + n) [] { tmps := args.toArray ++ Array.replicate n undef, defers := [] } := by
  refine ⟨by simp, rfl, fun i v h => ?_⟩
  have := (argEnv_get args 0 i v h).2
  simp only [Nat.sub_zero] at this
  have hlt : i < args.length := by
    rcases Nat.lt_or_ge i args.length with h | h
    · exact h
    · rw [List.getElem?_eq_none h] at this; cases this
  rw [Array.getElem?_append_left (by simpa using hlt)]
  simpa using this

theorem calls_of_ok {f : FuncId} {fn : Func} {c : Code} {args : List Value} {R : Ending → World → Prop} (hf : P.funcs[f]? = some fn) (hb : fn.body = some c) (hn : fn.ntmps = args.length + (fn.ntmps - args.length))
    (h : ok P none fn.ntmps c (argEnv 0 args) [] w (fin fn.results.toList R)) : Calls P f args.toArray w R := by
  refine (callsIn_wide (n := 0)).1 (callsIn_of_wp hf hb trivial (c := c) ?_)
  have hk := Kn.enter args (fn.ntmps - args.length)
  rw [← hn] at hk
  have hw := h _ hk
  refine wpIn_mono (F := fence none) hw ?_
  rintro e a' w' ⟨K, ds, hk, hp⟩
  cases e <;> simp only [fin] at hp <;> simp only [bodyPost]
  all_goals first | exact hp.elim | skip
  · obtain ⟨rfl, hp⟩ := hp
    split at hp
    · rename_i v hv
      exact ⟨hk.defers, v, retE_run hk hv _, hp⟩
    · exact hp.elim
  · obtain ⟨rfl, hp⟩ := hp
    split at hp
    · rename_i v hv
      exact ⟨hk.defers, v, retE_run hk hv _, hp⟩
    · exact hp.elim
  · exact ⟨hp.1 ▸ hk.defers, hp.2⟩
end
end Go.Proofs.Vg
