/- Functions whose results lie in cells. -/
import Derived.Test.YtldeokfhipjbfaaDoorVg17
set_option linter.unusedVariables false
set_option linter.unusedSimpArgs false
namespace Go.Proofs.Vg
open Go Go.RowKit
section
variable {P : Program} {N : Nat} {K : Env} {ds : List Deferred} {w : World} {a : Act}
/-- What one result variable reads as. -/
def oneC (P : Program) (K : Env) (w : World) (nx : Value → Prop) : ResultVar → Prop
  | .tmp t => match K.get t with | some v => nx v | none => False
  | .cell t ty => match K.get t with
    | some (.pointer (some a)) => (match aggN P ty with
      | some none => ∃ v, w.cell? a = some v ∧ nx v
      | some (some n) => ∃ cs : List Value, cs.length = n ∧ cellsAt w a cs ∧ nx (.agg cs.toArray)
      | none => False)
    | _ => False
def retC (P : Program) (K : Env) (w : World) (nx : Value → Prop) : List ResultVar → Prop
  | [x] => oneC P K w nx x
  | [x, y] => oneC P K w (fun u => oneC P K w (fun v => nx (.tuple #[u, v])) y) x
  | _ => False

def oneSem (tmps : Array Value) : ResultVar → Sem Value
  | .tmp t => pure (tmps.getD t undef)
  | .cell a t => do loadVar t (← asAddr (tmps.getD a undef))
theorem oneC_run (ha : Kn K N ds a) {nx : Value → Prop} {x : ResultVar} (h : oneC P K w nx x) : ∃ v, (oneSem a.tmps x).run P w = .ok v w ∧ nx v := by
  cases x with
  | tmp t =>
    simp only [oneC] at h
    split at h
    · rename_i v hv
      exact ⟨v, by simp only [oneSem, ha.getD hv]; rfl, h⟩
    · exact h.elim
  | cell t ty =>
    simp only [oneC] at h
    split at h
    · rename_i b hb
      have hb' := ha.getD hb
      have hasAddr : (asAddr (a.tmps.getD t undef)).run P w = .ok b w := by rw [hb']; simp [asAddr]
      split at h
      · rename_i hg
        obtain ⟨v, hc, hn⟩ := h
        refine ⟨v, ?_, hn⟩
        simp only [oneSem, Sem.run_bind, hasAddr, Result.andThen]
        exact load_run hg hc
      · rename_i n hg
        obtain ⟨cs, hl, hc, hn⟩ := h
        refine ⟨_, ?_, hn⟩
        simp only [oneSem, Sem.run_bind, hasAddr, Result.andThen]
        exact loadAgg_run hg hl hc
      · exact h.elim
    · exact h.elim
theorem results_one (fn : Func) (tmps : Array Value) : results fn tmps = (do let vs ← fn.results.mapM (oneSem tmps); pure (if h : vs.size = 1 then vs[0] else .tuple vs)) := by
  unfold results
  congr 1
theorem retC_run {fn : Func} (ha : Kn K N ds a) {nx : Value → Prop} (h : retC P K w nx fn.results.toList) : ∃ v, (results fn a.tmps).run P w = .ok v w ∧ nx v := by
  have hr : fn.results = fn.results.toList.toArray := by simp
  rw [results_one]
  generalize fn.results.toList = l at *
  rw [hr]
  unfold retC at h
  split at h
  · rename_i x
    obtain ⟨v, hv, hn⟩ := oneC_run ha h
    exact ⟨v, by simp [Sem.run_bind, hv, Result.andThen], hn⟩
  · rename_i x y
    obtain ⟨u, hu, hn⟩ := oneC_run ha h
    obtain ⟨v, hv, hn⟩ := oneC_run ha hn
    exact ⟨_, by simp [Sem.run_bind, hu, hv, Result.andThen], hn⟩
  · exact h.elim
/-- A function's end, its results in cells. -/
def finC (P : Program) (rs : List ResultVar) (R : Ending → World → Prop) : Post
  | .normal, K, ds, w => ds = [] ∧ retC P K w (fun v => R (.returned v) w) rs
  | .ret, K, ds, w => ds = [] ∧ retC P K w (fun v => R (.returned v) w) rs
  | .panic ch, K, ds, w => ds = [] ∧ R (.panicked ch) w
  | _, _, _, _ => False
theorem calls_of_okC {f : FuncId} {fn : Func} {c : Code} {args : List Value} {R : Ending → World → Prop} (hf : P.funcs[f]? = some fn) (hb : fn.body = some c) (hn : fn.ntmps = args.length + (fn.ntmps - args.length))
    (h : ok P none fn.ntmps c (argEnv 0 args) [] w (finC P fn.results.toList R)) : Calls P f args.toArray w R := by
  refine (callsIn_wide (n := 0)).1 (callsIn_of_wp hf hb trivial (c := c) ?_)
  have hk := Kn.enter args (fn.ntmps - args.length)
  rw [← hn] at hk
  have hw := h _ hk
  refine wpIn_mono (F := fence none) hw ?_
  rintro e a' w' ⟨K, ds, hk, hp⟩
  cases e <;> simp only [finC] at hp <;> simp only [bodyPost]
  all_goals first | exact hp.elim | skip
  · obtain ⟨rfl, hp⟩ := hp
    obtain ⟨v, hv, hr⟩ := retC_run hk hp
    exact ⟨hk.defers, v, hv, hr⟩
  · obtain ⟨rfl, hp⟩ := hp
    obtain ⟨v, hv, hr⟩ := retC_run hk hp
    exact ⟨hk.defers, v, hv, hr⟩
  · exact ⟨hp.1 ▸ hk.defers, hp.2⟩
theorem rets_of_okC {f : FuncId} {fn : Func} {c : Code} {args : List Value} {R : Value → World → Prop} (hf : P.funcs[f]? = some fn) (hb : fn.body = some c) (hn : fn.ntmps = args.length + (fn.ntmps - args.length))
    (h : ok P none fn.ntmps c (argEnv 0 args) [] w (finC P fn.results.toList (callR R fun _ _ => False))) : Rets P f args w R := calls_of_okC hf hb hn h
end
end Go.Proofs.Vg
