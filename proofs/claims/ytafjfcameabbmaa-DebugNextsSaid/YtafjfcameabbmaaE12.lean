/- append of a slice of ints to one's own. -/
import Derived.Test.YtafjfcameabbmaaE11
import Derived.Laws.OwnMore
set_option linter.unusedVariables false
set_option linter.unusedSimpArgs false
namespace Go.Proofs.Ytafjfcameabbmaa
open Go Go.Proofs.Vg Go.RowKit Dbg

theorem run_append_none {P : Program} {w : World} (base : Nat) (t ty e : TypeId) (i : TypeInfo) (size : Nat) (ht : P.underlying t = some (.slice e)) (hi : P.info? e = some i)
    (v : Value) (n c : Nat) (xs : List Value) (hown : w.ownsRow base e size v n xs) :
    (Builtin.append_ #[t, t] ty #[v, .slice none 0 c]).run P w = .ok v w := by
  rcases hown.2 with ⟨rfl, rfl⟩ | ⟨g, cap, cur, rfl, _, _, hnc, _⟩
  · simp [Builtin.append_, run_underlying ht, sizeOf, typeInfo, hi, Builtin.lenOf, Builtin.firstCells]
  · simp [Builtin.append_, run_underlying ht, sizeOf, typeInfo, hi, Builtin.lenOf, Builtin.firstCells, hnc, storeCells]

theorem grownBy_refl (w : World) (row : Option Nat) : w.grownBy w row := ⟨rfl, rfl, rfl, Nat.le_refl _, fun _ _ _ => rfl⟩

theorem Runs.appendI {P : Program} {w : World} {t ty e : TypeId} {z : Value} {by_ base : Nat} (ht : P.underlying t = some (.slice e)) (hz : zinfo P e = some (some z, 1, by_)) (hzs : z.cells.size = 1)
    {v vs : Value} {n : Nat} {xs : List Value} {ys : List Int} (hown : w.ownsRow base e 1 v n xs) (hs : SlI w vs ys)
    (h63 : n + ys.length ≤ maxLen) (hbytes : (n + ys.length) * by_ ≤ 140737488355328) (hbase : base ≤ w.heap.size) {cs : Array Bool} {nx : Value → World → Prop}
    (h : ∀ v' w', w'.ownsRow base e 1 v' (n + ys.length) (xs ++ iv ys) → w.grownBy w' v.ownBlock → nx v' w') :
    Runs P (builtin .append #[t, t] ty cs [v, vs].toArray) w (builtinR nx) := by
  obtain ⟨i, hi, hzz, hsz, hbb⟩ := zinfo_some hz
  obtain ⟨A, c, rfl, hl, hcell⟩ := hs.at_
  have fin : ∀ v' w', (Builtin.append_ #[t, t] ty #[v, .slice A ys.length c]).run P w = .ok v' w' → nx v' w' → Runs P (builtin .append #[t, t] ty cs [v, .slice A ys.length c].toArray) w (builtinR nx) := fun v' w' hr hn => by
    refine ⟨.value v', w', ?_, hn⟩
    simp only [builtin]
    rw [Sem.run_bind]
    have : [v, Value.slice A ys.length c].toArray = #[v, .slice A ys.length c] := rfl
    rw [this, hr]
    rfl
  cases hA : A with
  | none =>
    subst hA
    have hy : ys = [] := by
      cases ys with
      | nil => rfl
      | cons y ys => obtain ⟨b, o, h1, _⟩ := hcell 0 (by simp); cases h1
    subst hy
    refine fin v w (run_append_none base t ty e i 1 ht hi v n c xs hown) (h v w ?_ (grownBy_refl _ _))
    simpa [iv] using hown
  | some a =>
    subst hA
    obtain ⟨v', w', hr, ho, hg, _⟩ := run_append_own (P := P) w base t ty e i z 1 by_ ht hi hzz hsz hbb hzs (by decide) v n xs hown a ys.length c (iv ys) (by simp)
      (fun j u hj => by
        have hjl : j < ys.length := by have := (List.getElem?_eq_some_iff.1 hj).1; simpa using this
        rw [iv_get _ _ hjl] at hj
        cases hj
        obtain ⟨b, o, h1, h2⟩ := hcell j hjl
        cases h1
        rw [add_at]; exact h2) (by simp [iv, Value.oneCell']) h63 hbytes hbase
    exact fin v' w' hr (h v' w' ho hg)
end Go.Proofs.Ytafjfcameabbmaa
