/- append of rows to one's own row; empty literals; structs built of parts. -/
import Derived.Test.YtldeokfhipjbfaaDoorVg17
import Derived.Maps.AppendAt
import Derived.Laws.Tables
set_option linter.unusedVariables false
set_option linter.unusedSimpArgs false
namespace Go.Proofs.Vg
open Go Go.RowKit
/-- An empty literal. -/
theorem Runs.lit00 {P : Program} {w : World} {t : TypeId} {e : Nat} {nx : Value → World → Prop} {z : Option Value} {sz by_ : Nat} (ht : P.underlying t = some (.slice e)) (hz : zinfo P e = some (z, sz, by_))
    (h : ∀ w1, Ext w w1 → w1.heap.size = w.heap.size + 1 → Blk w1 w.heap.size [] e → nx (.slice (some ⟨w.heap.size, 0, none⟩) 0 0) w1) : Runs P (Instr.buildSlice t 0 (#[] : Array (Nat × Value))) w nx := by
  obtain ⟨i, hi, hzz, hs, hb⟩ := zinfo_some hz
  refine ⟨_, newW w [] e, ?_, h _ (newW_ext _ _ _) (newW_size _ _ _) (newW_blk _ _ _)⟩
  simp [Instr.buildSlice, run_underlying ht, sizeOf, typeInfo, hi, newRow, newObj, Sem.run, newW, Instr.fill]
  congr 2
  exact Array.ext (by simp) (fun i h => by simp at h)
/-- A struct's places and zero cells. -/
def stInf (P : Program) (t : TypeId) : Option (List (Nat × Nat) × Array Value) := match P.info? t, P.underlying t with
  | some it, some (.struct fields) => (match it.zero, fields.toList.mapM (fun f => (P.info? f.type).map fun i => (f.offset, i.size)) with
    | some z, some places => some (places, z.cells)
    | _, _ => none)
  | _, _ => none
theorem built_of {P : Program} {t : TypeId} {pl : List (Nat × Nat)} {zc : Array Value} {parts : List (Nat × Value)} (h : stInf P t = some (pl, zc)) : P.built t parts = Instr.fill (pl.toArray[·]?) zc parts := by
  unfold stInf at h
  unfold Program.built
  split at h
  · rename_i it fields h1 h2
    rw [h1, h2]
    simp only
    split at h
    · rename_i z places h3 h4
      rw [h3, h4]
      cases h
      rfl
    · cases h
  · cases h
theorem run_append_none' {P : Program} {w : World} (base : Nat) (t ty e : TypeId) (i : TypeInfo) (size : Nat) (ht : P.underlying t = some (.slice e)) (hi : P.info? e = some i)
    (v : Value) (n c : Nat) (xs : List Value) (hown : w.ownsRow base e size v n xs) :
    (Builtin.append_ #[t, t] ty #[v, .slice none 0 c]).run P w = .ok v w := by
  rcases hown.2 with ⟨rfl, rfl⟩ | ⟨g, cap, cur, rfl, _, _, hnc, _⟩
  · simp [Builtin.append_, run_underlying ht, sizeOf, typeInfo, hi, Builtin.lenOf, Builtin.firstCells]
  · simp [Builtin.append_, run_underlying ht, sizeOf, typeInfo, hi, Builtin.lenOf, Builtin.firstCells, hnc, storeCells]
theorem flat_get {sz : Nat} : ∀ (rows : List (List Value)), (∀ r ∈ rows, r.length = sz) → ∀ (m : Nat) (u : Value), rows.flatten[m]? = some u → 0 < sz → ∃ j k row, rows[j]? = some row ∧ row[k]? = some u ∧ m = j * sz + k := by
  intro rows
  induction rows with
  | nil => intro _ m u h; simp at h
  | cons r rs ih =>
    intro hr m u h hs
    have h0 := hr r List.mem_cons_self
    rw [List.flatten_cons] at h
    rcases Nat.lt_or_ge m r.length with hm | hm
    · rw [List.getElem?_append_left hm] at h
      exact ⟨0, m, r, rfl, h, by omega⟩
    · rw [List.getElem?_append_right hm] at h
      obtain ⟨j, k, row, h1, h2, h3⟩ := ih (fun x hx => hr x (List.mem_cons_of_mem _ hx)) _ u h hs
      exact ⟨j + 1, k, row, by simpa using h1, h2, by rw [Nat.add_mul]; omega⟩
/-- append of a slice's rows to one's own row. -/
theorem Runs.appendR {P : Program} {w : World} {t ty e : TypeId} {z : Value} {sz by_ base : Nat} (ht : P.underlying t = some (.slice e)) (hz : zinfo P e = some (some z, sz, by_)) (hzs : z.cells.size = sz) (hsz : 0 < sz)
    {v vs : Value} {n : Nat} {xs : List Value} {rows : List (List Value)} (hown : w.ownsRow base e sz v n xs) (hs : Sli w sz vs rows) (hr : ∀ r ∈ rows, r.length = sz ∧ ∀ u ∈ r, u.oneCell' = true)
    (h63 : n + rows.length ≤ maxLen) (hbytes : (n + rows.length) * by_ ≤ 140737488355328) (hbase : base ≤ w.heap.size) {cs : Array Bool} {nx : Value → World → Prop}
    (h : ∀ v' w', w'.ownsRow base e sz v' (n + rows.length) (xs ++ rows.flatten) → w.grownBy w' v.ownBlock → (v'.ownBlock = v.ownBlock ∨ v'.ownBlock = some w.heap.size) → nx v' w') :
    Runs P (builtin .append #[t, t] ty cs [v, vs].toArray) w (builtinR nx) := by
  obtain ⟨i, hi, hzz, hsi, hbb⟩ := zinfo_some hz
  obtain ⟨A, c, rfl, hl, hcell⟩ := hs
  have fin : ∀ v' w', (Builtin.append_ #[t, t] ty #[v, .slice A rows.length c]).run P w = .ok v' w' → nx v' w' → Runs P (builtin .append #[t, t] ty cs [v, .slice A rows.length c].toArray) w (builtinR nx) := fun v' w' hr hn => by
    refine ⟨.value v', w', ?_, hn⟩
    simp only [builtin]
    rw [Sem.run_bind]
    have : [v, Value.slice A rows.length c].toArray = #[v, .slice A rows.length c] := rfl
    rw [this, hr]
    rfl
  cases hA : A with
  | none =>
    subst hA
    have hy : rows = [] := by
      cases rows with
      | nil => rfl
      | cons y ys => obtain ⟨b, o, h1, _⟩ := hcell 0 y rfl; cases h1
    subst hy
    refine fin v w (run_append_none' base t ty e i sz ht hi v n c xs hown) (h v w ?_ ⟨rfl, rfl, rfl, Nat.le_refl _, fun _ _ _ => rfl⟩ (.inl rfl))
    simpa using hown
  | some a =>
    subst hA
    have hlen : ∀ (rs : List (List Value)), (∀ r ∈ rs, r.length = sz) → rs.flatten.length = rs.length * sz := by
      intro rs
      induction rs with
      | nil => intro _; simp
      | cons r rs ih => intro h; rw [List.flatten_cons, List.length_append, h r List.mem_cons_self, ih (fun x hx => h x (List.mem_cons_of_mem _ hx)), List.length_cons, Nat.add_mul]; omega
    obtain ⟨v', w', hr2, ho, hg, _, hown2⟩ := run_append_own_at (P := P) w base t ty e i z sz by_ ht hi hzz hsi hbb hzs hsz v n xs hown a rows.length c rows.flatten (hlen rows fun r hr' => (hr r hr').1)
      (fun m u hm => by
        obtain ⟨j, k, row, h1, h2, h3⟩ := flat_get rows (fun r hr' => (hr r hr').1) m u hm hsz
        obtain ⟨b, o, h4, h5⟩ := hcell j row h1
        cases h4
        have := h5 k u h2
        rw [add_at] at this ⊢
        rw [h3, ← Nat.add_assoc]; exact this)
      (fun u hu => by obtain ⟨r, hr1, hr2⟩ := List.mem_flatten.1 hu; exact (hr r hr1).2 u hr2) h63 hbytes hbase
    exact fin v' w' hr2 (h v' w' ho hg hown2)
/-- append of one element that lies in a block of its own: where the row lies then. -/
theorem Runs.append1' {P : Program} {w : World} {t ty e : TypeId} {z : Value} {sz by_ base : Nat} (ht : P.underlying t = some (.slice e)) (hz : zinfo P e = some (some z, sz, by_)) (hzs : z.cells.size = sz) (hsz : 0 < sz)
    {v : Value} {n : Nat} {xs : List Value} (hown : w.ownsRow base e sz v n xs) {b : Nat} {news : List Value} {c : Nat} {eb : TypeId} (hb : Blk w b news eb) (hl : news.length = sz) (h1 : ∀ u ∈ news, u.oneCell' = true)
    (h63 : n + 1 ≤ maxLen) (hbytes : (n + 1) * by_ ≤ 140737488355328) (hbase : base ≤ w.heap.size) {cs : Array Bool} {nx : Value → World → Prop}
    (h : ∀ v' w', w'.ownsRow base e sz v' (n + 1) (xs ++ news) → w.grownBy w' v.ownBlock → (v'.ownBlock = v.ownBlock ∨ v'.ownBlock = some w.heap.size) → nx v' w') :
    Runs P (builtin .append #[t, t] ty cs [v, .slice (some ⟨b, 0, none⟩) 1 c].toArray) w (builtinR nx) := by
  refine Runs.appendR (rows := [news]) ht hz hzs hsz hown ⟨some ⟨b, 0, none⟩, c, rfl, by simp, fun j row hj => ⟨b, 0, rfl, ?_⟩⟩ (by simpa using ⟨hl, h1⟩) h63 hbytes hbase (by simpa using h)
  have hj0 : j = 0 := by have := (List.getElem?_eq_some_iff.1 hj).1; simp at this; exact this
  subst hj0
  simp at hj; subst hj
  rw [Nat.zero_mul]
  exact hb.cells (o := 0) (fun j u hj => by simpa using hj)
end Go.Proofs.Vg
