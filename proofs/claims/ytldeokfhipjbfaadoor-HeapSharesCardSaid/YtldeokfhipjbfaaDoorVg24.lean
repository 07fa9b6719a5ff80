/- Reading: with the datum's size. -/
import Derived.Test.YtldeokfhipjbfaaDoorVg17
set_option linter.unusedVariables false
set_option linter.unusedSimpArgs false
namespace Go.Proofs.Vg
open Go Go.RowKit Go.Deep Go.ChangeShapes Go.WideShapes Go.ChangeAt

section
variable {H : Type} {enc : TypeId × Value → H} {P : Program} {w : World} {base : Nat} {spare : Nat → Bool} {held : Bool}
/-- A SLICE THAT IS READ. -/
theorem rd_slice' {t e : TypeId} {sz fuel : Nat} {cs : List Value} {x : DataW H × List MemPlace} (ht : P.underlying t = some (.slice e)) (hc : P.cellsOf e = sz) (h0 : 0 < sz) (hb : 0 < P.bytesOf e) (h : DataW.trod enc P w base spare held fuel t cs = some x) (hs : Small P t x.1) :
    ∃ v rows, cs = [v] ∧ Sli w sz v rows ∧ v.oneCell' = true ∧ v.cells = #[v] ∧ ∀ (i : Nat) (row : List Value), rows[i]? = some row → row.length = sz ∧ ∃ (f : Nat) (y : DataW H × List MemPlace), DataW.trod enc P w base spare held f e row = some y ∧ Small P e y.1 ∧ SizeOf.sizeOf y.1 < SizeOf.sizeOf x.1 := by
  rcases open_slice ht h with ⟨rfl, rfl⟩ | ⟨a, len, cap, m, n, D, Pl, rfl, hba, hl, hm, hmm, rfl, hx⟩
  · exact ⟨_, [], rfl, ⟨none, 0, rfl, by simp, fun j row hj => by simp at hj⟩, rfl, rfl, fun i row hr => by simp at hr⟩
  rw [hc] at hx
  have hlm : len ≤ m := by rw [hmm]; split <;> omega
  obtain ⟨R, hR⟩ := choose_lt (α := List Value) (p := fun i cs' => w.cells? base (a.add (i * sz)) sz = some cs' ∧ DataW.trod enc P w base spare held n e cs' = some (D i, Pl i)) hx
  have hlen : len ≤ 140737488355328 := by
    have := hs ((len + (m - len)) * P.bytesOf e) (by simp [DataW.weights, ht])
    have h1 : len * 1 ≤ (len + (m - len)) * P.bytesOf e := Nat.mul_le_mul (by omega) hb
    have h2 : reachBytes ≤ 140737488355328 := by decide
    omega
  refine ⟨_, (List.range len).map R, rfl, ⟨some a, cap, by simp, by simpa using hlen, fun j row hj => ?_⟩, rfl, rfl, fun i row hr => ?_⟩
  · have hjl : j < len := by have := (List.getElem?_eq_some_iff.1 hj).1; simpa using this
    simp [hjl] at hj
    subst hj
    obtain ⟨h1, _⟩ := hR j (by omega)
    obtain ⟨_, hrl, hcl⟩ := World.cells?_some h1
    have hcell : ∀ k u, (R j)[k]? = some u → w.cell? ((a.add (j * sz)).add k) = some u := fun k u hk => by
      have hk' : k < sz := by rw [← hrl]; exact (List.getElem?_eq_some_iff.1 hk).1
      rw [hcl k hk', hk]
    have hsp : a.spot = none := by
      have h00 : 0 < (R 0).length := by
        obtain ⟨h1, _⟩ := hR 0 (by omega)
        rw [(World.cells?_some h1).2.1]; exact h0
      obtain ⟨h2, _⟩ := hR 0 (by omega)
      have := (World.cells?_some h2).2.2 0 h0
      rw [List.getElem?_eq_getElem h00] at this
      have := cell_spot this
      simpa [Addr.add] using this
    obtain ⟨b, o, sp⟩ := a
    simp only at hsp
    subst hsp
    refine ⟨b, o, rfl, fun k u hk => ?_⟩
    have := hcell k u hk
    rw [add_at] at this
    exact this
  · have hjl : i < len := by have := (List.getElem?_eq_some_iff.1 hr).1; simpa using this
    simp [hjl] at hr
    subst hr
    obtain ⟨h1, h2⟩ := hR i (by omega)
    refine ⟨(World.cells?_some h1).2.1, n, _, h2, fun q hq => hs q ?_, by
      have hm : D i ∈ (List.range len).map D := List.mem_map.2 ⟨i, List.mem_range.2 hjl, rfl⟩
      have := List.sizeOf_lt_of_mem hm
      simp
      omega⟩
    simp only [DataW.weights, ht, List.mem_cons, List.mem_append]
    exact .inr (.inl (weightsAll_mem (List.mem_map.2 ⟨i, List.mem_range.2 hjl, rfl⟩) q hq))
/-- A struct's field. -/
theorem rd_field' {t : TypeId} {fs : Array Field} {fuel : Nat} {cs : List Value} {x : DataW H × List MemPlace} (ht : P.underlying t = some (.struct fs)) (h : DataW.trod enc P w base spare held fuel t cs = some x) (hs : Small P t x.1) {i : Nat} {f : Field} (hf : fs[i]? = some f) :
    ∃ (n : Nat) (y : DataW H × List MemPlace), DataW.trod enc P w base spare held n f.type ((cs.drop f.offset).take (P.cellsOf f.type)) = some y ∧ Small P f.type y.1 ∧ SizeOf.sizeOf y.1 < SizeOf.sizeOf x.1 := by
  obtain ⟨xs, n, _, rfl, hl, hlen, hfs⟩ := DataW.trod_struct ht h
  have h1 := hfs i f hf
  have hi : i < xs.length := by rw [hlen]; exact (Array.getElem?_eq_some_iff.1 hf).1
  rw [List.getElem?_eq_getElem hi] at h1
  refine ⟨n, _, h1, fun q hq => hs q ?_, by
    have hm : (xs[i]).1 ∈ xs.map (·.1) := List.mem_map.2 ⟨xs[i], List.getElem_mem hi, rfl⟩
    have := List.sizeOf_lt_of_mem hm
    simp
    omega⟩
  simp only [DataW.weights, ht]
  exact DataW.weights_mem_each (j := i) (t := f.type) (d := xs[i].1) (by simp [Array.getElem?_toList, hf]) (by simp [hi]) q hq
theorem rd_fld' {t i o : Nat} {ft : TypeId} {fuel : Nat} {cs : List Value} {x : DataW H × List MemPlace} (hf : fld P t i = some (ft, o)) (h : DataW.trod enc P w base spare held fuel t cs = some x) (hs : Small P t x.1) :
    ∃ (n : Nat) (y : DataW H × List MemPlace), DataW.trod enc P w base spare held n ft ((cs.drop o).take (P.cellsOf ft)) = some y ∧ Small P ft y.1 ∧ SizeOf.sizeOf y.1 < SizeOf.sizeOf x.1 := by
  unfold fld at hf
  split at hf
  · rename_i fs ht
    cases hfi : fs[i]? with
    | none => simp [hfi] at hf
    | some f =>
      simp [hfi] at hf
      obtain ⟨rfl, rfl⟩ := hf
      exact rd_field' ht h hs hfi
  · cases hf
end
end Go.Proofs.Vg
