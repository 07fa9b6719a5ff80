/- What comes in: slices read, as 'Sli'. -/
import Derived.Test.YtldeokfhipjbfaaDoorVg16
import Derived.Deep.Slices
import Derived.SizedLaws
import Derived.Carry
import Derived.ProofKit
set_option linter.unusedVariables false
set_option linter.unusedSimpArgs false
namespace Go.Proofs.Vg
open Go Go.RowKit Go.Deep Go.ChangeShapes Go.WideShapes Go.ChangeAt

section
variable {H : Type} {enc : TypeId × Value → H} {P : Program} {w : World} {base : Nat} {spare : Nat → Bool} {held : Bool}

/-- No part of it is too great. -/
def Small (P : Program) (t : TypeId) (d : DataW H) : Prop := ∀ n ∈ d.weights P t, n ≤ reachBytes
theorem small_of_all {ts : List TypeId} {ds : List (DataW H)} (h : (DataW.weightsEach P ts ds).all (· ≤ reachBytes) = true) {j : Nat} {t : TypeId} {d : DataW H} (ht : ts[j]? = some t) (hd : ds[j]? = some d) : Small P t d := fun n hn => by
  have := List.all_eq_true.1 h n (DataW.weights_mem_each ht hd n hn)
  simpa using this
theorem weightsAll_mem {e : TypeId} : ∀ {l : List (DataW H)} {d : DataW H}, d ∈ l → ∀ n ∈ d.weights P e, n ∈ DataW.weightsAll P e l
  | d0 :: l, d, hd, n, hn => by
    simp only [DataW.weightsAll, List.mem_append]
    rcases List.mem_cons.1 hd with rfl | hd
    · exact .inl hn
    · exact .inr (weightsAll_mem hd n hn)
theorem cell_spot {w : World} {a : Addr} {v : Value} (h : w.cell? a = some v) : a.spot = none := by
  unfold World.cell? at h
  split at h
  · cases hs : a.spot with
    | none => rfl
    | some s => simp [hs] at h
  · cases h

/-- A SLICE THAT IS READ. -/
theorem rd_slice {t e : TypeId} {sz fuel : Nat} {cs : List Value} {x : DataW H × List MemPlace} (ht : P.underlying t = some (.slice e)) (hc : P.cellsOf e = sz) (h0 : 0 < sz) (hb : 0 < P.bytesOf e) (h : DataW.trod enc P w base spare held fuel t cs = some x) (hs : Small P t x.1) :
    ∃ v rows, cs = [v] ∧ Sli w sz v rows ∧ v.oneCell' = true ∧ v.cells = #[v] ∧ ∀ (i : Nat) (row : List Value), rows[i]? = some row → row.length = sz ∧ ∃ (f : Nat) (y : DataW H × List MemPlace), DataW.trod enc P w base spare held f e row = some y ∧ Small P e y.1 := by
  rcases open_slice ht h with ⟨rfl, rfl⟩ | ⟨a, len, cap, m, n, D, Pl, rfl, hba, hl, hm, hmm, rfl, hx⟩
  · exact ⟨_, [], rfl, ⟨none, 0, rfl, by simp, fun j row hj => by simp at hj⟩, rfl, rfl, fun i row hr => by simp at hr⟩
  rw [hc] at hx
  have hlm : len ≤ m := by rw [hmm]; split <;> omega
  obtain ⟨R, hR⟩ := choose_lt (α := List Value) (p := fun i cs' => w.cells? base (a.add (i * sz)) sz = some cs' ∧ DataW.trod enc P w base spare held n e cs' = some (D i, Pl i)) hx
  have hlen : len ≤ 140737488355328 := by
    have := hs ((len + (m - len)) * P.bytesOf e) (by simp [DataW.weights, ht])
    have h1 : len * 1 ≤ (len + (m - len)) * P.bytesOf e := Nat.mul_le_mul (by omega) hb
    have h2 : reachBytes ≤ 140737488355328 := by decide
    omega
  refine ⟨_, (List.range len).map R, rfl, ⟨some a, cap, by simp, by simpa using hlen, fun j row hj => ?_⟩, rfl, rfl, fun i row hr => ?_⟩
  · have hjl : j < len := by have := (List.getElem?_eq_some_iff.1 hj).1; simpa using this
    simp [hjl] at hj
    subst hj
    obtain ⟨h1, _⟩ := hR j (by omega)
    obtain ⟨_, hrl, hcl⟩ := World.cells?_some h1
    have hcell : ∀ k u, (R j)[k]? = some u → w.cell? ((a.add (j * sz)).add k) = some u := fun k u hk => by
      have hk' : k < sz := by rw [← hrl]; exact (List.getElem?_eq_some_iff.1 hk).1
      rw [hcl k hk', hk]
    have hsp : a.spot = none := by
      have h00 : 0 < (R 0).length := by
        obtain ⟨h1, _⟩ := hR 0 (by omega)
        rw [(World.cells?_some h1).2.1]; exact h0
      obtain ⟨h2, _⟩ := hR 0 (by omega)
      have := (World.cells?_some h2).2.2 0 h0
      rw [List.getElem?_eq_getElem h00] at this
      have := cell_spot this
      simpa [Addr.add] using this
    obtain ⟨b, o, sp⟩ := a
    simp only at hsp
    subst hsp
    refine ⟨b, o, rfl, fun k u hk => ?_⟩
    have := hcell k u hk
    rw [add_at] at this
    exact this
  · have hjl : i < len := by have := (List.getElem?_eq_some_iff.1 hr).1; simpa using this
    simp [hjl] at hr
    subst hr
    obtain ⟨h1, h2⟩ := hR i (by omega)
    refine ⟨(World.cells?_some h1).2.1, n, _, h2, fun q hq => hs q ?_⟩
    simp only [DataW.weights, ht, List.mem_cons, List.mem_append]
    exact .inr (.inl (weightsAll_mem (List.mem_map.2 ⟨i, List.mem_range.2 hjl, rfl⟩) q hq))
/-- A struct's field. -/
theorem rd_field {t : TypeId} {fs : Array Field} {fuel : Nat} {cs : List Value} {x : DataW H × List MemPlace} (ht : P.underlying t = some (.struct fs)) (h : DataW.trod enc P w base spare held fuel t cs = some x) (hs : Small P t x.1) {i : Nat} {f : Field} (hf : fs[i]? = some f) :
    ∃ (n : Nat) (y : DataW H × List MemPlace), DataW.trod enc P w base spare held n f.type ((cs.drop f.offset).take (P.cellsOf f.type)) = some y ∧ Small P f.type y.1 := by
  obtain ⟨xs, n, _, rfl, hl, hlen, hfs⟩ := DataW.trod_struct ht h
  have h1 := hfs i f hf
  have hi : i < xs.length := by rw [hlen]; exact (Array.getElem?_eq_some_iff.1 hf).1
  rw [List.getElem?_eq_getElem hi] at h1
  refine ⟨n, _, h1, fun q hq => hs q ?_⟩
  simp only [DataW.weights, ht]
  exact DataW.weights_mem_each (j := i) (t := f.type) (d := xs[i].1) (by simp [Array.getElem?_toList, hf]) (by simp [hi]) q hq
def fld (P : Program) (t i : Nat) : Option (TypeId × Nat) := match P.underlying t with
  | some (.struct fs) => (fs[i]?).map fun f => (f.type, f.offset)
  | _ => none
theorem rd_fld {t i o : Nat} {ft : TypeId} {fuel : Nat} {cs : List Value} {x : DataW H × List MemPlace} (hf : fld P t i = some (ft, o)) (h : DataW.trod enc P w base spare held fuel t cs = some x) (hs : Small P t x.1) :
    ∃ (n : Nat) (y : DataW H × List MemPlace), DataW.trod enc P w base spare held n ft ((cs.drop o).take (P.cellsOf ft)) = some y ∧ Small P ft y.1 := by
  unfold fld at hf
  split at hf
  · rename_i fs ht
    cases hfi : fs[i]? with
    | none => simp [hfi] at hf
    | some f =>
      simp [hfi] at hf
      obtain ⟨rfl, rfl⟩ := hf
      exact rd_field ht h hs hfi
  · cases hf
theorem rd_anySlice {t : TypeId} {fuel : Nat} {cs : List Value} {x : DataW H × List MemPlace} (ht : isSlice P t = true) (h : DataW.trod enc P w base spare held fuel t cs = some x) : ∃ v : Value, cs = [v] ∧ v.oneCell' = true ∧ v.cells = #[v] := by
  unfold isSlice at ht
  split at ht
  · rename_i e he
    rcases DataW.trod_slice he h with ⟨rfl, _⟩ | ⟨a, len, cap, _, _, _, _, rfl, _⟩
    · exact ⟨_, rfl, rfl, rfl⟩
    · exact ⟨_, rfl, rfl, rfl⟩
  · cases ht
/-- A slice of ints; of bools. -/
theorem rd_ints {t e : TypeId} {fuel : Nat} {cs : List Value} {x : DataW H × List MemPlace} (ht : P.underlying t = some (.slice e)) (he : P.underlying e = some (.int .i64)) (hc : P.cellsOf e = 1) (hb : 0 < P.bytesOf e) (h : DataW.trod enc P w base spare held fuel t cs = some x) (hs : Small P t x.1) :
    ∃ v xs, cs = [v] ∧ SlI w v xs ∧ v.oneCell' = true ∧ v.cells = #[v] := by
  obtain ⟨v, rows, rfl, hsl, h1, h2, hr⟩ := rd_slice ht hc (by decide) hb h hs
  have : ∃ xs : List Int, rows = ints xs := by
    clear hsl
    induction rows with
    | nil => exact ⟨[], rfl⟩
    | cons r rows ih =>
      obtain ⟨xs, rfl⟩ := ih (fun i row hi => hr (i + 1) row (by simpa using hi))
      obtain ⟨_, f, y, hy, _⟩ := hr 0 r rfl
      obtain ⟨n, rfl, _⟩ := DataW.trod_int he hy
      exact ⟨n :: xs, rfl⟩
  obtain ⟨xs, rfl⟩ := this
  exact ⟨v, xs, rfl, hsl, h1, h2⟩
theorem rd_bools {t e : TypeId} {fuel : Nat} {cs : List Value} {x : DataW H × List MemPlace} (ht : P.underlying t = some (.slice e)) (he : P.underlying e = some .bool) (hc : P.cellsOf e = 1) (hb : 0 < P.bytesOf e) (h : DataW.trod enc P w base spare held fuel t cs = some x) (hs : Small P t x.1) :
    ∃ v xs, cs = [v] ∧ SlB w v xs ∧ v.oneCell' = true ∧ v.cells = #[v] := by
  obtain ⟨v, rows, rfl, hsl, h1, h2, hr⟩ := rd_slice ht hc (by decide) hb h hs
  have : ∃ xs : List Bool, rows = bls xs := by
    clear hsl
    induction rows with
    | nil => exact ⟨[], rfl⟩
    | cons r rows ih =>
      obtain ⟨xs, rfl⟩ := ih (fun i row hi => hr (i + 1) row (by simpa using hi))
      obtain ⟨_, f, y, hy, _⟩ := hr 0 r rfl
      obtain ⟨n, rfl, _⟩ := DataW.trod_bool he hy
      exact ⟨n :: xs, rfl⟩
  obtain ⟨xs, rfl⟩ := this
  exact ⟨v, xs, rfl, hsl, h1, h2⟩
theorem Trod_ext {t : TypeId} (hl : laidOutB P = true) (hr : P.readableRec t = true) (hrow : t < P.types.size) {W W' : World} {sp : Nat → Bool} {v : Value} {d : DataW H} {ps : List MemPlace}
    (h : DataW.Trod enc P W 0 (fun _ => true) true t v d ps) (he : Ext W W') (hlt : ∀ x ∈ ps, x.block < W.heap.size) (hs : ∀ p ∈ ps, sp p.block = true) : DataW.Trod enc P W' 0 sp true t v d ps :=
  WideElems.Trod_stays hl hr hrow h (fun x hx => Below.same he (hlt x hx)) hs
/-- What a law's row asks behind the call: true; all reads as it did. -/
theorem post_ext {f : Func} {s : ChangeSpec} {apart fresh handsOn : Bool} {W W' : World} {args : Array Value} {v : Value} {ds : List (DataW H)} {before : List MemPlace} (hvs : s.vars = [])
    (hW : DataW.Whole enc P f.params.toList s.vars apart W args.toList ds [] before) (he : Ext W W')
    (hres : ∀ (b : Nat) (sp : Nat → Bool) (hd : Bool), DataW.TrodAll enc P W' b sp hd f.resultTypes.toList (v.resultList f.resultTypes.size) (s.fn H ds).results [])
    (hargs : ∀ sp : Nat → Bool, (∀ p ∈ before, sp p.block = true) → DataW.TrodAll enc P W' 0 sp true f.params.toList args.toList (s.fn H ds).args before) (hv : (s.fn H ds).vars = []) :
    s.post enc P f apart fresh handsOn false W args v W' := by
  have hold : ∀ p ∈ before, (fun b => decide (b < W.heap.size)) p.block = true := fun p hp => by simpa using hW.lt p hp
  refine ⟨ds, [], before, [], before, [], hW, ?_, ?_, ?_, World.keptBut_mono (fun p hp => ⟨hp, .inr (.inl hp)⟩) (Below.frame he (· ∈ before)), fun h => by cases h⟩
  · rw [List.append_nil]; exact hres _ _ _
  · rw [List.append_nil]; exact hargs _ hold
  · rw [hvs, List.append_nil, hv]; rfl
end
end Go.Proofs.Vg
