/- A map from ints to values: its reading, and its look-up. -/
import Derived.Test.YtldeokfhipjbfaaDoorVg18
set_option linter.unusedVariables false
set_option linter.unusedSimpArgs false
namespace Go.Proofs.Vg
open Go Go.RowKit Go.MapKept

/-- A map whose keys are ints: what it holds. -/
def MapI (w : World) (r : Nat) (f : Int → Option Value) : Prop :=
  ∃ es clock, w.heap[r]? = some (.map es clock) ∧ (∀ e ∈ es.toList, ∃ n, e.key = .int .i64 n ∧ f n = some e.val) ∧ ∀ n v, f n = some v → ∃ e ∈ es.toList, e.key = .int .i64 n
theorem MapI.block {w w' : World} {r : Nat} {f : Int → Option Value} (h : MapI w r f) (hb : w'.heap[r]? = w.heap[r]?) : MapI w' r f := by
  obtain ⟨es, clock, h1, h2⟩ := h
  exact ⟨es, clock, hb.trans h1, h2⟩
theorem MapI.lt {w : World} {r : Nat} {f : Int → Option Value} (h : MapI w r f) : r < w.heap.size := by
  obtain ⟨es, clock, h1, h2⟩ := h
  exact (Array.getElem?_eq_some_iff.1 h1).1
theorem MapI.chg {w w' : World} {r : Nat} {f : Int → Option Value} {S : Nat → Prop} (h : MapI w r f) (hc : Chg S w w') (hs : ¬ S r) : MapI w' r f := h.block (hc.block r h.lt hs)
theorem MapI.ext {w w' : World} {r : Nat} {f : Int → Option Value} (h : MapI w r f) (he : Ext w w') : MapI w' r f := h.chg (he.chg (fun _ => False)) id

section
variable {P : Program} {w : World} {t kt et : TypeId} {r : Nat} {f : Int → Option Value}
theorem MapI.mk {es : List MapEntry} {clock : Nat} (hb : w.heap[r]? = some (.map es.toArray clock)) (h1 : ∀ e ∈ es, ∃ n, e.key = .int .i64 n ∧ f n = some e.val) (h2 : ∀ n v, f n = some v → ∃ e ∈ es, e.key = .int .i64 n) : MapI w r f :=
  ⟨_, _, hb, by simpa using h1, by simpa using h2⟩
theorem Runs.makeMapI {nx : Value → World → Prop} (h : ∀ w1, Ext w w1 → w1.heap.size = w.heap.size + 1 → MapI w1 w.heap.size (fun _ => none) → nx (.map (some w.heap.size)) w1) : Runs P (Instr.makeMap t none) w nx := by
  refine ⟨_, w.alloc (.map #[] 0), by simp [Instr.makeMap, Result.andThen], h _ ⟨rfl, rfl, rfl, by simp, fun k hk => Below.heap_alloc w _ k hk⟩ (by simp) ⟨#[], 0, heap_alloc_new w _, by simp, by simp⟩⟩
theorem run_lookupI {z : Value} {sz by_ : Nat} {okk : Bool} (hm : P.underlying t = some (.map kt et)) (hk : P.underlying kt = some (.int .i64)) (hz : zinfo P et = some (some z, sz, by_)) (h : MapI w r f) (n : Int) :
    (Instr.lookup t (.map (some r)) (.int .i64 n) okk).run P w = .ok (if okk then .tuple #[(f n).getD z, .bool (f n).isSome] else (f n).getD z) w := by
  obtain ⟨es, clock, hb, hall, hf⟩ := h
  obtain ⟨i, hi, hzz, _, _⟩ := zinfo_some hz
  have hk0 := isKey_i64 n
  rcases findNow_spec hk0 es.toList 0 (fun x hx => by obtain ⟨m, hm, _⟩ := hall x hx; rw [hm]; exact isKey_i64 m) with ⟨h1, h2⟩ | ⟨j, e, h1, h2, h3⟩
  · have hfn : f n = none := by
      cases hx : f n with
      | none => rfl
      | some v => obtain ⟨e, he, hke⟩ := hf n v hx; exact absurd hke (h2 e he)
    rw [hfn]
    cases okk <;> simp [Instr.lookup, run_underlying hm, MapKept.run_getObj_map hb, MapKept.run_checkKey hk hk0, MapKept.run_findKey hk h1, Result.andThen, zeroValue, typeInfo, hi, hzz]
  · have hme : e ∈ es.toList := List.mem_of_getElem? h2
    obtain ⟨m, hm1, hm2⟩ := hall e hme
    have hmn : m = n := by rw [hm1] at h3; injection h3
    subst hmn
    rw [hm2]
    cases okk <;> simp [Instr.lookup, run_underlying hm, MapKept.run_getObj_map hb, MapKept.run_checkKey hk hk0, MapKept.run_findKey hk h1, Result.andThen]
theorem Runs.lookupI {z : Value} {sz by_ : Nat} {nx : Value → World → Prop} {okk : Bool} (hm : P.underlying t = some (.map kt et)) (hk : P.underlying kt = some (.int .i64)) (hz : zinfo P et = some (some z, sz, by_)) (h : MapI w r f) (n : Int)
    (hn : nx (if okk then .tuple #[(f n).getD z, .bool (f n).isSome] else (f n).getD z) w) :
    Runs P (Instr.lookup t (.map (some r)) (.int .i64 n) okk) w nx := by
  exact ⟨_, w, run_lookupI hm hk hz h n, hn⟩
/-- A new key. -/
theorem Runs.mapPut {nx : World → Prop} (hm : P.underlying t = some (.map kt et)) (hk : P.underlying kt = some (.int .i64)) (h : MapI w r f) (n : Int) (v : Value) (hno : f n = none)
    (hn : ∀ w1, Chg (· = r) w w1 → w1.heap.size = w.heap.size → MapI w1 r (fun x => if x = n then some v else f x) → nx w1) :
    Runs P (Instr.mapUpdate t (.map (some r)) (.int .i64 n) v) w (fun _ w' => nx w') := by
  obtain ⟨es, clock, hb, hall, hf⟩ := h
  have hk0 := isKey_i64 n
  have hchg : ∀ o : Obj, Chg (· = r) w { w with heap := w.heap.setIfInBounds r o } := fun o => ⟨rfl, rfl, rfl, by simp, fun k _ hk => (heap_set (o' := o) hb).2 k hk⟩
  rcases findNow_spec hk0 es.toList 0 (fun x hx => by obtain ⟨m, hm, _⟩ := hall x hx; rw [hm]; exact isKey_i64 m) with ⟨h1, h2⟩ | ⟨j, e, h1, h2, h3⟩
  · refine ⟨(), _, by simp [Instr.mapUpdate, run_underlying hm, MapKept.run_getObj_map hb, MapKept.run_checkKey hk hk0, MapKept.run_findKey hk h1, MapKept.run_setObj_map _ hb, Result.andThen]; rfl, hn _ (hchg _) (by simp) ⟨_, _, (heap_set hb).1, fun x hx => ?_, fun m u hu => ?_⟩⟩
    · simp only [Array.toList_push, List.mem_append, List.mem_singleton] at hx
      rcases hx with hx | rfl
      · obtain ⟨m, hm1, hm2⟩ := hall x hx
        refine ⟨m, hm1, ?_⟩
        have : m ≠ n := fun e => by subst e; rw [hno] at hm2; cases hm2
        simp [this, hm2]
      · exact ⟨n, rfl, by simp⟩
    · simp only [Array.toList_push, List.mem_append, List.mem_singleton]
      by_cases hmn : m = n
      · subst hmn; exact ⟨_, .inr rfl, rfl⟩
      · simp [hmn] at hu
        obtain ⟨e, he, hke⟩ := hf m u hu
        exact ⟨e, .inl he, hke⟩
  · exfalso
    have hme : e ∈ es.toList := List.mem_of_getElem? h2
    obtain ⟨m, hm1, hm2⟩ := hall e hme
    have hmn : m = n := by rw [hm1] at h3; injection h3
    subst hmn
    rw [hno] at hm2; cases hm2
end
end Go.Proofs.Vg
