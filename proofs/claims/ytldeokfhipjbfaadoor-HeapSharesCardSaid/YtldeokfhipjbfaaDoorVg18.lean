/- A map of ints: a set of numbers. -/
import Derived.Test.YtldeokfhipjbfaaDoorVg16
import Derived.MapKept
set_option linter.unusedVariables false
set_option linter.unusedSimpArgs false
namespace Go.Proofs.Vg
open Go Go.RowKit Go.MapKept

/-- A map whose keys are ints, and whose values are all 'true'. -/
def MapS (w : World) (r : Nat) (f : Int → Bool) : Prop :=
  ∃ es clock, w.heap[r]? = some (.map es clock) ∧ (∀ e ∈ es.toList, IsKey (.int .i64) e.key ∧ e.val = .bool true) ∧ ∀ n, f n = true ↔ ∃ e ∈ es.toList, e.key = .int .i64 n
theorem MapS.block {w w' : World} {r : Nat} {f : Int → Bool} (h : MapS w r f) (hb : w'.heap[r]? = w.heap[r]?) : MapS w' r f := by
  obtain ⟨es, clock, h1, h2⟩ := h
  exact ⟨es, clock, hb.trans h1, h2⟩
theorem MapS.lt {w : World} {r : Nat} {f : Int → Bool} (h : MapS w r f) : r < w.heap.size := by
  obtain ⟨es, clock, h1, h2⟩ := h
  exact (Array.getElem?_eq_some_iff.1 h1).1
theorem MapS.chg {w w' : World} {r : Nat} {f : Int → Bool} {S : Nat → Prop} (h : MapS w r f) (hc : Chg S w w') (hs : ¬ S r) : MapS w' r f := h.block (hc.block r h.lt hs)
theorem MapS.ext {w w' : World} {r : Nat} {f : Int → Bool} (h : MapS w r f) (he : Ext w w') : MapS w' r f := h.chg (he.chg (fun _ => False)) id

section
variable {P : Program} {w : World} {t kt et : TypeId} {r : Nat} {f : Int → Bool}
theorem isKey_i64 (n : Int) : IsKey (.int .i64) (.int .i64 n) := by simp [IsKey]
theorem Runs.makeMap {nx : Value → World → Prop} (h : ∀ w1, Ext w w1 → w1.heap.size = w.heap.size + 1 → MapS w1 w.heap.size (fun _ => false) → nx (.map (some w.heap.size)) w1) : Runs P (Instr.makeMap t none) w nx := by
  refine ⟨_, w.alloc (.map #[] 0), by simp [Instr.makeMap, Result.andThen], h _ ⟨rfl, rfl, rfl, by simp, fun k hk => Below.heap_alloc w _ k hk⟩ (by simp) ⟨#[], 0, heap_alloc_new w _, by simp, by simp⟩⟩
theorem Runs.lookupS {sz by_ : Nat} {nx : Value → World → Prop} (hm : P.underlying t = some (.map kt et)) (hk : P.underlying kt = some (.int .i64)) (hz : zinfo P et = some (some (.bool false), sz, by_)) (h : MapS w r f) (n : Int) (hn : nx (.bool (f n)) w) :
    Runs P (Instr.lookup t (.map (some r)) (.int .i64 n) false) w nx := by
  obtain ⟨es, clock, hb, hall, hf⟩ := h
  obtain ⟨i, hi, hzz, _, _⟩ := zinfo_some hz
  have hk0 := isKey_i64 n
  rcases findNow_spec hk0 es.toList 0 (fun x hx => (hall x hx).1) with ⟨h1, h2⟩ | ⟨j, e, h1, h2, h3⟩
  · have hfn : f n = false := by
      cases hx : f n with
      | false => rfl
      | true => obtain ⟨e, he, hke⟩ := (hf n).1 hx; exact absurd hke (h2 e he)
    rw [hfn] at hn
    refine ⟨_, w, ?_, hn⟩
    simp [Instr.lookup, run_underlying hm, MapKept.run_getObj_map hb, MapKept.run_checkKey hk hk0, MapKept.run_findKey hk h1, Result.andThen, zeroValue, typeInfo, hi, hzz]
  · have hme : e ∈ es.toList := List.mem_of_getElem? h2
    have hfn : f n = true := (hf n).2 ⟨e, hme, h3⟩
    rw [hfn, ← (hall e hme).2] at hn
    refine ⟨_, w, ?_, hn⟩
    simp [Instr.lookup, run_underlying hm, MapKept.run_getObj_map hb, MapKept.run_checkKey hk hk0, MapKept.run_findKey hk h1, Result.andThen]
theorem Runs.mapSet {nx : World → Prop} (hm : P.underlying t = some (.map kt et)) (hk : P.underlying kt = some (.int .i64)) (h : MapS w r f) (n : Int)
    (hn : ∀ w1, Chg (· = r) w w1 → w1.heap.size = w.heap.size → MapS w1 r (fun x => f x || decide (x = n)) → nx w1) :
    Runs P (Instr.mapUpdate t (.map (some r)) (.int .i64 n) (.bool true)) w (fun _ w' => nx w') := by
  obtain ⟨es, clock, hb, hall, hf⟩ := h
  have hk0 := isKey_i64 n
  have hchg : ∀ o : Obj, Chg (· = r) w { w with heap := w.heap.setIfInBounds r o } := fun o => ⟨rfl, rfl, rfl, by simp, fun k _ hk => (heap_set (o' := o) hb).2 k hk⟩
  rcases findNow_spec hk0 es.toList 0 (fun x hx => (hall x hx).1) with ⟨h1, h2⟩ | ⟨j, e, h1, h2, h3⟩
  · refine ⟨(), _, by simp [Instr.mapUpdate, run_underlying hm, MapKept.run_getObj_map hb, MapKept.run_checkKey hk hk0, MapKept.run_findKey hk h1, MapKept.run_setObj_map _ hb, Result.andThen]; rfl, hn _ (hchg _) (by simp) ⟨_, _, (heap_set hb).1, fun x hx => ?_, fun m => ?_⟩⟩
    · simp only [Array.toList_push, List.mem_append, List.mem_singleton] at hx
      rcases hx with hx | rfl
      · exact hall x hx
      · exact ⟨hk0, rfl⟩
    · simp only [Array.toList_push, List.mem_append, List.mem_singleton, Bool.or_eq_true, decide_eq_true_eq, hf m]
      constructor
      · rintro (⟨e, he, hke⟩ | rfl)
        · exact ⟨e, .inl he, hke⟩
        · exact ⟨_, .inr rfl, rfl⟩
      · rintro ⟨e, he | rfl, hke⟩
        · exact .inl ⟨e, he, hke⟩
        · simp at hke; exact .inr hke.symm
  · have hj : es[j]? = some e := by simpa using h2
    have hme : e ∈ es.toList := List.mem_of_getElem? h2
    have hsame : es.modify j (fun e => { e with key := .int .i64 n, val := .bool true }) = es := by
      apply Array.ext_getElem?
      intro i
      rw [Array.getElem?_modify]
      split
      · rename_i hij; subst hij
        rw [hj]
        simp only [Option.map_some]
        congr 1
        obtain ⟨k, v, b⟩ := e
        have := (hall _ hme).2
        simp only at this h3
        subst this; subst h3; rfl
      · rfl
    refine ⟨(), { w with heap := w.heap.setIfInBounds r (.map es clock) }, by simp [Instr.mapUpdate, run_underlying hm, MapKept.run_getObj_map hb, MapKept.run_checkKey hk hk0, MapKept.run_findKey hk h1, hj, h3, run_keyThatStays hk0, MapKept.run_setObj_map _ hb, Result.andThen, hsame], hn _ (hchg _) (by simp) ⟨_, _, (heap_set hb).1, hall, fun m => ?_⟩⟩
    simp only [Bool.or_eq_true, decide_eq_true_eq, hf m]
    constructor
    · rintro (h | rfl)
      · exact h
      · exact ⟨e, hme, h3⟩
    · exact .inl
end
end Go.Proofs.Vg
