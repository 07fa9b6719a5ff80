/- Part 10 of 12: N23, Vg18, Vg21, N24, N25, Vg46, N26, Vg35, N27, N28, Vg47, Vg48, Vg49, Vg50, N31, Vg51. -/
import Derived.Test.YtcpjojaklpgnkaaGreatM9
import Derived.Test.YtcpjojaklpgnkaaGreatM4
import Derived.Test.YtcpjojaklpgnkaaGreatM2
import Derived.MapKept
import Derived.Test.YtcpjojaklpgnkaaGreatM3
import Derived.RecoverIn
import Derived.Test.YtcpjojaklpgnkaaGreatM6
import Derived.Lib.AppendZeros
/- Chapter 31: small goals in procedures; hold, and, maker.  -/
set_option linter.unusedVariables false
set_option linter.unusedSimpArgs false
namespace Go.Proofs.YtcpjojaklpgnkaaGreat
open Go Go.Proofs.Vg Go.RowKit
-- -- function 27
set_option maxHeartbeats 4000000 in
set_option maxRecDepth 8000 in
theorem procLarge_ok (w : World) (S : Nat → Prop) (cs : List Value) (p : Pr) (h : Rd w S cs (encP p)) (hh : p.body.ht ≤ 126) (hn : (preG p.body 1).length ≤ 5000) : Rets Tryz.prog 27 [.agg cs.toArray] w (fun r w' => r = .bool false ∧ Ext w w') := by
  replace h := h.old
  obtain ⟨Av, cv, Ah, ch, Am, cm, Aa, ca, Ak, ck, Ac, cc, rfl, hv, hh', hm, hb⟩ := rdP h
  refine rets_of_ok Tryz.func27 rfl rfl ?_
  refine ok_seq (fun M hM => ok_region rfl ?_)
  repeat ((try subst X); (first | (first | apply zL | apply zH | apply zE); intro X hX | apply zh | apply zl | apply ze); try simp only [zU, reduceIte, Nat.reduceEqDiff, Nat.reduceAdd, reduceCtorEq, Q27])
  refine Runs.box (fun w1 he1 hs1 hb1 => ?_)
  rw [agg_cells] at hb1
  repeat ((try subst X); (first | (first | apply zL | apply zH | apply zE); intro X hX | apply zh | apply zl | apply ze); try simp only [zU, reduceIte, Nat.reduceEqDiff, Nat.reduceAdd, reduceCtorEq, Q27])
  refine hM _ _ _ ?_; clear hM M
  refine ok_seq (fun M hM => ok_region rfl ?_)
  repeat ((try subst X); (first | (first | apply zL | apply zH | apply zE); intro X hX | apply zh | apply zl | apply ze); try simp only [zU, reduceIte, Nat.reduceEqDiff, Nat.reduceAdd, reduceCtorEq, Q27])
  refine ⟨[.int .i64 p.body.kind, .int .i64 p.body.left, .int .i64 p.body.num, .string p.body.text, .int .i64 p.body.form, .slice Aa p.body.args.length ca, .slice Ak p.body.kids.length ck, .slice Ac p.body.cases.length cc, .int .i64 p.body.pos], rfl, Blk.at_ (o := 6) hb1 rfl, ?_⟩
  repeat ((try subst X); (first | (first | apply zL | apply zH | apply zE); intro X hX | apply zh | apply zl | apply ze); try simp only [zU, reduceIte, Nat.reduceEqDiff, Nat.reduceAdd, reduceCtorEq, Q27])
  refine Inv.call Fx.en28 (large_ok w1 _ _ p.body (hb.ext he1) hh hn) ?_
  rintro _ w2 ⟨rfl, he2⟩
  repeat ((try subst X); (first | (first | apply zL | apply zH | apply zE); intro X hX | apply zh | apply zl | apply ze); try simp only [zU, reduceIte, Nat.reduceEqDiff, Nat.reduceAdd, reduceCtorEq, Q27])
  refine hM _ _ _ ?_; clear hM M
  refine ok_ret ?_
  try simp only [zW, zU, reduceIte, Nat.reduceEqDiff, Nat.reduceAdd, reduceCtorEq, Q27]
  exact he1.trans he2
-- -- function 159
set_option maxRecDepth 8000 in
theorem hold_ok (w : World) : Rets Tryz.prog 159 [.bool true] w (fun _ w' => w' = w) := by
  refine rets_of_ok Tryz.func159 rfl rfl ?_
  refine ok_seq (fun M hM => ok_region rfl ?_); repeat ((try subst X); (first | (first | apply zL | apply zH | apply zE); intro X hX | apply zh | apply zl | apply ze); try simp only [zU, reduceIte, Nat.reduceEqDiff, Nat.reduceAdd, reduceCtorEq, Q159])
  refine hM _ _ _ ?_; clear hM M
  refine ok_cond rfl (fun h => by cases h) (fun _ => ok_skip ?_)
  try simp only [zW, zU, reduceIte, Nat.reduceEqDiff, Nat.reduceAdd, reduceCtorEq, Q159]
-- -- function 166
set_option maxRecDepth 8000 in
theorem and_ok (w : World) (S : Nat → Prop) (cs : List Value) (g : G) (h : Rd w S cs (encG g)) (hk : g.kind = 0) : Rets Tryz.prog 166 [.agg cs.toArray] w (fun _ w' => Ext w w') := by
  replace h := h.old
  obtain ⟨Aa, ca, Ak, ck, Ac, cc, rfl, ha, hkk, hc⟩ := rdG h
  refine rets_of_ok Tryz.func166 rfl rfl ?_
  refine ok_seq (fun M hM => ok_region rfl ?_)
  repeat ((try subst X); (first | (first | apply zL | apply zH | apply zE); intro X hX | apply zh | apply zl | apply ze); try simp only [zU, reduceIte, Nat.reduceEqDiff, Nat.reduceAdd, reduceCtorEq, Q166])
  refine Runs.box (fun w1 he1 hs1 hb1 => ?_)
  rw [agg_cells] at hb1
  repeat ((try subst X); (first | (first | apply zL | apply zH | apply zE); intro X hX | apply zh | apply zl | apply ze); try simp only [zU, reduceIte, Nat.reduceEqDiff, Nat.reduceAdd, reduceCtorEq, Q166])
  refine hM _ _ _ ?_; clear hM M
  refine ok_region rfl ?_
  repeat ((try subst X); (first | (first | apply zL | apply zH | apply zE); intro X hX | apply zh | apply zl | apply ze); try simp only [zU, reduceIte, Nat.reduceEqDiff, Nat.reduceAdd, reduceCtorEq, Q166])
  refine ⟨_, Blk.cell (by assumption) rfl, ?_⟩
  simp only [hk]
  repeat ((try subst X); (first | (first | apply zL | apply zH | apply zE); intro X hX | apply zh | apply zl | apply ze); try simp only [zU, reduceIte, Nat.reduceEqDiff, Nat.reduceAdd, reduceCtorEq, Q166])
  refine Inv.call Fx.en159 (hold_ok w1) ?_
  rintro _ _ rfl
  repeat ((try subst X); (first | (first | apply zL | apply zH | apply zE); intro X hX | apply zh | apply zl | apply ze); try simp only [zU, reduceIte, Nat.reduceEqDiff, Nat.reduceAdd, reduceCtorEq, Q166])
  exact he1
-- -- function 180
set_option maxHeartbeats 4000000 in
set_option maxRecDepth 8000 in
theorem maker_ok (w : World) (S : Nat → Prop) (cs : List Value) (g : G) (h : Rd w S cs (encG g)) (hk : g.kind = 9) (hf : g.form = 1) : Rets Tryz.prog 180 [.agg cs.toArray] w (fun r w' => r = .bool true ∧ Ext w w') := by
  replace h := h.old
  obtain ⟨Aa, ca, Ak, ck, Ac, cc, rfl, ha, hkk, hc⟩ := rdG h
  refine rets_of_ok Tryz.func180 rfl rfl ?_
  refine ok_seq (fun M hM => ok_region rfl ?_)
  repeat ((try subst X); (first | (first | apply zL | apply zH | apply zE); intro X hX | apply zh | apply zl | apply ze); try simp only [zU, reduceIte, Nat.reduceEqDiff, Nat.reduceAdd, reduceCtorEq, Q180])
  refine Runs.box (fun w1 he1 hs1 hb1 => ?_)
  rw [agg_cells] at hb1
  repeat ((try subst X); (first | (first | apply zL | apply zH | apply zE); intro X hX | apply zh | apply zl | apply ze); try simp only [zU, reduceIte, Nat.reduceEqDiff, Nat.reduceAdd, reduceCtorEq, Q180])
  refine hM _ _ _ ?_; clear hM M
  refine ok_seq (fun M0 hM0 => ?_)
  refine ok_seq (fun M hM => ok_region rfl ?_)
  repeat ((try subst X); (first | (first | apply zL | apply zH | apply zE); intro X hX | apply zh | apply zl | apply ze); try simp only [zU, reduceIte, Nat.reduceEqDiff, Nat.reduceAdd, reduceCtorEq, Q180])
  refine ⟨_, Blk.cell (by assumption) rfl, ?_⟩
  simp only [hk]
  repeat ((try subst X); (first | (first | apply zL | apply zH | apply zE); intro X hX | apply zh | apply zl | apply ze); try simp only [zU, reduceIte, Nat.reduceEqDiff, Nat.reduceAdd, reduceCtorEq, Q180])
  refine hM _ _ _ ?_; clear hM M
  refine ok_block ?_
  refine ok_seq (fun M1 hM1 => ?_)
  refine ok_seq (fun M hM => ok_region rfl ?_)
  repeat ((try subst X); (first | (first | apply zL | apply zH | apply zE); intro X hX | apply zh | apply zl | apply ze); try simp only [zU, reduceIte, Nat.reduceEqDiff, Nat.reduceAdd, reduceCtorEq, Q180])
  refine hM _ _ _ ?_; clear hM M
  refine ok_cond rfl (fun _ => ok_skip ?_) (fun h => by cases h)
  refine hM1 _ _ _ ?_; clear hM1 M1
  refine ok_cond rfl (fun _ => ?_) (fun h => by cases h)
  refine ok_seq (fun M hM => ok_region rfl ?_)
  repeat ((try subst X); (first | (first | apply zL | apply zH | apply zE); intro X hX | apply zh | apply zl | apply ze); try simp only [zU, reduceIte, Nat.reduceEqDiff, Nat.reduceAdd, reduceCtorEq, Q180])
  refine ⟨_, Blk.cell (by assumption) rfl, ?_⟩
  simp only [hf]
  repeat ((try subst X); (first | (first | apply zL | apply zH | apply zE); intro X hX | apply zh | apply zl | apply ze); try simp only [zU, reduceIte, Nat.reduceEqDiff, Nat.reduceAdd, reduceCtorEq, Q180])
  refine hM _ _ _ ?_; clear hM M
  refine ok_ret ?_
  try simp only [zW, zU, reduceIte, Nat.reduceEqDiff, Nat.reduceAdd, reduceCtorEq, Q180]
  exact he1
end Go.Proofs.YtcpjojaklpgnkaaGreat
/- A map of ints: a set of numbers. -/
set_option linter.unusedVariables false
set_option linter.unusedSimpArgs false
namespace Go.Proofs.Vg
open Go Go.RowKit Go.MapKept

/-- A map whose keys are ints, and whose values are all 'true'. -/
def MapS (w : World) (r : Nat) (f : Int → Bool) : Prop :=
  ∃ es clock, w.heap[r]? = some (.map es clock) ∧ (∀ e ∈ es.toList, IsKey (.int .i64) e.key ∧ e.val = .bool true) ∧ ∀ n, f n = true ↔ ∃ e ∈ es.toList, e.key = .int .i64 n
theorem MapS.block {w w' : World} {r : Nat} {f : Int → Bool} (h : MapS w r f) (hb : w'.heap[r]? = w.heap[r]?) : MapS w' r f := by
  obtain ⟨es, clock, h1, h2⟩ := h
  exact ⟨es, clock, hb.trans h1, h2⟩
theorem MapS.lt {w : World} {r : Nat} {f : Int → Bool} (h : MapS w r f) : r < w.heap.size := by
  obtain ⟨es, clock, h1, h2⟩ := h
  exact (Array.getElem?_eq_some_iff.1 h1).1
theorem MapS.chg {w w' : World} {r : Nat} {f : Int → Bool} {S : Nat → Prop} (h : MapS w r f) (hc : Chg S w w') (hs : ¬ S r) : MapS w' r f := h.block (hc.block r h.lt hs)
theorem MapS.ext {w w' : World} {r : Nat} {f : Int → Bool} (h : MapS w r f) (he : Ext w w') : MapS w' r f := h.chg (he.chg (fun _ => False)) id

section
variable {P : Program} {w : World} {t kt et : TypeId} {r : Nat} {f : Int → Bool}
theorem isKey_i64 (n : Int) : IsKey (.int .i64) (.int .i64 n) := by simp [IsKey]
theorem Runs.makeMap {nx : Value → World → Prop} (h : ∀ w1, Ext w w1 → w1.heap.size = w.heap.size + 1 → MapS w1 w.heap.size (fun _ => false) → nx (.map (some w.heap.size)) w1) : Runs P (Instr.makeMap t none) w nx := by
  refine ⟨_, w.alloc (.map #[] 0), by simp [Instr.makeMap, Result.andThen], h _ ⟨rfl, rfl, rfl, by simp, fun k hk => Below.heap_alloc w _ k hk⟩ (by simp) ⟨#[], 0, heap_alloc_new w _, by simp, by simp⟩⟩
theorem Runs.lookupS {sz by_ : Nat} {nx : Value → World → Prop} (hm : P.underlying t = some (.map kt et)) (hk : P.underlying kt = some (.int .i64)) (hz : zinfo P et = some (some (.bool false), sz, by_)) (h : MapS w r f) (n : Int) (hn : nx (.bool (f n)) w) :
    Runs P (Instr.lookup t (.map (some r)) (.int .i64 n) false) w nx := by
  obtain ⟨es, clock, hb, hall, hf⟩ := h
  obtain ⟨i, hi, hzz, _, _⟩ := zinfo_some hz
  have hk0 := isKey_i64 n
  rcases findNow_spec hk0 es.toList 0 (fun x hx => (hall x hx).1) with ⟨h1, h2⟩ | ⟨j, e, h1, h2, h3⟩
  · have hfn : f n = false := by
      cases hx : f n with
      | false => rfl
      | true => obtain ⟨e, he, hke⟩ := (hf n).1 hx; exact absurd hke (h2 e he)
    rw [hfn] at hn
    refine ⟨_, w, ?_, hn⟩
    simp [Instr.lookup, run_underlying hm, MapKept.run_getObj_map hb, MapKept.run_checkKey hk hk0, MapKept.run_findKey hk h1, Result.andThen, zeroValue, typeInfo, hi, hzz]
  · have hme : e ∈ es.toList := List.mem_of_getElem? h2
    have hfn : f n = true := (hf n).2 ⟨e, hme, h3⟩
    rw [hfn, ← (hall e hme).2] at hn
    refine ⟨_, w, ?_, hn⟩
    simp [Instr.lookup, run_underlying hm, MapKept.run_getObj_map hb, MapKept.run_checkKey hk hk0, MapKept.run_findKey hk h1, Result.andThen]
theorem Runs.mapSet {nx : World → Prop} (hm : P.underlying t = some (.map kt et)) (hk : P.underlying kt = some (.int .i64)) (h : MapS w r f) (n : Int)
    (hn : ∀ w1, Chg (· = r) w w1 → w1.heap.size = w.heap.size → MapS w1 r (fun x => f x || decide (x = n)) → nx w1) :
    Runs P (Instr.mapUpdate t (.map (some r)) (.int .i64 n) (.bool true)) w (fun _ w' => nx w') := by
  obtain ⟨es, clock, hb, hall, hf⟩ := h
  have hk0 := isKey_i64 n
  have hchg : ∀ o : Obj, Chg (· = r) w { w with heap := w.heap.setIfInBounds r o } := fun o => ⟨rfl, rfl, rfl, by simp, fun k _ hk => (heap_set (o' := o) hb).2 k hk⟩
  rcases findNow_spec hk0 es.toList 0 (fun x hx => (hall x hx).1) with ⟨h1, h2⟩ | ⟨j, e, h1, h2, h3⟩
  · refine ⟨(), _, by simp [Instr.mapUpdate, run_underlying hm, MapKept.run_getObj_map hb, MapKept.run_checkKey hk hk0, MapKept.run_findKey hk h1, MapKept.run_setObj_map _ hb, Result.andThen]; rfl, hn _ (hchg _) (by simp) ⟨_, _, (heap_set hb).1, fun x hx => ?_, fun m => ?_⟩⟩
    · simp only [Array.toList_push, List.mem_append, List.mem_singleton] at hx
      rcases hx with hx | rfl
      · exact hall x hx
      · exact ⟨hk0, rfl⟩
    · simp only [Array.toList_push, List.mem_append, List.mem_singleton, Bool.or_eq_true, decide_eq_true_eq, hf m]
      constructor
      · rintro (⟨e, he, hke⟩ | rfl)
        · exact ⟨e, .inl he, hke⟩
        · exact ⟨_, .inr rfl, rfl⟩
      · rintro ⟨e, he | rfl, hke⟩
        · exact .inl ⟨e, he, hke⟩
        · simp at hke; exact .inr hke.symm
  · have hj : es[j]? = some e := by simpa using h2
    have hme : e ∈ es.toList := List.mem_of_getElem? h2
    have hsame : es.modify j (fun e => { e with key := .int .i64 n, val := .bool true }) = es := by
      apply Array.ext_getElem?
      intro i
      rw [Array.getElem?_modify]
      split
      · rename_i hij; subst hij
        rw [hj]
        simp only [Option.map_some]
        congr 1
        obtain ⟨k, v, b⟩ := e
        have := (hall _ hme).2
        simp only at this h3
        subst this; subst h3; rfl
      · rfl
    refine ⟨(), { w with heap := w.heap.setIfInBounds r (.map es clock) }, by simp [Instr.mapUpdate, run_underlying hm, MapKept.run_getObj_map hb, MapKept.run_checkKey hk hk0, MapKept.run_findKey hk h1, hj, h3, run_keyThatStays hk0, MapKept.run_setObj_map _ hb, Result.andThen, hsame], hn _ (hchg _) (by simp) ⟨_, _, (heap_set hb).1, hall, fun m => ?_⟩⟩
    simp only [Bool.or_eq_true, decide_eq_true_eq, hf m]
    constructor
    · rintro (h | rfl)
      · exact h
      · exact ⟨e, hme, h3⟩
    · exact .inl
end
end Go.Proofs.Vg
/- A map from ints to values: its reading, and its look-up. -/
set_option linter.unusedVariables false
set_option linter.unusedSimpArgs false
namespace Go.Proofs.Vg
open Go Go.RowKit Go.MapKept

/-- A map whose keys are ints: what it holds. -/
def MapI (w : World) (r : Nat) (f : Int → Option Value) : Prop :=
  ∃ es clock, w.heap[r]? = some (.map es clock) ∧ (∀ e ∈ es.toList, ∃ n, e.key = .int .i64 n ∧ f n = some e.val) ∧ ∀ n v, f n = some v → ∃ e ∈ es.toList, e.key = .int .i64 n
theorem MapI.block {w w' : World} {r : Nat} {f : Int → Option Value} (h : MapI w r f) (hb : w'.heap[r]? = w.heap[r]?) : MapI w' r f := by
  obtain ⟨es, clock, h1, h2⟩ := h
  exact ⟨es, clock, hb.trans h1, h2⟩
theorem MapI.lt {w : World} {r : Nat} {f : Int → Option Value} (h : MapI w r f) : r < w.heap.size := by
  obtain ⟨es, clock, h1, h2⟩ := h
  exact (Array.getElem?_eq_some_iff.1 h1).1
theorem MapI.chg {w w' : World} {r : Nat} {f : Int → Option Value} {S : Nat → Prop} (h : MapI w r f) (hc : Chg S w w') (hs : ¬ S r) : MapI w' r f := h.block (hc.block r h.lt hs)
theorem MapI.ext {w w' : World} {r : Nat} {f : Int → Option Value} (h : MapI w r f) (he : Ext w w') : MapI w' r f := h.chg (he.chg (fun _ => False)) id

section
variable {P : Program} {w : World} {t kt et : TypeId} {r : Nat} {f : Int → Option Value}
theorem MapI.mk {es : List MapEntry} {clock : Nat} (hb : w.heap[r]? = some (.map es.toArray clock)) (h1 : ∀ e ∈ es, ∃ n, e.key = .int .i64 n ∧ f n = some e.val) (h2 : ∀ n v, f n = some v → ∃ e ∈ es, e.key = .int .i64 n) : MapI w r f :=
  ⟨_, _, hb, by simpa using h1, by simpa using h2⟩
theorem Runs.makeMapI {nx : Value → World → Prop} (h : ∀ w1, Ext w w1 → w1.heap.size = w.heap.size + 1 → MapI w1 w.heap.size (fun _ => none) → nx (.map (some w.heap.size)) w1) : Runs P (Instr.makeMap t none) w nx := by
  refine ⟨_, w.alloc (.map #[] 0), by simp [Instr.makeMap, Result.andThen], h _ ⟨rfl, rfl, rfl, by simp, fun k hk => Below.heap_alloc w _ k hk⟩ (by simp) ⟨#[], 0, heap_alloc_new w _, by simp, by simp⟩⟩
theorem run_lookupI {z : Value} {sz by_ : Nat} {okk : Bool} (hm : P.underlying t = some (.map kt et)) (hk : P.underlying kt = some (.int .i64)) (hz : zinfo P et = some (some z, sz, by_)) (h : MapI w r f) (n : Int) :
    (Instr.lookup t (.map (some r)) (.int .i64 n) okk).run P w = .ok (if okk then .tuple #[(f n).getD z, .bool (f n).isSome] else (f n).getD z) w := by
  obtain ⟨es, clock, hb, hall, hf⟩ := h
  obtain ⟨i, hi, hzz, _, _⟩ := zinfo_some hz
  have hk0 := isKey_i64 n
  rcases findNow_spec hk0 es.toList 0 (fun x hx => by obtain ⟨m, hm, _⟩ := hall x hx; rw [hm]; exact isKey_i64 m) with ⟨h1, h2⟩ | ⟨j, e, h1, h2, h3⟩
  · have hfn : f n = none := by
      cases hx : f n with
      | none => rfl
      | some v => obtain ⟨e, he, hke⟩ := hf n v hx; exact absurd hke (h2 e he)
    rw [hfn]
    cases okk <;> simp [Instr.lookup, run_underlying hm, MapKept.run_getObj_map hb, MapKept.run_checkKey hk hk0, MapKept.run_findKey hk h1, Result.andThen, zeroValue, typeInfo, hi, hzz]
  · have hme : e ∈ es.toList := List.mem_of_getElem? h2
    obtain ⟨m, hm1, hm2⟩ := hall e hme
    have hmn : m = n := by rw [hm1] at h3; injection h3
    subst hmn
    rw [hm2]
    cases okk <;> simp [Instr.lookup, run_underlying hm, MapKept.run_getObj_map hb, MapKept.run_checkKey hk hk0, MapKept.run_findKey hk h1, Result.andThen]
theorem Runs.lookupI {z : Value} {sz by_ : Nat} {nx : Value → World → Prop} {okk : Bool} (hm : P.underlying t = some (.map kt et)) (hk : P.underlying kt = some (.int .i64)) (hz : zinfo P et = some (some z, sz, by_)) (h : MapI w r f) (n : Int)
    (hn : nx (if okk then .tuple #[(f n).getD z, .bool (f n).isSome] else (f n).getD z) w) :
    Runs P (Instr.lookup t (.map (some r)) (.int .i64 n) okk) w nx := by
  exact ⟨_, w, run_lookupI hm hk hz h n, hn⟩
/-- A new key. -/
theorem Runs.mapPut {nx : World → Prop} (hm : P.underlying t = some (.map kt et)) (hk : P.underlying kt = some (.int .i64)) (h : MapI w r f) (n : Int) (v : Value) (hno : f n = none)
    (hn : ∀ w1, Chg (· = r) w w1 → w1.heap.size = w.heap.size → MapI w1 r (fun x => if x = n then some v else f x) → nx w1) :
    Runs P (Instr.mapUpdate t (.map (some r)) (.int .i64 n) v) w (fun _ w' => nx w') := by
  obtain ⟨es, clock, hb, hall, hf⟩ := h
  have hk0 := isKey_i64 n
  have hchg : ∀ o : Obj, Chg (· = r) w { w with heap := w.heap.setIfInBounds r o } := fun o => ⟨rfl, rfl, rfl, by simp, fun k _ hk => (heap_set (o' := o) hb).2 k hk⟩
  rcases findNow_spec hk0 es.toList 0 (fun x hx => by obtain ⟨m, hm, _⟩ := hall x hx; rw [hm]; exact isKey_i64 m) with ⟨h1, h2⟩ | ⟨j, e, h1, h2, h3⟩
  · refine ⟨(), _, by simp [Instr.mapUpdate, run_underlying hm, MapKept.run_getObj_map hb, MapKept.run_checkKey hk hk0, MapKept.run_findKey hk h1, MapKept.run_setObj_map _ hb, Result.andThen]; rfl, hn _ (hchg _) (by simp) ⟨_, _, (heap_set hb).1, fun x hx => ?_, fun m u hu => ?_⟩⟩
    · simp only [Array.toList_push, List.mem_append, List.mem_singleton] at hx
      rcases hx with hx | rfl
      · obtain ⟨m, hm1, hm2⟩ := hall x hx
        refine ⟨m, hm1, ?_⟩
        have : m ≠ n := fun e => by subst e; rw [hno] at hm2; cases hm2
        simp [this, hm2]
      · exact ⟨n, rfl, by simp⟩
    · simp only [Array.toList_push, List.mem_append, List.mem_singleton]
      by_cases hmn : m = n
      · subst hmn; exact ⟨_, .inr rfl, rfl⟩
      · simp [hmn] at hu
        obtain ⟨e, he, hke⟩ := hf m u hu
        exact ⟨e, .inl he, hke⟩
  · exfalso
    have hme : e ∈ es.toList := List.mem_of_getElem? h2
    obtain ⟨m, hm1, hm2⟩ := hall e hme
    have hmn : m = n := by rw [hm1] at h3; injection h3
    subst hmn
    rw [hno] at hm2; cases hm2
end
end Go.Proofs.Vg
/- Chapter 31: rules, indices.  -/
set_option linter.unusedVariables false
set_option linter.unusedSimpArgs false
namespace Go.Proofs.YtcpjojaklpgnkaaGreat
open Go Go.Proofs.Vg Go.RowKit
-- -- function 72
set_option maxHeartbeats 4000000 in
set_option maxRecDepth 8000 in
theorem rules_ok (w : World) : Rets Tryz.prog 72 [] w (fun v w' => Ext w w' ∧ ∃ r f, v = .map (some r) ∧ MapI w' r f ∧ f 4 = some (.func (.func 128) #[] #[]) ∧ f 5 = some (.func (.func 129) #[] #[])) := by
  refine rets_of_ok Tryz.func72 rfl rfl ?_
  refine ok_seq (fun M hM => ok_region rfl ?_); repeat ((try subst X); (first | (first | apply zL | apply zH | apply zE); intro X hX | apply zh | apply zl | apply ze); try simp only [zU, reduceIte, Nat.reduceEqDiff, Nat.reduceAdd, reduceCtorEq, Q72])
  refine hM _ _ _ ?_; clear hM M
  refine ok_seq (fun M hM => ok_region rfl ?_)
  repeat ((try subst X); (first | (first | apply zL | apply zH | apply zE); intro X hX | apply zh | apply zl | apply ze); try simp only [zU, reduceIte, Nat.reduceEqDiff, Nat.reduceAdd, reduceCtorEq, Q72])
  refine Runs.makeMapI (fun w1 he1 hs1 hm1 => ?_)
  generalize hr : w.heap.size = rb at *
  repeat ((try subst X); (first | (first | apply zL | apply zH | apply zE); intro X hX | apply zh | apply zl | apply ze); try simp only [zU, reduceIte, Nat.reduceEqDiff, Nat.reduceAdd, reduceCtorEq, Q72])
  refine Runs.mapPut Fx.un139 Fx.un3 hm1 0 _ rfl (fun w2 hc2 hs2 hm2 => ?_)
  repeat ((try subst X); (first | (first | apply zL | apply zH | apply zE); intro X hX | apply zh | apply zl | apply ze); try simp only [zU, reduceIte, Nat.reduceEqDiff, Nat.reduceAdd, reduceCtorEq, Q72])
  refine Runs.mapPut Fx.un139 Fx.un3 hm2 1 _ rfl (fun w3 hc3 hs3 hm3 => ?_)
  repeat ((try subst X); (first | (first | apply zL | apply zH | apply zE); intro X hX | apply zh | apply zl | apply ze); try simp only [zU, reduceIte, Nat.reduceEqDiff, Nat.reduceAdd, reduceCtorEq, Q72])
  refine Runs.mapPut Fx.un139 Fx.un3 hm3 2 _ rfl (fun w4 hc4 hs4 hm4 => ?_)
  repeat ((try subst X); (first | (first | apply zL | apply zH | apply zE); intro X hX | apply zh | apply zl | apply ze); try simp only [zU, reduceIte, Nat.reduceEqDiff, Nat.reduceAdd, reduceCtorEq, Q72])
  refine Runs.mapPut Fx.un139 Fx.un3 hm4 3 _ rfl (fun w5 hc5 hs5 hm5 => ?_)
  repeat ((try subst X); (first | (first | apply zL | apply zH | apply zE); intro X hX | apply zh | apply zl | apply ze); try simp only [zU, reduceIte, Nat.reduceEqDiff, Nat.reduceAdd, reduceCtorEq, Q72])
  refine Runs.mapPut Fx.un139 Fx.un3 hm5 4 _ rfl (fun w6 hc6 hs6 hm6 => ?_)
  repeat ((try subst X); (first | (first | apply zL | apply zH | apply zE); intro X hX | apply zh | apply zl | apply ze); try simp only [zU, reduceIte, Nat.reduceEqDiff, Nat.reduceAdd, reduceCtorEq, Q72])
  refine Runs.mapPut Fx.un139 Fx.un3 hm6 5 _ rfl (fun w7 hc7 hs7 hm7 => ?_)
  repeat ((try subst X); (first | (first | apply zL | apply zH | apply zE); intro X hX | apply zh | apply zl | apply ze); try simp only [zU, reduceIte, Nat.reduceEqDiff, Nat.reduceAdd, reduceCtorEq, Q72])
  refine Runs.mapPut Fx.un139 Fx.un3 hm7 6 _ rfl (fun w8 hc8 hs8 hm8 => ?_)
  repeat ((try subst X); (first | (first | apply zL | apply zH | apply zE); intro X hX | apply zh | apply zl | apply ze); try simp only [zU, reduceIte, Nat.reduceEqDiff, Nat.reduceAdd, reduceCtorEq, Q72])
  refine Runs.mapPut Fx.un139 Fx.un3 hm8 7 _ rfl (fun w9 hc9 hs9 hm9 => ?_)
  repeat ((try subst X); (first | (first | apply zL | apply zH | apply zE); intro X hX | apply zh | apply zl | apply ze); try simp only [zU, reduceIte, Nat.reduceEqDiff, Nat.reduceAdd, reduceCtorEq, Q72])
  refine Runs.mapPut Fx.un139 Fx.un3 hm9 8 _ rfl (fun w10 hc10 hs10 hm10 => ?_)
  repeat ((try subst X); (first | (first | apply zL | apply zH | apply zE); intro X hX | apply zh | apply zl | apply ze); try simp only [zU, reduceIte, Nat.reduceEqDiff, Nat.reduceAdd, reduceCtorEq, Q72])
  refine Runs.mapPut Fx.un139 Fx.un3 hm10 9 _ rfl (fun w11 hc11 hs11 hm11 => ?_)
  repeat ((try subst X); (first | (first | apply zL | apply zH | apply zE); intro X hX | apply zh | apply zl | apply ze); try simp only [zU, reduceIte, Nat.reduceEqDiff, Nat.reduceAdd, reduceCtorEq, Q72])
  refine Runs.mapPut Fx.un139 Fx.un3 hm11 11 _ rfl (fun w12 hc12 hs12 hm12 => ?_)
  repeat ((try subst X); (first | (first | apply zL | apply zH | apply zE); intro X hX | apply zh | apply zl | apply ze); try simp only [zU, reduceIte, Nat.reduceEqDiff, Nat.reduceAdd, reduceCtorEq, Q72])
  refine hM _ _ _ ?_; clear hM M
  refine ok_ret ?_
  try simp only [zW, zU, reduceIte, Nat.reduceEqDiff, Nat.reduceAdd, reduceCtorEq, Q72]
  exact ⟨he1.chg_trans ((((((((((hc2.trans hc3).trans hc4).trans hc5).trans hc6).trans hc7).trans hc8).trans hc9).trans hc10).trans hc11).trans hc12) (by intro k hk; omega), _, _, rfl, hm12, rfl, rfl⟩
end Go.Proofs.YtcpjojaklpgnkaaGreat
/- Chapter 31: indices.  -/
set_option linter.unusedVariables false
set_option linter.unusedSimpArgs false
namespace Go.Proofs.YtcpjojaklpgnkaaGreat
open Go Go.Proofs.Vg Go.RowKit
-- -- function 122
set_option maxHeartbeats 4000000 in
set_option maxRecDepth 8000 in
theorem in_ok (w : World) (B : Nat) (cs : List Value) (n m c : Nat) (A : Option Addr) (hb : Blk w B cs 37) (hk : cs[6]? = some (.slice A m c)) (hn : n < m) (hm : m ≤ 140737488355328) : Rets Tryz.prog 122 [.int .i64 (n : Int), .pointer (some ⟨B, 0, none⟩)] w (fun _ w' => w' = w) := by
  have h0 : ¬ ((n : Int) < 0) := by omega
  have h1 : ¬ ((n : Int) ≥ (m : Int)) := by omega
  refine rets_of_ok Tryz.func122 rfl rfl ?_
  refine ok_seq (fun M hM => ok_region rfl ?_)
  repeat ((try subst X); (first | (first | apply zL | apply zH | apply zE); intro X hX | apply zh | apply zl | apply ze); try simp only [zU, reduceIte, Nat.reduceEqDiff, Nat.reduceAdd, reduceCtorEq, Q122])
  simp only [h0, decide_false]
  repeat ((try subst X); (first | (first | apply zL | apply zH | apply zE); intro X hX | apply zh | apply zl | apply ze); try simp only [zU, reduceIte, Nat.reduceEqDiff, Nat.reduceAdd, reduceCtorEq, Q122])
  refine ⟨fun _ => ?_, fun h => by cases h⟩
  repeat ((try subst X); (first | (first | apply zL | apply zH | apply zE); intro X hX | apply zh | apply zl | apply ze); try simp only [zU, reduceIte, Nat.reduceEqDiff, Nat.reduceAdd, reduceCtorEq, Q122])
  refine ⟨_, Blk.cell hb hk, ?_⟩
  repeat ((try subst X); (first | (first | apply zL | apply zH | apply zE); intro X hX | apply zh | apply zl | apply ze); try simp only [zU, reduceIte, Nat.reduceEqDiff, Nat.reduceAdd, reduceCtorEq, Q122])
  simp only [h1, decide_false]
  repeat ((try subst X); (first | (first | apply zL | apply zH | apply zE); intro X hX | apply zh | apply zl | apply ze); try simp only [zU, reduceIte, Nat.reduceEqDiff, Nat.reduceAdd, reduceCtorEq, Q122])
  refine hM _ _ _ ?_; clear hM M
  refine ok_cond rfl (fun h => by cases h) (fun _ => ok_skip ?_)
  try simp only [zW, zU, reduceIte, Nat.reduceEqDiff, Nat.reduceAdd, reduceCtorEq, Q122]
-- -- function 70
set_option maxHeartbeats 8000000 in
set_option maxRecDepth 8000 in
theorem indices5_ok (w : World) (S : Nat → Prop) (B : Nat) (acs cs : List Value) (g : G) (i : Nat) (hb : Blk w B acs 134) (h2 : acs[2]? = some (.int .i64 5)) (h3 : acs[5]? = some (.int .i64 (i : Int))) (hi : i < g.kids.length) (h : Rd w S cs (encG g)) : Rets Tryz.prog 70 [.pointer (some ⟨B, 0, none⟩), .agg cs.toArray] w (fun _ w' => Ext w w') := by
  replace h := h.old
  obtain ⟨Aa, ca, Ak, ck, Ac, cc, rfl, ha, hkk, hc⟩ := rdG h
  obtain ⟨_, _, -, hkl, -, -⟩ := hkk.hd
  simp only [List.length_map] at hkl
  refine rets_of_ok Tryz.func70 rfl rfl ?_
  refine ok_seq (fun M hM => ok_region rfl ?_)
  repeat ((try subst X); (first | (first | apply zL | apply zH | apply zE); intro X hX | apply zh | apply zl | apply ze); try simp only [zU, reduceIte, Nat.reduceEqDiff, Nat.reduceAdd, reduceCtorEq, Q70])
  refine Runs.box (fun w1 he1 hs1 hb1 => ?_)
  rw [agg_cells] at hb1
  generalize hB1 : w.heap.size = B1 at *
  replace hb := hb.ext he1
  repeat ((try subst X); (first | (first | apply zL | apply zH | apply zE); intro X hX | apply zh | apply zl | apply ze); try simp only [zU, reduceIte, Nat.reduceEqDiff, Nat.reduceAdd, reduceCtorEq, Q70])
  refine hM _ _ _ ?_; clear hM M
  refine ok_seq (fun M hM => ok_region rfl ?_)
  repeat ((try subst X); (first | (first | apply zL | apply zH | apply zE); intro X hX | apply zh | apply zl | apply ze); try simp only [zU, reduceIte, Nat.reduceEqDiff, Nat.reduceAdd, reduceCtorEq, Q70])
  refine hM _ _ _ ?_; clear hM M
  refine ok_seq (fun M hM => ok_region rfl ?_)
  repeat ((try subst X); (first | (first | apply zL | apply zH | apply zE); intro X hX | apply zh | apply zl | apply ze); try simp only [zU, reduceIte, Nat.reduceEqDiff, Nat.reduceAdd, reduceCtorEq, Q70])
  refine ⟨_, Blk.cell hb h2, ?_⟩
  repeat ((try subst X); (first | (first | apply zL | apply zH | apply zE); intro X hX | apply zh | apply zl | apply ze); try simp only [zU, reduceIte, Nat.reduceEqDiff, Nat.reduceAdd, reduceCtorEq, Q70])
  refine hM _ _ _ ?_; clear hM M
  refine ok_block ?_
  refine ok_seq (fun M1 hM1 => ?_)
  refine ok_seq (fun M hM => ok_region rfl ?_)
  repeat ((try subst X); (first | (first | apply zL | apply zH | apply zE); intro X hX | apply zh | apply zl | apply ze); try simp only [zU, reduceIte, Nat.reduceEqDiff, Nat.reduceAdd, reduceCtorEq, Q70])
  refine hM _ _ _ ?_; clear hM M
  refine ok_cond rfl (fun h => by cases h) (fun _ => ?_)
  refine ok_seq (fun M hM => ok_region rfl ?_)
  repeat ((try subst X); (first | (first | apply zL | apply zH | apply zE); intro X hX | apply zh | apply zl | apply ze); try simp only [zU, reduceIte, Nat.reduceEqDiff, Nat.reduceAdd, reduceCtorEq, Q70])
  refine hM _ _ _ ?_; clear hM M
  refine ok_cond rfl (fun h => by cases h) (fun _ => ?_)
  refine ok_region rfl ?_
  repeat ((try subst X); (first | (first | apply zL | apply zH | apply zE); intro X hX | apply zh | apply zl | apply ze); try simp only [zU, reduceIte, Nat.reduceEqDiff, Nat.reduceAdd, reduceCtorEq, Q70])
  refine hM1 _ _ _ ?_; clear hM1 M1
  refine ok_cond rfl (fun _ => ?_) (fun h => by cases h)
  refine ok_region rfl ?_
  repeat ((try subst X); (first | (first | apply zL | apply zH | apply zE); intro X hX | apply zh | apply zl | apply ze); try simp only [zU, reduceIte, Nat.reduceEqDiff, Nat.reduceAdd, reduceCtorEq, Q70])
  refine ⟨_, Blk.cell hb h3, ?_⟩
  repeat ((try subst X); (first | (first | apply zL | apply zH | apply zE); intro X hX | apply zh | apply zl | apply ze); try simp only [zU, reduceIte, Nat.reduceEqDiff, Nat.reduceAdd, reduceCtorEq, Q70])
  refine Inv.clos (cap := [.pointer (some ⟨B1, 0, none⟩)]) Fx.en122 (in_ok w1 B1 _ i g.kids.length ck Ak hb1 rfl hi hkl) ?_
  rintro _ _ rfl
  repeat ((try subst X); (first | (first | apply zL | apply zH | apply zE); intro X hX | apply zh | apply zl | apply ze); try simp only [zU, reduceIte, Nat.reduceEqDiff, Nat.reduceAdd, reduceCtorEq, Q70])
  exact he1
-- -- function 70
set_option maxHeartbeats 8000000 in
set_option maxRecDepth 8000 in
theorem indices4_ok (w : World) (S : Nat → Prop) (B : Nat) (acs cs : List Value) (g : G) (i k : Nat) (hb : Blk w B acs 134) (h2 : acs[2]? = some (.int .i64 4)) (h3 : acs[5]? = some (.int .i64 (i : Int))) (h4 : acs[6]? = some (.int .i64 (k : Int))) (hi : i < g.kids.length) (hk : k < g.kids.length) (h : Rd w S cs (encG g)) : Rets Tryz.prog 70 [.pointer (some ⟨B, 0, none⟩), .agg cs.toArray] w (fun _ w' => Ext w w') := by
  replace h := h.old
  obtain ⟨Aa, ca, Ak, ck, Ac, cc, rfl, ha, hkk, hc⟩ := rdG h
  obtain ⟨_, _, -, hkl, -, -⟩ := hkk.hd
  simp only [List.length_map] at hkl
  refine rets_of_ok Tryz.func70 rfl rfl ?_
  refine ok_seq (fun M hM => ok_region rfl ?_)
  repeat ((try subst X); (first | (first | apply zL | apply zH | apply zE); intro X hX | apply zh | apply zl | apply ze); try simp only [zU, reduceIte, Nat.reduceEqDiff, Nat.reduceAdd, reduceCtorEq, Q70])
  refine Runs.box (fun w1 he1 hs1 hb1 => ?_)
  rw [agg_cells] at hb1
  generalize hB1 : w.heap.size = B1 at *
  replace hb := hb.ext he1
  repeat ((try subst X); (first | (first | apply zL | apply zH | apply zE); intro X hX | apply zh | apply zl | apply ze); try simp only [zU, reduceIte, Nat.reduceEqDiff, Nat.reduceAdd, reduceCtorEq, Q70])
  refine hM _ _ _ ?_; clear hM M
  refine ok_seq (fun M hM => ok_region rfl ?_)
  repeat ((try subst X); (first | (first | apply zL | apply zH | apply zE); intro X hX | apply zh | apply zl | apply ze); try simp only [zU, reduceIte, Nat.reduceEqDiff, Nat.reduceAdd, reduceCtorEq, Q70])
  refine hM _ _ _ ?_; clear hM M
  refine ok_seq (fun M hM => ok_region rfl ?_)
  repeat ((try subst X); (first | (first | apply zL | apply zH | apply zE); intro X hX | apply zh | apply zl | apply ze); try simp only [zU, reduceIte, Nat.reduceEqDiff, Nat.reduceAdd, reduceCtorEq, Q70])
  refine ⟨_, Blk.cell hb h2, ?_⟩
  repeat ((try subst X); (first | (first | apply zL | apply zH | apply zE); intro X hX | apply zh | apply zl | apply ze); try simp only [zU, reduceIte, Nat.reduceEqDiff, Nat.reduceAdd, reduceCtorEq, Q70])
  refine hM _ _ _ ?_; clear hM M
  refine ok_block ?_
  refine ok_seq (fun M1 hM1 => ?_)
  refine ok_seq (fun M hM => ok_region rfl ?_)
  repeat ((try subst X); (first | (first | apply zL | apply zH | apply zE); intro X hX | apply zh | apply zl | apply ze); try simp only [zU, reduceIte, Nat.reduceEqDiff, Nat.reduceAdd, reduceCtorEq, Q70])
  refine hM _ _ _ ?_; clear hM M
  refine ok_cond rfl (fun h => by cases h) (fun _ => ?_)
  refine ok_seq (fun M hM => ok_region rfl ?_)
  repeat ((try subst X); (first | (first | apply zL | apply zH | apply zE); intro X hX | apply zh | apply zl | apply ze); try simp only [zU, reduceIte, Nat.reduceEqDiff, Nat.reduceAdd, reduceCtorEq, Q70])
  refine hM _ _ _ ?_; clear hM M
  refine ok_cond rfl (fun h => by cases h) (fun _ => ?_)
  refine ok_region rfl ?_
  repeat ((try subst X); (first | (first | apply zL | apply zH | apply zE); intro X hX | apply zh | apply zl | apply ze); try simp only [zU, reduceIte, Nat.reduceEqDiff, Nat.reduceAdd, reduceCtorEq, Q70])
  refine hM1 _ _ _ ?_; clear hM1 M1
  refine ok_cond rfl (fun h => by cases h) (fun _ => ?_)
  refine ok_seq (fun M1 hM1 => ?_)
  refine ok_seq (fun M hM => ok_region rfl ?_)
  repeat ((try subst X); (first | (first | apply zL | apply zH | apply zE); intro X hX | apply zh | apply zl | apply ze); try simp only [zU, reduceIte, Nat.reduceEqDiff, Nat.reduceAdd, reduceCtorEq, Q70])
  refine hM _ _ _ ?_; clear hM M
  refine ok_cond rfl (fun _ => ok_skip ?_) (fun h => by cases h)
  refine hM1 _ _ _ ?_; clear hM1 M1
  refine ok_cond rfl (fun _ => ?_) (fun h => by cases h)
  refine ok_seq (fun M hM => ok_region rfl ?_)
  repeat ((try subst X); (first | (first | apply zL | apply zH | apply zE); intro X hX | apply zh | apply zl | apply ze); try simp only [zU, reduceIte, Nat.reduceEqDiff, Nat.reduceAdd, reduceCtorEq, Q70])
  refine ⟨_, Blk.cell hb h3, ?_⟩
  repeat ((try subst X); (first | (first | apply zL | apply zH | apply zE); intro X hX | apply zh | apply zl | apply ze); try simp only [zU, reduceIte, Nat.reduceEqDiff, Nat.reduceAdd, reduceCtorEq, Q70])
  refine Inv.clos (cap := [.pointer (some ⟨B1, 0, none⟩)]) Fx.en122 (in_ok w1 B1 _ i g.kids.length ck Ak hb1 rfl hi hkl) ?_
  rintro _ w2 hw2
  rw [hw2]
  clear hw2 w2
  repeat ((try subst X); (first | (first | apply zL | apply zH | apply zE); intro X hX | apply zh | apply zl | apply ze); try simp only [zU, reduceIte, Nat.reduceEqDiff, Nat.reduceAdd, reduceCtorEq, Q70])
  refine hM _ _ _ ?_; clear hM M
  refine ok_region rfl ?_
  repeat ((try subst X); (first | (first | apply zL | apply zH | apply zE); intro X hX | apply zh | apply zl | apply ze); try simp only [zU, reduceIte, Nat.reduceEqDiff, Nat.reduceAdd, reduceCtorEq, Q70])
  refine ⟨_, Blk.cell hb h4, ?_⟩
  repeat ((try subst X); (first | (first | apply zL | apply zH | apply zE); intro X hX | apply zh | apply zl | apply ze); try simp only [zU, reduceIte, Nat.reduceEqDiff, Nat.reduceAdd, reduceCtorEq, Q70])
  refine Inv.clos (cap := [.pointer (some ⟨B1, 0, none⟩)]) Fx.en122 (in_ok w1 B1 _ k g.kids.length ck Ak hb1 rfl hk hkl) ?_
  rintro _ _ rfl
  repeat ((try subst X); (first | (first | apply zL | apply zH | apply zE); intro X hX | apply zh | apply zl | apply ze); try simp only [zU, reduceIte, Nat.reduceEqDiff, Nat.reduceAdd, reduceCtorEq, Q70])
  exact he1
end Go.Proofs.YtcpjojaklpgnkaaGreat
/- A range over a slice whose rounds change slots. -/
set_option linter.unusedVariables false
set_option linter.unusedSimpArgs false
namespace Go.Proofs.Vg
open Go Go.RowKit
variable {P : Program} {ρ : Option Nat} {N : Nat} {K : Env} {ds : List Deferred} {w : World} {Φ : Post}
/-- 'for i := range n', the same, slots that change from round to round (functions of the round). -/
theorem ok_forK {id id2 r1 r2 sc si sn st ty1 ty2 ty3 : Nat} {p1 p2 p3 : String} {a1 a2 a3 : Array Edge} {body : Code} {n : Nat} (K0 : Nat → Env) (I : Nat → World → Prop)
    (hK : ∀ i, ((K0 i).all fun q => q.1 != si && q.1 != st && q.1 != sc && q.1 != sn) = true) (hK0 : ∀ i, sub (K0 i) (K0 i)) (hs : (sc != si && sc != sn && si != sn && st != sn && st != si && decide (sc < N) && decide (si < N) && decide (st < N)) = true)
    (hsub : sub ((si, .int .i64 0) :: (sn, .int .i64 (n : Int)) :: K0 0) K) (hn : n ≤ 140737488355328) (h0 : I 0 w)
    (hbody : ∀ i W, i < n → I i W → ok P ρ N body ((si, .int .i64 (i : Int)) :: (sn, .int .i64 (n : Int)) :: K0 i) ds W
      (inBlockN id2 (thenN (fun K' ds' W' => ds' = ds ∧ sub ((si, .int .i64 (i : Int)) :: (sn, .int .i64 (n : Int)) :: K0 (i + 1)) K' ∧ I (i + 1) W') (inBlockN id Φ))))
    (hend : ∀ W, I n W → Φ .normal ((sc, .bool false) :: (si, .int .i64 (n : Int)) :: (sn, .int .i64 (n : Int)) :: K0 n) ds W) :
    ok P ρ N (.block id (.loop (.seq (.region r1 #[{ dst := some sc, op := .binOp .lss 3 (.tmp si) (.tmp sn) 3, type := ty1, pos := p1, after := a1, guard := none }] false)
      (.seq (.cond (.tmp sc) .skip (.exit id)) (.seq (.block id2 body) (.region r2 #[{ dst := some st, op := .binOp .add 3 (.tmp si) (.const (.int .i64 1)) 3, type := ty2, pos := p2, after := a2, guard := none },
        { dst := some si, op := .move (.tmp st), type := ty3, pos := p3, after := a3, guard := none }] false)))))) K ds w Φ := by
  simp only [Bool.and_eq_true, bne_iff_ne, ne_eq, decide_eq_true_eq] at hs
  obtain ⟨⟨⟨⟨⟨⟨⟨h1, h2⟩, h3⟩, h4⟩, h5⟩, h6⟩, h7⟩, h8⟩ := hs
  have hKa : ∀ i, ∀ q ∈ K0 i, ((¬ q.1 = si ∧ ¬ q.1 = st) ∧ ¬ q.1 = sc) ∧ ¬ q.1 = sn := fun i q hq => by simpa using List.all_eq_true.1 (hK i) q hq
  have hK1 : ∀ i, ((K0 i).all fun q => q.1 != si) = true := fun i => List.all_eq_true.2 fun q hq => by simpa using (hKa i q hq).1.1.1
  have hK2 : ∀ i, ((K0 i).all fun q => q.1 != st) = true := fun i => List.all_eq_true.2 fun q hq => by simpa using (hKa i q hq).1.1.2
  have hK3 : ∀ i, ((K0 i).all fun q => q.1 != sc) = true := fun i => List.all_eq_true.2 fun q hq => by simpa using (hKa i q hq).1.2
  have hK4 : ∀ i, ((K0 i).all fun q => q.1 != sn) = true := fun i => List.all_eq_true.2 fun q hq => by simpa using (hKa i q hq).2
  refine ok_block (ok_loop (fun i : Nat => (si, .int .i64 (i : Int)) :: (sn, .int .i64 (n : Int)) :: K0 i) (fun i W => i ≤ n ∧ I i W) (fun i => n - i) 0 hsub ⟨Nat.zero_le _, h0⟩ ?_)
  rintro i W ⟨hi, hI⟩
  have g1 : Env.get ((si, .int .i64 (i : Int)) :: (sn, .int .i64 (n : Int)) :: K0 i) si = some (.int .i64 (i : Int)) := by simp [Env.get]
  have g2 : Env.get ((si, .int .i64 (i : Int)) :: (sn, .int .i64 (n : Int)) :: K0 i) sn = some (.int .i64 (n : Int)) := by simp [Env.get, Ne.symm h3]
  refine ok_seq (fun M hM => ok_region (ops := [_]) (by simp [dstsOk, h6]) ?_)
  simp only [wpL, opF, ev, g1, g2, binV, putE, true_and]
  refine hM _ _ _ ?_; clear hM M
  have g3 : ev ((sc, .bool (decide ((i : Int) < (n : Int)))) :: (si, .int .i64 (i : Int)) :: (sn, .int .i64 (n : Int)) :: K0 i) (.tmp sc) = some (.bool (decide ((i : Int) < (n : Int)))) := by simp [ev, Env.get]
  by_cases hlt : i < n
  · refine ok_seq (fun M hM => ok_cond (b := true) (by rw [g3]; simp; omega) (fun _ => ok_skip ?_) (fun h => by cases h))
    refine hM _ _ _ ?_; clear hM M
    refine ok_seq (fun M hM => ok_block (ok_mono (ok_less ((si, .int .i64 (i : Int)) :: (sn, .int .i64 (n : Int)) :: K0 i) ?_ (hbody i W hlt hI)) ?_))
    · refine ⟨?_, ?_, sub_cons (hK3 i) (sub_cons (hK1 i) (sub_cons (hK4 i) (hK0 i)))⟩
      · simp [Env.get, Ne.symm h1]
      · simp [Env.get, Ne.symm h2, Ne.symm h3]
    · have key : ∀ (K' : Env) (ds' : List Deferred) (W' : World), ds' = ds ∧ sub ((si, .int .i64 (i : Int)) :: (sn, .int .i64 (n : Int)) :: K0 (i + 1)) K' ∧ I (i + 1) W' → M K' ds' W' := by
        rintro K' ds' W' ⟨rfl, hs', hI'⟩
        have g4 : K'.get si = some (.int .i64 (i : Int)) := hs'.1
        refine hM _ _ _ (ok_region (ops := [_, _]) (by simp [dstsOk, h7, h8]) ?_)
        have hin : inI .i64 ((i : Int) + 1) := by simp only [inI]; omega
        simp only [wpL, opF, ev, g4, binV, putE, true_and, hin, Env.get, if_true, thenN]
        refine ⟨i + 1, ⟨by simp [Env.get], ?_, sub_cons (hK1 _) (sub_cons (hK2 _) hs'.2.2)⟩, ⟨hlt, hI'⟩, by omega⟩
        have := hs'.2.1
        simp [Env.get, Ne.symm h3, Ne.symm h4, this]
      intro e K' ds' W' hp
      cases e with
      | normal => exact key K' ds' W' hp
      | exit j =>
        simp only [inBlockN, thenN] at hp ⊢
        split at hp
        · rename_i hj; subst hj; rw [if_pos rfl]; exact key K' ds' W' hp
        · rename_i hj; rw [if_neg hj]; exact hp
      | goto l => exact hp
      | ret => exact hp
      | panic ch => exact hp
      | outgrown => exact hp
  · refine ok_seq (fun M hM => ok_cond (b := false) (by rw [g3]; simp; omega) (fun h => by cases h) (fun _ => ok_exit ?_))
    obtain rfl : i = n := by omega
    have hdn : decide ((i : Int) < (i : Int)) = false := by simp
    rw [hdn]
    simp only [thenN, inBlockN, if_true]
    exact hend W hI
end Go.Proofs.Vg
/- Chapter 31: local.  -/
set_option linter.unusedVariables false
set_option linter.unusedSimpArgs false
namespace Go.Proofs.YtcpjojaklpgnkaaGreat
open Go Go.Proofs.Vg Go.RowKit
def timesGs (l : List G) (v : Int) : Nat := (l.map fun g => timesG g v).sum
theorem timesGs_take {l : List G} {v : Int} {i : Nat} (hi : i < l.length) : timesGs (l.take (i + 1)) v = timesGs (l.take i) v + timesG l[i] v := by
  rw [timesGs, timesGs, List.take_add_one, List.map_append, List.sum_append]
  simp [hi]
theorem timesGs_le {l : List G} {v : Int} (i : Nat) : timesGs (l.take i) v ≤ timesGs l v := by
  have : timesGs l v = timesGs (l.take i) v + timesGs (l.drop i) v := by
    simp only [timesGs]
    rw [← List.sum_append, ← List.map_append, List.take_append_drop]
  omega
-- -- function 174
set_option maxHeartbeats 8000000 in
set_option maxRecDepth 8000 in
theorem local_ok (w : World) (S : Nat → Prop) (B : Nat) (acs pcs : List Value) (pa : Addr) (p : Pr) (v : Int) (vk : Value) (l : List G) (hb : Blk w B acs 134) (h1 : acs[1]? = some (.pointer (some pa))) (hpc : cellsAt w pa pcs) (hp : Rd w S pcs (encP p)) (hk : Rd w S [vk] [.sl 128 (l.map encG)])
    (hl : ∀ g ∈ l, g.ht ≤ 549755813888 ∧ (preG g 1).length ≤ 549755813888) (hs : timesGs l v ≤ 549755813888) (hbh : p.body.ht ≤ 549755813888) (hbn : (preG p.body 1).length ≤ 549755813888) (hh : p.heads.contains v = false) (ht : timesG p.body v = timesGs l v) :
    Rets Tryz.prog 174 [.pointer (some ⟨B, 0, none⟩), .int .i64 v, vk] w (fun r w' => r = .bool true ∧ Ext w w') := by
  obtain ⟨A, c, rfl, hkl, -, -⟩ := hk.hd
  simp only [List.length_map] at hkl hk ⊢
  refine rets_of_ok Tryz.func174 rfl rfl ?_
  refine ok_seq (fun M hM => ok_region rfl ?_); repeat ((try subst X); (first | (first | apply zL | apply zH | apply zE); intro X hX | apply zh | apply zl | apply ze); try simp only [zU, reduceIte, Nat.reduceEqDiff, Nat.reduceAdd, reduceCtorEq, Q174])
  refine hM _ _ _ ?_; clear hM M
  refine ok_seq (fun M hM => ok_region rfl ?_); repeat ((try subst X); (first | (first | apply zL | apply zH | apply zE); intro X hX | apply zh | apply zl | apply ze); try simp only [zU, reduceIte, Nat.reduceEqDiff, Nat.reduceAdd, reduceCtorEq, Q174])
  refine hM _ _ _ ?_; clear hM M
  refine ok_join [(0, .pointer (some ⟨B, 0, none⟩)), (1, .int .i64 v), (7, .int .i64 (timesGs l v : Int))] (fun W => Ext w W) ?_ ?_
  · refine ok_seq (fun M hM => ok_region rfl ?_); repeat ((try subst X); (first | (first | apply zL | apply zH | apply zE); intro X hX | apply zh | apply zl | apply ze); try simp only [zU, reduceIte, Nat.reduceEqDiff, Nat.reduceAdd, reduceCtorEq, Q174])
    refine hM _ _ _ ?_; clear hM M
    refine ok_forK (n := l.length) (fun i => [(0, .pointer (some ⟨B, 0, none⟩)), (1, .int .i64 v), (10, .slice A l.length c), (7, .int .i64 (timesGs (l.take i) v : Int))]) (fun i W => Ext w W) (fun i => rfl) (fun i => by simp [sub, Env.get]) rfl (by simp [sub, Env.get, timesGs]) hkl (Ext.refl _) ?_ ?_
    · intro i W hi he
      have hx : (l.map encG)[i]? = some (encG l[i]) := by simp [hi]
      obtain ⟨k, o, r, rfl, -, hkl, hcell, hr⟩ := (hk.ext he).row hx
      have hrl : r.length = 9 := by rw [hr.len, encG_len]
      rw [encG_len] at hcell
      have hg := hl l[i] (List.getElem_mem hi)
      have hsm := timesGs_take (v := v) hi
      have hsl := timesGs_le (l := l) (v := v) (i + 1)
      refine ok_seq (fun M hM => ok_region rfl ?_)
      repeat ((try subst X); (first | (first | apply zL | apply zH | apply zE); intro X hX | apply zh | apply zl | apply ze); try simp only [zU, reduceIte, Nat.reduceEqDiff, Nat.reduceAdd, reduceCtorEq, Q174])
      refine ⟨by omega, by omega, ?_⟩
      repeat ((try subst X); (first | (first | apply zL | apply zH | apply zE); intro X hX | apply zh | apply zl | apply ze); try simp only [zU, reduceIte, Nat.reduceEqDiff, Nat.reduceAdd, reduceCtorEq, Q174])
      refine ⟨r, hrl, by simpa [add_at] using hcell, ?_⟩
      repeat ((try subst X); (first | (first | apply zL | apply zH | apply zE); intro X hX | apply zh | apply zl | apply ze); try simp only [zU, reduceIte, Nat.reduceEqDiff, Nat.reduceAdd, reduceCtorEq, Q174])
      refine Runs.alloc Fx.zi37 (fun w4 he4 hs4 hb4 => ?_)
      generalize hB4 : W.heap.size = B4 at *
      repeat ((try subst X); (first | (first | apply zL | apply zH | apply zE); intro X hX | apply zh | apply zl | apply ze); try simp only [zU, reduceIte, Nat.reduceEqDiff, Nat.reduceAdd, reduceCtorEq, Q174])
      refine Runs.store hb4 Fx.zi37 (by simpa [Value.cells] using hrl) (fun u hu => (hr.one u (by simpa [Value.cells] using hu)).1) (by simp [Value.cells]) (fun w5 hc5 hs5 hb5 => ?_)
      rw [agg_cells, splice_all _ _ (by simpa [Value.cells] using hrl)] at hb5
      repeat ((try subst X); (first | (first | apply zL | apply zH | apply zE); intro X hX | apply zh | apply zl | apply ze); try simp only [zU, reduceIte, Nat.reduceEqDiff, Nat.reduceAdd, reduceCtorEq, Q174])
      refine hM _ _ _ ?_; clear hM M
      have he45 : Ext W w5 := he4.chg_trans hc5 (by intro k hk; omega)
      refine ok_region rfl ?_
      repeat ((try subst X); (first | (first | apply zL | apply zH | apply zE); intro X hX | apply zh | apply zl | apply ze); try simp only [zU, reduceIte, Nat.reduceEqDiff, Nat.reduceAdd, reduceCtorEq, Q174])
      refine ⟨r, hrl, hb5.all, ?_⟩
      repeat ((try subst X); (first | (first | apply zL | apply zH | apply zE); intro X hX | apply zh | apply zl | apply ze); try simp only [zU, reduceIte, Nat.reduceEqDiff, Nat.reduceAdd, reduceCtorEq, Q174])
      refine Inv.call Fx.en192 (times_ok w5 _ r l[i] v (hr.ext he45) hg.1 hg.2) ?_
      rintro _ w6 ⟨rfl, he6⟩
      repeat ((try subst X); (first | (first | apply zL | apply zH | apply zE); intro X hX | apply zh | apply zl | apply ze); try simp only [zU, reduceIte, Nat.reduceEqDiff, Nat.reduceAdd, reduceCtorEq, Q174])
      refine ⟨by simp only [inI]; omega, ?_⟩
      repeat ((try subst X); (first | (first | apply zL | apply zH | apply zE); intro X hX | apply zh | apply zl | apply ze); try simp only [zU, reduceIte, Nat.reduceEqDiff, Nat.reduceAdd, reduceCtorEq, Q174])
      exact ⟨by simp [sub, Env.get, hsm], (he.trans he45).trans he6⟩
    · intro W he
      exact ⟨rfl, by simp [sub, Env.get], he⟩
  rintro W he
  obtain ⟨Av, cv, Ah, ch, Am, cm, Aa, ca, Ak, ck, Ac, cc, rfl, hv, hhd, hm, hbd⟩ := rdP hp
  refine ok_seq (fun M hM => ok_region rfl ?_)
  repeat ((try subst X); (first | (first | apply zL | apply zH | apply zE); intro X hX | apply zh | apply zl | apply ze); try simp only [zU, reduceIte, Nat.reduceEqDiff, Nat.reduceAdd, reduceCtorEq, Q174])
  refine ⟨_, Blk.cell (hb.ext he) h1, ?_⟩
  repeat ((try subst X); (first | (first | apply zL | apply zH | apply zE); intro X hX | apply zh | apply zl | apply ze); try simp only [zU, reduceIte, Nat.reduceEqDiff, Nat.reduceAdd, reduceCtorEq, Q174])
  refine ⟨_, he.cell (hpc 3 _ rfl), ?_⟩
  repeat ((try subst X); (first | (first | apply zL | apply zH | apply zE); intro X hX | apply zh | apply zl | apply ze); try simp only [zU, reduceIte, Nat.reduceEqDiff, Nat.reduceAdd, reduceCtorEq, Q174])
  refine Inv.call Fx.en104 (contains_ok W S _ p.heads v (hhd.ext he)) ?_
  rintro _ w7 ⟨rfl, rfl⟩
  simp only [hh]
  repeat ((try subst X); (first | (first | apply zL | apply zH | apply zE); intro X hX | apply zh | apply zl | apply ze); try simp only [zU, reduceIte, Nat.reduceEqDiff, Nat.reduceAdd, reduceCtorEq, Q174])
  refine ⟨_, Blk.cell (hb.ext he) h1, ?_⟩
  repeat ((try subst X); (first | (first | apply zL | apply zH | apply zE); intro X hX | apply zh | apply zl | apply ze); try simp only [zU, reduceIte, Nat.reduceEqDiff, Nat.reduceAdd, reduceCtorEq, Q174])
  refine ⟨[.int .i64 p.body.kind, .int .i64 p.body.left, .int .i64 p.body.num, .string p.body.text, .int .i64 p.body.form, .slice Aa p.body.args.length ca, .slice Ak p.body.kids.length ck, .slice Ac p.body.cases.length cc, .int .i64 p.body.pos], rfl, ?_, ?_⟩
  · intro j u hj
    have hj9 : j < 9 := by have := (List.getElem?_eq_some_iff.1 hj).1; simpa using this
    have := he.cell (hpc (6 + j) u (by
      obtain rfl | rfl | rfl | rfl | rfl | rfl | rfl | rfl | rfl : j = 0 ∨ j = 1 ∨ j = 2 ∨ j = 3 ∨ j = 4 ∨ j = 5 ∨ j = 6 ∨ j = 7 ∨ j = 8 := by omega
      all_goals exact hj))
    rw [show (pa.add 6).add j = pa.add (6 + j) by simp [Addr.add, Nat.add_assoc]]
    exact this
  repeat ((try subst X); (first | (first | apply zL | apply zH | apply zE); intro X hX | apply zh | apply zl | apply ze); try simp only [zU, reduceIte, Nat.reduceEqDiff, Nat.reduceAdd, reduceCtorEq, Q174])
  refine Inv.call Fx.en192 (times_ok _ S _ p.body v (hbd.ext he) hbh hbn) ?_
  rintro _ w8 ⟨rfl, he8⟩
  simp only [ht]
  repeat ((try subst X); (first | (first | apply zL | apply zH | apply zE); intro X hX | apply zh | apply zl | apply ze); try simp only [zU, reduceIte, Nat.reduceEqDiff, Nat.reduceAdd, reduceCtorEq, Q174])
  refine hM _ _ _ ?_; clear hM M
  refine ok_ret ?_
  try simp only [zW, zU, reduceIte, Nat.reduceEqDiff, Nat.reduceAdd, reduceCtorEq, Q174]
  exact he.trans he8
end Go.Proofs.YtcpjojaklpgnkaaGreat
set_option linter.unusedVariables false
set_option linter.unusedSimpArgs false
namespace Go.Proofs.Vg
open Go Go.RowKit

section
variable {P : Program} {w : World} {R : Value → World → Prop}

/-- A function that is deferred and asks recover() first of all, entered where nothing panics: recover hands back nil. -/
theorem callsD_recover {f : FuncId} {fn : Func} {id d : Nat} {o : Oper} {c : Code} {args : List Value} {T : World → Prop} (hf : P.funcs[f]? = some fn) (hb : fn.body = some (.seq (.region id #[o] false) c))
    (hn : fn.ntmps = args.length + (fn.ntmps - args.length)) (hg : o.guard = none) (hd : o.dst = some d) (hdn : d < fn.ntmps) (hr : ∀ (ρ : Operand → Value) (w : World), (execOp ρ o).run P w = .ok .recover w)
    (h : ok P none fn.ntmps c ((d, .nilIface) :: argEnv 0 args) [] w (fin fn.results.toList (callR (fun _ w' => T w') fun _ _ => False))) :
    CallsDIn Fence.wide 0 P f args.toArray .returning w (fun e u w' => ∃ v, e = .returned v ∧ u = .returning ∧ T w') := by
  refine callsDIn_of_wpSIn hf hb trivial (fun c₀ cs hu => wpSIn_seq (wpSIn_region ?_))
  have hk := Kn.enter args (fn.ntmps - args.length)
  rw [← hn] at hk
  have hk' := hk.put (dst := some d) (v := .nilIface) (fun _ h => by cases h; exact hdn)
  have hl : List.range (#[o] : Array Oper).size = [0] := rfl
  rw [hl]
  have hrec : recoverD (c₀ :: cs) = none := by simp [recoverD, hu]
  have hw := h _ hk'
  have h0 : (#[o] : Array Oper)[0]? = some o := rfl
  simp only [wpOpsSIn, h0, Region.wanted, hg, if_true, hr, hrec, hd]
  refine ⟨fun _ _ => trivial, ?_⟩
  simp only [Exit.thenS]
  have ha : (args.toArray ++ Array.replicate (fn.ntmps - args.toArray.size) undef) = (args.toArray ++ Array.replicate (fn.ntmps - args.length) undef) := by simp
  rw [ha]
  refine wpSIn_of_wpIn rfl (wpIn_mono (F := Fence.wide) hw ?_)
  rintro e a' w' ⟨K, ds, hk, hp⟩
  have hc : c₀ :: cs = { c₀ with mode := .returning } :: cs := by rw [← hu]
  cases e <;> simp only [fin] at hp <;> simp only [bodyPostS]
  all_goals first | exact hp.elim | skip
  · obtain ⟨rfl, hp⟩ := hp
    split at hp
    · rename_i v hv
      exact ⟨hk.defers, _, hc, v, retE_run hk hv _, v, rfl, rfl, hp⟩
    · exact hp.elim
  · obtain ⟨rfl, hp⟩ := hp
    split at hp
    · rename_i v hv
      exact ⟨hk.defers, _, hc, v, retE_run hk hv _, v, rfl, rfl, hp⟩
    · exact hp.elim
  · exact hp.2.elim

/-- The end of a function with one deferred closure. -/
def finD (P : Program) (rs : List ResultVar) (R : Value → World → Prop) : Post
  | .normal, K, ds, w | .ret, K, ds, w => ∃ g cap, ds = [{ target := .fn (.func g) cap, args := #[] }] ∧ (∀ (xs : Array Value) (w : World), (callFunc g xs).run P w = .ok (.enter g xs) w) ∧
      CallsDIn Fence.wide 0 P g cap .returning w (fun e u w' => ∃ v, e = .returned v ∧ u = .returning ∧ match retE K rs with | some r => R r w' | none => False)
  | _, _, _, _ => False

theorem rets_of_okD {f : FuncId} {fn : Func} {c : Code} {args : List Value} (hf : P.funcs[f]? = some fn) (hb : fn.body = some c) (hn : fn.ntmps = args.length + (fn.ntmps - args.length))
    (h : ok P none fn.ntmps c (argEnv 0 args) [] w (finD P fn.results.toList R)) : Rets P f args w R := by
  refine (callsIn_wide (n := 0)).1 (callsIn_of_wp_defers hf hb trivial (c := c) ?_)
  have hk := Kn.enter args (fn.ntmps - args.length)
  rw [← hn] at hk
  have hw := h _ hk
  have ha : (args.toArray ++ Array.replicate (fn.ntmps - args.toArray.size) undef) = (args.toArray ++ Array.replicate (fn.ntmps - args.length) undef) := by simp
  rw [ha]
  refine wpIn_mono (F := fence none) hw ?_
  have key : ∀ (a' : Act) (w' : World) (K : Env) (ds : List Deferred), Kn K fn.ntmps ds a' → (∃ g cap, ds = [{ target := .fn (.func g) cap, args := #[] }] ∧ (∀ (xs : Array Value) (w : World), (callFunc g xs).run P w = .ok (.enter g xs) w) ∧
      CallsDIn Fence.wide 0 P g cap .returning w' (fun e u w' => ∃ v, e = .returned v ∧ u = .returning ∧ match retE K fn.results.toList with | some r => R r w' | none => False)) →
      LeavesIn Fence.wide 0 P fn a'.tmps (callR R fun _ _ => False) a'.defers .returning w' := by
    rintro a' w' K ds hk ⟨g, cap, rfl, hen, hc⟩
    rw [hk.defers]
    refine leavesIn_cons (by simp) (fun h => by simp [Fence.wide] at h) (f := g) (args := cap) ?_ (fun _ _ => trivial) (hc.mono ?_)
    · have := hen (#[] ++ cap) w'
      simp only [Array.empty_append] at this
      simp only [invoke, Array.empty_append]
      exact this
    · rintro e u' w'' ⟨v, rfl, rfl, hp⟩
      split at hp
      · rename_i r hr
        exact ⟨r, retE_run hk hr _, hp⟩
      · exact hp.elim
  rintro e a' w' ⟨K, ds, hk, hp⟩
  cases e <;> simp only [finD] at hp <;> simp only [bodyPostDIn]
  all_goals first | exact hp.elim | exact key _ _ _ _ hk hp

/-- A region of two operations: a closure is made, and its call is deferred. -/
theorem ok_region_defer {N : Nat} {K : Env} {ds : List Deferred} {Φ : Post} {id d g : Nat} {o₁ o₂ : Oper} {cap : List Value} (h1 : o₁.guard = none) (h2 : o₂.guard = none) (hd1 : o₁.dst = some d) (hd2 : o₂.dst = none) (hdN : d < N)
    (ho : o₂.op = .defer { callee := .value (.tmp d), args := #[], argTypes := #[] })
    (hv : opF P K w (fun v w' => v = .func (.func g) #[] cap.toArray ∧ w' = w) (fun _ _ => False) o₁.type o₁.op)
    (h : Φ .normal ((d, .func (.func g) #[] cap.toArray) :: K) ({ target := .fn (.func g) cap.toArray, args := #[] } :: ds) w) :
    ok P none N (.region id #[o₁, o₂] false) K ds w Φ := by
  intro a ha
  refine wpIn_region ?_
  have hl : List.range (#[o₁, o₂] : Array Oper).size = [0, 1] := rfl
  rw [hl]
  have e0 : (#[o₁, o₂] : Array Oper)[0]? = some o₁ := rfl
  have e1 : (#[o₁, o₂] : Array Oper)[1]? = some o₂ := rfl
  simp only [wpOpsIn, e0, e1, Region.wanted, h1, h2, if_true]
  refine opF_sound ha hv ?_ (fun _ _ h => h.elim)
  rintro v w' ⟨rfl, rfl⟩
  have hk := ha.put (dst := some d) (v := .func (.func g) #[] cap.toArray) (fun _ h => by cases h; exact hdN)
  rw [hd1]
  refine ⟨fun _ _ => trivial, ?_⟩
  have hev : (a.put (some d) (.func (.func g) #[] cap.toArray)).eval (.tmp d) = .func (.func g) #[] cap.toArray := ev_eval hk (by simp [ev, putE, Env.get])
  have hs : (o₂.semAt (fence none).round (a.put (some d) (.func (.func g) #[] cap.toArray)).eval).run P w' = .ok (.defer { target := .fn (.func g) cap.toArray, args := #[] }) w' := by
    show (o₂.semAt none _).run P w' = _
    rw [Oper.semAt_none]
    unfold execOp
    rw [ho]
    simp only [resolve, hev, Deferred.ofValue, Array.map_empty, Array.append_empty]
    rfl
  rw [hs, Oper.uponIn_defer, hd2]
  exact ⟨_, _, ⟨hk.size, by simp [Act.put, ha.defers], hk.at_⟩, h⟩
end
end Go.Proofs.Vg
/- Chapter 31: the deferred closure of Apply, and the closure that defers it, where nothing panics.  -/
set_option linter.unusedVariables false
set_option linter.unusedSimpArgs false
namespace Go.Proofs.YtcpjojaklpgnkaaGreat
open Go Go.Proofs.Vg Go.RowKit
-- -- function 31
set_option maxRecDepth 8000 in
theorem rec_ok (w : World) (v0 : Value) : CallsDIn Fence.wide 0 Tryz.prog 31 [v0].toArray .returning w (fun e u w' => ∃ v, e = .returned v ∧ u = .returning ∧ w' = w) := by
  refine callsD_recover (T := fun w' => w' = w) Tryz.func31 rfl rfl rfl rfl (by decide) (fun _ _ => rfl) ?_
  refine ok_block ?_
  refine ok_seq (fun M hM => ok_region rfl ?_)
  repeat ((try subst X); (first | (first | apply zL | apply zH | apply zE); intro X hX | apply zh | apply zl | apply ze); try simp only [zU, reduceIte, Nat.reduceEqDiff, Nat.reduceAdd, reduceCtorEq, Q31])
  have hq : Runs Tryz.prog (do
        eqGuard BinOp.eql 20 (Operand.tmp 4) (Operand.const Value.nilIface) Value.nilIface Value.nilIface
        binOp BinOp.eql 20 Value.nilIface Value.nilIface) w (fun v w' => X v [(4, Value.nilIface), (0, v0)] w') := by
    refine ⟨.bool true, w, ?_, ?_⟩
    · rfl
    · show X _ _ _
      repeat ((try subst X); (first | (first | apply zL | apply zH | apply zE); intro X hX | apply zh | apply zl | apply ze); try simp only [zU, reduceIte, Nat.reduceEqDiff, Nat.reduceAdd, reduceCtorEq, Q31])
      refine hM _ _ _ ?_; clear hM M
      refine ok_cond rfl (fun _ => ?_) (fun h => by cases h)
      refine ok_region rfl ?_
      repeat ((try subst X); (first | (first | apply zL | apply zH | apply zE); intro X hX | apply zh | apply zl | apply ze); try simp only [zU, reduceIte, Nat.reduceEqDiff, Nat.reduceAdd, reduceCtorEq, Q31])
  exact hq
-- -- function 30
set_option maxRecDepth 8000 in
theorem run_ok (w : World) (ve vo : Value) (B : Nat) (scs : List Value) (R : Value → World → Prop) (hb : cellsAt w ⟨B, 0, none⟩ scs) (hl : scs.length = 22) (hA : Rets Tryz.prog 32 [vo, .agg scs.toArray] w R) : Rets Tryz.prog 30 [ve, vo, .pointer (some ⟨B, 0, none⟩)] w (fun _ w' => ∃ v, R v w') := by
  refine rets_of_okD Tryz.func30 rfl rfl ?_
  refine ok_seq (fun M hM => ok_region_defer (g := 31) (cap := [ve]) rfl rfl rfl rfl (by decide) rfl ?_ ?_)
  · simp [opF, argEnv, evs, ev, Env.get]
  refine hM _ _ _ ?_; clear hM M
  refine ok_region rfl ?_
  repeat ((try subst X); (first | (first | apply zL | apply zH | apply zE); intro X hX | apply zh | apply zl | apply ze); try simp only [zU, reduceIte, Nat.reduceEqDiff, Nat.reduceAdd, reduceCtorEq, Q30])
  refine ⟨scs, hl, hb, ?_⟩
  repeat ((try subst X); (first | (first | apply zL | apply zH | apply zE); intro X hX | apply zh | apply zl | apply ze); try simp only [zU, reduceIte, Nat.reduceEqDiff, Nat.reduceAdd, reduceCtorEq, Q30])
  refine Inv.call Fx.en32 hA ?_
  rintro v w2 hv
  repeat ((try subst X); (first | (first | apply zL | apply zH | apply zE); intro X hX | apply zh | apply zl | apply ze); try simp only [zU, reduceIte, Nat.reduceEqDiff, Nat.reduceAdd, reduceCtorEq, Q30])
  refine ⟨31, _, rfl, Fx.en31, (rec_ok w2 ve).mono ?_⟩
  rintro e u w3 ⟨v, rfl, rfl, rfl⟩
  exact ⟨_, rfl, rfl, _, hv⟩
end Go.Proofs.YtcpjojaklpgnkaaGreat
/- Chapter 31: Apply, where its step ends normally: what the step does is a premise.  -/
set_option linter.unusedVariables false
set_option linter.unusedSimpArgs false
namespace Go.Proofs.YtcpjojaklpgnkaaGreat
open Go Go.Proofs.Vg Go.RowKit
-- -- function 7
set_option maxHeartbeats 8000000 in
set_option maxRecDepth 8000 in
theorem apply_ok (insts : List In) (procs : List Pr) (w : World) (S : Nat → Prop) (vt0 vi0 vp0 vd0 vf0 va0 : Value) (scs : List Value) (Q : Nat → Nat → List Value → World → Prop) (ht : pE vt0) (hi : Rd w S [vi0] [.sl 64 (insts.map encI)]) (hp : Rd w S [vp0] [.sl 256 (procs.map encP)]) (hd : pE vd0) (hf : pE vf0) (ha : pE va0)
    (hsl : scs.length = 22) (hs1 : ∀ u ∈ scs, u.oneCell' = true ∧ u.cells = #[u]) (hn : procs.length ≤ 2000) (hsm : ∀ p ∈ procs, p.body.ht ≤ 126 ∧ (preG p.body 1).length ≤ 5000)
    (hA : ∀ (W : World) (B B' b0 : Nat) (vt vi vp vd vf va : Value), Ext w W → w.heap.size ≤ B → w.heap.size ≤ B' → B < b0 → B' < b0 → B ≠ B' → pE vf → pE va → Blk W B [vt, vi, vp, vd, vf, va] 31 → PgX (fun k => (S k ∧ k < w.heap.size) ∨ b0 ≤ k) b0 insts procs vt vi vp vd W (fun _ => False) →
      Rets Tryz.prog 32 [.pointer (some ⟨B, 0, none⟩), .agg scs.toArray] W (fun _ W' => Chg (fun k => k = B ∨ vp.ownBlock = some k) W W' ∧ ∃ ocs, ocs.length = 6 ∧ (∀ u ∈ ocs, u.oneCell' = true ∧ u.cells = #[u]) ∧ Blk W' B ocs 31 ∧ Q B B' ocs W')) :
    Rets Tryz.prog 7 [.agg #[vt0, vi0, vp0, vd0, vf0, va0], .agg scs.toArray] w (fun r w' => Ext w w' ∧ ∃ B B' ocs W', r = .tuple #[.agg ocs.toArray, .int .i64 0] ∧ Q B B' ocs W' ∧ Chg (fun k => k = B ∨ k = B') W' w') := by
  obtain ⟨Ap, cp, rfl, hpl, hpb, -⟩ := hp.hd
  simp only [List.length_map] at hp hpl hpb ⊢
  replace hi := hi.mono (S' := fun k => S k ∧ k < w.heap.size) (fun k h1 h2 => ⟨h1, h2⟩)
  replace hp := hp.mono (S' := fun k => S k ∧ k < w.heap.size) (fun k h1 h2 => ⟨h1, h2⟩)
  have h0 : ¬ ((procs.length : Int) > 2000) := by omega
  have hi1 := hi.one _ (List.mem_singleton_self _)
  obtain ⟨At, ct, rfl⟩ := ht
  obtain ⟨Ad, cd, rfl⟩ := hd
  obtain ⟨Af, cf, rfl⟩ := hf
  obtain ⟨Aa, ca, rfl⟩ := ha
  obtain ⟨Ai, ci, rfl, -, -, -⟩ := hi.hd
  simp only [List.length_map] at hi ⊢
  refine rets_of_okC Tryz.func7 rfl rfl ?_
  refine ok_seq (fun M hM => ok_region rfl ?_)
  repeat ((try subst X); (first | (first | apply zL | apply zH | apply zE); intro X hX | apply zh | apply zl | apply ze); try simp only [zU, reduceIte, Nat.reduceEqDiff, Nat.reduceAdd, reduceCtorEq, Q7])
  refine Runs.box (fun w1 he1 hs1' hb1 => ?_)
  simp only [Value.cells] at hb1
  generalize hB1 : w.heap.size = B1 at *
  repeat ((try subst X); (first | (first | apply zL | apply zH | apply zE); intro X hX | apply zh | apply zl | apply ze); try simp only [zU, reduceIte, Nat.reduceEqDiff, Nat.reduceAdd, reduceCtorEq, Q7])
  refine Runs.box (fun w2 he2 hs2 hb2 => ?_)
  rw [agg_cells] at hb2
  generalize hB2 : w1.heap.size = B2 at *
  repeat ((try subst X); (first | (first | apply zL | apply zH | apply zE); intro X hX | apply zh | apply zl | apply ze); try simp only [zU, reduceIte, Nat.reduceEqDiff, Nat.reduceAdd, reduceCtorEq, Q7])
  refine Runs.alloc Fx.zi31 (fun w3 he3 hs3 hb3 => ?_)
  simp only [Value.cells] at hb3
  generalize hB3 : w2.heap.size = B3 at *
  repeat ((try subst X); (first | (first | apply zL | apply zH | apply zE); intro X hX | apply zh | apply zl | apply ze); try simp only [zU, reduceIte, Nat.reduceEqDiff, Nat.reduceAdd, reduceCtorEq, Q7])
  refine Runs.alloc Fx.zi44 (fun w4 he4 hs4 hb4 => ?_)
  simp only [Value.cells] at hb4
  generalize hB4 : w3.heap.size = B4 at *
  repeat ((try subst X); (first | (first | apply zL | apply zH | apply zE); intro X hX | apply zh | apply zl | apply ze); try simp only [zU, reduceIte, Nat.reduceEqDiff, Nat.reduceAdd, reduceCtorEq, Q7])
  refine hM _ _ _ ?_; clear hM M
  have he34 := he3.trans he4
  replace hb1 := (hb1.ext he2).ext he34
  replace hb2 := hb2.ext he34
  replace hb3 := hb3.ext he4
  have he04 := (he1.trans he2).trans he34
  refine ok_join [(2, .pointer (some ⟨B1, 0, none⟩)), (3, .pointer (some ⟨B2, 0, none⟩)), (4, .pointer (some ⟨B3, 0, none⟩)), (5, .pointer (some ⟨B4, 0, none⟩))] (fun W => Ext w4 W) ?_ ?_
  · refine ok_seq (fun M hM => ok_region rfl ?_)
    repeat ((try subst X); (first | (first | apply zL | apply zH | apply zE); intro X hX | apply zh | apply zl | apply ze); try simp only [zU, reduceIte, Nat.reduceEqDiff, Nat.reduceAdd, reduceCtorEq, Q7])
    refine ⟨_, Blk.cell (by assumption) rfl, ?_⟩
    repeat ((try subst X); (first | (first | apply zL | apply zH | apply zE); intro X hX | apply zh | apply zl | apply ze); try simp only [zU, reduceIte, Nat.reduceEqDiff, Nat.reduceAdd, reduceCtorEq, Q7])
    simp only [h0, decide_false]
    repeat ((try subst X); (first | (first | apply zL | apply zH | apply zE); intro X hX | apply zh | apply zl | apply ze); try simp only [zU, reduceIte, Nat.reduceEqDiff, Nat.reduceAdd, reduceCtorEq, Q7])
    refine ⟨fun _ => ?_, fun h => by cases h⟩
    repeat ((try subst X); (first | (first | apply zL | apply zH | apply zE); intro X hX | apply zh | apply zl | apply ze); try simp only [zU, reduceIte, Nat.reduceEqDiff, Nat.reduceAdd, reduceCtorEq, Q7])
    refine ⟨_, Blk.cell (by assumption) rfl, ?_⟩
    repeat ((try subst X); (first | (first | apply zL | apply zH | apply zE); intro X hX | apply zh | apply zl | apply ze); try simp only [zU, reduceIte, Nat.reduceEqDiff, Nat.reduceAdd, reduceCtorEq, Q7])
    refine Inv.call Fx.en22 (contains22 w4 (fun k => S k ∧ k < B1) _ (.func (.func 27) #[] #[]) (procs.map encP) (fun _ W => Ext w4 W) (fun _ => False) (encP_wid _) (Ext.refl _) (fun i W he => (hp.ext he04).ext he) ?_) ?_
    · intro i W r row hrow he hr hrl
      obtain ⟨p, hpm, rfl⟩ := List.mem_map.1 (List.mem_of_getElem? hrow)
      have hs := hsm p hpm
      refine Inv.call Fx.en27 (procLarge_ok W _ r p hr hs.1 hs.2) ?_
      rintro _ W' ⟨rfl, he'⟩
      exact ⟨false, rfl, fun _ => he.trans he', fun h => by cases h⟩
    · rintro _ W (⟨rfl, hF⟩ | ⟨rfl, he⟩)
      · exact hF.elim
      repeat ((try subst X); (first | (first | apply zL | apply zH | apply zE); intro X hX | apply zh | apply zl | apply ze); try simp only [zU, reduceIte, Nat.reduceEqDiff, Nat.reduceAdd, reduceCtorEq, Q7])
      refine hM _ _ _ ?_; clear hM M
      refine ok_cond rfl (fun h => by cases h) (fun _ => ok_skip ?_)
      try simp only [zW, zU, reduceIte, Nat.reduceEqDiff, Nat.reduceAdd, reduceCtorEq, Q7]
      exact ⟨by simp [sub, Env.get], he⟩
  rintro w5 he5
  refine ok_seq (fun M hM => ok_region rfl ?_)
  repeat ((try subst X); (first | (first | apply zL | apply zH | apply zE); intro X hX | apply zh | apply zl | apply ze); try simp only [zU, reduceIte, Nat.reduceEqDiff, Nat.reduceAdd, reduceCtorEq, Q7])
  refine ⟨_, rfl, (hb1.ext he5).all, ?_⟩
  repeat ((try subst X); (first | (first | apply zL | apply zH | apply zE); intro X hX | apply zh | apply zl | apply ze); try simp only [zU, reduceIte, Nat.reduceEqDiff, Nat.reduceAdd, reduceCtorEq, Q7])
  refine Inv.call Fx.en29 (cloneState_ok insts procs w5 (fun k => S k ∧ k < B1) _ _ _ _ _ _ ⟨_, _, rfl⟩ ((hi.ext he04).ext he5) ((hp.ext he04).ext he5) ⟨_, _, rfl⟩ ⟨_, _, rfl⟩ ⟨_, _, rfl⟩) ?_
  rintro _ w6 ⟨he6, vt, vi, vp, vd, vf, va, rfl, ⟨Avf, cvf, rfl⟩, ⟨Ava, cva, rfl⟩, ⟨Avt, cvt, rfl⟩, hvi, hvp, -, Avd, cvd, rfl⟩
  have hz5 := he5.size
  have hz04 := he04.size
  generalize hb0 : w5.heap.size = b0 at *
  obtain ⟨Avi, cvi, rfl, -⟩ := hvi.hd
  obtain ⟨Avp, cvp, rfl, -⟩ := hvp.len
  simp only [List.length_map] at hvi hvp
  have he56 := he5.trans he6
  replace hb2 := hb2.ext he56
  replace hb3 := hb3.ext he56
  replace hb4 := hb4.ext he56
  repeat ((try subst X); (first | (first | apply zL | apply zH | apply zE); intro X hX | apply zh | apply zl | apply ze); try simp only [zU, reduceIte, Nat.reduceEqDiff, Nat.reduceAdd, reduceCtorEq, Q7])
  refine Runs.store hb3 Fx.zi31 rfl (by simp [Value.cells, Value.oneCell']) (by simp) (fun w7 hc7 hs7 hb7 => ?_)
  simp only [splice, Value.cells, List.length_cons, List.length_nil, Nat.reduceAdd, Nat.zero_add, List.take_zero, List.drop_succ_cons, List.drop_zero, List.append_nil, List.nil_append, List.drop_nil, List.length_map] at hb7
  repeat ((try subst X); (first | (first | apply zL | apply zH | apply zE); intro X hX | apply zh | apply zl | apply ze); try simp only [zU, reduceIte, Nat.reduceEqDiff, Nat.reduceAdd, reduceCtorEq, Q7])
  refine hM _ _ _ ?_; clear hM M
  obtain ⟨vp, hvpE⟩ : ∃ vp, vp = Value.slice Avp procs.length cvp := ⟨_, rfl⟩
  rw [← hvpE] at hvp hvi hb7
  have hP7 : PgX (fun k => (S k ∧ k < B1) ∨ b0 ≤ k) b0 insts procs (.slice Avt 0 cvt) (.slice Avi insts.length cvi) vp (.slice Avd 0 cvd) w7 (fun _ => False) :=
    ⟨⟨_, _, rfl⟩, hvi.chg hc7 (fun k hk _ e => by rcases hk.1.1 with h | h; have := h.2; omega; omega), hvp.chg hc7 (fun k hk e => by have := (hvp.lt hk).1; omega) (fun k hk _ e => by rcases hk.1 with h | h; have := h.2; omega; omega), fun _ _ h => h, ⟨_, _, rfl⟩⟩
  have he07 : Ext w w7 := (he04.trans he56).chg_trans hc7 (by intro k hk; omega)
  have hR := hA w7 B3 B4 b0 _ _ _ _ _ _ he07 (by omega) (by omega) (by omega) (by omega) (by omega) ⟨_, _, rfl⟩ ⟨_, _, rfl⟩ hb7 hP7
  refine ok_seq (fun M hM => ok_region rfl ?_)
  repeat ((try subst X); (first | (first | apply zL | apply zH | apply zE); intro X hX | apply zh | apply zl | apply ze); try simp only [zU, reduceIte, Nat.reduceEqDiff, Nat.reduceAdd, reduceCtorEq, Q7])
  refine Inv.clos (cap := [.pointer (some ⟨B4, 0, none⟩), .pointer (some ⟨B3, 0, none⟩), .pointer (some ⟨B2, 0, none⟩)]) Fx.en30 (run_ok w7 _ _ B2 scs _ (hb2.chg hc7 (by omega)).all hsl hR) ?_
  rintro _ w8 ⟨_, hc8, ocs, hol, hoc, hb8, hQ⟩
  repeat ((try subst X); (first | (first | apply zL | apply zH | apply zE); intro X hX | apply zh | apply zl | apply ze); try simp only [zU, reduceIte, Nat.reduceEqDiff, Nat.reduceAdd, reduceCtorEq, Q7])
  refine hM _ _ _ ?_; clear hM M
  have hb48 : Blk w8 B4 [.int .i64 0] 44 := (hb4.chg hc7 (by omega)).chg hc8 (fun e => by rcases e with e | e; omega; have := (hvp.lt e).1; omega)
  have he08 : Ext w w8 := he07.chg_trans hc8 (fun k hk => by rcases hk with e | e; omega; have := (hvp.lt e).1; omega)
  refine ok_join [(4, .pointer (some ⟨B3, 0, none⟩)), (5, .pointer (some ⟨B4, 0, none⟩))] (fun W => w8 = W) ?_ ?_
  · refine ok_seq (fun M hM => ok_region rfl ?_)
    repeat ((try subst X); (first | (first | apply zL | apply zH | apply zE); intro X hX | apply zh | apply zl | apply ze); try simp only [zU, reduceIte, Nat.reduceEqDiff, Nat.reduceAdd, reduceCtorEq, Q7])
    refine ⟨_, Blk.cell hb48 rfl, ?_⟩
    repeat ((try subst X); (first | (first | apply zL | apply zH | apply zE); intro X hX | apply zh | apply zl | apply ze); try simp only [zU, reduceIte, Nat.reduceEqDiff, Nat.reduceAdd, reduceCtorEq, Q7])
    refine hM _ _ _ ?_; clear hM M
    refine ok_cond rfl (fun h => by cases h) (fun _ => ok_skip ?_)
    try simp only [zW, zU, reduceIte, Nat.reduceEqDiff, Nat.reduceAdd, reduceCtorEq, Q7]
    simp [sub, Env.get]
  rintro _ rfl
  refine ok_seq (fun M hM => ok_region rfl ?_)
  repeat ((try subst X); (first | (first | apply zL | apply zH | apply zE); intro X hX | apply zh | apply zl | apply ze); try simp only [zU, reduceIte, Nat.reduceEqDiff, Nat.reduceAdd, reduceCtorEq, Q7])
  refine ⟨ocs, hol, hb8.all, ?_⟩
  repeat ((try subst X); (first | (first | apply zL | apply zH | apply zE); intro X hX | apply zh | apply zl | apply ze); try simp only [zU, reduceIte, Nat.reduceEqDiff, Nat.reduceAdd, reduceCtorEq, Q7])
  refine Runs.store hb8 Fx.zi31 (by simpa [Value.cells] using hol) (fun u hu => (hoc u (by simpa [Value.cells] using hu)).1) (by simp [hol]) (fun w9 hc9 hs9 hb9 => ?_)
  rw [agg_cells, splice_all _ _ (by simp [hol])] at hb9
  repeat ((try subst X); (first | (first | apply zL | apply zH | apply zE); intro X hX | apply zh | apply zl | apply ze); try simp only [zU, reduceIte, Nat.reduceEqDiff, Nat.reduceAdd, reduceCtorEq, Q7])
  refine Runs.store (hb48.chg hc9 (by omega)) Fx.zi44 rfl (by simp [Value.cells, Value.oneCell']) (by simp) (fun w10 hc10 hs10 hb10 => ?_)
  simp only [splice, Value.cells, List.length_singleton, Nat.reduceAdd, List.take_succ_cons, List.take_zero, List.drop_succ_cons, List.drop_zero, List.cons_append, List.nil_append, List.drop_nil] at hb10
  repeat ((try subst X); (first | (first | apply zL | apply zH | apply zE); intro X hX | apply zh | apply zl | apply ze); try simp only [zU, reduceIte, Nat.reduceEqDiff, Nat.reduceAdd, reduceCtorEq, Q7])
  refine hM _ _ _ ?_; clear hM M
  refine ok_ret ?_
  try simp only [zW, zU, reduceIte, Nat.reduceEqDiff, Nat.reduceAdd, reduceCtorEq, Q7]
  exact ⟨ocs, hol, (hb9.chg hc10 (by omega)).all, _, Blk.cell hb10 rfl, (he08.chg_trans hc9 (by intro k hk; omega)).chg_trans hc10 (by intro k hk; omega), B3, B4, ocs, w8, rfl, hQ, (hc9.mono fun _ _ h => .inl h).trans (hc10.mono fun _ _ h => .inr h)⟩
end Go.Proofs.YtcpjojaklpgnkaaGreat
/- A row of one's own: its beginning. -/
set_option linter.unusedVariables false
set_option linter.unusedSimpArgs false
namespace Go.Proofs.Vg
open Go Go.RowKit
theorem Own.take {w : World} {S : Nat → Prop} {base e sz n c g : Nat} {rows : List (List D)} (h : Own w S base e sz (.slice (some ⟨g, 0, none⟩) n c) rows) {i : Nat} (hi : i ≤ n) : Own w S base e sz (.slice (some ⟨g, 0, none⟩) i c) (rows.take i) := by
  obtain ⟨⟨crows, h2, h3, h4⟩, h5, h6⟩ := h
  have hw := h2.1
  rcases h2.2 with ⟨h7, h8⟩ | ⟨g', cap, cur, h7, h8, h9, h10, h11, h12, h13⟩
  · cases h7
  · injection h7 with h14 h15 h16
    cases h14
    subst h16
    have hz : ∀ r ∈ crows, r.length = sz := by
      intro r hr
      obtain ⟨j, hj⟩ := List.mem_iff_getElem?.1 hr
      have hjl := (List.getElem?_eq_some_iff.1 hj).1
      have hd : rows[j]? = some (rows[j]'(by omega)) := List.getElem?_eq_getElem _
      rw [(h4 j r _ hj hd).len]
      exact h5 _ (List.getElem_mem _)
    have hrl : rows.length = n := h15.symm
    have hil : (rows.take i).length = i := by simp; omega
    have hfl : ∀ (l : List (List Value)), (∀ r ∈ l, r.length = sz) → l.flatten.length = l.length * sz := by
      intro l hl
      induction l with
      | nil => simp
      | cons a r ih =>
        simp only [List.flatten_cons, List.length_append, List.length_cons]
        rw [hl a (by simp), ih (fun x hx => hl x (by simp [hx]))]
        rw [Nat.add_mul]; omega
    have htk : (crows.take i).flatten.length = i * sz := by
      rw [hfl _ (fun r hr => hz r (List.mem_of_mem_take hr)), List.length_take, Nat.min_eq_left (by omega)]
    refine ⟨⟨crows.take i, ?_, by simp [h3], fun j r d hj hd => ?_⟩, fun r hr => h5 r (List.mem_of_mem_take hr), h6⟩
    · rw [hil]
      refine ⟨htk, .inr ⟨g, c, cur, rfl, h8, h9, by omega, h11, h12, ?_⟩⟩
      have hcr : crows.flatten = (crows.take i).flatten ++ (crows.drop i).flatten := by rw [← List.flatten_append, List.take_append_drop]
      have hle : i * sz ≤ rows.length * sz := Nat.mul_le_mul_right _ (by omega)
      have := congrArg (List.take (i * sz)) h13
      rw [List.take_take, Nat.min_eq_left hle, hcr, List.take_append_of_le_length (by omega), show (crows.take i).flatten.take (i * sz) = (crows.take i).flatten from List.take_of_length_le (by omega)] at this
      exact this
    · have hji : j < i := by have := (List.getElem?_eq_some_iff.1 hj).1; simp at this; omega
      rw [List.getElem?_take_of_lt hji] at hj hd
      exact h4 j r d hj hd
end Go.Proofs.Vg
/- slices.Delete: append in place of a row of one's own; clear. -/
set_option linter.unusedVariables false
set_option linter.unusedSimpArgs false
namespace Go.Proofs.Vg
open Go Go.RowKit
section
variable {P : Program} {w : World} {S : Nat → Prop} {t ty e : TypeId} {z : Value} {sz by_ base g c : Nat} {rows : List (List D)}
theorem flat_lenE : ∀ {l : List (List Value)}, (∀ r ∈ l, r.length = sz) → l.flatten.length = l.length * sz
  | [], _ => by simp
  | a :: r, h => by
    simp only [List.flatten_cons, List.length_append, List.length_cons]
    rw [h a (by simp), flat_lenE (fun x hx => h x (by simp [hx])), Nat.add_mul]; omega
theorem Runs.eraseD (ht : P.underlying t = some (.slice e)) (hz : zinfo P e = some (some z, sz, by_)) (hown : Own w S base e sz (.slice (some ⟨g, 0, none⟩) rows.length c) rows) {i : Nat} (hi : i < rows.length) {m c' : Nat} {a : Addr} (hm : m = rows.length - (i + 1)) (ha : 0 < m → a = ⟨g, (i + 1) * sz, none⟩) {cs : Array Bool} {nx : Value → World → Prop}
    (h : ∀ w', Own w' S base e sz (.slice (some ⟨g, 0, none⟩) (rows.length - 1) c) (rows.eraseIdx i) → Chg (fun k => k = g) w w' → nx (.slice (some ⟨g, 0, none⟩) (rows.length - 1) c) w') :
    Runs P (builtin .append #[t, t] ty cs [.slice (some ⟨g, 0, none⟩) i c, .slice (some a) m c'].toArray) w (builtinR nx) := by
  obtain ⟨inf, hinf, hzz, hsi, hbb⟩ := zinfo_some hz
  subst hsi
  obtain ⟨crows, h2, h3, hzl, h4⟩ := hown.crows
  have hpos := hown.pos
  have h2' := h2
  rcases h2.2 with ⟨h7, h8⟩ | ⟨g', cap, cur, h7, h8, h9, h10, h11, h12, h13⟩
  · cases h7
  injection h7 with h14 h15 h16
  cases h14
  subst h16
  have hnl : ((crows.drop (i + 1)).flatten).length = m * inf.size := by
    rw [flat_lenE (fun r hr => hzl r (List.mem_of_mem_drop hr)), List.length_drop, h3, hm]
  have htl : ((crows.take i).flatten).length = i * inf.size := by
    rw [flat_lenE (fun r hr => hzl r (List.mem_of_mem_take hr)), List.length_take, Nat.min_eq_left (by omega)]
  have htl1 : ((crows.take (i + 1)).flatten).length = (i + 1) * inf.size := by
    rw [flat_lenE (fun r hr => hzl r (List.mem_of_mem_take hr)), List.length_take, Nat.min_eq_left (by omega)]
  have hcr : crows.flatten = (crows.take (i + 1)).flatten ++ (crows.drop (i + 1)).flatten := by rw [← List.flatten_append, List.take_append_drop]
  have hcr0 : crows.flatten = (crows.take i).flatten ++ (crows.drop i).flatten := by rw [← List.flatten_append, List.take_append_drop]
  have hnews : ∀ j u, ((crows.drop (i + 1)).flatten)[j]? = some u → w.cell? (a.add j) = some u := by
    intro j u hj
    have hjl := (List.getElem?_eq_some_iff.1 hj).1
    have hm0 : 0 < m := by
      rcases Nat.eq_zero_or_pos m with h0 | h0
      · rw [hnl, h0] at hjl; omega
      · exact h0
    rw [ha hm0]
    have hc := h2'.cells (g := g) rfl ((i + 1) * inf.size + j) u (by
      rw [hcr, List.getElem?_append_right (by omega), htl1]
      rw [show (i + 1) * inf.size + j - (i + 1) * inf.size = j by omega]; exact hj)
    simpa [add_at] using hc
  have hone : ∀ u ∈ (crows.drop (i + 1)).flatten, u.oneCell' = true := by
    intro u hu
    obtain ⟨r, hr, hur⟩ := List.mem_flatten.1 hu
    obtain ⟨j, hj⟩ := List.mem_iff_getElem?.1 (List.mem_of_mem_drop hr)
    have hjl := (List.getElem?_eq_some_iff.1 hj).1
    exact ((h4 j r _ hj (List.getElem?_eq_getElem (by omega))).one u hur).1
  have hl1 : i * inf.size + m * inf.size = (rows.length - 1) * inf.size := by rw [← Nat.add_mul]; congr 1; omega
  have hle : (rows.length - 1) * inf.size ≤ rows.length * inf.size := Nat.mul_le_mul_right _ (by omega)
  have hle' : rows.length * inf.size ≤ c * inf.size := Nat.mul_le_mul_right _ h10
  have hr := run_append_room (P := P) w t ty e inf ht hinf g i c cur h9 a m c' _ hnl hnews hone (by omega) (by rw [hnl, h12]; omega)
  have hcl : cur.toList.length = cur.size := Array.length_toList
  have htk : cur.toList.take (i * inf.size) = (crows.take i).flatten := by
    have hlei : i * inf.size ≤ rows.length * inf.size := Nat.mul_le_mul_right _ (by omega)
    have := congrArg (List.take (i * inf.size)) h13
    rw [List.take_take, Nat.min_eq_left hlei, hcr0, List.take_append_of_le_length (by omega), show (crows.take i).flatten.take (i * inf.size) = (crows.take i).flatten from List.take_of_length_le (by omega)] at this
    exact this
  have hv' : (Value.slice (some ⟨g, 0, none⟩) (i + m) c) = .slice (some ⟨g, 0, none⟩) (rows.length - 1) c := by congr 1; omega
  rw [hv'] at hr
  refine ⟨.value (.slice (some ⟨g, 0, none⟩) (rows.length - 1) c), w.setRow g (cur.toList.take (i * inf.size) ++ (crows.drop (i + 1)).flatten ++ cur.toList.drop (i * inf.size + ((crows.drop (i + 1)).flatten).length)).toArray, ?_, ?_⟩
  · simp only [builtin]
    rw [Sem.run_bind]
    have : [Value.slice (some ⟨g, 0, none⟩) i c, .slice (some a) m c'].toArray = #[.slice (some ⟨g, 0, none⟩) i c, .slice (some a) m c'] := rfl
    rw [this, hr]
    rfl
  · have hc : Chg (fun k => k = g) w (w.setRow g (cur.toList.take (i * inf.size) ++ (crows.drop (i + 1)).flatten ++ cur.toList.drop (i * inf.size + ((crows.drop (i + 1)).flatten).length)).toArray) :=
      ⟨rfl, rfl, rfl, by simp, fun k _ hk => setRow_other w g k _ (fun e => hk e)⟩
    refine h _ ⟨⟨crows.eraseIdx i, ⟨?_, .inr ⟨g, c, _, ?_, h8, setRow_heap w g cur _ e _ h9, ?_, h11, ?_, ?_⟩⟩, ?_, fun j r d hj hd => ?_⟩, fun r hr => hown.wid r (List.mem_of_mem_eraseIdx hr), hpos⟩ hc
    · rw [List.eraseIdx_eq_take_drop_succ, List.flatten_append, List.length_append, htl, hnl, List.length_eraseIdx, if_pos hi]; exact hl1
    · rw [List.length_eraseIdx, if_pos hi]
    · rw [List.length_eraseIdx, if_pos hi]; omega
    · simp only [List.size_toArray, List.length_append, List.length_take, List.length_drop, hnl, hcl]
      rw [h12, Nat.min_eq_left (by omega)]; omega
    · rw [List.eraseIdx_eq_take_drop_succ, List.eraseIdx_eq_take_drop_succ, List.flatten_append, htk]
      refine List.take_left' ?_
      rw [List.length_append, htl, hnl, hl1, List.length_append, List.length_take, List.length_drop, Nat.min_eq_left (by omega)]
      congr 1; omega
    · rw [List.length_eraseIdx, List.length_eraseIdx, h3]
    · have key : Rd w (fun k => S k ∧ (Value.slice (some ⟨g, 0, none⟩) rows.length c).ownBlock ≠ some k) r d := by
        rw [List.getElem?_eraseIdx] at hj hd
        split at hj
        · rename_i h1
          rw [if_pos h1] at hd
          exact h4 j r d hj hd
        · rename_i h1
          rw [if_neg h1] at hd
          exact h4 _ r d hj hd
      exact key.chg hc (fun k hk _ e => hk.2 (by rw [e]; rfl))
theorem Runs.clearD (ht : P.underlying t = some (.slice e)) (hz : zinfo P e = some (some z, sz, by_)) (hzs : z.cells.size = sz) (hone : ((Builtin.zeroCells z.cells 1).toList.all (·.oneCell')) = true) {n : Nat} (hown : Own w S base e sz (.slice (some ⟨g, 0, none⟩) n c) rows) {c' o : Nat} (ho : rows.length * sz ≤ o) (hl : o + sz ≤ c * sz) {cs : Array Bool} {nx : Value → World → Prop}
    (h : ∀ w', Own w' S base e sz (.slice (some ⟨g, 0, none⟩) n c) rows → Chg (fun k => k = g) w w' → nx (.tuple #[]) w') :
    Runs P (builtin .clear #[t] ty cs [.slice (some ⟨g, o, none⟩) 1 c'].toArray) w (builtinR nx) := by
  obtain ⟨inf, hinf, hzz, hsi, hbb⟩ := zinfo_some hz
  obtain ⟨crows, h2, h3, hzl, h4⟩ := hown.crows
  rcases h2.2 with ⟨h7, h8⟩ | ⟨g', cap, cur, h7, h8, h9, h10, h11, h12, h13⟩
  · cases h7
  injection h7 with h14 h15 h16
  cases h14
  subst h16
  have hzl : (Builtin.zeroCells z.cells 1).toList.length = sz := by rw [Array.length_toList, size_zeroCells, hzs, Nat.one_mul]
  have hst := run_storeCells_at P g o e (Builtin.zeroCells z.cells 1).toList 0 cur w h9 (by rw [hzl, h12]; omega) (fun u hu => List.all_eq_true.1 hone u hu)
  simp only [Nat.add_zero] at hst
  have hzv : ∀ w : World, (zeroValue e).run P w = .ok z w := fun w => by simp [zeroValue, typeInfo, hinf, hzz]
  have hr : (Builtin.clear_ #[t] ty #[.slice (some ⟨g, o, none⟩) 1 c']).run P w = .ok (.tuple #[]) (w.setRow g (cur.toList.take o ++ (Builtin.zeroCells z.cells 1).toList ++ cur.toList.drop (o + (Builtin.zeroCells z.cells 1).toList.length)).toArray) := by
    simp [Builtin.clear_, run_underlying ht, hzv, hst]
  refine ⟨.value (.tuple #[]), w.setRow g (cur.toList.take o ++ (Builtin.zeroCells z.cells 1).toList ++ cur.toList.drop (o + (Builtin.zeroCells z.cells 1).toList.length)).toArray, ?_, ?_⟩
  · simp only [builtin]
    rw [Sem.run_bind]
    have : [Value.slice (some ⟨g, o, none⟩) 1 c'].toArray = #[.slice (some ⟨g, o, none⟩) 1 c'] := rfl
    rw [this, hr]
    rfl
  · have hc : Chg (fun k => k = g) w (w.setRow g (cur.toList.take o ++ (Builtin.zeroCells z.cells 1).toList ++ cur.toList.drop (o + (Builtin.zeroCells z.cells 1).toList.length)).toArray) :=
      ⟨rfl, rfl, rfl, by simp, fun k _ hk => setRow_other w g k _ (fun e => hk e)⟩
    have hcl : cur.toList.length = cur.size := Array.length_toList
    refine h _ ⟨⟨crows, ⟨h2.1, .inr ⟨g, c, _, by rw [h15], h8, setRow_heap w g cur _ e _ h9, h10, h11, ?_, ?_⟩⟩, h3, fun j r d hj hd => (h4 j r d hj hd).chg hc (fun k hk _ e => hk.2 (by rw [e]; rfl))⟩, hown.wid, hown.pos⟩ hc
    · simp only [List.size_toArray, List.length_append, List.length_take, List.length_drop, hzl, hcl]
      rw [h12, Nat.min_eq_left (by omega)]; omega
    · have hle : rows.length * sz ≤ c * sz := Nat.mul_le_mul_right _ h10
      rw [← h13, List.append_assoc, List.take_append_of_le_length (by rw [List.length_take, hcl, h12]; omega), List.take_take, Nat.min_eq_left ho]
/-- xs[lo:hi:max], of which nothing is asked. -/
theorem Runs.slice3 (ht : P.underlying t = some (.slice e)) (hz : zinfo P e = some (some z, sz, by_)) {A : Option Addr} {len cap lo hi mx : Nat} (h1 : lo ≤ hi) (h2 : hi ≤ mx) (h3 : mx ≤ cap) {k1 k2 k3 : IntKind} {nx : Value → World → Prop} (hn : ∀ v, nx v w) :
    Runs P (Instr.sliceAt t (.slice A len cap) (some (.int k1 (lo : Int))) (some (.int k2 (hi : Int))) (some (.int k3 (mx : Int)))) w nx := by
  obtain ⟨i, hi', _, hs, _⟩ := zinfo_some hz
  have e1 : (0 : Int) ≤ (lo : Int) ∧ (lo : Int) ≤ (hi : Int) := by omega
  have e2 : (0 : Int) ≤ (hi : Int) ∧ (hi : Int) ≤ (mx : Int) := by omega
  have e3 : (0 : Int) ≤ (mx : Int) ∧ (mx : Int) ≤ (cap : Int) := by omega
  refine ⟨.slice (if mx = lo then A else A.map (·.add (lo * sz))) (hi - lo) (mx - lo), w, ?_, hn _⟩
  · subst hs
    simp [Instr.sliceAt, run_underlying ht, Instr.slice, Instr.sliceBounds, Instr.sliceBound, asIntOf, sizeOf, typeInfo, hi', h1, h2, h3]
end
end Go.Proofs.Vg
/- A slice literal's data. -/
set_option linter.unusedVariables false
set_option linter.unusedSimpArgs false
namespace Go.Proofs.Vg
open Go Go.RowKit
theorem Rd.lit {w : World} {S : Nat → Prop} {b sz by_ c n : Nat} {e : TypeId} {cs : List Value} (crows : List (List Value)) {rows : List (List D)} (hb : Blk w b cs e) (hcs : cs = crows.flatten) (hn : n = rows.length) (hl : crows.length = rows.length) (hz : ∀ r ∈ crows, r.length = sz) (hw : ∀ r ∈ rows, r.length = sz) (hS : S b) (h1 : rows.length ≤ 140737488355328) (h2 : rows.length * by_ ≤ 140737488355328) (hc : rows.length ≤ c)
    (hr : ∀ (i : Nat) (r : List Value) (d : List D), crows[i]? = some r → rows[i]? = some d → Rd w S r d) : Rd w S [.slice (some ⟨b, 0, none⟩) n c] [.sl by_ rows] := by
  subst hn hcs
  refine Rd.mk (sz := sz) (crows := crows) rfl hl h1 h2 hc hw (fun j row hj => ⟨b, 0, rfl, hS, hb.lt, ?_⟩) hr
  intro i u hi
  have h9 := flat_row crows hz j row hj i u hi
  have := hb.all (j * sz + i) u h9
  simpa [add_at] using this
theorem Rd.lit1 {w : World} {S : Nat → Prop} {b by_ c : Nat} {e : TypeId} {cs : List Value} {d : List D} (hb : Blk w b cs e) (hS : S b) (h2 : by_ ≤ 140737488355328) (hc : 1 ≤ c) (hr : Rd w S cs d) : Rd w S [.slice (some ⟨b, 0, none⟩) 1 c] [.sl by_ [d]] := by
  refine Rd.lit (sz := d.length) [cs] hb (by simp) rfl rfl (fun r hr' => by simp at hr'; subst hr'; exact hr.len) (fun r hr' => by simp at hr'; subst hr'; rfl) hS (by simp) (by simpa using h2) (by simpa using hc) (fun i r d' hi hd => ?_)
  cases i with
  | zero => simp at hi hd; subst hi hd; exact hr
  | succ i => simp at hi
end Go.Proofs.Vg
/- A range over a slice whose rounds change slots; what stands in them is a state. -/
set_option linter.unusedVariables false
set_option linter.unusedSimpArgs false
namespace Go.Proofs.Vg
open Go Go.RowKit
variable {P : Program} {ρ : Option Nat} {N : Nat} {K : Env} {ds : List Deferred} {w : World} {Φ : Post}
/-- 'for i := range n', the same, slots that change from round to round (functions of the round). -/
theorem ok_forS {id id2 r1 r2 sc si sn st ty1 ty2 ty3 : Nat} {p1 p2 p3 : String} {a1 a2 a3 : Array Edge} {body : Code} {n : Nat} {X : Type} (K0 : Nat → X → Env) (I : Nat → X → World → Prop) (x0 : X)
    (hK : ∀ i x, ((K0 i x).all fun q => q.1 != si && q.1 != st && q.1 != sc && q.1 != sn) = true) (hK0 : ∀ i x, sub (K0 i x) (K0 i x)) (hs : (sc != si && sc != sn && si != sn && st != sn && st != si && decide (sc < N) && decide (si < N) && decide (st < N)) = true)
    (hsub : sub ((si, .int .i64 0) :: (sn, .int .i64 (n : Int)) :: K0 0 x0) K) (hn : n ≤ 140737488355328) (h0 : I 0 x0 w)
    (hbody : ∀ i x W, i < n → I i x W → ok P ρ N body ((si, .int .i64 (i : Int)) :: (sn, .int .i64 (n : Int)) :: K0 i x) ds W
      (inBlockN id2 (thenN (fun K' ds' W' => ds' = ds ∧ ∃ x', sub ((si, .int .i64 (i : Int)) :: (sn, .int .i64 (n : Int)) :: K0 (i + 1) x') K' ∧ I (i + 1) x' W') (inBlockN id Φ))))
    (hend : ∀ x W, I n x W → Φ .normal ((sc, .bool false) :: (si, .int .i64 (n : Int)) :: (sn, .int .i64 (n : Int)) :: K0 n x) ds W) :
    ok P ρ N (.block id (.loop (.seq (.region r1 #[{ dst := some sc, op := .binOp .lss 3 (.tmp si) (.tmp sn) 3, type := ty1, pos := p1, after := a1, guard := none }] false)
      (.seq (.cond (.tmp sc) .skip (.exit id)) (.seq (.block id2 body) (.region r2 #[{ dst := some st, op := .binOp .add 3 (.tmp si) (.const (.int .i64 1)) 3, type := ty2, pos := p2, after := a2, guard := none },
        { dst := some si, op := .move (.tmp st), type := ty3, pos := p3, after := a3, guard := none }] false)))))) K ds w Φ := by
  simp only [Bool.and_eq_true, bne_iff_ne, ne_eq, decide_eq_true_eq] at hs
  obtain ⟨⟨⟨⟨⟨⟨⟨h1, h2⟩, h3⟩, h4⟩, h5⟩, h6⟩, h7⟩, h8⟩ := hs
  have hKa : ∀ i x, ∀ q ∈ K0 i x, ((¬ q.1 = si ∧ ¬ q.1 = st) ∧ ¬ q.1 = sc) ∧ ¬ q.1 = sn := fun i x q hq => by simpa using List.all_eq_true.1 (hK i x) q hq
  have hK1 : ∀ i x, ((K0 i x).all fun q => q.1 != si) = true := fun i x => List.all_eq_true.2 fun q hq => by simpa using (hKa i x q hq).1.1.1
  have hK2 : ∀ i x, ((K0 i x).all fun q => q.1 != st) = true := fun i x => List.all_eq_true.2 fun q hq => by simpa using (hKa i x q hq).1.1.2
  have hK3 : ∀ i x, ((K0 i x).all fun q => q.1 != sc) = true := fun i x => List.all_eq_true.2 fun q hq => by simpa using (hKa i x q hq).1.2
  have hK4 : ∀ i x, ((K0 i x).all fun q => q.1 != sn) = true := fun i x => List.all_eq_true.2 fun q hq => by simpa using (hKa i x q hq).2
  refine ok_block (ok_loop (fun s : Nat × X => (si, .int .i64 (s.1 : Int)) :: (sn, .int .i64 (n : Int)) :: K0 s.1 s.2) (fun s W => s.1 ≤ n ∧ I s.1 s.2 W) (fun s => n - s.1) (0, x0) hsub ⟨Nat.zero_le _, h0⟩ ?_)
  rintro ⟨i, x⟩ W ⟨hi, hI⟩
  simp only at hi hI ⊢
  have g1 : Env.get ((si, .int .i64 (i : Int)) :: (sn, .int .i64 (n : Int)) :: K0 i x) si = some (.int .i64 (i : Int)) := by simp [Env.get]
  have g2 : Env.get ((si, .int .i64 (i : Int)) :: (sn, .int .i64 (n : Int)) :: K0 i x) sn = some (.int .i64 (n : Int)) := by simp [Env.get, Ne.symm h3]
  refine ok_seq (fun M hM => ok_region (ops := [_]) (by simp [dstsOk, h6]) ?_)
  simp only [wpL, opF, ev, g1, g2, binV, putE, true_and]
  refine hM _ _ _ ?_; clear hM M
  have g3 : ev ((sc, .bool (decide ((i : Int) < (n : Int)))) :: (si, .int .i64 (i : Int)) :: (sn, .int .i64 (n : Int)) :: K0 i x) (.tmp sc) = some (.bool (decide ((i : Int) < (n : Int)))) := by simp [ev, Env.get]
  by_cases hlt : i < n
  · refine ok_seq (fun M hM => ok_cond (b := true) (by rw [g3]; simp; omega) (fun _ => ok_skip ?_) (fun h => by cases h))
    refine hM _ _ _ ?_; clear hM M
    refine ok_seq (fun M hM => ok_block (ok_mono (ok_less ((si, .int .i64 (i : Int)) :: (sn, .int .i64 (n : Int)) :: K0 i x) ?_ (hbody i x W hlt hI)) ?_))
    · refine ⟨?_, ?_, sub_cons (hK3 i x) (sub_cons (hK1 i x) (sub_cons (hK4 i x) (hK0 i x)))⟩
      · simp [Env.get, Ne.symm h1]
      · simp [Env.get, Ne.symm h2, Ne.symm h3]
    · have key : ∀ (K' : Env) (ds' : List Deferred) (W' : World), (ds' = ds ∧ ∃ x', sub ((si, .int .i64 (i : Int)) :: (sn, .int .i64 (n : Int)) :: K0 (i + 1) x') K' ∧ I (i + 1) x' W') → M K' ds' W' := by
        rintro K' ds' W' ⟨rfl, x', hs', hI'⟩
        have g4 : K'.get si = some (.int .i64 (i : Int)) := hs'.1
        refine hM _ _ _ (ok_region (ops := [_, _]) (by simp [dstsOk, h7, h8]) ?_)
        have hin : inI .i64 ((i : Int) + 1) := by simp only [inI]; omega
        simp only [wpL, opF, ev, g4, binV, putE, true_and, hin, Env.get, if_true, thenN]
        refine ⟨(i + 1, x'), ⟨by simp [Env.get], ?_, sub_cons (hK1 _ _) (sub_cons (hK2 _ _) hs'.2.2)⟩, ⟨hlt, hI'⟩, by omega⟩
        have := hs'.2.1
        simp [Env.get, Ne.symm h3, Ne.symm h4, this]
      intro e K' ds' W' hp
      cases e with
      | normal => exact key K' ds' W' hp
      | exit j =>
        simp only [inBlockN, thenN] at hp ⊢
        split at hp
        · rename_i hj; subst hj; rw [if_pos rfl]; exact key K' ds' W' hp
        · rename_i hj; rw [if_neg hj]; exact hp
      | goto l => exact hp
      | ret => exact hp
      | panic ch => exact hp
      | outgrown => exact hp
  · refine ok_seq (fun M hM => ok_cond (b := false) (by rw [g3]; simp; omega) (fun h => by cases h) (fun _ => ok_exit ?_))
    obtain rfl : i = n := by omega
    have hdn : decide ((i : Int) < (i : Int)) = false := by simp
    rw [hdn]
    simp only [thenN, inBlockN, if_true]
    exact hend x W hI
end Go.Proofs.Vg
/- Chapter 31: slices.Grow of nil, slices.Concat.  -/
set_option linter.unusedVariables false
set_option linter.unusedSimpArgs false
namespace Go.Proofs.YtcpjojaklpgnkaaGreat
open Go Go.Proofs.Vg Go.RowKit
theorem Runs.appZeros {P : Program} {w : World} {t tn ty e : TypeId} {z : Value} {sz by_ : Nat} {k kn : IntKind} (ht : P.underlying t = some (.slice e)) (htn : P.underlying tn = some (.int kn)) (hz : zinfo P e = some (some z, sz, by_)) (hzs : z.cells.size = sz) (h0s : 0 < sz) (n : Nat) (h0 : 0 < n) (hl : n ≤ 281474976710656) (hb : n * by_ ≤ 281474976710656) {cs : Array Bool} {nx : Value → World → Prop}
    (h : ∀ c w', Ext w w' → w'.heap.size = w.heap.size + 1 → n ≤ c → w'.ownsRow w.heap.size e sz (.slice (some ⟨w.heap.size, 0, none⟩) 0 c) 0 [] → nx (.slice (some ⟨w.heap.size, 0, none⟩) n c) w') :
    Runs P (builtin .append #[t, tn] ty cs [.slice none 0 0, .int k (n : Int)].toArray) w (builtinR nx) := by
  obtain ⟨i, hi, hzz, hsi, hbb⟩ := zinfo_some hz
  subst hsi hbb
  have hr := Go.Lib.run_append_nil_zeros (P := P) w t tn ty e i z k kn ht htn hi hzz n h0 h0s (by omega) hb
  refine ⟨.value (.slice (some ⟨w.heap.size, 0, none⟩) n (grownCap w n 0 e)), w.drew.alloc (.cells (Builtin.zeroCells z.cells n ++ Builtin.zeroCells z.cells (grownCap w n 0 e - n)) e), ?_, h _ _ ?_ ?_ (grownCap_ge w n 0 e) ?_⟩
  · simp only [builtin]
    rw [Sem.run_bind]
    have : [Value.slice none 0 0, .int k (n : Int)].toArray = #[.slice none 0 0, .int k (n : Int)] := rfl
    rw [this, hr]
    rfl
  · exact ⟨rfl, rfl, rfl, by simp, fun j hj => heap_alloc_old w.drew _ (by simpa using hj)⟩
  · simp [World.alloc]
  · refine ⟨by simp, .inr ⟨w.heap.size, _, _, rfl, Nat.le_refl _, heap_alloc_new w.drew _, Nat.zero_le _, grownCap_le_maxLen w n 0 e (by simp only [maxLen]; omega), ?_, by simp⟩⟩
    have := grownCap_ge w n 0 e
    simp only [Array.size_append, size_zeroCells, hzs, ← Nat.add_mul]
    congr 1; omega
theorem Runs.capS {P : Program} {w : World} {t ty e : TypeId} (ht : P.underlying t = some (.slice e)) {A : Option Addr} {n c : Nat} {cs : Array Bool} {nx : Value → World → Prop} (h : nx (.int .i64 (c : Int)) w) :
    Runs P (builtin .cap #[t] ty cs [.slice A n c].toArray) w (builtinR nx) := by
  refine ⟨.value (.int .i64 (c : Int)), w, ?_, h⟩
  simp only [builtin]
  rw [Sem.run_bind]
  simp [Builtin.cap_, run_underlying ht, goInt]
-- -- function 194
set_option maxHeartbeats 4000000 in
set_option maxRecDepth 8000 in
theorem grow_ok (w : World) (n : Nat) (h0 : 0 < n) (hl : n ≤ 1000000) : Rets Tryz.prog 194 [.slice none 0 0, .int .i64 (n : Int)] w (fun v w' => Ext w w' ∧ ∃ c, v = .slice (some ⟨w.heap.size, 0, none⟩) 0 c ∧ w'.ownsRow w.heap.size 37 9 v 0 []) := by
  have h1 : ¬ ((n : Int) < 0) := by omega
  have h2 : ((n : Int) > 0) := by omega
  refine rets_of_ok Tryz.func194 rfl rfl ?_
  refine ok_seq (fun M hM => ok_region rfl ?_); repeat ((try subst X); (first | (first | apply zL | apply zH | apply zE); intro X hX | apply zh | apply zl | apply ze); try simp only [zU, reduceIte, Nat.reduceEqDiff, Nat.reduceAdd, reduceCtorEq, Q194])
  refine hM _ _ _ ?_; clear hM M
  refine ok_seq (fun M0 hM0 => ok_seq (fun M hM => ok_region rfl ?_))
  repeat ((try subst X); (first | (first | apply zL | apply zH | apply zE); intro X hX | apply zh | apply zl | apply ze); try simp only [zU, reduceIte, Nat.reduceEqDiff, Nat.reduceAdd, reduceCtorEq, Q194])
  simp only [h1, decide_false]
  repeat ((try subst X); (first | (first | apply zL | apply zH | apply zE); intro X hX | apply zh | apply zl | apply ze); try simp only [zU, reduceIte, Nat.reduceEqDiff, Nat.reduceAdd, reduceCtorEq, Q194])
  refine hM _ _ _ ?_; clear hM M
  refine ok_cond rfl (fun h => by cases h) (fun _ => ok_skip ?_)
  refine hM0 _ _ _ ?_; clear hM0 M0
  refine ok_seq (fun M0 hM0 => ok_seq (fun M hM => ok_region rfl ?_))
  repeat ((try subst X); (first | (first | apply zL | apply zH | apply zE); intro X hX | apply zh | apply zl | apply ze); try simp only [zU, reduceIte, Nat.reduceEqDiff, Nat.reduceAdd, reduceCtorEq, Q194])
  refine Runs.capS Fx.un34 ?_
  repeat ((try subst X); (first | (first | apply zL | apply zH | apply zE); intro X hX | apply zh | apply zl | apply ze); try simp only [zU, reduceIte, Nat.reduceEqDiff, Nat.reduceAdd, reduceCtorEq, Q194])
  refine ⟨by simp only [inI]; omega, ?_⟩
  repeat ((try subst X); (first | (first | apply zL | apply zH | apply zE); intro X hX | apply zh | apply zl | apply ze); try simp only [zU, reduceIte, Nat.reduceEqDiff, Nat.reduceAdd, reduceCtorEq, Q194])
  refine ⟨by simp only [inI]; omega, ?_⟩
  repeat ((try subst X); (first | (first | apply zL | apply zH | apply zE); intro X hX | apply zh | apply zl | apply ze); try simp only [zU, reduceIte, Nat.reduceEqDiff, Nat.reduceAdd, reduceCtorEq, Q194])
  refine hM _ _ _ ?_; clear hM M
  refine ok_seq (fun M hM => ok_region rfl ?_)
  repeat ((try subst X); (first | (first | apply zL | apply zH | apply zE); intro X hX | apply zh | apply zl | apply ze); try simp only [zU, reduceIte, Nat.reduceEqDiff, Nat.reduceAdd, reduceCtorEq, Q194])
  have e3 : ((n : Int) - (((0 : Nat) : Int) - ((0 : Nat) : Int))) = (n : Int) := by simp
  simp only [e3, h2, decide_true]
  repeat ((try subst X); (first | (first | apply zL | apply zH | apply zE); intro X hX | apply zh | apply zl | apply ze); try simp only [zU, reduceIte, Nat.reduceEqDiff, Nat.reduceAdd, reduceCtorEq, Q194])
  refine hM _ _ _ ?_; clear hM M
  refine ok_cond rfl (fun _ => ?_) (fun h => by cases h)
  have hs1 := fun w' => run_sliceAt (P := Tryz.prog) Fx.un34 Fx.zi37 none 0 0 none (some 0) .i64 .i64 (by simp) (by simp) w'
  simp only [Option.map_some, Option.map_none, Option.getD_none, Option.getD_some, Nat.sub_zero, ite_self] at hs1
  refine ok_region rfl ?_
  repeat ((try subst X); (first | (first | apply zL | apply zH | apply zE); intro X hX | apply zh | apply zl | apply ze); try simp only [zU, reduceIte, Nat.reduceEqDiff, Nat.reduceAdd, reduceCtorEq, Q194])
  refine Runs.capS Fx.un34 ?_
  repeat ((try subst X); (first | (first | apply zL | apply zH | apply zE); intro X hX | apply zh | apply zl | apply ze); try simp only [zU, reduceIte, Nat.reduceEqDiff, Nat.reduceAdd, reduceCtorEq, Q194])
  refine ⟨_, _, hs1 w, ?_⟩
  repeat ((try subst X); (first | (first | apply zL | apply zH | apply zE); intro X hX | apply zh | apply zl | apply ze); try simp only [zU, reduceIte, Nat.reduceEqDiff, Nat.reduceAdd, reduceCtorEq, Q194])
  refine Runs.appZeros Fx.un34 Fx.un3 Fx.zi37 rfl (by decide) n h0 (by omega) (by omega) (fun c w1 he1 hs1' hc hown => ?_)
  have hs2 := fun w' => run_sliceAt (P := Tryz.prog) Fx.un34 Fx.zi37 (some ⟨w.heap.size, 0, none⟩) n c none (some 0) .i64 .i64 (by simp) (by simp) w'
  simp only [Option.map_some, Option.map_none, Option.getD_none, Option.getD_some, Nat.sub_zero, Nat.zero_mul, add_at, Nat.zero_add, Nat.add_zero, ite_self] at hs2
  repeat ((try subst X); (first | (first | apply zL | apply zH | apply zE); intro X hX | apply zh | apply zl | apply ze); try simp only [zU, reduceIte, Nat.reduceEqDiff, Nat.reduceAdd, reduceCtorEq, Q194])
  refine ⟨_, _, hs2 w1, ?_⟩
  repeat ((try subst X); (first | (first | apply zL | apply zH | apply zE); intro X hX | apply zh | apply zl | apply ze); try simp only [zU, reduceIte, Nat.reduceEqDiff, Nat.reduceAdd, reduceCtorEq, Q194])
  refine hM0 _ _ _ ?_; clear hM0 M0
  refine ok_seq (fun M hM => ok_region rfl ?_); repeat ((try subst X); (first | (first | apply zL | apply zH | apply zE); intro X hX | apply zh | apply zl | apply ze); try simp only [zU, reduceIte, Nat.reduceEqDiff, Nat.reduceAdd, reduceCtorEq, Q194])
  refine hM _ _ _ ?_; clear hM M
  refine ok_ret ?_
  try simp only [zW, zU, reduceIte, Nat.reduceEqDiff, Nat.reduceAdd, reduceCtorEq, Q194]
  exact ⟨he1, c, rfl, hown⟩
def rowsL (ls : List (List G)) : List (List D) := ls.map fun l => [.sl 128 (l.map encG)]
def sumL (ls : List (List G)) : Nat := (ls.map List.length).sum
theorem sumL_take {ls : List (List G)} {i : Nat} (hi : i < ls.length) : sumL (ls.take (i + 1)) = sumL (ls.take i) + ls[i].length := by
  rw [sumL, sumL, List.take_add_one, List.map_append, List.sum_append]
  simp [hi]
theorem sumL_le {ls : List (List G)} (i : Nat) : sumL (ls.take i) ≤ sumL ls := by
  have : sumL ls = sumL (ls.take i) + sumL (ls.drop i) := by
    simp only [sumL]
    rw [← List.sum_append, ← List.map_append, List.take_append_drop]
  omega
-- -- function 179
set_option maxHeartbeats 8000000 in
set_option maxRecDepth 8000 in
theorem concat_ok (w : World) (S : Nat → Prop) (v : Value) (ls : List (List G)) (h : Rd w S [v] [.sl 24 (rowsL ls)]) (h0 : 0 < sumL ls) (hs : sumL ls ≤ 1000000) : Rets Tryz.prog 179 [v] w (fun v' w' => Ext w w' ∧ Own w' (fun k => S k ∧ k < w.heap.size) w.heap.size 37 9 v' (ls.flatten.map encG)) := by
  obtain ⟨A, c, rfl, hl, -, -⟩ := h.hd
  simp only [rowsL, List.length_map] at hl h ⊢
  replace h := h.mono (S' := fun k => S k ∧ k < w.heap.size) (fun k h1 h2 => ⟨h1, h2⟩)
  refine rets_of_ok Tryz.func179 rfl rfl ?_
  refine ok_seq (fun M hM => ok_region rfl ?_); repeat ((try subst X); (first | (first | apply zL | apply zH | apply zE); intro X hX | apply zh | apply zl | apply ze); try simp only [zU, reduceIte, Nat.reduceEqDiff, Nat.reduceAdd, reduceCtorEq, Q179])
  refine hM _ _ _ ?_; clear hM M
  refine ok_seq (fun M hM => ok_region rfl ?_); repeat ((try subst X); (first | (first | apply zL | apply zH | apply zE); intro X hX | apply zh | apply zl | apply ze); try simp only [zU, reduceIte, Nat.reduceEqDiff, Nat.reduceAdd, reduceCtorEq, Q179])
  refine hM _ _ _ ?_; clear hM M
  refine ok_join [(0, .slice A ls.length c), (3, .int .i64 (sumL ls : Int))] (fun W => w = W) ?_ ?_
  · refine ok_seq (fun M hM => ok_region rfl ?_); repeat ((try subst X); (first | (first | apply zL | apply zH | apply zE); intro X hX | apply zh | apply zl | apply ze); try simp only [zU, reduceIte, Nat.reduceEqDiff, Nat.reduceAdd, reduceCtorEq, Q179])
    refine hM _ _ _ ?_; clear hM M
    refine ok_forK (n := ls.length) (fun i => [(0, .slice A ls.length c), (9, .slice A ls.length c), (3, .int .i64 (sumL (ls.take i) : Int))]) (fun i W => w = W) (fun i => rfl) (fun i => by simp [sub, Env.get]) rfl (by simp [sub, Env.get, sumL]) hl rfl ?_ ?_
    · intro i W hi hW
      subst hW
      obtain ⟨k, o, r, hA, -, hkl, hcell, hr⟩ := h.row (j := i) (row := [.sl 128 (ls[i].map encG)]) (by simp [hi])
      subst hA
      have hrl : r.length = 1 := by rw [hr.len]; rfl
      obtain ⟨x, rfl⟩ := List.length_eq_one_iff.1 hrl
      obtain ⟨Ax, cx, rfl, -, -, -⟩ := hr.hd
      have hx := hcell 0 _ rfl
      simp only [List.length_singleton, Nat.mul_one, List.length_map] at hx hr
      have e1 := sumL_take hi
      have e2 := sumL_le (ls := ls) (i + 1)
      refine ok_seq (fun M hM => ok_region rfl ?_)
      repeat ((try subst X); (first | (first | apply zL | apply zH | apply zE); intro X hX | apply zh | apply zl | apply ze); try simp only [zU, reduceIte, Nat.reduceEqDiff, Nat.reduceAdd, reduceCtorEq, Q179])
      refine ⟨by omega, by omega, ?_⟩
      repeat ((try subst X); (first | (first | apply zL | apply zH | apply zE); intro X hX | apply zh | apply zl | apply ze); try simp only [zU, reduceIte, Nat.reduceEqDiff, Nat.reduceAdd, reduceCtorEq, Q179])
      refine ⟨_, by simpa [add_at] using hx, ?_⟩
      repeat ((try subst X); (first | (first | apply zL | apply zH | apply zE); intro X hX | apply zh | apply zl | apply ze); try simp only [zU, reduceIte, Nat.reduceEqDiff, Nat.reduceAdd, reduceCtorEq, Q179])
      refine hM _ _ _ ?_; clear hM M
      refine ok_seq (fun M hM => ok_region rfl ?_)
      repeat ((try subst X); (first | (first | apply zL | apply zH | apply zE); intro X hX | apply zh | apply zl | apply ze); try simp only [zU, reduceIte, Nat.reduceEqDiff, Nat.reduceAdd, reduceCtorEq, Q179])
      refine ⟨by simp only [inI]; omega, ?_⟩
      repeat ((try subst X); (first | (first | apply zL | apply zH | apply zE); intro X hX | apply zh | apply zl | apply ze); try simp only [zU, reduceIte, Nat.reduceEqDiff, Nat.reduceAdd, reduceCtorEq, Q179])
      refine hM _ _ _ ?_; clear hM M
      have hn : ¬ ((sumL (ls.take i) : Int) + (ls[i].length : Int) < 0) := by omega
      refine ok_seq (fun M hM => ok_region rfl ?_)
      repeat ((try subst X); (first | (first | apply zL | apply zH | apply zE); intro X hX | apply zh | apply zl | apply ze); try simp only [zU, reduceIte, Nat.reduceEqDiff, Nat.reduceAdd, reduceCtorEq, Q179])
      simp only [hn, decide_false]
      repeat ((try subst X); (first | (first | apply zL | apply zH | apply zE); intro X hX | apply zh | apply zl | apply ze); try simp only [zU, reduceIte, Nat.reduceEqDiff, Nat.reduceAdd, reduceCtorEq, Q179])
      refine hM _ _ _ ?_; clear hM M
      refine ok_cond rfl (fun h => by cases h) (fun _ => ok_skip ?_)
      try simp only [zW, zU, reduceIte, Nat.reduceEqDiff, Nat.reduceAdd, reduceCtorEq, Q179]
      simp [sub, Env.get, e1]
    · intro W hW
      exact ⟨rfl, by simp [sub, Env.get], hW⟩
  rintro _ rfl
  refine ok_seq (fun M hM => ok_region rfl ?_)
  repeat ((try subst X); (first | (first | apply zL | apply zH | apply zE); intro X hX | apply zh | apply zl | apply ze); try simp only [zU, reduceIte, Nat.reduceEqDiff, Nat.reduceAdd, reduceCtorEq, Q179])
  refine Inv.call Fx.en194 (grow_ok w (sumL ls) h0 hs) ?_
  rintro _ w1 ⟨he1, c1, rfl, hown⟩
  repeat ((try subst X); (first | (first | apply zL | apply zH | apply zE); intro X hX | apply zh | apply zl | apply ze); try simp only [zU, reduceIte, Nat.reduceEqDiff, Nat.reduceAdd, reduceCtorEq, Q179])
  refine hM _ _ _ ?_; clear hM M
  have hz1 := he1.size
  refine ok_seq (fun M0 hM0 => ?_)
  refine ok_seq (fun M hM => ok_region rfl ?_); repeat ((try subst X); (first | (first | apply zL | apply zH | apply zE); intro X hX | apply zh | apply zl | apply ze); try simp only [zU, reduceIte, Nat.reduceEqDiff, Nat.reduceAdd, reduceCtorEq, Q179])
  refine hM _ _ _ ?_; clear hM M
  refine ok_forS (n := ls.length) (fun i x => [(25, .slice A ls.length c), (6, x)]) (fun i x W => Ext w W ∧ Own W (fun k => S k ∧ k < w.heap.size) w.heap.size 37 9 x ((ls.take i).flatten.map encG)) (.slice (some ⟨w.heap.size, 0, none⟩) 0 c1) (fun i x => rfl) (fun i x => by simp [sub, Env.get]) rfl (by simp [sub, Env.get]) hl ⟨he1, ⟨⟨[], hown, rfl, fun i r d h => by simp at h⟩, fun r h => by simp at h, by decide⟩⟩ ?_ ?_
  · rintro i x W hi ⟨he, hown⟩
    obtain ⟨k, o, r, hA, -, hkl, hcell, hr⟩ := (h.ext he).row (j := i) (row := [.sl 128 (ls[i].map encG)]) (by simp [hi])
    subst hA
    have hrl : r.length = 1 := by rw [hr.len]; rfl
    obtain ⟨y, rfl⟩ := List.length_eq_one_iff.1 hrl
    have hy := hcell 0 _ rfl
    simp only [List.length_singleton, Nat.mul_one, List.length_map] at hy hr
    have e1 := sumL_take hi
    have e2 := sumL_le (ls := ls) (i + 1)
    have e3 : ((ls.take i).flatten.map encG).length = sumL (ls.take i) := by rw [List.length_map, List.length_flatten]; rfl
    refine ok_seq (fun M hM => ok_region rfl ?_)
    repeat ((try subst X); (first | (first | apply zL | apply zH | apply zE); intro X hX | apply zh | apply zl | apply ze); try simp only [zU, reduceIte, Nat.reduceEqDiff, Nat.reduceAdd, reduceCtorEq, Q179])
    refine ⟨by omega, by omega, ?_⟩
    repeat ((try subst X); (first | (first | apply zL | apply zH | apply zE); intro X hX | apply zh | apply zl | apply ze); try simp only [zU, reduceIte, Nat.reduceEqDiff, Nat.reduceAdd, reduceCtorEq, Q179])
    refine ⟨y, by simpa [add_at] using hy, ?_⟩
    repeat ((try subst X); (first | (first | apply zL | apply zH | apply zE); intro X hX | apply zh | apply zl | apply ze); try simp only [zU, reduceIte, Nat.reduceEqDiff, Nat.reduceAdd, reduceCtorEq, Q179])
    refine hM _ _ _ ?_; clear hM M
    refine ok_region rfl ?_
    repeat ((try subst X); (first | (first | apply zL | apply zH | apply zE); intro X hX | apply zh | apply zl | apply ze); try simp only [zU, reduceIte, Nat.reduceEqDiff, Nat.reduceAdd, reduceCtorEq, Q179])
    refine Runs.appD Fx.un34 Fx.zi37 rfl (by decide) hown (rows2 := ls[i].map encG) (b := 128) (hr.mono fun k hk _ => ⟨hk, fun e => by have := (hown.lt e).1; have := hk.2; omega⟩) (mapG_wid _) (by rw [e3, List.length_map]; omega) he.size (fun v' w' hown' hc' hblk => ?_)
    repeat ((try subst X); (first | (first | apply zL | apply zH | apply zE); intro X hX | apply zh | apply zl | apply ze); try simp only [zU, reduceIte, Nat.reduceEqDiff, Nat.reduceAdd, reduceCtorEq, Q179])
    refine ⟨v', by simp [sub, Env.get], he.chg_trans hc' (fun k hk => (hown.lt hk).1), ?_⟩
    rw [List.take_succ_eq_append_getElem hi, List.flatten_append, List.map_append]
    simpa using hown'
  · rintro x W ⟨he, hown⟩
    refine hM0 _ _ _ ?_; clear hM0 M0
    refine ok_seq (fun M hM => ok_region rfl ?_); repeat ((try subst X); (first | (first | apply zL | apply zH | apply zE); intro X hX | apply zh | apply zl | apply ze); try simp only [zU, reduceIte, Nat.reduceEqDiff, Nat.reduceAdd, reduceCtorEq, Q179])
    refine hM _ _ _ ?_; clear hM M
    refine ok_ret ?_
    try simp only [zW, zU, reduceIte, Nat.reduceEqDiff, Nat.reduceAdd, reduceCtorEq, Q179]
    rw [List.take_length] at hown
    exact ⟨he, hown⟩
end Go.Proofs.YtcpjojaklpgnkaaGreat
/- A region that draws its order, by a table of plain entries: values, new blocks, data. -/
set_option linter.unusedVariables false
set_option linter.unusedSimpArgs false
namespace Go.Proofs.Vg
open Go Go.RowKit
/-- What an operation leaves: a value; a new block and what is made of its number; data and what is made of its cells. -/
inductive Ent where
  | c (v : Value)
  | b (f : Nat → Value) (cs : List Value) (t : TypeId) (B0 : Nat)
  | d (f : List Value → Value) (row : List D) (S : Nat → Prop) (B0 : Nat)
def Ent.p : Ent → Value → World → (Nat → Prop) → Prop
  | .c u, v, _, _ => v = u
  | .b f cs t B0, v, W, X => ∃ b, v = f b ∧ Blk W b cs t ∧ B0 ≤ b ∧ ¬ X b
  | .d f row S B0, v, W, X => ∃ cs, v = f cs ∧ Rd W (fun k => S k ∧ ¬ (X k ∧ B0 ≤ k)) cs row
def entT (T : List (Nat × Ent)) : TabX := T.map fun q => (q.1, q.2.p)
theorem entT_get {T : List (Nat × Ent)} {j s : Nat} {p : Value → World → (Nat → Prop) → Prop} (h : (entT T)[j]? = some (s, p)) : ∃ e : Ent, p = e.p := by
  simp only [entT, List.getElem?_map, Option.map_eq_some_iff] at h
  obtain ⟨q, -, h⟩ := h
  cases h
  exact ⟨_, rfl⟩
section
variable {P : Program} {ρ : Option Nat} {N : Nat} {K : Env} {ds : List Deferred} {w : World} {Φ : Post} {ops : List Oper}
theorem ok_tabE (T : List (Nat × Ent)) (E0 : Env) (a sA tA : Nat) {z : Value} {nA bA : Nat} {oA : Oper} {id : Nat} (hm : P.follows .mixedOrders = true) (hd : dstsOk N ops = true) (hn : needsOk ops = true) (hl : T.length + 1 = ops.length) (hT : tabXOk (entT T) E0 = true)
    (hoA : ops[a]? = some oA) (hopA : oA.op = .alloc tA ∧ oA.dst = some sA ∧ oA.guard = none) (hTa : ∃ p, (entT T)[a]? = some (sA, p)) (hzA : zinfo P tA = some (some z, nA, bA))
    (hs0 : sub E0 K) (hss : sub E0 E0)
    (hlast : (match ops[T.length]? with | some o => (List.range T.length).all fun i => (needs o).contains i | none => true) = true)
    (hstep : ∀ (X : Nat → Prop) (L : Nat → Bool) (K : Env) (w1 : World) (i : Nat) (o : Oper), (∀ k, X k → k < w1.heap.size) → JX (entT T) E0 w a X L K w1 → ops[i]? = some o → i < T.length → i ≠ a → (∀ k ∈ needs o, L k = true) →
      ∀ M : Env → World → Unit → Prop, (∀ s p v w', (entT T)[i]? = some (s, p) → Ext w1 w' → p v w' X → M ((s, v) :: K) w' ()) → wpL P ops (fun ch K w => Φ (.panic ch) K ds w) (fun K w => M K w ()) [o] K w1)
    (hend : ∀ (B : Nat) (K : Env) (w1 : World) (o : Oper), JX (entT T) E0 w a (fun k => k = B) (fun k => decide (k < T.length)) K w1 → K.get sA = some (.pointer (some ⟨B, 0, none⟩)) → Blk w1 B z.cells.toList tA → w.heap.size ≤ B → ops[T.length]? = some o →
      ∀ M : Env → World → Unit → Prop, (∀ K' w', Φ .normal K' ds w' → M K' w' ()) → wpL P ops (fun ch K w => Φ (.panic ch) K ds w) (fun K w => M K w ()) [o] K w1) : ok P ρ N (.region id ops.toArray true) K ds w Φ := by
  have hlen : (entT T).length = T.length := by simp [entT]
  refine ok_tabA (entT T) E0 a sA tA hm hd hn (by rw [hlen]; exact hl) hT hoA hopA hTa hzA hs0 hss ?_ ?_ ?_ ?_ (by rw [hlen]; exact hstep) (by rw [hlen]; exact hend)
  · intro j s p hj v W W' X he hp
    obtain ⟨e, rfl⟩ := entT_get hj
    cases e with
    | c u => exact hp
    | b f cs t B0 => obtain ⟨b, h1, h2, h3, h4⟩ := hp; exact ⟨b, h1, h2.ext he, h3, h4⟩
    | d f row S B0 => obtain ⟨cs, h1, h2⟩ := hp; exact ⟨cs, h1, h2.ext he⟩
  · intro j s p hj v W X hp
    obtain ⟨e, rfl⟩ := entT_get hj
    cases e with
    | c u => exact hp
    | b f cs t B0 => obtain ⟨b, h1, h2, h3, h4⟩ := hp; exact ⟨b, h1, h2, h3, fun h => h.elim h4 (fun h => by have := h2.lt; omega)⟩
    | d f row S B0 => obtain ⟨cs, h1, h2⟩ := hp; exact ⟨cs, h1, h2.mono fun k hk hl => ⟨hk.1, fun e => e.1.elim (fun h => hk.2 ⟨h, e.2⟩) (fun h => by omega)⟩⟩
  · intro j s p hj v W X X' hx hp
    obtain ⟨e, rfl⟩ := entT_get hj
    cases e with
    | c u => exact hp
    | b f cs t B0 => obtain ⟨b, h1, h2, h3, h4⟩ := hp; exact ⟨b, h1, h2, h3, fun h => h4 (hx b h)⟩
    | d f row S B0 => obtain ⟨cs, h1, h2⟩ := hp; exact ⟨cs, h1, h2.mono fun k hk hl => ⟨hk.1, fun e => hk.2 ⟨hx k e.1, e.2⟩⟩⟩
  · intro o ho i hi
    rw [hlen] at ho hi
    rw [ho] at hlast
    have := List.all_eq_true.1 hlast i (List.mem_range.2 hi)
    simpa using this
end
end Go.Proofs.Vg
