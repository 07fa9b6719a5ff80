/- Range over a function that works on cells of its own: the state may change with the world. -/
import Derived.Test.YtldeokfhipjbfaaDoorVg22
import Derived.RangeFuncLeaves
import Derived.RangeFuncRecord
set_option linter.unusedVariables false
set_option linter.unusedSimpArgs false
namespace Go.Proofs.Vg
open Go Go.RowKit
section
variable {P : Program} {N : Nat} {K : Env} {ds : List Deferred} {w : World} {a : Act} {Φ : Post}
theorem ok_rangeG {S : Type} {g : Operand} {ps : List Nat} {assign body : Code} {gf : FuncId} {cap : List Value} (J : S → World → Prop) (Jx : Code → World → Prop) (s0 : S) (elem : S → List Value) (more fini : S → Prop) (nxt : S → S → Prop) (gen : S → World → S → World → Prop)
    (hg : ev K g = some (.func (.func gf) #[] cap.toArray)) (hen : ∀ (xs : Array Value) (w : World), (callFunc gf xs).run P w = .ok (.enter gf xs) w)
    (hps : ∀ p ∈ ps, p < N) (hel : ∀ s, more s → (elem s).length = ps.length)
    (hst : ∀ s W W', Off w.heap.size W W' → J s W → J s W') (hstx : ∀ c W W', Off w.heap.size W W' → Jx c W → Jx c W') (hgen : ∀ s W s' W', w.heap.size + 1 < W.heap.size → gen s W s' W' → J s W → Keep w.heap.size W W' ∧ J s' W')
    (hJ0 : ∀ W, Ext w W → W.heap.size = w.heap.size + 2 → J s0 W)
    (hround : ∀ s W, more s → J s W → w.heap.size + 1 < W.heap.size → ok P (some (w.heap.size + 1)) N assign (bindE ps (elem s) K) [] W (fun e K1 ds1 W1 => e = .normal ∧ Keep w.heap.size W W1 ∧
      ∀ W2, Off w.heap.size W1 W2 → ok P (some (w.heap.size + 1)) N body K1 ds1 W2 (fun e K3 ds3 W3 => Keep w.heap.size W2 W3 ∧ match e with
        | .normal => ∃ s', nxt s s' ∧ J s' W3
        | .ret => Jx .ret W3
        | .exit id => Jx (.exit id) W3
        | _ => False)))
    (hit : ∀ (J' : S → World → Prop) (Jx' : World → Prop) (W : World), (∀ s W s' W', gen s W s' W' → J' s W → J' s' W') → (∀ s W, J' s W → J s W ∧ w.heap.size + 1 < W.heap.size) → J' s0 W →
      (∀ s W, more s → J' s W → Yields P (w.heap.size + 1) (elem s) W (fun b W' => (b = true ∧ ∃ s', nxt s s' ∧ J' s' W') ∨ (b = false ∧ Jx' W'))) →
      Rets P gf (.func (.yield (w.heap.size + 1)) #[] #[] :: cap) W (fun _ W' => (∃ s, fini s ∧ J' s W') ∨ Jx' W'))
    (hdone : ∀ s W, fini s → J s W → W.heap[w.heap.size]? = some (.deferred (some [])) → Φ .normal K (markOf w.heap.size :: ds) W)
    (hret : ∀ W, Jx .ret W → W.heap[w.heap.size]? = some (.deferred (some [])) → Φ .ret K (markOf w.heap.size :: ds) W)
    (hexit : ∀ id W, Jx (.exit id) W → W.heap[w.heap.size]? = some (.deferred (some [])) → Φ (.exit id) K (markOf w.heap.size :: ds) W) :
    ok P none N (.rangeFunc g ps.toArray assign body) K ds w Φ := by
  intro a ha
  refine wpIn_rangeFunc (fun fn hfn => ?_)
  generalize hn : w.heap.size = n at *
  -- the record
  let rec_ : LoopState → Option Code → Loop := fun st pd => { state := st, pending := pd, fn := fn, tmps := a.tmps, params := ps.toArray, assign := assign, body := body, defers := n }
  let w1 : World := (w.alloc (.deferred (some []))).alloc (.loop (rec_ .ready none))
  have hw1 : Ext w w1 := ⟨rfl, rfl, rfl, by simp [w1]; omega, fun k hk => by
    show ((w.alloc _).alloc _).heap[k]? = _
    rw [Below.heap_alloc _ _ k (by simp; omega), Below.heap_alloc _ _ k hk]⟩
  have hl1 : w1.heap[n + 1]? = some (.loop (rec_ .ready none)) := by
    have := World.alloc_heap_new (w.alloc (.deferred (some []))) (.loop (rec_ .ready none))
    simp only [World.size_alloc, hn] at this
    exact this
  have hd1 : w1.heap[n]? = some (.deferred (some [])) := by
    show ((w.alloc _).alloc _).heap[n]? = _
    rw [Below.heap_alloc _ _ n (by simp; omega)]
    have := World.alloc_heap_new w (.deferred (some []))
    rw [hn] at this
    exact this
  refine ⟨n + 1, [markOf n], w1, { target := .fn (.func gf) cap.toArray, args := #[.func (.yield (n + 1)) #[] #[]] }, w1, gf, #[.func (.yield (n + 1)) #[] #[]] ++ cap.toArray, w1, ?_, ?_, ?_, ?_, fence_depth _ _, ?_⟩
  · have := run_enterLoop_outer (P := P) (w := w) fn a.tmps ps.toArray assign body
    rw [hn] at this
    exact this
  · have he := ev_eval ha hg
    simp only [resolve, rangeCall, he]
    simp [Deferred.ofValue, Act.eval]
  · intro f' _; trivial
  · simp [invoke, hen]
  -- the call
  let J' : S → World → Prop := fun s W => J s W ∧ W.heap[n + 1]? = some (.loop (rec_ .ready none)) ∧ W.heap[n]? = some (.deferred (some []))
  let Jx' : World → Prop := fun W => ∃ c, Jx c W ∧ (c = .ret ∨ ∃ id, c = .exit id) ∧ W.heap[n + 1]? = some (.loop (rec_ .done (some c))) ∧ W.heap[n]? = some (.deferred (some []))
  have hcall := hit J' Jx' w1 (fun s W s' W' he ⟨h1, h2, h3⟩ => by
    obtain ⟨hk, hj⟩ := hgen s W s' W' (Array.getElem?_eq_some_iff.1 h2).1 he h1
    exact ⟨hj, hk.2.trans h2, hk.1.trans h3⟩) (fun s W h => ⟨h.1, (Array.getElem?_eq_some_iff.1 h.2.1).1⟩) ⟨hJ0 w1 hw1 (by simp [w1, hn]), hl1, hd1⟩ (fun s W hm ⟨hj, hl, hd⟩ => by
    -- one round
    have hlt : n + 1 < W.heap.size := (Array.getElem?_eq_some_iff.1 hl).1
    have hy := run_yield (P := P) (args := (elem s).toArray) hl (by simp [rec_, hel s hm])
    refine ⟨fn, _, assign, body, hy, roundIn_of_wpIn trivial ?_⟩
    have hk0 : Kn K N [] { tmps := a.tmps, defers := [] } := ⟨ha.size, rfl, ha.at_⟩
    have hkb := Kn.bind ps (elem s) K a.tmps hps hk0
    have hfold : (((rec_ .ready none).params.zip (elem s).toArray).foldl (fun tmps (x : Tmp × Value) => match x with | (t, a) => tmps.setIfInBounds t a) (rec_ .ready none).tmps) =
        (ps.zip (elem s)).foldl (fun tmps (p : Nat × Value) => tmps.setIfInBounds p.1 p.2) a.tmps := by
      simp only [rec_]
      rw [← Array.foldl_toList]
      simp
    have hra := hround s W hm hj hlt _ hkb
    rw [hfold]
    refine wpIn_mono (F := fence (some (n + 1))) hra ?_
    rintro e a1 W1 ⟨K1, ds1, hk1, rfl, hkeep, hbody⟩
    have hl1' : W1.heap[n + 1]? = some (.loop (rec_ .ready none)) := hkeep.2.trans hl
    have hd1' : W1.heap[n]? = some (.deferred (some [])) := hkeep.1.trans hd
    have hlt1 : n + 1 < W1.heap.size := (Array.getElem?_eq_some_iff.1 hl1').1
    refine ⟨_, run_beginRound hl1' rfl, ?_⟩
    refine wpIn_mono (F := fence (some (n + 1))) (hbody _ (Off.put n W1 _) a1 hk1) ?_
    have hl2 : (W1.putObj (n + 1) (.loop { rec_ .ready none with state := .busy })).heap[n + 1]? = some (.loop (rec_ .busy none)) := World.putObj_heap_same hlt1
    have hd2 : (W1.putObj (n + 1) (.loop { rec_ .ready none with state := .busy })).heap[n]? = some (.deferred (some [])) := (World.putObj_heap_other (by omega)).trans hd1'
    rintro e a3 W3 ⟨K3, ds3, hk3, hkeep3, hpost⟩
    have hl3 := hkeep3.2.trans hl2
    have hd3 := hkeep3.1.trans hd2
    have hlt3 : n + 1 < W3.heap.size := (Array.getElem?_eq_some_iff.1 hl3).1
    cases e with
    | normal =>
      obtain ⟨s', hns, hj'⟩ := hpost
      refine ⟨_, _, run_endRound none hl3, true, rfl, .inl ⟨rfl, s', hns, hst _ _ _ (Off.put n W3 _) hj', World.putObj_heap_same hlt3, (World.putObj_heap_other (by omega)).trans hd3⟩⟩
    | ret =>
      refine ⟨_, _, run_endRound (some .ret) hl3, false, rfl, .inr ⟨rfl, .ret, hstx _ _ _ (Off.put n W3 _) hpost, .inl rfl, World.putObj_heap_same hlt3, (World.putObj_heap_other (by omega)).trans hd3⟩⟩
    | exit id =>
      refine ⟨_, _, run_endRound (some (.exit id)) hl3, false, rfl, .inr ⟨rfl, .exit id, hstx _ _ _ (Off.put n W3 _) hpost, .inr ⟨id, rfl⟩, World.putObj_heap_same hlt3, (World.putObj_heap_other (by omega)).trans hd3⟩⟩
    | goto t => exact hpost.elim
    | panic ch => exact hpost.elim
    | outgrown => exact hpost.elim)
  have hcall' : CallsIn Fence.wide (0 - 1) P gf (#[.func (.yield (n + 1)) #[] #[]] ++ cap.toArray) w1 (callR (fun _ W' => (∃ s, fini s ∧ J' s W') ∨ Jx' W') fun _ _ => False) := by
    refine callsIn_wide.2 ?_
    have : (#[.func (.yield (n + 1)) #[] #[]] ++ cap.toArray : Array Value) = (.func (.yield (n + 1)) #[] #[] :: cap).toArray := by simp
    rw [this]
    exact hcall
  have hka : Kn K N (markOf n :: ds) { a with defers := [markOf n] ++ a.defers } := ⟨ha.size, by simp [ha.defers], ha.at_⟩
  refine CallsIn.mono hcall' ?_
  rintro e W he
  cases e <;> simp only [callR] at he
  · simp only [rangePost]
    rcases he with ⟨s, hf, hj, hl, hd⟩ | ⟨c, hx, hc, hl, hd⟩
    · refine ⟨none, _, run_endLoop hl (by simp [rec_]), ?_⟩
      exact ⟨K, _, hka, hdone s _ hf (hst _ _ _ (Off.put n W _) hj) ((World.putObj_heap_other (by omega)).trans hd)⟩
    · refine ⟨some c, _, run_endLoop hl (by simp [rec_]), ?_⟩
      have hx' := hstx _ _ _ (Off.put n W (.loop { rec_ .done (some c) with state := .exhausted })) hx
      have hd' : (W.putObj (n + 1) (.loop { rec_ .done (some c) with state := .exhausted })).heap[n]? = some (.deferred (some [])) := (World.putObj_heap_other (by omega)).trans hd
      rcases hc with rfl | ⟨id, rfl⟩
      · exact wpIn_ret ⟨K, _, hka, hret _ hx' hd'⟩
      · exact wpIn_exit ⟨K, _, hka, hexit id _ hx' hd'⟩
end
end Go.Proofs.Vg
