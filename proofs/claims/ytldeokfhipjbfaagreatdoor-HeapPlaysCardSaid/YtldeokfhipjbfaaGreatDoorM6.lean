/- Part 6 of 13: Vg23, H16, H17, H18, H19. -/
import Derived.Test.YtldeokfhipjbfaaGreatDoorM4
import Derived.RangeFuncLeaves
import Derived.RangeFuncRecord
import Derived.Test.YtldeokfhipjbfaaGreatDoorM5
import Derived.Test.YtldeokfhipjbfaaGreatDoorM3
/- Range over a function that works on cells of its own: the state may change with the world. -/
set_option linter.unusedVariables false
set_option linter.unusedSimpArgs false
namespace Go.Proofs.Vg
open Go Go.RowKit
section
variable {P : Program} {N : Nat} {K : Env} {ds : List Deferred} {w : World} {a : Act} {Φ : Post}
theorem ok_rangeG {S : Type} {g : Operand} {ps : List Nat} {assign body : Code} {gf : FuncId} {cap : List Value} (J : S → World → Prop) (Jx : Code → World → Prop) (s0 : S) (elem : S → List Value) (more fini : S → Prop) (nxt : S → S → Prop) (gen : S → World → S → World → Prop)
    (hg : ev K g = some (.func (.func gf) #[] cap.toArray)) (hen : ∀ (xs : Array Value) (w : World), (callFunc gf xs).run P w = .ok (.enter gf xs) w)
    (hps : ∀ p ∈ ps, p < N) (hel : ∀ s, more s → (elem s).length = ps.length)
    (hst : ∀ s W W', Off w.heap.size W W' → J s W → J s W') (hstx : ∀ c W W', Off w.heap.size W W' → Jx c W → Jx c W') (hgen : ∀ s W s' W', w.heap.size + 1 < W.heap.size → gen s W s' W' → J s W → Keep w.heap.size W W' ∧ J s' W')
    (hJ0 : ∀ W, Ext w W → W.heap.size = w.heap.size + 2 → J s0 W)
    (hround : ∀ s W, more s → J s W → w.heap.size + 1 < W.heap.size → ok P (some (w.heap.size + 1)) N assign (bindE ps (elem s) K) [] W (fun e K1 ds1 W1 => e = .normal ∧ Keep w.heap.size W W1 ∧
      ∀ W2, Off w.heap.size W1 W2 → ok P (some (w.heap.size + 1)) N body K1 ds1 W2 (fun e K3 ds3 W3 => Keep w.heap.size W2 W3 ∧ match e with
        | .normal => ∃ s', nxt s s' ∧ J s' W3
        | .ret => Jx .ret W3
        | .exit id => Jx (.exit id) W3
        | _ => False)))
    (hit : ∀ (J' : S → World → Prop) (Jx' : World → Prop) (W : World), (∀ s W s' W', gen s W s' W' → J' s W → J' s' W') → (∀ s W, J' s W → J s W ∧ w.heap.size + 1 < W.heap.size) → J' s0 W →
      (∀ s W, more s → J' s W → Yields P (w.heap.size + 1) (elem s) W (fun b W' => (b = true ∧ ∃ s', nxt s s' ∧ J' s' W') ∨ (b = false ∧ Jx' W'))) →
      Rets P gf (.func (.yield (w.heap.size + 1)) #[] #[] :: cap) W (fun _ W' => (∃ s, fini s ∧ J' s W') ∨ Jx' W'))
    (hdone : ∀ s W, fini s → J s W → W.heap[w.heap.size]? = some (.deferred (some [])) → Φ .normal K (markOf w.heap.size :: ds) W)
    (hret : ∀ W, Jx .ret W → W.heap[w.heap.size]? = some (.deferred (some [])) → Φ .ret K (markOf w.heap.size :: ds) W)
    (hexit : ∀ id W, Jx (.exit id) W → W.heap[w.heap.size]? = some (.deferred (some [])) → Φ (.exit id) K (markOf w.heap.size :: ds) W) :
    ok P none N (.rangeFunc g ps.toArray assign body) K ds w Φ := by
  intro a ha
  refine wpIn_rangeFunc (fun fn hfn => ?_)
  generalize hn : w.heap.size = n at *
  -- the record
  let rec_ : LoopState → Option Code → Loop := fun st pd => { state := st, pending := pd, fn := fn, tmps := a.tmps, params := ps.toArray, assign := assign, body := body, defers := n }
  let w1 : World := (w.alloc (.deferred (some []))).alloc (.loop (rec_ .ready none))
  have hw1 : Ext w w1 := ⟨rfl, rfl, rfl, by simp [w1]; omega, fun k hk => by
    show ((w.alloc _).alloc _).heap[k]? = _
    rw [Below.heap_alloc _ _ k (by simp; omega), Below.heap_alloc _ _ k hk]⟩
  have hl1 : w1.heap[n + 1]? = some (.loop (rec_ .ready none)) := by
    have := World.alloc_heap_new (w.alloc (.deferred (some []))) (.loop (rec_ .ready none))
    simp only [World.size_alloc, hn] at this
    exact this
  have hd1 : w1.heap[n]? = some (.deferred (some [])) := by
    show ((w.alloc _).alloc _).heap[n]? = _
    rw [Below.heap_alloc _ _ n (by simp; omega)]
    have := World.alloc_heap_new w (.deferred (some []))
    rw [hn] at this
    exact this
  refine ⟨n + 1, [markOf n], w1, { target := .fn (.func gf) cap.toArray, args := #[.func (.yield (n + 1)) #[] #[]] }, w1, gf, #[.func (.yield (n + 1)) #[] #[]] ++ cap.toArray, w1, ?_, ?_, ?_, ?_, fence_depth _ _, ?_⟩
  · have := run_enterLoop_outer (P := P) (w := w) fn a.tmps ps.toArray assign body
    rw [hn] at this
    exact this
  · have he := ev_eval ha hg
    simp only [resolve, rangeCall, he]
    simp [Deferred.ofValue, Act.eval]
  · intro f' _; trivial
  · simp [invoke, hen]
  -- the call
  let J' : S → World → Prop := fun s W => J s W ∧ W.heap[n + 1]? = some (.loop (rec_ .ready none)) ∧ W.heap[n]? = some (.deferred (some []))
  let Jx' : World → Prop := fun W => ∃ c, Jx c W ∧ (c = .ret ∨ ∃ id, c = .exit id) ∧ W.heap[n + 1]? = some (.loop (rec_ .done (some c))) ∧ W.heap[n]? = some (.deferred (some []))
  have hcall := hit J' Jx' w1 (fun s W s' W' he ⟨h1, h2, h3⟩ => by
    obtain ⟨hk, hj⟩ := hgen s W s' W' (Array.getElem?_eq_some_iff.1 h2).1 he h1
    exact ⟨hj, hk.2.trans h2, hk.1.trans h3⟩) (fun s W h => ⟨h.1, (Array.getElem?_eq_some_iff.1 h.2.1).1⟩) ⟨hJ0 w1 hw1 (by simp [w1, hn]), hl1, hd1⟩ (fun s W hm ⟨hj, hl, hd⟩ => by
    -- one round
    have hlt : n + 1 < W.heap.size := (Array.getElem?_eq_some_iff.1 hl).1
    have hy := run_yield (P := P) (args := (elem s).toArray) hl (by simp [rec_, hel s hm])
    refine ⟨fn, _, assign, body, hy, roundIn_of_wpIn trivial ?_⟩
    have hk0 : Kn K N [] { tmps := a.tmps, defers := [] } := ⟨ha.size, rfl, ha.at_⟩
    have hkb := Kn.bind ps (elem s) K a.tmps hps hk0
    have hfold : (((rec_ .ready none).params.zip (elem s).toArray).foldl (fun tmps (x : Tmp × Value) => match x with | (t, a) => tmps.setIfInBounds t a) (rec_ .ready none).tmps) =
        (ps.zip (elem s)).foldl (fun tmps (p : Nat × Value) => tmps.setIfInBounds p.1 p.2) a.tmps := by
      simp only [rec_]
      rw [← Array.foldl_toList]
      simp
    have hra := hround s W hm hj hlt _ hkb
    rw [hfold]
    refine wpIn_mono (F := fence (some (n + 1))) hra ?_
    rintro e a1 W1 ⟨K1, ds1, hk1, rfl, hkeep, hbody⟩
    have hl1' : W1.heap[n + 1]? = some (.loop (rec_ .ready none)) := hkeep.2.trans hl
    have hd1' : W1.heap[n]? = some (.deferred (some [])) := hkeep.1.trans hd
    have hlt1 : n + 1 < W1.heap.size := (Array.getElem?_eq_some_iff.1 hl1').1
    refine ⟨_, run_beginRound hl1' rfl, ?_⟩
    refine wpIn_mono (F := fence (some (n + 1))) (hbody _ (Off.put n W1 _) a1 hk1) ?_
    have hl2 : (W1.putObj (n + 1) (.loop { rec_ .ready none with state := .busy })).heap[n + 1]? = some (.loop (rec_ .busy none)) := World.putObj_heap_same hlt1
    have hd2 : (W1.putObj (n + 1) (.loop { rec_ .ready none with state := .busy })).heap[n]? = some (.deferred (some [])) := (World.putObj_heap_other (by omega)).trans hd1'
    rintro e a3 W3 ⟨K3, ds3, hk3, hkeep3, hpost⟩
    have hl3 := hkeep3.2.trans hl2
    have hd3 := hkeep3.1.trans hd2
    have hlt3 : n + 1 < W3.heap.size := (Array.getElem?_eq_some_iff.1 hl3).1
    cases e with
    | normal =>
      obtain ⟨s', hns, hj'⟩ := hpost
      refine ⟨_, _, run_endRound none hl3, true, rfl, .inl ⟨rfl, s', hns, hst _ _ _ (Off.put n W3 _) hj', World.putObj_heap_same hlt3, (World.putObj_heap_other (by omega)).trans hd3⟩⟩
    | ret =>
      refine ⟨_, _, run_endRound (some .ret) hl3, false, rfl, .inr ⟨rfl, .ret, hstx _ _ _ (Off.put n W3 _) hpost, .inl rfl, World.putObj_heap_same hlt3, (World.putObj_heap_other (by omega)).trans hd3⟩⟩
    | exit id =>
      refine ⟨_, _, run_endRound (some (.exit id)) hl3, false, rfl, .inr ⟨rfl, .exit id, hstx _ _ _ (Off.put n W3 _) hpost, .inr ⟨id, rfl⟩, World.putObj_heap_same hlt3, (World.putObj_heap_other (by omega)).trans hd3⟩⟩
    | goto t => exact hpost.elim
    | panic ch => exact hpost.elim
    | outgrown => exact hpost.elim)
  have hcall' : CallsIn Fence.wide (0 - 1) P gf (#[.func (.yield (n + 1)) #[] #[]] ++ cap.toArray) w1 (callR (fun _ W' => (∃ s, fini s ∧ J' s W') ∨ Jx' W') fun _ _ => False) := by
    refine callsIn_wide.2 ?_
    have : (#[.func (.yield (n + 1)) #[] #[]] ++ cap.toArray : Array Value) = (.func (.yield (n + 1)) #[] #[] :: cap).toArray := by simp
    rw [this]
    exact hcall
  have hka : Kn K N (markOf n :: ds) { a with defers := [markOf n] ++ a.defers } := ⟨ha.size, by simp [ha.defers], ha.at_⟩
  refine CallsIn.mono hcall' ?_
  rintro e W he
  cases e <;> simp only [callR] at he
  · simp only [rangePost]
    rcases he with ⟨s, hf, hj, hl, hd⟩ | ⟨c, hx, hc, hl, hd⟩
    · refine ⟨none, _, run_endLoop hl (by simp [rec_]), ?_⟩
      exact ⟨K, _, hka, hdone s _ hf (hst _ _ _ (Off.put n W _) hj) ((World.putObj_heap_other (by omega)).trans hd)⟩
    · refine ⟨some c, _, run_endLoop hl (by simp [rec_]), ?_⟩
      have hx' := hstx _ _ _ (Off.put n W (.loop { rec_ .done (some c) with state := .exhausted })) hx
      have hd' : (W.putObj (n + 1) (.loop { rec_ .done (some c) with state := .exhausted })).heap[n]? = some (.deferred (some [])) := (World.putObj_heap_other (by omega)).trans hd
      rcases hc with rfl | ⟨id, rfl⟩
      · exact wpIn_ret ⟨K, _, hka, hret _ hx' hd'⟩
      · exact wpIn_exit ⟨K, _, hka, hexit id _ hx' hd'⟩
end
end Go.Proofs.Vg
/- Reaching: pushing the words of a list. -/
set_option linter.unusedVariables false
set_option linter.unusedSimpArgs false
namespace Go.Proofs.Vg
open Go Go.RowKit
def pushF : List Bool → List Int → List Wd → List Bool × List Int
  | sn, q, [] => (sn, q)
  | sn, q, x :: l => if x.r ≠ 0 ∧ sn[x.r.toNat]? = some false then pushF (sn.set x.r.toNat true) (q ++ [x.r]) l else pushF sn q l
def bfs (H : List Ob) : Nat → List Bool → List Int → Nat → List Int
  | 0, _, q, _ => q
  | f + 1, sn, q, i => match q[i]? with
    | none => q
    | some r => bfs H f (pushF sn q (listO (objAt H r))).1 (pushF sn q (listO (objAt H r))).2 (i + 1)
def unseen (sn : List Bool) : Nat := sn.countP (fun b => !b)
theorem unseen_set {sn : List Bool} {i : Nat} (h : sn[i]? = some false) : unseen (sn.set i true) + 1 = unseen sn := by
  induction sn generalizing i with
  | nil => simp at h
  | cons x xs ih =>
    cases i with
    | zero => simp at h; subst h; simp [unseen, List.countP_cons]
    | succ i =>
      have := ih (i := i) (by simpa using h)
      simp only [unseen, List.set_cons_succ, List.countP_cons] at this ⊢
      omega
structure Qok (n : Nat) (sn : List Bool) (q : List Int) : Prop where
  len : sn.length = n + 1
  ref : ∀ r ∈ q, 1 ≤ r ∧ r ≤ (n : Int)
  nd : q.Nodup
  sn : ∀ r ∈ q, sn[r.toNat]? = some true
theorem Qok.push {n : Nat} {sn : List Bool} {q : List Int} (h : Qok n sn q) {r : Int} (h0 : 0 ≤ r) (hn : r ≤ (n : Int)) (h1 : r ≠ 0) (hf : sn[r.toNat]? = some false) : Qok n (sn.set r.toNat true) (q ++ [r]) := by
  have hlt := (List.getElem?_eq_some_iff.1 hf).1
  refine ⟨by simp [h.len], fun x hx => ?_, ?_, fun x hx => ?_⟩
  · rcases List.mem_append.1 hx with hx | hx
    · exact h.ref x hx
    · simp at hx; subst hx; omega
  · refine List.nodup_append.2 ⟨h.nd, List.pairwise_singleton _ _, fun a ha b hb e => ?_⟩
    simp at hb; subst hb; subst e
    have := h.sn a ha
    rw [hf] at this; cases this
  · rcases List.mem_append.1 hx with hx | hx
    · rw [List.getElem?_set]
      split
      · rename_i e
        simp [hlt]
      · exact h.sn x hx
    · simp at hx; subst hx
      rw [List.getElem?_set]; simp [hlt]
theorem Qok.nil (n : Nat) : Qok n (List.replicate (n + 1) false) [] := ⟨by simp, by simp, by simp, by simp⟩
theorem pushF_inv {n : Nat} : ∀ (l : List Wd) (sn : List Bool) (q : List Int), (∀ x ∈ l, 0 ≤ x.r ∧ x.r ≤ (n : Int)) → Qok n sn q → Qok n (pushF sn q l).1 (pushF sn q l).2 ∧ q <+: (pushF sn q l).2 ∧ unseen (pushF sn q l).1 + (pushF sn q l).2.length = unseen sn + q.length := by
  intro l
  induction l with
  | nil => intro sn q hl h; exact ⟨h, List.prefix_rfl, rfl⟩
  | cons x l ih =>
    intro sn q hl h
    have hx := hl x List.mem_cons_self
    have hl' := fun y hy => hl y (List.mem_cons_of_mem _ hy)
    simp only [pushF]
    split
    · rename_i hc
      have h1 := ih (sn.set x.r.toNat true) (q ++ [x.r]) hl' (h.push hx.1 hx.2 hc.1 hc.2)
      have h2 := unseen_set hc.2
      refine ⟨h1.1, (List.prefix_append _ _).trans h1.2.1, ?_⟩
      have := h1.2.2
      simp at this
      omega
    · exact ih sn q hl' h
theorem bfs_prefix {H : List Ob} (hW : Wf H) : ∀ (f : Nat) (sn : List Bool) (q : List Int) (i : Nat), Qok H.length sn q → q <+: bfs H f sn q i ∧ (∀ r ∈ bfs H f sn q i, 1 ≤ r ∧ r ≤ (H.length : Int)) ∧ (bfs H f sn q i).Nodup := by
  intro f
  induction f with
  | zero => intro sn q i h; exact ⟨List.prefix_rfl, h.ref, h.nd⟩
  | succ f ih =>
    intro sn q i h
    simp only [bfs]
    split
    · exact ⟨List.prefix_rfl, h.ref, h.nd⟩
    · rename_i r hr
      have hl : ∀ x ∈ listO (objAt H r), 0 ≤ x.r ∧ x.r ≤ (H.length : Int) := by
        cases ho : objAt H r with
        | none => simp [listO]
        | some o =>
          have : o ∈ H := by
            unfold objAt at ho
            split at ho
            · exact List.mem_of_getElem? ho
            · cases ho
          exact hW o this
      have h1 := pushF_inv _ sn q hl h
      have h2 := ih _ _ (i + 1) h1.1
      exact ⟨h1.2.1.trans h2.1, h2.2⟩
def bvs (l : List Bool) : List Value := l.map Value.bool
theorem bvs_get {l : List Bool} {i : Nat} {v : Bool} (h : l[i]? = some v) : (bvs l)[i]? = some (.bool v) := by simp [bvs, h]
theorem bvs_set (l : List Bool) (i : Nat) (v : Bool) (h : i < l.length) : splice (bvs l) i [.bool v] = bvs (l.set i v) := by
  rw [splice_one _ _ _ (by simpa [bvs] using h)]; simp [bvs, List.map_set]
/-- What the one that reaches has of its own: what is seen, the queue. -/
structure Que (w : World) (base : Nat) (B cs cq : Nat) (sn : List Bool) (q : List Int) (qv : Value) (G : Nat → Prop) : Prop where
  bs : Blk w B (bvs sn) 4
  c1 : Blk w cs [.slice (some ⟨B, 0, none⟩) sn.length sn.length] 134
  c2 : Blk w cq [qv] 33
  own : w.ownsRow base 3 1 qv q.length (ivs q)
  gB : G B
  gs : G cs
  gq : G cq
  go : ∀ k, qv.ownBlock = some k → G k ∧ k ≠ B ∧ k ≠ cs ∧ k ≠ cq
  ne : B ≠ cs ∧ B ≠ cq ∧ cs ≠ cq
  lt : ∀ k, G k → base ≤ k ∧ k < w.heap.size
theorem Que.ext {w w' : World} {base B cs cq : Nat} {sn : List Bool} {q : List Int} {qv : Value} {G : Nat → Prop} (h : Que w base B cs cq sn q qv G) (he : Ext w w') : Que w' base B cs cq sn q qv G :=
  ⟨h.bs.ext he, h.c1.ext he, h.c2.ext he, owns_chg' h.own (he.chg (fun _ => False)) (fun _ _ => id), h.gB, h.gs, h.gq, h.go, h.ne, fun k hk => ⟨(h.lt k hk).1, Nat.lt_of_lt_of_le (h.lt k hk).2 he.size⟩⟩
end Go.Proofs.Vg
namespace Go.Proofs.YtldeokfhipjbfaaGreatDoor
open Go Go.Proofs.Vg Go.RowKit

-- -- function 89
set_option maxHeartbeats 4000000 in
set_option maxRecDepth 8000 in
theorem push_ok (w : World) (base B cs cq n : Nat) (sn : List Bool) (q : List Int) (qv : Value) (G : Nat → Prop) (lv : Value) (l : List Wd) (hn : n ≤ 1073741824) (hl : l.length ≤ 1073741824) (hq : Que w base B cs cq sn q qv G) (hQ : Qok n sn q) (hql : unseen sn + q.length ≤ n + 1) (hlr : ∀ x ∈ l, 0 ≤ x.r ∧ x.r ≤ (n : Int)) (hls : ∃ A c, lv = .slice A l.length c)
    (hlv : ∀ w' G', (∀ k, G' k → G k ∨ w.heap.size ≤ k) → Chg G' w w' → SlW w' lv l) :
    Rets Tryz.prog 89 [lv, ptrOf cs, ptrOf cq] w (fun v w' => ∃ qv' G', Que w' base B cs cq (pushF sn q l).1 (pushF sn q l).2 qv' G' ∧ Chg G w w' ∧ (∀ k, G k → G' k) ∧ ∀ k, G' k → G k ∨ w.heap.size ≤ k) := by
  obtain ⟨A, c, rfl⟩ := hls
  refine rets_of_ok Tryz.func89 rfl rfl ?_
  refine ok_seq (fun M hM => ok_region rfl ?_); (try revert X); refine t89 ?_; intro X hX
  refine hM _ _ _ ?_; clear hM M
  refine ok_block ?_
  refine ok_loop (S := Nat × List Bool × List Int × Value × (Nat → Prop)) (fun s => [(1, ptrOf cs), (2, ptrOf cq), (6, .slice A l.length c), (7, .int .i64 (l.length : Int)), (8, .int .i64 (s.1 : Int))])
    (fun s w4 => s.1 ≤ l.length ∧ Que w4 base B cs cq s.2.1 s.2.2.1 s.2.2.2.1 s.2.2.2.2 ∧ Chg G w w4 ∧ (∀ k, G k → s.2.2.2.2 k) ∧ (∀ k, s.2.2.2.2 k → G k ∨ w.heap.size ≤ k) ∧ Qok n s.2.1 s.2.2.1 ∧ unseen s.2.1 + s.2.2.1.length ≤ n + 1 ∧ pushF sn q l = pushF s.2.1 s.2.2.1 (l.drop s.1)) (fun s => l.length - s.1) (0, sn, q, qv, G) ?_ ?_ ?_
  · simp [sub, Env.get, argEnv]
  · exact ⟨Nat.zero_le _, hq, Chg.refl _ _, fun _ h => h, fun _ h => .inl h, hQ, hql, by simp⟩
  rintro ⟨i, sn4, q4, qv4, G4⟩ w4 ⟨hi, hq4, hc4, hG1, hG2, hQ4, hql4, hpf⟩
  simp only at hi hq4 hG1 hG2 hQ4 hql4 hpf ⊢
  refine ok_seq (fun M hM => ok_region rfl ?_); (try revert X); refine t89 ?_; intro X hX
  refine hM _ _ _ ?_; clear hM M
  refine ok_seq (fun M1 hM1 => ?_)
  refine ok_if rfl (fun hc => ok_skip ?_) (fun hc => ok_exit ?_)
  rotate_left
  · try simp only [zW, zU, reduceIte, Nat.reduceEqDiff, Nat.reduceAdd, reduceCtorEq, Q89]
    rw [List.drop_of_length_le (by omega)] at hpf
    simp only [pushF] at hpf
    rw [hpf]
    exact ⟨qv4, G4, hq4, hc4, hG1, hG2⟩
  try simp only [zW, zU, reduceIte, Nat.reduceEqDiff, Nat.reduceAdd, reduceCtorEq, Q89]
  refine hM1 _ _ _ ?_; clear hM1 M1
  have hil : i < l.length := by omega
  have hxi : l[i]? = some l[i] := List.getElem?_eq_getElem hil
  have hxr := hlr _ (List.getElem_mem hil)
  generalize hxx : l[i] = x at hxi hxr
  have hdr : l.drop i = x :: l.drop (i + 1) := by rw [List.drop_eq_getElem_cons hil, hxx]
  rw [hdr] at hpf
  obtain ⟨A', c', h2, -, hcel⟩ := hlv w4 G4 hG2 (hc4.mono (fun k _ h => hG1 k h))
  rw [wd_len] at h2
  cases h2
  obtain ⟨bb, oo, rfl, hce⟩ := hcel i x.row (by rw [List.getElem?_map, hxi]; rfl)
  refine ok_join [(1, ptrOf cs), (2, ptrOf cq), (6, .slice (some ⟨bb, oo, none⟩) l.length c), (7, .int .i64 (l.length : Int)), (8, .int .i64 (i : Int))]
    (fun w5 => ∃ sn5 q5 qv5 G5, Que w5 base B cs cq sn5 q5 qv5 G5 ∧ Chg G w w5 ∧ (∀ k, G k → G5 k) ∧ (∀ k, G5 k → G k ∨ w.heap.size ≤ k) ∧ Qok n sn5 q5 ∧ unseen sn5 + q5.length ≤ n + 1 ∧ pushF sn q l = pushF sn5 q5 (l.drop (i + 1))) ?_ ?_
  rotate_left
  · rintro w5 ⟨sn5, q5, qv5, G5, hq5, hc5, h1, h2, h3, h4, h5⟩
    refine ok_region rfl ?_
    (try revert X); refine t89 ?_; intro X hX
    refine ⟨by simp only [inI]; omega, ?_⟩
    (try revert X); refine t89 ?_; intro X hX
    exact ⟨(i + 1, sn5, q5, qv5, G5), by simp [sub, Env.get], ⟨by omega, hq5, hc5, h1, h2, h3, h4, h5⟩, by omega⟩
  refine ok_block ?_
  refine ok_seq (fun M hM => ok_region rfl ?_)
  (try revert X); refine t89 ?_; intro X hX
  refine ⟨by omega, by omega, ?_⟩
  (try revert X); refine t89 ?_; intro X hX
  refine ⟨x.row, rfl, by simpa using hce, ?_⟩
  (try revert X); refine t89 ?_; intro X hX
  refine Runs.alloc Fx.zi38 (fun w5 he5 hs5 hb5 => ?_)
  generalize hB5 : w4.heap.size = B5 at hs5 hb5
  (try revert X); refine t89 ?_; intro X hX
  refine Runs.store hb5 Fx.zi38 rfl (by intro u hu; simp [Value.cells, Wd.row] at hu; rcases hu with rfl | rfl | rfl <;> rfl) (by simp [Value.cells]) (fun w6 hc6 hs6 hb6 => ?_)
  rw [splice_all _ _ (by simp [Value.cells])] at hb6
  simp only [Value.cells] at hb6
  have he6 : Ext w4 w6 := he5.chg_trans hc6 (fun i hi => by omega)
  have hs46 := he6.size
  have hq6 := hq4.ext he6
  have hws := hc4.size
  have hx2 : w6.cell? ⟨B5, 2, none⟩ = some (.int .i64 x.r) := hb6.cell (j := 2) rfl
  have hc46 : Chg G w w6 := hc4.trans (he6.chg G)
  (try revert X); refine t89 ?_; intro X hX
  refine hM _ _ _ ?_; clear hM M
  have hno : ¬ (x.r ≠ 0 ∧ sn4[x.r.toNat]? = some false) → pushF sn q l = pushF sn4 q4 (l.drop (i + 1)) := fun h => by
    rw [hpf]; simp only [pushF]; rw [if_neg h]
  have hlt : x.r.toNat < sn4.length := by rw [hQ4.len]; omega
  have hgv : sn4[x.r.toNat]? = some sn4[x.r.toNat] := List.getElem?_eq_getElem hlt
  generalize sn4[x.r.toNat] = bv at hgv
  refine ok_seq (fun M hM => ok_region rfl ?_)
  (try revert X); refine t89 ?_; intro X hX
  refine ⟨_, hx2, ?_⟩
  (try revert X); refine t89 ?_; intro X hX
  refine ⟨fun h => ?_, fun h => ?_⟩
  rotate_left
  · have hx0 : x.r = 0 := by simpa using h
    (try revert X); refine t89 ?_; intro X hX
    refine hM _ _ _ ?_; clear hM M
    refine ok_cond rfl (fun h => by cases h) (fun _ => ok_skip ?_)
    try simp only [zW, zU, reduceIte, Nat.reduceEqDiff, Nat.reduceAdd, reduceCtorEq, Q89]
    exact ⟨by simp [sub, Env.get], sn4, q4, qv4, G4, hq6, hc46, hG1, hG2, hQ4, hql4, hno (fun h => h.1 hx0)⟩
  have hx0 : ¬ x.r = 0 := by simpa using h
  (try revert X); refine t89 ?_; intro X hX
  refine ⟨_, hq6.c1.cell (j := 0) rfl, ?_⟩
  (try revert X); refine t89 ?_; intro X hX
  refine ⟨_, hx2, ?_⟩
  (try revert X); refine t89 ?_; intro X hX
  refine ⟨by omega, by omega, ?_⟩
  (try revert X); refine t89 ?_; intro X hX
  refine ⟨.bool bv, by have := hq6.bs.cell (j := x.r.toNat) (bvs_get hgv); simpa [add_at] using this, ?_⟩
  (try revert X); refine t89 ?_; intro X hX
  refine hM _ _ _ ?_; clear hM M
  cases bv with
  | true =>
    refine ok_cond (b := false) rfl (fun h => by cases h) (fun _ => ok_skip ?_)
    try simp only [zW, zU, reduceIte, Nat.reduceEqDiff, Nat.reduceAdd, reduceCtorEq, Q89]
    exact ⟨by simp [sub, Env.get], sn4, q4, qv4, G4, hq6, hc46, hG1, hG2, hQ4, hql4, hno (fun h => by rw [hgv] at h; cases h.2)⟩
  | false =>
    refine ok_cond (b := true) rfl (fun _ => ?_) (fun h => by cases h)
    have hpf2 : pushF sn q l = pushF (sn4.set x.r.toNat true) (q4 ++ [x.r]) (l.drop (i + 1)) := by
      rw [hpf]; simp only [pushF]; rw [if_pos ⟨hx0, hgv⟩]
    refine ok_seq (fun M hM => ok_region rfl ?_)
    (try revert X); refine t89 ?_; intro X hX
    refine ⟨_, hq6.c1.cell (j := 0) rfl, ?_⟩
    (try revert X); refine t89 ?_; intro X hX
    refine ⟨_, hx2, ?_⟩
    (try revert X); refine t89 ?_; intro X hX
    refine ⟨by omega, by omega, ?_⟩
    (try revert X); refine t89 ?_; intro X hX
    simp only [Nat.zero_add]
    refine Runs.store (b := B) (o := x.r.toNat) (v := .bool true) hq6.bs Fx.zi4 rfl (by intro u hu; simp [Value.cells] at hu; subst hu; rfl) (by simp [bvs]; omega) (fun w7 hc7 hs7 hb7 => ?_)
    rw [show (Value.cells (.bool true)).toList = [Value.bool true] from rfl, bvs_set _ _ _ hlt] at hb7
    (try revert X); refine t89 ?_; intro X hX
    refine hM _ _ _ ?_; clear hM M
    have hBl := (hq4.lt B hq4.gB).2
    have hcsl := (hq4.lt cs hq4.gs).2
    have hcql := (hq4.lt cq hq4.gq).2
    have hc17 : Blk w7 cs _ 134 := hq6.c1.chg hc7 (fun h => hq4.ne.1 h.symm)
    have hc27 : Blk w7 cq _ 33 := hq6.c2.chg hc7 (fun h => hq4.ne.2.1 h.symm)
    have hown7 := owns_chg' hq6.own hc7 (fun k hk h => (hq4.go k hk).2.1 h)
    have hx27 : w7.cell? ⟨B5, 2, none⟩ = some (.int .i64 x.r) := hc7.cell hx2 (by simp only; omega)
    refine ok_region rfl ?_
    (try revert X); refine t89 ?_; intro X hX
    refine ⟨_, hc27.cell (j := 0) rfl, ?_⟩
    (try revert X); refine t89 ?_; intro X hX
    refine ⟨_, hx27, ?_⟩
    (try revert X); refine t89 ?_; intro X hX
    refine Runs.lit (cs := [.int .i64 x.r]) Fx.un33 Fx.zi3 (by decide) (by kernel_rfl) (by decide) (fun w8 he8 hs8 hb8 => ?_)
    (try revert X); refine t89 ?_; intro X hX
    have hown8 := owns_chg' hown7 (he8.chg (fun _ => False)) (fun _ _ h => h)
    have hbl := (hq4.lt B hq4.gB).1
    refine Runs.append1' Fx.un33 Fx.zi3 rfl (by decide) hown8 hb8 rfl (by intro u hu; simp at hu; subst hu; rfl) (by simp [maxLen]; omega) (by omega) (by omega) (fun v' w9 hown9 hg9 hblk => ?_)
    have hc9 : Chg (fun k => qv4.ownBlock = some k) w8 w9 := ⟨hg9.os, hg9.tape, hg9.output, hg9.size, fun k hk hs => hg9.block k hk (fun e => hs e.symm)⟩
    have hs9 := hc9.size
    have hv1 : v'.oneCell' = true ∧ v'.cells = #[v'] := by
      rcases hown9.2 with ⟨rfl, _⟩ | ⟨g, cap, cur, rfl, _⟩ <;> exact ⟨rfl, rfl⟩
    have hc29 : Blk w9 cq _ 33 := (hc27.ext he8).chg hc9 (fun h => (hq4.go cq h).2.2.2 rfl)
    (try revert X); refine t89 ?_; intro X hX
    refine Runs.store hc29 Fx.zi33 (by rw [hv1.2]; rfl) (by rw [hv1.2]; intro u hu; simp at hu; subst hu; exact hv1.1) (by simp) (fun w10 hc10 hs10 hb10 => ?_)
    rw [hv1.2, splice_all _ _ (by simp)] at hb10
    (try revert X); refine t89 ?_; intro X hX
    have hvn : ∀ k, v'.ownBlock = some k → qv4.ownBlock = some k ∨ k = w8.heap.size := fun k h => by
      rcases hblk with h' | h'
      · exact .inl (h' ▸ h)
      · rw [h'] at h; cases h; exact .inr rfl
    refine ⟨by simp [sub, Env.get], sn4.set x.r.toNat true, q4 ++ [x.r], v', fun k => G4 k ∨ k = w8.heap.size ∧ v'.ownBlock = some k, ?_, ?_, fun k h => .inl (hG1 k h), fun k h => ?_, hQ4.push hxr.1 hxr.2 hx0 hgv, ?_, hpf2⟩
    · refine ⟨((hb7.ext he8).chg hc9 (fun h => (hq4.go B h).2.1 rfl)).chg hc10 hq4.ne.2.1, ?_, hb10, ?_, .inl hq4.gB, .inl hq4.gs, .inl hq4.gq, fun k h => ?_, hq4.ne, fun k h => ?_⟩
      · rw [List.length_set]
        exact ((hc17.ext he8).chg hc9 (fun h => (hq4.go cs h).2.2.1 rfl)).chg hc10 hq4.ne.2.2
      · have := owns_chg' hown9 hc10 (fun k hk h => by
          rcases hvn k hk with h' | h'
          · exact (hq4.go k h').2.2.2 h
          · omega)
        simpa [ivs] using this
      · rcases hvn k h with h' | h'
        · exact ⟨.inl (hq4.go k h').1, (hq4.go k h').2⟩
        · exact ⟨.inr ⟨h', h⟩, by omega, by omega, by omega⟩
      · rcases h with h | ⟨h, h'⟩
        · have := hq4.lt k h; omega
        · have := (hown9.lt k h').2; omega
    · refine ⟨hc10.os.trans (hc9.os.trans (he8.os.trans (hc7.os.trans hc46.os))), hc10.tape.trans (hc9.tape.trans (he8.tape.trans (hc7.tape.trans hc46.tape))), hc10.output.trans (hc9.output.trans (he8.output.trans (hc7.output.trans hc46.output))), by omega, fun k hk hg => ?_⟩
      have ng : ∀ j, G4 j → k ≠ j := fun j hj e => by
        subst e
        rcases hG2 k hj with h | h
        · exact hg h
        · omega
      rw [hc10.block k (by omega) (ng cq hq4.gq), hc9.block k (by omega) (fun h => ng k (hq4.go k h).1 rfl), Below.block he8 k (by omega), hc7.block k (by omega) (ng B hq4.gB), hc46.block k hk hg]
    · rcases h with h | ⟨h, _⟩
      · exact hG2 k h
      · exact .inr (by omega)
    · have := unseen_set hgv
      simp
      omega
end Go.Proofs.YtldeokfhipjbfaaGreatDoor
/- Reaching: the objects that are reached, one by one. -/
set_option linter.unusedVariables false
set_option linter.unusedSimpArgs false
namespace Go.Proofs.Vg
open Go Go.RowKit
/-- The state of the reaching: how many came, which blocks are its own, and what stands in them. -/
structure RS where
  i : Nat
  own : Nat → Prop
  snap : Nat → Option Obj
structure GenR (s : RS) (W : World) (s' : RS) (W' : World) : Prop where
  i : s'.i = s.i
  chg : Chg s.own W W'
  sub : ∀ k, s.own k → s'.own k
  new : ∀ k, s'.own k → (s.own k ∨ W.heap.size ≤ k) ∧ k < W'.heap.size
  snap : s'.snap = fun k => W'.heap[k]?
structure HF (W : World) (s : RS) (b1 b2 hb rb : Nat) (vs : Value) (ps gs : List Nat) (H : List Ob) (rv : Value) (roots : List Wd) : Prop where
  hp : HeapR W hb rb vs ps gs H
  k1 : W.cell? ⟨b1, 0, none⟩ = some (ptrOf hb)
  k2 : W.cell? ⟨b2, 0, none⟩ = some rv
  sl : Sli W 3 rv (roots.map Wd.row)
  snap : ∀ k, s.own k → W.heap[k]? = s.snap k
  foot : ∀ k, Foot hb vs ps gs k → ¬ s.own k
theorem Que.same {w w' : World} {base B cs cq : Nat} {sn : List Bool} {q : List Int} {qv : Value} {G : Nat → Prop} (h : Que w base B cs cq sn q qv G) (he : ∀ k, G k → w'.heap[k]? = w.heap[k]?) : Que w' base B cs cq sn q qv G := by
  refine ⟨(he B h.gB).trans h.bs, (he cs h.gs).trans h.c1, (he cq h.gq).trans h.c2, ?_, h.gB, h.gs, h.gq, h.go, h.ne, fun k hk => ⟨(h.lt k hk).1, ?_⟩⟩
  · refine ⟨h.own.1, ?_⟩
    rcases h.own.2 with hn | ⟨g, cap, cur, hv, hb, hgg, rest⟩
    · exact .inl hn
    · exact .inr ⟨g, cap, cur, hv, hb, (he g (h.go g (by rw [hv]; rfl)).1).trans hgg, rest⟩
  · have h1 := (h.lt k hk).2
    have h2 := he k hk
    rw [Array.getElem?_eq_getElem h1] at h2
    exact (Array.getElem?_eq_some_iff.1 h2).1
def bfsQ (H : List Ob) (roots : List Wd) : List Int :=
  bfs H (H.length + 1) (pushF (List.replicate (H.length + 1) false) [] roots).1 (pushF (List.replicate (H.length + 1) false) [] roots).2 0
theorem unseen_rep (n : Nat) : unseen (List.replicate n false) = n := by
  unfold unseen; rw [List.countP_replicate]; simp
theorem ivs_flat (q : List Int) : ivs q = (ints q).flatten := by
  induction q with
  | nil => rfl
  | cons x xs ih => simp only [ivs, ints, List.map_cons, List.flatten_cons] at ih ⊢; rw [ih]; rfl
theorem ObW.listS {w : World} {p g : Nat} {o : Ob} (h : ObW w p g o) : ∃ A c, w.cell? ⟨p, 0, none⟩ = some (.slice A o.list.length c) ∧ o.list.length ≤ 1073741824 ∧ ∀ (w' : World) (T : Nat → Prop), Chg T w w' → (o.list ≠ [] → g < w.heap.size → ¬ T g) → Sli w' 3 (.slice A o.list.length c) (o.list.map Wd.row) := by
  cases o with
  | text s => exact ⟨none, 0, Blk.cell h rfl, by simp [Ob.list], fun w' T hc hn => ⟨none, 0, rfl, by simp [Ob.list], fun j row hj => by simp [Ob.list] at hj⟩⟩
  | words s l =>
    obtain ⟨lv, h1, A, c, rfl, h3, h4, h5⟩ := h
    refine ⟨A, c, h1.cell rfl, h3, fun w' T hc hn => ?_⟩
    by_cases hl : l = []
    · subst hl; exact ⟨A, c, rfl, by simp [Ob.list], fun j row hj => by simp [Ob.list] at hj⟩
    · obtain ⟨h6, cs, h7, h8⟩ := h5 hl
      exact WL.sli (w := w') (g := g) ⟨A, c, rfl, h3, h4, fun _ => ⟨h6, cs, h7.chg hc (hn hl h7.lt), h8⟩⟩
theorem listO_mem {H : List Ob} (hW : Wf H) (r : Int) : ∀ x ∈ listO (objAt H r), 0 ≤ x.r ∧ x.r ≤ (H.length : Int) := by
  cases ho : objAt H r with
  | none => simp [listO]
  | some o =>
    have : o ∈ H := by
      unfold objAt at ho
      split at ho
      · exact List.mem_of_getElem? ho
      · cases ho
    exact hW o this
end Go.Proofs.Vg
namespace Go.Proofs.YtldeokfhipjbfaaGreatDoor
open Go Go.Proofs.Vg Go.RowKit
-- -- function 88
set_option maxHeartbeats 4000000 in
set_option maxRecDepth 8000 in
theorem reached1_ok {J' : RS → World → Prop} {Jx' : World → Prop} (W : World) (l b1 b2 hb rb : Nat) (vs : Value) (ps gs : List Nat) (H : List Ob) (rv : Value) (roots : List Wd) (hl : H.length ≤ 1048576) (hW : Wf H) (hr : ∀ x ∈ roots, 0 ≤ x.r ∧ x.r ≤ (H.length : Int)) (hrl : roots.length ≤ 1073741824)
    (hJ : ∀ s W, J' s W → HF W s b1 b2 hb rb vs ps gs H rv roots)
    (hgen : ∀ s W s' W', GenR s W s' W' → J' s W → J' s' W')
    (h0 : J' ⟨0, fun _ => False, fun _ => none⟩ W)
    (hy : ∀ s W r, (bfsQ H roots)[s.i]? = some r → J' s W → Vg.Yields Tryz.prog l [.int .i64 r] W (fun b W' => (b = true ∧ J' ⟨s.i + 1, s.own, s.snap⟩ W') ∨ (b = false ∧ Jx' W'))) :
    Rets Tryz.prog 88 [.func (.yield l) #[] #[], ptrOf b1, ptrOf b2] W (fun _ W' => (∃ s, s.i = (bfsQ H roots).length ∧ J' s W') ∨ Jx' W') := by
  have h00 := hJ _ _ h0
  obtain ⟨Av, cv, hvs, hvlen, hvcell⟩ := h00.hp.sli (by omega)
  have hL : (ps.map fun p => [ptrOf p]).length = H.length := by simp [h00.hp.lenp]
  rw [hL] at hvs
  have hhead : W.cell? ⟨hb, 0, none⟩ = some (.slice Av H.length cv) := by
    have hq := h00.hp.head.cell (j := 0) (u := vs) rfl
    rw [hvs] at hq
    exact hq
  obtain ⟨A, c, hrv, hrlen, hrcell⟩ := h00.sl
  rw [wd_len] at hrv hrlen
  subst hrv
  refine rets_of_ok Tryz.func88 rfl rfl ?_
  refine ok_seq (fun M hM => ok_region rfl ?_)
  (try revert X); refine t88 ?_; intro X hX
  refine ⟨_, h00.k1, ?_⟩
  (try revert X); refine t88 ?_; intro X hX
  refine ⟨_, hhead, ?_⟩
  (try revert X); refine t88 ?_; intro X hX
  refine ⟨by simp only [inI]; omega, ?_⟩
  (try revert X); refine t88 ?_; intro X hX
  refine Runs.make1 Fx.un134 Fx.zi4 rfl (by omega) (by omega) (by omega) (fun w2 he2 hz2 hb2 => ?_)
  generalize hB2 : W.heap.size = B2 at hz2 hb2
  have hto : ((H.length : Int) + 1).toNat = H.length + 1 := by omega
  rw [hto] at hb2 ⊢
  (try revert X); refine t88 ?_; intro X hX
  refine Runs.alloc Fx.zi134 (fun w3 he3 hz3 hb3 => ?_)
  generalize hB3 : w2.heap.size = B3 at hz3 hb3
  simp only [Value.cells] at hb3
  (try revert X); refine t88 ?_; intro X hX
  refine Runs.store hb3 Fx.zi134 rfl (by intro u hu; simp [Value.cells] at hu; subst hu; rfl) (by simp) (fun w4 hc4 hz4 hb4 => ?_)
  rw [splice_all _ _ (by simp [Value.cells])] at hb4
  simp only [Value.cells] at hb4
  (try revert X); refine t88 ?_; intro X hX
  refine hM _ _ _ ?_; clear hM M
  refine ok_seq (fun M hM => ok_region rfl ?_)
  (try revert X); refine t88 ?_; intro X hX
  refine Runs.alloc Fx.zi33 (fun w5 he5 hz5 hb5 => ?_)
  generalize hB5 : w4.heap.size = B5 at hz5 hb5
  simp only [Value.cells] at hb5
  (try revert X); refine t88 ?_; intro X hX
  refine hM _ _ _ ?_; clear hM M
  refine ok_seq (fun M hM => ok_region rfl ?_); (try revert X); refine t88 ?_; intro X hX
  refine hM _ _ _ ?_; clear hM M
  have he5' : Ext W w5 := ((he2.trans he3).chg_trans hc4 (fun k hk => by omega)).trans he5
  have hq5 : Que w5 W.heap.size B2 B3 B5 (List.replicate (H.length + 1) false) [] (.slice none 0 0) (fun k => k = B2 ∨ k = B3 ∨ k = B5) := by
    refine ⟨?_, ?_, hb5, World.ownsRow_nil _ _ _ _, .inl rfl, .inr (.inl rfl), .inr (.inr rfl), fun k hk => by simp [Value.ownBlock] at hk, ⟨by omega, by omega, by omega⟩, fun k hk => by omega⟩
    · have := (((hb2.ext he3).chg hc4 (by omega)).ext he5)
      simpa [bvs] using this
    · rw [List.length_replicate]; exact hb4.ext he5
  have hG5 : ∀ (w' : World) (own' : Nat → Prop), Chg (fun k => k = B2 ∨ k = B3 ∨ k = B5) w5 w' → (∀ k, own' k → (k = B2 ∨ k = B3 ∨ k = B5 ∨ w5.heap.size ≤ k) ∧ k < w'.heap.size) → J' ⟨0, own', fun k => w'.heap[k]?⟩ w' := fun w' own' hc ho =>
    hgen ⟨0, fun _ => False, fun _ => none⟩ W ⟨0, own', fun k => w'.heap[k]?⟩ w' ⟨rfl, (he5'.chg _).trans_new hc (fun k hk => by omega), fun k h => h.elim, fun k hk => ⟨.inr (by have := ho k hk; have := he5'.size; omega), (ho k hk).2⟩, rfl⟩ h0
  refine ok_seq (fun M hM => ok_region rfl ?_)
  (try revert X); refine t88 ?_; intro X hX
  refine ⟨_, he5'.cell h00.k2, ?_⟩
  (try revert X); refine t88 ?_; intro X hX
  refine Inv.clos (cap := [ptrOf B3, ptrOf B5]) Fx.en89 (push_ok w5 W.heap.size B2 B3 B5 H.length _ _ _ _ (.slice A roots.length c) roots (by omega) hrl hq5 (Qok.nil _) (by rw [unseen_rep]; simp) hr ⟨A, c, rfl⟩ ?_) ?_
  · intro w' G' hG' hc'
    have hc2 : Chg (fun k => k = B2 ∨ k = B3 ∨ k = B5) w5 w' := ⟨hc'.os, hc'.tape, hc'.output, hc'.size, fun k hk hn => hc'.block k hk (fun h => by rcases hG' k h with h | h <;> first | exact hn h | omega)⟩
    exact (hJ _ _ (hG5 w' (fun _ => False) hc2 (fun k h => h.elim))).sl
  rintro v w6 ⟨qv6, G6, hq6, hc6, hs6, hn6⟩
  (try revert X); refine t88 ?_; intro X hX
  refine hM _ _ _ ?_; clear hM M
  have hp6 := pushF_inv (n := H.length) roots (List.replicate (H.length + 1) false) [] hr (Qok.nil _)
  have hJ6 := hG5 w6 G6 hc6 (fun k hk => ⟨by rcases hn6 k hk with h | h <;> omega, (hq6.lt k hk).2⟩)
  refine ok_seq (fun M hM => ok_region rfl ?_); (try revert X); refine t88 ?_; intro X hX
  refine hM _ _ _ ?_; clear hM M
  have hlen0 : (List.replicate (H.length + 1) false).length = H.length + 1 := by simp
  refine ok_block ?_
  refine ok_loop (S := RS × List Bool × List Int × Value × Nat) (fun s => [(0, .func (.yield l) #[] #[]), (1, ptrOf b1), (2, ptrOf b2), (5, ptrOf B5), (6, .func (.func 89) #[] #[ptrOf B3, ptrOf B5]), (7, .int .i64 (s.1.i : Int))])
    (fun s w' => J' s.1 w' ∧ Que w' W.heap.size B2 B3 B5 s.2.1 s.2.2.1 s.2.2.2.1 s.1.own ∧ Qok H.length s.2.1 s.2.2.1 ∧ unseen s.2.1 + s.2.2.1.length ≤ H.length + 1 ∧ s.1.i ≤ s.2.2.1.length ∧ unseen s.2.1 + (s.2.2.1.length - s.1.i) ≤ s.2.2.2.2 ∧ bfsQ H roots = bfs H s.2.2.2.2 s.2.1 s.2.2.1 s.1.i) (fun s => s.2.2.2.2)
    (⟨0, G6, fun k => w6.heap[k]?⟩, (pushF (List.replicate (H.length + 1) false) [] roots).1, (pushF (List.replicate (H.length + 1) false) [] roots).2, qv6, H.length + 1) ?_ ?_ ?_
  · simp [sub, Env.get]
  · have hu := hp6.2.2
    rw [unseen_rep] at hu
    simp only [List.length_nil, Nat.add_zero] at hu
    exact ⟨hJ6, hq6, hp6.1, by simp only; omega, Nat.zero_le _, by simp only; omega, rfl⟩
  rintro ⟨s, sn, q, qv, f⟩ w7 ⟨hJ7, hq7, hQ7, hu7, hi7, hf7, hb7⟩
  simp only at hq7 hQ7 hu7 hi7 hf7 hb7 ⊢
  have hF7 := hJ _ _ hJ7
  obtain ⟨qA, qc, hqv⟩ : ∃ qA qc, qv = .slice qA q.length qc := by
    rcases hq7.own.2 with ⟨h1, h2⟩ | ⟨g, cap, cur, h1, _⟩
    · exact ⟨none, 0, by rw [h2]; exact h1⟩
    · exact ⟨_, _, h1⟩
  have hqS : SlI w7 qv q := by
    have := Sli.of_own (rows := Vg.ints q) hq7.own (ivs_flat q) (by simp [Vg.ints]) (by simp) (by omega)
    exact this
  subst hqv
  have hown := hq7.lt
  refine ok_seq (fun M1 hM1 => ?_)
  refine ok_seq (fun M hM => ok_region rfl ?_)
  (try revert X); refine t88 ?_; intro X hX
  refine ⟨_, hq7.c2.cell (j := 0) rfl, ?_⟩
  (try revert X); refine t88 ?_; intro X hX
  refine hM _ _ _ ?_; clear hM M
  refine ok_if rfl (fun hc => ok_skip ?_) (fun hc => ok_exit ?_)
  rotate_left
  · try simp only [zW, zU, reduceIte, Nat.reduceEqDiff, Nat.reduceAdd, reduceCtorEq, Q88]
    have hiq : s.i = q.length := by omega
    have hbq : bfs H f sn q s.i = q := by
      cases f with
      | zero => rfl
      | succ f => simp only [bfs]; rw [List.getElem?_eq_none (by omega)]
    exact .inl ⟨s, by rw [hb7, hbq, hiq], hJ7⟩
  try simp only [zW, zU, reduceIte, Nat.reduceEqDiff, Nat.reduceAdd, reduceCtorEq, Q88]
  refine hM1 _ _ _ ?_; clear hM1 M1
  have hil : s.i < q.length := by omega
  have hri : q[s.i]? = some q[s.i] := List.getElem?_eq_getElem hil
  have hrr := hQ7.ref _ (List.getElem_mem hil)
  generalize q[s.i] = r at hri hrr
  have hpre := bfs_prefix hW f sn q s.i hQ7
  have hQr : (bfsQ H roots)[s.i]? = some r := by
    rw [hb7]
    obtain ⟨t, ht⟩ := hpre.1
    rw [← ht, List.getElem?_append_left hil]
    exact hri
  obtain ⟨qA', qc', hqe, -, hqcell⟩ := hqS.at_
  injection hqe with hqe1 hqe2 hqe3
  subst hqe1
  obtain ⟨qb, qo, rfl, hqc0⟩ := hqcell s.i hil
  have hqc : w7.cell? ⟨qb, qo + s.i, none⟩ = some (.int .i64 r) := by
    rw [hqc0]
    rw [List.getElem?_eq_getElem hil] at hri
    rw [Option.some.inj hri]
  refine ok_seq (fun M1 hM1 => ok_block ?_)
  refine ok_join [(0, .func (.yield l) #[] #[]), (1, ptrOf b1), (2, ptrOf b2), (5, ptrOf B5), (6, .func (.func 89) #[] #[ptrOf B3, ptrOf B5]), (7, .int .i64 (s.i : Int))] (fun w8 => J' ⟨s.i + 1, s.own, s.snap⟩ w8) ?_ ?_
  · refine ok_seq (fun M hM => ok_region rfl ?_)
    (try revert X); refine t88 ?_; intro X hX
    refine ⟨_, hq7.c2.cell (j := 0) rfl, ?_⟩
    (try revert X); refine t88 ?_; intro X hX
    refine ⟨by omega, by omega, ?_⟩
    (try revert X); refine t88 ?_; intro X hX
    refine ⟨_, by simpa using hqc, ?_⟩
    (try revert X); refine t88 ?_; intro X hX
    refine Inv.yield (hy s w7 r hQr hJ7) ?_
    rintro b w8 hb
    (try revert X); refine t88 ?_; intro X hX
    refine hM _ _ _ ?_; clear hM M
    rcases hb with ⟨rfl, hb⟩ | ⟨rfl, hb⟩
    · refine ok_cond (b := false) rfl (fun h => by cases h) (fun _ => ok_skip ?_)
      try simp only [zW, zU, reduceIte, Nat.reduceEqDiff, Nat.reduceAdd, reduceCtorEq, Q88]
      exact ⟨by simp [sub, Env.get], hb⟩
    · refine ok_cond (b := true) rfl (fun _ => ok_ret ?_) (fun h => by cases h)
      try simp only [zW, zU, reduceIte, Nat.reduceEqDiff, Nat.reduceAdd, reduceCtorEq, Q88]
      exact .inr hb
  intro w8 hJ8
  have hF8 := hJ _ _ hJ8
  have hq8 : Que w8 W.heap.size B2 B3 B5 sn q (.slice (some ⟨qb, qo, none⟩) q.length qc) s.own := hq7.same (fun k hk => (hF8.snap k hk).trans (hF7.snap k hk).symm)
  obtain ⟨i, o, hio, hi, ho, hoo⟩ := objAt_in (H := H) (r := r) hrr.1 hrr.2
  subst hio
  obtain ⟨p, g, hp, hg, hob⟩ := hF8.hp.at_ ho
  obtain ⟨A2, c2, hlc, hll, hls⟩ := hob.listS
  have hgF : ¬ s.own g := hF8.foot g (.inr (.inr (.inr (List.mem_of_getElem? hg))))
  obtain ⟨Av2, cv2, hvs2, -, hvcell2⟩ := hF8.hp.sli (by omega)
  rw [hL] at hvs2
  obtain ⟨b, off, hAv, hcc⟩ := hvcell2 i [ptrOf p] (by rw [List.getElem?_map, hp]; rfl)
  subst hAv
  have hcc0 := hcc 0 _ rfl
  have hhead8 : w8.cell? ⟨hb, 0, none⟩ = some (.slice (some ⟨b, off, none⟩) H.length cv2) := by
    have hq := hF8.hp.head.cell (j := 0) (u := vs) rfl
    rw [hvs2] at hq
    exact hq
  have hqc8 : w8.cell? ⟨qb, qo + s.i, none⟩ = some (.int .i64 ((i : Int) + 1)) := by
    have hqbo : s.own qb := (hq7.go qb rfl).1
    exact (World.cell?_of_block ((hF8.snap qb hqbo).trans (hF7.snap qb hqbo).symm)).trans hqc
  have e5 : ((i : Int) + 1 - 1).toNat = i := by omega
  refine (ok_draw 16 [(false, true)] (Ext _) Fx.mixed (by decide) rfl (by decide +kernel) (by decide +kernel) (Ext.drew _) ?_)
  (try revert X); refine t88 ?_; intro X hX
  refine ⟨_, fun w' h => h.cell hF8.k1, ?_⟩
  (try revert X); refine t88 ?_; intro X hX
  refine ⟨_, fun w' h => h.cell hhead8, ?_⟩
  (try revert X); refine t88 ?_; intro X hX
  refine ⟨_, fun w' h => h.cell (hq8.c2.cell (j := 0) rfl), ?_⟩
  (try revert X); refine t88 ?_; intro X hX
  refine ⟨by omega, by omega, ?_⟩
  (try revert X); refine t88 ?_; intro X hX
  refine ⟨_, fun w' h => h.cell (by simpa using hqc8), ?_⟩
  (try revert X); refine t88 ?_; intro X hX
  refine ⟨by simp only [inI]; omega, ?_⟩
  (try revert X); refine t88 ?_; intro X hX
  refine ⟨by omega, by omega, ?_⟩
  (try revert X); refine t88 ?_; intro X hX
  refine ⟨_, fun w' h => h.cell (by rw [e5]; simpa [add_at] using hcc0), ?_⟩
  (try revert X); refine t88 ?_; intro X hX
  refine ⟨_, fun w' h => h.cell hlc, ?_⟩
  (try revert X); refine t88 ?_; intro X hX
  intro w9 he9
  (try revert X); refine t88 ?_; intro X hX
  have hlist : listO (objAt H ((i : Int) + 1)) = o.list := by rw [hoo]; rfl
  refine Inv.clos (cap := [ptrOf B3, ptrOf B5]) Fx.en89 (push_ok w9 W.heap.size B2 B3 B5 H.length sn q _ s.own (.slice A2 o.list.length c2) o.list (by omega) hll (hq8.ext he9) hQ7 hu7 (fun x hx => hW o (List.mem_of_getElem? ho) x hx) ⟨A2, c2, rfl⟩ ?_) ?_
  · intro w' G' hG' hc'
    have hs9 := he9.size
    exact hls w' (fun k => s.own k ∨ w9.heap.size ≤ k) ((he9.chg _).trans (hc'.mono (fun k _ h => hG' k h))) (fun _ hg2 h => by rcases h with h | h <;> first | exact hgF h | omega)
  rintro v w10 ⟨qv10, G10, hq10, hc10, hs10, hn10⟩
  (try revert X); refine t88 ?_; intro X hX
  refine hM1 _ _ _ ?_; clear hM1 M1
  refine ok_region rfl ?_
  (try revert X); refine t88 ?_; intro X hX
  refine ⟨by simp only [inI]; omega, ?_⟩
  (try revert X); refine t88 ?_; intro X hX
  have hp10 := pushF_inv (n := H.length) o.list sn q (fun x hx => hW o (List.mem_of_getElem? ho) x hx) hQ7
  have hJ10 : J' ⟨s.i + 1, G10, fun k => w10.heap[k]?⟩ w10 := hgen ⟨s.i + 1, s.own, s.snap⟩ w8 _ w10 ⟨rfl, (he9.chg _).trans hc10, hs10, fun k hk => ⟨by rcases hn10 k hk with h | h; exact .inl h; exact .inr (by have := he9.size; omega), (hq10.lt k hk).2⟩, rfl⟩ hJ8
  obtain ⟨f', rfl⟩ : ∃ f', f = f' + 1 := ⟨f - 1, by omega⟩
  have hlen10 := hp10.2.2
  have hle10 := hp10.2.1.length_le
  refine ⟨(⟨s.i + 1, G10, fun k => w10.heap[k]?⟩, (pushF sn q o.list).1, (pushF sn q o.list).2, qv10, f'), by simp [sub, Env.get], ⟨hJ10, hq10, hp10.1, by simp only; omega, by simp only; omega, by simp only; omega, ?_⟩, by simp only; omega⟩
  rw [hb7]
  simp only [bfs, hri, hlist]

-- -- function 49
set_option maxHeartbeats 4000000 in
set_option maxRecDepth 8000 in
theorem reached_ok (w : World) (hb : Nat) (rv : Value) (hrv : rv.cells = #[rv]) : Rets Tryz.prog 49 [ptrOf hb, rv] w (fun v w' => v = .func (.func 88) #[] #[ptrOf w.heap.size, ptrOf (w.heap.size + 1)] ∧ Blk w' w.heap.size [ptrOf hb] 25 ∧ Blk w' (w.heap.size + 1) [rv] 29 ∧ Ext w w') := by
  refine rets_of_ok Tryz.func49 rfl rfl ?_
  refine ok_seq (fun M hM => ok_region rfl ?_)
  (try revert X); refine t49 ?_; intro X hX
  refine Runs.box (fun w1 he1 hs1 hb1 => ?_)
  simp only [Value.cells] at hb1
  (try revert X); refine t49 ?_; intro X hX
  refine Runs.box (fun w2 he2 hs2 hb2 => ?_)
  rw [hrv] at hb2
  (try revert X); refine t49 ?_; intro X hX
  refine hM _ _ _ ?_; clear hM M
  refine ok_seq (fun M hM => ok_region rfl ?_); (try revert X); refine t49 ?_; intro X hX
  refine hM _ _ _ ?_; clear hM M
  refine ok_ret ?_
  try simp only [zW, zU, reduceIte, Nat.reduceEqDiff, Nat.reduceAdd, reduceCtorEq, Q49]
  rw [hs1] at hb2 ⊢
  exact ⟨rfl, hb1.ext he2, hb2, he1.trans he2⟩

-- -- function 50
set_option maxHeartbeats 4000000 in
set_option maxRecDepth 8000 in
theorem collect1_ok (w : World) (hb rb : Nat) (H : List Ob) (F : Nat → Prop) (hH : HeapW w hb rb H F) (hl : H.length ≤ 1073741824) (x : Wd) (B : Nat) (hB : w.cell? ⟨B, 0, none⟩ = some (ptrOf hb)) :
    Rets Tryz.prog 50 [wv x, ptrOf B] w (fun v w' => v = .bool (!rightW H x) ∧ Ext w w') := by
  refine rets_of_ok Tryz.func50 rfl rfl ?_
  refine ok_seq (fun M hM => ok_region rfl ?_)
  (try revert X); refine t50 ?_; intro X hX
  refine Runs.box (fun w1 he1 hz1 hb1 => ?_)
  generalize hB1 : w.heap.size = B1 at hz1 hb1
  simp only [Value.cells] at hb1
  (try revert X); refine t50 ?_; intro X hX
  refine hM _ _ _ ?_; clear hM M
  refine ok_seq (fun M hM => ok_region rfl ?_)
  (try revert X); refine t50 ?_; intro X hX
  refine ⟨_, he1.cell hB, ?_⟩
  (try revert X); refine t50 ?_; intro X hX
  refine ⟨x.row, rfl, hb1.cells (o := 0) (fun j u hj => by simpa using hj), ?_⟩
  (try revert X); refine t50 ?_; intro X hX
  refine Inv.call Fx.en12 (right_ok w1 hb rb H F (hH.ext he1) hl x) ?_
  rintro v w2 ⟨rfl, he2⟩
  (try revert X); refine t50 ?_; intro X hX
  refine hM _ _ _ ?_; clear hM M
  refine ok_ret ?_
  try simp only [zW, zU, reduceIte, Nat.reduceEqDiff, Nat.reduceAdd, reduceCtorEq, Q50]
  exact he1.trans he2

def mvW (tos : List Int) (x : Wd) : Wd := ⟨x.k, x.n, tos.getD x.r.toNat 0⟩

-- -- function 51
set_option maxHeartbeats 4000000 in
set_option maxRecDepth 8000 in
theorem moved_ok (w : World) (lv : Value) (l : List Wd) (c6 Bt : Nat) (tos : List Int) (h6 : w.cell? ⟨c6, 0, none⟩ = some (.slice (some ⟨Bt, 0, none⟩) tos.length tos.length)) (ht : Blk w Bt (ivs tos) 3) (hsl : SlW w lv l) (hll : l.length ≤ 1073741824) (hlr : ∀ x ∈ l, 0 ≤ x.r ∧ x.r < (tos.length : Int)) (htl : tos.length ≤ 1073741824) :
    Rets Tryz.prog 51 [lv, ptrOf c6] w (fun v w' => (∃ A c, v = .slice A l.length c) ∧ (l = [] → v = .slice none 0 0) ∧ (∃ g, WL w' g v (l.map (mvW tos)) ∧ (l ≠ [] → w.heap.size ≤ g)) ∧ Ext w w' ∧ w'.ownsRow w.heap.size 38 3 v l.length ((l.map (mvW tos)).map Wd.row).flatten) := by
  obtain ⟨A, c, rfl, hlen, hcell⟩ := id hsl
  rw [wd_len] at hlen hsl ⊢
  refine rets_of_ok Tryz.func51 rfl rfl ?_
  refine ok_seq (fun M hM => ok_region rfl ?_); (try revert X); refine t51 ?_; intro X hX
  refine hM _ _ _ ?_; clear hM M
  refine ok_seq (fun M hM => ok_region rfl ?_); (try revert X); refine t51 ?_; intro X hX
  refine hM _ _ _ ?_; clear hM M
  refine ok_seq (fun M0 hM0 => ?_)
  refine ok_seq (fun M hM => ok_region rfl ?_); (try revert X); refine t51 ?_; intro X hX
  refine hM _ _ _ ?_; clear hM M
  refine ok_block ?_
  refine ok_loop (S := Nat × Value) (fun s => [(1, ptrOf c6), (4, s.2), (7, .slice A l.length c), (8, .int .i64 (l.length : Int)), (9, .int .i64 (s.1 : Int))])
    (fun s w4 => Ext w w4 ∧ s.1 ≤ l.length ∧ (s.1 = 0 → s.2 = .slice none 0 0) ∧ w4.ownsRow w.heap.size 38 3 s.2 s.1 (((l.take s.1).map (mvW tos)).map Wd.row).flatten) (fun s => l.length - s.1) (0, .slice none 0 0) ?_ ?_ ?_
  · simp [sub, Env.get, argEnv]
  · exact ⟨Ext.refl _, Nat.zero_le _, fun _ => rfl, World.ownsRow_nil _ _ _ _⟩
  rintro ⟨i, va⟩ w4 ⟨he4, hi, hi0, hown⟩
  simp only at hi hi0 hown ⊢
  refine ok_seq (fun M hM => ok_region rfl ?_); (try revert X); refine t51 ?_; intro X hX
  refine hM _ _ _ ?_; clear hM M
  refine ok_seq (fun M1 hM1 => ?_)
  refine ok_if rfl (fun hc => ok_skip ?_) (fun hc => ok_exit ?_)
  rotate_left
  · try simp only [zW, zU, reduceIte, Nat.reduceEqDiff, Nat.reduceAdd, reduceCtorEq, Q51]
    refine hM0 _ _ _ ?_; clear hM0 M0 hM1 M1
    have hia : i = l.length := by omega
    subst hia
    rw [List.take_of_length_le (Nat.le_refl _)] at hown
    have hml : (l.map (mvW tos)).length = l.length := by simp
    obtain ⟨g, hWL, hg⟩ := WL.of_own (l := l.map (mvW tos)) (by rw [hml]; exact hown) (by rw [hml]; exact hll)
    refine ok_seq (fun M hM => ok_region rfl ?_); (try revert X); refine t51 ?_; intro X hX
    refine hM _ _ _ ?_; clear hM M
    refine ok_ret ?_
    try simp only [zW, zU, reduceIte, Nat.reduceEqDiff, Nat.reduceAdd, reduceCtorEq, Q51]
    obtain ⟨A9, c9, hv9, -⟩ := id hWL
    rw [hml] at hv9
    exact ⟨⟨A9, c9, hv9⟩, fun h => hi0 (by rw [h]; rfl), ⟨g, hWL, fun hne => (hown.lt g (hg (by simpa using hne))).1⟩, he4, hown⟩
  try simp only [zW, zU, reduceIte, Nat.reduceEqDiff, Nat.reduceAdd, reduceCtorEq, Q51]
  refine hM1 _ _ _ ?_; clear hM1 M1
  have hil : i < l.length := by omega
  have hxi : l[i]? = some l[i] := List.getElem?_eq_getElem hil
  have hxr := hlr _ (List.getElem_mem hil)
  have htk : l.take (i + 1) = l.take i ++ [l[i]] := List.take_succ_eq_append_getElem hil
  generalize l[i] = x at hxi hxr htk
  obtain ⟨bb, oo, rfl, hce⟩ := hcell i x.row (by rw [List.getElem?_map, hxi]; rfl)
  refine ok_seq (fun M1 hM1 => ok_block ?_)
  refine ok_seq (fun M hM => ok_region rfl ?_)
  (try revert X); refine t51 ?_; intro X hX
  refine ⟨by omega, by omega, ?_⟩
  (try revert X); refine t51 ?_; intro X hX
  refine ⟨x.row, rfl, he4.cellsAt hce, ?_⟩
  (try revert X); refine t51 ?_; intro X hX
  refine Runs.alloc Fx.zi38 (fun w5 he5 hs5 hb5 => ?_)
  generalize hB5 : w4.heap.size = B5 at hs5 hb5
  (try revert X); refine t51 ?_; intro X hX
  refine Runs.store hb5 Fx.zi38 rfl (by intro u hu; simp [Value.cells, Wd.row] at hu; rcases hu with rfl | rfl | rfl <;> rfl) (by simp [Value.cells]) (fun w6 hc6 hs6 hb6 => ?_)
  rw [splice_all _ _ (by simp [Value.cells])] at hb6
  simp only [Value.cells, Wd.row] at hb6
  have he46 : Ext w4 w6 := he5.chg_trans hc6 (fun i hi => by omega)
  have he6 := he4.trans he46
  (try revert X); refine t51 ?_; intro X hX
  refine hM _ _ _ ?_; clear hM M
  have hrn : x.r.toNat < tos.length := by omega
  have hgt : tos[x.r.toNat]? = some (tos.getD x.r.toNat 0) := by rw [List.getD_eq_getElem?_getD, List.getElem?_eq_getElem hrn]; rfl
  refine ok_seq (fun M hM => ok_region rfl ?_)
  (try revert X); refine t51 ?_; intro X hX
  refine ⟨_, he6.cell h6, ?_⟩
  (try revert X); refine t51 ?_; intro X hX
  refine ⟨_, hb6.cell (j := 2) rfl, ?_⟩
  (try revert X); refine t51 ?_; intro X hX
  refine ⟨by omega, by omega, ?_⟩
  (try revert X); refine t51 ?_; intro X hX
  refine ⟨_, by simpa [add_at] using (ht.ext he6).cell (ivs_get hgt), ?_⟩
  (try revert X); refine t51 ?_; intro X hX
  refine Runs.store hb6 Fx.zi3 rfl (by intro u hu; simp [Value.cells] at hu; subst hu; rfl) (by simp) (fun w7 hc7 hs7 hb7 => ?_)
  simp only [splice, Value.cells, List.take_succ_cons, List.take_zero, List.cons_append, List.nil_append, List.length_singleton, Nat.reduceAdd, List.drop_succ_cons, List.drop_zero, List.append_nil, List.drop_nil] at hb7
  have he47 : Ext w4 w7 := he46.chg_trans hc7 (fun i hi => by omega)
  (try revert X); refine t51 ?_; intro X hX
  refine hM _ _ _ ?_; clear hM M
  have hrow : (mvW tos x).row = [.int .i64 x.k, .int .i64 x.n, .int .i64 (tos.getD x.r.toNat 0)] := rfl
  refine ok_region rfl ?_
  (try revert X); refine t51 ?_; intro X hX
  refine ⟨_, rfl, hb7.cells (o := 0) (row := (mvW tos x).row) (fun j u hj => by simpa [hrow] using hj), ?_⟩
  (try revert X); refine t51 ?_; intro X hX
  refine Runs.lit (cs := (mvW tos x).row) Fx.un29 Fx.zi38 (by decide) (by kernel_rfl) (by decide) (fun w8 he8 hs8 hb8 => ?_)
  (try revert X); refine t51 ?_; intro X hX
  have he48 := he47.trans he8
  have hown8 := owns_chg' hown (he48.chg (fun _ => False)) (fun _ _ h => h)
  have hs48 := he48.size
  have hs4 := he4.size
  refine Runs.append1' Fx.un29 Fx.zi38 rfl (by decide) hown8 hb8 rfl (by intro u hu; simp [Wd.row] at hu; rcases hu with rfl | rfl | rfl <;> rfl) (by simp [maxLen]; omega) (by omega) (by omega) (fun v' w9 hown9 hg9 hblk => ?_)
  (try revert X); refine t51 ?_; intro X hX
  refine hM1 _ _ _ ?_; clear hM1 M1
  refine ok_region rfl ?_
  (try revert X); refine t51 ?_; intro X hX
  refine ⟨by simp only [inI]; omega, ?_⟩
  (try revert X); refine t51 ?_; intro X hX
  refine ⟨(i + 1, v'), by simp [sub, Env.get], ⟨?_, by omega, fun h => absurd h (by simp only; omega), ?_⟩, by omega⟩
  · exact (he4.trans he48).chg_trans (S := fun k => va.ownBlock = some k) ⟨hg9.os, hg9.tape, hg9.output, hg9.size, fun k hk hs => hg9.block k hk (fun e => hs e.symm)⟩ (fun k hk => (hown8.lt k hk).1)
  · simp only [htk, List.map_append, List.flatten_append]
    simpa using hown9
end Go.Proofs.YtldeokfhipjbfaaGreatDoor
/- Collect. -/
set_option linter.unusedVariables false
set_option linter.unusedSimpArgs false
namespace Go.Proofs.Vg
open Go Go.RowKit
def tosF (N : Nat) (Q : List Int) : Nat → List Int
  | 0 => List.replicate N 0
  | i + 1 => (tosF N Q i).set (Q.getD i 0).toNat ((i : Int) + 1)
theorem tosF_length (N : Nat) (Q : List Int) : ∀ i, (tosF N Q i).length = N
  | 0 => by simp [tosF]
  | i + 1 => by simp [tosF, tosF_length N Q i]
/-- The state of a collection's first loop. -/
structure CJ (w0 W : World) (n b0 b1 b2 c6 Bt c7 hb N : Nat) (rv : Value) (Q : List Int) (ptrs : List Value) (s : RS) : Prop where
  ext : Ext w0 W
  k0 : Blk W b0 [ptrOf hb] 25
  k1 : Blk W b1 [ptrOf hb] 25
  k2 : Blk W b2 [rv] 29
  k6 : Blk W c6 [.slice (some ⟨Bt, 0, none⟩) N N] 33
  kt : Blk W Bt (ivs (tosF N Q s.i)) 3
  kk : ∃ kv, Blk W c7 [kv] 67 ∧ W.ownsRow (n + 2) 103 1 kv s.i (ptrs.take s.i) ∧ ∀ k, kv.ownBlock = some k → ¬ s.own k
  si : s.i ≤ Q.length
  own : ∀ k, s.own k → n + 2 ≤ k ∧ k < W.heap.size
  snap : ∀ k, s.own k → W.heap[k]? = s.snap k
structure CN (w0 : World) (n b0 b1 b2 c6 Bt c7 : Nat) : Prop where
  h0 : w0.heap.size ≤ b0 ∧ b0 < n
  h1 : w0.heap.size ≤ b1 ∧ b1 < n
  h2 : w0.heap.size ≤ b2 ∧ b2 < n
  h6 : w0.heap.size ≤ c6 ∧ c6 < n
  ht : w0.heap.size ≤ Bt ∧ Bt < n
  h7 : w0.heap.size ≤ c7 ∧ c7 < n
  n67 : c6 ≠ c7 ∧ Bt ≠ c7 ∧ c6 ≠ Bt ∧ b0 ≠ c7 ∧ b1 ≠ c7 ∧ b2 ≠ c7 ∧ b0 ≠ Bt ∧ b1 ≠ Bt ∧ b2 ≠ Bt
theorem CJ.chg {w0 W W' : World} {n b0 b1 b2 c6 Bt c7 hb N : Nat} {rv : Value} {Q : List Int} {ptrs : List Value} {s s' : RS} {T : Nat → Prop} (hn : CN w0 n b0 b1 b2 c6 Bt c7) (h : CJ w0 W n b0 b1 b2 c6 Bt c7 hb N rv Q ptrs s) (hc : Chg T W W')
    (hT : ∀ k, T k → n ≤ k) (hkv : ∀ kv, W.ownsRow (n + 2) 103 1 kv s.i (ptrs.take s.i) → (∀ k, kv.ownBlock = some k → ¬ s.own k) → ∀ k, kv.ownBlock = some k → ¬ T k ∧ ¬ s'.own k) (hi : s'.i = s.i) (ho : ∀ k, s'.own k → n + 2 ≤ k ∧ k < W'.heap.size) (hsn : ∀ k, s'.own k → W'.heap[k]? = s'.snap k) : CJ w0 W' n b0 b1 b2 c6 Bt c7 hb N rv Q ptrs s' := by
  have hlow : ∀ k, k < n → ¬ T k := fun k hk ht => by have := hT k ht; omega
  obtain ⟨kv, k1, k2, k3⟩ := h.kk
  refine ⟨h.ext.chg_trans hc (fun k hk => by have := hT k hk; have := hn.h0; omega), h.k0.chg hc (hlow _ hn.h0.2), h.k1.chg hc (hlow _ hn.h1.2), h.k2.chg hc (hlow _ hn.h2.2), h.k6.chg hc (hlow _ hn.h6.2), ?_, ⟨kv, k1.chg hc (hlow _ hn.h7.2), ?_, fun k hk => (hkv kv k2 k3 k hk).2⟩, by rw [hi]; exact h.si, ho, hsn⟩
  · rw [hi]; exact h.kt.chg hc (hlow _ hn.ht.2)
  · rw [hi]; exact owns_chg' k2 hc (fun k hk => (hkv kv k2 k3 k hk).1)
theorem Off.chg' {n : Nat} {W W' : World} (h : Off n W W') : Chg (fun k => k = n ∨ k = n + 1) W W' := ⟨h.os, h.tape, h.output, by rw [h.size]; exact Nat.le_refl _, fun k hk hne => h.block k (fun e => hne (.inl e)) (fun e => hne (.inr e))⟩
theorem bfs_length {H : List Ob} (hW : Wf H) : ∀ (f : Nat) (sn : List Bool) (q : List Int) (i : Nat), Qok H.length sn q → (bfs H f sn q i).length ≤ unseen sn + q.length := by
  intro f
  induction f with
  | zero => intro sn q i h; simp only [bfs]; omega
  | succ f ih =>
    intro sn q i h
    simp only [bfs]
    split
    · omega
    · rename_i r hr
      have h1 := pushF_inv _ sn q (listO_mem hW r) h
      have h2 := ih _ _ (i + 1) h1.1
      have h3 := h1.2.2
      omega
theorem own_zero {w : World} {base e sz n : Nat} {v : Value} {xs : List Value} (h : w.ownsRow base e sz v n xs) : w.ownsRow 0 e sz v n xs := by
  refine ⟨h.1, ?_⟩
  rcases h.2 with hn | ⟨g, cap, cur, hv, hb, rest⟩
  · exact .inl hn
  · exact .inr ⟨g, cap, cur, hv, Nat.zero_le _, rest⟩
theorem nodup_pick {ps : List Nat} (h : ps.Nodup) {Q : List Int} (hQ : Q.Nodup) (hr : ∀ r ∈ Q, 1 ≤ r ∧ r ≤ (ps.length : Int)) : (Q.map fun r => ps.getD (r - 1).toNat 0).Nodup := by
  refine List.pairwise_map.2 (hQ.imp_of_mem fun {a b} ha hb hne e => ?_)
  have h1 := hr a ha
  have h2 := hr b hb
  rw [List.getD_eq_getElem?_getD, List.getD_eq_getElem?_getD, List.getElem?_eq_getElem (by omega : (a - 1).toNat < ps.length), List.getElem?_eq_getElem (by omega : (b - 1).toNat < ps.length)] at e
  have := (List.getElem_inj h).1 (by simpa using e)
  omega
theorem HeapR.hbps {w : World} {hb rb : Nat} {vs : Value} {ps gs : List Nat} {H : List Ob} (h : HeapR w hb rb vs ps gs H) : hb ∉ ps := h.ap.1.1
theorem HeapR.gnp {w : World} {hb rb : Nat} {vs : Value} {ps gs : List Nat} {H : List Ob} (h : HeapR w hb rb vs ps gs H) {i p g : Nat} {o : Ob} (hp : ps[i]? = some p) (hg : gs[i]? = some g) (ho : H[i]? = some o) (hne : o.list ≠ []) : g ∉ ps := by
  intro hm
  obtain ⟨j, hj⟩ := List.mem_iff_getElem?.1 hm
  have hjl := (List.getElem?_eq_some_iff.1 hj).1
  have ho2 : H[j]? = some (H[j]'(by rw [← h.lenp]; exact hjl)) := List.getElem?_eq_getElem _
  obtain ⟨p2, g2, h1, h2, hob⟩ := h.at_ ho2
  rw [hj] at h1; cases h1
  have h72 : ∃ cs, Blk w g cs 108 := by
    revert hob
    generalize (H[j]'(by rw [← h.lenp]; exact hjl)) = o2
    intro hob
    cases o2 with
    | text s => exact ⟨_, hob⟩
    | words s l => obtain ⟨lv, h1, _⟩ := hob; exact ⟨_, h1⟩
  obtain ⟨cs, h72⟩ := h72
  have hob' := h.obj i p g o hp hg ho
  cases o with
  | text s => exact hne rfl
  | words s l =>
    obtain ⟨lv, _, A, c, _, _, _, h5⟩ := hob'
    obtain ⟨_, cs2, h31, _⟩ := h5 hne
    unfold Blk at h72 h31
    rw [h72] at h31
    injection h31 with h31
    injection h31 with _ h31 _
    cases h31
/-- Grown, and a list of words that lies outside. -/
def GrownS (w w' : World) (hb rb : Nat) (H2 : List Ob) (F : Nat → Prop) (v : Value) (l : List Wd) : Prop :=
  Chg F w w' ∧ ∃ F', HeapW w' hb rb H2 F' ∧ (∀ k, F' k → F k ∨ (w.heap.size ≤ k ∧ k < w'.heap.size)) ∧ (∃ g, WL w' g v l ∧ (l ≠ [] → w.heap.size ≤ g ∧ ¬ F' g)) ∧ w'.ownsRow 0 38 3 v l.length (l.map Wd.row).flatten ∧ ∀ k, v.ownBlock = some k → w.heap.size ≤ k ∧ ¬ F' k
theorem GrownS.grown {w w' : World} {hb rb : Nat} {H2 : List Ob} {F : Nat → Prop} {v : Value} {l : List Wd} (h : GrownS w w' hb rb H2 F v l) : Grown w w' hb rb H2 F := by
  obtain ⟨h1, F', h2, h3, -⟩ := h
  exact ⟨h1, F', h2, h3⟩
/-- The second loop of a collection: the words of the kept objects are renamed. -/
structure CL (w W W' : World) (ps : List Nat) (H : List Ob) (Q tos : List Int) (ps2 gs2 : List Nat) (mv : Option Ob → Ob) (j : Nat) : Prop where
  c : Chg (· ∈ ps) w W'
  keep : ∀ k, w.heap.size ≤ k → k < W.heap.size → W'.heap[k]? = W.heap[k]?
  sz : W.heap.size ≤ W'.heap.size
  raw : ∀ p, p ∈ ps → p ∉ ps2.take j → W'.heap[p]? = w.heap[p]?
  len : gs2.length = j
  nd : gs2.Nodup
  done : ∀ (t p g : Nat) (r : Int), t < j → ps2[t]? = some p → gs2[t]? = some g → Q[t]? = some r → ObW W' p g (mv (objAt H r))
  gs : ∀ (t p g : Nat), ps2[t]? = some p → gs2[t]? = some g → (g = p ∨ W.heap.size ≤ g) ∧ g < W'.heap.size
def moveO (tos : List Int) : Option Ob → Ob
  | some (.words s l) => .words s (l.map fun x => ⟨x.k, x.n, tos.getD x.r.toNat 0⟩)
  | some (.text s) => .text s
  | none => .text ⟨#[]⟩
end Go.Proofs.Vg
namespace Go.Proofs.YtldeokfhipjbfaaGreatDoor
open Go Go.Proofs.Vg Go.RowKit
def collQ (H : List Ob) (roots : List Wd) : List Int := bfsQ H roots
def collT (H : List Ob) (roots : List Wd) : List Int := tosF (H.length + 1) (collQ H roots) (collQ H roots).length
def collH (H : List Ob) (roots : List Wd) : List Ob := (collQ H roots).map fun r => moveO (collT H roots) (objAt H r)

-- -- function 15
set_option maxHeartbeats 4000000 in
set_option maxRecDepth 8000 in
theorem collect_ok (w : World) (hb rb : Nat) (H : List Ob) (F : Nat → Prop) (hH : HeapW w hb rb H F) (hF : ∀ k, F k → k < w.heap.size) (hl : H.length ≤ 1048576) (hW : Wf H) (rv : Value) (roots : List Wd) (hrsT : ∀ W', Chg F w W' → SlW W' rv roots) (hrl : roots.length ≤ 1073741824) :
    Rets Tryz.prog 15 [ptrOf hb, rv] w (fun v w' => (roots.any (fun x => !rightW H x) = true → v = .tuple #[.slice none 0 0, .int .i64 2] ∧ Grown w w' hb rb H F) ∧
      (roots.any (fun x => !rightW H x) = false → ∃ A c, v = .tuple #[.slice A roots.length c, .int .i64 0] ∧ GrownS w w' hb rb (collH H roots) F (.slice A roots.length c) (roots.map (mvW (collT H roots))))) := by
  have hrs : SlW w rv roots := hrsT w (Chg.refl _ _)
  obtain ⟨A, c, hrv, hlen, hcell⟩ := id hrs
  rw [wd_len] at hrv hlen
  subst hrv
  refine rets_of_okM Tryz.func15 rfl rfl ?_
  refine ok_seq (fun M hM => ok_region rfl ?_)
  (try revert X); refine t15 ?_; intro X hX
  refine Runs.box (fun w1 he1 hz1 hb1 => ?_)
  generalize hB0 : w.heap.size = b0 at hz1 hb1
  simp only [Value.cells] at hb1
  (try revert X); refine t15 ?_; intro X hX
  refine hM _ _ _ ?_; clear hM M
  refine ok_join [(1, .slice A roots.length c), (2, ptrOf b0)] (fun w' => Ext w1 w' ∧ roots.any (fun x => !rightW H x) = false) ?_ ?_
  · refine ok_block ?_
    refine ok_seq (fun M hM => ok_region rfl ?_)
    (try revert X); refine t15 ?_; intro X hX
    refine ⟨_, hb1.cell (j := 0) rfl, ?_⟩
    (try revert X); refine t15 ?_; intro X hX
    refine Runs.ptrEq Fx.un25 ?_
    (try revert X); refine t15 ?_; intro X hX
    refine hM _ _ _ ?_; clear hM M
    refine ok_cond rfl (fun h => by cases h) (fun _ => ?_)
    refine ok_seq (fun M hM => ok_region rfl ?_)
    (try revert X); refine t15 ?_; intro X hX
    refine Inv.call Fx.en47 (containsW_ok w1 A roots.length c _ hlen
      (fun i w4 => Ext w1 w4 ∧ ∀ (j : Nat) (x : Wd), j < i → roots[j]? = some x → rightW H x = true)
      (fun w4 => Ext w1 w4 ∧ roots.any (fun x => !rightW H x) = true) ⟨Ext.refl _, fun j x h => absurd h (Nat.not_lt_zero _)⟩ ?_) ?_
    · rintro i w4 hil ⟨he4, hall⟩
      have hxi : roots[i]? = some roots[i] := List.getElem?_eq_getElem hil
      obtain ⟨b, o, hA, hcc⟩ := hcell i roots[i].row (by rw [List.getElem?_map, hxi]; rfl)
      refine ⟨roots[i].row, rfl, ⟨b, o, hA, (he1.trans he4).cellsAt hcc⟩, Inv.clos (cap := [ptrOf b0]) Fx.en50 (collect1_ok w4 hb rb H F (hH.ext (he1.trans he4)) (by omega) roots[i] b0 (he4.cell (hb1.cell (j := 0) rfl))) ?_⟩
      rintro v w5 ⟨rfl, he5⟩
      refine ⟨_, rfl, fun hb => ⟨he4.trans he5, List.any_eq_true.2 ⟨_, List.getElem_mem hil, hb⟩⟩, fun hb => ⟨he4.trans he5, fun j x hj hx => ?_⟩⟩
      rcases Nat.lt_or_ge j i with h | h
      · exact hall j x h hx
      · have : j = i := by omega
        subst this
        rw [hxi] at hx
        cases hx
        simpa using hb
    rintro v w4 ⟨b, rfl, hbt, hbf⟩
    (try revert X); refine t15 ?_; intro X hX
    refine hM _ _ _ ?_; clear hM M
    cases b with
    | true =>
      obtain ⟨he4, hany⟩ := hbt rfl
      refine ok_cond rfl (fun _ => ?_) (fun h => by cases h)
      refine ok_seq (fun M hM => ok_region rfl ?_); (try revert X); refine t15 ?_; intro X hX
      refine hM _ _ _ ?_; clear hM M
      refine ok_ret ?_
      refine .inl ⟨rfl, ?_⟩
      try simp only [zW, zU, reduceIte, Nat.reduceEqDiff, Nat.reduceAdd, reduceCtorEq, Q15]
      exact ⟨fun _ => Grown.ext hH (he1.trans he4), fun h => by rw [hany] at h; cases h⟩
    | false =>
      obtain ⟨he4, hall⟩ := hbf rfl
      refine ok_cond rfl (fun h => by cases h) (fun _ => ok_skip ?_)
      try simp only [zW, zU, reduceIte, Nat.reduceEqDiff, Nat.reduceAdd, reduceCtorEq, Q15]
      refine ⟨by simp [sub, Env.get], he4, ?_⟩
      rw [List.any_eq_false]
      intro x hx hb
      obtain ⟨j, hj⟩ := List.mem_iff_getElem?.1 hx
      rw [hall j x (List.getElem?_eq_some_iff.1 hj).1 hj] at hb
      cases hb
  rintro w2 ⟨he2, hany⟩
  rw [hany]
  have he02 := he1.trans he2
  have hrall : ∀ x ∈ roots, 0 ≤ x.r ∧ x.r ≤ (H.length : Int) := fun x hx => right_ref (by
    have := List.any_eq_false.1 hany x hx
    simpa using this)
  obtain ⟨vs, ps, gs, hR0, hf, hrb⟩ := id hH
  obtain ⟨Av, cv, hvs, hvlen, hvcell⟩ := hR0.sli (by omega)
  have hL : (ps.map fun p => [ptrOf p]).length = H.length := by simp [hR0.lenp]
  rw [hL] at hvs
  have hhead : w.cell? ⟨hb, 0, none⟩ = some (.slice Av H.length cv) := by
    have hq := hR0.head.cell (j := 0) (u := vs) rfl
    rw [hvs] at hq
    exact hq
  have hb02 := hb1.ext he2
  have hs02 := he02.size
  refine ok_seq (fun M hM => ok_region rfl ?_)
  (try revert X); refine t15 ?_; intro X hX
  refine ⟨_, hb02.cell (j := 0) rfl, ?_⟩
  (try revert X); refine t15 ?_; intro X hX
  refine ⟨_, he02.cell hhead, ?_⟩
  (try revert X); refine t15 ?_; intro X hX
  refine ⟨by simp only [inI]; omega, ?_⟩
  (try revert X); refine t15 ?_; intro X hX
  refine Runs.make1 Fx.un33 Fx.zi3 rfl (by omega) (by omega) (by omega) (fun w3 he3 hz3 hb3 => ?_)
  generalize hBt : w2.heap.size = Bt at hz3 hb3
  have hto : ((H.length : Int) + 1).toNat = H.length + 1 := by omega
  rw [hto] at hb3 ⊢
  (try revert X); refine t15 ?_; intro X hX
  refine Runs.alloc Fx.zi33 (fun w4 he4 hz4 hb4 => ?_)
  generalize hC6 : w3.heap.size = c6 at hz4 hb4
  simp only [Value.cells] at hb4
  (try revert X); refine t15 ?_; intro X hX
  refine Runs.store hb4 Fx.zi33 rfl (by intro u hu; simp [Value.cells] at hu; subst hu; rfl) (by simp) (fun w5 hc5 hz5 hb5 => ?_)
  rw [splice_all _ _ (by simp [Value.cells])] at hb5
  simp only [Value.cells] at hb5
  (try revert X); refine t15 ?_; intro X hX
  refine hM _ _ _ ?_; clear hM M
  refine ok_seq (fun M hM => ok_region rfl ?_)
  (try revert X); refine t15 ?_; intro X hX
  refine Runs.alloc Fx.zi67 (fun w6 he6 hz6 hb6 => ?_)
  generalize hC7 : w5.heap.size = c7 at hz6 hb6
  simp only [Value.cells] at hb6
  have he06 : Ext w w6 := ((he02.trans (he3.trans he4)).chg_trans hc5 (fun k hk => by omega)).trans he6
  have hb06 : Blk w6 b0 [ptrOf hb] 25 := (((hb02.ext he3).ext he4).chg hc5 (by omega)).ext he6
  (try revert X); refine t15 ?_; intro X hX
  refine hM _ _ _ ?_; clear hM M
  refine ok_seq (fun M0 hM0 => ?_)
  refine ok_seq (fun M hM => ok_region rfl ?_)
  (try revert X); refine t15 ?_; intro X hX
  refine ⟨_, hb06.cell (j := 0) rfl, ?_⟩
  (try revert X); refine t15 ?_; intro X hX
  refine Inv.call Fx.en49 (reached_ok w6 hb (.slice A roots.length c) rfl) ?_
  rintro v w7 ⟨rfl, hk1, hk2, he7⟩
  (try revert X); refine t15 ?_; intro X hX
  refine hM _ _ _ ?_; clear hM M
  have hs7 : w6.heap.size + 1 < w7.heap.size := hk2.lt
  have he07 := he06.trans he7
  have hs12 := he2.size
  have hs67 := he7.size
  have hn : CN w w7.heap.size b0 w6.heap.size (w6.heap.size + 1) c6 Bt c7 := ⟨by omega, by omega, by omega, by omega, by omega, by omega, by omega⟩
  have hk6 : Blk w7 c6 [.slice (some ⟨Bt, 0, none⟩) (H.length + 1) (H.length + 1)] 33 := (hb5.ext he6).ext he7
  have hkt : Blk w7 Bt (ivs (tosF (H.length + 1) (collQ H roots) 0)) 3 := by
    have : Blk w7 Bt _ 3 := (((hb3.ext he4).chg hc5 (by omega)).ext he6).ext he7
    simpa [ivs, tosF] using this
  have hFoot : ∀ k, Foot hb vs ps gs k → k < w.heap.size := fun k hk => (hf k hk).2
  have hrbs := hR0.rules.lt
  generalize hptr : (collQ H roots).map (fun r => ptrOf (ps.getD (r - 1).toNat 0)) = ptrs
  have hpl : ptrs.length = (collQ H roots).length := by rw [← hptr]; simp
  have hbq := bfs_prefix hW (H.length + 1) _ _ 0 (pushF_inv (n := H.length) roots _ [] hrall (Qok.nil _)).1
  have hQr : ∀ r ∈ collQ H roots, 1 ≤ r ∧ r ≤ (H.length : Int) := hbq.2.1
  have hQn : (collQ H roots).Nodup := hbq.2.2
  clear hbq
  generalize hN : w7.heap.size = n at hn
  have hJHF : ∀ s W, CJ w W n b0 w6.heap.size (w6.heap.size + 1) c6 Bt c7 hb (H.length + 1) (.slice A roots.length c) (collQ H roots) ptrs s → HF W s w6.heap.size (w6.heap.size + 1) hb rb vs ps gs H (.slice A roots.length c) roots := fun s W h =>
    ⟨hR0.ext h.ext, h.k1.cell rfl, h.k2.cell rfl, hrs.ext h.ext, h.snap, fun k hk ho => by have := hFoot k hk; have := h.own k ho; omega⟩
  have hst : ∀ s W W', Off n W W' → CJ w W n b0 w6.heap.size (w6.heap.size + 1) c6 Bt c7 hb (H.length + 1) (.slice A roots.length c) (collQ H roots) ptrs s → CJ w W' n b0 w6.heap.size (w6.heap.size + 1) c6 Bt c7 hb (H.length + 1) (.slice A roots.length c) (collQ H roots) ptrs s := by
    rintro s W W' ho h
    refine h.chg hn ho.chg' (fun k hk => by omega) (fun kv hown hnk k hk => ⟨fun h => ?_, hnk k hk⟩) rfl (fun k hk => by rw [ho.size]; exact h.own k hk) (fun k hk => ?_)
    · have := (hown.lt k hk).1; omega
    · have := h.own k hk
      rw [ho.block k (by omega) (by omega)]
      exact h.snap k hk
  refine ok_block ?_
  refine ok_rangeG (S := RS) (cap := [ptrOf w6.heap.size, ptrOf (w6.heap.size + 1)])
    (fun s W => CJ w W n b0 w6.heap.size (w6.heap.size + 1) c6 Bt c7 hb (H.length + 1) (.slice A roots.length c) (collQ H roots) ptrs s) (fun _ _ => False) ⟨0, fun _ => False, fun _ => none⟩
    (fun s => [.int .i64 ((collQ H roots).getD s.i 0)]) (fun s => s.i < (collQ H roots).length) (fun s => s.i = (collQ H roots).length) (fun s s' => s' = ⟨s.i + 1, s.own, s.snap⟩) GenR
    rfl Fx.en88 (by decide) (fun s _ => rfl) ?_ (fun _ _ _ _ h => h) ?_ ?_ ?_ ?_ ?_ (fun _ h => h.elim) (fun _ _ h => h.elim)
  · rw [hN]; exact hst
  · rintro s W s' W' hsz hg h
    rw [hN] at hsz ⊢
    have hso : ∀ k, s'.own k → n + 2 ≤ k ∧ k < W'.heap.size := fun k hk => by
      refine ⟨?_, (hg.new k hk).2⟩
      rcases (hg.new k hk).1 with h1 | h1
      · exact (h.own k h1).1
      · omega
    refine ⟨Keep.chg hg.chg (by omega) (fun ho => by have := h.own n ho; omega) (fun ho => by have := h.own (n + 1) ho; omega), h.chg hn hg.chg (fun k hk => by have := h.own k hk; omega) (fun kv hown hnk k hk => ⟨hnk k hk, fun h' => ?_⟩) hg.i hso (fun k hk => by rw [hg.snap])⟩
    rcases (hg.new k h').1 with h1 | h1
    · exact hnk k hk h1
    · have := (hown.lt k hk).2; omega
  · intro W he hsz
    exact ⟨he07.trans he, ((hb06.ext he7).ext he), hk1.ext he, hk2.ext he, hk6.ext he, hkt.ext he, ⟨.slice none 0 0, (hb6.ext he7).ext he, World.ownsRow_nil _ _ _ _, fun k hk => by simp [Value.ownBlock] at hk⟩, Nat.zero_le _, fun k h => h.elim, fun k h => h.elim⟩
  · -- one round
    rintro s W hmore h hsz
    rw [hN] at hsz ⊢
    simp only [bindE]
    have hri : (collQ H roots)[s.i]? = some ((collQ H roots).getD s.i 0) := by rw [List.getD_eq_getElem?_getD, List.getElem?_eq_getElem hmore]; rfl
    have hrr := hQr _ (List.mem_of_getElem? hri)
    generalize hr0 : (collQ H roots).getD s.i 0 = r at hri hrr
    refine ok_region rfl ?_
    (try revert X); refine t15 ?_; intro X hX
    refine ⟨Keep.refl _ _, fun W2 ho => ?_⟩
    have h2 := hst s W W2 ho h
    have hsz2 : n + 1 < W2.heap.size := by rw [ho.size]; exact hsz
    clear h ho hsz
    obtain ⟨i, o, hio, hi, hoi, hoo⟩ := objAt_in (H := H) (r := r) hrr.1 hrr.2
    have hRW := hR0.ext h2.ext
    obtain ⟨p, g, hp, hg, hob⟩ := hRW.at_ hoi
    obtain ⟨Av2, cv2, hvs2, -, hvcell2⟩ := hRW.sli (by omega)
    rw [hL, hvs] at hvs2
    injection hvs2 with hA2 _ hc2
    subst hA2
    obtain ⟨bb, oo, rfl, hcc⟩ := hvcell2 i [ptrOf p] (by rw [List.getElem?_map, hp]; rfl)
    have hcc0 := hcc 0 _ rfl
    have hhead2 := h2.ext.cell hhead
    have hptri : ptrs[s.i]? = some (ptrOf p) := by
      rw [← hptr, List.getElem?_map, hri]
      have : (r - 1).toNat = i := by omega
      have hpi : ps.getD i 0 = p := by rw [List.getD_eq_getElem?_getD, hp]; rfl
      simp only [Option.map_some]
      rw [this, hpi]
    have hsl : s.i < ptrs.length := by rw [hpl]; exact hmore
    have hptk : ptrs.take (s.i + 1) = ptrs.take s.i ++ [ptrOf p] := by
      rw [List.take_succ_eq_append_getElem hsl]
      rw [List.getElem?_eq_getElem hsl] at hptri
      rw [Option.some.inj hptri]
    have hql : (collQ H roots).length ≤ 1048577 := by
      have hu := (pushF_inv (n := H.length) roots _ [] hrall (Qok.nil _))
      have hb := bfs_length hW (H.length + 1) _ _ 0 hu.1
      have hu2 := hu.2.2
      rw [unseen_rep] at hu2
      simp only [List.length_nil] at hu2
      have : (collQ H roots).length ≤ H.length + 1 := by unfold collQ bfsQ; omega
      omega
    obtain ⟨kv, hkv, hown, hnk⟩ := h2.kk
    have e5 : (r - 1).toNat = i := by omega
    refine ok_block ?_
    refine ok_seq (fun M hM => ok_draw 9 [(true, false), (false, true), (false, true)] (Ext _) Fx.mixed (by decide) rfl (by decide +kernel) (by decide +kernel) (Ext.drew _) ?_); (try revert X); refine t15 ?_; intro X hX
    refine ⟨_, fun w' h => h.cell (hkv.cell (j := 0) rfl), ?_⟩
    (try revert X); refine t15 ?_; intro X hX
    refine ⟨_, fun w' h => h.cell (h2.k0.cell (j := 0) rfl), ?_⟩
    (try revert X); refine t15 ?_; intro X hX
    refine ⟨_, fun w' h => h.cell hhead2, ?_⟩
    (try revert X); refine t15 ?_; intro X hX
    refine ⟨by simp only [inI]; omega, ?_⟩
    (try revert X); refine t15 ?_; intro X hX
    refine ⟨by omega, by omega, ?_⟩
    (try revert X); refine t15 ?_; intro X hX
    refine ⟨_, fun w' h => h.cell (by rw [e5]; simpa [add_at] using hcc0), ?_⟩
    (try revert X); refine t15 ?_; intro X hX
    intro w10 he10
    (try revert X); refine t15 ?_; intro X hX
    refine Runs.lit (cs := [ptrOf p]) Fx.un67 Fx.zi103 (by decide) (by kernel_rfl) (by decide) (fun w11 he11 hs11 hb11 => ?_)
    refine ⟨he10.trans he11, ?_⟩
    (try revert X); refine t15 ?_; intro X hX
    have he211 := he10.trans he11
    have hs211 := he211.size
    have hown11 := owns_chg' hown (he211.chg (fun _ => False)) (fun _ _ h => h)
    refine Runs.append1' Fx.un67 Fx.zi103 rfl (by decide) hown11 hb11 rfl (by intro u hu; simp at hu; subst hu; rfl) (by simp [maxLen]; omega) (by omega) (by omega) (fun v' w12 hown12 hg12 hblk => ?_)
    obtain ⟨g', cap, hvn⟩ : ∃ g' cap, v' = .slice (some ⟨g', 0, none⟩) (s.i + 1) cap := by
      rcases hown12.2 with ⟨-, h0⟩ | ⟨g', cap, cur, h1, _⟩
      · omega
      · exact ⟨g', cap, h1⟩
    subst hvn
    have hc12 : Chg (fun k => kv.ownBlock = some k) w11 w12 := ⟨hg12.os, hg12.tape, hg12.output, hg12.size, fun k hk hs => hg12.block k hk (fun e => hs e.symm)⟩
    have hkvn : ∀ k, k < n + 2 → ¬ kv.ownBlock = some k := fun k hk h => by have := (hown.lt k h).1; omega
    have hnn := hn
    obtain ⟨⟨_, n0⟩, ⟨_, n1⟩, ⟨_, n2⟩, ⟨_, n6⟩, ⟨_, nt⟩, ⟨_, n7⟩, nne⟩ := hnn
    have hkv12 : Blk w12 c7 [kv] 67 := (hkv.ext he211).chg hc12 (hkvn c7 (by omega))
    (try revert X); refine t15 ?_; intro X hX
    refine Runs.store hkv12 Fx.zi67 rfl (by intro u hu; simp [Value.cells] at hu; subst hu; rfl) (by simp) (fun w13 hc13 hs13 hb13 => ?_)
    rw [splice_all _ _ (by simp [Value.cells])] at hb13
    simp only [Value.cells] at hb13
    have hs12' := hc12.size
    have hk6' : Blk w13 c6 _ 33 := ((h2.k6.ext he211).chg hc12 (hkvn c6 (by omega))).chg hc13 nne.1
    have hkt' : Blk w13 Bt _ 3 := ((h2.kt.ext he211).chg hc12 (hkvn Bt (by omega))).chg hc13 nne.2.1
    (try revert X); refine t15 ?_; intro X hX
    refine hM _ _ _ ?_; clear hM M
    refine ok_region rfl ?_
    (try revert X); refine t15 ?_; intro X hX
    refine ⟨_, hk6'.cell (j := 0) rfl, ?_⟩
    (try revert X); refine t15 ?_; intro X hX
    refine ⟨_, hb13.cell (j := 0) rfl, ?_⟩
    (try revert X); refine t15 ?_; intro X hX
    refine ⟨by omega, by omega, ?_⟩
    (try revert X); refine t15 ?_; intro X hX
    simp only [Nat.zero_add]
    refine Runs.store (b := Bt) (o := r.toNat) (v := .int .i64 ((s.i + 1 : Nat) : Int)) hkt' Fx.zi3 rfl (by intro u hu; simp [Value.cells] at hu; subst hu; rfl) (by simp [ivs, tosF_length]; omega) (fun w14 hc14 hs14 hb14 => ?_)
    rw [show (Value.cells (.int .i64 ((s.i + 1 : Nat) : Int))).toList = [Value.int .i64 ((s.i + 1 : Nat) : Int)] from rfl, ivs_set _ _ _ (by rw [tosF_length]; omega)] at hb14
    (try revert X); refine t15 ?_; intro X hX
    have hcA : Chg (fun k => kv.ownBlock = some k ∨ k = c7 ∨ k = Bt) W2 w14 := (he211.chg _).trans ((hc12.mono fun k _ h => .inl h).trans ((hc13.mono fun k _ h => .inr (.inl h)).trans (hc14.mono fun k _ h => .inr (.inr h))))
    have hlow : ∀ k, k < n + 2 → k ≠ c7 → k ≠ Bt → ¬ (kv.ownBlock = some k ∨ k = c7 ∨ k = Bt) := fun k hk h1 h2' h => by
      rcases h with h | h | h
      · exact hkvn k hk h
      · exact h1 h
      · exact h2' h
    refine ⟨Keep.chg hcA hsz2 (hlow n (by omega) (by omega) (by omega)) (hlow (n + 1) (by omega) (by omega) (by omega)), ⟨s.i + 1, s.own, s.snap⟩, rfl, ?_⟩
    refine ⟨?_, h2.k0.chg hcA (hlow _ (by omega) (by omega) (by omega)), h2.k1.chg hcA (hlow _ (by omega) (by omega) (by omega)), h2.k2.chg hcA (hlow _ (by omega) (by omega) (by omega)), h2.k6.chg hcA (hlow _ (by omega) (by omega) (by omega)), ?_, ⟨_, hb13.chg hc14 (by omega), ?_, ?_⟩, by simp only; omega, fun k hk => ⟨(h2.own k hk).1, Nat.lt_of_lt_of_le (h2.own k hk).2 hcA.size⟩, fun k hk => ?_⟩
    · refine h2.ext.chg_trans hcA (fun k hk => ?_)
      have h00 := hn.h7.1
      have h01 := hn.ht.1
      rcases hk with hk | hk | hk
      · have := (hown.lt k hk).1; have := h2.ext.size; omega
      · omega
      · omega
    · simp only [tosF, hr0]
      exact_mod_cast hb14
    · simp only [hptk]
      exact owns_chg' (owns_chg' hown12 hc13 (fun k hk h => by have := (hown12.lt k hk).1; omega)) hc14 (fun k hk h => by have := (hown12.lt k hk).1; omega)
    · intro k hk ho
      rcases hblk with h' | h'
      · rw [h'] at hk; exact hnk k hk ho
      · rw [h'] at hk; cases hk
        have := (h2.own _ ho).2
        omega
    · have h3 := h2.own k hk
      rw [hcA.block k h3.2 (fun h => by
        rcases h with h | h | h
        · exact hnk k h hk
        · omega
        · omega)]
      exact h2.snap k hk
  · -- the iterator
    intro J' Jx' W hm hJ h0 hy
    rw [hN] at hy ⊢
    refine Rets.mono (reached1_ok (J' := J') (Jx' := Jx') W (n + 1) w6.heap.size (w6.heap.size + 1) hb rb vs ps gs H (.slice A roots.length c) roots hl hW hrall hrl (fun s W hj => hJHF s W (hJ s W hj).1) hm h0 ?_) ?_
    · intro s W r hr hj
      have hlt : s.i < (collQ H roots).length := (List.getElem?_eq_some_iff.1 hr).1
      have hg : (collQ H roots).getD s.i 0 = r := by rw [List.getD_eq_getElem?_getD]; rw [show (collQ H roots)[s.i]? = some r from hr]; rfl
      have := hy s W hlt hj
      rw [hg] at this
      obtain ⟨fn, tmps, assign, body, h1, h2⟩ := this
      refine ⟨fn, tmps, assign, body, h1, RoundIn.mono h2 ?_⟩
      rintro e W' ⟨b, rfl, hb⟩
      refine ⟨b, rfl, ?_⟩
      rcases hb with ⟨rfl, s', rfl, hj'⟩ | hb
      · exact .inl ⟨rfl, hj'⟩
      · exact .inr hb
    · rintro v W' (⟨s, h1, h2⟩ | h)
      · exact .inl ⟨s, h1, h2⟩
      · exact .inr h
  · -- behind the range
    rintro s W hfin h hd
    rw [hN] at hd ⊢
    try simp only [zW, zU, reduceIte, Nat.reduceEqDiff, Nat.reduceAdd, reduceCtorEq, Q15]
    refine hM0 _ _ _ ?_; clear hM0 M0
    obtain ⟨kv, hkv, hown, -⟩ := h.kk
    rw [hfin] at hown
    rw [List.take_of_length_le (by omega)] at hown
    have hcT : tosF (H.length + 1) (collQ H roots) s.i = collT H roots := by rw [hfin]; rfl
    have hkt' := h.kt
    rw [hcT] at hkt'
    have hk6' := h.k6
    have hk0' := h.k0
    have hext := h.ext
    have hsW := hext.size
    clear h
    have hTl : (collT H roots).length = H.length + 1 := tosF_length _ _ _
    have hnW : n < W.heap.size := (Array.getElem?_eq_some_iff.1 hd).1
    generalize hm : (collQ H roots).length = m at *
    have hml : m ≤ H.length + 1 := by
      have hu := (pushF_inv (n := H.length) roots _ [] hrall (Qok.nil _))
      have hb := bfs_length hW (H.length + 1) _ _ 0 hu.1
      have hu2 := hu.2.2
      rw [unseen_rep] at hu2
      simp only [List.length_nil] at hu2
      have : (collQ H roots).length ≤ H.length + 1 := by unfold collQ bfsQ; omega
      omega
    have hps2 : ptrs = ((collQ H roots).map fun r => ps.getD (r - 1).toNat 0).map ptrOf := by rw [← hptr]; simp
    have hps2n := nodup_pick hR0.ndp hQn (by rw [hR0.lenp]; exact hQr)
    have hps2l : ((collQ H roots).map fun r => ps.getD (r - 1).toNat 0).length = m := by simp [hm]
    have hps2m : ∀ p ∈ ((collQ H roots).map fun r => ps.getD (r - 1).toNat 0), p ∈ ps := by
      intro p hp
      obtain ⟨r, hr, rfl⟩ := List.mem_map.1 hp
      have := hQr r hr
      rw [List.getD_eq_getElem?_getD, List.getElem?_eq_getElem (by rw [hR0.lenp]; omega : (r - 1).toNat < ps.length)]
      exact List.getElem_mem _
    have hps2g : ∀ (j : Nat) (r : Int), (collQ H roots)[j]? = some r → ∃ (i p g : Nat) (o : Ob), objAt H r = some o ∧ H[i]? = some o ∧ ps[i]? = some p ∧ gs[i]? = some g ∧ ((collQ H roots).map fun r => ps.getD (r - 1).toNat 0)[j]? = some p := by
      intro j r hr
      have h1 := hQr r (List.mem_of_getElem? hr)
      obtain ⟨i, o, hio, hi, ho, hoo⟩ := objAt_in (H := H) (r := r) h1.1 h1.2
      obtain ⟨p, g, hp, hg, -⟩ := hR0.at_ ho
      refine ⟨i, p, g, o, hoo, ho, hp, hg, ?_⟩
      rw [List.getElem?_map, hr]
      have e : (r - 1).toNat = i := by omega
      simp only [Option.map_some]
      rw [e, List.getD_eq_getElem?_getD, hp]; rfl
    generalize hP2 : ((collQ H roots).map fun r => ps.getD (r - 1).toNat 0) = ps2 at *
    have hpsl : ∀ p ∈ ps, p < w.heap.size := fun p hp => hFoot p (.inr (.inr (.inl hp)))
    obtain ⟨kA, kc, hkvs⟩ : ∃ kA kc, kv = .slice kA m kc := by
      rcases hown.2 with ⟨h1, h2⟩ | ⟨g', cap, cur, h1, _⟩
      · exact ⟨none, 0, by rw [h1, h2]⟩
      · exact ⟨_, _, h1⟩
    have hkvS : Sli W 1 kv (ps2.map fun p => [ptrOf p]) := Sli.of_own hown (by rw [hps2]; exact flat_ptr ps2) (by simp) (by simp [hps2l]) (by omega)
    subst hkvs
    obtain ⟨kA', kc', hke, -, hkcell⟩ := hkvS
    injection hke with hke1 _ _
    subst hke1
    have hnn := hn
    obtain ⟨⟨l0, n0⟩, ⟨_, n1⟩, ⟨_, n2⟩, ⟨l6, n6⟩, ⟨lt, nt⟩, ⟨l7, n7⟩, nne⟩ := hnn
    refine ok_seq (fun M hM => ok_region rfl ?_); (try revert X); refine t15 ?_; intro X hX
    refine hM _ _ _ ?_; clear hM M
    refine ok_seq (fun M0 hM0 => ?_)
    refine ok_seq (fun M hM => ok_region rfl ?_)
    (try revert X); refine t15 ?_; intro X hX
    refine ⟨_, hkv.cell (j := 0) rfl, ?_⟩
    (try revert X); refine t15 ?_; intro X hX
    refine hM _ _ _ ?_; clear hM M
    refine ok_block ?_
    refine ok_loop (S := Nat × List Nat) (fun s => [(1, .slice A roots.length c), (2, ptrOf b0), (6, ptrOf c6), (7, ptrOf c7), (9, .func (.func 51) #[] #[ptrOf c6]), (47, .slice kA m kc), (48, .int .i64 (m : Int)), (49, .int .i64 (s.1 : Int))])
      (fun s W' => s.1 ≤ m ∧ CL w W W' ps H (collQ H roots) (collT H roots) ps2 s.2 (moveO (collT H roots)) s.1) (fun s => m - s.1) (0, []) ?_ ?_ ?_
    · simp [sub, Env.get]
    · exact ⟨Nat.zero_le _, hext.chg _, fun _ _ _ => rfl, Nat.le_refl _, fun p hp _ => Below.block hext p (hpsl p hp), rfl, List.nodup_nil, fun t p g r h => absurd h (Nat.not_lt_zero _), fun t p g _ h => by simp at h⟩
    rintro ⟨j, gs2⟩ W' ⟨hj, hCL⟩
    simp only at hj hCL ⊢
    have hcW' : Chg (fun k => k < w.heap.size) W W' := ⟨hCL.c.os.trans hext.os.symm, hCL.c.tape.trans hext.tape.symm, hCL.c.output.trans hext.output.symm, hCL.sz, fun k hk hn => hCL.keep k (by omega) hk⟩
    have hsW' := hCL.sz
    refine ok_seq (fun M hM => ok_region rfl ?_); (try revert X); refine t15 ?_; intro X hX
    refine hM _ _ _ ?_; clear hM M
    refine ok_seq (fun M1 hM1 => ?_)
    refine ok_if rfl (fun hc => ok_skip ?_) (fun hc => ok_exit ?_)
    rotate_left
    · try simp only [zW, zU, reduceIte, Nat.reduceEqDiff, Nat.reduceAdd, reduceCtorEq, Q15]
      refine hM0 _ _ _ ?_; clear hM0 M0 hM1 M1
      have hjm : j = m := by omega
      subst hjm
      have hhbW' : Blk W' hb [vs, .map (some rb)] 70 := hR0.head.chg hCL.c hR0.hbps
      have hhbl := hFoot hb (.inl rfl)
      refine ok_seq (fun M hM => ok_region rfl ?_)
      (try revert X); refine t15 ?_; intro X hX
      refine ⟨_, (hk0'.chg hcW' (by omega)).cell (j := 0) rfl, ?_⟩
      (try revert X); refine t15 ?_; intro X hX
      refine ⟨_, (hkv.chg hcW' (by omega)).cell (j := 0) rfl, ?_⟩
      (try revert X); refine t15 ?_; intro X hX
      refine Runs.store hhbW' Fx.zi67 rfl (by intro u hu; simp [Value.cells] at hu; subst hu; rfl) (by simp) (fun w3 hc3 hs3 hb3 => ?_)
      simp only [splice, Value.cells, List.take_zero, List.nil_append, List.singleton_append, List.length_singleton, Nat.zero_add, List.drop_succ_cons, List.drop_zero] at hb3
      have hcF3 : Chg F w w3 := (hCL.c.mono fun k _ hk => (hf k (.inr (.inr (.inl hk)))).1).trans (hc3.mono fun k _ hk => by rw [hk]; exact (hf hb (.inl rfl)).1)
      have hk63 : Blk w3 c6 _ 33 := (hk6'.chg hcW' (by omega)).chg hc3 (by omega)
      have hkt3 : Blk w3 Bt _ 3 := (hkt'.chg hcW' (by omega)).chg hc3 (by omega)
      (try revert X); refine t15 ?_; intro X hX
      refine hM _ _ _ ?_; clear hM M
      refine ok_seq (fun M hM => ok_region rfl ?_)
      (try revert X); refine t15 ?_; intro X hX
      refine Inv.clos (cap := [ptrOf c6]) Fx.en51 (moved_ok w3 (.slice A roots.length c) roots c6 Bt (collT H roots) (by rw [hTl]; exact hk63.cell (j := 0) rfl) hkt3 (hrsT w3 hcF3) hrl (fun x hx => by have := hrall x hx; rw [hTl]; omega) (by rw [hTl]; omega)) ?_
      rintro v w4 ⟨⟨A4, c4, rfl⟩, -, ⟨g4, hWL4, hg4⟩, he4, hown4⟩
      (try revert X); refine t15 ?_; intro X hX
      refine hM _ _ _ ?_; clear hM M
      have hd4 : w4.heap[n]? = some (.deferred (some [])) := by
        rw [Below.block he4 n (by omega), hc3.block n (by omega) (by omega), hcW'.block n hnW (by omega)]
        exact hd
      have hnw4 := (Array.getElem?_eq_some_iff.1 hd4).1
      have hc5 : Chg (· = n) w4 (w4.putObj n (.deferred none)) := ⟨rfl, rfl, rfl, by simp, fun k hk hne => World.putObj_heap_other (fun e => hne e)⟩
      refine ok_ret ?_
      refine .inr ⟨_, rfl, hd4, ?_⟩
      generalize w4.putObj n (.deferred none) = w5 at hc5
      try simp only [zW, zU, reduceIte, Nat.reduceEqDiff, Nat.reduceAdd, reduceCtorEq, Q15]
      have hs5 := hc5.size
      have hs4 := he4.size
      refine ⟨A4, c4, rfl, ?_⟩
      have hcW5 : Chg (fun k => k < w.heap.size ∨ k = n) W w5 := (hcW'.mono fun k _ h => .inl h).trans ((hc3.mono fun k _ h => .inl (by omega)).trans ((he4.chg _).trans (hc5.mono fun k _ h => .inr h)))
      have hc35 : Chg (fun k => k = n) w3 w5 := (he4.chg _).trans hc5
      have hcw5 : Chg (fun k => k ∈ ps ∨ k = hb ∨ k = n) w w5 := (hCL.c.mono fun k _ h => .inl h).trans ((hc3.mono fun k _ h => .inr (.inl h)).trans (hc35.mono fun k _ h => .inr (.inr h)))
      have hkvl : ∀ k, (Value.slice kA j kc).ownBlock = some k → n + 2 ≤ k ∧ k < W.heap.size := fun k hk => hown.lt k hk
      have hgs : ∀ g ∈ gs2, (g ∈ ps ∨ W.heap.size ≤ g) ∧ g < W'.heap.size := by
        intro g hg
        obtain ⟨t, ht⟩ := List.mem_iff_getElem?.1 hg
        have htl := (List.getElem?_eq_some_iff.1 ht).1
        have hlen2 := hCL.len
        have hpt : ps2[t]? = some (ps2[t]'(by omega)) := List.getElem?_eq_getElem _
        have := hCL.gs t _ g hpt ht
        refine ⟨?_, this.2⟩
        rcases this.1 with h1 | h1
        · exact .inl (h1 ▸ hps2m _ (List.getElem_mem _))
        · exact .inr h1
      refine ⟨?_, Foot hb (.slice kA j kc) ps2 gs2, ⟨.slice kA j kc, ps2, gs2, ⟨hb3.chg hc35 (by omega), hR0.rules.chg hcw5 ?_, ?_, ?_, ?_, hps2n, hCL.nd, ?_, ?_⟩, fun k hk => ⟨hk, ?_⟩, ?_⟩, fun k hk => ?_, ⟨g4, ?_, fun hne => ?_⟩, ?_, fun k hk => ?_⟩
      · exact (hcF3.trans (he4.chg F)).trans_new hc5 (fun k hk => by omega)
      · rintro (h | h | h)
        · exact hrb (hf rb (.inr (.inr (.inl h)))).1
        · exact hrb (h ▸ (hf hb (.inl rfl)).1)
        · omega
      · have h1 := own_zero (owns_chg' hown hcW5 (fun k hk h => by have := hkvl k hk; omega))
        rw [hps2] at h1
        have hlc : (collH H roots).length = j := by unfold collH; simp [hm]
        rw [hlc]
        exact h1
      · unfold collH; simp [hm, hps2l]
      · unfold collH; simp [hm, hCL.len]
      · refine ⟨⟨fun h => hR0.hbps (hps2m _ h), fun h => ?_⟩, fun k hk => ⟨?_, fun h => ?_, fun h => ?_⟩⟩
        · rcases (hgs hb h).1 with h1 | h1
          · exact hR0.hbps h1
          · omega
        · have := hkvl k hk; omega
        · have := hkvl k hk; have := hpsl k (hps2m k h); omega
        · have := hkvl k hk
          rcases (hgs k h).1 with h1 | h1
          · have := hpsl k h1; omega
          · omega
      · intro t p g o hp hg ho
        unfold collH at ho
        rw [List.getElem?_map] at ho
        obtain ⟨r, hr, rfl⟩ := Option.map_eq_some_iff.1 ho
        have htl : t < j := by have := (List.getElem?_eq_some_iff.1 hp).1; omega
        have hob := hCL.done t p g r htl hp hg hr
        have hpl2 := hpsl p (hps2m p (List.mem_of_getElem? hp))
        have hgg := hgs g (List.mem_of_getElem? hg)
        have hpb : ¬ p = hb := fun e => hR0.hbps (e ▸ hps2m p (List.mem_of_getElem? hp))
        have hgb : ¬ g = hb := fun e => by
          rcases hgg.1 with h1 | h1
          · exact hR0.hbps (e ▸ h1)
          · omega
        have hgn : ¬ g = n := fun e => by
          rcases hgg.1 with h1 | h1
          · have := hpsl g h1; omega
          · omega
        exact (hob.chg hc3 hpb hgb).chg hc35 (by omega) hgn
      · rcases hk with rfl | hk | hk | hk
        · omega
        · have := hkvl k hk; omega
        · have := hpsl k (hps2m k hk); omega
        · have := (hgs k hk).2; omega
      · rintro (h | h | h | h)
        · exact hrb (h ▸ (hf hb (.inl rfl)).1)
        · have := hkvl rb h; omega
        · exact hrb (hf rb (.inr (.inr (.inl (hps2m rb h))))).1
        · rcases (hgs rb h).1 with h1 | h1
          · exact hrb (hf rb (.inr (.inr (.inl h1)))).1
          · omega
      · rcases hk with rfl | hk | hk | hk
        · exact .inl (hf _ (.inl rfl)).1
        · have := hkvl k hk; exact .inr (by omega)
        · exact .inl (hf _ (.inr (.inr (.inl (hps2m k hk))))).1
        · have h2 := (hgs k hk).2
          rcases (hgs k hk).1 with h1 | h1
          · exact .inl (hf _ (.inr (.inr (.inl h1)))).1
          · exact .inr (by omega)
      · by_cases hre : roots = []
        · subst hre
          exact ⟨A4, c4, rfl, by simp, by simp, fun h => absurd rfl h⟩
        · have := hg4 hre
          exact hWL4.chg hc5 (by omega)
      · have hg4' := hg4 (fun e => hne (by rw [e]; rfl))
        refine ⟨by omega, fun hft => ?_⟩
        rcases hft with h | h | h | h
        · omega
        · have := hkvl g4 h; omega
        · have := hpsl g4 (hps2m g4 h); omega
        · have := (hgs g4 h).2; omega
      · rw [List.length_map]
        have hvb : ∀ k, (Value.slice A4 roots.length c4).ownBlock = some k → w3.heap.size ≤ k := fun k hk => (hown4.lt k hk).1
        exact own_zero (owns_chg' hown4 hc5 (fun k hk e => by have := hvb k hk; omega))
      · have hvb := (hown4.lt k hk).1
        refine ⟨by omega, fun hft => ?_⟩
        rcases hft with h | h | h | h
        · omega
        · have := hkvl k h; omega
        · have := hpsl k (hps2m k h); omega
        · have := (hgs k h).2; omega
    · try simp only [zW, zU, reduceIte, Nat.reduceEqDiff, Nat.reduceAdd, reduceCtorEq, Q15]
      refine hM1 _ _ _ ?_; clear hM1 M1
      have hjl : j < m := by omega
      have hQj : (collQ H roots)[j]? = some ((collQ H roots)[j]'(by omega)) := List.getElem?_eq_getElem _
      generalize (collQ H roots)[j]'(by omega) = r at hQj
      obtain ⟨i, p, g, o, hoo, ho, hp, hg, hp2⟩ := hps2g j r hQj
      have hpm : p ∈ ps := List.mem_of_getElem? hp
      have hpl2 := hpsl p hpm
      have hpn : p ∉ ps2.take j := by
        intro hm2
        obtain ⟨t, ht⟩ := List.mem_iff_getElem?.1 hm2
        have htj : t < j := by have := (List.getElem?_eq_some_iff.1 ht).1; simp at this; omega
        rw [List.getElem?_take, if_pos htj] at ht
        have h1 := (List.getElem?_eq_some_iff.1 ht)
        have h2 := (List.getElem?_eq_some_iff.1 hp2)
        have := (List.getElem_inj hps2n).1 (h1.2.trans h2.2.symm)
        omega
      have hraw := hCL.raw p hpm hpn
      have hob := hR0.obj i p g o hp hg ho
      obtain ⟨A2, c2, hlc, hll, hls⟩ := hob.listS
      have hlcW : W'.cell? ⟨p, 0, none⟩ = some (.slice A2 o.list.length c2) := (World.cell?_of_block hraw).trans hlc
      have hslW := hls W' _ hCL.c (fun hne _ => hR0.gnp hp hg ho hne)
      obtain ⟨kb, ko, rfl, hkc⟩ := hkcell j [ptrOf p] (by rw [List.getElem?_map, hp2]; rfl)
      have hkbl := hown.lt kb rfl
      have hkcW := hcW'.cellsAt hkc (by simp only; omega) 0 _ rfl
      refine ok_seq (fun M1 hM1 => ok_block ?_)
      refine ok_seq (fun M hM => ok_region rfl ?_)
      (try revert X); refine t15 ?_; intro X hX
      refine ⟨by omega, by omega, ?_⟩
      (try revert X); refine t15 ?_; intro X hX
      refine ⟨_, by simpa [add_at] using hkcW, ?_⟩
      (try revert X); refine t15 ?_; intro X hX
      refine hM _ _ _ ?_; clear hM M
      refine ok_region rfl ?_
      (try revert X); refine t15 ?_; intro X hX
      refine ⟨_, hlcW, ?_⟩
      (try revert X); refine t15 ?_; intro X hX
      have hoW : ∀ x ∈ o.list, 0 ≤ x.r ∧ x.r ≤ (H.length : Int) := hW o (List.mem_of_getElem? ho)
      refine Inv.clos (cap := [ptrOf c6]) Fx.en51 (moved_ok W' (.slice A2 o.list.length c2) o.list c6 Bt (collT H roots) (by rw [hTl]; exact (hk6'.chg hcW' (by omega)).cell (j := 0) rfl) (hkt'.chg hcW' (by omega)) hslW hll (fun x hx => by have := hoW x hx; rw [hTl]; omega) (by rw [hTl]; omega)) ?_
      rintro v w2 ⟨⟨A3, c3, rfl⟩, hnil, ⟨g3, hWL3, hg3⟩, he2, -⟩
      have hs2 := he2.size
      (try revert X); refine t15 ?_; intro X hX
      -- the object's block, as it was
      obtain ⟨x1, x2, x3, hbp⟩ : ∃ x1 x2 x3, Blk W' p [.slice A2 o.list.length c2, x1, x2, x3] 108 ∧ x1.oneCell' = true ∧
          ∀ (w4 : World) (g4 : Nat), Blk w4 p [.slice A3 o.list.length c3, x1, x2, x3] 108 → (o.list ≠ [] → WL w4 g4 (.slice A3 o.list.length c3) (o.list.map (mvW (collT H roots)))) → ObW w4 p g4 (moveO (collT H roots) (some o)) := by
        cases o with
        | text t =>
          refine ⟨.string t, .bool true, .int .i64 0, ?_, rfl, fun w4 g4 h4 _ => ?_⟩
          · have h5 : w.cell? ⟨p, 0, none⟩ = some (.slice none 0 0) := Blk.cell hob rfl
            rw [h5] at hlc
            rw [← Option.some.inj hlc]
            exact hraw.trans hob
          · have h6 := hnil rfl
            rw [h6] at h4
            exact h4
        | words st l =>
          obtain ⟨lv, h1, h2⟩ := hob
          refine ⟨.string ⟨#[]⟩, .bool false, .int .i64 st, ?_, rfl, fun w4 g4 h4 h5 => ⟨_, h4, ?_⟩⟩
          · have h5 : w.cell? ⟨p, 0, none⟩ = some lv := h1.cell rfl
            rw [h5] at hlc
            rw [← Option.some.inj hlc]
            exact hraw.trans h1
          · by_cases hl0 : l = []
            · subst hl0
              obtain ⟨A5, c5, h7, h8, h9, -⟩ := hWL3
              exact ⟨A5, c5, h7, h8, h9, fun h => absurd rfl h⟩
            · exact h5 hl0
      obtain ⟨hbp, hx1, hmk⟩ := hbp
      refine Runs.store (hbp.ext he2) Fx.zi29 rfl (by intro u hu; simp [Value.cells] at hu; subst hu; rfl) (by simp) (fun w3 hc3 hs3 hb3 => ?_)
      simp only [splice, Value.cells, List.take_zero, List.nil_append, List.singleton_append, List.length_singleton, Nat.zero_add, List.drop_succ_cons, List.drop_zero] at hb3
      (try revert X); refine t15 ?_; intro X hX
      refine hM1 _ _ _ ?_; clear hM1 M1
      refine ok_region rfl ?_
      (try revert X); refine t15 ?_; intro X hX
      refine ⟨by simp only [inI]; omega, ?_⟩
      (try revert X); refine t15 ?_; intro X hX
      have hc23 : Chg (· = p) W' w3 := (he2.chg _).trans hc3
      have hs3' := hc23.size
      have hptk : ps2.take (j + 1) = ps2.take j ++ [p] := by
        have hjl2 : j < ps2.length := by omega
        rw [List.take_succ_eq_append_getElem hjl2]
        rw [List.getElem?_eq_getElem hjl2] at hp2
        rw [Option.some.inj hp2]
      obtain ⟨gn, hgn1, hgn2, hgn3⟩ : ∃ gn, (o.list ≠ [] → WL w3 gn (.slice A3 o.list.length c3) (o.list.map (mvW (collT H roots)))) ∧ (gn = p ∨ W'.heap.size ≤ gn) ∧ gn < w3.heap.size := by
        by_cases hl0 : o.list = []
        · exact ⟨p, fun h => absurd hl0 h, .inl rfl, by omega⟩
        · have h1 := hg3 hl0
          obtain ⟨A5, c5, h7, h8, h9, h10⟩ := id hWL3
          obtain ⟨-, cs5, h11, -⟩ := h10 (by simpa using hl0)
          have := h11.lt
          exact ⟨g3, fun _ => hWL3.chg hc3 (by omega), .inr h1, by omega⟩
      have hl2 := hCL.len
      refine ⟨(j + 1, gs2 ++ [gn]), by simp [sub, Env.get], ⟨by omega, hCL.c.trans (hc23.mono fun k _ h => by rw [h]; exact hpm), fun k h1 h2 => ?_, by omega, fun p' h1 h2 => ?_, by simp [hl2], ?_, fun t p' g' r' h1 h2 h3 h4 => ?_, fun t p' g' h2 h3 => ?_⟩, by omega⟩
      · rw [hc23.block k (by omega) (by omega)]; exact hCL.keep k h1 h2
      · rw [hptk] at h2
        simp only [List.mem_append, List.mem_singleton, not_or] at h2
        have := hpsl p' h1
        rw [hc23.block p' (by omega) h2.2]; exact hCL.raw p' h1 h2.1
      · refine List.nodup_append.2 ⟨hCL.nd, List.pairwise_singleton _ _, fun a ha b hb2 e => ?_⟩
        simp at hb2; subst hb2; subst e
        obtain ⟨t, ht⟩ := List.mem_iff_getElem?.1 ha
        have htl := (List.getElem?_eq_some_iff.1 ht).1
        have hpt : ps2[t]? = some (ps2[t]'(by omega)) := List.getElem?_eq_getElem _
        have h5 := hCL.gs t _ a hpt ht
        rcases hgn2 with h6 | h6
        · rcases h5.1 with h7 | h7
          · have h8 := (List.getElem?_eq_some_iff.1 hp2)
            have := (List.getElem_inj hps2n).1 (h7.symm.trans (h6.trans h8.2.symm))
            omega
          · omega
        · omega
      · rcases Nat.lt_or_ge t j with htj | htj
        · rw [List.getElem?_append_left (by omega)] at h3
          have h5 := hCL.done t p' g' r' htj h2 h3 h4
          have h6 := hCL.gs t p' g' h2 h3
          have hpp : p' ≠ p := fun e => hpn (by
            rw [← e]
            exact List.mem_of_getElem? (i := t) (by rw [List.getElem?_take, if_pos htj]; exact h2))
          exact h5.chg hc23 hpp (fun e => by
            rcases h6.1 with h7 | h7
            · exact hpp (h7 ▸ e)
            · omega)
        · have htj2 : t = j := by omega
          subst htj2
          rw [hp2] at h2; cases h2
          rw [hQj] at h4; cases h4
          rw [List.getElem?_append_right (by omega)] at h3
          simp [hl2] at h3; subst h3
          rw [hoo]
          exact hmk w3 gn hb3 hgn1
      · rcases Nat.lt_or_ge t j with htj | htj
        · rw [List.getElem?_append_left (by omega)] at h3
          have h6 := hCL.gs t p' g' h2 h3
          exact ⟨h6.1, by omega⟩
        · have htl := (List.getElem?_eq_some_iff.1 h3).1
          simp [hl2] at htl
          have htj2 : t = j := by omega
          subst htj2
          rw [hp2] at h2; cases h2
          rw [List.getElem?_append_right (by omega)] at h3
          simp [hl2] at h3; subst h3
          refine ⟨?_, hgn3⟩
          rcases hgn2 with h6 | h6
          · exact .inl h6
          · exact .inr (by omega)
end Go.Proofs.YtldeokfhipjbfaaGreatDoor
/- Set, Args, num.  -/
set_option linter.unusedVariables false
set_option linter.unusedSimpArgs false
namespace Go.Proofs.Vg
open Go Go.RowKit
theorem flat_set (y : Wd) : ∀ (l : List Wd) (i : Nat) (rest : List Value), i < l.length → splice ((l.map Wd.row).flatten ++ rest) (i * 3) y.row = ((l.set i y).map Wd.row).flatten ++ rest := by
  intro l
  induction l with
  | nil => intro i rest h; simp at h
  | cons x xs ih =>
    intro i rest h
    cases i with
    | zero => simp [splice, Wd.row]
    | succ i =>
      have := ih i rest (by simpa using h)
      simp only [List.map_cons, List.flatten_cons, List.set_cons_succ, List.append_assoc]
      rw [← this]
      have e2 : x.row = [.int .i64 x.k, .int .i64 x.n, .int .i64 x.r] := rfl
      have e3 : (i + 1) * 3 = i * 3 + 1 + 1 + 1 := by omega
      have e4 : i * 3 + 1 + 1 + 1 + y.row.length = (i * 3 + y.row.length) + 1 + 1 + 1 := by omega
      simp only [splice]
      rw [e3, e4, e2]
      simp only [List.cons_append, List.nil_append, List.take_succ_cons, List.drop_succ_cons]
def setE (H : List Ob) (x : Wd) (i : Int) (y : Wd) : Int :=
  if rightW H x = true ∧ rightW H y = true ∧ y.k ≠ 0 ∧ y.k ≠ 9 then if x.k = 7 then if 0 ≤ i ∧ i < ((argsOf H x).length : Int) then 0 else 24 else 3 else 2
def setH (H : List Ob) (x : Wd) (i : Int) (y : Wd) : List Ob := if setE H x i y = 0 then H.set (x.r - 1).toNat (.words 7 ((argsOf H x).set i.toNat y)) else H
theorem right7 {H : List Ob} {x : Wd} (h : rightW H x = true) (h7 : x.k = 7) : ∃ l, objAt H x.r = some (.words 7 l) := by
  unfold rightW at h
  rw [h7] at h
  simp at h
  have h2 := h.2
  cases ho : objAt H x.r with
  | none => rw [ho] at h2; simp [isArrO] at h2
  | some o =>
    rw [ho] at h2
    cases o with
    | text s => simp [isArrO] at h2
    | words s l => simp [isArrO] at h2; subst h2; exact ⟨l, rfl⟩
end Go.Proofs.Vg
namespace Go.Proofs.YtldeokfhipjbfaaGreatDoor
open Go Go.Proofs.Vg Go.RowKit

-- -- function 20
set_option maxHeartbeats 2000000 in
set_option maxRecDepth 8000 in
theorem num_ok (w : World) (n : Int) : Rets Tryz.prog 20 [.int .i64 n] w (fun v w' => v = .agg #[.int .i64 1, .int .i64 n, .string ⟨#[]⟩, .slice none 0 0] ∧ Ext w w') := by
  refine rets_of_okC Tryz.func20 rfl rfl ?_
  refine ok_seq (fun M hM => ok_region rfl ?_)
  (try revert X); refine t20 ?_; intro X hX
  refine Runs.alloc Fx.zi36 (fun w1 he1 hs1 hb1 => ?_)
  simp only [Value.cells] at hb1
  generalize hB : w.heap.size = B at hs1 hb1
  (try revert X); refine t20 ?_; intro X hX
  refine hM _ _ _ ?_; clear hM M
  refine ok_seq (fun M hM => ok_region rfl ?_)
  (try revert X); refine t20 ?_; intro X hX
  refine ⟨_, w1, run_build (P := Tryz.prog) w1 36 _ #[.int .i64 1, .int .i64 n, .string ⟨#[]⟩, .slice none 0 0] (by kernel_rfl), ?_⟩
  (try revert X); refine t20 ?_; intro X hX
  refine Runs.store hb1 Fx.zi36 rfl (by intro u hu; simp [Value.cells] at hu; rcases hu with rfl | rfl | rfl | rfl <;> rfl) (by simp) (fun w2 hc2 hs2 hb2 => ?_)
  rw [splice_all _ _ (by simp [Value.cells])] at hb2
  simp only [Value.cells] at hb2
  (try revert X); refine t20 ?_; intro X hX
  refine hM _ _ _ ?_; clear hM M
  refine ok_ret ?_
  try simp only [zW, zU, reduceIte, Nat.reduceEqDiff, Nat.reduceAdd, reduceCtorEq, Q20]
  exact ⟨[.int .i64 1, .int .i64 n, .string ⟨#[]⟩, .slice none 0 0], rfl, hb2.cells (o := 0) (fun j u hj => by simpa using hj), rfl, he1.chg_trans hc2 (fun k hk => by omega)⟩

-- -- function 22
set_option maxHeartbeats 4000000 in
set_option maxRecDepth 8000 in
theorem Set_ok (w : World) (hb rb : Nat) (H : List Ob) (F : Nat → Prop) (hH : HeapW w hb rb H F) (hl : H.length ≤ 1048576) (x : Wd) (i : Int) (y : Wd) :
    Rets Tryz.prog 22 [ptrOf hb, wv x, .int .i64 i, wv y] w (fun v w' => v = .int .i64 (setE H x i y) ∧ Grown w w' hb rb (setH H x i y) F) := by
  have keep : ∀ (w' : World) (e : Int), setE H x i y = e → e ≠ 0 → Ext w w' → .int .i64 e = Value.int .i64 (setE H x i y) ∧ Grown w w' hb rb (setH H x i y) F := by
    intro w' e he hne h
    have : setH H x i y = H := by unfold setH; rw [if_neg (by rw [he]; exact hne)]
    rw [this, he]
    exact ⟨rfl, Grown.ext hH h⟩
  refine rets_of_ok Tryz.func22 rfl rfl ?_
  refine ok_seq (fun M hM => ok_region rfl ?_)
  (try revert X); refine t22 ?_; intro X hX
  refine Runs.box (fun w1 he1 hz1 hb1 => ?_)
  generalize hB1 : w.heap.size = B1 at hz1 hb1
  simp only [Value.cells] at hb1
  (try revert X); refine t22 ?_; intro X hX
  refine Runs.box (fun w2 he2 hz2 hb2 => ?_)
  generalize hB2 : w1.heap.size = B2 at hz2 hb2
  simp only [Value.cells] at hb2
  have hb12 := hb1.ext he2
  have he02 := he1.trans he2
  (try revert X); refine t22 ?_; intro X hX
  refine hM _ _ _ ?_; clear hM M
  refine ok_join [(0, ptrOf hb), (2, .int .i64 i), (5, ptrOf B1), (7, ptrOf B2)] (fun w' => Ext w2 w' ∧ rightW H x = true ∧ (rightW H y = true ∧ y.k ≠ 0 ∧ y.k ≠ 9) ∧ x.k = 7) ?_ ?_
  · refine ok_block ?_
    refine ok_seq (fun M hM => ok_region rfl ?_)
    (try revert X); refine t22 ?_; intro X hX
    refine Runs.ptrEq Fx.un25 ?_
    (try revert X); refine t22 ?_; intro X hX
    refine hM _ _ _ ?_; clear hM M
    refine ok_cond rfl (fun h => by cases h) (fun _ => ?_)
    refine ok_join [(0, ptrOf hb), (2, .int .i64 i), (5, ptrOf B1), (7, ptrOf B2), (13, .bool (!decide (rightW H x = true ∧ rightW H y = true ∧ y.k ≠ 0 ∧ y.k ≠ 9)))] (fun w' => Ext w2 w') ?_ ?_
    · refine ok_region rfl ?_
      (try revert X); refine t22 ?_; intro X hX
      refine ⟨x.row, rfl, hb12.cells (o := 0) (fun j u hj => by simpa using hj), ?_⟩
      (try revert X); refine t22 ?_; intro X hX
      refine Inv.call Fx.en12 (right_ok w2 hb rb H F (hH.ext he02) (by omega) x) ?_
      rintro v w3 ⟨rfl, he3⟩
      (try revert X); refine t22 ?_; intro X hX
      refine ⟨fun h => ?_, fun h => ?_⟩
      rotate_left
      · have hr : rightW H x = false := by simpa using h
        (try revert X); refine t22 ?_; intro X hX
        simp [sub, Env.get, hr, he3]
      have hr : rightW H x = true := by simpa using h
      (try revert X); refine t22 ?_; intro X hX
      refine ⟨y.row, rfl, (hb2.ext he3).cells (o := 0) (fun j u hj => by simpa using hj), ?_⟩
      (try revert X); refine t22 ?_; intro X hX
      refine Inv.call Fx.en12 (right_ok w3 hb rb H F (hH.ext (he02.trans he3)) (by omega) y) ?_
      rintro v w4 ⟨rfl, he4⟩
      have he34 := he3.trans he4
      have hk0 : w4.cell? ⟨B2, 0, none⟩ = some (.int .i64 y.k) := (hb2.ext he34).cell rfl
      (try revert X); refine t22 ?_; intro X hX
      simp only [hr, Bool.not_true]
      (try revert X); refine t22 ?_; intro X hX
      refine ⟨fun h => ?_, fun h => ?_⟩
      rotate_left
      · have hry : rightW H y = false := by simpa using h
        (try revert X); refine t22 ?_; intro X hX
        simp [sub, Env.get, hr, hry, he34]
      have hry : rightW H y = true := by simpa using h
      (try revert X); refine t22 ?_; intro X hX
      refine ⟨_, hk0, ?_⟩
      simp only [hry, Bool.not_true]
      (try revert X); refine t22 ?_; intro X hX
      refine ⟨fun h => ?_, fun h => ?_⟩
      · have h0 : ¬ y.k = 0 := by simpa using h
        (try revert X); refine t22 ?_; intro X hX
        refine ⟨_, hk0, ?_⟩
        simp only [h0, decide_false]
        (try revert X); refine t22 ?_; intro X hX
        by_cases h9 : y.k = 9 <;> simp [sub, Env.get, hr, hry, h0, h9, he34]
      · have h0 : y.k = 0 := by simpa using h
        (try revert X); refine t22 ?_; intro X hX
        simp [sub, Env.get, hr, hry, h0, he34]
    intro w3 he3
    refine ok_ifn rfl (fun hq => ?_) (fun hq => ?_)
    · refine ok_seq (fun M hM => ok_region rfl ?_); (try revert X); refine t22 ?_; intro X hX
      refine hM _ _ _ ?_; clear hM M
      refine ok_ret ?_
      try simp only [zW, zU, reduceIte, Nat.reduceEqDiff, Nat.reduceAdd, reduceCtorEq, Q22]
      exact keep w3 2 (by simp only [setE]; rw [if_neg hq]) (by decide) (he02.trans he3)
    · refine ok_seq (fun M hM => ok_region rfl ?_)
      (try revert X); refine t22 ?_; intro X hX
      refine ⟨_, (hb12.ext he3).cell (j := 0) (by rfl : _ = some (Value.int .i64 x.k)), ?_⟩
      (try revert X); refine t22 ?_; intro X hX
      refine hM _ _ _ ?_; clear hM M
      refine ok_ifn rfl (fun h7 => ?_) (fun h7 => ok_skip ?_)
      · refine ok_seq (fun M hM => ok_region rfl ?_); (try revert X); refine t22 ?_; intro X hX
        refine hM _ _ _ ?_; clear hM M
        refine ok_ret ?_
        try simp only [zW, zU, reduceIte, Nat.reduceEqDiff, Nat.reduceAdd, reduceCtorEq, Q22]
        exact keep w3 3 (by simp only [setE]; rw [if_pos hq, if_neg h7]) (by decide) (he02.trans he3)
      · try simp only [zW, zU, reduceIte, Nat.reduceEqDiff, Nat.reduceAdd, reduceCtorEq, Q22]
        exact ⟨by simp [sub, Env.get], he3, hq.1, hq.2, h7⟩
  rintro w3 ⟨he3, hr, hry, h7⟩
  have he03 := he02.trans he3
  obtain ⟨l, hol⟩ := right7 hr h7
  have hal : argsOf H x = l := by simp [argsOf, argsO, hol]
  obtain ⟨vs, ps, gs, hR, hf, hrb⟩ := hH.ext he03
  refine ok_seq (fun M hM => ok_region rfl ?_)
  (try revert X); refine t22 ?_; intro X hX
  refine ⟨_, (hb12.ext he3).cell (j := 2) (by rfl : _ = some (Value.int .i64 x.r)), ?_⟩
  (try revert X); refine t22 ?_; intro X hX
  refine Inv.call Fx.en57 (object_ok w3 hb rb vs ps gs H hR (by omega) x.r) ?_
  rintro v w4 ⟨rfl, hv⟩
  rcases hv with ⟨ho, rfl⟩ | ⟨t, p, g, o, ho, hxr, hi, hp, hg, rfl⟩
  · rw [hol] at ho; cases ho
  rw [hol] at ho; cases ho
  obtain ⟨lv, hbp, hWL⟩ := hR.obj t p g _ hp hg hi
  obtain ⟨A, c, rfl, hll, hlc, hne⟩ := id hWL
  (try revert X); refine t22 ?_; intro X hX
  refine ⟨_, hbp.cell (j := 0) rfl, ?_⟩
  (try revert X); refine t22 ?_; intro X hX
  refine hM _ _ _ ?_; clear hM M
  refine ok_join [(2, .int .i64 i), (7, ptrOf B2), (9, .slice A l.length c)] (fun w' => w' = w4 ∧ 0 ≤ i ∧ i < (l.length : Int)) ?_ ?_
  · refine ok_join [(2, .int .i64 i), (7, ptrOf B2), (9, .slice A l.length c), (53, .bool (!decide (0 ≤ i ∧ i < (l.length : Int))))] (fun w' => w' = w4) ?_ ?_
    · refine ok_region rfl ?_
      (try revert X); refine t22 ?_; intro X hX
      refine ⟨fun h => ?_, fun h => ?_⟩
      · have h0 : ¬ i < 0 := by simpa using h
        simp only [h0, decide_false]
        (try revert X); refine t22 ?_; intro X hX
        have h0' : 0 ≤ i := by omega
        by_cases h1 : (l.length : Int) ≤ i
        · have h2 : ¬ i < (l.length : Int) := by omega
          simp [sub, Env.get, h0', h1, h2]
        · have h2 : i < (l.length : Int) := by omega
          simp [sub, Env.get, h0', h1, h2]
      · have h0 : i < 0 := by simpa using h
        (try revert X); refine t22 ?_; intro X hX
        have h0' : ¬ 0 ≤ i := by omega
        simp [sub, Env.get, h0']
    rintro w' rfl
    refine ok_ifn rfl (fun hq => ?_) (fun hq => ok_skip ?_)
    · refine ok_seq (fun M hM => ok_region rfl ?_); (try revert X); refine t22 ?_; intro X hX
      refine hM _ _ _ ?_; clear hM M
      refine ok_ret ?_
      try simp only [zW, zU, reduceIte, Nat.reduceEqDiff, Nat.reduceAdd, reduceCtorEq, Q22]
      exact keep w' 24 (by simp only [setE]; rw [if_pos ⟨hr, hry⟩, if_pos h7, hal, if_neg hq]) (by decide) he03
    · try simp only [zW, zU, reduceIte, Nat.reduceEqDiff, Nat.reduceAdd, reduceCtorEq, Q22]
      exact ⟨by simp [sub, Env.get], hq.1, hq.2⟩
  rintro w' ⟨rfl, h0, h1⟩
  have hse : setE H x i y = 0 := by simp only [setE]; rw [if_pos ⟨hr, hry⟩, if_pos h7, hal, if_pos ⟨h0, h1⟩]
  have hsh : setH H x i y = H.set t (.words 7 (l.set i.toNat y)) := by
    unfold setH; rw [if_pos hse, hal]
    have : (x.r - 1).toNat = t := by omega
    rw [this]
  rw [hse, hsh]
  have hlne : l ≠ [] := by intro e; subst e; simp at h1; omega
  obtain ⟨rfl, cs, hbg, htk⟩ := hne hlne
  have hil : i.toNat < l.length := by omega
  have hcsl : l.length * 3 ≤ cs.length := by
    have h5 : (cs.take (l.length * 3)).length = l.length * 3 := by rw [htk, flat_words]
    rw [List.length_take] at h5
    omega
  refine ok_seq (fun M hM => ok_region rfl ?_)
  (try revert X); refine t22 ?_; intro X hX
  refine ⟨y.row, rfl, (hb2.ext he3).cells (o := 0) (fun j u hj => by simpa using hj), ?_⟩
  (try revert X); refine t22 ?_; intro X hX
  refine ⟨by omega, by omega, ?_⟩
  (try revert X); refine t22 ?_; intro X hX
  simp only [Nat.zero_add]
  refine Runs.store (b := g) (o := i.toNat * 3) (v := wv y) hbg Fx.zi38 rfl (by intro u hu; simp [Value.cells, Wd.row] at hu; rcases hu with rfl | rfl | rfl <;> rfl) (by omega) (fun w5 hc5 hs5 hb5 => ?_)
  (try revert X); refine t22 ?_; intro X hX
  refine hM _ _ _ ?_; clear hM M
  refine ok_seq (fun M hM => ok_region rfl ?_); (try revert X); refine t22 ?_; intro X hX
  refine hM _ _ _ ?_; clear hM M
  refine ok_ret ?_
  try simp only [zW, zU, reduceIte, Nat.reduceEqDiff, Nat.reduceAdd, reduceCtorEq, Q22]
  have hgm : g ∈ gs := List.mem_of_getElem? hg
  have hgF := hf g (.inr (.inr (.inr hgm)))
  have hgp : g ∉ ps := hR.gnp hp hg hi hlne
  have htl := (List.getElem?_eq_some_iff.1 hi).1
  have hws := he03.size
  refine ⟨?_, F, ⟨vs, ps, gs, ⟨hR.head.chg hc5 (fun e => hR.ap.1.2 (e ▸ hgm)), hR.rules.chg hc5 (fun e => hrb (e ▸ hgF.1)), ?_, by simp [hR.lenp], by simp [hR.leng], hR.ndp, hR.ndg, hR.ap, fun t' p' g' o' h2 h3 h4 => ?_⟩, fun k hk => ⟨(hf k hk).1, by have := (hf k hk).2; omega⟩, hrb⟩, fun k hk => .inl hk⟩
  · exact (he03.chg F).trans (hc5.mono fun k _ hk => by rw [hk]; exact hgF.1)
  · rw [List.length_set]
    exact owns_chg' hR.own hc5 (fun k hk e => (hR.ap.2 k hk).2.2 (e ▸ hgm))
  · by_cases htt : t' = t
    · subst htt
      rw [hp] at h2; cases h2
      rw [hg] at h3; cases h3
      rw [List.getElem?_set_self htl] at h4
      cases h4
      refine ⟨_, hbp.chg hc5 (fun e => hgp (e ▸ List.mem_of_getElem? hp)), _, c, by rw [List.length_set], by simpa using hll, by simpa using hlc, fun _ => ⟨rfl, _, hb5, ?_⟩⟩
      have hcs : cs = (l.map Wd.row).flatten ++ cs.drop (l.length * 3) := by rw [← htk]; exact (List.take_append_drop _ _).symm
      rw [hcs, show (Value.cells (wv y)).toList = y.row from rfl, flat_set y l i.toNat _ hil]
      rw [List.take_append_of_le_length (by rw [flat_words]; exact Nat.le_refl _), List.take_of_length_le (by rw [flat_words]; exact Nat.le_refl _)]
    · rw [List.getElem?_set_ne (fun e => htt e.symm)] at h4
      refine (hR.obj t' p' g' o' h2 h3 h4).chg hc5 (fun e => hgp (e ▸ List.mem_of_getElem? h2)) (fun e => ?_)
      have h5 := List.getElem?_eq_some_iff.1 h3
      have h6 := List.getElem?_eq_some_iff.1 hg
      have := (List.getElem_inj hR.ndg).1 (h5.2.trans (e.trans h6.2.symm))
      exact htt this
end Go.Proofs.YtldeokfhipjbfaaGreatDoor
