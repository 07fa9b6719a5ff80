/- Reaching: the objects that are reached, one by one. -/
import Derived.Test.YtldeokfhipjbfaaDoorH16
set_option linter.unusedVariables false
set_option linter.unusedSimpArgs false
namespace Go.Proofs.Vg
open Go Go.RowKit
/-- The state of the reaching: how many came, which blocks are its own, and what stands in them. -/
structure RS where
  i : Nat
  own : Nat → Prop
  snap : Nat → Option Obj
structure GenR (s : RS) (W : World) (s' : RS) (W' : World) : Prop where
  i : s'.i = s.i
  chg : Chg s.own W W'
  sub : ∀ k, s.own k → s'.own k
  new : ∀ k, s'.own k → (s.own k ∨ W.heap.size ≤ k) ∧ k < W'.heap.size
  snap : s'.snap = fun k => W'.heap[k]?
structure HF (W : World) (s : RS) (b1 b2 hb rb : Nat) (vs : Value) (ps gs : List Nat) (H : List Ob) (rv : Value) (roots : List Wd) : Prop where
  hp : HeapR W hb rb vs ps gs H
  k1 : W.cell? ⟨b1, 0, none⟩ = some (ptrOf hb)
  k2 : W.cell? ⟨b2, 0, none⟩ = some rv
  sl : Sli W 3 rv (roots.map Wd.row)
  snap : ∀ k, s.own k → W.heap[k]? = s.snap k
  foot : ∀ k, Foot hb vs ps gs k → ¬ s.own k
theorem Que.same {w w' : World} {base B cs cq : Nat} {sn : List Bool} {q : List Int} {qv : Value} {G : Nat → Prop} (h : Que w base B cs cq sn q qv G) (he : ∀ k, G k → w'.heap[k]? = w.heap[k]?) : Que w' base B cs cq sn q qv G := by
  refine ⟨(he B h.gB).trans h.bs, (he cs h.gs).trans h.c1, (he cq h.gq).trans h.c2, ?_, h.gB, h.gs, h.gq, h.go, h.ne, fun k hk => ⟨(h.lt k hk).1, ?_⟩⟩
  · refine ⟨h.own.1, ?_⟩
    rcases h.own.2 with hn | ⟨g, cap, cur, hv, hb, hgg, rest⟩
    · exact .inl hn
    · exact .inr ⟨g, cap, cur, hv, hb, (he g (h.go g (by rw [hv]; rfl)).1).trans hgg, rest⟩
  · have h1 := (h.lt k hk).2
    have h2 := he k hk
    rw [Array.getElem?_eq_getElem h1] at h2
    exact (Array.getElem?_eq_some_iff.1 h2).1
def bfsQ (H : List Ob) (roots : List Wd) : List Int :=
  bfs H (H.length + 1) (pushF (List.replicate (H.length + 1) false) [] roots).1 (pushF (List.replicate (H.length + 1) false) [] roots).2 0
theorem unseen_rep (n : Nat) : unseen (List.replicate n false) = n := by
  unfold unseen; rw [List.countP_replicate]; simp
theorem ivs_flat (q : List Int) : ivs q = (ints q).flatten := by
  induction q with
  | nil => rfl
  | cons x xs ih => simp only [ivs, ints, List.map_cons, List.flatten_cons] at ih ⊢; rw [ih]; rfl
theorem ObW.listS {w : World} {p g : Nat} {o : Ob} (h : ObW w p g o) : ∃ A c, w.cell? ⟨p, 0, none⟩ = some (.slice A o.list.length c) ∧ o.list.length ≤ 1073741824 ∧ ∀ (w' : World) (T : Nat → Prop), Chg T w w' → (o.list ≠ [] → g < w.heap.size → ¬ T g) → Sli w' 3 (.slice A o.list.length c) (o.list.map Wd.row) := by
  cases o with
  | text s => exact ⟨none, 0, Blk.cell h rfl, by simp [Ob.list], fun w' T hc hn => ⟨none, 0, rfl, by simp [Ob.list], fun j row hj => by simp [Ob.list] at hj⟩⟩
  | words s l =>
    obtain ⟨lv, h1, A, c, rfl, h3, h4, h5⟩ := h
    refine ⟨A, c, h1.cell rfl, h3, fun w' T hc hn => ?_⟩
    by_cases hl : l = []
    · subst hl; exact ⟨A, c, rfl, by simp [Ob.list], fun j row hj => by simp [Ob.list] at hj⟩
    · obtain ⟨h6, cs, h7, h8⟩ := h5 hl
      exact WL.sli (w := w') (g := g) ⟨A, c, rfl, h3, h4, fun _ => ⟨h6, cs, h7.chg hc (hn hl h7.lt), h8⟩⟩
theorem listO_mem {H : List Ob} (hW : Wf H) (r : Int) : ∀ x ∈ listO (objAt H r), 0 ≤ x.r ∧ x.r ≤ (H.length : Int) := by
  cases ho : objAt H r with
  | none => simp [listO]
  | some o =>
    have : o ∈ H := by
      unfold objAt at ho
      split at ho
      · exact List.mem_of_getElem? ho
      · cases ho
    exact hW o this
end Go.Proofs.Vg
namespace Go.Proofs.YtldeokfhipjbfaaDoor
open Go Go.Proofs.Vg Go.RowKit
theorem Fx.un93' : Tryd.prog.underlying 93 = some (.slice 4) := Fx.un93

-- -- function 60
set_option maxHeartbeats 4000000 in
set_option maxRecDepth 8000 in
theorem reached1_ok {J' : RS → World → Prop} {Jx' : World → Prop} (W : World) (l b1 b2 hb rb : Nat) (vs : Value) (ps gs : List Nat) (H : List Ob) (rv : Value) (roots : List Wd) (hl : H.length ≤ 1048576) (hW : Wf H) (hr : ∀ x ∈ roots, 0 ≤ x.r ∧ x.r ≤ (H.length : Int)) (hrl : roots.length ≤ 1073741824)
    (hJ : ∀ s W, J' s W → HF W s b1 b2 hb rb vs ps gs H rv roots)
    (hgen : ∀ s W s' W', GenR s W s' W' → J' s W → J' s' W')
    (h0 : J' ⟨0, fun _ => False, fun _ => none⟩ W)
    (hy : ∀ s W r, (bfsQ H roots)[s.i]? = some r → J' s W → Vg.Yields Tryd.prog l [.int .i64 r] W (fun b W' => (b = true ∧ J' ⟨s.i + 1, s.own, s.snap⟩ W') ∨ (b = false ∧ Jx' W'))) :
    Rets Tryd.prog 60 [.func (.yield l) #[] #[], ptrOf b1, ptrOf b2] W (fun _ W' => (∃ s, s.i = (bfsQ H roots).length ∧ J' s W') ∨ Jx' W') := by
  have h00 := hJ _ _ h0
  obtain ⟨Av, cv, hvs, hvlen, hvcell⟩ := h00.hp.sli (by omega)
  have hL : (ps.map fun p => [ptrOf p]).length = H.length := by simp [h00.hp.lenp]
  rw [hL] at hvs
  have hhead : W.cell? ⟨hb, 0, none⟩ = some (.slice Av H.length cv) := by
    have hq := h00.hp.head.cell (j := 0) (u := vs) rfl
    rw [hvs] at hq
    exact hq
  obtain ⟨A, c, hrv, hrlen, hrcell⟩ := h00.sl
  rw [wd_len] at hrv hrlen
  subst hrv
  refine rets_of_ok Tryd.func60 rfl rfl ?_
  refine ok_seq (fun M hM => ok_region rfl ?_)
  repeat ((try first | (refine ofX3 hX ?_; clear hX X) | (refine ofX2 hX ?_; clear hX X)); (first | refine wpL_step (fun X hX => ?_) | refine wpH_step (fun X hX => ?_) | refine wpE_step (fun X hX => ?_) | refine wpL_end ?_ | refine wpH_end ?_ | refine wpE_end ?_); try simp only [ oweC, oweP, opF, opH, ev, evs, evp, evo, Env.get, Env.set, putE, gdst, S0, S1, thenN, inBlockN, argEnv, builtinR, retE, fin, callR, reduceIte, Nat.reduceEqDiff, Nat.reduceAdd, reduceCtorEq, forall_const, Tryd.results60, Fx.ag28, Fx.ag3, Fx.ag42, Fx.ag56, Fx.ag73, Fx.ag78, Fx.es56, Fx.es78, Fx.fo59_0, Fx.fo70_0, Fx.fo72_0, Fx.isl56, Fx.isl78])
  refine ⟨_, h00.k1, ?_⟩
  repeat ((try first | (refine ofX3 hX ?_; clear hX X) | (refine ofX2 hX ?_; clear hX X)); (first | refine wpL_step (fun X hX => ?_) | refine wpH_step (fun X hX => ?_) | refine wpE_step (fun X hX => ?_) | refine wpL_end ?_ | refine wpH_end ?_ | refine wpE_end ?_); try simp only [ oweC, oweP, opF, opH, ev, evs, evp, evo, Env.get, Env.set, putE, gdst, S0, S1, thenN, inBlockN, argEnv, builtinR, retE, fin, callR, reduceIte, Nat.reduceEqDiff, Nat.reduceAdd, reduceCtorEq, forall_const, Tryd.results60, Fx.ag28, Fx.ag3, Fx.ag42, Fx.ag56, Fx.ag73, Fx.ag78, Fx.es56, Fx.es78, Fx.fo59_0, Fx.fo70_0, Fx.fo72_0, Fx.isl56, Fx.isl78])
  refine ⟨_, hhead, ?_⟩
  repeat ((try first | (refine ofX3 hX ?_; clear hX X) | (refine ofX2 hX ?_; clear hX X)); (first | refine wpL_step (fun X hX => ?_) | refine wpH_step (fun X hX => ?_) | refine wpE_step (fun X hX => ?_) | refine wpL_end ?_ | refine wpH_end ?_ | refine wpE_end ?_); try simp only [ oweC, oweP, opF, opH, ev, evs, evp, evo, Env.get, Env.set, putE, gdst, S0, S1, thenN, inBlockN, argEnv, builtinR, retE, fin, callR, reduceIte, Nat.reduceEqDiff, Nat.reduceAdd, reduceCtorEq, forall_const, Tryd.results60, Fx.ag28, Fx.ag3, Fx.ag42, Fx.ag56, Fx.ag73, Fx.ag78, Fx.es56, Fx.es78, Fx.fo59_0, Fx.fo70_0, Fx.fo72_0, Fx.isl56, Fx.isl78])
  refine ⟨by simp only [inI]; omega, ?_⟩
  repeat ((try first | (refine ofX3 hX ?_; clear hX X) | (refine ofX2 hX ?_; clear hX X)); (first | refine wpL_step (fun X hX => ?_) | refine wpH_step (fun X hX => ?_) | refine wpE_step (fun X hX => ?_) | refine wpL_end ?_ | refine wpH_end ?_ | refine wpE_end ?_); try simp only [ oweC, oweP, opF, opH, ev, evs, evp, evo, Env.get, Env.set, putE, gdst, S0, S1, thenN, inBlockN, argEnv, builtinR, retE, fin, callR, reduceIte, Nat.reduceEqDiff, Nat.reduceAdd, reduceCtorEq, forall_const, Tryd.results60, Fx.ag28, Fx.ag3, Fx.ag42, Fx.ag56, Fx.ag73, Fx.ag78, Fx.es56, Fx.es78, Fx.fo59_0, Fx.fo70_0, Fx.fo72_0, Fx.isl56, Fx.isl78])
  refine Runs.make1 Fx.un93 Fx.zi4 rfl (by omega) (by omega) (by omega) (fun w2 he2 hz2 hb2 => ?_)
  generalize hB2 : W.heap.size = B2 at hz2 hb2
  have hto : ((H.length : Int) + 1).toNat = H.length + 1 := by omega
  rw [hto] at hb2 ⊢
  repeat ((try first | (refine ofX3 hX ?_; clear hX X) | (refine ofX2 hX ?_; clear hX X)); (first | refine wpL_step (fun X hX => ?_) | refine wpH_step (fun X hX => ?_) | refine wpE_step (fun X hX => ?_) | refine wpL_end ?_ | refine wpH_end ?_ | refine wpE_end ?_); try simp only [ oweC, oweP, opF, opH, ev, evs, evp, evo, Env.get, Env.set, putE, gdst, S0, S1, thenN, inBlockN, argEnv, builtinR, retE, fin, callR, reduceIte, Nat.reduceEqDiff, Nat.reduceAdd, reduceCtorEq, forall_const, Tryd.results60, Fx.ag28, Fx.ag3, Fx.ag42, Fx.ag56, Fx.ag73, Fx.ag78, Fx.es56, Fx.es78, Fx.fo59_0, Fx.fo70_0, Fx.fo72_0, Fx.isl56, Fx.isl78])
  refine Runs.alloc Fx.zi93 (fun w3 he3 hz3 hb3 => ?_)
  generalize hB3 : w2.heap.size = B3 at hz3 hb3
  simp only [Value.cells] at hb3
  repeat ((try first | (refine ofX3 hX ?_; clear hX X) | (refine ofX2 hX ?_; clear hX X)); (first | refine wpL_step (fun X hX => ?_) | refine wpH_step (fun X hX => ?_) | refine wpE_step (fun X hX => ?_) | refine wpL_end ?_ | refine wpH_end ?_ | refine wpE_end ?_); try simp only [ oweC, oweP, opF, opH, ev, evs, evp, evo, Env.get, Env.set, putE, gdst, S0, S1, thenN, inBlockN, argEnv, builtinR, retE, fin, callR, reduceIte, Nat.reduceEqDiff, Nat.reduceAdd, reduceCtorEq, forall_const, Tryd.results60, Fx.ag28, Fx.ag3, Fx.ag42, Fx.ag56, Fx.ag73, Fx.ag78, Fx.es56, Fx.es78, Fx.fo59_0, Fx.fo70_0, Fx.fo72_0, Fx.isl56, Fx.isl78])
  refine Runs.store hb3 Fx.zi93 rfl (by intro u hu; simp [Value.cells] at hu; subst hu; rfl) (by simp) (fun w4 hc4 hz4 hb4 => ?_)
  rw [splice_all _ _ (by simp [Value.cells])] at hb4
  simp only [Value.cells] at hb4
  repeat ((try first | (refine ofX3 hX ?_; clear hX X) | (refine ofX2 hX ?_; clear hX X)); (first | refine wpL_step (fun X hX => ?_) | refine wpH_step (fun X hX => ?_) | refine wpE_step (fun X hX => ?_) | refine wpL_end ?_ | refine wpH_end ?_ | refine wpE_end ?_); try simp only [ oweC, oweP, opF, opH, ev, evs, evp, evo, Env.get, Env.set, putE, gdst, S0, S1, thenN, inBlockN, argEnv, builtinR, retE, fin, callR, reduceIte, Nat.reduceEqDiff, Nat.reduceAdd, reduceCtorEq, forall_const, Tryd.results60, Fx.ag28, Fx.ag3, Fx.ag42, Fx.ag56, Fx.ag73, Fx.ag78, Fx.es56, Fx.es78, Fx.fo59_0, Fx.fo70_0, Fx.fo72_0, Fx.isl56, Fx.isl78])
  refine hM _ _ _ ?_; clear hM M
  refine ok_seq (fun M hM => ok_region rfl ?_)
  repeat ((try first | (refine ofX3 hX ?_; clear hX X) | (refine ofX2 hX ?_; clear hX X)); (first | refine wpL_step (fun X hX => ?_) | refine wpH_step (fun X hX => ?_) | refine wpE_step (fun X hX => ?_) | refine wpL_end ?_ | refine wpH_end ?_ | refine wpE_end ?_); try simp only [ oweC, oweP, opF, opH, ev, evs, evp, evo, Env.get, Env.set, putE, gdst, S0, S1, thenN, inBlockN, argEnv, builtinR, retE, fin, callR, reduceIte, Nat.reduceEqDiff, Nat.reduceAdd, reduceCtorEq, forall_const, Tryd.results60, Fx.ag28, Fx.ag3, Fx.ag42, Fx.ag56, Fx.ag73, Fx.ag78, Fx.es56, Fx.es78, Fx.fo59_0, Fx.fo70_0, Fx.fo72_0, Fx.isl56, Fx.isl78])
  refine Runs.alloc Fx.zi78 (fun w5 he5 hz5 hb5 => ?_)
  generalize hB5 : w4.heap.size = B5 at hz5 hb5
  simp only [Value.cells] at hb5
  repeat ((try first | (refine ofX3 hX ?_; clear hX X) | (refine ofX2 hX ?_; clear hX X)); (first | refine wpL_step (fun X hX => ?_) | refine wpH_step (fun X hX => ?_) | refine wpE_step (fun X hX => ?_) | refine wpL_end ?_ | refine wpH_end ?_ | refine wpE_end ?_); try simp only [ oweC, oweP, opF, opH, ev, evs, evp, evo, Env.get, Env.set, putE, gdst, S0, S1, thenN, inBlockN, argEnv, builtinR, retE, fin, callR, reduceIte, Nat.reduceEqDiff, Nat.reduceAdd, reduceCtorEq, forall_const, Tryd.results60, Fx.ag28, Fx.ag3, Fx.ag42, Fx.ag56, Fx.ag73, Fx.ag78, Fx.es56, Fx.es78, Fx.fo59_0, Fx.fo70_0, Fx.fo72_0, Fx.isl56, Fx.isl78])
  refine hM _ _ _ ?_; clear hM M
  refine ok_seq (fun M hM => ok_region rfl ?_); repeat ((try first | (refine ofX3 hX ?_; clear hX X) | (refine ofX2 hX ?_; clear hX X)); (first | refine wpL_step (fun X hX => ?_) | refine wpH_step (fun X hX => ?_) | refine wpE_step (fun X hX => ?_) | refine wpL_end ?_ | refine wpH_end ?_ | refine wpE_end ?_); try simp only [ oweC, oweP, opF, opH, ev, evs, evp, evo, Env.get, Env.set, putE, gdst, S0, S1, thenN, inBlockN, argEnv, builtinR, retE, fin, callR, reduceIte, Nat.reduceEqDiff, Nat.reduceAdd, reduceCtorEq, forall_const, Tryd.results60, Fx.ag28, Fx.ag3, Fx.ag42, Fx.ag56, Fx.ag73, Fx.ag78, Fx.es56, Fx.es78, Fx.fo59_0, Fx.fo70_0, Fx.fo72_0, Fx.isl56, Fx.isl78])
  refine hM _ _ _ ?_; clear hM M
  have he5' : Ext W w5 := ((he2.trans he3).chg_trans hc4 (fun k hk => by omega)).trans he5
  have hq5 : Que w5 W.heap.size B2 B3 B5 (List.replicate (H.length + 1) false) [] (.slice none 0 0) (fun k => k = B2 ∨ k = B3 ∨ k = B5) := by
    refine ⟨?_, ?_, hb5, World.ownsRow_nil _ _ _ _, .inl rfl, .inr (.inl rfl), .inr (.inr rfl), fun k hk => by simp [Value.ownBlock] at hk, ⟨by omega, by omega, by omega⟩, fun k hk => by omega⟩
    · have := (((hb2.ext he3).chg hc4 (by omega)).ext he5)
      simpa [bvs] using this
    · rw [List.length_replicate]; exact hb4.ext he5
  have hG5 : ∀ (w' : World) (own' : Nat → Prop), Chg (fun k => k = B2 ∨ k = B3 ∨ k = B5) w5 w' → (∀ k, own' k → (k = B2 ∨ k = B3 ∨ k = B5 ∨ w5.heap.size ≤ k) ∧ k < w'.heap.size) → J' ⟨0, own', fun k => w'.heap[k]?⟩ w' := fun w' own' hc ho =>
    hgen ⟨0, fun _ => False, fun _ => none⟩ W ⟨0, own', fun k => w'.heap[k]?⟩ w' ⟨rfl, (he5'.chg _).trans_new hc (fun k hk => by omega), fun k h => h.elim, fun k hk => ⟨.inr (by have := ho k hk; have := he5'.size; omega), (ho k hk).2⟩, rfl⟩ h0
  refine ok_seq (fun M hM => ok_region rfl ?_)
  repeat ((try first | (refine ofX3 hX ?_; clear hX X) | (refine ofX2 hX ?_; clear hX X)); (first | refine wpL_step (fun X hX => ?_) | refine wpH_step (fun X hX => ?_) | refine wpE_step (fun X hX => ?_) | refine wpL_end ?_ | refine wpH_end ?_ | refine wpE_end ?_); try simp only [ oweC, oweP, opF, opH, ev, evs, evp, evo, Env.get, Env.set, putE, gdst, S0, S1, thenN, inBlockN, argEnv, builtinR, retE, fin, callR, reduceIte, Nat.reduceEqDiff, Nat.reduceAdd, reduceCtorEq, forall_const, Tryd.results60, Fx.ag28, Fx.ag3, Fx.ag42, Fx.ag56, Fx.ag73, Fx.ag78, Fx.es56, Fx.es78, Fx.fo59_0, Fx.fo70_0, Fx.fo72_0, Fx.isl56, Fx.isl78])
  refine ⟨_, he5'.cell h00.k2, ?_⟩
  repeat ((try first | (refine ofX3 hX ?_; clear hX X) | (refine ofX2 hX ?_; clear hX X)); (first | refine wpL_step (fun X hX => ?_) | refine wpH_step (fun X hX => ?_) | refine wpE_step (fun X hX => ?_) | refine wpL_end ?_ | refine wpH_end ?_ | refine wpE_end ?_); try simp only [ oweC, oweP, opF, opH, ev, evs, evp, evo, Env.get, Env.set, putE, gdst, S0, S1, thenN, inBlockN, argEnv, builtinR, retE, fin, callR, reduceIte, Nat.reduceEqDiff, Nat.reduceAdd, reduceCtorEq, forall_const, Tryd.results60, Fx.ag28, Fx.ag3, Fx.ag42, Fx.ag56, Fx.ag73, Fx.ag78, Fx.es56, Fx.es78, Fx.fo59_0, Fx.fo70_0, Fx.fo72_0, Fx.isl56, Fx.isl78])
  refine Inv.clos (cap := [ptrOf B3, ptrOf B5]) Fx.en61 (push_ok w5 W.heap.size B2 B3 B5 H.length _ _ _ _ (.slice A roots.length c) roots (by omega) hrl hq5 (Qok.nil _) (by rw [unseen_rep]; simp) hr ⟨A, c, rfl⟩ ?_) ?_
  · intro w' G' hG' hc'
    have hc2 : Chg (fun k => k = B2 ∨ k = B3 ∨ k = B5) w5 w' := ⟨hc'.os, hc'.tape, hc'.output, hc'.size, fun k hk hn => hc'.block k hk (fun h => by rcases hG' k h with h | h <;> first | exact hn h | omega)⟩
    exact (hJ _ _ (hG5 w' (fun _ => False) hc2 (fun k h => h.elim))).sl
  rintro v w6 ⟨qv6, G6, hq6, hc6, hs6, hn6⟩
  repeat ((try first | (refine ofX3 hX ?_; clear hX X) | (refine ofX2 hX ?_; clear hX X)); (first | refine wpL_step (fun X hX => ?_) | refine wpH_step (fun X hX => ?_) | refine wpE_step (fun X hX => ?_) | refine wpL_end ?_ | refine wpH_end ?_ | refine wpE_end ?_); try simp only [ oweC, oweP, opF, opH, ev, evs, evp, evo, Env.get, Env.set, putE, gdst, S0, S1, thenN, inBlockN, argEnv, builtinR, retE, fin, callR, reduceIte, Nat.reduceEqDiff, Nat.reduceAdd, reduceCtorEq, forall_const, Tryd.results60, Fx.ag28, Fx.ag3, Fx.ag42, Fx.ag56, Fx.ag73, Fx.ag78, Fx.es56, Fx.es78, Fx.fo59_0, Fx.fo70_0, Fx.fo72_0, Fx.isl56, Fx.isl78])
  refine hM _ _ _ ?_; clear hM M
  have hp6 := pushF_inv (n := H.length) roots (List.replicate (H.length + 1) false) [] hr (Qok.nil _)
  have hJ6 := hG5 w6 G6 hc6 (fun k hk => ⟨by rcases hn6 k hk with h | h <;> omega, (hq6.lt k hk).2⟩)
  refine ok_seq (fun M hM => ok_region rfl ?_); repeat ((try first | (refine ofX3 hX ?_; clear hX X) | (refine ofX2 hX ?_; clear hX X)); (first | refine wpL_step (fun X hX => ?_) | refine wpH_step (fun X hX => ?_) | refine wpE_step (fun X hX => ?_) | refine wpL_end ?_ | refine wpH_end ?_ | refine wpE_end ?_); try simp only [ oweC, oweP, opF, opH, ev, evs, evp, evo, Env.get, Env.set, putE, gdst, S0, S1, thenN, inBlockN, argEnv, builtinR, retE, fin, callR, reduceIte, Nat.reduceEqDiff, Nat.reduceAdd, reduceCtorEq, forall_const, Tryd.results60, Fx.ag28, Fx.ag3, Fx.ag42, Fx.ag56, Fx.ag73, Fx.ag78, Fx.es56, Fx.es78, Fx.fo59_0, Fx.fo70_0, Fx.fo72_0, Fx.isl56, Fx.isl78])
  refine hM _ _ _ ?_; clear hM M
  have hlen0 : (List.replicate (H.length + 1) false).length = H.length + 1 := by simp
  refine ok_block ?_
  refine ok_loop (S := RS × List Bool × List Int × Value × Nat) (fun s => [(0, .func (.yield l) #[] #[]), (1, ptrOf b1), (2, ptrOf b2), (5, ptrOf B5), (6, .func (.func 61) #[] #[ptrOf B3, ptrOf B5]), (7, .int .i64 (s.1.i : Int))])
    (fun s w' => J' s.1 w' ∧ Que w' W.heap.size B2 B3 B5 s.2.1 s.2.2.1 s.2.2.2.1 s.1.own ∧ Qok H.length s.2.1 s.2.2.1 ∧ unseen s.2.1 + s.2.2.1.length ≤ H.length + 1 ∧ s.1.i ≤ s.2.2.1.length ∧ unseen s.2.1 + (s.2.2.1.length - s.1.i) ≤ s.2.2.2.2 ∧ bfsQ H roots = bfs H s.2.2.2.2 s.2.1 s.2.2.1 s.1.i) (fun s => s.2.2.2.2)
    (⟨0, G6, fun k => w6.heap[k]?⟩, (pushF (List.replicate (H.length + 1) false) [] roots).1, (pushF (List.replicate (H.length + 1) false) [] roots).2, qv6, H.length + 1) ?_ ?_ ?_
  · simp [sub, Env.get]
  · have hu := hp6.2.2
    rw [unseen_rep] at hu
    simp only [List.length_nil, Nat.add_zero] at hu
    exact ⟨hJ6, hq6, hp6.1, by simp only; omega, Nat.zero_le _, by simp only; omega, rfl⟩
  rintro ⟨s, sn, q, qv, f⟩ w7 ⟨hJ7, hq7, hQ7, hu7, hi7, hf7, hb7⟩
  simp only at hq7 hQ7 hu7 hi7 hf7 hb7 ⊢
  have hF7 := hJ _ _ hJ7
  obtain ⟨qA, qc, hqv⟩ : ∃ qA qc, qv = .slice qA q.length qc := by
    rcases hq7.own.2 with ⟨h1, h2⟩ | ⟨g, cap, cur, h1, _⟩
    · exact ⟨none, 0, by rw [h2]; exact h1⟩
    · exact ⟨_, _, h1⟩
  have hqS : SlI w7 qv q := by
    have := Sli.of_own (rows := Vg.ints q) hq7.own (ivs_flat q) (by simp [Vg.ints]) (by simp) (by omega)
    exact this
  subst hqv
  have hown := hq7.lt
  refine ok_seq (fun M1 hM1 => ?_)
  refine ok_seq (fun M hM => ok_region rfl ?_)
  repeat ((try first | (refine ofX3 hX ?_; clear hX X) | (refine ofX2 hX ?_; clear hX X)); (first | refine wpL_step (fun X hX => ?_) | refine wpH_step (fun X hX => ?_) | refine wpE_step (fun X hX => ?_) | refine wpL_end ?_ | refine wpH_end ?_ | refine wpE_end ?_); try simp only [ oweC, oweP, opF, opH, ev, evs, evp, evo, Env.get, Env.set, putE, gdst, S0, S1, thenN, inBlockN, argEnv, builtinR, retE, fin, callR, reduceIte, Nat.reduceEqDiff, Nat.reduceAdd, reduceCtorEq, forall_const, Tryd.results60, Fx.ag28, Fx.ag3, Fx.ag42, Fx.ag56, Fx.ag73, Fx.ag78, Fx.es56, Fx.es78, Fx.fo59_0, Fx.fo70_0, Fx.fo72_0, Fx.isl56, Fx.isl78])
  refine ⟨_, hq7.c2.cell (j := 0) rfl, ?_⟩
  repeat ((try first | (refine ofX3 hX ?_; clear hX X) | (refine ofX2 hX ?_; clear hX X)); (first | refine wpL_step (fun X hX => ?_) | refine wpH_step (fun X hX => ?_) | refine wpE_step (fun X hX => ?_) | refine wpL_end ?_ | refine wpH_end ?_ | refine wpE_end ?_); try simp only [ oweC, oweP, opF, opH, ev, evs, evp, evo, Env.get, Env.set, putE, gdst, S0, S1, thenN, inBlockN, argEnv, builtinR, retE, fin, callR, reduceIte, Nat.reduceEqDiff, Nat.reduceAdd, reduceCtorEq, forall_const, Tryd.results60, Fx.ag28, Fx.ag3, Fx.ag42, Fx.ag56, Fx.ag73, Fx.ag78, Fx.es56, Fx.es78, Fx.fo59_0, Fx.fo70_0, Fx.fo72_0, Fx.isl56, Fx.isl78])
  refine hM _ _ _ ?_; clear hM M
  refine ok_if rfl (fun hc => ok_skip ?_) (fun hc => ok_exit ?_)
  rotate_left
  · try simp only [wpL, wpH, wpE, oweC, oweP, opF, opH, ev, evs, evp, evo, Env.get, Env.set, putE, gdst, S0, S1, thenN, inBlockN, argEnv, builtinR, retE, fin, callR, reduceIte, Nat.reduceEqDiff, Nat.reduceAdd, reduceCtorEq, forall_const, Tryd.results60, Fx.ag28, Fx.ag3, Fx.ag42, Fx.ag56, Fx.ag73, Fx.ag78, Fx.es56, Fx.es78, Fx.fo59_0, Fx.fo70_0, Fx.fo72_0, Fx.isl56, Fx.isl78]
    have hiq : s.i = q.length := by omega
    have hbq : bfs H f sn q s.i = q := by
      cases f with
      | zero => rfl
      | succ f => simp only [bfs]; rw [List.getElem?_eq_none (by omega)]
    exact .inl ⟨s, by rw [hb7, hbq, hiq], hJ7⟩
  try simp only [wpL, wpH, wpE, oweC, oweP, opF, opH, ev, evs, evp, evo, Env.get, Env.set, putE, gdst, S0, S1, thenN, inBlockN, argEnv, builtinR, retE, fin, callR, reduceIte, Nat.reduceEqDiff, Nat.reduceAdd, reduceCtorEq, forall_const, Tryd.results60, Fx.ag28, Fx.ag3, Fx.ag42, Fx.ag56, Fx.ag73, Fx.ag78, Fx.es56, Fx.es78, Fx.fo59_0, Fx.fo70_0, Fx.fo72_0, Fx.isl56, Fx.isl78]
  refine hM1 _ _ _ ?_; clear hM1 M1
  have hil : s.i < q.length := by omega
  have hri : q[s.i]? = some q[s.i] := List.getElem?_eq_getElem hil
  have hrr := hQ7.ref _ (List.getElem_mem hil)
  generalize q[s.i] = r at hri hrr
  have hpre := bfs_prefix hW f sn q s.i hQ7
  have hQr : (bfsQ H roots)[s.i]? = some r := by
    rw [hb7]
    obtain ⟨t, ht⟩ := hpre.1
    rw [← ht, List.getElem?_append_left hil]
    exact hri
  obtain ⟨qA', qc', hqe, -, hqcell⟩ := hqS.at_
  injection hqe with hqe1 hqe2 hqe3
  subst hqe1
  obtain ⟨qb, qo, rfl, hqc0⟩ := hqcell s.i hil
  have hqc : w7.cell? ⟨qb, qo + s.i, none⟩ = some (.int .i64 r) := by
    rw [hqc0]
    rw [List.getElem?_eq_getElem hil] at hri
    rw [Option.some.inj hri]
  refine ok_seq (fun M1 hM1 => ok_block ?_)
  refine ok_join [(0, .func (.yield l) #[] #[]), (1, ptrOf b1), (2, ptrOf b2), (5, ptrOf B5), (6, .func (.func 61) #[] #[ptrOf B3, ptrOf B5]), (7, .int .i64 (s.i : Int))] (fun w8 => J' ⟨s.i + 1, s.own, s.snap⟩ w8) ?_ ?_
  · refine ok_seq (fun M hM => ok_region rfl ?_)
    repeat ((try first | (refine ofX3 hX ?_; clear hX X) | (refine ofX2 hX ?_; clear hX X)); (first | refine wpL_step (fun X hX => ?_) | refine wpH_step (fun X hX => ?_) | refine wpE_step (fun X hX => ?_) | refine wpL_end ?_ | refine wpH_end ?_ | refine wpE_end ?_); try simp only [ oweC, oweP, opF, opH, ev, evs, evp, evo, Env.get, Env.set, putE, gdst, S0, S1, thenN, inBlockN, argEnv, builtinR, retE, fin, callR, reduceIte, Nat.reduceEqDiff, Nat.reduceAdd, reduceCtorEq, forall_const, Tryd.results60, Fx.ag28, Fx.ag3, Fx.ag42, Fx.ag56, Fx.ag73, Fx.ag78, Fx.es56, Fx.es78, Fx.fo59_0, Fx.fo70_0, Fx.fo72_0, Fx.isl56, Fx.isl78])
    refine ⟨_, hq7.c2.cell (j := 0) rfl, ?_⟩
    repeat ((try first | (refine ofX3 hX ?_; clear hX X) | (refine ofX2 hX ?_; clear hX X)); (first | refine wpL_step (fun X hX => ?_) | refine wpH_step (fun X hX => ?_) | refine wpE_step (fun X hX => ?_) | refine wpL_end ?_ | refine wpH_end ?_ | refine wpE_end ?_); try simp only [ oweC, oweP, opF, opH, ev, evs, evp, evo, Env.get, Env.set, putE, gdst, S0, S1, thenN, inBlockN, argEnv, builtinR, retE, fin, callR, reduceIte, Nat.reduceEqDiff, Nat.reduceAdd, reduceCtorEq, forall_const, Tryd.results60, Fx.ag28, Fx.ag3, Fx.ag42, Fx.ag56, Fx.ag73, Fx.ag78, Fx.es56, Fx.es78, Fx.fo59_0, Fx.fo70_0, Fx.fo72_0, Fx.isl56, Fx.isl78])
    refine ⟨by omega, by omega, ?_⟩
    repeat ((try first | (refine ofX3 hX ?_; clear hX X) | (refine ofX2 hX ?_; clear hX X)); (first | refine wpL_step (fun X hX => ?_) | refine wpH_step (fun X hX => ?_) | refine wpE_step (fun X hX => ?_) | refine wpL_end ?_ | refine wpH_end ?_ | refine wpE_end ?_); try simp only [ oweC, oweP, opF, opH, ev, evs, evp, evo, Env.get, Env.set, putE, gdst, S0, S1, thenN, inBlockN, argEnv, builtinR, retE, fin, callR, reduceIte, Nat.reduceEqDiff, Nat.reduceAdd, reduceCtorEq, forall_const, Tryd.results60, Fx.ag28, Fx.ag3, Fx.ag42, Fx.ag56, Fx.ag73, Fx.ag78, Fx.es56, Fx.es78, Fx.fo59_0, Fx.fo70_0, Fx.fo72_0, Fx.isl56, Fx.isl78])
    refine ⟨_, by simpa using hqc, ?_⟩
    repeat ((try first | (refine ofX3 hX ?_; clear hX X) | (refine ofX2 hX ?_; clear hX X)); (first | refine wpL_step (fun X hX => ?_) | refine wpH_step (fun X hX => ?_) | refine wpE_step (fun X hX => ?_) | refine wpL_end ?_ | refine wpH_end ?_ | refine wpE_end ?_); try simp only [ oweC, oweP, opF, opH, ev, evs, evp, evo, Env.get, Env.set, putE, gdst, S0, S1, thenN, inBlockN, argEnv, builtinR, retE, fin, callR, reduceIte, Nat.reduceEqDiff, Nat.reduceAdd, reduceCtorEq, forall_const, Tryd.results60, Fx.ag28, Fx.ag3, Fx.ag42, Fx.ag56, Fx.ag73, Fx.ag78, Fx.es56, Fx.es78, Fx.fo59_0, Fx.fo70_0, Fx.fo72_0, Fx.isl56, Fx.isl78])
    refine Inv.yield (hy s w7 r hQr hJ7) ?_
    rintro b w8 hb
    repeat ((try first | (refine ofX3 hX ?_; clear hX X) | (refine ofX2 hX ?_; clear hX X)); (first | refine wpL_step (fun X hX => ?_) | refine wpH_step (fun X hX => ?_) | refine wpE_step (fun X hX => ?_) | refine wpL_end ?_ | refine wpH_end ?_ | refine wpE_end ?_); try simp only [ oweC, oweP, opF, opH, ev, evs, evp, evo, Env.get, Env.set, putE, gdst, S0, S1, thenN, inBlockN, argEnv, builtinR, retE, fin, callR, reduceIte, Nat.reduceEqDiff, Nat.reduceAdd, reduceCtorEq, forall_const, Tryd.results60, Fx.ag28, Fx.ag3, Fx.ag42, Fx.ag56, Fx.ag73, Fx.ag78, Fx.es56, Fx.es78, Fx.fo59_0, Fx.fo70_0, Fx.fo72_0, Fx.isl56, Fx.isl78])
    refine hM _ _ _ ?_; clear hM M
    rcases hb with ⟨rfl, hb⟩ | ⟨rfl, hb⟩
    · refine ok_cond (b := false) rfl (fun h => by cases h) (fun _ => ok_skip ?_)
      try simp only [wpL, wpH, wpE, oweC, oweP, opF, opH, ev, evs, evp, evo, Env.get, Env.set, putE, gdst, S0, S1, thenN, inBlockN, argEnv, builtinR, retE, fin, callR, reduceIte, Nat.reduceEqDiff, Nat.reduceAdd, reduceCtorEq, forall_const, Tryd.results60, Fx.ag28, Fx.ag3, Fx.ag42, Fx.ag56, Fx.ag73, Fx.ag78, Fx.es56, Fx.es78, Fx.fo59_0, Fx.fo70_0, Fx.fo72_0, Fx.isl56, Fx.isl78]
      exact ⟨by simp [sub, Env.get], hb⟩
    · refine ok_cond (b := true) rfl (fun _ => ok_ret ?_) (fun h => by cases h)
      try simp only [wpL, wpH, wpE, oweC, oweP, opF, opH, ev, evs, evp, evo, Env.get, Env.set, putE, gdst, S0, S1, thenN, inBlockN, argEnv, builtinR, retE, fin, callR, reduceIte, Nat.reduceEqDiff, Nat.reduceAdd, reduceCtorEq, forall_const, Tryd.results60, Fx.ag28, Fx.ag3, Fx.ag42, Fx.ag56, Fx.ag73, Fx.ag78, Fx.es56, Fx.es78, Fx.fo59_0, Fx.fo70_0, Fx.fo72_0, Fx.isl56, Fx.isl78]
      exact .inr hb
  intro w8 hJ8
  have hF8 := hJ _ _ hJ8
  have hq8 : Que w8 W.heap.size B2 B3 B5 sn q (.slice (some ⟨qb, qo, none⟩) q.length qc) s.own := hq7.same (fun k hk => (hF8.snap k hk).trans (hF7.snap k hk).symm)
  obtain ⟨i, o, hio, hi, ho, hoo⟩ := objAt_in (H := H) (r := r) hrr.1 hrr.2
  subst hio
  obtain ⟨p, g, hp, hg, hob⟩ := hF8.hp.at_ ho
  obtain ⟨A2, c2, hlc, hll, hls⟩ := hob.listS
  have hgF : ¬ s.own g := hF8.foot g (.inr (.inr (.inr (List.mem_of_getElem? hg))))
  obtain ⟨Av2, cv2, hvs2, -, hvcell2⟩ := hF8.hp.sli (by omega)
  rw [hL] at hvs2
  obtain ⟨b, off, hAv, hcc⟩ := hvcell2 i [ptrOf p] (by rw [List.getElem?_map, hp]; rfl)
  subst hAv
  have hcc0 := hcc 0 _ rfl
  have hhead8 : w8.cell? ⟨hb, 0, none⟩ = some (.slice (some ⟨b, off, none⟩) H.length cv2) := by
    have hq := hF8.hp.head.cell (j := 0) (u := vs) rfl
    rw [hvs2] at hq
    exact hq
  have hqc8 : w8.cell? ⟨qb, qo + s.i, none⟩ = some (.int .i64 ((i : Int) + 1)) := by
    have hqbo : s.own qb := (hq7.go qb rfl).1
    exact (World.cell?_of_block ((hF8.snap qb hqbo).trans (hF7.snap qb hqbo).symm)).trans hqc
  have e5 : ((i : Int) + 1 - 1).toNat = i := by omega
  refine (ok_draw 16 [(false, true)] (Ext _) Fx.mixed (by decide) rfl (by decide +kernel) (by decide +kernel) (Ext.drew _) ?_)
  repeat ((try first | (refine ofX3 hX ?_; clear hX X) | (refine ofX2 hX ?_; clear hX X)); (first | refine wpL_step (fun X hX => ?_) | refine wpH_step (fun X hX => ?_) | refine wpE_step (fun X hX => ?_) | refine wpL_end ?_ | refine wpH_end ?_ | refine wpE_end ?_); try simp only [ oweC, oweP, opF, opH, ev, evs, evp, evo, Env.get, Env.set, putE, gdst, S0, S1, thenN, inBlockN, argEnv, builtinR, retE, fin, callR, reduceIte, Nat.reduceEqDiff, Nat.reduceAdd, reduceCtorEq, forall_const, Tryd.results60, Fx.ag28, Fx.ag3, Fx.ag42, Fx.ag56, Fx.ag73, Fx.ag78, Fx.es56, Fx.es78, Fx.fo59_0, Fx.fo70_0, Fx.fo72_0, Fx.isl56, Fx.isl78])
  refine ⟨_, fun w' h => h.cell hF8.k1, ?_⟩
  repeat ((try first | (refine ofX3 hX ?_; clear hX X) | (refine ofX2 hX ?_; clear hX X)); (first | refine wpL_step (fun X hX => ?_) | refine wpH_step (fun X hX => ?_) | refine wpE_step (fun X hX => ?_) | refine wpL_end ?_ | refine wpH_end ?_ | refine wpE_end ?_); try simp only [ oweC, oweP, opF, opH, ev, evs, evp, evo, Env.get, Env.set, putE, gdst, S0, S1, thenN, inBlockN, argEnv, builtinR, retE, fin, callR, reduceIte, Nat.reduceEqDiff, Nat.reduceAdd, reduceCtorEq, forall_const, Tryd.results60, Fx.ag28, Fx.ag3, Fx.ag42, Fx.ag56, Fx.ag73, Fx.ag78, Fx.es56, Fx.es78, Fx.fo59_0, Fx.fo70_0, Fx.fo72_0, Fx.isl56, Fx.isl78])
  refine ⟨_, fun w' h => h.cell hhead8, ?_⟩
  repeat ((try first | (refine ofX3 hX ?_; clear hX X) | (refine ofX2 hX ?_; clear hX X)); (first | refine wpL_step (fun X hX => ?_) | refine wpH_step (fun X hX => ?_) | refine wpE_step (fun X hX => ?_) | refine wpL_end ?_ | refine wpH_end ?_ | refine wpE_end ?_); try simp only [ oweC, oweP, opF, opH, ev, evs, evp, evo, Env.get, Env.set, putE, gdst, S0, S1, thenN, inBlockN, argEnv, builtinR, retE, fin, callR, reduceIte, Nat.reduceEqDiff, Nat.reduceAdd, reduceCtorEq, forall_const, Tryd.results60, Fx.ag28, Fx.ag3, Fx.ag42, Fx.ag56, Fx.ag73, Fx.ag78, Fx.es56, Fx.es78, Fx.fo59_0, Fx.fo70_0, Fx.fo72_0, Fx.isl56, Fx.isl78])
  refine ⟨_, fun w' h => h.cell (hq8.c2.cell (j := 0) rfl), ?_⟩
  repeat ((try first | (refine ofX3 hX ?_; clear hX X) | (refine ofX2 hX ?_; clear hX X)); (first | refine wpL_step (fun X hX => ?_) | refine wpH_step (fun X hX => ?_) | refine wpE_step (fun X hX => ?_) | refine wpL_end ?_ | refine wpH_end ?_ | refine wpE_end ?_); try simp only [ oweC, oweP, opF, opH, ev, evs, evp, evo, Env.get, Env.set, putE, gdst, S0, S1, thenN, inBlockN, argEnv, builtinR, retE, fin, callR, reduceIte, Nat.reduceEqDiff, Nat.reduceAdd, reduceCtorEq, forall_const, Tryd.results60, Fx.ag28, Fx.ag3, Fx.ag42, Fx.ag56, Fx.ag73, Fx.ag78, Fx.es56, Fx.es78, Fx.fo59_0, Fx.fo70_0, Fx.fo72_0, Fx.isl56, Fx.isl78])
  refine ⟨by omega, by omega, ?_⟩
  repeat ((try first | (refine ofX3 hX ?_; clear hX X) | (refine ofX2 hX ?_; clear hX X)); (first | refine wpL_step (fun X hX => ?_) | refine wpH_step (fun X hX => ?_) | refine wpE_step (fun X hX => ?_) | refine wpL_end ?_ | refine wpH_end ?_ | refine wpE_end ?_); try simp only [ oweC, oweP, opF, opH, ev, evs, evp, evo, Env.get, Env.set, putE, gdst, S0, S1, thenN, inBlockN, argEnv, builtinR, retE, fin, callR, reduceIte, Nat.reduceEqDiff, Nat.reduceAdd, reduceCtorEq, forall_const, Tryd.results60, Fx.ag28, Fx.ag3, Fx.ag42, Fx.ag56, Fx.ag73, Fx.ag78, Fx.es56, Fx.es78, Fx.fo59_0, Fx.fo70_0, Fx.fo72_0, Fx.isl56, Fx.isl78])
  refine ⟨_, fun w' h => h.cell (by simpa using hqc8), ?_⟩
  repeat ((try first | (refine ofX3 hX ?_; clear hX X) | (refine ofX2 hX ?_; clear hX X)); (first | refine wpL_step (fun X hX => ?_) | refine wpH_step (fun X hX => ?_) | refine wpE_step (fun X hX => ?_) | refine wpL_end ?_ | refine wpH_end ?_ | refine wpE_end ?_); try simp only [ oweC, oweP, opF, opH, ev, evs, evp, evo, Env.get, Env.set, putE, gdst, S0, S1, thenN, inBlockN, argEnv, builtinR, retE, fin, callR, reduceIte, Nat.reduceEqDiff, Nat.reduceAdd, reduceCtorEq, forall_const, Tryd.results60, Fx.ag28, Fx.ag3, Fx.ag42, Fx.ag56, Fx.ag73, Fx.ag78, Fx.es56, Fx.es78, Fx.fo59_0, Fx.fo70_0, Fx.fo72_0, Fx.isl56, Fx.isl78])
  refine ⟨by simp only [inI]; omega, ?_⟩
  repeat ((try first | (refine ofX3 hX ?_; clear hX X) | (refine ofX2 hX ?_; clear hX X)); (first | refine wpL_step (fun X hX => ?_) | refine wpH_step (fun X hX => ?_) | refine wpE_step (fun X hX => ?_) | refine wpL_end ?_ | refine wpH_end ?_ | refine wpE_end ?_); try simp only [ oweC, oweP, opF, opH, ev, evs, evp, evo, Env.get, Env.set, putE, gdst, S0, S1, thenN, inBlockN, argEnv, builtinR, retE, fin, callR, reduceIte, Nat.reduceEqDiff, Nat.reduceAdd, reduceCtorEq, forall_const, Tryd.results60, Fx.ag28, Fx.ag3, Fx.ag42, Fx.ag56, Fx.ag73, Fx.ag78, Fx.es56, Fx.es78, Fx.fo59_0, Fx.fo70_0, Fx.fo72_0, Fx.isl56, Fx.isl78])
  refine ⟨by omega, by omega, ?_⟩
  repeat ((try first | (refine ofX3 hX ?_; clear hX X) | (refine ofX2 hX ?_; clear hX X)); (first | refine wpL_step (fun X hX => ?_) | refine wpH_step (fun X hX => ?_) | refine wpE_step (fun X hX => ?_) | refine wpL_end ?_ | refine wpH_end ?_ | refine wpE_end ?_); try simp only [ oweC, oweP, opF, opH, ev, evs, evp, evo, Env.get, Env.set, putE, gdst, S0, S1, thenN, inBlockN, argEnv, builtinR, retE, fin, callR, reduceIte, Nat.reduceEqDiff, Nat.reduceAdd, reduceCtorEq, forall_const, Tryd.results60, Fx.ag28, Fx.ag3, Fx.ag42, Fx.ag56, Fx.ag73, Fx.ag78, Fx.es56, Fx.es78, Fx.fo59_0, Fx.fo70_0, Fx.fo72_0, Fx.isl56, Fx.isl78])
  refine ⟨_, fun w' h => h.cell (by rw [e5]; simpa [add_at] using hcc0), ?_⟩
  repeat ((try first | (refine ofX3 hX ?_; clear hX X) | (refine ofX2 hX ?_; clear hX X)); (first | refine wpL_step (fun X hX => ?_) | refine wpH_step (fun X hX => ?_) | refine wpE_step (fun X hX => ?_) | refine wpL_end ?_ | refine wpH_end ?_ | refine wpE_end ?_); try simp only [ oweC, oweP, opF, opH, ev, evs, evp, evo, Env.get, Env.set, putE, gdst, S0, S1, thenN, inBlockN, argEnv, builtinR, retE, fin, callR, reduceIte, Nat.reduceEqDiff, Nat.reduceAdd, reduceCtorEq, forall_const, Tryd.results60, Fx.ag28, Fx.ag3, Fx.ag42, Fx.ag56, Fx.ag73, Fx.ag78, Fx.es56, Fx.es78, Fx.fo59_0, Fx.fo70_0, Fx.fo72_0, Fx.isl56, Fx.isl78])
  refine ⟨_, fun w' h => h.cell hlc, ?_⟩
  repeat ((try first | (refine ofX3 hX ?_; clear hX X) | (refine ofX2 hX ?_; clear hX X)); (first | refine wpL_step (fun X hX => ?_) | refine wpH_step (fun X hX => ?_) | refine wpE_step (fun X hX => ?_) | refine wpL_end ?_ | refine wpH_end ?_ | refine wpE_end ?_); try simp only [ oweC, oweP, opF, opH, ev, evs, evp, evo, Env.get, Env.set, putE, gdst, S0, S1, thenN, inBlockN, argEnv, builtinR, retE, fin, callR, reduceIte, Nat.reduceEqDiff, Nat.reduceAdd, reduceCtorEq, forall_const, Tryd.results60, Fx.ag28, Fx.ag3, Fx.ag42, Fx.ag56, Fx.ag73, Fx.ag78, Fx.es56, Fx.es78, Fx.fo59_0, Fx.fo70_0, Fx.fo72_0, Fx.isl56, Fx.isl78])
  intro w9 he9
  repeat ((try first | (refine ofX3 hX ?_; clear hX X) | (refine ofX2 hX ?_; clear hX X)); (first | refine wpL_step (fun X hX => ?_) | refine wpH_step (fun X hX => ?_) | refine wpE_step (fun X hX => ?_) | refine wpL_end ?_ | refine wpH_end ?_ | refine wpE_end ?_); try simp only [ oweC, oweP, opF, opH, ev, evs, evp, evo, Env.get, Env.set, putE, gdst, S0, S1, thenN, inBlockN, argEnv, builtinR, retE, fin, callR, reduceIte, Nat.reduceEqDiff, Nat.reduceAdd, reduceCtorEq, forall_const, Tryd.results60, Fx.ag28, Fx.ag3, Fx.ag42, Fx.ag56, Fx.ag73, Fx.ag78, Fx.es56, Fx.es78, Fx.fo59_0, Fx.fo70_0, Fx.fo72_0, Fx.isl56, Fx.isl78])
  have hlist : listO (objAt H ((i : Int) + 1)) = o.list := by rw [hoo]; rfl
  refine Inv.clos (cap := [ptrOf B3, ptrOf B5]) Fx.en61 (push_ok w9 W.heap.size B2 B3 B5 H.length sn q _ s.own (.slice A2 o.list.length c2) o.list (by omega) hll (hq8.ext he9) hQ7 hu7 (fun x hx => hW o (List.mem_of_getElem? ho) x hx) ⟨A2, c2, rfl⟩ ?_) ?_
  · intro w' G' hG' hc'
    have hs9 := he9.size
    exact hls w' (fun k => s.own k ∨ w9.heap.size ≤ k) ((he9.chg _).trans (hc'.mono (fun k _ h => hG' k h))) (fun _ hg2 h => by rcases h with h | h <;> first | exact hgF h | omega)
  rintro v w10 ⟨qv10, G10, hq10, hc10, hs10, hn10⟩
  repeat ((try first | (refine ofX3 hX ?_; clear hX X) | (refine ofX2 hX ?_; clear hX X)); (first | refine wpL_step (fun X hX => ?_) | refine wpH_step (fun X hX => ?_) | refine wpE_step (fun X hX => ?_) | refine wpL_end ?_ | refine wpH_end ?_ | refine wpE_end ?_); try simp only [ oweC, oweP, opF, opH, ev, evs, evp, evo, Env.get, Env.set, putE, gdst, S0, S1, thenN, inBlockN, argEnv, builtinR, retE, fin, callR, reduceIte, Nat.reduceEqDiff, Nat.reduceAdd, reduceCtorEq, forall_const, Tryd.results60, Fx.ag28, Fx.ag3, Fx.ag42, Fx.ag56, Fx.ag73, Fx.ag78, Fx.es56, Fx.es78, Fx.fo59_0, Fx.fo70_0, Fx.fo72_0, Fx.isl56, Fx.isl78])
  refine hM1 _ _ _ ?_; clear hM1 M1
  refine ok_region rfl ?_
  repeat ((try first | (refine ofX3 hX ?_; clear hX X) | (refine ofX2 hX ?_; clear hX X)); (first | refine wpL_step (fun X hX => ?_) | refine wpH_step (fun X hX => ?_) | refine wpE_step (fun X hX => ?_) | refine wpL_end ?_ | refine wpH_end ?_ | refine wpE_end ?_); try simp only [ oweC, oweP, opF, opH, ev, evs, evp, evo, Env.get, Env.set, putE, gdst, S0, S1, thenN, inBlockN, argEnv, builtinR, retE, fin, callR, reduceIte, Nat.reduceEqDiff, Nat.reduceAdd, reduceCtorEq, forall_const, Tryd.results60, Fx.ag28, Fx.ag3, Fx.ag42, Fx.ag56, Fx.ag73, Fx.ag78, Fx.es56, Fx.es78, Fx.fo59_0, Fx.fo70_0, Fx.fo72_0, Fx.isl56, Fx.isl78])
  refine ⟨by simp only [inI]; omega, ?_⟩
  repeat ((try first | (refine ofX3 hX ?_; clear hX X) | (refine ofX2 hX ?_; clear hX X)); (first | refine wpL_step (fun X hX => ?_) | refine wpH_step (fun X hX => ?_) | refine wpE_step (fun X hX => ?_) | refine wpL_end ?_ | refine wpH_end ?_ | refine wpE_end ?_); try simp only [ oweC, oweP, opF, opH, ev, evs, evp, evo, Env.get, Env.set, putE, gdst, S0, S1, thenN, inBlockN, argEnv, builtinR, retE, fin, callR, reduceIte, Nat.reduceEqDiff, Nat.reduceAdd, reduceCtorEq, forall_const, Tryd.results60, Fx.ag28, Fx.ag3, Fx.ag42, Fx.ag56, Fx.ag73, Fx.ag78, Fx.es56, Fx.es78, Fx.fo59_0, Fx.fo70_0, Fx.fo72_0, Fx.isl56, Fx.isl78])
  have hp10 := pushF_inv (n := H.length) o.list sn q (fun x hx => hW o (List.mem_of_getElem? ho) x hx) hQ7
  have hJ10 : J' ⟨s.i + 1, G10, fun k => w10.heap[k]?⟩ w10 := hgen ⟨s.i + 1, s.own, s.snap⟩ w8 _ w10 ⟨rfl, (he9.chg _).trans hc10, hs10, fun k hk => ⟨by rcases hn10 k hk with h | h; exact .inl h; exact .inr (by have := he9.size; omega), (hq10.lt k hk).2⟩, rfl⟩ hJ8
  obtain ⟨f', rfl⟩ : ∃ f', f = f' + 1 := ⟨f - 1, by omega⟩
  have hlen10 := hp10.2.2
  have hle10 := hp10.2.1.length_le
  refine ⟨(⟨s.i + 1, G10, fun k => w10.heap[k]?⟩, (pushF sn q o.list).1, (pushF sn q o.list).2, qv10, f'), by simp [sub, Env.get], ⟨hJ10, hq10, hp10.1, by simp only; omega, by simp only; omega, by simp only; omega, ?_⟩, by simp only; omega⟩
  rw [hb7]
  simp only [bfs, hri, hlist]

-- -- function 41
set_option maxHeartbeats 4000000 in
set_option maxRecDepth 8000 in
theorem reached_ok (w : World) (hb : Nat) (rv : Value) (hrv : rv.cells = #[rv]) : Rets Tryd.prog 41 [ptrOf hb, rv] w (fun v w' => v = .func (.func 60) #[] #[ptrOf w.heap.size, ptrOf (w.heap.size + 1)] ∧ Blk w' w.heap.size [ptrOf hb] 28 ∧ Blk w' (w.heap.size + 1) [rv] 42 ∧ Ext w w') := by
  refine rets_of_ok Tryd.func41 rfl rfl ?_
  refine ok_seq (fun M hM => ok_region rfl ?_)
  repeat ((try first | (refine ofX3 hX ?_; clear hX X) | (refine ofX2 hX ?_; clear hX X)); (first | refine wpL_step (fun X hX => ?_) | refine wpH_step (fun X hX => ?_) | refine wpE_step (fun X hX => ?_) | refine wpL_end ?_ | refine wpH_end ?_ | refine wpE_end ?_); try simp only [ oweC, oweP, opF, opH, ev, evs, evp, evo, Env.get, Env.set, putE, gdst, S0, S1, thenN, inBlockN, argEnv, builtinR, retE, fin, callR, reduceIte, Nat.reduceEqDiff, Nat.reduceAdd, reduceCtorEq, forall_const, Tryd.results41])
  refine Runs.box (fun w1 he1 hs1 hb1 => ?_)
  simp only [Value.cells] at hb1
  repeat ((try first | (refine ofX3 hX ?_; clear hX X) | (refine ofX2 hX ?_; clear hX X)); (first | refine wpL_step (fun X hX => ?_) | refine wpH_step (fun X hX => ?_) | refine wpE_step (fun X hX => ?_) | refine wpL_end ?_ | refine wpH_end ?_ | refine wpE_end ?_); try simp only [ oweC, oweP, opF, opH, ev, evs, evp, evo, Env.get, Env.set, putE, gdst, S0, S1, thenN, inBlockN, argEnv, builtinR, retE, fin, callR, reduceIte, Nat.reduceEqDiff, Nat.reduceAdd, reduceCtorEq, forall_const, Tryd.results41])
  refine Runs.box (fun w2 he2 hs2 hb2 => ?_)
  rw [hrv] at hb2
  repeat ((try first | (refine ofX3 hX ?_; clear hX X) | (refine ofX2 hX ?_; clear hX X)); (first | refine wpL_step (fun X hX => ?_) | refine wpH_step (fun X hX => ?_) | refine wpE_step (fun X hX => ?_) | refine wpL_end ?_ | refine wpH_end ?_ | refine wpE_end ?_); try simp only [ oweC, oweP, opF, opH, ev, evs, evp, evo, Env.get, Env.set, putE, gdst, S0, S1, thenN, inBlockN, argEnv, builtinR, retE, fin, callR, reduceIte, Nat.reduceEqDiff, Nat.reduceAdd, reduceCtorEq, forall_const, Tryd.results41])
  refine hM _ _ _ ?_; clear hM M
  refine ok_seq (fun M hM => ok_region rfl ?_); repeat ((try first | (refine ofX3 hX ?_; clear hX X) | (refine ofX2 hX ?_; clear hX X)); (first | refine wpL_step (fun X hX => ?_) | refine wpH_step (fun X hX => ?_) | refine wpE_step (fun X hX => ?_) | refine wpL_end ?_ | refine wpH_end ?_ | refine wpE_end ?_); try simp only [ oweC, oweP, opF, opH, ev, evs, evp, evo, Env.get, Env.set, putE, gdst, S0, S1, thenN, inBlockN, argEnv, builtinR, retE, fin, callR, reduceIte, Nat.reduceEqDiff, Nat.reduceAdd, reduceCtorEq, forall_const, Tryd.results41])
  refine hM _ _ _ ?_; clear hM M
  refine ok_ret ?_
  try simp only [wpL, wpH, wpE, oweC, oweP, opF, opH, ev, evs, evp, evo, Env.get, Env.set, putE, gdst, S0, S1, thenN, inBlockN, argEnv, builtinR, retE, fin, callR, reduceIte, Nat.reduceEqDiff, Nat.reduceAdd, reduceCtorEq, forall_const, Tryd.results41]
  rw [hs1] at hb2 ⊢
  exact ⟨rfl, hb1.ext he2, hb2, he1.trans he2⟩

-- -- function 40
set_option maxHeartbeats 4000000 in
set_option maxRecDepth 8000 in
theorem collect1_ok (w : World) (hb rb : Nat) (H : List Ob) (F : Nat → Prop) (hH : HeapW w hb rb H F) (hl : H.length ≤ 1073741824) (x : Wd) (B : Nat) (hB : w.cell? ⟨B, 0, none⟩ = some (ptrOf hb)) :
    Rets Tryd.prog 40 [wv x, ptrOf B] w (fun v w' => v = .bool (!rightW H x) ∧ Ext w w') := by
  refine rets_of_ok Tryd.func40 rfl rfl ?_
  refine ok_seq (fun M hM => ok_region rfl ?_)
  repeat ((try first | (refine ofX3 hX ?_; clear hX X) | (refine ofX2 hX ?_; clear hX X)); (first | refine wpL_step (fun X hX => ?_) | refine wpH_step (fun X hX => ?_) | refine wpE_step (fun X hX => ?_) | refine wpL_end ?_ | refine wpH_end ?_ | refine wpE_end ?_); try simp only [ oweC, oweP, opF, opH, ev, evs, evp, evo, Env.get, Env.set, putE, gdst, S0, S1, thenN, inBlockN, argEnv, builtinR, retE, fin, callR, reduceIte, Nat.reduceEqDiff, Nat.reduceAdd, reduceCtorEq, forall_const, Tryd.results40, Fx.ag28, Fx.ag31])
  refine Runs.box (fun w1 he1 hz1 hb1 => ?_)
  generalize hB1 : w.heap.size = B1 at hz1 hb1
  simp only [Value.cells] at hb1
  repeat ((try first | (refine ofX3 hX ?_; clear hX X) | (refine ofX2 hX ?_; clear hX X)); (first | refine wpL_step (fun X hX => ?_) | refine wpH_step (fun X hX => ?_) | refine wpE_step (fun X hX => ?_) | refine wpL_end ?_ | refine wpH_end ?_ | refine wpE_end ?_); try simp only [ oweC, oweP, opF, opH, ev, evs, evp, evo, Env.get, Env.set, putE, gdst, S0, S1, thenN, inBlockN, argEnv, builtinR, retE, fin, callR, reduceIte, Nat.reduceEqDiff, Nat.reduceAdd, reduceCtorEq, forall_const, Tryd.results40, Fx.ag28, Fx.ag31])
  refine hM _ _ _ ?_; clear hM M
  refine ok_seq (fun M hM => ok_region rfl ?_)
  repeat ((try first | (refine ofX3 hX ?_; clear hX X) | (refine ofX2 hX ?_; clear hX X)); (first | refine wpL_step (fun X hX => ?_) | refine wpH_step (fun X hX => ?_) | refine wpE_step (fun X hX => ?_) | refine wpL_end ?_ | refine wpH_end ?_ | refine wpE_end ?_); try simp only [ oweC, oweP, opF, opH, ev, evs, evp, evo, Env.get, Env.set, putE, gdst, S0, S1, thenN, inBlockN, argEnv, builtinR, retE, fin, callR, reduceIte, Nat.reduceEqDiff, Nat.reduceAdd, reduceCtorEq, forall_const, Tryd.results40, Fx.ag28, Fx.ag31])
  refine ⟨_, he1.cell hB, ?_⟩
  repeat ((try first | (refine ofX3 hX ?_; clear hX X) | (refine ofX2 hX ?_; clear hX X)); (first | refine wpL_step (fun X hX => ?_) | refine wpH_step (fun X hX => ?_) | refine wpE_step (fun X hX => ?_) | refine wpL_end ?_ | refine wpH_end ?_ | refine wpE_end ?_); try simp only [ oweC, oweP, opF, opH, ev, evs, evp, evo, Env.get, Env.set, putE, gdst, S0, S1, thenN, inBlockN, argEnv, builtinR, retE, fin, callR, reduceIte, Nat.reduceEqDiff, Nat.reduceAdd, reduceCtorEq, forall_const, Tryd.results40, Fx.ag28, Fx.ag31])
  refine ⟨x.row, rfl, hb1.cells (o := 0) (fun j u hj => by simpa using hj), ?_⟩
  repeat ((try first | (refine ofX3 hX ?_; clear hX X) | (refine ofX2 hX ?_; clear hX X)); (first | refine wpL_step (fun X hX => ?_) | refine wpH_step (fun X hX => ?_) | refine wpE_step (fun X hX => ?_) | refine wpL_end ?_ | refine wpH_end ?_ | refine wpE_end ?_); try simp only [ oweC, oweP, opF, opH, ev, evs, evp, evo, Env.get, Env.set, putE, gdst, S0, S1, thenN, inBlockN, argEnv, builtinR, retE, fin, callR, reduceIte, Nat.reduceEqDiff, Nat.reduceAdd, reduceCtorEq, forall_const, Tryd.results40, Fx.ag28, Fx.ag31])
  refine Inv.call Fx.en13 (right_ok w1 hb rb H F (hH.ext he1) hl x) ?_
  rintro v w2 ⟨rfl, he2⟩
  repeat ((try first | (refine ofX3 hX ?_; clear hX X) | (refine ofX2 hX ?_; clear hX X)); (first | refine wpL_step (fun X hX => ?_) | refine wpH_step (fun X hX => ?_) | refine wpE_step (fun X hX => ?_) | refine wpL_end ?_ | refine wpH_end ?_ | refine wpE_end ?_); try simp only [ oweC, oweP, opF, opH, ev, evs, evp, evo, Env.get, Env.set, putE, gdst, S0, S1, thenN, inBlockN, argEnv, builtinR, retE, fin, callR, reduceIte, Nat.reduceEqDiff, Nat.reduceAdd, reduceCtorEq, forall_const, Tryd.results40, Fx.ag28, Fx.ag31])
  refine hM _ _ _ ?_; clear hM M
  refine ok_ret ?_
  try simp only [wpL, wpH, wpE, oweC, oweP, opF, opH, ev, evs, evp, evo, Env.get, Env.set, putE, gdst, S0, S1, thenN, inBlockN, argEnv, builtinR, retE, fin, callR, reduceIte, Nat.reduceEqDiff, Nat.reduceAdd, reduceCtorEq, forall_const, Tryd.results40, Fx.ag28, Fx.ag31]
  exact he1.trans he2

def mvW (tos : List Int) (x : Wd) : Wd := ⟨x.k, x.n, tos.getD x.r.toNat 0⟩

-- -- function 42
set_option maxHeartbeats 4000000 in
set_option maxRecDepth 8000 in
theorem moved_ok (w : World) (lv : Value) (l : List Wd) (c6 Bt : Nat) (tos : List Int) (h6 : w.cell? ⟨c6, 0, none⟩ = some (.slice (some ⟨Bt, 0, none⟩) tos.length tos.length)) (ht : Blk w Bt (ivs tos) 3) (hsl : SlW w lv l) (hll : l.length ≤ 1073741824) (hlr : ∀ x ∈ l, 0 ≤ x.r ∧ x.r < (tos.length : Int)) (htl : tos.length ≤ 1073741824) :
    Rets Tryd.prog 42 [lv, ptrOf c6] w (fun v w' => (∃ A c, v = .slice A l.length c) ∧ (l = [] → v = .slice none 0 0) ∧ (∃ g, WL w' g v (l.map (mvW tos)) ∧ (l ≠ [] → w.heap.size ≤ g)) ∧ Ext w w') := by
  obtain ⟨A, c, rfl, hlen, hcell⟩ := id hsl
  rw [wd_len] at hlen hsl ⊢
  refine rets_of_ok Tryd.func42 rfl rfl ?_
  refine ok_seq (fun M hM => ok_region rfl ?_); repeat ((try first | (refine ofX3 hX ?_; clear hX X) | (refine ofX2 hX ?_; clear hX X)); (first | refine wpL_step (fun X hX => ?_) | refine wpH_step (fun X hX => ?_) | refine wpE_step (fun X hX => ?_) | refine wpL_end ?_ | refine wpH_end ?_ | refine wpE_end ?_); try simp only [ oweC, oweP, opF, opH, ev, evs, evp, evo, Env.get, Env.set, putE, gdst, S0, S1, thenN, inBlockN, argEnv, builtinR, retE, fin, callR, reduceIte, Nat.reduceEqDiff, Nat.reduceAdd, reduceCtorEq, forall_const, Tryd.results42, Fx.ag3, Fx.ag31, Fx.ag78, Fx.es42, Fx.es78, Fx.fo31_2, Fx.isl42])
  refine hM _ _ _ ?_; clear hM M
  refine ok_seq (fun M hM => ok_region rfl ?_); repeat ((try first | (refine ofX3 hX ?_; clear hX X) | (refine ofX2 hX ?_; clear hX X)); (first | refine wpL_step (fun X hX => ?_) | refine wpH_step (fun X hX => ?_) | refine wpE_step (fun X hX => ?_) | refine wpL_end ?_ | refine wpH_end ?_ | refine wpE_end ?_); try simp only [ oweC, oweP, opF, opH, ev, evs, evp, evo, Env.get, Env.set, putE, gdst, S0, S1, thenN, inBlockN, argEnv, builtinR, retE, fin, callR, reduceIte, Nat.reduceEqDiff, Nat.reduceAdd, reduceCtorEq, forall_const, Tryd.results42, Fx.ag3, Fx.ag31, Fx.ag78, Fx.es42, Fx.es78, Fx.fo31_2, Fx.isl42])
  refine hM _ _ _ ?_; clear hM M
  refine ok_seq (fun M0 hM0 => ?_)
  refine ok_seq (fun M hM => ok_region rfl ?_); repeat ((try first | (refine ofX3 hX ?_; clear hX X) | (refine ofX2 hX ?_; clear hX X)); (first | refine wpL_step (fun X hX => ?_) | refine wpH_step (fun X hX => ?_) | refine wpE_step (fun X hX => ?_) | refine wpL_end ?_ | refine wpH_end ?_ | refine wpE_end ?_); try simp only [ oweC, oweP, opF, opH, ev, evs, evp, evo, Env.get, Env.set, putE, gdst, S0, S1, thenN, inBlockN, argEnv, builtinR, retE, fin, callR, reduceIte, Nat.reduceEqDiff, Nat.reduceAdd, reduceCtorEq, forall_const, Tryd.results42, Fx.ag3, Fx.ag31, Fx.ag78, Fx.es42, Fx.es78, Fx.fo31_2, Fx.isl42])
  refine hM _ _ _ ?_; clear hM M
  refine ok_block ?_
  refine ok_loop (S := Nat × Value) (fun s => [(1, ptrOf c6), (4, s.2), (7, .slice A l.length c), (8, .int .i64 (l.length : Int)), (9, .int .i64 (s.1 : Int))])
    (fun s w4 => Ext w w4 ∧ s.1 ≤ l.length ∧ (s.1 = 0 → s.2 = .slice none 0 0) ∧ w4.ownsRow w.heap.size 31 3 s.2 s.1 (((l.take s.1).map (mvW tos)).map Wd.row).flatten) (fun s => l.length - s.1) (0, .slice none 0 0) ?_ ?_ ?_
  · simp [sub, Env.get, argEnv]
  · exact ⟨Ext.refl _, Nat.zero_le _, fun _ => rfl, World.ownsRow_nil _ _ _ _⟩
  rintro ⟨i, va⟩ w4 ⟨he4, hi, hi0, hown⟩
  simp only at hi hi0 hown ⊢
  refine ok_seq (fun M hM => ok_region rfl ?_); repeat ((try first | (refine ofX3 hX ?_; clear hX X) | (refine ofX2 hX ?_; clear hX X)); (first | refine wpL_step (fun X hX => ?_) | refine wpH_step (fun X hX => ?_) | refine wpE_step (fun X hX => ?_) | refine wpL_end ?_ | refine wpH_end ?_ | refine wpE_end ?_); try simp only [ oweC, oweP, opF, opH, ev, evs, evp, evo, Env.get, Env.set, putE, gdst, S0, S1, thenN, inBlockN, argEnv, builtinR, retE, fin, callR, reduceIte, Nat.reduceEqDiff, Nat.reduceAdd, reduceCtorEq, forall_const, Tryd.results42, Fx.ag3, Fx.ag31, Fx.ag78, Fx.es42, Fx.es78, Fx.fo31_2, Fx.isl42])
  refine hM _ _ _ ?_; clear hM M
  refine ok_seq (fun M1 hM1 => ?_)
  refine ok_if rfl (fun hc => ok_skip ?_) (fun hc => ok_exit ?_)
  rotate_left
  · try simp only [wpL, wpH, wpE, oweC, oweP, opF, opH, ev, evs, evp, evo, Env.get, Env.set, putE, gdst, S0, S1, thenN, inBlockN, argEnv, builtinR, retE, fin, callR, reduceIte, Nat.reduceEqDiff, Nat.reduceAdd, reduceCtorEq, forall_const, Tryd.results42, Fx.ag3, Fx.ag31, Fx.ag78, Fx.es42, Fx.es78, Fx.fo31_2, Fx.isl42]
    refine hM0 _ _ _ ?_; clear hM0 M0 hM1 M1
    have hia : i = l.length := by omega
    subst hia
    rw [List.take_of_length_le (Nat.le_refl _)] at hown
    have hml : (l.map (mvW tos)).length = l.length := by simp
    obtain ⟨g, hWL, hg⟩ := WL.of_own (l := l.map (mvW tos)) (by rw [hml]; exact hown) (by rw [hml]; exact hll)
    refine ok_seq (fun M hM => ok_region rfl ?_); repeat ((try first | (refine ofX3 hX ?_; clear hX X) | (refine ofX2 hX ?_; clear hX X)); (first | refine wpL_step (fun X hX => ?_) | refine wpH_step (fun X hX => ?_) | refine wpE_step (fun X hX => ?_) | refine wpL_end ?_ | refine wpH_end ?_ | refine wpE_end ?_); try simp only [ oweC, oweP, opF, opH, ev, evs, evp, evo, Env.get, Env.set, putE, gdst, S0, S1, thenN, inBlockN, argEnv, builtinR, retE, fin, callR, reduceIte, Nat.reduceEqDiff, Nat.reduceAdd, reduceCtorEq, forall_const, Tryd.results42, Fx.ag3, Fx.ag31, Fx.ag78, Fx.es42, Fx.es78, Fx.fo31_2, Fx.isl42])
    refine hM _ _ _ ?_; clear hM M
    refine ok_ret ?_
    try simp only [wpL, wpH, wpE, oweC, oweP, opF, opH, ev, evs, evp, evo, Env.get, Env.set, putE, gdst, S0, S1, thenN, inBlockN, argEnv, builtinR, retE, fin, callR, reduceIte, Nat.reduceEqDiff, Nat.reduceAdd, reduceCtorEq, forall_const, Tryd.results42, Fx.ag3, Fx.ag31, Fx.ag78, Fx.es42, Fx.es78, Fx.fo31_2, Fx.isl42]
    obtain ⟨A9, c9, hv9, -⟩ := id hWL
    rw [hml] at hv9
    exact ⟨⟨A9, c9, hv9⟩, fun h => hi0 (by rw [h]; rfl), ⟨g, hWL, fun hne => (hown.lt g (hg (by simpa using hne))).1⟩, he4⟩
  try simp only [wpL, wpH, wpE, oweC, oweP, opF, opH, ev, evs, evp, evo, Env.get, Env.set, putE, gdst, S0, S1, thenN, inBlockN, argEnv, builtinR, retE, fin, callR, reduceIte, Nat.reduceEqDiff, Nat.reduceAdd, reduceCtorEq, forall_const, Tryd.results42, Fx.ag3, Fx.ag31, Fx.ag78, Fx.es42, Fx.es78, Fx.fo31_2, Fx.isl42]
  refine hM1 _ _ _ ?_; clear hM1 M1
  have hil : i < l.length := by omega
  have hxi : l[i]? = some l[i] := List.getElem?_eq_getElem hil
  have hxr := hlr _ (List.getElem_mem hil)
  have htk : l.take (i + 1) = l.take i ++ [l[i]] := List.take_succ_eq_append_getElem hil
  generalize l[i] = x at hxi hxr htk
  obtain ⟨bb, oo, rfl, hce⟩ := hcell i x.row (by rw [List.getElem?_map, hxi]; rfl)
  refine ok_seq (fun M1 hM1 => ok_block ?_)
  refine ok_seq (fun M hM => ok_region rfl ?_)
  repeat ((try first | (refine ofX3 hX ?_; clear hX X) | (refine ofX2 hX ?_; clear hX X)); (first | refine wpL_step (fun X hX => ?_) | refine wpH_step (fun X hX => ?_) | refine wpE_step (fun X hX => ?_) | refine wpL_end ?_ | refine wpH_end ?_ | refine wpE_end ?_); try simp only [ oweC, oweP, opF, opH, ev, evs, evp, evo, Env.get, Env.set, putE, gdst, S0, S1, thenN, inBlockN, argEnv, builtinR, retE, fin, callR, reduceIte, Nat.reduceEqDiff, Nat.reduceAdd, reduceCtorEq, forall_const, Tryd.results42, Fx.ag3, Fx.ag31, Fx.ag78, Fx.es42, Fx.es78, Fx.fo31_2, Fx.isl42])
  refine ⟨by omega, by omega, ?_⟩
  repeat ((try first | (refine ofX3 hX ?_; clear hX X) | (refine ofX2 hX ?_; clear hX X)); (first | refine wpL_step (fun X hX => ?_) | refine wpH_step (fun X hX => ?_) | refine wpE_step (fun X hX => ?_) | refine wpL_end ?_ | refine wpH_end ?_ | refine wpE_end ?_); try simp only [ oweC, oweP, opF, opH, ev, evs, evp, evo, Env.get, Env.set, putE, gdst, S0, S1, thenN, inBlockN, argEnv, builtinR, retE, fin, callR, reduceIte, Nat.reduceEqDiff, Nat.reduceAdd, reduceCtorEq, forall_const, Tryd.results42, Fx.ag3, Fx.ag31, Fx.ag78, Fx.es42, Fx.es78, Fx.fo31_2, Fx.isl42])
  refine ⟨x.row, rfl, he4.cellsAt hce, ?_⟩
  repeat ((try first | (refine ofX3 hX ?_; clear hX X) | (refine ofX2 hX ?_; clear hX X)); (first | refine wpL_step (fun X hX => ?_) | refine wpH_step (fun X hX => ?_) | refine wpE_step (fun X hX => ?_) | refine wpL_end ?_ | refine wpH_end ?_ | refine wpE_end ?_); try simp only [ oweC, oweP, opF, opH, ev, evs, evp, evo, Env.get, Env.set, putE, gdst, S0, S1, thenN, inBlockN, argEnv, builtinR, retE, fin, callR, reduceIte, Nat.reduceEqDiff, Nat.reduceAdd, reduceCtorEq, forall_const, Tryd.results42, Fx.ag3, Fx.ag31, Fx.ag78, Fx.es42, Fx.es78, Fx.fo31_2, Fx.isl42])
  refine Runs.alloc Fx.zi31 (fun w5 he5 hs5 hb5 => ?_)
  generalize hB5 : w4.heap.size = B5 at hs5 hb5
  repeat ((try first | (refine ofX3 hX ?_; clear hX X) | (refine ofX2 hX ?_; clear hX X)); (first | refine wpL_step (fun X hX => ?_) | refine wpH_step (fun X hX => ?_) | refine wpE_step (fun X hX => ?_) | refine wpL_end ?_ | refine wpH_end ?_ | refine wpE_end ?_); try simp only [ oweC, oweP, opF, opH, ev, evs, evp, evo, Env.get, Env.set, putE, gdst, S0, S1, thenN, inBlockN, argEnv, builtinR, retE, fin, callR, reduceIte, Nat.reduceEqDiff, Nat.reduceAdd, reduceCtorEq, forall_const, Tryd.results42, Fx.ag3, Fx.ag31, Fx.ag78, Fx.es42, Fx.es78, Fx.fo31_2, Fx.isl42])
  refine Runs.store hb5 Fx.zi31 rfl (by intro u hu; simp [Value.cells, Wd.row] at hu; rcases hu with rfl | rfl | rfl <;> rfl) (by simp [Value.cells]) (fun w6 hc6 hs6 hb6 => ?_)
  rw [splice_all _ _ (by simp [Value.cells])] at hb6
  simp only [Value.cells, Wd.row] at hb6
  have he46 : Ext w4 w6 := he5.chg_trans hc6 (fun i hi => by omega)
  have he6 := he4.trans he46
  repeat ((try first | (refine ofX3 hX ?_; clear hX X) | (refine ofX2 hX ?_; clear hX X)); (first | refine wpL_step (fun X hX => ?_) | refine wpH_step (fun X hX => ?_) | refine wpE_step (fun X hX => ?_) | refine wpL_end ?_ | refine wpH_end ?_ | refine wpE_end ?_); try simp only [ oweC, oweP, opF, opH, ev, evs, evp, evo, Env.get, Env.set, putE, gdst, S0, S1, thenN, inBlockN, argEnv, builtinR, retE, fin, callR, reduceIte, Nat.reduceEqDiff, Nat.reduceAdd, reduceCtorEq, forall_const, Tryd.results42, Fx.ag3, Fx.ag31, Fx.ag78, Fx.es42, Fx.es78, Fx.fo31_2, Fx.isl42])
  refine hM _ _ _ ?_; clear hM M
  have hrn : x.r.toNat < tos.length := by omega
  have hgt : tos[x.r.toNat]? = some (tos.getD x.r.toNat 0) := by rw [List.getD_eq_getElem?_getD, List.getElem?_eq_getElem hrn]; rfl
  refine ok_seq (fun M hM => ok_region rfl ?_)
  repeat ((try first | (refine ofX3 hX ?_; clear hX X) | (refine ofX2 hX ?_; clear hX X)); (first | refine wpL_step (fun X hX => ?_) | refine wpH_step (fun X hX => ?_) | refine wpE_step (fun X hX => ?_) | refine wpL_end ?_ | refine wpH_end ?_ | refine wpE_end ?_); try simp only [ oweC, oweP, opF, opH, ev, evs, evp, evo, Env.get, Env.set, putE, gdst, S0, S1, thenN, inBlockN, argEnv, builtinR, retE, fin, callR, reduceIte, Nat.reduceEqDiff, Nat.reduceAdd, reduceCtorEq, forall_const, Tryd.results42, Fx.ag3, Fx.ag31, Fx.ag78, Fx.es42, Fx.es78, Fx.fo31_2, Fx.isl42])
  refine ⟨_, he6.cell h6, ?_⟩
  repeat ((try first | (refine ofX3 hX ?_; clear hX X) | (refine ofX2 hX ?_; clear hX X)); (first | refine wpL_step (fun X hX => ?_) | refine wpH_step (fun X hX => ?_) | refine wpE_step (fun X hX => ?_) | refine wpL_end ?_ | refine wpH_end ?_ | refine wpE_end ?_); try simp only [ oweC, oweP, opF, opH, ev, evs, evp, evo, Env.get, Env.set, putE, gdst, S0, S1, thenN, inBlockN, argEnv, builtinR, retE, fin, callR, reduceIte, Nat.reduceEqDiff, Nat.reduceAdd, reduceCtorEq, forall_const, Tryd.results42, Fx.ag3, Fx.ag31, Fx.ag78, Fx.es42, Fx.es78, Fx.fo31_2, Fx.isl42])
  refine ⟨_, hb6.cell (j := 2) rfl, ?_⟩
  repeat ((try first | (refine ofX3 hX ?_; clear hX X) | (refine ofX2 hX ?_; clear hX X)); (first | refine wpL_step (fun X hX => ?_) | refine wpH_step (fun X hX => ?_) | refine wpE_step (fun X hX => ?_) | refine wpL_end ?_ | refine wpH_end ?_ | refine wpE_end ?_); try simp only [ oweC, oweP, opF, opH, ev, evs, evp, evo, Env.get, Env.set, putE, gdst, S0, S1, thenN, inBlockN, argEnv, builtinR, retE, fin, callR, reduceIte, Nat.reduceEqDiff, Nat.reduceAdd, reduceCtorEq, forall_const, Tryd.results42, Fx.ag3, Fx.ag31, Fx.ag78, Fx.es42, Fx.es78, Fx.fo31_2, Fx.isl42])
  refine ⟨by omega, by omega, ?_⟩
  repeat ((try first | (refine ofX3 hX ?_; clear hX X) | (refine ofX2 hX ?_; clear hX X)); (first | refine wpL_step (fun X hX => ?_) | refine wpH_step (fun X hX => ?_) | refine wpE_step (fun X hX => ?_) | refine wpL_end ?_ | refine wpH_end ?_ | refine wpE_end ?_); try simp only [ oweC, oweP, opF, opH, ev, evs, evp, evo, Env.get, Env.set, putE, gdst, S0, S1, thenN, inBlockN, argEnv, builtinR, retE, fin, callR, reduceIte, Nat.reduceEqDiff, Nat.reduceAdd, reduceCtorEq, forall_const, Tryd.results42, Fx.ag3, Fx.ag31, Fx.ag78, Fx.es42, Fx.es78, Fx.fo31_2, Fx.isl42])
  refine ⟨_, by simpa [add_at] using (ht.ext he6).cell (ivs_get hgt), ?_⟩
  repeat ((try first | (refine ofX3 hX ?_; clear hX X) | (refine ofX2 hX ?_; clear hX X)); (first | refine wpL_step (fun X hX => ?_) | refine wpH_step (fun X hX => ?_) | refine wpE_step (fun X hX => ?_) | refine wpL_end ?_ | refine wpH_end ?_ | refine wpE_end ?_); try simp only [ oweC, oweP, opF, opH, ev, evs, evp, evo, Env.get, Env.set, putE, gdst, S0, S1, thenN, inBlockN, argEnv, builtinR, retE, fin, callR, reduceIte, Nat.reduceEqDiff, Nat.reduceAdd, reduceCtorEq, forall_const, Tryd.results42, Fx.ag3, Fx.ag31, Fx.ag78, Fx.es42, Fx.es78, Fx.fo31_2, Fx.isl42])
  refine Runs.store hb6 Fx.zi3 rfl (by intro u hu; simp [Value.cells] at hu; subst hu; rfl) (by simp) (fun w7 hc7 hs7 hb7 => ?_)
  simp only [splice, Value.cells, List.take_succ_cons, List.take_zero, List.cons_append, List.nil_append, List.length_singleton, Nat.reduceAdd, List.drop_succ_cons, List.drop_zero, List.append_nil, List.drop_nil] at hb7
  have he47 : Ext w4 w7 := he46.chg_trans hc7 (fun i hi => by omega)
  repeat ((try first | (refine ofX3 hX ?_; clear hX X) | (refine ofX2 hX ?_; clear hX X)); (first | refine wpL_step (fun X hX => ?_) | refine wpH_step (fun X hX => ?_) | refine wpE_step (fun X hX => ?_) | refine wpL_end ?_ | refine wpH_end ?_ | refine wpE_end ?_); try simp only [ oweC, oweP, opF, opH, ev, evs, evp, evo, Env.get, Env.set, putE, gdst, S0, S1, thenN, inBlockN, argEnv, builtinR, retE, fin, callR, reduceIte, Nat.reduceEqDiff, Nat.reduceAdd, reduceCtorEq, forall_const, Tryd.results42, Fx.ag3, Fx.ag31, Fx.ag78, Fx.es42, Fx.es78, Fx.fo31_2, Fx.isl42])
  refine hM _ _ _ ?_; clear hM M
  have hrow : (mvW tos x).row = [.int .i64 x.k, .int .i64 x.n, .int .i64 (tos.getD x.r.toNat 0)] := rfl
  refine ok_region rfl ?_
  repeat ((try first | (refine ofX3 hX ?_; clear hX X) | (refine ofX2 hX ?_; clear hX X)); (first | refine wpL_step (fun X hX => ?_) | refine wpH_step (fun X hX => ?_) | refine wpE_step (fun X hX => ?_) | refine wpL_end ?_ | refine wpH_end ?_ | refine wpE_end ?_); try simp only [ oweC, oweP, opF, opH, ev, evs, evp, evo, Env.get, Env.set, putE, gdst, S0, S1, thenN, inBlockN, argEnv, builtinR, retE, fin, callR, reduceIte, Nat.reduceEqDiff, Nat.reduceAdd, reduceCtorEq, forall_const, Tryd.results42, Fx.ag3, Fx.ag31, Fx.ag78, Fx.es42, Fx.es78, Fx.fo31_2, Fx.isl42])
  refine ⟨_, rfl, hb7.cells (o := 0) (row := (mvW tos x).row) (fun j u hj => by simpa [hrow] using hj), ?_⟩
  repeat ((try first | (refine ofX3 hX ?_; clear hX X) | (refine ofX2 hX ?_; clear hX X)); (first | refine wpL_step (fun X hX => ?_) | refine wpH_step (fun X hX => ?_) | refine wpE_step (fun X hX => ?_) | refine wpL_end ?_ | refine wpH_end ?_ | refine wpE_end ?_); try simp only [ oweC, oweP, opF, opH, ev, evs, evp, evo, Env.get, Env.set, putE, gdst, S0, S1, thenN, inBlockN, argEnv, builtinR, retE, fin, callR, reduceIte, Nat.reduceEqDiff, Nat.reduceAdd, reduceCtorEq, forall_const, Tryd.results42, Fx.ag3, Fx.ag31, Fx.ag78, Fx.es42, Fx.es78, Fx.fo31_2, Fx.isl42])
  refine Runs.lit (cs := (mvW tos x).row) Fx.un42 Fx.zi31 (by decide) (by kernel_rfl) (by decide) (fun w8 he8 hs8 hb8 => ?_)
  repeat ((try first | (refine ofX3 hX ?_; clear hX X) | (refine ofX2 hX ?_; clear hX X)); (first | refine wpL_step (fun X hX => ?_) | refine wpH_step (fun X hX => ?_) | refine wpE_step (fun X hX => ?_) | refine wpL_end ?_ | refine wpH_end ?_ | refine wpE_end ?_); try simp only [ oweC, oweP, opF, opH, ev, evs, evp, evo, Env.get, Env.set, putE, gdst, S0, S1, thenN, inBlockN, argEnv, builtinR, retE, fin, callR, reduceIte, Nat.reduceEqDiff, Nat.reduceAdd, reduceCtorEq, forall_const, Tryd.results42, Fx.ag3, Fx.ag31, Fx.ag78, Fx.es42, Fx.es78, Fx.fo31_2, Fx.isl42])
  have he48 := he47.trans he8
  have hown8 := owns_chg' hown (he48.chg (fun _ => False)) (fun _ _ h => h)
  have hs48 := he48.size
  have hs4 := he4.size
  refine Runs.append1' Fx.un42 Fx.zi31 rfl (by decide) hown8 hb8 rfl (by intro u hu; simp [Wd.row] at hu; rcases hu with rfl | rfl | rfl <;> rfl) (by simp [maxLen]; omega) (by omega) (by omega) (fun v' w9 hown9 hg9 hblk => ?_)
  repeat ((try first | (refine ofX3 hX ?_; clear hX X) | (refine ofX2 hX ?_; clear hX X)); (first | refine wpL_step (fun X hX => ?_) | refine wpH_step (fun X hX => ?_) | refine wpE_step (fun X hX => ?_) | refine wpL_end ?_ | refine wpH_end ?_ | refine wpE_end ?_); try simp only [ oweC, oweP, opF, opH, ev, evs, evp, evo, Env.get, Env.set, putE, gdst, S0, S1, thenN, inBlockN, argEnv, builtinR, retE, fin, callR, reduceIte, Nat.reduceEqDiff, Nat.reduceAdd, reduceCtorEq, forall_const, Tryd.results42, Fx.ag3, Fx.ag31, Fx.ag78, Fx.es42, Fx.es78, Fx.fo31_2, Fx.isl42])
  refine hM1 _ _ _ ?_; clear hM1 M1
  refine ok_region rfl ?_
  repeat ((try first | (refine ofX3 hX ?_; clear hX X) | (refine ofX2 hX ?_; clear hX X)); (first | refine wpL_step (fun X hX => ?_) | refine wpH_step (fun X hX => ?_) | refine wpE_step (fun X hX => ?_) | refine wpL_end ?_ | refine wpH_end ?_ | refine wpE_end ?_); try simp only [ oweC, oweP, opF, opH, ev, evs, evp, evo, Env.get, Env.set, putE, gdst, S0, S1, thenN, inBlockN, argEnv, builtinR, retE, fin, callR, reduceIte, Nat.reduceEqDiff, Nat.reduceAdd, reduceCtorEq, forall_const, Tryd.results42, Fx.ag3, Fx.ag31, Fx.ag78, Fx.es42, Fx.es78, Fx.fo31_2, Fx.isl42])
  refine ⟨by simp only [inI]; omega, ?_⟩
  repeat ((try first | (refine ofX3 hX ?_; clear hX X) | (refine ofX2 hX ?_; clear hX X)); (first | refine wpL_step (fun X hX => ?_) | refine wpH_step (fun X hX => ?_) | refine wpE_step (fun X hX => ?_) | refine wpL_end ?_ | refine wpH_end ?_ | refine wpE_end ?_); try simp only [ oweC, oweP, opF, opH, ev, evs, evp, evo, Env.get, Env.set, putE, gdst, S0, S1, thenN, inBlockN, argEnv, builtinR, retE, fin, callR, reduceIte, Nat.reduceEqDiff, Nat.reduceAdd, reduceCtorEq, forall_const, Tryd.results42, Fx.ag3, Fx.ag31, Fx.ag78, Fx.es42, Fx.es78, Fx.fo31_2, Fx.isl42])
  refine ⟨(i + 1, v'), by simp [sub, Env.get], ⟨?_, by omega, fun h => absurd h (by simp only; omega), ?_⟩, by omega⟩
  · exact (he4.trans he48).chg_trans (S := fun k => va.ownBlock = some k) ⟨hg9.os, hg9.tape, hg9.output, hg9.size, fun k hk hs => hg9.block k hk (fun e => hs e.symm)⟩ (fun k hk => (hown8.lt k hk).1)
  · simp only [htk, List.map_append, List.flatten_append]
    simpa using hown9
end Go.Proofs.YtldeokfhipjbfaaDoor
