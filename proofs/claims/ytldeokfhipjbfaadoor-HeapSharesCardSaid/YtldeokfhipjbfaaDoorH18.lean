/- Collect. -/
import Derived.Test.YtldeokfhipjbfaaDoorH17
set_option linter.unusedVariables false
set_option linter.unusedSimpArgs false
namespace Go.Proofs.Vg
open Go Go.RowKit
def tosF (N : Nat) (Q : List Int) : Nat → List Int
  | 0 => List.replicate N 0
  | i + 1 => (tosF N Q i).set (Q.getD i 0).toNat ((i : Int) + 1)
theorem tosF_length (N : Nat) (Q : List Int) : ∀ i, (tosF N Q i).length = N
  | 0 => by simp [tosF]
  | i + 1 => by simp [tosF, tosF_length N Q i]
/-- The state of a collection's first loop. -/
structure CJ (w0 W : World) (n b0 b1 b2 c6 Bt c7 hb N : Nat) (rv : Value) (Q : List Int) (ptrs : List Value) (s : RS) : Prop where
  ext : Ext w0 W
  k0 : Blk W b0 [ptrOf hb] 28
  k1 : Blk W b1 [ptrOf hb] 28
  k2 : Blk W b2 [rv] 42
  k6 : Blk W c6 [.slice (some ⟨Bt, 0, none⟩) N N] 78
  kt : Blk W Bt (ivs (tosF N Q s.i)) 3
  kk : ∃ kv, Blk W c7 [kv] 56 ∧ W.ownsRow (n + 2) 73 1 kv s.i (ptrs.take s.i) ∧ ∀ k, kv.ownBlock = some k → ¬ s.own k
  si : s.i ≤ Q.length
  own : ∀ k, s.own k → n + 2 ≤ k ∧ k < W.heap.size
  snap : ∀ k, s.own k → W.heap[k]? = s.snap k
structure CN (w0 : World) (n b0 b1 b2 c6 Bt c7 : Nat) : Prop where
  h0 : w0.heap.size ≤ b0 ∧ b0 < n
  h1 : w0.heap.size ≤ b1 ∧ b1 < n
  h2 : w0.heap.size ≤ b2 ∧ b2 < n
  h6 : w0.heap.size ≤ c6 ∧ c6 < n
  ht : w0.heap.size ≤ Bt ∧ Bt < n
  h7 : w0.heap.size ≤ c7 ∧ c7 < n
  n67 : c6 ≠ c7 ∧ Bt ≠ c7 ∧ c6 ≠ Bt ∧ b0 ≠ c7 ∧ b1 ≠ c7 ∧ b2 ≠ c7 ∧ b0 ≠ Bt ∧ b1 ≠ Bt ∧ b2 ≠ Bt
theorem CJ.chg {w0 W W' : World} {n b0 b1 b2 c6 Bt c7 hb N : Nat} {rv : Value} {Q : List Int} {ptrs : List Value} {s s' : RS} {T : Nat → Prop} (hn : CN w0 n b0 b1 b2 c6 Bt c7) (h : CJ w0 W n b0 b1 b2 c6 Bt c7 hb N rv Q ptrs s) (hc : Chg T W W')
    (hT : ∀ k, T k → n ≤ k) (hkv : ∀ kv, W.ownsRow (n + 2) 73 1 kv s.i (ptrs.take s.i) → (∀ k, kv.ownBlock = some k → ¬ s.own k) → ∀ k, kv.ownBlock = some k → ¬ T k ∧ ¬ s'.own k) (hi : s'.i = s.i) (ho : ∀ k, s'.own k → n + 2 ≤ k ∧ k < W'.heap.size) (hsn : ∀ k, s'.own k → W'.heap[k]? = s'.snap k) : CJ w0 W' n b0 b1 b2 c6 Bt c7 hb N rv Q ptrs s' := by
  have hlow : ∀ k, k < n → ¬ T k := fun k hk ht => by have := hT k ht; omega
  obtain ⟨kv, k1, k2, k3⟩ := h.kk
  refine ⟨h.ext.chg_trans hc (fun k hk => by have := hT k hk; have := hn.h0; omega), h.k0.chg hc (hlow _ hn.h0.2), h.k1.chg hc (hlow _ hn.h1.2), h.k2.chg hc (hlow _ hn.h2.2), h.k6.chg hc (hlow _ hn.h6.2), ?_, ⟨kv, k1.chg hc (hlow _ hn.h7.2), ?_, fun k hk => (hkv kv k2 k3 k hk).2⟩, by rw [hi]; exact h.si, ho, hsn⟩
  · rw [hi]; exact h.kt.chg hc (hlow _ hn.ht.2)
  · rw [hi]; exact owns_chg' k2 hc (fun k hk => (hkv kv k2 k3 k hk).1)
theorem Off.chg' {n : Nat} {W W' : World} (h : Off n W W') : Chg (fun k => k = n ∨ k = n + 1) W W' := ⟨h.os, h.tape, h.output, by rw [h.size]; exact Nat.le_refl _, fun k hk hne => h.block k (fun e => hne (.inl e)) (fun e => hne (.inr e))⟩
theorem bfs_length {H : List Ob} (hW : Wf H) : ∀ (f : Nat) (sn : List Bool) (q : List Int) (i : Nat), Qok H.length sn q → (bfs H f sn q i).length ≤ unseen sn + q.length := by
  intro f
  induction f with
  | zero => intro sn q i h; simp only [bfs]; omega
  | succ f ih =>
    intro sn q i h
    simp only [bfs]
    split
    · omega
    · rename_i r hr
      have h1 := pushF_inv _ sn q (listO_mem hW r) h
      have h2 := ih _ _ (i + 1) h1.1
      have h3 := h1.2.2
      omega
theorem own_zero {w : World} {base e sz n : Nat} {v : Value} {xs : List Value} (h : w.ownsRow base e sz v n xs) : w.ownsRow 0 e sz v n xs := by
  refine ⟨h.1, ?_⟩
  rcases h.2 with hn | ⟨g, cap, cur, hv, hb, rest⟩
  · exact .inl hn
  · exact .inr ⟨g, cap, cur, hv, Nat.zero_le _, rest⟩
theorem nodup_pick {ps : List Nat} (h : ps.Nodup) {Q : List Int} (hQ : Q.Nodup) (hr : ∀ r ∈ Q, 1 ≤ r ∧ r ≤ (ps.length : Int)) : (Q.map fun r => ps.getD (r - 1).toNat 0).Nodup := by
  refine List.pairwise_map.2 (hQ.imp_of_mem fun {a b} ha hb hne e => ?_)
  have h1 := hr a ha
  have h2 := hr b hb
  rw [List.getD_eq_getElem?_getD, List.getD_eq_getElem?_getD, List.getElem?_eq_getElem (by omega : (a - 1).toNat < ps.length), List.getElem?_eq_getElem (by omega : (b - 1).toNat < ps.length)] at e
  have := (List.getElem_inj h).1 (by simpa using e)
  omega
theorem HeapR.hbps {w : World} {hb rb : Nat} {vs : Value} {ps gs : List Nat} {H : List Ob} (h : HeapR w hb rb vs ps gs H) : hb ∉ ps := h.ap.1.1
theorem HeapR.gnp {w : World} {hb rb : Nat} {vs : Value} {ps gs : List Nat} {H : List Ob} (h : HeapR w hb rb vs ps gs H) {i p g : Nat} {o : Ob} (hp : ps[i]? = some p) (hg : gs[i]? = some g) (ho : H[i]? = some o) (hne : o.list ≠ []) : g ∉ ps := by
  intro hm
  obtain ⟨j, hj⟩ := List.mem_iff_getElem?.1 hm
  have hjl := (List.getElem?_eq_some_iff.1 hj).1
  have ho2 : H[j]? = some (H[j]'(by rw [← h.lenp]; exact hjl)) := List.getElem?_eq_getElem _
  obtain ⟨p2, g2, h1, h2, hob⟩ := h.at_ ho2
  rw [hj] at h1; cases h1
  have h72 : ∃ cs, Blk w g cs 72 := by
    revert hob
    generalize (H[j]'(by rw [← h.lenp]; exact hjl)) = o2
    intro hob
    cases o2 with
    | text s => exact ⟨_, hob⟩
    | words s l => obtain ⟨lv, h1, _⟩ := hob; exact ⟨_, h1⟩
  obtain ⟨cs, h72⟩ := h72
  have hob' := h.obj i p g o hp hg ho
  cases o with
  | text s => exact hne rfl
  | words s l =>
    obtain ⟨lv, _, A, c, _, _, _, h5⟩ := hob'
    obtain ⟨_, cs2, h31, _⟩ := h5 hne
    unfold Blk at h72 h31
    rw [h72] at h31
    injection h31 with h31
    injection h31 with _ h31 _
    cases h31
/-- The second loop of a collection: the words of the kept objects are renamed. -/
structure CL (w W W' : World) (ps : List Nat) (H : List Ob) (Q tos : List Int) (ps2 gs2 : List Nat) (mv : Option Ob → Ob) (j : Nat) : Prop where
  c : Chg (· ∈ ps) w W'
  keep : ∀ k, w.heap.size ≤ k → k < W.heap.size → W'.heap[k]? = W.heap[k]?
  sz : W.heap.size ≤ W'.heap.size
  raw : ∀ p, p ∈ ps → p ∉ ps2.take j → W'.heap[p]? = w.heap[p]?
  len : gs2.length = j
  nd : gs2.Nodup
  done : ∀ (t p g : Nat) (r : Int), t < j → ps2[t]? = some p → gs2[t]? = some g → Q[t]? = some r → ObW W' p g (mv (objAt H r))
  gs : ∀ (t p g : Nat), ps2[t]? = some p → gs2[t]? = some g → (g = p ∨ W.heap.size ≤ g) ∧ g < W'.heap.size
def moveO (tos : List Int) : Option Ob → Ob
  | some (.words s l) => .words s (l.map fun x => ⟨x.k, x.n, tos.getD x.r.toNat 0⟩)
  | some (.text s) => .text s
  | none => .text ⟨#[]⟩
end Go.Proofs.Vg
namespace Go.Proofs.YtldeokfhipjbfaaDoor
open Go Go.Proofs.Vg Go.RowKit
def collQ (H : List Ob) (roots : List Wd) : List Int := bfsQ H roots
def collT (H : List Ob) (roots : List Wd) : List Int := tosF (H.length + 1) (collQ H roots) (collQ H roots).length
def collH (H : List Ob) (roots : List Wd) : List Ob := (collQ H roots).map fun r => moveO (collT H roots) (objAt H r)

-- -- function 20
set_option maxHeartbeats 4000000 in
set_option maxRecDepth 8000 in
theorem collect_ok (w : World) (hb rb : Nat) (H : List Ob) (F : Nat → Prop) (hH : HeapW w hb rb H F) (hF : ∀ k, F k → k < w.heap.size) (hl : H.length ≤ 1048576) (hW : Wf H) (rv : Value) (roots : List Wd) (hrsT : ∀ W', Chg F w W' → SlW W' rv roots) (hrl : roots.length ≤ 1073741824) :
    Rets Tryd.prog 20 [ptrOf hb, rv] w (fun v w' => (roots.any (fun x => !rightW H x) = true → v = .tuple #[.slice none 0 0, .int .i64 2] ∧ Grown w w' hb rb H F) ∧
      (roots.any (fun x => !rightW H x) = false → ∃ A c, v = .tuple #[.slice A roots.length c, .int .i64 0] ∧ Grown w w' hb rb (collH H roots) F)) := by
  have hrs : SlW w rv roots := hrsT w (Chg.refl _ _)
  obtain ⟨A, c, hrv, hlen, hcell⟩ := id hrs
  rw [wd_len] at hrv hlen
  subst hrv
  refine rets_of_okM Tryd.func20 rfl rfl ?_
  refine ok_seq (fun M hM => ok_region rfl ?_)
  repeat ((try first | (refine ofX3 hX ?_; clear hX X) | (refine ofX2 hX ?_; clear hX X)); (first | refine wpL_step (fun X hX => ?_) | refine wpH_step (fun X hX => ?_) | refine wpE_step (fun X hX => ?_) | refine wpL_end ?_ | refine wpH_end ?_ | refine wpE_end ?_); try simp only [ oweC, oweP, opF, opH, ev, evs, evp, evo, Env.get, Env.set, putE, gdst, S0, S1, thenN, inBlockN, argEnv, builtinR, retE, fin, callR, reduceIte, Nat.reduceEqDiff, Nat.reduceAdd, reduceCtorEq, forall_const, Tryd.results20, Fx.ag28, Fx.ag42, Fx.ag56, Fx.ag73, Fx.ag78, Fx.es56, Fx.es78, Fx.fo59_0, Fx.fo70_0, Fx.fo72_0, Fx.isl56])
  refine Runs.box (fun w1 he1 hz1 hb1 => ?_)
  generalize hB0 : w.heap.size = b0 at hz1 hb1
  simp only [Value.cells] at hb1
  repeat ((try first | (refine ofX3 hX ?_; clear hX X) | (refine ofX2 hX ?_; clear hX X)); (first | refine wpL_step (fun X hX => ?_) | refine wpH_step (fun X hX => ?_) | refine wpE_step (fun X hX => ?_) | refine wpL_end ?_ | refine wpH_end ?_ | refine wpE_end ?_); try simp only [ oweC, oweP, opF, opH, ev, evs, evp, evo, Env.get, Env.set, putE, gdst, S0, S1, thenN, inBlockN, argEnv, builtinR, retE, fin, callR, reduceIte, Nat.reduceEqDiff, Nat.reduceAdd, reduceCtorEq, forall_const, Tryd.results20, Fx.ag28, Fx.ag42, Fx.ag56, Fx.ag73, Fx.ag78, Fx.es56, Fx.es78, Fx.fo59_0, Fx.fo70_0, Fx.fo72_0, Fx.isl56])
  refine hM _ _ _ ?_; clear hM M
  refine ok_join [(1, .slice A roots.length c), (2, ptrOf b0)] (fun w' => Ext w1 w' ∧ roots.any (fun x => !rightW H x) = false) ?_ ?_
  · refine ok_block ?_
    refine ok_seq (fun M hM => ok_region rfl ?_)
    repeat ((try first | (refine ofX3 hX ?_; clear hX X) | (refine ofX2 hX ?_; clear hX X)); (first | refine wpL_step (fun X hX => ?_) | refine wpH_step (fun X hX => ?_) | refine wpE_step (fun X hX => ?_) | refine wpL_end ?_ | refine wpH_end ?_ | refine wpE_end ?_); try simp only [ oweC, oweP, opF, opH, ev, evs, evp, evo, Env.get, Env.set, putE, gdst, S0, S1, thenN, inBlockN, argEnv, builtinR, retE, fin, callR, reduceIte, Nat.reduceEqDiff, Nat.reduceAdd, reduceCtorEq, forall_const, Tryd.results20, Fx.ag28, Fx.ag42, Fx.ag56, Fx.ag73, Fx.ag78, Fx.es56, Fx.es78, Fx.fo59_0, Fx.fo70_0, Fx.fo72_0, Fx.isl56])
    refine ⟨_, hb1.cell (j := 0) rfl, ?_⟩
    repeat ((try first | (refine ofX3 hX ?_; clear hX X) | (refine ofX2 hX ?_; clear hX X)); (first | refine wpL_step (fun X hX => ?_) | refine wpH_step (fun X hX => ?_) | refine wpE_step (fun X hX => ?_) | refine wpL_end ?_ | refine wpH_end ?_ | refine wpE_end ?_); try simp only [ oweC, oweP, opF, opH, ev, evs, evp, evo, Env.get, Env.set, putE, gdst, S0, S1, thenN, inBlockN, argEnv, builtinR, retE, fin, callR, reduceIte, Nat.reduceEqDiff, Nat.reduceAdd, reduceCtorEq, forall_const, Tryd.results20, Fx.ag28, Fx.ag42, Fx.ag56, Fx.ag73, Fx.ag78, Fx.es56, Fx.es78, Fx.fo59_0, Fx.fo70_0, Fx.fo72_0, Fx.isl56])
    refine Runs.ptrEq Fx.un28 ?_
    repeat ((try first | (refine ofX3 hX ?_; clear hX X) | (refine ofX2 hX ?_; clear hX X)); (first | refine wpL_step (fun X hX => ?_) | refine wpH_step (fun X hX => ?_) | refine wpE_step (fun X hX => ?_) | refine wpL_end ?_ | refine wpH_end ?_ | refine wpE_end ?_); try simp only [ oweC, oweP, opF, opH, ev, evs, evp, evo, Env.get, Env.set, putE, gdst, S0, S1, thenN, inBlockN, argEnv, builtinR, retE, fin, callR, reduceIte, Nat.reduceEqDiff, Nat.reduceAdd, reduceCtorEq, forall_const, Tryd.results20, Fx.ag28, Fx.ag42, Fx.ag56, Fx.ag73, Fx.ag78, Fx.es56, Fx.es78, Fx.fo59_0, Fx.fo70_0, Fx.fo72_0, Fx.isl56])
    refine hM _ _ _ ?_; clear hM M
    refine ok_cond rfl (fun h => by cases h) (fun _ => ?_)
    refine ok_seq (fun M hM => ok_region rfl ?_)
    repeat ((try first | (refine ofX3 hX ?_; clear hX X) | (refine ofX2 hX ?_; clear hX X)); (first | refine wpL_step (fun X hX => ?_) | refine wpH_step (fun X hX => ?_) | refine wpE_step (fun X hX => ?_) | refine wpL_end ?_ | refine wpH_end ?_ | refine wpE_end ?_); try simp only [ oweC, oweP, opF, opH, ev, evs, evp, evo, Env.get, Env.set, putE, gdst, S0, S1, thenN, inBlockN, argEnv, builtinR, retE, fin, callR, reduceIte, Nat.reduceEqDiff, Nat.reduceAdd, reduceCtorEq, forall_const, Tryd.results20, Fx.ag28, Fx.ag42, Fx.ag56, Fx.ag73, Fx.ag78, Fx.es56, Fx.es78, Fx.fo59_0, Fx.fo70_0, Fx.fo72_0, Fx.isl56])
    refine Inv.call Fx.en32 (containsW_ok w1 A roots.length c _ hlen
      (fun i w4 => Ext w1 w4 ∧ ∀ (j : Nat) (x : Wd), j < i → roots[j]? = some x → rightW H x = true)
      (fun w4 => Ext w1 w4 ∧ roots.any (fun x => !rightW H x) = true) ⟨Ext.refl _, fun j x h => absurd h (Nat.not_lt_zero _)⟩ ?_) ?_
    · rintro i w4 hil ⟨he4, hall⟩
      have hxi : roots[i]? = some roots[i] := List.getElem?_eq_getElem hil
      obtain ⟨b, o, hA, hcc⟩ := hcell i roots[i].row (by rw [List.getElem?_map, hxi]; rfl)
      refine ⟨roots[i].row, rfl, ⟨b, o, hA, (he1.trans he4).cellsAt hcc⟩, Inv.clos (cap := [ptrOf b0]) Fx.en40 (collect1_ok w4 hb rb H F (hH.ext (he1.trans he4)) (by omega) roots[i] b0 (he4.cell (hb1.cell (j := 0) rfl))) ?_⟩
      rintro v w5 ⟨rfl, he5⟩
      refine ⟨_, rfl, fun hb => ⟨he4.trans he5, List.any_eq_true.2 ⟨_, List.getElem_mem hil, hb⟩⟩, fun hb => ⟨he4.trans he5, fun j x hj hx => ?_⟩⟩
      rcases Nat.lt_or_ge j i with h | h
      · exact hall j x h hx
      · have : j = i := by omega
        subst this
        rw [hxi] at hx
        cases hx
        simpa using hb
    rintro v w4 ⟨b, rfl, hbt, hbf⟩
    repeat ((try first | (refine ofX3 hX ?_; clear hX X) | (refine ofX2 hX ?_; clear hX X)); (first | refine wpL_step (fun X hX => ?_) | refine wpH_step (fun X hX => ?_) | refine wpE_step (fun X hX => ?_) | refine wpL_end ?_ | refine wpH_end ?_ | refine wpE_end ?_); try simp only [ oweC, oweP, opF, opH, ev, evs, evp, evo, Env.get, Env.set, putE, gdst, S0, S1, thenN, inBlockN, argEnv, builtinR, retE, fin, callR, reduceIte, Nat.reduceEqDiff, Nat.reduceAdd, reduceCtorEq, forall_const, Tryd.results20, Fx.ag28, Fx.ag42, Fx.ag56, Fx.ag73, Fx.ag78, Fx.es56, Fx.es78, Fx.fo59_0, Fx.fo70_0, Fx.fo72_0, Fx.isl56])
    refine hM _ _ _ ?_; clear hM M
    cases b with
    | true =>
      obtain ⟨he4, hany⟩ := hbt rfl
      refine ok_cond rfl (fun _ => ?_) (fun h => by cases h)
      refine ok_seq (fun M hM => ok_region rfl ?_); repeat ((try first | (refine ofX3 hX ?_; clear hX X) | (refine ofX2 hX ?_; clear hX X)); (first | refine wpL_step (fun X hX => ?_) | refine wpH_step (fun X hX => ?_) | refine wpE_step (fun X hX => ?_) | refine wpL_end ?_ | refine wpH_end ?_ | refine wpE_end ?_); try simp only [ oweC, oweP, opF, opH, ev, evs, evp, evo, Env.get, Env.set, putE, gdst, S0, S1, thenN, inBlockN, argEnv, builtinR, retE, fin, callR, reduceIte, Nat.reduceEqDiff, Nat.reduceAdd, reduceCtorEq, forall_const, Tryd.results20, Fx.ag28, Fx.ag42, Fx.ag56, Fx.ag73, Fx.ag78, Fx.es56, Fx.es78, Fx.fo59_0, Fx.fo70_0, Fx.fo72_0, Fx.isl56])
      refine hM _ _ _ ?_; clear hM M
      refine ok_ret ?_
      refine .inl ⟨rfl, ?_⟩
      try simp only [wpL, wpH, wpE, oweC, oweP, opF, opH, ev, evs, evp, evo, Env.get, Env.set, putE, gdst, S0, S1, thenN, inBlockN, argEnv, builtinR, retE, fin, callR, reduceIte, Nat.reduceEqDiff, Nat.reduceAdd, reduceCtorEq, forall_const, Tryd.results20, Fx.ag28, Fx.ag42, Fx.ag56, Fx.ag73, Fx.ag78, Fx.es56, Fx.es78, Fx.fo59_0, Fx.fo70_0, Fx.fo72_0, Fx.isl56]
      exact ⟨fun _ => Grown.ext hH (he1.trans he4), fun h => by rw [hany] at h; cases h⟩
    | false =>
      obtain ⟨he4, hall⟩ := hbf rfl
      refine ok_cond rfl (fun h => by cases h) (fun _ => ok_skip ?_)
      try simp only [wpL, wpH, wpE, oweC, oweP, opF, opH, ev, evs, evp, evo, Env.get, Env.set, putE, gdst, S0, S1, thenN, inBlockN, argEnv, builtinR, retE, fin, callR, reduceIte, Nat.reduceEqDiff, Nat.reduceAdd, reduceCtorEq, forall_const, Tryd.results20, Fx.ag28, Fx.ag42, Fx.ag56, Fx.ag73, Fx.ag78, Fx.es56, Fx.es78, Fx.fo59_0, Fx.fo70_0, Fx.fo72_0, Fx.isl56]
      refine ⟨by simp [sub, Env.get], he4, ?_⟩
      rw [List.any_eq_false]
      intro x hx hb
      obtain ⟨j, hj⟩ := List.mem_iff_getElem?.1 hx
      rw [hall j x (List.getElem?_eq_some_iff.1 hj).1 hj] at hb
      cases hb
  rintro w2 ⟨he2, hany⟩
  rw [hany]
  have he02 := he1.trans he2
  have hrall : ∀ x ∈ roots, 0 ≤ x.r ∧ x.r ≤ (H.length : Int) := fun x hx => right_ref (by
    have := List.any_eq_false.1 hany x hx
    simpa using this)
  obtain ⟨vs, ps, gs, hR0, hf, hrb⟩ := id hH
  obtain ⟨Av, cv, hvs, hvlen, hvcell⟩ := hR0.sli (by omega)
  have hL : (ps.map fun p => [ptrOf p]).length = H.length := by simp [hR0.lenp]
  rw [hL] at hvs
  have hhead : w.cell? ⟨hb, 0, none⟩ = some (.slice Av H.length cv) := by
    have hq := hR0.head.cell (j := 0) (u := vs) rfl
    rw [hvs] at hq
    exact hq
  have hb02 := hb1.ext he2
  have hs02 := he02.size
  refine ok_seq (fun M hM => ok_region rfl ?_)
  repeat ((try first | (refine ofX3 hX ?_; clear hX X) | (refine ofX2 hX ?_; clear hX X)); (first | refine wpL_step (fun X hX => ?_) | refine wpH_step (fun X hX => ?_) | refine wpE_step (fun X hX => ?_) | refine wpL_end ?_ | refine wpH_end ?_ | refine wpE_end ?_); try simp only [ oweC, oweP, opF, opH, ev, evs, evp, evo, Env.get, Env.set, putE, gdst, S0, S1, thenN, inBlockN, argEnv, builtinR, retE, fin, callR, reduceIte, Nat.reduceEqDiff, Nat.reduceAdd, reduceCtorEq, forall_const, Tryd.results20, Fx.ag28, Fx.ag42, Fx.ag56, Fx.ag73, Fx.ag78, Fx.es56, Fx.es78, Fx.fo59_0, Fx.fo70_0, Fx.fo72_0, Fx.isl56])
  refine ⟨_, hb02.cell (j := 0) rfl, ?_⟩
  repeat ((try first | (refine ofX3 hX ?_; clear hX X) | (refine ofX2 hX ?_; clear hX X)); (first | refine wpL_step (fun X hX => ?_) | refine wpH_step (fun X hX => ?_) | refine wpE_step (fun X hX => ?_) | refine wpL_end ?_ | refine wpH_end ?_ | refine wpE_end ?_); try simp only [ oweC, oweP, opF, opH, ev, evs, evp, evo, Env.get, Env.set, putE, gdst, S0, S1, thenN, inBlockN, argEnv, builtinR, retE, fin, callR, reduceIte, Nat.reduceEqDiff, Nat.reduceAdd, reduceCtorEq, forall_const, Tryd.results20, Fx.ag28, Fx.ag42, Fx.ag56, Fx.ag73, Fx.ag78, Fx.es56, Fx.es78, Fx.fo59_0, Fx.fo70_0, Fx.fo72_0, Fx.isl56])
  refine ⟨_, he02.cell hhead, ?_⟩
  repeat ((try first | (refine ofX3 hX ?_; clear hX X) | (refine ofX2 hX ?_; clear hX X)); (first | refine wpL_step (fun X hX => ?_) | refine wpH_step (fun X hX => ?_) | refine wpE_step (fun X hX => ?_) | refine wpL_end ?_ | refine wpH_end ?_ | refine wpE_end ?_); try simp only [ oweC, oweP, opF, opH, ev, evs, evp, evo, Env.get, Env.set, putE, gdst, S0, S1, thenN, inBlockN, argEnv, builtinR, retE, fin, callR, reduceIte, Nat.reduceEqDiff, Nat.reduceAdd, reduceCtorEq, forall_const, Tryd.results20, Fx.ag28, Fx.ag42, Fx.ag56, Fx.ag73, Fx.ag78, Fx.es56, Fx.es78, Fx.fo59_0, Fx.fo70_0, Fx.fo72_0, Fx.isl56])
  refine ⟨by simp only [inI]; omega, ?_⟩
  repeat ((try first | (refine ofX3 hX ?_; clear hX X) | (refine ofX2 hX ?_; clear hX X)); (first | refine wpL_step (fun X hX => ?_) | refine wpH_step (fun X hX => ?_) | refine wpE_step (fun X hX => ?_) | refine wpL_end ?_ | refine wpH_end ?_ | refine wpE_end ?_); try simp only [ oweC, oweP, opF, opH, ev, evs, evp, evo, Env.get, Env.set, putE, gdst, S0, S1, thenN, inBlockN, argEnv, builtinR, retE, fin, callR, reduceIte, Nat.reduceEqDiff, Nat.reduceAdd, reduceCtorEq, forall_const, Tryd.results20, Fx.ag28, Fx.ag42, Fx.ag56, Fx.ag73, Fx.ag78, Fx.es56, Fx.es78, Fx.fo59_0, Fx.fo70_0, Fx.fo72_0, Fx.isl56])
  refine Runs.make1 Fx.un78 Fx.zi3 rfl (by omega) (by omega) (by omega) (fun w3 he3 hz3 hb3 => ?_)
  generalize hBt : w2.heap.size = Bt at hz3 hb3
  have hto : ((H.length : Int) + 1).toNat = H.length + 1 := by omega
  rw [hto] at hb3 ⊢
  repeat ((try first | (refine ofX3 hX ?_; clear hX X) | (refine ofX2 hX ?_; clear hX X)); (first | refine wpL_step (fun X hX => ?_) | refine wpH_step (fun X hX => ?_) | refine wpE_step (fun X hX => ?_) | refine wpL_end ?_ | refine wpH_end ?_ | refine wpE_end ?_); try simp only [ oweC, oweP, opF, opH, ev, evs, evp, evo, Env.get, Env.set, putE, gdst, S0, S1, thenN, inBlockN, argEnv, builtinR, retE, fin, callR, reduceIte, Nat.reduceEqDiff, Nat.reduceAdd, reduceCtorEq, forall_const, Tryd.results20, Fx.ag28, Fx.ag42, Fx.ag56, Fx.ag73, Fx.ag78, Fx.es56, Fx.es78, Fx.fo59_0, Fx.fo70_0, Fx.fo72_0, Fx.isl56])
  refine Runs.alloc Fx.zi78 (fun w4 he4 hz4 hb4 => ?_)
  generalize hC6 : w3.heap.size = c6 at hz4 hb4
  simp only [Value.cells] at hb4
  repeat ((try first | (refine ofX3 hX ?_; clear hX X) | (refine ofX2 hX ?_; clear hX X)); (first | refine wpL_step (fun X hX => ?_) | refine wpH_step (fun X hX => ?_) | refine wpE_step (fun X hX => ?_) | refine wpL_end ?_ | refine wpH_end ?_ | refine wpE_end ?_); try simp only [ oweC, oweP, opF, opH, ev, evs, evp, evo, Env.get, Env.set, putE, gdst, S0, S1, thenN, inBlockN, argEnv, builtinR, retE, fin, callR, reduceIte, Nat.reduceEqDiff, Nat.reduceAdd, reduceCtorEq, forall_const, Tryd.results20, Fx.ag28, Fx.ag42, Fx.ag56, Fx.ag73, Fx.ag78, Fx.es56, Fx.es78, Fx.fo59_0, Fx.fo70_0, Fx.fo72_0, Fx.isl56])
  refine Runs.store hb4 Fx.zi78 rfl (by intro u hu; simp [Value.cells] at hu; subst hu; rfl) (by simp) (fun w5 hc5 hz5 hb5 => ?_)
  rw [splice_all _ _ (by simp [Value.cells])] at hb5
  simp only [Value.cells] at hb5
  repeat ((try first | (refine ofX3 hX ?_; clear hX X) | (refine ofX2 hX ?_; clear hX X)); (first | refine wpL_step (fun X hX => ?_) | refine wpH_step (fun X hX => ?_) | refine wpE_step (fun X hX => ?_) | refine wpL_end ?_ | refine wpH_end ?_ | refine wpE_end ?_); try simp only [ oweC, oweP, opF, opH, ev, evs, evp, evo, Env.get, Env.set, putE, gdst, S0, S1, thenN, inBlockN, argEnv, builtinR, retE, fin, callR, reduceIte, Nat.reduceEqDiff, Nat.reduceAdd, reduceCtorEq, forall_const, Tryd.results20, Fx.ag28, Fx.ag42, Fx.ag56, Fx.ag73, Fx.ag78, Fx.es56, Fx.es78, Fx.fo59_0, Fx.fo70_0, Fx.fo72_0, Fx.isl56])
  refine hM _ _ _ ?_; clear hM M
  refine ok_seq (fun M hM => ok_region rfl ?_)
  repeat ((try first | (refine ofX3 hX ?_; clear hX X) | (refine ofX2 hX ?_; clear hX X)); (first | refine wpL_step (fun X hX => ?_) | refine wpH_step (fun X hX => ?_) | refine wpE_step (fun X hX => ?_) | refine wpL_end ?_ | refine wpH_end ?_ | refine wpE_end ?_); try simp only [ oweC, oweP, opF, opH, ev, evs, evp, evo, Env.get, Env.set, putE, gdst, S0, S1, thenN, inBlockN, argEnv, builtinR, retE, fin, callR, reduceIte, Nat.reduceEqDiff, Nat.reduceAdd, reduceCtorEq, forall_const, Tryd.results20, Fx.ag28, Fx.ag42, Fx.ag56, Fx.ag73, Fx.ag78, Fx.es56, Fx.es78, Fx.fo59_0, Fx.fo70_0, Fx.fo72_0, Fx.isl56])
  refine Runs.alloc Fx.zi56 (fun w6 he6 hz6 hb6 => ?_)
  generalize hC7 : w5.heap.size = c7 at hz6 hb6
  simp only [Value.cells] at hb6
  have he06 : Ext w w6 := ((he02.trans (he3.trans he4)).chg_trans hc5 (fun k hk => by omega)).trans he6
  have hb06 : Blk w6 b0 [ptrOf hb] 28 := (((hb02.ext he3).ext he4).chg hc5 (by omega)).ext he6
  repeat ((try first | (refine ofX3 hX ?_; clear hX X) | (refine ofX2 hX ?_; clear hX X)); (first | refine wpL_step (fun X hX => ?_) | refine wpH_step (fun X hX => ?_) | refine wpE_step (fun X hX => ?_) | refine wpL_end ?_ | refine wpH_end ?_ | refine wpE_end ?_); try simp only [ oweC, oweP, opF, opH, ev, evs, evp, evo, Env.get, Env.set, putE, gdst, S0, S1, thenN, inBlockN, argEnv, builtinR, retE, fin, callR, reduceIte, Nat.reduceEqDiff, Nat.reduceAdd, reduceCtorEq, forall_const, Tryd.results20, Fx.ag28, Fx.ag42, Fx.ag56, Fx.ag73, Fx.ag78, Fx.es56, Fx.es78, Fx.fo59_0, Fx.fo70_0, Fx.fo72_0, Fx.isl56])
  refine hM _ _ _ ?_; clear hM M
  refine ok_seq (fun M0 hM0 => ?_)
  refine ok_seq (fun M hM => ok_region rfl ?_)
  repeat ((try first | (refine ofX3 hX ?_; clear hX X) | (refine ofX2 hX ?_; clear hX X)); (first | refine wpL_step (fun X hX => ?_) | refine wpH_step (fun X hX => ?_) | refine wpE_step (fun X hX => ?_) | refine wpL_end ?_ | refine wpH_end ?_ | refine wpE_end ?_); try simp only [ oweC, oweP, opF, opH, ev, evs, evp, evo, Env.get, Env.set, putE, gdst, S0, S1, thenN, inBlockN, argEnv, builtinR, retE, fin, callR, reduceIte, Nat.reduceEqDiff, Nat.reduceAdd, reduceCtorEq, forall_const, Tryd.results20, Fx.ag28, Fx.ag42, Fx.ag56, Fx.ag73, Fx.ag78, Fx.es56, Fx.es78, Fx.fo59_0, Fx.fo70_0, Fx.fo72_0, Fx.isl56])
  refine ⟨_, hb06.cell (j := 0) rfl, ?_⟩
  repeat ((try first | (refine ofX3 hX ?_; clear hX X) | (refine ofX2 hX ?_; clear hX X)); (first | refine wpL_step (fun X hX => ?_) | refine wpH_step (fun X hX => ?_) | refine wpE_step (fun X hX => ?_) | refine wpL_end ?_ | refine wpH_end ?_ | refine wpE_end ?_); try simp only [ oweC, oweP, opF, opH, ev, evs, evp, evo, Env.get, Env.set, putE, gdst, S0, S1, thenN, inBlockN, argEnv, builtinR, retE, fin, callR, reduceIte, Nat.reduceEqDiff, Nat.reduceAdd, reduceCtorEq, forall_const, Tryd.results20, Fx.ag28, Fx.ag42, Fx.ag56, Fx.ag73, Fx.ag78, Fx.es56, Fx.es78, Fx.fo59_0, Fx.fo70_0, Fx.fo72_0, Fx.isl56])
  refine Inv.call Fx.en41 (reached_ok w6 hb (.slice A roots.length c) rfl) ?_
  rintro v w7 ⟨rfl, hk1, hk2, he7⟩
  repeat ((try first | (refine ofX3 hX ?_; clear hX X) | (refine ofX2 hX ?_; clear hX X)); (first | refine wpL_step (fun X hX => ?_) | refine wpH_step (fun X hX => ?_) | refine wpE_step (fun X hX => ?_) | refine wpL_end ?_ | refine wpH_end ?_ | refine wpE_end ?_); try simp only [ oweC, oweP, opF, opH, ev, evs, evp, evo, Env.get, Env.set, putE, gdst, S0, S1, thenN, inBlockN, argEnv, builtinR, retE, fin, callR, reduceIte, Nat.reduceEqDiff, Nat.reduceAdd, reduceCtorEq, forall_const, Tryd.results20, Fx.ag28, Fx.ag42, Fx.ag56, Fx.ag73, Fx.ag78, Fx.es56, Fx.es78, Fx.fo59_0, Fx.fo70_0, Fx.fo72_0, Fx.isl56])
  refine hM _ _ _ ?_; clear hM M
  have hs7 : w6.heap.size + 1 < w7.heap.size := hk2.lt
  have he07 := he06.trans he7
  have hs12 := he2.size
  have hs67 := he7.size
  have hn : CN w w7.heap.size b0 w6.heap.size (w6.heap.size + 1) c6 Bt c7 := ⟨by omega, by omega, by omega, by omega, by omega, by omega, by omega⟩
  have hk6 : Blk w7 c6 [.slice (some ⟨Bt, 0, none⟩) (H.length + 1) (H.length + 1)] 78 := (hb5.ext he6).ext he7
  have hkt : Blk w7 Bt (ivs (tosF (H.length + 1) (collQ H roots) 0)) 3 := by
    have : Blk w7 Bt _ 3 := (((hb3.ext he4).chg hc5 (by omega)).ext he6).ext he7
    simpa [ivs, tosF] using this
  have hFoot : ∀ k, Foot hb vs ps gs k → k < w.heap.size := fun k hk => (hf k hk).2
  have hrbs := hR0.rules.lt
  generalize hptr : (collQ H roots).map (fun r => ptrOf (ps.getD (r - 1).toNat 0)) = ptrs
  have hpl : ptrs.length = (collQ H roots).length := by rw [← hptr]; simp
  have hbq := bfs_prefix hW (H.length + 1) _ _ 0 (pushF_inv (n := H.length) roots _ [] hrall (Qok.nil _)).1
  have hQr : ∀ r ∈ collQ H roots, 1 ≤ r ∧ r ≤ (H.length : Int) := hbq.2.1
  have hQn : (collQ H roots).Nodup := hbq.2.2
  clear hbq
  generalize hN : w7.heap.size = n at hn
  have hJHF : ∀ s W, CJ w W n b0 w6.heap.size (w6.heap.size + 1) c6 Bt c7 hb (H.length + 1) (.slice A roots.length c) (collQ H roots) ptrs s → HF W s w6.heap.size (w6.heap.size + 1) hb rb vs ps gs H (.slice A roots.length c) roots := fun s W h =>
    ⟨hR0.ext h.ext, h.k1.cell rfl, h.k2.cell rfl, hrs.ext h.ext, h.snap, fun k hk ho => by have := hFoot k hk; have := h.own k ho; omega⟩
  have hst : ∀ s W W', Off n W W' → CJ w W n b0 w6.heap.size (w6.heap.size + 1) c6 Bt c7 hb (H.length + 1) (.slice A roots.length c) (collQ H roots) ptrs s → CJ w W' n b0 w6.heap.size (w6.heap.size + 1) c6 Bt c7 hb (H.length + 1) (.slice A roots.length c) (collQ H roots) ptrs s := by
    rintro s W W' ho h
    refine h.chg hn ho.chg' (fun k hk => by omega) (fun kv hown hnk k hk => ⟨fun h => ?_, hnk k hk⟩) rfl (fun k hk => by rw [ho.size]; exact h.own k hk) (fun k hk => ?_)
    · have := (hown.lt k hk).1; omega
    · have := h.own k hk
      rw [ho.block k (by omega) (by omega)]
      exact h.snap k hk
  refine ok_block ?_
  refine ok_rangeG (S := RS) (cap := [ptrOf w6.heap.size, ptrOf (w6.heap.size + 1)])
    (fun s W => CJ w W n b0 w6.heap.size (w6.heap.size + 1) c6 Bt c7 hb (H.length + 1) (.slice A roots.length c) (collQ H roots) ptrs s) (fun _ _ => False) ⟨0, fun _ => False, fun _ => none⟩
    (fun s => [.int .i64 ((collQ H roots).getD s.i 0)]) (fun s => s.i < (collQ H roots).length) (fun s => s.i = (collQ H roots).length) (fun s s' => s' = ⟨s.i + 1, s.own, s.snap⟩) GenR
    rfl Fx.en60 (by decide) (fun s _ => rfl) ?_ (fun _ _ _ _ h => h) ?_ ?_ ?_ ?_ ?_ (fun _ h => h.elim) (fun _ _ h => h.elim)
  · rw [hN]; exact hst
  · rintro s W s' W' hsz hg h
    rw [hN] at hsz ⊢
    have hso : ∀ k, s'.own k → n + 2 ≤ k ∧ k < W'.heap.size := fun k hk => by
      refine ⟨?_, (hg.new k hk).2⟩
      rcases (hg.new k hk).1 with h1 | h1
      · exact (h.own k h1).1
      · omega
    refine ⟨Keep.chg hg.chg (by omega) (fun ho => by have := h.own n ho; omega) (fun ho => by have := h.own (n + 1) ho; omega), h.chg hn hg.chg (fun k hk => by have := h.own k hk; omega) (fun kv hown hnk k hk => ⟨hnk k hk, fun h' => ?_⟩) hg.i hso (fun k hk => by rw [hg.snap])⟩
    rcases (hg.new k h').1 with h1 | h1
    · exact hnk k hk h1
    · have := (hown.lt k hk).2; omega
  · intro W he hsz
    exact ⟨he07.trans he, ((hb06.ext he7).ext he), hk1.ext he, hk2.ext he, hk6.ext he, hkt.ext he, ⟨.slice none 0 0, (hb6.ext he7).ext he, World.ownsRow_nil _ _ _ _, fun k hk => by simp [Value.ownBlock] at hk⟩, Nat.zero_le _, fun k h => h.elim, fun k h => h.elim⟩
  · -- one round
    rintro s W hmore h hsz
    rw [hN] at hsz ⊢
    simp only [bindE]
    have hri : (collQ H roots)[s.i]? = some ((collQ H roots).getD s.i 0) := by rw [List.getD_eq_getElem?_getD, List.getElem?_eq_getElem hmore]; rfl
    have hrr := hQr _ (List.mem_of_getElem? hri)
    generalize hr0 : (collQ H roots).getD s.i 0 = r at hri hrr
    refine ok_region rfl ?_
    repeat ((try first | (refine ofX3 hX ?_; clear hX X) | (refine ofX2 hX ?_; clear hX X)); (first | refine wpL_step (fun X hX => ?_) | refine wpH_step (fun X hX => ?_) | refine wpE_step (fun X hX => ?_) | refine wpL_end ?_ | refine wpH_end ?_ | refine wpE_end ?_); try simp only [ oweC, oweP, opF, opH, ev, evs, evp, evo, Env.get, Env.set, putE, gdst, S0, S1, thenN, inBlockN, argEnv, builtinR, retE, fin, callR, reduceIte, Nat.reduceEqDiff, Nat.reduceAdd, reduceCtorEq, forall_const, Tryd.results20, Fx.ag28, Fx.ag42, Fx.ag56, Fx.ag73, Fx.ag78, Fx.es56, Fx.es78, Fx.fo59_0, Fx.fo70_0, Fx.fo72_0, Fx.isl56])
    refine ⟨Keep.refl _ _, fun W2 ho => ?_⟩
    have h2 := hst s W W2 ho h
    have hsz2 : n + 1 < W2.heap.size := by rw [ho.size]; exact hsz
    clear h ho hsz
    obtain ⟨i, o, hio, hi, hoi, hoo⟩ := objAt_in (H := H) (r := r) hrr.1 hrr.2
    have hRW := hR0.ext h2.ext
    obtain ⟨p, g, hp, hg, hob⟩ := hRW.at_ hoi
    obtain ⟨Av2, cv2, hvs2, -, hvcell2⟩ := hRW.sli (by omega)
    rw [hL, hvs] at hvs2
    injection hvs2 with hA2 _ hc2
    subst hA2
    obtain ⟨bb, oo, rfl, hcc⟩ := hvcell2 i [ptrOf p] (by rw [List.getElem?_map, hp]; rfl)
    have hcc0 := hcc 0 _ rfl
    have hhead2 := h2.ext.cell hhead
    have hptri : ptrs[s.i]? = some (ptrOf p) := by
      rw [← hptr, List.getElem?_map, hri]
      have : (r - 1).toNat = i := by omega
      have hpi : ps.getD i 0 = p := by rw [List.getD_eq_getElem?_getD, hp]; rfl
      simp only [Option.map_some]
      rw [this, hpi]
    have hsl : s.i < ptrs.length := by rw [hpl]; exact hmore
    have hptk : ptrs.take (s.i + 1) = ptrs.take s.i ++ [ptrOf p] := by
      rw [List.take_succ_eq_append_getElem hsl]
      rw [List.getElem?_eq_getElem hsl] at hptri
      rw [Option.some.inj hptri]
    have hql : (collQ H roots).length ≤ 1048577 := by
      have hu := (pushF_inv (n := H.length) roots _ [] hrall (Qok.nil _))
      have hb := bfs_length hW (H.length + 1) _ _ 0 hu.1
      have hu2 := hu.2.2
      rw [unseen_rep] at hu2
      simp only [List.length_nil] at hu2
      have : (collQ H roots).length ≤ H.length + 1 := by unfold collQ bfsQ; omega
      omega
    obtain ⟨kv, hkv, hown, hnk⟩ := h2.kk
    have e5 : (r - 1).toNat = i := by omega
    refine ok_block ?_
    refine ok_seq (fun M hM => ok_draw 9 [(true, false), (false, true), (false, true)] (Ext _) Fx.mixed (by decide) rfl (by decide +kernel) (by decide +kernel) (Ext.drew _) ?_); repeat ((try first | (refine ofX3 hX ?_; clear hX X) | (refine ofX2 hX ?_; clear hX X)); (first | refine wpL_step (fun X hX => ?_) | refine wpH_step (fun X hX => ?_) | refine wpE_step (fun X hX => ?_) | refine wpL_end ?_ | refine wpH_end ?_ | refine wpE_end ?_); try simp only [ oweC, oweP, opF, opH, ev, evs, evp, evo, Env.get, Env.set, putE, gdst, S0, S1, thenN, inBlockN, argEnv, builtinR, retE, fin, callR, reduceIte, Nat.reduceEqDiff, Nat.reduceAdd, reduceCtorEq, forall_const, Tryd.results20, Fx.ag28, Fx.ag42, Fx.ag56, Fx.ag73, Fx.ag78, Fx.es56, Fx.es78, Fx.fo59_0, Fx.fo70_0, Fx.fo72_0, Fx.isl56])
    refine ⟨_, fun w' h => h.cell (hkv.cell (j := 0) rfl), ?_⟩
    repeat ((try first | (refine ofX3 hX ?_; clear hX X) | (refine ofX2 hX ?_; clear hX X)); (first | refine wpL_step (fun X hX => ?_) | refine wpH_step (fun X hX => ?_) | refine wpE_step (fun X hX => ?_) | refine wpL_end ?_ | refine wpH_end ?_ | refine wpE_end ?_); try simp only [ oweC, oweP, opF, opH, ev, evs, evp, evo, Env.get, Env.set, putE, gdst, S0, S1, thenN, inBlockN, argEnv, builtinR, retE, fin, callR, reduceIte, Nat.reduceEqDiff, Nat.reduceAdd, reduceCtorEq, forall_const, Tryd.results20, Fx.ag28, Fx.ag42, Fx.ag56, Fx.ag73, Fx.ag78, Fx.es56, Fx.es78, Fx.fo59_0, Fx.fo70_0, Fx.fo72_0, Fx.isl56])
    refine ⟨_, fun w' h => h.cell (h2.k0.cell (j := 0) rfl), ?_⟩
    repeat ((try first | (refine ofX3 hX ?_; clear hX X) | (refine ofX2 hX ?_; clear hX X)); (first | refine wpL_step (fun X hX => ?_) | refine wpH_step (fun X hX => ?_) | refine wpE_step (fun X hX => ?_) | refine wpL_end ?_ | refine wpH_end ?_ | refine wpE_end ?_); try simp only [ oweC, oweP, opF, opH, ev, evs, evp, evo, Env.get, Env.set, putE, gdst, S0, S1, thenN, inBlockN, argEnv, builtinR, retE, fin, callR, reduceIte, Nat.reduceEqDiff, Nat.reduceAdd, reduceCtorEq, forall_const, Tryd.results20, Fx.ag28, Fx.ag42, Fx.ag56, Fx.ag73, Fx.ag78, Fx.es56, Fx.es78, Fx.fo59_0, Fx.fo70_0, Fx.fo72_0, Fx.isl56])
    refine ⟨_, fun w' h => h.cell hhead2, ?_⟩
    repeat ((try first | (refine ofX3 hX ?_; clear hX X) | (refine ofX2 hX ?_; clear hX X)); (first | refine wpL_step (fun X hX => ?_) | refine wpH_step (fun X hX => ?_) | refine wpE_step (fun X hX => ?_) | refine wpL_end ?_ | refine wpH_end ?_ | refine wpE_end ?_); try simp only [ oweC, oweP, opF, opH, ev, evs, evp, evo, Env.get, Env.set, putE, gdst, S0, S1, thenN, inBlockN, argEnv, builtinR, retE, fin, callR, reduceIte, Nat.reduceEqDiff, Nat.reduceAdd, reduceCtorEq, forall_const, Tryd.results20, Fx.ag28, Fx.ag42, Fx.ag56, Fx.ag73, Fx.ag78, Fx.es56, Fx.es78, Fx.fo59_0, Fx.fo70_0, Fx.fo72_0, Fx.isl56])
    refine ⟨by simp only [inI]; omega, ?_⟩
    repeat ((try first | (refine ofX3 hX ?_; clear hX X) | (refine ofX2 hX ?_; clear hX X)); (first | refine wpL_step (fun X hX => ?_) | refine wpH_step (fun X hX => ?_) | refine wpE_step (fun X hX => ?_) | refine wpL_end ?_ | refine wpH_end ?_ | refine wpE_end ?_); try simp only [ oweC, oweP, opF, opH, ev, evs, evp, evo, Env.get, Env.set, putE, gdst, S0, S1, thenN, inBlockN, argEnv, builtinR, retE, fin, callR, reduceIte, Nat.reduceEqDiff, Nat.reduceAdd, reduceCtorEq, forall_const, Tryd.results20, Fx.ag28, Fx.ag42, Fx.ag56, Fx.ag73, Fx.ag78, Fx.es56, Fx.es78, Fx.fo59_0, Fx.fo70_0, Fx.fo72_0, Fx.isl56])
    refine ⟨by omega, by omega, ?_⟩
    repeat ((try first | (refine ofX3 hX ?_; clear hX X) | (refine ofX2 hX ?_; clear hX X)); (first | refine wpL_step (fun X hX => ?_) | refine wpH_step (fun X hX => ?_) | refine wpE_step (fun X hX => ?_) | refine wpL_end ?_ | refine wpH_end ?_ | refine wpE_end ?_); try simp only [ oweC, oweP, opF, opH, ev, evs, evp, evo, Env.get, Env.set, putE, gdst, S0, S1, thenN, inBlockN, argEnv, builtinR, retE, fin, callR, reduceIte, Nat.reduceEqDiff, Nat.reduceAdd, reduceCtorEq, forall_const, Tryd.results20, Fx.ag28, Fx.ag42, Fx.ag56, Fx.ag73, Fx.ag78, Fx.es56, Fx.es78, Fx.fo59_0, Fx.fo70_0, Fx.fo72_0, Fx.isl56])
    refine ⟨_, fun w' h => h.cell (by rw [e5]; simpa [add_at] using hcc0), ?_⟩
    repeat ((try first | (refine ofX3 hX ?_; clear hX X) | (refine ofX2 hX ?_; clear hX X)); (first | refine wpL_step (fun X hX => ?_) | refine wpH_step (fun X hX => ?_) | refine wpE_step (fun X hX => ?_) | refine wpL_end ?_ | refine wpH_end ?_ | refine wpE_end ?_); try simp only [ oweC, oweP, opF, opH, ev, evs, evp, evo, Env.get, Env.set, putE, gdst, S0, S1, thenN, inBlockN, argEnv, builtinR, retE, fin, callR, reduceIte, Nat.reduceEqDiff, Nat.reduceAdd, reduceCtorEq, forall_const, Tryd.results20, Fx.ag28, Fx.ag42, Fx.ag56, Fx.ag73, Fx.ag78, Fx.es56, Fx.es78, Fx.fo59_0, Fx.fo70_0, Fx.fo72_0, Fx.isl56])
    intro w10 he10
    repeat ((try first | (refine ofX3 hX ?_; clear hX X) | (refine ofX2 hX ?_; clear hX X)); (first | refine wpL_step (fun X hX => ?_) | refine wpH_step (fun X hX => ?_) | refine wpE_step (fun X hX => ?_) | refine wpL_end ?_ | refine wpH_end ?_ | refine wpE_end ?_); try simp only [ oweC, oweP, opF, opH, ev, evs, evp, evo, Env.get, Env.set, putE, gdst, S0, S1, thenN, inBlockN, argEnv, builtinR, retE, fin, callR, reduceIte, Nat.reduceEqDiff, Nat.reduceAdd, reduceCtorEq, forall_const, Tryd.results20, Fx.ag28, Fx.ag42, Fx.ag56, Fx.ag73, Fx.ag78, Fx.es56, Fx.es78, Fx.fo59_0, Fx.fo70_0, Fx.fo72_0, Fx.isl56])
    refine Runs.lit (cs := [ptrOf p]) Fx.un56 Fx.zi73 (by decide) (by kernel_rfl) (by decide) (fun w11 he11 hs11 hb11 => ?_)
    refine ⟨he10.trans he11, ?_⟩
    repeat ((try first | (refine ofX3 hX ?_; clear hX X) | (refine ofX2 hX ?_; clear hX X)); (first | refine wpL_step (fun X hX => ?_) | refine wpH_step (fun X hX => ?_) | refine wpE_step (fun X hX => ?_) | refine wpL_end ?_ | refine wpH_end ?_ | refine wpE_end ?_); try simp only [ oweC, oweP, opF, opH, ev, evs, evp, evo, Env.get, Env.set, putE, gdst, S0, S1, thenN, inBlockN, argEnv, builtinR, retE, fin, callR, reduceIte, Nat.reduceEqDiff, Nat.reduceAdd, reduceCtorEq, forall_const, Tryd.results20, Fx.ag28, Fx.ag42, Fx.ag56, Fx.ag73, Fx.ag78, Fx.es56, Fx.es78, Fx.fo59_0, Fx.fo70_0, Fx.fo72_0, Fx.isl56])
    have he211 := he10.trans he11
    have hs211 := he211.size
    have hown11 := owns_chg' hown (he211.chg (fun _ => False)) (fun _ _ h => h)
    refine Runs.append1' Fx.un56 Fx.zi73 rfl (by decide) hown11 hb11 rfl (by intro u hu; simp at hu; subst hu; rfl) (by simp [maxLen]; omega) (by omega) (by omega) (fun v' w12 hown12 hg12 hblk => ?_)
    obtain ⟨g', cap, hvn⟩ : ∃ g' cap, v' = .slice (some ⟨g', 0, none⟩) (s.i + 1) cap := by
      rcases hown12.2 with ⟨-, h0⟩ | ⟨g', cap, cur, h1, _⟩
      · omega
      · exact ⟨g', cap, h1⟩
    subst hvn
    have hc12 : Chg (fun k => kv.ownBlock = some k) w11 w12 := ⟨hg12.os, hg12.tape, hg12.output, hg12.size, fun k hk hs => hg12.block k hk (fun e => hs e.symm)⟩
    have hkvn : ∀ k, k < n + 2 → ¬ kv.ownBlock = some k := fun k hk h => by have := (hown.lt k h).1; omega
    have hnn := hn
    obtain ⟨⟨_, n0⟩, ⟨_, n1⟩, ⟨_, n2⟩, ⟨_, n6⟩, ⟨_, nt⟩, ⟨_, n7⟩, nne⟩ := hnn
    have hkv12 : Blk w12 c7 [kv] 56 := (hkv.ext he211).chg hc12 (hkvn c7 (by omega))
    repeat ((try first | (refine ofX3 hX ?_; clear hX X) | (refine ofX2 hX ?_; clear hX X)); (first | refine wpL_step (fun X hX => ?_) | refine wpH_step (fun X hX => ?_) | refine wpE_step (fun X hX => ?_) | refine wpL_end ?_ | refine wpH_end ?_ | refine wpE_end ?_); try simp only [ oweC, oweP, opF, opH, ev, evs, evp, evo, Env.get, Env.set, putE, gdst, S0, S1, thenN, inBlockN, argEnv, builtinR, retE, fin, callR, reduceIte, Nat.reduceEqDiff, Nat.reduceAdd, reduceCtorEq, forall_const, Tryd.results20, Fx.ag28, Fx.ag42, Fx.ag56, Fx.ag73, Fx.ag78, Fx.es56, Fx.es78, Fx.fo59_0, Fx.fo70_0, Fx.fo72_0, Fx.isl56])
    refine Runs.store hkv12 Fx.zi56 rfl (by intro u hu; simp [Value.cells] at hu; subst hu; rfl) (by simp) (fun w13 hc13 hs13 hb13 => ?_)
    rw [splice_all _ _ (by simp [Value.cells])] at hb13
    simp only [Value.cells] at hb13
    have hs12' := hc12.size
    have hk6' : Blk w13 c6 _ 78 := ((h2.k6.ext he211).chg hc12 (hkvn c6 (by omega))).chg hc13 nne.1
    have hkt' : Blk w13 Bt _ 3 := ((h2.kt.ext he211).chg hc12 (hkvn Bt (by omega))).chg hc13 nne.2.1
    repeat ((try first | (refine ofX3 hX ?_; clear hX X) | (refine ofX2 hX ?_; clear hX X)); (first | refine wpL_step (fun X hX => ?_) | refine wpH_step (fun X hX => ?_) | refine wpE_step (fun X hX => ?_) | refine wpL_end ?_ | refine wpH_end ?_ | refine wpE_end ?_); try simp only [ oweC, oweP, opF, opH, ev, evs, evp, evo, Env.get, Env.set, putE, gdst, S0, S1, thenN, inBlockN, argEnv, builtinR, retE, fin, callR, reduceIte, Nat.reduceEqDiff, Nat.reduceAdd, reduceCtorEq, forall_const, Tryd.results20, Fx.ag28, Fx.ag42, Fx.ag56, Fx.ag73, Fx.ag78, Fx.es56, Fx.es78, Fx.fo59_0, Fx.fo70_0, Fx.fo72_0, Fx.isl56])
    refine hM _ _ _ ?_; clear hM M
    refine ok_region rfl ?_
    repeat ((try first | (refine ofX3 hX ?_; clear hX X) | (refine ofX2 hX ?_; clear hX X)); (first | refine wpL_step (fun X hX => ?_) | refine wpH_step (fun X hX => ?_) | refine wpE_step (fun X hX => ?_) | refine wpL_end ?_ | refine wpH_end ?_ | refine wpE_end ?_); try simp only [ oweC, oweP, opF, opH, ev, evs, evp, evo, Env.get, Env.set, putE, gdst, S0, S1, thenN, inBlockN, argEnv, builtinR, retE, fin, callR, reduceIte, Nat.reduceEqDiff, Nat.reduceAdd, reduceCtorEq, forall_const, Tryd.results20, Fx.ag28, Fx.ag42, Fx.ag56, Fx.ag73, Fx.ag78, Fx.es56, Fx.es78, Fx.fo59_0, Fx.fo70_0, Fx.fo72_0, Fx.isl56])
    refine ⟨_, hk6'.cell (j := 0) rfl, ?_⟩
    repeat ((try first | (refine ofX3 hX ?_; clear hX X) | (refine ofX2 hX ?_; clear hX X)); (first | refine wpL_step (fun X hX => ?_) | refine wpH_step (fun X hX => ?_) | refine wpE_step (fun X hX => ?_) | refine wpL_end ?_ | refine wpH_end ?_ | refine wpE_end ?_); try simp only [ oweC, oweP, opF, opH, ev, evs, evp, evo, Env.get, Env.set, putE, gdst, S0, S1, thenN, inBlockN, argEnv, builtinR, retE, fin, callR, reduceIte, Nat.reduceEqDiff, Nat.reduceAdd, reduceCtorEq, forall_const, Tryd.results20, Fx.ag28, Fx.ag42, Fx.ag56, Fx.ag73, Fx.ag78, Fx.es56, Fx.es78, Fx.fo59_0, Fx.fo70_0, Fx.fo72_0, Fx.isl56])
    refine ⟨_, hb13.cell (j := 0) rfl, ?_⟩
    repeat ((try first | (refine ofX3 hX ?_; clear hX X) | (refine ofX2 hX ?_; clear hX X)); (first | refine wpL_step (fun X hX => ?_) | refine wpH_step (fun X hX => ?_) | refine wpE_step (fun X hX => ?_) | refine wpL_end ?_ | refine wpH_end ?_ | refine wpE_end ?_); try simp only [ oweC, oweP, opF, opH, ev, evs, evp, evo, Env.get, Env.set, putE, gdst, S0, S1, thenN, inBlockN, argEnv, builtinR, retE, fin, callR, reduceIte, Nat.reduceEqDiff, Nat.reduceAdd, reduceCtorEq, forall_const, Tryd.results20, Fx.ag28, Fx.ag42, Fx.ag56, Fx.ag73, Fx.ag78, Fx.es56, Fx.es78, Fx.fo59_0, Fx.fo70_0, Fx.fo72_0, Fx.isl56])
    refine ⟨by omega, by omega, ?_⟩
    repeat ((try first | (refine ofX3 hX ?_; clear hX X) | (refine ofX2 hX ?_; clear hX X)); (first | refine wpL_step (fun X hX => ?_) | refine wpH_step (fun X hX => ?_) | refine wpE_step (fun X hX => ?_) | refine wpL_end ?_ | refine wpH_end ?_ | refine wpE_end ?_); try simp only [ oweC, oweP, opF, opH, ev, evs, evp, evo, Env.get, Env.set, putE, gdst, S0, S1, thenN, inBlockN, argEnv, builtinR, retE, fin, callR, reduceIte, Nat.reduceEqDiff, Nat.reduceAdd, reduceCtorEq, forall_const, Tryd.results20, Fx.ag28, Fx.ag42, Fx.ag56, Fx.ag73, Fx.ag78, Fx.es56, Fx.es78, Fx.fo59_0, Fx.fo70_0, Fx.fo72_0, Fx.isl56])
    simp only [Nat.zero_add]
    refine Runs.store (b := Bt) (o := r.toNat) (v := .int .i64 ((s.i + 1 : Nat) : Int)) hkt' Fx.zi3 rfl (by intro u hu; simp [Value.cells] at hu; subst hu; rfl) (by simp [ivs, tosF_length]; omega) (fun w14 hc14 hs14 hb14 => ?_)
    rw [show (Value.cells (.int .i64 ((s.i + 1 : Nat) : Int))).toList = [Value.int .i64 ((s.i + 1 : Nat) : Int)] from rfl, ivs_set _ _ _ (by rw [tosF_length]; omega)] at hb14
    repeat ((try first | (refine ofX3 hX ?_; clear hX X) | (refine ofX2 hX ?_; clear hX X)); (first | refine wpL_step (fun X hX => ?_) | refine wpH_step (fun X hX => ?_) | refine wpE_step (fun X hX => ?_) | refine wpL_end ?_ | refine wpH_end ?_ | refine wpE_end ?_); try simp only [ oweC, oweP, opF, opH, ev, evs, evp, evo, Env.get, Env.set, putE, gdst, S0, S1, thenN, inBlockN, argEnv, builtinR, retE, fin, callR, reduceIte, Nat.reduceEqDiff, Nat.reduceAdd, reduceCtorEq, forall_const, Tryd.results20, Fx.ag28, Fx.ag42, Fx.ag56, Fx.ag73, Fx.ag78, Fx.es56, Fx.es78, Fx.fo59_0, Fx.fo70_0, Fx.fo72_0, Fx.isl56])
    have hcA : Chg (fun k => kv.ownBlock = some k ∨ k = c7 ∨ k = Bt) W2 w14 := (he211.chg _).trans ((hc12.mono fun k _ h => .inl h).trans ((hc13.mono fun k _ h => .inr (.inl h)).trans (hc14.mono fun k _ h => .inr (.inr h))))
    have hlow : ∀ k, k < n + 2 → k ≠ c7 → k ≠ Bt → ¬ (kv.ownBlock = some k ∨ k = c7 ∨ k = Bt) := fun k hk h1 h2' h => by
      rcases h with h | h | h
      · exact hkvn k hk h
      · exact h1 h
      · exact h2' h
    refine ⟨Keep.chg hcA hsz2 (hlow n (by omega) (by omega) (by omega)) (hlow (n + 1) (by omega) (by omega) (by omega)), ⟨s.i + 1, s.own, s.snap⟩, rfl, ?_⟩
    refine ⟨?_, h2.k0.chg hcA (hlow _ (by omega) (by omega) (by omega)), h2.k1.chg hcA (hlow _ (by omega) (by omega) (by omega)), h2.k2.chg hcA (hlow _ (by omega) (by omega) (by omega)), h2.k6.chg hcA (hlow _ (by omega) (by omega) (by omega)), ?_, ⟨_, hb13.chg hc14 (by omega), ?_, ?_⟩, by simp only; omega, fun k hk => ⟨(h2.own k hk).1, Nat.lt_of_lt_of_le (h2.own k hk).2 hcA.size⟩, fun k hk => ?_⟩
    · refine h2.ext.chg_trans hcA (fun k hk => ?_)
      have h00 := hn.h7.1
      have h01 := hn.ht.1
      rcases hk with hk | hk | hk
      · have := (hown.lt k hk).1; have := h2.ext.size; omega
      · omega
      · omega
    · simp only [tosF, hr0]
      exact_mod_cast hb14
    · simp only [hptk]
      exact owns_chg' (owns_chg' hown12 hc13 (fun k hk h => by have := (hown12.lt k hk).1; omega)) hc14 (fun k hk h => by have := (hown12.lt k hk).1; omega)
    · intro k hk ho
      rcases hblk with h' | h'
      · rw [h'] at hk; exact hnk k hk ho
      · rw [h'] at hk; cases hk
        have := (h2.own _ ho).2
        omega
    · have h3 := h2.own k hk
      rw [hcA.block k h3.2 (fun h => by
        rcases h with h | h | h
        · exact hnk k h hk
        · omega
        · omega)]
      exact h2.snap k hk
  · -- the iterator
    intro J' Jx' W hm hJ h0 hy
    rw [hN] at hy ⊢
    refine Rets.mono (reached1_ok (J' := J') (Jx' := Jx') W (n + 1) w6.heap.size (w6.heap.size + 1) hb rb vs ps gs H (.slice A roots.length c) roots hl hW hrall hrl (fun s W hj => hJHF s W (hJ s W hj).1) hm h0 ?_) ?_
    · intro s W r hr hj
      have hlt : s.i < (collQ H roots).length := (List.getElem?_eq_some_iff.1 hr).1
      have hg : (collQ H roots).getD s.i 0 = r := by rw [List.getD_eq_getElem?_getD]; rw [show (collQ H roots)[s.i]? = some r from hr]; rfl
      have := hy s W hlt hj
      rw [hg] at this
      obtain ⟨fn, tmps, assign, body, h1, h2⟩ := this
      refine ⟨fn, tmps, assign, body, h1, RoundIn.mono h2 ?_⟩
      rintro e W' ⟨b, rfl, hb⟩
      refine ⟨b, rfl, ?_⟩
      rcases hb with ⟨rfl, s', rfl, hj'⟩ | hb
      · exact .inl ⟨rfl, hj'⟩
      · exact .inr hb
    · rintro v W' (⟨s, h1, h2⟩ | h)
      · exact .inl ⟨s, h1, h2⟩
      · exact .inr h
  · -- behind the range
    rintro s W hfin h hd
    rw [hN] at hd ⊢
    try simp only [wpL, wpH, wpE, oweC, oweP, opF, opH, ev, evs, evp, evo, Env.get, Env.set, putE, gdst, S0, S1, thenN, inBlockN, argEnv, builtinR, retE, fin, callR, reduceIte, Nat.reduceEqDiff, Nat.reduceAdd, reduceCtorEq, forall_const, Tryd.results20, Fx.ag28, Fx.ag42, Fx.ag56, Fx.ag73, Fx.ag78, Fx.es56, Fx.es78, Fx.fo59_0, Fx.fo70_0, Fx.fo72_0, Fx.isl56]
    refine hM0 _ _ _ ?_; clear hM0 M0
    obtain ⟨kv, hkv, hown, -⟩ := h.kk
    rw [hfin] at hown
    rw [List.take_of_length_le (by omega)] at hown
    have hcT : tosF (H.length + 1) (collQ H roots) s.i = collT H roots := by rw [hfin]; rfl
    have hkt' := h.kt
    rw [hcT] at hkt'
    have hk6' := h.k6
    have hk0' := h.k0
    have hext := h.ext
    have hsW := hext.size
    clear h
    have hTl : (collT H roots).length = H.length + 1 := tosF_length _ _ _
    have hnW : n < W.heap.size := (Array.getElem?_eq_some_iff.1 hd).1
    generalize hm : (collQ H roots).length = m at *
    have hml : m ≤ H.length + 1 := by
      have hu := (pushF_inv (n := H.length) roots _ [] hrall (Qok.nil _))
      have hb := bfs_length hW (H.length + 1) _ _ 0 hu.1
      have hu2 := hu.2.2
      rw [unseen_rep] at hu2
      simp only [List.length_nil] at hu2
      have : (collQ H roots).length ≤ H.length + 1 := by unfold collQ bfsQ; omega
      omega
    have hps2 : ptrs = ((collQ H roots).map fun r => ps.getD (r - 1).toNat 0).map ptrOf := by rw [← hptr]; simp
    have hps2n := nodup_pick hR0.ndp hQn (by rw [hR0.lenp]; exact hQr)
    have hps2l : ((collQ H roots).map fun r => ps.getD (r - 1).toNat 0).length = m := by simp [hm]
    have hps2m : ∀ p ∈ ((collQ H roots).map fun r => ps.getD (r - 1).toNat 0), p ∈ ps := by
      intro p hp
      obtain ⟨r, hr, rfl⟩ := List.mem_map.1 hp
      have := hQr r hr
      rw [List.getD_eq_getElem?_getD, List.getElem?_eq_getElem (by rw [hR0.lenp]; omega : (r - 1).toNat < ps.length)]
      exact List.getElem_mem _
    have hps2g : ∀ (j : Nat) (r : Int), (collQ H roots)[j]? = some r → ∃ (i p g : Nat) (o : Ob), objAt H r = some o ∧ H[i]? = some o ∧ ps[i]? = some p ∧ gs[i]? = some g ∧ ((collQ H roots).map fun r => ps.getD (r - 1).toNat 0)[j]? = some p := by
      intro j r hr
      have h1 := hQr r (List.mem_of_getElem? hr)
      obtain ⟨i, o, hio, hi, ho, hoo⟩ := objAt_in (H := H) (r := r) h1.1 h1.2
      obtain ⟨p, g, hp, hg, -⟩ := hR0.at_ ho
      refine ⟨i, p, g, o, hoo, ho, hp, hg, ?_⟩
      rw [List.getElem?_map, hr]
      have e : (r - 1).toNat = i := by omega
      simp only [Option.map_some]
      rw [e, List.getD_eq_getElem?_getD, hp]; rfl
    generalize hP2 : ((collQ H roots).map fun r => ps.getD (r - 1).toNat 0) = ps2 at *
    have hpsl : ∀ p ∈ ps, p < w.heap.size := fun p hp => hFoot p (.inr (.inr (.inl hp)))
    obtain ⟨kA, kc, hkvs⟩ : ∃ kA kc, kv = .slice kA m kc := by
      rcases hown.2 with ⟨h1, h2⟩ | ⟨g', cap, cur, h1, _⟩
      · exact ⟨none, 0, by rw [h1, h2]⟩
      · exact ⟨_, _, h1⟩
    have hkvS : Sli W 1 kv (ps2.map fun p => [ptrOf p]) := Sli.of_own hown (by rw [hps2]; exact flat_ptr ps2) (by simp) (by simp [hps2l]) (by omega)
    subst hkvs
    obtain ⟨kA', kc', hke, -, hkcell⟩ := hkvS
    injection hke with hke1 _ _
    subst hke1
    have hnn := hn
    obtain ⟨⟨l0, n0⟩, ⟨_, n1⟩, ⟨_, n2⟩, ⟨l6, n6⟩, ⟨lt, nt⟩, ⟨l7, n7⟩, nne⟩ := hnn
    refine ok_seq (fun M hM => ok_region rfl ?_); repeat ((try first | (refine ofX3 hX ?_; clear hX X) | (refine ofX2 hX ?_; clear hX X)); (first | refine wpL_step (fun X hX => ?_) | refine wpH_step (fun X hX => ?_) | refine wpE_step (fun X hX => ?_) | refine wpL_end ?_ | refine wpH_end ?_ | refine wpE_end ?_); try simp only [ oweC, oweP, opF, opH, ev, evs, evp, evo, Env.get, Env.set, putE, gdst, S0, S1, thenN, inBlockN, argEnv, builtinR, retE, fin, callR, reduceIte, Nat.reduceEqDiff, Nat.reduceAdd, reduceCtorEq, forall_const, Tryd.results20, Fx.ag28, Fx.ag42, Fx.ag56, Fx.ag73, Fx.ag78, Fx.es56, Fx.es78, Fx.fo59_0, Fx.fo70_0, Fx.fo72_0, Fx.isl56])
    refine hM _ _ _ ?_; clear hM M
    refine ok_seq (fun M0 hM0 => ?_)
    refine ok_seq (fun M hM => ok_region rfl ?_)
    repeat ((try first | (refine ofX3 hX ?_; clear hX X) | (refine ofX2 hX ?_; clear hX X)); (first | refine wpL_step (fun X hX => ?_) | refine wpH_step (fun X hX => ?_) | refine wpE_step (fun X hX => ?_) | refine wpL_end ?_ | refine wpH_end ?_ | refine wpE_end ?_); try simp only [ oweC, oweP, opF, opH, ev, evs, evp, evo, Env.get, Env.set, putE, gdst, S0, S1, thenN, inBlockN, argEnv, builtinR, retE, fin, callR, reduceIte, Nat.reduceEqDiff, Nat.reduceAdd, reduceCtorEq, forall_const, Tryd.results20, Fx.ag28, Fx.ag42, Fx.ag56, Fx.ag73, Fx.ag78, Fx.es56, Fx.es78, Fx.fo59_0, Fx.fo70_0, Fx.fo72_0, Fx.isl56])
    refine ⟨_, hkv.cell (j := 0) rfl, ?_⟩
    repeat ((try first | (refine ofX3 hX ?_; clear hX X) | (refine ofX2 hX ?_; clear hX X)); (first | refine wpL_step (fun X hX => ?_) | refine wpH_step (fun X hX => ?_) | refine wpE_step (fun X hX => ?_) | refine wpL_end ?_ | refine wpH_end ?_ | refine wpE_end ?_); try simp only [ oweC, oweP, opF, opH, ev, evs, evp, evo, Env.get, Env.set, putE, gdst, S0, S1, thenN, inBlockN, argEnv, builtinR, retE, fin, callR, reduceIte, Nat.reduceEqDiff, Nat.reduceAdd, reduceCtorEq, forall_const, Tryd.results20, Fx.ag28, Fx.ag42, Fx.ag56, Fx.ag73, Fx.ag78, Fx.es56, Fx.es78, Fx.fo59_0, Fx.fo70_0, Fx.fo72_0, Fx.isl56])
    refine hM _ _ _ ?_; clear hM M
    refine ok_block ?_
    refine ok_loop (S := Nat × List Nat) (fun s => [(1, .slice A roots.length c), (2, ptrOf b0), (6, ptrOf c6), (7, ptrOf c7), (9, .func (.func 42) #[] #[ptrOf c6]), (47, .slice kA m kc), (48, .int .i64 (m : Int)), (49, .int .i64 (s.1 : Int))])
      (fun s W' => s.1 ≤ m ∧ CL w W W' ps H (collQ H roots) (collT H roots) ps2 s.2 (moveO (collT H roots)) s.1) (fun s => m - s.1) (0, []) ?_ ?_ ?_
    · simp [sub, Env.get]
    · exact ⟨Nat.zero_le _, hext.chg _, fun _ _ _ => rfl, Nat.le_refl _, fun p hp _ => Below.block hext p (hpsl p hp), rfl, List.nodup_nil, fun t p g r h => absurd h (Nat.not_lt_zero _), fun t p g _ h => by simp at h⟩
    rintro ⟨j, gs2⟩ W' ⟨hj, hCL⟩
    simp only at hj hCL ⊢
    have hcW' : Chg (fun k => k < w.heap.size) W W' := ⟨hCL.c.os.trans hext.os.symm, hCL.c.tape.trans hext.tape.symm, hCL.c.output.trans hext.output.symm, hCL.sz, fun k hk hn => hCL.keep k (by omega) hk⟩
    have hsW' := hCL.sz
    refine ok_seq (fun M hM => ok_region rfl ?_); repeat ((try first | (refine ofX3 hX ?_; clear hX X) | (refine ofX2 hX ?_; clear hX X)); (first | refine wpL_step (fun X hX => ?_) | refine wpH_step (fun X hX => ?_) | refine wpE_step (fun X hX => ?_) | refine wpL_end ?_ | refine wpH_end ?_ | refine wpE_end ?_); try simp only [ oweC, oweP, opF, opH, ev, evs, evp, evo, Env.get, Env.set, putE, gdst, S0, S1, thenN, inBlockN, argEnv, builtinR, retE, fin, callR, reduceIte, Nat.reduceEqDiff, Nat.reduceAdd, reduceCtorEq, forall_const, Tryd.results20, Fx.ag28, Fx.ag42, Fx.ag56, Fx.ag73, Fx.ag78, Fx.es56, Fx.es78, Fx.fo59_0, Fx.fo70_0, Fx.fo72_0, Fx.isl56])
    refine hM _ _ _ ?_; clear hM M
    refine ok_seq (fun M1 hM1 => ?_)
    refine ok_if rfl (fun hc => ok_skip ?_) (fun hc => ok_exit ?_)
    rotate_left
    · try simp only [wpL, wpH, wpE, oweC, oweP, opF, opH, ev, evs, evp, evo, Env.get, Env.set, putE, gdst, S0, S1, thenN, inBlockN, argEnv, builtinR, retE, fin, callR, reduceIte, Nat.reduceEqDiff, Nat.reduceAdd, reduceCtorEq, forall_const, Tryd.results20, Fx.ag28, Fx.ag42, Fx.ag56, Fx.ag73, Fx.ag78, Fx.es56, Fx.es78, Fx.fo59_0, Fx.fo70_0, Fx.fo72_0, Fx.isl56]
      refine hM0 _ _ _ ?_; clear hM0 M0 hM1 M1
      have hjm : j = m := by omega
      subst hjm
      have hhbW' : Blk W' hb [vs, .map (some rb)] 59 := hR0.head.chg hCL.c hR0.hbps
      have hhbl := hFoot hb (.inl rfl)
      refine ok_seq (fun M hM => ok_region rfl ?_)
      repeat ((try first | (refine ofX3 hX ?_; clear hX X) | (refine ofX2 hX ?_; clear hX X)); (first | refine wpL_step (fun X hX => ?_) | refine wpH_step (fun X hX => ?_) | refine wpE_step (fun X hX => ?_) | refine wpL_end ?_ | refine wpH_end ?_ | refine wpE_end ?_); try simp only [ oweC, oweP, opF, opH, ev, evs, evp, evo, Env.get, Env.set, putE, gdst, S0, S1, thenN, inBlockN, argEnv, builtinR, retE, fin, callR, reduceIte, Nat.reduceEqDiff, Nat.reduceAdd, reduceCtorEq, forall_const, Tryd.results20, Fx.ag28, Fx.ag42, Fx.ag56, Fx.ag73, Fx.ag78, Fx.es56, Fx.es78, Fx.fo59_0, Fx.fo70_0, Fx.fo72_0, Fx.isl56])
      refine ⟨_, (hk0'.chg hcW' (by omega)).cell (j := 0) rfl, ?_⟩
      repeat ((try first | (refine ofX3 hX ?_; clear hX X) | (refine ofX2 hX ?_; clear hX X)); (first | refine wpL_step (fun X hX => ?_) | refine wpH_step (fun X hX => ?_) | refine wpE_step (fun X hX => ?_) | refine wpL_end ?_ | refine wpH_end ?_ | refine wpE_end ?_); try simp only [ oweC, oweP, opF, opH, ev, evs, evp, evo, Env.get, Env.set, putE, gdst, S0, S1, thenN, inBlockN, argEnv, builtinR, retE, fin, callR, reduceIte, Nat.reduceEqDiff, Nat.reduceAdd, reduceCtorEq, forall_const, Tryd.results20, Fx.ag28, Fx.ag42, Fx.ag56, Fx.ag73, Fx.ag78, Fx.es56, Fx.es78, Fx.fo59_0, Fx.fo70_0, Fx.fo72_0, Fx.isl56])
      refine ⟨_, (hkv.chg hcW' (by omega)).cell (j := 0) rfl, ?_⟩
      repeat ((try first | (refine ofX3 hX ?_; clear hX X) | (refine ofX2 hX ?_; clear hX X)); (first | refine wpL_step (fun X hX => ?_) | refine wpH_step (fun X hX => ?_) | refine wpE_step (fun X hX => ?_) | refine wpL_end ?_ | refine wpH_end ?_ | refine wpE_end ?_); try simp only [ oweC, oweP, opF, opH, ev, evs, evp, evo, Env.get, Env.set, putE, gdst, S0, S1, thenN, inBlockN, argEnv, builtinR, retE, fin, callR, reduceIte, Nat.reduceEqDiff, Nat.reduceAdd, reduceCtorEq, forall_const, Tryd.results20, Fx.ag28, Fx.ag42, Fx.ag56, Fx.ag73, Fx.ag78, Fx.es56, Fx.es78, Fx.fo59_0, Fx.fo70_0, Fx.fo72_0, Fx.isl56])
      refine Runs.store hhbW' Fx.zi56 rfl (by intro u hu; simp [Value.cells] at hu; subst hu; rfl) (by simp) (fun w3 hc3 hs3 hb3 => ?_)
      simp only [splice, Value.cells, List.take_zero, List.nil_append, List.singleton_append, List.length_singleton, Nat.zero_add, List.drop_succ_cons, List.drop_zero] at hb3
      have hcF3 : Chg F w w3 := (hCL.c.mono fun k _ hk => (hf k (.inr (.inr (.inl hk)))).1).trans (hc3.mono fun k _ hk => by rw [hk]; exact (hf hb (.inl rfl)).1)
      have hk63 : Blk w3 c6 _ 78 := (hk6'.chg hcW' (by omega)).chg hc3 (by omega)
      have hkt3 : Blk w3 Bt _ 3 := (hkt'.chg hcW' (by omega)).chg hc3 (by omega)
      repeat ((try first | (refine ofX3 hX ?_; clear hX X) | (refine ofX2 hX ?_; clear hX X)); (first | refine wpL_step (fun X hX => ?_) | refine wpH_step (fun X hX => ?_) | refine wpE_step (fun X hX => ?_) | refine wpL_end ?_ | refine wpH_end ?_ | refine wpE_end ?_); try simp only [ oweC, oweP, opF, opH, ev, evs, evp, evo, Env.get, Env.set, putE, gdst, S0, S1, thenN, inBlockN, argEnv, builtinR, retE, fin, callR, reduceIte, Nat.reduceEqDiff, Nat.reduceAdd, reduceCtorEq, forall_const, Tryd.results20, Fx.ag28, Fx.ag42, Fx.ag56, Fx.ag73, Fx.ag78, Fx.es56, Fx.es78, Fx.fo59_0, Fx.fo70_0, Fx.fo72_0, Fx.isl56])
      refine hM _ _ _ ?_; clear hM M
      refine ok_seq (fun M hM => ok_region rfl ?_)
      repeat ((try first | (refine ofX3 hX ?_; clear hX X) | (refine ofX2 hX ?_; clear hX X)); (first | refine wpL_step (fun X hX => ?_) | refine wpH_step (fun X hX => ?_) | refine wpE_step (fun X hX => ?_) | refine wpL_end ?_ | refine wpH_end ?_ | refine wpE_end ?_); try simp only [ oweC, oweP, opF, opH, ev, evs, evp, evo, Env.get, Env.set, putE, gdst, S0, S1, thenN, inBlockN, argEnv, builtinR, retE, fin, callR, reduceIte, Nat.reduceEqDiff, Nat.reduceAdd, reduceCtorEq, forall_const, Tryd.results20, Fx.ag28, Fx.ag42, Fx.ag56, Fx.ag73, Fx.ag78, Fx.es56, Fx.es78, Fx.fo59_0, Fx.fo70_0, Fx.fo72_0, Fx.isl56])
      refine Inv.clos (cap := [ptrOf c6]) Fx.en42 (moved_ok w3 (.slice A roots.length c) roots c6 Bt (collT H roots) (by rw [hTl]; exact hk63.cell (j := 0) rfl) hkt3 (hrsT w3 hcF3) hrl (fun x hx => by have := hrall x hx; rw [hTl]; omega) (by rw [hTl]; omega)) ?_
      rintro v w4 ⟨⟨A4, c4, rfl⟩, -, -, he4⟩
      repeat ((try first | (refine ofX3 hX ?_; clear hX X) | (refine ofX2 hX ?_; clear hX X)); (first | refine wpL_step (fun X hX => ?_) | refine wpH_step (fun X hX => ?_) | refine wpE_step (fun X hX => ?_) | refine wpL_end ?_ | refine wpH_end ?_ | refine wpE_end ?_); try simp only [ oweC, oweP, opF, opH, ev, evs, evp, evo, Env.get, Env.set, putE, gdst, S0, S1, thenN, inBlockN, argEnv, builtinR, retE, fin, callR, reduceIte, Nat.reduceEqDiff, Nat.reduceAdd, reduceCtorEq, forall_const, Tryd.results20, Fx.ag28, Fx.ag42, Fx.ag56, Fx.ag73, Fx.ag78, Fx.es56, Fx.es78, Fx.fo59_0, Fx.fo70_0, Fx.fo72_0, Fx.isl56])
      refine hM _ _ _ ?_; clear hM M
      have hd4 : w4.heap[n]? = some (.deferred (some [])) := by
        rw [Below.block he4 n (by omega), hc3.block n (by omega) (by omega), hcW'.block n hnW (by omega)]
        exact hd
      have hnw4 := (Array.getElem?_eq_some_iff.1 hd4).1
      have hc5 : Chg (· = n) w4 (w4.putObj n (.deferred none)) := ⟨rfl, rfl, rfl, by simp, fun k hk hne => World.putObj_heap_other (fun e => hne e)⟩
      refine ok_ret ?_
      refine .inr ⟨_, rfl, hd4, ?_⟩
      generalize w4.putObj n (.deferred none) = w5 at hc5
      try simp only [wpL, wpH, wpE, oweC, oweP, opF, opH, ev, evs, evp, evo, Env.get, Env.set, putE, gdst, S0, S1, thenN, inBlockN, argEnv, builtinR, retE, fin, callR, reduceIte, Nat.reduceEqDiff, Nat.reduceAdd, reduceCtorEq, forall_const, Tryd.results20, Fx.ag28, Fx.ag42, Fx.ag56, Fx.ag73, Fx.ag78, Fx.es56, Fx.es78, Fx.fo59_0, Fx.fo70_0, Fx.fo72_0, Fx.isl56]
      have hs5 := hc5.size
      have hs4 := he4.size
      refine ⟨A4, c4, rfl, ?_⟩
      have hcW5 : Chg (fun k => k < w.heap.size ∨ k = n) W w5 := (hcW'.mono fun k _ h => .inl h).trans ((hc3.mono fun k _ h => .inl (by omega)).trans ((he4.chg _).trans (hc5.mono fun k _ h => .inr h)))
      have hc35 : Chg (fun k => k = n) w3 w5 := (he4.chg _).trans hc5
      have hcw5 : Chg (fun k => k ∈ ps ∨ k = hb ∨ k = n) w w5 := (hCL.c.mono fun k _ h => .inl h).trans ((hc3.mono fun k _ h => .inr (.inl h)).trans (hc35.mono fun k _ h => .inr (.inr h)))
      have hkvl : ∀ k, (Value.slice kA j kc).ownBlock = some k → n + 2 ≤ k ∧ k < W.heap.size := fun k hk => hown.lt k hk
      have hgs : ∀ g ∈ gs2, (g ∈ ps ∨ W.heap.size ≤ g) ∧ g < W'.heap.size := by
        intro g hg
        obtain ⟨t, ht⟩ := List.mem_iff_getElem?.1 hg
        have htl := (List.getElem?_eq_some_iff.1 ht).1
        have hlen2 := hCL.len
        have hpt : ps2[t]? = some (ps2[t]'(by omega)) := List.getElem?_eq_getElem _
        have := hCL.gs t _ g hpt ht
        refine ⟨?_, this.2⟩
        rcases this.1 with h1 | h1
        · exact .inl (h1 ▸ hps2m _ (List.getElem_mem _))
        · exact .inr h1
      refine ⟨?_, Foot hb (.slice kA j kc) ps2 gs2, ⟨.slice kA j kc, ps2, gs2, ⟨hb3.chg hc35 (by omega), hR0.rules.chg hcw5 ?_, ?_, ?_, ?_, hps2n, hCL.nd, ?_, ?_⟩, fun k hk => ⟨hk, ?_⟩, ?_⟩, fun k hk => ?_⟩
      · exact (hcF3.trans (he4.chg F)).trans_new hc5 (fun k hk => by omega)
      · rintro (h | h | h)
        · exact hrb (hf rb (.inr (.inr (.inl h)))).1
        · exact hrb (h ▸ (hf hb (.inl rfl)).1)
        · omega
      · have h1 := own_zero (owns_chg' hown hcW5 (fun k hk h => by have := hkvl k hk; omega))
        rw [hps2] at h1
        have hlc : (collH H roots).length = j := by unfold collH; simp [hm]
        rw [hlc]
        exact h1
      · unfold collH; simp [hm, hps2l]
      · unfold collH; simp [hm, hCL.len]
      · refine ⟨⟨fun h => hR0.hbps (hps2m _ h), fun h => ?_⟩, fun k hk => ⟨?_, fun h => ?_, fun h => ?_⟩⟩
        · rcases (hgs hb h).1 with h1 | h1
          · exact hR0.hbps h1
          · omega
        · have := hkvl k hk; omega
        · have := hkvl k hk; have := hpsl k (hps2m k h); omega
        · have := hkvl k hk
          rcases (hgs k h).1 with h1 | h1
          · have := hpsl k h1; omega
          · omega
      · intro t p g o hp hg ho
        unfold collH at ho
        rw [List.getElem?_map] at ho
        obtain ⟨r, hr, rfl⟩ := Option.map_eq_some_iff.1 ho
        have htl : t < j := by have := (List.getElem?_eq_some_iff.1 hp).1; omega
        have hob := hCL.done t p g r htl hp hg hr
        have hpl2 := hpsl p (hps2m p (List.mem_of_getElem? hp))
        have hgg := hgs g (List.mem_of_getElem? hg)
        have hpb : ¬ p = hb := fun e => hR0.hbps (e ▸ hps2m p (List.mem_of_getElem? hp))
        have hgb : ¬ g = hb := fun e => by
          rcases hgg.1 with h1 | h1
          · exact hR0.hbps (e ▸ h1)
          · omega
        have hgn : ¬ g = n := fun e => by
          rcases hgg.1 with h1 | h1
          · have := hpsl g h1; omega
          · omega
        exact (hob.chg hc3 hpb hgb).chg hc35 (by omega) hgn
      · rcases hk with rfl | hk | hk | hk
        · omega
        · have := hkvl k hk; omega
        · have := hpsl k (hps2m k hk); omega
        · have := (hgs k hk).2; omega
      · rintro (h | h | h | h)
        · exact hrb (h ▸ (hf hb (.inl rfl)).1)
        · have := hkvl rb h; omega
        · exact hrb (hf rb (.inr (.inr (.inl (hps2m rb h))))).1
        · rcases (hgs rb h).1 with h1 | h1
          · exact hrb (hf rb (.inr (.inr (.inl h1)))).1
          · omega
      · rcases hk with rfl | hk | hk | hk
        · exact .inl (hf _ (.inl rfl)).1
        · have := hkvl k hk; exact .inr (by omega)
        · exact .inl (hf _ (.inr (.inr (.inl (hps2m k hk))))).1
        · have h2 := (hgs k hk).2
          rcases (hgs k hk).1 with h1 | h1
          · exact .inl (hf _ (.inr (.inr (.inl h1)))).1
          · exact .inr (by omega)
    · try simp only [wpL, wpH, wpE, oweC, oweP, opF, opH, ev, evs, evp, evo, Env.get, Env.set, putE, gdst, S0, S1, thenN, inBlockN, argEnv, builtinR, retE, fin, callR, reduceIte, Nat.reduceEqDiff, Nat.reduceAdd, reduceCtorEq, forall_const, Tryd.results20, Fx.ag28, Fx.ag42, Fx.ag56, Fx.ag73, Fx.ag78, Fx.es56, Fx.es78, Fx.fo59_0, Fx.fo70_0, Fx.fo72_0, Fx.isl56]
      refine hM1 _ _ _ ?_; clear hM1 M1
      have hjl : j < m := by omega
      have hQj : (collQ H roots)[j]? = some ((collQ H roots)[j]'(by omega)) := List.getElem?_eq_getElem _
      generalize (collQ H roots)[j]'(by omega) = r at hQj
      obtain ⟨i, p, g, o, hoo, ho, hp, hg, hp2⟩ := hps2g j r hQj
      have hpm : p ∈ ps := List.mem_of_getElem? hp
      have hpl2 := hpsl p hpm
      have hpn : p ∉ ps2.take j := by
        intro hm2
        obtain ⟨t, ht⟩ := List.mem_iff_getElem?.1 hm2
        have htj : t < j := by have := (List.getElem?_eq_some_iff.1 ht).1; simp at this; omega
        rw [List.getElem?_take, if_pos htj] at ht
        have h1 := (List.getElem?_eq_some_iff.1 ht)
        have h2 := (List.getElem?_eq_some_iff.1 hp2)
        have := (List.getElem_inj hps2n).1 (h1.2.trans h2.2.symm)
        omega
      have hraw := hCL.raw p hpm hpn
      have hob := hR0.obj i p g o hp hg ho
      obtain ⟨A2, c2, hlc, hll, hls⟩ := hob.listS
      have hlcW : W'.cell? ⟨p, 0, none⟩ = some (.slice A2 o.list.length c2) := (World.cell?_of_block hraw).trans hlc
      have hslW := hls W' _ hCL.c (fun hne _ => hR0.gnp hp hg ho hne)
      obtain ⟨kb, ko, rfl, hkc⟩ := hkcell j [ptrOf p] (by rw [List.getElem?_map, hp2]; rfl)
      have hkbl := hown.lt kb rfl
      have hkcW := hcW'.cellsAt hkc (by simp only; omega) 0 _ rfl
      refine ok_seq (fun M1 hM1 => ok_block ?_)
      refine ok_seq (fun M hM => ok_region rfl ?_)
      repeat ((try first | (refine ofX3 hX ?_; clear hX X) | (refine ofX2 hX ?_; clear hX X)); (first | refine wpL_step (fun X hX => ?_) | refine wpH_step (fun X hX => ?_) | refine wpE_step (fun X hX => ?_) | refine wpL_end ?_ | refine wpH_end ?_ | refine wpE_end ?_); try simp only [ oweC, oweP, opF, opH, ev, evs, evp, evo, Env.get, Env.set, putE, gdst, S0, S1, thenN, inBlockN, argEnv, builtinR, retE, fin, callR, reduceIte, Nat.reduceEqDiff, Nat.reduceAdd, reduceCtorEq, forall_const, Tryd.results20, Fx.ag28, Fx.ag42, Fx.ag56, Fx.ag73, Fx.ag78, Fx.es56, Fx.es78, Fx.fo59_0, Fx.fo70_0, Fx.fo72_0, Fx.isl56])
      refine ⟨by omega, by omega, ?_⟩
      repeat ((try first | (refine ofX3 hX ?_; clear hX X) | (refine ofX2 hX ?_; clear hX X)); (first | refine wpL_step (fun X hX => ?_) | refine wpH_step (fun X hX => ?_) | refine wpE_step (fun X hX => ?_) | refine wpL_end ?_ | refine wpH_end ?_ | refine wpE_end ?_); try simp only [ oweC, oweP, opF, opH, ev, evs, evp, evo, Env.get, Env.set, putE, gdst, S0, S1, thenN, inBlockN, argEnv, builtinR, retE, fin, callR, reduceIte, Nat.reduceEqDiff, Nat.reduceAdd, reduceCtorEq, forall_const, Tryd.results20, Fx.ag28, Fx.ag42, Fx.ag56, Fx.ag73, Fx.ag78, Fx.es56, Fx.es78, Fx.fo59_0, Fx.fo70_0, Fx.fo72_0, Fx.isl56])
      refine ⟨_, by simpa [add_at] using hkcW, ?_⟩
      repeat ((try first | (refine ofX3 hX ?_; clear hX X) | (refine ofX2 hX ?_; clear hX X)); (first | refine wpL_step (fun X hX => ?_) | refine wpH_step (fun X hX => ?_) | refine wpE_step (fun X hX => ?_) | refine wpL_end ?_ | refine wpH_end ?_ | refine wpE_end ?_); try simp only [ oweC, oweP, opF, opH, ev, evs, evp, evo, Env.get, Env.set, putE, gdst, S0, S1, thenN, inBlockN, argEnv, builtinR, retE, fin, callR, reduceIte, Nat.reduceEqDiff, Nat.reduceAdd, reduceCtorEq, forall_const, Tryd.results20, Fx.ag28, Fx.ag42, Fx.ag56, Fx.ag73, Fx.ag78, Fx.es56, Fx.es78, Fx.fo59_0, Fx.fo70_0, Fx.fo72_0, Fx.isl56])
      refine hM _ _ _ ?_; clear hM M
      refine ok_region rfl ?_
      repeat ((try first | (refine ofX3 hX ?_; clear hX X) | (refine ofX2 hX ?_; clear hX X)); (first | refine wpL_step (fun X hX => ?_) | refine wpH_step (fun X hX => ?_) | refine wpE_step (fun X hX => ?_) | refine wpL_end ?_ | refine wpH_end ?_ | refine wpE_end ?_); try simp only [ oweC, oweP, opF, opH, ev, evs, evp, evo, Env.get, Env.set, putE, gdst, S0, S1, thenN, inBlockN, argEnv, builtinR, retE, fin, callR, reduceIte, Nat.reduceEqDiff, Nat.reduceAdd, reduceCtorEq, forall_const, Tryd.results20, Fx.ag28, Fx.ag42, Fx.ag56, Fx.ag73, Fx.ag78, Fx.es56, Fx.es78, Fx.fo59_0, Fx.fo70_0, Fx.fo72_0, Fx.isl56])
      refine ⟨_, hlcW, ?_⟩
      repeat ((try first | (refine ofX3 hX ?_; clear hX X) | (refine ofX2 hX ?_; clear hX X)); (first | refine wpL_step (fun X hX => ?_) | refine wpH_step (fun X hX => ?_) | refine wpE_step (fun X hX => ?_) | refine wpL_end ?_ | refine wpH_end ?_ | refine wpE_end ?_); try simp only [ oweC, oweP, opF, opH, ev, evs, evp, evo, Env.get, Env.set, putE, gdst, S0, S1, thenN, inBlockN, argEnv, builtinR, retE, fin, callR, reduceIte, Nat.reduceEqDiff, Nat.reduceAdd, reduceCtorEq, forall_const, Tryd.results20, Fx.ag28, Fx.ag42, Fx.ag56, Fx.ag73, Fx.ag78, Fx.es56, Fx.es78, Fx.fo59_0, Fx.fo70_0, Fx.fo72_0, Fx.isl56])
      have hoW : ∀ x ∈ o.list, 0 ≤ x.r ∧ x.r ≤ (H.length : Int) := hW o (List.mem_of_getElem? ho)
      refine Inv.clos (cap := [ptrOf c6]) Fx.en42 (moved_ok W' (.slice A2 o.list.length c2) o.list c6 Bt (collT H roots) (by rw [hTl]; exact (hk6'.chg hcW' (by omega)).cell (j := 0) rfl) (hkt'.chg hcW' (by omega)) hslW hll (fun x hx => by have := hoW x hx; rw [hTl]; omega) (by rw [hTl]; omega)) ?_
      rintro v w2 ⟨⟨A3, c3, rfl⟩, hnil, ⟨g3, hWL3, hg3⟩, he2⟩
      have hs2 := he2.size
      repeat ((try first | (refine ofX3 hX ?_; clear hX X) | (refine ofX2 hX ?_; clear hX X)); (first | refine wpL_step (fun X hX => ?_) | refine wpH_step (fun X hX => ?_) | refine wpE_step (fun X hX => ?_) | refine wpL_end ?_ | refine wpH_end ?_ | refine wpE_end ?_); try simp only [ oweC, oweP, opF, opH, ev, evs, evp, evo, Env.get, Env.set, putE, gdst, S0, S1, thenN, inBlockN, argEnv, builtinR, retE, fin, callR, reduceIte, Nat.reduceEqDiff, Nat.reduceAdd, reduceCtorEq, forall_const, Tryd.results20, Fx.ag28, Fx.ag42, Fx.ag56, Fx.ag73, Fx.ag78, Fx.es56, Fx.es78, Fx.fo59_0, Fx.fo70_0, Fx.fo72_0, Fx.isl56])
      -- the object's block, as it was
      obtain ⟨x1, x2, x3, hbp⟩ : ∃ x1 x2 x3, Blk W' p [.slice A2 o.list.length c2, x1, x2, x3] 72 ∧ x1.oneCell' = true ∧
          ∀ (w4 : World) (g4 : Nat), Blk w4 p [.slice A3 o.list.length c3, x1, x2, x3] 72 → (o.list ≠ [] → WL w4 g4 (.slice A3 o.list.length c3) (o.list.map (mvW (collT H roots)))) → ObW w4 p g4 (moveO (collT H roots) (some o)) := by
        cases o with
        | text t =>
          refine ⟨.string t, .bool true, .int .i64 0, ?_, rfl, fun w4 g4 h4 _ => ?_⟩
          · have h5 : w.cell? ⟨p, 0, none⟩ = some (.slice none 0 0) := Blk.cell hob rfl
            rw [h5] at hlc
            rw [← Option.some.inj hlc]
            exact hraw.trans hob
          · have h6 := hnil rfl
            rw [h6] at h4
            exact h4
        | words st l =>
          obtain ⟨lv, h1, h2⟩ := hob
          refine ⟨.string ⟨#[]⟩, .bool false, .int .i64 st, ?_, rfl, fun w4 g4 h4 h5 => ⟨_, h4, ?_⟩⟩
          · have h5 : w.cell? ⟨p, 0, none⟩ = some lv := h1.cell rfl
            rw [h5] at hlc
            rw [← Option.some.inj hlc]
            exact hraw.trans h1
          · by_cases hl0 : l = []
            · subst hl0
              obtain ⟨A5, c5, h7, h8, h9, -⟩ := hWL3
              exact ⟨A5, c5, h7, h8, h9, fun h => absurd rfl h⟩
            · exact h5 hl0
      obtain ⟨hbp, hx1, hmk⟩ := hbp
      refine Runs.store (hbp.ext he2) Fx.zi42 rfl (by intro u hu; simp [Value.cells] at hu; subst hu; rfl) (by simp) (fun w3 hc3 hs3 hb3 => ?_)
      simp only [splice, Value.cells, List.take_zero, List.nil_append, List.singleton_append, List.length_singleton, Nat.zero_add, List.drop_succ_cons, List.drop_zero] at hb3
      repeat ((try first | (refine ofX3 hX ?_; clear hX X) | (refine ofX2 hX ?_; clear hX X)); (first | refine wpL_step (fun X hX => ?_) | refine wpH_step (fun X hX => ?_) | refine wpE_step (fun X hX => ?_) | refine wpL_end ?_ | refine wpH_end ?_ | refine wpE_end ?_); try simp only [ oweC, oweP, opF, opH, ev, evs, evp, evo, Env.get, Env.set, putE, gdst, S0, S1, thenN, inBlockN, argEnv, builtinR, retE, fin, callR, reduceIte, Nat.reduceEqDiff, Nat.reduceAdd, reduceCtorEq, forall_const, Tryd.results20, Fx.ag28, Fx.ag42, Fx.ag56, Fx.ag73, Fx.ag78, Fx.es56, Fx.es78, Fx.fo59_0, Fx.fo70_0, Fx.fo72_0, Fx.isl56])
      refine hM1 _ _ _ ?_; clear hM1 M1
      refine ok_region rfl ?_
      repeat ((try first | (refine ofX3 hX ?_; clear hX X) | (refine ofX2 hX ?_; clear hX X)); (first | refine wpL_step (fun X hX => ?_) | refine wpH_step (fun X hX => ?_) | refine wpE_step (fun X hX => ?_) | refine wpL_end ?_ | refine wpH_end ?_ | refine wpE_end ?_); try simp only [ oweC, oweP, opF, opH, ev, evs, evp, evo, Env.get, Env.set, putE, gdst, S0, S1, thenN, inBlockN, argEnv, builtinR, retE, fin, callR, reduceIte, Nat.reduceEqDiff, Nat.reduceAdd, reduceCtorEq, forall_const, Tryd.results20, Fx.ag28, Fx.ag42, Fx.ag56, Fx.ag73, Fx.ag78, Fx.es56, Fx.es78, Fx.fo59_0, Fx.fo70_0, Fx.fo72_0, Fx.isl56])
      refine ⟨by simp only [inI]; omega, ?_⟩
      repeat ((try first | (refine ofX3 hX ?_; clear hX X) | (refine ofX2 hX ?_; clear hX X)); (first | refine wpL_step (fun X hX => ?_) | refine wpH_step (fun X hX => ?_) | refine wpE_step (fun X hX => ?_) | refine wpL_end ?_ | refine wpH_end ?_ | refine wpE_end ?_); try simp only [ oweC, oweP, opF, opH, ev, evs, evp, evo, Env.get, Env.set, putE, gdst, S0, S1, thenN, inBlockN, argEnv, builtinR, retE, fin, callR, reduceIte, Nat.reduceEqDiff, Nat.reduceAdd, reduceCtorEq, forall_const, Tryd.results20, Fx.ag28, Fx.ag42, Fx.ag56, Fx.ag73, Fx.ag78, Fx.es56, Fx.es78, Fx.fo59_0, Fx.fo70_0, Fx.fo72_0, Fx.isl56])
      have hc23 : Chg (· = p) W' w3 := (he2.chg _).trans hc3
      have hs3' := hc23.size
      have hptk : ps2.take (j + 1) = ps2.take j ++ [p] := by
        have hjl2 : j < ps2.length := by omega
        rw [List.take_succ_eq_append_getElem hjl2]
        rw [List.getElem?_eq_getElem hjl2] at hp2
        rw [Option.some.inj hp2]
      obtain ⟨gn, hgn1, hgn2, hgn3⟩ : ∃ gn, (o.list ≠ [] → WL w3 gn (.slice A3 o.list.length c3) (o.list.map (mvW (collT H roots)))) ∧ (gn = p ∨ W'.heap.size ≤ gn) ∧ gn < w3.heap.size := by
        by_cases hl0 : o.list = []
        · exact ⟨p, fun h => absurd hl0 h, .inl rfl, by omega⟩
        · have h1 := hg3 hl0
          obtain ⟨A5, c5, h7, h8, h9, h10⟩ := id hWL3
          obtain ⟨-, cs5, h11, -⟩ := h10 (by simpa using hl0)
          have := h11.lt
          exact ⟨g3, fun _ => hWL3.chg hc3 (by omega), .inr h1, by omega⟩
      have hl2 := hCL.len
      refine ⟨(j + 1, gs2 ++ [gn]), by simp [sub, Env.get], ⟨by omega, hCL.c.trans (hc23.mono fun k _ h => by rw [h]; exact hpm), fun k h1 h2 => ?_, by omega, fun p' h1 h2 => ?_, by simp [hl2], ?_, fun t p' g' r' h1 h2 h3 h4 => ?_, fun t p' g' h2 h3 => ?_⟩, by omega⟩
      · rw [hc23.block k (by omega) (by omega)]; exact hCL.keep k h1 h2
      · rw [hptk] at h2
        simp only [List.mem_append, List.mem_singleton, not_or] at h2
        have := hpsl p' h1
        rw [hc23.block p' (by omega) h2.2]; exact hCL.raw p' h1 h2.1
      · refine List.nodup_append.2 ⟨hCL.nd, List.pairwise_singleton _ _, fun a ha b hb2 e => ?_⟩
        simp at hb2; subst hb2; subst e
        obtain ⟨t, ht⟩ := List.mem_iff_getElem?.1 ha
        have htl := (List.getElem?_eq_some_iff.1 ht).1
        have hpt : ps2[t]? = some (ps2[t]'(by omega)) := List.getElem?_eq_getElem _
        have h5 := hCL.gs t _ a hpt ht
        rcases hgn2 with h6 | h6
        · rcases h5.1 with h7 | h7
          · have h8 := (List.getElem?_eq_some_iff.1 hp2)
            have := (List.getElem_inj hps2n).1 (h7.symm.trans (h6.trans h8.2.symm))
            omega
          · omega
        · omega
      · rcases Nat.lt_or_ge t j with htj | htj
        · rw [List.getElem?_append_left (by omega)] at h3
          have h5 := hCL.done t p' g' r' htj h2 h3 h4
          have h6 := hCL.gs t p' g' h2 h3
          have hpp : p' ≠ p := fun e => hpn (by
            rw [← e]
            exact List.mem_of_getElem? (i := t) (by rw [List.getElem?_take, if_pos htj]; exact h2))
          exact h5.chg hc23 hpp (fun e => by
            rcases h6.1 with h7 | h7
            · exact hpp (h7 ▸ e)
            · omega)
        · have htj2 : t = j := by omega
          subst htj2
          rw [hp2] at h2; cases h2
          rw [hQj] at h4; cases h4
          rw [List.getElem?_append_right (by omega)] at h3
          simp [hl2] at h3; subst h3
          rw [hoo]
          exact hmk w3 gn hb3 hgn1
      · rcases Nat.lt_or_ge t j with htj | htj
        · rw [List.getElem?_append_left (by omega)] at h3
          have h6 := hCL.gs t p' g' h2 h3
          exact ⟨h6.1, by omega⟩
        · have htl := (List.getElem?_eq_some_iff.1 h3).1
          simp [hl2] at htl
          have htj2 : t = j := by omega
          subst htj2
          rw [hp2] at h2; cases h2
          rw [List.getElem?_append_right (by omega)] at h3
          simp [hl2] at h3; subst h3
          refine ⟨?_, hgn3⟩
          rcases hgn2 with h6 | h6
          · exact .inl h6
          · exact .inr (by omega)
end Go.Proofs.YtldeokfhipjbfaaDoor
