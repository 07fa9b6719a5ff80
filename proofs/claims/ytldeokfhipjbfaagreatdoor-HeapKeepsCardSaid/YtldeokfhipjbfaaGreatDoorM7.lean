/- Part 7 of 12: H18, H19, H20, Vg27, R0. -/
import Derived.Test.YtldeokfhipjbfaaGreatDoorM6
import Derived.Test.YtldeokfhipjbfaaGreatDoorM3
/- Collect. -/
set_option linter.unusedVariables false
set_option linter.unusedSimpArgs false
namespace Go.Proofs.Vg
open Go Go.RowKit
def tosF (N : Nat) (Q : List Int) : Nat → List Int
  | 0 => List.replicate N 0
  | i + 1 => (tosF N Q i).set (Q.getD i 0).toNat ((i : Int) + 1)
theorem tosF_length (N : Nat) (Q : List Int) : ∀ i, (tosF N Q i).length = N
  | 0 => by simp [tosF]
  | i + 1 => by simp [tosF, tosF_length N Q i]
/-- The state of a collection's first loop. -/
structure CJ (w0 W : World) (n b0 b1 b2 c6 Bt c7 hb N : Nat) (rv : Value) (Q : List Int) (ptrs : List Value) (s : RS) : Prop where
  ext : Ext w0 W
  k0 : Blk W b0 [ptrOf hb] 25
  k1 : Blk W b1 [ptrOf hb] 25
  k2 : Blk W b2 [rv] 29
  k6 : Blk W c6 [.slice (some ⟨Bt, 0, none⟩) N N] 33
  kt : Blk W Bt (ivs (tosF N Q s.i)) 3
  kk : ∃ kv, Blk W c7 [kv] 67 ∧ W.ownsRow (n + 2) 103 1 kv s.i (ptrs.take s.i) ∧ ∀ k, kv.ownBlock = some k → ¬ s.own k
  si : s.i ≤ Q.length
  own : ∀ k, s.own k → n + 2 ≤ k ∧ k < W.heap.size
  snap : ∀ k, s.own k → W.heap[k]? = s.snap k
structure CN (w0 : World) (n b0 b1 b2 c6 Bt c7 : Nat) : Prop where
  h0 : w0.heap.size ≤ b0 ∧ b0 < n
  h1 : w0.heap.size ≤ b1 ∧ b1 < n
  h2 : w0.heap.size ≤ b2 ∧ b2 < n
  h6 : w0.heap.size ≤ c6 ∧ c6 < n
  ht : w0.heap.size ≤ Bt ∧ Bt < n
  h7 : w0.heap.size ≤ c7 ∧ c7 < n
  n67 : c6 ≠ c7 ∧ Bt ≠ c7 ∧ c6 ≠ Bt ∧ b0 ≠ c7 ∧ b1 ≠ c7 ∧ b2 ≠ c7 ∧ b0 ≠ Bt ∧ b1 ≠ Bt ∧ b2 ≠ Bt
theorem CJ.chg {w0 W W' : World} {n b0 b1 b2 c6 Bt c7 hb N : Nat} {rv : Value} {Q : List Int} {ptrs : List Value} {s s' : RS} {T : Nat → Prop} (hn : CN w0 n b0 b1 b2 c6 Bt c7) (h : CJ w0 W n b0 b1 b2 c6 Bt c7 hb N rv Q ptrs s) (hc : Chg T W W')
    (hT : ∀ k, T k → n ≤ k) (hkv : ∀ kv, W.ownsRow (n + 2) 103 1 kv s.i (ptrs.take s.i) → (∀ k, kv.ownBlock = some k → ¬ s.own k) → ∀ k, kv.ownBlock = some k → ¬ T k ∧ ¬ s'.own k) (hi : s'.i = s.i) (ho : ∀ k, s'.own k → n + 2 ≤ k ∧ k < W'.heap.size) (hsn : ∀ k, s'.own k → W'.heap[k]? = s'.snap k) : CJ w0 W' n b0 b1 b2 c6 Bt c7 hb N rv Q ptrs s' := by
  have hlow : ∀ k, k < n → ¬ T k := fun k hk ht => by have := hT k ht; omega
  obtain ⟨kv, k1, k2, k3⟩ := h.kk
  refine ⟨h.ext.chg_trans hc (fun k hk => by have := hT k hk; have := hn.h0; omega), h.k0.chg hc (hlow _ hn.h0.2), h.k1.chg hc (hlow _ hn.h1.2), h.k2.chg hc (hlow _ hn.h2.2), h.k6.chg hc (hlow _ hn.h6.2), ?_, ⟨kv, k1.chg hc (hlow _ hn.h7.2), ?_, fun k hk => (hkv kv k2 k3 k hk).2⟩, by rw [hi]; exact h.si, ho, hsn⟩
  · rw [hi]; exact h.kt.chg hc (hlow _ hn.ht.2)
  · rw [hi]; exact owns_chg' k2 hc (fun k hk => (hkv kv k2 k3 k hk).1)
theorem Off.chg' {n : Nat} {W W' : World} (h : Off n W W') : Chg (fun k => k = n ∨ k = n + 1) W W' := ⟨h.os, h.tape, h.output, by rw [h.size]; exact Nat.le_refl _, fun k hk hne => h.block k (fun e => hne (.inl e)) (fun e => hne (.inr e))⟩
theorem bfs_length {H : List Ob} (hW : Wf H) : ∀ (f : Nat) (sn : List Bool) (q : List Int) (i : Nat), Qok H.length sn q → (bfs H f sn q i).length ≤ unseen sn + q.length := by
  intro f
  induction f with
  | zero => intro sn q i h; simp only [bfs]; omega
  | succ f ih =>
    intro sn q i h
    simp only [bfs]
    split
    · omega
    · rename_i r hr
      have h1 := pushF_inv _ sn q (listO_mem hW r) h
      have h2 := ih _ _ (i + 1) h1.1
      have h3 := h1.2.2
      omega
theorem own_zero {w : World} {base e sz n : Nat} {v : Value} {xs : List Value} (h : w.ownsRow base e sz v n xs) : w.ownsRow 0 e sz v n xs := by
  refine ⟨h.1, ?_⟩
  rcases h.2 with hn | ⟨g, cap, cur, hv, hb, rest⟩
  · exact .inl hn
  · exact .inr ⟨g, cap, cur, hv, Nat.zero_le _, rest⟩
theorem nodup_pick {ps : List Nat} (h : ps.Nodup) {Q : List Int} (hQ : Q.Nodup) (hr : ∀ r ∈ Q, 1 ≤ r ∧ r ≤ (ps.length : Int)) : (Q.map fun r => ps.getD (r - 1).toNat 0).Nodup := by
  refine List.pairwise_map.2 (hQ.imp_of_mem fun {a b} ha hb hne e => ?_)
  have h1 := hr a ha
  have h2 := hr b hb
  rw [List.getD_eq_getElem?_getD, List.getD_eq_getElem?_getD, List.getElem?_eq_getElem (by omega : (a - 1).toNat < ps.length), List.getElem?_eq_getElem (by omega : (b - 1).toNat < ps.length)] at e
  have := (List.getElem_inj h).1 (by simpa using e)
  omega
theorem HeapR.hbps {w : World} {hb rb : Nat} {vs : Value} {ps gs : List Nat} {H : List Ob} (h : HeapR w hb rb vs ps gs H) : hb ∉ ps := h.ap.1.1
theorem HeapR.gnp {w : World} {hb rb : Nat} {vs : Value} {ps gs : List Nat} {H : List Ob} (h : HeapR w hb rb vs ps gs H) {i p g : Nat} {o : Ob} (hp : ps[i]? = some p) (hg : gs[i]? = some g) (ho : H[i]? = some o) (hne : o.list ≠ []) : g ∉ ps := by
  intro hm
  obtain ⟨j, hj⟩ := List.mem_iff_getElem?.1 hm
  have hjl := (List.getElem?_eq_some_iff.1 hj).1
  have ho2 : H[j]? = some (H[j]'(by rw [← h.lenp]; exact hjl)) := List.getElem?_eq_getElem _
  obtain ⟨p2, g2, h1, h2, hob⟩ := h.at_ ho2
  rw [hj] at h1; cases h1
  have h72 : ∃ cs, Blk w g cs 108 := by
    revert hob
    generalize (H[j]'(by rw [← h.lenp]; exact hjl)) = o2
    intro hob
    cases o2 with
    | text s => exact ⟨_, hob⟩
    | words s l => obtain ⟨lv, h1, _⟩ := hob; exact ⟨_, h1⟩
  obtain ⟨cs, h72⟩ := h72
  have hob' := h.obj i p g o hp hg ho
  cases o with
  | text s => exact hne rfl
  | words s l =>
    obtain ⟨lv, _, A, c, _, _, _, h5⟩ := hob'
    obtain ⟨_, cs2, h31, _⟩ := h5 hne
    unfold Blk at h72 h31
    rw [h72] at h31
    injection h31 with h31
    injection h31 with _ h31 _
    cases h31
/-- Grown, and a list of words that lies outside. -/
def GrownS (w w' : World) (hb rb : Nat) (H2 : List Ob) (F : Nat → Prop) (v : Value) (l : List Wd) : Prop :=
  Chg F w w' ∧ ∃ F', HeapW w' hb rb H2 F' ∧ (∀ k, F' k → F k ∨ (w.heap.size ≤ k ∧ k < w'.heap.size)) ∧ ∃ g, WL w' g v l ∧ (l ≠ [] → w.heap.size ≤ g ∧ ¬ F' g)
theorem GrownS.grown {w w' : World} {hb rb : Nat} {H2 : List Ob} {F : Nat → Prop} {v : Value} {l : List Wd} (h : GrownS w w' hb rb H2 F v l) : Grown w w' hb rb H2 F := by
  obtain ⟨h1, F', h2, h3, -⟩ := h
  exact ⟨h1, F', h2, h3⟩
/-- The second loop of a collection: the words of the kept objects are renamed. -/
structure CL (w W W' : World) (ps : List Nat) (H : List Ob) (Q tos : List Int) (ps2 gs2 : List Nat) (mv : Option Ob → Ob) (j : Nat) : Prop where
  c : Chg (· ∈ ps) w W'
  keep : ∀ k, w.heap.size ≤ k → k < W.heap.size → W'.heap[k]? = W.heap[k]?
  sz : W.heap.size ≤ W'.heap.size
  raw : ∀ p, p ∈ ps → p ∉ ps2.take j → W'.heap[p]? = w.heap[p]?
  len : gs2.length = j
  nd : gs2.Nodup
  done : ∀ (t p g : Nat) (r : Int), t < j → ps2[t]? = some p → gs2[t]? = some g → Q[t]? = some r → ObW W' p g (mv (objAt H r))
  gs : ∀ (t p g : Nat), ps2[t]? = some p → gs2[t]? = some g → (g = p ∨ W.heap.size ≤ g) ∧ g < W'.heap.size
def moveO (tos : List Int) : Option Ob → Ob
  | some (.words s l) => .words s (l.map fun x => ⟨x.k, x.n, tos.getD x.r.toNat 0⟩)
  | some (.text s) => .text s
  | none => .text ⟨#[]⟩
end Go.Proofs.Vg
namespace Go.Proofs.YtldeokfhipjbfaaGreatDoor
open Go Go.Proofs.Vg Go.RowKit
def collQ (H : List Ob) (roots : List Wd) : List Int := bfsQ H roots
def collT (H : List Ob) (roots : List Wd) : List Int := tosF (H.length + 1) (collQ H roots) (collQ H roots).length
def collH (H : List Ob) (roots : List Wd) : List Ob := (collQ H roots).map fun r => moveO (collT H roots) (objAt H r)

-- -- function 15
set_option maxHeartbeats 4000000 in
set_option maxRecDepth 8000 in
theorem collect_ok (w : World) (hb rb : Nat) (H : List Ob) (F : Nat → Prop) (hH : HeapW w hb rb H F) (hF : ∀ k, F k → k < w.heap.size) (hl : H.length ≤ 1048576) (hW : Wf H) (rv : Value) (roots : List Wd) (hrsT : ∀ W', Chg F w W' → SlW W' rv roots) (hrl : roots.length ≤ 1073741824) :
    Rets Tryz.prog 15 [ptrOf hb, rv] w (fun v w' => (roots.any (fun x => !rightW H x) = true → v = .tuple #[.slice none 0 0, .int .i64 2] ∧ Grown w w' hb rb H F) ∧
      (roots.any (fun x => !rightW H x) = false → ∃ A c, v = .tuple #[.slice A roots.length c, .int .i64 0] ∧ GrownS w w' hb rb (collH H roots) F (.slice A roots.length c) (roots.map (mvW (collT H roots))))) := by
  have hrs : SlW w rv roots := hrsT w (Chg.refl _ _)
  obtain ⟨A, c, hrv, hlen, hcell⟩ := id hrs
  rw [wd_len] at hrv hlen
  subst hrv
  refine rets_of_okM Tryz.func15 rfl rfl ?_
  refine ok_seq (fun M hM => ok_region rfl ?_)
  repeat ((try subst X); (first | (first | apply zL | apply zH | apply zE); intro X hX | apply zl | apply zh | apply ze); try simp only [zU, reduceIte, Nat.reduceEqDiff, Nat.reduceAdd, reduceCtorEq, Q15])
  refine Runs.box (fun w1 he1 hz1 hb1 => ?_)
  generalize hB0 : w.heap.size = b0 at hz1 hb1
  simp only [Value.cells] at hb1
  repeat ((try subst X); (first | (first | apply zL | apply zH | apply zE); intro X hX | apply zl | apply zh | apply ze); try simp only [zU, reduceIte, Nat.reduceEqDiff, Nat.reduceAdd, reduceCtorEq, Q15])
  refine hM _ _ _ ?_; clear hM M
  refine ok_join [(1, .slice A roots.length c), (2, ptrOf b0)] (fun w' => Ext w1 w' ∧ roots.any (fun x => !rightW H x) = false) ?_ ?_
  · refine ok_block ?_
    refine ok_seq (fun M hM => ok_region rfl ?_)
    repeat ((try subst X); (first | (first | apply zL | apply zH | apply zE); intro X hX | apply zl | apply zh | apply ze); try simp only [zU, reduceIte, Nat.reduceEqDiff, Nat.reduceAdd, reduceCtorEq, Q15])
    refine ⟨_, hb1.cell (j := 0) rfl, ?_⟩
    repeat ((try subst X); (first | (first | apply zL | apply zH | apply zE); intro X hX | apply zl | apply zh | apply ze); try simp only [zU, reduceIte, Nat.reduceEqDiff, Nat.reduceAdd, reduceCtorEq, Q15])
    refine Runs.ptrEq Fx.un25 ?_
    repeat ((try subst X); (first | (first | apply zL | apply zH | apply zE); intro X hX | apply zl | apply zh | apply ze); try simp only [zU, reduceIte, Nat.reduceEqDiff, Nat.reduceAdd, reduceCtorEq, Q15])
    refine hM _ _ _ ?_; clear hM M
    refine ok_cond rfl (fun h => by cases h) (fun _ => ?_)
    refine ok_seq (fun M hM => ok_region rfl ?_)
    repeat ((try subst X); (first | (first | apply zL | apply zH | apply zE); intro X hX | apply zl | apply zh | apply ze); try simp only [zU, reduceIte, Nat.reduceEqDiff, Nat.reduceAdd, reduceCtorEq, Q15])
    refine Inv.call Fx.en47 (containsW_ok w1 A roots.length c _ hlen
      (fun i w4 => Ext w1 w4 ∧ ∀ (j : Nat) (x : Wd), j < i → roots[j]? = some x → rightW H x = true)
      (fun w4 => Ext w1 w4 ∧ roots.any (fun x => !rightW H x) = true) ⟨Ext.refl _, fun j x h => absurd h (Nat.not_lt_zero _)⟩ ?_) ?_
    · rintro i w4 hil ⟨he4, hall⟩
      have hxi : roots[i]? = some roots[i] := List.getElem?_eq_getElem hil
      obtain ⟨b, o, hA, hcc⟩ := hcell i roots[i].row (by rw [List.getElem?_map, hxi]; rfl)
      refine ⟨roots[i].row, rfl, ⟨b, o, hA, (he1.trans he4).cellsAt hcc⟩, Inv.clos (cap := [ptrOf b0]) Fx.en50 (collect1_ok w4 hb rb H F (hH.ext (he1.trans he4)) (by omega) roots[i] b0 (he4.cell (hb1.cell (j := 0) rfl))) ?_⟩
      rintro v w5 ⟨rfl, he5⟩
      refine ⟨_, rfl, fun hb => ⟨he4.trans he5, List.any_eq_true.2 ⟨_, List.getElem_mem hil, hb⟩⟩, fun hb => ⟨he4.trans he5, fun j x hj hx => ?_⟩⟩
      rcases Nat.lt_or_ge j i with h | h
      · exact hall j x h hx
      · have : j = i := by omega
        subst this
        rw [hxi] at hx
        cases hx
        simpa using hb
    rintro v w4 ⟨b, rfl, hbt, hbf⟩
    repeat ((try subst X); (first | (first | apply zL | apply zH | apply zE); intro X hX | apply zl | apply zh | apply ze); try simp only [zU, reduceIte, Nat.reduceEqDiff, Nat.reduceAdd, reduceCtorEq, Q15])
    refine hM _ _ _ ?_; clear hM M
    cases b with
    | true =>
      obtain ⟨he4, hany⟩ := hbt rfl
      refine ok_cond rfl (fun _ => ?_) (fun h => by cases h)
      refine ok_seq (fun M hM => ok_region rfl ?_); repeat ((try subst X); (first | (first | apply zL | apply zH | apply zE); intro X hX | apply zl | apply zh | apply ze); try simp only [zU, reduceIte, Nat.reduceEqDiff, Nat.reduceAdd, reduceCtorEq, Q15])
      refine hM _ _ _ ?_; clear hM M
      refine ok_ret ?_
      refine .inl ⟨rfl, ?_⟩
      try simp only [zW, zU, reduceIte, Nat.reduceEqDiff, Nat.reduceAdd, reduceCtorEq, Q15]
      exact ⟨fun _ => Grown.ext hH (he1.trans he4), fun h => by rw [hany] at h; cases h⟩
    | false =>
      obtain ⟨he4, hall⟩ := hbf rfl
      refine ok_cond rfl (fun h => by cases h) (fun _ => ok_skip ?_)
      try simp only [zW, zU, reduceIte, Nat.reduceEqDiff, Nat.reduceAdd, reduceCtorEq, Q15]
      refine ⟨by simp [sub, Env.get], he4, ?_⟩
      rw [List.any_eq_false]
      intro x hx hb
      obtain ⟨j, hj⟩ := List.mem_iff_getElem?.1 hx
      rw [hall j x (List.getElem?_eq_some_iff.1 hj).1 hj] at hb
      cases hb
  rintro w2 ⟨he2, hany⟩
  rw [hany]
  have he02 := he1.trans he2
  have hrall : ∀ x ∈ roots, 0 ≤ x.r ∧ x.r ≤ (H.length : Int) := fun x hx => right_ref (by
    have := List.any_eq_false.1 hany x hx
    simpa using this)
  obtain ⟨vs, ps, gs, hR0, hf, hrb⟩ := id hH
  obtain ⟨Av, cv, hvs, hvlen, hvcell⟩ := hR0.sli (by omega)
  have hL : (ps.map fun p => [ptrOf p]).length = H.length := by simp [hR0.lenp]
  rw [hL] at hvs
  have hhead : w.cell? ⟨hb, 0, none⟩ = some (.slice Av H.length cv) := by
    have hq := hR0.head.cell (j := 0) (u := vs) rfl
    rw [hvs] at hq
    exact hq
  have hb02 := hb1.ext he2
  have hs02 := he02.size
  refine ok_seq (fun M hM => ok_region rfl ?_)
  repeat ((try subst X); (first | (first | apply zL | apply zH | apply zE); intro X hX | apply zl | apply zh | apply ze); try simp only [zU, reduceIte, Nat.reduceEqDiff, Nat.reduceAdd, reduceCtorEq, Q15])
  refine ⟨_, hb02.cell (j := 0) rfl, ?_⟩
  repeat ((try subst X); (first | (first | apply zL | apply zH | apply zE); intro X hX | apply zl | apply zh | apply ze); try simp only [zU, reduceIte, Nat.reduceEqDiff, Nat.reduceAdd, reduceCtorEq, Q15])
  refine ⟨_, he02.cell hhead, ?_⟩
  repeat ((try subst X); (first | (first | apply zL | apply zH | apply zE); intro X hX | apply zl | apply zh | apply ze); try simp only [zU, reduceIte, Nat.reduceEqDiff, Nat.reduceAdd, reduceCtorEq, Q15])
  refine ⟨by simp only [inI]; omega, ?_⟩
  repeat ((try subst X); (first | (first | apply zL | apply zH | apply zE); intro X hX | apply zl | apply zh | apply ze); try simp only [zU, reduceIte, Nat.reduceEqDiff, Nat.reduceAdd, reduceCtorEq, Q15])
  refine Runs.make1 Fx.un33 Fx.zi3 rfl (by omega) (by omega) (by omega) (fun w3 he3 hz3 hb3 => ?_)
  generalize hBt : w2.heap.size = Bt at hz3 hb3
  have hto : ((H.length : Int) + 1).toNat = H.length + 1 := by omega
  rw [hto] at hb3 ⊢
  repeat ((try subst X); (first | (first | apply zL | apply zH | apply zE); intro X hX | apply zl | apply zh | apply ze); try simp only [zU, reduceIte, Nat.reduceEqDiff, Nat.reduceAdd, reduceCtorEq, Q15])
  refine Runs.alloc Fx.zi33 (fun w4 he4 hz4 hb4 => ?_)
  generalize hC6 : w3.heap.size = c6 at hz4 hb4
  simp only [Value.cells] at hb4
  repeat ((try subst X); (first | (first | apply zL | apply zH | apply zE); intro X hX | apply zl | apply zh | apply ze); try simp only [zU, reduceIte, Nat.reduceEqDiff, Nat.reduceAdd, reduceCtorEq, Q15])
  refine Runs.store hb4 Fx.zi33 rfl (by intro u hu; simp [Value.cells] at hu; subst hu; rfl) (by simp) (fun w5 hc5 hz5 hb5 => ?_)
  rw [splice_all _ _ (by simp [Value.cells])] at hb5
  simp only [Value.cells] at hb5
  repeat ((try subst X); (first | (first | apply zL | apply zH | apply zE); intro X hX | apply zl | apply zh | apply ze); try simp only [zU, reduceIte, Nat.reduceEqDiff, Nat.reduceAdd, reduceCtorEq, Q15])
  refine hM _ _ _ ?_; clear hM M
  refine ok_seq (fun M hM => ok_region rfl ?_)
  repeat ((try subst X); (first | (first | apply zL | apply zH | apply zE); intro X hX | apply zl | apply zh | apply ze); try simp only [zU, reduceIte, Nat.reduceEqDiff, Nat.reduceAdd, reduceCtorEq, Q15])
  refine Runs.alloc Fx.zi67 (fun w6 he6 hz6 hb6 => ?_)
  generalize hC7 : w5.heap.size = c7 at hz6 hb6
  simp only [Value.cells] at hb6
  have he06 : Ext w w6 := ((he02.trans (he3.trans he4)).chg_trans hc5 (fun k hk => by omega)).trans he6
  have hb06 : Blk w6 b0 [ptrOf hb] 25 := (((hb02.ext he3).ext he4).chg hc5 (by omega)).ext he6
  repeat ((try subst X); (first | (first | apply zL | apply zH | apply zE); intro X hX | apply zl | apply zh | apply ze); try simp only [zU, reduceIte, Nat.reduceEqDiff, Nat.reduceAdd, reduceCtorEq, Q15])
  refine hM _ _ _ ?_; clear hM M
  refine ok_seq (fun M0 hM0 => ?_)
  refine ok_seq (fun M hM => ok_region rfl ?_)
  repeat ((try subst X); (first | (first | apply zL | apply zH | apply zE); intro X hX | apply zl | apply zh | apply ze); try simp only [zU, reduceIte, Nat.reduceEqDiff, Nat.reduceAdd, reduceCtorEq, Q15])
  refine ⟨_, hb06.cell (j := 0) rfl, ?_⟩
  repeat ((try subst X); (first | (first | apply zL | apply zH | apply zE); intro X hX | apply zl | apply zh | apply ze); try simp only [zU, reduceIte, Nat.reduceEqDiff, Nat.reduceAdd, reduceCtorEq, Q15])
  refine Inv.call Fx.en49 (reached_ok w6 hb (.slice A roots.length c) rfl) ?_
  rintro v w7 ⟨rfl, hk1, hk2, he7⟩
  repeat ((try subst X); (first | (first | apply zL | apply zH | apply zE); intro X hX | apply zl | apply zh | apply ze); try simp only [zU, reduceIte, Nat.reduceEqDiff, Nat.reduceAdd, reduceCtorEq, Q15])
  refine hM _ _ _ ?_; clear hM M
  have hs7 : w6.heap.size + 1 < w7.heap.size := hk2.lt
  have he07 := he06.trans he7
  have hs12 := he2.size
  have hs67 := he7.size
  have hn : CN w w7.heap.size b0 w6.heap.size (w6.heap.size + 1) c6 Bt c7 := ⟨by omega, by omega, by omega, by omega, by omega, by omega, by omega⟩
  have hk6 : Blk w7 c6 [.slice (some ⟨Bt, 0, none⟩) (H.length + 1) (H.length + 1)] 33 := (hb5.ext he6).ext he7
  have hkt : Blk w7 Bt (ivs (tosF (H.length + 1) (collQ H roots) 0)) 3 := by
    have : Blk w7 Bt _ 3 := (((hb3.ext he4).chg hc5 (by omega)).ext he6).ext he7
    simpa [ivs, tosF] using this
  have hFoot : ∀ k, Foot hb vs ps gs k → k < w.heap.size := fun k hk => (hf k hk).2
  have hrbs := hR0.rules.lt
  generalize hptr : (collQ H roots).map (fun r => ptrOf (ps.getD (r - 1).toNat 0)) = ptrs
  have hpl : ptrs.length = (collQ H roots).length := by rw [← hptr]; simp
  have hbq := bfs_prefix hW (H.length + 1) _ _ 0 (pushF_inv (n := H.length) roots _ [] hrall (Qok.nil _)).1
  have hQr : ∀ r ∈ collQ H roots, 1 ≤ r ∧ r ≤ (H.length : Int) := hbq.2.1
  have hQn : (collQ H roots).Nodup := hbq.2.2
  clear hbq
  generalize hN : w7.heap.size = n at hn
  have hJHF : ∀ s W, CJ w W n b0 w6.heap.size (w6.heap.size + 1) c6 Bt c7 hb (H.length + 1) (.slice A roots.length c) (collQ H roots) ptrs s → HF W s w6.heap.size (w6.heap.size + 1) hb rb vs ps gs H (.slice A roots.length c) roots := fun s W h =>
    ⟨hR0.ext h.ext, h.k1.cell rfl, h.k2.cell rfl, hrs.ext h.ext, h.snap, fun k hk ho => by have := hFoot k hk; have := h.own k ho; omega⟩
  have hst : ∀ s W W', Off n W W' → CJ w W n b0 w6.heap.size (w6.heap.size + 1) c6 Bt c7 hb (H.length + 1) (.slice A roots.length c) (collQ H roots) ptrs s → CJ w W' n b0 w6.heap.size (w6.heap.size + 1) c6 Bt c7 hb (H.length + 1) (.slice A roots.length c) (collQ H roots) ptrs s := by
    rintro s W W' ho h
    refine h.chg hn ho.chg' (fun k hk => by omega) (fun kv hown hnk k hk => ⟨fun h => ?_, hnk k hk⟩) rfl (fun k hk => by rw [ho.size]; exact h.own k hk) (fun k hk => ?_)
    · have := (hown.lt k hk).1; omega
    · have := h.own k hk
      rw [ho.block k (by omega) (by omega)]
      exact h.snap k hk
  refine ok_block ?_
  refine ok_rangeG (S := RS) (cap := [ptrOf w6.heap.size, ptrOf (w6.heap.size + 1)])
    (fun s W => CJ w W n b0 w6.heap.size (w6.heap.size + 1) c6 Bt c7 hb (H.length + 1) (.slice A roots.length c) (collQ H roots) ptrs s) (fun _ _ => False) ⟨0, fun _ => False, fun _ => none⟩
    (fun s => [.int .i64 ((collQ H roots).getD s.i 0)]) (fun s => s.i < (collQ H roots).length) (fun s => s.i = (collQ H roots).length) (fun s s' => s' = ⟨s.i + 1, s.own, s.snap⟩) GenR
    rfl Fx.en88 (by decide) (fun s _ => rfl) ?_ (fun _ _ _ _ h => h) ?_ ?_ ?_ ?_ ?_ (fun _ h => h.elim) (fun _ _ h => h.elim)
  · rw [hN]; exact hst
  · rintro s W s' W' hsz hg h
    rw [hN] at hsz ⊢
    have hso : ∀ k, s'.own k → n + 2 ≤ k ∧ k < W'.heap.size := fun k hk => by
      refine ⟨?_, (hg.new k hk).2⟩
      rcases (hg.new k hk).1 with h1 | h1
      · exact (h.own k h1).1
      · omega
    refine ⟨Keep.chg hg.chg (by omega) (fun ho => by have := h.own n ho; omega) (fun ho => by have := h.own (n + 1) ho; omega), h.chg hn hg.chg (fun k hk => by have := h.own k hk; omega) (fun kv hown hnk k hk => ⟨hnk k hk, fun h' => ?_⟩) hg.i hso (fun k hk => by rw [hg.snap])⟩
    rcases (hg.new k h').1 with h1 | h1
    · exact hnk k hk h1
    · have := (hown.lt k hk).2; omega
  · intro W he hsz
    exact ⟨he07.trans he, ((hb06.ext he7).ext he), hk1.ext he, hk2.ext he, hk6.ext he, hkt.ext he, ⟨.slice none 0 0, (hb6.ext he7).ext he, World.ownsRow_nil _ _ _ _, fun k hk => by simp [Value.ownBlock] at hk⟩, Nat.zero_le _, fun k h => h.elim, fun k h => h.elim⟩
  · -- one round
    rintro s W hmore h hsz
    rw [hN] at hsz ⊢
    simp only [bindE]
    have hri : (collQ H roots)[s.i]? = some ((collQ H roots).getD s.i 0) := by rw [List.getD_eq_getElem?_getD, List.getElem?_eq_getElem hmore]; rfl
    have hrr := hQr _ (List.mem_of_getElem? hri)
    generalize hr0 : (collQ H roots).getD s.i 0 = r at hri hrr
    refine ok_region rfl ?_
    repeat ((try subst X); (first | (first | apply zL | apply zH | apply zE); intro X hX | apply zl | apply zh | apply ze); try simp only [zU, reduceIte, Nat.reduceEqDiff, Nat.reduceAdd, reduceCtorEq, Q15])
    refine ⟨Keep.refl _ _, fun W2 ho => ?_⟩
    have h2 := hst s W W2 ho h
    have hsz2 : n + 1 < W2.heap.size := by rw [ho.size]; exact hsz
    clear h ho hsz
    obtain ⟨i, o, hio, hi, hoi, hoo⟩ := objAt_in (H := H) (r := r) hrr.1 hrr.2
    have hRW := hR0.ext h2.ext
    obtain ⟨p, g, hp, hg, hob⟩ := hRW.at_ hoi
    obtain ⟨Av2, cv2, hvs2, -, hvcell2⟩ := hRW.sli (by omega)
    rw [hL, hvs] at hvs2
    injection hvs2 with hA2 _ hc2
    subst hA2
    obtain ⟨bb, oo, rfl, hcc⟩ := hvcell2 i [ptrOf p] (by rw [List.getElem?_map, hp]; rfl)
    have hcc0 := hcc 0 _ rfl
    have hhead2 := h2.ext.cell hhead
    have hptri : ptrs[s.i]? = some (ptrOf p) := by
      rw [← hptr, List.getElem?_map, hri]
      have : (r - 1).toNat = i := by omega
      have hpi : ps.getD i 0 = p := by rw [List.getD_eq_getElem?_getD, hp]; rfl
      simp only [Option.map_some]
      rw [this, hpi]
    have hsl : s.i < ptrs.length := by rw [hpl]; exact hmore
    have hptk : ptrs.take (s.i + 1) = ptrs.take s.i ++ [ptrOf p] := by
      rw [List.take_succ_eq_append_getElem hsl]
      rw [List.getElem?_eq_getElem hsl] at hptri
      rw [Option.some.inj hptri]
    have hql : (collQ H roots).length ≤ 1048577 := by
      have hu := (pushF_inv (n := H.length) roots _ [] hrall (Qok.nil _))
      have hb := bfs_length hW (H.length + 1) _ _ 0 hu.1
      have hu2 := hu.2.2
      rw [unseen_rep] at hu2
      simp only [List.length_nil] at hu2
      have : (collQ H roots).length ≤ H.length + 1 := by unfold collQ bfsQ; omega
      omega
    obtain ⟨kv, hkv, hown, hnk⟩ := h2.kk
    have e5 : (r - 1).toNat = i := by omega
    refine ok_block ?_
    refine ok_seq (fun M hM => ok_draw 9 [(true, false), (false, true), (false, true)] (Ext _) Fx.mixed (by decide) rfl (by decide +kernel) (by decide +kernel) (Ext.drew _) ?_); repeat ((try subst X); (first | (first | apply zL | apply zH | apply zE); intro X hX | apply zl | apply zh | apply ze); try simp only [zU, reduceIte, Nat.reduceEqDiff, Nat.reduceAdd, reduceCtorEq, Q15])
    refine ⟨_, fun w' h => h.cell (hkv.cell (j := 0) rfl), ?_⟩
    repeat ((try subst X); (first | (first | apply zL | apply zH | apply zE); intro X hX | apply zl | apply zh | apply ze); try simp only [zU, reduceIte, Nat.reduceEqDiff, Nat.reduceAdd, reduceCtorEq, Q15])
    refine ⟨_, fun w' h => h.cell (h2.k0.cell (j := 0) rfl), ?_⟩
    repeat ((try subst X); (first | (first | apply zL | apply zH | apply zE); intro X hX | apply zl | apply zh | apply ze); try simp only [zU, reduceIte, Nat.reduceEqDiff, Nat.reduceAdd, reduceCtorEq, Q15])
    refine ⟨_, fun w' h => h.cell hhead2, ?_⟩
    repeat ((try subst X); (first | (first | apply zL | apply zH | apply zE); intro X hX | apply zl | apply zh | apply ze); try simp only [zU, reduceIte, Nat.reduceEqDiff, Nat.reduceAdd, reduceCtorEq, Q15])
    refine ⟨by simp only [inI]; omega, ?_⟩
    repeat ((try subst X); (first | (first | apply zL | apply zH | apply zE); intro X hX | apply zl | apply zh | apply ze); try simp only [zU, reduceIte, Nat.reduceEqDiff, Nat.reduceAdd, reduceCtorEq, Q15])
    refine ⟨by omega, by omega, ?_⟩
    repeat ((try subst X); (first | (first | apply zL | apply zH | apply zE); intro X hX | apply zl | apply zh | apply ze); try simp only [zU, reduceIte, Nat.reduceEqDiff, Nat.reduceAdd, reduceCtorEq, Q15])
    refine ⟨_, fun w' h => h.cell (by rw [e5]; simpa [add_at] using hcc0), ?_⟩
    repeat ((try subst X); (first | (first | apply zL | apply zH | apply zE); intro X hX | apply zl | apply zh | apply ze); try simp only [zU, reduceIte, Nat.reduceEqDiff, Nat.reduceAdd, reduceCtorEq, Q15])
    intro w10 he10
    repeat ((try subst X); (first | (first | apply zL | apply zH | apply zE); intro X hX | apply zl | apply zh | apply ze); try simp only [zU, reduceIte, Nat.reduceEqDiff, Nat.reduceAdd, reduceCtorEq, Q15])
    refine Runs.lit (cs := [ptrOf p]) Fx.un67 Fx.zi103 (by decide) (by kernel_rfl) (by decide) (fun w11 he11 hs11 hb11 => ?_)
    refine ⟨he10.trans he11, ?_⟩
    repeat ((try subst X); (first | (first | apply zL | apply zH | apply zE); intro X hX | apply zl | apply zh | apply ze); try simp only [zU, reduceIte, Nat.reduceEqDiff, Nat.reduceAdd, reduceCtorEq, Q15])
    have he211 := he10.trans he11
    have hs211 := he211.size
    have hown11 := owns_chg' hown (he211.chg (fun _ => False)) (fun _ _ h => h)
    refine Runs.append1' Fx.un67 Fx.zi103 rfl (by decide) hown11 hb11 rfl (by intro u hu; simp at hu; subst hu; rfl) (by simp [maxLen]; omega) (by omega) (by omega) (fun v' w12 hown12 hg12 hblk => ?_)
    obtain ⟨g', cap, hvn⟩ : ∃ g' cap, v' = .slice (some ⟨g', 0, none⟩) (s.i + 1) cap := by
      rcases hown12.2 with ⟨-, h0⟩ | ⟨g', cap, cur, h1, _⟩
      · omega
      · exact ⟨g', cap, h1⟩
    subst hvn
    have hc12 : Chg (fun k => kv.ownBlock = some k) w11 w12 := ⟨hg12.os, hg12.tape, hg12.output, hg12.size, fun k hk hs => hg12.block k hk (fun e => hs e.symm)⟩
    have hkvn : ∀ k, k < n + 2 → ¬ kv.ownBlock = some k := fun k hk h => by have := (hown.lt k h).1; omega
    have hnn := hn
    obtain ⟨⟨_, n0⟩, ⟨_, n1⟩, ⟨_, n2⟩, ⟨_, n6⟩, ⟨_, nt⟩, ⟨_, n7⟩, nne⟩ := hnn
    have hkv12 : Blk w12 c7 [kv] 67 := (hkv.ext he211).chg hc12 (hkvn c7 (by omega))
    repeat ((try subst X); (first | (first | apply zL | apply zH | apply zE); intro X hX | apply zl | apply zh | apply ze); try simp only [zU, reduceIte, Nat.reduceEqDiff, Nat.reduceAdd, reduceCtorEq, Q15])
    refine Runs.store hkv12 Fx.zi67 rfl (by intro u hu; simp [Value.cells] at hu; subst hu; rfl) (by simp) (fun w13 hc13 hs13 hb13 => ?_)
    rw [splice_all _ _ (by simp [Value.cells])] at hb13
    simp only [Value.cells] at hb13
    have hs12' := hc12.size
    have hk6' : Blk w13 c6 _ 33 := ((h2.k6.ext he211).chg hc12 (hkvn c6 (by omega))).chg hc13 nne.1
    have hkt' : Blk w13 Bt _ 3 := ((h2.kt.ext he211).chg hc12 (hkvn Bt (by omega))).chg hc13 nne.2.1
    repeat ((try subst X); (first | (first | apply zL | apply zH | apply zE); intro X hX | apply zl | apply zh | apply ze); try simp only [zU, reduceIte, Nat.reduceEqDiff, Nat.reduceAdd, reduceCtorEq, Q15])
    refine hM _ _ _ ?_; clear hM M
    refine ok_region rfl ?_
    repeat ((try subst X); (first | (first | apply zL | apply zH | apply zE); intro X hX | apply zl | apply zh | apply ze); try simp only [zU, reduceIte, Nat.reduceEqDiff, Nat.reduceAdd, reduceCtorEq, Q15])
    refine ⟨_, hk6'.cell (j := 0) rfl, ?_⟩
    repeat ((try subst X); (first | (first | apply zL | apply zH | apply zE); intro X hX | apply zl | apply zh | apply ze); try simp only [zU, reduceIte, Nat.reduceEqDiff, Nat.reduceAdd, reduceCtorEq, Q15])
    refine ⟨_, hb13.cell (j := 0) rfl, ?_⟩
    repeat ((try subst X); (first | (first | apply zL | apply zH | apply zE); intro X hX | apply zl | apply zh | apply ze); try simp only [zU, reduceIte, Nat.reduceEqDiff, Nat.reduceAdd, reduceCtorEq, Q15])
    refine ⟨by omega, by omega, ?_⟩
    repeat ((try subst X); (first | (first | apply zL | apply zH | apply zE); intro X hX | apply zl | apply zh | apply ze); try simp only [zU, reduceIte, Nat.reduceEqDiff, Nat.reduceAdd, reduceCtorEq, Q15])
    simp only [Nat.zero_add]
    refine Runs.store (b := Bt) (o := r.toNat) (v := .int .i64 ((s.i + 1 : Nat) : Int)) hkt' Fx.zi3 rfl (by intro u hu; simp [Value.cells] at hu; subst hu; rfl) (by simp [ivs, tosF_length]; omega) (fun w14 hc14 hs14 hb14 => ?_)
    rw [show (Value.cells (.int .i64 ((s.i + 1 : Nat) : Int))).toList = [Value.int .i64 ((s.i + 1 : Nat) : Int)] from rfl, ivs_set _ _ _ (by rw [tosF_length]; omega)] at hb14
    repeat ((try subst X); (first | (first | apply zL | apply zH | apply zE); intro X hX | apply zl | apply zh | apply ze); try simp only [zU, reduceIte, Nat.reduceEqDiff, Nat.reduceAdd, reduceCtorEq, Q15])
    have hcA : Chg (fun k => kv.ownBlock = some k ∨ k = c7 ∨ k = Bt) W2 w14 := (he211.chg _).trans ((hc12.mono fun k _ h => .inl h).trans ((hc13.mono fun k _ h => .inr (.inl h)).trans (hc14.mono fun k _ h => .inr (.inr h))))
    have hlow : ∀ k, k < n + 2 → k ≠ c7 → k ≠ Bt → ¬ (kv.ownBlock = some k ∨ k = c7 ∨ k = Bt) := fun k hk h1 h2' h => by
      rcases h with h | h | h
      · exact hkvn k hk h
      · exact h1 h
      · exact h2' h
    refine ⟨Keep.chg hcA hsz2 (hlow n (by omega) (by omega) (by omega)) (hlow (n + 1) (by omega) (by omega) (by omega)), ⟨s.i + 1, s.own, s.snap⟩, rfl, ?_⟩
    refine ⟨?_, h2.k0.chg hcA (hlow _ (by omega) (by omega) (by omega)), h2.k1.chg hcA (hlow _ (by omega) (by omega) (by omega)), h2.k2.chg hcA (hlow _ (by omega) (by omega) (by omega)), h2.k6.chg hcA (hlow _ (by omega) (by omega) (by omega)), ?_, ⟨_, hb13.chg hc14 (by omega), ?_, ?_⟩, by simp only; omega, fun k hk => ⟨(h2.own k hk).1, Nat.lt_of_lt_of_le (h2.own k hk).2 hcA.size⟩, fun k hk => ?_⟩
    · refine h2.ext.chg_trans hcA (fun k hk => ?_)
      have h00 := hn.h7.1
      have h01 := hn.ht.1
      rcases hk with hk | hk | hk
      · have := (hown.lt k hk).1; have := h2.ext.size; omega
      · omega
      · omega
    · simp only [tosF, hr0]
      exact_mod_cast hb14
    · simp only [hptk]
      exact owns_chg' (owns_chg' hown12 hc13 (fun k hk h => by have := (hown12.lt k hk).1; omega)) hc14 (fun k hk h => by have := (hown12.lt k hk).1; omega)
    · intro k hk ho
      rcases hblk with h' | h'
      · rw [h'] at hk; exact hnk k hk ho
      · rw [h'] at hk; cases hk
        have := (h2.own _ ho).2
        omega
    · have h3 := h2.own k hk
      rw [hcA.block k h3.2 (fun h => by
        rcases h with h | h | h
        · exact hnk k h hk
        · omega
        · omega)]
      exact h2.snap k hk
  · -- the iterator
    intro J' Jx' W hm hJ h0 hy
    rw [hN] at hy ⊢
    refine Rets.mono (reached1_ok (J' := J') (Jx' := Jx') W (n + 1) w6.heap.size (w6.heap.size + 1) hb rb vs ps gs H (.slice A roots.length c) roots hl hW hrall hrl (fun s W hj => hJHF s W (hJ s W hj).1) hm h0 ?_) ?_
    · intro s W r hr hj
      have hlt : s.i < (collQ H roots).length := (List.getElem?_eq_some_iff.1 hr).1
      have hg : (collQ H roots).getD s.i 0 = r := by rw [List.getD_eq_getElem?_getD]; rw [show (collQ H roots)[s.i]? = some r from hr]; rfl
      have := hy s W hlt hj
      rw [hg] at this
      obtain ⟨fn, tmps, assign, body, h1, h2⟩ := this
      refine ⟨fn, tmps, assign, body, h1, RoundIn.mono h2 ?_⟩
      rintro e W' ⟨b, rfl, hb⟩
      refine ⟨b, rfl, ?_⟩
      rcases hb with ⟨rfl, s', rfl, hj'⟩ | hb
      · exact .inl ⟨rfl, hj'⟩
      · exact .inr hb
    · rintro v W' (⟨s, h1, h2⟩ | h)
      · exact .inl ⟨s, h1, h2⟩
      · exact .inr h
  · -- behind the range
    rintro s W hfin h hd
    rw [hN] at hd ⊢
    try simp only [zW, zU, reduceIte, Nat.reduceEqDiff, Nat.reduceAdd, reduceCtorEq, Q15]
    refine hM0 _ _ _ ?_; clear hM0 M0
    obtain ⟨kv, hkv, hown, -⟩ := h.kk
    rw [hfin] at hown
    rw [List.take_of_length_le (by omega)] at hown
    have hcT : tosF (H.length + 1) (collQ H roots) s.i = collT H roots := by rw [hfin]; rfl
    have hkt' := h.kt
    rw [hcT] at hkt'
    have hk6' := h.k6
    have hk0' := h.k0
    have hext := h.ext
    have hsW := hext.size
    clear h
    have hTl : (collT H roots).length = H.length + 1 := tosF_length _ _ _
    have hnW : n < W.heap.size := (Array.getElem?_eq_some_iff.1 hd).1
    generalize hm : (collQ H roots).length = m at *
    have hml : m ≤ H.length + 1 := by
      have hu := (pushF_inv (n := H.length) roots _ [] hrall (Qok.nil _))
      have hb := bfs_length hW (H.length + 1) _ _ 0 hu.1
      have hu2 := hu.2.2
      rw [unseen_rep] at hu2
      simp only [List.length_nil] at hu2
      have : (collQ H roots).length ≤ H.length + 1 := by unfold collQ bfsQ; omega
      omega
    have hps2 : ptrs = ((collQ H roots).map fun r => ps.getD (r - 1).toNat 0).map ptrOf := by rw [← hptr]; simp
    have hps2n := nodup_pick hR0.ndp hQn (by rw [hR0.lenp]; exact hQr)
    have hps2l : ((collQ H roots).map fun r => ps.getD (r - 1).toNat 0).length = m := by simp [hm]
    have hps2m : ∀ p ∈ ((collQ H roots).map fun r => ps.getD (r - 1).toNat 0), p ∈ ps := by
      intro p hp
      obtain ⟨r, hr, rfl⟩ := List.mem_map.1 hp
      have := hQr r hr
      rw [List.getD_eq_getElem?_getD, List.getElem?_eq_getElem (by rw [hR0.lenp]; omega : (r - 1).toNat < ps.length)]
      exact List.getElem_mem _
    have hps2g : ∀ (j : Nat) (r : Int), (collQ H roots)[j]? = some r → ∃ (i p g : Nat) (o : Ob), objAt H r = some o ∧ H[i]? = some o ∧ ps[i]? = some p ∧ gs[i]? = some g ∧ ((collQ H roots).map fun r => ps.getD (r - 1).toNat 0)[j]? = some p := by
      intro j r hr
      have h1 := hQr r (List.mem_of_getElem? hr)
      obtain ⟨i, o, hio, hi, ho, hoo⟩ := objAt_in (H := H) (r := r) h1.1 h1.2
      obtain ⟨p, g, hp, hg, -⟩ := hR0.at_ ho
      refine ⟨i, p, g, o, hoo, ho, hp, hg, ?_⟩
      rw [List.getElem?_map, hr]
      have e : (r - 1).toNat = i := by omega
      simp only [Option.map_some]
      rw [e, List.getD_eq_getElem?_getD, hp]; rfl
    generalize hP2 : ((collQ H roots).map fun r => ps.getD (r - 1).toNat 0) = ps2 at *
    have hpsl : ∀ p ∈ ps, p < w.heap.size := fun p hp => hFoot p (.inr (.inr (.inl hp)))
    obtain ⟨kA, kc, hkvs⟩ : ∃ kA kc, kv = .slice kA m kc := by
      rcases hown.2 with ⟨h1, h2⟩ | ⟨g', cap, cur, h1, _⟩
      · exact ⟨none, 0, by rw [h1, h2]⟩
      · exact ⟨_, _, h1⟩
    have hkvS : Sli W 1 kv (ps2.map fun p => [ptrOf p]) := Sli.of_own hown (by rw [hps2]; exact flat_ptr ps2) (by simp) (by simp [hps2l]) (by omega)
    subst hkvs
    obtain ⟨kA', kc', hke, -, hkcell⟩ := hkvS
    injection hke with hke1 _ _
    subst hke1
    have hnn := hn
    obtain ⟨⟨l0, n0⟩, ⟨_, n1⟩, ⟨_, n2⟩, ⟨l6, n6⟩, ⟨lt, nt⟩, ⟨l7, n7⟩, nne⟩ := hnn
    refine ok_seq (fun M hM => ok_region rfl ?_); repeat ((try subst X); (first | (first | apply zL | apply zH | apply zE); intro X hX | apply zl | apply zh | apply ze); try simp only [zU, reduceIte, Nat.reduceEqDiff, Nat.reduceAdd, reduceCtorEq, Q15])
    refine hM _ _ _ ?_; clear hM M
    refine ok_seq (fun M0 hM0 => ?_)
    refine ok_seq (fun M hM => ok_region rfl ?_)
    repeat ((try subst X); (first | (first | apply zL | apply zH | apply zE); intro X hX | apply zl | apply zh | apply ze); try simp only [zU, reduceIte, Nat.reduceEqDiff, Nat.reduceAdd, reduceCtorEq, Q15])
    refine ⟨_, hkv.cell (j := 0) rfl, ?_⟩
    repeat ((try subst X); (first | (first | apply zL | apply zH | apply zE); intro X hX | apply zl | apply zh | apply ze); try simp only [zU, reduceIte, Nat.reduceEqDiff, Nat.reduceAdd, reduceCtorEq, Q15])
    refine hM _ _ _ ?_; clear hM M
    refine ok_block ?_
    refine ok_loop (S := Nat × List Nat) (fun s => [(1, .slice A roots.length c), (2, ptrOf b0), (6, ptrOf c6), (7, ptrOf c7), (9, .func (.func 51) #[] #[ptrOf c6]), (47, .slice kA m kc), (48, .int .i64 (m : Int)), (49, .int .i64 (s.1 : Int))])
      (fun s W' => s.1 ≤ m ∧ CL w W W' ps H (collQ H roots) (collT H roots) ps2 s.2 (moveO (collT H roots)) s.1) (fun s => m - s.1) (0, []) ?_ ?_ ?_
    · simp [sub, Env.get]
    · exact ⟨Nat.zero_le _, hext.chg _, fun _ _ _ => rfl, Nat.le_refl _, fun p hp _ => Below.block hext p (hpsl p hp), rfl, List.nodup_nil, fun t p g r h => absurd h (Nat.not_lt_zero _), fun t p g _ h => by simp at h⟩
    rintro ⟨j, gs2⟩ W' ⟨hj, hCL⟩
    simp only at hj hCL ⊢
    have hcW' : Chg (fun k => k < w.heap.size) W W' := ⟨hCL.c.os.trans hext.os.symm, hCL.c.tape.trans hext.tape.symm, hCL.c.output.trans hext.output.symm, hCL.sz, fun k hk hn => hCL.keep k (by omega) hk⟩
    have hsW' := hCL.sz
    refine ok_seq (fun M hM => ok_region rfl ?_); repeat ((try subst X); (first | (first | apply zL | apply zH | apply zE); intro X hX | apply zl | apply zh | apply ze); try simp only [zU, reduceIte, Nat.reduceEqDiff, Nat.reduceAdd, reduceCtorEq, Q15])
    refine hM _ _ _ ?_; clear hM M
    refine ok_seq (fun M1 hM1 => ?_)
    refine ok_if rfl (fun hc => ok_skip ?_) (fun hc => ok_exit ?_)
    rotate_left
    · try simp only [zW, zU, reduceIte, Nat.reduceEqDiff, Nat.reduceAdd, reduceCtorEq, Q15]
      refine hM0 _ _ _ ?_; clear hM0 M0 hM1 M1
      have hjm : j = m := by omega
      subst hjm
      have hhbW' : Blk W' hb [vs, .map (some rb)] 70 := hR0.head.chg hCL.c hR0.hbps
      have hhbl := hFoot hb (.inl rfl)
      refine ok_seq (fun M hM => ok_region rfl ?_)
      repeat ((try subst X); (first | (first | apply zL | apply zH | apply zE); intro X hX | apply zl | apply zh | apply ze); try simp only [zU, reduceIte, Nat.reduceEqDiff, Nat.reduceAdd, reduceCtorEq, Q15])
      refine ⟨_, (hk0'.chg hcW' (by omega)).cell (j := 0) rfl, ?_⟩
      repeat ((try subst X); (first | (first | apply zL | apply zH | apply zE); intro X hX | apply zl | apply zh | apply ze); try simp only [zU, reduceIte, Nat.reduceEqDiff, Nat.reduceAdd, reduceCtorEq, Q15])
      refine ⟨_, (hkv.chg hcW' (by omega)).cell (j := 0) rfl, ?_⟩
      repeat ((try subst X); (first | (first | apply zL | apply zH | apply zE); intro X hX | apply zl | apply zh | apply ze); try simp only [zU, reduceIte, Nat.reduceEqDiff, Nat.reduceAdd, reduceCtorEq, Q15])
      refine Runs.store hhbW' Fx.zi67 rfl (by intro u hu; simp [Value.cells] at hu; subst hu; rfl) (by simp) (fun w3 hc3 hs3 hb3 => ?_)
      simp only [splice, Value.cells, List.take_zero, List.nil_append, List.singleton_append, List.length_singleton, Nat.zero_add, List.drop_succ_cons, List.drop_zero] at hb3
      have hcF3 : Chg F w w3 := (hCL.c.mono fun k _ hk => (hf k (.inr (.inr (.inl hk)))).1).trans (hc3.mono fun k _ hk => by rw [hk]; exact (hf hb (.inl rfl)).1)
      have hk63 : Blk w3 c6 _ 33 := (hk6'.chg hcW' (by omega)).chg hc3 (by omega)
      have hkt3 : Blk w3 Bt _ 3 := (hkt'.chg hcW' (by omega)).chg hc3 (by omega)
      repeat ((try subst X); (first | (first | apply zL | apply zH | apply zE); intro X hX | apply zl | apply zh | apply ze); try simp only [zU, reduceIte, Nat.reduceEqDiff, Nat.reduceAdd, reduceCtorEq, Q15])
      refine hM _ _ _ ?_; clear hM M
      refine ok_seq (fun M hM => ok_region rfl ?_)
      repeat ((try subst X); (first | (first | apply zL | apply zH | apply zE); intro X hX | apply zl | apply zh | apply ze); try simp only [zU, reduceIte, Nat.reduceEqDiff, Nat.reduceAdd, reduceCtorEq, Q15])
      refine Inv.clos (cap := [ptrOf c6]) Fx.en51 (moved_ok w3 (.slice A roots.length c) roots c6 Bt (collT H roots) (by rw [hTl]; exact hk63.cell (j := 0) rfl) hkt3 (hrsT w3 hcF3) hrl (fun x hx => by have := hrall x hx; rw [hTl]; omega) (by rw [hTl]; omega)) ?_
      rintro v w4 ⟨⟨A4, c4, rfl⟩, -, ⟨g4, hWL4, hg4⟩, he4⟩
      repeat ((try subst X); (first | (first | apply zL | apply zH | apply zE); intro X hX | apply zl | apply zh | apply ze); try simp only [zU, reduceIte, Nat.reduceEqDiff, Nat.reduceAdd, reduceCtorEq, Q15])
      refine hM _ _ _ ?_; clear hM M
      have hd4 : w4.heap[n]? = some (.deferred (some [])) := by
        rw [Below.block he4 n (by omega), hc3.block n (by omega) (by omega), hcW'.block n hnW (by omega)]
        exact hd
      have hnw4 := (Array.getElem?_eq_some_iff.1 hd4).1
      have hc5 : Chg (· = n) w4 (w4.putObj n (.deferred none)) := ⟨rfl, rfl, rfl, by simp, fun k hk hne => World.putObj_heap_other (fun e => hne e)⟩
      refine ok_ret ?_
      refine .inr ⟨_, rfl, hd4, ?_⟩
      generalize w4.putObj n (.deferred none) = w5 at hc5
      try simp only [zW, zU, reduceIte, Nat.reduceEqDiff, Nat.reduceAdd, reduceCtorEq, Q15]
      have hs5 := hc5.size
      have hs4 := he4.size
      refine ⟨A4, c4, rfl, ?_⟩
      have hcW5 : Chg (fun k => k < w.heap.size ∨ k = n) W w5 := (hcW'.mono fun k _ h => .inl h).trans ((hc3.mono fun k _ h => .inl (by omega)).trans ((he4.chg _).trans (hc5.mono fun k _ h => .inr h)))
      have hc35 : Chg (fun k => k = n) w3 w5 := (he4.chg _).trans hc5
      have hcw5 : Chg (fun k => k ∈ ps ∨ k = hb ∨ k = n) w w5 := (hCL.c.mono fun k _ h => .inl h).trans ((hc3.mono fun k _ h => .inr (.inl h)).trans (hc35.mono fun k _ h => .inr (.inr h)))
      have hkvl : ∀ k, (Value.slice kA j kc).ownBlock = some k → n + 2 ≤ k ∧ k < W.heap.size := fun k hk => hown.lt k hk
      have hgs : ∀ g ∈ gs2, (g ∈ ps ∨ W.heap.size ≤ g) ∧ g < W'.heap.size := by
        intro g hg
        obtain ⟨t, ht⟩ := List.mem_iff_getElem?.1 hg
        have htl := (List.getElem?_eq_some_iff.1 ht).1
        have hlen2 := hCL.len
        have hpt : ps2[t]? = some (ps2[t]'(by omega)) := List.getElem?_eq_getElem _
        have := hCL.gs t _ g hpt ht
        refine ⟨?_, this.2⟩
        rcases this.1 with h1 | h1
        · exact .inl (h1 ▸ hps2m _ (List.getElem_mem _))
        · exact .inr h1
      refine ⟨?_, Foot hb (.slice kA j kc) ps2 gs2, ⟨.slice kA j kc, ps2, gs2, ⟨hb3.chg hc35 (by omega), hR0.rules.chg hcw5 ?_, ?_, ?_, ?_, hps2n, hCL.nd, ?_, ?_⟩, fun k hk => ⟨hk, ?_⟩, ?_⟩, fun k hk => ?_, g4, ?_, fun hne => ?_⟩
      · exact (hcF3.trans (he4.chg F)).trans_new hc5 (fun k hk => by omega)
      · rintro (h | h | h)
        · exact hrb (hf rb (.inr (.inr (.inl h)))).1
        · exact hrb (h ▸ (hf hb (.inl rfl)).1)
        · omega
      · have h1 := own_zero (owns_chg' hown hcW5 (fun k hk h => by have := hkvl k hk; omega))
        rw [hps2] at h1
        have hlc : (collH H roots).length = j := by unfold collH; simp [hm]
        rw [hlc]
        exact h1
      · unfold collH; simp [hm, hps2l]
      · unfold collH; simp [hm, hCL.len]
      · refine ⟨⟨fun h => hR0.hbps (hps2m _ h), fun h => ?_⟩, fun k hk => ⟨?_, fun h => ?_, fun h => ?_⟩⟩
        · rcases (hgs hb h).1 with h1 | h1
          · exact hR0.hbps h1
          · omega
        · have := hkvl k hk; omega
        · have := hkvl k hk; have := hpsl k (hps2m k h); omega
        · have := hkvl k hk
          rcases (hgs k h).1 with h1 | h1
          · have := hpsl k h1; omega
          · omega
      · intro t p g o hp hg ho
        unfold collH at ho
        rw [List.getElem?_map] at ho
        obtain ⟨r, hr, rfl⟩ := Option.map_eq_some_iff.1 ho
        have htl : t < j := by have := (List.getElem?_eq_some_iff.1 hp).1; omega
        have hob := hCL.done t p g r htl hp hg hr
        have hpl2 := hpsl p (hps2m p (List.mem_of_getElem? hp))
        have hgg := hgs g (List.mem_of_getElem? hg)
        have hpb : ¬ p = hb := fun e => hR0.hbps (e ▸ hps2m p (List.mem_of_getElem? hp))
        have hgb : ¬ g = hb := fun e => by
          rcases hgg.1 with h1 | h1
          · exact hR0.hbps (e ▸ h1)
          · omega
        have hgn : ¬ g = n := fun e => by
          rcases hgg.1 with h1 | h1
          · have := hpsl g h1; omega
          · omega
        exact (hob.chg hc3 hpb hgb).chg hc35 (by omega) hgn
      · rcases hk with rfl | hk | hk | hk
        · omega
        · have := hkvl k hk; omega
        · have := hpsl k (hps2m k hk); omega
        · have := (hgs k hk).2; omega
      · rintro (h | h | h | h)
        · exact hrb (h ▸ (hf hb (.inl rfl)).1)
        · have := hkvl rb h; omega
        · exact hrb (hf rb (.inr (.inr (.inl (hps2m rb h))))).1
        · rcases (hgs rb h).1 with h1 | h1
          · exact hrb (hf rb (.inr (.inr (.inl h1)))).1
          · omega
      · rcases hk with rfl | hk | hk | hk
        · exact .inl (hf _ (.inl rfl)).1
        · have := hkvl k hk; exact .inr (by omega)
        · exact .inl (hf _ (.inr (.inr (.inl (hps2m k hk))))).1
        · have h2 := (hgs k hk).2
          rcases (hgs k hk).1 with h1 | h1
          · exact .inl (hf _ (.inr (.inr (.inl h1)))).1
          · exact .inr (by omega)
      · by_cases hre : roots = []
        · subst hre
          exact ⟨A4, c4, rfl, by simp, by simp, fun h => absurd rfl h⟩
        · have := hg4 hre
          exact hWL4.chg hc5 (by omega)
      · have hg4' := hg4 (fun e => hne (by rw [e]; rfl))
        refine ⟨by omega, fun hft => ?_⟩
        rcases hft with h | h | h | h
        · omega
        · have := hkvl g4 h; omega
        · have := hpsl g4 (hps2m g4 h); omega
        · have := (hgs g4 h).2; omega
    · try simp only [zW, zU, reduceIte, Nat.reduceEqDiff, Nat.reduceAdd, reduceCtorEq, Q15]
      refine hM1 _ _ _ ?_; clear hM1 M1
      have hjl : j < m := by omega
      have hQj : (collQ H roots)[j]? = some ((collQ H roots)[j]'(by omega)) := List.getElem?_eq_getElem _
      generalize (collQ H roots)[j]'(by omega) = r at hQj
      obtain ⟨i, p, g, o, hoo, ho, hp, hg, hp2⟩ := hps2g j r hQj
      have hpm : p ∈ ps := List.mem_of_getElem? hp
      have hpl2 := hpsl p hpm
      have hpn : p ∉ ps2.take j := by
        intro hm2
        obtain ⟨t, ht⟩ := List.mem_iff_getElem?.1 hm2
        have htj : t < j := by have := (List.getElem?_eq_some_iff.1 ht).1; simp at this; omega
        rw [List.getElem?_take, if_pos htj] at ht
        have h1 := (List.getElem?_eq_some_iff.1 ht)
        have h2 := (List.getElem?_eq_some_iff.1 hp2)
        have := (List.getElem_inj hps2n).1 (h1.2.trans h2.2.symm)
        omega
      have hraw := hCL.raw p hpm hpn
      have hob := hR0.obj i p g o hp hg ho
      obtain ⟨A2, c2, hlc, hll, hls⟩ := hob.listS
      have hlcW : W'.cell? ⟨p, 0, none⟩ = some (.slice A2 o.list.length c2) := (World.cell?_of_block hraw).trans hlc
      have hslW := hls W' _ hCL.c (fun hne _ => hR0.gnp hp hg ho hne)
      obtain ⟨kb, ko, rfl, hkc⟩ := hkcell j [ptrOf p] (by rw [List.getElem?_map, hp2]; rfl)
      have hkbl := hown.lt kb rfl
      have hkcW := hcW'.cellsAt hkc (by simp only; omega) 0 _ rfl
      refine ok_seq (fun M1 hM1 => ok_block ?_)
      refine ok_seq (fun M hM => ok_region rfl ?_)
      repeat ((try subst X); (first | (first | apply zL | apply zH | apply zE); intro X hX | apply zl | apply zh | apply ze); try simp only [zU, reduceIte, Nat.reduceEqDiff, Nat.reduceAdd, reduceCtorEq, Q15])
      refine ⟨by omega, by omega, ?_⟩
      repeat ((try subst X); (first | (first | apply zL | apply zH | apply zE); intro X hX | apply zl | apply zh | apply ze); try simp only [zU, reduceIte, Nat.reduceEqDiff, Nat.reduceAdd, reduceCtorEq, Q15])
      refine ⟨_, by simpa [add_at] using hkcW, ?_⟩
      repeat ((try subst X); (first | (first | apply zL | apply zH | apply zE); intro X hX | apply zl | apply zh | apply ze); try simp only [zU, reduceIte, Nat.reduceEqDiff, Nat.reduceAdd, reduceCtorEq, Q15])
      refine hM _ _ _ ?_; clear hM M
      refine ok_region rfl ?_
      repeat ((try subst X); (first | (first | apply zL | apply zH | apply zE); intro X hX | apply zl | apply zh | apply ze); try simp only [zU, reduceIte, Nat.reduceEqDiff, Nat.reduceAdd, reduceCtorEq, Q15])
      refine ⟨_, hlcW, ?_⟩
      repeat ((try subst X); (first | (first | apply zL | apply zH | apply zE); intro X hX | apply zl | apply zh | apply ze); try simp only [zU, reduceIte, Nat.reduceEqDiff, Nat.reduceAdd, reduceCtorEq, Q15])
      have hoW : ∀ x ∈ o.list, 0 ≤ x.r ∧ x.r ≤ (H.length : Int) := hW o (List.mem_of_getElem? ho)
      refine Inv.clos (cap := [ptrOf c6]) Fx.en51 (moved_ok W' (.slice A2 o.list.length c2) o.list c6 Bt (collT H roots) (by rw [hTl]; exact (hk6'.chg hcW' (by omega)).cell (j := 0) rfl) (hkt'.chg hcW' (by omega)) hslW hll (fun x hx => by have := hoW x hx; rw [hTl]; omega) (by rw [hTl]; omega)) ?_
      rintro v w2 ⟨⟨A3, c3, rfl⟩, hnil, ⟨g3, hWL3, hg3⟩, he2⟩
      have hs2 := he2.size
      repeat ((try subst X); (first | (first | apply zL | apply zH | apply zE); intro X hX | apply zl | apply zh | apply ze); try simp only [zU, reduceIte, Nat.reduceEqDiff, Nat.reduceAdd, reduceCtorEq, Q15])
      -- the object's block, as it was
      obtain ⟨x1, x2, x3, hbp⟩ : ∃ x1 x2 x3, Blk W' p [.slice A2 o.list.length c2, x1, x2, x3] 108 ∧ x1.oneCell' = true ∧
          ∀ (w4 : World) (g4 : Nat), Blk w4 p [.slice A3 o.list.length c3, x1, x2, x3] 108 → (o.list ≠ [] → WL w4 g4 (.slice A3 o.list.length c3) (o.list.map (mvW (collT H roots)))) → ObW w4 p g4 (moveO (collT H roots) (some o)) := by
        cases o with
        | text t =>
          refine ⟨.string t, .bool true, .int .i64 0, ?_, rfl, fun w4 g4 h4 _ => ?_⟩
          · have h5 : w.cell? ⟨p, 0, none⟩ = some (.slice none 0 0) := Blk.cell hob rfl
            rw [h5] at hlc
            rw [← Option.some.inj hlc]
            exact hraw.trans hob
          · have h6 := hnil rfl
            rw [h6] at h4
            exact h4
        | words st l =>
          obtain ⟨lv, h1, h2⟩ := hob
          refine ⟨.string ⟨#[]⟩, .bool false, .int .i64 st, ?_, rfl, fun w4 g4 h4 h5 => ⟨_, h4, ?_⟩⟩
          · have h5 : w.cell? ⟨p, 0, none⟩ = some lv := h1.cell rfl
            rw [h5] at hlc
            rw [← Option.some.inj hlc]
            exact hraw.trans h1
          · by_cases hl0 : l = []
            · subst hl0
              obtain ⟨A5, c5, h7, h8, h9, -⟩ := hWL3
              exact ⟨A5, c5, h7, h8, h9, fun h => absurd rfl h⟩
            · exact h5 hl0
      obtain ⟨hbp, hx1, hmk⟩ := hbp
      refine Runs.store (hbp.ext he2) Fx.zi29 rfl (by intro u hu; simp [Value.cells] at hu; subst hu; rfl) (by simp) (fun w3 hc3 hs3 hb3 => ?_)
      simp only [splice, Value.cells, List.take_zero, List.nil_append, List.singleton_append, List.length_singleton, Nat.zero_add, List.drop_succ_cons, List.drop_zero] at hb3
      repeat ((try subst X); (first | (first | apply zL | apply zH | apply zE); intro X hX | apply zl | apply zh | apply ze); try simp only [zU, reduceIte, Nat.reduceEqDiff, Nat.reduceAdd, reduceCtorEq, Q15])
      refine hM1 _ _ _ ?_; clear hM1 M1
      refine ok_region rfl ?_
      repeat ((try subst X); (first | (first | apply zL | apply zH | apply zE); intro X hX | apply zl | apply zh | apply ze); try simp only [zU, reduceIte, Nat.reduceEqDiff, Nat.reduceAdd, reduceCtorEq, Q15])
      refine ⟨by simp only [inI]; omega, ?_⟩
      repeat ((try subst X); (first | (first | apply zL | apply zH | apply zE); intro X hX | apply zl | apply zh | apply ze); try simp only [zU, reduceIte, Nat.reduceEqDiff, Nat.reduceAdd, reduceCtorEq, Q15])
      have hc23 : Chg (· = p) W' w3 := (he2.chg _).trans hc3
      have hs3' := hc23.size
      have hptk : ps2.take (j + 1) = ps2.take j ++ [p] := by
        have hjl2 : j < ps2.length := by omega
        rw [List.take_succ_eq_append_getElem hjl2]
        rw [List.getElem?_eq_getElem hjl2] at hp2
        rw [Option.some.inj hp2]
      obtain ⟨gn, hgn1, hgn2, hgn3⟩ : ∃ gn, (o.list ≠ [] → WL w3 gn (.slice A3 o.list.length c3) (o.list.map (mvW (collT H roots)))) ∧ (gn = p ∨ W'.heap.size ≤ gn) ∧ gn < w3.heap.size := by
        by_cases hl0 : o.list = []
        · exact ⟨p, fun h => absurd hl0 h, .inl rfl, by omega⟩
        · have h1 := hg3 hl0
          obtain ⟨A5, c5, h7, h8, h9, h10⟩ := id hWL3
          obtain ⟨-, cs5, h11, -⟩ := h10 (by simpa using hl0)
          have := h11.lt
          exact ⟨g3, fun _ => hWL3.chg hc3 (by omega), .inr h1, by omega⟩
      have hl2 := hCL.len
      refine ⟨(j + 1, gs2 ++ [gn]), by simp [sub, Env.get], ⟨by omega, hCL.c.trans (hc23.mono fun k _ h => by rw [h]; exact hpm), fun k h1 h2 => ?_, by omega, fun p' h1 h2 => ?_, by simp [hl2], ?_, fun t p' g' r' h1 h2 h3 h4 => ?_, fun t p' g' h2 h3 => ?_⟩, by omega⟩
      · rw [hc23.block k (by omega) (by omega)]; exact hCL.keep k h1 h2
      · rw [hptk] at h2
        simp only [List.mem_append, List.mem_singleton, not_or] at h2
        have := hpsl p' h1
        rw [hc23.block p' (by omega) h2.2]; exact hCL.raw p' h1 h2.1
      · refine List.nodup_append.2 ⟨hCL.nd, List.pairwise_singleton _ _, fun a ha b hb2 e => ?_⟩
        simp at hb2; subst hb2; subst e
        obtain ⟨t, ht⟩ := List.mem_iff_getElem?.1 ha
        have htl := (List.getElem?_eq_some_iff.1 ht).1
        have hpt : ps2[t]? = some (ps2[t]'(by omega)) := List.getElem?_eq_getElem _
        have h5 := hCL.gs t _ a hpt ht
        rcases hgn2 with h6 | h6
        · rcases h5.1 with h7 | h7
          · have h8 := (List.getElem?_eq_some_iff.1 hp2)
            have := (List.getElem_inj hps2n).1 (h7.symm.trans (h6.trans h8.2.symm))
            omega
          · omega
        · omega
      · rcases Nat.lt_or_ge t j with htj | htj
        · rw [List.getElem?_append_left (by omega)] at h3
          have h5 := hCL.done t p' g' r' htj h2 h3 h4
          have h6 := hCL.gs t p' g' h2 h3
          have hpp : p' ≠ p := fun e => hpn (by
            rw [← e]
            exact List.mem_of_getElem? (i := t) (by rw [List.getElem?_take, if_pos htj]; exact h2))
          exact h5.chg hc23 hpp (fun e => by
            rcases h6.1 with h7 | h7
            · exact hpp (h7 ▸ e)
            · omega)
        · have htj2 : t = j := by omega
          subst htj2
          rw [hp2] at h2; cases h2
          rw [hQj] at h4; cases h4
          rw [List.getElem?_append_right (by omega)] at h3
          simp [hl2] at h3; subst h3
          rw [hoo]
          exact hmk w3 gn hb3 hgn1
      · rcases Nat.lt_or_ge t j with htj | htj
        · rw [List.getElem?_append_left (by omega)] at h3
          have h6 := hCL.gs t p' g' h2 h3
          exact ⟨h6.1, by omega⟩
        · have htl := (List.getElem?_eq_some_iff.1 h3).1
          simp [hl2] at htl
          have htj2 : t = j := by omega
          subst htj2
          rw [hp2] at h2; cases h2
          rw [List.getElem?_append_right (by omega)] at h3
          simp [hl2] at h3; subst h3
          refine ⟨?_, hgn3⟩
          rcases hgn2 with h6 | h6
          · exact .inl h6
          · exact .inr (by omega)
end Go.Proofs.YtldeokfhipjbfaaGreatDoor
/- Set, Args, num.  -/
set_option linter.unusedVariables false
set_option linter.unusedSimpArgs false
namespace Go.Proofs.Vg
open Go Go.RowKit
theorem flat_set (y : Wd) : ∀ (l : List Wd) (i : Nat) (rest : List Value), i < l.length → splice ((l.map Wd.row).flatten ++ rest) (i * 3) y.row = ((l.set i y).map Wd.row).flatten ++ rest := by
  intro l
  induction l with
  | nil => intro i rest h; simp at h
  | cons x xs ih =>
    intro i rest h
    cases i with
    | zero => simp [splice, Wd.row]
    | succ i =>
      have := ih i rest (by simpa using h)
      simp only [List.map_cons, List.flatten_cons, List.set_cons_succ, List.append_assoc]
      rw [← this]
      have e2 : x.row = [.int .i64 x.k, .int .i64 x.n, .int .i64 x.r] := rfl
      have e3 : (i + 1) * 3 = i * 3 + 1 + 1 + 1 := by omega
      have e4 : i * 3 + 1 + 1 + 1 + y.row.length = (i * 3 + y.row.length) + 1 + 1 + 1 := by omega
      simp only [splice]
      rw [e3, e4, e2]
      simp only [List.cons_append, List.nil_append, List.take_succ_cons, List.drop_succ_cons]
def setE (H : List Ob) (x : Wd) (i : Int) (y : Wd) : Int :=
  if rightW H x = true ∧ rightW H y = true ∧ y.k ≠ 0 ∧ y.k ≠ 9 then if x.k = 7 then if 0 ≤ i ∧ i < ((argsOf H x).length : Int) then 0 else 24 else 3 else 2
def setH (H : List Ob) (x : Wd) (i : Int) (y : Wd) : List Ob := if setE H x i y = 0 then H.set (x.r - 1).toNat (.words 7 ((argsOf H x).set i.toNat y)) else H
theorem right7 {H : List Ob} {x : Wd} (h : rightW H x = true) (h7 : x.k = 7) : ∃ l, objAt H x.r = some (.words 7 l) := by
  unfold rightW at h
  rw [h7] at h
  simp at h
  have h2 := h.2
  cases ho : objAt H x.r with
  | none => rw [ho] at h2; simp [isArrO] at h2
  | some o =>
    rw [ho] at h2
    cases o with
    | text s => simp [isArrO] at h2
    | words s l => simp [isArrO] at h2; subst h2; exact ⟨l, rfl⟩
end Go.Proofs.Vg
namespace Go.Proofs.YtldeokfhipjbfaaGreatDoor
open Go Go.Proofs.Vg Go.RowKit

-- -- function 20
set_option maxHeartbeats 2000000 in
set_option maxRecDepth 8000 in
theorem num_ok (w : World) (n : Int) : Rets Tryz.prog 20 [.int .i64 n] w (fun v w' => v = .agg #[.int .i64 1, .int .i64 n, .string ⟨#[]⟩, .slice none 0 0] ∧ Ext w w') := by
  refine rets_of_okC Tryz.func20 rfl rfl ?_
  refine ok_seq (fun M hM => ok_region rfl ?_)
  repeat ((try subst X); (first | (first | apply zL | apply zH | apply zE); intro X hX | apply zl | apply zh | apply ze); try simp only [zU, reduceIte, Nat.reduceEqDiff, Nat.reduceAdd, reduceCtorEq, Q20])
  refine Runs.alloc Fx.zi36 (fun w1 he1 hs1 hb1 => ?_)
  simp only [Value.cells] at hb1
  generalize hB : w.heap.size = B at hs1 hb1
  repeat ((try subst X); (first | (first | apply zL | apply zH | apply zE); intro X hX | apply zl | apply zh | apply ze); try simp only [zU, reduceIte, Nat.reduceEqDiff, Nat.reduceAdd, reduceCtorEq, Q20])
  refine hM _ _ _ ?_; clear hM M
  refine ok_seq (fun M hM => ok_region rfl ?_)
  repeat ((try subst X); (first | (first | apply zL | apply zH | apply zE); intro X hX | apply zl | apply zh | apply ze); try simp only [zU, reduceIte, Nat.reduceEqDiff, Nat.reduceAdd, reduceCtorEq, Q20])
  refine ⟨_, w1, run_build (P := Tryz.prog) w1 36 _ #[.int .i64 1, .int .i64 n, .string ⟨#[]⟩, .slice none 0 0] (by kernel_rfl), ?_⟩
  repeat ((try subst X); (first | (first | apply zL | apply zH | apply zE); intro X hX | apply zl | apply zh | apply ze); try simp only [zU, reduceIte, Nat.reduceEqDiff, Nat.reduceAdd, reduceCtorEq, Q20])
  refine Runs.store hb1 Fx.zi36 rfl (by intro u hu; simp [Value.cells] at hu; rcases hu with rfl | rfl | rfl | rfl <;> rfl) (by simp) (fun w2 hc2 hs2 hb2 => ?_)
  rw [splice_all _ _ (by simp [Value.cells])] at hb2
  simp only [Value.cells] at hb2
  repeat ((try subst X); (first | (first | apply zL | apply zH | apply zE); intro X hX | apply zl | apply zh | apply ze); try simp only [zU, reduceIte, Nat.reduceEqDiff, Nat.reduceAdd, reduceCtorEq, Q20])
  refine hM _ _ _ ?_; clear hM M
  refine ok_ret ?_
  try simp only [zW, zU, reduceIte, Nat.reduceEqDiff, Nat.reduceAdd, reduceCtorEq, Q20]
  exact ⟨[.int .i64 1, .int .i64 n, .string ⟨#[]⟩, .slice none 0 0], rfl, hb2.cells (o := 0) (fun j u hj => by simpa using hj), rfl, he1.chg_trans hc2 (fun k hk => by omega)⟩

-- -- function 22
set_option maxHeartbeats 4000000 in
set_option maxRecDepth 8000 in
theorem Set_ok (w : World) (hb rb : Nat) (H : List Ob) (F : Nat → Prop) (hH : HeapW w hb rb H F) (hl : H.length ≤ 1048576) (x : Wd) (i : Int) (y : Wd) :
    Rets Tryz.prog 22 [ptrOf hb, wv x, .int .i64 i, wv y] w (fun v w' => v = .int .i64 (setE H x i y) ∧ Grown w w' hb rb (setH H x i y) F) := by
  have keep : ∀ (w' : World) (e : Int), setE H x i y = e → e ≠ 0 → Ext w w' → .int .i64 e = Value.int .i64 (setE H x i y) ∧ Grown w w' hb rb (setH H x i y) F := by
    intro w' e he hne h
    have : setH H x i y = H := by unfold setH; rw [if_neg (by rw [he]; exact hne)]
    rw [this, he]
    exact ⟨rfl, Grown.ext hH h⟩
  refine rets_of_ok Tryz.func22 rfl rfl ?_
  refine ok_seq (fun M hM => ok_region rfl ?_)
  repeat ((try subst X); (first | (first | apply zL | apply zH | apply zE); intro X hX | apply zl | apply zh | apply ze); try simp only [zU, reduceIte, Nat.reduceEqDiff, Nat.reduceAdd, reduceCtorEq, Q22])
  refine Runs.box (fun w1 he1 hz1 hb1 => ?_)
  generalize hB1 : w.heap.size = B1 at hz1 hb1
  simp only [Value.cells] at hb1
  repeat ((try subst X); (first | (first | apply zL | apply zH | apply zE); intro X hX | apply zl | apply zh | apply ze); try simp only [zU, reduceIte, Nat.reduceEqDiff, Nat.reduceAdd, reduceCtorEq, Q22])
  refine Runs.box (fun w2 he2 hz2 hb2 => ?_)
  generalize hB2 : w1.heap.size = B2 at hz2 hb2
  simp only [Value.cells] at hb2
  have hb12 := hb1.ext he2
  have he02 := he1.trans he2
  repeat ((try subst X); (first | (first | apply zL | apply zH | apply zE); intro X hX | apply zl | apply zh | apply ze); try simp only [zU, reduceIte, Nat.reduceEqDiff, Nat.reduceAdd, reduceCtorEq, Q22])
  refine hM _ _ _ ?_; clear hM M
  refine ok_join [(0, ptrOf hb), (2, .int .i64 i), (5, ptrOf B1), (7, ptrOf B2)] (fun w' => Ext w2 w' ∧ rightW H x = true ∧ (rightW H y = true ∧ y.k ≠ 0 ∧ y.k ≠ 9) ∧ x.k = 7) ?_ ?_
  · refine ok_block ?_
    refine ok_seq (fun M hM => ok_region rfl ?_)
    repeat ((try subst X); (first | (first | apply zL | apply zH | apply zE); intro X hX | apply zl | apply zh | apply ze); try simp only [zU, reduceIte, Nat.reduceEqDiff, Nat.reduceAdd, reduceCtorEq, Q22])
    refine Runs.ptrEq Fx.un25 ?_
    repeat ((try subst X); (first | (first | apply zL | apply zH | apply zE); intro X hX | apply zl | apply zh | apply ze); try simp only [zU, reduceIte, Nat.reduceEqDiff, Nat.reduceAdd, reduceCtorEq, Q22])
    refine hM _ _ _ ?_; clear hM M
    refine ok_cond rfl (fun h => by cases h) (fun _ => ?_)
    refine ok_join [(0, ptrOf hb), (2, .int .i64 i), (5, ptrOf B1), (7, ptrOf B2), (13, .bool (!decide (rightW H x = true ∧ rightW H y = true ∧ y.k ≠ 0 ∧ y.k ≠ 9)))] (fun w' => Ext w2 w') ?_ ?_
    · refine ok_region rfl ?_
      repeat ((try subst X); (first | (first | apply zL | apply zH | apply zE); intro X hX | apply zl | apply zh | apply ze); try simp only [zU, reduceIte, Nat.reduceEqDiff, Nat.reduceAdd, reduceCtorEq, Q22])
      refine ⟨x.row, rfl, hb12.cells (o := 0) (fun j u hj => by simpa using hj), ?_⟩
      repeat ((try subst X); (first | (first | apply zL | apply zH | apply zE); intro X hX | apply zl | apply zh | apply ze); try simp only [zU, reduceIte, Nat.reduceEqDiff, Nat.reduceAdd, reduceCtorEq, Q22])
      refine Inv.call Fx.en12 (right_ok w2 hb rb H F (hH.ext he02) (by omega) x) ?_
      rintro v w3 ⟨rfl, he3⟩
      repeat ((try subst X); (first | (first | apply zL | apply zH | apply zE); intro X hX | apply zl | apply zh | apply ze); try simp only [zU, reduceIte, Nat.reduceEqDiff, Nat.reduceAdd, reduceCtorEq, Q22])
      refine ⟨fun h => ?_, fun h => ?_⟩
      rotate_left
      · have hr : rightW H x = false := by simpa using h
        repeat ((try subst X); (first | (first | apply zL | apply zH | apply zE); intro X hX | apply zl | apply zh | apply ze); try simp only [zU, reduceIte, Nat.reduceEqDiff, Nat.reduceAdd, reduceCtorEq, Q22])
        simp [sub, Env.get, hr, he3]
      have hr : rightW H x = true := by simpa using h
      repeat ((try subst X); (first | (first | apply zL | apply zH | apply zE); intro X hX | apply zl | apply zh | apply ze); try simp only [zU, reduceIte, Nat.reduceEqDiff, Nat.reduceAdd, reduceCtorEq, Q22])
      refine ⟨y.row, rfl, (hb2.ext he3).cells (o := 0) (fun j u hj => by simpa using hj), ?_⟩
      repeat ((try subst X); (first | (first | apply zL | apply zH | apply zE); intro X hX | apply zl | apply zh | apply ze); try simp only [zU, reduceIte, Nat.reduceEqDiff, Nat.reduceAdd, reduceCtorEq, Q22])
      refine Inv.call Fx.en12 (right_ok w3 hb rb H F (hH.ext (he02.trans he3)) (by omega) y) ?_
      rintro v w4 ⟨rfl, he4⟩
      have he34 := he3.trans he4
      have hk0 : w4.cell? ⟨B2, 0, none⟩ = some (.int .i64 y.k) := (hb2.ext he34).cell rfl
      repeat ((try subst X); (first | (first | apply zL | apply zH | apply zE); intro X hX | apply zl | apply zh | apply ze); try simp only [zU, reduceIte, Nat.reduceEqDiff, Nat.reduceAdd, reduceCtorEq, Q22])
      simp only [hr, Bool.not_true]
      repeat ((try subst X); (first | (first | apply zL | apply zH | apply zE); intro X hX | apply zl | apply zh | apply ze); try simp only [zU, reduceIte, Nat.reduceEqDiff, Nat.reduceAdd, reduceCtorEq, Q22])
      refine ⟨fun h => ?_, fun h => ?_⟩
      rotate_left
      · have hry : rightW H y = false := by simpa using h
        repeat ((try subst X); (first | (first | apply zL | apply zH | apply zE); intro X hX | apply zl | apply zh | apply ze); try simp only [zU, reduceIte, Nat.reduceEqDiff, Nat.reduceAdd, reduceCtorEq, Q22])
        simp [sub, Env.get, hr, hry, he34]
      have hry : rightW H y = true := by simpa using h
      repeat ((try subst X); (first | (first | apply zL | apply zH | apply zE); intro X hX | apply zl | apply zh | apply ze); try simp only [zU, reduceIte, Nat.reduceEqDiff, Nat.reduceAdd, reduceCtorEq, Q22])
      refine ⟨_, hk0, ?_⟩
      simp only [hry, Bool.not_true]
      repeat ((try subst X); (first | (first | apply zL | apply zH | apply zE); intro X hX | apply zl | apply zh | apply ze); try simp only [zU, reduceIte, Nat.reduceEqDiff, Nat.reduceAdd, reduceCtorEq, Q22])
      refine ⟨fun h => ?_, fun h => ?_⟩
      · have h0 : ¬ y.k = 0 := by simpa using h
        repeat ((try subst X); (first | (first | apply zL | apply zH | apply zE); intro X hX | apply zl | apply zh | apply ze); try simp only [zU, reduceIte, Nat.reduceEqDiff, Nat.reduceAdd, reduceCtorEq, Q22])
        refine ⟨_, hk0, ?_⟩
        simp only [h0, decide_false]
        repeat ((try subst X); (first | (first | apply zL | apply zH | apply zE); intro X hX | apply zl | apply zh | apply ze); try simp only [zU, reduceIte, Nat.reduceEqDiff, Nat.reduceAdd, reduceCtorEq, Q22])
        by_cases h9 : y.k = 9 <;> simp [sub, Env.get, hr, hry, h0, h9, he34]
      · have h0 : y.k = 0 := by simpa using h
        repeat ((try subst X); (first | (first | apply zL | apply zH | apply zE); intro X hX | apply zl | apply zh | apply ze); try simp only [zU, reduceIte, Nat.reduceEqDiff, Nat.reduceAdd, reduceCtorEq, Q22])
        simp [sub, Env.get, hr, hry, h0, he34]
    intro w3 he3
    refine ok_ifn rfl (fun hq => ?_) (fun hq => ?_)
    · refine ok_seq (fun M hM => ok_region rfl ?_); repeat ((try subst X); (first | (first | apply zL | apply zH | apply zE); intro X hX | apply zl | apply zh | apply ze); try simp only [zU, reduceIte, Nat.reduceEqDiff, Nat.reduceAdd, reduceCtorEq, Q22])
      refine hM _ _ _ ?_; clear hM M
      refine ok_ret ?_
      try simp only [zW, zU, reduceIte, Nat.reduceEqDiff, Nat.reduceAdd, reduceCtorEq, Q22]
      exact keep w3 2 (by simp only [setE]; rw [if_neg hq]) (by decide) (he02.trans he3)
    · refine ok_seq (fun M hM => ok_region rfl ?_)
      repeat ((try subst X); (first | (first | apply zL | apply zH | apply zE); intro X hX | apply zl | apply zh | apply ze); try simp only [zU, reduceIte, Nat.reduceEqDiff, Nat.reduceAdd, reduceCtorEq, Q22])
      refine ⟨_, (hb12.ext he3).cell (j := 0) (by rfl : _ = some (Value.int .i64 x.k)), ?_⟩
      repeat ((try subst X); (first | (first | apply zL | apply zH | apply zE); intro X hX | apply zl | apply zh | apply ze); try simp only [zU, reduceIte, Nat.reduceEqDiff, Nat.reduceAdd, reduceCtorEq, Q22])
      refine hM _ _ _ ?_; clear hM M
      refine ok_ifn rfl (fun h7 => ?_) (fun h7 => ok_skip ?_)
      · refine ok_seq (fun M hM => ok_region rfl ?_); repeat ((try subst X); (first | (first | apply zL | apply zH | apply zE); intro X hX | apply zl | apply zh | apply ze); try simp only [zU, reduceIte, Nat.reduceEqDiff, Nat.reduceAdd, reduceCtorEq, Q22])
        refine hM _ _ _ ?_; clear hM M
        refine ok_ret ?_
        try simp only [zW, zU, reduceIte, Nat.reduceEqDiff, Nat.reduceAdd, reduceCtorEq, Q22]
        exact keep w3 3 (by simp only [setE]; rw [if_pos hq, if_neg h7]) (by decide) (he02.trans he3)
      · try simp only [zW, zU, reduceIte, Nat.reduceEqDiff, Nat.reduceAdd, reduceCtorEq, Q22]
        exact ⟨by simp [sub, Env.get], he3, hq.1, hq.2, h7⟩
  rintro w3 ⟨he3, hr, hry, h7⟩
  have he03 := he02.trans he3
  obtain ⟨l, hol⟩ := right7 hr h7
  have hal : argsOf H x = l := by simp [argsOf, argsO, hol]
  obtain ⟨vs, ps, gs, hR, hf, hrb⟩ := hH.ext he03
  refine ok_seq (fun M hM => ok_region rfl ?_)
  repeat ((try subst X); (first | (first | apply zL | apply zH | apply zE); intro X hX | apply zl | apply zh | apply ze); try simp only [zU, reduceIte, Nat.reduceEqDiff, Nat.reduceAdd, reduceCtorEq, Q22])
  refine ⟨_, (hb12.ext he3).cell (j := 2) (by rfl : _ = some (Value.int .i64 x.r)), ?_⟩
  repeat ((try subst X); (first | (first | apply zL | apply zH | apply zE); intro X hX | apply zl | apply zh | apply ze); try simp only [zU, reduceIte, Nat.reduceEqDiff, Nat.reduceAdd, reduceCtorEq, Q22])
  refine Inv.call Fx.en57 (object_ok w3 hb rb vs ps gs H hR (by omega) x.r) ?_
  rintro v w4 ⟨rfl, hv⟩
  rcases hv with ⟨ho, rfl⟩ | ⟨t, p, g, o, ho, hxr, hi, hp, hg, rfl⟩
  · rw [hol] at ho; cases ho
  rw [hol] at ho; cases ho
  obtain ⟨lv, hbp, hWL⟩ := hR.obj t p g _ hp hg hi
  obtain ⟨A, c, rfl, hll, hlc, hne⟩ := id hWL
  repeat ((try subst X); (first | (first | apply zL | apply zH | apply zE); intro X hX | apply zl | apply zh | apply ze); try simp only [zU, reduceIte, Nat.reduceEqDiff, Nat.reduceAdd, reduceCtorEq, Q22])
  refine ⟨_, hbp.cell (j := 0) rfl, ?_⟩
  repeat ((try subst X); (first | (first | apply zL | apply zH | apply zE); intro X hX | apply zl | apply zh | apply ze); try simp only [zU, reduceIte, Nat.reduceEqDiff, Nat.reduceAdd, reduceCtorEq, Q22])
  refine hM _ _ _ ?_; clear hM M
  refine ok_join [(2, .int .i64 i), (7, ptrOf B2), (9, .slice A l.length c)] (fun w' => w' = w4 ∧ 0 ≤ i ∧ i < (l.length : Int)) ?_ ?_
  · refine ok_join [(2, .int .i64 i), (7, ptrOf B2), (9, .slice A l.length c), (53, .bool (!decide (0 ≤ i ∧ i < (l.length : Int))))] (fun w' => w' = w4) ?_ ?_
    · refine ok_region rfl ?_
      repeat ((try subst X); (first | (first | apply zL | apply zH | apply zE); intro X hX | apply zl | apply zh | apply ze); try simp only [zU, reduceIte, Nat.reduceEqDiff, Nat.reduceAdd, reduceCtorEq, Q22])
      refine ⟨fun h => ?_, fun h => ?_⟩
      · have h0 : ¬ i < 0 := by simpa using h
        simp only [h0, decide_false]
        repeat ((try subst X); (first | (first | apply zL | apply zH | apply zE); intro X hX | apply zl | apply zh | apply ze); try simp only [zU, reduceIte, Nat.reduceEqDiff, Nat.reduceAdd, reduceCtorEq, Q22])
        have h0' : 0 ≤ i := by omega
        by_cases h1 : (l.length : Int) ≤ i
        · have h2 : ¬ i < (l.length : Int) := by omega
          simp [sub, Env.get, h0', h1, h2]
        · have h2 : i < (l.length : Int) := by omega
          simp [sub, Env.get, h0', h1, h2]
      · have h0 : i < 0 := by simpa using h
        repeat ((try subst X); (first | (first | apply zL | apply zH | apply zE); intro X hX | apply zl | apply zh | apply ze); try simp only [zU, reduceIte, Nat.reduceEqDiff, Nat.reduceAdd, reduceCtorEq, Q22])
        have h0' : ¬ 0 ≤ i := by omega
        simp [sub, Env.get, h0']
    rintro w' rfl
    refine ok_ifn rfl (fun hq => ?_) (fun hq => ok_skip ?_)
    · refine ok_seq (fun M hM => ok_region rfl ?_); repeat ((try subst X); (first | (first | apply zL | apply zH | apply zE); intro X hX | apply zl | apply zh | apply ze); try simp only [zU, reduceIte, Nat.reduceEqDiff, Nat.reduceAdd, reduceCtorEq, Q22])
      refine hM _ _ _ ?_; clear hM M
      refine ok_ret ?_
      try simp only [zW, zU, reduceIte, Nat.reduceEqDiff, Nat.reduceAdd, reduceCtorEq, Q22]
      exact keep w' 24 (by simp only [setE]; rw [if_pos ⟨hr, hry⟩, if_pos h7, hal, if_neg hq]) (by decide) he03
    · try simp only [zW, zU, reduceIte, Nat.reduceEqDiff, Nat.reduceAdd, reduceCtorEq, Q22]
      exact ⟨by simp [sub, Env.get], hq.1, hq.2⟩
  rintro w' ⟨rfl, h0, h1⟩
  have hse : setE H x i y = 0 := by simp only [setE]; rw [if_pos ⟨hr, hry⟩, if_pos h7, hal, if_pos ⟨h0, h1⟩]
  have hsh : setH H x i y = H.set t (.words 7 (l.set i.toNat y)) := by
    unfold setH; rw [if_pos hse, hal]
    have : (x.r - 1).toNat = t := by omega
    rw [this]
  rw [hse, hsh]
  have hlne : l ≠ [] := by intro e; subst e; simp at h1; omega
  obtain ⟨rfl, cs, hbg, htk⟩ := hne hlne
  have hil : i.toNat < l.length := by omega
  have hcsl : l.length * 3 ≤ cs.length := by
    have h5 : (cs.take (l.length * 3)).length = l.length * 3 := by rw [htk, flat_words]
    rw [List.length_take] at h5
    omega
  refine ok_seq (fun M hM => ok_region rfl ?_)
  repeat ((try subst X); (first | (first | apply zL | apply zH | apply zE); intro X hX | apply zl | apply zh | apply ze); try simp only [zU, reduceIte, Nat.reduceEqDiff, Nat.reduceAdd, reduceCtorEq, Q22])
  refine ⟨y.row, rfl, (hb2.ext he3).cells (o := 0) (fun j u hj => by simpa using hj), ?_⟩
  repeat ((try subst X); (first | (first | apply zL | apply zH | apply zE); intro X hX | apply zl | apply zh | apply ze); try simp only [zU, reduceIte, Nat.reduceEqDiff, Nat.reduceAdd, reduceCtorEq, Q22])
  refine ⟨by omega, by omega, ?_⟩
  repeat ((try subst X); (first | (first | apply zL | apply zH | apply zE); intro X hX | apply zl | apply zh | apply ze); try simp only [zU, reduceIte, Nat.reduceEqDiff, Nat.reduceAdd, reduceCtorEq, Q22])
  simp only [Nat.zero_add]
  refine Runs.store (b := g) (o := i.toNat * 3) (v := wv y) hbg Fx.zi38 rfl (by intro u hu; simp [Value.cells, Wd.row] at hu; rcases hu with rfl | rfl | rfl <;> rfl) (by omega) (fun w5 hc5 hs5 hb5 => ?_)
  repeat ((try subst X); (first | (first | apply zL | apply zH | apply zE); intro X hX | apply zl | apply zh | apply ze); try simp only [zU, reduceIte, Nat.reduceEqDiff, Nat.reduceAdd, reduceCtorEq, Q22])
  refine hM _ _ _ ?_; clear hM M
  refine ok_seq (fun M hM => ok_region rfl ?_); repeat ((try subst X); (first | (first | apply zL | apply zH | apply zE); intro X hX | apply zl | apply zh | apply ze); try simp only [zU, reduceIte, Nat.reduceEqDiff, Nat.reduceAdd, reduceCtorEq, Q22])
  refine hM _ _ _ ?_; clear hM M
  refine ok_ret ?_
  try simp only [zW, zU, reduceIte, Nat.reduceEqDiff, Nat.reduceAdd, reduceCtorEq, Q22]
  have hgm : g ∈ gs := List.mem_of_getElem? hg
  have hgF := hf g (.inr (.inr (.inr hgm)))
  have hgp : g ∉ ps := hR.gnp hp hg hi hlne
  have htl := (List.getElem?_eq_some_iff.1 hi).1
  have hws := he03.size
  refine ⟨?_, F, ⟨vs, ps, gs, ⟨hR.head.chg hc5 (fun e => hR.ap.1.2 (e ▸ hgm)), hR.rules.chg hc5 (fun e => hrb (e ▸ hgF.1)), ?_, by simp [hR.lenp], by simp [hR.leng], hR.ndp, hR.ndg, hR.ap, fun t' p' g' o' h2 h3 h4 => ?_⟩, fun k hk => ⟨(hf k hk).1, by have := (hf k hk).2; omega⟩, hrb⟩, fun k hk => .inl hk⟩
  · exact (he03.chg F).trans (hc5.mono fun k _ hk => by rw [hk]; exact hgF.1)
  · rw [List.length_set]
    exact owns_chg' hR.own hc5 (fun k hk e => (hR.ap.2 k hk).2.2 (e ▸ hgm))
  · by_cases htt : t' = t
    · subst htt
      rw [hp] at h2; cases h2
      rw [hg] at h3; cases h3
      rw [List.getElem?_set_self htl] at h4
      cases h4
      refine ⟨_, hbp.chg hc5 (fun e => hgp (e ▸ List.mem_of_getElem? hp)), _, c, by rw [List.length_set], by simpa using hll, by simpa using hlc, fun _ => ⟨rfl, _, hb5, ?_⟩⟩
      have hcs : cs = (l.map Wd.row).flatten ++ cs.drop (l.length * 3) := by rw [← htk]; exact (List.take_append_drop _ _).symm
      rw [hcs, show (Value.cells (wv y)).toList = y.row from rfl, flat_set y l i.toNat _ hil]
      rw [List.take_append_of_le_length (by rw [flat_words]; exact Nat.le_refl _), List.take_of_length_le (by rw [flat_words]; exact Nat.le_refl _)]
    · rw [List.getElem?_set_ne (fun e => htt e.symm)] at h4
      refine (hR.obj t' p' g' o' h2 h3 h4).chg hc5 (fun e => hgp (e ▸ List.mem_of_getElem? h2)) (fun e => ?_)
      have h5 := List.getElem?_eq_some_iff.1 h3
      have h6 := List.getElem?_eq_some_iff.1 hg
      have := (List.getElem_inj hR.ndg).1 (h5.2.trans (e.trans h6.2.symm))
      exact htt this
end Go.Proofs.YtldeokfhipjbfaaGreatDoor
/- awake: the examples of the chapter. -/
set_option linter.unusedVariables false
set_option linter.unusedSimpArgs false
namespace Go.Proofs.YtldeokfhipjbfaaGreatDoor
open Go Go.Proofs.Vg Go.RowKit

def xA : Val := .mk 4 1 ⟨#[]⟩ [.mk 1 1 ⟨#[]⟩ [], .mk 4 0 ⟨#[]⟩ []]
def obA : Ob := .words 4 [⟨1, 1, 0⟩, ⟨4, 0, 0⟩]
def wA : Wd := ⟨4, 1, 1⟩
def aA : Wd := ⟨7, 0, 2⟩
def H2A : List Ob := [obA, .words 7 [wA]]
def H3A : List Ob := [obA, .words 7 [aA]]
theorem storeA : storeS [] xA = ([obA], wA, 0) := by rfl
theorem makeA : makeE [obA] 7 0 [wA] = 0 := by rfl
theorem makeA2 : mkW [obA] 7 0 [wA] = (H2A, aA) := by rfl
theorem setA : setE H2A aA 0 aA = 0 := by rfl
theorem setA2 : setH H2A aA 0 aA = H3A := by rfl
theorem errA : errL H3A aA = 13 := by rfl
theorem collA : (collH H3A [wA]).length = 1 := by rfl
theorem anyA : [wA].any (fun x => !rightW H3A x) = false := by rfl
theorem rightA : rightW H3A aA = true := by rfl
theorem ringA : ringF H3A [aA] = true := by rfl
theorem wfA : Wf H3A := by
  intro o ho x hx
  simp [H3A, obA] at ho
  rcases ho with rfl | rfl
  · simp [Ob.list] at hx; rcases hx with rfl | rfl <;> simp [H3A]
  · simp [Ob.list] at hx; subst hx; simp [aA, H3A]
theorem limA : ∀ x, (argsOf H3A x).length ≤ 1048576 := by
  intro x
  unfold argsOf
  cases h : objAt H3A x.r with
  | none => simp [argsO]
  | some o =>
    have hm : o ∈ H3A := by
      unfold objAt at h
      split at h
      · exact List.mem_of_getElem? h
      · cases h
    simp [H3A, obA] at hm
    rcases hm with rfl | rfl <;> simp [argsO]

/-- What is known between the acts: the heap, what belongs to it, that all else grew. -/
structure AW (w0 w : World) (hb rb : Nat) (H : List Ob) (F : Nat → Prop) : Prop where
  hp : HeapW w hb rb H F
  ext : Ext w0 w
  lt : ∀ k, F k → w0.heap.size ≤ k ∧ k < w.heap.size
theorem AW.ex {w0 w w' : World} {hb rb : Nat} {H : List Ob} {F : Nat → Prop} (h : AW w0 w hb rb H F) (he : Ext w w') : AW w0 w' hb rb H F :=
  ⟨h.hp.ext he, h.ext.trans he, fun k hk => ⟨(h.lt k hk).1, Nat.lt_of_lt_of_le (h.lt k hk).2 he.size⟩⟩
theorem AW.grown {w0 w w' : World} {hb rb : Nat} {H H' : List Ob} {F : Nat → Prop} (h : AW w0 w hb rb H F) (hg : Grown w w' hb rb H' F) : ∃ F', AW w0 w' hb rb H' F' ∧ Chg F w w' ∧ ∀ k, F' k → F k ∨ (w.heap.size ≤ k ∧ k < w'.heap.size) := by
  obtain ⟨hc, F', h1, h2⟩ := hg
  have hs := h.ext.size
  have hs2 := hc.size
  refine ⟨F', ⟨h1, h.ext.chg_trans hc (fun k hk => (h.lt k hk).1), fun k hk => ?_⟩, hc, h2⟩
  rcases h2 k hk with h3 | h3
  · have := h.lt k h3; omega
  · omega

-- -- function 5
set_option maxHeartbeats 4000000 in
set_option maxRecDepth 8000 in
theorem awake_ok (w : World) (mk : Nat) (hg : Glob w mk) : Rets Tryz.prog 5 [] w (fun v w' => v = .bool true ∧ Ext w w') := by
  have hglt := hg.lt
  refine rets_of_ok Tryz.func5 rfl rfl ?_
  refine ok_seq (fun M hM => ok_region rfl ?_); repeat ((try subst X); (first | (first | apply zL | apply zH | apply zE); intro X hX | apply zl | apply zh | apply ze); try simp only [zU, reduceIte, Nat.reduceEqDiff, Nat.reduceAdd, reduceCtorEq, Q5])
  refine hM _ _ _ ?_; clear hM M
  refine ok_seq (fun M hM => ok_region rfl ?_)
  repeat ((try subst X); (first | (first | apply zL | apply zH | apply zE); intro X hX | apply zl | apply zh | apply ze); try simp only [zU, reduceIte, Nat.reduceEqDiff, Nat.reduceAdd, reduceCtorEq, Q5])
  refine Inv.call Fx.en7 (new_ok w) ?_
  rintro v w1 ⟨hb, rb, rfl, hH1, he1, hhb, hrb⟩
  have hA1 : AW w w1 hb rb [] (fun k => k = hb) := ⟨hH1, he1, fun k hk => by subst hk; obtain ⟨vs, ps, gs, h1, h2, h3⟩ := hH1; exact ⟨hhb, (h2 _ (.inl rfl)).2⟩⟩
  repeat ((try subst X); (first | (first | apply zL | apply zH | apply zE); intro X hX | apply zl | apply zh | apply ze); try simp only [zU, reduceIte, Nat.reduceEqDiff, Nat.reduceAdd, reduceCtorEq, Q5])
  refine hM _ _ _ ?_; clear hM M
  refine ok_join [(1, ptrOf hb)] (fun w' => w' = w1) ?_ ?_
  · refine ok_seq (fun M hM => ok_region rfl ?_)
    repeat ((try subst X); (first | (first | apply zL | apply zH | apply zE); intro X hX | apply zl | apply zh | apply ze); try simp only [zU, reduceIte, Nat.reduceEqDiff, Nat.reduceAdd, reduceCtorEq, Q5])
    refine Runs.ptrEq Fx.un25 ?_
    repeat ((try subst X); (first | (first | apply zL | apply zH | apply zE); intro X hX | apply zl | apply zh | apply ze); try simp only [zU, reduceIte, Nat.reduceEqDiff, Nat.reduceAdd, reduceCtorEq, Q5])
    refine hM _ _ _ ?_; clear hM M
    refine ok_cond rfl (fun h => by cases h) (fun _ => ok_skip ?_)
    try simp only [zW, zU, reduceIte, Nat.reduceEqDiff, Nat.reduceAdd, reduceCtorEq, Q5]
    simp [sub, Env.get]
  rintro w' rfl
  refine ok_seq (fun M hM => ok_region rfl ?_)
  repeat ((try subst X); (first | (first | apply zL | apply zH | apply zE); intro X hX | apply zl | apply zh | apply ze); try simp only [zU, reduceIte, Nat.reduceEqDiff, Nat.reduceAdd, reduceCtorEq, Q5])
  refine Inv.call Fx.en20 (num_ok w' 1) ?_
  rintro v w2 ⟨rfl, he2⟩
  repeat ((try subst X); (first | (first | apply zL | apply zH | apply zE); intro X hX | apply zl | apply zh | apply ze); try simp only [zU, reduceIte, Nat.reduceEqDiff, Nat.reduceAdd, reduceCtorEq, Q5])
  refine ⟨_, w2, run_build (P := Tryz.prog) w2 36 _ #[.int .i64 4, .int .i64 0, .string ⟨#[]⟩, .slice none 0 0] (by kernel_rfl), ?_⟩
  repeat ((try subst X); (first | (first | apply zL | apply zH | apply zE); intro X hX | apply zl | apply zh | apply ze); try simp only [zU, reduceIte, Nat.reduceEqDiff, Nat.reduceAdd, reduceCtorEq, Q5])
  refine Runs.lit (cs := [.int .i64 1, .int .i64 1, .string ⟨#[]⟩, .slice none 0 0, .int .i64 4, .int .i64 0, .string ⟨#[]⟩, .slice none 0 0]) Fx.un34 Fx.zi36 (by decide) (by kernel_rfl) (by decide) (fun w3 he3 hs3 hb3 => ?_)
  generalize hB3 : w2.heap.size = B3 at hs3 hb3
  repeat ((try subst X); (first | (first | apply zL | apply zH | apply zE); intro X hX | apply zl | apply zh | apply ze); try simp only [zU, reduceIte, Nat.reduceEqDiff, Nat.reduceAdd, reduceCtorEq, Q5])
  refine ⟨_, w3, run_build (P := Tryz.prog) w3 36 _ #[.int .i64 4, .int .i64 1, .string ⟨#[]⟩, .slice (some ⟨B3, 0, none⟩) 2 2] (by kernel_rfl), ?_⟩
  repeat ((try subst X); (first | (first | apply zL | apply zH | apply zE); intro X hX | apply zl | apply zh | apply ze); try simp only [zU, reduceIte, Nat.reduceEqDiff, Nat.reduceAdd, reduceCtorEq, Q5])
  have hA3 := hA1.ex (he2.trans he3)
  have hs1 := he1.size
  have hs2 := he2.size
  have hl1 := hA1.lt
  have hxA : VRowS w3 (fun k => k = B3) [.int .i64 4, .int .i64 1, .string ⟨#[]⟩, .slice (some ⟨B3, 0, none⟩) 2 2] xA := by
    simp only [xA, VRowS]
    refine ⟨_, rfl, rfl, rfl, [[.int .i64 1, .int .i64 1, .string ⟨#[]⟩, .slice none 0 0], [.int .i64 4, .int .i64 0, .string ⟨#[]⟩, .slice none 0 0]], ⟨_, 2, rfl, by simp, fun j row hj => ?_⟩, ?_⟩
    · have hjl := (List.getElem?_eq_some_iff.1 hj).1
      simp at hjl
      have : j = 0 ∨ j = 1 := by omega
      rcases this with rfl | rfl
      · simp at hj; subst hj
        exact ⟨B3, 0, rfl, rfl, hb3.cells (o := 0) (fun j u hj => by
          have := (List.getElem?_eq_some_iff.1 hj).1
          simp at this
          have : j = 0 ∨ j = 1 ∨ j = 2 ∨ j = 3 := by omega
          rcases this with rfl | rfl | rfl | rfl <;> simpa using hj)⟩
      · simp at hj; subst hj
        exact ⟨B3, 0, rfl, rfl, hb3.cells (o := 4) (fun j u hj => by
          have := (List.getElem?_eq_some_iff.1 hj).1
          simp at this
          have : j = 0 ∨ j = 1 ∨ j = 2 ∨ j = 3 := by omega
          rcases this with rfl | rfl | rfl | rfl <;> simpa using hj)⟩
    · have nilS : ∀ (S : Nat → Prop), SliS w3 S 4 (.slice none 0 0) [] := fun S => ⟨none, 0, rfl, by simp, fun j row hj => by simp at hj⟩
      simp only [VRowsS, VRowS]
      exact ⟨⟨_, rfl, rfl, rfl, [], nilS _, by simp only [VRowsS]⟩, ⟨_, rfl, rfl, rfl, [], nilS _, by simp only [VRowsS]⟩, trivial⟩
  refine Inv.call Fx.en19 (Store_ok xA w3 _ _ mk hb rb [] _ hxA (fun k hk => ⟨fun h => by have := hl1 k h; omega, by omega⟩) (hg.ext hA3.ext) ⟨by omega, by omega, by omega⟩ hA3.hp (fun k hk => (hA3.lt k hk).2) (by simp [xA, cntV, cntVs])) ?_
  rw [storeA]
  rintro v w4 ⟨rfl, hG4⟩
  obtain ⟨F4, hA4, hc4, hF4⟩ := hA3.grown hG4
  repeat ((try subst X); (first | (first | apply zL | apply zH | apply zE); intro X hX | apply zl | apply zh | apply ze); try simp only [zU, reduceIte, Nat.reduceEqDiff, Nat.reduceAdd, reduceCtorEq, Q5])
  refine Runs.alloc Fx.zi38 (fun w5 he5 hs5 hb5 => ?_)
  generalize hC2 : w4.heap.size = C2 at hs5 hb5
  repeat ((try subst X); (first | (first | apply zL | apply zH | apply zE); intro X hX | apply zl | apply zh | apply ze); try simp only [zU, reduceIte, Nat.reduceEqDiff, Nat.reduceAdd, reduceCtorEq, Q5])
  refine Runs.store hb5 Fx.zi38 rfl (by intro u hu; simp [Value.cells, Wd.row] at hu; rcases hu with rfl | rfl | rfl <;> rfl) (by simp [Value.cells]) (fun w6 hc6 hs6 hb6 => ?_)
  rw [splice_all _ _ (by simp [Value.cells])] at hb6
  simp only [Value.cells] at hb6
  have hA6 := hA4.ex (he5.chg_trans hc6 (fun k hk => by omega))
  have hl4 := hA4.lt
  repeat ((try subst X); (first | (first | apply zL | apply zH | apply zE); intro X hX | apply zl | apply zh | apply ze); try simp only [zU, reduceIte, Nat.reduceEqDiff, Nat.reduceAdd, reduceCtorEq, Q5])
  refine hM _ _ _ ?_; clear hM M
  -- Make
  refine ok_seq (fun M hM => ok_region rfl ?_)
  repeat ((try subst X); (first | (first | apply zL | apply zH | apply zE); intro X hX | apply zl | apply zh | apply ze); try simp only [zU, reduceIte, Nat.reduceEqDiff, Nat.reduceAdd, reduceCtorEq, Q5])
  refine ⟨wA.row, rfl, hb6.cells (o := 0) (fun j u hj => by simpa using hj), ?_⟩
  repeat ((try subst X); (first | (first | apply zL | apply zH | apply zE); intro X hX | apply zl | apply zh | apply ze); try simp only [zU, reduceIte, Nat.reduceEqDiff, Nat.reduceAdd, reduceCtorEq, Q5])
  refine Runs.lit (cs := wA.row) Fx.un29 Fx.zi38 (by decide) (by kernel_rfl) (by decide) (fun w7 he7 hs7 hb7 => ?_)
  generalize hB7 : w6.heap.size = B7 at hs7 hb7
  have one : ∀ (W : World) (B : Nat) (x : Wd), Blk W B x.row 38 → SlW W (.slice (some ⟨B, 0, none⟩) 1 1) [x] := fun W B x hbx => ⟨some ⟨B, 0, none⟩, 1, rfl, by simp, fun j row hj => by
    have hj0 : j = 0 := by have := (List.getElem?_eq_some_iff.1 hj).1; simp at this; exact this
    subst hj0
    simp at hj; subst hj
    exact ⟨B, 0, rfl, hbx.cells (o := 0) (fun j u hj => by simpa using hj)⟩⟩
  have hA7 := hA6.ex he7
  repeat ((try subst X); (first | (first | apply zL | apply zH | apply zE); intro X hX | apply zl | apply zh | apply ze); try simp only [zU, reduceIte, Nat.reduceEqDiff, Nat.reduceAdd, reduceCtorEq, Q5])
  refine Inv.call Fx.en21 (Make_ok w7 hb rb [obA] F4 hA7.hp (fun k hk => (hA7.lt k hk).2) (by decide) 7 0 _ [wA] (one w7 B7 wA hb7) (by decide)) ?_
  rw [makeA, makeA2]
  rintro v w8 ⟨rfl, hG8⟩
  simp only [if_true] at hG8 ⊢
  obtain ⟨F8, hA8, hc8, hF8⟩ := hA7.grown hG8
  have hs8 := hc8.size
  have hb8 : Blk w8 C2 wA.row 38 := (hb6.ext he7).chg hc8 (fun h => by have := hl4 C2 h; omega)
  repeat ((try subst X); (first | (first | apply zL | apply zH | apply zE); intro X hX | apply zl | apply zh | apply ze); try simp only [zU, reduceIte, Nat.reduceEqDiff, Nat.reduceAdd, reduceCtorEq, Q5])
  refine Runs.alloc Fx.zi38 (fun w9 he9 hs9 hb9 => ?_)
  generalize hC4 : w8.heap.size = C4 at hs9 hb9
  repeat ((try subst X); (first | (first | apply zL | apply zH | apply zE); intro X hX | apply zl | apply zh | apply ze); try simp only [zU, reduceIte, Nat.reduceEqDiff, Nat.reduceAdd, reduceCtorEq, Q5])
  refine Runs.store hb9 Fx.zi38 rfl (by intro u hu; simp [Value.cells, Wd.row] at hu; rcases hu with rfl | rfl | rfl <;> rfl) (by simp [Value.cells]) (fun w10 hc10 hs10 hb10 => ?_)
  rw [splice_all _ _ (by simp [Value.cells])] at hb10
  simp only [Value.cells] at hb10
  have hA10 := hA8.ex (he9.chg_trans hc10 (fun k hk => by omega))
  have hl8 := hA8.lt
  have hC2F8 : ¬ F8 C2 := fun h => by
    rcases hF8 C2 h with h | h
    · have := hl4 C2 h; omega
    · omega
  have hC2l := hb8.lt
  have hb10' : Blk w10 C2 wA.row 38 := (hb8.ext he9).chg hc10 (by omega)
  repeat ((try subst X); (first | (first | apply zL | apply zH | apply zE); intro X hX | apply zl | apply zh | apply ze); try simp only [zU, reduceIte, Nat.reduceEqDiff, Nat.reduceAdd, reduceCtorEq, Q5])
  refine hM _ _ _ ?_; clear hM M
  -- Set
  refine ok_seq (fun M hM => ok_region rfl ?_)
  repeat ((try subst X); (first | (first | apply zL | apply zH | apply zE); intro X hX | apply zl | apply zh | apply ze); try simp only [zU, reduceIte, Nat.reduceEqDiff, Nat.reduceAdd, reduceCtorEq, Q5])
  refine ⟨aA.row, rfl, hb10.cells (o := 0) (fun j u hj => by simpa using hj), ?_⟩
  repeat ((try subst X); (first | (first | apply zL | apply zH | apply zE); intro X hX | apply zl | apply zh | apply ze); try simp only [zU, reduceIte, Nat.reduceEqDiff, Nat.reduceAdd, reduceCtorEq, Q5])
  refine ⟨aA.row, rfl, hb10.cells (o := 0) (fun j u hj => by simpa using hj), ?_⟩
  repeat ((try subst X); (first | (first | apply zL | apply zH | apply zE); intro X hX | apply zl | apply zh | apply ze); try simp only [zU, reduceIte, Nat.reduceEqDiff, Nat.reduceAdd, reduceCtorEq, Q5])
  refine Inv.call Fx.en22 (Set_ok w10 hb rb H2A F8 hA10.hp (by decide) aA 0 aA) ?_
  rw [setA, setA2]
  rintro v w11 ⟨rfl, hG11⟩
  obtain ⟨F11, hA11, hc11, hF11⟩ := hA10.grown hG11
  have hC4F8 : ¬ F8 C4 := fun h => by have := hl8 C4 h; omega
  have hs11 := hc11.size
  have hb112 : Blk w11 C2 wA.row 38 := hb10'.chg hc11 hC2F8
  have hb114 : Blk w11 C4 aA.row 38 := hb10.chg hc11 hC4F8
  repeat ((try subst X); (first | (first | apply zL | apply zH | apply zE); intro X hX | apply zl | apply zh | apply ze); try simp only [zU, reduceIte, Nat.reduceEqDiff, Nat.reduceAdd, reduceCtorEq, Q5])
  refine hM _ _ _ ?_; clear hM M
  -- Load
  refine ok_seq (fun M hM => ok_region rfl ?_)
  repeat ((try subst X); (first | (first | apply zL | apply zH | apply zE); intro X hX | apply zl | apply zh | apply ze); try simp only [zU, reduceIte, Nat.reduceEqDiff, Nat.reduceAdd, reduceCtorEq, Q5])
  refine ⟨aA.row, rfl, hb114.cells (o := 0) (fun j u hj => by simpa using hj), ?_⟩
  repeat ((try subst X); (first | (first | apply zL | apply zH | apply zE); intro X hX | apply zl | apply zh | apply ze); try simp only [zU, reduceIte, Nat.reduceEqDiff, Nat.reduceAdd, reduceCtorEq, Q5])
  refine Inv.call Fx.en13 (Load_ok hb rb H3A F11 (by decide) limA wfA mk zeroVal aA w11 (fun _ h _ => by rw [ringA] at h; cases h) hA11.hp (hg.ext hA11.ext)) ?_
  rw [errA]
  rintro v w12 ⟨cs, rfl, hcs, he12⟩
  have hcl := hcs.len
  repeat ((try subst X); (first | (first | apply zL | apply zH | apply zE); intro X hX | apply zl | apply zh | apply ze); try simp only [zU, reduceIte, Nat.reduceEqDiff, Nat.reduceAdd, reduceCtorEq, Q5])
  refine Runs.alloc Fx.zi36 (fun w13 he13 hs13 hb13 => ?_)
  generalize hC7 : w12.heap.size = C7 at hs13 hb13
  repeat ((try subst X); (first | (first | apply zL | apply zH | apply zE); intro X hX | apply zl | apply zh | apply ze); try simp only [zU, reduceIte, Nat.reduceEqDiff, Nat.reduceAdd, reduceCtorEq, Q5])
  refine Runs.store hb13 Fx.zi36 (by simpa [Value.cells] using hcl) (by simpa [Value.cells] using hcs.one) (by simp [Value.cells]) (fun w14 hc14 hs14 hb14 => ?_)
  have he14 : Ext w11 w14 := he12.trans (he13.chg_trans hc14 (fun k hk => by omega))
  have hA14 := hA11.ex he14
  repeat ((try subst X); (first | (first | apply zL | apply zH | apply zE); intro X hX | apply zl | apply zh | apply ze); try simp only [zU, reduceIte, Nat.reduceEqDiff, Nat.reduceAdd, reduceCtorEq, Q5])
  refine hM _ _ _ ?_; clear hM M
  -- Collect
  refine ok_seq (fun M hM => ok_region rfl ?_)
  repeat ((try subst X); (first | (first | apply zL | apply zH | apply zE); intro X hX | apply zl | apply zh | apply ze); try simp only [zU, reduceIte, Nat.reduceEqDiff, Nat.reduceAdd, reduceCtorEq, Q5])
  refine ⟨wA.row, rfl, (hb112.ext he14).cells (o := 0) (fun j u hj => by simpa using hj), ?_⟩
  repeat ((try subst X); (first | (first | apply zL | apply zH | apply zE); intro X hX | apply zl | apply zh | apply ze); try simp only [zU, reduceIte, Nat.reduceEqDiff, Nat.reduceAdd, reduceCtorEq, Q5])
  refine Runs.lit (cs := wA.row) Fx.un29 Fx.zi38 (by decide) (by kernel_rfl) (by decide) (fun w15 he15 hs15 hb15 => ?_)
  generalize hB15 : w14.heap.size = B15 at hs15 hb15
  have hA15 := hA14.ex he15
  have hl14 := hA14.lt
  repeat ((try subst X); (first | (first | apply zL | apply zH | apply zE); intro X hX | apply zl | apply zh | apply ze); try simp only [zU, reduceIte, Nat.reduceEqDiff, Nat.reduceAdd, reduceCtorEq, Q5])
  refine Inv.call Fx.en15 (collect_ok w15 hb rb H3A F11 hA15.hp (fun k hk => (hA15.lt k hk).2) (by decide) wfA _ [wA] (fun W' hc => one W' B15 wA (hb15.chg hc (fun h => by have := hl14 B15 h; omega))) (by decide)) ?_
  rintro v w16 ⟨-, hcol⟩
  obtain ⟨A16, c16, rfl, hG16S⟩ := hcol anyA
  have hG16 := hG16S.grown
  obtain ⟨F16, hA16, hc16, hF16⟩ := hA15.grown hG16
  have hb16 : Blk w16 C2 wA.row 38 := ((hb112.ext he14).ext he15).chg hc16 (fun h => by
    rcases hF11 C2 h with h | h
    · exact hC2F8 h
    · have := hb10'.lt; omega)
  repeat ((try subst X); (first | (first | apply zL | apply zH | apply zE); intro X hX | apply zl | apply zh | apply ze); try simp only [zU, reduceIte, Nat.reduceEqDiff, Nat.reduceAdd, reduceCtorEq, Q5])
  refine hM _ _ _ ?_; clear hM M
  refine ok_seq (fun M hM => ok_region rfl ?_)
  repeat ((try subst X); (first | (first | apply zL | apply zH | apply zE); intro X hX | apply zl | apply zh | apply ze); try simp only [zU, reduceIte, Nat.reduceEqDiff, Nat.reduceAdd, reduceCtorEq, Q5])
  simp only [List.length_singleton]
  refine ⟨.int .i64 1, hb16.cell (j := 2) rfl, ?_⟩
  repeat ((try subst X); (first | (first | apply zL | apply zH | apply zE); intro X hX | apply zl | apply zh | apply ze); try simp only [zU, reduceIte, Nat.reduceEqDiff, Nat.reduceAdd, reduceCtorEq, Q5])
  simp only [show (((1 : Nat) : Int) = 1) = True from eq_true rfl, decide_true]
  refine ⟨fun _ => ?_, fun h => by cases h⟩
  repeat ((try subst X); (first | (first | apply zL | apply zH | apply zE); intro X hX | apply zl | apply zh | apply ze); try simp only [zU, reduceIte, Nat.reduceEqDiff, Nat.reduceAdd, reduceCtorEq, Q5])
  refine Inv.call Fx.en16 (objects_ok w16 hb rb _ F16 hA16.hp (by rw [collA]; decide)) ?_
  rw [collA]
  rintro v w17 ⟨rfl, rfl⟩
  repeat ((try subst X); (first | (first | apply zL | apply zH | apply zE); intro X hX | apply zl | apply zh | apply ze); try simp only [zU, reduceIte, Nat.reduceEqDiff, Nat.reduceAdd, reduceCtorEq, Q5])
  refine hM _ _ _ ?_; clear hM M
  refine ok_ret ?_
  try simp only [zW, zU, reduceIte, Nat.reduceEqDiff, Nat.reduceAdd, reduceCtorEq, Q5]
  exact ⟨rfl, hA16.ext⟩
end Go.Proofs.YtldeokfhipjbfaaGreatDoor
/- Own rows: one row's cells turned in place. -/
set_option linter.unusedVariables false
set_option linter.unusedSimpArgs false
namespace Go.Proofs.Vg
open Go Go.RowKit
theorem splice_right (a b : List Value) (o : Nat) (vs : List Value) : splice (a ++ b) (a.length + o) vs = a ++ splice b o vs := by
  unfold splice
  rw [List.take_append, List.drop_append]
  have h1 : a.take (a.length + o) = a := List.take_of_length_le (by omega)
  have h2 : a.drop (a.length + o + vs.length) = [] := List.drop_of_length_le (by omega)
  rw [h1, h2]
  have h3 : a.length + o - a.length = o := by omega
  have h4 : a.length + o + vs.length - a.length = o + vs.length := by omega
  rw [h3, h4]
  simp
theorem splice_left (a b : List Value) (o : Nat) (vs : List Value) (h : o + vs.length ≤ a.length) : splice (a ++ b) o vs = splice a o vs ++ b := by
  unfold splice
  rw [List.take_append_of_le_length (by omega), List.drop_append_of_le_length (by omega)]
  simp
theorem flat_upd {sz : Nat} (vs : List Value) (off : Nat) (hoff : off + vs.length ≤ sz) : ∀ (rows : List (List Value)) (i : Nat) (row : List Value) (rest : List Value), (∀ r ∈ rows, r.length = sz) → rows[i]? = some row →
    splice (rows.flatten ++ rest) (i * sz + off) vs = (rows.set i (splice row off vs)).flatten ++ rest := by
  intro rows
  induction rows with
  | nil => intro i row rest _ h; simp at h
  | cons r rs ih =>
    intro i row rest hr h
    have h0 := hr r List.mem_cons_self
    cases i with
    | zero =>
      simp at h; subst h
      simp only [Nat.zero_mul, Nat.zero_add, List.flatten_cons, List.set_cons_zero, List.append_assoc]
      rw [splice_left _ _ _ _ (by omega)]
    | succ i =>
      have := ih i row rest (fun x hx => hr x (List.mem_cons_of_mem _ hx)) (by simpa using h)
      simp only [List.flatten_cons, List.set_cons_succ, List.append_assoc]
      rw [← this]
      have e : (i + 1) * sz + off = r.length + (i * sz + off) := by rw [h0, Nat.add_mul]; omega
      rw [e, splice_right]
theorem flat_len {sz : Nat} : ∀ (rows : List (List Value)), (∀ r ∈ rows, r.length = sz) → rows.flatten.length = rows.length * sz := by
  intro rows
  induction rows with
  | nil => intro _; simp
  | cons r rs ih => intro h; rw [List.flatten_cons, List.length_append, h r List.mem_cons_self, ih (fun x hx => h x (List.mem_cons_of_mem _ hx)), List.length_cons, Nat.add_mul]; omega
/-- A store into a row that one owns. -/
theorem own_store {w : World} {base e sz n : Nat} {v : Value} {rows : List (List Value)} (h : w.ownsRow base e sz v n rows.flatten) (hr : ∀ r ∈ rows, r.length = sz) {i : Nat} {row : List Value} (hi : rows[i]? = some row) (hsz : 0 < sz) {off : Nat} {vs : List Value} (hoff : off + vs.length ≤ sz) (hvs : 0 < vs.length) :
    ∃ g cap cur, v = .slice (some ⟨g, 0, none⟩) n cap ∧ Blk w g cur e ∧ i * sz + off + vs.length ≤ cur.length ∧ n = rows.length ∧ base ≤ g ∧
      ∀ w', Blk w' g (splice cur (i * sz + off) vs) e → w'.ownsRow base e sz v n (rows.set i (splice row off vs)).flatten := by
  have hfl := flat_len rows hr
  have hil := (List.getElem?_eq_some_iff.1 hi).1
  have hrow : row.length = sz := hr row (List.mem_of_getElem? hi)
  have hn : n = rows.length := by
    have h1 := h.1
    rw [hfl] at h1
    exact (Nat.eq_of_mul_eq_mul_right hsz h1).symm
  rcases h.2 with ⟨h1, h2⟩ | ⟨g, cap, cur, h1, hb, hg, hnc, hm, hs, ht⟩
  · omega
  have hle : n * sz ≤ cap * sz := Nat.mul_le_mul_right sz hnc
  have hcl : cur.toList.length = cap * sz := by simpa using hs
  have hin : i * sz + sz ≤ n * sz := by
    have : (i + 1) * sz ≤ n * sz := Nat.mul_le_mul_right sz (by omega)
    rw [Nat.add_mul] at this; omega
  refine ⟨g, cap, cur.toList, h1, by simpa [Blk] using hg, by omega, hn, hb, fun w' hb' => ?_⟩
  have hset : ∀ r ∈ rows.set i (splice row off vs), r.length = sz := fun r hr' => by
    rcases List.mem_or_eq_of_mem_set hr' with h3 | h3
    · exact hr r h3
    · rw [h3, splice_length _ _ _ (by omega), hrow]
  have hcur : cur.toList = rows.flatten ++ cur.toList.drop (n * sz) := by rw [← ht]; exact (List.take_append_drop _ _).symm
  have hsp : splice cur.toList (i * sz + off) vs = (rows.set i (splice row off vs)).flatten ++ cur.toList.drop (n * sz) := by
    rw [hcur, flat_upd vs off hoff rows i row _ hr hi]
    congr 1
    rw [← hcur]
  have hfs := flat_len _ hset
  rw [List.length_set] at hfs
  refine ⟨by rw [hfs, hn], .inr ⟨g, cap, (splice cur.toList (i * sz + off) vs).toArray, h1, hb, hb', hnc, hm, ?_, ?_⟩⟩
  · rw [List.size_toArray, splice_length _ _ _ (by omega), hcl]
  · rw [hsp, List.take_append_of_le_length (by rw [hfs, hn]; exact Nat.le_refl _), List.take_of_length_le (by rw [hfs, hn]; exact Nat.le_refl _)]
/-- A row of one's own, read. -/
theorem own_row {w : World} {base e sz n : Nat} {v : Value} {rows : List (List Value)} (h : w.ownsRow base e sz v n rows.flatten) (hr : ∀ r ∈ rows, r.length = sz) {i : Nat} {row : List Value} (hi : rows[i]? = some row) (hsz : 0 < sz) (hb : rows.length ≤ 140737488355328) :
    ∃ g cap, v = .slice (some ⟨g, 0, none⟩) n cap ∧ n = rows.length ∧ cellsAt w ⟨g, i * sz, none⟩ row := by
  obtain ⟨g, cap, cur, h1, -, -, hn, -, -⟩ := own_store h hr hi hsz (off := 0) (vs := [.int .i64 0]) (by simp; omega) (by simp)
  have hs := Sli.of_own h rfl hr hn.symm (by omega)
  obtain ⟨A, c, hv, -, hc⟩ := hs
  rw [h1] at hv
  injection hv with hA _ _
  obtain ⟨b, o, hA2, hcc⟩ := hc i row hi
  rw [← hA] at hA2
  cases hA2
  exact ⟨g, cap, h1, hn, by simpa using hcc⟩
end Go.Proofs.Vg
/- The reference's heap, in memory. -/
set_option linter.unusedVariables false
set_option linter.unusedSimpArgs false
namespace Go.Proofs.Vg
open Go Go.RowKit Go.Proofs.YtldeokfhipjbfaaGreatDoor
theorem grown_chg {w w' : World} {v : Value} (hg : w.grownBy w' v.ownBlock) : Chg (fun k => v.ownBlock = some k) w w' :=
  ⟨hg.os, hg.tape, hg.output, hg.size, fun k hk hs => hg.block k hk (fun e => hs e.symm)⟩
theorem Chg.thn {S T : Nat → Prop} {a b c : World} (h : Chg S a b) (k : Chg T b c) (hs : ∀ i, T i → S i ∨ a.heap.size ≤ i) : Chg S a c := by
  refine ⟨k.os.trans h.os, k.tape.trans h.tape, k.output.trans h.output, Nat.le_trans h.size k.size, fun i hi hn => ?_⟩
  rw [k.block i (Nat.lt_of_lt_of_le hi h.size) (fun ht => by rcases hs i ht with h1 | h1; exact hn h1; omega)]
  exact h.block i hi hn
theorem Chg.drew (S : Nat → Prop) (w : World) : Chg S w { w with drawn := w.drawn + 1 } := (Ext.drew w).chg S
theorem owns_one {w : World} {base e sz n : Nat} {v : Value} {xs : List Value} (h : w.ownsRow base e sz v n xs) : v.oneCell' = true ∧ v.cells = #[v] ∧ ∃ A c, v = .slice A n c := by
  rcases h.2 with ⟨rfl, h2⟩ | ⟨g, cap, cur, rfl, _⟩
  · exact ⟨rfl, rfl, none, 0, by rw [h2]⟩
  · exact ⟨rfl, rfl, _, _, rfl⟩
theorem owns_empty {w : World} {B : Nat} {e sz : Nat} (hb : Blk w B [] e) : w.ownsRow 0 e sz (.slice (some ⟨B, 0, none⟩) 0 0) 0 [] :=
  ⟨by simp, .inr ⟨B, 0, #[], rfl, Nat.zero_le _, hb, Nat.le_refl _, by decide, by simp, by simp⟩⟩
def oflat (l : List Wd) : List Value := (l.map Wd.row).flatten
def obStr : Ob → ByteArray
  | .text s => s
  | .words _ _ => ⟨#[]⟩
/-- An object's four cells. -/
def orow (o : Ob) (vw : Value) : List Value := [.bool (obText o), .bool (isArrO (some o)), .string (obStr o), vw]
/-- The objects in memory: a row of one's own; the words of each in a row of one's own. -/
structure RM (w : World) (vL : Value) (vws : List Value) (rows : List (List Value)) (H : List Ob) : Prop where
  own : w.ownsRow 0 120 4 vL H.length rows.flatten
  lr : rows.length = H.length
  lk : vws.length = H.length
  row : ∀ (i : Nat) (o : Ob), H[i]? = some o → ∃ vw, vws[i]? = some vw ∧ rows[i]? = some (orow o vw) ∧ w.ownsRow 0 75 3 vw o.list.length (oflat o.list)
  apart : ∀ (i j : Nat) (u v : Value) (k : Nat), vws[i]? = some u → vws[j]? = some v → u.ownBlock = some k → v.ownBlock = some k → i = j
  top : ∀ k, vL.ownBlock = some k → ∀ (i : Nat) (v : Value), vws[i]? = some v → v.ownBlock ≠ some k
def RF (vL : Value) (vws : List Value) (k : Nat) : Prop := vL.ownBlock = some k ∨ ∃ (i : Nat) (v : Value), vws[i]? = some v ∧ v.ownBlock = some k
theorem RM.rlen {w : World} {vL : Value} {vws : List Value} {rows : List (List Value)} {H : List Ob} (h : RM w vL vws rows H) : ∀ r ∈ rows, r.length = 4 := by
  intro r hr
  obtain ⟨i, hi⟩ := List.mem_iff_getElem?.1 hr
  have hil := (List.getElem?_eq_some_iff.1 hi).1
  have hd : H[i]? = some (H[i]'(by rw [← h.lr]; exact hil)) := List.getElem?_eq_getElem _
  obtain ⟨vw, -, h1, -⟩ := h.row i _ hd
  rw [hi] at h1; cases h1
  rfl
theorem RM.chg {w w' : World} {T : Nat → Prop} {vL : Value} {vws : List Value} {rows : List (List Value)} {H : List Ob} (h : RM w vL vws rows H) (hc : Chg T w w') (hf : ∀ k, RF vL vws k → ¬ T k) : RM w' vL vws rows H := by
  refine ⟨owns_chg' h.own hc (fun k hk => hf k (.inl hk)), h.lr, h.lk, fun i o ho => ?_, h.apart, h.top⟩
  obtain ⟨vw, h1, h2, h3⟩ := h.row i o ho
  exact ⟨vw, h1, h2, owns_chg' h3 hc (fun k hk => hf k (.inr ⟨i, vw, h1, hk⟩))⟩
theorem RM.flt {w : World} {vL : Value} {vws : List Value} {rows : List (List Value)} {H : List Ob} (h : RM w vL vws rows H) (k : Nat) (hk : RF vL vws k) : k < w.heap.size := by
  rcases hk with hk | ⟨i, v, hi, hk⟩
  · exact (h.own.lt k hk).2
  · have hil := (List.getElem?_eq_some_iff.1 hi).1
    obtain ⟨vk, h1, _, h2⟩ := h.row i (H[i]'(by rw [← h.lk]; exact hil)) (List.getElem?_eq_getElem _)
    rw [hi] at h1; cases h1
    exact (h2.lt k hk).2
/-- An object, read. -/
theorem RM.at_ {w : World} {vL : Value} {vws : List Value} {rows : List (List Value)} {H : List Ob} (h : RM w vL vws rows H) (hl : H.length ≤ 1073741824) {i : Nat} {o : Ob} (ho : H[i]? = some o) :
    ∃ g cap vw, vL = .slice (some ⟨g, 0, none⟩) H.length cap ∧ vws[i]? = some vw ∧ (∀ (j : Nat) (u : Value), (orow o vw)[j]? = some u → w.cell? ⟨g, i * 4 + j, none⟩ = some u) ∧ w.ownsRow 0 75 3 vw o.list.length (oflat o.list) := by
  obtain ⟨vw, h1, h2, h3⟩ := h.row i o ho
  obtain ⟨g, cap, hv, -, hc⟩ := own_row h.own h.rlen h2 (by decide) (by rw [h.lr]; omega)
  exact ⟨g, cap, vw, hv, h1, fun j u hj => by have := hc j u hj; simpa [add_at] using this, h3⟩
theorem RM.len {w : World} {vL : Value} {vws : List Value} {rows : List (List Value)} {H : List Ob} (h : RM w vL vws rows H) : ∃ A c, vL = .slice A H.length c := (owns_one h.own).2.2
/-- An object more. -/
theorem RM.push {w w' : World} {vL vL' vw : Value} {vws : List Value} {rows : List (List Value)} {H : List Ob} {o : Ob} (h : RM w vL vws rows H) (hc : Chg (fun k => vL.ownBlock = some k) w w')
    (hown : w'.ownsRow 0 120 4 vL' (H.length + 1) (rows.flatten ++ orow o vw)) (hblk : ∀ k, vL'.ownBlock = some k → vL.ownBlock = some k ∨ w.heap.size ≤ k)
    (hvw : w.ownsRow 0 75 3 vw o.list.length (oflat o.list)) (hnew : ∀ k, vw.ownBlock = some k → ¬ RF vL vws k) : RM w' vL' (vws ++ [vw]) (rows ++ [orow o vw]) (H ++ [o]) := by
  have get : ∀ (i : Nat) (v : Value), (vws ++ [vw])[i]? = some v → vws[i]? = some v ∨ (i = vws.length ∧ v = vw) := fun i v hi => by
    rcases Nat.lt_or_ge i vws.length with h1 | h1
    · rw [List.getElem?_append_left h1] at hi; exact .inl hi
    · rw [List.getElem?_append_right h1] at hi
      have h2 := (List.getElem?_eq_some_iff.1 hi).1
      simp at h2
      have h3 : i - vws.length = 0 := by omega
      rw [h3] at hi
      simp at hi; exact .inr ⟨by omega, hi.symm⟩
  have hvlt : ∀ k, vw.ownBlock = some k → k < w.heap.size := fun k hk => (hvw.lt k hk).2
  refine ⟨by simpa using hown, by simp [h.lr], by simp [h.lk], fun i e he => ?_, fun i j u v k hi hj hu hv => ?_, fun k hk i v hi hv => ?_⟩
  · rcases Nat.lt_or_ge i H.length with h1 | h1
    · rw [List.getElem?_append_left h1] at he
      obtain ⟨wk, g1, g2, g3⟩ := h.row i e he
      exact ⟨wk, by rw [List.getElem?_append_left (by rw [h.lk]; exact h1)]; exact g1, by rw [List.getElem?_append_left (by rw [h.lr]; exact h1)]; exact g2, owns_chg' g3 hc (fun k hk e => h.top k e i wk g1 hk)⟩
    · rw [List.getElem?_append_right h1] at he
      have h2 := (List.getElem?_eq_some_iff.1 he).1
      simp at h2
      have h3 : i = H.length := by omega
      subst h3
      simp at he; subst he
      exact ⟨vw, by rw [List.getElem?_append_right (by rw [h.lk]; exact Nat.le_refl _)]; simp [h.lk], by rw [List.getElem?_append_right (by rw [h.lr]; exact Nat.le_refl _)]; simp [h.lr], owns_chg' hvw hc (fun k hk e => hnew k hk (.inl e))⟩
  · rcases get i u hi with h1 | ⟨h1, rfl⟩
    · rcases get j v hj with h2 | ⟨h2, rfl⟩
      · exact h.apart i j u v k h1 h2 hu hv
      · exact (hnew k hv (.inr ⟨i, u, h1, hu⟩)).elim
    · rcases get j v hj with h2 | ⟨h2, rfl⟩
      · exact (hnew k hu (.inr ⟨j, v, h2, hv⟩)).elim
      · omega
  · rcases get i v hi with h1 | ⟨h1, rfl⟩
    · rcases hblk k hk with h2 | h2
      · exact h.top k h2 i v h1 hv
      · have := h.flt k (.inr ⟨i, v, h1, hv⟩); omega
    · rcases hblk k hk with h2 | h2
      · exact hnew k hv (.inl h2)
      · have := hvlt k hv; omega
/-- A word of an object is turned, in place. -/
theorem RM.setw {w w' : World} {vL vw : Value} {vws : List Value} {rows : List (List Value)} {H : List Ob} {i : Nat} {o o' : Ob} (h : RM w vL vws rows H) (ho : H[i]? = some o) (hv : vws[i]? = some vw) (hc : Chg (fun k => vw.ownBlock = some k) w w')
    (hrow : orow o' vw = orow o vw) (hown : w'.ownsRow 0 75 3 vw o'.list.length (oflat o'.list)) : RM w' vL vws rows (H.set i o') := by
  have hil := (List.getElem?_eq_some_iff.1 ho).1
  refine ⟨by rw [List.length_set]; exact owns_chg' h.own hc (fun k hk e => h.top k hk i vw hv e), by rw [List.length_set]; exact h.lr, by rw [List.length_set]; exact h.lk, fun j e he => ?_, h.apart, h.top⟩
  by_cases hji : j = i
  · subst hji
    rw [List.getElem?_set_self hil] at he
    cases he
    obtain ⟨wk, g1, g2, g3⟩ := h.row j o ho
    rw [hv] at g1; cases g1
    exact ⟨vw, hv, by rw [hrow]; exact g2, hown⟩
  · rw [List.getElem?_set_ne (fun e => hji e.symm)] at he
    obtain ⟨wk, g1, g2, g3⟩ := h.row j e he
    exact ⟨wk, g1, g2, owns_chg' g3 hc (fun k hk e => hji (h.apart j i wk vw k g1 hv hk e))⟩
/-- The reference's heap at 'rb'. -/
structure RHeapR (w : World) (rb : Nat) (vL : Value) (vws : List Value) (rows : List (List Value)) (H : List Ob) : Prop where
  head : Blk w rb [vL] 74
  rm : RM w vL vws rows H
  hn : ¬ RF vL vws rb
def RHeapW (w : World) (rb : Nat) (H : List Ob) (F : Nat → Prop) : Prop :=
  ∃ vL vws rows, RHeapR w rb vL vws rows H ∧ ∀ k, (k = rb ∨ RF vL vws k) → F k ∧ k < w.heap.size
def RGrown (w w' : World) (rb : Nat) (H2 : List Ob) (F : Nat → Prop) : Prop :=
  Chg F w w' ∧ ∃ F', RHeapW w' rb H2 F' ∧ ∀ k, F' k → F k ∨ (w.heap.size ≤ k ∧ k < w'.heap.size)
theorem RHeapW.chg {w w' : World} {T : Nat → Prop} {rb : Nat} {H : List Ob} {F : Nat → Prop} (h : RHeapW w rb H F) (hc : Chg T w w') (hf : ∀ k, F k → ¬ T k) : RHeapW w' rb H F := by
  obtain ⟨vL, vws, rows, h1, h2⟩ := h
  have hs := hc.size
  exact ⟨vL, vws, rows, ⟨h1.head.chg hc (hf _ (h2 _ (.inl rfl)).1), h1.rm.chg hc (fun k hk => hf k (h2 k (.inr hk)).1), h1.hn⟩, fun k hk => ⟨(h2 k hk).1, by have := (h2 k hk).2; omega⟩⟩
theorem RHeapW.ext {w w' : World} {rb : Nat} {H : List Ob} {F : Nat → Prop} (h : RHeapW w rb H F) (he : Ext w w') : RHeapW w' rb H F := h.chg (he.chg (fun _ => False)) (fun _ _ => id)
theorem RHeapW.tight {w : World} {rb : Nat} {H : List Ob} {F : Nat → Prop} (h : RHeapW w rb H F) : RHeapW w rb H (fun k => F k ∧ k < w.heap.size) := by
  obtain ⟨vL, vws, rows, h1, h2⟩ := h
  exact ⟨vL, vws, rows, h1, fun k hk => ⟨⟨(h2 k hk).1, (h2 k hk).2⟩, (h2 k hk).2⟩⟩
theorem RGrown.same {w w' : World} {rb : Nat} {H : List Ob} {F : Nat → Prop} (h : RHeapW w rb H F) (he : Ext w w') : RGrown w w' rb H F := ⟨he.chg F, F, h.ext he, fun k hk => .inl hk⟩
theorem RGrown.trans {w w1 w2 : World} {rb : Nat} {H1 H2 : List Ob} {F F1 : Nat → Prop} (hc : Chg F w w1) (hF : ∀ k, F1 k → F k ∨ (w.heap.size ≤ k ∧ k < w1.heap.size)) (h : RGrown w1 w2 rb H2 F1) : RGrown w w2 rb H2 F := by
  obtain ⟨h1, F', h2, h3⟩ := h
  have hs1 := hc.size
  have hs2 := h1.size
  refine ⟨hc.thn h1 (fun k hk => (hF k hk).imp id (fun h => h.1)), F', h2, fun k hk => ?_⟩
  rcases h3 k hk with h4 | h4
  · rcases hF k h4 with h5 | h5
    · exact .inl h5
    · exact .inr ⟨h5.1, by omega⟩
  · exact .inr ⟨by omega, h4.2⟩
end Go.Proofs.Vg
namespace Go.Proofs.YtldeokfhipjbfaaGreatDoor
open Go Go.Proofs.Vg Go.RowKit
theorem Fx.zi2 : zinfo Tryz.prog 2 = some (some (.int .i64 0), 1, 8) := by kernel_rfl
theorem Fx.zi30 : zinfo Tryz.prog 30 = some (some (.slice none 0 0), 1, 24) := by kernel_rfl
theorem Fx.zi72 : zinfo Tryz.prog 72 = some (some (.slice none 0 0), 1, 24) := by kernel_rfl
theorem Fx.zi9 : zinfo Tryz.prog 9 = some (some (.string ByteArray.empty), 1, 16) := by kernel_rfl
end Go.Proofs.YtldeokfhipjbfaaGreatDoor
