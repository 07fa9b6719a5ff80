/- Reaching: pushing the words of a list. -/
import Derived.Test.YtldeokfhipjbfaaDoorH15
import Derived.Test.YtldeokfhipjbfaaDoorVg23
set_option linter.unusedVariables false
set_option linter.unusedSimpArgs false
namespace Go.Proofs.Vg
open Go Go.RowKit
def pushF : List Bool → List Int → List Wd → List Bool × List Int
  | sn, q, [] => (sn, q)
  | sn, q, x :: l => if x.r ≠ 0 ∧ sn[x.r.toNat]? = some false then pushF (sn.set x.r.toNat true) (q ++ [x.r]) l else pushF sn q l
def bfs (H : List Ob) : Nat → List Bool → List Int → Nat → List Int
  | 0, _, q, _ => q
  | f + 1, sn, q, i => match q[i]? with
    | none => q
    | some r => bfs H f (pushF sn q (listO (objAt H r))).1 (pushF sn q (listO (objAt H r))).2 (i + 1)
def unseen (sn : List Bool) : Nat := sn.countP (fun b => !b)
theorem unseen_set {sn : List Bool} {i : Nat} (h : sn[i]? = some false) : unseen (sn.set i true) + 1 = unseen sn := by
  induction sn generalizing i with
  | nil => simp at h
  | cons x xs ih =>
    cases i with
    | zero => simp at h; subst h; simp [unseen, List.countP_cons]
    | succ i =>
      have := ih (i := i) (by simpa using h)
      simp only [unseen, List.set_cons_succ, List.countP_cons] at this ⊢
      omega
structure Qok (n : Nat) (sn : List Bool) (q : List Int) : Prop where
  len : sn.length = n + 1
  ref : ∀ r ∈ q, 1 ≤ r ∧ r ≤ (n : Int)
  nd : q.Nodup
  sn : ∀ r ∈ q, sn[r.toNat]? = some true
theorem Qok.push {n : Nat} {sn : List Bool} {q : List Int} (h : Qok n sn q) {r : Int} (h0 : 0 ≤ r) (hn : r ≤ (n : Int)) (h1 : r ≠ 0) (hf : sn[r.toNat]? = some false) : Qok n (sn.set r.toNat true) (q ++ [r]) := by
  have hlt := (List.getElem?_eq_some_iff.1 hf).1
  refine ⟨by simp [h.len], fun x hx => ?_, ?_, fun x hx => ?_⟩
  · rcases List.mem_append.1 hx with hx | hx
    · exact h.ref x hx
    · simp at hx; subst hx; omega
  · refine List.nodup_append.2 ⟨h.nd, List.pairwise_singleton _ _, fun a ha b hb e => ?_⟩
    simp at hb; subst hb; subst e
    have := h.sn a ha
    rw [hf] at this; cases this
  · rcases List.mem_append.1 hx with hx | hx
    · rw [List.getElem?_set]
      split
      · rename_i e
        simp [hlt]
      · exact h.sn x hx
    · simp at hx; subst hx
      rw [List.getElem?_set]; simp [hlt]
theorem Qok.nil (n : Nat) : Qok n (List.replicate (n + 1) false) [] := ⟨by simp, by simp, by simp, by simp⟩
theorem pushF_inv {n : Nat} : ∀ (l : List Wd) (sn : List Bool) (q : List Int), (∀ x ∈ l, 0 ≤ x.r ∧ x.r ≤ (n : Int)) → Qok n sn q → Qok n (pushF sn q l).1 (pushF sn q l).2 ∧ q <+: (pushF sn q l).2 ∧ unseen (pushF sn q l).1 + (pushF sn q l).2.length = unseen sn + q.length := by
  intro l
  induction l with
  | nil => intro sn q hl h; exact ⟨h, List.prefix_rfl, rfl⟩
  | cons x l ih =>
    intro sn q hl h
    have hx := hl x List.mem_cons_self
    have hl' := fun y hy => hl y (List.mem_cons_of_mem _ hy)
    simp only [pushF]
    split
    · rename_i hc
      have h1 := ih (sn.set x.r.toNat true) (q ++ [x.r]) hl' (h.push hx.1 hx.2 hc.1 hc.2)
      have h2 := unseen_set hc.2
      refine ⟨h1.1, (List.prefix_append _ _).trans h1.2.1, ?_⟩
      have := h1.2.2
      simp at this
      omega
    · exact ih sn q hl' h
theorem bfs_prefix {H : List Ob} (hW : Wf H) : ∀ (f : Nat) (sn : List Bool) (q : List Int) (i : Nat), Qok H.length sn q → q <+: bfs H f sn q i ∧ (∀ r ∈ bfs H f sn q i, 1 ≤ r ∧ r ≤ (H.length : Int)) ∧ (bfs H f sn q i).Nodup := by
  intro f
  induction f with
  | zero => intro sn q i h; exact ⟨List.prefix_rfl, h.ref, h.nd⟩
  | succ f ih =>
    intro sn q i h
    simp only [bfs]
    split
    · exact ⟨List.prefix_rfl, h.ref, h.nd⟩
    · rename_i r hr
      have hl : ∀ x ∈ listO (objAt H r), 0 ≤ x.r ∧ x.r ≤ (H.length : Int) := by
        cases ho : objAt H r with
        | none => simp [listO]
        | some o =>
          have : o ∈ H := by
            unfold objAt at ho
            split at ho
            · exact List.mem_of_getElem? ho
            · cases ho
          exact hW o this
      have h1 := pushF_inv _ sn q hl h
      have h2 := ih _ _ (i + 1) h1.1
      exact ⟨h1.2.1.trans h2.1, h2.2⟩
def bvs (l : List Bool) : List Value := l.map Value.bool
theorem bvs_get {l : List Bool} {i : Nat} {v : Bool} (h : l[i]? = some v) : (bvs l)[i]? = some (.bool v) := by simp [bvs, h]
theorem bvs_set (l : List Bool) (i : Nat) (v : Bool) (h : i < l.length) : splice (bvs l) i [.bool v] = bvs (l.set i v) := by
  rw [splice_one _ _ _ (by simpa [bvs] using h)]; simp [bvs, List.map_set]
/-- What the one that reaches has of its own: what is seen, the queue. -/
structure Que (w : World) (base : Nat) (B cs cq : Nat) (sn : List Bool) (q : List Int) (qv : Value) (G : Nat → Prop) : Prop where
  bs : Blk w B (bvs sn) 4
  c1 : Blk w cs [.slice (some ⟨B, 0, none⟩) sn.length sn.length] 93
  c2 : Blk w cq [qv] 78
  own : w.ownsRow base 3 1 qv q.length (ivs q)
  gB : G B
  gs : G cs
  gq : G cq
  go : ∀ k, qv.ownBlock = some k → G k ∧ k ≠ B ∧ k ≠ cs ∧ k ≠ cq
  ne : B ≠ cs ∧ B ≠ cq ∧ cs ≠ cq
  lt : ∀ k, G k → base ≤ k ∧ k < w.heap.size
theorem Que.ext {w w' : World} {base B cs cq : Nat} {sn : List Bool} {q : List Int} {qv : Value} {G : Nat → Prop} (h : Que w base B cs cq sn q qv G) (he : Ext w w') : Que w' base B cs cq sn q qv G :=
  ⟨h.bs.ext he, h.c1.ext he, h.c2.ext he, owns_chg' h.own (he.chg (fun _ => False)) (fun _ _ => id), h.gB, h.gs, h.gq, h.go, h.ne, fun k hk => ⟨(h.lt k hk).1, Nat.lt_of_lt_of_le (h.lt k hk).2 he.size⟩⟩
end Go.Proofs.Vg
namespace Go.Proofs.YtldeokfhipjbfaaDoor
open Go Go.Proofs.Vg Go.RowKit

-- -- function 61
set_option maxHeartbeats 4000000 in
set_option maxRecDepth 8000 in
theorem push_ok (w : World) (base B cs cq n : Nat) (sn : List Bool) (q : List Int) (qv : Value) (G : Nat → Prop) (lv : Value) (l : List Wd) (hn : n ≤ 1073741824) (hl : l.length ≤ 1073741824) (hq : Que w base B cs cq sn q qv G) (hQ : Qok n sn q) (hql : unseen sn + q.length ≤ n + 1) (hlr : ∀ x ∈ l, 0 ≤ x.r ∧ x.r ≤ (n : Int)) (hls : ∃ A c, lv = .slice A l.length c)
    (hlv : ∀ w' G', (∀ k, G' k → G k ∨ w.heap.size ≤ k) → Chg G' w w' → SlW w' lv l) :
    Rets Tryd.prog 61 [lv, ptrOf cs, ptrOf cq] w (fun v w' => ∃ qv' G', Que w' base B cs cq (pushF sn q l).1 (pushF sn q l).2 qv' G' ∧ Chg G w w' ∧ (∀ k, G k → G' k) ∧ ∀ k, G' k → G k ∨ w.heap.size ≤ k) := by
  obtain ⟨A, c, rfl⟩ := hls
  refine rets_of_ok Tryd.func61 rfl rfl ?_
  refine ok_seq (fun M hM => ok_region rfl ?_); repeat ((try first | (refine ofX3 hX ?_; clear hX X) | (refine ofX2 hX ?_; clear hX X)); (first | refine wpL_step (fun X hX => ?_) | refine wpH_step (fun X hX => ?_) | refine wpE_step (fun X hX => ?_) | refine wpL_end ?_ | refine wpH_end ?_ | refine wpE_end ?_); try simp only [ oweC, oweP, opF, opH, ev, evs, evp, evo, Env.get, Env.set, putE, gdst, S0, S1, thenN, inBlockN, argEnv, builtinR, retE, fin, callR, reduceIte, Nat.reduceEqDiff, Nat.reduceAdd, reduceCtorEq, forall_const, Tryd.results61, Fx.ag3, Fx.ag31, Fx.ag4, Fx.ag78, Fx.ag93, Fx.es42, Fx.es93, Fx.fo31_2, Fx.isl42])
  refine hM _ _ _ ?_; clear hM M
  refine ok_block ?_
  refine ok_loop (S := Nat × List Bool × List Int × Value × (Nat → Prop)) (fun s => [(1, ptrOf cs), (2, ptrOf cq), (6, .slice A l.length c), (7, .int .i64 (l.length : Int)), (8, .int .i64 (s.1 : Int))])
    (fun s w4 => s.1 ≤ l.length ∧ Que w4 base B cs cq s.2.1 s.2.2.1 s.2.2.2.1 s.2.2.2.2 ∧ Chg G w w4 ∧ (∀ k, G k → s.2.2.2.2 k) ∧ (∀ k, s.2.2.2.2 k → G k ∨ w.heap.size ≤ k) ∧ Qok n s.2.1 s.2.2.1 ∧ unseen s.2.1 + s.2.2.1.length ≤ n + 1 ∧ pushF sn q l = pushF s.2.1 s.2.2.1 (l.drop s.1)) (fun s => l.length - s.1) (0, sn, q, qv, G) ?_ ?_ ?_
  · simp [sub, Env.get, argEnv]
  · exact ⟨Nat.zero_le _, hq, Chg.refl _ _, fun _ h => h, fun _ h => .inl h, hQ, hql, by simp⟩
  rintro ⟨i, sn4, q4, qv4, G4⟩ w4 ⟨hi, hq4, hc4, hG1, hG2, hQ4, hql4, hpf⟩
  simp only at hi hq4 hG1 hG2 hQ4 hql4 hpf ⊢
  refine ok_seq (fun M hM => ok_region rfl ?_); repeat ((try first | (refine ofX3 hX ?_; clear hX X) | (refine ofX2 hX ?_; clear hX X)); (first | refine wpL_step (fun X hX => ?_) | refine wpH_step (fun X hX => ?_) | refine wpE_step (fun X hX => ?_) | refine wpL_end ?_ | refine wpH_end ?_ | refine wpE_end ?_); try simp only [ oweC, oweP, opF, opH, ev, evs, evp, evo, Env.get, Env.set, putE, gdst, S0, S1, thenN, inBlockN, argEnv, builtinR, retE, fin, callR, reduceIte, Nat.reduceEqDiff, Nat.reduceAdd, reduceCtorEq, forall_const, Tryd.results61, Fx.ag3, Fx.ag31, Fx.ag4, Fx.ag78, Fx.ag93, Fx.es42, Fx.es93, Fx.fo31_2, Fx.isl42])
  refine hM _ _ _ ?_; clear hM M
  refine ok_seq (fun M1 hM1 => ?_)
  refine ok_if rfl (fun hc => ok_skip ?_) (fun hc => ok_exit ?_)
  rotate_left
  · try simp only [wpL, wpH, wpE, oweC, oweP, opF, opH, ev, evs, evp, evo, Env.get, Env.set, putE, gdst, S0, S1, thenN, inBlockN, argEnv, builtinR, retE, fin, callR, reduceIte, Nat.reduceEqDiff, Nat.reduceAdd, reduceCtorEq, forall_const, Tryd.results61, Fx.ag3, Fx.ag31, Fx.ag4, Fx.ag78, Fx.ag93, Fx.es42, Fx.es93, Fx.fo31_2, Fx.isl42]
    rw [List.drop_of_length_le (by omega)] at hpf
    simp only [pushF] at hpf
    rw [hpf]
    exact ⟨qv4, G4, hq4, hc4, hG1, hG2⟩
  try simp only [wpL, wpH, wpE, oweC, oweP, opF, opH, ev, evs, evp, evo, Env.get, Env.set, putE, gdst, S0, S1, thenN, inBlockN, argEnv, builtinR, retE, fin, callR, reduceIte, Nat.reduceEqDiff, Nat.reduceAdd, reduceCtorEq, forall_const, Tryd.results61, Fx.ag3, Fx.ag31, Fx.ag4, Fx.ag78, Fx.ag93, Fx.es42, Fx.es93, Fx.fo31_2, Fx.isl42]
  refine hM1 _ _ _ ?_; clear hM1 M1
  have hil : i < l.length := by omega
  have hxi : l[i]? = some l[i] := List.getElem?_eq_getElem hil
  have hxr := hlr _ (List.getElem_mem hil)
  generalize hxx : l[i] = x at hxi hxr
  have hdr : l.drop i = x :: l.drop (i + 1) := by rw [List.drop_eq_getElem_cons hil, hxx]
  rw [hdr] at hpf
  obtain ⟨A', c', h2, -, hcel⟩ := hlv w4 G4 hG2 (hc4.mono (fun k _ h => hG1 k h))
  rw [wd_len] at h2
  cases h2
  obtain ⟨bb, oo, rfl, hce⟩ := hcel i x.row (by rw [List.getElem?_map, hxi]; rfl)
  refine ok_join [(1, ptrOf cs), (2, ptrOf cq), (6, .slice (some ⟨bb, oo, none⟩) l.length c), (7, .int .i64 (l.length : Int)), (8, .int .i64 (i : Int))]
    (fun w5 => ∃ sn5 q5 qv5 G5, Que w5 base B cs cq sn5 q5 qv5 G5 ∧ Chg G w w5 ∧ (∀ k, G k → G5 k) ∧ (∀ k, G5 k → G k ∨ w.heap.size ≤ k) ∧ Qok n sn5 q5 ∧ unseen sn5 + q5.length ≤ n + 1 ∧ pushF sn q l = pushF sn5 q5 (l.drop (i + 1))) ?_ ?_
  rotate_left
  · rintro w5 ⟨sn5, q5, qv5, G5, hq5, hc5, h1, h2, h3, h4, h5⟩
    refine ok_region rfl ?_
    repeat ((try first | (refine ofX3 hX ?_; clear hX X) | (refine ofX2 hX ?_; clear hX X)); (first | refine wpL_step (fun X hX => ?_) | refine wpH_step (fun X hX => ?_) | refine wpE_step (fun X hX => ?_) | refine wpL_end ?_ | refine wpH_end ?_ | refine wpE_end ?_); try simp only [ oweC, oweP, opF, opH, ev, evs, evp, evo, Env.get, Env.set, putE, gdst, S0, S1, thenN, inBlockN, argEnv, builtinR, retE, fin, callR, reduceIte, Nat.reduceEqDiff, Nat.reduceAdd, reduceCtorEq, forall_const, Tryd.results61, Fx.ag3, Fx.ag31, Fx.ag4, Fx.ag78, Fx.ag93, Fx.es42, Fx.es93, Fx.fo31_2, Fx.isl42])
    refine ⟨by simp only [inI]; omega, ?_⟩
    repeat ((try first | (refine ofX3 hX ?_; clear hX X) | (refine ofX2 hX ?_; clear hX X)); (first | refine wpL_step (fun X hX => ?_) | refine wpH_step (fun X hX => ?_) | refine wpE_step (fun X hX => ?_) | refine wpL_end ?_ | refine wpH_end ?_ | refine wpE_end ?_); try simp only [ oweC, oweP, opF, opH, ev, evs, evp, evo, Env.get, Env.set, putE, gdst, S0, S1, thenN, inBlockN, argEnv, builtinR, retE, fin, callR, reduceIte, Nat.reduceEqDiff, Nat.reduceAdd, reduceCtorEq, forall_const, Tryd.results61, Fx.ag3, Fx.ag31, Fx.ag4, Fx.ag78, Fx.ag93, Fx.es42, Fx.es93, Fx.fo31_2, Fx.isl42])
    exact ⟨(i + 1, sn5, q5, qv5, G5), by simp [sub, Env.get], ⟨by omega, hq5, hc5, h1, h2, h3, h4, h5⟩, by omega⟩
  refine ok_block ?_
  refine ok_seq (fun M hM => ok_region rfl ?_)
  repeat ((try first | (refine ofX3 hX ?_; clear hX X) | (refine ofX2 hX ?_; clear hX X)); (first | refine wpL_step (fun X hX => ?_) | refine wpH_step (fun X hX => ?_) | refine wpE_step (fun X hX => ?_) | refine wpL_end ?_ | refine wpH_end ?_ | refine wpE_end ?_); try simp only [ oweC, oweP, opF, opH, ev, evs, evp, evo, Env.get, Env.set, putE, gdst, S0, S1, thenN, inBlockN, argEnv, builtinR, retE, fin, callR, reduceIte, Nat.reduceEqDiff, Nat.reduceAdd, reduceCtorEq, forall_const, Tryd.results61, Fx.ag3, Fx.ag31, Fx.ag4, Fx.ag78, Fx.ag93, Fx.es42, Fx.es93, Fx.fo31_2, Fx.isl42])
  refine ⟨by omega, by omega, ?_⟩
  repeat ((try first | (refine ofX3 hX ?_; clear hX X) | (refine ofX2 hX ?_; clear hX X)); (first | refine wpL_step (fun X hX => ?_) | refine wpH_step (fun X hX => ?_) | refine wpE_step (fun X hX => ?_) | refine wpL_end ?_ | refine wpH_end ?_ | refine wpE_end ?_); try simp only [ oweC, oweP, opF, opH, ev, evs, evp, evo, Env.get, Env.set, putE, gdst, S0, S1, thenN, inBlockN, argEnv, builtinR, retE, fin, callR, reduceIte, Nat.reduceEqDiff, Nat.reduceAdd, reduceCtorEq, forall_const, Tryd.results61, Fx.ag3, Fx.ag31, Fx.ag4, Fx.ag78, Fx.ag93, Fx.es42, Fx.es93, Fx.fo31_2, Fx.isl42])
  refine ⟨x.row, rfl, by simpa using hce, ?_⟩
  repeat ((try first | (refine ofX3 hX ?_; clear hX X) | (refine ofX2 hX ?_; clear hX X)); (first | refine wpL_step (fun X hX => ?_) | refine wpH_step (fun X hX => ?_) | refine wpE_step (fun X hX => ?_) | refine wpL_end ?_ | refine wpH_end ?_ | refine wpE_end ?_); try simp only [ oweC, oweP, opF, opH, ev, evs, evp, evo, Env.get, Env.set, putE, gdst, S0, S1, thenN, inBlockN, argEnv, builtinR, retE, fin, callR, reduceIte, Nat.reduceEqDiff, Nat.reduceAdd, reduceCtorEq, forall_const, Tryd.results61, Fx.ag3, Fx.ag31, Fx.ag4, Fx.ag78, Fx.ag93, Fx.es42, Fx.es93, Fx.fo31_2, Fx.isl42])
  refine Runs.alloc Fx.zi31 (fun w5 he5 hs5 hb5 => ?_)
  generalize hB5 : w4.heap.size = B5 at hs5 hb5
  repeat ((try first | (refine ofX3 hX ?_; clear hX X) | (refine ofX2 hX ?_; clear hX X)); (first | refine wpL_step (fun X hX => ?_) | refine wpH_step (fun X hX => ?_) | refine wpE_step (fun X hX => ?_) | refine wpL_end ?_ | refine wpH_end ?_ | refine wpE_end ?_); try simp only [ oweC, oweP, opF, opH, ev, evs, evp, evo, Env.get, Env.set, putE, gdst, S0, S1, thenN, inBlockN, argEnv, builtinR, retE, fin, callR, reduceIte, Nat.reduceEqDiff, Nat.reduceAdd, reduceCtorEq, forall_const, Tryd.results61, Fx.ag3, Fx.ag31, Fx.ag4, Fx.ag78, Fx.ag93, Fx.es42, Fx.es93, Fx.fo31_2, Fx.isl42])
  refine Runs.store hb5 Fx.zi31 rfl (by intro u hu; simp [Value.cells, Wd.row] at hu; rcases hu with rfl | rfl | rfl <;> rfl) (by simp [Value.cells]) (fun w6 hc6 hs6 hb6 => ?_)
  rw [splice_all _ _ (by simp [Value.cells])] at hb6
  simp only [Value.cells] at hb6
  have he6 : Ext w4 w6 := he5.chg_trans hc6 (fun i hi => by omega)
  have hs46 := he6.size
  have hq6 := hq4.ext he6
  have hws := hc4.size
  have hx2 : w6.cell? ⟨B5, 2, none⟩ = some (.int .i64 x.r) := hb6.cell (j := 2) rfl
  have hc46 : Chg G w w6 := hc4.trans (he6.chg G)
  repeat ((try first | (refine ofX3 hX ?_; clear hX X) | (refine ofX2 hX ?_; clear hX X)); (first | refine wpL_step (fun X hX => ?_) | refine wpH_step (fun X hX => ?_) | refine wpE_step (fun X hX => ?_) | refine wpL_end ?_ | refine wpH_end ?_ | refine wpE_end ?_); try simp only [ oweC, oweP, opF, opH, ev, evs, evp, evo, Env.get, Env.set, putE, gdst, S0, S1, thenN, inBlockN, argEnv, builtinR, retE, fin, callR, reduceIte, Nat.reduceEqDiff, Nat.reduceAdd, reduceCtorEq, forall_const, Tryd.results61, Fx.ag3, Fx.ag31, Fx.ag4, Fx.ag78, Fx.ag93, Fx.es42, Fx.es93, Fx.fo31_2, Fx.isl42])
  refine hM _ _ _ ?_; clear hM M
  have hno : ¬ (x.r ≠ 0 ∧ sn4[x.r.toNat]? = some false) → pushF sn q l = pushF sn4 q4 (l.drop (i + 1)) := fun h => by
    rw [hpf]; simp only [pushF]; rw [if_neg h]
  have hlt : x.r.toNat < sn4.length := by rw [hQ4.len]; omega
  have hgv : sn4[x.r.toNat]? = some sn4[x.r.toNat] := List.getElem?_eq_getElem hlt
  generalize sn4[x.r.toNat] = bv at hgv
  refine ok_seq (fun M hM => ok_region rfl ?_)
  repeat ((try first | (refine ofX3 hX ?_; clear hX X) | (refine ofX2 hX ?_; clear hX X)); (first | refine wpL_step (fun X hX => ?_) | refine wpH_step (fun X hX => ?_) | refine wpE_step (fun X hX => ?_) | refine wpL_end ?_ | refine wpH_end ?_ | refine wpE_end ?_); try simp only [ oweC, oweP, opF, opH, ev, evs, evp, evo, Env.get, Env.set, putE, gdst, S0, S1, thenN, inBlockN, argEnv, builtinR, retE, fin, callR, reduceIte, Nat.reduceEqDiff, Nat.reduceAdd, reduceCtorEq, forall_const, Tryd.results61, Fx.ag3, Fx.ag31, Fx.ag4, Fx.ag78, Fx.ag93, Fx.es42, Fx.es93, Fx.fo31_2, Fx.isl42])
  refine ⟨_, hx2, ?_⟩
  repeat ((try first | (refine ofX3 hX ?_; clear hX X) | (refine ofX2 hX ?_; clear hX X)); (first | refine wpL_step (fun X hX => ?_) | refine wpH_step (fun X hX => ?_) | refine wpE_step (fun X hX => ?_) | refine wpL_end ?_ | refine wpH_end ?_ | refine wpE_end ?_); try simp only [ oweC, oweP, opF, opH, ev, evs, evp, evo, Env.get, Env.set, putE, gdst, S0, S1, thenN, inBlockN, argEnv, builtinR, retE, fin, callR, reduceIte, Nat.reduceEqDiff, Nat.reduceAdd, reduceCtorEq, forall_const, Tryd.results61, Fx.ag3, Fx.ag31, Fx.ag4, Fx.ag78, Fx.ag93, Fx.es42, Fx.es93, Fx.fo31_2, Fx.isl42])
  refine ⟨fun h => ?_, fun h => ?_⟩
  rotate_left
  · have hx0 : x.r = 0 := by simpa using h
    repeat ((try first | (refine ofX3 hX ?_; clear hX X) | (refine ofX2 hX ?_; clear hX X)); (first | refine wpL_step (fun X hX => ?_) | refine wpH_step (fun X hX => ?_) | refine wpE_step (fun X hX => ?_) | refine wpL_end ?_ | refine wpH_end ?_ | refine wpE_end ?_); try simp only [ oweC, oweP, opF, opH, ev, evs, evp, evo, Env.get, Env.set, putE, gdst, S0, S1, thenN, inBlockN, argEnv, builtinR, retE, fin, callR, reduceIte, Nat.reduceEqDiff, Nat.reduceAdd, reduceCtorEq, forall_const, Tryd.results61, Fx.ag3, Fx.ag31, Fx.ag4, Fx.ag78, Fx.ag93, Fx.es42, Fx.es93, Fx.fo31_2, Fx.isl42])
    refine hM _ _ _ ?_; clear hM M
    refine ok_cond rfl (fun h => by cases h) (fun _ => ok_skip ?_)
    try simp only [wpL, wpH, wpE, oweC, oweP, opF, opH, ev, evs, evp, evo, Env.get, Env.set, putE, gdst, S0, S1, thenN, inBlockN, argEnv, builtinR, retE, fin, callR, reduceIte, Nat.reduceEqDiff, Nat.reduceAdd, reduceCtorEq, forall_const, Tryd.results61, Fx.ag3, Fx.ag31, Fx.ag4, Fx.ag78, Fx.ag93, Fx.es42, Fx.es93, Fx.fo31_2, Fx.isl42]
    exact ⟨by simp [sub, Env.get], sn4, q4, qv4, G4, hq6, hc46, hG1, hG2, hQ4, hql4, hno (fun h => h.1 hx0)⟩
  have hx0 : ¬ x.r = 0 := by simpa using h
  repeat ((try first | (refine ofX3 hX ?_; clear hX X) | (refine ofX2 hX ?_; clear hX X)); (first | refine wpL_step (fun X hX => ?_) | refine wpH_step (fun X hX => ?_) | refine wpE_step (fun X hX => ?_) | refine wpL_end ?_ | refine wpH_end ?_ | refine wpE_end ?_); try simp only [ oweC, oweP, opF, opH, ev, evs, evp, evo, Env.get, Env.set, putE, gdst, S0, S1, thenN, inBlockN, argEnv, builtinR, retE, fin, callR, reduceIte, Nat.reduceEqDiff, Nat.reduceAdd, reduceCtorEq, forall_const, Tryd.results61, Fx.ag3, Fx.ag31, Fx.ag4, Fx.ag78, Fx.ag93, Fx.es42, Fx.es93, Fx.fo31_2, Fx.isl42])
  refine ⟨_, hq6.c1.cell (j := 0) rfl, ?_⟩
  repeat ((try first | (refine ofX3 hX ?_; clear hX X) | (refine ofX2 hX ?_; clear hX X)); (first | refine wpL_step (fun X hX => ?_) | refine wpH_step (fun X hX => ?_) | refine wpE_step (fun X hX => ?_) | refine wpL_end ?_ | refine wpH_end ?_ | refine wpE_end ?_); try simp only [ oweC, oweP, opF, opH, ev, evs, evp, evo, Env.get, Env.set, putE, gdst, S0, S1, thenN, inBlockN, argEnv, builtinR, retE, fin, callR, reduceIte, Nat.reduceEqDiff, Nat.reduceAdd, reduceCtorEq, forall_const, Tryd.results61, Fx.ag3, Fx.ag31, Fx.ag4, Fx.ag78, Fx.ag93, Fx.es42, Fx.es93, Fx.fo31_2, Fx.isl42])
  refine ⟨_, hx2, ?_⟩
  repeat ((try first | (refine ofX3 hX ?_; clear hX X) | (refine ofX2 hX ?_; clear hX X)); (first | refine wpL_step (fun X hX => ?_) | refine wpH_step (fun X hX => ?_) | refine wpE_step (fun X hX => ?_) | refine wpL_end ?_ | refine wpH_end ?_ | refine wpE_end ?_); try simp only [ oweC, oweP, opF, opH, ev, evs, evp, evo, Env.get, Env.set, putE, gdst, S0, S1, thenN, inBlockN, argEnv, builtinR, retE, fin, callR, reduceIte, Nat.reduceEqDiff, Nat.reduceAdd, reduceCtorEq, forall_const, Tryd.results61, Fx.ag3, Fx.ag31, Fx.ag4, Fx.ag78, Fx.ag93, Fx.es42, Fx.es93, Fx.fo31_2, Fx.isl42])
  refine ⟨by omega, by omega, ?_⟩
  repeat ((try first | (refine ofX3 hX ?_; clear hX X) | (refine ofX2 hX ?_; clear hX X)); (first | refine wpL_step (fun X hX => ?_) | refine wpH_step (fun X hX => ?_) | refine wpE_step (fun X hX => ?_) | refine wpL_end ?_ | refine wpH_end ?_ | refine wpE_end ?_); try simp only [ oweC, oweP, opF, opH, ev, evs, evp, evo, Env.get, Env.set, putE, gdst, S0, S1, thenN, inBlockN, argEnv, builtinR, retE, fin, callR, reduceIte, Nat.reduceEqDiff, Nat.reduceAdd, reduceCtorEq, forall_const, Tryd.results61, Fx.ag3, Fx.ag31, Fx.ag4, Fx.ag78, Fx.ag93, Fx.es42, Fx.es93, Fx.fo31_2, Fx.isl42])
  refine ⟨.bool bv, by have := hq6.bs.cell (j := x.r.toNat) (bvs_get hgv); simpa [add_at] using this, ?_⟩
  repeat ((try first | (refine ofX3 hX ?_; clear hX X) | (refine ofX2 hX ?_; clear hX X)); (first | refine wpL_step (fun X hX => ?_) | refine wpH_step (fun X hX => ?_) | refine wpE_step (fun X hX => ?_) | refine wpL_end ?_ | refine wpH_end ?_ | refine wpE_end ?_); try simp only [ oweC, oweP, opF, opH, ev, evs, evp, evo, Env.get, Env.set, putE, gdst, S0, S1, thenN, inBlockN, argEnv, builtinR, retE, fin, callR, reduceIte, Nat.reduceEqDiff, Nat.reduceAdd, reduceCtorEq, forall_const, Tryd.results61, Fx.ag3, Fx.ag31, Fx.ag4, Fx.ag78, Fx.ag93, Fx.es42, Fx.es93, Fx.fo31_2, Fx.isl42])
  refine hM _ _ _ ?_; clear hM M
  cases bv with
  | true =>
    refine ok_cond (b := false) rfl (fun h => by cases h) (fun _ => ok_skip ?_)
    try simp only [wpL, wpH, wpE, oweC, oweP, opF, opH, ev, evs, evp, evo, Env.get, Env.set, putE, gdst, S0, S1, thenN, inBlockN, argEnv, builtinR, retE, fin, callR, reduceIte, Nat.reduceEqDiff, Nat.reduceAdd, reduceCtorEq, forall_const, Tryd.results61, Fx.ag3, Fx.ag31, Fx.ag4, Fx.ag78, Fx.ag93, Fx.es42, Fx.es93, Fx.fo31_2, Fx.isl42]
    exact ⟨by simp [sub, Env.get], sn4, q4, qv4, G4, hq6, hc46, hG1, hG2, hQ4, hql4, hno (fun h => by rw [hgv] at h; cases h.2)⟩
  | false =>
    refine ok_cond (b := true) rfl (fun _ => ?_) (fun h => by cases h)
    have hpf2 : pushF sn q l = pushF (sn4.set x.r.toNat true) (q4 ++ [x.r]) (l.drop (i + 1)) := by
      rw [hpf]; simp only [pushF]; rw [if_pos ⟨hx0, hgv⟩]
    refine ok_seq (fun M hM => ok_region rfl ?_)
    repeat ((try first | (refine ofX3 hX ?_; clear hX X) | (refine ofX2 hX ?_; clear hX X)); (first | refine wpL_step (fun X hX => ?_) | refine wpH_step (fun X hX => ?_) | refine wpE_step (fun X hX => ?_) | refine wpL_end ?_ | refine wpH_end ?_ | refine wpE_end ?_); try simp only [ oweC, oweP, opF, opH, ev, evs, evp, evo, Env.get, Env.set, putE, gdst, S0, S1, thenN, inBlockN, argEnv, builtinR, retE, fin, callR, reduceIte, Nat.reduceEqDiff, Nat.reduceAdd, reduceCtorEq, forall_const, Tryd.results61, Fx.ag3, Fx.ag31, Fx.ag4, Fx.ag78, Fx.ag93, Fx.es42, Fx.es93, Fx.fo31_2, Fx.isl42])
    refine ⟨_, hq6.c1.cell (j := 0) rfl, ?_⟩
    repeat ((try first | (refine ofX3 hX ?_; clear hX X) | (refine ofX2 hX ?_; clear hX X)); (first | refine wpL_step (fun X hX => ?_) | refine wpH_step (fun X hX => ?_) | refine wpE_step (fun X hX => ?_) | refine wpL_end ?_ | refine wpH_end ?_ | refine wpE_end ?_); try simp only [ oweC, oweP, opF, opH, ev, evs, evp, evo, Env.get, Env.set, putE, gdst, S0, S1, thenN, inBlockN, argEnv, builtinR, retE, fin, callR, reduceIte, Nat.reduceEqDiff, Nat.reduceAdd, reduceCtorEq, forall_const, Tryd.results61, Fx.ag3, Fx.ag31, Fx.ag4, Fx.ag78, Fx.ag93, Fx.es42, Fx.es93, Fx.fo31_2, Fx.isl42])
    refine ⟨_, hx2, ?_⟩
    repeat ((try first | (refine ofX3 hX ?_; clear hX X) | (refine ofX2 hX ?_; clear hX X)); (first | refine wpL_step (fun X hX => ?_) | refine wpH_step (fun X hX => ?_) | refine wpE_step (fun X hX => ?_) | refine wpL_end ?_ | refine wpH_end ?_ | refine wpE_end ?_); try simp only [ oweC, oweP, opF, opH, ev, evs, evp, evo, Env.get, Env.set, putE, gdst, S0, S1, thenN, inBlockN, argEnv, builtinR, retE, fin, callR, reduceIte, Nat.reduceEqDiff, Nat.reduceAdd, reduceCtorEq, forall_const, Tryd.results61, Fx.ag3, Fx.ag31, Fx.ag4, Fx.ag78, Fx.ag93, Fx.es42, Fx.es93, Fx.fo31_2, Fx.isl42])
    refine ⟨by omega, by omega, ?_⟩
    repeat ((try first | (refine ofX3 hX ?_; clear hX X) | (refine ofX2 hX ?_; clear hX X)); (first | refine wpL_step (fun X hX => ?_) | refine wpH_step (fun X hX => ?_) | refine wpE_step (fun X hX => ?_) | refine wpL_end ?_ | refine wpH_end ?_ | refine wpE_end ?_); try simp only [ oweC, oweP, opF, opH, ev, evs, evp, evo, Env.get, Env.set, putE, gdst, S0, S1, thenN, inBlockN, argEnv, builtinR, retE, fin, callR, reduceIte, Nat.reduceEqDiff, Nat.reduceAdd, reduceCtorEq, forall_const, Tryd.results61, Fx.ag3, Fx.ag31, Fx.ag4, Fx.ag78, Fx.ag93, Fx.es42, Fx.es93, Fx.fo31_2, Fx.isl42])
    simp only [Nat.zero_add]
    refine Runs.store (b := B) (o := x.r.toNat) (v := .bool true) hq6.bs Fx.zi4 rfl (by intro u hu; simp [Value.cells] at hu; subst hu; rfl) (by simp [bvs]; omega) (fun w7 hc7 hs7 hb7 => ?_)
    rw [show (Value.cells (.bool true)).toList = [Value.bool true] from rfl, bvs_set _ _ _ hlt] at hb7
    repeat ((try first | (refine ofX3 hX ?_; clear hX X) | (refine ofX2 hX ?_; clear hX X)); (first | refine wpL_step (fun X hX => ?_) | refine wpH_step (fun X hX => ?_) | refine wpE_step (fun X hX => ?_) | refine wpL_end ?_ | refine wpH_end ?_ | refine wpE_end ?_); try simp only [ oweC, oweP, opF, opH, ev, evs, evp, evo, Env.get, Env.set, putE, gdst, S0, S1, thenN, inBlockN, argEnv, builtinR, retE, fin, callR, reduceIte, Nat.reduceEqDiff, Nat.reduceAdd, reduceCtorEq, forall_const, Tryd.results61, Fx.ag3, Fx.ag31, Fx.ag4, Fx.ag78, Fx.ag93, Fx.es42, Fx.es93, Fx.fo31_2, Fx.isl42])
    refine hM _ _ _ ?_; clear hM M
    have hBl := (hq4.lt B hq4.gB).2
    have hcsl := (hq4.lt cs hq4.gs).2
    have hcql := (hq4.lt cq hq4.gq).2
    have hc17 : Blk w7 cs _ 93 := hq6.c1.chg hc7 (fun h => hq4.ne.1 h.symm)
    have hc27 : Blk w7 cq _ 78 := hq6.c2.chg hc7 (fun h => hq4.ne.2.1 h.symm)
    have hown7 := owns_chg' hq6.own hc7 (fun k hk h => (hq4.go k hk).2.1 h)
    have hx27 : w7.cell? ⟨B5, 2, none⟩ = some (.int .i64 x.r) := hc7.cell hx2 (by simp only; omega)
    refine ok_region rfl ?_
    repeat ((try first | (refine ofX3 hX ?_; clear hX X) | (refine ofX2 hX ?_; clear hX X)); (first | refine wpL_step (fun X hX => ?_) | refine wpH_step (fun X hX => ?_) | refine wpE_step (fun X hX => ?_) | refine wpL_end ?_ | refine wpH_end ?_ | refine wpE_end ?_); try simp only [ oweC, oweP, opF, opH, ev, evs, evp, evo, Env.get, Env.set, putE, gdst, S0, S1, thenN, inBlockN, argEnv, builtinR, retE, fin, callR, reduceIte, Nat.reduceEqDiff, Nat.reduceAdd, reduceCtorEq, forall_const, Tryd.results61, Fx.ag3, Fx.ag31, Fx.ag4, Fx.ag78, Fx.ag93, Fx.es42, Fx.es93, Fx.fo31_2, Fx.isl42])
    refine ⟨_, hc27.cell (j := 0) rfl, ?_⟩
    repeat ((try first | (refine ofX3 hX ?_; clear hX X) | (refine ofX2 hX ?_; clear hX X)); (first | refine wpL_step (fun X hX => ?_) | refine wpH_step (fun X hX => ?_) | refine wpE_step (fun X hX => ?_) | refine wpL_end ?_ | refine wpH_end ?_ | refine wpE_end ?_); try simp only [ oweC, oweP, opF, opH, ev, evs, evp, evo, Env.get, Env.set, putE, gdst, S0, S1, thenN, inBlockN, argEnv, builtinR, retE, fin, callR, reduceIte, Nat.reduceEqDiff, Nat.reduceAdd, reduceCtorEq, forall_const, Tryd.results61, Fx.ag3, Fx.ag31, Fx.ag4, Fx.ag78, Fx.ag93, Fx.es42, Fx.es93, Fx.fo31_2, Fx.isl42])
    refine ⟨_, hx27, ?_⟩
    repeat ((try first | (refine ofX3 hX ?_; clear hX X) | (refine ofX2 hX ?_; clear hX X)); (first | refine wpL_step (fun X hX => ?_) | refine wpH_step (fun X hX => ?_) | refine wpE_step (fun X hX => ?_) | refine wpL_end ?_ | refine wpH_end ?_ | refine wpE_end ?_); try simp only [ oweC, oweP, opF, opH, ev, evs, evp, evo, Env.get, Env.set, putE, gdst, S0, S1, thenN, inBlockN, argEnv, builtinR, retE, fin, callR, reduceIte, Nat.reduceEqDiff, Nat.reduceAdd, reduceCtorEq, forall_const, Tryd.results61, Fx.ag3, Fx.ag31, Fx.ag4, Fx.ag78, Fx.ag93, Fx.es42, Fx.es93, Fx.fo31_2, Fx.isl42])
    refine Runs.lit (cs := [.int .i64 x.r]) Fx.un78 Fx.zi3 (by decide) (by kernel_rfl) (by decide) (fun w8 he8 hs8 hb8 => ?_)
    repeat ((try first | (refine ofX3 hX ?_; clear hX X) | (refine ofX2 hX ?_; clear hX X)); (first | refine wpL_step (fun X hX => ?_) | refine wpH_step (fun X hX => ?_) | refine wpE_step (fun X hX => ?_) | refine wpL_end ?_ | refine wpH_end ?_ | refine wpE_end ?_); try simp only [ oweC, oweP, opF, opH, ev, evs, evp, evo, Env.get, Env.set, putE, gdst, S0, S1, thenN, inBlockN, argEnv, builtinR, retE, fin, callR, reduceIte, Nat.reduceEqDiff, Nat.reduceAdd, reduceCtorEq, forall_const, Tryd.results61, Fx.ag3, Fx.ag31, Fx.ag4, Fx.ag78, Fx.ag93, Fx.es42, Fx.es93, Fx.fo31_2, Fx.isl42])
    have hown8 := owns_chg' hown7 (he8.chg (fun _ => False)) (fun _ _ h => h)
    have hbl := (hq4.lt B hq4.gB).1
    refine Runs.append1' Fx.un78 Fx.zi3 rfl (by decide) hown8 hb8 rfl (by intro u hu; simp at hu; subst hu; rfl) (by simp [maxLen]; omega) (by omega) (by omega) (fun v' w9 hown9 hg9 hblk => ?_)
    have hc9 : Chg (fun k => qv4.ownBlock = some k) w8 w9 := ⟨hg9.os, hg9.tape, hg9.output, hg9.size, fun k hk hs => hg9.block k hk (fun e => hs e.symm)⟩
    have hs9 := hc9.size
    have hv1 : v'.oneCell' = true ∧ v'.cells = #[v'] := by
      rcases hown9.2 with ⟨rfl, _⟩ | ⟨g, cap, cur, rfl, _⟩ <;> exact ⟨rfl, rfl⟩
    have hc29 : Blk w9 cq _ 78 := (hc27.ext he8).chg hc9 (fun h => (hq4.go cq h).2.2.2 rfl)
    repeat ((try first | (refine ofX3 hX ?_; clear hX X) | (refine ofX2 hX ?_; clear hX X)); (first | refine wpL_step (fun X hX => ?_) | refine wpH_step (fun X hX => ?_) | refine wpE_step (fun X hX => ?_) | refine wpL_end ?_ | refine wpH_end ?_ | refine wpE_end ?_); try simp only [ oweC, oweP, opF, opH, ev, evs, evp, evo, Env.get, Env.set, putE, gdst, S0, S1, thenN, inBlockN, argEnv, builtinR, retE, fin, callR, reduceIte, Nat.reduceEqDiff, Nat.reduceAdd, reduceCtorEq, forall_const, Tryd.results61, Fx.ag3, Fx.ag31, Fx.ag4, Fx.ag78, Fx.ag93, Fx.es42, Fx.es93, Fx.fo31_2, Fx.isl42])
    refine Runs.store hc29 Fx.zi78 (by rw [hv1.2]; rfl) (by rw [hv1.2]; intro u hu; simp at hu; subst hu; exact hv1.1) (by simp) (fun w10 hc10 hs10 hb10 => ?_)
    rw [hv1.2, splice_all _ _ (by simp)] at hb10
    repeat ((try first | (refine ofX3 hX ?_; clear hX X) | (refine ofX2 hX ?_; clear hX X)); (first | refine wpL_step (fun X hX => ?_) | refine wpH_step (fun X hX => ?_) | refine wpE_step (fun X hX => ?_) | refine wpL_end ?_ | refine wpH_end ?_ | refine wpE_end ?_); try simp only [ oweC, oweP, opF, opH, ev, evs, evp, evo, Env.get, Env.set, putE, gdst, S0, S1, thenN, inBlockN, argEnv, builtinR, retE, fin, callR, reduceIte, Nat.reduceEqDiff, Nat.reduceAdd, reduceCtorEq, forall_const, Tryd.results61, Fx.ag3, Fx.ag31, Fx.ag4, Fx.ag78, Fx.ag93, Fx.es42, Fx.es93, Fx.fo31_2, Fx.isl42])
    have hvn : ∀ k, v'.ownBlock = some k → qv4.ownBlock = some k ∨ k = w8.heap.size := fun k h => by
      rcases hblk with h' | h'
      · exact .inl (h' ▸ h)
      · rw [h'] at h; cases h; exact .inr rfl
    refine ⟨by simp [sub, Env.get], sn4.set x.r.toNat true, q4 ++ [x.r], v', fun k => G4 k ∨ k = w8.heap.size ∧ v'.ownBlock = some k, ?_, ?_, fun k h => .inl (hG1 k h), fun k h => ?_, hQ4.push hxr.1 hxr.2 hx0 hgv, ?_, hpf2⟩
    · refine ⟨((hb7.ext he8).chg hc9 (fun h => (hq4.go B h).2.1 rfl)).chg hc10 hq4.ne.2.1, ?_, hb10, ?_, .inl hq4.gB, .inl hq4.gs, .inl hq4.gq, fun k h => ?_, hq4.ne, fun k h => ?_⟩
      · rw [List.length_set]
        exact ((hc17.ext he8).chg hc9 (fun h => (hq4.go cs h).2.2.1 rfl)).chg hc10 hq4.ne.2.2
      · have := owns_chg' hown9 hc10 (fun k hk h => by
          rcases hvn k hk with h' | h'
          · exact (hq4.go k h').2.2.2 h
          · omega)
        simpa [ivs] using this
      · rcases hvn k h with h' | h'
        · exact ⟨.inl (hq4.go k h').1, (hq4.go k h').2⟩
        · exact ⟨.inr ⟨h', h⟩, by omega, by omega, by omega⟩
      · rcases h with h | ⟨h, h'⟩
        · have := hq4.lt k h; omega
        · have := (hown9.lt k h').2; omega
    · refine ⟨hc10.os.trans (hc9.os.trans (he8.os.trans (hc7.os.trans hc46.os))), hc10.tape.trans (hc9.tape.trans (he8.tape.trans (hc7.tape.trans hc46.tape))), hc10.output.trans (hc9.output.trans (he8.output.trans (hc7.output.trans hc46.output))), by omega, fun k hk hg => ?_⟩
      have ng : ∀ j, G4 j → k ≠ j := fun j hj e => by
        subst e
        rcases hG2 k hj with h | h
        · exact hg h
        · omega
      rw [hc10.block k (by omega) (ng cq hq4.gq), hc9.block k (by omega) (fun h => ng k (hq4.go k h).1 rfl), Below.block he8 k (by omega), hc7.block k (by omega) (ng B hq4.gB), hc46.block k hk hg]
    · rcases h with h | ⟨h, _⟩
      · exact hG2 k h
      · exact .inr (by omega)
    · have := unseen_set hgv
      simp
      omega
end Go.Proofs.YtldeokfhipjbfaaDoor
