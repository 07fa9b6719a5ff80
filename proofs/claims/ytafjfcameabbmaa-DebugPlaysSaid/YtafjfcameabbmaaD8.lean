/- What lies below a node; below, answer. -/
import Derived.Test.YtafjfcameabbmaaD7
set_option linter.unusedVariables false
set_option linter.unusedSimpArgs false
namespace Go.Proofs.Ytafjfcameabbmaa
open Go Go.Proofs.Vg Go.RowKit Dbg
namespace Dbg
/-- A node and those below it, in order. -/
def descF (ks : List (List Int)) : Nat → Nat → List Nat
  | 0, _ => []
  | f + 1, i => i :: (kidsOf ks i).flatMap fun k => descF ks f k.toNat
def desc (ks : List (List Int)) (i : Nat) : List Nat := descF ks (ks.length - i) i
theorem descF_fuel {ks : List (List Int)} (he : edgesB ks = true) : ∀ (f g i : Nat), i < ks.length → ks.length - i ≤ f → ks.length - i ≤ g → descF ks f i = descF ks g i
  | 0, g, i, hi, hf, _ => by omega
  | f + 1, 0, i, hi, _, hg => by omega
  | f + 1, g + 1, i, hi, hf, hg => by
    simp only [descF]
    congr 1
    rw [List.flatMap_eq_foldl, List.flatMap_eq_foldl, ← List.flatMap_eq_foldl, ← List.flatMap_eq_foldl]
    have : ∀ k ∈ kidsOf ks i, descF ks f k.toNat = descF ks g k.toNat := fun k hk => by
      have := kids_edge he hi hk
      exact descF_fuel he f g k.toNat (by omega) (by omega) (by omega)
    rw [List.flatMap_def, List.flatMap_def, List.map_congr_left this]
theorem desc_eq {ks : List (List Int)} (he : edgesB ks = true) {i : Nat} (hi : i < ks.length) : desc ks i = i :: (kidsOf ks i).flatMap fun k => desc ks k.toNat := by
  unfold desc
  obtain ⟨m, hm⟩ : ∃ m, ks.length - i = m + 1 := ⟨ks.length - i - 1, by omega⟩
  rw [hm]
  simp only [descF]
  congr 1
  have : ∀ k ∈ kidsOf ks i, descF ks m k.toNat = descF ks (ks.length - k.toNat) k.toNat := fun k hk => by
    have := kids_edge he hi hk
    exact descF_fuel he _ _ _ (by omega) (by omega) (by omega)
  rw [List.flatMap_def, List.flatMap_def, List.map_congr_left this]
theorem desc_lt {ks : List (List Int)} (he : edgesB ks = true) : ∀ (f i : Nat), ks.length - i ≤ f → i < ks.length → ∀ v ∈ desc ks i, i ≤ v ∧ v < ks.length
  | 0, i, hf, hi, v, hv => by omega
  | f + 1, i, hf, hi, v, hv => by
    rw [desc_eq he hi] at hv
    rcases List.mem_cons.1 hv with rfl | hv
    · omega
    · obtain ⟨k, hk, hv⟩ := List.mem_flatMap.1 hv
      have hk' := kids_edge he hi hk
      have := desc_lt he f k.toNat (by omega) (by omega) v hv
      omega
/-- Marks. -/
def marked (m : List Bool) (l : List Nat) : List Bool := l.foldl (fun m v => m.set v true) m
@[simp] theorem mark_length (m : List Bool) (l : List Nat) : (marked m l).length = m.length := by
  induction l generalizing m with
  | nil => rfl
  | cons v l ih => simp only [marked, List.foldl_cons] at ih ⊢; rw [ih]; simp
theorem mark_append (m : List Bool) (l l' : List Nat) : marked m (l ++ l') = marked (marked m l) l' := by simp [marked]
theorem mark_cons (m : List Bool) (v : Nat) (l : List Nat) : marked m (v :: l) = marked (m.set v true) l := rfl
theorem mark_get (m : List Bool) (l : List Nat) (v : Nat) (h : v < m.length) : (marked m l).getD v false = (decide (v ∈ l) || m.getD v false) := by
  induction l generalizing m with
  | nil => simp [marked]
  | cons u l ih =>
    rw [mark_cons, ih _ (by simpa using h)]
    by_cases hu : u = v
    · subst hu; simp [h]
    · have : ¬ v = u := fun e => hu e.symm
      simp [List.getElem?_set, hu, this]
/-- The kids' parts, the first ones. -/
def below (ks : List (List Int)) (i j : Nat) : List Nat := i :: ((kidsOf ks i).take j).flatMap fun k => desc ks k.toNat
theorem below_zero (ks : List (List Int)) (i : Nat) : below ks i 0 = [i] := rfl
theorem below_succ (ks : List (List Int)) (i j : Nat) (h : j < (kidsOf ks i).length) : below ks i (j + 1) = below ks i j ++ desc ks (kidsOf ks i)[j].toNat := by
  unfold below
  rw [List.take_succ_eq_append_getElem h, List.flatMap_append]
  simp
theorem below_all {ks : List (List Int)} (he : edgesB ks = true) {i : Nat} (hi : i < ks.length) : below ks i (kidsOf ks i).length = desc ks i := by
  rw [desc_eq he hi]; simp [below]
end Dbg

-- -- function 46
theorem mark1_ok (w : World) (b6 Bm i : Nat) (m : List Bool) (hi : i < m.length) (h6 : Blk w b6 [.slice (some ⟨Bm, 0, none⟩) m.length m.length] 23) (hm : Blk w Bm (bv m) 4) :
    Rets Try.prog 46 [.int .i64 (i : Int), .pointer (some ⟨b6, 0, none⟩)] w (fun v w' => v = .bool true ∧ Blk w' Bm (bv (m.set i true)) 4 ∧ Chg (· = Bm) w w') := by
  refine rets_of_ok Try.func46 rfl rfl ?_
  refine ok_seq (fun M hM => ok_region rfl ?_); try simp only [wpL, wpH, wpE, oweC, oweP, List.headD_cons, List.tail_cons, opF, opH, ev, evs, evp, evo, Env.get, Env.set, putE, gdst, bvAdd, bvSub, bvMul, bvEql, bvNeq, bvLss, bvLeq, bvGtr, bvGeq, bvSEql, bvSNeq, bvBEql, bvBNeq, thenN, inBlockN, argEnv, builtinR, retE, fin, callR, List.take_succ_cons, List.take_zero, List.drop_succ_cons, List.drop_zero, List.getElem?_cons_zero, List.getElem?_cons_succ, reduceIte, Nat.reduceEqDiff, Nat.reduceAdd, Bool.not_true, Bool.not_false, true_and, and_true, reduceCtorEq, forall_const, false_implies, true_implies, List.toList_toArray, List.cons_append, List.nil_append, Int.toNat_natCast, add_at, Nat.mul_one, Nat.add_zero, Try.results46, Fx.ag23, Fx.es23]
  refine hM _ _ _ ?_; clear hM M
  refine ok_seq (fun M hM => ok_region rfl ?_)
  try simp only [wpL, wpH, wpE, oweC, oweP, List.headD_cons, List.tail_cons, opF, opH, ev, evs, evp, evo, Env.get, Env.set, putE, gdst, bvAdd, bvSub, bvMul, bvEql, bvNeq, bvLss, bvLeq, bvGtr, bvGeq, bvSEql, bvSNeq, bvBEql, bvBNeq, thenN, inBlockN, argEnv, builtinR, retE, fin, callR, List.take_succ_cons, List.take_zero, List.drop_succ_cons, List.drop_zero, List.getElem?_cons_zero, List.getElem?_cons_succ, reduceIte, Nat.reduceEqDiff, Nat.reduceAdd, Bool.not_true, Bool.not_false, true_and, and_true, reduceCtorEq, forall_const, false_implies, true_implies, List.toList_toArray, List.cons_append, List.nil_append, Int.toNat_natCast, add_at, Nat.mul_one, Nat.add_zero, Try.results46, Fx.ag23, Fx.es23]
  refine ⟨_, h6.cell rfl, ?_⟩
  try simp only [wpL, wpH, wpE, oweC, oweP, List.headD_cons, List.tail_cons, opF, opH, ev, evs, evp, evo, Env.get, Env.set, putE, gdst, bvAdd, bvSub, bvMul, bvEql, bvNeq, bvLss, bvLeq, bvGtr, bvGeq, bvSEql, bvSNeq, bvBEql, bvBNeq, thenN, inBlockN, argEnv, builtinR, retE, fin, callR, List.take_succ_cons, List.take_zero, List.drop_succ_cons, List.drop_zero, List.getElem?_cons_zero, List.getElem?_cons_succ, reduceIte, Nat.reduceEqDiff, Nat.reduceAdd, Bool.not_true, Bool.not_false, true_and, and_true, reduceCtorEq, forall_const, false_implies, true_implies, List.toList_toArray, List.cons_append, List.nil_append, Int.toNat_natCast, add_at, Nat.mul_one, Nat.add_zero, Try.results46, Fx.ag23, Fx.es23]
  refine ⟨by omega, by omega, ?_⟩
  refine Runs.store (o := 0 + i) hm Fx.zi4 rfl (by simp [Value.cells, Value.oneCell']) (by simp; omega) (fun W3 hc3 hz3 hb3 => ?_)
  try simp only [wpL, wpH, wpE, oweC, oweP, List.headD_cons, List.tail_cons, opF, opH, ev, evs, evp, evo, Env.get, Env.set, putE, gdst, bvAdd, bvSub, bvMul, bvEql, bvNeq, bvLss, bvLeq, bvGtr, bvGeq, bvSEql, bvSNeq, bvBEql, bvBNeq, thenN, inBlockN, argEnv, builtinR, retE, fin, callR, List.take_succ_cons, List.take_zero, List.drop_succ_cons, List.drop_zero, List.getElem?_cons_zero, List.getElem?_cons_succ, reduceIte, Nat.reduceEqDiff, Nat.reduceAdd, Bool.not_true, Bool.not_false, true_and, and_true, reduceCtorEq, forall_const, false_implies, true_implies, List.toList_toArray, List.cons_append, List.nil_append, Int.toNat_natCast, add_at, Nat.mul_one, Nat.add_zero, Try.results46, Fx.ag23, Fx.es23]
  refine hM _ _ _ ?_; clear hM M
  refine ok_seq (fun M hM => ok_region rfl ?_); try simp only [wpL, wpH, wpE, oweC, oweP, List.headD_cons, List.tail_cons, opF, opH, ev, evs, evp, evo, Env.get, Env.set, putE, gdst, bvAdd, bvSub, bvMul, bvEql, bvNeq, bvLss, bvLeq, bvGtr, bvGeq, bvSEql, bvSNeq, bvBEql, bvBNeq, thenN, inBlockN, argEnv, builtinR, retE, fin, callR, List.take_succ_cons, List.take_zero, List.drop_succ_cons, List.drop_zero, List.getElem?_cons_zero, List.getElem?_cons_succ, reduceIte, Nat.reduceEqDiff, Nat.reduceAdd, Bool.not_true, Bool.not_false, true_and, and_true, reduceCtorEq, forall_const, false_implies, true_implies, List.toList_toArray, List.cons_append, List.nil_append, Int.toNat_natCast, add_at, Nat.mul_one, Nat.add_zero, Try.results46, Fx.ag23, Fx.es23]
  refine hM _ _ _ ?_; clear hM M
  refine ok_ret ?_
  try simp only [wpL, wpH, wpE, oweC, oweP, List.headD_cons, List.tail_cons, opF, opH, ev, evs, evp, evo, Env.get, Env.set, putE, gdst, bvAdd, bvSub, bvMul, bvEql, bvNeq, bvLss, bvLeq, bvGtr, bvGeq, bvSEql, bvSNeq, bvBEql, bvBNeq, thenN, inBlockN, argEnv, builtinR, retE, fin, callR, List.take_succ_cons, List.take_zero, List.drop_succ_cons, List.drop_zero, List.getElem?_cons_zero, List.getElem?_cons_succ, reduceIte, Nat.reduceEqDiff, Nat.reduceAdd, Bool.not_true, Bool.not_false, true_and, and_true, reduceCtorEq, forall_const, false_implies, true_implies, List.toList_toArray, List.cons_append, List.nil_append, Int.toNat_natCast, add_at, Nat.mul_one, Nat.add_zero, Try.results46, Fx.ag23, Fx.es23]
  refine ⟨?_, hc3⟩
  have : splice (bv m) (0 + i) (Value.bool true).cells.toList = bv (m.set i true) := by
    rw [Nat.zero_add]
    have := splice_one (bv m) i (.bool true) (by simpa using hi)
    rw [show (Value.bool true).cells.toList = [.bool true] from rfl, this]
    simp [bv, List.map_set]
  rw [← this]; exact hb3

-- -- function 45
set_option maxHeartbeats 1000000 in
theorem below_ok (w0 : World) (q B : Nat) (vn : Value) (ks : List (List Int)) (sus : List Bool) (root b6 Bm : Nat) (hn : NodesG w0 vn ks) (hbd : ks.length ≤ 1000) (hed : edgesB ks = true) (hm0 : w0.heap.size ≤ Bm) (h6m : b6 ≠ Bm) (hqm : q ≠ Bm) :
    ∀ (f i : Nat) (w : World) (m : List Bool), ks.length - i ≤ f → i < ks.length → m.length = ks.length → Ext w0 w → Blk w q [vn, .slice (some ⟨B, 0, none⟩) sus.length sus.length, .int .i64 (root : Int)] 55 →
      Blk w b6 [.slice (some ⟨Bm, 0, none⟩) m.length m.length] 23 → Blk w Bm (bv m) 4 →
      Rets Try.prog 45 [.pointer (some ⟨q, 0, none⟩), .int .i64 (i : Int), .func (.func 46) #[] #[.pointer (some ⟨b6, 0, none⟩)]] w (fun v w' => v = .bool true ∧ Blk w' Bm (bv (marked m (desc ks i))) 4 ∧ Chg (· = Bm) w w') := by
  intro f
  induction f with
  | zero => intro i w m hf hi; omega
  | succ f ih =>
    intro i w m hf hi hml he0 hbq hb6 hbm
    obtain ⟨A, cp, rfl, hlen, hrow⟩ := hn.at_
    have hklen : (kidsOf ks i).length = ks[i].length := by rw [kidsOf_get ks i hi]
    refine rets_of_ok Try.func45 rfl rfl ?_
    refine ok_seq (fun M hM => ok_region rfl ?_); try simp only [wpL, wpH, wpE, oweC, oweP, List.headD_cons, List.tail_cons, opF, opH, ev, evs, evp, evo, Env.get, Env.set, putE, gdst, bvAdd, bvSub, bvMul, bvEql, bvNeq, bvLss, bvLeq, bvGtr, bvGeq, bvSEql, bvSNeq, bvBEql, bvBNeq, thenN, inBlockN, argEnv, builtinR, retE, fin, callR, List.take_succ_cons, List.take_zero, List.drop_succ_cons, List.drop_zero, List.getElem?_cons_zero, List.getElem?_cons_succ, reduceIte, Nat.reduceEqDiff, Nat.reduceAdd, Bool.not_true, Bool.not_false, true_and, and_true, reduceCtorEq, forall_const, false_implies, true_implies, List.toList_toArray, List.cons_append, List.nil_append, Int.toNat_natCast, add_at, Nat.mul_one, Nat.add_zero, Try.results45, Fx.ag22, Fx.ag26, Fx.ag3, Fx.es22, Fx.es26, Fx.fo37_4, Fx.fo55_0, Fx.isl26]
    refine hM _ _ _ ?_; clear hM M
    refine ok_join [(0, .pointer (some ⟨q, 0, none⟩)), (1, .int .i64 (i : Int)), (2, .func (.func 46) #[] #[.pointer (some ⟨b6, 0, none⟩)])] (fun w' => Blk w' Bm (bv (marked m [i])) 4 ∧ Chg (· = Bm) w w') ?_ ?_
    · refine ok_seq (fun M hM => ok_region rfl ?_)
      try simp only [wpL, wpH, wpE, oweC, oweP, List.headD_cons, List.tail_cons, opF, opH, ev, evs, evp, evo, Env.get, Env.set, putE, gdst, bvAdd, bvSub, bvMul, bvEql, bvNeq, bvLss, bvLeq, bvGtr, bvGeq, bvSEql, bvSNeq, bvBEql, bvBNeq, thenN, inBlockN, argEnv, builtinR, retE, fin, callR, List.take_succ_cons, List.take_zero, List.drop_succ_cons, List.drop_zero, List.getElem?_cons_zero, List.getElem?_cons_succ, reduceIte, Nat.reduceEqDiff, Nat.reduceAdd, Bool.not_true, Bool.not_false, true_and, and_true, reduceCtorEq, forall_const, false_implies, true_implies, List.toList_toArray, List.cons_append, List.nil_append, Int.toNat_natCast, add_at, Nat.mul_one, Nat.add_zero, Try.results45, Fx.ag22, Fx.ag26, Fx.ag3, Fx.es22, Fx.es26, Fx.fo37_4, Fx.fo55_0, Fx.isl26]
      refine Inv.clos (cap := [.pointer (some ⟨b6, 0, none⟩)]) Fx.en46 (mark1_ok w b6 Bm i m (by omega) hb6 hbm) ?_
      rintro v w1 ⟨rfl, hb1, hc1⟩
      try simp only [wpL, wpH, wpE, oweC, oweP, List.headD_cons, List.tail_cons, opF, opH, ev, evs, evp, evo, Env.get, Env.set, putE, gdst, bvAdd, bvSub, bvMul, bvEql, bvNeq, bvLss, bvLeq, bvGtr, bvGeq, bvSEql, bvSNeq, bvBEql, bvBNeq, thenN, inBlockN, argEnv, builtinR, retE, fin, callR, List.take_succ_cons, List.take_zero, List.drop_succ_cons, List.drop_zero, List.getElem?_cons_zero, List.getElem?_cons_succ, reduceIte, Nat.reduceEqDiff, Nat.reduceAdd, Bool.not_true, Bool.not_false, true_and, and_true, reduceCtorEq, forall_const, false_implies, true_implies, List.toList_toArray, List.cons_append, List.nil_append, Int.toNat_natCast, add_at, Nat.mul_one, Nat.add_zero, Try.results45, Fx.ag22, Fx.ag26, Fx.ag3, Fx.es22, Fx.es26, Fx.fo37_4, Fx.fo55_0, Fx.isl26]
      refine hM _ _ _ ?_; clear hM M
      refine ok_cond rfl (fun h => by cases h) (fun _ => ok_skip ?_)
      try simp only [wpL, wpH, wpE, oweC, oweP, List.headD_cons, List.tail_cons, opF, opH, ev, evs, evp, evo, Env.get, Env.set, putE, gdst, bvAdd, bvSub, bvMul, bvEql, bvNeq, bvLss, bvLeq, bvGtr, bvGeq, bvSEql, bvSNeq, bvBEql, bvBNeq, thenN, inBlockN, argEnv, builtinR, retE, fin, callR, List.take_succ_cons, List.take_zero, List.drop_succ_cons, List.drop_zero, List.getElem?_cons_zero, List.getElem?_cons_succ, reduceIte, Nat.reduceEqDiff, Nat.reduceAdd, Bool.not_true, Bool.not_false, true_and, and_true, reduceCtorEq, forall_const, false_implies, true_implies, List.toList_toArray, List.cons_append, List.nil_append, Int.toNat_natCast, add_at, Nat.mul_one, Nat.add_zero, Try.results45, Fx.ag22, Fx.ag26, Fx.ag3, Fx.es22, Fx.es26, Fx.fo37_4, Fx.fo55_0, Fx.isl26]
      exact ⟨by simp [sub, Env.get], hb1, hc1⟩
    rintro w1 ⟨hb1, hc1⟩
    obtain ⟨b, o, c, p, vi, vo, vk, rfl, hcells, h1, h2, h3, h4, hk⟩ := hrow i hi
    obtain ⟨A2, c2, rfl, hl2, hk⟩ := hk.at_
    have hnb : ∀ {W : World} {a : Addr} {u : Value}, Chg (· = Bm) w W → w0.cell? a = some u → W.cell? a = some u := fun hW ha => hW.cell (he0.cell ha) (by
      have := World.block_lt_of_cell? w0 _ ha
      show ¬ _ = _
      omega)
    have hkc : w0.cell? ⟨b, o + i * 5 + 4, none⟩ = some (.slice A2 ks[i].length c2) := by simpa [add_at] using hcells 4 _ rfl
    refine ok_join [] (fun w' => Blk w' Bm (bv (marked m (desc ks i))) 4 ∧ Chg (· = Bm) w w') ?_ ?_
    · refine ok_seq (fun M hM => ok_region rfl ?_)
      try simp only [wpL, wpH, wpE, oweC, oweP, List.headD_cons, List.tail_cons, opF, opH, ev, evs, evp, evo, Env.get, Env.set, putE, gdst, bvAdd, bvSub, bvMul, bvEql, bvNeq, bvLss, bvLeq, bvGtr, bvGeq, bvSEql, bvSNeq, bvBEql, bvBNeq, thenN, inBlockN, argEnv, builtinR, retE, fin, callR, List.take_succ_cons, List.take_zero, List.drop_succ_cons, List.drop_zero, List.getElem?_cons_zero, List.getElem?_cons_succ, reduceIte, Nat.reduceEqDiff, Nat.reduceAdd, Bool.not_true, Bool.not_false, true_and, and_true, reduceCtorEq, forall_const, false_implies, true_implies, List.toList_toArray, List.cons_append, List.nil_append, Int.toNat_natCast, add_at, Nat.mul_one, Nat.add_zero, Try.results45, Fx.ag22, Fx.ag26, Fx.ag3, Fx.es22, Fx.es26, Fx.fo37_4, Fx.fo55_0, Fx.isl26]
      refine ⟨_, (hbq.chg hc1 hqm).cell rfl, ?_⟩
      try simp only [wpL, wpH, wpE, oweC, oweP, List.headD_cons, List.tail_cons, opF, opH, ev, evs, evp, evo, Env.get, Env.set, putE, gdst, bvAdd, bvSub, bvMul, bvEql, bvNeq, bvLss, bvLeq, bvGtr, bvGeq, bvSEql, bvSNeq, bvBEql, bvBNeq, thenN, inBlockN, argEnv, builtinR, retE, fin, callR, List.take_succ_cons, List.take_zero, List.drop_succ_cons, List.drop_zero, List.getElem?_cons_zero, List.getElem?_cons_succ, reduceIte, Nat.reduceEqDiff, Nat.reduceAdd, Bool.not_true, Bool.not_false, true_and, and_true, reduceCtorEq, forall_const, false_implies, true_implies, List.toList_toArray, List.cons_append, List.nil_append, Int.toNat_natCast, add_at, Nat.mul_one, Nat.add_zero, Try.results45, Fx.ag22, Fx.ag26, Fx.ag3, Fx.es22, Fx.es26, Fx.fo37_4, Fx.fo55_0, Fx.isl26]
      refine ⟨by omega, by omega, _, hnb hc1 hkc, ?_⟩
      try simp only [wpL, wpH, wpE, oweC, oweP, List.headD_cons, List.tail_cons, opF, opH, ev, evs, evp, evo, Env.get, Env.set, putE, gdst, bvAdd, bvSub, bvMul, bvEql, bvNeq, bvLss, bvLeq, bvGtr, bvGeq, bvSEql, bvSNeq, bvBEql, bvBNeq, thenN, inBlockN, argEnv, builtinR, retE, fin, callR, List.take_succ_cons, List.take_zero, List.drop_succ_cons, List.drop_zero, List.getElem?_cons_zero, List.getElem?_cons_succ, reduceIte, Nat.reduceEqDiff, Nat.reduceAdd, Bool.not_true, Bool.not_false, true_and, and_true, reduceCtorEq, forall_const, false_implies, true_implies, List.toList_toArray, List.cons_append, List.nil_append, Int.toNat_natCast, add_at, Nat.mul_one, Nat.add_zero, Try.results45, Fx.ag22, Fx.ag26, Fx.ag3, Fx.es22, Fx.es26, Fx.fo37_4, Fx.fo55_0, Fx.isl26]
      refine hM _ _ _ ?_; clear hM M
      refine ok_block ?_
      refine ok_loop (S := Nat) (fun j => [(0, .pointer (some ⟨q, 0, none⟩)), (1, .int .i64 (i : Int)), (2, .func (.func 46) #[] #[.pointer (some ⟨b6, 0, none⟩)]), (20, .slice A2 ks[i].length c2), (21, .int .i64 (ks[i].length : Int)), (22, .int .i64 (j : Int))])
        (fun j w' => Blk w' Bm (bv (marked m (below ks i j))) 4 ∧ Chg (· = Bm) w w' ∧ j ≤ ks[i].length) (fun j => ks[i].length - j) 0 ?_ ?_ ?_
      · simp [sub, Env.get]
      · exact ⟨hb1, hc1, Nat.zero_le _⟩
      rintro j w2 ⟨hb2, hc2, hj⟩
      refine ok_seq (fun M hM => ok_region rfl ?_); try simp only [wpL, wpH, wpE, oweC, oweP, List.headD_cons, List.tail_cons, opF, opH, ev, evs, evp, evo, Env.get, Env.set, putE, gdst, bvAdd, bvSub, bvMul, bvEql, bvNeq, bvLss, bvLeq, bvGtr, bvGeq, bvSEql, bvSNeq, bvBEql, bvBNeq, thenN, inBlockN, argEnv, builtinR, retE, fin, callR, List.take_succ_cons, List.take_zero, List.drop_succ_cons, List.drop_zero, List.getElem?_cons_zero, List.getElem?_cons_succ, reduceIte, Nat.reduceEqDiff, Nat.reduceAdd, Bool.not_true, Bool.not_false, true_and, and_true, reduceCtorEq, forall_const, false_implies, true_implies, List.toList_toArray, List.cons_append, List.nil_append, Int.toNat_natCast, add_at, Nat.mul_one, Nat.add_zero, Try.results45, Fx.ag22, Fx.ag26, Fx.ag3, Fx.es22, Fx.es26, Fx.fo37_4, Fx.fo55_0, Fx.isl26]
      refine hM _ _ _ ?_; clear hM M
      refine ok_seq (fun M hM => ok_if rfl (fun hc => ok_skip ?_) (fun hc => ok_exit ?_))
      rotate_left
      · try simp only [wpL, wpH, wpE, oweC, oweP, List.headD_cons, List.tail_cons, opF, opH, ev, evs, evp, evo, Env.get, Env.set, putE, gdst, bvAdd, bvSub, bvMul, bvEql, bvNeq, bvLss, bvLeq, bvGtr, bvGeq, bvSEql, bvSNeq, bvBEql, bvBNeq, thenN, inBlockN, argEnv, builtinR, retE, fin, callR, List.take_succ_cons, List.take_zero, List.drop_succ_cons, List.drop_zero, List.getElem?_cons_zero, List.getElem?_cons_succ, reduceIte, Nat.reduceEqDiff, Nat.reduceAdd, Bool.not_true, Bool.not_false, true_and, and_true, reduceCtorEq, forall_const, false_implies, true_implies, List.toList_toArray, List.cons_append, List.nil_append, Int.toNat_natCast, add_at, Nat.mul_one, Nat.add_zero, Try.results45, Fx.ag22, Fx.ag26, Fx.ag3, Fx.es22, Fx.es26, Fx.fo37_4, Fx.fo55_0, Fx.isl26]
        have hje : j = (kidsOf ks i).length := by omega
        subst hje
        rw [below_all hed hi] at hb2
        exact ⟨trivial, hb2, hc2⟩
      · try simp only [wpL, wpH, wpE, oweC, oweP, List.headD_cons, List.tail_cons, opF, opH, ev, evs, evp, evo, Env.get, Env.set, putE, gdst, bvAdd, bvSub, bvMul, bvEql, bvNeq, bvLss, bvLeq, bvGtr, bvGeq, bvSEql, bvSNeq, bvBEql, bvBNeq, thenN, inBlockN, argEnv, builtinR, retE, fin, callR, List.take_succ_cons, List.take_zero, List.drop_succ_cons, List.drop_zero, List.getElem?_cons_zero, List.getElem?_cons_succ, reduceIte, Nat.reduceEqDiff, Nat.reduceAdd, Bool.not_true, Bool.not_false, true_and, and_true, reduceCtorEq, forall_const, false_implies, true_implies, List.toList_toArray, List.cons_append, List.nil_append, Int.toNat_natCast, add_at, Nat.mul_one, Nat.add_zero, Try.results45, Fx.ag22, Fx.ag26, Fx.ag3, Fx.es22, Fx.es26, Fx.fo37_4, Fx.fo55_0, Fx.isl26]
        refine hM _ _ _ ?_; clear hM M
        have hjl : j < ks[i].length := by omega
        have hjl' : j < (kidsOf ks i).length := by omega
        obtain ⟨bk, ok_, rfl, hkj⟩ := hk j hjl
        have hbs := below_succ ks i j hjl'
        have hmem : (kidsOf ks i)[j] ∈ kidsOf ks i := List.getElem_mem _
        have hed1 := kids_edge hed hi hmem
        have hgj : (kidsOf ks i)[j]'hjl' = ks[i][j] := by simp only [kidsOf_get ks i hi]
        rw [hgj] at hbs hed1
        have hkk := hnb hc2 hkj
        generalize ks[i][j] = k at *
        obtain ⟨k', rfl⟩ : ∃ k' : Nat, k = (k' : Int) := ⟨k.toNat, by omega⟩
        refine ok_seq (fun M1 hM1 => ok_block ?_)
        refine ok_seq (fun M hM => ok_region rfl ?_); try simp only [wpL, wpH, wpE, oweC, oweP, List.headD_cons, List.tail_cons, opF, opH, ev, evs, evp, evo, Env.get, Env.set, putE, gdst, bvAdd, bvSub, bvMul, bvEql, bvNeq, bvLss, bvLeq, bvGtr, bvGeq, bvSEql, bvSNeq, bvBEql, bvBNeq, thenN, inBlockN, argEnv, builtinR, retE, fin, callR, List.take_succ_cons, List.take_zero, List.drop_succ_cons, List.drop_zero, List.getElem?_cons_zero, List.getElem?_cons_succ, reduceIte, Nat.reduceEqDiff, Nat.reduceAdd, Bool.not_true, Bool.not_false, true_and, and_true, reduceCtorEq, forall_const, false_implies, true_implies, List.toList_toArray, List.cons_append, List.nil_append, Int.toNat_natCast, add_at, Nat.mul_one, Nat.add_zero, Try.results45, Fx.ag22, Fx.ag26, Fx.ag3, Fx.es22, Fx.es26, Fx.fo37_4, Fx.fo55_0, Fx.isl26]
        refine ⟨by omega, by omega, _, hkk, ?_⟩
        try simp only [wpL, wpH, wpE, oweC, oweP, List.headD_cons, List.tail_cons, opF, opH, ev, evs, evp, evo, Env.get, Env.set, putE, gdst, bvAdd, bvSub, bvMul, bvEql, bvNeq, bvLss, bvLeq, bvGtr, bvGeq, bvSEql, bvSNeq, bvBEql, bvBNeq, thenN, inBlockN, argEnv, builtinR, retE, fin, callR, List.take_succ_cons, List.take_zero, List.drop_succ_cons, List.drop_zero, List.getElem?_cons_zero, List.getElem?_cons_succ, reduceIte, Nat.reduceEqDiff, Nat.reduceAdd, Bool.not_true, Bool.not_false, true_and, and_true, reduceCtorEq, forall_const, false_implies, true_implies, List.toList_toArray, List.cons_append, List.nil_append, Int.toNat_natCast, add_at, Nat.mul_one, Nat.add_zero, Try.results45, Fx.ag22, Fx.ag26, Fx.ag3, Fx.es22, Fx.es26, Fx.fo37_4, Fx.fo55_0, Fx.isl26]
        refine hM _ _ _ ?_; clear hM M
        refine ok_seq (fun M hM => ok_region rfl ?_)
        try simp only [wpL, wpH, wpE, oweC, oweP, List.headD_cons, List.tail_cons, opF, opH, ev, evs, evp, evo, Env.get, Env.set, putE, gdst, bvAdd, bvSub, bvMul, bvEql, bvNeq, bvLss, bvLeq, bvGtr, bvGeq, bvSEql, bvSNeq, bvBEql, bvBNeq, thenN, inBlockN, argEnv, builtinR, retE, fin, callR, List.take_succ_cons, List.take_zero, List.drop_succ_cons, List.drop_zero, List.getElem?_cons_zero, List.getElem?_cons_succ, reduceIte, Nat.reduceEqDiff, Nat.reduceAdd, Bool.not_true, Bool.not_false, true_and, and_true, reduceCtorEq, forall_const, false_implies, true_implies, List.toList_toArray, List.cons_append, List.nil_append, Int.toNat_natCast, add_at, Nat.mul_one, Nat.add_zero, Try.results45, Fx.ag22, Fx.ag26, Fx.ag3, Fx.es22, Fx.es26, Fx.fo37_4, Fx.fo55_0, Fx.isl26]
        refine Inv.call Fx.en45 (ih k' w2 (marked m (below ks i j)) (by omega) (by omega) (by simpa using hml) ?_ (hbq.chg hc2 hqm) (by simpa using hb6.chg hc2 h6m) hb2) ?_
        · exact he0.chg_trans hc2 (fun k hk => by subst hk; exact hm0)
        rintro v w3 ⟨rfl, hb3, hc3⟩
        try simp only [wpL, wpH, wpE, oweC, oweP, List.headD_cons, List.tail_cons, opF, opH, ev, evs, evp, evo, Env.get, Env.set, putE, gdst, bvAdd, bvSub, bvMul, bvEql, bvNeq, bvLss, bvLeq, bvGtr, bvGeq, bvSEql, bvSNeq, bvBEql, bvBNeq, thenN, inBlockN, argEnv, builtinR, retE, fin, callR, List.take_succ_cons, List.take_zero, List.drop_succ_cons, List.drop_zero, List.getElem?_cons_zero, List.getElem?_cons_succ, reduceIte, Nat.reduceEqDiff, Nat.reduceAdd, Bool.not_true, Bool.not_false, true_and, and_true, reduceCtorEq, forall_const, false_implies, true_implies, List.toList_toArray, List.cons_append, List.nil_append, Int.toNat_natCast, add_at, Nat.mul_one, Nat.add_zero, Try.results45, Fx.ag22, Fx.ag26, Fx.ag3, Fx.es22, Fx.es26, Fx.fo37_4, Fx.fo55_0, Fx.isl26]
        refine hM _ _ _ ?_; clear hM M
        refine ok_cond rfl (fun h => by cases h) (fun _ => ok_skip ?_)
        try simp only [wpL, wpH, wpE, oweC, oweP, List.headD_cons, List.tail_cons, opF, opH, ev, evs, evp, evo, Env.get, Env.set, putE, gdst, bvAdd, bvSub, bvMul, bvEql, bvNeq, bvLss, bvLeq, bvGtr, bvGeq, bvSEql, bvSNeq, bvBEql, bvBNeq, thenN, inBlockN, argEnv, builtinR, retE, fin, callR, List.take_succ_cons, List.take_zero, List.drop_succ_cons, List.drop_zero, List.getElem?_cons_zero, List.getElem?_cons_succ, reduceIte, Nat.reduceEqDiff, Nat.reduceAdd, Bool.not_true, Bool.not_false, true_and, and_true, reduceCtorEq, forall_const, false_implies, true_implies, List.toList_toArray, List.cons_append, List.nil_append, Int.toNat_natCast, add_at, Nat.mul_one, Nat.add_zero, Try.results45, Fx.ag22, Fx.ag26, Fx.ag3, Fx.es22, Fx.es26, Fx.fo37_4, Fx.fo55_0, Fx.isl26]
        refine hM1 _ _ _ ?_; clear hM1 M1
        refine ok_region rfl ?_
        try simp only [wpL, wpH, wpE, oweC, oweP, List.headD_cons, List.tail_cons, opF, opH, ev, evs, evp, evo, Env.get, Env.set, putE, gdst, bvAdd, bvSub, bvMul, bvEql, bvNeq, bvLss, bvLeq, bvGtr, bvGeq, bvSEql, bvSNeq, bvBEql, bvBNeq, thenN, inBlockN, argEnv, builtinR, retE, fin, callR, List.take_succ_cons, List.take_zero, List.drop_succ_cons, List.drop_zero, List.getElem?_cons_zero, List.getElem?_cons_succ, reduceIte, Nat.reduceEqDiff, Nat.reduceAdd, Bool.not_true, Bool.not_false, true_and, and_true, reduceCtorEq, forall_const, false_implies, true_implies, List.toList_toArray, List.cons_append, List.nil_append, Int.toNat_natCast, add_at, Nat.mul_one, Nat.add_zero, Try.results45, Fx.ag22, Fx.ag26, Fx.ag3, Fx.es22, Fx.es26, Fx.fo37_4, Fx.fo55_0, Fx.isl26]
        refine ⟨by simp only [inI]; omega, j + 1, by simp [sub, Env.get], ⟨?_, hc2.trans hc3, by omega⟩, by omega⟩
        rw [hbs, mark_append]
        exact hb3
    · rintro w2 ⟨hb2, hc2⟩
      refine ok_seq (fun M hM => ok_region rfl ?_); try simp only [wpL, wpH, wpE, oweC, oweP, List.headD_cons, List.tail_cons, opF, opH, ev, evs, evp, evo, Env.get, Env.set, putE, gdst, bvAdd, bvSub, bvMul, bvEql, bvNeq, bvLss, bvLeq, bvGtr, bvGeq, bvSEql, bvSNeq, bvBEql, bvBNeq, thenN, inBlockN, argEnv, builtinR, retE, fin, callR, List.take_succ_cons, List.take_zero, List.drop_succ_cons, List.drop_zero, List.getElem?_cons_zero, List.getElem?_cons_succ, reduceIte, Nat.reduceEqDiff, Nat.reduceAdd, Bool.not_true, Bool.not_false, true_and, and_true, reduceCtorEq, forall_const, false_implies, true_implies, List.toList_toArray, List.cons_append, List.nil_append, Int.toNat_natCast, add_at, Nat.mul_one, Nat.add_zero, Try.results45, Fx.ag22, Fx.ag26, Fx.ag3, Fx.es22, Fx.es26, Fx.fo37_4, Fx.fo55_0, Fx.isl26]
      refine hM _ _ _ ?_; clear hM M
      refine ok_ret ?_
      try simp only [wpL, wpH, wpE, oweC, oweP, List.headD_cons, List.tail_cons, opF, opH, ev, evs, evp, evo, Env.get, Env.set, putE, gdst, bvAdd, bvSub, bvMul, bvEql, bvNeq, bvLss, bvLeq, bvGtr, bvGeq, bvSEql, bvSNeq, bvBEql, bvBNeq, thenN, inBlockN, argEnv, builtinR, retE, fin, callR, List.take_succ_cons, List.take_zero, List.drop_succ_cons, List.drop_zero, List.getElem?_cons_zero, List.getElem?_cons_succ, reduceIte, Nat.reduceEqDiff, Nat.reduceAdd, Bool.not_true, Bool.not_false, true_and, and_true, reduceCtorEq, forall_const, false_implies, true_implies, List.toList_toArray, List.cons_append, List.nil_append, Int.toNat_natCast, add_at, Nat.mul_one, Nat.add_zero, Try.results45, Fx.ag22, Fx.ag26, Fx.ag3, Fx.es22, Fx.es26, Fx.fo37_4, Fx.fo55_0, Fx.isl26]
      exact ⟨hb2, hc2⟩
end Go.Proofs.Ytafjfcameabbmaa
