/- weights. -/
import Derived.Test.YtafjfcameabbmaaD5
import Derived.Test.YtafjfcameabbmaaVg16
set_option linter.unusedVariables false
set_option linter.unusedSimpArgs false
namespace Go.Proofs.Ytafjfcameabbmaa
open Go Go.Proofs.Vg Go.RowKit Dbg

/-- The weights when the nodes from s on are through. -/
def wlist (n : Nat) (wt : Nat → Int) (s : Nat) : List Int := (List.range n).map fun v => if s ≤ v then wt v else 0
@[simp] theorem wlist_length (n : Nat) (wt : Nat → Int) (s : Nat) : (wlist n wt s).length = n := by simp [wlist]
theorem wlist_get (n : Nat) (wt : Nat → Int) (s v : Nat) (h : v < n) : (wlist n wt s)[v]? = some (if s ≤ v then wt v else 0) := by simp [wlist, h]
theorem wlist_top (n : Nat) (wt : Nat → Int) : wlist n wt n = List.replicate n 0 := by
  apply List.ext_getElem?
  intro v
  rcases Nat.lt_or_ge v n with hv | hv
  · rw [wlist_get _ _ _ _ hv, List.getElem?_replicate, if_pos hv, if_neg (by omega)]
  · rw [List.getElem?_eq_none (by simp; omega), List.getElem?_eq_none (by simp; omega)]
theorem wlist_low (n : Nat) (wt : Nat → Int) (i : Nat) : (wlist n wt (i + 1)).set i 0 = wlist n wt (i + 1) := by
  apply List.ext_getElem?
  intro v
  rw [List.getElem?_set]
  split
  · rename_i h
    subst h
    split
    · rename_i h2
      rw [wlist_get _ _ _ _ (by simpa using h2), if_neg (by omega)]
    · rename_i h2
      rw [List.getElem?_eq_none (by simpa using h2)]
  · rfl
theorem wlist_next (n : Nat) (wt : Nat → Int) (i : Nat) : (wlist n wt (i + 1)).set i (wt i) = wlist n wt i := by
  apply List.ext_getElem?
  intro v
  rw [List.getElem?_set]
  split
  · rename_i h
    subst h
    split
    · rename_i h2
      rw [wlist_get _ _ _ _ (by simpa using h2), if_pos (by omega)]
    · rename_i h2
      rw [List.getElem?_eq_none (by simpa using h2)]
  · rename_i h
    rcases Nat.lt_or_ge v n with hv | hv
    · rw [wlist_get _ _ _ _ hv, wlist_get _ _ _ _ hv]
      congr 1
      by_cases h2 : i + 1 ≤ v
      · rw [if_pos h2, if_pos (by omega)]
      · rw [if_neg h2, if_neg (by omega)]
    · rw [List.getElem?_eq_none (by simp; omega), List.getElem?_eq_none (by simp; omega)]
/-- The weights of the first kids. -/
def part (wt : Nat → Int) (l : List Int) (j : Nat) : Int := ((l.take j).map fun k => wt k.toNat).sum
theorem part_succ (wt : Nat → Int) (l : List Int) (j : Nat) (h : j < l.length) : part wt l (j + 1) = part wt l j + wt l[j].toNat := by
  unfold part
  rw [List.take_succ_eq_append_getElem h, List.map_append, List.sum_append]
  simp
theorem part_nonneg (wt : Nat → Int) (h0 : ∀ i, 0 ≤ wt i) (l : List Int) (j : Nat) : 0 ≤ part wt l j := by
  unfold part
  generalize l.take j = m
  induction m with
  | nil => simp
  | cons x m ih => simp only [List.map_cons, List.sum_cons]; have := h0 x.toNat; omega
theorem part_le (wt : Nat → Int) (h0 : ∀ i, 0 ≤ wt i) (l : List Int) (j : Nat) : part wt l j ≤ (l.map fun k => wt k.toNat).sum := by
  unfold part
  conv => rhs; rw [← List.take_append_drop j l]
  rw [List.map_append, List.sum_append]
  have : 0 ≤ ((l.drop j).map fun k => wt k.toNat).sum := by
    generalize l.drop j = m
    induction m with
    | nil => simp
    | cons x m ih => simp only [List.map_cons, List.sum_cons]; have := h0 x.toNat; omega
  omega
theorem part_all (wt : Nat → Int) (l : List Int) : part wt l l.length = (l.map fun k => wt k.toNat).sum := by simp [part]
theorem kids_edge {ks : List (List Int)} (h : edgesB ks = true) {i : Nat} (hi : i < ks.length) {k : Int} (hk : k ∈ kidsOf ks i) : (i : Int) < k ∧ k < (ks.length : Int) := by
  simp only [edgesB, List.all_eq_true, List.mem_range, edgeB, Bool.and_eq_true, decide_eq_true_eq] at h
  exact h i hi k hk
theorem bv_get (xs : List Bool) (j : Nat) (h : j < xs.length) : (bv xs)[j]? = some (.bool xs[j]) := by simp [bv, h]

-- -- function 44
set_option maxHeartbeats 2000000 in
theorem weights_ok (w0 w : World) (q B : Nat) (vn : Value) (ks : List (List Int)) (sus : List Bool) (root : Nat) (hn : NodesG w0 vn ks) (hs : Srch w0 w q B vn sus root) (hl : sus.length = ks.length) (hbd : ks.length ≤ 1000) (hed : edgesB ks = true)
    (wt : Nat → Int) (hwt : ∀ i, i < ks.length → wt i = (if sus.getD i false then 1 else 0) + ((kidsOf ks i).map fun k => wt k.toNat).sum) (hw0 : ∀ i, 0 ≤ wt i) (hw1 : ∀ i, wt i ≤ 1000) :
    Rets Try.prog 44 [.pointer (some ⟨q, 0, none⟩)] w (fun v w' => ∃ B3, v = .slice (some ⟨B3, 0, none⟩) ks.length ks.length ∧ Blk w' B3 (iv (wlist ks.length wt 0)) 3 ∧ Ext w w') := by
  obtain ⟨rows, ⟨A, cp, hv, hlen, hc⟩, hlr, hr⟩ := hn
  rw [hlr] at hv hlen
  subst hv
  obtain ⟨hext, hq, hB, hqB, hbq, hbB⟩ := hs
  have hqlt := hbq.lt
  have hBlt := hbB.lt
  refine rets_of_okM Try.func44 rfl rfl ?_
  refine ok_seq (fun M hM => ok_region rfl ?_)
  try simp only [wpL, wpH, wpE, oweC, oweP, List.headD_cons, List.tail_cons, opF, opH, ev, evs, evp, evo, Env.get, Env.set, putE, gdst, bvAdd, bvSub, bvMul, bvEql, bvNeq, bvLss, bvLeq, bvGtr, bvGeq, bvSEql, bvSNeq, bvBEql, bvBNeq, thenN, inBlockN, argEnv, builtinR, retE, fin, callR, List.take_succ_cons, List.take_zero, List.drop_succ_cons, List.drop_zero, List.getElem?_cons_zero, List.getElem?_cons_succ, reduceIte, Nat.reduceEqDiff, Nat.reduceAdd, Bool.not_true, Bool.not_false, true_and, and_true, reduceCtorEq, forall_const, false_implies, true_implies, List.toList_toArray, List.cons_append, List.nil_append, Int.toNat_natCast, add_at, Nat.mul_one, Nat.add_zero, Try.results44, Fx.ag22, Fx.ag23, Fx.ag26, Fx.ag3, Fx.ag4, Fx.ag50, Fx.es22, Fx.es23, Fx.es26, Fx.fo37_4, Fx.fo55_0, Fx.fo55_1, Fx.isl22, Fx.isl26]
  refine Runs.box (fun w1 he1 hz1 hb1 => ?_)
  try simp only [wpL, wpH, wpE, oweC, oweP, List.headD_cons, List.tail_cons, opF, opH, ev, evs, evp, evo, Env.get, Env.set, putE, gdst, bvAdd, bvSub, bvMul, bvEql, bvNeq, bvLss, bvLeq, bvGtr, bvGeq, bvSEql, bvSNeq, bvBEql, bvBNeq, thenN, inBlockN, argEnv, builtinR, retE, fin, callR, List.take_succ_cons, List.take_zero, List.drop_succ_cons, List.drop_zero, List.getElem?_cons_zero, List.getElem?_cons_succ, reduceIte, Nat.reduceEqDiff, Nat.reduceAdd, Bool.not_true, Bool.not_false, true_and, and_true, reduceCtorEq, forall_const, false_implies, true_implies, List.toList_toArray, List.cons_append, List.nil_append, Int.toNat_natCast, add_at, Nat.mul_one, Nat.add_zero, Try.results44, Fx.ag22, Fx.ag23, Fx.ag26, Fx.ag3, Fx.ag4, Fx.ag50, Fx.es22, Fx.es23, Fx.es26, Fx.fo37_4, Fx.fo55_0, Fx.fo55_1, Fx.isl22, Fx.isl26]
  refine hM _ _ _ ?_; clear hM M
  generalize hBs : w.heap.size = Bs at *
  refine ok_seq (fun M hM => ok_region rfl ?_)
  try simp only [wpL, wpH, wpE, oweC, oweP, List.headD_cons, List.tail_cons, opF, opH, ev, evs, evp, evo, Env.get, Env.set, putE, gdst, bvAdd, bvSub, bvMul, bvEql, bvNeq, bvLss, bvLeq, bvGtr, bvGeq, bvSEql, bvSNeq, bvBEql, bvBNeq, thenN, inBlockN, argEnv, builtinR, retE, fin, callR, List.take_succ_cons, List.take_zero, List.drop_succ_cons, List.drop_zero, List.getElem?_cons_zero, List.getElem?_cons_succ, reduceIte, Nat.reduceEqDiff, Nat.reduceAdd, Bool.not_true, Bool.not_false, true_and, and_true, reduceCtorEq, forall_const, false_implies, true_implies, List.toList_toArray, List.cons_append, List.nil_append, Int.toNat_natCast, add_at, Nat.mul_one, Nat.add_zero, Try.results44, Fx.ag22, Fx.ag23, Fx.ag26, Fx.ag3, Fx.ag4, Fx.ag50, Fx.es22, Fx.es23, Fx.es26, Fx.fo37_4, Fx.fo55_0, Fx.fo55_1, Fx.isl22, Fx.isl26]
  refine ⟨_, hb1.cell rfl, ?_⟩
  try simp only [wpL, wpH, wpE, oweC, oweP, List.headD_cons, List.tail_cons, opF, opH, ev, evs, evp, evo, Env.get, Env.set, putE, gdst, bvAdd, bvSub, bvMul, bvEql, bvNeq, bvLss, bvLeq, bvGtr, bvGeq, bvSEql, bvSNeq, bvBEql, bvBNeq, thenN, inBlockN, argEnv, builtinR, retE, fin, callR, List.take_succ_cons, List.take_zero, List.drop_succ_cons, List.drop_zero, List.getElem?_cons_zero, List.getElem?_cons_succ, reduceIte, Nat.reduceEqDiff, Nat.reduceAdd, Bool.not_true, Bool.not_false, true_and, and_true, reduceCtorEq, forall_const, false_implies, true_implies, List.toList_toArray, List.cons_append, List.nil_append, Int.toNat_natCast, add_at, Nat.mul_one, Nat.add_zero, Try.results44, Fx.ag22, Fx.ag23, Fx.ag26, Fx.ag3, Fx.ag4, Fx.ag50, Fx.es22, Fx.es23, Fx.es26, Fx.fo37_4, Fx.fo55_0, Fx.fo55_1, Fx.isl22, Fx.isl26]
  refine ⟨_, (hbq.ext he1).cell rfl, ?_⟩
  try simp only [wpL, wpH, wpE, oweC, oweP, List.headD_cons, List.tail_cons, opF, opH, ev, evs, evp, evo, Env.get, Env.set, putE, gdst, bvAdd, bvSub, bvMul, bvEql, bvNeq, bvLss, bvLeq, bvGtr, bvGeq, bvSEql, bvSNeq, bvBEql, bvBNeq, thenN, inBlockN, argEnv, builtinR, retE, fin, callR, List.take_succ_cons, List.take_zero, List.drop_succ_cons, List.drop_zero, List.getElem?_cons_zero, List.getElem?_cons_succ, reduceIte, Nat.reduceEqDiff, Nat.reduceAdd, Bool.not_true, Bool.not_false, true_and, and_true, reduceCtorEq, forall_const, false_implies, true_implies, List.toList_toArray, List.cons_append, List.nil_append, Int.toNat_natCast, add_at, Nat.mul_one, Nat.add_zero, Try.results44, Fx.ag22, Fx.ag23, Fx.ag26, Fx.ag3, Fx.ag4, Fx.ag50, Fx.es22, Fx.es23, Fx.es26, Fx.fo37_4, Fx.fo55_0, Fx.fo55_1, Fx.isl22, Fx.isl26]
  refine Runs.make1 Fx.un26 Fx.zi3 rfl (by omega) (by omega) (by omega) (fun w2 he2 hz2 hb2 => ?_)
  try simp only [wpL, wpH, wpE, oweC, oweP, List.headD_cons, List.tail_cons, opF, opH, ev, evs, evp, evo, Env.get, Env.set, putE, gdst, bvAdd, bvSub, bvMul, bvEql, bvNeq, bvLss, bvLeq, bvGtr, bvGeq, bvSEql, bvSNeq, bvBEql, bvBNeq, thenN, inBlockN, argEnv, builtinR, retE, fin, callR, List.take_succ_cons, List.take_zero, List.drop_succ_cons, List.drop_zero, List.getElem?_cons_zero, List.getElem?_cons_succ, reduceIte, Nat.reduceEqDiff, Nat.reduceAdd, Bool.not_true, Bool.not_false, true_and, and_true, reduceCtorEq, forall_const, false_implies, true_implies, List.toList_toArray, List.cons_append, List.nil_append, Int.toNat_natCast, add_at, Nat.mul_one, Nat.add_zero, Try.results44, Fx.ag22, Fx.ag23, Fx.ag26, Fx.ag3, Fx.ag4, Fx.ag50, Fx.es22, Fx.es23, Fx.es26, Fx.fo37_4, Fx.fo55_0, Fx.fo55_1, Fx.isl22, Fx.isl26]
  refine Runs.alloc Fx.zi26 (fun w3 he3 hz3 hb3 => ?_)
  try simp only [wpL, wpH, wpE, oweC, oweP, List.headD_cons, List.tail_cons, opF, opH, ev, evs, evp, evo, Env.get, Env.set, putE, gdst, bvAdd, bvSub, bvMul, bvEql, bvNeq, bvLss, bvLeq, bvGtr, bvGeq, bvSEql, bvSNeq, bvBEql, bvBNeq, thenN, inBlockN, argEnv, builtinR, retE, fin, callR, List.take_succ_cons, List.take_zero, List.drop_succ_cons, List.drop_zero, List.getElem?_cons_zero, List.getElem?_cons_succ, reduceIte, Nat.reduceEqDiff, Nat.reduceAdd, Bool.not_true, Bool.not_false, true_and, and_true, reduceCtorEq, forall_const, false_implies, true_implies, List.toList_toArray, List.cons_append, List.nil_append, Int.toNat_natCast, add_at, Nat.mul_one, Nat.add_zero, Try.results44, Fx.ag22, Fx.ag23, Fx.ag26, Fx.ag3, Fx.ag4, Fx.ag50, Fx.es22, Fx.es23, Fx.es26, Fx.fo37_4, Fx.fo55_0, Fx.fo55_1, Fx.isl22, Fx.isl26]
  refine Runs.store hb3 Fx.zi26 rfl (by simp [Value.cells, Value.oneCell']) (by simp [Value.cells]) (fun w4 hc4 hz4 hb4 => ?_)
  try simp only [wpL, wpH, wpE, oweC, oweP, List.headD_cons, List.tail_cons, opF, opH, ev, evs, evp, evo, Env.get, Env.set, putE, gdst, bvAdd, bvSub, bvMul, bvEql, bvNeq, bvLss, bvLeq, bvGtr, bvGeq, bvSEql, bvSNeq, bvBEql, bvBNeq, thenN, inBlockN, argEnv, builtinR, retE, fin, callR, List.take_succ_cons, List.take_zero, List.drop_succ_cons, List.drop_zero, List.getElem?_cons_zero, List.getElem?_cons_succ, reduceIte, Nat.reduceEqDiff, Nat.reduceAdd, Bool.not_true, Bool.not_false, true_and, and_true, reduceCtorEq, forall_const, false_implies, true_implies, List.toList_toArray, List.cons_append, List.nil_append, Int.toNat_natCast, add_at, Nat.mul_one, Nat.add_zero, Try.results44, Fx.ag22, Fx.ag23, Fx.ag26, Fx.ag3, Fx.ag4, Fx.ag50, Fx.es22, Fx.es23, Fx.es26, Fx.fo37_4, Fx.fo55_0, Fx.fo55_1, Fx.isl22, Fx.isl26]
  refine hM _ _ _ ?_; clear hM M
  generalize hB3 : w1.heap.size = B3 at *
  generalize hB4 : w2.heap.size = B4 at *
  have he4 : Ext w w4 := ((he1.trans he2).trans he3).chg_trans hc4 (fun k hk => by subst hk; have := he1.size; omega)
  have hb1' : Blk w4 Bs [.pointer (some ⟨q, 0, none⟩)] 50 := by
    have : Blk w4 Bs _ 50 := ((hb1.ext he2).ext he3).chg hc4 (by omega)
    simpa [Value.cells] using this
  have hb2' : Blk w4 B3 (iv (wlist ks.length wt ks.length)) 3 := by
    have : Blk w4 B3 _ 3 := (hb2.ext he3).chg hc4 (by omega)
    rw [wlist_top]; simpa [iv] using this
  have hb4' : Blk w4 B4 [.slice (some ⟨B3, 0, none⟩) ks.length ks.length] 26 := by
    simpa [splice, Value.cells] using hb4
  clear hb1 hb2 hb3 hb4 hc4 he3 he2 he1
  refine ok_seq (fun M0 hM0 => ?_)
  refine ok_seq (fun M hM => ok_region rfl ?_)
  try simp only [wpL, wpH, wpE, oweC, oweP, List.headD_cons, List.tail_cons, opF, opH, ev, evs, evp, evo, Env.get, Env.set, putE, gdst, bvAdd, bvSub, bvMul, bvEql, bvNeq, bvLss, bvLeq, bvGtr, bvGeq, bvSEql, bvSNeq, bvBEql, bvBNeq, thenN, inBlockN, argEnv, builtinR, retE, fin, callR, List.take_succ_cons, List.take_zero, List.drop_succ_cons, List.drop_zero, List.getElem?_cons_zero, List.getElem?_cons_succ, reduceIte, Nat.reduceEqDiff, Nat.reduceAdd, Bool.not_true, Bool.not_false, true_and, and_true, reduceCtorEq, forall_const, false_implies, true_implies, List.toList_toArray, List.cons_append, List.nil_append, Int.toNat_natCast, add_at, Nat.mul_one, Nat.add_zero, Try.results44, Fx.ag22, Fx.ag23, Fx.ag26, Fx.ag3, Fx.ag4, Fx.ag50, Fx.es22, Fx.es23, Fx.es26, Fx.fo37_4, Fx.fo55_0, Fx.fo55_1, Fx.isl22, Fx.isl26]
  refine ⟨_, hb1'.cell rfl, ?_⟩
  try simp only [wpL, wpH, wpE, oweC, oweP, List.headD_cons, List.tail_cons, opF, opH, ev, evs, evp, evo, Env.get, Env.set, putE, gdst, bvAdd, bvSub, bvMul, bvEql, bvNeq, bvLss, bvLeq, bvGtr, bvGeq, bvSEql, bvSNeq, bvBEql, bvBNeq, thenN, inBlockN, argEnv, builtinR, retE, fin, callR, List.take_succ_cons, List.take_zero, List.drop_succ_cons, List.drop_zero, List.getElem?_cons_zero, List.getElem?_cons_succ, reduceIte, Nat.reduceEqDiff, Nat.reduceAdd, Bool.not_true, Bool.not_false, true_and, and_true, reduceCtorEq, forall_const, false_implies, true_implies, List.toList_toArray, List.cons_append, List.nil_append, Int.toNat_natCast, add_at, Nat.mul_one, Nat.add_zero, Try.results44, Fx.ag22, Fx.ag23, Fx.ag26, Fx.ag3, Fx.ag4, Fx.ag50, Fx.es22, Fx.es23, Fx.es26, Fx.fo37_4, Fx.fo55_0, Fx.fo55_1, Fx.isl22, Fx.isl26]
  refine ⟨_, (hbq.ext he4).cell rfl, ?_⟩
  try simp only [wpL, wpH, wpE, oweC, oweP, List.headD_cons, List.tail_cons, opF, opH, ev, evs, evp, evo, Env.get, Env.set, putE, gdst, bvAdd, bvSub, bvMul, bvEql, bvNeq, bvLss, bvLeq, bvGtr, bvGeq, bvSEql, bvSNeq, bvBEql, bvBNeq, thenN, inBlockN, argEnv, builtinR, retE, fin, callR, List.take_succ_cons, List.take_zero, List.drop_succ_cons, List.drop_zero, List.getElem?_cons_zero, List.getElem?_cons_succ, reduceIte, Nat.reduceEqDiff, Nat.reduceAdd, Bool.not_true, Bool.not_false, true_and, and_true, reduceCtorEq, forall_const, false_implies, true_implies, List.toList_toArray, List.cons_append, List.nil_append, Int.toNat_natCast, add_at, Nat.mul_one, Nat.add_zero, Try.results44, Fx.ag22, Fx.ag23, Fx.ag26, Fx.ag3, Fx.ag4, Fx.ag50, Fx.es22, Fx.es23, Fx.es26, Fx.fo37_4, Fx.fo55_0, Fx.fo55_1, Fx.isl22, Fx.isl26]
  refine Inv.call Fx.en56 (backward_ok w4 _ _ _) ?_
  rintro v w5 ⟨b1, hb1ge, rfl, hb5, he5⟩
  try simp only [wpL, wpH, wpE, oweC, oweP, List.headD_cons, List.tail_cons, opF, opH, ev, evs, evp, evo, Env.get, Env.set, putE, gdst, bvAdd, bvSub, bvMul, bvEql, bvNeq, bvLss, bvLeq, bvGtr, bvGeq, bvSEql, bvSNeq, bvBEql, bvBNeq, thenN, inBlockN, argEnv, builtinR, retE, fin, callR, List.take_succ_cons, List.take_zero, List.drop_succ_cons, List.drop_zero, List.getElem?_cons_zero, List.getElem?_cons_succ, reduceIte, Nat.reduceEqDiff, Nat.reduceAdd, Bool.not_true, Bool.not_false, true_and, and_true, reduceCtorEq, forall_const, false_implies, true_implies, List.toList_toArray, List.cons_append, List.nil_append, Int.toNat_natCast, add_at, Nat.mul_one, Nat.add_zero, Try.results44, Fx.ag22, Fx.ag23, Fx.ag26, Fx.ag3, Fx.ag4, Fx.ag50, Fx.es22, Fx.es23, Fx.es26, Fx.fo37_4, Fx.fo55_0, Fx.fo55_1, Fx.isl22, Fx.isl26]
  refine hM _ _ _ ?_; clear hM M
  have he5' : Ext w w5 := he4.trans he5
  have hs1 := hb1'.ext he5
  have hs2 := hb2'.ext he5
  have hs4 := hb4'.ext he5
  have hB3lt4 := hb2'.lt
  have hrow : ∀ i, i < ks.length → (rows.getD i []).length = 5 := fun i hi => by
    obtain ⟨c, p, vi, vo, vk, h1, _⟩ := hr i hi
    simp [List.getD_eq_getElem?_getD, h1]
  have hb5lt := hb5.lt
  have hB3lt := hs2.lt
  have hB1lt := hs1.lt
  have hB4lt := hs4.lt
  refine ok_block ?_
  refine ok_range (S := Nat) (cap := [.pointer (some ⟨b1, 0, none⟩)]) (fun s W => Chg (· = B3) w5 W ∧ s ≤ ks.length ∧ Blk W B3 (iv (wlist ks.length wt s)) 3) (fun _ _ => False) ks.length (fun s => [.int .i64 ((s : Int) - 1), .agg (rows.getD (s - 1) []).toArray]) (fun s => 0 < s) (fun s => s = 0) (fun s s' => s = s' + 1)
    rfl Fx.en62 (by decide) (fun s _ => rfl) ?_ (fun _ _ _ _ h => h) ?_ ?_ ?_ ?_ ?_ (fun _ h => h.elim) (fun _ _ h => h.elim)
  · rintro s W W' ho ⟨h1, h2, h3⟩
    refine ⟨⟨ho.os.trans h1.os, ho.tape.trans h1.tape, ho.output.trans h1.output, by rw [ho.size]; exact h1.size, fun k hk hk3 => (ho.block k (by omega) (by omega)).trans (h1.block k hk hk3)⟩, h2, (ho.block B3 (by omega) (by omega)).trans h3⟩
  · rintro s W W' he ⟨h1, h2, h3⟩
    exact ⟨h1.trans (he.chg _), h2, h3.ext he⟩
  · intro W he _
    exact ⟨he.chg _, Nat.le_refl _, hs2.ext he⟩
  · -- one round
    rintro s W hs0 ⟨hch, hsn, hbw⟩ hWsz
    obtain ⟨i, rfl⟩ : ∃ i, s = i + 1 := ⟨s - 1, by omega⟩
    have hi : i < ks.length := by omega
    simp only [bindE, Nat.add_sub_cancel]
    refine ok_region rfl ?_
    try simp only [wpL, wpH, wpE, oweC, oweP, List.headD_cons, List.tail_cons, opF, opH, ev, evs, evp, evo, Env.get, Env.set, putE, gdst, bvAdd, bvSub, bvMul, bvEql, bvNeq, bvLss, bvLeq, bvGtr, bvGeq, bvSEql, bvSNeq, bvBEql, bvBNeq, thenN, inBlockN, argEnv, builtinR, retE, fin, callR, List.take_succ_cons, List.take_zero, List.drop_succ_cons, List.drop_zero, List.getElem?_cons_zero, List.getElem?_cons_succ, reduceIte, Nat.reduceEqDiff, Nat.reduceAdd, Bool.not_true, Bool.not_false, true_and, and_true, reduceCtorEq, forall_const, false_implies, true_implies, List.toList_toArray, List.cons_append, List.nil_append, Int.toNat_natCast, add_at, Nat.mul_one, Nat.add_zero, Try.results44, Fx.ag22, Fx.ag23, Fx.ag26, Fx.ag3, Fx.ag4, Fx.ag50, Fx.es22, Fx.es23, Fx.es26, Fx.fo37_4, Fx.fo55_0, Fx.fo55_1, Fx.isl22, Fx.isl26]
    refine ⟨Keep.refl _ _, fun W2 ho => ?_⟩
    have hW2sz : W2.heap.size = W.heap.size := ho.size
    have hch2 : Chg (· = B3) w5 W2 := ⟨ho.os.trans hch.os, ho.tape.trans hch.tape, ho.output.trans hch.output, by rw [hW2sz]; exact hch.size, fun k hk hk3 => (ho.block k (by omega) (by omega)).trans (hch.block k hk hk3)⟩
    have hbw2 : Blk W2 B3 (iv (wlist ks.length wt (i + 1))) 3 := (ho.block B3 (by omega) (by omega)).trans hbw
    clear hbw hch ho
    have hii : ((i + 1 : Nat) : Int) - 1 = (i : Int) := by omega
    rw [hii]
    obtain ⟨c, p, vi, vo, vk, hrw, _, _, _, _, hk⟩ := hr i hi
    obtain ⟨b, o, rfl, hcc⟩ := hc i _ hrw
    have hki : kidsOf ks i = ks[i] := kidsOf_get ks i hi
    have hbn : ∀ {W : World} {a : Addr} {u : Value}, Chg (· = B3) w5 W → w0.cell? a = some u → W.cell? a = some u := fun hW ha => hW.cell (he5'.cell (hext.cell ha)) (by
      have := World.block_lt_of_cell? w0 _ ha
      have := hext.size
      show ¬ _ = _
      omega)
    refine ok_block ?_
    have hgetD : sus.getD i false = sus[i]'(by omega) := by simp [List.getD_eq_getElem?_getD, show i < sus.length by omega]
    refine ok_join [(0, .pointer (some ⟨q, 0, none⟩)), (1, .pointer (some ⟨Bs, 0, none⟩)), (3, .pointer (some ⟨B4, 0, none⟩)), (4, .int .i64 (i : Int))]
      (fun W3 => Chg (· = B3) w5 W3 ∧ Chg (· = B3) W2 W3 ∧ Blk W3 B3 (iv ((wlist ks.length wt (i + 1)).set i (if sus.getD i false then 1 else 0))) 3) ?_ ?_
    · refine ok_seq (fun M hM => ok_region rfl ?_)
      try simp only [wpL, wpH, wpE, oweC, oweP, List.headD_cons, List.tail_cons, opF, opH, ev, evs, evp, evo, Env.get, Env.set, putE, gdst, bvAdd, bvSub, bvMul, bvEql, bvNeq, bvLss, bvLeq, bvGtr, bvGeq, bvSEql, bvSNeq, bvBEql, bvBNeq, thenN, inBlockN, argEnv, builtinR, retE, fin, callR, List.take_succ_cons, List.take_zero, List.drop_succ_cons, List.drop_zero, List.getElem?_cons_zero, List.getElem?_cons_succ, reduceIte, Nat.reduceEqDiff, Nat.reduceAdd, Bool.not_true, Bool.not_false, true_and, and_true, reduceCtorEq, forall_const, false_implies, true_implies, List.toList_toArray, List.cons_append, List.nil_append, Int.toNat_natCast, add_at, Nat.mul_one, Nat.add_zero, Try.results44, Fx.ag22, Fx.ag23, Fx.ag26, Fx.ag3, Fx.ag4, Fx.ag50, Fx.es22, Fx.es23, Fx.es26, Fx.fo37_4, Fx.fo55_0, Fx.fo55_1, Fx.isl22, Fx.isl26]
      refine ⟨_, (hs1.chg hch2 (by omega)).cell rfl, ?_⟩
      try simp only [wpL, wpH, wpE, oweC, oweP, List.headD_cons, List.tail_cons, opF, opH, ev, evs, evp, evo, Env.get, Env.set, putE, gdst, bvAdd, bvSub, bvMul, bvEql, bvNeq, bvLss, bvLeq, bvGtr, bvGeq, bvSEql, bvSNeq, bvBEql, bvBNeq, thenN, inBlockN, argEnv, builtinR, retE, fin, callR, List.take_succ_cons, List.take_zero, List.drop_succ_cons, List.drop_zero, List.getElem?_cons_zero, List.getElem?_cons_succ, reduceIte, Nat.reduceEqDiff, Nat.reduceAdd, Bool.not_true, Bool.not_false, true_and, and_true, reduceCtorEq, forall_const, false_implies, true_implies, List.toList_toArray, List.cons_append, List.nil_append, Int.toNat_natCast, add_at, Nat.mul_one, Nat.add_zero, Try.results44, Fx.ag22, Fx.ag23, Fx.ag26, Fx.ag3, Fx.ag4, Fx.ag50, Fx.es22, Fx.es23, Fx.es26, Fx.fo37_4, Fx.fo55_0, Fx.fo55_1, Fx.isl22, Fx.isl26]
      refine ⟨_, ((hbq.ext he5').chg hch2 (by omega)).cell rfl, ?_⟩
      try simp only [wpL, wpH, wpE, oweC, oweP, List.headD_cons, List.tail_cons, opF, opH, ev, evs, evp, evo, Env.get, Env.set, putE, gdst, bvAdd, bvSub, bvMul, bvEql, bvNeq, bvLss, bvLeq, bvGtr, bvGeq, bvSEql, bvSNeq, bvBEql, bvBNeq, thenN, inBlockN, argEnv, builtinR, retE, fin, callR, List.take_succ_cons, List.take_zero, List.drop_succ_cons, List.drop_zero, List.getElem?_cons_zero, List.getElem?_cons_succ, reduceIte, Nat.reduceEqDiff, Nat.reduceAdd, Bool.not_true, Bool.not_false, true_and, and_true, reduceCtorEq, forall_const, false_implies, true_implies, List.toList_toArray, List.cons_append, List.nil_append, Int.toNat_natCast, add_at, Nat.mul_one, Nat.add_zero, Try.results44, Fx.ag22, Fx.ag23, Fx.ag26, Fx.ag3, Fx.ag4, Fx.ag50, Fx.es22, Fx.es23, Fx.es26, Fx.fo37_4, Fx.fo55_0, Fx.fo55_1, Fx.isl22, Fx.isl26]
      refine ⟨by omega, by omega, _, by simpa using ((hbB.ext he5').chg hch2 (by omega)).cell (bv_get _ _ (by omega)), ?_⟩
      try simp only [wpL, wpH, wpE, oweC, oweP, List.headD_cons, List.tail_cons, opF, opH, ev, evs, evp, evo, Env.get, Env.set, putE, gdst, bvAdd, bvSub, bvMul, bvEql, bvNeq, bvLss, bvLeq, bvGtr, bvGeq, bvSEql, bvSNeq, bvBEql, bvBNeq, thenN, inBlockN, argEnv, builtinR, retE, fin, callR, List.take_succ_cons, List.take_zero, List.drop_succ_cons, List.drop_zero, List.getElem?_cons_zero, List.getElem?_cons_succ, reduceIte, Nat.reduceEqDiff, Nat.reduceAdd, Bool.not_true, Bool.not_false, true_and, and_true, reduceCtorEq, forall_const, false_implies, true_implies, List.toList_toArray, List.cons_append, List.nil_append, Int.toNat_natCast, add_at, Nat.mul_one, Nat.add_zero, Try.results44, Fx.ag22, Fx.ag23, Fx.ag26, Fx.ag3, Fx.ag4, Fx.ag50, Fx.es22, Fx.es23, Fx.es26, Fx.fo37_4, Fx.fo55_0, Fx.fo55_1, Fx.isl22, Fx.isl26]
      refine hM _ _ _ ?_; clear hM M
      refine ok_cond rfl (fun ht => ?_) (fun hf => ok_skip ?_)
      · refine ok_region rfl ?_
        try simp only [wpL, wpH, wpE, oweC, oweP, List.headD_cons, List.tail_cons, opF, opH, ev, evs, evp, evo, Env.get, Env.set, putE, gdst, bvAdd, bvSub, bvMul, bvEql, bvNeq, bvLss, bvLeq, bvGtr, bvGeq, bvSEql, bvSNeq, bvBEql, bvBNeq, thenN, inBlockN, argEnv, builtinR, retE, fin, callR, List.take_succ_cons, List.take_zero, List.drop_succ_cons, List.drop_zero, List.getElem?_cons_zero, List.getElem?_cons_succ, reduceIte, Nat.reduceEqDiff, Nat.reduceAdd, Bool.not_true, Bool.not_false, true_and, and_true, reduceCtorEq, forall_const, false_implies, true_implies, List.toList_toArray, List.cons_append, List.nil_append, Int.toNat_natCast, add_at, Nat.mul_one, Nat.add_zero, Try.results44, Fx.ag22, Fx.ag23, Fx.ag26, Fx.ag3, Fx.ag4, Fx.ag50, Fx.es22, Fx.es23, Fx.es26, Fx.fo37_4, Fx.fo55_0, Fx.fo55_1, Fx.isl22, Fx.isl26]
        refine ⟨_, (hs4.chg hch2 (by omega)).cell rfl, ?_⟩
        try simp only [wpL, wpH, wpE, oweC, oweP, List.headD_cons, List.tail_cons, opF, opH, ev, evs, evp, evo, Env.get, Env.set, putE, gdst, bvAdd, bvSub, bvMul, bvEql, bvNeq, bvLss, bvLeq, bvGtr, bvGeq, bvSEql, bvSNeq, bvBEql, bvBNeq, thenN, inBlockN, argEnv, builtinR, retE, fin, callR, List.take_succ_cons, List.take_zero, List.drop_succ_cons, List.drop_zero, List.getElem?_cons_zero, List.getElem?_cons_succ, reduceIte, Nat.reduceEqDiff, Nat.reduceAdd, Bool.not_true, Bool.not_false, true_and, and_true, reduceCtorEq, forall_const, false_implies, true_implies, List.toList_toArray, List.cons_append, List.nil_append, Int.toNat_natCast, add_at, Nat.mul_one, Nat.add_zero, Try.results44, Fx.ag22, Fx.ag23, Fx.ag26, Fx.ag3, Fx.ag4, Fx.ag50, Fx.es22, Fx.es23, Fx.es26, Fx.fo37_4, Fx.fo55_0, Fx.fo55_1, Fx.isl22, Fx.isl26]
        have hg0 : (iv (wlist ks.length wt (i + 1)))[i]? = some (.int .i64 0) := by
          simp only [iv, List.getElem?_map, wlist_get _ _ _ _ hi, if_neg (show ¬ i + 1 ≤ i by omega), Option.map_some]
        refine ⟨by omega, by omega, _, by simpa using hbw2.cell hg0, ?_⟩
        try simp only [wpL, wpH, wpE, oweC, oweP, List.headD_cons, List.tail_cons, opF, opH, ev, evs, evp, evo, Env.get, Env.set, putE, gdst, bvAdd, bvSub, bvMul, bvEql, bvNeq, bvLss, bvLeq, bvGtr, bvGeq, bvSEql, bvSNeq, bvBEql, bvBNeq, thenN, inBlockN, argEnv, builtinR, retE, fin, callR, List.take_succ_cons, List.take_zero, List.drop_succ_cons, List.drop_zero, List.getElem?_cons_zero, List.getElem?_cons_succ, reduceIte, Nat.reduceEqDiff, Nat.reduceAdd, Bool.not_true, Bool.not_false, true_and, and_true, reduceCtorEq, forall_const, false_implies, true_implies, List.toList_toArray, List.cons_append, List.nil_append, Int.toNat_natCast, add_at, Nat.mul_one, Nat.add_zero, Try.results44, Fx.ag22, Fx.ag23, Fx.ag26, Fx.ag3, Fx.ag4, Fx.ag50, Fx.es22, Fx.es23, Fx.es26, Fx.fo37_4, Fx.fo55_0, Fx.fo55_1, Fx.isl22, Fx.isl26]
        refine ⟨by simp only [inI]; omega, by omega, by omega, ?_⟩
        refine Runs.store (o := 0 + i) hbw2 Fx.zi3 rfl (by simp [Value.cells, Value.oneCell']) (by simp; omega) (fun W3 hc3 hz3 hb3 => ?_)
        try simp only [wpL, wpH, wpE, oweC, oweP, List.headD_cons, List.tail_cons, opF, opH, ev, evs, evp, evo, Env.get, Env.set, putE, gdst, bvAdd, bvSub, bvMul, bvEql, bvNeq, bvLss, bvLeq, bvGtr, bvGeq, bvSEql, bvSNeq, bvBEql, bvBNeq, thenN, inBlockN, argEnv, builtinR, retE, fin, callR, List.take_succ_cons, List.take_zero, List.drop_succ_cons, List.drop_zero, List.getElem?_cons_zero, List.getElem?_cons_succ, reduceIte, Nat.reduceEqDiff, Nat.reduceAdd, Bool.not_true, Bool.not_false, true_and, and_true, reduceCtorEq, forall_const, false_implies, true_implies, List.toList_toArray, List.cons_append, List.nil_append, Int.toNat_natCast, add_at, Nat.mul_one, Nat.add_zero, Try.results44, Fx.ag22, Fx.ag23, Fx.ag26, Fx.ag3, Fx.ag4, Fx.ag50, Fx.es22, Fx.es23, Fx.es26, Fx.fo37_4, Fx.fo55_0, Fx.fo55_1, Fx.isl22, Fx.isl26]
        refine ⟨by simp [sub, Env.get], hch2.trans hc3, hc3, ?_⟩
        rw [hgetD, ht]
        simp only [if_true, iv_set]
        rw [Nat.zero_add] at hb3
        have : splice (iv (wlist ks.length wt (i + 1))) i (Value.int IntKind.i64 (0 + 1)).cells.toList = (iv (wlist ks.length wt (i + 1))).set i (.int .i64 1) := splice_one _ _ _ (by simpa using hi)
        rw [← this]
        exact hb3
      · try simp only [wpL, wpH, wpE, oweC, oweP, List.headD_cons, List.tail_cons, opF, opH, ev, evs, evp, evo, Env.get, Env.set, putE, gdst, bvAdd, bvSub, bvMul, bvEql, bvNeq, bvLss, bvLeq, bvGtr, bvGeq, bvSEql, bvSNeq, bvBEql, bvBNeq, thenN, inBlockN, argEnv, builtinR, retE, fin, callR, List.take_succ_cons, List.take_zero, List.drop_succ_cons, List.drop_zero, List.getElem?_cons_zero, List.getElem?_cons_succ, reduceIte, Nat.reduceEqDiff, Nat.reduceAdd, Bool.not_true, Bool.not_false, true_and, and_true, reduceCtorEq, forall_const, false_implies, true_implies, List.toList_toArray, List.cons_append, List.nil_append, Int.toNat_natCast, add_at, Nat.mul_one, Nat.add_zero, Try.results44, Fx.ag22, Fx.ag23, Fx.ag26, Fx.ag3, Fx.ag4, Fx.ag50, Fx.es22, Fx.es23, Fx.es26, Fx.fo37_4, Fx.fo55_0, Fx.fo55_1, Fx.isl22, Fx.isl26]
        refine ⟨by simp [sub, Env.get], hch2, Chg.refl _ _, ?_⟩
        rw [hgetD, hf]
        simp only [Bool.false_eq_true, if_false, wlist_low]
        exact hbw2
    clear hbw2 hch2
    rintro W3 ⟨hch3, hc23, hb3⟩
    obtain ⟨A2, c2, rfl, hl2, hk⟩ := hk.at_
    refine ok_seq (fun M hM => ok_region rfl ?_)
    try simp only [wpL, wpH, wpE, oweC, oweP, List.headD_cons, List.tail_cons, opF, opH, ev, evs, evp, evo, Env.get, Env.set, putE, gdst, bvAdd, bvSub, bvMul, bvEql, bvNeq, bvLss, bvLeq, bvGtr, bvGeq, bvSEql, bvSNeq, bvBEql, bvBNeq, thenN, inBlockN, argEnv, builtinR, retE, fin, callR, List.take_succ_cons, List.take_zero, List.drop_succ_cons, List.drop_zero, List.getElem?_cons_zero, List.getElem?_cons_succ, reduceIte, Nat.reduceEqDiff, Nat.reduceAdd, Bool.not_true, Bool.not_false, true_and, and_true, reduceCtorEq, forall_const, false_implies, true_implies, List.toList_toArray, List.cons_append, List.nil_append, Int.toNat_natCast, add_at, Nat.mul_one, Nat.add_zero, Try.results44, Fx.ag22, Fx.ag23, Fx.ag26, Fx.ag3, Fx.ag4, Fx.ag50, Fx.es22, Fx.es23, Fx.es26, Fx.fo37_4, Fx.fo55_0, Fx.fo55_1, Fx.isl22, Fx.isl26]
    refine ⟨_, (hs1.chg hch3 (by omega)).cell rfl, ?_⟩
    try simp only [wpL, wpH, wpE, oweC, oweP, List.headD_cons, List.tail_cons, opF, opH, ev, evs, evp, evo, Env.get, Env.set, putE, gdst, bvAdd, bvSub, bvMul, bvEql, bvNeq, bvLss, bvLeq, bvGtr, bvGeq, bvSEql, bvSNeq, bvBEql, bvBNeq, thenN, inBlockN, argEnv, builtinR, retE, fin, callR, List.take_succ_cons, List.take_zero, List.drop_succ_cons, List.drop_zero, List.getElem?_cons_zero, List.getElem?_cons_succ, reduceIte, Nat.reduceEqDiff, Nat.reduceAdd, Bool.not_true, Bool.not_false, true_and, and_true, reduceCtorEq, forall_const, false_implies, true_implies, List.toList_toArray, List.cons_append, List.nil_append, Int.toNat_natCast, add_at, Nat.mul_one, Nat.add_zero, Try.results44, Fx.ag22, Fx.ag23, Fx.ag26, Fx.ag3, Fx.ag4, Fx.ag50, Fx.es22, Fx.es23, Fx.es26, Fx.fo37_4, Fx.fo55_0, Fx.fo55_1, Fx.isl22, Fx.isl26]
    refine ⟨_, ((hbq.ext he5').chg hch3 (by omega)).cell rfl, ?_⟩
    try simp only [wpL, wpH, wpE, oweC, oweP, List.headD_cons, List.tail_cons, opF, opH, ev, evs, evp, evo, Env.get, Env.set, putE, gdst, bvAdd, bvSub, bvMul, bvEql, bvNeq, bvLss, bvLeq, bvGtr, bvGeq, bvSEql, bvSNeq, bvBEql, bvBNeq, thenN, inBlockN, argEnv, builtinR, retE, fin, callR, List.take_succ_cons, List.take_zero, List.drop_succ_cons, List.drop_zero, List.getElem?_cons_zero, List.getElem?_cons_succ, reduceIte, Nat.reduceEqDiff, Nat.reduceAdd, Bool.not_true, Bool.not_false, true_and, and_true, reduceCtorEq, forall_const, false_implies, true_implies, List.toList_toArray, List.cons_append, List.nil_append, Int.toNat_natCast, add_at, Nat.mul_one, Nat.add_zero, Try.results44, Fx.ag22, Fx.ag23, Fx.ag26, Fx.ag3, Fx.ag4, Fx.ag50, Fx.es22, Fx.es23, Fx.es26, Fx.fo37_4, Fx.fo55_0, Fx.fo55_1, Fx.isl22, Fx.isl26]
    have hc4 := hcc 4 _ rfl
    simp only [add_at] at hc4
    refine ⟨by omega, by omega, _, hbn hch3 hc4, ?_⟩
    try simp only [wpL, wpH, wpE, oweC, oweP, List.headD_cons, List.tail_cons, opF, opH, ev, evs, evp, evo, Env.get, Env.set, putE, gdst, bvAdd, bvSub, bvMul, bvEql, bvNeq, bvLss, bvLeq, bvGtr, bvGeq, bvSEql, bvSNeq, bvBEql, bvBNeq, thenN, inBlockN, argEnv, builtinR, retE, fin, callR, List.take_succ_cons, List.take_zero, List.drop_succ_cons, List.drop_zero, List.getElem?_cons_zero, List.getElem?_cons_succ, reduceIte, Nat.reduceEqDiff, Nat.reduceAdd, Bool.not_true, Bool.not_false, true_and, and_true, reduceCtorEq, forall_const, false_implies, true_implies, List.toList_toArray, List.cons_append, List.nil_append, Int.toNat_natCast, add_at, Nat.mul_one, Nat.add_zero, Try.results44, Fx.ag22, Fx.ag23, Fx.ag26, Fx.ag3, Fx.ag4, Fx.ag50, Fx.es22, Fx.es23, Fx.es26, Fx.fo37_4, Fx.fo55_0, Fx.fo55_1, Fx.isl22, Fx.isl26]
    refine hM _ _ _ ?_; clear hM M
    refine ok_block ?_
    refine ok_loop (S := Nat) (fun j => [(0, .pointer (some ⟨q, 0, none⟩)), (1, .pointer (some ⟨Bs, 0, none⟩)), (3, .pointer (some ⟨B4, 0, none⟩)), (4, .int .i64 (i : Int)), (40, .slice A2 ks[i].length c2), (41, .int .i64 (ks[i].length : Int)), (42, .int .i64 (j : Int))])
      (fun j W' => Chg (· = B3) w5 W' ∧ Chg (· = B3) W2 W' ∧ j ≤ ks[i].length ∧ Blk W' B3 (iv ((wlist ks.length wt (i + 1)).set i ((if sus.getD i false then 1 else 0) + part wt (kidsOf ks i) j))) 3) (fun j => ks[i].length - j) 0 ?_ ?_ ?_
    · simp [sub, Env.get]
    · exact ⟨hch3, hc23, Nat.zero_le _, by simpa [part] using hb3⟩
    clear hch3 hc23 hb3 W3
    rintro j W3 ⟨hch3, hc23, hj, hb3⟩
    refine ok_seq (fun M hM => ok_region rfl ?_); try simp only [wpL, wpH, wpE, oweC, oweP, List.headD_cons, List.tail_cons, opF, opH, ev, evs, evp, evo, Env.get, Env.set, putE, gdst, bvAdd, bvSub, bvMul, bvEql, bvNeq, bvLss, bvLeq, bvGtr, bvGeq, bvSEql, bvSNeq, bvBEql, bvBNeq, thenN, inBlockN, argEnv, builtinR, retE, fin, callR, List.take_succ_cons, List.take_zero, List.drop_succ_cons, List.drop_zero, List.getElem?_cons_zero, List.getElem?_cons_succ, reduceIte, Nat.reduceEqDiff, Nat.reduceAdd, Bool.not_true, Bool.not_false, true_and, and_true, reduceCtorEq, forall_const, false_implies, true_implies, List.toList_toArray, List.cons_append, List.nil_append, Int.toNat_natCast, add_at, Nat.mul_one, Nat.add_zero, Try.results44, Fx.ag22, Fx.ag23, Fx.ag26, Fx.ag3, Fx.ag4, Fx.ag50, Fx.es22, Fx.es23, Fx.es26, Fx.fo37_4, Fx.fo55_0, Fx.fo55_1, Fx.isl22, Fx.isl26]
    refine hM _ _ _ ?_; clear hM M
    refine ok_seq (fun M hM => ok_if rfl (fun hc => ok_skip ?_) (fun hc => ok_exit ?_))
    rotate_left
    · try simp only [wpL, wpH, wpE, oweC, oweP, List.headD_cons, List.tail_cons, opF, opH, ev, evs, evp, evo, Env.get, Env.set, putE, gdst, bvAdd, bvSub, bvMul, bvEql, bvNeq, bvLss, bvLeq, bvGtr, bvGeq, bvSEql, bvSNeq, bvBEql, bvBNeq, thenN, inBlockN, argEnv, builtinR, retE, fin, callR, List.take_succ_cons, List.take_zero, List.drop_succ_cons, List.drop_zero, List.getElem?_cons_zero, List.getElem?_cons_succ, reduceIte, Nat.reduceEqDiff, Nat.reduceAdd, Bool.not_true, Bool.not_false, true_and, and_true, reduceCtorEq, forall_const, false_implies, true_implies, List.toList_toArray, List.cons_append, List.nil_append, Int.toNat_natCast, add_at, Nat.mul_one, Nat.add_zero, Try.results44, Fx.ag22, Fx.ag23, Fx.ag26, Fx.ag3, Fx.ag4, Fx.ag50, Fx.es22, Fx.es23, Fx.es26, Fx.fo37_4, Fx.fo55_0, Fx.fo55_1, Fx.isl22, Fx.isl26]
      have hje : j = (kidsOf ks i).length := by rw [hki]; omega
      subst hje
      refine ⟨Keep.chg hc23 (by omega) (by omega) (by omega), i, rfl, hch3, by omega, ?_⟩
      rw [part_all, ← hwt i hi, wlist_next] at hb3
      exact hb3
    · try simp only [wpL, wpH, wpE, oweC, oweP, List.headD_cons, List.tail_cons, opF, opH, ev, evs, evp, evo, Env.get, Env.set, putE, gdst, bvAdd, bvSub, bvMul, bvEql, bvNeq, bvLss, bvLeq, bvGtr, bvGeq, bvSEql, bvSNeq, bvBEql, bvBNeq, thenN, inBlockN, argEnv, builtinR, retE, fin, callR, List.take_succ_cons, List.take_zero, List.drop_succ_cons, List.drop_zero, List.getElem?_cons_zero, List.getElem?_cons_succ, reduceIte, Nat.reduceEqDiff, Nat.reduceAdd, Bool.not_true, Bool.not_false, true_and, and_true, reduceCtorEq, forall_const, false_implies, true_implies, List.toList_toArray, List.cons_append, List.nil_append, Int.toNat_natCast, add_at, Nat.mul_one, Nat.add_zero, Try.results44, Fx.ag22, Fx.ag23, Fx.ag26, Fx.ag3, Fx.ag4, Fx.ag50, Fx.es22, Fx.es23, Fx.es26, Fx.fo37_4, Fx.fo55_0, Fx.fo55_1, Fx.isl22, Fx.isl26]
      refine hM _ _ _ ?_; clear hM M
      have hjl : j < ks[i].length := by omega
      have hjl' : j < (kidsOf ks i).length := by rw [hki]; exact hjl
      obtain ⟨bk, ok_, rfl, hkj⟩ := hk j hjl
      have hps := part_succ wt (kidsOf ks i) j hjl'
      have hpn := part_nonneg wt hw0 (kidsOf ks i) j
      have hpl := part_le wt hw0 (kidsOf ks i) (j + 1)
      have hwi := hwt i hi
      have hw1i := hw1 i
      have hmem : (kidsOf ks i)[j] ∈ kidsOf ks i := List.getElem_mem _
      have hed1 := kids_edge hed hi hmem
      have hgj : (kidsOf ks i)[j]'hjl' = ks[i][j] := by simp only [hki]
      rw [hgj] at hps hed1
      have hkk := hbn hch3 hkj
      generalize ks[i][j] = k at *
      have hb01 : (0 : Int) ≤ (if sus.getD i false = true then 1 else 0) := by split <;> omega
      generalize (if sus.getD i false = true then (1 : Int) else 0) = d0 at *
      generalize part wt (kidsOf ks i) j = pj at *
      have hwk := hw0 k.toNat
      refine ok_seq (fun M2 hM2 => ok_block ?_)
      refine ok_seq (fun M hM => ok_region rfl ?_); try simp only [wpL, wpH, wpE, oweC, oweP, List.headD_cons, List.tail_cons, opF, opH, ev, evs, evp, evo, Env.get, Env.set, putE, gdst, bvAdd, bvSub, bvMul, bvEql, bvNeq, bvLss, bvLeq, bvGtr, bvGeq, bvSEql, bvSNeq, bvBEql, bvBNeq, thenN, inBlockN, argEnv, builtinR, retE, fin, callR, List.take_succ_cons, List.take_zero, List.drop_succ_cons, List.drop_zero, List.getElem?_cons_zero, List.getElem?_cons_succ, reduceIte, Nat.reduceEqDiff, Nat.reduceAdd, Bool.not_true, Bool.not_false, true_and, and_true, reduceCtorEq, forall_const, false_implies, true_implies, List.toList_toArray, List.cons_append, List.nil_append, Int.toNat_natCast, add_at, Nat.mul_one, Nat.add_zero, Try.results44, Fx.ag22, Fx.ag23, Fx.ag26, Fx.ag3, Fx.ag4, Fx.ag50, Fx.es22, Fx.es23, Fx.es26, Fx.fo37_4, Fx.fo55_0, Fx.fo55_1, Fx.isl22, Fx.isl26]
      refine ⟨by omega, by omega, _, hkk, ?_⟩
      try simp only [wpL, wpH, wpE, oweC, oweP, List.headD_cons, List.tail_cons, opF, opH, ev, evs, evp, evo, Env.get, Env.set, putE, gdst, bvAdd, bvSub, bvMul, bvEql, bvNeq, bvLss, bvLeq, bvGtr, bvGeq, bvSEql, bvSNeq, bvBEql, bvBNeq, thenN, inBlockN, argEnv, builtinR, retE, fin, callR, List.take_succ_cons, List.take_zero, List.drop_succ_cons, List.drop_zero, List.getElem?_cons_zero, List.getElem?_cons_succ, reduceIte, Nat.reduceEqDiff, Nat.reduceAdd, Bool.not_true, Bool.not_false, true_and, and_true, reduceCtorEq, forall_const, false_implies, true_implies, List.toList_toArray, List.cons_append, List.nil_append, Int.toNat_natCast, add_at, Nat.mul_one, Nat.add_zero, Try.results44, Fx.ag22, Fx.ag23, Fx.ag26, Fx.ag3, Fx.ag4, Fx.ag50, Fx.es22, Fx.es23, Fx.es26, Fx.fo37_4, Fx.fo55_0, Fx.fo55_1, Fx.isl22, Fx.isl26]
      refine hM _ _ _ ?_; clear hM M
      have hkn : k.toNat < ks.length := by omega
      have hki2 : ¬ i = k.toNat := by omega
      refine (ok_draw 10 [(false, true)] (Ext _) Fx.mixed (by decide) rfl (by decide +kernel) (by decide +kernel) (Ext.drew _) ?_)
      try simp only [wpL, wpH, wpE, oweC, oweP, List.headD_cons, List.tail_cons, opF, opH, ev, evs, evp, evo, Env.get, Env.set, putE, gdst, bvAdd, bvSub, bvMul, bvEql, bvNeq, bvLss, bvLeq, bvGtr, bvGeq, bvSEql, bvSNeq, bvBEql, bvBNeq, thenN, inBlockN, argEnv, builtinR, retE, fin, callR, List.take_succ_cons, List.take_zero, List.drop_succ_cons, List.drop_zero, List.getElem?_cons_zero, List.getElem?_cons_succ, reduceIte, Nat.reduceEqDiff, Nat.reduceAdd, Bool.not_true, Bool.not_false, true_and, and_true, reduceCtorEq, forall_const, false_implies, true_implies, List.toList_toArray, List.cons_append, List.nil_append, Int.toNat_natCast, add_at, Nat.mul_one, Nat.add_zero, Try.results44, Fx.ag22, Fx.ag23, Fx.ag26, Fx.ag3, Fx.ag4, Fx.ag50, Fx.es22, Fx.es23, Fx.es26, Fx.fo37_4, Fx.fo55_0, Fx.fo55_1, Fx.isl22, Fx.isl26]
      have hgi : (iv ((wlist ks.length wt (i + 1)).set i (d0 + pj)))[i]? = some (.int .i64 (d0 + pj)) := by
        simp [iv, hi]
      have hgk : (iv ((wlist ks.length wt (i + 1)).set i (d0 + pj)))[k.toNat]? = some (.int .i64 (wt k.toNat)) := by
        simp only [iv, List.getElem?_map, List.getElem?_set, if_neg hki2, wlist_get _ _ _ _ hkn, if_pos (show i + 1 ≤ k.toNat by omega), Option.map_some]
      refine ⟨_, fun w2 h => h.cell ((hs4.chg hch3 (by omega)).cell rfl), ?_⟩
      try simp only [wpL, wpH, wpE, oweC, oweP, List.headD_cons, List.tail_cons, opF, opH, ev, evs, evp, evo, Env.get, Env.set, putE, gdst, bvAdd, bvSub, bvMul, bvEql, bvNeq, bvLss, bvLeq, bvGtr, bvGeq, bvSEql, bvSNeq, bvBEql, bvBNeq, thenN, inBlockN, argEnv, builtinR, retE, fin, callR, List.take_succ_cons, List.take_zero, List.drop_succ_cons, List.drop_zero, List.getElem?_cons_zero, List.getElem?_cons_succ, reduceIte, Nat.reduceEqDiff, Nat.reduceAdd, Bool.not_true, Bool.not_false, true_and, and_true, reduceCtorEq, forall_const, false_implies, true_implies, List.toList_toArray, List.cons_append, List.nil_append, Int.toNat_natCast, add_at, Nat.mul_one, Nat.add_zero, Try.results44, Fx.ag22, Fx.ag23, Fx.ag26, Fx.ag3, Fx.ag4, Fx.ag50, Fx.es22, Fx.es23, Fx.es26, Fx.fo37_4, Fx.fo55_0, Fx.fo55_1, Fx.isl22, Fx.isl26]
      refine ⟨by omega, by omega, _, fun w2 h => by simpa using (hb3.ext h).cell hgi, _, fun w2 h => h.cell ((hs4.chg hch3 (by omega)).cell rfl), ?_⟩
      try simp only [wpL, wpH, wpE, oweC, oweP, List.headD_cons, List.tail_cons, opF, opH, ev, evs, evp, evo, Env.get, Env.set, putE, gdst, bvAdd, bvSub, bvMul, bvEql, bvNeq, bvLss, bvLeq, bvGtr, bvGeq, bvSEql, bvSNeq, bvBEql, bvBNeq, thenN, inBlockN, argEnv, builtinR, retE, fin, callR, List.take_succ_cons, List.take_zero, List.drop_succ_cons, List.drop_zero, List.getElem?_cons_zero, List.getElem?_cons_succ, reduceIte, Nat.reduceEqDiff, Nat.reduceAdd, Bool.not_true, Bool.not_false, true_and, and_true, reduceCtorEq, forall_const, false_implies, true_implies, List.toList_toArray, List.cons_append, List.nil_append, Int.toNat_natCast, add_at, Nat.mul_one, Nat.add_zero, Try.results44, Fx.ag22, Fx.ag23, Fx.ag26, Fx.ag3, Fx.ag4, Fx.ag50, Fx.es22, Fx.es23, Fx.es26, Fx.fo37_4, Fx.fo55_0, Fx.fo55_1, Fx.isl22, Fx.isl26]
      refine ⟨by omega, by omega, _, fun w2 h => by simpa using (hb3.ext h).cell hgk, ?_⟩
      try simp only [wpL, wpH, wpE, oweC, oweP, List.headD_cons, List.tail_cons, opF, opH, ev, evs, evp, evo, Env.get, Env.set, putE, gdst, bvAdd, bvSub, bvMul, bvEql, bvNeq, bvLss, bvLeq, bvGtr, bvGeq, bvSEql, bvSNeq, bvBEql, bvBNeq, thenN, inBlockN, argEnv, builtinR, retE, fin, callR, List.take_succ_cons, List.take_zero, List.drop_succ_cons, List.drop_zero, List.getElem?_cons_zero, List.getElem?_cons_succ, reduceIte, Nat.reduceEqDiff, Nat.reduceAdd, Bool.not_true, Bool.not_false, true_and, and_true, reduceCtorEq, forall_const, false_implies, true_implies, List.toList_toArray, List.cons_append, List.nil_append, Int.toNat_natCast, add_at, Nat.mul_one, Nat.add_zero, Try.results44, Fx.ag22, Fx.ag23, Fx.ag26, Fx.ag3, Fx.ag4, Fx.ag50, Fx.es22, Fx.es23, Fx.es26, Fx.fo37_4, Fx.fo55_0, Fx.fo55_1, Fx.isl22, Fx.isl26]
      refine ⟨by simp only [inI]; omega, by omega, by omega, fun w6 he6 => ?_⟩
      refine Runs.store (o := 0 + i) (hb3.ext he6) Fx.zi3 rfl (by simp [Value.cells, Value.oneCell']) (by simp; omega) (fun W4 hc4 hz4 hb4 => ?_)
      try simp only [wpL, wpH, wpE, oweC, oweP, List.headD_cons, List.tail_cons, opF, opH, ev, evs, evp, evo, Env.get, Env.set, putE, gdst, bvAdd, bvSub, bvMul, bvEql, bvNeq, bvLss, bvLeq, bvGtr, bvGeq, bvSEql, bvSNeq, bvBEql, bvBNeq, thenN, inBlockN, argEnv, builtinR, retE, fin, callR, List.take_succ_cons, List.take_zero, List.drop_succ_cons, List.drop_zero, List.getElem?_cons_zero, List.getElem?_cons_succ, reduceIte, Nat.reduceEqDiff, Nat.reduceAdd, Bool.not_true, Bool.not_false, true_and, and_true, reduceCtorEq, forall_const, false_implies, true_implies, List.toList_toArray, List.cons_append, List.nil_append, Int.toNat_natCast, add_at, Nat.mul_one, Nat.add_zero, Try.results44, Fx.ag22, Fx.ag23, Fx.ag26, Fx.ag3, Fx.ag4, Fx.ag50, Fx.es22, Fx.es23, Fx.es26, Fx.fo37_4, Fx.fo55_0, Fx.fo55_1, Fx.isl22, Fx.isl26]
      refine hM2 _ _ _ ?_; clear hM2 M2
      refine ok_region rfl ?_
      try simp only [wpL, wpH, wpE, oweC, oweP, List.headD_cons, List.tail_cons, opF, opH, ev, evs, evp, evo, Env.get, Env.set, putE, gdst, bvAdd, bvSub, bvMul, bvEql, bvNeq, bvLss, bvLeq, bvGtr, bvGeq, bvSEql, bvSNeq, bvBEql, bvBNeq, thenN, inBlockN, argEnv, builtinR, retE, fin, callR, List.take_succ_cons, List.take_zero, List.drop_succ_cons, List.drop_zero, List.getElem?_cons_zero, List.getElem?_cons_succ, reduceIte, Nat.reduceEqDiff, Nat.reduceAdd, Bool.not_true, Bool.not_false, true_and, and_true, reduceCtorEq, forall_const, false_implies, true_implies, List.toList_toArray, List.cons_append, List.nil_append, Int.toNat_natCast, add_at, Nat.mul_one, Nat.add_zero, Try.results44, Fx.ag22, Fx.ag23, Fx.ag26, Fx.ag3, Fx.ag4, Fx.ag50, Fx.es22, Fx.es23, Fx.es26, Fx.fo37_4, Fx.fo55_0, Fx.fo55_1, Fx.isl22, Fx.isl26]
      refine ⟨by simp only [inI]; omega, j + 1, by simp [sub, Env.get], ⟨(hch3.trans (he6.chg _)).trans hc4, (hc23.trans (he6.chg _)).trans hc4, by omega, ?_⟩, by omega⟩
      have : splice (iv ((wlist ks.length wt (i + 1)).set i (d0 + pj))) (0 + i) (Value.int IntKind.i64 (d0 + pj + wt k.toNat)).cells.toList = iv ((wlist ks.length wt (i + 1)).set i (d0 + part wt (kidsOf ks i) (j + 1))) := by
        rw [Nat.zero_add, hps]
        have := splice_one (iv ((wlist ks.length wt (i + 1)).set i (d0 + pj))) i (.int .i64 (d0 + pj + wt k.toNat)) (by simpa using hi)
        rw [show (Value.int IntKind.i64 (d0 + pj + wt k.toNat)).cells.toList = [.int .i64 (d0 + pj + wt k.toNat)] from rfl, this, ← iv_set, List.set_set, Int.add_assoc]
      rw [← this]
      exact hb4
  · -- the iterator
    intro J' Jx' W hm hJ h0 hy
    refine Rets.mono (backward1_ok (J' := J') (Jx' := Jx') W _ b1 A ks.length cp (fun i => rows.getD i []) hlen hrow ?_ h0 ?_) ?_
    · intro s W hj
      obtain ⟨h1, h2, h3⟩ := hJ s W hj
      refine ⟨(hb5.chg h1 (by omega)).cell rfl, h2, fun i hi => ?_⟩
      obtain ⟨c, p, vi, vo, vk, hrw, _⟩ := hr i hi
      obtain ⟨b, o, hA, hcc⟩ := hc i _ hrw
      refine ⟨b, o, hA, ?_⟩
      have : rows.getD i [] = [.int .i64 c, .int .i64 p, vi, vo, vk] := by simp [List.getD_eq_getElem?_getD, hrw]
      rw [this]
      refine h1.cellsAt (he5'.cellsAt (hext.cellsAt hcc)) ?_
      have hlt : b < w0.heap.size := World.block_lt_of_cell? w0 ⟨b, o + i * 5, none⟩ (by simpa [add_at] using hcc 0 _ rfl)
      have := hext.size
      show ¬ b = B3
      omega
    · intro s W hs hj
      exact hy s W hs hj
    · rintro v W' (h | h)
      · exact .inl ⟨0, rfl, h⟩
      · exact .inr h
  · -- behind the range
    rintro s W rfl ⟨h1, h2, h3⟩ hd
    try simp only [wpL, wpH, wpE, oweC, oweP, List.headD_cons, List.tail_cons, opF, opH, ev, evs, evp, evo, Env.get, Env.set, putE, gdst, bvAdd, bvSub, bvMul, bvEql, bvNeq, bvLss, bvLeq, bvGtr, bvGeq, bvSEql, bvSNeq, bvBEql, bvBNeq, thenN, inBlockN, argEnv, builtinR, retE, fin, callR, List.take_succ_cons, List.take_zero, List.drop_succ_cons, List.drop_zero, List.getElem?_cons_zero, List.getElem?_cons_succ, reduceIte, Nat.reduceEqDiff, Nat.reduceAdd, Bool.not_true, Bool.not_false, true_and, and_true, reduceCtorEq, forall_const, false_implies, true_implies, List.toList_toArray, List.cons_append, List.nil_append, Int.toNat_natCast, add_at, Nat.mul_one, Nat.add_zero, Try.results44, Fx.ag22, Fx.ag23, Fx.ag26, Fx.ag3, Fx.ag4, Fx.ag50, Fx.es22, Fx.es23, Fx.es26, Fx.fo37_4, Fx.fo55_0, Fx.fo55_1, Fx.isl22, Fx.isl26]
    refine hM0 _ _ _ ?_; clear hM0 M0
    refine ok_seq (fun M hM => ok_region rfl ?_)
    try simp only [wpL, wpH, wpE, oweC, oweP, List.headD_cons, List.tail_cons, opF, opH, ev, evs, evp, evo, Env.get, Env.set, putE, gdst, bvAdd, bvSub, bvMul, bvEql, bvNeq, bvLss, bvLeq, bvGtr, bvGeq, bvSEql, bvSNeq, bvBEql, bvBNeq, thenN, inBlockN, argEnv, builtinR, retE, fin, callR, List.take_succ_cons, List.take_zero, List.drop_succ_cons, List.drop_zero, List.getElem?_cons_zero, List.getElem?_cons_succ, reduceIte, Nat.reduceEqDiff, Nat.reduceAdd, Bool.not_true, Bool.not_false, true_and, and_true, reduceCtorEq, forall_const, false_implies, true_implies, List.toList_toArray, List.cons_append, List.nil_append, Int.toNat_natCast, add_at, Nat.mul_one, Nat.add_zero, Try.results44, Fx.ag22, Fx.ag23, Fx.ag26, Fx.ag3, Fx.ag4, Fx.ag50, Fx.es22, Fx.es23, Fx.es26, Fx.fo37_4, Fx.fo55_0, Fx.fo55_1, Fx.isl22, Fx.isl26]
    refine ⟨_, (hs4.chg h1 (by omega)).cell rfl, ?_⟩
    try simp only [wpL, wpH, wpE, oweC, oweP, List.headD_cons, List.tail_cons, opF, opH, ev, evs, evp, evo, Env.get, Env.set, putE, gdst, bvAdd, bvSub, bvMul, bvEql, bvNeq, bvLss, bvLeq, bvGtr, bvGeq, bvSEql, bvSNeq, bvBEql, bvBNeq, thenN, inBlockN, argEnv, builtinR, retE, fin, callR, List.take_succ_cons, List.take_zero, List.drop_succ_cons, List.drop_zero, List.getElem?_cons_zero, List.getElem?_cons_succ, reduceIte, Nat.reduceEqDiff, Nat.reduceAdd, Bool.not_true, Bool.not_false, true_and, and_true, reduceCtorEq, forall_const, false_implies, true_implies, List.toList_toArray, List.cons_append, List.nil_append, Int.toNat_natCast, add_at, Nat.mul_one, Nat.add_zero, Try.results44, Fx.ag22, Fx.ag23, Fx.ag26, Fx.ag3, Fx.ag4, Fx.ag50, Fx.es22, Fx.es23, Fx.es26, Fx.fo37_4, Fx.fo55_0, Fx.fo55_1, Fx.isl22, Fx.isl26]
    refine hM _ _ _ ?_; clear hM M
    refine ok_ret ?_
    refine .inr ⟨_, rfl, hd, ?_⟩
    try simp only [wpL, wpH, wpE, oweC, oweP, List.headD_cons, List.tail_cons, opF, opH, ev, evs, evp, evo, Env.get, Env.set, putE, gdst, bvAdd, bvSub, bvMul, bvEql, bvNeq, bvLss, bvLeq, bvGtr, bvGeq, bvSEql, bvSNeq, bvBEql, bvBNeq, thenN, inBlockN, argEnv, builtinR, retE, fin, callR, List.take_succ_cons, List.take_zero, List.drop_succ_cons, List.drop_zero, List.getElem?_cons_zero, List.getElem?_cons_succ, reduceIte, Nat.reduceEqDiff, Nat.reduceAdd, Bool.not_true, Bool.not_false, true_and, and_true, reduceCtorEq, forall_const, false_implies, true_implies, List.toList_toArray, List.cons_append, List.nil_append, Int.toNat_natCast, add_at, Nat.mul_one, Nat.add_zero, Try.results44, Fx.ag22, Fx.ag23, Fx.ag26, Fx.ag3, Fx.ag4, Fx.ag50, Fx.es22, Fx.es23, Fx.es26, Fx.fo37_4, Fx.fo55_0, Fx.fo55_1, Fx.isl22, Fx.isl26]
    have hlt := (Array.getElem?_eq_some_iff.1 hd).1
    refine ⟨B3, rfl, ?_, ?_⟩
    · exact (World.putObj_heap_other (by omega)).trans h3
    · have hx : Chg (fun k => k = B3 ∨ k = w5.heap.size) w5 (W.putObj w5.heap.size (.deferred none)) := ⟨h1.os, h1.tape, h1.output, by simpa using h1.size, fun k hk hk2 => (World.putObj_heap_other (by omega)).trans (h1.block k hk (by omega))⟩
      exact he5'.chg_trans hx (fun k hk => by omega)
end Go.Proofs.Ytafjfcameabbmaa
