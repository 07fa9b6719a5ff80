/- Text, make.  -/
import Derived.Test.YtldeokfhipjbfaaDoorH4
set_option linter.unusedVariables false
set_option linter.unusedSimpArgs false
namespace Go.Proofs.YtldeokfhipjbfaaDoor
open Go Go.Proofs.Vg Go.RowKit

end Go.Proofs.YtldeokfhipjbfaaDoor
namespace Go.Proofs.Vg
open Go Go.RowKit
/-- The heap 'H' has become 'H2'; what belongs to it is old or new. -/
def Grown (w w' : World) (hb rb : Nat) (H2 : List Ob) (F : Nat → Prop) : Prop :=
  Chg F w w' ∧ ∃ F', HeapW w' hb rb H2 F' ∧ ∀ k, F' k → F k ∨ (w.heap.size ≤ k ∧ k < w'.heap.size)

theorem HeapW.lt {w : World} {hb rb : Nat} {H : List Ob} {F : Nat → Prop} (h : HeapW w hb rb H F) : rb < w.heap.size := by
  obtain ⟨vs, ps, gs, hR, -⟩ := h
  exact hR.rules.lt
/-- The same heap, with what belongs to it alone. -/
theorem HeapW.tight {w : World} {hb rb : Nat} {H : List Ob} {F : Nat → Prop} (h : HeapW w hb rb H F) : HeapW w hb rb H (fun k => F k ∧ k < w.heap.size) := by
  obtain ⟨vs, ps, gs, hR, hf, hrb⟩ := h
  exact ⟨vs, ps, gs, hR, fun k hk => ⟨hf k hk, (hf k hk).2⟩, fun h => hrb h.1⟩
theorem Chg.trans_new {a b c : World} {F S : Nat → Prop} (h : Chg F a b) (k : Chg S b c) (hs : ∀ i, S i → a.heap.size ≤ i) : Chg F a c :=
  ⟨k.os.trans h.os, k.tape.trans h.tape, k.output.trans h.output, Nat.le_trans h.size k.size, fun i hi hf => by
    rw [k.block i (Nat.lt_of_lt_of_le hi h.size) (fun h => by have := hs i h; omega), h.block i hi hf]⟩
theorem Grown.refl {w : World} {hb rb : Nat} {H : List Ob} {F : Nat → Prop} (h : HeapW w hb rb H F) : Grown w w hb rb H F := ⟨Chg.refl _ _, F, h, fun k hk => .inl hk⟩
theorem Grown.ext {w w' : World} {hb rb : Nat} {H : List Ob} {F : Nat → Prop} (h : HeapW w hb rb H F) (he : Ext w w') : Grown w w' hb rb H F := ⟨he.chg F, F, h.ext he, fun k hk => .inl hk⟩
theorem Grown.ext_left {w w1 w' : World} {hb rb : Nat} {H : List Ob} {F : Nat → Prop} (he : Ext w w1) (h : Grown w1 w' hb rb H F) : Grown w w' hb rb H F := by
  obtain ⟨h1, F', h2, h3⟩ := h
  refine ⟨(he.chg F).trans h1, F', h2, fun k hk => ?_⟩
  rcases h3 k hk with h | ⟨h, h'⟩
  · exact .inl h
  · exact .inr ⟨Nat.le_trans he.size h, h'⟩
end Go.Proofs.Vg
namespace Go.Proofs.YtldeokfhipjbfaaDoor
open Go Go.Proofs.Vg Go.RowKit

-- -- function 22
set_option maxHeartbeats 2000000 in
set_option maxRecDepth 8000 in
theorem text_ok (w : World) (hb rb : Nat) (H : List Ob) (F : Nat → Prop) (hH : HeapW w hb rb H F) (hF : ∀ k, F k → k < w.heap.size) (hl : H.length ≤ 1048576) (s : ByteArray) :
    Rets Tryd.prog 22 [ptrOf hb, .string s] w (fun v w' => v = wv ⟨3, 0, (H.length : Int) + 1⟩ ∧ Grown w w' hb rb (H ++ [.text s]) F) := by
  refine rets_of_okC Tryd.func22 rfl rfl ?_
  refine ok_seq (fun M hM => ok_region rfl ?_)
  repeat ((try first | (refine ofX3 hX ?_; clear hX X) | (refine ofX2 hX ?_; clear hX X)); (first | refine wpL_step (fun X hX => ?_) | refine wpH_step (fun X hX => ?_) | refine wpE_step (fun X hX => ?_) | refine wpL_end ?_ | refine wpH_end ?_ | refine wpE_end ?_); try simp only [ oweC, oweP, opF, opH, ev, evs, evp, evo, Env.get, Env.set, putE, gdst, S0, S1, thenN, inBlockN, argEnv, builtinR, retE, fin, finC, retC, oneC, callR, reduceIte, Nat.reduceEqDiff, Nat.reduceAdd, reduceCtorEq, forall_const, Tryd.results22])
  refine Runs.alloc Fx.zi31 (fun w1 he1 hs1 hb1 => ?_)
  simp only [Value.cells] at hb1
  generalize hB : w.heap.size = B at hs1 hb1
  repeat ((try first | (refine ofX3 hX ?_; clear hX X) | (refine ofX2 hX ?_; clear hX X)); (first | refine wpL_step (fun X hX => ?_) | refine wpH_step (fun X hX => ?_) | refine wpE_step (fun X hX => ?_) | refine wpL_end ?_ | refine wpH_end ?_ | refine wpE_end ?_); try simp only [ oweC, oweP, opF, opH, ev, evs, evp, evo, Env.get, Env.set, putE, gdst, S0, S1, thenN, inBlockN, argEnv, builtinR, retE, fin, finC, retC, oneC, callR, reduceIte, Nat.reduceEqDiff, Nat.reduceAdd, reduceCtorEq, forall_const, Tryd.results22])
  refine hM _ _ _ ?_; clear hM M
  refine ok_join [(0, ptrOf hb), (1, .string s), (4, ptrOf B)] (fun w' => w' = w1) ?_ ?_
  · refine ok_seq (fun M hM => ok_region rfl ?_)
    repeat ((try first | (refine ofX3 hX ?_; clear hX X) | (refine ofX2 hX ?_; clear hX X)); (first | refine wpL_step (fun X hX => ?_) | refine wpH_step (fun X hX => ?_) | refine wpE_step (fun X hX => ?_) | refine wpL_end ?_ | refine wpH_end ?_ | refine wpE_end ?_); try simp only [ oweC, oweP, opF, opH, ev, evs, evp, evo, Env.get, Env.set, putE, gdst, S0, S1, thenN, inBlockN, argEnv, builtinR, retE, fin, finC, retC, oneC, callR, reduceIte, Nat.reduceEqDiff, Nat.reduceAdd, reduceCtorEq, forall_const, Tryd.results22])
    refine Runs.ptrEq Fx.un28 ?_
    repeat ((try first | (refine ofX3 hX ?_; clear hX X) | (refine ofX2 hX ?_; clear hX X)); (first | refine wpL_step (fun X hX => ?_) | refine wpH_step (fun X hX => ?_) | refine wpE_step (fun X hX => ?_) | refine wpL_end ?_ | refine wpH_end ?_ | refine wpE_end ?_); try simp only [ oweC, oweP, opF, opH, ev, evs, evp, evo, Env.get, Env.set, putE, gdst, S0, S1, thenN, inBlockN, argEnv, builtinR, retE, fin, finC, retC, oneC, callR, reduceIte, Nat.reduceEqDiff, Nat.reduceAdd, reduceCtorEq, forall_const, Tryd.results22])
    refine hM _ _ _ ?_; clear hM M
    refine ok_cond rfl (fun h => by cases h) (fun h => ok_skip ?_)
    try simp only [wpL, wpH, wpE, oweC, oweP, opF, opH, ev, evs, evp, evo, Env.get, Env.set, putE, gdst, S0, S1, thenN, inBlockN, argEnv, builtinR, retE, fin, finC, retC, oneC, callR, reduceIte, Nat.reduceEqDiff, Nat.reduceAdd, reduceCtorEq, forall_const, Tryd.results22]
    simp [sub, Env.get]
  rintro w' rfl
  refine ok_seq (fun M hM => ok_region rfl ?_)
  repeat ((try first | (refine ofX3 hX ?_; clear hX X) | (refine ofX2 hX ?_; clear hX X)); (first | refine wpL_step (fun X hX => ?_) | refine wpH_step (fun X hX => ?_) | refine wpE_step (fun X hX => ?_) | refine wpL_end ?_ | refine wpH_end ?_ | refine wpE_end ?_); try simp only [ oweC, oweP, opF, opH, ev, evs, evp, evo, Env.get, Env.set, putE, gdst, S0, S1, thenN, inBlockN, argEnv, builtinR, retE, fin, finC, retC, oneC, callR, reduceIte, Nat.reduceEqDiff, Nat.reduceAdd, reduceCtorEq, forall_const, Tryd.results22])
  refine ⟨_, w', run_build (P := Tryd.prog) w' 72 _ #[.slice none 0 0, .string s, .bool true, .int .i64 0] (by kernel_rfl), ?_⟩
  repeat ((try first | (refine ofX3 hX ?_; clear hX X) | (refine ofX2 hX ?_; clear hX X)); (first | refine wpL_step (fun X hX => ?_) | refine wpH_step (fun X hX => ?_) | refine wpE_step (fun X hX => ?_) | refine wpL_end ?_ | refine wpH_end ?_ | refine wpE_end ?_); try simp only [ oweC, oweP, opF, opH, ev, evs, evp, evo, Env.get, Env.set, putE, gdst, S0, S1, thenN, inBlockN, argEnv, builtinR, retE, fin, finC, retC, oneC, callR, reduceIte, Nat.reduceEqDiff, Nat.reduceAdd, reduceCtorEq, forall_const, Tryd.results22])
  refine Runs.box (fun w2 he2 hs2 hb2 => ?_)
  simp only [Value.cells] at hb2
  generalize hp : w'.heap.size = p at hs2 hb2
  repeat ((try first | (refine ofX3 hX ?_; clear hX X) | (refine ofX2 hX ?_; clear hX X)); (first | refine wpL_step (fun X hX => ?_) | refine wpH_step (fun X hX => ?_) | refine wpE_step (fun X hX => ?_) | refine wpL_end ?_ | refine wpH_end ?_ | refine wpE_end ?_); try simp only [ oweC, oweP, opF, opH, ev, evs, evp, evo, Env.get, Env.set, putE, gdst, S0, S1, thenN, inBlockN, argEnv, builtinR, retE, fin, finC, retC, oneC, callR, reduceIte, Nat.reduceEqDiff, Nat.reduceAdd, reduceCtorEq, forall_const, Tryd.results22])
  have hrb := hH.lt
  refine Inv.call Fx.en44 (add_ok w2 hb rb H F (hH.ext (he1.trans he2)) hl p p (.text s) hb2 (fun h => by have := hF p h; omega) (fun h => by have := hF p h; omega) (by omega) (by omega) (by omega) (by omega)) ?_
  rintro v w3 ⟨rfl, hc3, F', hH3, hF'⟩
  repeat ((try first | (refine ofX3 hX ?_; clear hX X) | (refine ofX2 hX ?_; clear hX X)); (first | refine wpL_step (fun X hX => ?_) | refine wpH_step (fun X hX => ?_) | refine wpE_step (fun X hX => ?_) | refine wpL_end ?_ | refine wpH_end ?_ | refine wpE_end ?_); try simp only [ oweC, oweP, opF, opH, ev, evs, evp, evo, Env.get, Env.set, putE, gdst, S0, S1, thenN, inBlockN, argEnv, builtinR, retE, fin, finC, retC, oneC, callR, reduceIte, Nat.reduceEqDiff, Nat.reduceAdd, reduceCtorEq, forall_const, Tryd.results22])
  refine ⟨_, w3, run_build (P := Tryd.prog) w3 31 _ #[.int .i64 3, .int .i64 0, .int .i64 ((H.length : Int) + 1)] (by kernel_rfl), ?_⟩
  repeat ((try first | (refine ofX3 hX ?_; clear hX X) | (refine ofX2 hX ?_; clear hX X)); (first | refine wpL_step (fun X hX => ?_) | refine wpH_step (fun X hX => ?_) | refine wpE_step (fun X hX => ?_) | refine wpL_end ?_ | refine wpH_end ?_ | refine wpE_end ?_); try simp only [ oweC, oweP, opF, opH, ev, evs, evp, evo, Env.get, Env.set, putE, gdst, S0, S1, thenN, inBlockN, argEnv, builtinR, retE, fin, finC, retC, oneC, callR, reduceIte, Nat.reduceEqDiff, Nat.reduceAdd, reduceCtorEq, forall_const, Tryd.results22])
  have hBF : ¬ F B := fun h => by have := hF B h; omega
  have hb13 : Blk w3 B [.int .i64 0, .int .i64 0, .int .i64 0] 31 := (hb1.ext he2).chg hc3 hBF
  refine Runs.store hb13 Fx.zi31 rfl (by intro u hu; simp [Value.cells] at hu; rcases hu with rfl | rfl | rfl <;> rfl) (by simp) (fun w4 hc4 hs4 hb4 => ?_)
  rw [splice_all _ _ (by simp [Value.cells])] at hb4
  simp only [Value.cells] at hb4
  repeat ((try first | (refine ofX3 hX ?_; clear hX X) | (refine ofX2 hX ?_; clear hX X)); (first | refine wpL_step (fun X hX => ?_) | refine wpH_step (fun X hX => ?_) | refine wpE_step (fun X hX => ?_) | refine wpL_end ?_ | refine wpH_end ?_ | refine wpE_end ?_); try simp only [ oweC, oweP, opF, opH, ev, evs, evp, evo, Env.get, Env.set, putE, gdst, S0, S1, thenN, inBlockN, argEnv, builtinR, retE, fin, finC, retC, oneC, callR, reduceIte, Nat.reduceEqDiff, Nat.reduceAdd, reduceCtorEq, forall_const, Tryd.results22])
  refine hM _ _ _ ?_; clear hM M
  refine ok_ret ?_
  try simp only [wpL, wpH, wpE, oweC, oweP, opF, opH, ev, evs, evp, evo, Env.get, Env.set, putE, gdst, S0, S1, thenN, inBlockN, argEnv, builtinR, retE, fin, finC, retC, oneC, callR, reduceIte, Nat.reduceEqDiff, Nat.reduceAdd, reduceCtorEq, forall_const, Tryd.results22]
  refine ⟨_, rfl, hb4.cells (o := 0) (row := [.int .i64 3, .int .i64 0, .int .i64 ((H.length : Int) + 1)]) (fun j u hj => by simpa using hj), rfl, ?_⟩
  have hs23 := hc3.size
  have hnB : ¬ F' B := fun h => by rcases hF' B h with h | h | h | h <;> first | exact hBF h | omega
  refine ⟨(((he1.trans he2).chg F).trans hc3).trans_new hc4 (fun k hk => by omega), F', hH3.chg hc4 (fun k hk e => hnB (e ▸ hk)) (by omega), fun k hk => ?_⟩
  rcases hF' k hk with h | h | h | h
  · exact .inl h
  · exact .inr (by omega)
  · exact .inr (by omega)
  · exact .inr (by omega)

def mkW (H : List Ob) (k n : Int) (l : List Wd) : List Ob × Wd := if 0 < l.length ∨ k = 7 then (H ++ [.words (if k = 7 then 7 else 4) l], ⟨k, n, (H.length : Int) + 1⟩) else (H, ⟨k, n, 0⟩)

-- -- function 34
set_option maxHeartbeats 2000000 in
set_option maxRecDepth 8000 in
theorem make_ok (w : World) (hb rb : Nat) (H : List Ob) (F : Nat → Prop) (hH : HeapW w hb rb H F) (hF : ∀ k, F k → k < w.heap.size) (hl : H.length ≤ 1048576) (k n : Int) (av : Value) (l : List Wd) (hav : SlW w av l) (hll : l.length ≤ 1073741824) :
    Rets Tryd.prog 34 [ptrOf hb, .int .i64 k, .int .i64 n, av] w (fun v w' => v = wv (mkW H k n l).2 ∧ Grown w w' hb rb (mkW H k n l).1 F) := by
  obtain ⟨A, c, rfl, hlen, hcell⟩ := id hav
  rw [wd_len] at hav ⊢
  have hrb := hH.lt
  refine rets_of_okC Tryd.func34 rfl rfl ?_
  refine ok_seq (fun M hM => ok_region rfl ?_)
  repeat ((try first | (refine ofX3 hX ?_; clear hX X) | (refine ofX2 hX ?_; clear hX X)); (first | refine wpL_step (fun X hX => ?_) | refine wpH_step (fun X hX => ?_) | refine wpE_step (fun X hX => ?_) | refine wpL_end ?_ | refine wpH_end ?_ | refine wpE_end ?_); try simp only [ oweC, oweP, opF, opH, ev, evs, evp, evo, Env.get, Env.set, putE, gdst, S0, S1, thenN, inBlockN, argEnv, builtinR, retE, fin, finC, retC, oneC, callR, reduceIte, Nat.reduceEqDiff, Nat.reduceAdd, reduceCtorEq, forall_const, Tryd.results34, Fx.ag31, Fx.fo31_2, Fx.isl42])
  refine Runs.alloc Fx.zi31 (fun w1 he1 hs1 hb1 => ?_)
  simp only [Value.cells] at hb1
  generalize hB : w.heap.size = B at hs1 hb1
  repeat ((try first | (refine ofX3 hX ?_; clear hX X) | (refine ofX2 hX ?_; clear hX X)); (first | refine wpL_step (fun X hX => ?_) | refine wpH_step (fun X hX => ?_) | refine wpE_step (fun X hX => ?_) | refine wpL_end ?_ | refine wpH_end ?_ | refine wpE_end ?_); try simp only [ oweC, oweP, opF, opH, ev, evs, evp, evo, Env.get, Env.set, putE, gdst, S0, S1, thenN, inBlockN, argEnv, builtinR, retE, fin, finC, retC, oneC, callR, reduceIte, Nat.reduceEqDiff, Nat.reduceAdd, reduceCtorEq, forall_const, Tryd.results34, Fx.ag31, Fx.fo31_2, Fx.isl42])
  refine hM _ _ _ ?_; clear hM M
  refine ok_seq (fun M hM => ok_region rfl ?_)
  repeat ((try first | (refine ofX3 hX ?_; clear hX X) | (refine ofX2 hX ?_; clear hX X)); (first | refine wpL_step (fun X hX => ?_) | refine wpH_step (fun X hX => ?_) | refine wpE_step (fun X hX => ?_) | refine wpL_end ?_ | refine wpH_end ?_ | refine wpE_end ?_); try simp only [ oweC, oweP, opF, opH, ev, evs, evp, evo, Env.get, Env.set, putE, gdst, S0, S1, thenN, inBlockN, argEnv, builtinR, retE, fin, finC, retC, oneC, callR, reduceIte, Nat.reduceEqDiff, Nat.reduceAdd, reduceCtorEq, forall_const, Tryd.results34, Fx.ag31, Fx.fo31_2, Fx.isl42])
  refine ⟨_, w1, run_build (P := Tryd.prog) w1 31 _ #[.int .i64 k, .int .i64 n, .int .i64 0] (by kernel_rfl), ?_⟩
  repeat ((try first | (refine ofX3 hX ?_; clear hX X) | (refine ofX2 hX ?_; clear hX X)); (first | refine wpL_step (fun X hX => ?_) | refine wpH_step (fun X hX => ?_) | refine wpE_step (fun X hX => ?_) | refine wpL_end ?_ | refine wpH_end ?_ | refine wpE_end ?_); try simp only [ oweC, oweP, opF, opH, ev, evs, evp, evo, Env.get, Env.set, putE, gdst, S0, S1, thenN, inBlockN, argEnv, builtinR, retE, fin, finC, retC, oneC, callR, reduceIte, Nat.reduceEqDiff, Nat.reduceAdd, reduceCtorEq, forall_const, Tryd.results34, Fx.ag31, Fx.fo31_2, Fx.isl42])
  refine Runs.alloc Fx.zi31 (fun w2 he2 hs2 hb2 => ?_)
  simp only [Value.cells] at hb2
  generalize hC : w1.heap.size = C at hs2 hb2
  repeat ((try first | (refine ofX3 hX ?_; clear hX X) | (refine ofX2 hX ?_; clear hX X)); (first | refine wpL_step (fun X hX => ?_) | refine wpH_step (fun X hX => ?_) | refine wpE_step (fun X hX => ?_) | refine wpL_end ?_ | refine wpH_end ?_ | refine wpE_end ?_); try simp only [ oweC, oweP, opF, opH, ev, evs, evp, evo, Env.get, Env.set, putE, gdst, S0, S1, thenN, inBlockN, argEnv, builtinR, retE, fin, finC, retC, oneC, callR, reduceIte, Nat.reduceEqDiff, Nat.reduceAdd, reduceCtorEq, forall_const, Tryd.results34, Fx.ag31, Fx.fo31_2, Fx.isl42])
  refine Runs.store hb2 Fx.zi31 rfl (by intro u hu; simp [Value.cells] at hu; rcases hu with rfl | rfl | rfl <;> rfl) (by simp) (fun w3 hc3 hs3 hb3 => ?_)
  rw [splice_all _ _ (by simp [Value.cells])] at hb3
  simp only [Value.cells] at hb3
  have he3 : Ext w w3 := (he1.trans he2).chg_trans hc3 (fun i hi => by omega)
  have hb13 : Blk w3 B [.int .i64 0, .int .i64 0, .int .i64 0] 31 := (hb1.ext he2).chg hc3 (by omega)
  repeat ((try first | (refine ofX3 hX ?_; clear hX X) | (refine ofX2 hX ?_; clear hX X)); (first | refine wpL_step (fun X hX => ?_) | refine wpH_step (fun X hX => ?_) | refine wpE_step (fun X hX => ?_) | refine wpL_end ?_ | refine wpH_end ?_ | refine wpE_end ?_); try simp only [ oweC, oweP, opF, opH, ev, evs, evp, evo, Env.get, Env.set, putE, gdst, S0, S1, thenN, inBlockN, argEnv, builtinR, retE, fin, finC, retC, oneC, callR, reduceIte, Nat.reduceEqDiff, Nat.reduceAdd, reduceCtorEq, forall_const, Tryd.results34, Fx.ag31, Fx.fo31_2, Fx.isl42])
  refine hM _ _ _ ?_; clear hM M
  refine ok_join [(8, ptrOf B), (9, ptrOf C)] (fun w' => Chg F w w' ∧ ∃ F', HeapW w' hb rb (mkW H k n l).1 F' ∧ (∀ k, F' k → F k ∨ (w.heap.size ≤ k ∧ k < w'.heap.size ∧ k ≠ B ∧ k ≠ C)) ∧ Blk w' B [.int .i64 0, .int .i64 0, .int .i64 0] 31 ∧ Blk w' C (mkW H k n l).2.row 31) ?_ ?_
  rotate_left
  · rintro w4 ⟨hc4, F', hH4, hF4, hbB, hbC⟩
    refine ok_seq (fun M hM => ok_region rfl ?_)
    repeat ((try first | (refine ofX3 hX ?_; clear hX X) | (refine ofX2 hX ?_; clear hX X)); (first | refine wpL_step (fun X hX => ?_) | refine wpH_step (fun X hX => ?_) | refine wpE_step (fun X hX => ?_) | refine wpL_end ?_ | refine wpH_end ?_ | refine wpE_end ?_); try simp only [ oweC, oweP, opF, opH, ev, evs, evp, evo, Env.get, Env.set, putE, gdst, S0, S1, thenN, inBlockN, argEnv, builtinR, retE, fin, finC, retC, oneC, callR, reduceIte, Nat.reduceEqDiff, Nat.reduceAdd, reduceCtorEq, forall_const, Tryd.results34, Fx.ag31, Fx.fo31_2, Fx.isl42])
    refine ⟨(mkW H k n l).2.row, rfl, hbC.cells (o := 0) (fun j u hj => by simpa using hj), ?_⟩
    repeat ((try first | (refine ofX3 hX ?_; clear hX X) | (refine ofX2 hX ?_; clear hX X)); (first | refine wpL_step (fun X hX => ?_) | refine wpH_step (fun X hX => ?_) | refine wpE_step (fun X hX => ?_) | refine wpL_end ?_ | refine wpH_end ?_ | refine wpE_end ?_); try simp only [ oweC, oweP, opF, opH, ev, evs, evp, evo, Env.get, Env.set, putE, gdst, S0, S1, thenN, inBlockN, argEnv, builtinR, retE, fin, finC, retC, oneC, callR, reduceIte, Nat.reduceEqDiff, Nat.reduceAdd, reduceCtorEq, forall_const, Tryd.results34, Fx.ag31, Fx.fo31_2, Fx.isl42])
    refine Runs.store hbB Fx.zi31 rfl (by intro u hu; simp [Value.cells, Wd.row] at hu; rcases hu with rfl | rfl | rfl <;> rfl) (by simp) (fun w5 hc5 hs5 hb5 => ?_)
    rw [splice_all _ _ (by simp [Value.cells])] at hb5
    simp only [Value.cells] at hb5
    repeat ((try first | (refine ofX3 hX ?_; clear hX X) | (refine ofX2 hX ?_; clear hX X)); (first | refine wpL_step (fun X hX => ?_) | refine wpH_step (fun X hX => ?_) | refine wpE_step (fun X hX => ?_) | refine wpL_end ?_ | refine wpH_end ?_ | refine wpE_end ?_); try simp only [ oweC, oweP, opF, opH, ev, evs, evp, evo, Env.get, Env.set, putE, gdst, S0, S1, thenN, inBlockN, argEnv, builtinR, retE, fin, finC, retC, oneC, callR, reduceIte, Nat.reduceEqDiff, Nat.reduceAdd, reduceCtorEq, forall_const, Tryd.results34, Fx.ag31, Fx.fo31_2, Fx.isl42])
    refine hM _ _ _ ?_; clear hM M
    refine ok_ret ?_
    try simp only [wpL, wpH, wpE, oweC, oweP, opF, opH, ev, evs, evp, evo, Env.get, Env.set, putE, gdst, S0, S1, thenN, inBlockN, argEnv, builtinR, retE, fin, finC, retC, oneC, callR, reduceIte, Nat.reduceEqDiff, Nat.reduceAdd, reduceCtorEq, forall_const, Tryd.results34, Fx.ag31, Fx.fo31_2, Fx.isl42]
    refine ⟨_, rfl, hb5.cells (o := 0) (row := (mkW H k n l).2.row) (fun j u hj => by simpa using hj), rfl, ?_⟩
    have hs4 := hc4.size
    have hnB : ¬ F' B := fun h => by
      rcases hF4 B h with h | h
      · have := hF B h; omega
      · omega
    refine ⟨hc4.trans_new hc5 (fun k hk => by omega), F', hH4.chg hc5 (fun k hk e => hnB (e ▸ hk)) (by omega), fun k hk => ?_⟩
    rcases hF4 k hk with h | h
    · exact .inl h
    · exact .inr (by omega)
  refine ok_join [(0, ptrOf hb), (1, .int .i64 k), (3, .slice A l.length c), (8, ptrOf B), (9, ptrOf C), (20, .bool (decide (0 < l.length ∨ k = 7)))] (fun w' => w' = w3) ?_ ?_
  · refine ok_region rfl ?_
    repeat ((try first | (refine ofX3 hX ?_; clear hX X) | (refine ofX2 hX ?_; clear hX X)); (first | refine wpL_step (fun X hX => ?_) | refine wpH_step (fun X hX => ?_) | refine wpE_step (fun X hX => ?_) | refine wpL_end ?_ | refine wpH_end ?_ | refine wpE_end ?_); try simp only [ oweC, oweP, opF, opH, ev, evs, evp, evo, Env.get, Env.set, putE, gdst, S0, S1, thenN, inBlockN, argEnv, builtinR, retE, fin, finC, retC, oneC, callR, reduceIte, Nat.reduceEqDiff, Nat.reduceAdd, reduceCtorEq, forall_const, Tryd.results34, Fx.ag31, Fx.fo31_2, Fx.isl42])
    refine ⟨fun h => ?_, fun h => ?_⟩
    · have h1 : ¬ (0 < l.length) := by simpa using h
      have h2 : ¬ ((0 : Int) < (l.length : Int)) := by omega
      simp only [h2, decide_false]
      repeat ((try first | (refine ofX3 hX ?_; clear hX X) | (refine ofX2 hX ?_; clear hX X)); (first | refine wpL_step (fun X hX => ?_) | refine wpH_step (fun X hX => ?_) | refine wpE_step (fun X hX => ?_) | refine wpL_end ?_ | refine wpH_end ?_ | refine wpE_end ?_); try simp only [ oweC, oweP, opF, opH, ev, evs, evp, evo, Env.get, Env.set, putE, gdst, S0, S1, thenN, inBlockN, argEnv, builtinR, retE, fin, finC, retC, oneC, callR, reduceIte, Nat.reduceEqDiff, Nat.reduceAdd, reduceCtorEq, forall_const, Tryd.results34, Fx.ag31, Fx.fo31_2, Fx.isl42])
      simp [sub, Env.get, h1]
    · have h1 : 0 < l.length := by
        have : (0 : Int) < (l.length : Int) := by simpa using h
        omega
      repeat ((try first | (refine ofX3 hX ?_; clear hX X) | (refine ofX2 hX ?_; clear hX X)); (first | refine wpL_step (fun X hX => ?_) | refine wpH_step (fun X hX => ?_) | refine wpE_step (fun X hX => ?_) | refine wpL_end ?_ | refine wpH_end ?_ | refine wpE_end ?_); try simp only [ oweC, oweP, opF, opH, ev, evs, evp, evo, Env.get, Env.set, putE, gdst, S0, S1, thenN, inBlockN, argEnv, builtinR, retE, fin, finC, retC, oneC, callR, reduceIte, Nat.reduceEqDiff, Nat.reduceAdd, reduceCtorEq, forall_const, Tryd.results34, Fx.ag31, Fx.fo31_2, Fx.isl42])
      simp [sub, Env.get, h1]
  rintro w' rfl
  refine ok_if rfl (fun hc => ?_) (fun hc => ok_skip ?_)
  rotate_left
  · try simp only [wpL, wpH, wpE, oweC, oweP, opF, opH, ev, evs, evp, evo, Env.get, Env.set, putE, gdst, S0, S1, thenN, inBlockN, argEnv, builtinR, retE, fin, finC, retC, oneC, callR, reduceIte, Nat.reduceEqDiff, Nat.reduceAdd, reduceCtorEq, forall_const, Tryd.results34, Fx.ag31, Fx.fo31_2, Fx.isl42]
    have hmk : mkW H k n l = (H, ⟨k, n, 0⟩) := by unfold mkW; rw [if_neg hc]
    rw [hmk]
    refine ⟨by simp [sub, Env.get], he3.chg F, F, hH.ext he3, fun k hk => .inl hk, hb13, by simpa [Wd.row] using hb3⟩
  have hmk : mkW H k n l = (H ++ [.words (if k = 7 then 7 else 4) l], ⟨k, n, (H.length : Int) + 1⟩) := by unfold mkW; rw [if_pos hc]
  rw [hmk]
  refine ok_seq (fun M hM => ok_region rfl ?_); repeat ((try first | (refine ofX3 hX ?_; clear hX X) | (refine ofX2 hX ?_; clear hX X)); (first | refine wpL_step (fun X hX => ?_) | refine wpH_step (fun X hX => ?_) | refine wpE_step (fun X hX => ?_) | refine wpL_end ?_ | refine wpH_end ?_ | refine wpE_end ?_); try simp only [ oweC, oweP, opF, opH, ev, evs, evp, evo, Env.get, Env.set, putE, gdst, S0, S1, thenN, inBlockN, argEnv, builtinR, retE, fin, finC, retC, oneC, callR, reduceIte, Nat.reduceEqDiff, Nat.reduceAdd, reduceCtorEq, forall_const, Tryd.results34, Fx.ag31, Fx.fo31_2, Fx.isl42])
  refine hM _ _ _ ?_; clear hM M
  refine ok_join [(0, ptrOf hb), (3, .slice A l.length c), (8, ptrOf B), (9, ptrOf C), (10, .int .i64 (if k = 7 then 7 else 4))] (fun w2 => w2 = w') ?_ ?_
  · refine ok_seq (fun M hM => ok_region rfl ?_); repeat ((try first | (refine ofX3 hX ?_; clear hX X) | (refine ofX2 hX ?_; clear hX X)); (first | refine wpL_step (fun X hX => ?_) | refine wpH_step (fun X hX => ?_) | refine wpE_step (fun X hX => ?_) | refine wpL_end ?_ | refine wpH_end ?_ | refine wpE_end ?_); try simp only [ oweC, oweP, opF, opH, ev, evs, evp, evo, Env.get, Env.set, putE, gdst, S0, S1, thenN, inBlockN, argEnv, builtinR, retE, fin, finC, retC, oneC, callR, reduceIte, Nat.reduceEqDiff, Nat.reduceAdd, reduceCtorEq, forall_const, Tryd.results34, Fx.ag31, Fx.fo31_2, Fx.isl42])
    refine hM _ _ _ ?_; clear hM M
    refine ok_if rfl (fun hk => ?_) (fun hk => ok_skip ?_)
    · refine ok_region rfl ?_
      repeat ((try first | (refine ofX3 hX ?_; clear hX X) | (refine ofX2 hX ?_; clear hX X)); (first | refine wpL_step (fun X hX => ?_) | refine wpH_step (fun X hX => ?_) | refine wpE_step (fun X hX => ?_) | refine wpL_end ?_ | refine wpH_end ?_ | refine wpE_end ?_); try simp only [ oweC, oweP, opF, opH, ev, evs, evp, evo, Env.get, Env.set, putE, gdst, S0, S1, thenN, inBlockN, argEnv, builtinR, retE, fin, finC, retC, oneC, callR, reduceIte, Nat.reduceEqDiff, Nat.reduceAdd, reduceCtorEq, forall_const, Tryd.results34, Fx.ag31, Fx.fo31_2, Fx.isl42])
      simp [sub, Env.get, hk]
    · try simp only [wpL, wpH, wpE, oweC, oweP, opF, opH, ev, evs, evp, evo, Env.get, Env.set, putE, gdst, S0, S1, thenN, inBlockN, argEnv, builtinR, retE, fin, finC, retC, oneC, callR, reduceIte, Nat.reduceEqDiff, Nat.reduceAdd, reduceCtorEq, forall_const, Tryd.results34, Fx.ag31, Fx.fo31_2, Fx.isl42]
      simp [sub, Env.get, hk]
  rintro w'' rfl
  refine ok_region rfl ?_
  repeat ((try first | (refine ofX3 hX ?_; clear hX X) | (refine ofX2 hX ?_; clear hX X)); (first | refine wpL_step (fun X hX => ?_) | refine wpH_step (fun X hX => ?_) | refine wpE_step (fun X hX => ?_) | refine wpL_end ?_ | refine wpH_end ?_ | refine wpE_end ?_); try simp only [ oweC, oweP, opF, opH, ev, evs, evp, evo, Env.get, Env.set, putE, gdst, S0, S1, thenN, inBlockN, argEnv, builtinR, retE, fin, finC, retC, oneC, callR, reduceIte, Nat.reduceEqDiff, Nat.reduceAdd, reduceCtorEq, forall_const, Tryd.results34, Fx.ag31, Fx.fo31_2, Fx.isl42])
  refine Inv.call Fx.en36 (clone_ok w'' _ l (hav.ext he3) hll) ?_
  rintro v w4 ⟨⟨A4, c4, rfl⟩, ⟨g, hW, hgn⟩, he4⟩
  repeat ((try first | (refine ofX3 hX ?_; clear hX X) | (refine ofX2 hX ?_; clear hX X)); (first | refine wpL_step (fun X hX => ?_) | refine wpH_step (fun X hX => ?_) | refine wpE_step (fun X hX => ?_) | refine wpL_end ?_ | refine wpH_end ?_ | refine wpE_end ?_); try simp only [ oweC, oweP, opF, opH, ev, evs, evp, evo, Env.get, Env.set, putE, gdst, S0, S1, thenN, inBlockN, argEnv, builtinR, retE, fin, finC, retC, oneC, callR, reduceIte, Nat.reduceEqDiff, Nat.reduceAdd, reduceCtorEq, forall_const, Tryd.results34, Fx.ag31, Fx.fo31_2, Fx.isl42])
  refine ⟨_, w4, run_build (P := Tryd.prog) w4 70 _ #[.slice A4 l.length c4] (by kernel_rfl), ?_⟩
  repeat ((try first | (refine ofX3 hX ?_; clear hX X) | (refine ofX2 hX ?_; clear hX X)); (first | refine wpL_step (fun X hX => ?_) | refine wpH_step (fun X hX => ?_) | refine wpE_step (fun X hX => ?_) | refine wpL_end ?_ | refine wpH_end ?_ | refine wpE_end ?_); try simp only [ oweC, oweP, opF, opH, ev, evs, evp, evo, Env.get, Env.set, putE, gdst, S0, S1, thenN, inBlockN, argEnv, builtinR, retE, fin, finC, retC, oneC, callR, reduceIte, Nat.reduceEqDiff, Nat.reduceAdd, reduceCtorEq, forall_const, Tryd.results34, Fx.ag31, Fx.fo31_2, Fx.isl42])
  refine ⟨_, w4, run_build (P := Tryd.prog) w4 72 _ #[.slice A4 l.length c4, .string ⟨#[]⟩, .bool false, .int .i64 (if k = 7 then 7 else 4)] (by kernel_rfl), ?_⟩
  repeat ((try first | (refine ofX3 hX ?_; clear hX X) | (refine ofX2 hX ?_; clear hX X)); (first | refine wpL_step (fun X hX => ?_) | refine wpH_step (fun X hX => ?_) | refine wpE_step (fun X hX => ?_) | refine wpL_end ?_ | refine wpH_end ?_ | refine wpE_end ?_); try simp only [ oweC, oweP, opF, opH, ev, evs, evp, evo, Env.get, Env.set, putE, gdst, S0, S1, thenN, inBlockN, argEnv, builtinR, retE, fin, finC, retC, oneC, callR, reduceIte, Nat.reduceEqDiff, Nat.reduceAdd, reduceCtorEq, forall_const, Tryd.results34, Fx.ag31, Fx.fo31_2, Fx.isl42])
  refine Runs.box (fun w5 he5 hs5 hb5 => ?_)
  simp only [Value.cells] at hb5
  generalize hp : w4.heap.size = p at hs5 hb5
  have hs3' := he3.size
  have hs4' := he4.size
  -- the block of the words: the object's own, where there are none
  obtain ⟨g2, hW2, hg2, hg2s⟩ : ∃ g2, WL w5 g2 (.slice A4 l.length c4) l ∧ (g2 = p ∨ (w''.heap.size ≤ g2 ∧ g2 < w5.heap.size)) ∧ g2 < w5.heap.size := by
    by_cases hn0 : l = []
    · subst hn0
      obtain ⟨A', c', h1, h2, h3, -⟩ := hW.ext he5
      exact ⟨p, ⟨A', c', h1, h2, h3, fun h => absurd rfl h⟩, .inl rfl, by omega⟩
    · obtain ⟨A', c', h1, h2, h3, h4⟩ := id hW
      obtain ⟨-, cs, h5, -⟩ := h4 hn0
      have := h5.lt
      exact ⟨g, hW.ext he5, .inr ⟨hgn hn0, by omega⟩, by omega⟩
  repeat ((try first | (refine ofX3 hX ?_; clear hX X) | (refine ofX2 hX ?_; clear hX X)); (first | refine wpL_step (fun X hX => ?_) | refine wpH_step (fun X hX => ?_) | refine wpE_step (fun X hX => ?_) | refine wpL_end ?_ | refine wpH_end ?_ | refine wpE_end ?_); try simp only [ oweC, oweP, opF, opH, ev, evs, evp, evo, Env.get, Env.set, putE, gdst, S0, S1, thenN, inBlockN, argEnv, builtinR, retE, fin, finC, retC, oneC, callR, reduceIte, Nat.reduceEqDiff, Nat.reduceAdd, reduceCtorEq, forall_const, Tryd.results34, Fx.ag31, Fx.fo31_2, Fx.isl42])
  refine Inv.call Fx.en44 (add_ok w5 hb rb H F (hH.ext (he3.trans (he4.trans he5))) hl p g2 (.words (if k = 7 then 7 else 4) l) ⟨_, hb5, hW2⟩ (fun h => by have := hF p h; omega) (fun h => by have := hF g2 h; omega) (by omega) (by omega) (by omega) (by omega)) ?_
  rintro v w6 ⟨rfl, hc6, F', hH6, hF'⟩
  have hs6 := hc6.size
  repeat ((try first | (refine ofX3 hX ?_; clear hX X) | (refine ofX2 hX ?_; clear hX X)); (first | refine wpL_step (fun X hX => ?_) | refine wpH_step (fun X hX => ?_) | refine wpE_step (fun X hX => ?_) | refine wpL_end ?_ | refine wpH_end ?_ | refine wpE_end ?_); try simp only [ oweC, oweP, opF, opH, ev, evs, evp, evo, Env.get, Env.set, putE, gdst, S0, S1, thenN, inBlockN, argEnv, builtinR, retE, fin, finC, retC, oneC, callR, reduceIte, Nat.reduceEqDiff, Nat.reduceAdd, reduceCtorEq, forall_const, Tryd.results34, Fx.ag31, Fx.fo31_2, Fx.isl42])
  have hBF : ¬ F B := fun h => by have := hF B h; omega
  have hCF : ¬ F C := fun h => by have := hF C h; omega
  have hbC6 : Blk w6 C [.int .i64 k, .int .i64 n, .int .i64 0] 31 := ((hb3.ext he4).ext he5).chg hc6 hCF
  have hbB6 : Blk w6 B [.int .i64 0, .int .i64 0, .int .i64 0] 31 := ((hb13.ext he4).ext he5).chg hc6 hBF
  refine Runs.store hbC6 Fx.zi3 rfl (by intro u hu; simp [Value.cells] at hu; subst hu; rfl) (by simp) (fun w7 hc7 hs7 hb7 => ?_)
  repeat ((try first | (refine ofX3 hX ?_; clear hX X) | (refine ofX2 hX ?_; clear hX X)); (first | refine wpL_step (fun X hX => ?_) | refine wpH_step (fun X hX => ?_) | refine wpE_step (fun X hX => ?_) | refine wpL_end ?_ | refine wpH_end ?_ | refine wpE_end ?_); try simp only [ oweC, oweP, opF, opH, ev, evs, evp, evo, Env.get, Env.set, putE, gdst, S0, S1, thenN, inBlockN, argEnv, builtinR, retE, fin, finC, retC, oneC, callR, reduceIte, Nat.reduceEqDiff, Nat.reduceAdd, reduceCtorEq, forall_const, Tryd.results34, Fx.ag31, Fx.fo31_2, Fx.isl42])
  have hnC : ¬ F' C := fun h => by rcases hF' C h with h | h | h | h <;> first | exact hCF h | omega
  have hnB : ¬ F' B := fun h => by rcases hF' B h with h | h | h | h <;> first | exact hBF h | omega
  refine ⟨by simp [sub, Env.get], (((he3.trans (he4.trans he5)).chg F).trans hc6).trans_new hc7 (fun k hk => by omega), F', hH6.chg hc7 (fun k hk e => hnC (e ▸ hk)) (by omega), fun k hk => ?_, hbB6.chg hc7 (by omega), by simpa [splice, Value.cells, Wd.row] using hb7⟩
  have h1 : k ≠ C := fun e => hnC (e ▸ hk)
  have h2 : k ≠ B := fun e => hnB (e ▸ hk)
  rcases hF' k hk with h | h | h | h
  · exact .inl h
  · exact .inr (by omega)
  · exact .inr (by omega)
  · exact .inr (by omega)
end Go.Proofs.YtldeokfhipjbfaaDoor
