/- EquivGoals: for every procedure, every slice of insts, every path, index and variable, whatever they are, the law returns true, and what came in reads as it did. No condition but the row's own. -/
import Derived.Test.YtcpjojaklpgnkaaGreatM11
import Derived.Test.YtcpjojaklpgnkaaGreatM4
import Derived.Test.YtcpjojaklpgnkaaGreatM8
import Derived.Test.YtcpjojaklpgnkaaGreatM10
import Derived.Test.YtcpjojaklpgnkaaGreatM2
import Derived.Test.YtcpjojaklpgnkaaGreatRows
/- Chapter 31: apply, where the rule's function ends normally: what that does is a premise.  -/
set_option linter.unusedVariables false
set_option linter.unusedSimpArgs false
namespace Go.Proofs.YtcpjojaklpgnkaaGreat
open Go Go.Proofs.Vg Go.RowKit
/-- A step's cells: at the first procedure's body. -/
def stepCs (r i k : Int) : List Value := [.int .i64 r, .int .i64 0, .slice none 0 0, .int .i64 i, .int .i64 k, .string ByteArray.empty, .int .i64 0, .slice none 0 0, .slice none 0 0, .slice none 0 0, .int .i64 0, .int .i64 0, .int .i64 0, .int .i64 0, .string ByteArray.empty, .int .i64 0, .slice none 0 0, .slice none 0 0, .slice none 0 0, .int .i64 0, .string ByteArray.empty, .int .i64 0]
def appCs (B gb : Nat) (r i k : Int) : List Value := .pointer (some ⟨B, 0, none⟩) :: .pointer (some ⟨gb, 0, none⟩) :: stepCs r i k
theorem st134 : stInf Tryz.prog 134 = some ([(0, 1), (1, 1), (2, 22)], (.pointer none :: .pointer none :: stepCs 0 0 0).toArray) := by kernel_rfl
theorem zi138 : zinfo Tryz.prog 138 = some (some .nilFunc, 1, 8) := by kernel_rfl
def withBody (p : Pr) (g : G) : Pr := ⟨p.name, p.number, p.vars, p.heads, p.modes, p.det, g, p.builtin, p.pos⟩
-- -- function 32
set_option maxHeartbeats 16000000 in
set_option maxRecDepth 8000 in
theorem apply32_ok (fn : Nat) (hen : ∀ (xs : Array Value) (w : World), (callFunc fn xs).run Tryz.prog w = .ok (.enter fn xs) w) (w : World) (B b0 gb cap : Nat) (insts : List In) (p : Pr) (S : Nat → Prop) (vt vi vd vf va : Value) (r i k : Int) (g' : G) (hb : Blk w B [vt, vi, .slice (some ⟨gb, 0, none⟩) 1 cap, vd, vf, va] 31)
    (hi : Rd w (fun k => S k ∧ gb ≠ k) [vi] [.sl 64 (insts.map encI)]) (hown : Own w S b0 39 17 (.slice (some ⟨gb, 0, none⟩) 1 cap) [encP p]) (hBb : B < b0) (hS : ∀ k, w.heap.size ≤ k → S k) (h0 : ¬ r < 0) (h12 : ¬ r ≥ 12) (h10 : ¬ r = 10)
    (hf : ∀ f : Int → Option Value, f 4 = some (.func (.func 128) #[] #[]) → f 5 = some (.func (.func 129) #[] #[]) → f r = some (.func (.func fn) #[] #[]))
    (hind : ∀ (W : World) (S' : Nat → Prop) (Ba : Nat) (cs : List Value), Blk W Ba (appCs B gb r i k) 134 → Rd W S' cs (encG p.body) → Rets Tryz.prog 70 [.pointer (some ⟨Ba, 0, none⟩), .agg cs.toArray] W (fun _ w' => Ext W w'))
    (hrule : ∀ (W : World) (Ba : Nat) (pcs cs : List Value), Ext w W → Blk W Ba (appCs B gb r i k) 134 → cellsAt W ⟨gb, 0, none⟩ pcs → Rd W (fun k => S k ∧ gb ≠ k) pcs (encP p) → Rd W (fun k => S k ∧ gb ≠ k) cs (encG p.body) → Rets Tryz.prog fn [.pointer (some ⟨Ba, 0, none⟩), .agg cs.toArray] W (fun r w' => Ext W w' ∧ ∃ cs', r = .agg cs'.toArray ∧ Rd w' (fun k => (S k ∧ gb ≠ k) ∨ W.heap.size ≤ k) cs' (encG g')))
    (hv : p.vars.length ≤ 200) (hh : g'.ht ≤ 126) (hn : (preG g' 1).length ≤ 5000) :
    Rets Tryz.prog 32 [.pointer (some ⟨B, 0, none⟩), .agg (stepCs r i k).toArray] w (fun _ w' => Chg (fun k => gb = k) w w' ∧ Own w' S b0 39 17 (.slice (some ⟨gb, 0, none⟩) 1 cap) [encP (withBody p g')]) := by
  obtain ⟨gb', cap', pcs, hE, hpc, hpl, hp⟩ := hown.row (i := 0) (row := encP p) rfl (by simp)
  obtain ⟨rfl, rfl⟩ : gb = gb' ∧ cap = cap' := by cases hE; exact ⟨rfl, rfl⟩
  rw [Nat.zero_mul] at hpc
  replace hp := hp.mono (S' := fun k => S k ∧ gb ≠ k) (fun k hk _ => ⟨hk.1, fun e => hk.2 (congrArg some e)⟩)
  have hgb := hown.lt (k := gb) rfl
  have hd0 : decide ((0 : Int) < 0) = false := rfl
  have hd1 : decide ((0 : Int) ≥ 1) = false := rfl
  refine rets_of_ok Tryz.func32 rfl rfl ?_
  refine ok_seq (fun M hM => ok_region rfl ?_)
  repeat ((try subst X); (first | (first | apply zL | apply zH | apply zE); intro X hX | apply zh | apply zl | apply ze); try simp only [zU, reduceIte, Nat.reduceEqDiff, Nat.reduceAdd, reduceCtorEq, Q32])
  refine Runs.box (fun w1 he1 hs1 hbx => ?_)
  rw [agg_cells] at hbx
  generalize hBx : w.heap.size = Bx at *
  repeat ((try subst X); (first | (first | apply zL | apply zH | apply zE); intro X hX | apply zh | apply zl | apply ze); try simp only [zU, reduceIte, Nat.reduceEqDiff, Nat.reduceAdd, reduceCtorEq, Q32])
  refine hM _ _ _ ?_; clear hM M
  replace hb := hb.ext he1
  replace hpc := he1.cellsAt hpc
  refine ok_seq (fun M0 hM0 => ok_seq (fun M hM => ok_region rfl ?_))
  repeat ((try subst X); (first | (first | apply zL | apply zH | apply zE); intro X hX | apply zh | apply zl | apply ze); try simp only [zU, reduceIte, Nat.reduceEqDiff, Nat.reduceAdd, reduceCtorEq, Q32])
  refine ⟨_, Blk.cell (by assumption) rfl, ?_⟩
  repeat ((try subst X); (first | (first | apply zL | apply zH | apply zE); intro X hX | apply zh | apply zl | apply ze); try simp only [zU, reduceIte, Nat.reduceEqDiff, Nat.reduceAdd, reduceCtorEq, Q32])
  simp only [h0, decide_false]
  repeat ((try subst X); (first | (first | apply zL | apply zH | apply zE); intro X hX | apply zh | apply zl | apply ze); try simp only [zU, reduceIte, Nat.reduceEqDiff, Nat.reduceAdd, reduceCtorEq, Q32])
  refine ⟨fun _ => ?_, fun h => by cases h⟩
  repeat ((try subst X); (first | (first | apply zL | apply zH | apply zE); intro X hX | apply zh | apply zl | apply ze); try simp only [zU, reduceIte, Nat.reduceEqDiff, Nat.reduceAdd, reduceCtorEq, Q32])
  refine ⟨_, Blk.cell (by assumption) rfl, ?_⟩
  repeat ((try subst X); (first | (first | apply zL | apply zH | apply zE); intro X hX | apply zh | apply zl | apply ze); try simp only [zU, reduceIte, Nat.reduceEqDiff, Nat.reduceAdd, reduceCtorEq, Q32])
  simp only [h12, decide_false]
  repeat ((try subst X); (first | (first | apply zL | apply zH | apply zE); intro X hX | apply zh | apply zl | apply ze); try simp only [zU, reduceIte, Nat.reduceEqDiff, Nat.reduceAdd, reduceCtorEq, Q32])
  refine hM _ _ _ ?_; clear hM M
  refine ok_cond rfl (fun h => by cases h) (fun _ => ok_skip ?_)
  refine hM0 _ _ _ ?_; clear hM0 M0
  refine ok_seq (fun M0 hM0 => ok_seq (fun M hM => ok_region rfl ?_))
  repeat ((try subst X); (first | (first | apply zL | apply zH | apply zE); intro X hX | apply zh | apply zl | apply ze); try simp only [zU, reduceIte, Nat.reduceEqDiff, Nat.reduceAdd, reduceCtorEq, Q32])
  refine ⟨_, Blk.cell (by assumption) rfl, ?_⟩
  repeat ((try subst X); (first | (first | apply zL | apply zH | apply zE); intro X hX | apply zh | apply zl | apply ze); try simp only [zU, reduceIte, Nat.reduceEqDiff, Nat.reduceAdd, reduceCtorEq, Q32])
  simp only [h10, decide_false]
  repeat ((try subst X); (first | (first | apply zL | apply zH | apply zE); intro X hX | apply zh | apply zl | apply ze); try simp only [zU, reduceIte, Nat.reduceEqDiff, Nat.reduceAdd, reduceCtorEq, Q32])
  refine hM _ _ _ ?_; clear hM M
  refine ok_cond rfl (fun h => by cases h) (fun _ => ok_skip ?_)
  refine hM0 _ _ _ ?_; clear hM0 M0
  refine ok_seq (fun M0 hM0 => ok_seq (fun M hM => ?_))
  refine (ok_drawR [0] [0, 1, 2, 3, 4, 5, 6, 7, 8, 9, 10, 11, 12, 13] 14 [] (Ext _) Fx.mixed (by decide) rfl rfl rfl (by decide +kernel) (by decide +kernel) (Ext.drew _) ?_); simp only [pickL, List.getElem?_cons_zero, List.getElem?_cons_succ, List.take_succ_cons, List.take_zero, List.drop_succ_cons, List.drop_zero]
  repeat ((try subst X); (first | (first | apply zL | apply zH | apply zE); intro X hX | apply zh | apply zl | apply ze); try simp only [zU, reduceIte, Nat.reduceEqDiff, Nat.reduceAdd, reduceCtorEq, Q32])
  refine ⟨_, fun w' h => Blk.cell (hbx.ext h) rfl, ?_⟩
  repeat ((try subst X); (first | (first | apply zL | apply zH | apply zE); intro X hX | apply zh | apply zl | apply ze); try simp only [zU, reduceIte, Nat.reduceEqDiff, Nat.reduceAdd, reduceCtorEq, Q32])
  simp only [hd0]
  repeat ((try subst X); (first | (first | apply zL | apply zH | apply zE); intro X hX | apply zh | apply zl | apply ze); try simp only [zU, reduceIte, Nat.reduceEqDiff, Nat.reduceAdd, reduceCtorEq, Q32])
  refine ⟨fun _ => ?_, fun h => by cases h⟩
  repeat ((try subst X); (first | (first | apply zL | apply zH | apply zE); intro X hX | apply zh | apply zl | apply ze); try simp only [zU, reduceIte, Nat.reduceEqDiff, Nat.reduceAdd, reduceCtorEq, Q32])
  refine ⟨_, fun w' h => Blk.cell (hbx.ext h) rfl, ?_⟩
  repeat ((try subst X); (first | (first | apply zL | apply zH | apply zE); intro X hX | apply zh | apply zl | apply ze); try simp only [zU, reduceIte, Nat.reduceEqDiff, Nat.reduceAdd, reduceCtorEq, Q32])
  refine ⟨_, fun w' h => Blk.cell (hb.ext h) rfl, ?_⟩
  repeat ((try subst X); (first | (first | apply zL | apply zH | apply zE); intro X hX | apply zh | apply zl | apply ze); try simp only [zU, reduceIte, Nat.reduceEqDiff, Nat.reduceAdd, reduceCtorEq, Q32])
  intro w2 he2
  repeat ((try subst X); (first | (first | apply zL | apply zH | apply zE); intro X hX | apply zh | apply zl | apply ze); try simp only [zU, reduceIte, Nat.reduceEqDiff, Nat.reduceAdd, reduceCtorEq, Q32])
  refine hM _ _ _ ?_; clear hM M
  refine ok_cond rfl (fun h => by cases h) (fun _ => ok_skip ?_)
  refine hM0 _ _ _ ?_; clear hM0 M0
  replace hb := hb.ext he2
  replace hbx := hbx.ext he2
  replace hpc := he2.cellsAt hpc
  refine ok_seq (fun M hM => ?_)
  refine (ok_drawR [3, 4, 6, 8] [0, 1, 2, 3, 4, 5, 6, 7, 8, 9, 10, 11, 12] 11 [(false, true), (false, true)] (Ext _) Fx.mixed (by decide) rfl rfl rfl (by decide +kernel) (by decide +kernel) (Ext.drew _) ?_); simp only [pickL, List.getElem?_cons_zero, List.getElem?_cons_succ, List.take_succ_cons, List.take_zero, List.drop_succ_cons, List.drop_zero]
  repeat ((try subst X); (first | (first | apply zL | apply zH | apply zE); intro X hX | apply zh | apply zl | apply ze); try simp only [zU, reduceIte, Nat.reduceEqDiff, Nat.reduceAdd, reduceCtorEq, Q32])
  refine ⟨_, fun w' h => Blk.cell (hb.ext h) rfl, ?_⟩
  repeat ((try subst X); (first | (first | apply zL | apply zH | apply zE); intro X hX | apply zh | apply zl | apply ze); try simp only [zU, reduceIte, Nat.reduceEqDiff, Nat.reduceAdd, reduceCtorEq, Q32])
  refine ⟨_, fun w' h => Blk.cell (hbx.ext h) rfl, ?_⟩
  repeat ((try subst X); (first | (first | apply zL | apply zH | apply zE); intro X hX | apply zh | apply zl | apply ze); try simp only [zU, reduceIte, Nat.reduceEqDiff, Nat.reduceAdd, reduceCtorEq, Q32])
  refine ⟨by decide, by decide, ?_⟩
  repeat ((try subst X); (first | (first | apply zL | apply zH | apply zE); intro X hX | apply zh | apply zl | apply ze); try simp only [zU, reduceIte, Nat.reduceEqDiff, Nat.reduceAdd, reduceCtorEq, Q32])
  simp only [Int.toNat_zero, Nat.zero_mul, Nat.add_zero]
  refine ⟨_, rfl, fun w' h => Blk.all (hbx.ext h), ?_⟩
  repeat ((try subst X); (first | (first | apply zL | apply zH | apply zE); intro X hX | apply zh | apply zl | apply ze); try simp only [zU, reduceIte, Nat.reduceEqDiff, Nat.reduceAdd, reduceCtorEq, Q32])
  refine ⟨.agg (appCs B gb r i k).toArray, fun w' _ => run_build w' 134 _ (appCs B gb r i k).toArray (by rw [built_of st134]; kernel_rfl), ?_⟩
  repeat ((try subst X); (first | (first | apply zL | apply zH | apply zE); intro X hX | apply zh | apply zl | apply ze); try simp only [zU, reduceIte, Nat.reduceEqDiff, Nat.reduceAdd, reduceCtorEq, Q32])
  intro w3 he3
  repeat ((try subst X); (first | (first | apply zL | apply zH | apply zE); intro X hX | apply zh | apply zl | apply ze); try simp only [zU, reduceIte, Nat.reduceEqDiff, Nat.reduceAdd, reduceCtorEq, Q32])
  refine Runs.box (fun w4 he4 hs4 hba => ?_)
  rw [agg_cells] at hba
  generalize hBa : w3.heap.size = Ba at *
  repeat ((try subst X); (first | (first | apply zL | apply zH | apply zE); intro X hX | apply zh | apply zl | apply ze); try simp only [zU, reduceIte, Nat.reduceEqDiff, Nat.reduceAdd, reduceCtorEq, Q32])
  refine hM _ _ _ ?_; clear hM M
  have he34 := he3.trans he4
  replace hb := hb.ext he34
  replace hbx := hbx.ext he34
  replace hpc := he34.cellsAt hpc
  have he04 := (he1.trans he2).trans he34
  refine ok_less [(0, .pointer (some ⟨B, 0, none⟩)), (3, .pointer (some ⟨Bx, 0, none⟩)), (4, .pointer (some ⟨Ba, 0, none⟩))] (by simp [sub, Env.get]) ?_
  obtain ⟨F, hF⟩ : ∃ F : Nat → Prop, ∀ k, F k ↔ S k ∧ gb ≠ k := ⟨_, fun k => Iff.rfl⟩
  have hFF : (fun k => S k ∧ gb ≠ k) = F := funext fun k => propext (hF k).symm
  have hFn : ∀ k, Bx ≤ k → F k := fun k hk => (hF k).2 ⟨hS k hk, by omega⟩
  rw [hFF] at hp hi
  simp only [hFF] at hrule
  have hp4 := hp.ext he04
  obtain ⟨Av, cv, Ah, ch, Am, cm, Aa, ca, Ak, ck, Ac, cc, rfl, -, -, -, hbd⟩ := rdP hp4
  have hz1 := he1.size
  have hz2 := he2.size
  have hz34 := he34.size
  obtain ⟨T, hT⟩ : ∃ T : List (Nat × Ent), T = [(50, .c (.pointer (some ⟨Ba, 0, none⟩))), (51, .c (.pointer (some ⟨Ba, 0, none⟩))), (52, .c (.pointer (some ⟨Ba, 1, none⟩))), (53, .c (.pointer (some ⟨gb, 0, none⟩))), (54, .c (.pointer (some ⟨gb, 0, none⟩))), (55, .c (.pointer (some ⟨gb, 6, none⟩))), (56, .c (.agg #[.int .i64 p.body.kind, .int .i64 p.body.left, .int .i64 p.body.num, .string p.body.text, .int .i64 p.body.form, .slice Aa p.body.args.length ca, .slice Ak p.body.kids.length ck, .slice Ac p.body.cases.length cc, .int .i64 p.body.pos])),
    (57, .c (.pointer (some ⟨Bx, 2, none⟩))), (58, .c (.slice none 0 0)), (59, .d (fun cs => .tuple #[.agg cs.toArray, .bool true]) (encG p.body) F 0), (49, .d (fun cs => .tuple #[.agg cs.toArray, .bool true]) (encG p.body) F 0), (60, .d (fun cs => .agg cs.toArray) (encG p.body) F 0), (61, .c (.bool true)), (5, .c undef)] := ⟨_, rfl⟩
  refine ok_seq (fun M hM => ?_)
  refine ok_tabS T [(0, .pointer (some ⟨B, 0, none⟩)), (3, .pointer (some ⟨Bx, 0, none⟩)), (4, .pointer (some ⟨Ba, 0, none⟩))] 13 5 37 11 60 (ex := .d (fun cs => .agg cs.toArray) (encG p.body) F 0) Fx.mixed rfl rfl (by rw [hT]; rfl) (by rw [hT]; rfl) rfl ⟨rfl, rfl, rfl⟩ (by rw [hT]; exact ⟨_, rfl⟩) Fx.zi37 rfl (by rw [hT]; rfl) ⟨rfl, rfl, rfl⟩ (by rw [hT]; rfl) (by decide) (by rfl) ?_ (by simp [sub, Env.get]) (by simp [sub, Env.get]) (by rw [hT]; rfl) ?_ ?_
  · rintro v W Yx ⟨cs, rfl, hr⟩
    exact ⟨by have := hr.len; rw [encG_len] at this; simpa [Value.cells] using this, fun u hu => (hr.one u (by simpa [Value.cells] using hu)).1⟩
  · intro Yx L K7 W j o hYx heW hsub at_ ho hj' hja hno M hM
    have g3 : K7.get 3 = some (.pointer (some ⟨Bx, 0, none⟩)) := sub_get hsub 3 _ rfl
    have g4 : K7.get 4 = some (.pointer (some ⟨Ba, 0, none⟩)) := sub_get hsub 4 _ rfl
    have hzW := heW.size
    subst hT
    simp only [List.length_cons, List.length_nil, Nat.zero_add, Nat.reduceAdd] at hj'
    obtain rfl | rfl | rfl | rfl | rfl | rfl | rfl | rfl | rfl | rfl | rfl | rfl | rfl : j = 0 ∨ j = 1 ∨ j = 2 ∨ j = 3 ∨ j = 4 ∨ j = 5 ∨ j = 6 ∨ j = 7 ∨ j = 8 ∨ j = 9 ∨ j = 10 ∨ j = 11 ∨ j = 12 := by omega
    all_goals (simp only [List.getElem?_cons_zero, List.getElem?_cons_succ, Option.some.injEq] at ho; subst ho)
    · repeat ((try subst X); (first | (first | apply zL | apply zH | apply zE); intro X hX | apply zh | apply zl | apply ze); try simp only [zU, reduceIte, Nat.reduceEqDiff, Nat.reduceAdd, reduceCtorEq, Q32])
      simp only [g4]
      repeat ((try subst X); (first | (first | apply zL | apply zH | apply zE); intro X hX | apply zh | apply zl | apply ze); try simp only [zU, reduceIte, Nat.reduceEqDiff, Nat.reduceAdd, reduceCtorEq, Q32])
      exact hM 50 _ _ _ rfl (Ext.refl _) rfl
    · obtain ⟨_, q, rfl⟩ := at_ 0 50 _ rfl (by decide) (hno 0 (by decide))
      repeat ((try subst X); (first | (first | apply zL | apply zH | apply zE); intro X hX | apply zh | apply zl | apply ze); try simp only [zU, reduceIte, Nat.reduceEqDiff, Nat.reduceAdd, reduceCtorEq, Q32])
      simp only [q]
      repeat ((try subst X); (first | (first | apply zL | apply zH | apply zE); intro X hX | apply zh | apply zl | apply ze); try simp only [zU, reduceIte, Nat.reduceEqDiff, Nat.reduceAdd, reduceCtorEq, Q32])
      exact hM 51 _ _ _ rfl (Ext.refl _) rfl
    · obtain ⟨_, q, rfl⟩ := at_ 1 51 _ rfl (by decide) (hno 1 (by decide))
      repeat ((try subst X); (first | (first | apply zL | apply zH | apply zE); intro X hX | apply zh | apply zl | apply ze); try simp only [zU, reduceIte, Nat.reduceEqDiff, Nat.reduceAdd, reduceCtorEq, Q32])
      simp only [q]
      repeat ((try subst X); (first | (first | apply zL | apply zH | apply zE); intro X hX | apply zh | apply zl | apply ze); try simp only [zU, reduceIte, Nat.reduceEqDiff, Nat.reduceAdd, reduceCtorEq, Q32])
      exact hM 52 _ _ _ rfl (Ext.refl _) rfl
    · obtain ⟨_, q, rfl⟩ := at_ 2 52 _ rfl (by decide) (hno 2 (by decide))
      repeat ((try subst X); (first | (first | apply zL | apply zH | apply zE); intro X hX | apply zh | apply zl | apply ze); try simp only [zU, reduceIte, Nat.reduceEqDiff, Nat.reduceAdd, reduceCtorEq, Q32])
      simp only [q]
      repeat ((try subst X); (first | (first | apply zL | apply zH | apply zE); intro X hX | apply zh | apply zl | apply ze); try simp only [zU, reduceIte, Nat.reduceEqDiff, Nat.reduceAdd, reduceCtorEq, Q32])
      refine ⟨_, Blk.cell (hba.ext heW) rfl, ?_⟩
      repeat ((try subst X); (first | (first | apply zL | apply zH | apply zE); intro X hX | apply zh | apply zl | apply ze); try simp only [zU, reduceIte, Nat.reduceEqDiff, Nat.reduceAdd, reduceCtorEq, Q32])
      exact hM 53 _ _ _ rfl (Ext.refl _) rfl
    · obtain ⟨_, q, rfl⟩ := at_ 3 53 _ rfl (by decide) (hno 3 (by decide))
      repeat ((try subst X); (first | (first | apply zL | apply zH | apply zE); intro X hX | apply zh | apply zl | apply ze); try simp only [zU, reduceIte, Nat.reduceEqDiff, Nat.reduceAdd, reduceCtorEq, Q32])
      simp only [q]
      repeat ((try subst X); (first | (first | apply zL | apply zH | apply zE); intro X hX | apply zh | apply zl | apply ze); try simp only [zU, reduceIte, Nat.reduceEqDiff, Nat.reduceAdd, reduceCtorEq, Q32])
      exact hM 54 _ _ _ rfl (Ext.refl _) rfl
    · obtain ⟨_, q, rfl⟩ := at_ 4 54 _ rfl (by decide) (hno 4 (by decide))
      repeat ((try subst X); (first | (first | apply zL | apply zH | apply zE); intro X hX | apply zh | apply zl | apply ze); try simp only [zU, reduceIte, Nat.reduceEqDiff, Nat.reduceAdd, reduceCtorEq, Q32])
      simp only [q]
      repeat ((try subst X); (first | (first | apply zL | apply zH | apply zE); intro X hX | apply zh | apply zl | apply ze); try simp only [zU, reduceIte, Nat.reduceEqDiff, Nat.reduceAdd, reduceCtorEq, Q32])
      exact hM 55 _ _ _ rfl (Ext.refl _) rfl
    · obtain ⟨_, q, rfl⟩ := at_ 5 55 _ rfl (by decide) (hno 5 (by decide))
      repeat ((try subst X); (first | (first | apply zL | apply zH | apply zE); intro X hX | apply zh | apply zl | apply ze); try simp only [zU, reduceIte, Nat.reduceEqDiff, Nat.reduceAdd, reduceCtorEq, Q32])
      simp only [q]
      repeat ((try subst X); (first | (first | apply zL | apply zH | apply zE); intro X hX | apply zh | apply zl | apply ze); try simp only [zU, reduceIte, Nat.reduceEqDiff, Nat.reduceAdd, reduceCtorEq, Q32])
      refine ⟨[.int .i64 p.body.kind, .int .i64 p.body.left, .int .i64 p.body.num, .string p.body.text, .int .i64 p.body.form, .slice Aa p.body.args.length ca, .slice Ak p.body.kids.length ck, .slice Ac p.body.cases.length cc, .int .i64 p.body.pos], rfl, ?_, ?_⟩
      · have := heW.cellsAt hpc
        intro jj u hj
        have h9 := this (6 + jj) u (by
          have hj9 : jj < 9 := by have := (List.getElem?_eq_some_iff.1 hj).1; simpa using this
          obtain rfl | rfl | rfl | rfl | rfl | rfl | rfl | rfl | rfl : jj = 0 ∨ jj = 1 ∨ jj = 2 ∨ jj = 3 ∨ jj = 4 ∨ jj = 5 ∨ jj = 6 ∨ jj = 7 ∨ jj = 8 := by omega
          all_goals exact hj)
        simpa [add_at] using h9
      repeat ((try subst X); (first | (first | apply zL | apply zH | apply zE); intro X hX | apply zh | apply zl | apply ze); try simp only [zU, reduceIte, Nat.reduceEqDiff, Nat.reduceAdd, reduceCtorEq, Q32])
      exact hM 56 _ _ _ rfl (Ext.refl _) rfl
    · repeat ((try subst X); (first | (first | apply zL | apply zH | apply zE); intro X hX | apply zh | apply zl | apply ze); try simp only [zU, reduceIte, Nat.reduceEqDiff, Nat.reduceAdd, reduceCtorEq, Q32])
      simp only [g3]
      repeat ((try subst X); (first | (first | apply zL | apply zH | apply zE); intro X hX | apply zh | apply zl | apply ze); try simp only [zU, reduceIte, Nat.reduceEqDiff, Nat.reduceAdd, reduceCtorEq, Q32])
      exact hM 57 _ _ _ rfl (Ext.refl _) rfl
    · obtain ⟨_, q, rfl⟩ := at_ 7 57 _ rfl (by decide) (hno 7 (by decide))
      repeat ((try subst X); (first | (first | apply zL | apply zH | apply zE); intro X hX | apply zh | apply zl | apply ze); try simp only [zU, reduceIte, Nat.reduceEqDiff, Nat.reduceAdd, reduceCtorEq, Q32])
      simp only [q]
      repeat ((try subst X); (first | (first | apply zL | apply zH | apply zE); intro X hX | apply zh | apply zl | apply ze); try simp only [zU, reduceIte, Nat.reduceEqDiff, Nat.reduceAdd, reduceCtorEq, Q32])
      refine ⟨_, Blk.cell (hbx.ext heW) rfl, ?_⟩
      repeat ((try subst X); (first | (first | apply zL | apply zH | apply zE); intro X hX | apply zh | apply zl | apply ze); try simp only [zU, reduceIte, Nat.reduceEqDiff, Nat.reduceAdd, reduceCtorEq, Q32])
      exact hM 58 _ _ _ rfl (Ext.refl _) rfl
    · obtain ⟨_, q6, rfl⟩ := at_ 6 56 _ rfl (by decide) (hno 6 (by decide))
      obtain ⟨_, q8, rfl⟩ := at_ 8 58 _ rfl (by decide) (hno 8 (by decide))
      repeat ((try subst X); (first | (first | apply zL | apply zH | apply zE); intro X hX | apply zh | apply zl | apply ze); try simp only [zU, reduceIte, Nat.reduceEqDiff, Nat.reduceAdd, reduceCtorEq, Q32])
      simp only [q6, q8]
      repeat ((try subst X); (first | (first | apply zL | apply zH | apply zE); intro X hX | apply zh | apply zl | apply ze); try simp only [zU, reduceIte, Nat.reduceEqDiff, Nat.reduceAdd, reduceCtorEq, Q32])
      refine Inv.call Fx.en16 (find_ok W (fun k => F k ∧ k < w4.heap.size) _ p.body _ [] ((hbd.mono (S' := fun k => F k ∧ k < w4.heap.size) (fun k h1 h2 => ⟨h1, h2⟩)).ext heW) Rd.empty) ?_
      rintro _ w8 ⟨he8, cs', rfl, hr8⟩
      repeat ((try subst X); (first | (first | apply zL | apply zH | apply zE); intro X hX | apply zh | apply zl | apply ze); try simp only [zU, reduceIte, Nat.reduceEqDiff, Nat.reduceAdd, reduceCtorEq, Q32])
      exact hM 59 _ _ _ rfl he8 ⟨cs', rfl, hr8.mono fun k hk hl => by
        rcases hk with hk | hk
        · exact ⟨hk.1, fun e => by have := (hYx k e.1).2; have := hk.2; omega⟩
        · exact ⟨hFn k (by omega), fun e => by have := (hYx k e.1).1; omega⟩⟩
    · obtain ⟨_, q, cs', rfl, hr⟩ := at_ 9 59 _ rfl (by decide) (hno 9 (by decide))
      repeat ((try subst X); (first | (first | apply zL | apply zH | apply zE); intro X hX | apply zh | apply zl | apply ze); try simp only [zU, reduceIte, Nat.reduceEqDiff, Nat.reduceAdd, reduceCtorEq, Q32])
      simp only [q]
      repeat ((try subst X); (first | (first | apply zL | apply zH | apply zE); intro X hX | apply zh | apply zl | apply ze); try simp only [zU, reduceIte, Nat.reduceEqDiff, Nat.reduceAdd, reduceCtorEq, Q32])
      exact hM 49 _ _ _ rfl (Ext.refl _) ⟨cs', rfl, hr⟩
    · obtain ⟨_, q, cs', rfl, hr⟩ := at_ 10 49 _ rfl (by decide) (hno 10 (by decide))
      repeat ((try subst X); (first | (first | apply zL | apply zH | apply zE); intro X hX | apply zh | apply zl | apply ze); try simp only [zU, reduceIte, Nat.reduceEqDiff, Nat.reduceAdd, reduceCtorEq, Q32])
      simp only [q]
      repeat ((try subst X); (first | (first | apply zL | apply zH | apply zE); intro X hX | apply zh | apply zl | apply ze); try simp only [zU, reduceIte, Nat.reduceEqDiff, Nat.reduceAdd, reduceCtorEq, Q32])
      exact hM 60 _ _ _ rfl (Ext.refl _) ⟨cs', rfl, hr⟩
    · obtain ⟨_, q, cs', rfl, hr⟩ := at_ 10 49 _ rfl (by decide) (hno 10 (by decide))
      repeat ((try subst X); (first | (first | apply zL | apply zH | apply zE); intro X hX | apply zh | apply zl | apply ze); try simp only [zU, reduceIte, Nat.reduceEqDiff, Nat.reduceAdd, reduceCtorEq, Q32])
      simp only [q]
      repeat ((try subst X); (first | (first | apply zL | apply zH | apply zE); intro X hX | apply zh | apply zl | apply ze); try simp only [zU, reduceIte, Nat.reduceEqDiff, Nat.reduceAdd, reduceCtorEq, Q32])
      exact hM 61 _ _ _ rfl (Ext.refl _) rfl
  · intro B5 K7 w7 o v he7 hsub at_ g5 gx hb5 hB5 ho M0 hM0
    subst hT
    simp only [List.length_cons, List.length_nil, Nat.zero_add, Nat.reduceAdd, List.getElem?_cons_succ, List.getElem?_cons_zero, Option.some.injEq] at ho
    subst ho
    obtain ⟨_, q12, rfl⟩ := at_ 12 61 _ rfl (by decide)
    obtain ⟨_, q11, cg, rfl, hg⟩ := at_ 11 60 _ rfl (by decide)
    rw [q11] at gx
    cases gx
    rw [agg_cells] at hb5
    repeat ((try subst X); (first | (first | apply zL | apply zH | apply zE); intro X hX | apply zh | apply zl | apply ze); try simp only [zU, reduceIte, Nat.reduceEqDiff, Nat.reduceAdd, reduceCtorEq, Q32])
    simp only [q12]
    repeat ((try subst X); (first | (first | apply zL | apply zH | apply zE); intro X hX | apply zh | apply zl | apply ze); try simp only [zU, reduceIte, Nat.reduceEqDiff, Nat.reduceAdd, reduceCtorEq, Q32])
    refine hM0 _ _ ?_
    simp only [thenN]
    refine hM _ _ _ (ok_less [(0, .pointer (some ⟨B, 0, none⟩)), (3, .pointer (some ⟨Bx, 0, none⟩)), (4, .pointer (some ⟨Ba, 0, none⟩)), (5, .pointer (some ⟨B5, 0, none⟩)), (6, .bool true)] ⟨sub_get hsub 0 _ rfl, sub_get hsub 3 _ rfl, sub_get hsub 4 _ rfl, g5, rfl, trivial⟩ ?_)
    clear hM M hM0 M0
    have hz7 := he7.size
    replace hb := hb.ext he7
    replace hbx := hbx.ext he7
    replace hba := hba.ext he7
    replace hpc := he7.cellsAt hpc
    have he07 := he04.trans he7
    have hg7 : Rd w7 F cg (encG p.body) := hg.mono fun k hk _ => hk.1
    have hcgl : cg.length = 9 := by rw [hg.len, encG_len]
    clear hsub at_ g5 q12 q11 hg
    refine ok_seq (fun M0 hM0 => ok_seq (fun M hM => ok_region rfl ?_))
    repeat ((try subst X); (first | (first | apply zL | apply zH | apply zE); intro X hX | apply zh | apply zl | apply ze); try simp only [zU, reduceIte, Nat.reduceEqDiff, Nat.reduceAdd, reduceCtorEq, Q32])
    refine hM _ _ _ ?_; clear hM M
    refine ok_cond rfl (fun h => by cases h) (fun _ => ok_skip ?_)
    refine hM0 _ _ _ ?_; clear hM0 M0
    refine ok_seq (fun M hM => ok_region rfl ?_)
    repeat ((try subst X); (first | (first | apply zL | apply zH | apply zE); intro X hX | apply zh | apply zl | apply ze); try simp only [zU, reduceIte, Nat.reduceEqDiff, Nat.reduceAdd, reduceCtorEq, Q32])
    refine ⟨cg, hcgl, by simpa [Value.cells] using hb5.all, ?_⟩
    repeat ((try subst X); (first | (first | apply zL | apply zH | apply zE); intro X hX | apply zh | apply zl | apply ze); try simp only [zU, reduceIte, Nat.reduceEqDiff, Nat.reduceAdd, reduceCtorEq, Q32])
    refine Inv.call Fx.en70 (hind w7 F Ba cg hba hg7) ?_
    rintro _ w8 he8
    repeat ((try subst X); (first | (first | apply zL | apply zH | apply zE); intro X hX | apply zh | apply zl | apply ze); try simp only [zU, reduceIte, Nat.reduceEqDiff, Nat.reduceAdd, reduceCtorEq, Q32])
    refine hM _ _ _ ?_; clear hM M
    replace hb := hb.ext he8
    replace hbx := hbx.ext he8
    replace hba := hba.ext he8
    replace hb5 := hb5.ext he8
    replace hpc := he8.cellsAt hpc
    have he08 := he07.trans he8
    refine ok_seq (fun M hM => ?_)
    refine (ok_drawR [2, 6, 9, 11, 14, 22] [0, 1, 2, 3, 4, 5, 6, 7, 8, 9, 10, 11, 12, 14, 15, 17, 18, 13, 16, 19, 20, 21, 22, 23] 17 [(true, false), (true, false), (true, false), (true, false), (false, true), (false, true), (false, true)] (Ext _) Fx.mixed (by decide) rfl rfl rfl (by decide +kernel) (by decide +kernel) (Ext.drew _) ?_); simp only [pickL, List.getElem?_cons_zero, List.getElem?_cons_succ, List.take_succ_cons, List.take_zero, List.drop_succ_cons, List.drop_zero]
    repeat ((try subst X); (first | (first | apply zL | apply zH | apply zE); intro X hX | apply zh | apply zl | apply ze); try simp only [zU, reduceIte, Nat.reduceEqDiff, Nat.reduceAdd, reduceCtorEq, Q32])
    refine ⟨_, fun w' h => Blk.cell (hba.ext h) rfl, ?_⟩
    repeat ((try subst X); (first | (first | apply zL | apply zH | apply zE); intro X hX | apply zh | apply zl | apply ze); try simp only [zU, reduceIte, Nat.reduceEqDiff, Nat.reduceAdd, reduceCtorEq, Q32])
    refine ⟨_, fun w' h => Blk.cell (hba.ext h) rfl, ?_⟩
    repeat ((try subst X); (first | (first | apply zL | apply zH | apply zE); intro X hX | apply zh | apply zl | apply ze); try simp only [zU, reduceIte, Nat.reduceEqDiff, Nat.reduceAdd, reduceCtorEq, Q32])
    refine ⟨[.int .i64 p.body.kind, .int .i64 p.body.left, .int .i64 p.body.num, .string p.body.text, .int .i64 p.body.form, .slice Aa p.body.args.length ca, .slice Ak p.body.kids.length ck, .slice Ac p.body.cases.length cc, .int .i64 p.body.pos], rfl, fun w' h => ?_, ?_⟩
    · have := h.cellsAt hpc
      intro jj u hj
      have h9 := this (6 + jj) u (by
        have hj9 : jj < 9 := by have := (List.getElem?_eq_some_iff.1 hj).1; simpa using this
        obtain rfl | rfl | rfl | rfl | rfl | rfl | rfl | rfl | rfl : jj = 0 ∨ jj = 1 ∨ jj = 2 ∨ jj = 3 ∨ jj = 4 ∨ jj = 5 ∨ jj = 6 ∨ jj = 7 ∨ jj = 8 := by omega
        all_goals exact hj)
      simpa [add_at] using h9
    repeat ((try subst X); (first | (first | apply zL | apply zH | apply zE); intro X hX | apply zh | apply zl | apply ze); try simp only [zU, reduceIte, Nat.reduceEqDiff, Nat.reduceAdd, reduceCtorEq, Q32])
    refine ⟨_, fun w' h => Blk.cell (hbx.ext h) rfl, ?_⟩
    repeat ((try subst X); (first | (first | apply zL | apply zH | apply zE); intro X hX | apply zh | apply zl | apply ze); try simp only [zU, reduceIte, Nat.reduceEqDiff, Nat.reduceAdd, reduceCtorEq, Q32])
    refine ⟨_, fun w' h => Blk.cell (hbx.ext h) rfl, ?_⟩
    repeat ((try subst X); (first | (first | apply zL | apply zH | apply zE); intro X hX | apply zh | apply zl | apply ze); try simp only [zU, reduceIte, Nat.reduceEqDiff, Nat.reduceAdd, reduceCtorEq, Q32])
    refine ⟨cg, hcgl, fun w' h => by simpa [Value.cells] using (hb5.ext h).all, ?_⟩
    repeat ((try subst X); (first | (first | apply zL | apply zH | apply zE); intro X hX | apply zh | apply zl | apply ze); try simp only [zU, reduceIte, Nat.reduceEqDiff, Nat.reduceAdd, reduceCtorEq, Q32])
    intro w9 he9
    repeat ((try subst X); (first | (first | apply zL | apply zH | apply zE); intro X hX | apply zh | apply zl | apply ze); try simp only [zU, reduceIte, Nat.reduceEqDiff, Nat.reduceAdd, reduceCtorEq, Q32])
    refine Inv.call Fx.en72 (rules_ok w9) ?_
    rintro _ w10 ⟨he10, rr, f, rfl, hmap, hf4, hf5⟩
    repeat ((try subst X); (first | (first | apply zL | apply zH | apply zE); intro X hX | apply zh | apply zl | apply ze); try simp only [zU, reduceIte, Nat.reduceEqDiff, Nat.reduceAdd, reduceCtorEq, Q32])
    have he810 := he9.trans he10
    refine ⟨he810, ?_⟩
    repeat ((try subst X); (first | (first | apply zL | apply zH | apply zE); intro X hX | apply zh | apply zl | apply ze); try simp only [zU, reduceIte, Nat.reduceEqDiff, Nat.reduceAdd, reduceCtorEq, Q32])
    refine Runs.lookupI Fx.un139 Fx.un3 zi138 hmap r ?_
    simp only [Bool.false_eq_true, if_false, hf f hf4 hf5, Option.getD_some]
    repeat ((try subst X); (first | (first | apply zL | apply zH | apply zE); intro X hX | apply zh | apply zl | apply ze); try simp only [zU, reduceIte, Nat.reduceEqDiff, Nat.reduceAdd, reduceCtorEq, Q32])
    refine ⟨he810, ?_⟩
    repeat ((try subst X); (first | (first | apply zL | apply zH | apply zE); intro X hX | apply zh | apply zl | apply ze); try simp only [zU, reduceIte, Nat.reduceEqDiff, Nat.reduceAdd, reduceCtorEq, Q32])
    have he010 := he08.trans he810
    have hz8 := he8.size
    have hz810 := he810.size
    have hbd8 := (hbd.ext he7).ext he8
    have hg10 := (hg7.ext he8).ext he810
    refine Inv.call hen (hrule w10 Ba _ cg he010 (hba.ext he810) (he810.cellsAt hpc) (hp.ext he010) hg10) ?_
    rintro _ w11 ⟨he11, cr, rfl, hcr⟩
    have he811 := he810.trans he11
    have hcrF : Rd w11 F cr (encG g') := hcr.mono fun k hk _ => by rcases hk with hk | hk; exact (hF k).2 hk; exact hFn k (by omega)
    repeat ((try subst X); (first | (first | apply zL | apply zH | apply zE); intro X hX | apply zh | apply zl | apply ze); try simp only [zU, reduceIte, Nat.reduceEqDiff, Nat.reduceAdd, reduceCtorEq, Q32])
    refine ⟨he811, ?_⟩
    repeat ((try subst X); (first | (first | apply zL | apply zH | apply zE); intro X hX | apply zh | apply zl | apply ze); try simp only [zU, reduceIte, Nat.reduceEqDiff, Nat.reduceAdd, reduceCtorEq, Q32])
    refine Inv.call Fx.en71 (put_ok [] w11 F _ cr p.body g' _ (hbd8.ext he811) Rd.empty hcrF rfl) ?_
    rintro _ w12 ⟨he12, cp, rfl, hcp⟩
    have hz811 := he811.size
    have hz12 := he12.size
    have he812 := he811.trans he12
    have he012 := he08.trans he812
    have hcpl : cp.length = 9 := by rw [hcp.len]; exact encG_len g'
    repeat ((try subst X); (first | (first | apply zL | apply zH | apply zE); intro X hX | apply zh | apply zl | apply ze); try simp only [zU, reduceIte, Nat.reduceEqDiff, Nat.reduceAdd, reduceCtorEq, Q32])
    refine ⟨he812, ?_⟩
    repeat ((try subst X); (first | (first | apply zL | apply zH | apply zE); intro X hX | apply zh | apply zl | apply ze); try simp only [zU, reduceIte, Nat.reduceEqDiff, Nat.reduceAdd, reduceCtorEq, Q32])
    obtain ⟨gb2, cap2, cur, hE2, hbl, hfit, -, hfin⟩ := (hown.ext he012).store (i := 0) (row := encP p) rfl (off := 6) (vs := cp) (ds := encG g') (hcp.mono fun k hk _ => by
      have : F k := by rcases hk with hk | hk; exact hk; exact hFn k (by omega)
      exact ⟨((hF k).1 this).1, fun e => ((hF k).1 this).2 (Option.some.inj e)⟩) (by omega) (by omega)
    obtain ⟨rfl, rfl⟩ : gb = gb2 ∧ cap = cap2 := by cases hE2; exact ⟨rfl, rfl⟩
    refine Runs.store hbl Fx.zi37 (by simpa [Value.cells] using hcpl) (fun u hu => (hcp.one u (by simpa [Value.cells] using hu)).1) (by omega) (fun w13 hc13 hs13 hb13 => ?_)
    rw [agg_cells] at hb13
    have hown13 := hfin w13 hc13 (by simpa using hb13)
    have hrow : [encP p].set 0 (spliceD (encP p) 6 (encG g')) = [encP (withBody p g')] := by simp [spliceD, encG_eq, withBody, encP]
    rw [hrow] at hown13
    repeat ((try subst X); (first | (first | apply zL | apply zH | apply zE); intro X hX | apply zh | apply zl | apply ze); try simp only [zU, reduceIte, Nat.reduceEqDiff, Nat.reduceAdd, reduceCtorEq, Q32])
    refine hM _ _ _ ?_; clear hM M
    replace hba := (hba.ext he812).chg hc13 (by omega)
    obtain ⟨gb3, cap3, rcs, hE3, hrc, -, hrp⟩ := hown13.row (i := 0) (row := encP (withBody p g')) rfl (by simp)
    obtain ⟨rfl, rfl⟩ : gb = gb3 ∧ cap = cap3 := by cases hE3; exact ⟨rfl, rfl⟩
    rw [Nat.zero_mul] at hrc
    obtain ⟨Rv, sv, Rh, sh, Rm, sm, Ra, sa, Rk, sk, Rc, sc, rfl, -, -, -, hrb⟩ := rdP hrp
    have hv2 : ¬ (((withBody p g').vars.length : Int) > 200) := by simp only [withBody]; omega
    refine ok_seq (fun M hM => ok_region rfl ?_)
    repeat ((try subst X); (first | (first | apply zL | apply zH | apply zE); intro X hX | apply zh | apply zl | apply ze); try simp only [zU, reduceIte, Nat.reduceEqDiff, Nat.reduceAdd, reduceCtorEq, Q32])
    refine ⟨_, Blk.cell hba rfl, ?_⟩
    repeat ((try subst X); (first | (first | apply zL | apply zH | apply zE); intro X hX | apply zh | apply zl | apply ze); try simp only [zU, reduceIte, Nat.reduceEqDiff, Nat.reduceAdd, reduceCtorEq, Q32])
    refine ⟨.slice Rv (withBody p g').vars.length sv, by simpa [add_at] using hrc 2 _ rfl, ?_⟩
    repeat ((try subst X); (first | (first | apply zL | apply zH | apply zE); intro X hX | apply zh | apply zl | apply ze); try simp only [zU, reduceIte, Nat.reduceEqDiff, Nat.reduceAdd, reduceCtorEq, Q32])
    simp only [hv2, decide_false]
    repeat ((try subst X); (first | (first | apply zL | apply zH | apply zE); intro X hX | apply zh | apply zl | apply ze); try simp only [zU, reduceIte, Nat.reduceEqDiff, Nat.reduceAdd, reduceCtorEq, Q32])
    refine ⟨fun _ => ?_, fun h => by cases h⟩
    repeat ((try subst X); (first | (first | apply zL | apply zH | apply zE); intro X hX | apply zh | apply zl | apply ze); try simp only [zU, reduceIte, Nat.reduceEqDiff, Nat.reduceAdd, reduceCtorEq, Q32])
    refine ⟨_, Blk.cell hba rfl, ?_⟩
    repeat ((try subst X); (first | (first | apply zL | apply zH | apply zE); intro X hX | apply zh | apply zl | apply ze); try simp only [zU, reduceIte, Nat.reduceEqDiff, Nat.reduceAdd, reduceCtorEq, Q32])
    refine ⟨[.int .i64 (withBody p g').body.kind, .int .i64 (withBody p g').body.left, .int .i64 (withBody p g').body.num, .string (withBody p g').body.text, .int .i64 (withBody p g').body.form, .slice Ra (withBody p g').body.args.length sa, .slice Rk (withBody p g').body.kids.length sk, .slice Rc (withBody p g').body.cases.length sc, .int .i64 (withBody p g').body.pos], rfl, ?_, ?_⟩
    · intro jj u hj
      have h9 := hrc (6 + jj) u (by
        have hj9 : jj < 9 := by have := (List.getElem?_eq_some_iff.1 hj).1; simpa using this
        obtain rfl | rfl | rfl | rfl | rfl | rfl | rfl | rfl | rfl : jj = 0 ∨ jj = 1 ∨ jj = 2 ∨ jj = 3 ∨ jj = 4 ∨ jj = 5 ∨ jj = 6 ∨ jj = 7 ∨ jj = 8 := by omega
        all_goals exact hj)
      simpa [add_at] using h9
    repeat ((try subst X); (first | (first | apply zL | apply zH | apply zE); intro X hX | apply zh | apply zl | apply ze); try simp only [zU, reduceIte, Nat.reduceEqDiff, Nat.reduceAdd, reduceCtorEq, Q32])
    refine Inv.call Fx.en28 (large_ok w13 _ _ (withBody p g').body hrb hh hn) ?_
    rintro _ w14 ⟨rfl, he14⟩
    repeat ((try subst X); (first | (first | apply zL | apply zH | apply zE); intro X hX | apply zh | apply zl | apply ze); try simp only [zU, reduceIte, Nat.reduceEqDiff, Nat.reduceAdd, reduceCtorEq, Q32])
    refine hM _ _ _ ?_; clear hM M
    refine ok_cond rfl (fun h => by cases h) (fun _ => ok_skip ?_)
    try simp only [zW, zU, reduceIte, Nat.reduceEqDiff, Nat.reduceAdd, reduceCtorEq, Q32]
    exact ⟨((he012.chg _).trans (hc13.mono fun k _ hk => hk.symm)).trans (he14.chg _), hown13.ext he14⟩
end Go.Proofs.YtcpjojaklpgnkaaGreat
/- Chapter 31: Apply, of a step at the first procedure's body.  -/
set_option linter.unusedVariables false
set_option linter.unusedSimpArgs false
namespace Go.Proofs.YtcpjojaklpgnkaaGreat
open Go Go.Proofs.Vg Go.RowKit
theorem applyR_ok (fn : Nat) (hen : ∀ (xs : Array Value) (w : World), (callFunc fn xs).run Tryz.prog w = .ok (.enter fn xs) w) (r i k : Int) (insts : List In) (p : Pr) (g' : G) (w : World) (S : Nat → Prop) (vt0 vi0 vp0 vd0 vf0 va0 : Value) (ht : pE vt0) (hi : Rd w S [vi0] [.sl 64 (insts.map encI)]) (hp : Rd w S [vp0] [.sl 256 [encP p]]) (hd : pE vd0) (hf : pE vf0) (ha : pE va0)
    (h0 : ¬ r < 0) (h12 : ¬ r ≥ 12) (h10 : ¬ r = 10)
    (hfn : ∀ f : Int → Option Value, f 4 = some (.func (.func 128) #[] #[]) → f 5 = some (.func (.func 129) #[] #[]) → f r = some (.func (.func fn) #[] #[]))
    (hind : ∀ (W : World) (S' : Nat → Prop) (B gb Ba : Nat) (cs : List Value), Blk W Ba (appCs B gb r i k) 134 → Rd W S' cs (encG p.body) → Rets Tryz.prog 70 [.pointer (some ⟨Ba, 0, none⟩), .agg cs.toArray] W (fun _ w' => Ext W w'))
    (hrule : ∀ (W : World) (F : Nat → Prop) (Ba B gb : Nat) (scs : List Value) (vi : Value) (pcs cs : List Value), Blk W Ba (appCs B gb r i k) 134 → Blk W B scs 31 → scs[1]? = some vi → Rd W F [vi] [.sl 64 (insts.map encI)] → cellsAt W ⟨gb, 0, none⟩ pcs → Rd W F pcs (encP p) → Rd W F cs (encG p.body) →
      Rets Tryz.prog fn [.pointer (some ⟨Ba, 0, none⟩), .agg cs.toArray] W (fun r w' => Ext W w' ∧ ∃ cs', r = .agg cs'.toArray ∧ Rd w' (fun k => F k ∨ W.heap.size ≤ k) cs' (encG g')))
    (hv : p.vars.length ≤ 200) (hh : g'.ht ≤ 126) (hn : (preG g' 1).length ≤ 5000) (hsm : p.body.ht ≤ 126 ∧ (preG p.body 1).length ≤ 5000) :
    Rets Tryz.prog 7 [.agg #[vt0, vi0, vp0, vd0, vf0, va0], .agg (stepCs r i k).toArray] w (fun res w' => Ext w w' ∧ ∃ vt vi vp vd vf va, res = .tuple #[.agg #[vt, vi, vp, vd, vf, va], .int .i64 0] ∧ pE vt ∧ pE vd ∧ pE vf ∧ pE va ∧
      Rd w' (fun k => S k ∨ w.heap.size ≤ k) [vi] [.sl 64 (insts.map encI)] ∧ Rd w' (fun k => S k ∨ w.heap.size ≤ k) [vp] [.sl 256 [encP (withBody p g')]]) := by
  let Q : Nat → Nat → List Value → World → Prop := fun B B' ocs W' => ∃ vt vi vp vd vf va, ocs = [vt, vi, vp, vd, vf, va] ∧ pE vt ∧ pE vd ∧ pE vf ∧ pE va ∧
    Rd W' (fun k => (S k ∨ w.heap.size ≤ k) ∧ k ≠ B ∧ k ≠ B') [vi] [.sl 64 (insts.map encI)] ∧ Rd W' (fun k => (S k ∨ w.heap.size ≤ k) ∧ k ≠ B ∧ k ≠ B') [vp] [.sl 256 [encP (withBody p g')]]
  refine Rets.mono (apply_ok insts [p] w S vt0 vi0 vp0 vd0 vf0 va0 (stepCs r i k) Q ht hi hp hd hf ha rfl (by intro u hu; simp [stepCs] at hu; rcases hu with rfl | rfl | rfl | rfl | rfl | rfl | rfl | rfl | rfl | rfl | rfl | rfl | rfl | rfl | rfl <;> exact ⟨rfl, rfl⟩) (by simp) (by intro q hq; simp at hq; subst hq; exact hsm) ?_) ?_
  · intro W B B' b0 vt vi vp vd vf va he hB hB' hBb hBb' hBB hvf hva hb hP
    obtain ⟨hvt, hvi, hown, -, hvd⟩ := hP
    obtain ⟨gb, cap, -, hE, -, -, -⟩ := hown.row (i := 0) (row := encP p) rfl (by simp)
    simp only [List.map_cons, List.map_nil, List.length_cons, List.length_nil, Nat.zero_add] at hE hown
    subst hE
    have hgb := hown.lt (k := gb) rfl
    obtain ⟨F, hF⟩ : ∃ F : Nat → Prop, ∀ k, F k ↔ (S k ∧ k < w.heap.size) ∨ b0 ≤ k := ⟨_, fun k => Iff.rfl⟩
    have hvi' : Rd W (fun k => F k ∧ gb ≠ k) [vi] [.sl 64 (insts.map encI)] := hvi.mono fun k hk _ => ⟨(hF k).2 hk.1.1, fun e => hk.1.2 (congrArg some e)⟩
    have hown' : Own W F b0 39 17 (.slice (some ⟨gb, 0, none⟩) 1 cap) [encP p] := hown.mono fun k hk _ _ => (hF k).2 hk.1
    refine Rets.mono (apply32_ok fn hen W B b0 gb cap insts p F vt vi vd vf va r i k g' hb hvi' hown' hBb (fun k hk => (hF k).2 (.inr (by omega))) h0 h12 h10 hfn (fun W2 S' Ba cs h1 h2 => hind W2 S' B gb Ba cs h1 h2)
      (fun W2 Ba pcs cs he2 h1 h2 h3 h4 => hrule W2 _ Ba B gb _ vi pcs cs h1 (hb.ext he2) rfl (hvi'.ext he2) h2 h3 h4) hv hh hn) ?_
    rintro _ W' ⟨hc, hown2⟩
    have hFB : ∀ k, F k → (S k ∨ w.heap.size ≤ k) ∧ k ≠ B ∧ k ≠ B' := fun k hk => by
      rcases (hF k).1 hk with h | h
      · exact ⟨.inl h.1, by omega, by omega⟩
      · exact ⟨.inr (by have := he.size; omega), by omega, by omega⟩
    obtain ⟨Avt, cvt, rfl⟩ := hvt
    obtain ⟨Avd, cvd, rfl⟩ := hvd
    obtain ⟨Avf, cvf, rfl⟩ := hvf
    obtain ⟨Ava, cva, rfl⟩ := hva
    obtain ⟨Avi, cvi, rfl, -⟩ := hvi'.hd
    refine ⟨hc.mono fun k _ hk => .inr (congrArg some hk), _, rfl, ?_, hb.chg hc (by omega), _, _, _, _, _, _, rfl, ⟨_, _, rfl⟩, ⟨_, _, rfl⟩, ⟨_, _, rfl⟩, ⟨_, _, rfl⟩, (hvi'.chg hc fun k hk _ => hk.2).mono fun k hk _ => hFB k hk.1, hown2.rd (by simp) (by simp) fun k hl hk => by
      rcases hk with hk | hk
      · exact hFB k hk.1
      · exact hFB k ((hF k).2 (.inr (by have := Option.some.inj hk; simp at this; omega)))⟩
    intro u hu
    simp at hu
    rcases hu with rfl | rfl | rfl | rfl | rfl | rfl <;> exact ⟨rfl, rfl⟩
  · rintro res w' ⟨he, B, B', ocs, W', rfl, ⟨vt, vi, vp, vd, vf, va, rfl, h1, h2, h3, h4, h5, h6⟩, hc⟩
    refine ⟨he, vt, vi, vp, vd, vf, va, rfl, h1, h2, h3, h4, (h5.chg hc fun k hk _ e => ?_).mono fun k hk _ => hk.1, (h6.chg hc fun k hk _ e => ?_).mono fun k hk _ => hk.1⟩
    all_goals (rcases e with e | e; exact hk.2.1 e; exact hk.2.2 e)
end Go.Proofs.YtcpjojaklpgnkaaGreat
/- Chapter 31: awake.  -/
set_option linter.unusedVariables false
set_option linter.unusedSimpArgs false
namespace Go.Proofs.YtcpjojaklpgnkaaGreat
open Go Go.Proofs.Vg Go.RowKit
theorem Runs.makeN {P : Program} {w : World} {t e : TypeId} {z : Value} {sz by_ : Nat} {k : IntKind} {n : Int} {cs : List Value} {nx : Value → World → Prop} (ht : P.underlying t = some (.slice e)) (hz : zinfo P e = some (some z, sz, by_)) (hm : madeCells z.cells (n.toNat * sz) = cs.toArray)
    (h0 : 0 ≤ n) (hn : (by_ : Int) * n ≤ 281474976710656) (h63 : n ≤ 9223372036854775807)
    (h : ∀ w1, Ext w w1 → w1.heap.size = w.heap.size + 1 → Blk w1 w.heap.size cs e → nx (.slice (some ⟨w.heap.size, 0, none⟩) n.toNat n.toNat) w1) :
    Runs P (Instr.makeSlice t (.int k n) (.int k n)) w nx := by
  obtain ⟨i, hi, hzz, hs, hb⟩ := zinfo_some hz
  have hr := run_make (P := P) w t e i z ht hi hzz k k n n h0 (Int.le_refl _) (by rw [hb]; exact hn) h63
  rw [hs, hm] at hr
  exact ⟨_, _, hr, h (newW w cs e) (newW_ext _ _ _) (newW_size _ _ _) (newW_blk _ _ _)⟩
theorem st39 : stInf Tryz.prog 39 = some ([(0, 1), (1, 1), (2, 1), (3, 1), (4, 1), (5, 1), (6, 9), (15, 1), (16, 1)], #[.string ByteArray.empty, .int .i64 0, .slice none 0 0, .slice none 0 0, .slice none 0 0, .int .i64 0, .int .i64 0, .int .i64 0, .int .i64 0, .string ByteArray.empty, .int .i64 0, .slice none 0 0, .slice none 0 0, .slice none 0 0, .int .i64 0, .string ByteArray.empty, .int .i64 0]) := by kernel_rfl
theorem st41 : stInf Tryz.prog 41 = some ([(0, 1), (1, 1), (2, 1), (3, 1), (4, 1), (5, 17)], (stepCs 0 0 0).toArray) := by kernel_rfl
theorem st70 : stInf Tryz.prog 70 = some ([(0, 1), (1, 1)], #[.int .i64 0, .int .i64 0]) := by kernel_rfl
theorem st73 : stInf Tryz.prog 73 = some ([(0, 1), (1, 1), (2, 1), (3, 1)], #[.int .i64 0, .slice none 0 0, .slice none 0 0, .int .i64 0]) := by kernel_rfl
/-! The states of the chapter's first example. -/
def gK1 : G := .mk 9 1 0 ByteArray.empty 1 [0] [] [] 0
def gK2 : G := .mk 9 1 0 ByteArray.empty 4 [2] [] [] 0
def gB0 : G := .mk 0 (-1) 0 ByteArray.empty 0 [] [gK1, gK2] [] 0
def gB1 : G := withKids gB0 (gB0.kids.take 1 ++ [partG 2 0 gK2.pos] ++ gB0.kids.drop 2)
def gB2 : G := withKids gB1 (gB1.kids.eraseIdx 0)
def vr0 : Vr := ⟨ByteArray.empty, .mk 0 ByteArray.empty []⟩
def pP (g : G) : Pr := ⟨ByteArray.empty, 0, [vr0, vr0, vr0], [0, 2], [(1, 1), (0, 1)], 0, g, ByteArray.empty, 0⟩
def insts0 : List In := [⟨0, [], [], 0⟩, ⟨1, [], [], 0⟩]
theorem known7_ok (w : World) (S : Nat → Prop) (vt0 vi0 vp0 vd0 vf0 va0 : Value) (ht : pE vt0) (hi : Rd w S [vi0] [.sl 64 (insts0.map encI)]) (hp : Rd w S [vp0] [.sl 256 [encP (pP gB0)]]) (hd : pE vd0) (hf : pE vf0) (ha : pE va0) :
    Rets Tryz.prog 7 [.agg #[vt0, vi0, vp0, vd0, vf0, va0], .agg (stepCs 4 0 1).toArray] w (fun res w' => Ext w w' ∧ ∃ vt vi vp vd vf va, res = .tuple #[.agg #[vt, vi, vp, vd, vf, va], .int .i64 0] ∧ pE vt ∧ pE vd ∧ pE vf ∧ pE va ∧
      Rd w' (fun k => S k ∨ w.heap.size ≤ k) [vi] [.sl 64 (insts0.map encI)] ∧ Rd w' (fun k => S k ∨ w.heap.size ≤ k) [vp] [.sl 256 [encP (pP gB1)]]) :=
  applyR_ok 128 Fx.en128 4 0 1 insts0 (pP gB0) gB1 w S vt0 vi0 vp0 vd0 vf0 va0 ht hi hp hd hf ha (by decide) (by decide) (by decide) (fun f h4 _ => h4)
    (fun W S' B gb Ba cs h1 h2 => indices4_ok W S' Ba _ cs gB0 0 1 h1 rfl rfl rfl (by decide) (by decide) h2)
    (fun W F Ba B gb scs vi pcs cs h1 h2 h3 h4 h5 h6 h7 => known_ok W F Ba B _ scs pcs cs ⟨gb, 0, none⟩ (pP gB0) insts0 vi (.slice none 0 0) [] 0 1 2 0 gB0 gK1 gK2 h1 rfl rfl rfl rfl rfl h2 h3 h4 Rd.empty h5 h6 h7 rfl (by decide) rfl rfl rfl rfl rfl rfl rfl rfl rfl rfl (by decide) (by decide) (by decide))
    (by decide) (by decide) (by decide) ⟨by decide, by decide⟩
theorem dead7_ok (w : World) (S : Nat → Prop) (vt0 vi0 vp0 vd0 vf0 va0 : Value) (ht : pE vt0) (hi : Rd w S [vi0] [.sl 64 (insts0.map encI)]) (hp : Rd w S [vp0] [.sl 256 [encP (pP gB1)]]) (hd : pE vd0) (hf : pE vf0) (ha : pE va0) :
    Rets Tryz.prog 7 [.agg #[vt0, vi0, vp0, vd0, vf0, va0], .agg (stepCs 5 0 0).toArray] w (fun res w' => Ext w w' ∧ ∃ vt vi vp vd vf va, res = .tuple #[.agg #[vt, vi, vp, vd, vf, va], .int .i64 0] ∧ pE vt ∧ pE vd ∧ pE vf ∧ pE va ∧
      Rd w' (fun k => S k ∨ w.heap.size ≤ k) [vi] [.sl 64 (insts0.map encI)] ∧ Rd w' (fun k => S k ∨ w.heap.size ≤ k) [vp] [.sl 256 [encP (pP gB2)]]) :=
  applyR_ok 129 Fx.en129 5 0 0 insts0 (pP gB1) gB2 w S vt0 vi0 vp0 vd0 vf0 va0 ht hi hp hd hf ha (by decide) (by decide) (by decide) (fun f _ h5 => h5)
    (fun W S' B gb Ba cs h1 h2 => indices5_ok W S' Ba _ cs gB1 0 h1 rfl rfl (by decide) h2)
    (fun W F Ba B gb scs vi pcs cs h1 h2 h3 h4 h5 h6 h7 => dead_ok W F Ba _ pcs cs ⟨gb, 0, none⟩ (pP gB1) gB1 gK1 0 h1 rfl rfl h5 h6 h7 rfl rfl rfl rfl (by decide) (by decide) (by decide) ⟨by decide, by decide⟩ (by decide) (by decide) (by decide))
    (by decide) (by decide) (by decide) ⟨by decide, by decide⟩
end Go.Proofs.YtcpjojaklpgnkaaGreat
/- Chapter 31: awake. -/
set_option linter.unusedVariables false
set_option linter.unusedSimpArgs false
namespace Go.Proofs.YtcpjojaklpgnkaaGreat
open Go Go.Proofs.Vg Go.RowKit
theorem rd_one {w : World} {S : Nat → Prop} {cs : List Value} {b : Nat} {rows : List (List D)} (h : Rd w S cs [.sl b rows]) : ∃ A c, cs = [.slice A rows.length c] := by
  match cs, h.len with
  | [u], _ =>
    obtain ⟨A, c, rfl, -, -, -⟩ := h.hd
    exact ⟨A, c, rfl⟩
theorem rd_proc {w : World} {S : Nat → Prop} {A : Option Addr} {c n : Nat} {g : G} (hn : n = g.kids.length) (h : Rd w S [.slice A 1 c] [.sl 256 [encP (pP g)]]) : ∃ k o Ak ck, A = some ⟨k, o, none⟩ ∧ w.cell? ⟨k, o + 12, none⟩ = some (.slice Ak n ck) ∧ Rd w S [.slice Ak n ck] [.sl 128 (g.kids.map encG)] := by
  subst hn
  obtain ⟨k, o, r, rfl, -, -, hc, hr⟩ := h.row (j := 0) (row := encP (pP g)) rfl
  obtain ⟨_, _, _, _, _, _, _, _, Ak, ck, _, _, rfl, -, -, -, hb⟩ := rdP hr
  obtain ⟨_, _, _, _, _, _, hE, -, hkk, -⟩ := rdG hb
  refine ⟨k, o, Ak, ck, rfl, ?_, ?_⟩
  · have h1 := hc 12 _ rfl
    have h2 : w.cell? ⟨k, o + 12, none⟩ = some (.slice Ak (pP g).body.kids.length ck) := by simpa [add_at] using h1
    exact h2
  · cases hE
    exact hkk
-- -- function 5
set_option maxHeartbeats 16000000 in
set_option maxRecDepth 8000 in
theorem awake_ok (w : World) : Rets Tryz.prog 5 [] w (fun r w' => r = .bool true ∧ Ext w w') := by
  refine rets_of_ok Tryz.func5 rfl rfl ?_
  refine ok_seq (fun M hM => ok_region rfl ?_); repeat ((try subst X); (first | (first | apply zL | apply zH | apply zE); intro X hX | apply zh | apply zl | apply ze); try simp only [zU, reduceIte, Nat.reduceEqDiff, Nat.reduceAdd, reduceCtorEq, Q5])
  refine hM _ _ _ ?_; clear hM M
  refine ok_seq (fun M hM => ok_region rfl ?_)
  repeat ((try subst X); (first | (first | apply zL | apply zH | apply zE); intro X hX | apply zh | apply zl | apply ze); try simp only [zU, reduceIte, Nat.reduceEqDiff, Nat.reduceAdd, reduceCtorEq, Q5])
  refine Runs.lit1 (cs := [.int .i64 0]) Fx.un29 Fx.zi3 rfl rfl rfl (by decide) (by decide) (fun w1 he1 hs1 hb1 => ?_)
  generalize hB1 : w.heap.size = B1 at *
  repeat ((try subst X); (first | (first | apply zL | apply zH | apply zE); intro X hX | apply zh | apply zl | apply ze); try simp only [zU, reduceIte, Nat.reduceEqDiff, Nat.reduceAdd, reduceCtorEq, Q5])
  refine Runs.build (parts := [(0, _), (1, _), (5, _), (4, _)]) (cs := #[.int .i64 9, .int .i64 1, .int .i64 0, .string ByteArray.empty, .int .i64 1, .slice (some ⟨B1, 0, none⟩) 1 1, .slice none 0 0, .slice none 0 0, .int .i64 0]) st37 (by kernel_rfl) ?_
  repeat ((try subst X); (first | (first | apply zL | apply zH | apply zE); intro X hX | apply zh | apply zl | apply ze); try simp only [zU, reduceIte, Nat.reduceEqDiff, Nat.reduceAdd, reduceCtorEq, Q5])
  refine Runs.lit1 (cs := [.int .i64 2]) Fx.un29 Fx.zi3 rfl rfl rfl (by decide) (by decide) (fun w2 he2 hs2 hb2 => ?_)
  generalize hB2 : w1.heap.size = B2 at *
  repeat ((try subst X); (first | (first | apply zL | apply zH | apply zE); intro X hX | apply zh | apply zl | apply ze); try simp only [zU, reduceIte, Nat.reduceEqDiff, Nat.reduceAdd, reduceCtorEq, Q5])
  refine Runs.build (parts := [(0, _), (1, _), (5, _), (4, _)]) (cs := #[.int .i64 9, .int .i64 1, .int .i64 0, .string ByteArray.empty, .int .i64 4, .slice (some ⟨B2, 0, none⟩) 1 1, .slice none 0 0, .slice none 0 0, .int .i64 0]) st37 (by kernel_rfl) ?_
  repeat ((try subst X); (first | (first | apply zL | apply zH | apply zE); intro X hX | apply zh | apply zl | apply ze); try simp only [zU, reduceIte, Nat.reduceEqDiff, Nat.reduceAdd, reduceCtorEq, Q5])
  refine Runs.lit (n := 2) (cs := [.int .i64 9, .int .i64 1, .int .i64 0, .string ByteArray.empty, .int .i64 1, .slice (some ⟨B1, 0, none⟩) 1 1, .slice none 0 0, .slice none 0 0, .int .i64 0, .int .i64 9, .int .i64 1, .int .i64 0, .string ByteArray.empty, .int .i64 4, .slice (some ⟨B2, 0, none⟩) 1 1, .slice none 0 0, .slice none 0 0, .int .i64 0]) (parts := [(0, _), (1, _)]) Fx.un34 Fx.zi37 (by decide) (by kernel_rfl) (by decide) (fun w3 he3 hs3 hb3 => ?_)
  generalize hB3 : w2.heap.size = B3 at *
  repeat ((try subst X); (first | (first | apply zL | apply zH | apply zE); intro X hX | apply zh | apply zl | apply ze); try simp only [zU, reduceIte, Nat.reduceEqDiff, Nat.reduceAdd, reduceCtorEq, Q5])
  refine Runs.build (parts := [(0, _), (1, _), (6, _)]) (cs := #[.int .i64 0, .int .i64 (-1), .int .i64 0, .string ByteArray.empty, .int .i64 0, .slice none 0 0, .slice (some ⟨B3, 0, none⟩) 2 2, .slice none 0 0, .int .i64 0]) st37 (by kernel_rfl) ?_
  repeat ((try subst X); (first | (first | apply zL | apply zH | apply zE); intro X hX | apply zh | apply zl | apply ze); try simp only [zU, reduceIte, Nat.reduceEqDiff, Nat.reduceAdd, reduceCtorEq, Q5])
  refine Runs.alloc Fx.zi37 (fun w4 he4 hs4 hb4 => ?_)
  simp only [Value.cells] at hb4
  generalize hB4 : w3.heap.size = B4 at *
  repeat ((try subst X); (first | (first | apply zL | apply zH | apply zE); intro X hX | apply zh | apply zl | apply ze); try simp only [zU, reduceIte, Nat.reduceEqDiff, Nat.reduceAdd, reduceCtorEq, Q5])
  refine Runs.store hb4 Fx.zi37 rfl (by simp [Value.cells, Value.oneCell']) (by simp) (fun w5 hc5 hs5 hb5 => ?_)
  simp only [splice, Value.cells, List.length_cons, List.length_nil, Nat.reduceAdd, Nat.zero_add, List.take_zero, List.drop_succ_cons, List.drop_zero, List.append_nil, List.nil_append, List.drop_nil] at hb5
  repeat ((try subst X); (first | (first | apply zL | apply zH | apply zE); intro X hX | apply zh | apply zl | apply ze); try simp only [zU, reduceIte, Nat.reduceEqDiff, Nat.reduceAdd, reduceCtorEq, Q5])
  refine hM _ _ _ ?_; clear hM M
  have hbody3 : Rd w3 (fun _ => True) [.int .i64 0, .int .i64 (-1), .int .i64 0, .string ByteArray.empty, .int .i64 0, .slice none 0 0, .slice (some ⟨B3, 0, none⟩) 2 2, .slice none 0 0, .int .i64 0] (encG gB0) := by
    refine rdG_mk (g := gB0) Rd.empty (Rd.lit (sz := 9) [[.int .i64 9, .int .i64 1, .int .i64 0, .string ByteArray.empty, .int .i64 1, .slice (some ⟨B1, 0, none⟩) 1 1, .slice none 0 0, .slice none 0 0, .int .i64 0], [.int .i64 9, .int .i64 1, .int .i64 0, .string ByteArray.empty, .int .i64 4, .slice (some ⟨B2, 0, none⟩) 1 1, .slice none 0 0, .slice none 0 0, .int .i64 0]] hb3 rfl rfl rfl (by intro r hr; simp at hr; rcases hr with rfl | rfl <;> rfl) (mapG_wid _) trivial (by decide) (by decide) (by decide) ?_) Rd.empty
    intro j r d hj hd
    rcases j with _ | _ | j
    · simp [gB0, G.kids] at hj hd; subst hj hd
      exact rdG_mk (g := gK1) (Rd.lit1 ((hb1.ext he2).ext he3) trivial (by decide) (Nat.le_refl _) (.at rfl rfl .nil)) Rd.empty Rd.empty
    · simp [gB0, G.kids] at hj hd; subst hj hd
      exact rdG_mk (g := gK2) (Rd.lit1 (hb2.ext he3) trivial (by decide) (Nat.le_refl _) (.at rfl rfl .nil)) Rd.empty Rd.empty
    · simp at hj
  have he35 : Ext w3 w5 := he4.chg_trans hc5 (by intro k hk; omega)
  have he05 : Ext w w5 := ((he1.trans he2).trans he3).trans he35
  have hbody : Rd w5 (fun k => k < B4) [.int .i64 0, .int .i64 (-1), .int .i64 0, .string ByteArray.empty, .int .i64 0, .slice none 0 0, .slice (some ⟨B3, 0, none⟩) 2 2, .slice none 0 0, .int .i64 0] (encG gB0) := (hbody3.mono fun k _ hl => by omega).ext he35
  have hz5 : w5.heap.size = B4 + 1 := by omega
  clear hbody3 hb1 hb2 hb3 hb4
  obtain ⟨U, hU⟩ : ∃ U : Nat → Prop, U = fun _ => True := ⟨_, rfl⟩
  obtain ⟨T, hT⟩ : ∃ T : List (Nat × Ent), T = [(15, .d (fun cs => cs.headD undef) [.sl 64 ((pP gB0).vars.map encV)] U 0), (16, .d (fun cs => cs.headD undef) [isD [0, 2]] U 0), (17, .c (.agg #[.int .i64 1, .int .i64 1])), (18, .c (.agg #[.int .i64 0, .int .i64 1])), (19, .d (fun cs => cs.headD undef) [.sl 16 ((pP gB0).modes.map encM)] U 0),
    (20, .c (.agg #[.int .i64 0, .int .i64 (-1), .int .i64 0, .string ByteArray.empty, .int .i64 0, .slice none 0 0, .slice (some ⟨B3, 0, none⟩) 2 2, .slice none 0 0, .int .i64 0])), (21, .d (fun cs => .agg cs.toArray) (encP (pP gB0)) U (B4 + 1)), (2, .c undef)] := ⟨_, rfl⟩
  refine ok_seq (fun M hM => ?_)
  refine ok_tabE T [(1, .pointer (some ⟨B4, 0, none⟩))] 7 2 39 Fx.mixed rfl rfl (by rw [hT]; rfl) (by rw [hT]; rfl) rfl ⟨rfl, rfl, rfl⟩ (by rw [hT]; exact ⟨_, rfl⟩) Fx.zi39 (by simp [sub, Env.get]) (by simp [sub, Env.get]) (by rw [hT]; rfl) ?_ ?_
  · intro Yx L K7 W j o hYx hJ ho hj' hja hno M hM
    have g1 := hJ.get 1 (v := .pointer (some ⟨B4, 0, none⟩)) rfl
    have heW := hJ.ext
    have at_ := hJ.at_
    have hXn : ∀ {w2 : World} {k : Nat}, k = W.heap.size → (U k ∧ ¬ (Yx k ∧ 0 ≤ k)) := fun hk => ⟨by rw [hU]; trivial, fun e => by have := hYx _ e.1; omega⟩
    clear hJ
    subst hT
    simp only [List.length_cons, List.length_nil, Nat.zero_add, Nat.reduceAdd] at hj'
    obtain rfl | rfl | rfl | rfl | rfl | rfl | rfl : j = 0 ∨ j = 1 ∨ j = 2 ∨ j = 3 ∨ j = 4 ∨ j = 5 ∨ j = 6 := by omega
    all_goals (simp only [List.getElem?_cons_zero, List.getElem?_cons_succ, Option.some.injEq] at ho; subst ho)
    · repeat ((try subst X); (first | (first | apply zL | apply zH | apply zE); intro X hX | apply zh | apply zl | apply ze); try simp only [zU, reduceIte, Nat.reduceEqDiff, Nat.reduceAdd, reduceCtorEq, Q5])
      refine Runs.makeN (cs := [.string ByteArray.empty, .int .i64 0, .string ByteArray.empty, .slice none 0 0, .string ByteArray.empty, .int .i64 0, .string ByteArray.empty, .slice none 0 0, .string ByteArray.empty, .int .i64 0, .string ByteArray.empty, .slice none 0 0]) Fx.un32 Fx.zi111 (by kernel_rfl) (by decide) (by decide) (by decide) (fun w8 he8 hs8 hb8 => ?_)
      repeat ((try subst X); (first | (first | apply zL | apply zH | apply zE); intro X hX | apply zh | apply zl | apply ze); try simp only [zU, reduceIte, Nat.reduceEqDiff, Nat.reduceAdd, reduceCtorEq, Q5])
      refine hM 15 _ _ _ rfl he8 ⟨[.slice (some ⟨W.heap.size, 0, none⟩) 3 3], rfl, ?_⟩
      refine Rd.lit (sz := 4) [[.string ByteArray.empty, .int .i64 0, .string ByteArray.empty, .slice none 0 0], [.string ByteArray.empty, .int .i64 0, .string ByteArray.empty, .slice none 0 0], [.string ByteArray.empty, .int .i64 0, .string ByteArray.empty, .slice none 0 0]] hb8 rfl rfl rfl (by intro r hr; simp at hr; subst hr; rfl) (encV_wid _) (hXn (w2 := W) rfl) (by decide) (by decide) (by decide) ?_
      intro j r d hj hd
      rcases j with _ | _ | _ | j
      all_goals first
        | (simp [pP] at hj hd; subst hj hd; exact .at rfl rfl (.at rfl rfl (.at rfl rfl Rd.empty)))
        | (simp at hj)
    · repeat ((try subst X); (first | (first | apply zL | apply zH | apply zE); intro X hX | apply zh | apply zl | apply ze); try simp only [zU, reduceIte, Nat.reduceEqDiff, Nat.reduceAdd, reduceCtorEq, Q5])
      refine Runs.lit (n := 2) (cs := [.int .i64 0, .int .i64 2]) (parts := [(0, _), (1, _)]) Fx.un29 Fx.zi3 (by decide) (by kernel_rfl) (by decide) (fun w8 he8 hs8 hb8 => ?_)
      repeat ((try subst X); (first | (first | apply zL | apply zH | apply zE); intro X hX | apply zh | apply zl | apply ze); try simp only [zU, reduceIte, Nat.reduceEqDiff, Nat.reduceAdd, reduceCtorEq, Q5])
      refine hM 16 _ _ _ rfl he8 ⟨[.slice (some ⟨W.heap.size, 0, none⟩) 2 2], rfl, ?_⟩
      refine Rd.lit (sz := 1) [[.int .i64 0], [.int .i64 2]] hb8 rfl rfl rfl (by intro r hr; simp at hr; rcases hr with rfl | rfl <;> rfl) (ints_wid _) (hXn (w2 := W) rfl) (by decide) (by decide) (by decide) ?_
      intro j r d hj hd
      rcases j with _ | _ | j
      all_goals first
        | (simp at hj hd; subst hj hd; exact .at rfl rfl .nil)
        | (simp at hj)
    · repeat ((try subst X); (first | (first | apply zL | apply zH | apply zE); intro X hX | apply zh | apply zl | apply ze); try simp only [zU, reduceIte, Nat.reduceEqDiff, Nat.reduceAdd, reduceCtorEq, Q5])
      refine Runs.build (parts := [(0, _), (1, _)]) (cs := #[.int .i64 1, .int .i64 1]) st70 (by kernel_rfl) ?_
      repeat ((try subst X); (first | (first | apply zL | apply zH | apply zE); intro X hX | apply zh | apply zl | apply ze); try simp only [zU, reduceIte, Nat.reduceEqDiff, Nat.reduceAdd, reduceCtorEq, Q5])
      exact hM 17 _ _ _ rfl (Ext.refl _) rfl
    · repeat ((try subst X); (first | (first | apply zL | apply zH | apply zE); intro X hX | apply zh | apply zl | apply ze); try simp only [zU, reduceIte, Nat.reduceEqDiff, Nat.reduceAdd, reduceCtorEq, Q5])
      refine Runs.build (parts := [(0, _), (1, _)]) (cs := #[.int .i64 0, .int .i64 1]) st70 (by kernel_rfl) ?_
      repeat ((try subst X); (first | (first | apply zL | apply zH | apply zE); intro X hX | apply zh | apply zl | apply ze); try simp only [zU, reduceIte, Nat.reduceEqDiff, Nat.reduceAdd, reduceCtorEq, Q5])
      exact hM 18 _ _ _ rfl (Ext.refl _) rfl
    · obtain ⟨_, q2, rfl⟩ := at_ 2 17 _ rfl (by decide) (hno 2 (by decide))
      obtain ⟨_, q3, rfl⟩ := at_ 3 18 _ rfl (by decide) (hno 3 (by decide))
      repeat ((try subst X); (first | (first | apply zL | apply zH | apply zE); intro X hX | apply zh | apply zl | apply ze); try simp only [zU, reduceIte, Nat.reduceEqDiff, Nat.reduceAdd, reduceCtorEq, Q5])
      simp only [q2, q3]
      repeat ((try subst X); (first | (first | apply zL | apply zH | apply zE); intro X hX | apply zh | apply zl | apply ze); try simp only [zU, reduceIte, Nat.reduceEqDiff, Nat.reduceAdd, reduceCtorEq, Q5])
      refine Runs.lit (n := 2) (cs := [.int .i64 1, .int .i64 1, .int .i64 0, .int .i64 1]) (parts := [(0, _), (1, _)]) Fx.un33 Fx.zi70 (by decide) (by kernel_rfl) (by decide) (fun w8 he8 hs8 hb8 => ?_)
      repeat ((try subst X); (first | (first | apply zL | apply zH | apply zE); intro X hX | apply zh | apply zl | apply ze); try simp only [zU, reduceIte, Nat.reduceEqDiff, Nat.reduceAdd, reduceCtorEq, Q5])
      refine hM 19 _ _ _ rfl he8 ⟨[.slice (some ⟨W.heap.size, 0, none⟩) 2 2], rfl, ?_⟩
      refine Rd.lit (sz := 2) [[.int .i64 1, .int .i64 1], [.int .i64 0, .int .i64 1]] hb8 rfl rfl rfl (by intro r hr; simp at hr; rcases hr with rfl | rfl <;> rfl) (by intro r hr; simp [pP] at hr; rcases hr with rfl | rfl <;> rfl) (hXn (w2 := W) rfl) (by decide) (by decide) (by decide) ?_
      intro j r d hj hd
      rcases j with _ | _ | j
      all_goals first
        | (simp [pP] at hj hd; subst hj hd; exact .at rfl rfl (.at rfl rfl .nil))
        | (simp at hj)
    · repeat ((try subst X); (first | (first | apply zL | apply zH | apply zE); intro X hX | apply zh | apply zl | apply ze); try simp only [zU, reduceIte, Nat.reduceEqDiff, Nat.reduceAdd, reduceCtorEq, Q5])
      simp only [g1]
      repeat ((try subst X); (first | (first | apply zL | apply zH | apply zE); intro X hX | apply zh | apply zl | apply ze); try simp only [zU, reduceIte, Nat.reduceEqDiff, Nat.reduceAdd, reduceCtorEq, Q5])
      refine ⟨_, rfl, (hb5.ext heW).all, ?_⟩
      repeat ((try subst X); (first | (first | apply zL | apply zH | apply zE); intro X hX | apply zh | apply zl | apply ze); try simp only [zU, reduceIte, Nat.reduceEqDiff, Nat.reduceAdd, reduceCtorEq, Q5])
      exact hM 20 _ _ _ rfl (Ext.refl _) rfl
    · obtain ⟨_, q0, c0, rfl, r0⟩ := at_ 0 15 _ rfl (by decide) (hno 0 (by decide))
      obtain ⟨_, q1, c1, rfl, r1⟩ := at_ 1 16 _ rfl (by decide) (hno 1 (by decide))
      obtain ⟨_, q4, c4, rfl, r4⟩ := at_ 4 19 _ rfl (by decide) (hno 4 (by decide))
      obtain ⟨_, q5, rfl⟩ := at_ 5 20 _ rfl (by decide) (hno 5 (by decide))
      obtain ⟨A0, k0, rfl⟩ := rd_one r0
      obtain ⟨A1, k1, rfl⟩ := rd_one r1
      obtain ⟨A4, k4, rfl⟩ := rd_one r4
      repeat ((try subst X); (first | (first | apply zL | apply zH | apply zE); intro X hX | apply zh | apply zl | apply ze); try simp only [zU, reduceIte, Nat.reduceEqDiff, Nat.reduceAdd, reduceCtorEq, Q5])
      simp only [q0, q1, q4, q5]
      repeat ((try subst X); (first | (first | apply zL | apply zH | apply zE); intro X hX | apply zh | apply zl | apply ze); try simp only [zU, reduceIte, Nat.reduceEqDiff, Nat.reduceAdd, reduceCtorEq, Q5])
      refine Runs.build (parts := [(2, _), (3, _), (4, _), (6, _)]) (cs := #[.string ByteArray.empty, .int .i64 0, .slice A0 3 k0, .slice A1 2 k1, .slice A4 2 k4, .int .i64 0, .int .i64 0, .int .i64 (-1), .int .i64 0, .string ByteArray.empty, .int .i64 0, .slice none 0 0, .slice (some ⟨B3, 0, none⟩) 2 2, .slice none 0 0, .int .i64 0, .string ByteArray.empty, .int .i64 0]) st39 (by kernel_rfl) ?_
      repeat ((try subst X); (first | (first | apply zL | apply zH | apply zE); intro X hX | apply zh | apply zl | apply ze); try simp only [zU, reduceIte, Nat.reduceEqDiff, Nat.reduceAdd, reduceCtorEq, Q5])
      exact hM 21 _ _ _ rfl (Ext.refl _) ⟨_, rfl, rdP_mk (p := pP gB0) (r0.mono fun k hk _ => ⟨hk.1, fun e => hk.2 ⟨e.1, Nat.zero_le _⟩⟩) (r1.mono fun k hk _ => ⟨hk.1, fun e => hk.2 ⟨e.1, Nat.zero_le _⟩⟩) (r4.mono fun k hk _ => ⟨hk.1, fun e => hk.2 ⟨e.1, Nat.zero_le _⟩⟩) ((hbody.ext heW).mono fun k hk _ => ⟨by rw [hU]; trivial, fun e => by have := e.2; omega⟩)⟩
  · intro B2' K7 w7 o hJ g2 hb7 hB7 ho M0 hM0
    have he7 := hJ.ext
    subst hT
    simp only [List.length_cons, List.length_nil, Nat.zero_add, Nat.reduceAdd, List.getElem?_cons_succ, List.getElem?_cons_zero, Option.some.injEq] at ho
    subst ho
    obtain ⟨_, q6, pcs, rfl, hp7⟩ := hJ.at_ 6 21 _ rfl (by decide) rfl
    clear hJ
    have hpl : pcs.length = 17 := hp7.len
    repeat ((try subst X); (first | (first | apply zL | apply zH | apply zE); intro X hX | apply zh | apply zl | apply ze); try simp only [zU, reduceIte, Nat.reduceEqDiff, Nat.reduceAdd, reduceCtorEq, Q5])
    simp only [g2, q6]
    repeat ((try subst X); (first | (first | apply zL | apply zH | apply zE); intro X hX | apply zh | apply zl | apply ze); try simp only [zU, reduceIte, Nat.reduceEqDiff, Nat.reduceAdd, reduceCtorEq, Q5])
    simp only [Value.cells] at hb7
    refine Runs.store hb7 Fx.zi39 (by simpa [Value.cells] using hpl) (fun u hu => (hp7.one u (by simpa [Value.cells] using hu)).1) (by simp) (fun w8 hc8 hs8 hb8 => ?_)
    rw [agg_cells, splice_all _ _ (by simpa using hpl)] at hb8
    repeat ((try subst X); (first | (first | apply zL | apply zH | apply zE); intro X hX | apply zh | apply zl | apply ze); try simp only [zU, reduceIte, Nat.reduceEqDiff, Nat.reduceAdd, reduceCtorEq, Q5])
    refine hM0 _ _ ?_
    simp only [thenN]
    refine hM _ _ _ (ok_less [(2, .pointer (some ⟨B2', 0, none⟩))] ⟨g2, trivial⟩ ?_)
    clear hM M hM0 M0 g2 q6
    replace hp7 := (hp7.chg hc8 (fun k hk _ e => hk.2 ⟨e, by omega⟩)).old
    have he58 : Ext w5 w8 := he7.chg_trans hc8 (by intro k hk; omega)
    have he08 := he05.trans he58
    clear hc8 hb7 hbody hb5
    refine ok_seq (fun M hM => ok_region rfl ?_)
    repeat ((try subst X); (first | (first | apply zL | apply zH | apply zE); intro X hX | apply zh | apply zl | apply ze); try simp only [zU, reduceIte, Nat.reduceEqDiff, Nat.reduceAdd, reduceCtorEq, Q5])
    refine Runs.build (parts := []) (cs := #[.int .i64 0, .slice none 0 0, .slice none 0 0, .int .i64 0]) st73 rfl ?_
    repeat ((try subst X); (first | (first | apply zL | apply zH | apply zE); intro X hX | apply zh | apply zl | apply ze); try simp only [zU, reduceIte, Nat.reduceEqDiff, Nat.reduceAdd, reduceCtorEq, Q5])
    refine Runs.build (parts := [(0, _)]) (cs := #[.int .i64 1, .slice none 0 0, .slice none 0 0, .int .i64 0]) st73 (by kernel_rfl) ?_
    repeat ((try subst X); (first | (first | apply zL | apply zH | apply zE); intro X hX | apply zh | apply zl | apply ze); try simp only [zU, reduceIte, Nat.reduceEqDiff, Nat.reduceAdd, reduceCtorEq, Q5])
    refine Runs.lit (n := 2) (cs := [.int .i64 0, .slice none 0 0, .slice none 0 0, .int .i64 0, .int .i64 1, .slice none 0 0, .slice none 0 0, .int .i64 0]) (parts := [(0, _), (1, _)]) Fx.un23 Fx.zi73 (by decide) (by kernel_rfl) (by decide) (fun w9 he9 hs9 hb9 => ?_)
    generalize hB9 : w8.heap.size = B9 at *
    repeat ((try subst X); (first | (first | apply zL | apply zH | apply zE); intro X hX | apply zh | apply zl | apply ze); try simp only [zU, reduceIte, Nat.reduceEqDiff, Nat.reduceAdd, reduceCtorEq, Q5])
    refine ⟨pcs, hpl, (hb8.ext he9).all, ?_⟩
    repeat ((try subst X); (first | (first | apply zL | apply zH | apply zE); intro X hX | apply zh | apply zl | apply ze); try simp only [zU, reduceIte, Nat.reduceEqDiff, Nat.reduceAdd, reduceCtorEq, Q5])
    refine Runs.lit1 (cs := pcs) Fx.un24 Fx.zi39 rfl rfl hpl (by decide) (by decide) (fun w10 he10 hs10 hb10 => ?_)
    generalize hB10 : w9.heap.size = B10 at *
    repeat ((try subst X); (first | (first | apply zL | apply zH | apply zE); intro X hX | apply zh | apply zl | apply ze); try simp only [zU, reduceIte, Nat.reduceEqDiff, Nat.reduceAdd, reduceCtorEq, Q5])
    refine Runs.build (parts := [(1, _), (2, _)]) (cs := #[.slice none 0 0, .slice (some ⟨B9, 0, none⟩) 2 2, .slice (some ⟨B10, 0, none⟩) 1 1, .slice none 0 0]) st27 (by kernel_rfl) ?_
    repeat ((try subst X); (first | (first | apply zL | apply zH | apply zE); intro X hX | apply zh | apply zl | apply ze); try simp only [zU, reduceIte, Nat.reduceEqDiff, Nat.reduceAdd, reduceCtorEq, Q5])
    refine Runs.build (parts := [(0, _)]) (cs := #[.slice none 0 0, .slice (some ⟨B9, 0, none⟩) 2 2, .slice (some ⟨B10, 0, none⟩) 1 1, .slice none 0 0, .slice none 0 0, .slice none 0 0]) st31 (by kernel_rfl) ?_
    repeat ((try subst X); (first | (first | apply zL | apply zH | apply zE); intro X hX | apply zh | apply zl | apply ze); try simp only [zU, reduceIte, Nat.reduceEqDiff, Nat.reduceAdd, reduceCtorEq, Q5])
    refine Runs.alloc Fx.zi31 (fun w11 he11 hs11 hb11 => ?_)
    simp only [Value.cells] at hb11
    generalize hB11 : w10.heap.size = B11 at *
    repeat ((try subst X); (first | (first | apply zL | apply zH | apply zE); intro X hX | apply zh | apply zl | apply ze); try simp only [zU, reduceIte, Nat.reduceEqDiff, Nat.reduceAdd, reduceCtorEq, Q5])
    refine Runs.store hb11 Fx.zi31 rfl (by simp [Value.cells, Value.oneCell']) (by simp) (fun w12 hc12 hs12 hb12 => ?_)
    simp only [splice, Value.cells, List.length_cons, List.length_nil, Nat.reduceAdd, Nat.zero_add, List.take_zero, List.drop_succ_cons, List.drop_zero, List.append_nil, List.nil_append, List.drop_nil] at hb12
    repeat ((try subst X); (first | (first | apply zL | apply zH | apply zE); intro X hX | apply zh | apply zl | apply ze); try simp only [zU, reduceIte, Nat.reduceEqDiff, Nat.reduceAdd, reduceCtorEq, Q5])
    refine hM _ _ _ ?_; clear hM M
    have he1012 : Ext w10 w12 := he11.chg_trans hc12 (by intro k hk; omega)
    have he812 : Ext w8 w12 := (he9.trans he10).trans he1012
    have he012 := he08.trans he812
    have hin : Rd w12 (fun _ => True) [.slice (some ⟨B9, 0, none⟩) 2 2] [.sl 64 (insts0.map encI)] := by
      refine Rd.lit (sz := 4) [[.int .i64 0, .slice none 0 0, .slice none 0 0, .int .i64 0], [.int .i64 1, .slice none 0 0, .slice none 0 0, .int .i64 0]] ((hb9.ext he10).ext he1012) rfl rfl rfl (by intro r hr; simp at hr; rcases hr with rfl | rfl <;> rfl) (by intro r hr; simp [insts0] at hr; rcases hr with rfl | rfl <;> rfl) trivial (by decide) (by decide) (by decide) ?_
      intro j r d hj hd
      rcases j with _ | _ | j
      · simp [insts0] at hj hd; subst hj hd
        exact .at rfl rfl (Rd.empty.append (Rd.empty.append (.at rfl rfl .nil)))
      · simp [insts0] at hj hd; subst hj hd
        exact .at rfl rfl (Rd.empty.append (Rd.empty.append (.at rfl rfl .nil)))
      · simp at hj
    have hpr : Rd w12 (fun _ => True) [.slice (some ⟨B10, 0, none⟩) 1 1] [.sl 256 [encP (pP gB0)]] := Rd.lit1 (hb10.ext he1012) trivial (by decide) (by decide) ((hp7.ext he812).mono fun _ _ _ => trivial)
    clear hp7 hb8 hb9 hb10 hb11 hc12
    refine ok_seq (fun M hM => ok_region rfl ?_)
    repeat ((try subst X); (first | (first | apply zL | apply zH | apply zE); intro X hX | apply zh | apply zl | apply ze); try simp only [zU, reduceIte, Nat.reduceEqDiff, Nat.reduceAdd, reduceCtorEq, Q5])
    refine ⟨_, rfl, hb12.all, ?_⟩
    repeat ((try subst X); (first | (first | apply zL | apply zH | apply zE); intro X hX | apply zh | apply zl | apply ze); try simp only [zU, reduceIte, Nat.reduceEqDiff, Nat.reduceAdd, reduceCtorEq, Q5])
    refine Runs.build (parts := [(0, _), (4, _)]) (cs := (stepCs 4 0 1).toArray) st41 (by kernel_rfl) ?_
    repeat ((try subst X); (first | (first | apply zL | apply zH | apply zE); intro X hX | apply zh | apply zl | apply ze); try simp only [zU, reduceIte, Nat.reduceEqDiff, Nat.reduceAdd, reduceCtorEq, Q5])
    refine Inv.call Fx.en7 (known7_ok w12 (fun _ => True) _ _ _ _ _ _ ⟨_, _, rfl⟩ hin hpr ⟨_, _, rfl⟩ ⟨_, _, rfl⟩ ⟨_, _, rfl⟩) ?_
    rintro _ w13 ⟨he13, vt, vi, vp, vd, vf, va, rfl, ⟨Avt, cvt, rfl⟩, ⟨Avd, cvd, rfl⟩, ⟨Avf, cvf, rfl⟩, ⟨Ava, cva, rfl⟩, hvi, hvp⟩
    obtain ⟨Avi, cvi, rfl, -, -, -⟩ := hvi.hd
    obtain ⟨Avp, cvp, rfl, -, -, -⟩ := hvp.hd
    replace hvi : Rd w13 _ [.slice Avi 2 cvi] [.sl 64 (insts0.map encI)] := hvi.old
    replace hvp : Rd w13 _ [.slice Avp 1 cvp] [.sl 256 [encP (pP gB1)]] := hvp.old
    simp only [List.length_map, List.length_singleton, show insts0.length = 2 from rfl]
    repeat ((try subst X); (first | (first | apply zL | apply zH | apply zE); intro X hX | apply zh | apply zl | apply ze); try simp only [zU, reduceIte, Nat.reduceEqDiff, Nat.reduceAdd, reduceCtorEq, Q5])
    refine Runs.alloc Fx.zi31 (fun w14 he14 hs14 hb14 => ?_)
    simp only [Value.cells] at hb14
    generalize hB14 : w13.heap.size = B14 at *
    repeat ((try subst X); (first | (first | apply zL | apply zH | apply zE); intro X hX | apply zh | apply zl | apply ze); try simp only [zU, reduceIte, Nat.reduceEqDiff, Nat.reduceAdd, reduceCtorEq, Q5])
    refine Runs.store hb14 Fx.zi31 rfl (by simp [Value.cells, Value.oneCell']) (by simp) (fun w15 hc15 hs15 hb15 => ?_)
    simp only [splice, Value.cells, List.length_cons, List.length_nil, Nat.reduceAdd, Nat.zero_add, List.take_zero, List.drop_succ_cons, List.drop_zero, List.append_nil, List.nil_append, List.drop_nil] at hb15
    repeat ((try subst X); (first | (first | apply zL | apply zH | apply zE); intro X hX | apply zh | apply zl | apply ze); try simp only [zU, reduceIte, Nat.reduceEqDiff, Nat.reduceAdd, reduceCtorEq, Q5])
    refine hM _ _ _ ?_; clear hM M
    have he1315 : Ext w13 w15 := he14.chg_trans hc15 (by intro k hk; omega)
    have he015 := (he012.trans he13).trans he1315
    replace hvi := hvi.ext he1315
    replace hvp := hvp.ext he1315
    clear hb14 hc15 hin hpr hb12
    obtain ⟨kp, op, Ak, ck, rfl, hk12, hkk⟩ := rd_proc (n := 2) rfl hvp
    refine ok_seq (fun M0 hM0 => ok_seq (fun M hM => ok_region rfl ?_))
    repeat ((try subst X); (first | (first | apply zL | apply zH | apply zE); intro X hX | apply zh | apply zl | apply ze); try simp only [zU, reduceIte, Nat.reduceEqDiff, Nat.reduceAdd, reduceCtorEq, Q5])
    refine ⟨_, Blk.cell hb15 rfl, ?_⟩
    repeat ((try subst X); (first | (first | apply zL | apply zH | apply zE); intro X hX | apply zh | apply zl | apply ze); try simp only [zU, reduceIte, Nat.reduceEqDiff, Nat.reduceAdd, reduceCtorEq, Q5])
    have e11 : decide (((1 : Nat) : Int) = 1) = true := rfl
    have e22 : decide (((2 : Nat) : Int) = 2) = true := rfl
    simp only [e11]
    repeat ((try subst X); (first | (first | apply zL | apply zH | apply zE); intro X hX | apply zh | apply zl | apply ze); try simp only [zU, reduceIte, Nat.reduceEqDiff, Nat.reduceAdd, reduceCtorEq, Q5])
    refine ⟨fun _ => ?_, fun h => by cases h⟩
    repeat ((try subst X); (first | (first | apply zL | apply zH | apply zE); intro X hX | apply zh | apply zl | apply ze); try simp only [zU, reduceIte, Nat.reduceEqDiff, Nat.reduceAdd, reduceCtorEq, Q5])
    refine ⟨_, Blk.cell hb15 rfl, ?_⟩
    repeat ((try subst X); (first | (first | apply zL | apply zH | apply zE); intro X hX | apply zh | apply zl | apply ze); try simp only [zU, reduceIte, Nat.reduceEqDiff, Nat.reduceAdd, reduceCtorEq, Q5])
    refine ⟨by decide, by decide, ?_⟩
    repeat ((try subst X); (first | (first | apply zL | apply zH | apply zE); intro X hX | apply zh | apply zl | apply ze); try simp only [zU, reduceIte, Nat.reduceEqDiff, Nat.reduceAdd, reduceCtorEq, Q5])
    refine ⟨.slice Ak 2 ck, by simpa using hk12, ?_⟩
    repeat ((try subst X); (first | (first | apply zL | apply zH | apply zE); intro X hX | apply zh | apply zl | apply ze); try simp only [zU, reduceIte, Nat.reduceEqDiff, Nat.reduceAdd, reduceCtorEq, Q5])
    simp only [e22]
    repeat ((try subst X); (first | (first | apply zL | apply zH | apply zE); intro X hX | apply zh | apply zl | apply ze); try simp only [zU, reduceIte, Nat.reduceEqDiff, Nat.reduceAdd, reduceCtorEq, Q5])
    refine hM _ _ _ ?_; clear hM M
    refine ok_cond rfl (fun h => by cases h) (fun _ => ok_skip ?_)
    refine hM0 _ _ _ (ok_less [(4, .pointer (some ⟨B14, 0, none⟩))] (by simp [sub, Env.get]) ?_)
    clear hM0 M0
    obtain ⟨kk, ok, r, rfl, -, -, hrc, hr⟩ := hkk.row (j := 1) (row := encG (partG 2 0 0)) rfl
    rw [encG_len] at hrc
    have hrl : r.length = 9 := by rw [hr.len, encG_len]
    obtain ⟨r0, r1, r4, Ar, cr, r5, hra⟩ : r[0]? = some (.int .i64 7) ∧ r[1]? = some (.int .i64 2) ∧ r[4]? = some (.int .i64 1) ∧ ∃ A c, r[5]? = some (.slice A 1 c) ∧ Rd w15 (fun k => k < B14) [.slice A 1 c] [isD [0]] := by
      obtain ⟨A, c, _, _, _, _, rfl, h8, -, -⟩ := rdG hr
      exact ⟨rfl, rfl, rfl, A, c, rfl, h8⟩
    refine ok_seq (fun M hM => ok_region rfl ?_)
    repeat ((try subst X); (first | (first | apply zL | apply zH | apply zE); intro X hX | apply zh | apply zl | apply ze); try simp only [zU, reduceIte, Nat.reduceEqDiff, Nat.reduceAdd, reduceCtorEq, Q5])
    refine ⟨_, Blk.cell hb15 rfl, ?_⟩
    repeat ((try subst X); (first | (first | apply zL | apply zH | apply zE); intro X hX | apply zh | apply zl | apply ze); try simp only [zU, reduceIte, Nat.reduceEqDiff, Nat.reduceAdd, reduceCtorEq, Q5])
    refine ⟨by decide, by decide, ?_⟩
    repeat ((try subst X); (first | (first | apply zL | apply zH | apply zE); intro X hX | apply zh | apply zl | apply ze); try simp only [zU, reduceIte, Nat.reduceEqDiff, Nat.reduceAdd, reduceCtorEq, Q5])
    refine ⟨.slice (some ⟨kk, ok, none⟩) 2 ck, by simpa using hk12, ?_⟩
    repeat ((try subst X); (first | (first | apply zL | apply zH | apply zE); intro X hX | apply zh | apply zl | apply ze); try simp only [zU, reduceIte, Nat.reduceEqDiff, Nat.reduceAdd, reduceCtorEq, Q5])
    refine ⟨by decide, by decide, ?_⟩
    repeat ((try subst X); (first | (first | apply zL | apply zH | apply zE); intro X hX | apply zh | apply zl | apply ze); try simp only [zU, reduceIte, Nat.reduceEqDiff, Nat.reduceAdd, reduceCtorEq, Q5])
    refine ⟨r, hrl, by simpa [add_at] using hrc, ?_⟩
    repeat ((try subst X); (first | (first | apply zL | apply zH | apply zE); intro X hX | apply zh | apply zl | apply ze); try simp only [zU, reduceIte, Nat.reduceEqDiff, Nat.reduceAdd, reduceCtorEq, Q5])
    refine Runs.alloc Fx.zi37 (fun w16 he16 hs16 hb16 => ?_)
    simp only [Value.cells] at hb16
    generalize hB16 : w15.heap.size = B16 at *
    repeat ((try subst X); (first | (first | apply zL | apply zH | apply zE); intro X hX | apply zh | apply zl | apply ze); try simp only [zU, reduceIte, Nat.reduceEqDiff, Nat.reduceAdd, reduceCtorEq, Q5])
    refine Runs.store hb16 Fx.zi37 (by simpa [Value.cells] using hrl) (fun u hu => (hr.one u (by simpa [Value.cells] using hu)).1) (by simp) (fun w17 hc17 hs17 hb17 => ?_)
    rw [agg_cells, splice_all _ _ (by simpa using hrl)] at hb17
    repeat ((try subst X); (first | (first | apply zL | apply zH | apply zE); intro X hX | apply zh | apply zl | apply ze); try simp only [zU, reduceIte, Nat.reduceEqDiff, Nat.reduceAdd, reduceCtorEq, Q5])
    refine hM _ _ _ ?_; clear hM M
    have he1517 : Ext w15 w17 := he16.chg_trans hc17 (by intro k hk; omega)
    have he017 := he015.trans he1517
    replace hb15 := hb15.ext he1517
    replace hvi := (hvi.ext he1517).mono (S' := fun _ => True) fun _ _ _ => trivial
    replace hvp := (hvp.ext he1517).mono (S' := fun _ => True) fun _ _ _ => trivial
    replace hra := hra.ext he1517
    clear hb16 hc17 hr hrc
    refine ok_seq (fun M hM => ok_region rfl ?_)
    repeat ((try subst X); (first | (first | apply zL | apply zH | apply zE); intro X hX | apply zh | apply zl | apply ze); try simp only [zU, reduceIte, Nat.reduceEqDiff, Nat.reduceAdd, reduceCtorEq, Q5])
    refine ⟨_, rfl, hb15.all, ?_⟩
    repeat ((try subst X); (first | (first | apply zL | apply zH | apply zE); intro X hX | apply zh | apply zl | apply ze); try simp only [zU, reduceIte, Nat.reduceEqDiff, Nat.reduceAdd, reduceCtorEq, Q5])
    refine Runs.build (parts := [(0, _)]) (cs := (stepCs 5 0 0).toArray) st41 (by kernel_rfl) ?_
    repeat ((try subst X); (first | (first | apply zL | apply zH | apply zE); intro X hX | apply zh | apply zl | apply ze); try simp only [zU, reduceIte, Nat.reduceEqDiff, Nat.reduceAdd, reduceCtorEq, Q5])
    refine Inv.call Fx.en7 (dead7_ok w17 (fun _ => True) _ _ _ _ _ _ ⟨_, _, rfl⟩ hvi hvp ⟨_, _, rfl⟩ ⟨_, _, rfl⟩ ⟨_, _, rfl⟩) ?_
    rintro _ w18 ⟨he18, ut, ui, up, ud, uf, ua, rfl, ⟨Aut, cut, rfl⟩, ⟨Aud, cud, rfl⟩, ⟨Auf, cuf, rfl⟩, ⟨Aua, cua, rfl⟩, hui, hup⟩
    obtain ⟨Aui, cui, rfl, -, -, -⟩ := hui.hd
    obtain ⟨Aup, cup, rfl, -, -, -⟩ := hup.hd
    replace hup : Rd w18 _ [.slice Aup 1 cup] [.sl 256 [encP (pP gB2)]] := hup.old
    simp only [List.length_map, List.length_singleton, show insts0.length = 2 from rfl]
    repeat ((try subst X); (first | (first | apply zL | apply zH | apply zE); intro X hX | apply zh | apply zl | apply ze); try simp only [zU, reduceIte, Nat.reduceEqDiff, Nat.reduceAdd, reduceCtorEq, Q5])
    refine Runs.alloc Fx.zi31 (fun w19 he19 hs19 hb19 => ?_)
    simp only [Value.cells] at hb19
    generalize hB19 : w18.heap.size = B19 at *
    repeat ((try subst X); (first | (first | apply zL | apply zH | apply zE); intro X hX | apply zh | apply zl | apply ze); try simp only [zU, reduceIte, Nat.reduceEqDiff, Nat.reduceAdd, reduceCtorEq, Q5])
    refine Runs.store hb19 Fx.zi31 rfl (by simp [Value.cells, Value.oneCell']) (by simp) (fun w20 hc20 hs20 hb20 => ?_)
    simp only [splice, Value.cells, List.length_cons, List.length_nil, Nat.reduceAdd, Nat.zero_add, List.take_zero, List.drop_succ_cons, List.drop_zero, List.append_nil, List.nil_append, List.drop_nil] at hb20
    repeat ((try subst X); (first | (first | apply zL | apply zH | apply zE); intro X hX | apply zh | apply zl | apply ze); try simp only [zU, reduceIte, Nat.reduceEqDiff, Nat.reduceAdd, reduceCtorEq, Q5])
    refine hM _ _ _ ?_; clear hM M
    have he1820 : Ext w18 w20 := he19.chg_trans hc20 (by intro k hk; omega)
    have he1720 := he18.trans he1820
    have he020 := he017.trans he1720
    replace hup := hup.ext he1820
    replace hb17 := hb17.ext he1720
    replace hra := hra.ext he1720
    clear hb19 hc20
    obtain ⟨ku, ou, Bk, bk, rfl, hu12, -⟩ := rd_proc (n := 1) rfl hup
    refine ok_seq (fun M hM => ok_region rfl ?_)
    repeat ((try subst X); (first | (first | apply zL | apply zH | apply zE); intro X hX | apply zh | apply zl | apply ze); try simp only [zU, reduceIte, Nat.reduceEqDiff, Nat.reduceAdd, reduceCtorEq, Q5])
    refine ⟨_, Blk.cell hb17 r0, ?_⟩
    repeat ((try subst X); (first | (first | apply zL | apply zH | apply zE); intro X hX | apply zh | apply zl | apply ze); try simp only [zU, reduceIte, Nat.reduceEqDiff, Nat.reduceAdd, reduceCtorEq, Q5])
    refine ⟨_, Blk.cell hb17 r1, ?_⟩
    repeat ((try subst X); (first | (first | apply zL | apply zH | apply zE); intro X hX | apply zh | apply zl | apply ze); try simp only [zU, reduceIte, Nat.reduceEqDiff, Nat.reduceAdd, reduceCtorEq, Q5])
    refine ⟨_, Blk.cell hb17 r5, ?_⟩
    repeat ((try subst X); (first | (first | apply zL | apply zH | apply zE); intro X hX | apply zh | apply zl | apply ze); try simp only [zU, reduceIte, Nat.reduceEqDiff, Nat.reduceAdd, reduceCtorEq, Q5])
    refine Runs.lit1 (cs := [.int .i64 0]) Fx.un29 Fx.zi3 rfl rfl rfl (by decide) (by decide) (fun w21 he21 hs21 hb21 => ?_)
    repeat ((try subst X); (first | (first | apply zL | apply zH | apply zE); intro X hX | apply zh | apply zl | apply ze); try simp only [zU, reduceIte, Nat.reduceEqDiff, Nat.reduceAdd, reduceCtorEq, Q5])
    refine Inv.call Fx.en13 (eqInts_ok w21 (fun _ => True) (fun _ => True) _ _ [0] ((hra.ext he21).mono fun _ _ _ => trivial) (Rd.lit1 hb21 trivial (by decide) (by decide) (.at rfl rfl .nil))) ?_
    rintro _ w22 ⟨rfl, he22⟩
    have he2022 := he21.trans he22
    repeat ((try subst X); (first | (first | apply zL | apply zH | apply zE); intro X hX | apply zh | apply zl | apply ze); try simp only [zU, reduceIte, Nat.reduceEqDiff, Nat.reduceAdd, reduceCtorEq, Q5])
    refine ⟨_, Blk.cell (hb17.ext he2022) r4, ?_⟩
    repeat ((try subst X); (first | (first | apply zL | apply zH | apply zE); intro X hX | apply zh | apply zl | apply ze); try simp only [zU, reduceIte, Nat.reduceEqDiff, Nat.reduceAdd, reduceCtorEq, Q5])
    refine ⟨_, Blk.cell (hb20.ext he2022) rfl, ?_⟩
    repeat ((try subst X); (first | (first | apply zL | apply zH | apply zE); intro X hX | apply zh | apply zl | apply ze); try simp only [zU, reduceIte, Nat.reduceEqDiff, Nat.reduceAdd, reduceCtorEq, Q5])
    refine ⟨by decide, by decide, ?_⟩
    repeat ((try subst X); (first | (first | apply zL | apply zH | apply zE); intro X hX | apply zh | apply zl | apply ze); try simp only [zU, reduceIte, Nat.reduceEqDiff, Nat.reduceAdd, reduceCtorEq, Q5])
    refine ⟨.slice Bk 1 bk, by simpa using he2022.cell hu12, ?_⟩
    repeat ((try subst X); (first | (first | apply zL | apply zH | apply zE); intro X hX | apply zh | apply zl | apply ze); try simp only [zU, reduceIte, Nat.reduceEqDiff, Nat.reduceAdd, reduceCtorEq, Q5])
    simp only [e11]
    repeat ((try subst X); (first | (first | apply zL | apply zH | apply zE); intro X hX | apply zh | apply zl | apply ze); try simp only [zU, reduceIte, Nat.reduceEqDiff, Nat.reduceAdd, reduceCtorEq, Q5])
    refine hM _ _ _ ?_; clear hM M
    refine ok_ret ?_
    try simp only [zW, zU, reduceIte, Nat.reduceEqDiff, Nat.reduceAdd, reduceCtorEq, Q5]
    exact he020.trans he2022
end Go.Proofs.YtcpjojaklpgnkaaGreat
/- EquivGoals: for every procedure, every slice of insts, every path, index and variable, whatever they are, the law returns true, and what came in reads as it did. No condition but the row's own. -/
set_option linter.unusedVariables false
set_option linter.unusedSimpArgs false
namespace Go.Proofs.YtcpjojaklpgnkaaGreat
open Go Go.Proofs.Vg Go.RowKit Go.Deep Go.ChangeShapes Go.WideShapes Go.ChangeAt
theorem own31 : ownKnob Tryz.prog.godebug = none := by kernel_rfl
theorem laid31 : laidOutB Tryz.prog = true := by kernel_rfl
theorem rr39 : Tryz.prog.readableRec 39 = true := by kernel_rfl
theorem rr23 : Tryz.prog.readableRec 23 = true := by kernel_rfl
theorem rr62 : Tryz.prog.readableRec 62 = true := by kernel_rfl
theorem cf62 : stF Tryz.prog 62 = some [29, 3, 3] := by kernel_rfl
theorem stF_struct {P : Program} {t : TypeId} {ts : List TypeId} (h : stF P t = some ts) : ∃ fs, P.underlying t = some (.struct fs) := by
  unfold stF at h
  split at h
  · rename_i fs hu; exact ⟨fs, hu⟩
  · cases h
def tys31 : List TypeId := [39, 23, 62, 37, 3, 2, 9, 29, 34, 35, 105, 108, 32, 111, 93, 91, 33, 70, 73, 71, 153]
theorem tys31_ok : tys31.all (okTy Tryz.prog tys31) = true := by kernel_rfl
theorem cf_place {ds : List D} (h : Cf 62 ds) : ∃ path i v, ds = [isD path, iD i, iD v] := by
  obtain ⟨ps, rfl, hl, hp⟩ := h.st_inv cf62
  match ps, hl with
  | [a, b, c], _ =>
    obtain ⟨l, rfl⟩ := cf_ints (hp 0 29 a rfl rfl)
    obtain ⟨i, rfl⟩ := cf_int (hp 1 3 b rfl rfl) (.inr rfl)
    obtain ⟨v, rfl⟩ := cf_int (hp 2 3 c rfl rfl) (.inr rfl)
    exact ⟨l, i, v, rfl⟩

theorem rd_place {w : World} {S : Nat → Prop} {cs : List Value} {path : List Int} {i v : Int} (h : Rd w S cs [isD path, iD i, iD v]) : ∃ vp, cs = [vp, .int .i64 i, .int .i64 v] ∧ Rd w S [vp] [isD path] := by
  match cs, h.len with
  | [a, b, c], _ =>
    obtain ⟨h3, h4⟩ := h.slc
    obtain ⟨e1, h5⟩ := h4.atc
    obtain ⟨e2, h6⟩ := h5.atc
    exact ⟨a, by rw [e1, e2], h3⟩
set_option maxHeartbeats 4000000 in
set_option maxRecDepth 100000 in
theorem equivGoals_lifted (os : Os) (started : os.Started) (H : Type) (enc : TypeId × Value → H) :
    ReturnsInHanded {} Tryz.checked os 4 .any (Rows.equivGoalsSpec.pre6 enc Tryz.prog Tryz.f4 Rows.equivGoalsRow.domain false) (Rows.equivGoalsSpec.post enc Tryz.prog Tryz.f4 false true false false) := by
  refine returnsInHanded_of_change_sized (C := Tryz.checked) own31 started (by kernel_rfl) Tryz.func4
    (ChangeSpec.witness6 (enc := enc) (C := Tryz.checked) false ⟨#[], #[.agg #[.string ByteArray.empty, .int .i64 0, .slice none 0 0, .slice none 0 0, .slice none 0 0, .int .i64 0, .int .i64 0, .int .i64 0, .int .i64 0, .string ByteArray.empty, .int .i64 0, .slice none 0 0, .slice none 0 0, .slice none 0 0, .int .i64 0, .string ByteArray.empty, .int .i64 0], .slice none 0 0, .agg #[.slice none 0 0, .int .i64 0, .int .i64 0]], []⟩ 8 (by kernel_rfl) (by kernel_rfl) (by kernel_rfl) (by kernel_rfl)) ?_
  intro W base args ds gs before hval0 hW hcnd hsz0 _
  have hval : ∀ (j : Nat) t v, Tryz.f4.params[j]? = some t → args[j]? = some v → Value.okWide Tryz.prog W .any base t v := hval0
  have hW' := hW
  obtain ⟨p, q, hA0, hV, rfl, hfz, hnd⟩ := hW
  have hA : DataW.TrodAll enc Tryz.prog W 0 (fun _ => true) true Tryz.f4.params.toList args.toList ds p := hA0
  have hsz : (DataW.weightsEach Tryz.prog (Tryz.f4.params.toList ++ []) (ds ++ gs)).all (· ≤ reachBytes) = true := hsz0
  rw [Tryz.params4] at hA hsz hval
  obtain ⟨v0, v1, v2, d0, d1, d2, p0, p1, p2, rfl, rfl, rfl, h0, h1, h2⟩ := trodAll_three hA
  obtain ⟨rfl, rfl⟩ := trodVars_none hV
  clear hA0 hval0 hsz0
  simp only [List.append_nil, List.append_assoc] at hW'
  have h0' := h0
  have h1' := h1
  have h2' := h2
  obtain ⟨n0, g0⟩ := h0
  obtain ⟨n1, g1⟩ := h1
  obtain ⟨n2, g2⟩ := h2
  obtain ⟨ds0, r0, k0⟩ := rd_all tys31_ok _ 39 _ _ _ (Nat.le_refl _) (by decide) g0 (small_of_all hsz (j := 0) rfl rfl)
  obtain ⟨ds1, r1, k1⟩ := rd_all tys31_ok _ 23 _ _ _ (Nat.le_refl _) (by decide) g1 (small_of_all hsz (j := 1) rfl rfl)
  obtain ⟨ds2, r2, k2⟩ := rd_all tys31_ok _ 62 _ _ _ (Nat.le_refl _) (by decide) g2 (small_of_all hsz (j := 2) rfl rfl)
  obtain ⟨p, rfl⟩ := cf_proc k0
  obtain ⟨insts, rfl⟩ := cf_slice (enc := encI) k1 cu23 cb73 (fun r hr => cf_inst hr)
  obtain ⟨path, idx, v, rfl⟩ := cf_place k2
  obtain ⟨fs0, hf0⟩ := stF_struct cf39
  obtain ⟨fs2, hf2⟩ := stF_struct cf62
  obtain ⟨⟨l0⟩, rfl, -⟩ := okWide_struct hf0 (hval 0 39 v0 rfl rfl)
  obtain ⟨a1, n1', c1, rfl⟩ := okWide_slice cu23 (hval 1 23 v1 rfl rfl)
  obtain ⟨⟨l2⟩, rfl, -⟩ := okWide_struct hf2 (hval 2 62 v2 rfl rfl)
  have r0' : Rd W (fun k => k < W.heap.size) l0 (encP p) := r0
  have r1' : Rd W (fun k => k < W.heap.size) [.slice a1 n1' c1] [.sl 64 (insts.map encI)] := r1
  have r2' : Rd W (fun k => k < W.heap.size) l2 [isD path, iD idx, iD v] := r2
  clear r0 r1 r2
  obtain ⟨vp, rfl, hp⟩ : ∃ vp, l2 = [vp, .int .i64 idx, .int .i64 v] ∧ Rd W (fun k => k < W.heap.size) [vp] [isD path] := by
    exact rd_place r2'
  have hlt := hW'.lt
  refine Calls.mono (goals4_ok awake_ok W _ l0 p insts _ vp path idx v r0' r1' hp) fun e W' he => ?_
  cases e <;> simp only [callR] at he
  obtain ⟨rfl, hx⟩ := he
  exact ⟨_, rfl, post_ext rfl hW' hx (fun _ _ _ => trodAll_mk1 (shut_bool Fx.un4 _))
    (fun sp hsp => trodAll_mk3 (Trod_ext laid31 rr39 (by decide +kernel) h0' hx (fun x hx => hlt x (List.mem_append_left _ hx)) (fun x hx => hsp x (List.mem_append_left _ hx)))
      (Trod_ext laid31 rr23 (by decide +kernel) h1' hx (fun x hx => hlt x (List.mem_append_right _ (List.mem_append_left _ hx))) (fun x hx => hsp x (List.mem_append_right _ (List.mem_append_left _ hx))))
      (Trod_ext laid31 rr62 (by decide +kernel) h2' hx (fun x hx => hlt x (List.mem_append_right _ (List.mem_append_right _ hx))) (fun x hx => hsp x (List.mem_append_right _ (List.mem_append_right _ hx))))) rfl⟩

theorem equivGoals_holds : Rows.EquivGoalsSaid :=
  OpenClaim.holds_of_wide 4 Tryz.f4 rfl rfl rfl rfl rfl rfl rfl ⟨rfl, rfl, rfl, rfl, rfl⟩ rfl rfl rfl rfl rfl (by kernel_rfl) Tryz.func4 (by kernel_rfl)
    (of_decide_eq_true (by kernel_rfl)) (by unfold Func.isWrapper; first | (rw [if_pos (by decide +kernel)]; kernel_rfl) | (rw [if_neg (by decide +kernel)]; exact ⟨rfl, rfl⟩))
    (fun os started H enc _ => equivGoals_lifted os started H enc)
#print axioms equivGoals_holds
end Go.Proofs.YtcpjojaklpgnkaaGreat
