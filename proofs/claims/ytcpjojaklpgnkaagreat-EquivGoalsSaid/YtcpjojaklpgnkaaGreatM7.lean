/- Part 7 of 12: N17, N2, N18, N19, N12, N13. -/
import Derived.Test.YtcpjojaklpgnkaaGreatM6
import Derived.Test.YtcpjojaklpgnkaaGreatM4
import Derived.Test.YtcpjojaklpgnkaaGreatM3
/- Chapter 31: the law's bounds.  -/
set_option linter.unusedVariables false
set_option linter.unusedSimpArgs false
namespace Go.Proofs.Vg
mutual
def szG : G → Nat
  | .mk _ _ _ _ _ _ ks _ _ => szGs ks + 1
def szGs : List G → Nat
  | [] => 0
  | g :: gs => szG g + szGs gs
end
/-- The lists of a goal itself are short. -/
def nodeOk (g : G) : Prop := g.args.length ≤ 40 ∧ g.text.size ≤ 100 ∧ g.cases.length ≤ 40 ∧ ∀ l ∈ g.cases, l.length ≤ 40
mutual
def okG : G → Prop
  | .mk k l n t f a ks c p => nodeOk (.mk k l n t f a ks c p) ∧ okGs ks
def okGs : List G → Prop
  | [] => True
  | g :: gs => okG g ∧ okGs gs
end
theorem szG_eq (g : G) : szG g = szGs g.kids + 1 := by cases g; simp [szG, G.kids]
theorem okG_eq (g : G) : okG g ↔ nodeOk g ∧ okGs g.kids := by cases g; simp [okG, G.kids]
structure smP (p : Pr) : Prop where
  vars : p.vars.length ≤ 60
  heads : p.heads.length ≤ 40
  modes : p.modes.length ≤ 40
  size : szG p.body ≤ 60
  ok : okG p.body
theorem ht_sz (g : G) : g.ht ≤ szG g := by
  induction g using G.ind with
  | h g ih =>
    rw [G.ht_eq, szG_eq]
    have : ∀ (l : List G), (∀ k ∈ l, k.ht ≤ szG k) → htGs l ≤ szGs l := by
      intro l
      induction l with
      | nil => intro _; simp [htGs, szGs]
      | cons x xs ih2 =>
        intro h
        have := h x List.mem_cons_self
        have := ih2 (fun k hk => h k (List.mem_cons_of_mem _ hk))
        simp only [htGs, szGs]; omega
    have := this g.kids ih
    omega
end Go.Proofs.Vg
namespace Go.Proofs.YtcpjojaklpgnkaaGreat
open Go Go.Proofs.Vg Go.RowKit
-- -- function 62
set_option maxRecDepth 8000 in
theorem long_ok (w : World) (S : Nat → Prop) (v : Value) (l : List (Int × ByteArray)) (h : Rd w S [v] [.sl 24 (l.map encC)]) : Rets Tryz.prog 62 [v] w (fun r w' => r = .bool (decide (40 < l.length)) ∧ w = w') := by
  obtain ⟨A, c, rfl, -⟩ := h.hd
  simp only [List.length_map]
  refine rets_of_ok Tryz.func62 rfl rfl ?_
  refine ok_seq (fun M hM => ok_region rfl ?_); repeat ((try subst X); (first | (first | apply zL | apply zH | apply zE); intro X hX | apply zh | apply zl | apply ze); try simp only [zU, reduceIte, Nat.reduceEqDiff, Nat.reduceAdd, reduceCtorEq, Q62])
  refine hM _ _ _ ?_; clear hM M
  refine ok_seq (fun M hM => ok_region rfl ?_); repeat ((try subst X); (first | (first | apply zL | apply zH | apply zE); intro X hX | apply zh | apply zl | apply ze); try simp only [zU, reduceIte, Nat.reduceEqDiff, Nat.reduceAdd, reduceCtorEq, Q62])
  refine hM _ _ _ ?_; clear hM M
  refine ok_ret ?_
  try simp only [zW, zU, reduceIte, Nat.reduceEqDiff, Nat.reduceAdd, reduceCtorEq, Q62]
  congr 1
  simp
  omega
-- -- function 64
set_option maxHeartbeats 2000000 in
set_option maxRecDepth 8000 in
theorem goalsC_ok (w : World) (cs : List Value) (B C : Nat) (R : Value → World → Prop) (hcl : cs.length = 9) (hB : Blk w B [.pointer (some ⟨C, 0, none⟩)] 77) (h : ∀ w1, Ext w w1 → Rets Tryz.prog 26 [.agg cs.toArray, .pointer (some ⟨C, 0, none⟩)] w1 (fun r w' => ∃ b, r = .bool b ∧ R (.bool !b) w')) :
    Rets Tryz.prog 64 ([.agg cs.toArray] ++ [.pointer (some ⟨B, 0, none⟩)]) w R := by
  refine rets_of_ok Tryz.func64 rfl rfl ?_
  refine ok_seq (fun M hM => ok_region rfl ?_)
  repeat ((try subst X); (first | (first | apply zL | apply zH | apply zE); intro X hX | apply zh | apply zl | apply ze); try simp only [zU, reduceIte, Nat.reduceEqDiff, Nat.reduceAdd, reduceCtorEq, Q64])
  refine Runs.box (fun w1 he1 hs1 hb1 => ?_)
  rw [agg_cells] at hb1
  repeat ((try subst X); (first | (first | apply zL | apply zH | apply zE); intro X hX | apply zh | apply zl | apply ze); try simp only [zU, reduceIte, Nat.reduceEqDiff, Nat.reduceAdd, reduceCtorEq, Q64])
  refine hM _ _ _ ?_; clear hM M
  refine ok_seq (fun M hM => ok_region rfl ?_)
  repeat ((try subst X); (first | (first | apply zL | apply zH | apply zE); intro X hX | apply zh | apply zl | apply ze); try simp only [zU, reduceIte, Nat.reduceEqDiff, Nat.reduceAdd, reduceCtorEq, Q64])
  refine ⟨cs, hcl, hb1.all, ?_⟩
  repeat ((try subst X); (first | (first | apply zL | apply zH | apply zE); intro X hX | apply zh | apply zl | apply ze); try simp only [zU, reduceIte, Nat.reduceEqDiff, Nat.reduceAdd, reduceCtorEq, Q64])
  refine ⟨_, (hB.ext he1).cell rfl, ?_⟩
  repeat ((try subst X); (first | (first | apply zL | apply zH | apply zE); intro X hX | apply zh | apply zl | apply ze); try simp only [zU, reduceIte, Nat.reduceEqDiff, Nat.reduceAdd, reduceCtorEq, Q64])
  refine Inv.call Fx.en26 (h w1 he1) ?_
  rintro _ w2 ⟨b, rfl, hR⟩
  repeat ((try subst X); (first | (first | apply zL | apply zH | apply zE); intro X hX | apply zh | apply zl | apply ze); try simp only [zU, reduceIte, Nat.reduceEqDiff, Nat.reduceAdd, reduceCtorEq, Q64])
  refine hM _ _ _ ?_; clear hM M
  refine ok_ret ?_
  try simp only [zW, zU, reduceIte, Nat.reduceEqDiff, Nat.reduceAdd, reduceCtorEq, Q64]
  exact hR
-- -- function 26
set_option maxHeartbeats 8000000 in
set_option maxRecDepth 8000 in
theorem goalsL_ok (g : G) : ∀ (w : World) (S : Nat → Prop) (cs : List Value) (C : Nat) (n : Int), Rd w S cs (encG g) → Blk w C [.int .i64 n] 3 → ¬ S C → 0 ≤ n → n ≤ 60 →
    Rets Tryz.prog 26 [.agg cs.toArray, .pointer (some ⟨C, 0, none⟩)] w (fun r w' => Chg (fun k => k = C) w w' ∧ ∃ b, r = .bool b ∧ (b = true → okG g ∧ ∃ m : Int, m = n - szG g ∧ 0 ≤ m ∧ Blk w' C [.int .i64 m] 3)) := by
  induction g using G.ind with
  | h g ih =>
  intro w S cs C n h hC hSC hn0 hn60
  replace h := h.mono (S' := fun k => k ≠ C ∧ k < w.heap.size) (fun k h1 h2 => ⟨fun e => hSC (e ▸ h1), h2⟩)
  obtain ⟨Aa, ca, Ak, ck, Ac, cc, rfl, ha, hk, hc⟩ := rdG h
  have hCl := hC.lt
  refine rets_of_ok Tryz.func26 rfl rfl ?_
  refine ok_seq (fun M hM => ok_region rfl ?_)
  repeat ((try subst X); (first | (first | apply zL | apply zH | apply zE); intro X hX | apply zh | apply zl | apply ze); try simp only [zU, reduceIte, Nat.reduceEqDiff, Nat.reduceAdd, reduceCtorEq, Q26])
  refine Runs.box (fun w1 he1 hs1 hb1 => ?_)
  rw [agg_cells] at hb1
  repeat ((try subst X); (first | (first | apply zL | apply zH | apply zE); intro X hX | apply zh | apply zl | apply ze); try simp only [zU, reduceIte, Nat.reduceEqDiff, Nat.reduceAdd, reduceCtorEq, Q26])
  refine Runs.box (fun w2 he2 hs2 hb2 => ?_)
  simp only [Value.cells] at hb2
  generalize hB1 : w.heap.size = B1 at *
  generalize hB2 : w1.heap.size = B2 at *
  repeat ((try subst X); (first | (first | apply zL | apply zH | apply zE); intro X hX | apply zh | apply zl | apply ze); try simp only [zU, reduceIte, Nat.reduceEqDiff, Nat.reduceAdd, reduceCtorEq, Q26])
  refine hM _ _ _ ?_; clear hM M
  have he02 := he1.trans he2
  replace hb1 := hb1.ext he2
  replace hC := hC.ext he02
  refine ok_seq (fun M hM => ok_region rfl ?_)
  repeat ((try subst X); (first | (first | apply zL | apply zH | apply zE); intro X hX | apply zh | apply zl | apply ze); try simp only [zU, reduceIte, Nat.reduceEqDiff, Nat.reduceAdd, reduceCtorEq, Q26])
  refine ⟨_, Blk.cell (by assumption) rfl, ?_⟩
  repeat ((try subst X); (first | (first | apply zL | apply zH | apply zE); intro X hX | apply zh | apply zl | apply ze); try simp only [zU, reduceIte, Nat.reduceEqDiff, Nat.reduceAdd, reduceCtorEq, Q26])
  refine ⟨_, hC.cell rfl, ?_⟩
  repeat ((try subst X); (first | (first | apply zL | apply zH | apply zE); intro X hX | apply zh | apply zl | apply ze); try simp only [zU, reduceIte, Nat.reduceEqDiff, Nat.reduceAdd, reduceCtorEq, Q26])
  refine ⟨by simp only [inI]; omega, ?_⟩
  repeat ((try subst X); (first | (first | apply zL | apply zH | apply zE); intro X hX | apply zh | apply zl | apply ze); try simp only [zU, reduceIte, Nat.reduceEqDiff, Nat.reduceAdd, reduceCtorEq, Q26])
  refine Runs.store hC Fx.zi3 rfl (by intro u hu; simp [Value.cells] at hu; subst hu; rfl) (by simp) (fun w3 hc3 hs3 hb3 => ?_)
  simp only [splice, Value.cells, List.take_zero, List.nil_append, List.length_singleton, Nat.zero_add, List.drop_succ_cons, List.drop_zero, List.append_nil, List.drop_nil] at hb3
  repeat ((try subst X); (first | (first | apply zL | apply zH | apply zE); intro X hX | apply zh | apply zl | apply ze); try simp only [zU, reduceIte, Nat.reduceEqDiff, Nat.reduceAdd, reduceCtorEq, Q26])
  refine hM _ _ _ ?_; clear hM M
  replace hb1 := hb1.chg hc3 (by omega)
  replace hb2 := hb2.chg hc3 (by omega)
  have hc03 : Chg (fun k => k = C) w w3 := (he02.chg _).trans hc3
  have hc3' := hc.chg hc03 (fun k hk _ => hk.1)
  have hk3 := hk.chg hc03 (fun k hk _ => hk.1)
  refine ok_seq (fun M hM => ok_region rfl ?_)
  repeat ((try subst X); (first | (first | apply zL | apply zH | apply zE); intro X hX | apply zh | apply zl | apply ze); try simp only [zU, reduceIte, Nat.reduceEqDiff, Nat.reduceAdd, reduceCtorEq, Q26])
  refine ⟨_, Blk.cell (by assumption) rfl, ?_⟩
  repeat ((try subst X); (first | (first | apply zL | apply zH | apply zE); intro X hX | apply zh | apply zl | apply ze); try simp only [zU, reduceIte, Nat.reduceEqDiff, Nat.reduceAdd, reduceCtorEq, Q26])
  refine ⟨_, hb3.cell rfl, ?_⟩
  repeat ((try subst X); (first | (first | apply zL | apply zH | apply zE); intro X hX | apply zh | apply zl | apply ze); try simp only [zU, reduceIte, Nat.reduceEqDiff, Nat.reduceAdd, reduceCtorEq, Q26])
  have fin_false : ∀ W, Chg (fun k => k = C) w W → Chg (fun k => k = C) w W ∧ ∃ b, Value.bool false = .bool b ∧ (b = true → okG g ∧ ∃ m : Int, m = n - szG g ∧ 0 ≤ m ∧ Blk W C [.int .i64 m] 3) := fun W h => ⟨h, false, rfl, fun h => by cases h⟩
  by_cases h1 : 0 ≤ n - 1
  · simp only [h1, decide_true]
    repeat ((try subst X); (first | (first | apply zL | apply zH | apply zE); intro X hX | apply zh | apply zl | apply ze); try simp only [zU, reduceIte, Nat.reduceEqDiff, Nat.reduceAdd, reduceCtorEq, Q26])
    refine ⟨fun _ => ?_, fun h => by cases h⟩
    repeat ((try subst X); (first | (first | apply zL | apply zH | apply zE); intro X hX | apply zh | apply zl | apply ze); try simp only [zU, reduceIte, Nat.reduceEqDiff, Nat.reduceAdd, reduceCtorEq, Q26])
    refine ⟨_, Blk.cell (by assumption) rfl, ?_⟩
    repeat ((try subst X); (first | (first | apply zL | apply zH | apply zE); intro X hX | apply zh | apply zl | apply ze); try simp only [zU, reduceIte, Nat.reduceEqDiff, Nat.reduceAdd, reduceCtorEq, Q26])
    by_cases h2 : (g.args.length : Int) ≤ 40
    · simp only [h2, decide_true]
      repeat ((try subst X); (first | (first | apply zL | apply zH | apply zE); intro X hX | apply zh | apply zl | apply ze); try simp only [zU, reduceIte, Nat.reduceEqDiff, Nat.reduceAdd, reduceCtorEq, Q26])
      refine ⟨fun _ => ?_, fun h => by cases h⟩
      repeat ((try subst X); (first | (first | apply zL | apply zH | apply zE); intro X hX | apply zh | apply zl | apply ze); try simp only [zU, reduceIte, Nat.reduceEqDiff, Nat.reduceAdd, reduceCtorEq, Q26])
      refine ⟨_, Blk.cell (by assumption) rfl, ?_⟩
      repeat ((try subst X); (first | (first | apply zL | apply zH | apply zE); intro X hX | apply zh | apply zl | apply ze); try simp only [zU, reduceIte, Nat.reduceEqDiff, Nat.reduceAdd, reduceCtorEq, Q26])
      by_cases h3 : (g.text.size : Int) ≤ 100
      · simp only [h3, decide_true]
        repeat ((try subst X); (first | (first | apply zL | apply zH | apply zE); intro X hX | apply zh | apply zl | apply ze); try simp only [zU, reduceIte, Nat.reduceEqDiff, Nat.reduceAdd, reduceCtorEq, Q26])
        refine ⟨fun _ => ?_, fun h => by cases h⟩
        repeat ((try subst X); (first | (first | apply zL | apply zH | apply zE); intro X hX | apply zh | apply zl | apply ze); try simp only [zU, reduceIte, Nat.reduceEqDiff, Nat.reduceAdd, reduceCtorEq, Q26])
        refine ⟨_, Blk.cell (by assumption) rfl, ?_⟩
        repeat ((try subst X); (first | (first | apply zL | apply zH | apply zE); intro X hX | apply zh | apply zl | apply ze); try simp only [zU, reduceIte, Nat.reduceEqDiff, Nat.reduceAdd, reduceCtorEq, Q26])
        by_cases h4 : (g.cases.length : Int) ≤ 40
        · simp only [h4, decide_true]
          repeat ((try subst X); (first | (first | apply zL | apply zH | apply zE); intro X hX | apply zh | apply zl | apply ze); try simp only [zU, reduceIte, Nat.reduceEqDiff, Nat.reduceAdd, reduceCtorEq, Q26])
          refine ⟨fun _ => ?_, fun h => by cases h⟩
          repeat ((try subst X); (first | (first | apply zL | apply zH | apply zE); intro X hX | apply zh | apply zl | apply ze); try simp only [zU, reduceIte, Nat.reduceEqDiff, Nat.reduceAdd, reduceCtorEq, Q26])
          refine ⟨_, Blk.cell (by assumption) rfl, ?_⟩
          repeat ((try subst X); (first | (first | apply zL | apply zH | apply zE); intro X hX | apply zh | apply zl | apply ze); try simp only [zU, reduceIte, Nat.reduceEqDiff, Nat.reduceAdd, reduceCtorEq, Q26])
          refine Inv.call Fx.en61 (contains61 w3 _ _ _ (g.cases.map fun r => [D.sl 24 (r.map encC)]) (fun i W => w3 = W ∧ ∀ j l, j < i → g.cases[j]? = some l → l.length ≤ 40) (fun W => w3 = W) (by intro r hr; obtain ⟨x, -, rfl⟩ := List.mem_map.1 hr; rfl) ⟨rfl, fun j l h => by omega⟩ (fun i W hJ => by rw [← hJ.1]; exact hc3') ?_) ?_
          · rintro i _ r row hrow ⟨rfl, hJ⟩ hr hrl
            simp only [List.getElem?_map, Option.map_eq_some_iff] at hrow
            obtain ⟨l, hl, rfl⟩ := hrow
            obtain ⟨x, rfl⟩ := List.length_eq_one_iff.1 hrl
            refine Inv.call (pan := fun _ _ => False) Fx.en62 (long_ok w3 _ x l hr) ?_
            rintro _ _ ⟨rfl, rfl⟩
            refine ⟨_, rfl, fun hf => ⟨rfl, fun j l' hj hl' => ?_⟩, fun _ => rfl⟩
            rcases Nat.lt_or_ge j i with h5 | h5
            · exact hJ j l' h5 hl'
            · have : j = i := by omega
              subst this
              rw [hl] at hl'; cases hl'
              simp at hf; omega
          rintro _ _ (⟨rfl, rfl⟩ | ⟨rfl, rfl, hJ⟩)
          · repeat ((try subst X); (first | (first | apply zL | apply zH | apply zE); intro X hX | apply zh | apply zl | apply ze); try simp only [zU, reduceIte, Nat.reduceEqDiff, Nat.reduceAdd, reduceCtorEq, Q26])
            refine hM _ _ _ ?_; clear hM M
            refine ok_ret ?_
            try simp only [zW, zU, reduceIte, Nat.reduceEqDiff, Nat.reduceAdd, reduceCtorEq, Q26]
            exact fin_false _ hc03
          · repeat ((try subst X); (first | (first | apply zL | apply zH | apply zE); intro X hX | apply zh | apply zl | apply ze); try simp only [zU, reduceIte, Nat.reduceEqDiff, Nat.reduceAdd, reduceCtorEq, Q26])
            rw [List.length_map] at hJ
            have hnode : nodeOk g := ⟨by omega, by omega, by omega, fun l hl => by
              obtain ⟨j, hj⟩ := List.mem_iff_getElem?.1 hl
              exact hJ j l (List.getElem?_eq_some_iff.1 hj).1 hj⟩
            refine ⟨_, Blk.cell (by assumption) rfl, ?_⟩
            repeat ((try subst X); (first | (first | apply zL | apply zH | apply zE); intro X hX | apply zh | apply zl | apply ze); try simp only [zU, reduceIte, Nat.reduceEqDiff, Nat.reduceAdd, reduceCtorEq, Q26])
            refine Inv.call Fx.en63 (contains63 w3 (fun k => k ≠ C ∧ k < B1) _ _ (g.kids.map encG) (fun i W => Chg (fun k => k = C) w3 W ∧ okGs (g.kids.take i) ∧ Blk W C [.int .i64 (n - 1 - szGs (g.kids.take i))] 3 ∧ 0 ≤ n - 1 - szGs (g.kids.take i)) (fun W => Chg (fun k => k = C) w3 W) (mapG_wid _) ⟨Chg.refl _ _, by simp [okGs], by simpa [szGs] using hb3, by simpa [szGs] using h1⟩ (fun i W hJ => hk3.chg hJ.1 (fun k hk _ => hk.1)) ?_) ?_
            · rintro i W r row hrow ⟨hcW, hok, hCW, hpos⟩ hr hrl
              simp only [List.getElem?_map, Option.map_eq_some_iff] at hrow
              obtain ⟨k, hk, rfl⟩ := hrow
              obtain ⟨hil, hke⟩ := List.getElem?_eq_some_iff.1 hk
              refine Inv.clos (pan := fun _ _ => False) Fx.en64 (goalsC_ok W r B2 C _ hrl (hb2.chg hcW (by omega)) (fun W1 he1 => Rets.mono (ih k (List.mem_of_getElem? hk) W1 (fun k => k ≠ C ∧ k < B1) r C _ (hr.ext he1) (hCW.ext he1) (fun h => h.1 rfl) hpos (by omega)) ?_)) (fun v W' h => h)
              rintro _ W2 ⟨hc2, b, rfl, hb⟩
              refine ⟨b, rfl, !b, rfl, fun hf => ?_, fun _ => hcW.trans ((he1.chg _).trans hc2)⟩
              have hbt : b = true := by cases b <;> simp at hf ⊢
              obtain ⟨hokk, m, hm, hm0, hCm⟩ := hb hbt
              have hts : szGs (g.kids.take (i + 1)) = szGs (g.kids.take i) + szG k := by
                rw [List.take_succ_eq_append_getElem hil, hke]
                have : ∀ (l : List G) (x : G), szGs (l ++ [x]) = szGs l + szG x := by
                  intro l x
                  induction l with
                  | nil => simp [szGs]
                  | cons y ys ih => simp only [List.cons_append, szGs, ih]; omega
                exact this _ _
              have hto : okGs (g.kids.take (i + 1)) := by
                rw [List.take_succ_eq_append_getElem hil, hke]
                have : ∀ (l : List G) (x : G), okGs l → okG x → okGs (l ++ [x]) := by
                  intro l x
                  induction l with
                  | nil => intro _ h; exact ⟨h, trivial⟩
                  | cons y ys ih => intro h1 h2; exact ⟨h1.1, ih h1.2 h2⟩
                exact this _ _ hok hokk
              have hme : n - 1 - szGs (g.kids.take (i + 1)) = m := by rw [hts]; omega
              exact ⟨hcW.trans ((he1.chg _).trans hc2), hto, by rw [hme]; exact hCm, by rw [hme]; exact hm0⟩
            rintro _ W (⟨rfl, hcW⟩ | ⟨rfl, hcW, hok, hCW, hpos⟩)
            · repeat ((try subst X); (first | (first | apply zL | apply zH | apply zE); intro X hX | apply zh | apply zl | apply ze); try simp only [zU, reduceIte, Nat.reduceEqDiff, Nat.reduceAdd, reduceCtorEq, Q26])
              refine hM _ _ _ ?_; clear hM M
              refine ok_ret ?_
              try simp only [zW, zU, reduceIte, Nat.reduceEqDiff, Nat.reduceAdd, reduceCtorEq, Q26]
              exact fin_false _ (hc03.trans hcW)
            · rw [List.length_map, List.take_length] at hok hCW hpos
              repeat ((try subst X); (first | (first | apply zL | apply zH | apply zE); intro X hX | apply zh | apply zl | apply ze); try simp only [zU, reduceIte, Nat.reduceEqDiff, Nat.reduceAdd, reduceCtorEq, Q26])
              refine hM _ _ _ ?_; clear hM M
              refine ok_ret ?_
              try simp only [zW, zU, reduceIte, Nat.reduceEqDiff, Nat.reduceAdd, reduceCtorEq, Q26]
              refine ⟨hc03.trans hcW, true, rfl, fun _ => ⟨(okG_eq g).2 ⟨hnode, hok⟩, _, rfl, ?_, ?_⟩⟩
              · rw [szG_eq]; push_cast; omega
              · have : n - (szG g : Int) = n - 1 - szGs g.kids := by rw [szG_eq]; push_cast; omega
                rw [this]; exact hCW
        · simp only [h4, decide_false]
          repeat ((try subst X); (first | (first | apply zL | apply zH | apply zE); intro X hX | apply zh | apply zl | apply ze); try simp only [zU, reduceIte, Nat.reduceEqDiff, Nat.reduceAdd, reduceCtorEq, Q26])
          refine ⟨fun h => (by cases h), fun _ => ?_⟩
          repeat ((try subst X); (first | (first | apply zL | apply zH | apply zE); intro X hX | apply zh | apply zl | apply ze); try simp only [zU, reduceIte, Nat.reduceEqDiff, Nat.reduceAdd, reduceCtorEq, Q26])
          refine hM _ _ _ ?_; clear hM M
          refine ok_ret ?_
          try simp only [zW, zU, reduceIte, Nat.reduceEqDiff, Nat.reduceAdd, reduceCtorEq, Q26]
          exact fin_false _ hc03
      · simp only [h3, decide_false]
        repeat ((try subst X); (first | (first | apply zL | apply zH | apply zE); intro X hX | apply zh | apply zl | apply ze); try simp only [zU, reduceIte, Nat.reduceEqDiff, Nat.reduceAdd, reduceCtorEq, Q26])
        refine ⟨fun h => (by cases h), fun _ => ?_⟩
        repeat ((try subst X); (first | (first | apply zL | apply zH | apply zE); intro X hX | apply zh | apply zl | apply ze); try simp only [zU, reduceIte, Nat.reduceEqDiff, Nat.reduceAdd, reduceCtorEq, Q26])
        refine hM _ _ _ ?_; clear hM M
        refine ok_ret ?_
        try simp only [zW, zU, reduceIte, Nat.reduceEqDiff, Nat.reduceAdd, reduceCtorEq, Q26]
        exact fin_false _ hc03
    · simp only [h2, decide_false]
      repeat ((try subst X); (first | (first | apply zL | apply zH | apply zE); intro X hX | apply zh | apply zl | apply ze); try simp only [zU, reduceIte, Nat.reduceEqDiff, Nat.reduceAdd, reduceCtorEq, Q26])
      refine ⟨fun h => (by cases h), fun _ => ?_⟩
      repeat ((try subst X); (first | (first | apply zL | apply zH | apply zE); intro X hX | apply zh | apply zl | apply ze); try simp only [zU, reduceIte, Nat.reduceEqDiff, Nat.reduceAdd, reduceCtorEq, Q26])
      refine hM _ _ _ ?_; clear hM M
      refine ok_ret ?_
      try simp only [zW, zU, reduceIte, Nat.reduceEqDiff, Nat.reduceAdd, reduceCtorEq, Q26]
      exact fin_false _ hc03
  · simp only [h1, decide_false]
    repeat ((try subst X); (first | (first | apply zL | apply zH | apply zE); intro X hX | apply zh | apply zl | apply ze); try simp only [zU, reduceIte, Nat.reduceEqDiff, Nat.reduceAdd, reduceCtorEq, Q26])
    refine ⟨fun h => (by cases h), fun _ => ?_⟩
    repeat ((try subst X); (first | (first | apply zL | apply zH | apply zE); intro X hX | apply zh | apply zl | apply ze); try simp only [zU, reduceIte, Nat.reduceEqDiff, Nat.reduceAdd, reduceCtorEq, Q26])
    refine hM _ _ _ ?_; clear hM M
    refine ok_ret ?_
    try simp only [zW, zU, reduceIte, Nat.reduceEqDiff, Nat.reduceAdd, reduceCtorEq, Q26]
    exact fin_false _ hc03
end Go.Proofs.YtcpjojaklpgnkaaGreat
/- Chapter 31: cloneType.  -/
set_option linter.unusedVariables false
set_option linter.unusedSimpArgs false
namespace Go.Proofs.YtcpjojaklpgnkaaGreat
open Go Go.Proofs.Vg Go.RowKit
theorem mapT_wid (l : List Ty) : ∀ r ∈ l.map encT, r.length = 3 := by
  intro r hr; obtain ⟨x, -, rfl⟩ := List.mem_map.1 hr; exact encT_len x
theorem rdT {w : World} {S : Nat → Prop} {cs : List Value} {t : Ty} (h : Rd w S cs (encT t)) : ∃ A c, cs = [.int .i64 t.kind, .string t.name, .slice A t.args.length c] ∧ Rd w S [.slice A t.args.length c] [.sl 48 (t.args.map encT)] := by
  rw [encT_eq] at h
  match cs, h.len with
  | [a, b, v], _ =>
    obtain ⟨e1, h1⟩ := h.atc
    obtain ⟨e2, h2⟩ := h1.atc
    subst e1 e2
    obtain ⟨A, c, rfl, -⟩ := h2.hd
    simp only [List.length_map] at h2
    exact ⟨A, c, by simp, h2⟩
theorem rdT_mk {w : World} {S : Nat → Prop} {v : Value} {t : Ty} (h : Rd w S [v] [.sl 48 (t.args.map encT)]) : Rd w S [.int .i64 t.kind, .string t.name, v] (encT t) := by
  rw [encT_eq]
  exact .at rfl rfl (.at rfl rfl h)
-- -- function 115
set_option maxHeartbeats 4000000 in
set_option maxRecDepth 8000 in
theorem cloneType_ok (t : Ty) : ∀ (w : World) (S : Nat → Prop) (cs : List Value), Rd w S cs (encT t) →
    Rets Tryz.prog 115 [.agg cs.toArray] w (fun v w' => Ext w w' ∧ ∃ cs', v = .agg cs'.toArray ∧ Rd w' (fun k => w.heap.size ≤ k) cs' (encT t)) := by
  induction t using Ty.ind with
  | h t ih =>
  intro w S cs h
  replace h := h.old
  obtain ⟨A, c, rfl, hA⟩ := rdT h
  obtain ⟨_, _, -, hln, hby, hcap⟩ := hA.hd
  simp only [List.length_map] at hln hby hcap
  refine rets_of_okC Tryz.func115 rfl rfl ?_
  refine ok_seq (fun M hM => ok_region rfl ?_)
  repeat ((try subst X); (first | (first | apply zL | apply zH | apply zE); intro X hX | apply zh | apply zl | apply ze); try simp only [zU, reduceIte, Nat.reduceEqDiff, Nat.reduceAdd, reduceCtorEq, Q115])
  refine Runs.box (fun w1 he1 hs1 hb1 => ?_)
  generalize hB1 : w.heap.size = B1 at *
  simp only [agg_cells] at hb1
  repeat ((try subst X); (first | (first | apply zL | apply zH | apply zE); intro X hX | apply zh | apply zl | apply ze); try simp only [zU, reduceIte, Nat.reduceEqDiff, Nat.reduceAdd, reduceCtorEq, Q115])
  refine Runs.alloc Fx.zi93 (fun w2 he2 hs2 hb2 => ?_)
  generalize hB2 : w1.heap.size = B2 at *
  repeat ((try subst X); (first | (first | apply zL | apply zH | apply zE); intro X hX | apply zh | apply zl | apply ze); try simp only [zU, reduceIte, Nat.reduceEqDiff, Nat.reduceAdd, reduceCtorEq, Q115])
  refine hM _ _ _ ?_; clear hM M
  replace hb1 := hb1.ext he2
  refine ok_seq (fun M hM => ok_region rfl ?_)
  repeat ((try subst X); (first | (first | apply zL | apply zH | apply zE); intro X hX | apply zh | apply zl | apply ze); try simp only [zU, reduceIte, Nat.reduceEqDiff, Nat.reduceAdd, reduceCtorEq, Q115])
  refine ⟨_, Blk.cell (by assumption) rfl, ?_⟩
  repeat ((try subst X); (first | (first | apply zL | apply zH | apply zE); intro X hX | apply zh | apply zl | apply ze); try simp only [zU, reduceIte, Nat.reduceEqDiff, Nat.reduceAdd, reduceCtorEq, Q115])
  refine hM _ _ _ ?_; clear hM M
  refine ok_seq (fun M hM => ok_region rfl ?_)
  repeat ((try subst X); (first | (first | apply zL | apply zH | apply zE); intro X hX | apply zh | apply zl | apply ze); try simp only [zU, reduceIte, Nat.reduceEqDiff, Nat.reduceAdd, reduceCtorEq, Q115])
  refine Runs.store hb1 Fx.zi91 rfl (by intro u hu; simp [Value.cells] at hu; subst hu; rfl) (by simp) (fun w3 hc3 hs3 hb3 => ?_)
  simp only [splice, Value.cells, List.length_singleton, Nat.reduceAdd, List.take_succ_cons, List.take_zero, List.drop_succ_cons, List.drop_zero, List.cons_append, List.nil_append, List.drop_nil] at hb3
  repeat ((try subst X); (first | (first | apply zL | apply zH | apply zE); intro X hX | apply zh | apply zl | apply ze); try simp only [zU, reduceIte, Nat.reduceEqDiff, Nat.reduceAdd, reduceCtorEq, Q115])
  refine hM _ _ _ ?_; clear hM M
  replace hb2 := hb2.chg hc3 (by omega)
  have he3 : Ext w w3 := (he1.trans he2).chg_trans hc3 (by intro i hi; omega)
  clear hb1
  have hA3 := hA.ext he3
  refine ok_join [(1, .pointer (some ⟨B1, 0, none⟩)), (2, .pointer (some ⟨B2, 0, none⟩))] (fun W => Ext w W ∧ ∃ v, Blk W B1 [.int .i64 t.kind, .string t.name, v] 93 ∧ Blk W B2 [.int .i64 0, .string ByteArray.empty, .slice none 0 0] 93 ∧ Own W (fun k => B1 + 2 ≤ k) (B1 + 2) 93 3 v (t.args.map encT)) ?_ ?_
  · refine ok_seq (fun M hM => ok_region rfl ?_)
    repeat ((try subst X); (first | (first | apply zL | apply zH | apply zE); intro X hX | apply zh | apply zl | apply ze); try simp only [zU, reduceIte, Nat.reduceEqDiff, Nat.reduceAdd, reduceCtorEq, Q115])
    refine hM _ _ _ ?_; clear hM M
    refine ok_block (ok_loop (fun i : Nat => [(1, .pointer (some ⟨B1, 0, none⟩)), (2, .pointer (some ⟨B2, 0, none⟩)), (9, .slice A t.args.length c), (10, .int .i64 (t.args.length : Int)), (11, .int .i64 (i : Int))])
      (fun i W => i ≤ t.args.length ∧ Ext w W ∧ B2 < W.heap.size ∧ ∃ v, Blk W B1 [.int .i64 t.kind, .string t.name, v] 93 ∧ Blk W B2 [.int .i64 0, .string ByteArray.empty, .slice none 0 0] 93 ∧ Own W (fun k => B1 + 2 ≤ k) (B1 + 2) 93 3 v ((t.args.take i).map encT)) (fun i => t.args.length - i) 0 (by simp [sub, Env.get]) ⟨Nat.zero_le _, he3, by omega, _, hb3, hb2, by simpa using Own.nil (by decide)⟩ ?_)
    rintro i W ⟨hi, he, hB2, v, hb1, hb2, hown⟩
    have hAW := hA.ext he
    refine ok_seq (fun M hM => ok_region rfl ?_); repeat ((try subst X); (first | (first | apply zL | apply zH | apply zE); intro X hX | apply zh | apply zl | apply ze); try simp only [zU, reduceIte, Nat.reduceEqDiff, Nat.reduceAdd, reduceCtorEq, Q115])
    refine hM _ _ _ ?_; clear hM M
    rcases Nat.lt_or_ge i t.args.length with hlt | hge
    · refine ok_seq (fun M hM => ok_cond (b := true) (by simp [ev, Env.get]; omega) (fun _ => ok_skip ?_) (fun h => by cases h))
      refine hM _ _ _ ?_; clear hM M
      have hrow : (t.args.map encT)[i]? = some (encT t.args[i]) := by simp [hlt]
      obtain ⟨k, o, r, rfl, hSk, hkl, hcell, hr⟩ := hAW.row hrow
      rw [encT_len] at hcell
      have hrl : r.length = 3 := by rw [hr.len, encT_len]
      refine ok_seq (fun M hM => ok_block ?_)
      refine ok_seq (fun M1 hM1 => ok_region rfl ?_)
      repeat ((try subst X); (first | (first | apply zL | apply zH | apply zE); intro X hX | apply zh | apply zl | apply ze); try simp only [zU, reduceIte, Nat.reduceEqDiff, Nat.reduceAdd, reduceCtorEq, Q115])
      refine ⟨by omega, by simp; omega, ?_⟩
      repeat ((try subst X); (first | (first | apply zL | apply zH | apply zE); intro X hX | apply zh | apply zl | apply ze); try simp only [zU, reduceIte, Nat.reduceEqDiff, Nat.reduceAdd, reduceCtorEq, Q115])
      refine ⟨r, hrl, by simpa [add_at] using hcell, ?_⟩
      repeat ((try subst X); (first | (first | apply zL | apply zH | apply zE); intro X hX | apply zh | apply zl | apply ze); try simp only [zU, reduceIte, Nat.reduceEqDiff, Nat.reduceAdd, reduceCtorEq, Q115])
      refine Runs.alloc Fx.zi93 (fun w4 he4 hs4 hb4 => ?_)
      generalize hB4 : W.heap.size = B4 at *
      repeat ((try subst X); (first | (first | apply zL | apply zH | apply zE); intro X hX | apply zh | apply zl | apply ze); try simp only [zU, reduceIte, Nat.reduceEqDiff, Nat.reduceAdd, reduceCtorEq, Q115])
      refine Runs.store hb4 Fx.zi93 (by simpa [Value.cells] using hrl) (fun u hu => (hr.one u (by simpa [Value.cells] using hu)).1) (by simp [Value.cells]) (fun w5 hc5 hs5 hb5 => ?_)
      rw [agg_cells, splice_all _ _ (by simpa [Value.cells] using hrl)] at hb5
      repeat ((try subst X); (first | (first | apply zL | apply zH | apply zE); intro X hX | apply zh | apply zl | apply ze); try simp only [zU, reduceIte, Nat.reduceEqDiff, Nat.reduceAdd, reduceCtorEq, Q115])
      refine hM1 _ _ _ ?_; clear hM1 M1
      have hc45 : Chg (fun x => x = B4) W w5 := (he4.chg _).trans hc5
      replace hb1 := hb1.chg hc45 (by omega)
      replace hb2 := hb2.chg hc45 (by omega)
      replace hown := hown.chg hc45 (fun k hk => by have := (hown.lt hk).2; omega) (fun k _ hl => by omega)
      have hr5 := hr.chg hc45 (fun k _ hl => by omega)
      have he5 : Ext w w5 := (he.trans he4).chg_trans hc5 (by intro i hi; have := he.size; omega)
      refine (ok_drawP [0, 1, 2, 3, 4, 5, 6, 7] 3 [(true, false), (true, false), (false, true), (false, true), (false, true)] (Ext _) Fx.mixed (by decide) rfl (by decide +kernel) (by decide +kernel) (Ext.drew _) ?_); simp only [pickL, List.getElem?_cons_zero, List.getElem?_cons_succ, List.take_succ_cons, List.take_zero, List.drop_succ_cons, List.drop_zero]
      repeat ((try subst X); (first | (first | apply zL | apply zH | apply zE); intro X hX | apply zh | apply zl | apply ze); try simp only [zU, reduceIte, Nat.reduceEqDiff, Nat.reduceAdd, reduceCtorEq, Q115])
      refine ⟨_, fun w' h => Blk.cell (Blk.ext (by assumption) h) rfl, ?_⟩
      repeat ((try subst X); (first | (first | apply zL | apply zH | apply zE); intro X hX | apply zh | apply zl | apply ze); try simp only [zU, reduceIte, Nat.reduceEqDiff, Nat.reduceAdd, reduceCtorEq, Q115])
      refine ⟨_, hrl, fun w' h => Blk.all (hb5.ext h), ?_⟩
      repeat ((try subst X); (first | (first | apply zL | apply zH | apply zE); intro X hX | apply zh | apply zl | apply ze); try simp only [zU, reduceIte, Nat.reduceEqDiff, Nat.reduceAdd, reduceCtorEq, Q115])
      intro w6 he6
      repeat ((try subst X); (first | (first | apply zL | apply zH | apply zE); intro X hX | apply zh | apply zl | apply ze); try simp only [zU, reduceIte, Nat.reduceEqDiff, Nat.reduceAdd, reduceCtorEq, Q115])
      refine Inv.call Fx.en115 (ih _ (List.getElem_mem hlt) w6 _ r (hr5.ext he6)) ?_
      rintro v7 w7 ⟨he7, cs7, rfl, hr7⟩
      repeat ((try subst X); (first | (first | apply zL | apply zH | apply zE); intro X hX | apply zh | apply zl | apply ze); try simp only [zU, reduceIte, Nat.reduceEqDiff, Nat.reduceAdd, reduceCtorEq, Q115])
      refine ⟨he6.trans he7, ?_⟩
      repeat ((try subst X); (first | (first | apply zL | apply zH | apply zE); intro X hX | apply zh | apply zl | apply ze); try simp only [zU, reduceIte, Nat.reduceEqDiff, Nat.reduceAdd, reduceCtorEq, Q115])
      refine Runs.lit1 Fx.un91 Fx.zi93 rfl rfl (by rw [hr7.len, encT_len]) (by decide) (by decide) (fun w8 he8 hs8 hb8 => ?_)
      repeat ((try subst X); (first | (first | apply zL | apply zH | apply zE); intro X hX | apply zh | apply zl | apply ze); try simp only [zU, reduceIte, Nat.reduceEqDiff, Nat.reduceAdd, reduceCtorEq, Q115])
      have he58 := (he6.trans he7).trans he8
      have hz6 := he6.size
      have hlen : ((t.args.take i).map encT).length = i := by simp; omega
      refine ⟨he58, ?_⟩
      repeat ((try subst X); (first | (first | apply zL | apply zH | apply zE); intro X hX | apply zh | apply zl | apply ze); try simp only [zU, reduceIte, Nat.reduceEqDiff, Nat.reduceAdd, reduceCtorEq, Q115])
      refine Runs.pushD Fx.un91 Fx.zi93 rfl (by decide) (hown.ext he58) hb8 ((hr7.ext he8).mono fun k hk _ => ⟨by omega, fun e => ?_⟩) (encT_len _) (by rw [hlen]; omega) (by have := he58.size; omega) (fun v9 w9 hown9 hc9 hblk9 => ?_)
      · have := (hown.lt e).2; omega
      obtain ⟨A9, c9, rfl, -⟩ := hown9.len
      repeat ((try subst X); (first | (first | apply zL | apply zH | apply zE); intro X hX | apply zh | apply zl | apply ze); try simp only [zU, reduceIte, Nat.reduceEqDiff, Nat.reduceAdd, reduceCtorEq, Q115])
      replace hb1 := (hb1.ext he58).chg hc9 (fun e => by have := (hown.lt e).1; omega)
      replace hb2 := (hb2.ext he58).chg hc9 (fun e => by have := (hown.lt e).1; omega)
      refine Runs.store hb1 Fx.zi91 rfl (by intro u hu; simp [Value.cells] at hu; subst hu; rfl) (by simp) (fun w10 hc10 hs10 hb10 => ?_)
      simp only [splice, Value.cells, List.length_singleton, Nat.reduceAdd, List.take_succ_cons, List.take_zero, List.drop_succ_cons, List.drop_zero, List.cons_append, List.nil_append, List.drop_nil] at hb10
      repeat ((try subst X); (first | (first | apply zL | apply zH | apply zE); intro X hX | apply zh | apply zl | apply ze); try simp only [zU, reduceIte, Nat.reduceEqDiff, Nat.reduceAdd, reduceCtorEq, Q115])
      refine hM _ _ _ ?_; clear hM M
      refine ok_region rfl ?_
      repeat ((try subst X); (first | (first | apply zL | apply zH | apply zE); intro X hX | apply zh | apply zl | apply ze); try simp only [zU, reduceIte, Nat.reduceEqDiff, Nat.reduceAdd, reduceCtorEq, Q115])
      refine ⟨by simp only [inI]; omega, ?_⟩
      repeat ((try subst X); (first | (first | apply zL | apply zH | apply zE); intro X hX | apply zh | apply zl | apply ze); try simp only [zU, reduceIte, Nat.reduceEqDiff, Nat.reduceAdd, reduceCtorEq, Q115])
      have hc510 : Chg (fun x => x = B1 ∨ B1 + 2 ≤ x) w5 w10 := (he58.chg _).trans ((hc9.mono fun k _ hk => .inr (hown.lt hk).1).trans (hc10.mono fun k _ hk => .inl hk))
      refine ⟨i + 1, by simp [sub, Env.get], ⟨hlt, he5.chg_trans hc510 (by intro k hk; omega), by have := hc510.size; omega, _, hb10, hb2.chg hc10 (by omega), ?_⟩, by omega⟩
      rw [List.take_succ_eq_append_getElem hlt, List.map_append]
      refine hown9.chg hc10 (fun k hk e => ?_) (fun k hk _ e => by have h1 : B1 + 2 ≤ k := hk; omega)
      have := (hown9.lt hk).1; omega
    · refine ok_seq (fun M hM => ok_cond (b := false) (by simp [ev, Env.get]; omega) (fun h => by cases h) (fun _ => ok_exit ?_))
      obtain rfl : i = t.args.length := by omega
      rw [List.take_length] at hown
      exact ⟨rfl, by simp [sub, Env.get], he, v, hb1, hb2, hown⟩
  · rintro W ⟨he, v, hb1, hb2, hown⟩
    obtain ⟨A9, c9, rfl, -⟩ := hown.len
    refine ok_seq (fun M hM => ok_region rfl ?_)
    repeat ((try subst X); (first | (first | apply zL | apply zH | apply zE); intro X hX | apply zh | apply zl | apply ze); try simp only [zU, reduceIte, Nat.reduceEqDiff, Nat.reduceAdd, reduceCtorEq, Q115])
    refine ⟨_, rfl, Blk.all (by assumption), ?_⟩
    repeat ((try subst X); (first | (first | apply zL | apply zH | apply zE); intro X hX | apply zh | apply zl | apply ze); try simp only [zU, reduceIte, Nat.reduceEqDiff, Nat.reduceAdd, reduceCtorEq, Q115])
    refine Runs.store hb2 Fx.zi93 rfl (by simp [Value.cells, Value.oneCell']) (by simp) (fun w5 hc5 hs5 hb5 => ?_)
    simp only [splice, Value.cells, List.length_cons, List.length_nil, Nat.reduceAdd, Nat.zero_add, List.take_zero, List.drop_succ_cons, List.drop_zero, List.append_nil, List.nil_append, List.drop_nil] at hb5
    repeat ((try subst X); (first | (first | apply zL | apply zH | apply zE); intro X hX | apply zh | apply zl | apply ze); try simp only [zU, reduceIte, Nat.reduceEqDiff, Nat.reduceAdd, reduceCtorEq, Q115])
    refine hM _ _ _ ?_; clear hM M
    refine ok_ret ?_
    try simp only [zW, zU, reduceIte, Nat.reduceEqDiff, Nat.reduceAdd, reduceCtorEq, Q115]
    have hl : (t.args.map encT).length = t.args.length := by simp
    refine ⟨_, rfl, hb5.all, he.chg_trans hc5 (by intro k hk; omega), _, rfl, rdT_mk ((hown.chg hc5 (fun k hk e => ?_) (fun k hk _ e => by have h1 : B1 + 2 ≤ k := hk; omega)).rd (by rw [hl]; omega) (by rw [hl]; omega) (fun k _ hk => ?_))⟩
    · have := (hown.lt hk).1; omega
    · rcases hk with ⟨hk, _⟩ | hk
      · have h1 : B1 + 2 ≤ k := hk
        show B1 ≤ k; omega
      · have := (hown.lt hk).1; show B1 ≤ k; omega
end Go.Proofs.YtcpjojaklpgnkaaGreat
/- Chapter 31: the law's small, proc.  -/
set_option linter.unusedVariables false
set_option linter.unusedSimpArgs false
namespace Go.Proofs.YtcpjojaklpgnkaaGreat
open Go Go.Proofs.Vg Go.RowKit
-- -- function 99
set_option maxHeartbeats 2000000 in
set_option maxRecDepth 8000 in
theorem smallC_ok (w : World) (cs : List Value) (B C : Nat) (R : Value → World → Prop) (hcl : cs.length = 3) (hB : Blk w B [.pointer (some ⟨C, 0, none⟩)] 77) (h : ∀ w1, Ext w w1 → Rets Tryz.prog 49 [.agg cs.toArray, .pointer (some ⟨C, 0, none⟩)] w1 (fun r w' => ∃ b, r = .bool b ∧ R (.bool !b) w')) :
    Rets Tryz.prog 99 ([.agg cs.toArray] ++ [.pointer (some ⟨B, 0, none⟩)]) w R := by
  refine rets_of_ok Tryz.func99 rfl rfl ?_
  refine ok_seq (fun M hM => ok_region rfl ?_)
  repeat ((try subst X); (first | (first | apply zL | apply zH | apply zE); intro X hX | apply zh | apply zl | apply ze); try simp only [zU, reduceIte, Nat.reduceEqDiff, Nat.reduceAdd, reduceCtorEq, Q99])
  refine Runs.box (fun w1 he1 hs1 hb1 => ?_)
  rw [agg_cells] at hb1
  repeat ((try subst X); (first | (first | apply zL | apply zH | apply zE); intro X hX | apply zh | apply zl | apply ze); try simp only [zU, reduceIte, Nat.reduceEqDiff, Nat.reduceAdd, reduceCtorEq, Q99])
  refine hM _ _ _ ?_; clear hM M
  refine ok_seq (fun M hM => ok_region rfl ?_)
  repeat ((try subst X); (first | (first | apply zL | apply zH | apply zE); intro X hX | apply zh | apply zl | apply ze); try simp only [zU, reduceIte, Nat.reduceEqDiff, Nat.reduceAdd, reduceCtorEq, Q99])
  refine ⟨cs, hcl, hb1.all, ?_⟩
  repeat ((try subst X); (first | (first | apply zL | apply zH | apply zE); intro X hX | apply zh | apply zl | apply ze); try simp only [zU, reduceIte, Nat.reduceEqDiff, Nat.reduceAdd, reduceCtorEq, Q99])
  refine ⟨_, (hB.ext he1).cell rfl, ?_⟩
  repeat ((try subst X); (first | (first | apply zL | apply zH | apply zE); intro X hX | apply zh | apply zl | apply ze); try simp only [zU, reduceIte, Nat.reduceEqDiff, Nat.reduceAdd, reduceCtorEq, Q99])
  refine Inv.call Fx.en49 (h w1 he1) ?_
  rintro _ w2 ⟨b, rfl, hR⟩
  repeat ((try subst X); (first | (first | apply zL | apply zH | apply zE); intro X hX | apply zh | apply zl | apply ze); try simp only [zU, reduceIte, Nat.reduceEqDiff, Nat.reduceAdd, reduceCtorEq, Q99])
  refine hM _ _ _ ?_; clear hM M
  refine ok_ret ?_
  try simp only [zW, zU, reduceIte, Nat.reduceEqDiff, Nat.reduceAdd, reduceCtorEq, Q99]
  exact hR
-- -- function 49
set_option maxHeartbeats 8000000 in
set_option maxRecDepth 8000 in
theorem smallL_ok (g : Ty) : ∀ (w : World) (S : Nat → Prop) (cs : List Value) (C : Nat) (n : Int), Rd w S cs (encT g) → Blk w C [.int .i64 n] 3 → ¬ S C → 0 ≤ n → n ≤ 60 →
    Rets Tryz.prog 49 [.agg cs.toArray, .pointer (some ⟨C, 0, none⟩)] w (fun r w' => Chg (fun k => k = C) w w' ∧ ∃ b, r = .bool b ∧ (b = true → ∃ m : Int, 0 ≤ m ∧ m ≤ n ∧ Blk w' C [.int .i64 m] 3)) := by
  induction g using Ty.ind with
  | h g ih =>
  intro w S cs C n h hC hSC hn0 hn60
  replace h := h.mono (S' := fun k => k ≠ C ∧ k < w.heap.size) (fun k h1 h2 => ⟨fun e => hSC (e ▸ h1), h2⟩)
  obtain ⟨Ak, ck, rfl, hk⟩ := rdT h
  have hCl := hC.lt
  refine rets_of_ok Tryz.func49 rfl rfl ?_
  refine ok_seq (fun M hM => ok_region rfl ?_)
  repeat ((try subst X); (first | (first | apply zL | apply zH | apply zE); intro X hX | apply zh | apply zl | apply ze); try simp only [zU, reduceIte, Nat.reduceEqDiff, Nat.reduceAdd, reduceCtorEq, Q49])
  refine Runs.box (fun w1 he1 hs1 hb1 => ?_)
  rw [agg_cells] at hb1
  repeat ((try subst X); (first | (first | apply zL | apply zH | apply zE); intro X hX | apply zh | apply zl | apply ze); try simp only [zU, reduceIte, Nat.reduceEqDiff, Nat.reduceAdd, reduceCtorEq, Q49])
  refine Runs.box (fun w2 he2 hs2 hb2 => ?_)
  simp only [Value.cells] at hb2
  generalize hB1 : w.heap.size = B1 at *
  generalize hB2 : w1.heap.size = B2 at *
  repeat ((try subst X); (first | (first | apply zL | apply zH | apply zE); intro X hX | apply zh | apply zl | apply ze); try simp only [zU, reduceIte, Nat.reduceEqDiff, Nat.reduceAdd, reduceCtorEq, Q49])
  refine hM _ _ _ ?_; clear hM M
  have he02 := he1.trans he2
  replace hb1 := hb1.ext he2
  replace hC := hC.ext he02
  refine ok_seq (fun M hM => ok_region rfl ?_)
  repeat ((try subst X); (first | (first | apply zL | apply zH | apply zE); intro X hX | apply zh | apply zl | apply ze); try simp only [zU, reduceIte, Nat.reduceEqDiff, Nat.reduceAdd, reduceCtorEq, Q49])
  refine ⟨_, Blk.cell (by assumption) rfl, ?_⟩
  repeat ((try subst X); (first | (first | apply zL | apply zH | apply zE); intro X hX | apply zh | apply zl | apply ze); try simp only [zU, reduceIte, Nat.reduceEqDiff, Nat.reduceAdd, reduceCtorEq, Q49])
  refine ⟨_, hC.cell rfl, ?_⟩
  repeat ((try subst X); (first | (first | apply zL | apply zH | apply zE); intro X hX | apply zh | apply zl | apply ze); try simp only [zU, reduceIte, Nat.reduceEqDiff, Nat.reduceAdd, reduceCtorEq, Q49])
  refine ⟨by simp only [inI]; omega, ?_⟩
  repeat ((try subst X); (first | (first | apply zL | apply zH | apply zE); intro X hX | apply zh | apply zl | apply ze); try simp only [zU, reduceIte, Nat.reduceEqDiff, Nat.reduceAdd, reduceCtorEq, Q49])
  refine Runs.store hC Fx.zi3 rfl (by intro u hu; simp [Value.cells] at hu; subst hu; rfl) (by simp) (fun w3 hc3 hs3 hb3 => ?_)
  simp only [splice, Value.cells, List.take_zero, List.nil_append, List.length_singleton, Nat.zero_add, List.drop_succ_cons, List.drop_zero, List.append_nil, List.drop_nil] at hb3
  repeat ((try subst X); (first | (first | apply zL | apply zH | apply zE); intro X hX | apply zh | apply zl | apply ze); try simp only [zU, reduceIte, Nat.reduceEqDiff, Nat.reduceAdd, reduceCtorEq, Q49])
  refine hM _ _ _ ?_; clear hM M
  replace hb1 := hb1.chg hc3 (by omega)
  replace hb2 := hb2.chg hc3 (by omega)
  have hc03 : Chg (fun k => k = C) w w3 := (he02.chg _).trans hc3
  have hk3 := hk.chg hc03 (fun k hk _ => hk.1)
  refine ok_seq (fun M hM => ok_region rfl ?_)
  repeat ((try subst X); (first | (first | apply zL | apply zH | apply zE); intro X hX | apply zh | apply zl | apply ze); try simp only [zU, reduceIte, Nat.reduceEqDiff, Nat.reduceAdd, reduceCtorEq, Q49])
  refine ⟨_, Blk.cell (by assumption) rfl, ?_⟩
  repeat ((try subst X); (first | (first | apply zL | apply zH | apply zE); intro X hX | apply zh | apply zl | apply ze); try simp only [zU, reduceIte, Nat.reduceEqDiff, Nat.reduceAdd, reduceCtorEq, Q49])
  refine ⟨_, hb3.cell rfl, ?_⟩
  repeat ((try subst X); (first | (first | apply zL | apply zH | apply zE); intro X hX | apply zh | apply zl | apply ze); try simp only [zU, reduceIte, Nat.reduceEqDiff, Nat.reduceAdd, reduceCtorEq, Q49])
  have fin_false : ∀ W, Chg (fun k => k = C) w W → Chg (fun k => k = C) w W ∧ ∃ b, Value.bool false = .bool b ∧ (b = true → ∃ m : Int, 0 ≤ m ∧ m ≤ n ∧ Blk W C [.int .i64 m] 3) := fun W h => ⟨h, false, rfl, fun h => by cases h⟩
  by_cases h1 : 0 ≤ n - 1
  · simp only [h1, decide_true]
    repeat ((try subst X); (first | (first | apply zL | apply zH | apply zE); intro X hX | apply zh | apply zl | apply ze); try simp only [zU, reduceIte, Nat.reduceEqDiff, Nat.reduceAdd, reduceCtorEq, Q49])
    refine ⟨fun _ => ?_, fun h => by cases h⟩
    repeat ((try subst X); (first | (first | apply zL | apply zH | apply zE); intro X hX | apply zh | apply zl | apply ze); try simp only [zU, reduceIte, Nat.reduceEqDiff, Nat.reduceAdd, reduceCtorEq, Q49])
    refine ⟨_, Blk.cell (by assumption) rfl, ?_⟩
    repeat ((try subst X); (first | (first | apply zL | apply zH | apply zE); intro X hX | apply zh | apply zl | apply ze); try simp only [zU, reduceIte, Nat.reduceEqDiff, Nat.reduceAdd, reduceCtorEq, Q49])
    by_cases h2 : (g.name.size : Int) ≤ 60
    · simp only [h2, decide_true]
      repeat ((try subst X); (first | (first | apply zL | apply zH | apply zE); intro X hX | apply zh | apply zl | apply ze); try simp only [zU, reduceIte, Nat.reduceEqDiff, Nat.reduceAdd, reduceCtorEq, Q49])
      refine ⟨fun _ => ?_, fun h => by cases h⟩
      repeat ((try subst X); (first | (first | apply zL | apply zH | apply zE); intro X hX | apply zh | apply zl | apply ze); try simp only [zU, reduceIte, Nat.reduceEqDiff, Nat.reduceAdd, reduceCtorEq, Q49])
      refine ⟨_, Blk.cell (by assumption) rfl, ?_⟩
      repeat ((try subst X); (first | (first | apply zL | apply zH | apply zE); intro X hX | apply zh | apply zl | apply ze); try simp only [zU, reduceIte, Nat.reduceEqDiff, Nat.reduceAdd, reduceCtorEq, Q49])
      refine Inv.call Fx.en98 (contains98 w3 (fun k => k ≠ C ∧ k < B1) _ _ (g.args.map encT) (fun i W => Chg (fun k => k = C) w3 W ∧ ∃ m : Int, 0 ≤ m ∧ m ≤ n - 1 ∧ Blk W C [.int .i64 m] 3) (fun W => Chg (fun k => k = C) w3 W) (mapT_wid _) ⟨Chg.refl _ _, n - 1, by omega, by omega, hb3⟩ (fun i W hJ => hk3.chg hJ.1 (fun k hk _ => hk.1)) ?_) ?_
      · rintro i W r row hrow ⟨hcW, m, hm0, hm1, hCW⟩ hr hrl
        simp only [List.getElem?_map, Option.map_eq_some_iff] at hrow
        obtain ⟨k, hk, rfl⟩ := hrow
        refine Inv.clos (pan := fun _ _ => False) Fx.en99 (smallC_ok W r B2 C _ hrl (hb2.chg hcW (by omega)) (fun W1 he1 => Rets.mono (ih k (List.mem_of_getElem? hk) W1 (fun k => k ≠ C ∧ k < B1) r C _ (hr.ext he1) (hCW.ext he1) (fun h => h.1 rfl) hm0 (by omega)) ?_)) (fun v W' h => h)
        rintro _ W2 ⟨hc2, b, rfl, hb⟩
        refine ⟨b, rfl, !b, rfl, fun hf => ?_, fun _ => hcW.trans ((he1.chg _).trans hc2)⟩
        have hbt : b = true := by cases b <;> simp at hf ⊢
        obtain ⟨m', hm0', hm1', hCm⟩ := hb hbt
        exact ⟨hcW.trans ((he1.chg _).trans hc2), m', hm0', by omega, hCm⟩
      rintro _ W (⟨rfl, hcW⟩ | ⟨rfl, hcW, m, hm0, hm1, hCW⟩)
      · repeat ((try subst X); (first | (first | apply zL | apply zH | apply zE); intro X hX | apply zh | apply zl | apply ze); try simp only [zU, reduceIte, Nat.reduceEqDiff, Nat.reduceAdd, reduceCtorEq, Q49])
        refine hM _ _ _ ?_; clear hM M
        refine ok_ret ?_
        try simp only [zW, zU, reduceIte, Nat.reduceEqDiff, Nat.reduceAdd, reduceCtorEq, Q49]
        exact fin_false _ (hc03.trans hcW)
      · repeat ((try subst X); (first | (first | apply zL | apply zH | apply zE); intro X hX | apply zh | apply zl | apply ze); try simp only [zU, reduceIte, Nat.reduceEqDiff, Nat.reduceAdd, reduceCtorEq, Q49])
        refine hM _ _ _ ?_; clear hM M
        refine ok_ret ?_
        try simp only [zW, zU, reduceIte, Nat.reduceEqDiff, Nat.reduceAdd, reduceCtorEq, Q49]
        exact ⟨hc03.trans hcW, true, rfl, fun _ => ⟨m, hm0, by omega, hCW⟩⟩
    · simp only [h2, decide_false]
      repeat ((try subst X); (first | (first | apply zL | apply zH | apply zE); intro X hX | apply zh | apply zl | apply ze); try simp only [zU, reduceIte, Nat.reduceEqDiff, Nat.reduceAdd, reduceCtorEq, Q49])
      refine ⟨fun h => (by cases h), fun _ => ?_⟩
      repeat ((try subst X); (first | (first | apply zL | apply zH | apply zE); intro X hX | apply zh | apply zl | apply ze); try simp only [zU, reduceIte, Nat.reduceEqDiff, Nat.reduceAdd, reduceCtorEq, Q49])
      refine hM _ _ _ ?_; clear hM M
      refine ok_ret ?_
      try simp only [zW, zU, reduceIte, Nat.reduceEqDiff, Nat.reduceAdd, reduceCtorEq, Q49]
      exact fin_false _ hc03
  · simp only [h1, decide_false]
    repeat ((try subst X); (first | (first | apply zL | apply zH | apply zE); intro X hX | apply zh | apply zl | apply ze); try simp only [zU, reduceIte, Nat.reduceEqDiff, Nat.reduceAdd, reduceCtorEq, Q49])
    refine ⟨fun h => (by cases h), fun _ => ?_⟩
    repeat ((try subst X); (first | (first | apply zL | apply zH | apply zE); intro X hX | apply zh | apply zl | apply ze); try simp only [zU, reduceIte, Nat.reduceEqDiff, Nat.reduceAdd, reduceCtorEq, Q49])
    refine hM _ _ _ ?_; clear hM M
    refine ok_ret ?_
    try simp only [zW, zU, reduceIte, Nat.reduceEqDiff, Nat.reduceAdd, reduceCtorEq, Q49]
    exact fin_false _ hc03
-- -- function 48
set_option maxHeartbeats 4000000 in
set_option maxRecDepth 8000 in
theorem procV_ok (w : World) (S : Nat → Prop) (cs : List Value) (v : Vr) (h : Rd w S cs (encV v)) : Rets Tryz.prog 48 [.agg cs.toArray] w (fun r w' => Ext w w' ∧ ∃ b, r = .bool b) := by
  replace h := h.old
  rw [encV_eq] at h
  have hcl : cs.length = 4 := by rw [h.len, List.length_cons, encT_len]
  match cs, hcl with
  | [x0, x1, x2, x3], _ =>
  obtain ⟨e0, hT⟩ := h.atc
  subst e0
  obtain ⟨Ak, ck, hTe, hk⟩ := rdT hT
  simp only [List.cons.injEq, and_true] at hTe
  obtain ⟨e1, e2, e3⟩ := hTe
  subst e1 e2 e3
  refine rets_of_ok Tryz.func48 rfl rfl ?_
  refine ok_seq (fun M hM => ok_region rfl ?_)
  repeat ((try subst X); (first | (first | apply zL | apply zH | apply zE); intro X hX | apply zh | apply zl | apply ze); try simp only [zU, reduceIte, Nat.reduceEqDiff, Nat.reduceAdd, reduceCtorEq, Q48])
  refine Runs.box (fun w1 he1 hs1 hb1 => ?_)
  rw [agg_cells] at hb1
  repeat ((try subst X); (first | (first | apply zL | apply zH | apply zE); intro X hX | apply zh | apply zl | apply ze); try simp only [zU, reduceIte, Nat.reduceEqDiff, Nat.reduceAdd, reduceCtorEq, Q48])
  refine hM _ _ _ ?_; clear hM M
  generalize hB1 : w.heap.size = B1 at *
  refine ok_seq (fun M hM => ok_region rfl ?_)
  repeat ((try subst X); (first | (first | apply zL | apply zH | apply zE); intro X hX | apply zh | apply zl | apply ze); try simp only [zU, reduceIte, Nat.reduceEqDiff, Nat.reduceAdd, reduceCtorEq, Q48])
  refine Runs.alloc Fx.zi3 (fun w3a he3a hs3a hb3a => ?_)
  simp only [Value.cells] at hb3a
  generalize hB3 : w1.heap.size = B3 at *
  repeat ((try subst X); (first | (first | apply zL | apply zH | apply zE); intro X hX | apply zh | apply zl | apply ze); try simp only [zU, reduceIte, Nat.reduceEqDiff, Nat.reduceAdd, reduceCtorEq, Q48])
  refine Runs.store hb3a Fx.zi3 rfl (by intro u hu; simp [Value.cells] at hu; subst hu; rfl) (by simp) (fun w3 hc3 hs3 hb3 => ?_)
  simp only [splice, Value.cells, List.take_zero, List.nil_append, List.length_singleton, Nat.zero_add, List.drop_succ_cons, List.drop_zero, List.append_nil, List.drop_nil] at hb3
  repeat ((try subst X); (first | (first | apply zL | apply zH | apply zE); intro X hX | apply zh | apply zl | apply ze); try simp only [zU, reduceIte, Nat.reduceEqDiff, Nat.reduceAdd, reduceCtorEq, Q48])
  refine hM _ _ _ ?_; clear hM M
  have he3 : Ext w1 w3 := he3a.chg_trans hc3 (by omega)
  have he03 := he1.trans he3
  replace hb1 := hb1.ext he3
  refine ok_seq (fun M hM => ok_region rfl ?_)
  repeat ((try subst X); (first | (first | apply zL | apply zH | apply zE); intro X hX | apply zh | apply zl | apply ze); try simp only [zU, reduceIte, Nat.reduceEqDiff, Nat.reduceAdd, reduceCtorEq, Q48])
  refine ⟨[.int .i64 v.ty.kind, .string v.ty.name, .slice Ak v.ty.args.length ck], rfl, Blk.at_ (o := 1) hb1 rfl, ?_⟩
  repeat ((try subst X); (first | (first | apply zL | apply zH | apply zE); intro X hX | apply zh | apply zl | apply ze); try simp only [zU, reduceIte, Nat.reduceEqDiff, Nat.reduceAdd, reduceCtorEq, Q48])
  refine Inv.call Fx.en49 (smallL_ok v.ty w3 _ _ B3 20 (hT.ext he03) hb3 (by omega) (by decide) (by decide)) ?_
  rintro _ w4 ⟨hc4, b, rfl, -⟩
  have he04 : Ext w w4 := he03.chg_trans hc4 (by omega)
  replace hb1 := hb1.chg hc4 (by omega)
  repeat ((try subst X); (first | (first | apply zL | apply zH | apply zE); intro X hX | apply zh | apply zl | apply ze); try simp only [zU, reduceIte, Nat.reduceEqDiff, Nat.reduceAdd, reduceCtorEq, Q48])
  cases b with
  | true =>
    simp only [Bool.not_true]
    repeat ((try subst X); (first | (first | apply zL | apply zH | apply zE); intro X hX | apply zh | apply zl | apply ze); try simp only [zU, reduceIte, Nat.reduceEqDiff, Nat.reduceAdd, reduceCtorEq, Q48])
    refine ⟨fun _ => ?_, fun h => by cases h⟩
    repeat ((try subst X); (first | (first | apply zL | apply zH | apply zE); intro X hX | apply zh | apply zl | apply ze); try simp only [zU, reduceIte, Nat.reduceEqDiff, Nat.reduceAdd, reduceCtorEq, Q48])
    refine ⟨_, Blk.cell (by assumption) rfl, ?_⟩
    repeat ((try subst X); (first | (first | apply zL | apply zH | apply zE); intro X hX | apply zh | apply zl | apply ze); try simp only [zU, reduceIte, Nat.reduceEqDiff, Nat.reduceAdd, reduceCtorEq, Q48])
    refine hM _ _ _ ?_; clear hM M
    refine ok_ret ?_
    try simp only [zW, zU, reduceIte, Nat.reduceEqDiff, Nat.reduceAdd, reduceCtorEq, Q48]
    exact ⟨he04, _, rfl⟩
  | false =>
    simp only [Bool.not_false]
    repeat ((try subst X); (first | (first | apply zL | apply zH | apply zE); intro X hX | apply zh | apply zl | apply ze); try simp only [zU, reduceIte, Nat.reduceEqDiff, Nat.reduceAdd, reduceCtorEq, Q48])
    refine ⟨fun h => (by cases h), fun _ => ?_⟩
    repeat ((try subst X); (first | (first | apply zL | apply zH | apply zE); intro X hX | apply zh | apply zl | apply ze); try simp only [zU, reduceIte, Nat.reduceEqDiff, Nat.reduceAdd, reduceCtorEq, Q48])
    refine hM _ _ _ ?_; clear hM M
    refine ok_ret ?_
    try simp only [zW, zU, reduceIte, Nat.reduceEqDiff, Nat.reduceAdd, reduceCtorEq, Q48]
    exact ⟨he04, _, rfl⟩
end Go.Proofs.YtcpjojaklpgnkaaGreat
/- Chapter 31: the law's proc.  -/
set_option linter.unusedVariables false
set_option linter.unusedSimpArgs false
namespace Go.Proofs.YtcpjojaklpgnkaaGreat
open Go Go.Proofs.Vg Go.RowKit
theorem encV_wid (l : List Vr) : ∀ r ∈ l.map encV, r.length = 4 := by
  intro r hr; obtain ⟨x, -, rfl⟩ := List.mem_map.1 hr; rfl
-- -- function 15
set_option maxHeartbeats 8000000 in
set_option maxRecDepth 8000 in
theorem proc_ok (w : World) (S : Nat → Prop) (cs : List Value) (p : Pr) (h : Rd w S cs (encP p)) : Rets Tryz.prog 15 [.agg cs.toArray] w (fun r w' => Ext w w' ∧ ∃ b, r = .bool b ∧ (b = true → smP p)) := by
  replace h := h.old
  obtain ⟨Av, cv, Ah, ch, Am, cm, Aa, ca, Ak, ck, Ac, cc, rfl, hv, hh, hm, hb⟩ := rdP h
  refine rets_of_ok Tryz.func15 rfl rfl ?_
  refine ok_seq (fun M hM => ok_region rfl ?_)
  repeat ((try subst X); (first | (first | apply zL | apply zH | apply zE); intro X hX | apply zh | apply zl | apply ze); try simp only [zU, reduceIte, Nat.reduceEqDiff, Nat.reduceAdd, reduceCtorEq, Q15])
  refine Runs.box (fun w1 he1 hs1 hb1 => ?_)
  rw [agg_cells] at hb1
  repeat ((try subst X); (first | (first | apply zL | apply zH | apply zE); intro X hX | apply zh | apply zl | apply ze); try simp only [zU, reduceIte, Nat.reduceEqDiff, Nat.reduceAdd, reduceCtorEq, Q15])
  refine hM _ _ _ ?_; clear hM M
  generalize hB1 : w.heap.size = B1 at *
  refine ok_seq (fun M hM => ok_region rfl ?_)
  repeat ((try subst X); (first | (first | apply zL | apply zH | apply zE); intro X hX | apply zh | apply zl | apply ze); try simp only [zU, reduceIte, Nat.reduceEqDiff, Nat.reduceAdd, reduceCtorEq, Q15])
  refine Runs.alloc Fx.zi3 (fun w3a he3a hs3a hb3a => ?_)
  simp only [Value.cells] at hb3a
  generalize hB3 : w1.heap.size = B3 at *
  repeat ((try subst X); (first | (first | apply zL | apply zH | apply zE); intro X hX | apply zh | apply zl | apply ze); try simp only [zU, reduceIte, Nat.reduceEqDiff, Nat.reduceAdd, reduceCtorEq, Q15])
  refine Runs.store hb3a Fx.zi3 rfl (by intro u hu; simp [Value.cells] at hu; subst hu; rfl) (by simp) (fun w3 hc3 hs3 hb3 => ?_)
  simp only [splice, Value.cells, List.take_zero, List.nil_append, List.length_singleton, Nat.zero_add, List.drop_succ_cons, List.drop_zero, List.append_nil, List.drop_nil] at hb3
  repeat ((try subst X); (first | (first | apply zL | apply zH | apply zE); intro X hX | apply zh | apply zl | apply ze); try simp only [zU, reduceIte, Nat.reduceEqDiff, Nat.reduceAdd, reduceCtorEq, Q15])
  refine hM _ _ _ ?_; clear hM M
  have he3 : Ext w1 w3 := he3a.chg_trans hc3 (by omega)
  have he03 := he1.trans he3
  replace hb1 := hb1.ext he3
  refine ok_seq (fun M hM => ok_region rfl ?_)
  repeat ((try subst X); (first | (first | apply zL | apply zH | apply zE); intro X hX | apply zh | apply zl | apply ze); try simp only [zU, reduceIte, Nat.reduceEqDiff, Nat.reduceAdd, reduceCtorEq, Q15])
  refine ⟨_, Blk.cell (by assumption) rfl, ?_⟩
  repeat ((try subst X); (first | (first | apply zL | apply zH | apply zE); intro X hX | apply zh | apply zl | apply ze); try simp only [zU, reduceIte, Nat.reduceEqDiff, Nat.reduceAdd, reduceCtorEq, Q15])
  by_cases h1 : (p.vars.length : Int) ≤ 60
  · simp only [h1, decide_true]
    repeat ((try subst X); (first | (first | apply zL | apply zH | apply zE); intro X hX | apply zh | apply zl | apply ze); try simp only [zU, reduceIte, Nat.reduceEqDiff, Nat.reduceAdd, reduceCtorEq, Q15])
    refine ⟨fun _ => ?_, fun h => by cases h⟩
    repeat ((try subst X); (first | (first | apply zL | apply zH | apply zE); intro X hX | apply zh | apply zl | apply ze); try simp only [zU, reduceIte, Nat.reduceEqDiff, Nat.reduceAdd, reduceCtorEq, Q15])
    refine ⟨_, Blk.cell (by assumption) rfl, ?_⟩
    repeat ((try subst X); (first | (first | apply zL | apply zH | apply zE); intro X hX | apply zh | apply zl | apply ze); try simp only [zU, reduceIte, Nat.reduceEqDiff, Nat.reduceAdd, reduceCtorEq, Q15])
    by_cases h2 : (p.heads.length : Int) ≤ 40
    · simp only [h2, decide_true]
      repeat ((try subst X); (first | (first | apply zL | apply zH | apply zE); intro X hX | apply zh | apply zl | apply ze); try simp only [zU, reduceIte, Nat.reduceEqDiff, Nat.reduceAdd, reduceCtorEq, Q15])
      refine ⟨fun _ => ?_, fun h => by cases h⟩
      repeat ((try subst X); (first | (first | apply zL | apply zH | apply zE); intro X hX | apply zh | apply zl | apply ze); try simp only [zU, reduceIte, Nat.reduceEqDiff, Nat.reduceAdd, reduceCtorEq, Q15])
      refine ⟨_, Blk.cell (by assumption) rfl, ?_⟩
      repeat ((try subst X); (first | (first | apply zL | apply zH | apply zE); intro X hX | apply zh | apply zl | apply ze); try simp only [zU, reduceIte, Nat.reduceEqDiff, Nat.reduceAdd, reduceCtorEq, Q15])
      by_cases h3 : (p.modes.length : Int) ≤ 40
      · simp only [h3, decide_true]
        repeat ((try subst X); (first | (first | apply zL | apply zH | apply zE); intro X hX | apply zh | apply zl | apply ze); try simp only [zU, reduceIte, Nat.reduceEqDiff, Nat.reduceAdd, reduceCtorEq, Q15])
        refine ⟨fun _ => ?_, fun h => by cases h⟩
        repeat ((try subst X); (first | (first | apply zL | apply zH | apply zE); intro X hX | apply zh | apply zl | apply ze); try simp only [zU, reduceIte, Nat.reduceEqDiff, Nat.reduceAdd, reduceCtorEq, Q15])
        refine ⟨[.int .i64 p.body.kind, .int .i64 p.body.left, .int .i64 p.body.num, .string p.body.text, .int .i64 p.body.form, .slice Aa p.body.args.length ca, .slice Ak p.body.kids.length ck, .slice Ac p.body.cases.length cc, .int .i64 p.body.pos], rfl, Blk.at_ (o := 6) hb1 rfl, ?_⟩
        repeat ((try subst X); (first | (first | apply zL | apply zH | apply zE); intro X hX | apply zh | apply zl | apply ze); try simp only [zU, reduceIte, Nat.reduceEqDiff, Nat.reduceAdd, reduceCtorEq, Q15])
        refine Inv.call Fx.en26 (goalsL_ok p.body w3 _ _ B3 60 (hb.ext he03) hb3 (by omega) (by decide) (by decide)) ?_
        rintro _ w4 ⟨hc4, b, rfl, hbt⟩
        have he04 : Ext w w4 := he03.chg_trans hc4 (by omega)
        replace hb1 := hb1.chg hc4 (by omega)
        repeat ((try subst X); (first | (first | apply zL | apply zH | apply zE); intro X hX | apply zh | apply zl | apply ze); try simp only [zU, reduceIte, Nat.reduceEqDiff, Nat.reduceAdd, reduceCtorEq, Q15])
        cases b with
        | false =>
          repeat ((try subst X); (first | (first | apply zL | apply zH | apply zE); intro X hX | apply zh | apply zl | apply ze); try simp only [zU, reduceIte, Nat.reduceEqDiff, Nat.reduceAdd, reduceCtorEq, Q15])
          refine ⟨fun h => (by cases h), fun _ => ?_⟩
          repeat ((try subst X); (first | (first | apply zL | apply zH | apply zE); intro X hX | apply zh | apply zl | apply ze); try simp only [zU, reduceIte, Nat.reduceEqDiff, Nat.reduceAdd, reduceCtorEq, Q15])
          refine hM _ _ _ ?_; clear hM M
          refine ok_ret ?_
          try simp only [zW, zU, reduceIte, Nat.reduceEqDiff, Nat.reduceAdd, reduceCtorEq, Q15]
          exact ⟨he04, false, rfl, fun h => by cases h⟩
        | true =>
          repeat ((try subst X); (first | (first | apply zL | apply zH | apply zE); intro X hX | apply zh | apply zl | apply ze); try simp only [zU, reduceIte, Nat.reduceEqDiff, Nat.reduceAdd, reduceCtorEq, Q15])
          refine ⟨fun _ => ?_, fun h => by cases h⟩
          repeat ((try subst X); (first | (first | apply zL | apply zH | apply zE); intro X hX | apply zh | apply zl | apply ze); try simp only [zU, reduceIte, Nat.reduceEqDiff, Nat.reduceAdd, reduceCtorEq, Q15])
          refine ⟨_, Blk.cell (by assumption) rfl, ?_⟩
          repeat ((try subst X); (first | (first | apply zL | apply zH | apply zE); intro X hX | apply zh | apply zl | apply ze); try simp only [zU, reduceIte, Nat.reduceEqDiff, Nat.reduceAdd, reduceCtorEq, Q15])
          refine Inv.call Fx.en47 (contains47 w4 _ _ _ (p.vars.map encV) (fun i W => Ext w4 W) (fun W => Ext w4 W) (encV_wid _) (Ext.refl _) (fun i W hJ => (hv.ext he04).ext hJ) ?_) ?_
          · rintro i W r row hrow hJ hr hrl
            simp only [List.getElem?_map, Option.map_eq_some_iff] at hrow
            obtain ⟨k, hk, rfl⟩ := hrow
            refine Inv.call (pan := fun _ _ => False) Fx.en48 (procV_ok W _ r k hr) ?_
            rintro _ W2 ⟨he2, b, rfl⟩
            exact ⟨b, rfl, fun _ => hJ.trans he2, fun _ => hJ.trans he2⟩
          have hsm : smP p := by
            obtain ⟨hok, m, hm1, hm2, -⟩ := hbt rfl
            exact ⟨by omega, by omega, by omega, by omega, hok⟩
          rintro _ W (⟨rfl, heW⟩ | ⟨rfl, heW⟩)
          · repeat ((try subst X); (first | (first | apply zL | apply zH | apply zE); intro X hX | apply zh | apply zl | apply ze); try simp only [zU, reduceIte, Nat.reduceEqDiff, Nat.reduceAdd, reduceCtorEq, Q15])
            refine hM _ _ _ ?_; clear hM M
            refine ok_ret ?_
            try simp only [zW, zU, reduceIte, Nat.reduceEqDiff, Nat.reduceAdd, reduceCtorEq, Q15]
            exact ⟨he04.trans heW, _, rfl, fun h => hsm⟩
          · repeat ((try subst X); (first | (first | apply zL | apply zH | apply zE); intro X hX | apply zh | apply zl | apply ze); try simp only [zU, reduceIte, Nat.reduceEqDiff, Nat.reduceAdd, reduceCtorEq, Q15])
            refine hM _ _ _ ?_; clear hM M
            refine ok_ret ?_
            try simp only [zW, zU, reduceIte, Nat.reduceEqDiff, Nat.reduceAdd, reduceCtorEq, Q15]
            exact ⟨he04.trans heW, _, rfl, fun _ => hsm⟩
      · simp only [h3, decide_false]
        repeat ((try subst X); (first | (first | apply zL | apply zH | apply zE); intro X hX | apply zh | apply zl | apply ze); try simp only [zU, reduceIte, Nat.reduceEqDiff, Nat.reduceAdd, reduceCtorEq, Q15])
        refine ⟨fun h => (by cases h), fun _ => ?_⟩
        repeat ((try subst X); (first | (first | apply zL | apply zH | apply zE); intro X hX | apply zh | apply zl | apply ze); try simp only [zU, reduceIte, Nat.reduceEqDiff, Nat.reduceAdd, reduceCtorEq, Q15])
        refine hM _ _ _ ?_; clear hM M
        refine ok_ret ?_
        try simp only [zW, zU, reduceIte, Nat.reduceEqDiff, Nat.reduceAdd, reduceCtorEq, Q15]
        exact ⟨he03, false, rfl, fun h => by cases h⟩
    · simp only [h2, decide_false]
      repeat ((try subst X); (first | (first | apply zL | apply zH | apply zE); intro X hX | apply zh | apply zl | apply ze); try simp only [zU, reduceIte, Nat.reduceEqDiff, Nat.reduceAdd, reduceCtorEq, Q15])
      refine ⟨fun h => (by cases h), fun _ => ?_⟩
      repeat ((try subst X); (first | (first | apply zL | apply zH | apply zE); intro X hX | apply zh | apply zl | apply ze); try simp only [zU, reduceIte, Nat.reduceEqDiff, Nat.reduceAdd, reduceCtorEq, Q15])
      refine hM _ _ _ ?_; clear hM M
      refine ok_ret ?_
      try simp only [zW, zU, reduceIte, Nat.reduceEqDiff, Nat.reduceAdd, reduceCtorEq, Q15]
      exact ⟨he03, false, rfl, fun h => by cases h⟩
  · simp only [h1, decide_false]
    repeat ((try subst X); (first | (first | apply zL | apply zH | apply zE); intro X hX | apply zh | apply zl | apply ze); try simp only [zU, reduceIte, Nat.reduceEqDiff, Nat.reduceAdd, reduceCtorEq, Q15])
    refine ⟨fun h => (by cases h), fun _ => ?_⟩
    repeat ((try subst X); (first | (first | apply zL | apply zH | apply zE); intro X hX | apply zh | apply zl | apply ze); try simp only [zU, reduceIte, Nat.reduceEqDiff, Nat.reduceAdd, reduceCtorEq, Q15])
    refine hM _ _ _ ?_; clear hM M
    refine ok_ret ?_
    try simp only [zW, zU, reduceIte, Nat.reduceEqDiff, Nat.reduceAdd, reduceCtorEq, Q15]
    exact ⟨he03, false, rfl, fun h => by cases h⟩
end Go.Proofs.YtcpjojaklpgnkaaGreat
/- Chapter 31: bound, Bound.  -/
set_option linter.unusedVariables false
set_option linter.unusedSimpArgs false
namespace Go.Proofs.YtcpjojaklpgnkaaGreat
open Go Go.Proofs.Vg Go.RowKit
-- -- function 105
set_option maxHeartbeats 2000000 in
set_option maxRecDepth 8000 in
theorem boundc105 (w : World) (S : Nat → Prop) (cs : List Value) (g : G) (v : Int) (B : Nat) (h : Rd w S cs (encG g)) (hh : g.ht ≤ 549755813888) (hB : Blk w B [.int .i64 v] 3) : Rets Tryz.prog 105 ([.agg cs.toArray] ++ [.pointer (some ⟨B, 0, none⟩)]) w (fun r w' => r = .bool (occG g v) ∧ Ext w w') := by
  have hcl : cs.length = 9 := by rw [h.len, encG_len]
  refine rets_of_ok Tryz.func105 rfl rfl ?_
  refine ok_seq (fun M hM => ok_region rfl ?_)
  repeat ((try subst X); (first | (first | apply zL | apply zH | apply zE); intro X hX | apply zh | apply zl | apply ze); try simp only [zU, reduceIte, Nat.reduceEqDiff, Nat.reduceAdd, reduceCtorEq, Q105])
  refine Runs.box (fun w1 he1 hs1 hb1 => ?_)
  rw [agg_cells] at hb1
  repeat ((try subst X); (first | (first | apply zL | apply zH | apply zE); intro X hX | apply zh | apply zl | apply ze); try simp only [zU, reduceIte, Nat.reduceEqDiff, Nat.reduceAdd, reduceCtorEq, Q105])
  refine hM _ _ _ ?_; clear hM M
  refine ok_seq (fun M hM => ok_region rfl ?_)
  repeat ((try subst X); (first | (first | apply zL | apply zH | apply zE); intro X hX | apply zh | apply zl | apply ze); try simp only [zU, reduceIte, Nat.reduceEqDiff, Nat.reduceAdd, reduceCtorEq, Q105])
  refine ⟨cs, hcl, hb1.all, ?_⟩
  repeat ((try subst X); (first | (first | apply zL | apply zH | apply zE); intro X hX | apply zh | apply zl | apply ze); try simp only [zU, reduceIte, Nat.reduceEqDiff, Nat.reduceAdd, reduceCtorEq, Q105])
  refine ⟨_, (hB.ext he1).cell rfl, ?_⟩
  repeat ((try subst X); (first | (first | apply zL | apply zH | apply zE); intro X hX | apply zh | apply zl | apply ze); try simp only [zU, reduceIte, Nat.reduceEqDiff, Nat.reduceAdd, reduceCtorEq, Q105])
  refine Inv.call Fx.en18 (occurs_ok w1 S cs g v (h.ext he1) hh) ?_
  rintro _ w2 ⟨rfl, he2⟩
  repeat ((try subst X); (first | (first | apply zL | apply zH | apply zE); intro X hX | apply zh | apply zl | apply ze); try simp only [zU, reduceIte, Nat.reduceEqDiff, Nat.reduceAdd, reduceCtorEq, Q105])
  refine hM _ _ _ ?_; clear hM M
  refine ok_ret ?_
  try simp only [zW, zU, reduceIte, Nat.reduceEqDiff, Nat.reduceAdd, reduceCtorEq, Q105]
  exact he1.trans he2
theorem containsc105 (w : World) (S : Nat → Prop) (A : Option Addr) (n c : Nat) (l : List G) (v : Int) (B : Nat) (h : Rd w S [.slice A n c] [.sl 128 (l.map encG)]) (hh : htGs l ≤ 549755813888) (hB : Blk w B [.int .i64 v] 3) :
    Rets Tryz.prog 63 [.slice A n c, .func (.func 105) #[] [Value.pointer (some ⟨B, 0, none⟩)].toArray] w (fun r w' => r = .bool (l.any fun k => occG k v) ∧ Ext w w') := by
  refine Rets.mono (contains63 w S _ _ (l.map encG) (fun i W => Ext w W ∧ (l.any fun k => occG k v) = ((l.drop i).any fun k => occG k v)) (fun W => Ext w W ∧ (l.any fun k => occG k v) = true) (mapG_wid _) ⟨Ext.refl _, rfl⟩ (fun i W hJ => h.ext hJ.1) ?_) ?_
  · rintro i W r row hrow ⟨he, hany⟩ hr hrl
    simp only [List.getElem?_map, Option.map_eq_some_iff] at hrow
    obtain ⟨k, hk, rfl⟩ := hrow
    obtain ⟨hi, hke⟩ := List.getElem?_eq_some_iff.1 hk
    have hdr : l.drop i = k :: l.drop (i + 1) := by rw [← hke]; exact List.drop_eq_getElem_cons hi
    refine Inv.mono' (Inv.clos (next := fun b W' => b = .bool (occG k v) ∧ Ext W W') (pan := fun _ _ => False) Fx.en105 (boundc105 W S r k v B hr (Nat.le_trans (htGs_mem (List.mem_of_getElem? hk)) hh) (hB.ext he)) (fun v W' h => h)) ?_ (fun _ _ h => h)
    rintro _ W' ⟨rfl, he'⟩
    refine ⟨_, rfl, fun hf => ⟨he.trans he', ?_⟩, fun ht => ⟨he.trans he', ?_⟩⟩
    · rw [hany, hdr, List.any_cons, hf, Bool.false_or]
    · rw [hany, hdr, List.any_cons, ht, Bool.true_or]
  · rintro _ W' (⟨rfl, he, ha⟩ | ⟨rfl, he, ha⟩)
    · exact ⟨by rw [ha], he⟩
    · rw [List.length_map, List.drop_length] at ha
      exact ⟨by rw [ha]; rfl, he⟩
-- -- function 106
set_option maxHeartbeats 2000000 in
set_option maxRecDepth 8000 in
theorem boundc106 (w : World) (S : Nat → Prop) (cs : List Value) (g : G) (v : Int) (B : Nat) (h : Rd w S cs (encG g)) (hh : g.ht ≤ 549755813888) (hB : Blk w B [.int .i64 v] 3) : Rets Tryz.prog 106 ([.agg cs.toArray] ++ [.pointer (some ⟨B, 0, none⟩)]) w (fun r w' => r = .bool (occG g v) ∧ Ext w w') := by
  have hcl : cs.length = 9 := by rw [h.len, encG_len]
  refine rets_of_ok Tryz.func106 rfl rfl ?_
  refine ok_seq (fun M hM => ok_region rfl ?_)
  repeat ((try subst X); (first | (first | apply zL | apply zH | apply zE); intro X hX | apply zh | apply zl | apply ze); try simp only [zU, reduceIte, Nat.reduceEqDiff, Nat.reduceAdd, reduceCtorEq, Q106])
  refine Runs.box (fun w1 he1 hs1 hb1 => ?_)
  rw [agg_cells] at hb1
  repeat ((try subst X); (first | (first | apply zL | apply zH | apply zE); intro X hX | apply zh | apply zl | apply ze); try simp only [zU, reduceIte, Nat.reduceEqDiff, Nat.reduceAdd, reduceCtorEq, Q106])
  refine hM _ _ _ ?_; clear hM M
  refine ok_seq (fun M hM => ok_region rfl ?_)
  repeat ((try subst X); (first | (first | apply zL | apply zH | apply zE); intro X hX | apply zh | apply zl | apply ze); try simp only [zU, reduceIte, Nat.reduceEqDiff, Nat.reduceAdd, reduceCtorEq, Q106])
  refine ⟨cs, hcl, hb1.all, ?_⟩
  repeat ((try subst X); (first | (first | apply zL | apply zH | apply zE); intro X hX | apply zh | apply zl | apply ze); try simp only [zU, reduceIte, Nat.reduceEqDiff, Nat.reduceAdd, reduceCtorEq, Q106])
  refine ⟨_, (hB.ext he1).cell rfl, ?_⟩
  repeat ((try subst X); (first | (first | apply zL | apply zH | apply zE); intro X hX | apply zh | apply zl | apply ze); try simp only [zU, reduceIte, Nat.reduceEqDiff, Nat.reduceAdd, reduceCtorEq, Q106])
  refine Inv.call Fx.en18 (occurs_ok w1 S cs g v (h.ext he1) hh) ?_
  rintro _ w2 ⟨rfl, he2⟩
  repeat ((try subst X); (first | (first | apply zL | apply zH | apply zE); intro X hX | apply zh | apply zl | apply ze); try simp only [zU, reduceIte, Nat.reduceEqDiff, Nat.reduceAdd, reduceCtorEq, Q106])
  refine hM _ _ _ ?_; clear hM M
  refine ok_ret ?_
  try simp only [zW, zU, reduceIte, Nat.reduceEqDiff, Nat.reduceAdd, reduceCtorEq, Q106]
  exact he1.trans he2
theorem containsc106 (w : World) (S : Nat → Prop) (A : Option Addr) (n c : Nat) (l : List G) (v : Int) (B : Nat) (h : Rd w S [.slice A n c] [.sl 128 (l.map encG)]) (hh : htGs l ≤ 549755813888) (hB : Blk w B [.int .i64 v] 3) :
    Rets Tryz.prog 63 [.slice A n c, .func (.func 106) #[] [Value.pointer (some ⟨B, 0, none⟩)].toArray] w (fun r w' => r = .bool (l.any fun k => occG k v) ∧ Ext w w') := by
  refine Rets.mono (contains63 w S _ _ (l.map encG) (fun i W => Ext w W ∧ (l.any fun k => occG k v) = ((l.drop i).any fun k => occG k v)) (fun W => Ext w W ∧ (l.any fun k => occG k v) = true) (mapG_wid _) ⟨Ext.refl _, rfl⟩ (fun i W hJ => h.ext hJ.1) ?_) ?_
  · rintro i W r row hrow ⟨he, hany⟩ hr hrl
    simp only [List.getElem?_map, Option.map_eq_some_iff] at hrow
    obtain ⟨k, hk, rfl⟩ := hrow
    obtain ⟨hi, hke⟩ := List.getElem?_eq_some_iff.1 hk
    have hdr : l.drop i = k :: l.drop (i + 1) := by rw [← hke]; exact List.drop_eq_getElem_cons hi
    refine Inv.mono' (Inv.clos (next := fun b W' => b = .bool (occG k v) ∧ Ext W W') (pan := fun _ _ => False) Fx.en106 (boundc106 W S r k v B hr (Nat.le_trans (htGs_mem (List.mem_of_getElem? hk)) hh) (hB.ext he)) (fun v W' h => h)) ?_ (fun _ _ h => h)
    rintro _ W' ⟨rfl, he'⟩
    refine ⟨_, rfl, fun hf => ⟨he.trans he', ?_⟩, fun ht => ⟨he.trans he', ?_⟩⟩
    · rw [hany, hdr, List.any_cons, hf, Bool.false_or]
    · rw [hany, hdr, List.any_cons, ht, Bool.true_or]
  · rintro _ W' (⟨rfl, he, ha⟩ | ⟨rfl, he, ha⟩)
    · exact ⟨by rw [ha], he⟩
    · rw [List.length_map, List.drop_length] at ha
      exact ⟨by rw [ha]; rfl, he⟩
theorem take_ht (l : List G) (n : Nat) : htGs (l.take n) ≤ htGs l := by
  induction l generalizing n with
  | nil => simp
  | cons x xs ih => cases n with
    | zero => simp [htGs]
    | succ n => simp only [List.take_succ_cons, htGs]; have := ih n; omega
-- -- function 56
set_option maxHeartbeats 8000000 in
set_option maxRecDepth 8000 in
theorem bound_ok (path : List Int) : ∀ (w : World) (S : Nat → Prop) (cs : List Value) (g last : G) (vp : Value) (idx : Nat) (v : Int), Rd w S cs (encG g) → Rd w S [vp] [isD path] → findG g path = some last → idx ≤ last.kids.length → g.ht ≤ 549755813888 →
    Rets Tryz.prog 56 [.agg cs.toArray, vp, .int .i64 (idx : Int), .int .i64 v] w (fun r w' => r = .bool (boundW g path idx v) ∧ Ext w w') := by
  induction path with
  | nil =>
    intro w S cs g last vp idx v h hp hf hidx hh
    cases hf
    obtain ⟨Ap, cp, rfl, hpl, hpc⟩ := hp.ints
    obtain ⟨Aa, ca, Ak, ck, Ac, cc, rfl, -, hk, -⟩ := rdG h
    rw [G.ht_eq] at hh
    refine rets_of_ok Tryz.func56 rfl rfl ?_
    refine ok_seq (fun M hM => ok_region rfl ?_)
    repeat ((try subst X); (first | (first | apply zL | apply zH | apply zE); intro X hX | apply zh | apply zl | apply ze); try simp only [zU, reduceIte, Nat.reduceEqDiff, Nat.reduceAdd, reduceCtorEq, Q56])
    refine Runs.box (fun w1 he1 hs1 hb1 => ?_)
    rw [agg_cells] at hb1
    repeat ((try subst X); (first | (first | apply zL | apply zH | apply zE); intro X hX | apply zh | apply zl | apply ze); try simp only [zU, reduceIte, Nat.reduceEqDiff, Nat.reduceAdd, reduceCtorEq, Q56])
    refine Runs.box (fun w2 he2 hs2 hb2 => ?_)
    simp only [Value.cells] at hb2
    repeat ((try subst X); (first | (first | apply zL | apply zH | apply zE); intro X hX | apply zh | apply zl | apply ze); try simp only [zU, reduceIte, Nat.reduceEqDiff, Nat.reduceAdd, reduceCtorEq, Q56])
    refine hM _ _ _ ?_; clear hM M
    have he02 := he1.trans he2
    replace hb1 := hb1.ext he2
    refine ok_seq (fun M0 hM0 => ok_seq (fun M hM => ok_region rfl ?_))
    repeat ((try subst X); (first | (first | apply zL | apply zH | apply zE); intro X hX | apply zh | apply zl | apply ze); try simp only [zU, reduceIte, Nat.reduceEqDiff, Nat.reduceAdd, reduceCtorEq, Q56])
    refine hM _ _ _ ?_; clear hM M
    refine ok_cond rfl (fun _ => ?_) (fun h => by cases h)
    obtain ⟨A', c', hsl, hslR⟩ := run_sliceD (P := Tryz.prog) (w := w2) Fx.un34 Fx.zi37 (hk.ext he02) (mapG_wid _) none (some idx) .i64 .i64 (by simpa using hidx) (by simp)
    simp only [Option.map_some, Option.map_none, Option.getD_none, Option.getD_some, Nat.sub_zero, List.drop_zero] at hsl hslR
    refine ok_seq (fun M hM => ok_region rfl ?_)
    repeat ((try subst X); (first | (first | apply zL | apply zH | apply zE); intro X hX | apply zh | apply zl | apply ze); try simp only [zU, reduceIte, Nat.reduceEqDiff, Nat.reduceAdd, reduceCtorEq, Q56])
    refine ⟨_, Blk.cell (by assumption) rfl, ?_⟩
    repeat ((try subst X); (first | (first | apply zL | apply zH | apply zE); intro X hX | apply zh | apply zl | apply ze); try simp only [zU, reduceIte, Nat.reduceEqDiff, Nat.reduceAdd, reduceCtorEq, Q56])
    refine ⟨_, _, hsl w2, ?_⟩
    repeat ((try subst X); (first | (first | apply zL | apply zH | apply zE); intro X hX | apply zh | apply zl | apply ze); try simp only [zU, reduceIte, Nat.reduceEqDiff, Nat.reduceAdd, reduceCtorEq, Q56])
    refine Inv.call Fx.en63 (containsc105 w2 S A' idx c' (g.kids.take idx) v _ (by rw [List.map_take]; exact hslR w2 S (hk.ext he02)) (by have := take_ht g.kids idx; omega) hb2) ?_
    rintro _ w3 ⟨rfl, he3⟩
    repeat ((try subst X); (first | (first | apply zL | apply zH | apply zE); intro X hX | apply zh | apply zl | apply ze); try simp only [zU, reduceIte, Nat.reduceEqDiff, Nat.reduceAdd, reduceCtorEq, Q56])
    refine hM _ _ _ ?_; clear hM M
    refine ok_ret ?_
    try simp only [zW, zU, reduceIte, Nat.reduceEqDiff, Nat.reduceAdd, reduceCtorEq, Q56]
    exact ⟨rfl, he02.trans he3⟩
  | cons n r ih =>
    intro w S cs g last vp idx v h hp hf hidx hh
    obtain ⟨Ap, cp, rfl, hpl, hpc⟩ := hp.ints
    obtain ⟨kd, hn0, hn1, hkd, hfk⟩ := findG_cons (by rw [hf]; rfl)
    rw [hfk] at hf
    have hbw : boundW g (n :: r) idx v = (wayG g n v || boundW kd r idx v) := by simp only [boundW]; rw [hkd]
    rw [hbw]
    have hkt := htGs_mem (List.mem_of_getElem? hkd)
    rw [G.ht_eq] at hh
    obtain ⟨Aa, ca, Ak, ck, Ac, cc, rfl, -, hk, -⟩ := rdG h
    obtain ⟨_, _, -, hkl, -, -⟩ := hk.hd
    simp only [List.length_map] at hkl
    refine rets_of_ok Tryz.func56 rfl rfl ?_
    refine ok_seq (fun M hM => ok_region rfl ?_)
    repeat ((try subst X); (first | (first | apply zL | apply zH | apply zE); intro X hX | apply zh | apply zl | apply ze); try simp only [zU, reduceIte, Nat.reduceEqDiff, Nat.reduceAdd, reduceCtorEq, Q56])
    refine Runs.box (fun w1 he1 hs1 hb1 => ?_)
    rw [agg_cells] at hb1
    repeat ((try subst X); (first | (first | apply zL | apply zH | apply zE); intro X hX | apply zh | apply zl | apply ze); try simp only [zU, reduceIte, Nat.reduceEqDiff, Nat.reduceAdd, reduceCtorEq, Q56])
    refine Runs.box (fun w2 he2 hs2 hb2 => ?_)
    simp only [Value.cells] at hb2
    generalize hB1 : w.heap.size = B1 at *
    generalize hB2 : w1.heap.size = B2 at *
    repeat ((try subst X); (first | (first | apply zL | apply zH | apply zE); intro X hX | apply zh | apply zl | apply ze); try simp only [zU, reduceIte, Nat.reduceEqDiff, Nat.reduceAdd, reduceCtorEq, Q56])
    refine hM _ _ _ ?_; clear hM M
    have he02 := he1.trans he2
    replace hb1 := hb1.ext he2
    refine ok_seq (fun M0 hM0 => ok_seq (fun M hM => ok_region rfl ?_))
    repeat ((try subst X); (first | (first | apply zL | apply zH | apply zE); intro X hX | apply zh | apply zl | apply ze); try simp only [zU, reduceIte, Nat.reduceEqDiff, Nat.reduceAdd, reduceCtorEq, Q56])
    refine hM _ _ _ ?_; clear hM M
    refine ok_cond (b := false) (by simp [ev, Env.get]; omega) (fun h => by cases h) (fun _ => ok_skip ?_)
    refine hM0 _ _ _ ?_; clear hM0 M0
    obtain ⟨kp, op, hAp, -, hcell⟩ := hpc 0 n rfl
    subst hAp
    refine ok_seq (fun M hM => ok_region rfl ?_)
    repeat ((try subst X); (first | (first | apply zL | apply zH | apply zE); intro X hX | apply zh | apply zl | apply ze); try simp only [zU, reduceIte, Nat.reduceEqDiff, Nat.reduceAdd, reduceCtorEq, Q56])
    refine ⟨by omega, by first | omega | (simp; done) | (simp; omega), ?_⟩
    repeat ((try subst X); (first | (first | apply zL | apply zH | apply zE); intro X hX | apply zh | apply zl | apply ze); try simp only [zU, reduceIte, Nat.reduceEqDiff, Nat.reduceAdd, reduceCtorEq, Q56])
    refine ⟨.int .i64 n, he02.cell (by simpa [add_at] using hcell), ?_⟩
    repeat ((try subst X); (first | (first | apply zL | apply zH | apply zE); intro X hX | apply zh | apply zl | apply ze); try simp only [zU, reduceIte, Nat.reduceEqDiff, Nat.reduceAdd, reduceCtorEq, Q56])
    refine hM _ _ _ ?_; clear hM M
    refine ok_seq (fun M hM => ok_region rfl ?_); repeat ((try subst X); (first | (first | apply zL | apply zH | apply zE); intro X hX | apply zh | apply zl | apply ze); try simp only [zU, reduceIte, Nat.reduceEqDiff, Nat.reduceAdd, reduceCtorEq, Q56])
    refine hM _ _ _ ?_; clear hM M
    refine ok_join [(1, .slice (some ⟨kp, op, none⟩) (n :: r).length cp), (2, .int .i64 (idx : Int)), (4, .pointer (some ⟨B1, 0, none⟩)), (7, .pointer (some ⟨B2, 0, none⟩)), (9, .int .i64 n), (10, .bool (wayG g n v))] (fun W => Ext w2 W) ?_ ?_
    · refine ok_seq (fun M hM => ok_region rfl ?_)
      repeat ((try subst X); (first | (first | apply zL | apply zH | apply zE); intro X hX | apply zh | apply zl | apply ze); try simp only [zU, reduceIte, Nat.reduceEqDiff, Nat.reduceAdd, reduceCtorEq, Q56])
      refine ⟨_, Blk.cell (by assumption) rfl, ?_⟩
      repeat ((try subst X); (first | (first | apply zL | apply zH | apply zE); intro X hX | apply zh | apply zl | apply ze); try simp only [zU, reduceIte, Nat.reduceEqDiff, Nat.reduceAdd, reduceCtorEq, Q56])
      refine hM _ _ _ ?_; clear hM M
      refine ok_block ?_
      refine ok_join [(1, .slice (some ⟨kp, op, none⟩) (n :: r).length cp), (2, .int .i64 (idx : Int)), (4, .pointer (some ⟨B1, 0, none⟩)), (7, .pointer (some ⟨B2, 0, none⟩)), (9, .int .i64 n), (10, .bool false), (24, .int .i64 g.kind), (25, .bool (decide (g.kind = 0 ∨ g.kind = 2)))] (fun W => W = w2) ?_ ?_
      · refine ok_seq (fun M hM => ok_region rfl ?_)
        repeat ((try subst X); (first | (first | apply zL | apply zH | apply zE); intro X hX | apply zh | apply zl | apply ze); try simp only [zU, reduceIte, Nat.reduceEqDiff, Nat.reduceAdd, reduceCtorEq, Q56])
        refine hM _ _ _ ?_; clear hM M
        by_cases h0 : g.kind = 0
        · refine ok_cond (b := true) (by simp [ev, Env.get, h0]) (fun _ => ok_skip ?_) (fun h => by cases h)
          simp [sub, Env.get, h0, thenN]
        · refine ok_cond (b := false) (by simp [ev, Env.get, h0]) (fun h => by cases h) (fun _ => ok_region rfl ?_)
          repeat ((try subst X); (first | (first | apply zL | apply zH | apply zE); intro X hX | apply zh | apply zl | apply ze); try simp only [zU, reduceIte, Nat.reduceEqDiff, Nat.reduceAdd, reduceCtorEq, Q56])
          simp [sub, Env.get, h0]
      rintro W hW
      subst hW
      by_cases hk02 : g.kind = 0 ∨ g.kind = 2
      · refine ok_cond (b := true) (by simp [ev, Env.get, hk02]) (fun _ => ?_) (fun h => by cases h)
        obtain ⟨A', c', hsl, hslR⟩ := run_sliceD (P := Tryz.prog) (w := W) Fx.un34 Fx.zi37 (hk.ext he02) (mapG_wid _) none (some n.toNat) .i64 .i64 (by simp; omega) (by simp)
        simp only [Option.map_some, Option.map_none, Option.getD_none, Option.getD_some, Nat.sub_zero, List.drop_zero, Int.toNat_of_nonneg hn0] at hsl hslR
        refine ok_region rfl ?_
        repeat ((try subst X); (first | (first | apply zL | apply zH | apply zE); intro X hX | apply zh | apply zl | apply ze); try simp only [zU, reduceIte, Nat.reduceEqDiff, Nat.reduceAdd, reduceCtorEq, Q56])
        refine ⟨_, Blk.cell (by assumption) rfl, ?_⟩
        repeat ((try subst X); (first | (first | apply zL | apply zH | apply zE); intro X hX | apply zh | apply zl | apply ze); try simp only [zU, reduceIte, Nat.reduceEqDiff, Nat.reduceAdd, reduceCtorEq, Q56])
        refine ⟨_, _, hsl W, ?_⟩
        repeat ((try subst X); (first | (first | apply zL | apply zH | apply zE); intro X hX | apply zh | apply zl | apply ze); try simp only [zU, reduceIte, Nat.reduceEqDiff, Nat.reduceAdd, reduceCtorEq, Q56])
        refine Inv.call Fx.en63 (containsc106 W S A' n.toNat c' (g.kids.take n.toNat) v _ (by rw [List.map_take]; exact hslR W S (hk.ext he02)) (by have := take_ht g.kids n.toNat; omega) hb2) ?_
        rintro _ w3 ⟨rfl, he3⟩
        repeat ((try subst X); (first | (first | apply zL | apply zH | apply zE); intro X hX | apply zh | apply zl | apply ze); try simp only [zU, reduceIte, Nat.reduceEqDiff, Nat.reduceAdd, reduceCtorEq, Q56])
        simp [sub, Env.get, wayG, hk02, aheadG, he3]
      · refine ok_cond (b := false) (by simp [ev, Env.get, hk02]) (fun h => by cases h) (fun _ => ?_)
        refine ok_seq (fun M hM => ok_region rfl ?_)
        repeat ((try subst X); (first | (first | apply zL | apply zH | apply zE); intro X hX | apply zh | apply zl | apply ze); try simp only [zU, reduceIte, Nat.reduceEqDiff, Nat.reduceAdd, reduceCtorEq, Q56])
        refine hM _ _ _ ?_; clear hM M
        by_cases h3 : g.kind = 3
        · refine ok_cond (b := true) (by simp [ev, Env.get, h3]) (fun _ => ?_) (fun h => by cases h)
          refine (ok_drawP [0, 1, 2, 3, 4, 5, 6, 7, 8, 9, 10] 8 [(false, true), (false, true), (false, true)] (Ext _) Fx.mixed (by decide) rfl (by decide +kernel) (by decide +kernel) (Ext.drew _) ?_); simp only [pickL, List.getElem?_cons_zero, List.getElem?_cons_succ, List.take_succ_cons, List.take_zero, List.drop_succ_cons, List.drop_zero]
          repeat ((try subst X); (first | (first | apply zL | apply zH | apply zE); intro X hX | apply zh | apply zl | apply ze); try simp only [zU, reduceIte, Nat.reduceEqDiff, Nat.reduceAdd, reduceCtorEq, Q56])
          by_cases h1 : n = 1
          · simp only [h1, decide_true]
            have hk0 : g.kids[0]? = some (g.kids[0]'(by omega)) := List.getElem?_eq_getElem _
            generalize g.kids[0]'(by omega) = k0 at hk0
            obtain ⟨k3, o3, r3, hA3, -, -, hc3, hr3⟩ := (hk.ext he02).row (j := 0) (row := encG k0) (by simp [hk0])
            subst hA3
            rw [encG_len] at hc3
            have hr3l : r3.length = 9 := by rw [hr3.len, encG_len]
            repeat ((try subst X); (first | (first | apply zL | apply zH | apply zE); intro X hX | apply zh | apply zl | apply ze); try simp only [zU, reduceIte, Nat.reduceEqDiff, Nat.reduceAdd, reduceCtorEq, Q56])
            refine ⟨fun _ => ?_, fun h => (by cases h)⟩
            repeat ((try subst X); (first | (first | apply zL | apply zH | apply zE); intro X hX | apply zh | apply zl | apply ze); try simp only [zU, reduceIte, Nat.reduceEqDiff, Nat.reduceAdd, reduceCtorEq, Q56])
            refine ⟨_, fun w' h => (hb1.ext h).cell rfl, ?_⟩
            repeat ((try subst X); (first | (first | apply zL | apply zH | apply zE); intro X hX | apply zh | apply zl | apply ze); try simp only [zU, reduceIte, Nat.reduceEqDiff, Nat.reduceAdd, reduceCtorEq, Q56])
            refine ⟨by omega, by omega, ?_⟩
            repeat ((try subst X); (first | (first | apply zL | apply zH | apply zE); intro X hX | apply zh | apply zl | apply ze); try simp only [zU, reduceIte, Nat.reduceEqDiff, Nat.reduceAdd, reduceCtorEq, Q56])
            refine ⟨r3, hr3l, fun w' h => h.cellsAt (by simpa [add_at] using hc3), ?_⟩
            repeat ((try subst X); (first | (first | apply zL | apply zH | apply zE); intro X hX | apply zh | apply zl | apply ze); try simp only [zU, reduceIte, Nat.reduceEqDiff, Nat.reduceAdd, reduceCtorEq, Q56])
            refine ⟨_, fun w' h => (hb2.ext h).cell rfl, ?_⟩
            repeat ((try subst X); (first | (first | apply zL | apply zH | apply zE); intro X hX | apply zh | apply zl | apply ze); try simp only [zU, reduceIte, Nat.reduceEqDiff, Nat.reduceAdd, reduceCtorEq, Q56])
            intro w6 he6
            repeat ((try subst X); (first | (first | apply zL | apply zH | apply zE); intro X hX | apply zh | apply zl | apply ze); try simp only [zU, reduceIte, Nat.reduceEqDiff, Nat.reduceAdd, reduceCtorEq, Q56])
            refine Inv.call Fx.en18 (occurs_ok w6 S r3 k0 v (hr3.ext he6) (by have := htGs_mem (List.mem_of_getElem? hk0); omega)) ?_
            rintro _ w7 ⟨rfl, he7⟩
            repeat ((try subst X); (first | (first | apply zL | apply zH | apply zE); intro X hX | apply zh | apply zl | apply ze); try simp only [zU, reduceIte, Nat.reduceEqDiff, Nat.reduceAdd, reduceCtorEq, Q56])
            simp [sub, Env.get, wayG, h3, h1, hk0, he6.trans he7]
          · simp only [h1, decide_false]
            repeat ((try subst X); (first | (first | apply zL | apply zH | apply zE); intro X hX | apply zh | apply zl | apply ze); try simp only [zU, reduceIte, Nat.reduceEqDiff, Nat.reduceAdd, reduceCtorEq, Q56])
            refine ⟨fun h => (by cases h), fun _ => ?_⟩
            repeat ((try subst X); (first | (first | apply zL | apply zH | apply zE); intro X hX | apply zh | apply zl | apply ze); try simp only [zU, reduceIte, Nat.reduceEqDiff, Nat.reduceAdd, reduceCtorEq, Q56])
            intro w6 he6
            repeat ((try subst X); (first | (first | apply zL | apply zH | apply zE); intro X hX | apply zh | apply zl | apply ze); try simp only [zU, reduceIte, Nat.reduceEqDiff, Nat.reduceAdd, reduceCtorEq, Q56])
            simp [sub, Env.get, wayG, h3, h1, he6]
        · refine ok_cond (b := false) (by simp [ev, Env.get, h3]) (fun h => by cases h) (fun _ => ?_)
          refine ok_seq (fun M hM => ok_region rfl ?_)
          repeat ((try subst X); (first | (first | apply zL | apply zH | apply zE); intro X hX | apply zh | apply zl | apply ze); try simp only [zU, reduceIte, Nat.reduceEqDiff, Nat.reduceAdd, reduceCtorEq, Q56])
          refine hM _ _ _ ?_; clear hM M
          by_cases h6 : g.kind = 6
          · refine ok_cond (b := true) (by simp [ev, Env.get, h6]) (fun _ => ?_) (fun h => by cases h)
            refine ok_region rfl ?_
            repeat ((try subst X); (first | (first | apply zL | apply zH | apply zE); intro X hX | apply zh | apply zl | apply ze); try simp only [zU, reduceIte, Nat.reduceEqDiff, Nat.reduceAdd, reduceCtorEq, Q56])
            refine ⟨_, Blk.cell (by assumption) rfl, ?_⟩
            repeat ((try subst X); (first | (first | apply zL | apply zH | apply zE); intro X hX | apply zh | apply zl | apply ze); try simp only [zU, reduceIte, Nat.reduceEqDiff, Nat.reduceAdd, reduceCtorEq, Q56])
            refine ⟨_, Blk.cell (by assumption) rfl, ?_⟩
            repeat ((try subst X); (first | (first | apply zL | apply zH | apply zE); intro X hX | apply zh | apply zl | apply ze); try simp only [zU, reduceIte, Nat.reduceEqDiff, Nat.reduceAdd, reduceCtorEq, Q56])
            simp [sub, Env.get, wayG, h6, Ext.refl]
          · refine ok_cond (b := false) (by simp [ev, Env.get, h6]) (fun h => by cases h) (fun _ => ok_skip ?_)
            simp [sub, Env.get, wayG, hk02, h3, h6, Ext.refl, thenN, inBlockN]
    rintro W heW
    replace hb1 := hb1.ext heW
    replace hb2 := hb2.ext heW
    have he0W := he02.trans heW
    obtain ⟨k2, o2, rk, hA2, -, -, hck, hrk⟩ := (hk.ext he0W).row (j := n.toNat) (row := encG kd) (by simp [hkd])
    subst hA2
    rw [encG_len] at hck
    have hrkl : rk.length = 9 := by rw [hrk.len, encG_len]
    obtain ⟨Asl, csl, hsl, hslR⟩ := run_sliceD (P := Tryz.prog) (w := W) Fx.un29 Fx.zi3 (hp.ext he0W) (ints_wid _) (some 1) none .i64 .i64 (by simp) (by simp)
    simp only [Option.map_some, Option.map_none, Option.getD_none, Option.getD_some] at hsl hslR
    refine ok_seq (fun M hM => ?_)
    refine (ok_drawP [0, 1, 2, 3, 4, 5, 6, 7, 8, 9, 10, 11, 12, 13] 11 [(false, true), (false, true), (false, true)] (Ext _) Fx.mixed (by decide) rfl (by decide +kernel) (by decide +kernel) (Ext.drew _) ?_); simp only [pickL, List.getElem?_cons_zero, List.getElem?_cons_succ, List.take_succ_cons, List.take_zero, List.drop_succ_cons, List.drop_zero]
    repeat ((try subst X); (first | (first | apply zL | apply zH | apply zE); intro X hX | apply zh | apply zl | apply ze); try simp only [zU, reduceIte, Nat.reduceEqDiff, Nat.reduceAdd, reduceCtorEq, Q56])
    cases hw : wayG g n v with
    | true =>
      repeat ((try subst X); (first | (first | apply zL | apply zH | apply zE); intro X hX | apply zh | apply zl | apply ze); try simp only [zU, reduceIte, Nat.reduceEqDiff, Nat.reduceAdd, reduceCtorEq, Q56])
      refine ⟨fun h => (by cases h), fun _ => ?_⟩
      repeat ((try subst X); (first | (first | apply zL | apply zH | apply zE); intro X hX | apply zh | apply zl | apply ze); try simp only [zU, reduceIte, Nat.reduceEqDiff, Nat.reduceAdd, reduceCtorEq, Q56])
      intro w6 he6
      repeat ((try subst X); (first | (first | apply zL | apply zH | apply zE); intro X hX | apply zh | apply zl | apply ze); try simp only [zU, reduceIte, Nat.reduceEqDiff, Nat.reduceAdd, reduceCtorEq, Q56])
      refine hM _ _ _ ?_; clear hM M
      refine ok_ret ?_
      try simp only [zW, zU, reduceIte, Nat.reduceEqDiff, Nat.reduceAdd, reduceCtorEq, Q56]
      exact ⟨by simp [hw], he0W.trans he6⟩
    | false =>
      repeat ((try subst X); (first | (first | apply zL | apply zH | apply zE); intro X hX | apply zh | apply zl | apply ze); try simp only [zU, reduceIte, Nat.reduceEqDiff, Nat.reduceAdd, reduceCtorEq, Q56])
      refine ⟨fun _ => ?_, fun h => (by cases h)⟩
      repeat ((try subst X); (first | (first | apply zL | apply zH | apply zE); intro X hX | apply zh | apply zl | apply ze); try simp only [zU, reduceIte, Nat.reduceEqDiff, Nat.reduceAdd, reduceCtorEq, Q56])
      refine ⟨_, fun w' h => (hb1.ext h).cell rfl, ?_⟩
      repeat ((try subst X); (first | (first | apply zL | apply zH | apply zE); intro X hX | apply zh | apply zl | apply ze); try simp only [zU, reduceIte, Nat.reduceEqDiff, Nat.reduceAdd, reduceCtorEq, Q56])
      refine ⟨by omega, by omega, ?_⟩
      repeat ((try subst X); (first | (first | apply zL | apply zH | apply zE); intro X hX | apply zh | apply zl | apply ze); try simp only [zU, reduceIte, Nat.reduceEqDiff, Nat.reduceAdd, reduceCtorEq, Q56])
      refine ⟨rk, hrkl, fun w' h => h.cellsAt (by simpa [add_at] using hck), ?_⟩
      repeat ((try subst X); (first | (first | apply zL | apply zH | apply zE); intro X hX | apply zh | apply zl | apply ze); try simp only [zU, reduceIte, Nat.reduceEqDiff, Nat.reduceAdd, reduceCtorEq, Q56])
      refine ⟨_, fun w' _ => hsl w', ?_⟩
      repeat ((try subst X); (first | (first | apply zL | apply zH | apply zE); intro X hX | apply zh | apply zl | apply ze); try simp only [zU, reduceIte, Nat.reduceEqDiff, Nat.reduceAdd, reduceCtorEq, Q56])
      refine ⟨_, fun w' h => (hb2.ext h).cell rfl, ?_⟩
      repeat ((try subst X); (first | (first | apply zL | apply zH | apply zE); intro X hX | apply zh | apply zl | apply ze); try simp only [zU, reduceIte, Nat.reduceEqDiff, Nat.reduceAdd, reduceCtorEq, Q56])
      intro w6 he6
      repeat ((try subst X); (first | (first | apply zL | apply zH | apply zE); intro X hX | apply zh | apply zl | apply ze); try simp only [zU, reduceIte, Nat.reduceEqDiff, Nat.reduceAdd, reduceCtorEq, Q56])
      refine Inv.call Fx.en56 (ih w6 S rk kd last _ idx v (hrk.ext he6) ?_ hf hidx (by omega)) ?_
      · have := hslR w6 _ (hp.ext (he0W.trans he6))
        simp only [List.length_map, List.map_cons, List.length_cons] at this
        rw [List.take_of_length_le (by simp)] at this
        simpa using this
      rintro _ w7 ⟨rfl, he7⟩
      repeat ((try subst X); (first | (first | apply zL | apply zH | apply zE); intro X hX | apply zh | apply zl | apply ze); try simp only [zU, reduceIte, Nat.reduceEqDiff, Nat.reduceAdd, reduceCtorEq, Q56])
      refine hM _ _ _ ?_; clear hM M
      refine ok_ret ?_
      try simp only [zW, zU, reduceIte, Nat.reduceEqDiff, Nat.reduceAdd, reduceCtorEq, Q56]
      exact ⟨by rw [hw]; rfl, (he0W.trans he6).trans he7⟩
end Go.Proofs.YtcpjojaklpgnkaaGreat
/- Chapter 31: Bound.  -/
set_option linter.unusedVariables false
set_option linter.unusedSimpArgs false
namespace Go.Proofs.YtcpjojaklpgnkaaGreat
open Go Go.Proofs.Vg Go.RowKit
theorem findG_ht : ∀ (path : List Int) (g last : G), findG g path = some last → last.ht ≤ g.ht
  | [], g, last, h => by cases h; exact Nat.le_refl _
  | n :: r, g, last, h => by
    obtain ⟨k, -, -, hk, hf⟩ := findG_cons (by rw [h]; rfl)
    rw [hf] at h
    have := findG_ht r k last h
    have := htGs_mem (List.mem_of_getElem? hk)
    rw [G.ht_eq g]; omega
-- -- function 20
set_option maxHeartbeats 8000000 in
set_option maxRecDepth 8000 in
theorem Bound_ok (w : World) (S : Nat → Prop) (cs : List Value) (p : Pr) (insts : List In) (vi vp : Value) (path : List Int) (idx v : Int) (h : Rd w S cs (encP p)) (hi : Rd w S [vi] [.sl 64 (insts.map encI)]) (hp : Rd w S [vp] [isD path]) (hh : p.body.ht ≤ 549755813888) :
    Rets Tryz.prog 20 [.agg cs.toArray, vi, vp, .int .i64 idx, .int .i64 v] w (fun r w' => r = .bool (boundP p insts path idx v) ∧ Ext w w') := by
  replace h := h.old
  replace hp := hp.old
  replace hi := hi.old
  have h0 := h
  have hcl := h.len
  obtain ⟨Av, cv, Ah, ch, Am, cm, Aa, ca, Ak, ck, Ac, cc, rfl, -, hhd, hm, hb⟩ := rdP h
  refine rets_of_ok Tryz.func20 rfl rfl ?_
  refine ok_seq (fun M hM => ok_region rfl ?_)
  repeat ((try subst X); (first | (first | apply zL | apply zH | apply zE); intro X hX | apply zh | apply zl | apply ze); try simp only [zU, reduceIte, Nat.reduceEqDiff, Nat.reduceAdd, reduceCtorEq, Q20])
  refine Runs.box (fun w1 he1 hs1 hb1 => ?_)
  rw [agg_cells] at hb1
  generalize hB1 : w.heap.size = B1 at *
  repeat ((try subst X); (first | (first | apply zL | apply zH | apply zE); intro X hX | apply zh | apply zl | apply ze); try simp only [zU, reduceIte, Nat.reduceEqDiff, Nat.reduceAdd, reduceCtorEq, Q20])
  refine hM _ _ _ ?_; clear hM M
  refine ok_seq (fun M hM => ok_region rfl ?_)
  repeat ((try subst X); (first | (first | apply zL | apply zH | apply zE); intro X hX | apply zh | apply zl | apply ze); try simp only [zU, reduceIte, Nat.reduceEqDiff, Nat.reduceAdd, reduceCtorEq, Q20])
  refine ⟨[.int .i64 p.body.kind, .int .i64 p.body.left, .int .i64 p.body.num, .string p.body.text, .int .i64 p.body.form, .slice Aa p.body.args.length ca, .slice Ak p.body.kids.length ck, .slice Ac p.body.cases.length cc, .int .i64 p.body.pos], rfl, Blk.at_ (o := 6) hb1 rfl, ?_⟩
  repeat ((try subst X); (first | (first | apply zL | apply zH | apply zE); intro X hX | apply zh | apply zl | apply ze); try simp only [zU, reduceIte, Nat.reduceEqDiff, Nat.reduceAdd, reduceCtorEq, Q20])
  refine Inv.call Fx.en16 (find_ok w1 _ _ p.body vp path (hb.ext he1) (hp.ext he1)) ?_
  rintro _ w2 ⟨he2, c2, rfl, hr2⟩
  have hl2 : c2.length = 9 := by rw [hr2.len, encG_len]
  repeat ((try subst X); (first | (first | apply zL | apply zH | apply zE); intro X hX | apply zh | apply zl | apply ze); try simp only [zU, reduceIte, Nat.reduceEqDiff, Nat.reduceAdd, reduceCtorEq, Q20])
  refine Runs.alloc Fx.zi37 (fun w3a he3a hs3a hb3a => ?_)
  simp only [Value.cells] at hb3a
  generalize hB3 : w2.heap.size = B3 at *
  repeat ((try subst X); (first | (first | apply zL | apply zH | apply zE); intro X hX | apply zh | apply zl | apply ze); try simp only [zU, reduceIte, Nat.reduceEqDiff, Nat.reduceAdd, reduceCtorEq, Q20])
  refine Runs.store hb3a Fx.zi37 (by simpa [Value.cells] using hl2) (fun u hu => (hr2.one u (by simpa [Value.cells] using hu)).1) (by simp [Value.cells]) (fun w3 hc3 hs3 hb3 => ?_)
  rw [agg_cells, splice_all _ _ (by simpa [Value.cells] using hl2)] at hb3
  have he3 : Ext w2 w3 := he3a.chg_trans hc3 (by omega)
  have he03 := (he1.trans he2).trans he3
  have hr3 : Rd w3 (fun k => k < B3) c2 (encG ((findG p.body path).getD zeroG)) := (hr2.mono (S' := fun k => k < B3) (fun k _ hl => by omega)).ext he3
  repeat ((try subst X); (first | (first | apply zL | apply zH | apply zE); intro X hX | apply zh | apply zl | apply ze); try simp only [zU, reduceIte, Nat.reduceEqDiff, Nat.reduceAdd, reduceCtorEq, Q20])
  refine hM _ _ _ ?_; clear hM M
  have hz12 := he2.size
  replace hb1 := hb1.ext (he2.trans he3)
  cases hf : findG p.body path with
  | none =>
    have hbp : boundP p insts path idx v = false := by simp [boundP, hf]
    refine ok_seq (fun M0 hM0 => ok_seq (fun M hM => ok_region rfl ?_))
    simp only [Option.isSome_none]
    repeat ((try subst X); (first | (first | apply zL | apply zH | apply zE); intro X hX | apply zh | apply zl | apply ze); try simp only [zU, reduceIte, Nat.reduceEqDiff, Nat.reduceAdd, reduceCtorEq, Q20])
    refine hM _ _ _ ?_; clear hM M
    refine ok_cond rfl (fun _ => ?_) (fun h => by cases h)
    refine ok_seq (fun M hM => ok_region rfl ?_); repeat ((try subst X); (first | (first | apply zL | apply zH | apply zE); intro X hX | apply zh | apply zl | apply ze); try simp only [zU, reduceIte, Nat.reduceEqDiff, Nat.reduceAdd, reduceCtorEq, Q20])
    refine hM _ _ _ ?_; clear hM M
    refine ok_ret ?_
    try simp only [zW, zU, reduceIte, Nat.reduceEqDiff, Nat.reduceAdd, reduceCtorEq, Q20]
    exact ⟨by rw [hbp], he03⟩
  | some last =>
    rw [hf] at hr3
    simp only [Option.getD_some] at hr3
    obtain ⟨Ba, ba, Bk, bk, Bc, bc, rfl, -, hk, -⟩ := rdG hr3
    refine ok_seq (fun M0 hM0 => ?_)
    refine ok_join [(1, vi), (2, vp), (3, .int .i64 idx), (4, .int .i64 v), (5, .pointer (some ⟨B1, 0, none⟩)), (37, .bool (decide (last.kind ≠ 0 ∨ idx < 0 ∨ (last.kids.length : Int) < idx)))] (fun W => w3 = W) ?_ ?_
    · refine ok_region rfl ?_
      simp only [Option.isSome_some]
      repeat ((try subst X); (first | (first | apply zL | apply zH | apply zE); intro X hX | apply zh | apply zl | apply ze); try simp only [zU, reduceIte, Nat.reduceEqDiff, Nat.reduceAdd, reduceCtorEq, Q20])
      refine ⟨_, Blk.cell (by assumption) rfl, ?_⟩
      repeat ((try subst X); (first | (first | apply zL | apply zH | apply zE); intro X hX | apply zh | apply zl | apply ze); try simp only [zU, reduceIte, Nat.reduceEqDiff, Nat.reduceAdd, reduceCtorEq, Q20])
      by_cases h1 : last.kind = 0
      · simp only [h1, decide_true]
        repeat ((try subst X); (first | (first | apply zL | apply zH | apply zE); intro X hX | apply zh | apply zl | apply ze); try simp only [zU, reduceIte, Nat.reduceEqDiff, Nat.reduceAdd, reduceCtorEq, Q20])
        refine ⟨fun _ => ?_, fun h => by cases h⟩
        repeat ((try subst X); (first | (first | apply zL | apply zH | apply zE); intro X hX | apply zh | apply zl | apply ze); try simp only [zU, reduceIte, Nat.reduceEqDiff, Nat.reduceAdd, reduceCtorEq, Q20])
        by_cases h2 : idx < 0
        · simp only [h2, decide_true]
          repeat ((try subst X); (first | (first | apply zL | apply zH | apply zE); intro X hX | apply zh | apply zl | apply ze); try simp only [zU, reduceIte, Nat.reduceEqDiff, Nat.reduceAdd, reduceCtorEq, Q20])
          refine ⟨fun h => (by cases h), fun _ => ?_⟩
          repeat ((try subst X); (first | (first | apply zL | apply zH | apply zE); intro X hX | apply zh | apply zl | apply ze); try simp only [zU, reduceIte, Nat.reduceEqDiff, Nat.reduceAdd, reduceCtorEq, Q20])
          simp [sub, Env.get, h1, h2]
        · simp only [h2, decide_false]
          repeat ((try subst X); (first | (first | apply zL | apply zH | apply zE); intro X hX | apply zh | apply zl | apply ze); try simp only [zU, reduceIte, Nat.reduceEqDiff, Nat.reduceAdd, reduceCtorEq, Q20])
          refine ⟨fun _ => ?_, fun h => (by cases h)⟩
          repeat ((try subst X); (first | (first | apply zL | apply zH | apply zE); intro X hX | apply zh | apply zl | apply ze); try simp only [zU, reduceIte, Nat.reduceEqDiff, Nat.reduceAdd, reduceCtorEq, Q20])
          refine ⟨_, Blk.cell (by assumption) rfl, ?_⟩
          repeat ((try subst X); (first | (first | apply zL | apply zH | apply zE); intro X hX | apply zh | apply zl | apply ze); try simp only [zU, reduceIte, Nat.reduceEqDiff, Nat.reduceAdd, reduceCtorEq, Q20])
          simp [sub, Env.get, h1, h2]
      · simp only [h1, decide_false]
        repeat ((try subst X); (first | (first | apply zL | apply zH | apply zE); intro X hX | apply zh | apply zl | apply ze); try simp only [zU, reduceIte, Nat.reduceEqDiff, Nat.reduceAdd, reduceCtorEq, Q20])
        refine ⟨fun h => (by cases h), fun _ => ?_⟩
        repeat ((try subst X); (first | (first | apply zL | apply zH | apply zE); intro X hX | apply zh | apply zl | apply ze); try simp only [zU, reduceIte, Nat.reduceEqDiff, Nat.reduceAdd, reduceCtorEq, Q20])
        simp [sub, Env.get, h1]
    rintro _ rfl
    by_cases hbad : last.kind ≠ 0 ∨ idx < 0 ∨ (last.kids.length : Int) < idx
    · have hbp : boundP p insts path idx v = false := by simp only [boundP, hf]; rw [if_pos hbad]
      refine ok_cond (b := true) (by simp only [ev, Env.get, reduceIte, Nat.reduceEqDiff, hbad, decide_true]) (fun _ => ?_) (fun h => by cases h)
      refine ok_seq (fun M hM => ok_region rfl ?_); repeat ((try subst X); (first | (first | apply zL | apply zH | apply zE); intro X hX | apply zh | apply zl | apply ze); try simp only [zU, reduceIte, Nat.reduceEqDiff, Nat.reduceAdd, reduceCtorEq, Q20])
      refine hM _ _ _ ?_; clear hM M
      refine ok_ret ?_
      try simp only [zW, zU, reduceIte, Nat.reduceEqDiff, Nat.reduceAdd, reduceCtorEq, Q20]
      exact ⟨by rw [hbp], he03⟩
    · have hbp : boundP p insts path idx v = (givenP p insts v || boundW p.body path idx.toNat v) := by simp only [boundP, hf]; rw [if_neg hbad]
      refine ok_cond (b := false) (by simp only [ev, Env.get, reduceIte, Nat.reduceEqDiff, hbad, decide_false]) (fun h => by cases h) (fun _ => ok_skip ?_)
      refine hM0 _ _ _ ?_; clear hM0 M0
      refine ok_seq (fun M0 hM0 => ok_seq (fun M hM => ok_region rfl ?_))
      repeat ((try subst X); (first | (first | apply zL | apply zH | apply zE); intro X hX | apply zh | apply zl | apply ze); try simp only [zU, reduceIte, Nat.reduceEqDiff, Nat.reduceAdd, reduceCtorEq, Q20])
      refine ⟨_, rfl, Blk.all (by assumption), ?_⟩
      repeat ((try subst X); (first | (first | apply zL | apply zH | apply zE); intro X hX | apply zh | apply zl | apply ze); try simp only [zU, reduceIte, Nat.reduceEqDiff, Nat.reduceAdd, reduceCtorEq, Q20])
      refine Inv.call Fx.en55 (given_ok w3 _ _ p insts vi v (h0.ext he03) (hi.ext he03)) ?_
      rintro _ w4 ⟨rfl, he4⟩
      repeat ((try subst X); (first | (first | apply zL | apply zH | apply zE); intro X hX | apply zh | apply zl | apply ze); try simp only [zU, reduceIte, Nat.reduceEqDiff, Nat.reduceAdd, reduceCtorEq, Q20])
      refine hM _ _ _ ?_; clear hM M
      have he04 := he03.trans he4
      replace hb1 := hb1.ext he4
      cases hg : givenP p insts v with
      | true =>
        refine ok_cond rfl (fun _ => ?_) (fun h => by cases h)
        refine ok_seq (fun M hM => ok_region rfl ?_); repeat ((try subst X); (first | (first | apply zL | apply zH | apply zE); intro X hX | apply zh | apply zl | apply ze); try simp only [zU, reduceIte, Nat.reduceEqDiff, Nat.reduceAdd, reduceCtorEq, Q20])
        refine hM _ _ _ ?_; clear hM M
        refine ok_ret ?_
        try simp only [zW, zU, reduceIte, Nat.reduceEqDiff, Nat.reduceAdd, reduceCtorEq, Q20]
        exact ⟨by rw [hbp, hg]; rfl, he04⟩
      | false =>
        refine ok_cond rfl (fun h => by cases h) (fun _ => ok_skip ?_)
        refine hM0 _ _ _ ?_; clear hM0 M0
        refine ok_seq (fun M hM => ok_region rfl ?_)
        repeat ((try subst X); (first | (first | apply zL | apply zH | apply zE); intro X hX | apply zh | apply zl | apply ze); try simp only [zU, reduceIte, Nat.reduceEqDiff, Nat.reduceAdd, reduceCtorEq, Q20])
        refine ⟨[.int .i64 p.body.kind, .int .i64 p.body.left, .int .i64 p.body.num, .string p.body.text, .int .i64 p.body.form, .slice Aa p.body.args.length ca, .slice Ak p.body.kids.length ck, .slice Ac p.body.cases.length cc, .int .i64 p.body.pos], rfl, Blk.at_ (o := 6) hb1 rfl, ?_⟩
        repeat ((try subst X); (first | (first | apply zL | apply zH | apply zE); intro X hX | apply zh | apply zl | apply ze); try simp only [zU, reduceIte, Nat.reduceEqDiff, Nat.reduceAdd, reduceCtorEq, Q20])
        have hix : idx = ((idx.toNat : Nat) : Int) := by omega
        refine Inv.call Fx.en56 (by have := bound_ok path w4 _ _ p.body last vp idx.toNat v (hb.ext he04) (hp.ext he04) hf (by omega) hh; rw [← hix] at this; exact this) ?_
        rintro _ w5 ⟨rfl, he5⟩
        repeat ((try subst X); (first | (first | apply zL | apply zH | apply zE); intro X hX | apply zh | apply zl | apply ze); try simp only [zU, reduceIte, Nat.reduceEqDiff, Nat.reduceAdd, reduceCtorEq, Q20])
        refine hM _ _ _ ?_; clear hM M
        refine ok_ret ?_
        try simp only [zW, zU, reduceIte, Nat.reduceEqDiff, Nat.reduceAdd, reduceCtorEq, Q20]
        exact ⟨by rw [hbp, hg]; rfl, he04.trans he5⟩
end Go.Proofs.YtcpjojaklpgnkaaGreat
