/- Part 11 of 12: N32, N29, N30, Vg52, N33, Vg53. -/
import Derived.Test.YtcpjojaklpgnkaaGreatM10
import Derived.Test.YtcpjojaklpgnkaaGreatM8
import Derived.Test.YtcpjojaklpgnkaaGreatM4
import Derived.Test.YtcpjojaklpgnkaaGreatM6
/- Chapter 31: parts, of one argument that is not bound.  -/
set_option linter.unusedVariables false
set_option linter.unusedSimpArgs false
namespace Go.Proofs.YtcpjojaklpgnkaaGreat
open Go Go.Proofs.Vg Go.RowKit
/-- The goal by which an argument is one that was put in. -/
def partG (v x pos : Int) : G := .mk 7 v 0 ByteArray.empty 1 [x] [] [] pos
-- -- function 178
set_option maxHeartbeats 8000000 in
set_option maxRecDepth 8000 in
theorem parts_ok (w : World) (S : Nat → Prop) (B Bs : Nat) (acs scs pcs cm cu : List Value) (pa : Addr) (p : Pr) (insts : List In) (vi vp : Value) (path : List Int) (K v x : Int) (made used : G)
    (hb : Blk w B acs 134) (h0 : acs[0]? = some (.pointer (some ⟨Bs, 0, none⟩))) (h1 : acs[1]? = some (.pointer (some pa))) (h4 : acs[4]? = some vp) (h6 : acs[6]? = some (.int .i64 K)) (hbs : Blk w Bs scs 31) (hs1 : scs[1]? = some vi) (hi' : Rd w S [vi] [.sl 64 (insts.map encI)]) (hpt : Rd w S [vp] [isD path]) (hpc : cellsAt w pa pcs) (hp : Rd w S pcs (encP p))
    (hm : Rd w S cm (encG made)) (hu : Rd w S cu (encG used)) (hma : made.args = [x]) (hua : used.args = [v]) (hh : p.body.ht ≤ 549755813888) (hnb : boundP p insts path K v = false) :
    Rets Tryz.prog 178 [.pointer (some ⟨B, 0, none⟩), .agg cm.toArray, .agg cu.toArray] w (fun r w' => Ext w w' ∧ Own w' (fun k => w.heap.size ≤ k) w.heap.size 37 9 r ([partG v x used.pos].map encG)) := by
  replace hm := hm.old
  replace hu := hu.old
  have hpl : pcs.length = 17 := hp.len
  obtain ⟨Aa, ca, Ak, ck, Ac, cc, rfl, ha, -, -⟩ := rdG hm
  obtain ⟨Ba, ba, Bk, bk, Bc, bc, rfl, hb5, -, -⟩ := rdG hu
  rw [hma] at ha
  rw [hua] at hb5
  obtain ⟨_, _, e1, -, hai⟩ := ha.ints
  cases e1
  obtain ⟨_, _, e1, -, hbi⟩ := hb5.ints
  cases e1
  obtain ⟨ka, oa, rfl, hkal, hac⟩ := hai 0 x rfl
  obtain ⟨kb, ob, rfl, hkbl, hbc⟩ := hbi 0 v rfl
  rw [hma, hua]
  simp only [List.length_singleton, Nat.add_zero] at hac hbc ⊢
  refine rets_of_ok Tryz.func178 rfl rfl ?_
  refine ok_seq (fun M hM => ok_region rfl ?_)
  repeat ((try subst X); (first | (first | apply zL | apply zH | apply zE); intro X hX | apply zh | apply zl | apply ze); try simp only [zU, reduceIte, Nat.reduceEqDiff, Nat.reduceAdd, reduceCtorEq, Q178])
  refine Runs.box (fun w1 he1 hs1' hb1 => ?_)
  rw [agg_cells] at hb1
  generalize hB1 : w.heap.size = B1 at *
  repeat ((try subst X); (first | (first | apply zL | apply zH | apply zE); intro X hX | apply zh | apply zl | apply ze); try simp only [zU, reduceIte, Nat.reduceEqDiff, Nat.reduceAdd, reduceCtorEq, Q178])
  refine Runs.box (fun w2 he2 hs2 hb2 => ?_)
  rw [agg_cells] at hb2
  generalize hB2 : w1.heap.size = B2 at *
  repeat ((try subst X); (first | (first | apply zL | apply zH | apply zE); intro X hX | apply zh | apply zl | apply ze); try simp only [zU, reduceIte, Nat.reduceEqDiff, Nat.reduceAdd, reduceCtorEq, Q178])
  refine hM _ _ _ ?_; clear hM M
  replace hb1 := hb1.ext he2
  have he02 := he1.trans he2
  refine ok_seq (fun M hM => ok_region rfl ?_); repeat ((try subst X); (first | (first | apply zL | apply zH | apply zE); intro X hX | apply zh | apply zl | apply ze); try simp only [zU, reduceIte, Nat.reduceEqDiff, Nat.reduceAdd, reduceCtorEq, Q178])
  refine hM _ _ _ ?_; clear hM M
  refine ok_seq (fun M0 hM0 => ?_)
  refine ok_seq (fun M hM => ok_region rfl ?_)
  repeat ((try subst X); (first | (first | apply zL | apply zH | apply zE); intro X hX | apply zh | apply zl | apply ze); try simp only [zU, reduceIte, Nat.reduceEqDiff, Nat.reduceAdd, reduceCtorEq, Q178])
  refine ⟨_, Blk.cell (by assumption) rfl, ?_⟩
  repeat ((try subst X); (first | (first | apply zL | apply zH | apply zE); intro X hX | apply zh | apply zl | apply ze); try simp only [zU, reduceIte, Nat.reduceEqDiff, Nat.reduceAdd, reduceCtorEq, Q178])
  refine hM _ _ _ ?_; clear hM M
  refine ok_forS (n := 1) (fun i x => [(0, .pointer (some ⟨B, 0, none⟩)), (4, .pointer (some ⟨B1, 0, none⟩)), (5, .pointer (some ⟨B2, 0, none⟩)), (12, .slice (some ⟨kb, ob, none⟩) 1 ba), (7, x)]) (fun i y W => Ext w2 W ∧ ((i = 0 ∧ y = .slice none 0 0) ∨ (i = 1 ∧ Own W (fun k => B1 ≤ k) B1 37 9 y ([partG v x used.pos].map encG)))) (.slice none 0 0) (fun i x => rfl) (fun i x => by simp [sub, Env.get]) rfl (by simp [sub, Env.get]) (by decide) ⟨Ext.refl _, .inl ⟨rfl, rfl⟩⟩ ?_ ?_
  · rintro i y W hi ⟨he, hy⟩
    obtain rfl : i = 0 := by omega
    obtain ⟨-, rfl⟩ : True ∧ y = .slice none 0 0 := by
      rcases hy with hy | hy
      · exact ⟨trivial, hy.2⟩
      · omega
    have he0 := he02.trans he
    replace hb1 := hb1.ext he
    replace hb2 := hb2.ext he
    replace hb := hb.ext he0
    replace hbs := hbs.ext he0
    have hzW := he.size
    have hz1 := he1.size
    have hz2 := he2.size
    refine ok_seq (fun M hM => ok_region rfl ?_)
    repeat ((try subst X); (first | (first | apply zL | apply zH | apply zE); intro X hX | apply zh | apply zl | apply ze); try simp only [zU, reduceIte, Nat.reduceEqDiff, Nat.reduceAdd, reduceCtorEq, Q178])
    refine ⟨by decide, by decide, ?_⟩
    repeat ((try subst X); (first | (first | apply zL | apply zH | apply zE); intro X hX | apply zh | apply zl | apply ze); try simp only [zU, reduceIte, Nat.reduceEqDiff, Nat.reduceAdd, reduceCtorEq, Q178])
    refine ⟨.int .i64 v, by simpa [add_at] using he0.cell hbc, ?_⟩
    repeat ((try subst X); (first | (first | apply zL | apply zH | apply zE); intro X hX | apply zh | apply zl | apply ze); try simp only [zU, reduceIte, Nat.reduceEqDiff, Nat.reduceAdd, reduceCtorEq, Q178])
    refine hM _ _ _ ?_; clear hM M
    refine ok_seq (fun M hM => ?_)
    obtain ⟨T, hT⟩ : ∃ T : List (Nat × Ent), T = [(19, .c (.int .i64 v)), (20, .c (.pointer (some ⟨B1, 5, none⟩))), (21, .c (.slice (some ⟨ka, oa, none⟩) 1 ca)), (22, .c (.int .i64 0)), (23, .c (.pointer (some ⟨ka, oa, none⟩))), (24, .c (.int .i64 x)), (25, .b (fun b => .slice (some ⟨b, 0, none⟩) 1 1) [.int .i64 x] 3 W.heap.size), (26, .c (.pointer (some ⟨B2, 8, none⟩))), (27, .c (.int .i64 used.pos)),
      (28, .b (fun b => .agg #[.int .i64 7, .int .i64 v, .int .i64 0, .string ByteArray.empty, .int .i64 1, .slice (some ⟨b, 0, none⟩) 1 1, .slice none 0 0, .slice none 0 0, .int .i64 used.pos]) [.int .i64 x] 3 W.heap.size), (10, .c undef)] := ⟨_, rfl⟩
    refine ok_tabE T [(0, .pointer (some ⟨B, 0, none⟩)), (4, .pointer (some ⟨B1, 0, none⟩)), (5, .pointer (some ⟨B2, 0, none⟩)), (7, .slice none 0 0), (8, .int .i64 0), (9, .int .i64 v), (12, .slice (some ⟨kb, ob, none⟩) 1 ba), (13, .int .i64 1), (14, .int .i64 0)] 10 10 37 Fx.mixed rfl rfl (by rw [hT]; rfl) (by rw [hT]; rfl) rfl ⟨rfl, rfl, rfl⟩ (by rw [hT]; exact ⟨_, rfl⟩) Fx.zi37 (by simp [sub, Env.get]) (by simp [sub, Env.get]) (by rw [hT]; rfl) ?_ ?_
    · intro Yx L K7 W i o hYx hJ ho hi' hia hno M hM
      have g4 := hJ.get 4 (v := .pointer (some ⟨B1, 0, none⟩)) rfl
      have g5 := hJ.get 5 (v := .pointer (some ⟨B2, 0, none⟩)) rfl
      have g8 := hJ.get 8 (v := .int .i64 0) rfl
      have g9 := hJ.get 9 (v := .int .i64 v) rfl
      have heW := hJ.ext
      have at_ := hJ.at_
      clear hJ
      subst hT
      simp only [List.length_cons, List.length_nil, Nat.zero_add, Nat.reduceAdd] at hi'
      obtain rfl | rfl | rfl | rfl | rfl | rfl | rfl | rfl | rfl | rfl : i = 0 ∨ i = 1 ∨ i = 2 ∨ i = 3 ∨ i = 4 ∨ i = 5 ∨ i = 6 ∨ i = 7 ∨ i = 8 ∨ i = 9 := by omega
      all_goals (simp only [List.getElem?_cons_zero, List.getElem?_cons_succ, Option.some.injEq] at ho; subst ho)
      · repeat ((try subst X); (first | (first | apply zL | apply zH | apply zE); intro X hX | apply zh | apply zl | apply ze); try simp only [zU, reduceIte, Nat.reduceEqDiff, Nat.reduceAdd, reduceCtorEq, Q178])
        simp only [g9]
        repeat ((try subst X); (first | (first | apply zL | apply zH | apply zE); intro X hX | apply zh | apply zl | apply ze); try simp only [zU, reduceIte, Nat.reduceEqDiff, Nat.reduceAdd, reduceCtorEq, Q178])
        exact hM 19 _ _ _ rfl (Ext.refl _) rfl
      · repeat ((try subst X); (first | (first | apply zL | apply zH | apply zE); intro X hX | apply zh | apply zl | apply ze); try simp only [zU, reduceIte, Nat.reduceEqDiff, Nat.reduceAdd, reduceCtorEq, Q178])
        simp only [g4]
        repeat ((try subst X); (first | (first | apply zL | apply zH | apply zE); intro X hX | apply zh | apply zl | apply ze); try simp only [zU, reduceIte, Nat.reduceEqDiff, Nat.reduceAdd, reduceCtorEq, Q178])
        exact hM 20 _ _ _ rfl (Ext.refl _) rfl
      · obtain ⟨_, q, rfl⟩ := at_ 1 20 _ rfl (by decide) (hno 1 (by decide))
        repeat ((try subst X); (first | (first | apply zL | apply zH | apply zE); intro X hX | apply zh | apply zl | apply ze); try simp only [zU, reduceIte, Nat.reduceEqDiff, Nat.reduceAdd, reduceCtorEq, Q178])
        simp only [q]
        repeat ((try subst X); (first | (first | apply zL | apply zH | apply zE); intro X hX | apply zh | apply zl | apply ze); try simp only [zU, reduceIte, Nat.reduceEqDiff, Nat.reduceAdd, reduceCtorEq, Q178])
        refine ⟨_, Blk.cell (hb1.ext heW) rfl, ?_⟩
        repeat ((try subst X); (first | (first | apply zL | apply zH | apply zE); intro X hX | apply zh | apply zl | apply ze); try simp only [zU, reduceIte, Nat.reduceEqDiff, Nat.reduceAdd, reduceCtorEq, Q178])
        exact hM 21 _ _ _ rfl (Ext.refl _) rfl
      · repeat ((try subst X); (first | (first | apply zL | apply zH | apply zE); intro X hX | apply zh | apply zl | apply ze); try simp only [zU, reduceIte, Nat.reduceEqDiff, Nat.reduceAdd, reduceCtorEq, Q178])
        simp only [g8]
        repeat ((try subst X); (first | (first | apply zL | apply zH | apply zE); intro X hX | apply zh | apply zl | apply ze); try simp only [zU, reduceIte, Nat.reduceEqDiff, Nat.reduceAdd, reduceCtorEq, Q178])
        exact hM 22 _ _ _ rfl (Ext.refl _) rfl
      · obtain ⟨_, q2, rfl⟩ := at_ 2 21 _ rfl (by decide) (hno 2 (by decide))
        obtain ⟨_, q3, rfl⟩ := at_ 3 22 _ rfl (by decide) (hno 3 (by decide))
        repeat ((try subst X); (first | (first | apply zL | apply zH | apply zE); intro X hX | apply zh | apply zl | apply ze); try simp only [zU, reduceIte, Nat.reduceEqDiff, Nat.reduceAdd, reduceCtorEq, Q178])
        simp only [q2, q3]
        repeat ((try subst X); (first | (first | apply zL | apply zH | apply zE); intro X hX | apply zh | apply zl | apply ze); try simp only [zU, reduceIte, Nat.reduceEqDiff, Nat.reduceAdd, reduceCtorEq, Q178])
        refine ⟨by decide, by decide, ?_⟩
        repeat ((try subst X); (first | (first | apply zL | apply zH | apply zE); intro X hX | apply zh | apply zl | apply ze); try simp only [zU, reduceIte, Nat.reduceEqDiff, Nat.reduceAdd, reduceCtorEq, Q178])
        exact hM 23 _ _ _ rfl (Ext.refl _) rfl
      · obtain ⟨_, q, rfl⟩ := at_ 4 23 _ rfl (by decide) (hno 4 (by decide))
        repeat ((try subst X); (first | (first | apply zL | apply zH | apply zE); intro X hX | apply zh | apply zl | apply ze); try simp only [zU, reduceIte, Nat.reduceEqDiff, Nat.reduceAdd, reduceCtorEq, Q178])
        simp only [q]
        repeat ((try subst X); (first | (first | apply zL | apply zH | apply zE); intro X hX | apply zh | apply zl | apply ze); try simp only [zU, reduceIte, Nat.reduceEqDiff, Nat.reduceAdd, reduceCtorEq, Q178])
        refine ⟨_, (he0.trans heW).cell hac, ?_⟩
        repeat ((try subst X); (first | (first | apply zL | apply zH | apply zE); intro X hX | apply zh | apply zl | apply ze); try simp only [zU, reduceIte, Nat.reduceEqDiff, Nat.reduceAdd, reduceCtorEq, Q178])
        exact hM 24 _ _ _ rfl (Ext.refl _) rfl
      · obtain ⟨_, q, rfl⟩ := at_ 5 24 _ rfl (by decide) (hno 5 (by decide))
        repeat ((try subst X); (first | (first | apply zL | apply zH | apply zE); intro X hX | apply zh | apply zl | apply ze); try simp only [zU, reduceIte, Nat.reduceEqDiff, Nat.reduceAdd, reduceCtorEq, Q178])
        simp only [q]
        repeat ((try subst X); (first | (first | apply zL | apply zH | apply zE); intro X hX | apply zh | apply zl | apply ze); try simp only [zU, reduceIte, Nat.reduceEqDiff, Nat.reduceAdd, reduceCtorEq, Q178])
        refine Runs.lit1 (cs := [.int .i64 x]) Fx.un29 Fx.zi3 rfl rfl rfl (by decide) (by decide) (fun w8 he8 hs8 hb8 => ?_)
        repeat ((try subst X); (first | (first | apply zL | apply zH | apply zE); intro X hX | apply zh | apply zl | apply ze); try simp only [zU, reduceIte, Nat.reduceEqDiff, Nat.reduceAdd, reduceCtorEq, Q178])
        exact hM 25 _ _ _ rfl he8 ⟨_, rfl, hb8, heW.size, fun h => Nat.lt_irrefl _ (hYx _ h)⟩
      · repeat ((try subst X); (first | (first | apply zL | apply zH | apply zE); intro X hX | apply zh | apply zl | apply ze); try simp only [zU, reduceIte, Nat.reduceEqDiff, Nat.reduceAdd, reduceCtorEq, Q178])
        simp only [g5]
        repeat ((try subst X); (first | (first | apply zL | apply zH | apply zE); intro X hX | apply zh | apply zl | apply ze); try simp only [zU, reduceIte, Nat.reduceEqDiff, Nat.reduceAdd, reduceCtorEq, Q178])
        exact hM 26 _ _ _ rfl (Ext.refl _) rfl
      · obtain ⟨_, q, rfl⟩ := at_ 7 26 _ rfl (by decide) (hno 7 (by decide))
        repeat ((try subst X); (first | (first | apply zL | apply zH | apply zE); intro X hX | apply zh | apply zl | apply ze); try simp only [zU, reduceIte, Nat.reduceEqDiff, Nat.reduceAdd, reduceCtorEq, Q178])
        simp only [q]
        repeat ((try subst X); (first | (first | apply zL | apply zH | apply zE); intro X hX | apply zh | apply zl | apply ze); try simp only [zU, reduceIte, Nat.reduceEqDiff, Nat.reduceAdd, reduceCtorEq, Q178])
        refine ⟨_, Blk.cell (hb2.ext heW) rfl, ?_⟩
        repeat ((try subst X); (first | (first | apply zL | apply zH | apply zE); intro X hX | apply zh | apply zl | apply ze); try simp only [zU, reduceIte, Nat.reduceEqDiff, Nat.reduceAdd, reduceCtorEq, Q178])
        exact hM 27 _ _ _ rfl (Ext.refl _) rfl
      · obtain ⟨_, q0, rfl⟩ := at_ 0 19 _ rfl (by decide) (hno 0 (by decide))
        obtain ⟨_, q6, bb, rfl, hbb⟩ := at_ 6 25 _ rfl (by decide) (hno 6 (by decide))
        obtain ⟨_, q8, rfl⟩ := at_ 8 27 _ rfl (by decide) (hno 8 (by decide))
        repeat ((try subst X); (first | (first | apply zL | apply zH | apply zE); intro X hX | apply zh | apply zl | apply ze); try simp only [zU, reduceIte, Nat.reduceEqDiff, Nat.reduceAdd, reduceCtorEq, Q178])
        simp only [q0, q6, q8]
        repeat ((try subst X); (first | (first | apply zL | apply zH | apply zE); intro X hX | apply zh | apply zl | apply ze); try simp only [zU, reduceIte, Nat.reduceEqDiff, Nat.reduceAdd, reduceCtorEq, Q178])
        refine Runs.build (parts := [(0, _), (1, _), (5, _), (4, _), (8, _)]) st37 rfl ?_
        repeat ((try subst X); (first | (first | apply zL | apply zH | apply zE); intro X hX | apply zh | apply zl | apply ze); try simp only [zU, reduceIte, Nat.reduceEqDiff, Nat.reduceAdd, reduceCtorEq, Q178])
        exact hM 28 _ _ _ rfl (Ext.refl _) ⟨bb, rfl, hbb⟩
    · intro B3 K7 w7 o hJ g3 hb3 hB3 ho M0 hM0
      have he7 := hJ.ext
      subst hT
      simp only [List.length_cons, List.length_nil, Nat.zero_add, Nat.reduceAdd, List.getElem?_cons_succ, List.getElem?_cons_zero, Option.some.injEq] at ho
      subst ho
      have g0 := hJ.get 0 (v := .pointer (some ⟨B, 0, none⟩)) rfl
      have g4 := hJ.get 4 (v := .pointer (some ⟨B1, 0, none⟩)) rfl
      have g5 := hJ.get 5 (v := .pointer (some ⟨B2, 0, none⟩)) rfl
      have g7 := hJ.get 7 (v := .slice none 0 0) rfl
      have g8 := hJ.get 8 (v := .int .i64 0) rfl
      have g9 := hJ.get 9 (v := .int .i64 v) rfl
      have g12 := hJ.get 12 (v := .slice (some ⟨kb, ob, none⟩) 1 ba) rfl
      have g13 := hJ.get 13 (v := .int .i64 1) rfl
      have g14 := hJ.get 14 (v := .int .i64 0) rfl
      obtain ⟨_, q9, bb, rfl, hbb, hbB, hbX⟩ := hJ.at_ 9 28 _ rfl (by decide) rfl
      clear hJ
      repeat ((try subst X); (first | (first | apply zL | apply zH | apply zE); intro X hX | apply zh | apply zl | apply ze); try simp only [zU, reduceIte, Nat.reduceEqDiff, Nat.reduceAdd, reduceCtorEq, Q178])
      simp only [g3, q9]
      repeat ((try subst X); (first | (first | apply zL | apply zH | apply zE); intro X hX | apply zh | apply zl | apply ze); try simp only [zU, reduceIte, Nat.reduceEqDiff, Nat.reduceAdd, reduceCtorEq, Q178])
      simp only [Value.cells] at hb3
      refine Runs.store hb3 Fx.zi37 rfl (by simp [Value.cells, Value.oneCell']) (by simp) (fun w8 hc8 hs8 hb8 => ?_)
      simp only [splice, Value.cells, List.length_cons, List.length_nil, Nat.reduceAdd, Nat.zero_add, List.take_zero, List.drop_succ_cons, List.drop_zero, List.append_nil, List.nil_append, List.drop_nil] at hb8
      repeat ((try subst X); (first | (first | apply zL | apply zH | apply zE); intro X hX | apply zh | apply zl | apply ze); try simp only [zU, reduceIte, Nat.reduceEqDiff, Nat.reduceAdd, reduceCtorEq, Q178])
      refine hM0 _ _ ?_
      simp only [thenN]
      refine hM _ _ _ (ok_less [(0, .pointer (some ⟨B, 0, none⟩)), (4, .pointer (some ⟨B1, 0, none⟩)), (5, .pointer (some ⟨B2, 0, none⟩)), (7, .slice none 0 0), (8, .int .i64 0), (9, .int .i64 v), (12, .slice (some ⟨kb, ob, none⟩) 1 ba), (13, .int .i64 1), (14, .int .i64 0), (10, .pointer (some ⟨B3, 0, none⟩))] ⟨g0, g4, g5, g7, g8, g9, g12, g13, g14, g3, trivial⟩ ?_)
      clear hM M hM0 M0 g0 g4 g5 g7 g8 g9 g12 g13 g14 g3 q9
      replace hbb := hbb.chg hc8 hbX
      have he8 : Ext W w8 := he7.chg_trans hc8 (by intro k hk; omega)
      have he08 := he0.trans he8
      have hB3l : B3 < w8.heap.size := Nat.lt_of_lt_of_le hb3.lt hc8.size
      replace hb1 := hb1.ext he8
      replace hb2 := hb2.ext he8
      replace hb := hb.ext he8
      replace hbs := hbs.ext he8
      have hs1' := fun w' => run_sliceAt (P := Tryz.prog) Fx.un29 Fx.zi3 (some ⟨kb, ob, none⟩) 1 ba none (some 0) .i64 .i64 (by simp) (by simp) w'
      simp only [Option.map_some, Option.map_none, Option.getD_none, Option.getD_some, Nat.sub_zero] at hs1'
      refine ok_seq (fun M0 hM0 => ok_seq (fun M hM => ?_))
      refine (ok_drawR [2, 8, 11, 12, 16, 17, 21, 22] [0, 1, 2, 3, 4, 5, 6, 7, 8, 9, 10, 11, 12, 13, 14, 15, 16, 17, 18, 19, 20, 21, 22, 23, 24, 25, 26, 27, 28, 29, 30, 31, 32, 33] 34 [] (Ext _) Fx.mixed (by decide) rfl rfl rfl (by decide +kernel) (by decide +kernel) (Ext.drew _) ?_); simp only [pickL, List.getElem?_cons_zero, List.getElem?_cons_succ, List.take_succ_cons, List.take_zero, List.drop_succ_cons, List.drop_zero]
      repeat ((try subst X); (first | (first | apply zL | apply zH | apply zE); intro X hX | apply zh | apply zl | apply ze); try simp only [zU, reduceIte, Nat.reduceEqDiff, Nat.reduceAdd, reduceCtorEq, Q178])
      refine ⟨_, fun w' h => Blk.cell (hb.ext h) h1, ?_⟩
      repeat ((try subst X); (first | (first | apply zL | apply zH | apply zE); intro X hX | apply zh | apply zl | apply ze); try simp only [zU, reduceIte, Nat.reduceEqDiff, Nat.reduceAdd, reduceCtorEq, Q178])
      refine ⟨pcs, hpl, fun w' h => (he08.trans h).cellsAt hpc, ?_⟩
      repeat ((try subst X); (first | (first | apply zL | apply zH | apply zE); intro X hX | apply zh | apply zl | apply ze); try simp only [zU, reduceIte, Nat.reduceEqDiff, Nat.reduceAdd, reduceCtorEq, Q178])
      refine ⟨_, fun w' h => Blk.cell (hb.ext h) h0, ?_⟩
      repeat ((try subst X); (first | (first | apply zL | apply zH | apply zE); intro X hX | apply zh | apply zl | apply ze); try simp only [zU, reduceIte, Nat.reduceEqDiff, Nat.reduceAdd, reduceCtorEq, Q178])
      refine ⟨_, fun w' h => Blk.cell (hbs.ext h) hs1, ?_⟩
      repeat ((try subst X); (first | (first | apply zL | apply zH | apply zE); intro X hX | apply zh | apply zl | apply ze); try simp only [zU, reduceIte, Nat.reduceEqDiff, Nat.reduceAdd, reduceCtorEq, Q178])
      refine ⟨_, fun w' h => Blk.cell (hb.ext h) h4, ?_⟩
      repeat ((try subst X); (first | (first | apply zL | apply zH | apply zE); intro X hX | apply zh | apply zl | apply ze); try simp only [zU, reduceIte, Nat.reduceEqDiff, Nat.reduceAdd, reduceCtorEq, Q178])
      refine ⟨_, fun w' h => Blk.cell (hb.ext h) h6, ?_⟩
      repeat ((try subst X); (first | (first | apply zL | apply zH | apply zE); intro X hX | apply zh | apply zl | apply ze); try simp only [zU, reduceIte, Nat.reduceEqDiff, Nat.reduceAdd, reduceCtorEq, Q178])
      refine ⟨.bool false, fun w' h => Inv.call Fx.en20 (Bound_ok w' (fun _ => True) pcs p insts vi vp path K v (((hp.ext he08).ext h).mono fun _ _ _ => trivial) (((hi'.ext he08).ext h).mono fun _ _ _ => trivial) (((hpt.ext he08).ext h).mono fun _ _ _ => trivial) hh) (by rintro _ w'' ⟨rfl, he⟩; exact ⟨by rw [hnb], h.trans he⟩), ?_⟩
      repeat ((try subst X); (first | (first | apply zL | apply zH | apply zE); intro X hX | apply zh | apply zl | apply ze); try simp only [zU, reduceIte, Nat.reduceEqDiff, Nat.reduceAdd, reduceCtorEq, Q178])
      refine ⟨_, fun w' h => Blk.cell (hb2.ext h) rfl, ?_⟩
      repeat ((try subst X); (first | (first | apply zL | apply zH | apply zE); intro X hX | apply zh | apply zl | apply ze); try simp only [zU, reduceIte, Nat.reduceEqDiff, Nat.reduceAdd, reduceCtorEq, Q178])
      refine ⟨_, fun w' h => hs1' w', ?_⟩
      repeat ((try subst X); (first | (first | apply zL | apply zH | apply zE); intro X hX | apply zh | apply zl | apply ze); try simp only [zU, reduceIte, Nat.reduceEqDiff, Nat.reduceAdd, reduceCtorEq, Q178])
      refine ⟨.bool false, fun w' h => Inv.call Fx.en104 (contains_ok w' (fun _ => True) _ [] v Rd.empty) (by rintro _ w'' ⟨rfl, he⟩; rw [he]; exact ⟨rfl, h⟩), ?_⟩
      repeat ((try subst X); (first | (first | apply zL | apply zH | apply zE); intro X hX | apply zh | apply zl | apply ze); try simp only [zU, reduceIte, Nat.reduceEqDiff, Nat.reduceAdd, reduceCtorEq, Q178])
      intro w9 he9
      repeat ((try subst X); (first | (first | apply zL | apply zH | apply zE); intro X hX | apply zh | apply zl | apply ze); try simp only [zU, reduceIte, Nat.reduceEqDiff, Nat.reduceAdd, reduceCtorEq, Q178])
      refine hM _ _ _ ?_; clear hM M
      refine ok_cond rfl (fun h => by cases h) (fun _ => ok_skip ?_)
      refine hM0 _ _ _ ?_; clear hM0 M0
      refine ok_region rfl ?_
      repeat ((try subst X); (first | (first | apply zL | apply zH | apply zE); intro X hX | apply zh | apply zl | apply ze); try simp only [zU, reduceIte, Nat.reduceEqDiff, Nat.reduceAdd, reduceCtorEq, Q178])
      refine ⟨_, rfl, Blk.all (hb8.ext he9), ?_⟩
      repeat ((try subst X); (first | (first | apply zL | apply zH | apply zE); intro X hX | apply zh | apply zl | apply ze); try simp only [zU, reduceIte, Nat.reduceEqDiff, Nat.reduceAdd, reduceCtorEq, Q178])
      refine Runs.lit1 Fx.un34 Fx.zi37 rfl rfl rfl (by decide) (by decide) (fun w10 he10 hs10 hb10 => ?_)
      repeat ((try subst X); (first | (first | apply zL | apply zH | apply zE); intro X hX | apply zh | apply zl | apply ze); try simp only [zU, reduceIte, Nat.reduceEqDiff, Nat.reduceAdd, reduceCtorEq, Q178])
      have he810 := he9.trans he10
      have hz8 := he8.size
      have hz9 := he9.size
      have hrd : Rd w10 (fun k => B1 ≤ k ∧ (Value.slice none 0 0).ownBlock ≠ some k) [.int .i64 7, .int .i64 v, .int .i64 0, .string ByteArray.empty, .int .i64 1, .slice (some ⟨bb, 0, none⟩) 1 1, .slice none 0 0, .slice none 0 0, .int .i64 used.pos] (encG (partG v x used.pos)) :=
        rdG_mk (g := partG v x used.pos) (Rd.lit1 (hbb.ext he810) ⟨by omega, fun e => by cases e⟩ (by decide) (Nat.le_refl _) (.at rfl rfl .nil)) Rd.empty Rd.empty
      refine Runs.pushD Fx.un34 Fx.zi37 rfl (by decide) (Own.nil (base := B1) (S := fun k => B1 ≤ k) (by decide)) hb10 hrd (encG_len _) (by simp) (by omega) (fun v11 w11 hown11 hc11 hblk11 => ?_)
      repeat ((try subst X); (first | (first | apply zL | apply zH | apply zE); intro X hX | apply zh | apply zl | apply ze); try simp only [zU, reduceIte, Nat.reduceEqDiff, Nat.reduceAdd, reduceCtorEq, Q178])
      have he211 : Ext w2 w11 := ((he.trans he8).trans he810).chg_trans hc11 (by intro k hk; cases hk)
      exact ⟨v11, by simp [sub, Env.get], he211, by simpa using hown11⟩
  · rintro y W ⟨he, hy⟩
    have hy' : Own W (fun k => B1 ≤ k) B1 37 9 y ([partG v x used.pos].map encG) := by
      rcases hy with hy | hy
      · omega
      · exact hy.2
    refine hM0 _ _ _ ?_; clear hM0 M0
    refine ok_seq (fun M hM => ok_region rfl ?_); repeat ((try subst X); (first | (first | apply zL | apply zH | apply zE); intro X hX | apply zh | apply zl | apply ze); try simp only [zU, reduceIte, Nat.reduceEqDiff, Nat.reduceAdd, reduceCtorEq, Q178])
    refine hM _ _ _ ?_; clear hM M
    refine ok_ret ?_
    try simp only [zW, zU, reduceIte, Nat.reduceEqDiff, Nat.reduceAdd, reduceCtorEq, Q178]
    exact ⟨he02.trans he, hy'⟩
end Go.Proofs.YtcpjojaklpgnkaaGreat
/- Chapter 31: slices.Delete.  -/
set_option linter.unusedVariables false
set_option linter.unusedSimpArgs false
namespace Go.Proofs.YtcpjojaklpgnkaaGreat
open Go Go.Proofs.Vg Go.RowKit
-- -- function 181
set_option maxHeartbeats 4000000 in
set_option maxRecDepth 8000 in
theorem delete_ok (w : World) (S : Nat → Prop) (base g c i : Nat) (rows : List (List D)) (hown : Own w S base 37 9 (.slice (some ⟨g, 0, none⟩) rows.length c) rows) (hi : i < rows.length) (hl : rows.length ≤ 140737488355328) :
    Rets Tryz.prog 181 [.slice (some ⟨g, 0, none⟩) rows.length c, .int .i64 (i : Int), .int .i64 ((i : Int) + 1)] w (fun v w' => v = .slice (some ⟨g, 0, none⟩) (rows.length - 1) c ∧ Own w' S base 37 9 v (rows.eraseIdx i) ∧ Chg (fun k => k = g) w w') := by
  obtain ⟨A, c1, hE, hcl⟩ := hown.len
  injection hE with hE1 hE2 hE3
  subst hE3
  have hne : ¬ ((i : Int) = (i : Int) + 1) := by omega
  have e1 : ((i : Int) + 1) = ((i + 1 : Nat) : Int) := by simp
  refine rets_of_ok Tryz.func181 rfl rfl ?_
  refine ok_seq (fun M hM => ok_region rfl ?_); repeat ((try subst X); (first | (first | apply zL | apply zH | apply zE); intro X hX | apply zh | apply zl | apply ze); try simp only [zU, reduceIte, Nat.reduceEqDiff, Nat.reduceAdd, reduceCtorEq, Q181])
  refine hM _ _ _ ?_; clear hM M
  refine ok_seq (fun M hM => ok_region rfl ?_)
  repeat ((try subst X); (first | (first | apply zL | apply zH | apply zE); intro X hX | apply zh | apply zl | apply ze); try simp only [zU, reduceIte, Nat.reduceEqDiff, Nat.reduceAdd, reduceCtorEq, Q181])
  rw [e1]
  refine Runs.slice3 Fx.un34 Fx.zi37 (by omega) (by omega) (by omega) (fun v => ?_)
  repeat ((try subst X); (first | (first | apply zL | apply zH | apply zE); intro X hX | apply zh | apply zl | apply ze); try simp only [zU, reduceIte, Nat.reduceEqDiff, Nat.reduceAdd, reduceCtorEq, Q181])
  refine hM _ _ _ ?_; clear hM M
  rw [← e1]
  refine ok_seq (fun M0 hM0 => ok_seq (fun M hM => ok_region rfl ?_))
  repeat ((try subst X); (first | (first | apply zL | apply zH | apply zE); intro X hX | apply zh | apply zl | apply ze); try simp only [zU, reduceIte, Nat.reduceEqDiff, Nat.reduceAdd, reduceCtorEq, Q181])
  simp only [hne, decide_false]
  repeat ((try subst X); (first | (first | apply zL | apply zH | apply zE); intro X hX | apply zh | apply zl | apply ze); try simp only [zU, reduceIte, Nat.reduceEqDiff, Nat.reduceAdd, reduceCtorEq, Q181])
  refine hM _ _ _ ?_; clear hM M
  refine ok_cond rfl (fun h => by cases h) (fun _ => ok_skip ?_)
  refine hM0 _ _ _ ?_; clear hM0 M0
  refine ok_seq (fun M hM => ok_region rfl ?_); repeat ((try subst X); (first | (first | apply zL | apply zH | apply zE); intro X hX | apply zh | apply zl | apply ze); try simp only [zU, reduceIte, Nat.reduceEqDiff, Nat.reduceAdd, reduceCtorEq, Q181])
  refine hM _ _ _ ?_; clear hM M
  have hs1 := fun w' => run_sliceAt (P := Tryz.prog) Fx.un34 Fx.zi37 (some ⟨g, 0, none⟩) rows.length c none (some i) .i64 .i64 (by simp only [Option.getD_some]; omega) (by simp) w'
  have hs2 := fun w' => run_sliceAt (P := Tryz.prog) Fx.un34 Fx.zi37 (some ⟨g, 0, none⟩) rows.length c (some (i + 1)) none .i64 .i64 (by simp only [Option.getD_none]; omega) (by simp only [Option.getD_none, Option.getD_some]; omega) w'
  simp only [Option.map_some, Option.map_none, Option.getD_none, Option.getD_some, Nat.sub_zero, Nat.zero_mul, add_at, Nat.zero_add, ite_self] at hs1 hs2
  rw [← e1, ← apply_ite some] at hs2
  have hci : rows.length ≤ c := hcl
  refine ok_seq (fun M hM => ?_)
  refine (ok_drawR [] [0, 1, 2, 3, 4, 5, 6, 7] 6 [(false, true), (false, true)] (Ext _) Fx.mixed (by decide) rfl rfl rfl (by decide +kernel) (by decide +kernel) (Ext.drew _) ?_); simp only [pickL, List.getElem?_cons_zero, List.getElem?_cons_succ, List.take_succ_cons, List.take_zero, List.drop_succ_cons, List.drop_zero]
  repeat ((try subst X); (first | (first | apply zL | apply zH | apply zE); intro X hX | apply zh | apply zl | apply ze); try simp only [zU, reduceIte, Nat.reduceEqDiff, Nat.reduceAdd, reduceCtorEq, Q181])
  refine ⟨_, fun w' _ => hs1 w', ?_⟩
  repeat ((try subst X); (first | (first | apply zL | apply zH | apply zE); intro X hX | apply zh | apply zl | apply ze); try simp only [zU, reduceIte, Nat.reduceEqDiff, Nat.reduceAdd, reduceCtorEq, Q181])
  refine ⟨_, fun w' _ => hs2 w', ?_⟩
  repeat ((try subst X); (first | (first | apply zL | apply zH | apply zE); intro X hX | apply zh | apply zl | apply ze); try simp only [zU, reduceIte, Nat.reduceEqDiff, Nat.reduceAdd, reduceCtorEq, Q181])
  intro w3 he3
  repeat ((try subst X); (first | (first | apply zL | apply zH | apply zE); intro X hX | apply zh | apply zl | apply ze); try simp only [zU, reduceIte, Nat.reduceEqDiff, Nat.reduceAdd, reduceCtorEq, Q181])
  refine Runs.eraseD Fx.un34 Fx.zi37 (hown.ext he3) hi rfl (fun h => by rw [if_neg (by omega)]) (fun w4 hown4 hc4 => ?_)
  repeat ((try subst X); (first | (first | apply zL | apply zH | apply zE); intro X hX | apply zh | apply zl | apply ze); try simp only [zU, reduceIte, Nat.reduceEqDiff, Nat.reduceAdd, reduceCtorEq, Q181])
  refine hM _ _ _ ?_; clear hM M
  have hlen : (rows.eraseIdx i).length = rows.length - 1 := by rw [List.length_eraseIdx, if_pos hi]
  have hs3 := fun w' => run_sliceAt (P := Tryz.prog) Fx.un34 Fx.zi37 (some ⟨g, 0, none⟩) (rows.length - 1) c (some (rows.length - 1)) (some rows.length) .i64 .i64 (by simp only [Option.getD_some]; omega) (by simp only [Option.getD_some]; omega) w'
  simp only [Option.map_some, Option.map_none, Option.getD_none, Option.getD_some, add_at, Nat.zero_add] at hs3
  rw [if_neg (by omega), show rows.length - (rows.length - 1) = 1 by omega] at hs3
  refine ok_seq (fun M hM => ok_region rfl ?_)
  repeat ((try subst X); (first | (first | apply zL | apply zH | apply zE); intro X hX | apply zh | apply zl | apply ze); try simp only [zU, reduceIte, Nat.reduceEqDiff, Nat.reduceAdd, reduceCtorEq, Q181])
  refine ⟨_, _, hs3 w4, ?_⟩
  repeat ((try subst X); (first | (first | apply zL | apply zH | apply zE); intro X hX | apply zh | apply zl | apply ze); try simp only [zU, reduceIte, Nat.reduceEqDiff, Nat.reduceAdd, reduceCtorEq, Q181])
  refine Runs.clearD Fx.un34 Fx.zi37 rfl (by first | kernel_rfl | decide) hown4 (by rw [hlen]; exact Nat.le_refl _) (by omega) (fun w5 hown5 hc5 => ?_)
  repeat ((try subst X); (first | (first | apply zL | apply zH | apply zE); intro X hX | apply zh | apply zl | apply ze); try simp only [zU, reduceIte, Nat.reduceEqDiff, Nat.reduceAdd, reduceCtorEq, Q181])
  refine hM _ _ _ ?_; clear hM M
  refine ok_seq (fun M hM => ok_region rfl ?_); repeat ((try subst X); (first | (first | apply zL | apply zH | apply zE); intro X hX | apply zh | apply zl | apply ze); try simp only [zU, reduceIte, Nat.reduceEqDiff, Nat.reduceAdd, reduceCtorEq, Q181])
  refine hM _ _ _ ?_; clear hM M
  refine ok_ret ?_
  try simp only [zW, zU, reduceIte, Nat.reduceEqDiff, Nat.reduceAdd, reduceCtorEq, Q181]
  exact ⟨hown5, (((he3.chg _).trans hc4).trans hc5)⟩
end Go.Proofs.YtcpjojaklpgnkaaGreat
/- Chapter 31: dead, where it holds.  -/
set_option linter.unusedVariables false
set_option linter.unusedSimpArgs false
namespace Go.Proofs.YtcpjojaklpgnkaaGreat
open Go Go.Proofs.Vg Go.RowKit
def withKids (g : G) (ks : List G) : G := .mk g.kind g.left g.num g.text g.form g.args ks g.cases g.pos
-- -- function 129
set_option maxHeartbeats 8000000 in
set_option maxRecDepth 8000 in
theorem dead_ok (w : World) (S : Nat → Prop) (B : Nat) (acs pcs cs : List Value) (pa : Addr) (p : Pr) (g k : G) (i : Nat) (hb : Blk w B acs 134) (h1 : acs[1]? = some (.pointer (some pa))) (h5 : acs[5]? = some (.int .i64 (i : Int))) (hpc : cellsAt w pa pcs) (hp : Rd w S pcs (encP p)) (h : Rd w S cs (encG g)) (hg : g.kind = 0) (hk : g.kids[i]? = some k) (hk9 : k.kind = 9) (hk1 : k.form = 1) (hka : k.args.contains k.left = false)
    (hh : p.heads.contains k.left = false) (ht : timesG p.body k.left = timesGs [k] k.left) (hkh : k.ht ≤ 549755813888 ∧ (preG k 1).length ≤ 549755813888) (hs : timesGs [k] k.left ≤ 549755813888) (hbh : p.body.ht ≤ 549755813888) (hbn : (preG p.body 1).length ≤ 549755813888) :
    Rets Tryz.prog 129 [.pointer (some ⟨B, 0, none⟩), .agg cs.toArray] w (fun v w' => Ext w w' ∧ ∃ cs', v = .agg cs'.toArray ∧ Rd w' (fun k => S k ∨ w.heap.size ≤ k) cs' (encG (withKids g (g.kids.eraseIdx i)))) := by
  replace h := h.mono (S' := fun k => S k ∧ k < w.heap.size) (fun k h1 h2 => ⟨h1, h2⟩)
  replace hp := hp.mono (S' := fun k => S k ∧ k < w.heap.size) (fun k h1 h2 => ⟨h1, h2⟩)
  obtain ⟨Aa, ca, Ak, ck, Ac, cc, rfl, ha, hkk, hc⟩ := rdG h
  obtain ⟨_, _, -, hkl, hkb, -⟩ := hkk.hd
  simp only [List.length_map] at hkl hkb
  have hil := (List.getElem?_eq_some_iff.1 hk).1
  obtain ⟨k0, o0, r0, hA0, -, -, hc0, hr0⟩ := hkk.row (j := i) (row := encG k) (by simp [hk])
  subst hA0
  rw [encG_len] at hc0
  have hr0l : r0.length = 9 := by rw [hr0.len, encG_len]
  have hlt := hb.lt
  obtain ⟨hq1, Kq, cq, hq5, harg⟩ : r0[1]? = some (.int .i64 k.left) ∧ ∃ A c, r0[5]? = some (.slice A k.args.length c) ∧ Rd w (fun k => S k ∧ k < w.heap.size) [.slice A k.args.length c] [isD k.args] := by
    obtain ⟨_, _, _, _, _, _, rfl, h8, -, -⟩ := rdG hr0
    exact ⟨rfl, _, _, rfl, h8⟩
  refine rets_of_okC Tryz.func129 rfl rfl ?_
  refine ok_seq (fun M hM => ok_region rfl ?_)
  repeat ((try subst X); (first | (first | apply zL | apply zH | apply zE); intro X hX | apply zh | apply zl | apply ze); try simp only [zU, reduceIte, Nat.reduceEqDiff, Nat.reduceAdd, reduceCtorEq, Q129])
  refine Runs.box (fun w1 he1 hs1 hb1 => ?_)
  rw [agg_cells] at hb1
  repeat ((try subst X); (first | (first | apply zL | apply zH | apply zE); intro X hX | apply zh | apply zl | apply ze); try simp only [zU, reduceIte, Nat.reduceEqDiff, Nat.reduceAdd, reduceCtorEq, Q129])
  refine Runs.alloc Fx.zi37 (fun w2 he2 hs2 hb2 => ?_)
  simp only [Value.cells] at hb2
  generalize hB1 : w.heap.size = B1 at *
  generalize hB2 : w1.heap.size = B2 at *
  repeat ((try subst X); (first | (first | apply zL | apply zH | apply zE); intro X hX | apply zh | apply zl | apply ze); try simp only [zU, reduceIte, Nat.reduceEqDiff, Nat.reduceAdd, reduceCtorEq, Q129])
  refine hM _ _ _ ?_; clear hM M
  replace hb1 := hb1.ext he2
  have he02 := he1.trans he2
  refine ok_seq (fun M hM => ok_region rfl ?_)
  repeat ((try subst X); (first | (first | apply zL | apply zH | apply zE); intro X hX | apply zh | apply zl | apply ze); try simp only [zU, reduceIte, Nat.reduceEqDiff, Nat.reduceAdd, reduceCtorEq, Q129])
  refine ⟨_, rfl, Blk.all (by assumption), ?_⟩
  repeat ((try subst X); (first | (first | apply zL | apply zH | apply zE); intro X hX | apply zh | apply zl | apply ze); try simp only [zU, reduceIte, Nat.reduceEqDiff, Nat.reduceAdd, reduceCtorEq, Q129])
  refine Inv.call Fx.en166 (and_ok w2 _ _ g (h.ext he02) hg) ?_
  rintro _ w3 he3
  repeat ((try subst X); (first | (first | apply zL | apply zH | apply zE); intro X hX | apply zh | apply zl | apply ze); try simp only [zU, reduceIte, Nat.reduceEqDiff, Nat.reduceAdd, reduceCtorEq, Q129])
  refine hM _ _ _ ?_; clear hM M
  have he03 := he02.trans he3
  replace hb1 := hb1.ext he3
  replace hb2 := hb2.ext he3
  replace hb := hb.ext he03
  replace hc0 := he03.cellsAt hc0
  refine ok_seq (fun M hM => ?_)
  refine (ok_drawR [0, 4, 5, 7] [0, 1, 2, 3, 4, 5, 6, 7, 8, 9, 10] 9 [(true, false), (false, true)] (Ext _) Fx.mixed (by decide) rfl rfl rfl (by decide +kernel) (by decide +kernel) (Ext.drew _) ?_); simp only [pickL, List.getElem?_cons_zero, List.getElem?_cons_succ, List.take_succ_cons, List.take_zero, List.drop_succ_cons, List.drop_zero]
  repeat ((try subst X); (first | (first | apply zL | apply zH | apply zE); intro X hX | apply zh | apply zl | apply ze); try simp only [zU, reduceIte, Nat.reduceEqDiff, Nat.reduceAdd, reduceCtorEq, Q129])
  refine ⟨_, fun w' h => Blk.cell (hb1.ext h) rfl, ?_⟩
  repeat ((try subst X); (first | (first | apply zL | apply zH | apply zE); intro X hX | apply zh | apply zl | apply ze); try simp only [zU, reduceIte, Nat.reduceEqDiff, Nat.reduceAdd, reduceCtorEq, Q129])
  refine ⟨_, fun w' h => Blk.cell (hb.ext h) h5, ?_⟩
  repeat ((try subst X); (first | (first | apply zL | apply zH | apply zE); intro X hX | apply zh | apply zl | apply ze); try simp only [zU, reduceIte, Nat.reduceEqDiff, Nat.reduceAdd, reduceCtorEq, Q129])
  refine ⟨by omega, by omega, ?_⟩
  repeat ((try subst X); (first | (first | apply zL | apply zH | apply zE); intro X hX | apply zh | apply zl | apply ze); try simp only [zU, reduceIte, Nat.reduceEqDiff, Nat.reduceAdd, reduceCtorEq, Q129])
  refine ⟨r0, hr0l, fun w' h => h.cellsAt (by simpa [add_at] using hc0), ?_⟩
  repeat ((try subst X); (first | (first | apply zL | apply zH | apply zE); intro X hX | apply zh | apply zl | apply ze); try simp only [zU, reduceIte, Nat.reduceEqDiff, Nat.reduceAdd, reduceCtorEq, Q129])
  intro w4 he4
  repeat ((try subst X); (first | (first | apply zL | apply zH | apply zE); intro X hX | apply zh | apply zl | apply ze); try simp only [zU, reduceIte, Nat.reduceEqDiff, Nat.reduceAdd, reduceCtorEq, Q129])
  refine Runs.alloc Fx.zi37 (fun w5 he5 hs5 hb5 => ?_)
  simp only [Value.cells] at hb5
  generalize hB5 : w4.heap.size = B5 at *
  repeat ((try subst X); (first | (first | apply zL | apply zH | apply zE); intro X hX | apply zh | apply zl | apply ze); try simp only [zU, reduceIte, Nat.reduceEqDiff, Nat.reduceAdd, reduceCtorEq, Q129])
  refine ⟨he4.trans he5, ?_⟩
  repeat ((try subst X); (first | (first | apply zL | apply zH | apply zE); intro X hX | apply zh | apply zl | apply ze); try simp only [zU, reduceIte, Nat.reduceEqDiff, Nat.reduceAdd, reduceCtorEq, Q129])
  refine Runs.store hb5 Fx.zi37 (by simpa [Value.cells] using hr0l) (fun u hu => (hr0.one u (by simpa [Value.cells] using hu)).1) (by simp [Value.cells]) (fun w6 hc6 hs6 hb6 => ?_)
  rw [agg_cells, splice_all _ _ (by simpa [Value.cells] using hr0l)] at hb6
  repeat ((try subst X); (first | (first | apply zL | apply zH | apply zE); intro X hX | apply zh | apply zl | apply ze); try simp only [zU, reduceIte, Nat.reduceEqDiff, Nat.reduceAdd, reduceCtorEq, Q129])
  refine hM _ _ _ ?_; clear hM M
  have hz1 : w1.heap.size = B1 + 1 := by omega
  have hz2 : w2.heap.size = B1 + 2 := by omega
  have hz3 := he3.size
  have hz4 := he4.size
  have he46 : Ext w3 w6 := (he4.trans he5).chg_trans hc6 (by intro k hk; omega)
  have he06 := he03.trans he46
  replace hb1 := hb1.ext he46
  replace hb2 := hb2.ext he46
  replace hb := hb.ext he46
  refine ok_seq (fun M hM => ok_region rfl ?_)
  repeat ((try subst X); (first | (first | apply zL | apply zH | apply zE); intro X hX | apply zh | apply zl | apply ze); try simp only [zU, reduceIte, Nat.reduceEqDiff, Nat.reduceAdd, reduceCtorEq, Q129])
  refine ⟨r0, hr0l, hb6.all, ?_⟩
  repeat ((try subst X); (first | (first | apply zL | apply zH | apply zE); intro X hX | apply zh | apply zl | apply ze); try simp only [zU, reduceIte, Nat.reduceEqDiff, Nat.reduceAdd, reduceCtorEq, Q129])
  refine Inv.call Fx.en180 (maker_ok w6 _ r0 k (hr0.ext he06) hk9 hk1) ?_
  rintro _ w7 ⟨rfl, he7⟩
  repeat ((try subst X); (first | (first | apply zL | apply zH | apply zE); intro X hX | apply zh | apply zl | apply ze); try simp only [zU, reduceIte, Nat.reduceEqDiff, Nat.reduceAdd, reduceCtorEq, Q129])
  refine ⟨_, Blk.cell (hb6.ext he7) hq1, ?_⟩
  repeat ((try subst X); (first | (first | apply zL | apply zH | apply zE); intro X hX | apply zh | apply zl | apply ze); try simp only [zU, reduceIte, Nat.reduceEqDiff, Nat.reduceAdd, reduceCtorEq, Q129])
  refine ⟨r0, hr0l, (hb6.ext he7).all, ?_⟩
  repeat ((try subst X); (first | (first | apply zL | apply zH | apply zE); intro X hX | apply zh | apply zl | apply ze); try simp only [zU, reduceIte, Nat.reduceEqDiff, Nat.reduceAdd, reduceCtorEq, Q129])
  refine Runs.lit1 Fx.un34 Fx.zi37 rfl rfl hr0l (by decide) (by decide) (fun w8 he8 hs8 hb8 => ?_)
  have he68 := he7.trans he8
  have he08 := he06.trans he68
  repeat ((try subst X); (first | (first | apply zL | apply zH | apply zE); intro X hX | apply zh | apply zl | apply ze); try simp only [zU, reduceIte, Nat.reduceEqDiff, Nat.reduceAdd, reduceCtorEq, Q129])
  refine Inv.call Fx.en174 (local_ok w8 (fun _ => True) B acs pcs pa p k.left _ [k] (hb.ext he68) h1 (he08.cellsAt hpc) ((hp.ext he08).mono fun _ _ _ => trivial) (Rd.lit1 hb8 trivial (by decide) (Nat.le_refl _) ((hr0.ext he08).mono fun _ _ _ => trivial)) (by intro g hg; simp at hg; subst hg; exact hkh) hs hbh hbn hh ht) ?_
  rintro _ w9 ⟨rfl, he9⟩
  have he69 := he68.trans he9
  have he09 := he08.trans he9
  repeat ((try subst X); (first | (first | apply zL | apply zH | apply zE); intro X hX | apply zh | apply zl | apply ze); try simp only [zU, reduceIte, Nat.reduceEqDiff, Nat.reduceAdd, reduceCtorEq, Q129])
  refine ⟨_, Blk.cell (hb6.ext he69) hq5, ?_⟩
  repeat ((try subst X); (first | (first | apply zL | apply zH | apply zE); intro X hX | apply zh | apply zl | apply ze); try simp only [zU, reduceIte, Nat.reduceEqDiff, Nat.reduceAdd, reduceCtorEq, Q129])
  refine ⟨_, Blk.cell (hb6.ext he69) hq1, ?_⟩
  repeat ((try subst X); (first | (first | apply zL | apply zH | apply zE); intro X hX | apply zh | apply zl | apply ze); try simp only [zU, reduceIte, Nat.reduceEqDiff, Nat.reduceAdd, reduceCtorEq, Q129])
  refine Inv.call Fx.en104 (contains_ok w9 _ _ k.args k.left (harg.ext he09)) ?_
  rintro _ w10 ⟨rfl, hw10⟩
  rw [hw10]; clear hw10 w10
  simp only [hka]
  repeat ((try subst X); (first | (first | apply zL | apply zH | apply zE); intro X hX | apply zh | apply zl | apply ze); try simp only [zU, reduceIte, Nat.reduceEqDiff, Nat.reduceAdd, reduceCtorEq, Q129])
  refine Inv.call Fx.en159 (hold_ok w9) ?_
  rintro _ w10 hw10
  rw [hw10]; clear hw10 w10
  repeat ((try subst X); (first | (first | apply zL | apply zH | apply zE); intro X hX | apply zh | apply zl | apply ze); try simp only [zU, reduceIte, Nat.reduceEqDiff, Nat.reduceAdd, reduceCtorEq, Q129])
  refine hM _ _ _ ?_; clear hM M
  replace hb1 := hb1.ext he69
  replace hb2 := hb2.ext he69
  replace hb := hb.ext he69
  refine ok_seq (fun M hM => ?_)
  refine (ok_drawR [0, 5, 6, 10, 11, 15] [0, 1, 3, 4, 5, 6, 7, 8, 9, 10, 11, 12, 13, 15, 2, 14, 16] 14 [(true, false), (false, false), (false, true)] (Ext _) Fx.mixed (by decide) rfl rfl rfl (by decide +kernel) (by decide +kernel) (Ext.drew _) ?_); simp only [pickL, List.getElem?_cons_zero, List.getElem?_cons_succ, List.take_succ_cons, List.take_zero, List.drop_succ_cons, List.drop_zero]
  repeat ((try subst X); (first | (first | apply zL | apply zH | apply zE); intro X hX | apply zh | apply zl | apply ze); try simp only [zU, reduceIte, Nat.reduceEqDiff, Nat.reduceAdd, reduceCtorEq, Q129])
  refine ⟨_, fun w' h => Blk.cell (Blk.ext (by assumption) h) rfl, ?_⟩
  repeat ((try subst X); (first | (first | apply zL | apply zH | apply zE); intro X hX | apply zh | apply zl | apply ze); try simp only [zU, reduceIte, Nat.reduceEqDiff, Nat.reduceAdd, reduceCtorEq, Q129])
  refine ⟨_, fun w' h => Blk.cell (hb.ext h) h5, ?_⟩
  repeat ((try subst X); (first | (first | apply zL | apply zH | apply zE); intro X hX | apply zh | apply zl | apply ze); try simp only [zU, reduceIte, Nat.reduceEqDiff, Nat.reduceAdd, reduceCtorEq, Q129])
  refine ⟨_, fun w' h => Blk.cell (hb.ext h) h5, ?_⟩
  repeat ((try subst X); (first | (first | apply zL | apply zH | apply zE); intro X hX | apply zh | apply zl | apply ze); try simp only [zU, reduceIte, Nat.reduceEqDiff, Nat.reduceAdd, reduceCtorEq, Q129])
  refine ⟨by simp only [inI]; omega, ?_⟩
  repeat ((try subst X); (first | (first | apply zL | apply zH | apply zE); intro X hX | apply zh | apply zl | apply ze); try simp only [zU, reduceIte, Nat.reduceEqDiff, Nat.reduceAdd, reduceCtorEq, Q129])
  intro w10 he10
  repeat ((try subst X); (first | (first | apply zL | apply zH | apply zE); intro X hX | apply zh | apply zl | apply ze); try simp only [zU, reduceIte, Nat.reduceEqDiff, Nat.reduceAdd, reduceCtorEq, Q129])
  refine Inv.call Fx.en123 (clone123 w10 (fun k => S k ∧ k < B1) _ _ ((hkk.ext he09).ext he10) (mapG_wid _)) ?_
  rintro v11 w11 ⟨he11, hown⟩
  obtain ⟨gb, cap, -, hvE, -, -, -⟩ := hown.row (i := i) (row := encG k) (by simp [hk]) (by simpa using hkl)
  repeat ((try subst X); (first | (first | apply zL | apply zH | apply zE); intro X hX | apply zh | apply zl | apply ze); try simp only [zU, reduceIte, Nat.reduceEqDiff, Nat.reduceAdd, reduceCtorEq, Q129])
  refine ⟨he10.trans he11, ?_⟩
  rw [hvE] at hown ⊢
  repeat ((try subst X); (first | (first | apply zL | apply zH | apply zE); intro X hX | apply zh | apply zl | apply ze); try simp only [zU, reduceIte, Nat.reduceEqDiff, Nat.reduceAdd, reduceCtorEq, Q129])
  have hgb := hown.lt (k := gb) rfl
  refine Inv.call Fx.en181 (delete_ok w11 _ _ gb cap i _ hown (by simpa using hil) (by simpa using hkl)) ?_
  rintro _ w12 ⟨rfl, hown2, hc12⟩
  have hz46 := he46.size
  have hz9 := he69.size
  have hz10 := he10.size
  have hz11 := he11.size
  have he9c : Ext w9 w12 := (he10.trans he11).chg_trans hc12 (by intro k hk; omega)
  repeat ((try subst X); (first | (first | apply zL | apply zH | apply zE); intro X hX | apply zh | apply zl | apply ze); try simp only [zU, reduceIte, Nat.reduceEqDiff, Nat.reduceAdd, reduceCtorEq, Q129])
  refine Runs.store (hb1.ext he9c) Fx.zi34 rfl cell1s (by simp) (fun w13 hc13 hs13 hb13 => ?_)
  simp only [splice, Value.cells, List.length_singleton, Nat.reduceAdd, List.take_succ_cons, List.take_zero, List.drop_succ_cons, List.drop_zero, List.cons_append, List.nil_append, List.drop_nil] at hb13
  repeat ((try subst X); (first | (first | apply zL | apply zH | apply zE); intro X hX | apply zh | apply zl | apply ze); try simp only [zU, reduceIte, Nat.reduceEqDiff, Nat.reduceAdd, reduceCtorEq, Q129])
  refine hM _ _ _ ?_; clear hM M
  have he913 : Chg (fun k => k = B1) w9 w13 := (he9c.chg _).trans hc13
  have hgb2 : B1 + 2 ≤ gb := by omega
  have hk' : Rd w13 (fun k => (S k ∧ k < B1) ∨ B1 + 2 ≤ k) [.slice (some ⟨gb, 0, none⟩) ((g.kids.map encG).length - 1) cap] [.sl 128 ((g.kids.map encG).eraseIdx i)] := by
    have hh := hown2.rd (b := 128) (S' := fun k => (S k ∧ k < B1) ∨ B1 + 2 ≤ k) (by rw [List.length_eraseIdx]; split <;> simp <;> omega) (by rw [List.length_eraseIdx]; split <;> simp <;> omega) (fun k hl hk => hk.elim (fun h => .inl h.1) (fun h => .inr ((Option.some.inj h) ▸ hgb2)))
    exact hh.chg hc13 (fun k hk _ e => by rcases hk with hk | hk; have := hk.2; omega; omega)
  have hmap : (g.kids.map encG).eraseIdx i = (g.kids.eraseIdx i).map encG := by rw [List.eraseIdx_eq_take_drop_succ, List.eraseIdx_eq_take_drop_succ, List.map_append, List.map_take, List.map_drop]
  rw [hmap] at hk'
  have hres : Rd w13 (fun k => (S k ∧ k < B1) ∨ B1 + 2 ≤ k) [.int .i64 g.kind, .int .i64 g.left, .int .i64 g.num, .string g.text, .int .i64 g.form, .slice Aa g.args.length ca, .slice (some ⟨gb, 0, none⟩) ((g.kids.map encG).length - 1) cap, .slice Ac g.cases.length cc, .int .i64 g.pos] (encG (withKids g (g.kids.eraseIdx i))) := by
    have h0 : ∀ {cs ds}, Rd w (fun k => S k ∧ k < B1) cs ds → Rd w13 (fun k => (S k ∧ k < B1) ∨ B1 + 2 ≤ k) cs ds := fun h => ((h.ext he09).chg he913 (fun k hk _ e => by have := hk.2; omega)).mono fun k hk _ => .inl hk
    exact rdG_mk (g := withKids g (g.kids.eraseIdx i)) (h0 ha) hk' (h0 hc)
  refine ok_seq (fun M hM => ok_region rfl ?_)
  repeat ((try subst X); (first | (first | apply zL | apply zH | apply zE); intro X hX | apply zh | apply zl | apply ze); try simp only [zU, reduceIte, Nat.reduceEqDiff, Nat.reduceAdd, reduceCtorEq, Q129])
  refine ⟨_, rfl, hb13.all, ?_⟩
  repeat ((try subst X); (first | (first | apply zL | apply zH | apply zE); intro X hX | apply zh | apply zl | apply ze); try simp only [zU, reduceIte, Nat.reduceEqDiff, Nat.reduceAdd, reduceCtorEq, Q129])
  refine Runs.store ((hb2.ext he9c).chg hc13 (by omega)) Fx.zi37 rfl (by simp [Value.cells, Value.oneCell']) (by simp) (fun w14 hc14 hs14 hb14 => ?_)
  rw [agg_cells, splice_all _ _ (by rfl)] at hb14
  repeat ((try subst X); (first | (first | apply zL | apply zH | apply zE); intro X hX | apply zh | apply zl | apply ze); try simp only [zU, reduceIte, Nat.reduceEqDiff, Nat.reduceAdd, reduceCtorEq, Q129])
  refine hM _ _ _ ?_; clear hM M
  refine ok_ret ?_
  try simp only [zW, zU, reduceIte, Nat.reduceEqDiff, Nat.reduceAdd, reduceCtorEq, Q129]
  have he014 : Ext w w14 := (he09.chg_trans he913 (by intro k hk; omega)).chg_trans hc14 (by intro k hk; omega)
  exact ⟨_, rfl, hb14.all, he014, _, rfl, (hres.chg hc14 (fun k hk _ e => by rcases hk with hk | hk; have := hk.2; omega; omega)).mono fun k hk _ => by rcases hk with hk | hk; exact .inl hk.1; exact .inr (by omega)⟩
end Go.Proofs.YtcpjojaklpgnkaaGreat
/- A region that draws its order: two new variables, each set to what is loaded. -/
set_option linter.unusedVariables false
set_option linter.unusedSimpArgs false
namespace Go.Proofs.Vg
open Go Go.RowKit
def tab2Ok (T : List (Nat × Value)) (E0 : Env) (sa sb : Nat) : Bool := ((List.range T.length).all fun i => match T[i]? with
  | some (s, _) => (E0.all fun q => q.1 != s) && (s != sa && s != sb) && ((List.range T.length).all fun j => match T[j]? with | some (s', _) => s' != s || decide (j = i) | none => true)
  | none => true) && ((E0.all fun q => q.1 != sa) && (E0.all fun q => q.1 != sb) && sa != sb)
structure J2 (T : List (Nat × Value)) (E0 : Env) (w0 : World) (sa sb t : Nat) (cz c1 c2 : List Value) (L : Nat → Bool) (K : Env) (w : World) : Prop where
  ext : Ext w0 w
  base : sub E0 K
  at_ : ∀ (i s : Nat) (v : Value), T[i]? = some (s, v) → L i = true → K.get s = some v
  la : L (T.length + 2) = true → L T.length = true
  lb : L (T.length + 3) = true → L (T.length + 1) = true
  bl : ∃ Ba Bb, (L T.length = true → K.get sa = some (.pointer (some ⟨Ba, 0, none⟩)) ∧ w0.heap.size ≤ Ba ∧ Blk w Ba (if L (T.length + 2) then c1 else cz) t) ∧
    (L (T.length + 1) = true → K.get sb = some (.pointer (some ⟨Bb, 0, none⟩)) ∧ w0.heap.size ≤ Bb ∧ Blk w Bb (if L (T.length + 3) then c2 else cz) t) ∧ (L T.length = true → L (T.length + 1) = true → Ba ≠ Bb)
section
variable {P : Program} {ρ : Option Nat} {N : Nat} {K : Env} {ds : List Deferred} {w : World} {Φ : Post} {ops : List Oper}
theorem ok_two (T : List (Nat × Value)) (E0 : Env) (sa sb sx sy x y t : Nat) {z v1 v2 : Value} {n by_ : Nat} {oA oB o1 o2 : Oper} {id : Nat} (hm : P.follows .mixedOrders = true) (hd : dstsOk N ops = true) (hn : needsOk ops = true) (hl : T.length + 4 = ops.length) (hT : tab2Ok T E0 sa sb = true)
    (hA : ops[T.length]? = some oA) (hB : ops[T.length + 1]? = some oB) (h1 : ops[T.length + 2]? = some o1) (h2 : ops[T.length + 3]? = some o2)
    (hoA : oA.op = .alloc t ∧ oA.dst = some sa ∧ oA.guard = none) (hoB : oB.op = .alloc t ∧ oB.dst = some sb ∧ oB.guard = none) (ho1 : o1.op = .store t (.tmp sa) (.tmp sx) ∧ o1.dst = none ∧ o1.guard = none) (ho2 : o2.op = .store t (.tmp sb) (.tmp sy) ∧ o2.dst = none ∧ o2.guard = none)
    (hx : T[x]? = some (sx, v1)) (hy : T[y]? = some (sy, v2)) (hn1 : ((needs o1).contains x && (needs o1).contains T.length) = true) (hn2 : ((needs o2).contains y && (needs o2).contains (T.length + 1)) = true)
    (hz : zinfo P t = some (some z, n, by_)) (hzs : z.cells.toList.length = n) (hv1 : v1.cells.size = n) (hv1o : ∀ u ∈ v1.cells.toList, u.oneCell' = true) (hv2 : v2.cells.size = n) (hv2o : ∀ u ∈ v2.cells.toList, u.oneCell' = true)
    (hs0 : sub E0 K) (hss : sub E0 E0)
    (hstep : ∀ (L : Nat → Bool) (K : Env) (w1 : World) (i : Nat) (o : Oper), Ext w w1 → sub E0 K → (∀ (i s : Nat) (v : Value), T[i]? = some (s, v) → L i = true → K.get s = some v) → ops[i]? = some o → i < T.length → (∀ k ∈ needs o, L k = true) →
      ∀ M : Env → World → Unit → Prop, (∀ s v, T[i]? = some (s, v) → M ((s, v) :: K) w1 ()) → wpL P ops (fun ch K w => Φ (.panic ch) K ds w) (fun K w => M K w ()) [o] K w1)
    (hend : ∀ (Ba Bb : Nat) (K : Env) (w1 : World), Ext w w1 → sub E0 K → K.get sa = some (.pointer (some ⟨Ba, 0, none⟩)) → K.get sb = some (.pointer (some ⟨Bb, 0, none⟩)) → w.heap.size ≤ Ba → w.heap.size ≤ Bb → Ba ≠ Bb → Blk w1 Ba v1.cells.toList t → Blk w1 Bb v2.cells.toList t → Φ .normal K ds w1) : ok P ρ N (.region id ops.toArray true) K ds w Φ := by
  simp only [tab2Ok, Bool.and_eq_true, bne_iff_ne, ne_eq] at hT
  obtain ⟨hT1, ⟨hEa, hEb⟩, hab⟩ := hT
  have slots : ∀ (i s : Nat) (v : Value), T[i]? = some (s, v) → (E0.all fun q => q.1 != s) = true ∧ s ≠ sa ∧ s ≠ sb ∧ ∀ (j s' : Nat) (v' : Value), T[j]? = some (s', v') → j ≠ i → s' ≠ s := fun i s v hi => by
    have h3 := List.all_eq_true.1 hT1 i (List.mem_range.2 (List.getElem?_eq_some_iff.1 hi).1)
    rw [hi] at h3
    simp only [Bool.and_eq_true, bne_iff_ne, ne_eq] at h3
    refine ⟨h3.1.1, h3.1.2.1, h3.1.2.2, fun j s' v' hj hji => ?_⟩
    have h4 := List.all_eq_true.1 h3.2 j (List.mem_range.2 (List.getElem?_eq_some_iff.1 hj).1)
    rw [hj] at h4
    simp only [Bool.or_eq_true, bne_iff_ne, ne_eq, decide_eq_true_eq] at h4
    exact h4.resolve_right hji
  simp only [Bool.and_eq_true, List.contains_iff_mem] at hn1 hn2
  have hc1 : v1.cells.toList.length = n := by simpa using hv1
  have hc2 : v2.cells.toList.length = n := by simpa using hv2
  refine ok_any (J2 T E0 w sa sb t z.cells.toList v1.cells.toList v2.cells.toList) hm hd hn E0 hs0 ⟨Ext.drew w, hss, fun i s v _ h => (by cases h), fun h => (by cases h), fun h => (by cases h), 0, 0, fun h => (by cases h), fun h => (by cases h), fun h => (by cases h)⟩ ?_ ?_
  · intro L K1 w1 i o hJ ho hLi hno
    have hil : i < ops.length := (List.getElem?_eq_some_iff.1 ho).1
    obtain ⟨Ba, Bb, hBa, hBb, hne⟩ := hJ.bl
    rcases Nat.lt_or_ge i T.length with hi | hi
    · refine hstep L K1 w1 i o hJ.ext hJ.base hJ.at_ ho hi hno (fun K' w' _ => J2 T E0 w sa sb t z.cells.toList v1.cells.toList v2.cells.toList (up L i) K' w') (fun s v hTi => ?_)
      obtain ⟨k1, k2, k3, k4⟩ := slots i s v hTi
      have e0 : ∀ m, up L i (T.length + m) = L (T.length + m) := fun m => by simp only [up]; rw [decide_eq_false (by omega)]; rfl
      have e1 := e0 0
      rw [Nat.add_zero] at e1
      refine ⟨hJ.ext, sub_put k1 hJ.base, fun j s' v' hj hLj => ?_, ?_, ?_, Ba, Bb, ?_, ?_, ?_⟩
      · by_cases hji : j = i
        · subst hji
          rw [hTi] at hj; cases hj
          simp [Env.get]
        · have hLj' : L j = true := by simpa [up, hji] using hLj
          simp only [Env.get]; rw [if_neg (k4 j s' v' hj hji)]; exact hJ.at_ j s' v' hj hLj'
      · rw [e0, e1]; exact hJ.la
      · rw [e0, e0]; exact hJ.lb
      · rw [e0, e1]; intro h; obtain ⟨q1, q2, q3⟩ := hBa h; refine ⟨?_, q2, q3⟩; simp only [Env.get]; rw [if_neg (fun e => k2 e.symm)]; exact q1
      · rw [e0, e0]; intro h; obtain ⟨q1, q2, q3⟩ := hBb h; refine ⟨?_, q2, q3⟩; simp only [Env.get]; rw [if_neg (fun e => k3 e.symm)]; exact q1
      · rw [e0, e1]; exact hne
    have hat : ∀ {s : Nat} {u : Value}, (∀ (i s' : Nat) (v : Value), T[i]? = some (s', v) → s' ≠ s) → ∀ (j s' : Nat) (v' : Value), T[j]? = some (s', v') → up L i j = true → Env.get ((s, u) :: K1) s' = some v' := fun hs j s' v' hj hLj => by
      have hjl := (List.getElem?_eq_some_iff.1 hj).1
      have hLj' : L j = true := by
        have : j ≠ i := by omega
        simpa [up, this] using hLj
      simp only [Env.get]; rw [if_neg (hs j s' v' hj)]; exact hJ.at_ j s' v' hj hLj'
    have hat0 : ∀ (j s' : Nat) (v' : Value), T[j]? = some (s', v') → up L i j = true → Env.get K1 s' = some v' := fun j s' v' hj hLj => by
      have hjl := (List.getElem?_eq_some_iff.1 hj).1
      have hLj' : L j = true := by
        have : j ≠ i := by omega
        simpa [up, this] using hLj
      exact hJ.at_ j s' v' hj hLj'
    have hu : ∀ j, j ≠ i → up L i j = L j := fun j hj => by simp only [up]; rw [decide_eq_false hj]; rfl
    have hui : up L i i = true := by simp [up]
    obtain rfl | rfl | rfl | rfl : i = T.length ∨ i = T.length + 1 ∨ i = T.length + 2 ∨ i = T.length + 3 := by omega
    · rw [hA] at ho; cases ho
      have hn2' : L (T.length + 2) = false := by
        cases h : L (T.length + 2) with
        | false => rfl
        | true => have := hJ.la h; rw [hLi] at this; cases this
      simp only [wpL, hoA.2.2, opF, hoA.1]
      refine Runs.alloc hz (fun w2 he hs hb => ?_)
      rw [hoA.2.1]
      refine ⟨hJ.ext.trans he, sub_put hEa hJ.base, hat (fun i s' v h => (slots i s' v h).2.1), fun _ => hui, ?_, w1.heap.size, Bb, fun _ => ⟨by simp [putE, Env.get], hJ.ext.size, ?_⟩, ?_, ?_⟩
      · rw [hu _ (by omega), hu _ (by omega)]; exact hJ.lb
      · rw [hu _ (by omega), hn2']; exact hb
      · rw [hu _ (by omega), hu _ (by omega)]
        intro h; obtain ⟨q1, q2, q3⟩ := hBb h; refine ⟨?_, q2, q3.ext he⟩; simp only [putE, Env.get]; rw [if_neg (fun e => hab e.symm)]; exact q1
      · rw [hu (T.length + 1) (by omega)]
        intro _ h e
        have := (hBb h).2.2.lt
        omega
    · rw [hB] at ho; cases ho
      have hn2' : L (T.length + 3) = false := by
        cases h : L (T.length + 3) with
        | false => rfl
        | true => have := hJ.lb h; rw [hLi] at this; cases this
      simp only [wpL, hoB.2.2, opF, hoB.1]
      refine Runs.alloc hz (fun w2 he hs hb => ?_)
      rw [hoB.2.1]
      refine ⟨hJ.ext.trans he, sub_put hEb hJ.base, hat (fun i s' v h => (slots i s' v h).2.2.1), ?_, fun _ => hui, Ba, w1.heap.size, ?_, fun _ => ⟨by simp [putE, Env.get], hJ.ext.size, ?_⟩, ?_⟩
      · rw [hu _ (by omega), hu _ (by omega)]; exact hJ.la
      · rw [hu _ (by omega), hu _ (by omega)]
        intro h; obtain ⟨q1, q2, q3⟩ := hBa h; refine ⟨?_, q2, q3.ext he⟩; simp only [putE, Env.get]; rw [if_neg hab]; exact q1
      · rw [hu _ (by omega), hn2']; exact hb
      · rw [hu T.length (by omega)]
        intro h _ e
        have := (hBa h).2.2.lt
        omega
    · rw [h1] at ho; cases ho
      have hLa := hno _ hn1.2
      have hv := hJ.at_ x sx v1 hx (hno _ hn1.1)
      obtain ⟨q1, q2, q3⟩ := hBa hLa
      rw [hLi] at q3
      simp only [wpL, ho1.2.2, opF, ho1.1, ev, q1, hv]
      refine Runs.store q3 hz hv1 hv1o (by simp [hzs]) (fun w2 hc hs hb => ?_)
      rw [ho1.2.1]
      simp only [Bool.false_eq_true, if_false] at hb
      rw [splice_all _ _ (by rw [hc1, hzs])] at hb
      refine ⟨hJ.ext.chg_trans hc (by intro k hk; omega), hJ.base, hat0, fun _ => by rw [hu _ (by omega)]; exact hLa, ?_, Ba, Bb, fun _ => ⟨q1, q2, ?_⟩, ?_, ?_⟩
      · rw [hu _ (by omega), hu _ (by omega)]; exact hJ.lb
      · rw [hui]; exact hb
      · rw [hu _ (by omega), hu _ (by omega)]
        intro h; obtain ⟨r1, r2, r3⟩ := hBb h; exact ⟨r1, r2, r3.chg hc (fun e => hne hLa h e.symm)⟩
      · rw [hu _ (by omega), hu _ (by omega)]; exact hne
    · rw [h2] at ho; cases ho
      have hLb := hno _ hn2.2
      have hv := hJ.at_ y sy v2 hy (hno _ hn2.1)
      obtain ⟨q1, q2, q3⟩ := hBb hLb
      rw [hLi] at q3
      simp only [wpL, ho2.2.2, opF, ho2.1, ev, q1, hv]
      refine Runs.store q3 hz hv2 hv2o (by simp [hzs]) (fun w2 hc hs hb => ?_)
      rw [ho2.2.1]
      simp only [Bool.false_eq_true, if_false] at hb
      rw [splice_all _ _ (by rw [hc2, hzs])] at hb
      refine ⟨hJ.ext.chg_trans hc (by intro k hk; omega), hJ.base, hat0, ?_, fun _ => by rw [hu _ (by omega)]; exact hLb, Ba, Bb, ?_, fun _ => ⟨q1, q2, ?_⟩, ?_⟩
      · rw [hu _ (by omega), hu _ (by omega)]; exact hJ.la
      · rw [hu _ (by omega), hu _ (by omega)]
        intro h; obtain ⟨r1, r2, r3⟩ := hBa h; exact ⟨r1, r2, r3.chg hc (fun e => hne h hLb e)⟩
      · rw [hui]; exact hb
      · rw [hu _ (by omega), hu _ (by omega)]; exact hne
  · intro K1 w1 hJ
    obtain ⟨Ba, Bb, hBa, hBb, hne⟩ := hJ.bl
    have e : ∀ m, m < 4 → decide (T.length + m < ops.length) = true := fun m hm => by simp; omega
    have e0 : decide (T.length < ops.length) = true := by simp; omega
    obtain ⟨q1, q2, q3⟩ := hBa e0
    obtain ⟨r1, r2, r3⟩ := hBb (e 1 (by omega))
    simp only [e 2 (by omega), if_true] at q3
    simp only [e 3 (by omega), if_true] at r3
    exact hend Ba Bb K1 w1 hJ.ext hJ.base q1 r1 q2 r2 (hne e0 (e 1 (by omega))) q3 r3
end
end Go.Proofs.Vg
/- Chapter 31: known, of two data goals.  -/
set_option linter.unusedVariables false
set_option linter.unusedSimpArgs false
namespace Go.Proofs.YtcpjojaklpgnkaaGreat
open Go Go.Proofs.Vg Go.RowKit
-- -- function 128
set_option maxHeartbeats 16000000 in
set_option maxRecDepth 8000 in
theorem known_ok (w : World) (S : Nat → Prop) (B Bs : Nat) (acs scs pcs cs : List Value) (pa : Addr) (p : Pr) (insts : List In) (vi vp : Value) (path : List Int) (i k : Nat) (v x : Int) (g made used : G)
    (hb : Blk w B acs 134) (h0 : acs[0]? = some (.pointer (some ⟨Bs, 0, none⟩))) (h1 : acs[1]? = some (.pointer (some pa))) (h4 : acs[4]? = some vp) (h5 : acs[5]? = some (.int .i64 (i : Int))) (h6 : acs[6]? = some (.int .i64 (k : Int))) (hbs : Blk w Bs scs 31) (hs1 : scs[1]? = some vi) (hi' : Rd w S [vi] [.sl 64 (insts.map encI)]) (hpt : Rd w S [vp] [isD path]) (hpc : cellsAt w pa pcs) (hp : Rd w S pcs (encP p))
    (h : Rd w S cs (encG g)) (hg : g.kind = 0) (hik : i < k) (hm : g.kids[i]? = some made) (hu : g.kids[k]? = some used) (hmk : made.kind = 9) (hmf : made.form = 1) (huk : used.kind = 9) (huf : used.form = 4) (hul : used.left = made.left) (hun : used.num = made.num)
    (hma : made.args = [x]) (hua : used.args = [v]) (hh : p.body.ht ≤ 549755813888) (hnb : boundP p insts path k v = false) (hks : g.kids.length ≤ 100000) :
    Rets Tryz.prog 128 [.pointer (some ⟨B, 0, none⟩), .agg cs.toArray] w (fun r w' => Ext w w' ∧ ∃ cs', r = .agg cs'.toArray ∧ Rd w' (fun k => S k ∨ w.heap.size ≤ k) cs' (encG (withKids g (g.kids.take k ++ [partG v x used.pos] ++ g.kids.drop (k + 1))))) := by
  replace h := h.mono (S' := fun k => S k ∧ k < w.heap.size) (fun k h1 h2 => ⟨h1, h2⟩)
  obtain ⟨Aa, ca, Ak, ck, Ac, cc, rfl, ha, hkk, hc⟩ := rdG h
  obtain ⟨_, _, -, hkl, hkb, -⟩ := hkk.hd
  simp only [List.length_map] at hkl hkb
  have hil := (List.getElem?_eq_some_iff.1 hm).1
  have hkl' := (List.getElem?_eq_some_iff.1 hu).1
  obtain ⟨k0, o0, r0, hA0, -, -, hc0, hr0⟩ := hkk.row (j := i) (row := encG made) (by simp [hm])
  obtain ⟨k9, o9, r9, hA9, -, -, hc9, hr9⟩ := hkk.row (j := k) (row := encG used) (by simp [hu])
  subst hA0
  obtain ⟨rfl, rfl⟩ : k0 = k9 ∧ o0 = o9 := by cases hA9; exact ⟨rfl, rfl⟩
  rw [encG_len] at hc0 hc9
  have hr0l : r0.length = 9 := by rw [hr0.len, encG_len]
  have hr9l : r9.length = 9 := by rw [hr9.len, encG_len]
  obtain ⟨m0, m1, m2, m4, Am, cm, m5⟩ : r0[0]? = some (.int .i64 9) ∧ r0[1]? = some (.int .i64 made.left) ∧ r0[2]? = some (.int .i64 made.num) ∧ r0[4]? = some (.int .i64 1) ∧ ∃ A c, r0[5]? = some (.slice A 1 c) := by
    obtain ⟨A, c, _, _, _, _, rfl, h8, -, -⟩ := rdG hr0
    exact ⟨by rw [hmk]; rfl, rfl, rfl, by rw [hmf]; rfl, A, c, by rw [hma]; rfl⟩
  obtain ⟨u0, u1, u2, u4, Au, cu, u5, u8⟩ : r9[0]? = some (.int .i64 9) ∧ r9[1]? = some (.int .i64 made.left) ∧ r9[2]? = some (.int .i64 made.num) ∧ r9[4]? = some (.int .i64 4) ∧ ∃ A c, r9[5]? = some (.slice A 1 c) ∧ r9[8]? = some (.int .i64 used.pos) := by
    obtain ⟨A, c, _, _, _, _, rfl, h8, -, -⟩ := rdG hr9
    exact ⟨by rw [huk]; rfl, by rw [hul]; rfl, by rw [hun]; rfl, by rw [huf]; rfl, A, c, by rw [hua]; rfl, rfl⟩
  have hlt := hb.lt
  have d96 : decide ((9 : Int) = 6) = false := rfl
  have hikI : ((i : Int) < (k : Int)) := by omega
  refine rets_of_okC Tryz.func128 rfl rfl ?_
  refine ok_seq (fun M hM => ok_region rfl ?_)
  repeat ((try subst X); (first | (first | apply zL | apply zH | apply zE); intro X hX | apply zh | apply zl | apply ze); try simp only [zU, reduceIte, Nat.reduceEqDiff, Nat.reduceAdd, reduceCtorEq, Q128])
  refine Runs.box (fun w1 he1 hs1' hb1 => ?_)
  rw [agg_cells] at hb1
  repeat ((try subst X); (first | (first | apply zL | apply zH | apply zE); intro X hX | apply zh | apply zl | apply ze); try simp only [zU, reduceIte, Nat.reduceEqDiff, Nat.reduceAdd, reduceCtorEq, Q128])
  refine Runs.alloc Fx.zi37 (fun w2 he2 hs2 hb2 => ?_)
  simp only [Value.cells] at hb2
  generalize hB1 : w.heap.size = B1 at *
  generalize hB2 : w1.heap.size = B2 at *
  repeat ((try subst X); (first | (first | apply zL | apply zH | apply zE); intro X hX | apply zh | apply zl | apply ze); try simp only [zU, reduceIte, Nat.reduceEqDiff, Nat.reduceAdd, reduceCtorEq, Q128])
  refine hM _ _ _ ?_; clear hM M
  replace hb1 := hb1.ext he2
  have he02 := he1.trans he2
  refine ok_seq (fun M hM => ok_region rfl ?_)
  repeat ((try subst X); (first | (first | apply zL | apply zH | apply zE); intro X hX | apply zh | apply zl | apply ze); try simp only [zU, reduceIte, Nat.reduceEqDiff, Nat.reduceAdd, reduceCtorEq, Q128])
  refine ⟨_, rfl, Blk.all (by assumption), ?_⟩
  repeat ((try subst X); (first | (first | apply zL | apply zH | apply zE); intro X hX | apply zh | apply zl | apply ze); try simp only [zU, reduceIte, Nat.reduceEqDiff, Nat.reduceAdd, reduceCtorEq, Q128])
  refine Inv.call Fx.en166 (and_ok w2 _ _ g (h.ext he02) hg) ?_
  rintro _ w3 he3
  repeat ((try subst X); (first | (first | apply zL | apply zH | apply zE); intro X hX | apply zh | apply zl | apply ze); try simp only [zU, reduceIte, Nat.reduceEqDiff, Nat.reduceAdd, reduceCtorEq, Q128])
  refine hM _ _ _ ?_; clear hM M
  have he03 := he02.trans he3
  replace hb1 := hb1.ext he3
  replace hb2 := hb2.ext he3
  replace hb := hb.ext he03
  replace hbs := hbs.ext he03
  replace hc0 := he03.cellsAt hc0
  replace hc9 := he03.cellsAt hc9
  refine ok_seq (fun M hM => ?_)
  refine (ok_drawR [2, 3, 7, 8] [0, 1, 2, 3, 4, 5, 6, 7, 8, 9, 10, 11] 12 [] (Ext _) Fx.mixed (by decide) rfl rfl rfl (by decide +kernel) (by decide +kernel) (Ext.drew _) ?_); simp only [pickL, List.getElem?_cons_zero, List.getElem?_cons_succ, List.take_succ_cons, List.take_zero, List.drop_succ_cons, List.drop_zero]
  repeat ((try subst X); (first | (first | apply zL | apply zH | apply zE); intro X hX | apply zh | apply zl | apply ze); try simp only [zU, reduceIte, Nat.reduceEqDiff, Nat.reduceAdd, reduceCtorEq, Q128])
  refine ⟨_, fun w' h => Blk.cell (hb.ext h) h5, ?_⟩
  repeat ((try subst X); (first | (first | apply zL | apply zH | apply zE); intro X hX | apply zh | apply zl | apply ze); try simp only [zU, reduceIte, Nat.reduceEqDiff, Nat.reduceAdd, reduceCtorEq, Q128])
  refine ⟨_, fun w' h => Blk.cell (hb.ext h) h6, ?_⟩
  repeat ((try subst X); (first | (first | apply zL | apply zH | apply zE); intro X hX | apply zh | apply zl | apply ze); try simp only [zU, reduceIte, Nat.reduceEqDiff, Nat.reduceAdd, reduceCtorEq, Q128])
  intro w4 he4
  repeat ((try subst X); (first | (first | apply zL | apply zH | apply zE); intro X hX | apply zh | apply zl | apply ze); try simp only [zU, reduceIte, Nat.reduceEqDiff, Nat.reduceAdd, reduceCtorEq, Q128])
  refine hM _ _ _ ?_; clear hM M
  refine ok_seq (fun M hM => ok_region rfl ?_)
  repeat ((try subst X); (first | (first | apply zL | apply zH | apply zE); intro X hX | apply zh | apply zl | apply ze); try simp only [zU, reduceIte, Nat.reduceEqDiff, Nat.reduceAdd, reduceCtorEq, Q128])
  simp only [hikI, decide_true]
  repeat ((try subst X); (first | (first | apply zL | apply zH | apply zE); intro X hX | apply zh | apply zl | apply ze); try simp only [zU, reduceIte, Nat.reduceEqDiff, Nat.reduceAdd, reduceCtorEq, Q128])
  refine Inv.call Fx.en159 (hold_ok w4) ?_
  rintro _ w5 hw5
  rw [hw5]; clear hw5 w5
  repeat ((try subst X); (first | (first | apply zL | apply zH | apply zE); intro X hX | apply zh | apply zl | apply ze); try simp only [zU, reduceIte, Nat.reduceEqDiff, Nat.reduceAdd, reduceCtorEq, Q128])
  refine hM _ _ _ ?_; clear hM M
  replace hb1 := hb1.ext he4
  replace hb2 := hb2.ext he4
  replace hb := hb.ext he4
  replace hbs := hbs.ext he4
  replace hc0 := he4.cellsAt hc0
  replace hc9 := he4.cellsAt hc9
  have he04 := he03.trans he4
  obtain ⟨T, hT⟩ : ∃ T : List (Nat × Value), T = [(29, .pointer (some ⟨B1, 6, none⟩)), (30, .slice (some ⟨k0, o0, none⟩) g.kids.length ck), (31, .int .i64 (i : Int)), (32, .pointer (some ⟨k0, o0 + i * 9, none⟩)), (33, .agg r0.toArray), (34, .pointer (some ⟨B1, 6, none⟩)), (35, .slice (some ⟨k0, o0, none⟩) g.kids.length ck), (36, .int .i64 (k : Int)), (37, .pointer (some ⟨k0, o0 + k * 9, none⟩)), (38, .agg r9.toArray)] := ⟨_, rfl⟩
  have one0 : ∀ u ∈ (Value.agg r0.toArray).cells.toList, u.oneCell' = true := fun u hu => (hr0.one u (by simpa [Value.cells] using hu)).1
  have one9 : ∀ u ∈ (Value.agg r9.toArray).cells.toList, u.oneCell' = true := fun u hu => (hr9.one u (by simpa [Value.cells] using hu)).1
  refine ok_seq (fun M hM => ?_)
  refine ok_two T [(0, .pointer (some ⟨B, 0, none⟩)), (3, .pointer (some ⟨B1, 0, none⟩)), (4, .pointer (some ⟨B2, 0, none⟩)), (5, .int .i64 (i : Int)), (6, .int .i64 (k : Int))] 7 8 33 38 4 9 37 Fx.mixed rfl rfl (by rw [hT]; rfl) (by rw [hT]; rfl) (by rw [hT]; rfl) (by rw [hT]; rfl) (by rw [hT]; rfl) (by rw [hT]; rfl) ⟨rfl, rfl, rfl⟩ ⟨rfl, rfl, rfl⟩ ⟨rfl, rfl, rfl⟩ ⟨rfl, rfl, rfl⟩ (by rw [hT]; rfl) (by rw [hT]; rfl) (by rw [hT]; rfl) (by rw [hT]; rfl) Fx.zi37 rfl (by simpa [Value.cells] using hr0l) one0 (by simpa [Value.cells] using hr9l) one9 (by simp [sub, Env.get]) (by simp [sub, Env.get]) ?_ ?_
  · intro L K7 W j o heW hsub at_ ho hj' hno M hM
    have g3 : K7.get 3 = some (.pointer (some ⟨B1, 0, none⟩)) := sub_get hsub 3 _ rfl
    have g5 : K7.get 5 = some (.int .i64 (i : Int)) := sub_get hsub 5 _ rfl
    have g6 : K7.get 6 = some (.int .i64 (k : Int)) := sub_get hsub 6 _ rfl
    subst hT
    simp only [List.length_cons, List.length_nil, Nat.zero_add, Nat.reduceAdd] at hj'
    obtain rfl | rfl | rfl | rfl | rfl | rfl | rfl | rfl | rfl | rfl : j = 0 ∨ j = 1 ∨ j = 2 ∨ j = 3 ∨ j = 4 ∨ j = 5 ∨ j = 6 ∨ j = 7 ∨ j = 8 ∨ j = 9 := by omega
    all_goals (simp only [List.getElem?_cons_zero, List.getElem?_cons_succ, Option.some.injEq] at ho; subst ho)
    · repeat ((try subst X); (first | (first | apply zL | apply zH | apply zE); intro X hX | apply zh | apply zl | apply ze); try simp only [zU, reduceIte, Nat.reduceEqDiff, Nat.reduceAdd, reduceCtorEq, Q128])
      simp only [g3]
      repeat ((try subst X); (first | (first | apply zL | apply zH | apply zE); intro X hX | apply zh | apply zl | apply ze); try simp only [zU, reduceIte, Nat.reduceEqDiff, Nat.reduceAdd, reduceCtorEq, Q128])
      exact hM 29 _ rfl
    · have q := at_ 0 29 _ rfl (hno 0 (by decide))
      repeat ((try subst X); (first | (first | apply zL | apply zH | apply zE); intro X hX | apply zh | apply zl | apply ze); try simp only [zU, reduceIte, Nat.reduceEqDiff, Nat.reduceAdd, reduceCtorEq, Q128])
      simp only [q]
      repeat ((try subst X); (first | (first | apply zL | apply zH | apply zE); intro X hX | apply zh | apply zl | apply ze); try simp only [zU, reduceIte, Nat.reduceEqDiff, Nat.reduceAdd, reduceCtorEq, Q128])
      refine ⟨_, Blk.cell (hb1.ext heW) rfl, ?_⟩
      repeat ((try subst X); (first | (first | apply zL | apply zH | apply zE); intro X hX | apply zh | apply zl | apply ze); try simp only [zU, reduceIte, Nat.reduceEqDiff, Nat.reduceAdd, reduceCtorEq, Q128])
      exact hM 30 _ rfl
    · repeat ((try subst X); (first | (first | apply zL | apply zH | apply zE); intro X hX | apply zh | apply zl | apply ze); try simp only [zU, reduceIte, Nat.reduceEqDiff, Nat.reduceAdd, reduceCtorEq, Q128])
      simp only [g5]
      repeat ((try subst X); (first | (first | apply zL | apply zH | apply zE); intro X hX | apply zh | apply zl | apply ze); try simp only [zU, reduceIte, Nat.reduceEqDiff, Nat.reduceAdd, reduceCtorEq, Q128])
      exact hM 31 _ rfl
    · have q1 := at_ 1 30 _ rfl (hno 1 (by decide))
      have q2 := at_ 2 31 _ rfl (hno 2 (by decide))
      repeat ((try subst X); (first | (first | apply zL | apply zH | apply zE); intro X hX | apply zh | apply zl | apply ze); try simp only [zU, reduceIte, Nat.reduceEqDiff, Nat.reduceAdd, reduceCtorEq, Q128])
      simp only [q1, q2]
      repeat ((try subst X); (first | (first | apply zL | apply zH | apply zE); intro X hX | apply zh | apply zl | apply ze); try simp only [zU, reduceIte, Nat.reduceEqDiff, Nat.reduceAdd, reduceCtorEq, Q128])
      refine ⟨by omega, by omega, ?_⟩
      repeat ((try subst X); (first | (first | apply zL | apply zH | apply zE); intro X hX | apply zh | apply zl | apply ze); try simp only [zU, reduceIte, Nat.reduceEqDiff, Nat.reduceAdd, reduceCtorEq, Q128])
      exact hM 32 _ rfl
    · have q := at_ 3 32 _ rfl (hno 3 (by decide))
      repeat ((try subst X); (first | (first | apply zL | apply zH | apply zE); intro X hX | apply zh | apply zl | apply ze); try simp only [zU, reduceIte, Nat.reduceEqDiff, Nat.reduceAdd, reduceCtorEq, Q128])
      simp only [q]
      repeat ((try subst X); (first | (first | apply zL | apply zH | apply zE); intro X hX | apply zh | apply zl | apply ze); try simp only [zU, reduceIte, Nat.reduceEqDiff, Nat.reduceAdd, reduceCtorEq, Q128])
      refine ⟨r0, hr0l, heW.cellsAt hc0, ?_⟩
      repeat ((try subst X); (first | (first | apply zL | apply zH | apply zE); intro X hX | apply zh | apply zl | apply ze); try simp only [zU, reduceIte, Nat.reduceEqDiff, Nat.reduceAdd, reduceCtorEq, Q128])
      exact hM 33 _ rfl
    · repeat ((try subst X); (first | (first | apply zL | apply zH | apply zE); intro X hX | apply zh | apply zl | apply ze); try simp only [zU, reduceIte, Nat.reduceEqDiff, Nat.reduceAdd, reduceCtorEq, Q128])
      simp only [g3]
      repeat ((try subst X); (first | (first | apply zL | apply zH | apply zE); intro X hX | apply zh | apply zl | apply ze); try simp only [zU, reduceIte, Nat.reduceEqDiff, Nat.reduceAdd, reduceCtorEq, Q128])
      exact hM 34 _ rfl
    · have q := at_ 5 34 _ rfl (hno 5 (by decide))
      repeat ((try subst X); (first | (first | apply zL | apply zH | apply zE); intro X hX | apply zh | apply zl | apply ze); try simp only [zU, reduceIte, Nat.reduceEqDiff, Nat.reduceAdd, reduceCtorEq, Q128])
      simp only [q]
      repeat ((try subst X); (first | (first | apply zL | apply zH | apply zE); intro X hX | apply zh | apply zl | apply ze); try simp only [zU, reduceIte, Nat.reduceEqDiff, Nat.reduceAdd, reduceCtorEq, Q128])
      refine ⟨_, Blk.cell (hb1.ext heW) rfl, ?_⟩
      repeat ((try subst X); (first | (first | apply zL | apply zH | apply zE); intro X hX | apply zh | apply zl | apply ze); try simp only [zU, reduceIte, Nat.reduceEqDiff, Nat.reduceAdd, reduceCtorEq, Q128])
      exact hM 35 _ rfl
    · repeat ((try subst X); (first | (first | apply zL | apply zH | apply zE); intro X hX | apply zh | apply zl | apply ze); try simp only [zU, reduceIte, Nat.reduceEqDiff, Nat.reduceAdd, reduceCtorEq, Q128])
      simp only [g6]
      repeat ((try subst X); (first | (first | apply zL | apply zH | apply zE); intro X hX | apply zh | apply zl | apply ze); try simp only [zU, reduceIte, Nat.reduceEqDiff, Nat.reduceAdd, reduceCtorEq, Q128])
      exact hM 36 _ rfl
    · have q1 := at_ 6 35 _ rfl (hno 6 (by decide))
      have q2 := at_ 7 36 _ rfl (hno 7 (by decide))
      repeat ((try subst X); (first | (first | apply zL | apply zH | apply zE); intro X hX | apply zh | apply zl | apply ze); try simp only [zU, reduceIte, Nat.reduceEqDiff, Nat.reduceAdd, reduceCtorEq, Q128])
      simp only [q1, q2]
      repeat ((try subst X); (first | (first | apply zL | apply zH | apply zE); intro X hX | apply zh | apply zl | apply ze); try simp only [zU, reduceIte, Nat.reduceEqDiff, Nat.reduceAdd, reduceCtorEq, Q128])
      refine ⟨by omega, by omega, ?_⟩
      repeat ((try subst X); (first | (first | apply zL | apply zH | apply zE); intro X hX | apply zh | apply zl | apply ze); try simp only [zU, reduceIte, Nat.reduceEqDiff, Nat.reduceAdd, reduceCtorEq, Q128])
      exact hM 37 _ rfl
    · have q := at_ 8 37 _ rfl (hno 8 (by decide))
      repeat ((try subst X); (first | (first | apply zL | apply zH | apply zE); intro X hX | apply zh | apply zl | apply ze); try simp only [zU, reduceIte, Nat.reduceEqDiff, Nat.reduceAdd, reduceCtorEq, Q128])
      simp only [q]
      repeat ((try subst X); (first | (first | apply zL | apply zH | apply zE); intro X hX | apply zh | apply zl | apply ze); try simp only [zU, reduceIte, Nat.reduceEqDiff, Nat.reduceAdd, reduceCtorEq, Q128])
      refine ⟨r9, hr9l, heW.cellsAt hc9, ?_⟩
      repeat ((try subst X); (first | (first | apply zL | apply zH | apply zE); intro X hX | apply zh | apply zl | apply ze); try simp only [zU, reduceIte, Nat.reduceEqDiff, Nat.reduceAdd, reduceCtorEq, Q128])
      exact hM 38 _ rfl
  intro B7 B8 K7 w7 he47 hsub g7 g8 hB7 hB8 hne hb7 hb8
  rw [agg_cells] at hb7 hb8
  simp only [thenN]
  refine hM _ _ _ (ok_less [(0, .pointer (some ⟨B, 0, none⟩)), (3, .pointer (some ⟨B1, 0, none⟩)), (4, .pointer (some ⟨B2, 0, none⟩)), (5, .int .i64 (i : Int)), (6, .int .i64 (k : Int)), (7, .pointer (some ⟨B7, 0, none⟩)), (8, .pointer (some ⟨B8, 0, none⟩))] ⟨sub_get hsub 0 _ rfl, sub_get hsub 3 _ rfl, sub_get hsub 4 _ rfl, sub_get hsub 5 _ rfl, sub_get hsub 6 _ rfl, g7, g8, trivial⟩ ?_)
  clear hM M hsub g7 g8 hT T
  have hz2 : w2.heap.size = B1 + 2 := by omega
  have hz3 := he3.size
  have hz4 := he4.size
  have hz7 := he47.size
  have he07 := he04.trans he47
  replace hb1 := hb1.ext he47
  replace hb2 := hb2.ext he47
  replace hb := hb.ext he47
  replace hbs := hbs.ext he47
  refine ok_seq (fun M hM => ok_region rfl ?_)
  repeat ((try subst X); (first | (first | apply zL | apply zH | apply zE); intro X hX | apply zh | apply zl | apply ze); try simp only [zU, reduceIte, Nat.reduceEqDiff, Nat.reduceAdd, reduceCtorEq, Q128])
  refine ⟨_, Blk.cell hb7 m0, ?_⟩
  repeat ((try subst X); (first | (first | apply zL | apply zH | apply zE); intro X hX | apply zh | apply zl | apply ze); try simp only [zU, reduceIte, Nat.reduceEqDiff, Nat.reduceAdd, reduceCtorEq, Q128])
  refine ⟨_, Blk.cell hb7 m4, ?_⟩
  repeat ((try subst X); (first | (first | apply zL | apply zH | apply zE); intro X hX | apply zh | apply zl | apply ze); try simp only [zU, reduceIte, Nat.reduceEqDiff, Nat.reduceAdd, reduceCtorEq, Q128])
  refine ⟨_, Blk.cell hb8 u1, ?_⟩
  repeat ((try subst X); (first | (first | apply zL | apply zH | apply zE); intro X hX | apply zh | apply zl | apply ze); try simp only [zU, reduceIte, Nat.reduceEqDiff, Nat.reduceAdd, reduceCtorEq, Q128])
  refine ⟨_, Blk.cell hb7 m1, ?_⟩
  repeat ((try subst X); (first | (first | apply zL | apply zH | apply zE); intro X hX | apply zh | apply zl | apply ze); try simp only [zU, reduceIte, Nat.reduceEqDiff, Nat.reduceAdd, reduceCtorEq, Q128])
  refine Inv.call Fx.en159 (hold_ok w7) ?_
  rintro _ w5 hw5
  rw [hw5]; clear hw5 w5
  repeat ((try subst X); (first | (first | apply zL | apply zH | apply zE); intro X hX | apply zh | apply zl | apply ze); try simp only [zU, reduceIte, Nat.reduceEqDiff, Nat.reduceAdd, reduceCtorEq, Q128])
  refine hM _ _ _ ?_; clear hM M
  refine ok_seq (fun M hM => ok_region rfl ?_)
  repeat ((try subst X); (first | (first | apply zL | apply zH | apply zE); intro X hX | apply zh | apply zl | apply ze); try simp only [zU, reduceIte, Nat.reduceEqDiff, Nat.reduceAdd, reduceCtorEq, Q128])
  refine ⟨_, Blk.cell hb8 u0, ?_⟩
  repeat ((try subst X); (first | (first | apply zL | apply zH | apply zE); intro X hX | apply zh | apply zl | apply ze); try simp only [zU, reduceIte, Nat.reduceEqDiff, Nat.reduceAdd, reduceCtorEq, Q128])
  simp only [d96]
  repeat ((try subst X); (first | (first | apply zL | apply zH | apply zE); intro X hX | apply zh | apply zl | apply ze); try simp only [zU, reduceIte, Nat.reduceEqDiff, Nat.reduceAdd, reduceCtorEq, Q128])
  refine ⟨fun _ => ?_, fun h => by cases h⟩
  repeat ((try subst X); (first | (first | apply zL | apply zH | apply zE); intro X hX | apply zh | apply zl | apply ze); try simp only [zU, reduceIte, Nat.reduceEqDiff, Nat.reduceAdd, reduceCtorEq, Q128])
  refine ⟨_, Blk.cell hb8 u0, ?_⟩
  repeat ((try subst X); (first | (first | apply zL | apply zH | apply zE); intro X hX | apply zh | apply zl | apply ze); try simp only [zU, reduceIte, Nat.reduceEqDiff, Nat.reduceAdd, reduceCtorEq, Q128])
  refine ⟨_, Blk.cell hb8 u4, ?_⟩
  repeat ((try subst X); (first | (first | apply zL | apply zH | apply zE); intro X hX | apply zh | apply zl | apply ze); try simp only [zU, reduceIte, Nat.reduceEqDiff, Nat.reduceAdd, reduceCtorEq, Q128])
  refine Inv.call Fx.en159 (hold_ok w7) ?_
  rintro _ w5 hw5
  rw [hw5]; clear hw5 w5
  repeat ((try subst X); (first | (first | apply zL | apply zH | apply zE); intro X hX | apply zh | apply zl | apply ze); try simp only [zU, reduceIte, Nat.reduceEqDiff, Nat.reduceAdd, reduceCtorEq, Q128])
  refine hM _ _ _ ?_; clear hM M
  refine ok_seq (fun M hM => ok_region rfl ?_)
  repeat ((try subst X); (first | (first | apply zL | apply zH | apply zE); intro X hX | apply zh | apply zl | apply ze); try simp only [zU, reduceIte, Nat.reduceEqDiff, Nat.reduceAdd, reduceCtorEq, Q128])
  refine ⟨_, Blk.cell hb8 u8, ?_⟩
  repeat ((try subst X); (first | (first | apply zL | apply zH | apply zE); intro X hX | apply zh | apply zl | apply ze); try simp only [zU, reduceIte, Nat.reduceEqDiff, Nat.reduceAdd, reduceCtorEq, Q128])
  refine Runs.build (parts := [(0, _), (1, _), (8, _)]) st37 rfl ?_
  repeat ((try subst X); (first | (first | apply zL | apply zH | apply zE); intro X hX | apply zh | apply zl | apply ze); try simp only [zU, reduceIte, Nat.reduceEqDiff, Nat.reduceAdd, reduceCtorEq, Q128])
  refine Runs.alloc Fx.zi37 (fun w8 he8 hs8 hb9 => ?_)
  simp only [Value.cells] at hb9
  generalize hB9 : w7.heap.size = B9 at *
  repeat ((try subst X); (first | (first | apply zL | apply zH | apply zE); intro X hX | apply zh | apply zl | apply ze); try simp only [zU, reduceIte, Nat.reduceEqDiff, Nat.reduceAdd, reduceCtorEq, Q128])
  refine Runs.store hb9 Fx.zi37 rfl (by simp [Value.cells, Value.oneCell']) (by simp) (fun w9 hc9 hs9 hb9' => ?_)
  repeat ((try subst X); (first | (first | apply zL | apply zH | apply zE); intro X hX | apply zh | apply zl | apply ze); try simp only [zU, reduceIte, Nat.reduceEqDiff, Nat.reduceAdd, reduceCtorEq, Q128])
  refine hM _ _ _ ?_; clear hM M
  have he79 : Ext w7 w9 := he8.chg_trans hc9 (by intro k hk; omega)
  have he09 := he07.trans he79
  replace hb1 := hb1.ext he79
  replace hb2 := hb2.ext he79
  replace hb := hb.ext he79
  replace hbs := hbs.ext he79
  replace hb7 := hb7.ext he79
  replace hb8 := hb8.ext he79
  refine ok_seq (fun M hM => ok_region rfl ?_); repeat ((try subst X); (first | (first | apply zL | apply zH | apply zE); intro X hX | apply zh | apply zl | apply ze); try simp only [zU, reduceIte, Nat.reduceEqDiff, Nat.reduceAdd, reduceCtorEq, Q128])
  refine hM _ _ _ ?_; clear hM M
  refine ok_seq (fun M0 hM0 => ok_block ?_)
  refine ok_seq (fun M hM => ok_region rfl ?_)
  repeat ((try subst X); (first | (first | apply zL | apply zH | apply zE); intro X hX | apply zh | apply zl | apply ze); try simp only [zU, reduceIte, Nat.reduceEqDiff, Nat.reduceAdd, reduceCtorEq, Q128])
  refine ⟨_, Blk.cell hb8 u0, ?_⟩
  repeat ((try subst X); (first | (first | apply zL | apply zH | apply zE); intro X hX | apply zh | apply zl | apply ze); try simp only [zU, reduceIte, Nat.reduceEqDiff, Nat.reduceAdd, reduceCtorEq, Q128])
  simp only [d96]
  repeat ((try subst X); (first | (first | apply zL | apply zH | apply zE); intro X hX | apply zh | apply zl | apply ze); try simp only [zU, reduceIte, Nat.reduceEqDiff, Nat.reduceAdd, reduceCtorEq, Q128])
  refine hM _ _ _ ?_; clear hM M
  refine ok_cond rfl (fun h => by cases h) (fun _ => ?_)
  refine ok_seq (fun M hM => ok_region rfl ?_)
  repeat ((try subst X); (first | (first | apply zL | apply zH | apply zE); intro X hX | apply zh | apply zl | apply ze); try simp only [zU, reduceIte, Nat.reduceEqDiff, Nat.reduceAdd, reduceCtorEq, Q128])
  refine ⟨_, Blk.cell hb8 u2, ?_⟩
  repeat ((try subst X); (first | (first | apply zL | apply zH | apply zE); intro X hX | apply zh | apply zl | apply ze); try simp only [zU, reduceIte, Nat.reduceEqDiff, Nat.reduceAdd, reduceCtorEq, Q128])
  refine ⟨_, Blk.cell hb7 m2, ?_⟩
  repeat ((try subst X); (first | (first | apply zL | apply zH | apply zE); intro X hX | apply zh | apply zl | apply ze); try simp only [zU, reduceIte, Nat.reduceEqDiff, Nat.reduceAdd, reduceCtorEq, Q128])
  refine hM _ _ _ ?_; clear hM M
  refine ok_cond rfl (fun h => by cases h) (fun _ => ?_)
  refine ok_seq (fun M hM => ok_region rfl ?_)
  repeat ((try subst X); (first | (first | apply zL | apply zH | apply zE); intro X hX | apply zh | apply zl | apply ze); try simp only [zU, reduceIte, Nat.reduceEqDiff, Nat.reduceAdd, reduceCtorEq, Q128])
  refine ⟨_, Blk.cell hb8 u5, ?_⟩
  repeat ((try subst X); (first | (first | apply zL | apply zH | apply zE); intro X hX | apply zh | apply zl | apply ze); try simp only [zU, reduceIte, Nat.reduceEqDiff, Nat.reduceAdd, reduceCtorEq, Q128])
  refine ⟨_, Blk.cell hb7 m5, ?_⟩
  repeat ((try subst X); (first | (first | apply zL | apply zH | apply zE); intro X hX | apply zh | apply zl | apply ze); try simp only [zU, reduceIte, Nat.reduceEqDiff, Nat.reduceAdd, reduceCtorEq, Q128])
  refine Inv.call Fx.en159 (hold_ok w9) ?_
  rintro _ w5 hw5
  rw [hw5]; clear hw5 w5
  repeat ((try subst X); (first | (first | apply zL | apply zH | apply zE); intro X hX | apply zh | apply zl | apply ze); try simp only [zU, reduceIte, Nat.reduceEqDiff, Nat.reduceAdd, reduceCtorEq, Q128])
  refine hM _ _ _ ?_; clear hM M
  refine ok_region rfl ?_
  repeat ((try subst X); (first | (first | apply zL | apply zH | apply zE); intro X hX | apply zh | apply zl | apply ze); try simp only [zU, reduceIte, Nat.reduceEqDiff, Nat.reduceAdd, reduceCtorEq, Q128])
  refine ⟨r0, hr0l, hb7.all, ?_⟩
  repeat ((try subst X); (first | (first | apply zL | apply zH | apply zE); intro X hX | apply zh | apply zl | apply ze); try simp only [zU, reduceIte, Nat.reduceEqDiff, Nat.reduceAdd, reduceCtorEq, Q128])
  refine ⟨r9, hr9l, hb8.all, ?_⟩
  repeat ((try subst X); (first | (first | apply zL | apply zH | apply zE); intro X hX | apply zh | apply zl | apply ze); try simp only [zU, reduceIte, Nat.reduceEqDiff, Nat.reduceAdd, reduceCtorEq, Q128])
  refine Inv.call Fx.en178 (parts_ok w9 S B Bs acs scs pcs r0 r9 pa p insts vi vp path k v x made used hb h0 h1 h4 h6 hbs hs1 (hi'.ext he09) (hpt.ext he09) (he09.cellsAt hpc) (hp.ext he09) ((hr0.ext he09).mono fun _ h _ => h.1) ((hr9.ext he09).mono fun _ h _ => h.1) hma hua hh hnb) ?_
  rintro vby w10 ⟨he10, hown⟩
  repeat ((try subst X); (first | (first | apply zL | apply zH | apply zE); intro X hX | apply zh | apply zl | apply ze); try simp only [zU, reduceIte, Nat.reduceEqDiff, Nat.reduceAdd, reduceCtorEq, Q128])
  refine hM0 _ _ _ (ok_less [(3, .pointer (some ⟨B1, 0, none⟩)), (4, .pointer (some ⟨B2, 0, none⟩)), (6, .int .i64 (k : Int)), (10, vby)] (by simp [sub, Env.get]) ?_)
  clear hM0 M0
  obtain ⟨Aby, cby, rfl, -⟩ := hown.len
  simp only [List.length_map, List.length_singleton] at hown ⊢
  have he010 := he09.trans he10
  replace hb1 := hb1.ext he10
  replace hb2 := hb2.ext he10
  obtain ⟨A', c', hsl, hslR⟩ := run_sliceD (P := Tryz.prog) (w := w10) Fx.un34 Fx.zi37 (hkk.ext he010) (mapG_wid _) none (some k) .i64 .i64 (by simp only [Option.getD_some]; omega) (by simp)
  obtain ⟨A'', c'', hsl2, hslR2⟩ := run_sliceD (P := Tryz.prog) (w := w10) Fx.un34 Fx.zi37 (hkk.ext he010) (mapG_wid _) (some (k + 1)) none .i64 .i64 (by simp) (by simp only [Option.getD_none, Option.getD_some]; omega)
  simp only [Option.map_some, Option.map_none, Option.getD_none, Option.getD_some, Nat.sub_zero, List.drop_zero, Int.natCast_add, Int.cast_ofNat_Int] at hsl hslR hsl2 hslR2
  refine ok_seq (fun M hM => ?_)
  refine (ok_drawR [0, 5, 12] [0, 1, 2, 3, 4, 5, 6, 7, 8, 9, 12, 10, 11, 13] 11 [(false, false), (false, false), (false, true)] (Ext _) Fx.mixed (by decide) rfl rfl rfl (by decide +kernel) (by decide +kernel) (Ext.drew _) ?_); simp only [pickL, List.getElem?_cons_zero, List.getElem?_cons_succ, List.take_succ_cons, List.take_zero, List.drop_succ_cons, List.drop_zero]
  repeat ((try subst X); (first | (first | apply zL | apply zH | apply zE); intro X hX | apply zh | apply zl | apply ze); try simp only [zU, reduceIte, Nat.reduceEqDiff, Nat.reduceAdd, reduceCtorEq, Q128])
  refine ⟨_, fun w' h => Blk.cell (hb1.ext h) rfl, ?_⟩
  repeat ((try subst X); (first | (first | apply zL | apply zH | apply zE); intro X hX | apply zh | apply zl | apply ze); try simp only [zU, reduceIte, Nat.reduceEqDiff, Nat.reduceAdd, reduceCtorEq, Q128])
  refine ⟨_, fun w' h => hsl w', ?_⟩
  repeat ((try subst X); (first | (first | apply zL | apply zH | apply zE); intro X hX | apply zh | apply zl | apply ze); try simp only [zU, reduceIte, Nat.reduceEqDiff, Nat.reduceAdd, reduceCtorEq, Q128])
  refine ⟨_, fun w' h => Blk.cell (hb1.ext h) rfl, ?_⟩
  repeat ((try subst X); (first | (first | apply zL | apply zH | apply zE); intro X hX | apply zh | apply zl | apply ze); try simp only [zU, reduceIte, Nat.reduceEqDiff, Nat.reduceAdd, reduceCtorEq, Q128])
  refine ⟨by simp only [inI]; omega, ?_⟩
  repeat ((try subst X); (first | (first | apply zL | apply zH | apply zE); intro X hX | apply zh | apply zl | apply ze); try simp only [zU, reduceIte, Nat.reduceEqDiff, Nat.reduceAdd, reduceCtorEq, Q128])
  refine ⟨_, fun w' h => hsl2 w', ?_⟩
  repeat ((try subst X); (first | (first | apply zL | apply zH | apply zE); intro X hX | apply zh | apply zl | apply ze); try simp only [zU, reduceIte, Nat.reduceEqDiff, Nat.reduceAdd, reduceCtorEq, Q128])
  intro w11 he11
  repeat ((try subst X); (first | (first | apply zL | apply zH | apply zE); intro X hX | apply zh | apply zl | apply ze); try simp only [zU, reduceIte, Nat.reduceEqDiff, Nat.reduceAdd, reduceCtorEq, Q128])
  refine Runs.lit (n := 3) (cs := [.slice A' k c', .slice Aby 1 cby, .slice A'' (g.kids.length - (k + 1)) c'']) (parts := [(0, _), (1, _), (2, _)]) Fx.un224 Fx.zi34 (by decide) (by kernel_rfl) (by decide) (fun w12 he12 hs12 hb12 => ?_)
  repeat ((try subst X); (first | (first | apply zL | apply zH | apply zE); intro X hX | apply zh | apply zl | apply ze); try simp only [zU, reduceIte, Nat.reduceEqDiff, Nat.reduceAdd, reduceCtorEq, Q128])
  have hz9 := he79.size
  have hz10 := he10.size
  have hz11 := he11.size
  have he1012 := he11.trans he12
  have he012 := he010.trans he1012
  obtain ⟨F, hF⟩ : ∃ F : Nat → Prop, ∀ k, F k ↔ (S k ∧ k < B1) ∨ B1 + 2 ≤ k := ⟨_, fun k => Iff.rfl⟩
  have hF0 : ∀ {cs ds}, Rd w (fun k => S k ∧ k < B1) cs ds → Rd w12 F cs ds := fun h => (h.ext he012).mono fun k hk _ => (hF k).2 (.inl hk)
  have hz12 : w12.heap.size = w11.heap.size + 1 := hs12
  have hls : Rd w12 F [.slice (some ⟨w11.heap.size, 0, none⟩) 3 3] [.sl 24 (rowsL [g.kids.take k, [partG v x used.pos], g.kids.drop (k + 1)])] := by
    refine Rd.lit (sz := 1) [[.slice A' k c'], [.slice Aby 1 cby], [.slice A'' (g.kids.length - (k + 1)) c'']] hb12 rfl rfl rfl (by intro r hr; simp at hr; rcases hr with rfl | rfl | rfl <;> rfl) (by intro r hr; simp [rowsL] at hr; rcases hr with rfl | rfl | rfl <;> rfl) ((hF _).2 (.inr (by omega))) (by simp [rowsL]) (by simp [rowsL]) (by simp [rowsL]) ?_
    intro j r d hj hd
    rcases j with _ | _ | _ | j
    · simp [rowsL] at hj hd; subst hj hd
      have := hslR w12 F (hF0 hkk)
      exact this
    · simp [rowsL] at hj hd; subst hj hd
      exact (hown.ext he1012).rd (b := 128) (by simp) (by simp) (fun j hl hk => by
        rcases hk with hk | hk
        · exact (hF j).2 (.inr (by have := hk.1; omega))
        · have := (hown.lt hk).1; exact (hF j).2 (.inr (by omega)))
    · simp [rowsL] at hj hd; subst hj hd
      have := hslR2 w12 F (hF0 hkk)
      rw [List.take_of_length_le (by simp)] at this
      exact this
    · simp at hj
  repeat ((try subst X); (first | (first | apply zL | apply zH | apply zE); intro X hX | apply zh | apply zl | apply ze); try simp only [zU, reduceIte, Nat.reduceEqDiff, Nat.reduceAdd, reduceCtorEq, Q128])
  refine Inv.call Fx.en179 (concat_ok w12 F _ _ hls (by simp [sumL]; omega) (by simp [sumL]; omega)) ?_
  rintro vc w13 ⟨he13, hown13⟩
  obtain ⟨Av, cv, rfl, -⟩ := hown13.len
  repeat ((try subst X); (first | (first | apply zL | apply zH | apply zE); intro X hX | apply zh | apply zl | apply ze); try simp only [zU, reduceIte, Nat.reduceEqDiff, Nat.reduceAdd, reduceCtorEq, Q128])
  have hfl : [g.kids.take k, [partG v x used.pos], g.kids.drop (k + 1)].flatten = g.kids.take k ++ [partG v x used.pos] ++ g.kids.drop (k + 1) := by simp
  rw [hfl] at hown13 ⊢
  have hlen : ((g.kids.take k ++ [partG v x used.pos] ++ g.kids.drop (k + 1)).map encG).length = g.kids.length := by simp; omega
  have he1013 := he1012.trans he13
  have he013 := he012.trans he13
  refine Runs.store (hb1.ext he1013) Fx.zi34 rfl cell1s (by simp) (fun w14 hc14 hs14 hb14 => ?_)
  simp only [splice, Value.cells, List.length_singleton, Nat.reduceAdd, List.take_succ_cons, List.take_zero, List.drop_succ_cons, List.drop_zero, List.cons_append, List.nil_append, List.drop_nil] at hb14
  repeat ((try subst X); (first | (first | apply zL | apply zH | apply zE); intro X hX | apply zh | apply zl | apply ze); try simp only [zU, reduceIte, Nat.reduceEqDiff, Nat.reduceAdd, reduceCtorEq, Q128])
  refine hM _ _ _ ?_; clear hM M
  obtain ⟨KS, hKS⟩ : ∃ KS, KS = g.kids.take k ++ [partG v x used.pos] ++ g.kids.drop (k + 1) := ⟨_, rfl⟩
  rw [← hKS] at hown13 hlen hb14 ⊢
  have hk' : Rd w14 F [.slice Av (KS.map encG).length cv] [.sl 128 (KS.map encG)] := by
    have hh := hown13.rd (b := 128) (S' := F) (by omega) (by omega) (fun j hl hk => by
      rcases hk with hk | hk
      · exact hk.1.1
      · have := (hown13.lt hk).1; exact (hF j).2 (.inr (by omega)))
    exact hh.chg hc14 (fun k hk _ e => by rcases (hF k).1 hk with hk | hk; have := hk.2; omega; omega)
  have hres : Rd w14 F [.int .i64 g.kind, .int .i64 g.left, .int .i64 g.num, .string g.text, .int .i64 g.form, .slice Aa g.args.length ca, .slice Av (KS.map encG).length cv, .slice Ac g.cases.length cc, .int .i64 g.pos] (encG (withKids g KS)) := by
    have h0 : ∀ {cs ds}, Rd w (fun k => S k ∧ k < B1) cs ds → Rd w14 F cs ds := fun h => ((h.ext he013).chg hc14 (fun k hk _ e => by have := hk.2; omega)).mono fun k hk _ => (hF k).2 (.inl hk)
    exact rdG_mk (g := withKids g KS) (h0 ha) hk' (h0 hc)
  refine ok_seq (fun M hM => ok_region rfl ?_)
  repeat ((try subst X); (first | (first | apply zL | apply zH | apply zE); intro X hX | apply zh | apply zl | apply ze); try simp only [zU, reduceIte, Nat.reduceEqDiff, Nat.reduceAdd, reduceCtorEq, Q128])
  refine ⟨_, rfl, hb14.all, ?_⟩
  repeat ((try subst X); (first | (first | apply zL | apply zH | apply zE); intro X hX | apply zh | apply zl | apply ze); try simp only [zU, reduceIte, Nat.reduceEqDiff, Nat.reduceAdd, reduceCtorEq, Q128])
  refine Runs.store ((hb2.ext he1013).chg hc14 (by omega)) Fx.zi37 rfl (by simp [Value.cells, Value.oneCell']) (by simp) (fun w15 hc15 hs15 hb15 => ?_)
  rw [agg_cells, splice_all _ _ (by rfl)] at hb15
  repeat ((try subst X); (first | (first | apply zL | apply zH | apply zE); intro X hX | apply zh | apply zl | apply ze); try simp only [zU, reduceIte, Nat.reduceEqDiff, Nat.reduceAdd, reduceCtorEq, Q128])
  refine hM _ _ _ ?_; clear hM M
  refine ok_ret ?_
  try simp only [zW, zU, reduceIte, Nat.reduceEqDiff, Nat.reduceAdd, reduceCtorEq, Q128]
  have he015 : Ext w w15 := (he013.chg_trans hc14 (by intro k hk; omega)).chg_trans hc15 (by intro k hk; omega)
  exact ⟨_, rfl, hb15.all, he015, _, rfl, (hres.chg hc15 (fun k hk _ e => by rcases (hF k).1 hk with hk | hk; have := hk.2; omega; omega)).mono fun k hk _ => by rcases (hF k).1 hk with hk | hk; exact .inl hk.1; exact .inr (by omega)⟩
end Go.Proofs.YtcpjojaklpgnkaaGreat
/- A region that draws its order: calls, a new variable that waits for nothing, its store, and a last operation. -/
set_option linter.unusedVariables false
set_option linter.unusedSimpArgs false
namespace Go.Proofs.Vg
open Go Go.RowKit
def Ent.z : Ent → Bool
  | .d _ _ _ B0 => B0 == 0
  | _ => true
theorem Ent.p_mono {e : Ent} {v : Value} {w w' : World} {X : Nat → Prop} (he : Ext w w') (hp : e.p v w X) : e.p v w' X := by
  cases e with
  | c u => exact hp
  | b f cs t B0 => obtain ⟨b, h1, h2, h3, h4⟩ := hp; exact ⟨b, h1, h2.ext he, h3, h4⟩
  | d f row S B0 => obtain ⟨cs, h1, h2⟩ := hp; exact ⟨cs, h1, h2.ext he⟩
theorem Ent.p_new {e : Ent} {v : Value} {w : World} {X : Nat → Prop} (hp : e.p v w X) : e.p v w (fun k => X k ∨ w.heap.size ≤ k) := by
  cases e with
  | c u => exact hp
  | b f cs t B0 => obtain ⟨b, h1, h2, h3, h4⟩ := hp; exact ⟨b, h1, h2, h3, fun h => h.elim h4 (fun h => by have := h2.lt; omega)⟩
  | d f row S B0 => obtain ⟨cs, h1, h2⟩ := hp; exact ⟨cs, h1, h2.mono fun k hk hl => ⟨hk.1, fun e => e.1.elim (fun h => hk.2 ⟨h, e.2⟩) (fun h => by omega)⟩⟩
theorem Ent.p_less {e : Ent} {v : Value} {w : World} {X X' : Nat → Prop} (hx : ∀ k, X' k → X k) (hp : e.p v w X) : e.p v w X' := by
  cases e with
  | c u => exact hp
  | b f cs t B0 => obtain ⟨b, h1, h2, h3, h4⟩ := hp; exact ⟨b, h1, h2, h3, fun h => h4 (hx b h)⟩
  | d f row S B0 => obtain ⟨cs, h1, h2⟩ := hp; exact ⟨cs, h1, h2.mono fun k hk hl => ⟨hk.1, fun e => hk.2 ⟨hx k e.1, e.2⟩⟩⟩
theorem Ent.p_chg {e : Ent} {v : Value} {w w' : World} {X : Nat → Prop} (hz : e.z = true) (hc : Chg X w w') (hp : e.p v w X) : e.p v w' X := by
  cases e with
  | c u => exact hp
  | b f cs t B0 => obtain ⟨b, h1, h2, h3, h4⟩ := hp; exact ⟨b, h1, h2.chg hc h4, h3, h4⟩
  | d f row S B0 =>
    obtain ⟨cs, h1, h2⟩ := hp
    have : B0 = 0 := by simpa [Ent.z] using hz
    subst this
    exact ⟨cs, h1, h2.chg hc fun k hk _ e => hk.2 ⟨e, Nat.zero_le _⟩⟩
section
variable {P : Program} {ρ : Option Nat} {N : Nat} {K : Env} {ds : List Deferred} {w : World} {Φ : Post} {ops : List Oper}
/-- The state: entries that have come, the new variable, what it holds. -/
structure JS (T : List (Nat × Ent)) (E0 : Env) (w0 : World) (a sA tA x sx : Nat) (cz : List Value) (L : Nat → Bool) (K : Env) (w : World) : Prop where
  ext : Ext w0 w
  base : sub E0 K
  ls : L T.length = true → L a = true
  lx : L T.length = true → L x = true
  bl : ∃ B, (∀ (i s : Nat) (e : Ent), T[i]? = some (s, e) → i ≠ a → L i = true → ∃ v, K.get s = some v ∧ e.p v w (fun k => L a = true ∧ k = B)) ∧
    (L a = true → K.get sA = some (.pointer (some ⟨B, 0, none⟩)) ∧ w0.heap.size ≤ B ∧ ∃ cs, Blk w B cs tA ∧ (L T.length = false → cs = cz) ∧ (L T.length = true → ∃ v, K.get sx = some v ∧ cs = v.cells.toList))
def tabEOk (T : List (Nat × Ent)) (E0 : Env) : Bool := ((List.range T.length).all fun i => match T[i]? with
  | some (s, _) => (E0.all fun q => q.1 != s) && ((List.range T.length).all fun j => match T[j]? with | some (s', _) => s' != s || decide (j = i) | none => true)
  | none => true) && T.all fun q => q.2.z
theorem ok_tabS (T : List (Nat × Ent)) (E0 : Env) (a sA tA x sx : Nat) {z : Value} {nA bA : Nat} {oA oS : Oper} {ex : Ent} {id : Nat} (hm : P.follows .mixedOrders = true) (hd : dstsOk N ops = true) (hn : needsOk ops = true) (hl : T.length + 2 = ops.length) (hT : tabEOk T E0 = true)
    (hoA : ops[a]? = some oA) (hopA : oA.op = .alloc tA ∧ oA.dst = some sA ∧ oA.guard = none) (hTa : ∃ e, T[a]? = some (sA, e)) (hzA : zinfo P tA = some (some z, nA, bA)) (hzl : z.cells.toList.length = nA)
    (hoS : ops[T.length]? = some oS) (hopS : oS.op = .store tA (.tmp sA) (.tmp sx) ∧ oS.dst = none ∧ oS.guard = none) (hTx : T[x]? = some (sx, ex)) (hxa : x ≠ a) (hnS : ((needs oS).contains x && (needs oS).contains a) = true)
    (hex : ∀ v W X, ex.p v W X → v.cells.size = nA ∧ ∀ u ∈ v.cells.toList, u.oneCell' = true)
    (hs0 : sub E0 K) (hss : sub E0 E0)
    (hlast : (match ops[T.length + 1]? with | some o => (List.range (T.length + 1)).all fun i => (needs o).contains i | none => true) = true)
    (hstep : ∀ (X : Nat → Prop) (L : Nat → Bool) (K : Env) (w1 : World) (i : Nat) (o : Oper), (∀ k, X k → k < w1.heap.size ∧ w.heap.size ≤ k) → Ext w w1 → sub E0 K → (∀ (i s : Nat) (e : Ent), T[i]? = some (s, e) → i ≠ a → L i = true → ∃ v, K.get s = some v ∧ e.p v w1 X) → ops[i]? = some o → i < T.length → i ≠ a → (∀ k ∈ needs o, L k = true) →
      ∀ M : Env → World → Unit → Prop, (∀ s e v w', T[i]? = some (s, e) → Ext w1 w' → e.p v w' X → M ((s, v) :: K) w' ()) → wpL P ops (fun ch K w => Φ (.panic ch) K ds w) (fun K w => M K w ()) [o] K w1)
    (hend : ∀ (B : Nat) (K : Env) (w1 : World) (o : Oper) (v : Value), Ext w w1 → sub E0 K → (∀ (i s : Nat) (e : Ent), T[i]? = some (s, e) → i ≠ a → ∃ v, K.get s = some v ∧ e.p v w1 (fun k => k = B)) → K.get sA = some (.pointer (some ⟨B, 0, none⟩)) → K.get sx = some v → Blk w1 B v.cells.toList tA → w.heap.size ≤ B → ops[T.length + 1]? = some o →
      ∀ M : Env → World → Unit → Prop, (∀ K' w', Φ .normal K' ds w' → M K' w' ()) → wpL P ops (fun ch K w => Φ (.panic ch) K ds w) (fun K w => M K w ()) [o] K w1) : ok P ρ N (.region id ops.toArray true) K ds w Φ := by
  simp only [tabEOk, Bool.and_eq_true] at hT
  obtain ⟨hT1, hTz⟩ := hT
  have zz : ∀ {i s : Nat} {e : Ent}, T[i]? = some (s, e) → e.z = true := fun h => List.all_eq_true.1 hTz _ (List.mem_of_getElem? h)
  have slots : ∀ (i s : Nat) (e : Ent), T[i]? = some (s, e) → (E0.all fun q => q.1 != s) = true ∧ ∀ (j s' : Nat) (e' : Ent), T[j]? = some (s', e') → j ≠ i → s' ≠ s := fun i s e hi => by
    have h1 := List.all_eq_true.1 hT1 i (List.mem_range.2 (List.getElem?_eq_some_iff.1 hi).1)
    rw [hi] at h1
    simp only [Bool.and_eq_true] at h1
    refine ⟨h1.1, fun j s' e' hj hji => ?_⟩
    have h2 := List.all_eq_true.1 h1.2 j (List.mem_range.2 (List.getElem?_eq_some_iff.1 hj).1)
    rw [hj] at h2
    simp only [Bool.or_eq_true, bne_iff_ne, ne_eq, decide_eq_true_eq] at h2
    exact h2.resolve_right hji
  obtain ⟨eA, hTa⟩ := hTa
  have hal : a < T.length := (List.getElem?_eq_some_iff.1 hTa).1
  have hxl : x < T.length := (List.getElem?_eq_some_iff.1 hTx).1
  simp only [Bool.and_eq_true, List.contains_iff_mem] at hnS
  let J : (Nat → Bool) → Env → World → Prop := fun L K w1 => (L (T.length + 1) = true → Φ .normal K ds w1 ∧ ∀ i, i < T.length + 1 → L i = true) ∧ (L (T.length + 1) = false → JS T E0 w a sA tA x sx z.cells.toList L K w1)
  refine ok_any J hm hd hn E0 hs0 ⟨fun h => (by cases h), fun _ => ⟨Ext.drew w, hss, fun h => (by cases h), fun h => (by cases h), 0, fun i s e _ _ h => (by cases h), fun h => (by cases h)⟩⟩ ?_ ?_
  · intro L K1 w1 i o hJ ho hLi hno
    have hil : i < ops.length := (List.getElem?_eq_some_iff.1 ho).1
    cases hLl : L (T.length + 1) with
    | true =>
      rcases Nat.lt_or_ge i (T.length + 1) with h | h
      · have := (hJ.1 hLl).2 i h; rw [hLi] at this; cases this
      · have : i = T.length + 1 := by omega
        rw [this, hLl] at hLi; cases hLi
    | false =>
      have hJS := hJ.2 hLl
      obtain ⟨B, hat, hA⟩ := hJS.bl
      have hu : ∀ j, j ≠ i → up L i j = L j := fun j hj => by simp only [up]; rw [decide_eq_false hj]; rfl
      have hui : up L i i = true := by simp [up]
      by_cases hlst : i = T.length + 1
      · subst hlst
        rw [ho] at hlast
        have hall : ∀ i, i < T.length + 1 → L i = true := fun i hi => hno i (by have := List.all_eq_true.1 hlast i (List.mem_range.2 hi); simpa using this)
        have hLa := hall a (by omega)
        have hLs := hall T.length (by omega)
        obtain ⟨h1, h2, cs, h3, h4, h5⟩ := hA hLa
        obtain ⟨v, h6, rfl⟩ := h5 hLs
        refine hend B K1 w1 o v hJS.ext hJS.base (fun j s e hj hja => ?_) h1 h6 h3 h2 ho (fun K' w' _ => J (up L (T.length + 1)) K' w') (fun K' w' h => ?_)
        · obtain ⟨u, hu, hp⟩ := hat j s e hj hja (hall j (by have := (List.getElem?_eq_some_iff.1 hj).1; omega))
          exact ⟨u, hu, Ent.p_less (e := e) (fun k hk => ⟨hLa, hk⟩) hp⟩
        · exact ⟨fun _ => ⟨h, fun j hj => by simp only [up, Bool.or_eq_true, decide_eq_true_eq]; exact .inr (hall j hj)⟩, fun h => by simp [up] at h⟩
      have hupl : up L i (T.length + 1) = false := by rw [hu _ (fun e => hlst e.symm)]; exact hLl
      have wrap : ∀ K' w', JS T E0 w a sA tA x sx z.cells.toList (up L i) K' w' → J (up L i) K' w' := fun K' w' h => ⟨fun h' => (by rw [hupl] at h'; cases h'), fun _ => h⟩
      by_cases hst : i = T.length
      · subst hst
        rw [hoS] at ho; cases ho
        have hLa := hno _ hnS.2
        obtain ⟨v, hv, hpv⟩ := hat x sx ex hTx hxa (hno _ hnS.1)
        obtain ⟨q1, q2, cs, q3, q4, -⟩ := hA hLa
        obtain ⟨e1, e2⟩ := hex v _ _ hpv
        rw [q4 hLi] at q3
        simp only [wpL, hopS.2.2, opF, hopS.1, ev, q1, hv]
        refine Runs.store q3 hzA e1 e2 (by simp [hzl]) (fun w2 hc hs hb => ?_)
        rw [hopS.2.1]
        rw [splice_all _ _ (by simp [hzl, e1])] at hb
        have hua : up L T.length a = true := by rw [hu a (by omega)]; exact hLa
        refine wrap _ _ ⟨hJS.ext.chg_trans hc (by intro k hk; omega), hJS.base, fun _ => hua, fun _ => by rw [hu x (by omega)]; exact hno _ hnS.1, B, fun j s e hj hja hLj => ?_, fun _ => ⟨q1, q2, v.cells.toList, hb, fun h => (by rw [hui] at h; cases h), fun _ => ⟨v, hv, rfl⟩⟩⟩
        have hjl := (List.getElem?_eq_some_iff.1 hj).1
        rw [hu j (by omega)] at hLj
        obtain ⟨u, hu', hp⟩ := hat j s e hj hja hLj
        refine ⟨u, hu', ?_⟩
        rw [hua]
        rw [hLa] at hp
        exact Ent.p_chg (e := e) (zz hj) (hc.mono fun k _ hk => ⟨rfl, hk⟩) hp
      have hiT : i < T.length := by omega
      have hus : up L i T.length = L T.length := hu _ (by omega)
      by_cases hia : i = a
      · subst hia
        rw [hoA] at ho; cases ho
        have hls : L T.length = false := by
          cases h : L T.length with
          | false => rfl
          | true => have := hJS.ls h; rw [hLi] at this; cases this
        simp only [wpL, hopA.2.2, opF, hopA.1]
        refine Runs.alloc hzA (fun w2 he hs hb => ?_)
        rw [hopA.2.1]
        obtain ⟨k1, k2⟩ := slots i sA eA hTa
        refine wrap _ _ ⟨hJS.ext.trans he, sub_put k1 hJS.base, fun _ => hui, fun h => (by rw [hus, hls] at h; cases h), w1.heap.size, fun j s e hj hja hLj => ?_, fun _ => ⟨by simp [putE, Env.get], hJS.ext.size, _, hb, fun _ => rfl, fun h => by rw [hus, hls] at h; cases h⟩⟩
        rw [hu j hja] at hLj
        obtain ⟨u, hu', hp⟩ := hat j s e hj hja hLj
        refine ⟨u, ?_, Ent.p_mono (e := e) he (Ent.p_less (e := e) (fun k hk => ?_) (Ent.p_new (e := e) hp))⟩
        · simp only [putE, Env.get]; rw [if_neg (k2 j s e hj hja)]; exact hu'
        · exact .inr (by rw [hk.2]; exact Nat.le_refl _)
      · have hua : up L i a = L a := hu a (fun e => hia e.symm)
        refine hstep (fun k => L a = true ∧ k = B) L K1 w1 i o (fun k hk => ?_) hJS.ext hJS.base hat ho hiT hia hno (fun K' w' _ => J (up L i) K' w') (fun s e v w' hTi he hp => ?_)
        · obtain ⟨q1, q2, cs, q3, -⟩ := hA hk.1
          rw [hk.2]; exact ⟨q3.lt, q2⟩
        · obtain ⟨k1, k2⟩ := slots i s e hTi
          refine wrap _ _ ⟨hJS.ext.trans he, sub_put k1 hJS.base, by rw [hus, hua]; exact hJS.ls, fun h => (by rw [hus] at h; by_cases hxi : x = i; (rw [hxi]; exact hui); rw [hu x hxi]; exact hJS.lx h), B, fun j s' e' hj hja hLj => ?_, fun h => ?_⟩
          · rw [hua]
            by_cases hji : j = i
            · subst hji
              rw [hTi] at hj; cases hj
              exact ⟨v, by simp [Env.get], hp⟩
            · rw [hu j hji] at hLj
              obtain ⟨u, hu', hq⟩ := hat j s' e' hj hja hLj
              refine ⟨u, ?_, Ent.p_mono (e := e') he hq⟩
              simp only [Env.get]; rw [if_neg (k2 j s' e' hj hji)]; exact hu'
          · rw [hua] at h
            obtain ⟨q1, q2, cs, q3, q4, q5⟩ := hA h
            refine ⟨?_, q2, cs, q3.ext he, by rw [hus]; exact q4, ?_⟩
            · simp only [Env.get]; rw [if_neg (k2 a sA eA hTa (fun e => hia e.symm))]; exact q1
            · rw [hus]
              intro h'
              obtain ⟨u, hu', hcs⟩ := q5 h'
              refine ⟨u, ?_, hcs⟩
              have hne : x ≠ i := by
                rintro rfl
                have := hJS.lx h'; rw [hLi] at this; cases this
              simp only [Env.get]; rw [if_neg (k2 x sx ex hTx hne)]; exact hu'
  · intro K1 w1 hJ
    exact (hJ.1 (by simp; omega)).1
end
end Go.Proofs.Vg
