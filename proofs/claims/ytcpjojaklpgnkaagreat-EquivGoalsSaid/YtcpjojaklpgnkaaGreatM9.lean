/- Part 9 of 12: N20, Vg43, Vg44, Vg45, N21, N22. -/
import Derived.Test.YtcpjojaklpgnkaaGreatM7
import Derived.Test.YtcpjojaklpgnkaaGreatM4
import Derived.Test.YtcpjojaklpgnkaaGreatM3
import Derived.Test.YtcpjojaklpgnkaaGreatM5
/- Chapter 31: cloneProc.  -/
set_option linter.unusedVariables false
set_option linter.unusedSimpArgs false
namespace Go.Proofs.YtcpjojaklpgnkaaGreat
open Go Go.Proofs.Vg Go.RowKit
theorem rdP_mk {w : World} {S : Nat → Prop} {vv vh vm : Value} {b : List Value} {p : Pr} (hv : Rd w S [vv] [.sl 64 (p.vars.map encV)]) (hh : Rd w S [vh] [isD p.heads]) (hm : Rd w S [vm] [.sl 16 (p.modes.map encM)]) (hb : Rd w S b (encG p.body)) :
    Rd w S ([.string p.name, .int .i64 p.number, vv, vh, vm, .int .i64 p.det] ++ b ++ [.string p.builtin, .int .i64 p.pos]) (encP p) := by
  rw [encP_eq]
  refine ((Rd.at rfl rfl (.at rfl rfl (hv.append (hh.append (hm.append (.at rfl rfl .nil)))))).append hb).append (.at rfl rfl (.at rfl rfl .nil))
theorem rd_of_own {w : World} {S S' : Nat → Prop} {base e sz b : Nat} {v : Value} {rows : List (List D)} (h : Own w S base e sz v rows) (hl : rows.length ≤ 140737488355328) (hb : rows.length * b ≤ 140737488355328) (hs : ∀ k, S k → k < w.heap.size → S' k) (ho : ∀ k, base ≤ k → k < w.heap.size → S' k) : Rd w S' [v] [.sl b rows] :=
  h.rd hl hb fun k hl hk => by
    rcases hk with hk | hk
    · exact hs k hk.1 hl
    · exact ho k (h.lt hk).1 hl
-- -- function 119
set_option maxHeartbeats 8000000 in
set_option maxRecDepth 8000 in
theorem cloneProc_ok (p : Pr) (w : World) (S : Nat → Prop) (cs : List Value) (h : Rd w S cs (encP p)) :
    Rets Tryz.prog 119 [.agg cs.toArray] w (fun v w' => Ext w w' ∧ ∃ cs', v = .agg cs'.toArray ∧ Rd w' (fun k => S k ∨ w.heap.size ≤ k) cs' (encP p)) := by
  replace h := h.mono (S' := fun k => S k ∧ k < w.heap.size) (fun k h1 h2 => ⟨h1, h2⟩)
  obtain ⟨Av, cv, Ah, ch, Am, cm, Aa, ca, Ak, ck, Ac, cc, rfl, hv, hh, hm, hb⟩ := rdP h
  obtain ⟨_, _, -, hvl, hvb, -⟩ := hv.hd
  obtain ⟨_, _, -, hhl, hhb, -⟩ := hh.hd
  obtain ⟨_, _, -, hml, hmb, -⟩ := hm.hd
  simp only [List.length_map] at hvl hvb hhl hhb hml hmb
  refine rets_of_okC Tryz.func119 rfl rfl ?_
  refine ok_seq (fun M hM => ok_region rfl ?_)
  repeat ((try subst X); (first | (first | apply zL | apply zH | apply zE); intro X hX | apply zh | apply zl | apply ze); try simp only [zU, reduceIte, Nat.reduceEqDiff, Nat.reduceAdd, reduceCtorEq, Q119])
  refine Runs.box (fun w1 he1 hs1 hb1 => ?_)
  rw [agg_cells] at hb1
  repeat ((try subst X); (first | (first | apply zL | apply zH | apply zE); intro X hX | apply zh | apply zl | apply ze); try simp only [zU, reduceIte, Nat.reduceEqDiff, Nat.reduceAdd, reduceCtorEq, Q119])
  refine Runs.alloc Fx.zi39 (fun w2 he2 hs2 hb2 => ?_)
  simp only [Value.cells] at hb2
  generalize hB1 : w.heap.size = B1 at *
  generalize hB2 : w1.heap.size = B2 at *
  repeat ((try subst X); (first | (first | apply zL | apply zH | apply zE); intro X hX | apply zh | apply zl | apply ze); try simp only [zU, reduceIte, Nat.reduceEqDiff, Nat.reduceAdd, reduceCtorEq, Q119])
  refine hM _ _ _ ?_; clear hM M
  replace hb1 := hb1.ext he2
  have he02 := he1.trans he2
  obtain ⟨F, hF1, hF2, hF3, hF4⟩ : ∃ F : Nat → Prop, (∀ k, F k → k ≠ B1 ∧ k ≠ B2) ∧ (∀ k, B2 < k → F k) ∧ (∀ k, S k ∧ k < B1 → F k) ∧ (∀ k, F k → S k ∨ B1 ≤ k) :=
    ⟨fun k => (S k ∧ k < B1) ∨ B2 < k, fun k h => by omega, fun k h => .inr h, fun k h => .inl h, fun k h => by rcases h with h | h; exact .inl h.1; exact .inr (by omega)⟩
  refine ok_seq (fun M hM => ?_)
  refine (ok_drawR [0, 3, 6, 9, 12, 14, 16, 18] [0, 1, 3, 4, 6, 7, 9, 10, 12, 14, 16, 18, 2, 5, 8, 11, 13, 15, 17, 19] 12 [(true, false), (true, false), (true, false), (false, false), (false, false), (false, false), (false, false), (false, true)] (Ext _) Fx.mixed (by decide) rfl rfl rfl (by decide +kernel) (by decide +kernel) (Ext.drew _) ?_); simp only [pickL, List.getElem?_cons_zero, List.getElem?_cons_succ, List.take_succ_cons, List.take_zero, List.drop_succ_cons, List.drop_zero]
  repeat ((try subst X); (first | (first | apply zL | apply zH | apply zE); intro X hX | apply zh | apply zl | apply ze); try simp only [zU, reduceIte, Nat.reduceEqDiff, Nat.reduceAdd, reduceCtorEq, Q119])
  refine ⟨_, fun w' h => Blk.cell (Blk.ext (by assumption) h) rfl, ?_⟩
  repeat ((try subst X); (first | (first | apply zL | apply zH | apply zE); intro X hX | apply zh | apply zl | apply ze); try simp only [zU, reduceIte, Nat.reduceEqDiff, Nat.reduceAdd, reduceCtorEq, Q119])
  refine ⟨_, fun w' h => Blk.cell (Blk.ext (by assumption) h) rfl, ?_⟩
  repeat ((try subst X); (first | (first | apply zL | apply zH | apply zE); intro X hX | apply zh | apply zl | apply ze); try simp only [zU, reduceIte, Nat.reduceEqDiff, Nat.reduceAdd, reduceCtorEq, Q119])
  refine ⟨_, fun w' h => Blk.cell (Blk.ext (by assumption) h) rfl, ?_⟩
  repeat ((try subst X); (first | (first | apply zL | apply zH | apply zE); intro X hX | apply zh | apply zl | apply ze); try simp only [zU, reduceIte, Nat.reduceEqDiff, Nat.reduceAdd, reduceCtorEq, Q119])
  refine ⟨[.int .i64 p.body.kind, .int .i64 p.body.left, .int .i64 p.body.num, .string p.body.text, .int .i64 p.body.form, .slice Aa p.body.args.length ca, .slice Ak p.body.kids.length ck, .slice Ac p.body.cases.length cc, .int .i64 p.body.pos], rfl, fun w' h => Blk.at_ (o := 6) (hb1.ext h) rfl, ?_⟩
  repeat ((try subst X); (first | (first | apply zL | apply zH | apply zE); intro X hX | apply zh | apply zl | apply ze); try simp only [zU, reduceIte, Nat.reduceEqDiff, Nat.reduceAdd, reduceCtorEq, Q119])
  intro w3 he3
  have hz3 := he3.size
  have he03 := he02.trans he3
  repeat ((try subst X); (first | (first | apply zL | apply zH | apply zE); intro X hX | apply zh | apply zl | apply ze); try simp only [zU, reduceIte, Nat.reduceEqDiff, Nat.reduceAdd, reduceCtorEq, Q119])
  refine Inv.call Fx.en158 (clone158 w3 (fun k => S k ∧ k < B1) _ _ (hv.ext he03) (encV_wid _)) ?_
  rintro vv w4 ⟨he4, hvv⟩
  have hz4 := he4.size
  have he04 := he03.trans he4
  obtain ⟨Avv, cvv, rfl, -⟩ := hvv.len
  simp only [List.length_map] at hvv
  have hvvl := fun k h => hvv.lt (k := k) h
  repeat ((try subst X); (first | (first | apply zL | apply zH | apply zE); intro X hX | apply zh | apply zl | apply ze); try simp only [zU, reduceIte, Nat.reduceEqDiff, Nat.reduceAdd, reduceCtorEq, Q119])
  refine ⟨he3.trans he4, ?_⟩
  repeat ((try subst X); (first | (first | apply zL | apply zH | apply zE); intro X hX | apply zh | apply zl | apply ze); try simp only [zU, reduceIte, Nat.reduceEqDiff, Nat.reduceAdd, reduceCtorEq, Q119])
  refine Inv.call Fx.en66 (clone66 w4 (fun k => S k ∧ k < B1) _ _ (hh.ext he04) (ints_wid _)) ?_
  rintro vh w5 ⟨he5, hvh⟩
  have hz5 := he5.size
  have he05 := he04.trans he5
  obtain ⟨Avh, cvh, rfl, -⟩ := hvh.len
  simp only [List.length_map] at hvh
  repeat ((try subst X); (first | (first | apply zL | apply zH | apply zE); intro X hX | apply zh | apply zl | apply ze); try simp only [zU, reduceIte, Nat.reduceEqDiff, Nat.reduceAdd, reduceCtorEq, Q119])
  refine ⟨(he3.trans he4).trans he5, ?_⟩
  repeat ((try subst X); (first | (first | apply zL | apply zH | apply zE); intro X hX | apply zh | apply zl | apply ze); try simp only [zU, reduceIte, Nat.reduceEqDiff, Nat.reduceAdd, reduceCtorEq, Q119])
  refine Inv.call Fx.en118 (clone118 w5 (fun k => S k ∧ k < B1) _ _ (hm.ext he05) (encM_wid _)) ?_
  rintro vm w6 ⟨he6, hvm⟩
  have hz6 := he6.size
  have he06 := he05.trans he6
  obtain ⟨Avm, cvm, rfl, -⟩ := hvm.len
  simp only [List.length_map] at hvm
  repeat ((try subst X); (first | (first | apply zL | apply zH | apply zE); intro X hX | apply zh | apply zl | apply ze); try simp only [zU, reduceIte, Nat.reduceEqDiff, Nat.reduceAdd, reduceCtorEq, Q119])
  refine ⟨((he3.trans he4).trans he5).trans he6, ?_⟩
  repeat ((try subst X); (first | (first | apply zL | apply zH | apply zE); intro X hX | apply zh | apply zl | apply ze); try simp only [zU, reduceIte, Nat.reduceEqDiff, Nat.reduceAdd, reduceCtorEq, Q119])
  refine Inv.call Fx.en50 (cloneGoal_ok p.body w6 (fun k => S k ∧ k < B1) _ (hb.ext he06)) ?_
  rintro _ w7 ⟨he7, bc, rfl, hbc⟩
  have hz7 := he7.size
  have he27 := (((he3.trans he4).trans he5).trans he6).trans he7
  have he07 := he02.trans he27
  have hbl : bc.length = 9 := by rw [hbc.len, encG_len]
  repeat ((try subst X); (first | (first | apply zL | apply zH | apply zE); intro X hX | apply zh | apply zl | apply ze); try simp only [zU, reduceIte, Nat.reduceEqDiff, Nat.reduceAdd, reduceCtorEq, Q119])
  replace hb1 := hb1.ext he27
  replace hb2 := hb2.ext he27
  refine Runs.store hb1 Fx.zi32 rfl cell1s (by simp) (fun w8 hc8 hs8 hb8 => ?_)
  simp only [splice, Value.cells, List.length_singleton, Nat.reduceAdd, List.take_succ_cons, List.take_zero, List.drop_succ_cons, List.drop_zero, List.cons_append, List.nil_append, List.drop_nil] at hb8
  repeat ((try subst X); (first | (first | apply zL | apply zH | apply zE); intro X hX | apply zh | apply zl | apply ze); try simp only [zU, reduceIte, Nat.reduceEqDiff, Nat.reduceAdd, reduceCtorEq, Q119])
  refine Runs.store hb8 Fx.zi29 rfl cell1s (by simp) (fun w9 hc9 hs9 hb9 => ?_)
  simp only [splice, Value.cells, List.length_singleton, Nat.reduceAdd, List.take_succ_cons, List.take_zero, List.drop_succ_cons, List.drop_zero, List.cons_append, List.nil_append, List.drop_nil] at hb9
  repeat ((try subst X); (first | (first | apply zL | apply zH | apply zE); intro X hX | apply zh | apply zl | apply ze); try simp only [zU, reduceIte, Nat.reduceEqDiff, Nat.reduceAdd, reduceCtorEq, Q119])
  refine Runs.store hb9 Fx.zi33 rfl cell1s (by simp) (fun w10 hc10 hs10 hb10 => ?_)
  simp only [splice, Value.cells, List.length_singleton, Nat.reduceAdd, List.take_succ_cons, List.take_zero, List.drop_succ_cons, List.drop_zero, List.cons_append, List.nil_append, List.drop_nil] at hb10
  repeat ((try subst X); (first | (first | apply zL | apply zH | apply zE); intro X hX | apply zh | apply zl | apply ze); try simp only [zU, reduceIte, Nat.reduceEqDiff, Nat.reduceAdd, reduceCtorEq, Q119])
  refine Runs.store hb10 Fx.zi37 (by simpa [Value.cells] using hbl) (fun u hu => (hbc.one u (by simpa [Value.cells] using hu)).1) (by simp) (fun w11 hc11 hs11 hb11 => ?_)
  simp only [splice, agg_cells, hbl, Nat.reduceAdd, List.take_succ_cons, List.take_zero, List.drop_succ_cons, List.drop_zero, List.cons_append, List.nil_append, List.drop_nil] at hb11
  repeat ((try subst X); (first | (first | apply zL | apply zH | apply zE); intro X hX | apply zh | apply zl | apply ze); try simp only [zU, reduceIte, Nat.reduceEqDiff, Nat.reduceAdd, reduceCtorEq, Q119])
  refine hM _ _ _ ?_; clear hM M
  have hc711 : Chg (fun x => x = B1) w7 w11 := ((hc8.trans hc9).trans hc10).trans hc11
  have he011 : Ext w w11 := he07.chg_trans hc711 (by omega)
  have hz11 := hc711.size
  obtain ⟨vv, hvvE⟩ : ∃ vv, vv = Value.slice Avv p.vars.length cvv := ⟨_, rfl⟩
  obtain ⟨vh, hvhE⟩ : ∃ vh, vh = Value.slice Avh p.heads.length cvh := ⟨_, rfl⟩
  obtain ⟨vm, hvmE⟩ : ∃ vm, vm = Value.slice Avm p.modes.length cvm := ⟨_, rfl⟩
  simp only [List.length_map] at hb11
  rw [← hvvE, ← hvhE, ← hvmE] at hb11
  rw [← hvvE] at hvv hvvl
  rw [← hvhE] at hvh
  rw [← hvmE] at hvm
  have hvv11 : Own w11 F (B2 + 1) 111 4 vv (p.vars.map encV) := ((((hvv.ext he5).ext he6).ext he7).chg hc711 (fun k hk e => by have := (hvvl k hk).1; omega) (fun k hk _ => by have := hk.2; omega)).rebase (by omega) |>.mono fun k hk _ _ => hF3 k hk
  have hne : ∀ k, (S k ∧ k < B1) ∨ w4.heap.size ≤ k → F k ∧ vv.ownBlock ≠ some k := fun k hk => by
    refine ⟨?_, fun e => ?_⟩
    · rcases hk with hk | hk
      · exact hF3 k hk
      · exact hF2 k (by omega)
    · have := hvvl k e
      rcases hk with hk | hk
      · have := hk.2; omega
      · omega
  have hvh11 : Rd w11 (fun k => F k ∧ vv.ownBlock ≠ some k) [vh] [isD p.heads] := (rd_of_own (S' := fun k => (S k ∧ k < B1) ∨ w4.heap.size ≤ k) ((hvh.ext he6).ext he7) (by simpa using hhl) (by simpa using hhb) (fun k hk _ => .inl hk) (fun k hk _ => .inr hk)).chg hc711 (fun k hk _ => by rcases hk with hk | hk; have := hk.2; omega; omega) |>.mono fun k hk _ => hne k hk
  have hvm11 : Rd w11 (fun k => F k ∧ vv.ownBlock ≠ some k) [vm] [.sl 16 (p.modes.map encM)] := (rd_of_own (S' := fun k => (S k ∧ k < B1) ∨ w4.heap.size ≤ k) (hvm.ext he7) (by simpa using hml) (by simpa using hmb) (fun k hk _ => .inl hk) (fun k hk _ => .inr (by omega))).chg hc711 (fun k hk _ => by rcases hk with hk | hk; have := hk.2; omega; omega) |>.mono fun k hk _ => hne k hk
  have hbc11 : Rd w11 (fun k => F k ∧ vv.ownBlock ≠ some k) bc (encG p.body) := (hbc.chg hc711 (fun k hk _ => by rcases hk with hk | hk; have := hk.2; omega; omega)).mono fun k hk _ => hne k (by rcases hk with hk | hk; exact .inl hk; exact .inr (by omega))
  have hb11' : Blk w11 B1 ([.string p.name, .int .i64 p.number, vv, vh, vm, .int .i64 p.det] ++ bc ++ [.string p.builtin, .int .i64 p.pos]) 39 := by
    simpa using hb11
  replace hb2 := hb2.chg hc711 (by omega)
  clear hb8 hb9 hb10 hb1 hvv hvh hvm hc8 hc9 hc10 hc11 hs8 hs9 hs10 hs11 hb11
  refine ok_join [(1, .pointer (some ⟨B1, 0, none⟩)), (2, .pointer (some ⟨B2, 0, none⟩))] (fun W => Ext w W ∧ B2 < W.heap.size ∧ Blk W B1 ([.string p.name, .int .i64 p.number, vv, vh, vm, .int .i64 p.det] ++ bc ++ [.string p.builtin, .int .i64 p.pos]) 39 ∧ Blk W B2 [.string ByteArray.empty, .int .i64 0, .slice none 0 0, .slice none 0 0, .slice none 0 0, .int .i64 0, .int .i64 0, .int .i64 0, .int .i64 0, .string ByteArray.empty, .int .i64 0, .slice none 0 0, .slice none 0 0, .slice none 0 0, .int .i64 0, .string ByteArray.empty, .int .i64 0] 39 ∧ Own W F (B2 + 1) 111 4 vv (p.vars.map encV) ∧ Rd W (fun k => F k ∧ vv.ownBlock ≠ some k) [vh] [isD p.heads] ∧ Rd W (fun k => F k ∧ vv.ownBlock ≠ some k) [vm] [.sl 16 (p.modes.map encM)] ∧ Rd W (fun k => F k ∧ vv.ownBlock ≠ some k) bc (encG p.body)) ?_ ?_
  · refine ok_seq (fun M hM => ok_region rfl ?_)
    repeat ((try subst X); (first | (first | apply zL | apply zH | apply zE); intro X hX | apply zh | apply zl | apply ze); try simp only [zU, reduceIte, Nat.reduceEqDiff, Nat.reduceAdd, reduceCtorEq, Q119])
    refine ⟨vv, Blk.cell hb11' rfl, ?_⟩
    rw [hvvE]
    repeat ((try subst X); (first | (first | apply zL | apply zH | apply zE); intro X hX | apply zh | apply zl | apply ze); try simp only [zU, reduceIte, Nat.reduceEqDiff, Nat.reduceAdd, reduceCtorEq, Q119])
    refine hM _ _ _ ?_; clear hM M
    rw [← hvvE]
    refine ok_for [(1, .pointer (some ⟨B1, 0, none⟩)), (2, .pointer (some ⟨B2, 0, none⟩)), (22, vv)] (fun i => (fun W => Ext w W ∧ B2 < W.heap.size ∧ Blk W B1 ([.string p.name, .int .i64 p.number, vv, vh, vm, .int .i64 p.det] ++ bc ++ [.string p.builtin, .int .i64 p.pos]) 39 ∧ Blk W B2 [.string ByteArray.empty, .int .i64 0, .slice none 0 0, .slice none 0 0, .slice none 0 0, .int .i64 0, .int .i64 0, .int .i64 0, .int .i64 0, .string ByteArray.empty, .int .i64 0, .slice none 0 0, .slice none 0 0, .slice none 0 0, .int .i64 0, .string ByteArray.empty, .int .i64 0] 39 ∧ Own W F (B2 + 1) 111 4 vv (p.vars.map encV) ∧ Rd W (fun k => F k ∧ vv.ownBlock ≠ some k) [vh] [isD p.heads] ∧ Rd W (fun k => F k ∧ vv.ownBlock ≠ some k) [vm] [.sl 16 (p.modes.map encM)] ∧ Rd W (fun k => F k ∧ vv.ownBlock ≠ some k) bc (encG p.body))) rfl (by simp [sub, Env.get]) rfl (by simp [sub, Env.get]) hvl ⟨he011, by omega, hb11', hb2, hvv11, hvh11, hvm11, hbc11⟩ ?_ ?_
    · rintro i W hi ⟨he, hB, qb1, qb2, qvv, qvh, qvm, qbc⟩
      have hri : (p.vars.map encV)[i]? = some (encV p.vars[i]) := by simp [hi]
      obtain ⟨gv, cap, r, hv', hcell, hrl, hr⟩ := qvv.row hri (by simpa using hvl)
      simp only [List.length_map] at hv'
      match r, hrl with
      | [x0, x1, x2, x3], _ =>
      refine ok_seq (fun M hM => ok_region rfl ?_)
      rw [hv']
      repeat ((try subst X); (first | (first | apply zL | apply zH | apply zE); intro X hX | apply zh | apply zl | apply ze); try simp only [zU, reduceIte, Nat.reduceEqDiff, Nat.reduceAdd, reduceCtorEq, Q119])
      refine ⟨by omega, by omega, ?_⟩
      repeat ((try subst X); (first | (first | apply zL | apply zH | apply zE); intro X hX | apply zh | apply zl | apply ze); try simp only [zU, reduceIte, Nat.reduceEqDiff, Nat.reduceAdd, reduceCtorEq, Q119])
      refine ⟨[x0, x1, x2, x3], rfl, by simpa [add_at] using hcell, ?_⟩
      repeat ((try subst X); (first | (first | apply zL | apply zH | apply zE); intro X hX | apply zh | apply zl | apply ze); try simp only [zU, reduceIte, Nat.reduceEqDiff, Nat.reduceAdd, reduceCtorEq, Q119])
      refine Runs.alloc Fx.zi111 (fun w4 he4 hs4 hb4 => ?_)
      generalize hB4 : W.heap.size = B4 at *
      repeat ((try subst X); (first | (first | apply zL | apply zH | apply zE); intro X hX | apply zh | apply zl | apply ze); try simp only [zU, reduceIte, Nat.reduceEqDiff, Nat.reduceAdd, reduceCtorEq, Q119])
      refine Runs.store hb4 Fx.zi111 rfl (fun u hu => (hr.one u (by simpa [Value.cells] using hu)).1) (by simp [Value.cells]) (fun w5 hc5 hs5 hb5 => ?_)
      simp only [splice, Value.cells, List.length_cons, List.length_nil, Nat.reduceAdd, Nat.zero_add, List.take_zero, List.drop_succ_cons, List.drop_zero, List.append_nil, List.nil_append, List.drop_nil] at hb5
      repeat ((try subst X); (first | (first | apply zL | apply zH | apply zE); intro X hX | apply zh | apply zl | apply ze); try simp only [zU, reduceIte, Nat.reduceEqDiff, Nat.reduceAdd, reduceCtorEq, Q119])
      refine hM _ _ _ ?_; clear hM M
      have hc45 : Chg (fun x => x = B4) W w5 := (he4.chg _).trans hc5
      have he45 : Ext W w5 := he4.chg_trans hc5 (by intro k hk; omega)
      replace qb1 := qb1.ext he45
      replace qb2 := qb2.ext he45
      replace qvv := qvv.ext he45
      replace qvh := qvh.ext he45
      replace qvm := qvm.ext he45
      replace qbc := qbc.ext he45
      have hz45 := he45.size
      have hT : Rd w5 (fun k => F k ∧ vv.ownBlock ≠ some k) [x1, x2, x3] (encT p.vars[i].ty) := by
        have := hr.ext he45
        rw [encV_eq] at this
        exact this.atc.2
      rw [← hv']
      refine (ok_drawR [0, 3, 6, 7] [0, 1, 2, 3, 4, 6, 7, 5, 8] 7 [(true, false), (false, true)] (Ext _) Fx.mixed (by decide) rfl rfl rfl (by decide +kernel) (by decide +kernel) (Ext.drew _) ?_); simp only [pickL, List.getElem?_cons_zero, List.getElem?_cons_succ, List.take_succ_cons, List.take_zero, List.drop_succ_cons, List.drop_zero]
      repeat ((try subst X); (first | (first | apply zL | apply zH | apply zE); intro X hX | apply zh | apply zl | apply ze); try simp only [zU, reduceIte, Nat.reduceEqDiff, Nat.reduceAdd, reduceCtorEq, Q119])
      refine ⟨vv, fun w' h => (qb1.ext h).cell rfl, ?_⟩
      repeat ((try subst X); (first | (first | apply zL | apply zH | apply zE); intro X hX | apply zh | apply zl | apply ze); try simp only [zU, reduceIte, Nat.reduceEqDiff, Nat.reduceAdd, reduceCtorEq, Q119])
      refine ⟨[x1, x2, x3], rfl, fun w' h => Blk.at_ (o := 1) (hb5.ext h) rfl, ?_⟩
      rw [hv']
      repeat ((try subst X); (first | (first | apply zL | apply zH | apply zE); intro X hX | apply zh | apply zl | apply ze); try simp only [zU, reduceIte, Nat.reduceEqDiff, Nat.reduceAdd, reduceCtorEq, Q119])
      refine ⟨by omega, by omega, ?_⟩
      repeat ((try subst X); (first | (first | apply zL | apply zH | apply zE); intro X hX | apply zh | apply zl | apply ze); try simp only [zU, reduceIte, Nat.reduceEqDiff, Nat.reduceAdd, reduceCtorEq, Q119])
      intro w6 he6
      have hz6 := he6.size
      repeat ((try subst X); (first | (first | apply zL | apply zH | apply zE); intro X hX | apply zh | apply zl | apply ze); try simp only [zU, reduceIte, Nat.reduceEqDiff, Nat.reduceAdd, reduceCtorEq, Q119])
      refine Inv.call Fx.en115 (cloneType_ok p.vars[i].ty w6 _ [x1, x2, x3] (hT.ext he6)) ?_
      rintro _ w7 ⟨he7, cs7, rfl, hr7⟩
      have hl7 : cs7.length = 3 := by rw [hr7.len, encT_len]
      have hz7 := he7.size
      have he57 := he6.trans he7
      have hovv := fun k h => (qvv.lt (k := k) h)
      repeat ((try subst X); (first | (first | apply zL | apply zH | apply zE); intro X hX | apply zh | apply zl | apply ze); try simp only [zU, reduceIte, Nat.reduceEqDiff, Nat.reduceAdd, reduceCtorEq, Q119])
      refine ⟨he57, ?_⟩
      repeat ((try subst X); (first | (first | apply zL | apply zH | apply zE); intro X hX | apply zh | apply zl | apply ze); try simp only [zU, reduceIte, Nat.reduceEqDiff, Nat.reduceAdd, reduceCtorEq, Q119])
      obtain ⟨g', cap', cur, hv'', hbk, hle, hbg, hst⟩ := (qvv.ext he57).store hri (off := 1) (ds := encT p.vars[i].ty) (hr7.mono fun k hk _ => ⟨hF2 k (by omega), fun e => by have := (hovv k e).2; omega⟩) (by rw [hl7]; decide) (by rw [hl7]; decide)
      simp only [List.length_map] at hv''
      rw [hv'] at hv''
      injection hv'' with hA' _ hc'
      cases hA'
      simp only [Nat.zero_add]
      refine Runs.store hbk Fx.zi93 (by simpa [Value.cells] using hl7) (fun u hu => (hr7.one u (by simpa [Value.cells] using hu)).1) (by rw [hl7] at hle; simpa using hle) (fun w8 hc8 hs8 hb8 => ?_)
      have hvv8 := hst w8 hc8 (by simpa [Value.cells] using hb8)
      rw [show spliceD (encV p.vars[i]) 1 (encT p.vars[i].ty) = encV p.vars[i] by rw [encV_eq]; simp [spliceD, encT_len], set_same hri] at hvv8
      have hvo : vv.ownBlock = some gv := by rw [hv']; rfl
      repeat ((try subst X); (first | (first | apply zL | apply zH | apply zE); intro X hX | apply zh | apply zl | apply ze); try simp only [zU, reduceIte, Nat.reduceEqDiff, Nat.reduceAdd, reduceCtorEq, Q119])
      exact ⟨by simp [sub, Env.get, hv'], (he.trans he45).trans he57 |>.chg_trans hc8 (by intro k hk; omega), by have := hc8.size; omega, (qb1.ext he57).chg hc8 (by omega), (qb2.ext he57).chg hc8 (by omega), hvv8, (qvh.ext he57).chg hc8 (fun k hk _ e => hk.2 (e ▸ hvo)), (qvm.ext he57).chg hc8 (fun k hk _ e => hk.2 (e ▸ hvo)), (qbc.ext he57).chg hc8 (fun k hk _ e => hk.2 (e ▸ hvo))⟩
    · rintro W ⟨he, hB, qb1, qb2, qvv, qvh, qvm, qbc⟩
      exact ⟨rfl, by simp [sub, Env.get], he, hB, qb1, qb2, qvv, qvh, qvm, qbc⟩
  rintro W ⟨he, hB, qb1, qb2, qvv, qvh, qvm, qbc⟩
  refine ok_seq (fun M hM => ok_region rfl ?_)
  repeat ((try subst X); (first | (first | apply zL | apply zH | apply zE); intro X hX | apply zh | apply zl | apply ze); try simp only [zU, reduceIte, Nat.reduceEqDiff, Nat.reduceAdd, reduceCtorEq, Q119])
  have hR := rdP_mk (w := W) (S := F) (p := p) (rd_of_own (S' := F) qvv (by simpa using hvl) (by simpa using hvb) (fun k hk _ => hk) (fun k hk _ => hF2 k hk)) (qvh.mono fun k hk _ => hk.1) (qvm.mono fun k hk _ => hk.1) (qbc.mono fun k hk _ => hk.1)
  refine ⟨_, by simp [hbl], qb1.all, ?_⟩
  repeat ((try subst X); (first | (first | apply zL | apply zH | apply zE); intro X hX | apply zh | apply zl | apply ze); try simp only [zU, reduceIte, Nat.reduceEqDiff, Nat.reduceAdd, reduceCtorEq, Q119])
  refine Runs.store qb2 Fx.zi39 (by simp [Value.cells, hbl]) (fun u hu => (hR.one u (by simpa [Value.cells] using hu)).1) (by simp [Value.cells, hbl]) (fun w5 hc5 hs5 hb5 => ?_)
  rw [agg_cells, splice_all _ _ (by simp [hbl])] at hb5
  repeat ((try subst X); (first | (first | apply zL | apply zH | apply zE); intro X hX | apply zh | apply zl | apply ze); try simp only [zU, reduceIte, Nat.reduceEqDiff, Nat.reduceAdd, reduceCtorEq, Q119])
  refine hM _ _ _ ?_; clear hM M
  refine ok_ret ?_
  try simp only [zW, zU, reduceIte, Nat.reduceEqDiff, Nat.reduceAdd, reduceCtorEq, Q119]
  exact ⟨_, by simp [hbl], hb5.all, he.chg_trans hc5 (by omega), _, rfl, (hR.chg hc5 (fun k hk _ e => (hF1 k hk).2 e)).mono fun k hk _ => hF4 k hk⟩
end Go.Proofs.YtcpjojaklpgnkaaGreat
/- A row of one's own: an element seen otherwise. -/
set_option linter.unusedVariables false
set_option linter.unusedSimpArgs false
namespace Go.Proofs.Vg
open Go Go.RowKit
theorem Own.typ {w : World} {S : Nat → Prop} {base e sz : Nat} {v : Value} {rows : List (List D)} (h : Own w S base e sz v rows) {k : Nat} (hk : v.ownBlock = some k) : ∃ cur, w.heap[k]? = some (.cells cur e (0, 0)) := by
  obtain ⟨⟨crows, h2, h3, h4⟩, h5, h6⟩ := h
  rcases h2.2 with ⟨h7, h8⟩ | ⟨g, cap, cur, h7, h8, h9, _⟩
  · rw [h7] at hk; cases hk
  · rw [h7] at hk; cases hk; exact ⟨cur, h9⟩
theorem typ_ne {w : World} {k : Nat} {e e' : TypeId} {c c' : Array Value} (h : w.heap[k]? = some (.cells c e (0, 0))) (h' : w.heap[k]? = some (.cells c' e' (0, 0))) : e = e' := by
  rw [h] at h'; cases h'; rfl
section
variable {w : World} {S : Nat → Prop} {base e sz : Nat} {v : Value} {rows : List (List D)}
/-- An element's cells read otherwise. -/
theorem Own.reset (h : Own w S base e sz v rows) {i : Nat} {row row' : List D} (hi : rows[i]? = some row) (hr : ∀ r, Rd w (fun k => S k ∧ v.ownBlock ≠ some k) r row → Rd w (fun k => S k ∧ v.ownBlock ≠ some k) r row') (hl : row'.length = sz) : Own w S base e sz v (rows.set i row') := by
  obtain ⟨⟨crows, h2, h3, h4⟩, h5, h6⟩ := h
  have hil := (List.getElem?_eq_some_iff.1 hi).1
  refine ⟨⟨crows, by rw [List.length_set]; exact h2, by simp [h3], fun j r d hj hd => ?_⟩, fun r hr' => ?_, h6⟩
  · by_cases hji : j = i
    · subst hji
      rw [List.getElem?_set_self hil] at hd; cases hd
      exact hr r (h4 j r row hj hi)
    · rw [List.getElem?_set_ne (fun e => hji e.symm)] at hd
      exact h4 j r d hj hd
  · rcases List.mem_or_eq_of_mem_set hr' with h7 | h7
    · exact h5 r h7
    · rw [h7]; exact hl
/-- A cell that is known reads as what it leads to. -/
theorem Rd.refill {u : Value} {d : D} (hv : Rd w S [u] [d]) : ∀ {cs : List Value} {ds : List D}, Rd w S cs ds → ∀ (j : Nat), ds[j]? = some (.at u) → Rd w S cs (ds.set j d)
  | _, _, .nil, j, h => by simp at h
  | _, _, .at (v := v) h1 h2 h3, j, h => by
    cases j with
    | zero =>
      simp at h; subst h
      simpa using Rd.append hv h3
    | succ j => exact .at h1 h2 (Rd.refill hv h3 j (by simpa using h))
  | _, _, .sl f hl hb hc ha hr ht, j, h => by
    cases j with
    | zero => simp at h
    | succ j => exact .sl f hl hb hc ha hr (Rd.refill hv ht j (by simpa using h))
end
end Go.Proofs.Vg
/- A region that draws its order: calls one behind the other, and a new variable that waits for nothing; its last operation waits for all. -/
set_option linter.unusedVariables false
set_option linter.unusedSimpArgs false
namespace Go.Proofs.Vg
open Go Go.RowKit
/-- What each operation leaves: its slot, what is known of it; X: blocks that it keeps off. -/
abbrev TabX := List (Nat × (Value → World → (Nat → Prop) → Prop))
structure JX (T : TabX) (E0 : Env) (w0 : World) (a : Nat) (X : Nat → Prop) (L : Nat → Bool) (K : Env) (w : World) : Prop where
  ext : Ext w0 w
  base : sub E0 K
  at_ : ∀ (i s : Nat) (p : Value → World → (Nat → Prop) → Prop), T[i]? = some (s, p) → i ≠ a → L i = true → ∃ v, K.get s = some v ∧ p v w X
def tabXOk (T : TabX) (E0 : Env) : Bool := (List.range T.length).all fun i => match T[i]? with
  | some (s, _) => (E0.all fun q => q.1 != s) && ((List.range T.length).all fun j => match T[j]? with | some (s', _) => s' != s || decide (j = i) | none => true)
  | none => true
theorem JX.get {T : TabX} {E0 : Env} {w0 w : World} {a : Nat} {X : Nat → Prop} {L : Nat → Bool} {K : Env} (h : JX T E0 w0 a X L K w) (s : Nat) {v : Value} (hv : E0.get s = some v) : K.get s = some v := sub_get h.base s v hv
section
variable {P : Program} {ρ : Option Nat} {N : Nat} {K : Env} {ds : List Deferred} {w : World} {Φ : Post} {ops : List Oper}
theorem ok_tabA (T : TabX) (E0 : Env) (a sA tA : Nat) {z : Value} {nA bA : Nat} {oA : Oper} {id : Nat} (hm : P.follows .mixedOrders = true) (hd : dstsOk N ops = true) (hn : needsOk ops = true) (hl : T.length + 1 = ops.length) (hT : tabXOk T E0 = true)
    (hoA : ops[a]? = some oA) (hopA : oA.op = .alloc tA ∧ oA.dst = some sA ∧ oA.guard = none) (hTa : ∃ p, T[a]? = some (sA, p)) (hzA : zinfo P tA = some (some z, nA, bA))
    (hs0 : sub E0 K) (hss : sub E0 E0)
    (hmono : ∀ (j s : Nat) (p : Value → World → (Nat → Prop) → Prop), T[j]? = some (s, p) → ∀ v w w' X, Ext w w' → p v w X → p v w' X)
    (hnew : ∀ (j s : Nat) (p : Value → World → (Nat → Prop) → Prop), T[j]? = some (s, p) → ∀ v w X, p v w X → p v w (fun k => X k ∨ w.heap.size ≤ k))
    (hless : ∀ (j s : Nat) (p : Value → World → (Nat → Prop) → Prop), T[j]? = some (s, p) → ∀ v w (X X' : Nat → Prop), (∀ k, X' k → X k) → p v w X → p v w X')
    (hlast : ∀ o, ops[T.length]? = some o → ∀ i, i < T.length → i ∈ needs o)
    (hstep : ∀ (X : Nat → Prop) (L : Nat → Bool) (K : Env) (w1 : World) (i : Nat) (o : Oper), (∀ k, X k → k < w1.heap.size) → JX T E0 w a X L K w1 → ops[i]? = some o → i < T.length → i ≠ a → (∀ k ∈ needs o, L k = true) →
      ∀ M : Env → World → Unit → Prop, (∀ s p v w', T[i]? = some (s, p) → Ext w1 w' → p v w' X → M ((s, v) :: K) w' ()) → wpL P ops (fun ch K w => Φ (.panic ch) K ds w) (fun K w => M K w ()) [o] K w1)
    (hend : ∀ (B : Nat) (K : Env) (w1 : World) (o : Oper), JX T E0 w a (fun k => k = B) (fun k => decide (k < T.length)) K w1 → K.get sA = some (.pointer (some ⟨B, 0, none⟩)) → Blk w1 B z.cells.toList tA → w.heap.size ≤ B → ops[T.length]? = some o →
      ∀ M : Env → World → Unit → Prop, (∀ K' w', Φ .normal K' ds w' → M K' w' ()) → wpL P ops (fun ch K w => Φ (.panic ch) K ds w) (fun K w => M K w ()) [o] K w1) : ok P ρ N (.region id ops.toArray true) K ds w Φ := by
  let J : (Nat → Bool) → Env → World → Prop := fun L K w1 => (L T.length = true → Φ .normal K ds w1 ∧ ∀ i, i < T.length → L i = true) ∧
    (L T.length = false → ∃ B, JX T E0 w a (fun k => L a = true ∧ k = B) L K w1 ∧ (L a = true → K.get sA = some (.pointer (some ⟨B, 0, none⟩)) ∧ Blk w1 B z.cells.toList tA ∧ w.heap.size ≤ B))
  have hal : a < T.length := by
    obtain ⟨p, hp⟩ := hTa
    exact (List.getElem?_eq_some_iff.1 hp).1
  have slots : ∀ (i s : Nat) (p : Value → World → (Nat → Prop) → Prop), T[i]? = some (s, p) → (E0.all fun q => q.1 != s) = true ∧ ∀ (j s' : Nat) (p' : Value → World → (Nat → Prop) → Prop), T[j]? = some (s', p') → j ≠ i → s' ≠ s := fun i s p hi => by
    have h1 := List.all_eq_true.1 hT i (List.mem_range.2 (List.getElem?_eq_some_iff.1 hi).1)
    rw [hi] at h1
    simp only [Bool.and_eq_true] at h1
    refine ⟨h1.1, fun j s' p' hj hji => ?_⟩
    have h2 := List.all_eq_true.1 h1.2 j (List.mem_range.2 (List.getElem?_eq_some_iff.1 hj).1)
    rw [hj] at h2
    simp only [Bool.or_eq_true, bne_iff_ne, ne_eq, decide_eq_true_eq] at h2
    exact h2.resolve_right hji
  refine ok_any J hm hd hn E0 hs0 ⟨fun h => (by cases h), fun _ => ⟨0, ⟨Ext.drew w, hss, fun i s p _ _ h => (by cases h)⟩, fun h => (by cases h)⟩⟩ ?_ ?_
  · intro L K w1 i o hJ ho hLi hno
    have hil : i < ops.length := (List.getElem?_eq_some_iff.1 ho).1
    cases hLl : L T.length with
    | true =>
      rcases Nat.lt_or_ge i T.length with h | h
      · have := (hJ.1 hLl).2 i h; rw [hLi] at this; cases this
      · have : i = T.length := by omega
        rw [this, hLl] at hLi; cases hLi
    | false =>
      obtain ⟨B, hJX, hA⟩ := hJ.2 hLl
      by_cases hlst : i = T.length
      · subst hlst
        have hall := fun i hi => hno i (hlast o ho i hi)
        have hLa := hall a hal
        obtain ⟨h1, h2, h3⟩ := hA hLa
        have hJ' : JX T E0 w a (fun k => k = B) (fun k => decide (k < T.length)) K w1 := ⟨hJX.ext, hJX.base, fun j s p hj hja hLj => by
          have hjl := (List.getElem?_eq_some_iff.1 hj).1
          obtain ⟨v, hv, hp⟩ := hJX.at_ j s p hj hja (hall j hjl)
          exact ⟨v, hv, hless j s p hj v w1 _ _ (fun k hk => ⟨hLa, hk⟩) hp⟩⟩
        refine hend B K w1 o hJ' h1 h2 h3 ho (fun K' w' _ => J (up L T.length) K' w') (fun K' w' h => ?_)
        exact ⟨fun _ => ⟨h, fun j hj => by simp only [up, Bool.or_eq_true, decide_eq_true_eq]; exact .inr (hall j hj)⟩, fun h => by simp [up] at h⟩
      · have hiT : i < T.length := by omega
        have hupl : up L i T.length = false := by simp only [up, hLl, Bool.or_false, decide_eq_false_iff_not]; omega
        by_cases hia : i = a
        · subst hia
          rw [hoA] at ho; cases ho
          obtain ⟨p, hp⟩ := hTa
          obtain ⟨hs1, hs2⟩ := slots i sA p hp
          simp only [wpL, hopA.2.2, opF, hopA.1]
          refine Runs.alloc hzA (fun w2 he hs hb => ?_)
          rw [hopA.2.1]
          refine ⟨fun h => (by rw [hupl] at h; cases h), fun _ => ⟨w1.heap.size, ⟨hJX.ext.trans he, sub_put hs1 hJX.base, fun j s q hj hja hLj => ?_⟩, fun _ => ⟨by simp [putE, Env.get], hb, hJX.ext.size⟩⟩⟩
          have hLj' : L j = true := by simpa [up, hja] using hLj
          obtain ⟨v, hv, hq⟩ := hJX.at_ j s q hj hja hLj'
          refine ⟨v, ?_, hless j s q hj v w2 _ _ (fun k hk => ?_) (hmono j s q hj v w1 w2 _ he (hnew j s q hj v w1 _ hq))⟩
          · simp only [putE, Env.get]; rw [if_neg (hs2 j s q hj hja)]; exact hv
          · exact .inr (by rw [hk.2]; exact Nat.le_refl _)
        · have hXb : ∀ k, (L a = true ∧ k = B) → k < w1.heap.size := fun k hk => by rw [hk.2]; exact (hA hk.1).2.1.lt
          refine hstep _ L K w1 i o hXb hJX ho hiT hia hno (fun K' w' _ => J (up L i) K' w') (fun s p v w' hTi he hp => ?_)
          obtain ⟨hs1, hs2⟩ := slots i s p hTi
          have hupa : up L i a = L a := by simp only [up]; rw [decide_eq_false (fun e => hia e.symm)]; rfl
          obtain ⟨pA, hpA⟩ := hTa
          refine ⟨fun h => (by rw [hupl] at h; cases h), fun _ => ⟨B, ⟨hJX.ext.trans he, sub_put hs1 hJX.base, fun j s' q hj hja hLj => ?_⟩, fun h => ?_⟩⟩
          · rw [hupa]
            by_cases hji : j = i
            · subst hji
              rw [hTi] at hj; cases hj
              exact ⟨v, by simp [Env.get], hp⟩
            · have hLj' : L j = true := by simpa [up, hji] using hLj
              obtain ⟨u, hu, hq⟩ := hJX.at_ j s' q hj hja hLj'
              refine ⟨u, ?_, hmono j s' q hj u w1 w' _ he hq⟩
              simp only [Env.get]; rw [if_neg (hs2 j s' q hj hji)]; exact hu
          · rw [hupa] at h
            obtain ⟨h1, h2, h3⟩ := hA h
            refine ⟨?_, h2.ext he, h3⟩
            simp only [Env.get]; rw [if_neg (hs2 a sA pA hpA (fun e => hia e.symm))]; exact h1
  · intro K w1 hJ
    exact (hJ.1 (by simp; omega)).1
end
end Go.Proofs.Vg
/- The same, the heads making no call: the tail begins in the world as it was. -/
set_option linter.unusedVariables false
set_option linter.unusedSimpArgs false
namespace Go.Proofs.Vg
open Go Go.RowKit
section
variable {P : Program} {ρ : Option Nat} {N : Nat} {K : Env} {ds : List Deferred} {w : World} {a : Act} {ops : List Oper} {C : World → Prop}
theorem any_drawQ (σ : List Nat) (n : Nat) (fl : List (Bool × Bool)) (C : World → Prop) {Φ : Post} (hN : 0 < N) (hd : dstsOk N ops = true) (hB : orderOk ops σ n = true) (hnc : noCallB (reord ops σ) n = true) (hfl : flags (reord ops σ) n = fl)
    (hC : C { w with drawn := w.drawn + 1 })
    (h : wpH P ops C (fun K' => wpE P ops C (fun ch K w => Φ (.panic ch) K ds w) (fun K w => Φ .normal K ds w) fl ((pickL ops σ).drop n) K' { w with drawn := w.drawn + 1 }) ((pickL ops σ).take n) K) :
    ∀ a, Kn K N ds a → wpAnyIn (fence ρ) 0 P .any ops.toArray (lift N Φ) ops.length (Array.replicate ops.length false) a { w with drawn := w.drawn + 1 } := by
  intro a ha
  subst hfl
  simp only [orderOk, Bool.and_eq_true] at hB
  obtain ⟨⟨hp, hσ⟩, hB⟩ := hB
  have hmm : ∀ i ∈ σ, i < ops.length := fun i hi => by simpa using List.all_eq_true.1 hσ i hi
  have hn := (drawOk_parts hB).1
  have hl : (reord ops σ).length = ops.length := by rw [reord, List.length_map, reord_len hp hmm]
  have hpl := reord_len hp hmm
  have hlen : ((pickL ops σ).take n).length = n := by simp [hpl]; omega
  have hdall : ∀ l, (∀ o ∈ l, o ∈ pickL ops σ) → dstsOk N l = true := fun l hl => by
    simp only [dstsOk, List.all_eq_true] at hd ⊢
    intro o ho
    obtain ⟨j, hj⟩ := List.mem_iff_getElem?.1 (hl o ho)
    rw [pickL_get σ hmm] at hj
    cases hs : σ[j]? with
    | none => rw [hs] at hj; simp at hj
    | some i => rw [hs] at hj; simp at hj; exact hd o (List.mem_of_getElem? hj)
  obtain ⟨A, V, K', hA, hst, hk', hM⟩ := wpHL_steps (ρ := ρ) hN (pickL ops σ) ((pickL ops σ).take n) 0 K a (fun j hj => by rw [hlen] at hj; simp [List.getElem?_take, hj]) (hdall _ fun o ho => List.mem_of_mem_take ho) ha h
  rw [hlen] at hst hk'
  simp only [Nat.zero_add] at hst hk'
  have orig : ∀ (i : Nat) (o : Oper), (reord ops σ)[i]? = some o → ∃ o0, (pickL ops σ)[i]? = some o0 ∧ o = ren (place σ) o0 := fun i o ho => by
    rw [reord, List.getElem?_map] at ho
    cases hx : (pickL ops σ)[i]? with
    | none => rw [hx] at ho; simp at ho
    | some o0 => rw [hx] at ho; simp at ho; exact ⟨o0, rfl, ho.symm⟩
  have := any_of_heads0 (P := P) (ρ := ρ) (C := C) (Q := lift N Φ) hB (fun k hk => by have := List.all_eq_true.1 hnc k (List.mem_range.2 hk); simpa using this) (A := A) (V := V) (fun i o hi ho => by
      obtain ⟨o0, h0, rfl⟩ := orig i o ho
      exact (hst i o0 (Nat.zero_le _) hi h0).1) (fun i o hi ho => by
      obtain ⟨o0, h0, rfl⟩ := orig i o ho
      exact (hst i o0 (Nat.zero_le _) hi h0).2.ren hp hmm)
    (by
      have := wpE_sound (ρ := ρ) (Φ := Φ) (ops := ops) (C := C) (pan := fun ch K w => Φ (.panic ch) K ds w) (M := fun K w => Φ .normal K ds w) (fun _ _ _ h => h) (fun _ _ h => h) ((pickL ops σ).drop n) _ _ _ _ (hdall _ fun o ho => List.mem_of_mem_drop ho) hk' hM
      have := wpT_ren hp hmm _ _ _ _ this
      rw [List.map_drop] at this
      exact this) hC
  rw [hA] at this
  rw [hl] at this
  have h8 := any_perm (Q := lift N Φ) hp hmm ops.length (Array.replicate ops.length false) (Array.replicate ops.length false) a _ (by simp) (by simp) (fun i hi => ?_) this
  · simpa using h8
  · have h9 := ((permOk_spec hp).2 i hi).2
    simp [hi, h9]
/-- A REGION THAT DRAWS ITS ORDER, taken in the order 'σ', the operations of R waiting for their operands alone. -/
theorem ok_drawRQ (R : List Nat) (σ : List Nat) (n : Nat) (fl : List (Bool × Bool)) (C : World → Prop) {id : Nat} {Φ : Post} (hm : P.follows .mixedOrders = true) (hN : 0 < N) (hd : dstsOk N ops = true) (hnd : needsOk ops = true) (hd' : dstsOk N (relax R ops) = true) (hB : orderOk (relax R ops) σ n = true) (hnc : noCallB (reord (relax R ops) σ) n = true) (hfl : flags (reord (relax R ops) σ) n = fl)
    (hC : C { w with drawn := w.drawn + 1 })
    (h : wpH P ops C (fun K' => wpE P ops C (fun ch K w => Φ (.panic ch) K ds w) (fun K w => Φ .normal K ds w) fl ((pickL ops σ).drop n) K' { w with drawn := w.drawn + 1 }) ((pickL ops σ).take n) K) :
    ok P ρ N (.region id ops.toArray true) K ds w Φ := by
  intro a ha
  refine wpIn_region_any hm ?_
  have hσ : ∀ i ∈ σ, i < ops.length := fun i hi => by
    simp only [orderOk, Bool.and_eq_true] at hB
    have := List.all_eq_true.1 hB.1.2 i hi
    rw [relax_len] at this
    simpa using this
  obtain ⟨hpl, hps⟩ := pickL_relax (ops := ops) R σ hσ
  have key := any_drawQ (ρ := ρ) (ops := relax R ops) (K := K) (ds := ds) (w := w) σ n fl C (Φ := Φ) hN hd' hB hnc hfl hC (by
    rw [wpH_same R ((pickL ops σ).take n) ((pickL (relax R ops) σ).take n) (by simp [hpl]) (fun i o o' h1 h2 => hps i o o' ?_ ?_)]
    · have : (fun K' => wpE P (relax R ops) C (fun ch K w => Φ (.panic ch) K ds w) (fun K w => Φ .normal K ds w) fl ((pickL (relax R ops) σ).drop n) K' { w with drawn := w.drawn + 1 }) = (fun K' => wpE P ops C (fun ch K w => Φ (.panic ch) K ds w) (fun K w => Φ .normal K ds w) fl ((pickL ops σ).drop n) K' { w with drawn := w.drawn + 1 }) := by
        funext K'
        rw [wpE_same R ((pickL ops σ).drop n) ((pickL (relax R ops) σ).drop n) fl (by simp [hpl]) (fun i o o' h1 h2 => hps (n + i) o o' (by rw [List.getElem?_drop] at h1; exact h1) (by rw [List.getElem?_drop] at h2; exact h2))]
      rw [this]
      exact h
    · rw [List.getElem?_take] at h1; split at h1; exact h1; cases h1
    · rw [List.getElem?_take] at h2; split at h2; exact h2; cases h2) a ha
  have := any_relax (ρ := ρ) R (Q := lift N Φ) hnd ops.length (Array.replicate ops.length false) a { w with drawn := w.drawn + 1 } (by simp) (by rw [relax_len] at key; exact key)
  simpa using this
end
theorem Chg.drew (S : Nat → Prop) (w : World) : Chg S w { w with drawn := w.drawn + 1 } := (Ext.drew w).chg S
end Go.Proofs.Vg
/- Chapter 31: cloneProgram, of a program without types and tables.  -/
set_option linter.unusedVariables false
set_option linter.unusedSimpArgs false
namespace Go.Proofs.YtcpjojaklpgnkaaGreat
open Go Go.Proofs.Vg Go.RowKit
theorem st27 : stInf Tryz.prog 27 = some ([(0, 1), (1, 1), (2, 1), (3, 1)], #[.slice none 0 0, .slice none 0 0, .slice none 0 0, .slice none 0 0]) := by kernel_rfl
theorem encP_wid (l : List Pr) : ∀ r ∈ l.map encP, r.length = 17 := by
  intro r hr; obtain ⟨x, -, rfl⟩ := List.mem_map.1 hr; rfl
theorem encA_wid (l : List Al) : ∀ r ∈ l.map encA, r.length = 2 := by
  intro r hr; obtain ⟨x, -, rfl⟩ := List.mem_map.1 hr; rfl
abbrev pE (v : Value) : Prop := ∃ A c, v = .slice A 0 c
abbrev pO (S : Nat → Prop) (base e sz : Nat) (rows : List (List D)) (v : Value) (W : World) (Yx : Nat → Prop) : Prop := Own W S base e sz v rows ∧ ∀ k, v.ownBlock = some k → ¬ Yx k
-- -- function 65
set_option maxHeartbeats 16000000 in
set_option maxRecDepth 8000 in
theorem cloneProg_ok (insts : List In) (procs : List Pr) (w : World) (S : Nat → Prop) (vt0 vi0 vp0 vd0 : Value) (ht : Rd w S [vt0] [.sl 136 []]) (hi : Rd w S [vi0] [.sl 64 (insts.map encI)]) (hp : Rd w S [vp0] [.sl 256 (procs.map encP)]) (hd : Rd w S [vd0] [.sl 96 []]) :
    Rets Tryz.prog 65 [.agg #[vt0, vi0, vp0, vd0]] w (fun v w' => Ext w w' ∧ ∃ vt vi vp vd, v = .agg #[vt, vi, vp, vd] ∧ Rd w' (fun k => (S k ∨ w.heap.size ≤ k) ∧ vp.ownBlock ≠ some k) [vt] [.sl 136 []] ∧ Rd w' (fun k => (S k ∨ w.heap.size ≤ k) ∧ vp.ownBlock ≠ some k) [vi] [.sl 64 (insts.map encI)] ∧
      Own w' (fun k => S k ∨ w.heap.size ≤ k) w.heap.size 39 17 vp (procs.map encP) ∧ Rd w' (fun k => (S k ∨ w.heap.size ≤ k) ∧ vp.ownBlock ≠ some k) [vd] [.sl 96 []]) := by
  obtain ⟨At, ct, rfl, -, -, -⟩ := ht.hd
  obtain ⟨Ai, ci, rfl, hil, hib, -⟩ := hi.hd
  obtain ⟨Ap, cp, rfl, hpl, hpb, -⟩ := hp.hd
  obtain ⟨Ad, cd, rfl, -, -, -⟩ := hd.hd
  simp only [List.length_map] at hi hp hil hib hpl hpb
  have hi' := hi.mono (S' := fun k => S k ∧ k < w.heap.size) (fun k h1 h2 => ⟨h1, h2⟩)
  replace hp := hp.mono (S' := fun k => S k ∧ k < w.heap.size) (fun k h1 h2 => ⟨h1, h2⟩)
  simp only [List.length_map, List.length_nil] at ht hd ⊢
  refine rets_of_okC Tryz.func65 rfl rfl ?_
  refine ok_seq (fun M hM => ok_region rfl ?_)
  repeat ((try subst X); (first | (first | apply zL | apply zH | apply zE); intro X hX | apply zh | apply zl | apply ze); try simp only [zU, reduceIte, Nat.reduceEqDiff, Nat.reduceAdd, reduceCtorEq, Q65])
  refine Runs.box (fun w1 he1 hs1 hb1 => ?_)
  simp only [Value.cells] at hb1
  repeat ((try subst X); (first | (first | apply zL | apply zH | apply zE); intro X hX | apply zh | apply zl | apply ze); try simp only [zU, reduceIte, Nat.reduceEqDiff, Nat.reduceAdd, reduceCtorEq, Q65])
  refine Runs.alloc Fx.zi27 (fun w2 he2 hs2 hb2 => ?_)
  simp only [Value.cells] at hb2
  generalize hB1 : w.heap.size = B1 at *
  generalize hB2 : w1.heap.size = B2 at *
  repeat ((try subst X); (first | (first | apply zL | apply zH | apply zE); intro X hX | apply zh | apply zl | apply ze); try simp only [zU, reduceIte, Nat.reduceEqDiff, Nat.reduceAdd, reduceCtorEq, Q65])
  refine hM _ _ _ ?_; clear hM M
  replace hb1 := hb1.ext he2
  have he02 := he1.trans he2
  have hB12 : B2 + 1 = w2.heap.size := hs2.symm
  obtain ⟨T, hT⟩ : ∃ T : TabX, T = [(18, fun v _ _ => v = .pointer (some ⟨B1, 0, none⟩)), (19, fun v _ _ => v = .slice At 0 ct), (20, fun v _ _ => pE v), (21, fun v _ _ => v = .pointer (some ⟨B1, 1, none⟩)), (22, fun v _ _ => v = .slice Ai insts.length ci), (23, fun v W Yx => pO (fun k => S k ∧ k < B1) (B2 + 1) 73 4 (insts.map encI) v W Yx), (24, fun v _ _ => v = .pointer (some ⟨B1, 2, none⟩)), (25, fun v _ _ => v = .slice Ap procs.length cp), (26, fun v W Yx => pO (fun k => S k ∧ k < B1) (B2 + 1) 39 17 (procs.map encP) v W Yx), (27, fun v _ _ => v = .pointer (some ⟨B1, 3, none⟩)), (28, fun v _ _ => v = .slice Ad 0 cd), (29, fun v _ _ => pE v), (30, fun v W Yx => ∃ vt vi vp vd, v = .agg #[vt, vi, vp, vd] ∧ pE vt ∧ pO (fun k => S k ∧ k < B1) (B2 + 1) 73 4 (insts.map encI) vi W Yx ∧ pO (fun k => S k ∧ k < B1) (B2 + 1) 39 17 (procs.map encP) vp W Yx ∧ pE vd), (3, fun _ _ _ => True)] := ⟨_, rfl⟩
  refine ok_seq (fun M hM => ?_)
  refine ok_tabA T [(1, .pointer (some ⟨B1, 0, none⟩)), (2, .pointer (some ⟨B2, 0, none⟩))] 13 3 27 Fx.mixed rfl rfl (by rw [hT]; rfl) (by rw [hT]; rfl) rfl ⟨rfl, rfl, rfl⟩ (by rw [hT]; exact ⟨_, rfl⟩) Fx.zi27 (by simp [sub, Env.get]) (by simp [sub, Env.get]) ?_ ?_ ?_ ?_ ?_ ?_
  · subst hT
    intro j s p hj v W W' Yx he hp
    rcases j with _ | _ | _ | _ | _ | _ | _ | _ | _ | _ | _ | _ | _ | _ | j
    all_goals first
      | (simp at hj; obtain ⟨rfl, rfl⟩ := hj; exact hp)
      | (simp at hj; obtain ⟨rfl, rfl⟩ := hj; exact ⟨hp.1.ext he, hp.2⟩)
      | (simp at hj; obtain ⟨rfl, rfl⟩ := hj; obtain ⟨vt, vi, vp, vd, h1, h2, h3, h4, h5⟩ := hp; exact ⟨vt, vi, vp, vd, h1, h2, ⟨h3.1.ext he, h3.2⟩, ⟨h4.1.ext he, h4.2⟩, h5⟩)
      | (simp at hj)
  · subst hT
    intro j s p hj v W Yx hp
    have key : ∀ {S : Nat → Prop} {b e sz : Nat} {rows : List (List D)} {v : Value}, pO S b e sz rows v W Yx → pO S b e sz rows v W (fun k => Yx k ∨ W.heap.size ≤ k) := fun h => ⟨h.1, fun k hk hx => by
      rcases hx with hx | hx
      · exact h.2 k hk hx
      · have := (h.1.lt hk).2; omega⟩
    rcases j with _ | _ | _ | _ | _ | _ | _ | _ | _ | _ | _ | _ | _ | _ | j
    all_goals first
      | (simp at hj; obtain ⟨rfl, rfl⟩ := hj; exact hp)
      | (simp at hj; obtain ⟨rfl, rfl⟩ := hj; exact key hp)
      | (simp at hj; obtain ⟨rfl, rfl⟩ := hj; obtain ⟨vt, vi, vp, vd, h1, h2, h3, h4, h5⟩ := hp; exact ⟨vt, vi, vp, vd, h1, h2, key h3, key h4, h5⟩)
      | (simp at hj)
  · subst hT
    intro j s p hj v W Yx Yx' hx hp
    have key : ∀ {S : Nat → Prop} {b e sz : Nat} {rows : List (List D)} {v : Value}, pO S b e sz rows v W Yx → pO S b e sz rows v W Yx' := fun h => ⟨h.1, fun k hk h' => h.2 k hk (hx k h')⟩
    rcases j with _ | _ | _ | _ | _ | _ | _ | _ | _ | _ | _ | _ | _ | _ | j
    all_goals first
      | (simp at hj; obtain ⟨rfl, rfl⟩ := hj; exact hp)
      | (simp at hj; obtain ⟨rfl, rfl⟩ := hj; exact key hp)
      | (simp at hj; obtain ⟨rfl, rfl⟩ := hj; obtain ⟨vt, vi, vp, vd, h1, h2, h3, h4, h5⟩ := hp; exact ⟨vt, vi, vp, vd, h1, h2, key h3, key h4, h5⟩)
      | (simp at hj)
  · subst hT
    intro o ho i hi
    simp only [List.length_cons, List.length_nil, Nat.zero_add, Nat.reduceAdd, List.getElem?_cons_succ, List.getElem?_cons_zero, Option.some.injEq] at ho hi
    subst ho
    revert i
    decide
  · intro Yx L K W i o hYx hJ ho hi hia hno M hM
    have g1 := hJ.get 1 (v := .pointer (some ⟨B1, 0, none⟩)) rfl
    have heW := hJ.ext
    have he0W := he02.trans heW
    have hbW := hb1.ext heW
    have hzW := heW.size
    have at_ := hJ.at_
    clear hJ
    subst hT
    simp only [List.length_cons, List.length_nil, Nat.zero_add, Nat.reduceAdd] at hi
    obtain rfl | rfl | rfl | rfl | rfl | rfl | rfl | rfl | rfl | rfl | rfl | rfl | rfl : i = 0 ∨ i = 1 ∨ i = 2 ∨ i = 3 ∨ i = 4 ∨ i = 5 ∨ i = 6 ∨ i = 7 ∨ i = 8 ∨ i = 9 ∨ i = 10 ∨ i = 11 ∨ i = 12 := by omega
    all_goals (simp only [List.getElem?_cons_zero, List.getElem?_cons_succ, Option.some.injEq] at ho; subst ho)
    · repeat ((try subst X); (first | (first | apply zL | apply zH | apply zE); intro X hX | apply zh | apply zl | apply ze); try simp only [zU, reduceIte, Nat.reduceEqDiff, Nat.reduceAdd, reduceCtorEq, Q65])
      simp only [g1]
      repeat ((try subst X); (first | (first | apply zL | apply zH | apply zE); intro X hX | apply zh | apply zl | apply ze); try simp only [zU, reduceIte, Nat.reduceEqDiff, Nat.reduceAdd, reduceCtorEq, Q65])
      exact hM 18 _ _ _ rfl (Ext.refl _) rfl
    · obtain ⟨_, g, rfl⟩ := at_ 0 18 _ rfl (by decide) (hno 0 (by decide))
      repeat ((try subst X); (first | (first | apply zL | apply zH | apply zE); intro X hX | apply zh | apply zl | apply ze); try simp only [zU, reduceIte, Nat.reduceEqDiff, Nat.reduceAdd, reduceCtorEq, Q65])
      simp only [g]
      repeat ((try subst X); (first | (first | apply zL | apply zH | apply zE); intro X hX | apply zh | apply zl | apply ze); try simp only [zU, reduceIte, Nat.reduceEqDiff, Nat.reduceAdd, reduceCtorEq, Q65])
      refine ⟨_, hbW.cell rfl, ?_⟩
      repeat ((try subst X); (first | (first | apply zL | apply zH | apply zE); intro X hX | apply zh | apply zl | apply ze); try simp only [zU, reduceIte, Nat.reduceEqDiff, Nat.reduceAdd, reduceCtorEq, Q65])
      exact hM 19 _ _ _ rfl (Ext.refl _) rfl
    · obtain ⟨_, g, rfl⟩ := at_ 1 19 _ rfl (by decide) (hno 1 (by decide))
      repeat ((try subst X); (first | (first | apply zL | apply zH | apply zE); intro X hX | apply zh | apply zl | apply ze); try simp only [zU, reduceIte, Nat.reduceEqDiff, Nat.reduceAdd, reduceCtorEq, Q65])
      simp only [g]
      repeat ((try subst X); (first | (first | apply zL | apply zH | apply zE); intro X hX | apply zh | apply zl | apply ze); try simp only [zU, reduceIte, Nat.reduceEqDiff, Nat.reduceAdd, reduceCtorEq, Q65])
      refine Inv.call Fx.en109 (clone109 W S _ _ (ht.ext he0W) (by intro r hr; cases hr)) ?_
      rintro v w3 ⟨he3, hv⟩
      obtain ⟨A, c, rfl, -⟩ := hv.len
      repeat ((try subst X); (first | (first | apply zL | apply zH | apply zE); intro X hX | apply zh | apply zl | apply ze); try simp only [zU, reduceIte, Nat.reduceEqDiff, Nat.reduceAdd, reduceCtorEq, Q65])
      exact hM 20 _ _ _ rfl he3 ⟨_, _, rfl⟩
    · repeat ((try subst X); (first | (first | apply zL | apply zH | apply zE); intro X hX | apply zh | apply zl | apply ze); try simp only [zU, reduceIte, Nat.reduceEqDiff, Nat.reduceAdd, reduceCtorEq, Q65])
      simp only [g1]
      repeat ((try subst X); (first | (first | apply zL | apply zH | apply zE); intro X hX | apply zh | apply zl | apply ze); try simp only [zU, reduceIte, Nat.reduceEqDiff, Nat.reduceAdd, reduceCtorEq, Q65])
      exact hM 21 _ _ _ rfl (Ext.refl _) rfl
    · obtain ⟨_, g, rfl⟩ := at_ 3 21 _ rfl (by decide) (hno 3 (by decide))
      repeat ((try subst X); (first | (first | apply zL | apply zH | apply zE); intro X hX | apply zh | apply zl | apply ze); try simp only [zU, reduceIte, Nat.reduceEqDiff, Nat.reduceAdd, reduceCtorEq, Q65])
      simp only [g]
      repeat ((try subst X); (first | (first | apply zL | apply zH | apply zE); intro X hX | apply zh | apply zl | apply ze); try simp only [zU, reduceIte, Nat.reduceEqDiff, Nat.reduceAdd, reduceCtorEq, Q65])
      refine ⟨_, hbW.cell rfl, ?_⟩
      repeat ((try subst X); (first | (first | apply zL | apply zH | apply zE); intro X hX | apply zh | apply zl | apply ze); try simp only [zU, reduceIte, Nat.reduceEqDiff, Nat.reduceAdd, reduceCtorEq, Q65])
      exact hM 22 _ _ _ rfl (Ext.refl _) rfl
    · obtain ⟨_, g, rfl⟩ := at_ 4 22 _ rfl (by decide) (hno 4 (by decide))
      repeat ((try subst X); (first | (first | apply zL | apply zH | apply zE); intro X hX | apply zh | apply zl | apply ze); try simp only [zU, reduceIte, Nat.reduceEqDiff, Nat.reduceAdd, reduceCtorEq, Q65])
      simp only [g]
      repeat ((try subst X); (first | (first | apply zL | apply zH | apply zE); intro X hX | apply zh | apply zl | apply ze); try simp only [zU, reduceIte, Nat.reduceEqDiff, Nat.reduceAdd, reduceCtorEq, Q65])
      refine Inv.call Fx.en110 (clone110 W (fun k => S k ∧ k < B1) _ _ (hi'.ext he0W) (encI_wid _)) ?_
      rintro v w3 ⟨he3, hv⟩
      repeat ((try subst X); (first | (first | apply zL | apply zH | apply zE); intro X hX | apply zh | apply zl | apply ze); try simp only [zU, reduceIte, Nat.reduceEqDiff, Nat.reduceAdd, reduceCtorEq, Q65])
      exact hM 23 _ _ _ rfl he3 ⟨hv.rebase (by omega), fun k hk hx => by have := (hv.lt hk).1; have := hYx k hx; omega⟩
    · repeat ((try subst X); (first | (first | apply zL | apply zH | apply zE); intro X hX | apply zh | apply zl | apply ze); try simp only [zU, reduceIte, Nat.reduceEqDiff, Nat.reduceAdd, reduceCtorEq, Q65])
      simp only [g1]
      repeat ((try subst X); (first | (first | apply zL | apply zH | apply zE); intro X hX | apply zh | apply zl | apply ze); try simp only [zU, reduceIte, Nat.reduceEqDiff, Nat.reduceAdd, reduceCtorEq, Q65])
      exact hM 24 _ _ _ rfl (Ext.refl _) rfl
    · obtain ⟨_, g, rfl⟩ := at_ 6 24 _ rfl (by decide) (hno 6 (by decide))
      repeat ((try subst X); (first | (first | apply zL | apply zH | apply zE); intro X hX | apply zh | apply zl | apply ze); try simp only [zU, reduceIte, Nat.reduceEqDiff, Nat.reduceAdd, reduceCtorEq, Q65])
      simp only [g]
      repeat ((try subst X); (first | (first | apply zL | apply zH | apply zE); intro X hX | apply zh | apply zl | apply ze); try simp only [zU, reduceIte, Nat.reduceEqDiff, Nat.reduceAdd, reduceCtorEq, Q65])
      refine ⟨_, hbW.cell rfl, ?_⟩
      repeat ((try subst X); (first | (first | apply zL | apply zH | apply zE); intro X hX | apply zh | apply zl | apply ze); try simp only [zU, reduceIte, Nat.reduceEqDiff, Nat.reduceAdd, reduceCtorEq, Q65])
      exact hM 25 _ _ _ rfl (Ext.refl _) rfl
    · obtain ⟨_, g, rfl⟩ := at_ 7 25 _ rfl (by decide) (hno 7 (by decide))
      repeat ((try subst X); (first | (first | apply zL | apply zH | apply zE); intro X hX | apply zh | apply zl | apply ze); try simp only [zU, reduceIte, Nat.reduceEqDiff, Nat.reduceAdd, reduceCtorEq, Q65])
      simp only [g]
      repeat ((try subst X); (first | (first | apply zL | apply zH | apply zE); intro X hX | apply zh | apply zl | apply ze); try simp only [zU, reduceIte, Nat.reduceEqDiff, Nat.reduceAdd, reduceCtorEq, Q65])
      refine Inv.call Fx.en111 (clone111 W (fun k => S k ∧ k < B1) _ _ (hp.ext he0W) (encP_wid _)) ?_
      rintro v w3 ⟨he3, hv⟩
      repeat ((try subst X); (first | (first | apply zL | apply zH | apply zE); intro X hX | apply zh | apply zl | apply ze); try simp only [zU, reduceIte, Nat.reduceEqDiff, Nat.reduceAdd, reduceCtorEq, Q65])
      exact hM 26 _ _ _ rfl he3 ⟨hv.rebase (by omega), fun k hk hx => by have := (hv.lt hk).1; have := hYx k hx; omega⟩
    · repeat ((try subst X); (first | (first | apply zL | apply zH | apply zE); intro X hX | apply zh | apply zl | apply ze); try simp only [zU, reduceIte, Nat.reduceEqDiff, Nat.reduceAdd, reduceCtorEq, Q65])
      simp only [g1]
      repeat ((try subst X); (first | (first | apply zL | apply zH | apply zE); intro X hX | apply zh | apply zl | apply ze); try simp only [zU, reduceIte, Nat.reduceEqDiff, Nat.reduceAdd, reduceCtorEq, Q65])
      exact hM 27 _ _ _ rfl (Ext.refl _) rfl
    · obtain ⟨_, g, rfl⟩ := at_ 9 27 _ rfl (by decide) (hno 9 (by decide))
      repeat ((try subst X); (first | (first | apply zL | apply zH | apply zE); intro X hX | apply zh | apply zl | apply ze); try simp only [zU, reduceIte, Nat.reduceEqDiff, Nat.reduceAdd, reduceCtorEq, Q65])
      simp only [g]
      repeat ((try subst X); (first | (first | apply zL | apply zH | apply zE); intro X hX | apply zh | apply zl | apply ze); try simp only [zU, reduceIte, Nat.reduceEqDiff, Nat.reduceAdd, reduceCtorEq, Q65])
      refine ⟨_, hbW.cell rfl, ?_⟩
      repeat ((try subst X); (first | (first | apply zL | apply zH | apply zE); intro X hX | apply zh | apply zl | apply ze); try simp only [zU, reduceIte, Nat.reduceEqDiff, Nat.reduceAdd, reduceCtorEq, Q65])
      exact hM 28 _ _ _ rfl (Ext.refl _) rfl
    · obtain ⟨_, g, rfl⟩ := at_ 10 28 _ rfl (by decide) (hno 10 (by decide))
      repeat ((try subst X); (first | (first | apply zL | apply zH | apply zE); intro X hX | apply zh | apply zl | apply ze); try simp only [zU, reduceIte, Nat.reduceEqDiff, Nat.reduceAdd, reduceCtorEq, Q65])
      simp only [g]
      repeat ((try subst X); (first | (first | apply zL | apply zH | apply zE); intro X hX | apply zh | apply zl | apply ze); try simp only [zU, reduceIte, Nat.reduceEqDiff, Nat.reduceAdd, reduceCtorEq, Q65])
      refine Inv.call Fx.en112 (clone112 W S _ _ (hd.ext he0W) (by intro r hr; cases hr)) ?_
      rintro v w3 ⟨he3, hv⟩
      obtain ⟨A, c, rfl, -⟩ := hv.len
      repeat ((try subst X); (first | (first | apply zL | apply zH | apply zE); intro X hX | apply zh | apply zl | apply ze); try simp only [zU, reduceIte, Nat.reduceEqDiff, Nat.reduceAdd, reduceCtorEq, Q65])
      exact hM 29 _ _ _ rfl he3 ⟨_, _, rfl⟩
    · obtain ⟨_, q2, A2, c2, rfl⟩ := at_ 2 20 _ rfl (by decide) (hno 2 (by decide))
      obtain ⟨v5, q5, h5⟩ := at_ 5 23 _ rfl (by decide) (hno 5 (by decide))
      obtain ⟨v8, q8, h8⟩ := at_ 8 26 _ rfl (by decide) (hno 8 (by decide))
      obtain ⟨_, q11, A11, c11, rfl⟩ := at_ 11 29 _ rfl (by decide) (hno 11 (by decide))
      obtain ⟨A5, c5, rfl, -⟩ := h5.1.len
      obtain ⟨A8, c8, rfl, -⟩ := h8.1.len
      repeat ((try subst X); (first | (first | apply zL | apply zH | apply zE); intro X hX | apply zh | apply zl | apply ze); try simp only [zU, reduceIte, Nat.reduceEqDiff, Nat.reduceAdd, reduceCtorEq, Q65])
      simp only [q2, q5, q8, q11]
      repeat ((try subst X); (first | (first | apply zL | apply zH | apply zE); intro X hX | apply zh | apply zl | apply ze); try simp only [zU, reduceIte, Nat.reduceEqDiff, Nat.reduceAdd, reduceCtorEq, Q65])
      refine Runs.build (parts := [(0, _), (1, _), (2, _), (3, _)]) st27 rfl ?_
      repeat ((try subst X); (first | (first | apply zL | apply zH | apply zE); intro X hX | apply zh | apply zl | apply ze); try simp only [zU, reduceIte, Nat.reduceEqDiff, Nat.reduceAdd, reduceCtorEq, Q65])
      exact hM 30 _ _ _ rfl (Ext.refl _) ⟨_, _, _, _, rfl, ⟨_, _, rfl⟩, h5, h8, ⟨_, _, rfl⟩⟩
  · intro B3 K w7 o hJ g3 hb3 hB3 ho M0 hM0
    have he27 := hJ.ext
    subst hT
    simp only [List.length_cons, List.length_nil, Nat.zero_add, Nat.reduceAdd, List.getElem?_cons_succ, List.getElem?_cons_zero, Option.some.injEq] at ho
    subst ho
    have g1 := hJ.get 1 (v := .pointer (some ⟨B1, 0, none⟩)) rfl
    have g2 := hJ.get 2 (v := .pointer (some ⟨B2, 0, none⟩)) rfl
    obtain ⟨_, q12, vt, vi, vp, vd, rfl, ⟨Avt, cvt, rfl⟩, ⟨hvi, hviX⟩, ⟨hvp, hvpX⟩, Avd, cvd, rfl⟩ := hJ.at_ 12 30 _ rfl (by decide) rfl
    clear hJ
    obtain ⟨Avi, cvi, rfl, -⟩ := hvi.len
    obtain ⟨Avp, cvp, rfl, -⟩ := hvp.len
    simp only [List.length_map] at hvi hvp hviX hvpX
    repeat ((try subst X); (first | (first | apply zL | apply zH | apply zE); intro X hX | apply zh | apply zl | apply ze); try simp only [zU, reduceIte, Nat.reduceEqDiff, Nat.reduceAdd, reduceCtorEq, Q65])
    simp only [g3, q12]
    repeat ((try subst X); (first | (first | apply zL | apply zH | apply zE); intro X hX | apply zh | apply zl | apply ze); try simp only [zU, reduceIte, Nat.reduceEqDiff, Nat.reduceAdd, reduceCtorEq, Q65])
    simp only [Value.cells] at hb3
    refine Runs.store hb3 Fx.zi27 rfl (by simp [Value.cells, Value.oneCell']) (by simp) (fun w8 hc8 hs8 hb8 => ?_)
    simp only [splice, Value.cells, List.length_cons, List.length_nil, Nat.reduceAdd, Nat.zero_add, List.take_zero, List.drop_succ_cons, List.drop_zero, List.append_nil, List.nil_append, List.drop_nil, List.length_map] at hb8
    repeat ((try subst X); (first | (first | apply zL | apply zH | apply zE); intro X hX | apply zh | apply zl | apply ze); try simp only [zU, reduceIte, Nat.reduceEqDiff, Nat.reduceAdd, reduceCtorEq, Q65])
    refine hM0 _ _ ?_
    simp only [thenN]
    refine hM _ _ _ (ok_less [(2, .pointer (some ⟨B2, 0, none⟩)), (3, .pointer (some ⟨B3, 0, none⟩))] ⟨g2, g3, trivial⟩ ?_)
    clear hM M hM0 M0 g1 g2 g3 q12
    obtain ⟨F, hF1, hF2, hF3, hF4⟩ : ∃ F : Nat → Prop, (∀ k, F k → k ≠ B1 ∧ k ≠ B2 ∧ k ≠ B3) ∧ (∀ k, B2 < k → k ≠ B3 → F k) ∧ (∀ k, S k ∧ k < B1 → F k) ∧ (∀ k, F k → S k ∨ B1 ≤ k) :=
      ⟨fun k => (S k ∧ k < B1) ∨ (B2 < k ∧ k ≠ B3), fun k h => by omega, fun k h h2 => .inr ⟨h, h2⟩, fun k h => .inl h, fun k h => by rcases h with h | h; exact .inl h.1; exact .inr (by omega)⟩
    have he28 : Ext w2 w8 := he27.chg_trans hc8 (by omega)
    have he08 := he02.trans he28
    have hz8 := he28.size
    have hB3l : B3 < w8.heap.size := Nat.lt_of_lt_of_le hb3.lt hc8.size
    replace hb2 := hb2.ext he28
    replace hvi := hvi.chg hc8 (fun k hk e => hviX k hk e) (fun k hk _ e => by have := hk.2; omega)
    replace hvp := hvp.chg hc8 (fun k hk e => hvpX k hk e) (fun k hk _ e => by have := hk.2; omega)
    obtain ⟨vi, hviE⟩ : ∃ vi, vi = Value.slice Avi insts.length cvi := ⟨_, rfl⟩
    obtain ⟨vp, hvpE⟩ : ∃ vp, vp = Value.slice Avp procs.length cvp := ⟨_, rfl⟩
    rw [← hviE] at hvi hviX hb8
    rw [← hvpE] at hvp hvpX hb8
    have hviB : ∀ k, vi.ownBlock = some k → B2 < k ∧ k ≠ B3 := fun k hk => ⟨(hvi.lt hk).1, hviX k hk⟩
    have hvpB : ∀ k, vp.ownBlock = some k → B2 < k ∧ k ≠ B3 := fun k hk => ⟨(hvp.lt hk).1, hvpX k hk⟩
    have hip : ∀ k, vi.ownBlock = some k → vp.ownBlock ≠ some k := fun k h1 h2 => by
      obtain ⟨c1, h3⟩ := hvi.typ h1
      obtain ⟨c2, h4⟩ := hvp.typ h2
      have := typ_ne h3 h4
      cases this
    replace hvi : Own w8 (fun k => F k ∧ vp.ownBlock ≠ some k) (B2 + 1) 73 4 vi (insts.map encI) := hvi.mono fun k hk _ _ => ⟨hF3 k hk, fun e => by have := hvpB k e; have := hk.2; omega⟩
    clear hviX hvpX hc8 hs8 hb3
    -- the types: none
    refine ok_join [(2, .pointer (some ⟨B2, 0, none⟩)), (3, .pointer (some ⟨B3, 0, none⟩))] (fun W => w8 = W) ?_ ?_
    · refine ok_seq (fun M hM => ok_region rfl ?_)
      repeat ((try subst X); (first | (first | apply zL | apply zH | apply zE); intro X hX | apply zh | apply zl | apply ze); try simp only [zU, reduceIte, Nat.reduceEqDiff, Nat.reduceAdd, reduceCtorEq, Q65])
      refine ⟨_, Blk.cell (by assumption) rfl, ?_⟩
      repeat ((try subst X); (first | (first | apply zL | apply zH | apply zE); intro X hX | apply zh | apply zl | apply ze); try simp only [zU, reduceIte, Nat.reduceEqDiff, Nat.reduceAdd, reduceCtorEq, Q65])
      refine hM _ _ _ ?_; clear hM M
      refine ok_for (n := 0) [(2, .pointer (some ⟨B2, 0, none⟩)), (3, .pointer (some ⟨B3, 0, none⟩))] (fun i W => w8 = W) rfl (by simp [sub, Env.get]) rfl (by simp [sub, Env.get]) (by decide) rfl (fun i W hi => absurd hi (Nat.not_lt_zero _)) ?_
      rintro W rfl
      exact ⟨rfl, by simp [sub, Env.get], rfl⟩
    rintro _ rfl
    -- the insts
    refine ok_join [(2, .pointer (some ⟨B2, 0, none⟩)), (3, .pointer (some ⟨B3, 0, none⟩))] (fun W => Ext w W ∧ B3 < W.heap.size ∧ Blk W B3 [.slice Avt 0 cvt, vi, vp, .slice Avd 0 cvd] 27 ∧ Blk W B2 [.slice none 0 0, .slice none 0 0, .slice none 0 0, .slice none 0 0] 27 ∧ Own W (fun k => F k ∧ vp.ownBlock ≠ some k) (B2 + 1) 73 4 vi (insts.map encI) ∧ Own W (fun k => S k ∧ k < B1) (B2 + 1) 39 17 vp (procs.map encP)) ?_ ?_
    · refine ok_seq (fun M hM => ok_region rfl ?_)
      repeat ((try subst X); (first | (first | apply zL | apply zH | apply zE); intro X hX | apply zh | apply zl | apply ze); try simp only [zU, reduceIte, Nat.reduceEqDiff, Nat.reduceAdd, reduceCtorEq, Q65])
      refine ⟨vi, Blk.cell hb8 rfl, ?_⟩
      rw [hviE]
      repeat ((try subst X); (first | (first | apply zL | apply zH | apply zE); intro X hX | apply zh | apply zl | apply ze); try simp only [zU, reduceIte, Nat.reduceEqDiff, Nat.reduceAdd, reduceCtorEq, Q65])
      refine hM _ _ _ ?_; clear hM M
      rw [← hviE]
      refine ok_for [(2, .pointer (some ⟨B2, 0, none⟩)), (3, .pointer (some ⟨B3, 0, none⟩)), (98, vi)] (fun i W => Ext w W ∧ B3 < W.heap.size ∧ Blk W B3 [.slice Avt 0 cvt, vi, vp, .slice Avd 0 cvd] 27 ∧ Blk W B2 [.slice none 0 0, .slice none 0 0, .slice none 0 0, .slice none 0 0] 27 ∧ Own W (fun k => F k ∧ vp.ownBlock ≠ some k) (B2 + 1) 73 4 vi (insts.map encI) ∧ Own W (fun k => S k ∧ k < B1) (B2 + 1) 39 17 vp (procs.map encP)) rfl (by simp [sub, Env.get]) rfl (by simp [sub, Env.get]) hil ⟨he08, by omega, hb8, hb2, hvi, hvp⟩ ?_ ?_
      · rintro i W hi ⟨he, hBW, qb3, qb2, qvi, qvp⟩
        have hri : (insts.map encI)[i]? = some (encI insts[i]) := by simp [hi]
        generalize hx : insts[i] = x at hri
        obtain ⟨gv, cap, r, hv', hcell, hrl, hr⟩ := qvi.row hri (by simpa using hil)
        simp only [List.length_map] at hv'
        have hvo : vi.ownBlock = some gv := by rw [hv']; rfl
        have hgv := qvi.lt hvo
        have hgvp := fun k h => (qvp.lt (k := k) h).2
        match r, hrl with
        | [x0, x1, x2, x3], _ =>
        obtain ⟨rfl, hr'⟩ := hr.atc
        obtain ⟨hra, hr''⟩ := hr'.slc
        obtain ⟨hrm, hr3⟩ := hr''.slc
        obtain ⟨rfl, -⟩ := hr3.atc
        obtain ⟨A1, c1, rfl, hal, hab, -⟩ := hra.hd
        obtain ⟨A2, c2, rfl, hml, hmb, -⟩ := hrm.hd
        simp only [List.length_map] at hal hab hml hmb hra hrm hcell hr
        refine ok_seq (fun M hM => ok_region rfl ?_)
        rw [hv']
        repeat ((try subst X); (first | (first | apply zL | apply zH | apply zE); intro X hX | apply zh | apply zl | apply ze); try simp only [zU, reduceIte, Nat.reduceEqDiff, Nat.reduceAdd, reduceCtorEq, Q65])
        refine ⟨by omega, by omega, ?_⟩
        repeat ((try subst X); (first | (first | apply zL | apply zH | apply zE); intro X hX | apply zh | apply zl | apply ze); try simp only [zU, reduceIte, Nat.reduceEqDiff, Nat.reduceAdd, reduceCtorEq, Q65])
        refine ⟨[.int .i64 x.kind, .slice A1 x.alts.length c1, .slice A2 x.modes.length c2, .int .i64 x.det], rfl, by simpa [add_at] using hcell, ?_⟩
        repeat ((try subst X); (first | (first | apply zL | apply zH | apply zE); intro X hX | apply zh | apply zl | apply ze); try simp only [zU, reduceIte, Nat.reduceEqDiff, Nat.reduceAdd, reduceCtorEq, Q65])
        refine Runs.alloc Fx.zi73 (fun w4 he4 hs4 hb4 => ?_)
        generalize hB4 : W.heap.size = B4 at *
        repeat ((try subst X); (first | (first | apply zL | apply zH | apply zE); intro X hX | apply zh | apply zl | apply ze); try simp only [zU, reduceIte, Nat.reduceEqDiff, Nat.reduceAdd, reduceCtorEq, Q65])
        refine Runs.store hb4 Fx.zi73 rfl (fun u hu => (hr.one u (by simpa [Value.cells] using hu)).1) (by simp [Value.cells]) (fun w5 hc5 hs5 hb5 => ?_)
        simp only [splice, Value.cells, List.length_cons, List.length_nil, Nat.reduceAdd, Nat.zero_add, List.take_zero, List.drop_succ_cons, List.drop_zero, List.append_nil, List.nil_append, List.drop_nil] at hb5
        repeat ((try subst X); (first | (first | apply zL | apply zH | apply zE); intro X hX | apply zh | apply zl | apply ze); try simp only [zU, reduceIte, Nat.reduceEqDiff, Nat.reduceAdd, reduceCtorEq, Q65])
        refine hM _ _ _ ?_; clear hM M
        have he45 : Ext W w5 := he4.chg_trans hc5 (by intro k hk; omega)
        replace qb3 := qb3.ext he45
        replace qb2 := qb2.ext he45
        have hz45 := he45.size
        have hra4 := hra.mono (S' := fun k => ((F k ∧ vp.ownBlock ≠ some k) ∧ vi.ownBlock ≠ some k) ∧ k < B4) (fun k h1 h2 => ⟨h1, by omega⟩)
        have hrm4 := hrm.mono (S' := fun k => ((F k ∧ vp.ownBlock ≠ some k) ∧ vi.ownBlock ≠ some k) ∧ k < B4) (fun k h1 h2 => ⟨h1, by omega⟩)
        replace qvi := (qvi.mono (S' := fun k => (F k ∧ vp.ownBlock ≠ some k) ∧ k < B4) (fun k h1 h2 _ => ⟨h1, by omega⟩)).ext he45
        replace qvp := qvp.ext he45
        rw [← hv']
        refine ok_seq (fun M hM => ?_)
        refine (ok_drawRQ [0, 3, 6, 9, 12, 13, 15, 16] [0, 1, 2, 3, 4, 5, 6, 7, 9, 10, 12, 13, 15, 16, 8, 11, 14, 17] 14 [(true, false), (true, false), (true, false), (false, true)] (Chg (fun k => k = gv) _) Fx.mixed (by decide) rfl rfl rfl (by decide +kernel) (by decide +kernel) (by decide +kernel) (Chg.drew _ _) ?_); simp only [pickL, List.getElem?_cons_zero, List.getElem?_cons_succ, List.take_succ_cons, List.take_zero, List.drop_succ_cons, List.drop_zero]
        repeat ((try subst X); (first | (first | apply zL | apply zH | apply zE); intro X hX | apply zh | apply zl | apply ze); try simp only [zU, reduceIte, Nat.reduceEqDiff, Nat.reduceAdd, reduceCtorEq, Q65])
        refine ⟨vi, fun w' h => (qb3.chg h (fun e => (hviB gv hvo).2 e.symm)).cell rfl, ?_⟩
        repeat ((try subst X); (first | (first | apply zL | apply zH | apply zE); intro X hX | apply zh | apply zl | apply ze); try simp only [zU, reduceIte, Nat.reduceEqDiff, Nat.reduceAdd, reduceCtorEq, Q65])
        refine ⟨vi, fun w' h => (qb3.chg h (fun e => (hviB gv hvo).2 e.symm)).cell rfl, ?_⟩
        repeat ((try subst X); (first | (first | apply zL | apply zH | apply zE); intro X hX | apply zh | apply zl | apply ze); try simp only [zU, reduceIte, Nat.reduceEqDiff, Nat.reduceAdd, reduceCtorEq, Q65])
        refine ⟨.slice A1 x.alts.length c1, fun w' h => (hb5.chg h (fun e => by omega)).cell rfl, ?_⟩
        repeat ((try subst X); (first | (first | apply zL | apply zH | apply zE); intro X hX | apply zh | apply zl | apply ze); try simp only [zU, reduceIte, Nat.reduceEqDiff, Nat.reduceAdd, reduceCtorEq, Q65])
        refine ⟨.slice A2 x.modes.length c2, fun w' h => (hb5.chg h (fun e => by omega)).cell rfl, ?_⟩
        rw [hv']
        repeat ((try subst X); (first | (first | apply zL | apply zH | apply zE); intro X hX | apply zh | apply zl | apply ze); try simp only [zU, reduceIte, Nat.reduceEqDiff, Nat.reduceAdd, reduceCtorEq, Q65])
        refine ⟨by omega, by omega, ?_⟩
        repeat ((try subst X); (first | (first | apply zL | apply zH | apply zE); intro X hX | apply zh | apply zl | apply ze); try simp only [zU, reduceIte, Nat.reduceEqDiff, Nat.reduceAdd, reduceCtorEq, Q65])
        refine ⟨by omega, by omega, ?_⟩
        repeat ((try subst X); (first | (first | apply zL | apply zH | apply zE); intro X hX | apply zh | apply zl | apply ze); try simp only [zU, reduceIte, Nat.reduceEqDiff, Nat.reduceAdd, reduceCtorEq, Q65])
        have he6 := Ext.drew w5
        generalize ({ w5 with drawn := w5.drawn + 1 } : World) = w6 at he6 ⊢
        have hz6 := he6.size
        repeat ((try subst X); (first | (first | apply zL | apply zH | apply zE); intro X hX | apply zh | apply zl | apply ze); try simp only [zU, reduceIte, Nat.reduceEqDiff, Nat.reduceAdd, reduceCtorEq, Q65])
        refine Inv.call Fx.en117 (clone117 w6 (fun k => ((F k ∧ vp.ownBlock ≠ some k) ∧ vi.ownBlock ≠ some k) ∧ k < B4) _ _ ((hra4.ext he45).ext he6) (encA_wid _)) ?_
        rintro va w7 ⟨he7, hva⟩
        have hz7 := he7.size
        have hvaB := fun k h => hva.lt (k := k) h
        obtain ⟨Ava, cva, hvaE, -⟩ := hva.len
        simp only [List.length_map] at hvaE
        rw [hvaE]
        repeat ((try subst X); (first | (first | apply zL | apply zH | apply zE); intro X hX | apply zh | apply zl | apply ze); try simp only [zU, reduceIte, Nat.reduceEqDiff, Nat.reduceAdd, reduceCtorEq, Q65])
        refine ⟨(he6.trans he7).chg _, ?_⟩
        repeat ((try subst X); (first | (first | apply zL | apply zH | apply zE); intro X hX | apply zh | apply zl | apply ze); try simp only [zU, reduceIte, Nat.reduceEqDiff, Nat.reduceAdd, reduceCtorEq, Q65])
        refine Inv.call Fx.en118 (clone118 w7 (fun k => ((F k ∧ vp.ownBlock ≠ some k) ∧ vi.ownBlock ≠ some k) ∧ k < B4) _ _ (((hrm4.ext he45).ext he6).ext he7) (encM_wid _)) ?_
        rintro vm w8 ⟨he8, hvm⟩
        have hz8 := he8.size
        obtain ⟨Avm, cvm, hvmE, -⟩ := hvm.len
        simp only [List.length_map] at hvmE
        rw [hvmE]
        have he58 := (he6.trans he7).trans he8
        repeat ((try subst X); (first | (first | apply zL | apply zH | apply zE); intro X hX | apply zh | apply zl | apply ze); try simp only [zU, reduceIte, Nat.reduceEqDiff, Nat.reduceAdd, reduceCtorEq, Q65])
        refine ⟨he58.chg _, ?_⟩
        repeat ((try subst X); (first | (first | apply zL | apply zH | apply zE); intro X hX | apply zh | apply zl | apply ze); try simp only [zU, reduceIte, Nat.reduceEqDiff, Nat.reduceAdd, reduceCtorEq, Q65])
        replace qvi : Own w8 (fun k => (F k ∧ vp.ownBlock ≠ some k) ∧ va.ownBlock ≠ some k) (B2 + 1) 73 4 vi (insts.map encI) := (qvi.ext he58).mono fun k hk _ _ => ⟨hk.1, fun e => by have := hvaB k e; have := hk.2; omega⟩
        have hvpo : ∀ k, vp.ownBlock = some k → k < B4 := fun k h => by have := hgvp k h; omega
        have hvmR : Rd w8 (fun k => ((F k ∧ vp.ownBlock ≠ some k) ∧ va.ownBlock ≠ some k) ∧ vi.ownBlock ≠ some k) [vm] [.sl 16 (x.modes.map encM)] := rd_of_own hvm (by simpa using hml) (by simpa using hmb) (fun k hk _ => ⟨⟨hk.1.1, fun e => by have := hvaB k e; have := hk.2; omega⟩, hk.1.2⟩) (fun k hk _ => ⟨⟨⟨hF2 k (by omega) (by omega), fun e => by have := hvpo k e; omega⟩, fun e => by have := (hvaB k e).2; omega⟩, fun e => by rw [hvo] at e; cases e; omega⟩)
        have hvaR : Rd w8 (fun k => ((F k ∧ vp.ownBlock ≠ some k) ∧ va.ownBlock ≠ some k) ∧ vi.ownBlock ≠ some k) [va] [.at va] := .at (by rw [hvaE]; rfl) (by rw [hvaE]; rfl) .nil
        obtain ⟨g', cap', cur, hv'', hbk, hle, hbg, hst⟩ := qvi.store hri (off := 1) (ds := [.at va]) hvaR (by simp) (by simp)
        simp only [List.length_map] at hv''
        rw [hv'] at hv''
        injection hv'' with hA' _ hc'
        cases hA'
        simp only [Nat.zero_add]
        rw [← hvaE]
        refine Runs.store hbk Fx.zi71 (by rw [hvaE]; rfl) (by rw [hvaE]; exact cell1s) (by simpa using hle) (fun w9 hc9 hs9 hb9 => ?_)
        have qvi9 := hst w9 hc9 (by rw [hvaE] at hb9 ⊢; simpa [Value.cells] using hb9)
        rw [show spliceD (encI x) 1 [.at va] = [iD x.kind, .at va, .sl 16 (x.modes.map encM), iD x.det] from rfl] at qvi9
        clear hst hle
        repeat ((try subst X); (first | (first | apply zL | apply zH | apply zE); intro X hX | apply zh | apply zl | apply ze); try simp only [zU, reduceIte, Nat.reduceEqDiff, Nat.reduceAdd, reduceCtorEq, Q65])
        refine ⟨(he58.chg _).trans hc9, ?_⟩
        repeat ((try subst X); (first | (first | apply zL | apply zH | apply zE); intro X hX | apply zh | apply zl | apply ze); try simp only [zU, reduceIte, Nat.reduceEqDiff, Nat.reduceAdd, reduceCtorEq, Q65])
        obtain ⟨g', cap'', cur', hv'', hbk', hle, hbg, hst⟩ := qvi9.store (i := i) (row := [iD x.kind, .at va, .sl 16 (x.modes.map encM), iD x.det]) (by rw [List.getElem?_set_self (by simpa using hi)]) (off := 2) (ds := [.sl 16 (x.modes.map encM)]) (hvmR.chg hc9 (fun k hk _ e => hk.2 (e ▸ hvo))) (by simp) (by simp)
        simp only [List.length_map, List.length_set] at hv''
        rw [hv'] at hv''
        injection hv'' with hA' _ hc''
        cases hA'
        rw [← hvmE]
        refine Runs.store hbk' Fx.zi33 (by rw [hvmE]; rfl) (by rw [hvmE]; exact cell1s) (by simpa using hle) (fun w10 hc10 hs10 hb10 => ?_)
        have qvi10 := hst w10 hc10 (by rw [hvmE] at hb10 ⊢; simpa [Value.cells] using hb10)
        rw [show spliceD [iD x.kind, .at va, .sl 16 (x.modes.map encM), iD x.det] 2 [.sl 16 (x.modes.map encM)] = [iD x.kind, .at va, .sl 16 (x.modes.map encM), iD x.det] from rfl, List.set_set] at qvi10
        clear hst hle qvi9 qvi hbk hbk' hb9 hb10 hvmR hvaR hs9 hs10
        repeat ((try subst X); (first | (first | apply zL | apply zH | apply zE); intro X hX | apply zh | apply zl | apply ze); try simp only [zU, reduceIte, Nat.reduceEqDiff, Nat.reduceAdd, reduceCtorEq, Q65])
        have hc810 : Chg (fun k => k = gv) w8 w10 := hc9.trans hc10
        have hz10 := hc810.size
        refine hM _ _ _ ?_; clear hM M
        have he510 : Ext w w10 := ((he.trans he45).trans he58).chg_trans hc810 (by intro k hk; have := (hviB gv hvo).1; omega)
        have hb4' := (hb5.ext he58).chg hc810 (by omega)
        replace qb3 := (qb3.ext he58).chg hc810 (fun e => (hviB gv hvo).2 e.symm)
        replace qb2 := (qb2.ext he58).chg hc810 (fun e => by have := (hviB gv hvo).1; omega)
        replace qvp := (qvp.ext he58).chg hc810 (fun k hk e => hip gv hvo (e ▸ hk)) (fun k hk _ e => by have := (hviB gv hvo).1; have h1 : k < B1 := hk.2; omega)
        replace hva : Own w10 (fun k => (F k ∧ vp.ownBlock ≠ some k) ∧ vi.ownBlock ≠ some k) B4 153 2 va (x.alts.map encA) := (((hva.ext he8).chg hc810 (fun k hk e => by have := (hvaB k hk).1; omega) (fun k hk _ e => hk.1.2 (e ▸ hvo))).rebase (by omega)).mono fun k hk _ _ => hk.1
        replace hra := ((hra4.ext he45).ext he58).chg hc810 (fun k hk _ e => hk.1.2 (e ▸ hvo))
        clear hc810 hc9 hc10 hvaB hvm hra4 hrm4 hrm hr hr' hr'' hr3
        refine ok_seq (fun M hM => ok_region rfl ?_)
        repeat ((try subst X); (first | (first | apply zL | apply zH | apply zE); intro X hX | apply zh | apply zl | apply ze); try simp only [zU, reduceIte, Nat.reduceEqDiff, Nat.reduceAdd, reduceCtorEq, Q65])
        refine ⟨_, Blk.cell hb4' rfl, ?_⟩
        repeat ((try subst X); (first | (first | apply zL | apply zH | apply zE); intro X hX | apply zh | apply zl | apply ze); try simp only [zU, reduceIte, Nat.reduceEqDiff, Nat.reduceAdd, reduceCtorEq, Q65])
        refine hM _ _ _ ?_; clear hM M
        clear hb4' hb5
        rw [← hv']
        refine ok_for (n := x.alts.length) [(2, .pointer (some ⟨B2, 0, none⟩)), (3, .pointer (some ⟨B3, 0, none⟩)), (98, vi), (99, .int .i64 (insts.length : Int)), (100, .int .i64 (i : Int)), (8, .int .i64 (i : Int)), (122, .slice A1 x.alts.length c1)] (fun j W' => Ext w W' ∧ B3 < W'.heap.size ∧ B4 < W'.heap.size ∧ Blk W' B3 [.slice Avt 0 cvt, vi, vp, .slice Avd 0 cvd] 27 ∧ Blk W' B2 [.slice none 0 0, .slice none 0 0, .slice none 0 0, .slice none 0 0] 27 ∧
          Own W' (fun k => (F k ∧ vp.ownBlock ≠ some k) ∧ va.ownBlock ≠ some k) (B2 + 1) 73 4 vi ((insts.map encI).set i [iD x.kind, .at va, .sl 16 (x.modes.map encM), iD x.det]) ∧ Own W' (fun k => S k ∧ k < B1) (B2 + 1) 39 17 vp (procs.map encP) ∧
          Own W' (fun k => (F k ∧ vp.ownBlock ≠ some k) ∧ vi.ownBlock ≠ some k) B4 153 2 va (x.alts.map encA) ∧ Rd W' (fun k => ((F k ∧ vp.ownBlock ≠ some k) ∧ vi.ownBlock ≠ some k) ∧ k < B4) [.slice A1 x.alts.length c1] [.sl 40 (x.alts.map encA)]) rfl (by simp [sub, Env.get]) rfl (by simp [sub, Env.get]) hal ⟨he510, by omega, by omega, qb3, qb2, qvi10, qvp, hva, hra⟩ ?_ ?_
        · clear qb3 qb2 qvi10 qvp hva hra
          rintro j W' hj ⟨he', hBW', hB4W', q3, q2, qv, qp, qa, qo⟩
          have hrj : (x.alts.map encA)[j]? = some (encA x.alts[j]) := by simp [hj]
          generalize hy : x.alts[j] = y at hrj
          obtain ⟨k1, o1, r1, rfl, hS1, hkl1, hcell1, hr1⟩ := qo.row hrj
          have hl1 : r1.length = 2 := hr1.len
          match r1, hl1 with
          | [y0, y1], _ =>
          obtain ⟨rfl, hr1'⟩ := hr1.atc
          obtain ⟨A3, c3, rfl, hyl, hyb, -⟩ := hr1'.hd
          simp only [List.length_map] at hyl hyb hr1' hcell1 hr1
          refine ok_seq (fun M hM => ok_region rfl ?_)
          repeat ((try subst X); (first | (first | apply zL | apply zH | apply zE); intro X hX | apply zh | apply zl | apply ze); try simp only [zU, reduceIte, Nat.reduceEqDiff, Nat.reduceAdd, reduceCtorEq, Q65])
          refine ⟨by omega, by omega, ?_⟩
          repeat ((try subst X); (first | (first | apply zL | apply zH | apply zE); intro X hX | apply zh | apply zl | apply ze); try simp only [zU, reduceIte, Nat.reduceEqDiff, Nat.reduceAdd, reduceCtorEq, Q65])
          refine ⟨[.string y.name, .slice A3 y.args.length c3], rfl, by simpa [add_at] using hcell1, ?_⟩
          repeat ((try subst X); (first | (first | apply zL | apply zH | apply zE); intro X hX | apply zh | apply zl | apply ze); try simp only [zU, reduceIte, Nat.reduceEqDiff, Nat.reduceAdd, reduceCtorEq, Q65])
          refine Runs.alloc Fx.zi153 (fun w11 he11 hs11 hb11 => ?_)
          generalize hB5 : W'.heap.size = B5 at *
          repeat ((try subst X); (first | (first | apply zL | apply zH | apply zE); intro X hX | apply zh | apply zl | apply ze); try simp only [zU, reduceIte, Nat.reduceEqDiff, Nat.reduceAdd, reduceCtorEq, Q65])
          refine Runs.store hb11 Fx.zi153 rfl (fun u hu => (hr1.one u (by simpa [Value.cells] using hu)).1) (by simp [Value.cells]) (fun w12 hc12 hs12 hb12 => ?_)
          simp only [splice, Value.cells, List.length_cons, List.length_nil, Nat.reduceAdd, Nat.zero_add, List.take_zero, List.drop_succ_cons, List.drop_zero, List.append_nil, List.nil_append, List.drop_nil] at hb12
          repeat ((try subst X); (first | (first | apply zL | apply zH | apply zE); intro X hX | apply zh | apply zl | apply ze); try simp only [zU, reduceIte, Nat.reduceEqDiff, Nat.reduceAdd, reduceCtorEq, Q65])
          refine hM _ _ _ ?_; clear hM M
          have he12 : Ext W' w12 := he11.chg_trans hc12 (by intro k hk; omega)
          have hz12 := he12.size
          replace q3 := q3.ext he12
          replace q2 := q2.ext he12
          replace qv := qv.ext he12
          replace qp := qp.ext he12
          replace qa := qa.ext he12
          replace qo := qo.ext he12
          obtain ⟨gv', cap', r2, hv2, hcell2, hrl2, hr2⟩ := qv.row (i := i) (row := [iD x.kind, .at va, .sl 16 (x.modes.map encM), iD x.det]) (by rw [List.getElem?_set_self (by simpa using hi)]) (by simpa using hil)
          rw [hv'] at hv2
          injection hv2 with hA2 _ _
          cases hA2
          match r2, hrl2 with
          | [z0, z1, z2, z3], _ =>
          have hz1 : z1 = va := hr2.atc.2.atc.1
          have hcv : w12.cell? ⟨gv, 0 + i * 4 + 1, none⟩ = some va := by
            have := hcell2 1 va (by rw [hz1]; rfl)
            simpa [add_at] using this
          obtain ⟨ga, capa, r3, hva2, -, -, -⟩ := qa.row hrj (by simpa using hal)
          simp only [List.length_map] at hva2
          have hvao : va.ownBlock = some ga := by rw [hva2]; rfl
          have hga := qa.lt hvao
          refine (ok_drawR [0, 3, 4, 7, 10, 11] [0, 1, 2, 3, 4, 5, 6, 7, 8, 10, 11, 9, 12] 11 [(true, false), (false, true)] (Ext _) Fx.mixed (by decide) rfl rfl rfl (by decide +kernel) (by decide +kernel) (Ext.drew _) ?_); simp only [pickL, List.getElem?_cons_zero, List.getElem?_cons_succ, List.take_succ_cons, List.take_zero, List.drop_succ_cons, List.drop_zero]
          repeat ((try subst X); (first | (first | apply zL | apply zH | apply zE); intro X hX | apply zh | apply zl | apply ze); try simp only [zU, reduceIte, Nat.reduceEqDiff, Nat.reduceAdd, reduceCtorEq, Q65])
          refine ⟨vi, fun w' h => (q3.ext h).cell rfl, ?_⟩
          rw [hv']
          repeat ((try subst X); (first | (first | apply zL | apply zH | apply zE); intro X hX | apply zh | apply zl | apply ze); try simp only [zU, reduceIte, Nat.reduceEqDiff, Nat.reduceAdd, reduceCtorEq, Q65])
          refine ⟨by omega, by omega, ?_⟩
          repeat ((try subst X); (first | (first | apply zL | apply zH | apply zE); intro X hX | apply zh | apply zl | apply ze); try simp only [zU, reduceIte, Nat.reduceEqDiff, Nat.reduceAdd, reduceCtorEq, Q65])
          refine ⟨va, fun w' h => h.cell hcv, ?_⟩
          repeat ((try subst X); (first | (first | apply zL | apply zH | apply zE); intro X hX | apply zh | apply zl | apply ze); try simp only [zU, reduceIte, Nat.reduceEqDiff, Nat.reduceAdd, reduceCtorEq, Q65])
          refine ⟨.slice A3 y.args.length c3, fun w' h => (hb12.ext h).cell rfl, ?_⟩
          rw [hva2]
          repeat ((try subst X); (first | (first | apply zL | apply zH | apply zE); intro X hX | apply zh | apply zl | apply ze); try simp only [zU, reduceIte, Nat.reduceEqDiff, Nat.reduceAdd, reduceCtorEq, Q65])
          refine ⟨by omega, by omega, ?_⟩
          repeat ((try subst X); (first | (first | apply zL | apply zH | apply zE); intro X hX | apply zh | apply zl | apply ze); try simp only [zU, reduceIte, Nat.reduceEqDiff, Nat.reduceAdd, reduceCtorEq, Q65])
          intro w13 he13
          have hz13 := he13.size
          repeat ((try subst X); (first | (first | apply zL | apply zH | apply zE); intro X hX | apply zh | apply zl | apply ze); try simp only [zU, reduceIte, Nat.reduceEqDiff, Nat.reduceAdd, reduceCtorEq, Q65])
          refine Inv.call Fx.en66 (clone66 w13 (fun k => ((F k ∧ vp.ownBlock ≠ some k) ∧ vi.ownBlock ≠ some k) ∧ k < B4) _ _ ((hr1'.ext he12).ext he13) (ints_wid _)) ?_
          rintro vn w14 ⟨he14, hvn⟩
          have hz14 := he14.size
          obtain ⟨Avn, cvn, hvnE, -⟩ := hvn.len
          simp only [List.length_map] at hvnE
          rw [hvnE]
          have he124 := he13.trans he14
          repeat ((try subst X); (first | (first | apply zL | apply zH | apply zE); intro X hX | apply zh | apply zl | apply ze); try simp only [zU, reduceIte, Nat.reduceEqDiff, Nat.reduceAdd, reduceCtorEq, Q65])
          refine ⟨he124, ?_⟩
          repeat ((try subst X); (first | (first | apply zL | apply zH | apply zE); intro X hX | apply zh | apply zl | apply ze); try simp only [zU, reduceIte, Nat.reduceEqDiff, Nat.reduceAdd, reduceCtorEq, Q65])
          have hvnR : Rd w14 (fun k => ((F k ∧ vp.ownBlock ≠ some k) ∧ vi.ownBlock ≠ some k) ∧ va.ownBlock ≠ some k) [vn] [isD y.args] := rd_of_own hvn (by simpa using hyl) (by simpa using hyb) (fun k hk _ => ⟨hk.1, fun e => by have := (qa.lt e).1; have h1 : k < B4 := hk.2; omega⟩) (fun k hk _ => ⟨⟨⟨hF2 k (by omega) (by omega), fun e => by have := hvpo k e; omega⟩, fun e => by rw [hvo] at e; cases e; omega⟩, fun e => by have := (qa.lt e).2; omega⟩)
          obtain ⟨g', cap', cur, hv'', hbk, hle, hbg, hst⟩ := (qa.ext he124).store hrj (off := 1) (ds := [isD y.args]) hvnR (by simp) (by simp)
          simp only [List.length_map] at hv''
          rw [hva2] at hv''
          injection hv'' with hA' _ hc'
          cases hA'
          simp only [Nat.zero_add]
          rw [← hvnE]
          refine Runs.store hbk Fx.zi29 (by rw [hvnE]; rfl) (by rw [hvnE]; exact cell1s) (by simpa using hle) (fun w15 hc15 hs15 hb15 => ?_)
          have qa15 := hst w15 hc15 (by rw [hvnE] at hb15 ⊢; simpa [Value.cells] using hb15)
          rw [show spliceD (encA y) 1 [isD y.args] = encA y from rfl, set_same hrj] at qa15
          have hz15 := hc15.size
          repeat ((try subst X); (first | (first | apply zL | apply zH | apply zE); intro X hX | apply zh | apply zl | apply ze); try simp only [zU, reduceIte, Nat.reduceEqDiff, Nat.reduceAdd, reduceCtorEq, Q65])
          exact ⟨by simp [sub, Env.get, hv'], ((he'.trans he12).trans he124).chg_trans hc15 (by intro k hk; omega), by omega, by omega, (q3.ext he124).chg hc15 (by omega), (q2.ext he124).chg hc15 (by omega), (qv.ext he124).chg hc15 (fun k hk e => by rw [hvo] at hk; cases hk; omega) (fun k hk _ e => hk.2 (e ▸ hvao)), (qp.ext he124).chg hc15 (fun k hk e => by have := hvpo k hk; omega) (fun k hk _ e => by have h1 : k < B1 := hk.2; omega), qa15, (qo.ext he124).chg hc15 (fun k hk _ e => by have h1 : k < B4 := hk.2; omega)⟩
        · clear qb3 qb2 qvi10 qvp hva hra
          rintro W' ⟨he', hBW', hB4W', q3, q2, qv, qp, qa, qo⟩
          have hvaF : Rd W' (fun k => (F k ∧ vp.ownBlock ≠ some k) ∧ vi.ownBlock ≠ some k) [va] [.sl 40 (x.alts.map encA)] := qa.rd (by simpa using hal) (by simpa using hab) (fun k hk hk' => by
            rcases hk' with hk' | hk'
            · exact hk'.1
            · have h1 := (qa.lt hk').1
              exact ⟨⟨hF2 k (by omega) (by omega), fun e => by have := hvpo k e; omega⟩, fun e => by rw [hvo] at e; cases e; omega⟩)
          have qvf := (qv.mono (S' := fun k => F k ∧ vp.ownBlock ≠ some k) (fun k hk _ _ => hk.1)).reset (i := i) (row' := encI x) (by rw [List.getElem?_set_self (by simpa using hi)]) (fun r hr => by have := Rd.refill (ds := [iD x.kind, .at va, .sl 16 (x.modes.map encM), iD x.det]) hvaF hr 1 rfl; exact this) rfl
          rw [List.set_set, set_same hri] at qvf
          exact ⟨rfl, by simp [sub, Env.get, hv'], he', hBW', q3, q2, qvf, qp⟩
      · rintro W ⟨he, hBW, qb3, qb2, qvi, qvp⟩
        exact ⟨rfl, by simp [sub, Env.get], he, hBW, qb3, qb2, qvi, qvp⟩
    clear hvi hvp hb8 hb2
    rintro W0 ⟨he0, hBW0, hb3, hb2, hvi, hvp⟩
    -- the procedures
    have hviR : Rd W0 (fun k => F k ∧ vp.ownBlock ≠ some k) [vi] [.sl 64 (insts.map encI)] := hvi.rd (by simpa using hil) (by simpa using hib) (fun k _ hk => by
      rcases hk with hk | hk
      · exact hk.1
      · exact ⟨hF2 k (hviB k hk).1 (hviB k hk).2, hip k hk⟩)
    replace hvp : Own W0 (fun k => F k) (B2 + 1) 39 17 vp (procs.map encP) := hvp.mono fun k hk _ _ => hF3 k hk
    clear hvi
    refine ok_join [(2, .pointer (some ⟨B2, 0, none⟩)), (3, .pointer (some ⟨B3, 0, none⟩))] (fun W => Ext w W ∧ B3 < W.heap.size ∧ Blk W B3 [.slice Avt 0 cvt, vi, vp, .slice Avd 0 cvd] 27 ∧ Blk W B2 [.slice none 0 0, .slice none 0 0, .slice none 0 0, .slice none 0 0] 27 ∧ Rd W (fun k => F k ∧ vp.ownBlock ≠ some k) [vi] [.sl 64 (insts.map encI)] ∧ Own W (fun k => F k) (B2 + 1) 39 17 vp (procs.map encP)) ?_ ?_
    · refine ok_seq (fun M hM => ok_region rfl ?_)
      repeat ((try subst X); (first | (first | apply zL | apply zH | apply zE); intro X hX | apply zh | apply zl | apply ze); try simp only [zU, reduceIte, Nat.reduceEqDiff, Nat.reduceAdd, reduceCtorEq, Q65])
      refine ⟨vp, Blk.cell hb3 rfl, ?_⟩
      rw [hvpE]
      repeat ((try subst X); (first | (first | apply zL | apply zH | apply zE); intro X hX | apply zh | apply zl | apply ze); try simp only [zU, reduceIte, Nat.reduceEqDiff, Nat.reduceAdd, reduceCtorEq, Q65])
      refine hM _ _ _ ?_; clear hM M
      rw [← hvpE]
      refine ok_for [(2, .pointer (some ⟨B2, 0, none⟩)), (3, .pointer (some ⟨B3, 0, none⟩)), (144, vp)] (fun i W => Ext w W ∧ B3 < W.heap.size ∧ Blk W B3 [.slice Avt 0 cvt, vi, vp, .slice Avd 0 cvd] 27 ∧ Blk W B2 [.slice none 0 0, .slice none 0 0, .slice none 0 0, .slice none 0 0] 27 ∧ Rd W (fun k => F k ∧ vp.ownBlock ≠ some k) [vi] [.sl 64 (insts.map encI)] ∧ Own W (fun k => F k) (B2 + 1) 39 17 vp (procs.map encP)) rfl (by simp [sub, Env.get]) rfl (by simp [sub, Env.get]) hpl ⟨he0, hBW0, hb3, hb2, hviR, hvp⟩ ?_ ?_
      · rintro i W hi ⟨he, hBW, qb3, qb2, qvi, qvp⟩
        have hri : (procs.map encP)[i]? = some (encP procs[i]) := by simp [hi]
        obtain ⟨gv, cap, r, hv', hcell, hrl, hr⟩ := qvp.row hri (by simpa using hpl)
        simp only [List.length_map] at hv'
        have hvo : vp.ownBlock = some gv := by rw [hv']; rfl
        have hgv := qvp.lt hvo
        refine ok_seq (fun M hM => ok_region rfl ?_)
        rw [hv']
        repeat ((try subst X); (first | (first | apply zL | apply zH | apply zE); intro X hX | apply zh | apply zl | apply ze); try simp only [zU, reduceIte, Nat.reduceEqDiff, Nat.reduceAdd, reduceCtorEq, Q65])
        refine ⟨by omega, by omega, ?_⟩
        repeat ((try subst X); (first | (first | apply zL | apply zH | apply zE); intro X hX | apply zh | apply zl | apply ze); try simp only [zU, reduceIte, Nat.reduceEqDiff, Nat.reduceAdd, reduceCtorEq, Q65])
        refine ⟨r, hrl, by simpa [add_at] using hcell, ?_⟩
        repeat ((try subst X); (first | (first | apply zL | apply zH | apply zE); intro X hX | apply zh | apply zl | apply ze); try simp only [zU, reduceIte, Nat.reduceEqDiff, Nat.reduceAdd, reduceCtorEq, Q65])
        refine Runs.alloc Fx.zi39 (fun w4 he4 hs4 hb4 => ?_)
        generalize hB4 : W.heap.size = B4 at *
        repeat ((try subst X); (first | (first | apply zL | apply zH | apply zE); intro X hX | apply zh | apply zl | apply ze); try simp only [zU, reduceIte, Nat.reduceEqDiff, Nat.reduceAdd, reduceCtorEq, Q65])
        refine Runs.store hb4 Fx.zi39 (by simpa [Value.cells] using hrl) (fun u hu => (hr.one u (by simpa [Value.cells] using hu)).1) (by simp [Value.cells]) (fun w5 hc5 hs5 hb5 => ?_)
        rw [agg_cells, splice_all _ _ (by simpa [Value.cells] using hrl)] at hb5
        repeat ((try subst X); (first | (first | apply zL | apply zH | apply zE); intro X hX | apply zh | apply zl | apply ze); try simp only [zU, reduceIte, Nat.reduceEqDiff, Nat.reduceAdd, reduceCtorEq, Q65])
        refine hM _ _ _ ?_; clear hM M
        have he45 : Ext W w5 := he4.chg_trans hc5 (by intro k hk; omega)
        replace qb3 := qb3.ext he45
        replace qb2 := qb2.ext he45
        replace qvi := qvi.ext he45
        replace qvp := qvp.ext he45
        have hz45 := he45.size
        rw [← hv']
        refine (ok_drawR [0, 5] [0, 1, 2, 3, 5, 4, 6] 5 [(true, false), (false, true)] (Ext _) Fx.mixed (by decide) rfl rfl rfl (by decide +kernel) (by decide +kernel) (Ext.drew _) ?_); simp only [pickL, List.getElem?_cons_zero, List.getElem?_cons_succ, List.take_succ_cons, List.take_zero, List.drop_succ_cons, List.drop_zero]
        repeat ((try subst X); (first | (first | apply zL | apply zH | apply zE); intro X hX | apply zh | apply zl | apply ze); try simp only [zU, reduceIte, Nat.reduceEqDiff, Nat.reduceAdd, reduceCtorEq, Q65])
        refine ⟨vp, fun w' h => (qb3.ext h).cell rfl, ?_⟩
        repeat ((try subst X); (first | (first | apply zL | apply zH | apply zE); intro X hX | apply zh | apply zl | apply ze); try simp only [zU, reduceIte, Nat.reduceEqDiff, Nat.reduceAdd, reduceCtorEq, Q65])
        refine ⟨r, hrl, fun w' h => (hb5.ext h).all, ?_⟩
        rw [hv']
        repeat ((try subst X); (first | (first | apply zL | apply zH | apply zE); intro X hX | apply zh | apply zl | apply ze); try simp only [zU, reduceIte, Nat.reduceEqDiff, Nat.reduceAdd, reduceCtorEq, Q65])
        refine ⟨by omega, by omega, ?_⟩
        repeat ((try subst X); (first | (first | apply zL | apply zH | apply zE); intro X hX | apply zh | apply zl | apply ze); try simp only [zU, reduceIte, Nat.reduceEqDiff, Nat.reduceAdd, reduceCtorEq, Q65])
        intro w6 he6
        have hz6 := he6.size
        repeat ((try subst X); (first | (first | apply zL | apply zH | apply zE); intro X hX | apply zh | apply zl | apply ze); try simp only [zU, reduceIte, Nat.reduceEqDiff, Nat.reduceAdd, reduceCtorEq, Q65])
        refine Inv.call Fx.en119 (cloneProc_ok procs[i] w6 (fun k => F k ∧ vp.ownBlock ≠ some k) r ((hr.ext he45).ext he6)) ?_
        rintro _ w7 ⟨he7, cs7, rfl, hr7⟩
        have hl7 : cs7.length = 17 := by rw [hr7.len]; rfl
        have hz7 := he7.size
        have he57 := he6.trans he7
        repeat ((try subst X); (first | (first | apply zL | apply zH | apply zE); intro X hX | apply zh | apply zl | apply ze); try simp only [zU, reduceIte, Nat.reduceEqDiff, Nat.reduceAdd, reduceCtorEq, Q65])
        refine ⟨he57, ?_⟩
        repeat ((try subst X); (first | (first | apply zL | apply zH | apply zE); intro X hX | apply zh | apply zl | apply ze); try simp only [zU, reduceIte, Nat.reduceEqDiff, Nat.reduceAdd, reduceCtorEq, Q65])
        obtain ⟨g', cap', cur, hv'', hbk, hle, hbg, hst⟩ := (qvp.ext he57).store hri (off := 0) (ds := encP procs[i]) (hr7.mono fun k hk _ => by
          rcases hk with hk | hk
          · exact hk
          · exact ⟨hF2 k (by omega) (by omega), fun e => by rw [hvo] at e; cases e; omega⟩) (by rw [hl7]; decide) (by rw [hl7]; decide)
        simp only [List.length_map] at hv''
        rw [hv'] at hv''
        injection hv'' with hA' _ hc'
        cases hA'
        simp only [Nat.zero_add]
        refine Runs.store hbk Fx.zi39 (by simpa [Value.cells] using hl7) (fun u hu => (hr7.one u (by simpa [Value.cells] using hu)).1) (by rw [hl7] at hle; simpa using hle) (fun w8 hc8 hs8 hb8 => ?_)
        have hvv8 := hst w8 hc8 (by simpa [Value.cells] using hb8)
        rw [show spliceD (encP procs[i]) 0 (encP procs[i]) = encP procs[i] by simp [spliceD], set_same hri] at hvv8
        repeat ((try subst X); (first | (first | apply zL | apply zH | apply zE); intro X hX | apply zh | apply zl | apply ze); try simp only [zU, reduceIte, Nat.reduceEqDiff, Nat.reduceAdd, reduceCtorEq, Q65])
        have := hvpB gv hvo
        exact ⟨by simp [sub, Env.get, hv'], (he.trans he45).trans he57 |>.chg_trans hc8 (by intro k hk; omega), by have := hc8.size; omega, (qb3.ext he57).chg hc8 (by omega), (qb2.ext he57).chg hc8 (by omega), (qvi.ext he57).chg hc8 (fun k hk _ e => hk.2 (e ▸ hvo)), hvv8⟩
      · rintro W ⟨he, hBW, qb3, qb2, qvi, qvp⟩
        exact ⟨rfl, by simp [sub, Env.get], he, hBW, qb3, qb2, qvi, qvp⟩
    clear hvp hb3 hb2 hviR
    rintro W1 ⟨he1', hBW1, hb3, hb2, hvi, hvp⟩
    -- the tables: none
    refine ok_join [(2, .pointer (some ⟨B2, 0, none⟩)), (3, .pointer (some ⟨B3, 0, none⟩))] (fun W => W1 = W) ?_ ?_
    · refine ok_seq (fun M hM => ok_region rfl ?_)
      repeat ((try subst X); (first | (first | apply zL | apply zH | apply zE); intro X hX | apply zh | apply zl | apply ze); try simp only [zU, reduceIte, Nat.reduceEqDiff, Nat.reduceAdd, reduceCtorEq, Q65])
      refine ⟨.slice Avd 0 cvd, Blk.cell hb3 rfl, ?_⟩
      repeat ((try subst X); (first | (first | apply zL | apply zH | apply zE); intro X hX | apply zh | apply zl | apply ze); try simp only [zU, reduceIte, Nat.reduceEqDiff, Nat.reduceAdd, reduceCtorEq, Q65])
      refine hM _ _ _ ?_; clear hM M
      refine ok_for (n := 0) [(2, .pointer (some ⟨B2, 0, none⟩)), (3, .pointer (some ⟨B3, 0, none⟩))] (fun i W => W1 = W) rfl (by simp [sub, Env.get]) rfl (by simp [sub, Env.get]) (by decide) rfl (fun i W hi => absurd hi (Nat.not_lt_zero _)) ?_
      rintro W rfl
      exact ⟨rfl, by simp [sub, Env.get], rfl⟩
    rintro _ rfl
    refine ok_seq (fun M hM => ok_region rfl ?_)
    repeat ((try subst X); (first | (first | apply zL | apply zH | apply zE); intro X hX | apply zh | apply zl | apply ze); try simp only [zU, reduceIte, Nat.reduceEqDiff, Nat.reduceAdd, reduceCtorEq, Q65])
    refine ⟨_, rfl, hb3.all, ?_⟩
    repeat ((try subst X); (first | (first | apply zL | apply zH | apply zE); intro X hX | apply zh | apply zl | apply ze); try simp only [zU, reduceIte, Nat.reduceEqDiff, Nat.reduceAdd, reduceCtorEq, Q65])
    refine Runs.store hb2 Fx.zi27 rfl (by rw [hviE, hvpE]; simp [Value.cells, Value.oneCell']) (by simp) (fun w9 hc9 hs9 hb9 => ?_)
    simp only [splice, Value.cells, List.length_cons, List.length_nil, Nat.reduceAdd, Nat.zero_add, List.take_zero, List.drop_succ_cons, List.drop_zero, List.append_nil, List.nil_append, List.drop_nil] at hb9
    repeat ((try subst X); (first | (first | apply zL | apply zH | apply zE); intro X hX | apply zh | apply zl | apply ze); try simp only [zU, reduceIte, Nat.reduceEqDiff, Nat.reduceAdd, reduceCtorEq, Q65])
    refine hM _ _ _ ?_; clear hM M
    refine ok_ret ?_
    try simp only [zW, zU, reduceIte, Nat.reduceEqDiff, Nat.reduceAdd, reduceCtorEq, Q65]
    refine ⟨_, rfl, hb9.all, he1'.chg_trans hc9 (by omega), _, _, _, _, rfl, Rd.empty, (hvi.chg hc9 (fun k hk _ e => (hF1 k hk.1).2.1 e)).mono fun k hk _ => ⟨hF4 k hk.1, hk.2⟩, ?_, Rd.empty⟩
    exact ((hvp.chg hc9 (fun k hk e => by have := (hvpB k hk).1; omega) (fun k hk _ e => (hF1 k hk).2.1 e)).rebase (by omega)).mono fun k hk _ _ => hF4 k hk
end Go.Proofs.YtcpjojaklpgnkaaGreat
/- Chapter 31: cloneState, of a state without types, tables, definitions and laws.  -/
set_option linter.unusedVariables false
set_option linter.unusedSimpArgs false
namespace Go.Proofs.YtcpjojaklpgnkaaGreat
open Go Go.Proofs.Vg Go.RowKit
theorem st31 : stInf Tryz.prog 31 = some ([(0, 4), (4, 1), (5, 1)], #[.slice none 0 0, .slice none 0 0, .slice none 0 0, .slice none 0 0, .slice none 0 0, .slice none 0 0]) := by kernel_rfl
/-- A program of one's own: its procedures' row can be written. -/
def PgX (G : Nat → Prop) (base : Nat) (insts : List In) (procs : List Pr) (vt vi vp vd : Value) (W : World) (Yx : Nat → Prop) : Prop :=
  pE vt ∧ Rd W (fun k => (G k ∧ vp.ownBlock ≠ some k) ∧ ¬ Yx k) [vi] [.sl 64 (insts.map encI)] ∧ Own W (fun k => G k ∧ ¬ Yx k) base 39 17 vp (procs.map encP) ∧ (∀ k, vp.ownBlock = some k → ¬ Yx k) ∧ pE vd
theorem PgX.ext {G : Nat → Prop} {base : Nat} {insts : List In} {procs : List Pr} {vt vi vp vd : Value} {W W' : World} {Yx : Nat → Prop} (h : PgX G base insts procs vt vi vp vd W Yx) (he : Ext W W') : PgX G base insts procs vt vi vp vd W' Yx :=
  ⟨h.1, h.2.1.ext he, h.2.2.1.ext he, h.2.2.2⟩
theorem PgX.key {G : Nat → Prop} {base : Nat} {insts : List In} {procs : List Pr} {vt vi vp vd : Value} {W : World} {Yx : Nat → Prop} (h : PgX G base insts procs vt vi vp vd W Yx) : PgX G base insts procs vt vi vp vd W (fun k => Yx k ∨ W.heap.size ≤ k) :=
  ⟨h.1, h.2.1.mono fun k hk hl => ⟨hk.1, fun e => by rcases e with e | e; exact hk.2 e; omega⟩, h.2.2.1.mono fun k hk hl _ => ⟨hk.1, fun e => by rcases e with e | e; exact hk.2 e; omega⟩, fun k hk e => by
    rcases e with e | e
    · exact h.2.2.2.1 k hk e
    · have := (h.2.2.1.lt hk).2; omega, h.2.2.2.2⟩
theorem PgX.mono {G : Nat → Prop} {base : Nat} {insts : List In} {procs : List Pr} {vt vi vp vd : Value} {W : World} {Yx Yx' : Nat → Prop} (h : PgX G base insts procs vt vi vp vd W Yx) (hx : ∀ k, Yx' k → Yx k) : PgX G base insts procs vt vi vp vd W Yx' :=
  ⟨h.1, h.2.1.mono fun k hk hl => ⟨hk.1, fun e => hk.2 (hx k e)⟩, h.2.2.1.mono fun k hk hl _ => ⟨hk.1, fun e => hk.2 (hx k e)⟩, fun k hk e => h.2.2.2.1 k hk (hx k e), h.2.2.2.2⟩
-- -- function 29
set_option maxHeartbeats 16000000 in
set_option maxRecDepth 8000 in
theorem cloneState_ok (insts : List In) (procs : List Pr) (w : World) (S : Nat → Prop) (vt0 vi0 vp0 vd0 vf0 va0 : Value) (ht : pE vt0) (hi : Rd w S [vi0] [.sl 64 (insts.map encI)]) (hp : Rd w S [vp0] [.sl 256 (procs.map encP)]) (hd : pE vd0) (hf : pE vf0) (ha : pE va0) :
    Rets Tryz.prog 29 [.agg #[vt0, vi0, vp0, vd0, vf0, va0]] w (fun v w' => Ext w w' ∧ ∃ vt vi vp vd vf va, v = .agg #[vt, vi, vp, vd, vf, va] ∧ pE vf ∧ pE va ∧ PgX (fun k => S k ∨ w.heap.size ≤ k) w.heap.size insts procs vt vi vp vd w' (fun _ => False)) := by
  obtain ⟨At, ct, rfl⟩ := ht
  obtain ⟨Ad, cd, rfl⟩ := hd
  obtain ⟨Af, cf, rfl⟩ := hf
  obtain ⟨Aa, ca, rfl⟩ := ha
  obtain ⟨Ai, ci, rfl, hil, hib, -⟩ := hi.hd
  obtain ⟨Ap, cp, rfl, hpl, hpb, -⟩ := hp.hd
  simp only [List.length_map] at hi hp hil hib hpl hpb
  replace hi := hi.mono (S' := fun k => S k ∧ k < w.heap.size) (fun k h1 h2 => ⟨h1, h2⟩)
  replace hp := hp.mono (S' := fun k => S k ∧ k < w.heap.size) (fun k h1 h2 => ⟨h1, h2⟩)
  simp only [List.length_map, List.length_nil]
  refine rets_of_okC Tryz.func29 rfl rfl ?_
  refine ok_seq (fun M hM => ok_region rfl ?_)
  repeat ((try subst X); (first | (first | apply zL | apply zH | apply zE); intro X hX | apply zh | apply zl | apply ze); try simp only [zU, reduceIte, Nat.reduceEqDiff, Nat.reduceAdd, reduceCtorEq, Q29])
  refine Runs.box (fun w1 he1 hs1 hb1 => ?_)
  simp only [Value.cells] at hb1
  repeat ((try subst X); (first | (first | apply zL | apply zH | apply zE); intro X hX | apply zh | apply zl | apply ze); try simp only [zU, reduceIte, Nat.reduceEqDiff, Nat.reduceAdd, reduceCtorEq, Q29])
  refine Runs.alloc Fx.zi31 (fun w2 he2 hs2 hb2 => ?_)
  simp only [Value.cells] at hb2
  generalize hB1 : w.heap.size = B1 at *
  generalize hB2 : w1.heap.size = B2 at *
  repeat ((try subst X); (first | (first | apply zL | apply zH | apply zE); intro X hX | apply zh | apply zl | apply ze); try simp only [zU, reduceIte, Nat.reduceEqDiff, Nat.reduceAdd, reduceCtorEq, Q29])
  refine hM _ _ _ ?_; clear hM M
  replace hb1 := hb1.ext he2
  have he02 := he1.trans he2
  have hB12 : B2 + 1 = w2.heap.size := hs2.symm
  obtain ⟨G, hG⟩ : ∃ G : Nat → Prop, ∀ k, G k ↔ (S k ∧ k < B1) ∨ B2 + 1 ≤ k := ⟨fun k => (S k ∧ k < B1) ∨ B2 + 1 ≤ k, fun k => Iff.rfl⟩
  obtain ⟨T, hT⟩ : ∃ T : TabX, T = [(6, fun v _ _ => v = .pointer (some ⟨B1, 0, none⟩)), (7, fun v _ _ => v = .agg #[.slice At 0 ct, .slice Ai insts.length ci, .slice Ap procs.length cp, .slice Ad 0 cd]), (8, fun v W Yx => ∃ vt vi vp vd, v = .agg #[vt, vi, vp, vd] ∧ PgX G (B2 + 1) insts procs vt vi vp vd W (fun k => Yx k ∧ B1 ≤ k)), (9, fun v _ _ => v = .pointer (some ⟨B1, 5, none⟩)), (10, fun v _ _ => v = .slice Aa 0 ca), (11, fun v _ _ => pE v), (12, fun v _ _ => v = .pointer (some ⟨B1, 4, none⟩)), (13, fun v _ _ => v = .slice Af 0 cf), (14, fun v _ _ => pE v), (15, fun v W Yx => ∃ vt vi vp vd vf va, v = .agg #[vt, vi, vp, vd, vf, va] ∧ PgX G (B2 + 1) insts procs vt vi vp vd W (fun k => Yx k ∧ B1 ≤ k) ∧ pE vf ∧ pE va), (3, fun _ _ _ => True)] := ⟨_, rfl⟩
  refine ok_seq (fun M hM => ?_)
  refine ok_tabA T [(1, .pointer (some ⟨B1, 0, none⟩)), (2, .pointer (some ⟨B2, 0, none⟩))] 10 3 31 Fx.mixed rfl rfl (by rw [hT]; rfl) (by rw [hT]; rfl) rfl ⟨rfl, rfl, rfl⟩ (by rw [hT]; exact ⟨_, rfl⟩) Fx.zi31 (by simp [sub, Env.get]) (by simp [sub, Env.get]) ?_ ?_ ?_ ?_ ?_ ?_
  · subst hT
    intro j s p hj v W W' Yx he hp
    rcases j with _ | _ | _ | _ | _ | _ | _ | _ | _ | _ | _ | j
    all_goals first
      | (simp at hj; obtain ⟨rfl, rfl⟩ := hj; exact hp)
      | (simp at hj; obtain ⟨rfl, rfl⟩ := hj; obtain ⟨vt, vi, vp, vd, h1, h2⟩ := hp; exact ⟨vt, vi, vp, vd, h1, h2.ext he⟩)
      | (simp at hj; obtain ⟨rfl, rfl⟩ := hj; obtain ⟨vt, vi, vp, vd, vf, va, h1, h2, h3⟩ := hp; exact ⟨vt, vi, vp, vd, vf, va, h1, h2.ext he, h3⟩)
      | (simp at hj)
  · subst hT
    intro j s p hj v W Yx hp
    rcases j with _ | _ | _ | _ | _ | _ | _ | _ | _ | _ | _ | j
    all_goals first
      | (simp at hj; obtain ⟨rfl, rfl⟩ := hj; exact hp)
      | (simp at hj; obtain ⟨rfl, rfl⟩ := hj; obtain ⟨vt, vi, vp, vd, h1, h2⟩ := hp; exact ⟨vt, vi, vp, vd, h1, h2.key.mono fun k hk => hk.1.elim (fun h => .inl ⟨h, hk.2⟩) .inr⟩)
      | (simp at hj; obtain ⟨rfl, rfl⟩ := hj; obtain ⟨vt, vi, vp, vd, vf, va, h1, h2, h3⟩ := hp; exact ⟨vt, vi, vp, vd, vf, va, h1, h2.key.mono fun k hk => hk.1.elim (fun h => .inl ⟨h, hk.2⟩) .inr, h3⟩)
      | (simp at hj)
  · subst hT
    intro j s p hj v W Yx Yx' hx hp
    rcases j with _ | _ | _ | _ | _ | _ | _ | _ | _ | _ | _ | j
    all_goals first
      | (simp at hj; obtain ⟨rfl, rfl⟩ := hj; exact hp)
      | (simp at hj; obtain ⟨rfl, rfl⟩ := hj; obtain ⟨vt, vi, vp, vd, h1, h2⟩ := hp; exact ⟨vt, vi, vp, vd, h1, h2.mono fun k hk => ⟨hx k hk.1, hk.2⟩⟩)
      | (simp at hj; obtain ⟨rfl, rfl⟩ := hj; obtain ⟨vt, vi, vp, vd, vf, va, h1, h2, h3⟩ := hp; exact ⟨vt, vi, vp, vd, vf, va, h1, h2.mono (fun k hk => ⟨hx k hk.1, hk.2⟩), h3⟩)
      | (simp at hj)
  · subst hT
    intro o ho i hi
    simp only [List.length_cons, List.length_nil, Nat.zero_add, Nat.reduceAdd, List.getElem?_cons_succ, List.getElem?_cons_zero, Option.some.injEq] at ho hi
    subst ho
    revert i
    decide
  · intro Yx L K W i o hYx hJ ho hi' hia hno M hM
    have g1 := hJ.get 1 (v := .pointer (some ⟨B1, 0, none⟩)) rfl
    have heW := hJ.ext
    have he0W := he02.trans heW
    have hbW := hb1.ext heW
    have hzW := heW.size
    have at_ := hJ.at_
    clear hJ
    subst hT
    simp only [List.length_cons, List.length_nil, Nat.zero_add, Nat.reduceAdd] at hi'
    obtain rfl | rfl | rfl | rfl | rfl | rfl | rfl | rfl | rfl | rfl : i = 0 ∨ i = 1 ∨ i = 2 ∨ i = 3 ∨ i = 4 ∨ i = 5 ∨ i = 6 ∨ i = 7 ∨ i = 8 ∨ i = 9 := by omega
    all_goals (simp only [List.getElem?_cons_zero, List.getElem?_cons_succ, Option.some.injEq] at ho; subst ho)
    · repeat ((try subst X); (first | (first | apply zL | apply zH | apply zE); intro X hX | apply zh | apply zl | apply ze); try simp only [zU, reduceIte, Nat.reduceEqDiff, Nat.reduceAdd, reduceCtorEq, Q29])
      simp only [g1]
      repeat ((try subst X); (first | (first | apply zL | apply zH | apply zE); intro X hX | apply zh | apply zl | apply ze); try simp only [zU, reduceIte, Nat.reduceEqDiff, Nat.reduceAdd, reduceCtorEq, Q29])
      exact hM 6 _ _ _ rfl (Ext.refl _) rfl
    · obtain ⟨_, g, rfl⟩ := at_ 0 6 _ rfl (by decide) (hno 0 (by decide))
      repeat ((try subst X); (first | (first | apply zL | apply zH | apply zE); intro X hX | apply zh | apply zl | apply ze); try simp only [zU, reduceIte, Nat.reduceEqDiff, Nat.reduceAdd, reduceCtorEq, Q29])
      simp only [g]
      repeat ((try subst X); (first | (first | apply zL | apply zH | apply zE); intro X hX | apply zh | apply zl | apply ze); try simp only [zU, reduceIte, Nat.reduceEqDiff, Nat.reduceAdd, reduceCtorEq, Q29])
      refine ⟨[.slice At 0 ct, .slice Ai insts.length ci, .slice Ap procs.length cp, .slice Ad 0 cd], rfl, Blk.at_ (o := 0) hbW rfl, ?_⟩
      repeat ((try subst X); (first | (first | apply zL | apply zH | apply zE); intro X hX | apply zh | apply zl | apply ze); try simp only [zU, reduceIte, Nat.reduceEqDiff, Nat.reduceAdd, reduceCtorEq, Q29])
      exact hM 7 _ _ _ rfl (Ext.refl _) rfl
    · obtain ⟨_, g, rfl⟩ := at_ 1 7 _ rfl (by decide) (hno 1 (by decide))
      repeat ((try subst X); (first | (first | apply zL | apply zH | apply zE); intro X hX | apply zh | apply zl | apply ze); try simp only [zU, reduceIte, Nat.reduceEqDiff, Nat.reduceAdd, reduceCtorEq, Q29])
      simp only [g]
      repeat ((try subst X); (first | (first | apply zL | apply zH | apply zE); intro X hX | apply zh | apply zl | apply ze); try simp only [zU, reduceIte, Nat.reduceEqDiff, Nat.reduceAdd, reduceCtorEq, Q29])
      refine Inv.call Fx.en65 (cloneProg_ok insts procs W (fun k => S k ∧ k < B1) _ _ _ _ Rd.empty (hi.ext he0W) (hp.ext he0W) Rd.empty) ?_
      rintro v w3 ⟨he3, vt, vi, vp, vd, rfl, h1, h2, h3, h4⟩
      obtain ⟨_, _, rfl, -⟩ := h1.hd
      obtain ⟨_, _, rfl, -⟩ := h4.hd
      repeat ((try subst X); (first | (first | apply zL | apply zH | apply zE); intro X hX | apply zh | apply zl | apply ze); try simp only [zU, reduceIte, Nat.reduceEqDiff, Nat.reduceAdd, reduceCtorEq, Q29])
      have hXl : ∀ k, (S k ∧ k < B1) ∨ W.heap.size ≤ k → G k ∧ ¬ (Yx k ∧ B1 ≤ k) := fun k hk => ⟨(hG k).2 (by rcases hk with hk | hk; exact .inl hk; exact .inr (by omega)), fun e => by have h5 := hYx k e.1; have h6 := e.2; rcases hk with hk | hk; have := hk.2; omega; omega⟩
      exact hM 8 _ _ _ rfl he3 ⟨_, _, _, _, rfl, ⟨_, _, rfl⟩, h2.mono fun k hk _ => ⟨⟨(hXl k hk.1).1, hk.2⟩, (hXl k hk.1).2⟩, (h3.rebase (by omega)).mono fun k hk _ _ => hXl k hk, fun k hk e => by have := (h3.lt hk).1; have := hYx k e.1; omega, ⟨_, _, rfl⟩⟩
    · repeat ((try subst X); (first | (first | apply zL | apply zH | apply zE); intro X hX | apply zh | apply zl | apply ze); try simp only [zU, reduceIte, Nat.reduceEqDiff, Nat.reduceAdd, reduceCtorEq, Q29])
      simp only [g1]
      repeat ((try subst X); (first | (first | apply zL | apply zH | apply zE); intro X hX | apply zh | apply zl | apply ze); try simp only [zU, reduceIte, Nat.reduceEqDiff, Nat.reduceAdd, reduceCtorEq, Q29])
      exact hM 9 _ _ _ rfl (Ext.refl _) rfl
    · obtain ⟨_, g, rfl⟩ := at_ 3 9 _ rfl (by decide) (hno 3 (by decide))
      repeat ((try subst X); (first | (first | apply zL | apply zH | apply zE); intro X hX | apply zh | apply zl | apply ze); try simp only [zU, reduceIte, Nat.reduceEqDiff, Nat.reduceAdd, reduceCtorEq, Q29])
      simp only [g]
      repeat ((try subst X); (first | (first | apply zL | apply zH | apply zE); intro X hX | apply zh | apply zl | apply ze); try simp only [zU, reduceIte, Nat.reduceEqDiff, Nat.reduceAdd, reduceCtorEq, Q29])
      refine ⟨_, hbW.cell rfl, ?_⟩
      repeat ((try subst X); (first | (first | apply zL | apply zH | apply zE); intro X hX | apply zh | apply zl | apply ze); try simp only [zU, reduceIte, Nat.reduceEqDiff, Nat.reduceAdd, reduceCtorEq, Q29])
      exact hM 10 _ _ _ rfl (Ext.refl _) rfl
    · obtain ⟨_, g, rfl⟩ := at_ 4 10 _ rfl (by decide) (hno 4 (by decide))
      repeat ((try subst X); (first | (first | apply zL | apply zH | apply zE); intro X hX | apply zh | apply zl | apply ze); try simp only [zU, reduceIte, Nat.reduceEqDiff, Nat.reduceAdd, reduceCtorEq, Q29])
      simp only [g]
      repeat ((try subst X); (first | (first | apply zL | apply zH | apply zE); intro X hX | apply zh | apply zl | apply ze); try simp only [zU, reduceIte, Nat.reduceEqDiff, Nat.reduceAdd, reduceCtorEq, Q29])
      refine Inv.call Fx.en66 (clone66 W S _ [] Rd.empty (by intro r hr; cases hr)) ?_
      rintro v w3 ⟨he3, hv⟩
      obtain ⟨A, c, rfl, -⟩ := hv.len
      repeat ((try subst X); (first | (first | apply zL | apply zH | apply zE); intro X hX | apply zh | apply zl | apply ze); try simp only [zU, reduceIte, Nat.reduceEqDiff, Nat.reduceAdd, reduceCtorEq, Q29])
      exact hM 11 _ _ _ rfl he3 ⟨_, _, rfl⟩
    · repeat ((try subst X); (first | (first | apply zL | apply zH | apply zE); intro X hX | apply zh | apply zl | apply ze); try simp only [zU, reduceIte, Nat.reduceEqDiff, Nat.reduceAdd, reduceCtorEq, Q29])
      simp only [g1]
      repeat ((try subst X); (first | (first | apply zL | apply zH | apply zE); intro X hX | apply zh | apply zl | apply ze); try simp only [zU, reduceIte, Nat.reduceEqDiff, Nat.reduceAdd, reduceCtorEq, Q29])
      exact hM 12 _ _ _ rfl (Ext.refl _) rfl
    · obtain ⟨_, g, rfl⟩ := at_ 6 12 _ rfl (by decide) (hno 6 (by decide))
      repeat ((try subst X); (first | (first | apply zL | apply zH | apply zE); intro X hX | apply zh | apply zl | apply ze); try simp only [zU, reduceIte, Nat.reduceEqDiff, Nat.reduceAdd, reduceCtorEq, Q29])
      simp only [g]
      repeat ((try subst X); (first | (first | apply zL | apply zH | apply zE); intro X hX | apply zh | apply zl | apply ze); try simp only [zU, reduceIte, Nat.reduceEqDiff, Nat.reduceAdd, reduceCtorEq, Q29])
      refine ⟨_, hbW.cell rfl, ?_⟩
      repeat ((try subst X); (first | (first | apply zL | apply zH | apply zE); intro X hX | apply zh | apply zl | apply ze); try simp only [zU, reduceIte, Nat.reduceEqDiff, Nat.reduceAdd, reduceCtorEq, Q29])
      exact hM 13 _ _ _ rfl (Ext.refl _) rfl
    · obtain ⟨_, g, rfl⟩ := at_ 7 13 _ rfl (by decide) (hno 7 (by decide))
      repeat ((try subst X); (first | (first | apply zL | apply zH | apply zE); intro X hX | apply zh | apply zl | apply ze); try simp only [zU, reduceIte, Nat.reduceEqDiff, Nat.reduceAdd, reduceCtorEq, Q29])
      simp only [g]
      repeat ((try subst X); (first | (first | apply zL | apply zH | apply zE); intro X hX | apply zh | apply zl | apply ze); try simp only [zU, reduceIte, Nat.reduceEqDiff, Nat.reduceAdd, reduceCtorEq, Q29])
      refine Inv.call Fx.en67 (clone67 W S _ [] Rd.empty (by intro r hr; cases hr)) ?_
      rintro v w3 ⟨he3, hv⟩
      obtain ⟨A, c, rfl, -⟩ := hv.len
      repeat ((try subst X); (first | (first | apply zL | apply zH | apply zE); intro X hX | apply zh | apply zl | apply ze); try simp only [zU, reduceIte, Nat.reduceEqDiff, Nat.reduceAdd, reduceCtorEq, Q29])
      exact hM 14 _ _ _ rfl he3 ⟨_, _, rfl⟩
    · obtain ⟨_, q2, vt, vi, vp, vd, rfl, h2⟩ := at_ 2 8 _ rfl (by decide) (hno 2 (by decide))
      obtain ⟨_, q5, A5, c5, rfl⟩ := at_ 5 11 _ rfl (by decide) (hno 5 (by decide))
      obtain ⟨_, q8, A8, c8, rfl⟩ := at_ 8 14 _ rfl (by decide) (hno 8 (by decide))
      repeat ((try subst X); (first | (first | apply zL | apply zH | apply zE); intro X hX | apply zh | apply zl | apply ze); try simp only [zU, reduceIte, Nat.reduceEqDiff, Nat.reduceAdd, reduceCtorEq, Q29])
      simp only [q2, q5, q8]
      repeat ((try subst X); (first | (first | apply zL | apply zH | apply zE); intro X hX | apply zh | apply zl | apply ze); try simp only [zU, reduceIte, Nat.reduceEqDiff, Nat.reduceAdd, reduceCtorEq, Q29])
      refine Runs.build (parts := [(0, _), (2, _), (1, _)]) st31 rfl ?_
      repeat ((try subst X); (first | (first | apply zL | apply zH | apply zE); intro X hX | apply zh | apply zl | apply ze); try simp only [zU, reduceIte, Nat.reduceEqDiff, Nat.reduceAdd, reduceCtorEq, Q29])
      exact hM 15 _ _ _ rfl (Ext.refl _) ⟨_, _, _, _, _, _, rfl, h2, ⟨_, _, rfl⟩, ⟨_, _, rfl⟩⟩
  · intro B3 K w7 o hJ g3 hb3 hB3 ho M0 hM0
    have he27 := hJ.ext
    subst hT
    simp only [List.length_cons, List.length_nil, Nat.zero_add, Nat.reduceAdd, List.getElem?_cons_succ, List.getElem?_cons_zero, Option.some.injEq] at ho
    subst ho
    have g1 := hJ.get 1 (v := .pointer (some ⟨B1, 0, none⟩)) rfl
    have g2 := hJ.get 2 (v := .pointer (some ⟨B2, 0, none⟩)) rfl
    obtain ⟨_, q9, vt, vi, vp, vd, vf, va, rfl, hP, ⟨Af', cf', rfl⟩, Aa', ca', rfl⟩ := hJ.at_ 9 15 _ rfl (by decide) rfl
    clear hJ
    repeat ((try subst X); (first | (first | apply zL | apply zH | apply zE); intro X hX | apply zh | apply zl | apply ze); try simp only [zU, reduceIte, Nat.reduceEqDiff, Nat.reduceAdd, reduceCtorEq, Q29])
    simp only [g3, q9]
    repeat ((try subst X); (first | (first | apply zL | apply zH | apply zE); intro X hX | apply zh | apply zl | apply ze); try simp only [zU, reduceIte, Nat.reduceEqDiff, Nat.reduceAdd, reduceCtorEq, Q29])
    simp only [Value.cells] at hb3
    have hPc : ∃ G0 : Nat → Prop, True := ⟨G, trivial⟩
    obtain ⟨⟨Avt, cvt, rfl⟩, hvi, hvp, hvpX, Avd, cvd, rfl⟩ := hP
    obtain ⟨Avi, cvi, rfl, -⟩ := hvi.hd
    obtain ⟨Avp, cvp, rfl, -⟩ := hvp.len
    simp only [List.length_map] at hvi hvp hvpX
    refine Runs.store hb3 Fx.zi31 rfl (by simp [Value.cells, Value.oneCell']) (by simp) (fun w8 hc8 hs8 hb8 => ?_)
    simp only [splice, Value.cells, List.length_cons, List.length_nil, Nat.reduceAdd, Nat.zero_add, List.take_zero, List.drop_succ_cons, List.drop_zero, List.append_nil, List.nil_append, List.drop_nil, List.length_map] at hb8
    repeat ((try subst X); (first | (first | apply zL | apply zH | apply zE); intro X hX | apply zh | apply zl | apply ze); try simp only [zU, reduceIte, Nat.reduceEqDiff, Nat.reduceAdd, reduceCtorEq, Q29])
    refine hM0 _ _ ?_
    simp only [thenN]
    refine hM _ _ _ (ok_less [(2, .pointer (some ⟨B2, 0, none⟩)), (3, .pointer (some ⟨B3, 0, none⟩))] ⟨g2, g3, trivial⟩ ?_)
    clear hM M hM0 M0 g1 g2 g3 q9
    have he28 : Ext w2 w8 := he27.chg_trans hc8 (by omega)
    have he08 := he02.trans he28
    have hz8 := he28.size
    have hB3l : B3 < w8.heap.size := Nat.lt_of_lt_of_le hb3.lt hc8.size
    replace hb2 := hb2.ext he28
    obtain ⟨vp, hvpE⟩ : ∃ vp, vp = Value.slice Avp procs.length cvp := ⟨_, rfl⟩
    rw [← hvpE] at hvp hvpX hvi hb8
    replace hvi := (hvi.chg hc8 (fun k hk _ e => hk.2 ⟨e, by omega⟩)).mono (S' := fun k => G k ∧ vp.ownBlock ≠ some k) (fun k hk _ => hk.1)
    replace hvp := (hvp.chg hc8 (fun k hk e => hvpX k hk ⟨e, by omega⟩) (fun k hk _ e => hk.2 ⟨e, by omega⟩)).mono (S' := G) (fun k hk _ _ => hk.1)
    clear hc8 hs8 hb3 hvpX
    refine ok_join [(2, .pointer (some ⟨B2, 0, none⟩)), (3, .pointer (some ⟨B3, 0, none⟩))] (fun W => w8 = W) ?_ ?_
    · refine ok_seq (fun M hM => ok_region rfl ?_)
      repeat ((try subst X); (first | (first | apply zL | apply zH | apply zE); intro X hX | apply zh | apply zl | apply ze); try simp only [zU, reduceIte, Nat.reduceEqDiff, Nat.reduceAdd, reduceCtorEq, Q29])
      refine ⟨_, Blk.cell hb8 rfl, ?_⟩
      repeat ((try subst X); (first | (first | apply zL | apply zH | apply zE); intro X hX | apply zh | apply zl | apply ze); try simp only [zU, reduceIte, Nat.reduceEqDiff, Nat.reduceAdd, reduceCtorEq, Q29])
      refine hM _ _ _ ?_; clear hM M
      refine ok_for (n := 0) [(2, .pointer (some ⟨B2, 0, none⟩)), (3, .pointer (some ⟨B3, 0, none⟩))] (fun i W => w8 = W) rfl (by simp [sub, Env.get]) rfl (by simp [sub, Env.get]) (by decide) rfl (fun i W hi => absurd hi (Nat.not_lt_zero _)) ?_
      rintro W rfl
      exact ⟨rfl, by simp [sub, Env.get], rfl⟩
    rintro _ rfl
    refine ok_seq (fun M hM => ok_region rfl ?_)
    repeat ((try subst X); (first | (first | apply zL | apply zH | apply zE); intro X hX | apply zh | apply zl | apply ze); try simp only [zU, reduceIte, Nat.reduceEqDiff, Nat.reduceAdd, reduceCtorEq, Q29])
    refine ⟨_, rfl, hb8.all, ?_⟩
    repeat ((try subst X); (first | (first | apply zL | apply zH | apply zE); intro X hX | apply zh | apply zl | apply ze); try simp only [zU, reduceIte, Nat.reduceEqDiff, Nat.reduceAdd, reduceCtorEq, Q29])
    refine Runs.store hb2 Fx.zi31 rfl (by rw [hvpE]; simp [Value.cells, Value.oneCell']) (by simp) (fun w9 hc9 hs9 hb9 => ?_)
    simp only [splice, Value.cells, List.length_cons, List.length_nil, Nat.reduceAdd, Nat.zero_add, List.take_zero, List.drop_succ_cons, List.drop_zero, List.append_nil, List.nil_append, List.drop_nil] at hb9
    repeat ((try subst X); (first | (first | apply zL | apply zH | apply zE); intro X hX | apply zh | apply zl | apply ze); try simp only [zU, reduceIte, Nat.reduceEqDiff, Nat.reduceAdd, reduceCtorEq, Q29])
    refine hM _ _ _ ?_; clear hM M
    refine ok_ret ?_
    try simp only [zW, zU, reduceIte, Nat.reduceEqDiff, Nat.reduceAdd, reduceCtorEq, Q29]
    have hGB : ∀ k, G k → k ≠ B2 := fun k hk e => by rcases (hG k).1 hk with h | h; have := h.2; omega; omega
    have hGS : ∀ k, G k → S k ∨ B1 ≤ k := fun k hk => by rcases (hG k).1 hk with h | h; exact .inl h.1; exact .inr (by omega)
    exact ⟨_, rfl, hb9.all, he08.chg_trans hc9 (by omega), _, _, _, _, _, _, rfl, ⟨_, _, rfl⟩, ⟨_, _, rfl⟩, ⟨_, _, rfl⟩, (hvi.chg hc9 (fun k hk _ e => hGB k hk.1 e)).mono fun k hk _ => ⟨⟨hGS k hk.1, hk.2⟩, fun h => h⟩, ((hvp.chg hc9 (fun k hk e => by have := (hvp.lt hk).1; omega) (fun k hk _ e => hGB k hk e)).rebase (by omega)).mono fun k hk _ _ => ⟨hGS k hk, fun h => h⟩, fun _ _ h => h, _, _, rfl⟩
end Go.Proofs.YtcpjojaklpgnkaaGreat
