/- Part 7 of 14: G9, G10. -/
import Derived.Test.YtafjfcameabbmaaM6
import Derived.Test.YtafjfcameabbmaaM3
/- The builder: take.  -/
set_option linter.unusedVariables false
set_option linter.unusedSimpArgs false
namespace Go.Proofs.Vg
open Go Go.RowKit
theorem BM.sdis {w : World} {bb : Nat} {S : Nat → Prop} {vn vb : Value} {vks : List Value} {rows : List (List Value)} {nds : List Nd} {busy : List Int} (h : BM w bb S vn vb vks rows nds busy) (k : Nat) (hk : S k) : ¬ BFoot bb vn vb vks k := by
  rintro (rfl | h1 | h1 | ⟨i, v, h1, h2⟩)
  · exact h.hs hk
  · exact (h.bs k h1).1 hk
  · exact (h.nm.top k h1).1 hk
  · exact h.nm.sk i v k h1 h2 hk
theorem busy_turn {nds : List Nd} {busy : List Int} (h : BusyOk nds busy) {i : Nat} {d d' : Nd} (hd : nds[i]? = some d) (hp : d'.parent = d.parent) (hs : d'.state = d.state) : BusyOk (nds.set i d') busy := by
  intro j hj
  rw [List.length_set] at hj
  have hc := countP_turn nds i d d' hd (inKid ((j : Int) + 1))
  have he : inKid ((j : Int) + 1) d' = inKid ((j : Int) + 1) d := by simp only [inKid, hp, hs]
  rw [he] at hc
  rw [h j hj]
  congr 2
  omega
end Go.Proofs.Vg
namespace Go.Proofs.Ytafjfcameabbmaa
open Go Go.Proofs.Vg Go.RowKit

-- -- function 57
set_option maxHeartbeats 4000000 in
set_option maxRecDepth 8000 in
theorem take_ok (w : World) (bb : Nat) (S : Nat → Prop) (vn vb : Value) (vks : List Value) (rows : List (List Value)) (nds : List Nd) (busy : List Int) (h : BM w bb S vn vb vks rows nds busy) (m : Nat) (hm : m ≤ 1000) (hw : WF m nds) (hbz : BusyOk nds busy) (hS : ∀ k, S k → k < w.heap.size) (hF : ∀ k, BFoot bb vn vb vks k → k < w.heap.size) (r : List Value) (e : Ev) (he : EvRow w S r e) :
    Rets Try.prog 57 [.pointer (some ⟨bb, 0, none⟩), .agg r.toArray] w (fun v w' => v = .bool (fitsR nds e) ∧ (fitsR nds e = false → Ext w w') ∧ (fitsR nds e = true → ∃ vn' vb' vks' rows' busy', BM w' bb S vn' vb' vks' rows' (stepN nds e) busy' ∧ BusyOk (stepN nds e) busy' ∧ Chg (BFoot bb vn vb vks) w w' ∧ ∀ k, BFoot bb vn' vb' vks' k → BFoot bb vn vb vks k ∨ (w.heap.size ≤ k ∧ k < w'.heap.size))) := by
  obtain ⟨ve, rfl, hve⟩ := he
  obtain ⟨Ae, ce, hves⟩ : ∃ Ae ce, ve = .slice Ae e.args.length ce := by
    obtain ⟨-, -, rows0, ⟨Ae, ce, h1, -⟩, h2⟩ := id hve
    exact ⟨Ae, ce, by rw [h1, (VRowsS.rows _ _ h2).length]⟩
  subst hves
  have hn := hw.n
  have hkl : ∀ d ∈ nds, d.kids.length ≤ 1000 := fun d hd => by
    obtain ⟨i, hi⟩ := List.mem_iff_getElem?.1 hd
    have := (hw.kids i d hi).1; omega
  have hbd := busy_bound hbz h.lb (by omega)
  refine rets_of_ok Try.func57 rfl rfl ?_
  refine ok_seq (fun M hM => ok_region rfl ?_)
  repeat ((try first | (refine z3 hX ?_; clear hX X) | (refine z2 hX ?_; clear hX X)); (first | refine zL fun X hX => ?_ | refine zH fun X hX => ?_ | refine zE fun X hX => ?_ | refine zl ?_ | refine zh ?_ | refine ze ?_); try simp only [oweC, oweP, opF, opH, ev, evs, evp, evo, Env.get, Env.set, putE, gdst, S0, S1, thenN, inBlockN, argEnv, builtinR, retE, fin, callR, reduceIte, Nat.reduceEqDiff, Nat.reduceAdd, reduceCtorEq, forall_const, Q57])
  refine Runs.box (fun w1 he1 hz1 hb1 => ?_)
  generalize hB1 : w.heap.size = B1 at hz1 hb1
  simp only [Value.cells] at hb1
  repeat ((try first | (refine z3 hX ?_; clear hX X) | (refine z2 hX ?_; clear hX X)); (first | refine zL fun X hX => ?_ | refine zH fun X hX => ?_ | refine zE fun X hX => ?_ | refine zl ?_ | refine zh ?_ | refine ze ?_); try simp only [oweC, oweP, opF, opH, ev, evs, evp, evo, Env.get, Env.set, putE, gdst, S0, S1, thenN, inBlockN, argEnv, builtinR, retE, fin, callR, reduceIte, Nat.reduceEqDiff, Nat.reduceAdd, reduceCtorEq, forall_const, Q57])
  refine hM _ _ _ ?_; clear hM M
  have h1 := h.ext he1
  have hs1 := he1.size
  have hS1 : ∀ k, S k → k < w1.heap.size := fun k hk => by have := hS k hk; omega
  have hF1 : ∀ k, BFoot bb vn vb vks k → k < w1.heap.size := fun k hk => by have := hF k hk; omega
  have hve1 : VSlS w1 S (.slice Ae e.args.length ce) e.args := hve.chg (he1.chg (fun _ => False)) (fun k hk => ⟨hk, id⟩)
  refine ok_join [(0, .pointer (some ⟨bb, 0, none⟩)), (3, .pointer (some ⟨B1, 0, none⟩))] (fun w' => w' = w1 ∧ e.port ≠ 0) ?_ ?_
  · refine ok_seq (fun M hM => ok_region rfl ?_)
    repeat ((try first | (refine z3 hX ?_; clear hX X) | (refine z2 hX ?_; clear hX X)); (first | refine zL fun X hX => ?_ | refine zH fun X hX => ?_ | refine zE fun X hX => ?_ | refine zl ?_ | refine zh ?_ | refine ze ?_); try simp only [oweC, oweP, opF, opH, ev, evs, evp, evo, Env.get, Env.set, putE, gdst, S0, S1, thenN, inBlockN, argEnv, builtinR, retE, fin, callR, reduceIte, Nat.reduceEqDiff, Nat.reduceAdd, reduceCtorEq, forall_const, Q57])
    refine ⟨_, hb1.cell (j := 0) rfl, ?_⟩
    repeat ((try first | (refine z3 hX ?_; clear hX X) | (refine z2 hX ?_; clear hX X)); (first | refine zL fun X hX => ?_ | refine zH fun X hX => ?_ | refine zE fun X hX => ?_ | refine zl ?_ | refine zh ?_ | refine ze ?_); try simp only [oweC, oweP, opF, opH, ev, evs, evp, evo, Env.get, Env.set, putE, gdst, S0, S1, thenN, inBlockN, argEnv, builtinR, retE, fin, callR, reduceIte, Nat.reduceEqDiff, Nat.reduceAdd, reduceCtorEq, forall_const, Q57])
    refine hM _ _ _ ?_; clear hM M
    refine ok_if rfl (fun hport => ?_) (fun hport => ok_skip ?_)
    rotate_left
    · try simp only [wpL, wpH, wpE, oweC, oweP, opF, opH, ev, evs, evp, evo, Env.get, Env.set, putE, gdst, S0, S1, thenN, inBlockN, argEnv, builtinR, retE, fin, callR, reduceIte, Nat.reduceEqDiff, Nat.reduceAdd, reduceCtorEq, forall_const, Q57]
      exact ⟨by simp [sub, Env.get], by simpa using hport⟩
    have hport0 : e.port = 0 := by simpa using hport
    have hfR : fitsR nds e = fitsC nds e := by unfold fitsR; rw [if_pos hport0]
    rw [hfR]
    refine ok_join [(0, .pointer (some ⟨bb, 0, none⟩)), (3, .pointer (some ⟨B1, 0, none⟩))] (fun w' => fitsC nds e = true ∧ ∃ vn' vb' vks' rows', BM w' bb S vn' vb' vks' rows' (begN nds e) (busy ++ [0]) ∧ Chg (BFoot bb vn vb vks) w1 w' ∧ ∀ k, BFoot bb vn' vb' vks' k → BFoot bb vn vb vks k ∨ (w1.heap.size ≤ k ∧ k < w'.heap.size)) ?_ ?_
    · refine ok_seq (fun M hM => ok_region rfl ?_)
      repeat ((try first | (refine z3 hX ?_; clear hX X) | (refine z2 hX ?_; clear hX X)); (first | refine zL fun X hX => ?_ | refine zH fun X hX => ?_ | refine zE fun X hX => ?_ | refine zl ?_ | refine zh ?_ | refine ze ?_); try simp only [oweC, oweP, opF, opH, ev, evs, evp, evo, Env.get, Env.set, putE, gdst, S0, S1, thenN, inBlockN, argEnv, builtinR, retE, fin, callR, reduceIte, Nat.reduceEqDiff, Nat.reduceAdd, reduceCtorEq, forall_const, Q57])
      refine ⟨[.int .i64 e.port, .int .i64 e.call, .int .i64 e.parent, .int .i64 e.proc, .int .i64 e.at_, .slice Ae e.args.length ce], rfl, hb1.cells (o := 0) (fun j u hj => by simpa using hj), ?_⟩
      repeat ((try first | (refine z3 hX ?_; clear hX X) | (refine z2 hX ?_; clear hX X)); (first | refine zL fun X hX => ?_ | refine zH fun X hX => ?_ | refine zE fun X hX => ?_ | refine zl ?_ | refine zh ?_ | refine ze ?_); try simp only [oweC, oweP, opF, opH, ev, evs, evp, evo, Env.get, Env.set, putE, gdst, S0, S1, thenN, inBlockN, argEnv, builtinR, retE, fin, callR, reduceIte, Nat.reduceEqDiff, Nat.reduceAdd, reduceCtorEq, forall_const, Q57])
      refine Inv.call Fx.en63 (tbegin_ok w1 bb S vn vb vks rows nds busy h1 (by omega) hkl hS1 hF1 _ e ⟨_, rfl, hve1⟩) ?_
      rintro v w2 ⟨rfl, hff, hft⟩
      repeat ((try first | (refine z3 hX ?_; clear hX X) | (refine z2 hX ?_; clear hX X)); (first | refine zL fun X hX => ?_ | refine zH fun X hX => ?_ | refine zE fun X hX => ?_ | refine zl ?_ | refine zh ?_ | refine ze ?_); try simp only [oweC, oweP, opF, opH, ev, evs, evp, evo, Env.get, Env.set, putE, gdst, S0, S1, thenN, inBlockN, argEnv, builtinR, retE, fin, callR, reduceIte, Nat.reduceEqDiff, Nat.reduceAdd, reduceCtorEq, forall_const, Q57])
      refine hM _ _ _ ?_; clear hM M
      cases hf : fitsC nds e with
      | false =>
        refine ok_cond (b := true) rfl (fun _ => ?_) (fun h => by cases h)
        refine ok_seq (fun M hM => ok_region rfl ?_); repeat ((try first | (refine z3 hX ?_; clear hX X) | (refine z2 hX ?_; clear hX X)); (first | refine zL fun X hX => ?_ | refine zH fun X hX => ?_ | refine zE fun X hX => ?_ | refine zl ?_ | refine zh ?_ | refine ze ?_); try simp only [oweC, oweP, opF, opH, ev, evs, evp, evo, Env.get, Env.set, putE, gdst, S0, S1, thenN, inBlockN, argEnv, builtinR, retE, fin, callR, reduceIte, Nat.reduceEqDiff, Nat.reduceAdd, reduceCtorEq, forall_const, Q57])
        refine hM _ _ _ ?_; clear hM M
        refine ok_ret ?_
        try simp only [wpL, wpH, wpE, oweC, oweP, opF, opH, ev, evs, evp, evo, Env.get, Env.set, putE, gdst, S0, S1, thenN, inBlockN, argEnv, builtinR, retE, fin, callR, reduceIte, Nat.reduceEqDiff, Nat.reduceAdd, reduceCtorEq, forall_const, Q57]
        exact he1.trans (hff hf)
      | true =>
        refine ok_cond (b := false) rfl (fun h => by cases h) (fun _ => ok_skip ?_)
        try simp only [wpL, wpH, wpE, oweC, oweP, opF, opH, ev, evs, evp, evo, Env.get, Env.set, putE, gdst, S0, S1, thenN, inBlockN, argEnv, builtinR, retE, fin, callR, reduceIte, Nat.reduceEqDiff, Nat.reduceAdd, reduceCtorEq, forall_const, Q57]
        exact ⟨by simp [sub, Env.get], hft hf⟩
    rintro w2 ⟨hfit, vn2, vb2, vks2, rows2, hB2, hc12, hF2⟩
    rw [hfit]
    have hcall := fitsC_call hfit
    obtain ⟨hpar0, hpar1⟩ := fitsC_par hfit
    have hBl : B1 < w1.heap.size := by omega
    have hnF1 : ¬ BFoot bb vn vb vks B1 := fun hh => by have := hF B1 hh; omega
    have hb12 := hb1.chg hc12 hnF1
    have hd2 := begN_new (nds := nds) (e := e) hpar1
    have hlen2 := begN_len nds e
    have hbz2 := busy_beg hbz hw h.lb hpar1
    have hbd2 := busy_bound hbz2 (by simp [hlen2, h.lb]) (by omega)
    have hs12 := hc12.size
    refine ok_seq (fun M hM => ok_region rfl ?_)
    repeat ((try first | (refine z3 hX ?_; clear hX X) | (refine z2 hX ?_; clear hX X)); (first | refine zL fun X hX => ?_ | refine zH fun X hX => ?_ | refine zE fun X hX => ?_ | refine zl ?_ | refine zh ?_ | refine ze ?_); try simp only [oweC, oweP, opF, opH, ev, evs, evp, evo, Env.get, Env.set, putE, gdst, S0, S1, thenN, inBlockN, argEnv, builtinR, retE, fin, callR, reduceIte, Nat.reduceEqDiff, Nat.reduceAdd, reduceCtorEq, forall_const, Q57])
    refine ⟨_, hb12.cell (j := 1) rfl, ?_⟩
    repeat ((try first | (refine z3 hX ?_; clear hX X) | (refine z2 hX ?_; clear hX X)); (first | refine zL fun X hX => ?_ | refine zH fun X hX => ?_ | refine zE fun X hX => ?_ | refine zl ?_ | refine zh ?_ | refine ze ?_); try simp only [oweC, oweP, opF, opH, ev, evs, evp, evo, Env.get, Env.set, putE, gdst, S0, S1, thenN, inBlockN, argEnv, builtinR, retE, fin, callR, reduceIte, Nat.reduceEqDiff, Nat.reduceAdd, reduceCtorEq, forall_const, Q57])
    rw [hcall]
    refine Inv.call Fx.en64 (enter_ok w2 bb S vn2 vb2 vks2 rows2 _ _ hB2 (by omega) nds.length (newN e) hd2 (by simp only [newN]; omega) hbd2 1) ?_
    rintro v w5 ⟨rows5, hB5, hc25⟩
    repeat ((try first | (refine z3 hX ?_; clear hX X) | (refine z2 hX ?_; clear hX X)); (first | refine zL fun X hX => ?_ | refine zH fun X hX => ?_ | refine zE fun X hX => ?_ | refine zl ?_ | refine zh ?_ | refine ze ?_); try simp only [oweC, oweP, opF, opH, ev, evs, evp, evo, Env.get, Env.set, putE, gdst, S0, S1, thenN, inBlockN, argEnv, builtinR, retE, fin, callR, reduceIte, Nat.reduceEqDiff, Nat.reduceAdd, reduceCtorEq, forall_const, Q57])
    refine hM _ _ _ ?_; clear hM M
    have hbz5 := busy_enter hbz2 (by simp [hlen2, h.lb]) hd2 (by simp only [newN]; omega) (by simp only [newN]; omega) 1
    have hnF2 : ¬ BFoot bb vn2 vb2 vks2 B1 := fun hh => by
      rcases hF2 B1 hh with h | h
      · exact hnF1 h
      · omega
    have hbE5 := hb12.chg hc25 hnF2
    have hc15 : Chg (BFoot bb vn vb vks) w1 w5 := hc12.thn hc25 (fun k hk => by rcases hF2 k hk with h | h; exact .inl h; exact .inr h.1)
    have hs25 := hc25.size
    obtain ⟨i, hi⟩ : ∃ i, i = nds.length := ⟨_, rfl⟩
    rw [← hi] at hB5 hbz5
    have hci : e.call = (i : Int) + 1 := by omega
    obtain ⟨d5, hd5e⟩ : ∃ d5, d5 = ({ newN e with state := 1 } : Nd) := ⟨_, rfl⟩
    rw [← hd5e] at hB5 hbz5
    have hd5 : ((begN nds e).set i d5)[i]? = some d5 := List.getElem?_set_self (by omega)
    obtain ⟨p, hpp⟩ : ∃ p : Nat, e.port = (p : Int) := ⟨0, by omega⟩
    have hp5 : p < 5 := by omega
    have h55 : d5.ports.length = 5 := by rw [hd5e]; rfl
    obtain ⟨x, hxe⟩ : ∃ x : Int, x = 0 := ⟨_, rfl⟩
    have hx : d5.ports[p]? = some x := by rw [hd5e, hxe, show p = 0 by omega]; rfl
    have hxb : 0 ≤ x ∧ x ≤ 1000 := by omega
    have hn5 : ((begN nds e).set i d5).length ≤ 1048576 := by rw [List.length_set]; omega
    have hvn5 : ∃ A c, vn2 = .slice A ((begN nds e).set i d5).length c := hB5.nm.len
    obtain ⟨vn5, hvn5e⟩ : ∃ v, v = vn2 := ⟨_, rfl⟩
    obtain ⟨vb5, hvb5e⟩ : ∃ v, v = vb2 := ⟨_, rfl⟩
    obtain ⟨vks5, hvks5e⟩ : ∃ v, v = vks2 := ⟨_, rfl⟩
    rw [← hvn5e, ← hvb5e, ← hvks5e] at hB5 hF2
    obtain ⟨gP, capP, curP, hvP, hgFP, hbP, hleP, hputP⟩ := hB5.turnG hd5 (d' := { d5 with ports := d5.ports.set p (x + 1) }) (off := 3 + p) (u := .int .i64 (x + 1)) id id (by omega) (fun va vl vk => row_set_port h55 hp5 (x + 1) va vl vk) (fun _ h => h) (fun _ h => h) rfl (by simpa using h55)
    obtain ⟨gP', capP', vaP, vlP, vkP, hvP', -, -, hcellP, -⟩ := hB5.nm.at_ (by omega) hd5
    rw [hvP] at hvP'
    cases hvP'
    have hxcell := hcellP (3 + p) _ (row_port hx vaP vlP vkP)
    have hi5 := (List.getElem?_eq_some_iff.1 hd5).1
    have hci1 : (e.call - 1).toNat = i := by omega
    have hpt : e.port.toNat = p := by omega
    refine ok_seq (fun M hM => (ok_draw 17 [(false, true)] (Ext _) Fx.mixed (by decide) rfl (by decide +kernel) (by decide +kernel) (Ext.drew _) ?_))
    repeat ((try first | (refine z3 hX ?_; clear hX X) | (refine z2 hX ?_; clear hX X)); (first | refine zL fun X hX => ?_ | refine zH fun X hX => ?_ | refine zE fun X hX => ?_ | refine zl ?_ | refine zh ?_ | refine ze ?_); try simp only [oweC, oweP, opF, opH, ev, evs, evp, evo, Env.get, Env.set, putE, gdst, S0, S1, thenN, inBlockN, argEnv, builtinR, retE, fin, callR, reduceIte, Nat.reduceEqDiff, Nat.reduceAdd, reduceCtorEq, forall_const, Q57])
    refine ⟨_, fun w' hw => (hB5.head.ext hw).cell (j := 0) rfl, ?_⟩
    rw [hvP]
    repeat ((try first | (refine z3 hX ?_; clear hX X) | (refine z2 hX ?_; clear hX X)); (first | refine zL fun X hX => ?_ | refine zH fun X hX => ?_ | refine zE fun X hX => ?_ | refine zl ?_ | refine zh ?_ | refine ze ?_); try simp only [oweC, oweP, opF, opH, ev, evs, evp, evo, Env.get, Env.set, putE, gdst, S0, S1, thenN, inBlockN, argEnv, builtinR, retE, fin, callR, reduceIte, Nat.reduceEqDiff, Nat.reduceAdd, reduceCtorEq, forall_const, Q57])
    refine ⟨_, fun w' hw => (hbE5.ext hw).cell (j := 1) rfl, ?_⟩
    repeat ((try first | (refine z3 hX ?_; clear hX X) | (refine z2 hX ?_; clear hX X)); (first | refine zL fun X hX => ?_ | refine zH fun X hX => ?_ | refine zE fun X hX => ?_ | refine zl ?_ | refine zh ?_ | refine ze ?_); try simp only [oweC, oweP, opF, opH, ev, evs, evp, evo, Env.get, Env.set, putE, gdst, S0, S1, thenN, inBlockN, argEnv, builtinR, retE, fin, callR, reduceIte, Nat.reduceEqDiff, Nat.reduceAdd, reduceCtorEq, forall_const, Q57])
    refine ⟨by simp only [inI]; omega, ?_⟩
    repeat ((try first | (refine z3 hX ?_; clear hX X) | (refine z2 hX ?_; clear hX X)); (first | refine zL fun X hX => ?_ | refine zH fun X hX => ?_ | refine zE fun X hX => ?_ | refine zl ?_ | refine zh ?_ | refine ze ?_); try simp only [oweC, oweP, opF, opH, ev, evs, evp, evo, Env.get, Env.set, putE, gdst, S0, S1, thenN, inBlockN, argEnv, builtinR, retE, fin, callR, reduceIte, Nat.reduceEqDiff, Nat.reduceAdd, reduceCtorEq, forall_const, Q57])
    refine ⟨_, fun w' hw => (hbE5.ext hw).cell (j := 0) rfl, ?_⟩
    repeat ((try first | (refine z3 hX ?_; clear hX X) | (refine z2 hX ?_; clear hX X)); (first | refine zL fun X hX => ?_ | refine zH fun X hX => ?_ | refine zE fun X hX => ?_ | refine zl ?_ | refine zh ?_ | refine ze ?_); try simp only [oweC, oweP, opF, opH, ev, evs, evp, evo, Env.get, Env.set, putE, gdst, S0, S1, thenN, inBlockN, argEnv, builtinR, retE, fin, callR, reduceIte, Nat.reduceEqDiff, Nat.reduceAdd, reduceCtorEq, forall_const, Q57])
    refine ⟨by omega, by omega, ?_⟩
    rw [hci1]
    repeat ((try first | (refine z3 hX ?_; clear hX X) | (refine z2 hX ?_; clear hX X)); (first | refine zL fun X hX => ?_ | refine zH fun X hX => ?_ | refine zE fun X hX => ?_ | refine zl ?_ | refine zh ?_ | refine ze ?_); try simp only [oweC, oweP, opF, opH, ev, evs, evp, evo, Env.get, Env.set, putE, gdst, S0, S1, thenN, inBlockN, argEnv, builtinR, retE, fin, callR, reduceIte, Nat.reduceEqDiff, Nat.reduceAdd, reduceCtorEq, forall_const, Q57])
    refine ⟨by omega, by omega, ?_⟩
    rw [hpt]
    repeat ((try first | (refine z3 hX ?_; clear hX X) | (refine z2 hX ?_; clear hX X)); (first | refine zL fun X hX => ?_ | refine zH fun X hX => ?_ | refine zE fun X hX => ?_ | refine zl ?_ | refine zh ?_ | refine ze ?_); try simp only [oweC, oweP, opF, opH, ev, evs, evp, evo, Env.get, Env.set, putE, gdst, S0, S1, thenN, inBlockN, argEnv, builtinR, retE, fin, callR, reduceIte, Nat.reduceEqDiff, Nat.reduceAdd, reduceCtorEq, forall_const, Q57])
    refine ⟨.int .i64 x, fun w' hw => hw.cell (by simpa [add_at, Nat.add_assoc] using hxcell), ?_⟩
    repeat ((try first | (refine z3 hX ?_; clear hX X) | (refine z2 hX ?_; clear hX X)); (first | refine zL fun X hX => ?_ | refine zH fun X hX => ?_ | refine zE fun X hX => ?_ | refine zl ?_ | refine zh ?_ | refine ze ?_); try simp only [oweC, oweP, opF, opH, ev, evs, evp, evo, Env.get, Env.set, putE, gdst, S0, S1, thenN, inBlockN, argEnv, builtinR, retE, fin, callR, reduceIte, Nat.reduceEqDiff, Nat.reduceAdd, reduceCtorEq, forall_const, Q57])
    refine ⟨by simp only [inI]; omega, ?_⟩
    repeat ((try first | (refine z3 hX ?_; clear hX X) | (refine z2 hX ?_; clear hX X)); (first | refine zL fun X hX => ?_ | refine zH fun X hX => ?_ | refine zE fun X hX => ?_ | refine zl ?_ | refine zh ?_ | refine ze ?_); try simp only [oweC, oweP, opF, opH, ev, evs, evp, evo, Env.get, Env.set, putE, gdst, S0, S1, thenN, inBlockN, argEnv, builtinR, retE, fin, callR, reduceIte, Nat.reduceEqDiff, Nat.reduceAdd, reduceCtorEq, forall_const, Q57])
    refine ⟨by omega, by omega, ?_⟩
    rw [hci1]
    repeat ((try first | (refine z3 hX ?_; clear hX X) | (refine z2 hX ?_; clear hX X)); (first | refine zL fun X hX => ?_ | refine zH fun X hX => ?_ | refine zE fun X hX => ?_ | refine zl ?_ | refine zh ?_ | refine ze ?_); try simp only [oweC, oweP, opF, opH, ev, evs, evp, evo, Env.get, Env.set, putE, gdst, S0, S1, thenN, inBlockN, argEnv, builtinR, retE, fin, callR, reduceIte, Nat.reduceEqDiff, Nat.reduceAdd, reduceCtorEq, forall_const, Q57])
    refine ⟨by omega, by omega, ?_⟩
    rw [hpt]
    repeat ((try first | (refine z3 hX ?_; clear hX X) | (refine z2 hX ?_; clear hX X)); (first | refine zL fun X hX => ?_ | refine zH fun X hX => ?_ | refine zE fun X hX => ?_ | refine zl ?_ | refine zh ?_ | refine ze ?_); try simp only [oweC, oweP, opF, opH, ev, evs, evp, evo, Env.get, Env.set, putE, gdst, S0, S1, thenN, inBlockN, argEnv, builtinR, retE, fin, callR, reduceIte, Nat.reduceEqDiff, Nat.reduceAdd, reduceCtorEq, forall_const, Q57])
    intro w6 he6
    repeat ((try first | (refine z3 hX ?_; clear hX X) | (refine z2 hX ?_; clear hX X)); (first | refine zL fun X hX => ?_ | refine zH fun X hX => ?_ | refine zE fun X hX => ?_ | refine zl ?_ | refine zh ?_ | refine ze ?_); try simp only [oweC, oweP, opF, opH, ev, evs, evp, evo, Env.get, Env.set, putE, gdst, S0, S1, thenN, inBlockN, argEnv, builtinR, retE, fin, callR, reduceIte, Nat.reduceEqDiff, Nat.reduceAdd, reduceCtorEq, forall_const, Q57])
    simp only [Nat.zero_add, Nat.add_assoc]
    refine Runs.store (hbP.ext he6) Fx.zi3 rfl (by intro u hu; simp [Value.cells] at hu; subst hu; rfl) (by simpa [Nat.add_assoc] using hleP) (fun w7 hc7 hs7 hb7 => ?_)
    repeat ((try first | (refine z3 hX ?_; clear hX X) | (refine z2 hX ?_; clear hX X)); (first | refine zL fun X hX => ?_ | refine zH fun X hX => ?_ | refine zE fun X hX => ?_ | refine zl ?_ | refine zh ?_ | refine ze ?_); try simp only [oweC, oweP, opF, opH, ev, evs, evp, evo, Env.get, Env.set, putE, gdst, S0, S1, thenN, inBlockN, argEnv, builtinR, retE, fin, callR, reduceIte, Nat.reduceEqDiff, Nat.reduceAdd, reduceCtorEq, forall_const, Q57])
    refine hM _ _ _ ?_; clear hM M
    obtain ⟨rows7, hB7⟩ := hputP w7 ((he6.chg _).trans hc7) (by simpa [Nat.add_assoc, Value.cells] using hb7)
    have hc57 : Chg (BFoot bb vn5 vb5 vks5) w5 w7 := ((he6.chg _).trans hc7).mono fun k _ hk => by rw [hk]; exact hgFP
    have hs57 := hc57.size

    refine ok_seq (fun M hM => ok_region rfl ?_); repeat ((try first | (refine z3 hX ?_; clear hX X) | (refine z2 hX ?_; clear hX X)); (first | refine zL fun X hX => ?_ | refine zH fun X hX => ?_ | refine zE fun X hX => ?_ | refine zl ?_ | refine zh ?_ | refine ze ?_); try simp only [oweC, oweP, opF, opH, ev, evs, evp, evo, Env.get, Env.set, putE, gdst, S0, S1, thenN, inBlockN, argEnv, builtinR, retE, fin, callR, reduceIte, Nat.reduceEqDiff, Nat.reduceAdd, reduceCtorEq, forall_const, Q57])
    refine hM _ _ _ ?_; clear hM M
    refine ok_ret ?_
    try simp only [wpL, wpH, wpE, oweC, oweP, opF, opH, ev, evs, evp, evo, Env.get, Env.set, putE, gdst, S0, S1, thenN, inBlockN, argEnv, builtinR, retE, fin, callR, reduceIte, Nat.reduceEqDiff, Nat.reduceAdd, reduceCtorEq, forall_const, Q57]
    have hfin : ((begN nds e).set i d5).set i { d5 with ports := d5.ports.set p (x + 1) } = stepN nds e := by
      rw [List.set_set]
      unfold stepN
      rw [if_pos hport0, hci1, hi, modify_set _ _ _ _ hd2, hd5e, hxe, show p = 0 by omega]
      congr 1
      simp [stepD, newN, hport0]
    have hbz7 := busy_turn hbz5 hd5 (d' := { d5 with ports := d5.ports.set p (x + 1) }) rfl rfl
    rw [hfin] at hB7 hbz7
    refine ⟨_, _, _, _, _, hB7, hbz7, ?_, fun k hk => ?_⟩
    · refine (he1.chg _).trans (hc15.thn hc57 (fun k hk => ?_))
      rcases hF2 k hk with h | h
      · exact .inl h
      · exact .inr h.1
    · rcases hF2 k hk with h | h
      · exact .inl h
      · exact .inr (by omega)
  rintro w' ⟨hw', hport⟩
  subst hw'
  refine ok_seq (fun M hM => ok_region rfl ?_)
  repeat ((try first | (refine z3 hX ?_; clear hX X) | (refine z2 hX ?_; clear hX X)); (first | refine zL fun X hX => ?_ | refine zH fun X hX => ?_ | refine zE fun X hX => ?_ | refine zl ?_ | refine zh ?_ | refine ze ?_); try simp only [oweC, oweP, opF, opH, ev, evs, evp, evo, Env.get, Env.set, putE, gdst, S0, S1, thenN, inBlockN, argEnv, builtinR, retE, fin, callR, reduceIte, Nat.reduceEqDiff, Nat.reduceAdd, reduceCtorEq, forall_const, Q57])
  refine ⟨_, hb1.cell (j := 1) rfl, ?_⟩
  repeat ((try first | (refine z3 hX ?_; clear hX X) | (refine z2 hX ?_; clear hX X)); (first | refine zL fun X hX => ?_ | refine zH fun X hX => ?_ | refine zE fun X hX => ?_ | refine zl ?_ | refine zh ?_ | refine ze ?_); try simp only [oweC, oweP, opF, opH, ev, evs, evp, evo, Env.get, Env.set, putE, gdst, S0, S1, thenN, inBlockN, argEnv, builtinR, retE, fin, callR, reduceIte, Nat.reduceEqDiff, Nat.reduceAdd, reduceCtorEq, forall_const, Q57])
  refine Inv.call Fx.en65 (state_ok w' bb S vn vb vks rows nds busy h1 (by omega) e.call) ?_
  rintro v wx ⟨rfl, rfl⟩
  repeat ((try first | (refine z3 hX ?_; clear hX X) | (refine z2 hX ?_; clear hX X)); (first | refine zL fun X hX => ?_ | refine zH fun X hX => ?_ | refine zE fun X hX => ?_ | refine zl ?_ | refine zh ?_ | refine ze ?_); try simp only [oweC, oweP, opF, opH, ev, evs, evp, evo, Env.get, Env.set, putE, gdst, S0, S1, thenN, inBlockN, argEnv, builtinR, retE, fin, callR, reduceIte, Nat.reduceEqDiff, Nat.reduceAdd, reduceCtorEq, forall_const, Q57])
  refine hM _ _ _ ?_; clear hM M
  refine ok_join [(0, .pointer (some ⟨bb, 0, none⟩)), (3, .pointer (some ⟨B1, 0, none⟩)), (5, .int .i64 (stateN nds e.call))] (fun w' => w' = wx ∧ stateN nds e.call ≠ 0 ∧ 0 ≤ e.port ∧ e.port ≤ 4) ?_ ?_
  · refine ok_seq (fun M hM => ok_region rfl ?_)
    repeat ((try first | (refine z3 hX ?_; clear hX X) | (refine z2 hX ?_; clear hX X)); (first | refine zL fun X hX => ?_ | refine zH fun X hX => ?_ | refine zE fun X hX => ?_ | refine zl ?_ | refine zh ?_ | refine ze ?_); try simp only [oweC, oweP, opF, opH, ev, evs, evp, evo, Env.get, Env.set, putE, gdst, S0, S1, thenN, inBlockN, argEnv, builtinR, retE, fin, callR, reduceIte, Nat.reduceEqDiff, Nat.reduceAdd, reduceCtorEq, forall_const, Q57])
    refine ⟨fun hh => ?_, fun hh => ?_⟩
    · have h0 : ¬ stateN nds e.call = 0 := by simpa using hh
      repeat ((try first | (refine z3 hX ?_; clear hX X) | (refine z2 hX ?_; clear hX X)); (first | refine zL fun X hX => ?_ | refine zH fun X hX => ?_ | refine zE fun X hX => ?_ | refine zl ?_ | refine zh ?_ | refine ze ?_); try simp only [oweC, oweP, opF, opH, ev, evs, evp, evo, Env.get, Env.set, putE, gdst, S0, S1, thenN, inBlockN, argEnv, builtinR, retE, fin, callR, reduceIte, Nat.reduceEqDiff, Nat.reduceAdd, reduceCtorEq, forall_const, Q57])
      refine ⟨_, hb1.cell (j := 0) rfl, ?_⟩
      simp only [h0, decide_false]
      repeat ((try first | (refine z3 hX ?_; clear hX X) | (refine z2 hX ?_; clear hX X)); (first | refine zL fun X hX => ?_ | refine zH fun X hX => ?_ | refine zE fun X hX => ?_ | refine zl ?_ | refine zh ?_ | refine ze ?_); try simp only [oweC, oweP, opF, opH, ev, evs, evp, evo, Env.get, Env.set, putE, gdst, S0, S1, thenN, inBlockN, argEnv, builtinR, retE, fin, callR, reduceIte, Nat.reduceEqDiff, Nat.reduceAdd, reduceCtorEq, forall_const, Q57])
      refine ⟨fun hh => ?_, fun hh => ?_⟩
      · have hp0 : ¬ e.port < 0 := by simpa using hh
        repeat ((try first | (refine z3 hX ?_; clear hX X) | (refine z2 hX ?_; clear hX X)); (first | refine zL fun X hX => ?_ | refine zH fun X hX => ?_ | refine zE fun X hX => ?_ | refine zl ?_ | refine zh ?_ | refine ze ?_); try simp only [oweC, oweP, opF, opH, ev, evs, evp, evo, Env.get, Env.set, putE, gdst, S0, S1, thenN, inBlockN, argEnv, builtinR, retE, fin, callR, reduceIte, Nat.reduceEqDiff, Nat.reduceAdd, reduceCtorEq, forall_const, Q57])
        refine ⟨.int .i64 e.port, hb1.cell (j := 0) rfl, ?_⟩
        simp only [hp0, decide_false]
        repeat ((try first | (refine z3 hX ?_; clear hX X) | (refine z2 hX ?_; clear hX X)); (first | refine zL fun X hX => ?_ | refine zH fun X hX => ?_ | refine zE fun X hX => ?_ | refine zl ?_ | refine zh ?_ | refine ze ?_); try simp only [oweC, oweP, opF, opH, ev, evs, evp, evo, Env.get, Env.set, putE, gdst, S0, S1, thenN, inBlockN, argEnv, builtinR, retE, fin, callR, reduceIte, Nat.reduceEqDiff, Nat.reduceAdd, reduceCtorEq, forall_const, Q57])
        refine hM _ _ _ ?_; clear hM M
        refine ok_if rfl (fun hc => ?_) (fun hc => ok_skip ?_)
        · have hc4 : ¬ e.port ≤ 4 := by simpa using hc
          have hff : fitsR nds e = false := by unfold fitsR; rw [if_neg hport]; simp [hc4]
          rw [hff]
          refine ok_seq (fun M hM => ok_region rfl ?_); repeat ((try first | (refine z3 hX ?_; clear hX X) | (refine z2 hX ?_; clear hX X)); (first | refine zL fun X hX => ?_ | refine zH fun X hX => ?_ | refine zE fun X hX => ?_ | refine zl ?_ | refine zh ?_ | refine ze ?_); try simp only [oweC, oweP, opF, opH, ev, evs, evp, evo, Env.get, Env.set, putE, gdst, S0, S1, thenN, inBlockN, argEnv, builtinR, retE, fin, callR, reduceIte, Nat.reduceEqDiff, Nat.reduceAdd, reduceCtorEq, forall_const, Q57])
          refine hM _ _ _ ?_; clear hM M
          refine ok_ret ?_
          try simp only [wpL, wpH, wpE, oweC, oweP, opF, opH, ev, evs, evp, evo, Env.get, Env.set, putE, gdst, S0, S1, thenN, inBlockN, argEnv, builtinR, retE, fin, callR, reduceIte, Nat.reduceEqDiff, Nat.reduceAdd, reduceCtorEq, forall_const, Q57]
          exact he1
        · try simp only [wpL, wpH, wpE, oweC, oweP, opF, opH, ev, evs, evp, evo, Env.get, Env.set, putE, gdst, S0, S1, thenN, inBlockN, argEnv, builtinR, retE, fin, callR, reduceIte, Nat.reduceEqDiff, Nat.reduceAdd, reduceCtorEq, forall_const, Q57]
          exact ⟨by simp [sub, Env.get], h0, by omega, by simpa using hc⟩
      · have hp0 : e.port < 0 := by simpa using hh
        simp only [hp0, decide_true]
        repeat ((try first | (refine z3 hX ?_; clear hX X) | (refine z2 hX ?_; clear hX X)); (first | refine zL fun X hX => ?_ | refine zH fun X hX => ?_ | refine zE fun X hX => ?_ | refine zl ?_ | refine zh ?_ | refine ze ?_); try simp only [oweC, oweP, opF, opH, ev, evs, evp, evo, Env.get, Env.set, putE, gdst, S0, S1, thenN, inBlockN, argEnv, builtinR, retE, fin, callR, reduceIte, Nat.reduceEqDiff, Nat.reduceAdd, reduceCtorEq, forall_const, Q57])
        refine hM _ _ _ ?_; clear hM M
        refine ok_cond (b := true) rfl (fun _ => ?_) (fun h => by cases h)
        have hff : fitsR nds e = false := by unfold fitsR; rw [if_neg hport]; simp; intro h; omega
        rw [hff]
        refine ok_seq (fun M hM => ok_region rfl ?_); repeat ((try first | (refine z3 hX ?_; clear hX X) | (refine z2 hX ?_; clear hX X)); (first | refine zL fun X hX => ?_ | refine zH fun X hX => ?_ | refine zE fun X hX => ?_ | refine zl ?_ | refine zh ?_ | refine ze ?_); try simp only [oweC, oweP, opF, opH, ev, evs, evp, evo, Env.get, Env.set, putE, gdst, S0, S1, thenN, inBlockN, argEnv, builtinR, retE, fin, callR, reduceIte, Nat.reduceEqDiff, Nat.reduceAdd, reduceCtorEq, forall_const, Q57])
        refine hM _ _ _ ?_; clear hM M
        refine ok_ret ?_
        try simp only [wpL, wpH, wpE, oweC, oweP, opF, opH, ev, evs, evp, evo, Env.get, Env.set, putE, gdst, S0, S1, thenN, inBlockN, argEnv, builtinR, retE, fin, callR, reduceIte, Nat.reduceEqDiff, Nat.reduceAdd, reduceCtorEq, forall_const, Q57]
        exact he1
    · have h0 : stateN nds e.call = 0 := by simpa using hh
      simp only [h0, decide_true]
      repeat ((try first | (refine z3 hX ?_; clear hX X) | (refine z2 hX ?_; clear hX X)); (first | refine zL fun X hX => ?_ | refine zH fun X hX => ?_ | refine zE fun X hX => ?_ | refine zl ?_ | refine zh ?_ | refine ze ?_); try simp only [oweC, oweP, opF, opH, ev, evs, evp, evo, Env.get, Env.set, putE, gdst, S0, S1, thenN, inBlockN, argEnv, builtinR, retE, fin, callR, reduceIte, Nat.reduceEqDiff, Nat.reduceAdd, reduceCtorEq, forall_const, Q57])
      refine hM _ _ _ ?_; clear hM M
      refine ok_cond (b := true) rfl (fun _ => ?_) (fun h => by cases h)
      have hff : fitsR nds e = false := by unfold fitsR; rw [if_neg hport, (hw.stN e.call).1 h0]; simp
      rw [hff]
      refine ok_seq (fun M hM => ok_region rfl ?_); repeat ((try first | (refine z3 hX ?_; clear hX X) | (refine z2 hX ?_; clear hX X)); (first | refine zL fun X hX => ?_ | refine zH fun X hX => ?_ | refine zE fun X hX => ?_ | refine zl ?_ | refine zh ?_ | refine ze ?_); try simp only [oweC, oweP, opF, opH, ev, evs, evp, evo, Env.get, Env.set, putE, gdst, S0, S1, thenN, inBlockN, argEnv, builtinR, retE, fin, callR, reduceIte, Nat.reduceEqDiff, Nat.reduceAdd, reduceCtorEq, forall_const, Q57])
      refine hM _ _ _ ?_; clear hM M
      refine ok_ret ?_
      try simp only [wpL, wpH, wpE, oweC, oweP, opF, opH, ev, evs, evp, evo, Env.get, Env.set, putE, gdst, S0, S1, thenN, inBlockN, argEnv, builtinR, retE, fin, callR, reduceIte, Nat.reduceEqDiff, Nat.reduceAdd, reduceCtorEq, forall_const, Q57]
      exact he1
  rintro w1 ⟨hw1, hst0, hp0, hp4⟩
  subst hw1
  obtain ⟨i, d, hci, hd⟩ : ∃ (i : Nat) (d : Nd), e.call = (i : Int) + 1 ∧ nds[i]? = some d := by
    obtain ⟨h2, h3⟩ := stateN_le hst0
    exact ⟨(e.call - 1).toNat, _, by omega, List.getElem?_eq_getElem (show (e.call - 1).toNat < nds.length by omega)⟩
  have hil := (List.getElem?_eq_some_iff.1 hd).1
  have hci0 : (e.call - 1).toNat = i := by omega
  have hstd : stateN nds e.call = d.state := by unfold stateN; rw [if_pos (by omega), hci0, hd]
  have hfR : fitsR nds e = (decide (d.parent = e.parent) && decide (d.proc = e.proc) && decide (d.at_ = e.at_) && decide (d.args.length = e.args.length) && (if e.port = 2 then decide (d.state = 2) && (decide (e.parent = 0) || decide (stateN nds e.parent = 1)) else decide (d.state = 1) && !nds.any (inKid e.call))) := by
    unfold fitsR atN
    rw [if_neg hport, if_pos (show 1 ≤ e.call by omega), hci0, hd]
    simp only [hp0, hp4, decide_true, Bool.true_and]
  rw [hstd]
  obtain ⟨g, cap, va, vl, vk, hv, hvk, h55, hcell, hva, -, -⟩ := h1.nm.at_ (by omega) hd
  obtain ⟨Aa, ca, hvas⟩ : ∃ Aa ca, va = .slice Aa d.args.length ca := by
    obtain ⟨-, -, rows0, ⟨Aa, ca, h1, -⟩, h2⟩ := id hva
    exact ⟨Aa, ca, by rw [h1, (VRowsS.rows _ _ h2).length]⟩
  subst hvas
  refine ok_seq (fun M hM => (ok_draw 9 [] (Ext _) Fx.mixed (by decide) rfl (by decide +kernel) (by decide +kernel) (Ext.drew _) ?_))
  repeat ((try first | (refine z3 hX ?_; clear hX X) | (refine z2 hX ?_; clear hX X)); (first | refine zL fun X hX => ?_ | refine zH fun X hX => ?_ | refine zE fun X hX => ?_ | refine zl ?_ | refine zh ?_ | refine ze ?_); try simp only [oweC, oweP, opF, opH, ev, evs, evp, evo, Env.get, Env.set, putE, gdst, S0, S1, thenN, inBlockN, argEnv, builtinR, retE, fin, callR, reduceIte, Nat.reduceEqDiff, Nat.reduceAdd, reduceCtorEq, forall_const, Q57])
  refine ⟨_, fun w' hw => (h1.head.ext hw).cell (j := 0) rfl, ?_⟩
  rw [hv]
  repeat ((try first | (refine z3 hX ?_; clear hX X) | (refine z2 hX ?_; clear hX X)); (first | refine zL fun X hX => ?_ | refine zH fun X hX => ?_ | refine zE fun X hX => ?_ | refine zl ?_ | refine zh ?_ | refine ze ?_); try simp only [oweC, oweP, opF, opH, ev, evs, evp, evo, Env.get, Env.set, putE, gdst, S0, S1, thenN, inBlockN, argEnv, builtinR, retE, fin, callR, reduceIte, Nat.reduceEqDiff, Nat.reduceAdd, reduceCtorEq, forall_const, Q57])
  refine ⟨_, fun w' hw => (hb1.ext hw).cell (j := 1) rfl, ?_⟩
  repeat ((try first | (refine z3 hX ?_; clear hX X) | (refine z2 hX ?_; clear hX X)); (first | refine zL fun X hX => ?_ | refine zH fun X hX => ?_ | refine zE fun X hX => ?_ | refine zl ?_ | refine zh ?_ | refine ze ?_); try simp only [oweC, oweP, opF, opH, ev, evs, evp, evo, Env.get, Env.set, putE, gdst, S0, S1, thenN, inBlockN, argEnv, builtinR, retE, fin, callR, reduceIte, Nat.reduceEqDiff, Nat.reduceAdd, reduceCtorEq, forall_const, Q57])
  refine ⟨by simp only [inI]; omega, ?_⟩
  repeat ((try first | (refine z3 hX ?_; clear hX X) | (refine z2 hX ?_; clear hX X)); (first | refine zL fun X hX => ?_ | refine zH fun X hX => ?_ | refine zE fun X hX => ?_ | refine zl ?_ | refine zh ?_ | refine ze ?_); try simp only [oweC, oweP, opF, opH, ev, evs, evp, evo, Env.get, Env.set, putE, gdst, S0, S1, thenN, inBlockN, argEnv, builtinR, retE, fin, callR, reduceIte, Nat.reduceEqDiff, Nat.reduceAdd, reduceCtorEq, forall_const, Q57])
  refine ⟨by omega, by omega, ?_⟩
  rw [hci0]
  repeat ((try first | (refine z3 hX ?_; clear hX X) | (refine z2 hX ?_; clear hX X)); (first | refine zL fun X hX => ?_ | refine zH fun X hX => ?_ | refine zE fun X hX => ?_ | refine zl ?_ | refine zh ?_ | refine ze ?_); try simp only [oweC, oweP, opF, opH, ev, evs, evp, evo, Env.get, Env.set, putE, gdst, S0, S1, thenN, inBlockN, argEnv, builtinR, retE, fin, callR, reduceIte, Nat.reduceEqDiff, Nat.reduceAdd, reduceCtorEq, forall_const, Q57])
  intro w2 he2
  repeat ((try first | (refine z3 hX ?_; clear hX X) | (refine z2 hX ?_; clear hX X)); (first | refine zL fun X hX => ?_ | refine zH fun X hX => ?_ | refine zE fun X hX => ?_ | refine zl ?_ | refine zh ?_ | refine ze ?_); try simp only [oweC, oweP, opF, opH, ev, evs, evp, evo, Env.get, Env.set, putE, gdst, S0, S1, thenN, inBlockN, argEnv, builtinR, retE, fin, callR, reduceIte, Nat.reduceEqDiff, Nat.reduceAdd, reduceCtorEq, forall_const, Q57])
  refine hM _ _ _ ?_; clear hM M
  simp only [Nat.zero_add]
  obtain ⟨ok4, hok4⟩ : ∃ b, b = (decide (d.parent = e.parent) && decide (d.proc = e.proc) && decide (d.at_ = e.at_) && decide (d.args.length = e.args.length)) := ⟨_, rfl⟩
  rw [← hok4] at hfR
  refine ok_join [(0, .pointer (some ⟨bb, 0, none⟩)), (3, .pointer (some ⟨B1, 0, none⟩)), (5, .int .i64 d.state)] (fun w' => Ext w1 w' ∧ ok4 = true) ?_ ?_
  · refine ok_join [(0, .pointer (some ⟨bb, 0, none⟩)), (3, .pointer (some ⟨B1, 0, none⟩)), (5, .int .i64 d.state), (94, .bool (!ok4))] (fun w' => Ext w1 w') ?_ ?_
    · refine (ok_draw 36 [] (Ext _) Fx.mixed (by decide) rfl (by decide +kernel) (by decide +kernel) (Ext.drew _) ?_)
      repeat ((try first | (refine z3 hX ?_; clear hX X) | (refine z2 hX ?_; clear hX X)); (first | refine zL fun X hX => ?_ | refine zH fun X hX => ?_ | refine zE fun X hX => ?_ | refine zl ?_ | refine zh ?_ | refine ze ?_); try simp only [oweC, oweP, opF, opH, ev, evs, evp, evo, Env.get, Env.set, putE, gdst, S0, S1, thenN, inBlockN, argEnv, builtinR, retE, fin, callR, reduceIte, Nat.reduceEqDiff, Nat.reduceAdd, reduceCtorEq, forall_const, Q57])
      refine ⟨.int .i64 d.parent, fun w' hw => (he2.trans hw).cell (hcell 1 _ rfl), ?_⟩
      repeat ((try first | (refine z3 hX ?_; clear hX X) | (refine z2 hX ?_; clear hX X)); (first | refine zL fun X hX => ?_ | refine zH fun X hX => ?_ | refine zE fun X hX => ?_ | refine zl ?_ | refine zh ?_ | refine ze ?_); try simp only [oweC, oweP, opF, opH, ev, evs, evp, evo, Env.get, Env.set, putE, gdst, S0, S1, thenN, inBlockN, argEnv, builtinR, retE, fin, callR, reduceIte, Nat.reduceEqDiff, Nat.reduceAdd, reduceCtorEq, forall_const, Q57])
      refine ⟨.int .i64 e.parent, fun w' hw => (hb1.ext (he2.trans hw)).cell (j := 2) rfl, ?_⟩
      repeat ((try first | (refine z3 hX ?_; clear hX X) | (refine z2 hX ?_; clear hX X)); (first | refine zL fun X hX => ?_ | refine zH fun X hX => ?_ | refine zE fun X hX => ?_ | refine zl ?_ | refine zh ?_ | refine ze ?_); try simp only [oweC, oweP, opF, opH, ev, evs, evp, evo, Env.get, Env.set, putE, gdst, S0, S1, thenN, inBlockN, argEnv, builtinR, retE, fin, callR, reduceIte, Nat.reduceEqDiff, Nat.reduceAdd, reduceCtorEq, forall_const, Q57])
      by_cases e1 : d.parent = e.parent
      · simp only [e1, decide_true, Bool.not_true]
        refine ⟨fun _ => ?_, fun h => by cases h⟩
        repeat ((try first | (refine z3 hX ?_; clear hX X) | (refine z2 hX ?_; clear hX X)); (first | refine zL fun X hX => ?_ | refine zH fun X hX => ?_ | refine zE fun X hX => ?_ | refine zl ?_ | refine zh ?_ | refine ze ?_); try simp only [oweC, oweP, opF, opH, ev, evs, evp, evo, Env.get, Env.set, putE, gdst, S0, S1, thenN, inBlockN, argEnv, builtinR, retE, fin, callR, reduceIte, Nat.reduceEqDiff, Nat.reduceAdd, reduceCtorEq, forall_const, Q57])
        refine ⟨.int .i64 d.proc, fun w' hw => (he2.trans hw).cell (hcell 0 _ rfl), ?_⟩
        repeat ((try first | (refine z3 hX ?_; clear hX X) | (refine z2 hX ?_; clear hX X)); (first | refine zL fun X hX => ?_ | refine zH fun X hX => ?_ | refine zE fun X hX => ?_ | refine zl ?_ | refine zh ?_ | refine ze ?_); try simp only [oweC, oweP, opF, opH, ev, evs, evp, evo, Env.get, Env.set, putE, gdst, S0, S1, thenN, inBlockN, argEnv, builtinR, retE, fin, callR, reduceIte, Nat.reduceEqDiff, Nat.reduceAdd, reduceCtorEq, forall_const, Q57])
        refine ⟨.int .i64 e.proc, fun w' hw => (hb1.ext (he2.trans hw)).cell (j := 3) rfl, ?_⟩
        repeat ((try first | (refine z3 hX ?_; clear hX X) | (refine z2 hX ?_; clear hX X)); (first | refine zL fun X hX => ?_ | refine zH fun X hX => ?_ | refine zE fun X hX => ?_ | refine zl ?_ | refine zh ?_ | refine ze ?_); try simp only [oweC, oweP, opF, opH, ev, evs, evp, evo, Env.get, Env.set, putE, gdst, S0, S1, thenN, inBlockN, argEnv, builtinR, retE, fin, callR, reduceIte, Nat.reduceEqDiff, Nat.reduceAdd, reduceCtorEq, forall_const, Q57])
        by_cases e2 : d.proc = e.proc
        · simp only [e2, decide_true, Bool.not_true]
          repeat ((try first | (refine z3 hX ?_; clear hX X) | (refine z2 hX ?_; clear hX X)); (first | refine zL fun X hX => ?_ | refine zH fun X hX => ?_ | refine zE fun X hX => ?_ | refine zl ?_ | refine zh ?_ | refine ze ?_); try simp only [oweC, oweP, opF, opH, ev, evs, evp, evo, Env.get, Env.set, putE, gdst, S0, S1, thenN, inBlockN, argEnv, builtinR, retE, fin, callR, reduceIte, Nat.reduceEqDiff, Nat.reduceAdd, reduceCtorEq, forall_const, Q57])
          refine ⟨fun _ => ?_, fun h => by cases h⟩
          repeat ((try first | (refine z3 hX ?_; clear hX X) | (refine z2 hX ?_; clear hX X)); (first | refine zL fun X hX => ?_ | refine zH fun X hX => ?_ | refine zE fun X hX => ?_ | refine zl ?_ | refine zh ?_ | refine ze ?_); try simp only [oweC, oweP, opF, opH, ev, evs, evp, evo, Env.get, Env.set, putE, gdst, S0, S1, thenN, inBlockN, argEnv, builtinR, retE, fin, callR, reduceIte, Nat.reduceEqDiff, Nat.reduceAdd, reduceCtorEq, forall_const, Q57])
          refine ⟨.int .i64 d.at_, fun w' hw => (he2.trans hw).cell (hcell 2 _ rfl), ?_⟩
          repeat ((try first | (refine z3 hX ?_; clear hX X) | (refine z2 hX ?_; clear hX X)); (first | refine zL fun X hX => ?_ | refine zH fun X hX => ?_ | refine zE fun X hX => ?_ | refine zl ?_ | refine zh ?_ | refine ze ?_); try simp only [oweC, oweP, opF, opH, ev, evs, evp, evo, Env.get, Env.set, putE, gdst, S0, S1, thenN, inBlockN, argEnv, builtinR, retE, fin, callR, reduceIte, Nat.reduceEqDiff, Nat.reduceAdd, reduceCtorEq, forall_const, Q57])
          refine ⟨.int .i64 e.at_, fun w' hw => (hb1.ext (he2.trans hw)).cell (j := 4) rfl, ?_⟩
          repeat ((try first | (refine z3 hX ?_; clear hX X) | (refine z2 hX ?_; clear hX X)); (first | refine zL fun X hX => ?_ | refine zH fun X hX => ?_ | refine zE fun X hX => ?_ | refine zl ?_ | refine zh ?_ | refine ze ?_); try simp only [oweC, oweP, opF, opH, ev, evs, evp, evo, Env.get, Env.set, putE, gdst, S0, S1, thenN, inBlockN, argEnv, builtinR, retE, fin, callR, reduceIte, Nat.reduceEqDiff, Nat.reduceAdd, reduceCtorEq, forall_const, Q57])
          by_cases e3 : d.at_ = e.at_
          · simp only [e3, decide_true, Bool.not_true]
            repeat ((try first | (refine z3 hX ?_; clear hX X) | (refine z2 hX ?_; clear hX X)); (first | refine zL fun X hX => ?_ | refine zH fun X hX => ?_ | refine zE fun X hX => ?_ | refine zl ?_ | refine zh ?_ | refine ze ?_); try simp only [oweC, oweP, opF, opH, ev, evs, evp, evo, Env.get, Env.set, putE, gdst, S0, S1, thenN, inBlockN, argEnv, builtinR, retE, fin, callR, reduceIte, Nat.reduceEqDiff, Nat.reduceAdd, reduceCtorEq, forall_const, Q57])
            refine ⟨fun _ => ?_, fun h => by cases h⟩
            repeat ((try first | (refine z3 hX ?_; clear hX X) | (refine z2 hX ?_; clear hX X)); (first | refine zL fun X hX => ?_ | refine zH fun X hX => ?_ | refine zE fun X hX => ?_ | refine zl ?_ | refine zh ?_ | refine ze ?_); try simp only [oweC, oweP, opF, opH, ev, evs, evp, evo, Env.get, Env.set, putE, gdst, S0, S1, thenN, inBlockN, argEnv, builtinR, retE, fin, callR, reduceIte, Nat.reduceEqDiff, Nat.reduceAdd, reduceCtorEq, forall_const, Q57])
            refine ⟨.slice Aa d.args.length ca, fun w' hw => (he2.trans hw).cell (hcell 8 _ (row_args h55 _ vl vk)), ?_⟩
            repeat ((try first | (refine z3 hX ?_; clear hX X) | (refine z2 hX ?_; clear hX X)); (first | refine zL fun X hX => ?_ | refine zH fun X hX => ?_ | refine zE fun X hX => ?_ | refine zl ?_ | refine zh ?_ | refine ze ?_); try simp only [oweC, oweP, opF, opH, ev, evs, evp, evo, Env.get, Env.set, putE, gdst, S0, S1, thenN, inBlockN, argEnv, builtinR, retE, fin, callR, reduceIte, Nat.reduceEqDiff, Nat.reduceAdd, reduceCtorEq, forall_const, Q57])
            refine ⟨.slice Ae e.args.length ce, fun w' hw => (hb1.ext (he2.trans hw)).cell (j := 5) rfl, ?_⟩
            repeat ((try first | (refine z3 hX ?_; clear hX X) | (refine z2 hX ?_; clear hX X)); (first | refine zL fun X hX => ?_ | refine zH fun X hX => ?_ | refine zE fun X hX => ?_ | refine zl ?_ | refine zh ?_ | refine ze ?_); try simp only [oweC, oweP, opF, opH, ev, evs, evp, evo, Env.get, Env.set, putE, gdst, S0, S1, thenN, inBlockN, argEnv, builtinR, retE, fin, callR, reduceIte, Nat.reduceEqDiff, Nat.reduceAdd, reduceCtorEq, forall_const, Q57])
            intro w3 he3
            repeat ((try first | (refine z3 hX ?_; clear hX X) | (refine z2 hX ?_; clear hX X)); (first | refine zL fun X hX => ?_ | refine zH fun X hX => ?_ | refine zE fun X hX => ?_ | refine zl ?_ | refine zh ?_ | refine ze ?_); try simp only [oweC, oweP, opF, opH, ev, evs, evp, evo, Env.get, Env.set, putE, gdst, S0, S1, thenN, inBlockN, argEnv, builtinR, retE, fin, callR, reduceIte, Nat.reduceEqDiff, Nat.reduceAdd, reduceCtorEq, forall_const, Q57])
            by_cases e4 : d.args.length = e.args.length <;> simp [sub, Env.get, hok4, e1, e2, e3, e4, he2.trans he3] <;> omega
          · simp only [e3, decide_false, Bool.not_false]
            repeat ((try first | (refine z3 hX ?_; clear hX X) | (refine z2 hX ?_; clear hX X)); (first | refine zL fun X hX => ?_ | refine zH fun X hX => ?_ | refine zE fun X hX => ?_ | refine zl ?_ | refine zh ?_ | refine ze ?_); try simp only [oweC, oweP, opF, opH, ev, evs, evp, evo, Env.get, Env.set, putE, gdst, S0, S1, thenN, inBlockN, argEnv, builtinR, retE, fin, callR, reduceIte, Nat.reduceEqDiff, Nat.reduceAdd, reduceCtorEq, forall_const, Q57])
            refine ⟨fun h => (by cases h), fun _ => ?_⟩
            repeat ((try first | (refine z3 hX ?_; clear hX X) | (refine z2 hX ?_; clear hX X)); (first | refine zL fun X hX => ?_ | refine zH fun X hX => ?_ | refine zE fun X hX => ?_ | refine zl ?_ | refine zh ?_ | refine ze ?_); try simp only [oweC, oweP, opF, opH, ev, evs, evp, evo, Env.get, Env.set, putE, gdst, S0, S1, thenN, inBlockN, argEnv, builtinR, retE, fin, callR, reduceIte, Nat.reduceEqDiff, Nat.reduceAdd, reduceCtorEq, forall_const, Q57])
            intro w3 he3
            repeat ((try first | (refine z3 hX ?_; clear hX X) | (refine z2 hX ?_; clear hX X)); (first | refine zL fun X hX => ?_ | refine zH fun X hX => ?_ | refine zE fun X hX => ?_ | refine zl ?_ | refine zh ?_ | refine ze ?_); try simp only [oweC, oweP, opF, opH, ev, evs, evp, evo, Env.get, Env.set, putE, gdst, S0, S1, thenN, inBlockN, argEnv, builtinR, retE, fin, callR, reduceIte, Nat.reduceEqDiff, Nat.reduceAdd, reduceCtorEq, forall_const, Q57])
            simp [sub, Env.get, hok4, e1, e2, e3, he2.trans he3]
        · simp only [e2, decide_false, Bool.not_false]
          repeat ((try first | (refine z3 hX ?_; clear hX X) | (refine z2 hX ?_; clear hX X)); (first | refine zL fun X hX => ?_ | refine zH fun X hX => ?_ | refine zE fun X hX => ?_ | refine zl ?_ | refine zh ?_ | refine ze ?_); try simp only [oweC, oweP, opF, opH, ev, evs, evp, evo, Env.get, Env.set, putE, gdst, S0, S1, thenN, inBlockN, argEnv, builtinR, retE, fin, callR, reduceIte, Nat.reduceEqDiff, Nat.reduceAdd, reduceCtorEq, forall_const, Q57])
          refine ⟨fun h => (by cases h), fun _ => ?_⟩
          repeat ((try first | (refine z3 hX ?_; clear hX X) | (refine z2 hX ?_; clear hX X)); (first | refine zL fun X hX => ?_ | refine zH fun X hX => ?_ | refine zE fun X hX => ?_ | refine zl ?_ | refine zh ?_ | refine ze ?_); try simp only [oweC, oweP, opF, opH, ev, evs, evp, evo, Env.get, Env.set, putE, gdst, S0, S1, thenN, inBlockN, argEnv, builtinR, retE, fin, callR, reduceIte, Nat.reduceEqDiff, Nat.reduceAdd, reduceCtorEq, forall_const, Q57])
          intro w3 he3
          repeat ((try first | (refine z3 hX ?_; clear hX X) | (refine z2 hX ?_; clear hX X)); (first | refine zL fun X hX => ?_ | refine zH fun X hX => ?_ | refine zE fun X hX => ?_ | refine zl ?_ | refine zh ?_ | refine ze ?_); try simp only [oweC, oweP, opF, opH, ev, evs, evp, evo, Env.get, Env.set, putE, gdst, S0, S1, thenN, inBlockN, argEnv, builtinR, retE, fin, callR, reduceIte, Nat.reduceEqDiff, Nat.reduceAdd, reduceCtorEq, forall_const, Q57])
          simp [sub, Env.get, hok4, e1, e2, he2.trans he3]
      · simp only [e1, decide_false, Bool.not_false]
        refine ⟨fun h => (by cases h), fun _ => ?_⟩
        repeat ((try first | (refine z3 hX ?_; clear hX X) | (refine z2 hX ?_; clear hX X)); (first | refine zL fun X hX => ?_ | refine zH fun X hX => ?_ | refine zE fun X hX => ?_ | refine zl ?_ | refine zh ?_ | refine ze ?_); try simp only [oweC, oweP, opF, opH, ev, evs, evp, evo, Env.get, Env.set, putE, gdst, S0, S1, thenN, inBlockN, argEnv, builtinR, retE, fin, callR, reduceIte, Nat.reduceEqDiff, Nat.reduceAdd, reduceCtorEq, forall_const, Q57])
        intro w3 he3
        repeat ((try first | (refine z3 hX ?_; clear hX X) | (refine z2 hX ?_; clear hX X)); (first | refine zL fun X hX => ?_ | refine zH fun X hX => ?_ | refine zE fun X hX => ?_ | refine zl ?_ | refine zh ?_ | refine ze ?_); try simp only [oweC, oweP, opF, opH, ev, evs, evp, evo, Env.get, Env.set, putE, gdst, S0, S1, thenN, inBlockN, argEnv, builtinR, retE, fin, callR, reduceIte, Nat.reduceEqDiff, Nat.reduceAdd, reduceCtorEq, forall_const, Q57])
        simp [sub, Env.get, hok4, e1, he2.trans he3]
    intro w3 he3
    cases hb4 : ok4 with
    | false =>
      refine ok_cond (b := true) rfl (fun _ => ?_) (fun h => by cases h)
      have hff : fitsR nds e = false := by rw [hfR, hb4]; rfl
      rw [hff]
      refine ok_seq (fun M hM => ok_region rfl ?_); repeat ((try first | (refine z3 hX ?_; clear hX X) | (refine z2 hX ?_; clear hX X)); (first | refine zL fun X hX => ?_ | refine zH fun X hX => ?_ | refine zE fun X hX => ?_ | refine zl ?_ | refine zh ?_ | refine ze ?_); try simp only [oweC, oweP, opF, opH, ev, evs, evp, evo, Env.get, Env.set, putE, gdst, S0, S1, thenN, inBlockN, argEnv, builtinR, retE, fin, callR, reduceIte, Nat.reduceEqDiff, Nat.reduceAdd, reduceCtorEq, forall_const, Q57])
      refine hM _ _ _ ?_; clear hM M
      refine ok_ret ?_
      try simp only [wpL, wpH, wpE, oweC, oweP, opF, opH, ev, evs, evp, evo, Env.get, Env.set, putE, gdst, S0, S1, thenN, inBlockN, argEnv, builtinR, retE, fin, callR, reduceIte, Nat.reduceEqDiff, Nat.reduceAdd, reduceCtorEq, forall_const, Q57]
      exact he1.trans he3
    | true =>
      refine ok_cond (b := false) rfl (fun h => by cases h) (fun _ => ok_skip ?_)
      try simp only [wpL, wpH, wpE, oweC, oweP, opF, opH, ev, evs, evp, evo, Env.get, Env.set, putE, gdst, S0, S1, thenN, inBlockN, argEnv, builtinR, retE, fin, callR, reduceIte, Nat.reduceEqDiff, Nat.reduceAdd, reduceCtorEq, forall_const, Q57]
      exact ⟨by simp [sub, Env.get], he3⟩
  rintro w3 ⟨he3, hb4⟩
  rw [hb4] at hok4 hfR
  have hok4' := hok4.symm
  simp only [Bool.and_eq_true, decide_eq_true_eq] at hok4'
  obtain ⟨⟨⟨e1, e2⟩, e3⟩, e4⟩ := hok4'
  have h3 := h1.ext he3
  have hb13 := hb1.ext he3
  have he03 := he1.trans he3
  have hs3 := he3.size
  have hdp := hw.par i d hd
  have hBl : B1 < w1.heap.size := hb1.lt
  have hnF1 : ¬ BFoot bb vn vb vks B1 := fun hh => by have := hF B1 hh; omega
  obtain ⟨d5, hd5e⟩ : ∃ d5, d5 = ({ d with last := if e.port = 1 then e.args else d.last, state := if e.port = 0 ∨ e.port = 2 then 1 else if e.port = 1 then 2 else 3 } : Nd) := ⟨_, rfl⟩
  refine ok_join [(0, .pointer (some ⟨bb, 0, none⟩)), (3, .pointer (some ⟨B1, 0, none⟩))] (fun w' => fitsR nds e = true ∧ ∃ rows5 busy5, BM w' bb S vn vb vks rows5 (nds.set i d5) busy5 ∧ BusyOk (nds.set i d5) busy5 ∧ Chg (BFoot bb vn vb vks) w3 w') ?_ ?_
  · refine ok_seq (fun M hM => ok_region rfl ?_)
    repeat ((try first | (refine z3 hX ?_; clear hX X) | (refine z2 hX ?_; clear hX X)); (first | refine zL fun X hX => ?_ | refine zH fun X hX => ?_ | refine zE fun X hX => ?_ | refine zl ?_ | refine zh ?_ | refine ze ?_); try simp only [oweC, oweP, opF, opH, ev, evs, evp, evo, Env.get, Env.set, putE, gdst, S0, S1, thenN, inBlockN, argEnv, builtinR, retE, fin, callR, reduceIte, Nat.reduceEqDiff, Nat.reduceAdd, reduceCtorEq, forall_const, Q57])
    refine ⟨.int .i64 e.port, hb13.cell (j := 0) rfl, ?_⟩
    repeat ((try first | (refine z3 hX ?_; clear hX X) | (refine z2 hX ?_; clear hX X)); (first | refine zL fun X hX => ?_ | refine zH fun X hX => ?_ | refine zE fun X hX => ?_ | refine zl ?_ | refine zh ?_ | refine ze ?_); try simp only [oweC, oweP, opF, opH, ev, evs, evp, evo, Env.get, Env.set, putE, gdst, S0, S1, thenN, inBlockN, argEnv, builtinR, retE, fin, callR, reduceIte, Nat.reduceEqDiff, Nat.reduceAdd, reduceCtorEq, forall_const, Q57])
    refine hM _ _ _ ?_; clear hM M
    refine ok_if rfl (fun hport2 => ?_) (fun hport2 => ?_)
    · have hp2 : e.port = 2 := by simpa using hport2
      simp only [hp2, if_true, Bool.true_and] at hfR
      refine ok_join [(0, .pointer (some ⟨bb, 0, none⟩)), (3, .pointer (some ⟨B1, 0, none⟩))] (fun w' => w' = w3 ∧ fitsR nds e = true) ?_ ?_
      · refine ok_join [(0, .pointer (some ⟨bb, 0, none⟩)), (3, .pointer (some ⟨B1, 0, none⟩)), (111, .bool (!fitsR nds e))] (fun w' => w' = w3) ?_ ?_
        · refine ok_region rfl ?_
          repeat ((try first | (refine z3 hX ?_; clear hX X) | (refine z2 hX ?_; clear hX X)); (first | refine zL fun X hX => ?_ | refine zH fun X hX => ?_ | refine zE fun X hX => ?_ | refine zl ?_ | refine zh ?_ | refine ze ?_); try simp only [oweC, oweP, opF, opH, ev, evs, evp, evo, Env.get, Env.set, putE, gdst, S0, S1, thenN, inBlockN, argEnv, builtinR, retE, fin, callR, reduceIte, Nat.reduceEqDiff, Nat.reduceAdd, reduceCtorEq, forall_const, Q57])
          by_cases s2 : d.state = 2
          · simp only [s2, decide_true, Bool.not_true, Bool.true_and] at hfR ⊢
            refine ⟨fun _ => ?_, fun h => by cases h⟩
            repeat ((try first | (refine z3 hX ?_; clear hX X) | (refine z2 hX ?_; clear hX X)); (first | refine zL fun X hX => ?_ | refine zH fun X hX => ?_ | refine zE fun X hX => ?_ | refine zl ?_ | refine zh ?_ | refine ze ?_); try simp only [oweC, oweP, opF, opH, ev, evs, evp, evo, Env.get, Env.set, putE, gdst, S0, S1, thenN, inBlockN, argEnv, builtinR, retE, fin, callR, reduceIte, Nat.reduceEqDiff, Nat.reduceAdd, reduceCtorEq, forall_const, Q57])
            refine ⟨.int .i64 e.parent, hb13.cell (j := 2) rfl, ?_⟩
            repeat ((try first | (refine z3 hX ?_; clear hX X) | (refine z2 hX ?_; clear hX X)); (first | refine zL fun X hX => ?_ | refine zH fun X hX => ?_ | refine zE fun X hX => ?_ | refine zl ?_ | refine zh ?_ | refine ze ?_); try simp only [oweC, oweP, opF, opH, ev, evs, evp, evo, Env.get, Env.set, putE, gdst, S0, S1, thenN, inBlockN, argEnv, builtinR, retE, fin, callR, reduceIte, Nat.reduceEqDiff, Nat.reduceAdd, reduceCtorEq, forall_const, Q57])
            by_cases p0 : e.parent = 0
            · simp only [p0, decide_true, Bool.not_true, Bool.true_or] at hfR ⊢
              repeat ((try first | (refine z3 hX ?_; clear hX X) | (refine z2 hX ?_; clear hX X)); (first | refine zL fun X hX => ?_ | refine zH fun X hX => ?_ | refine zE fun X hX => ?_ | refine zl ?_ | refine zh ?_ | refine ze ?_); try simp only [oweC, oweP, opF, opH, ev, evs, evp, evo, Env.get, Env.set, putE, gdst, S0, S1, thenN, inBlockN, argEnv, builtinR, retE, fin, callR, reduceIte, Nat.reduceEqDiff, Nat.reduceAdd, reduceCtorEq, forall_const, Q57])
              refine ⟨fun h => (by cases h), fun _ => ?_⟩
              repeat ((try first | (refine z3 hX ?_; clear hX X) | (refine z2 hX ?_; clear hX X)); (first | refine zL fun X hX => ?_ | refine zH fun X hX => ?_ | refine zE fun X hX => ?_ | refine zl ?_ | refine zh ?_ | refine ze ?_); try simp only [oweC, oweP, opF, opH, ev, evs, evp, evo, Env.get, Env.set, putE, gdst, S0, S1, thenN, inBlockN, argEnv, builtinR, retE, fin, callR, reduceIte, Nat.reduceEqDiff, Nat.reduceAdd, reduceCtorEq, forall_const, Q57])
              simp [sub, Env.get, hfR]
            · simp only [p0, decide_false, Bool.not_false, Bool.false_or] at hfR ⊢
              repeat ((try first | (refine z3 hX ?_; clear hX X) | (refine z2 hX ?_; clear hX X)); (first | refine zL fun X hX => ?_ | refine zH fun X hX => ?_ | refine zE fun X hX => ?_ | refine zl ?_ | refine zh ?_ | refine ze ?_); try simp only [oweC, oweP, opF, opH, ev, evs, evp, evo, Env.get, Env.set, putE, gdst, S0, S1, thenN, inBlockN, argEnv, builtinR, retE, fin, callR, reduceIte, Nat.reduceEqDiff, Nat.reduceAdd, reduceCtorEq, forall_const, Q57])
              refine ⟨fun _ => ?_, fun h => by cases h⟩
              repeat ((try first | (refine z3 hX ?_; clear hX X) | (refine z2 hX ?_; clear hX X)); (first | refine zL fun X hX => ?_ | refine zH fun X hX => ?_ | refine zE fun X hX => ?_ | refine zl ?_ | refine zh ?_ | refine ze ?_); try simp only [oweC, oweP, opF, opH, ev, evs, evp, evo, Env.get, Env.set, putE, gdst, S0, S1, thenN, inBlockN, argEnv, builtinR, retE, fin, callR, reduceIte, Nat.reduceEqDiff, Nat.reduceAdd, reduceCtorEq, forall_const, Q57])
              refine ⟨.int .i64 e.parent, hb13.cell (j := 2) rfl, ?_⟩
              repeat ((try first | (refine z3 hX ?_; clear hX X) | (refine z2 hX ?_; clear hX X)); (first | refine zL fun X hX => ?_ | refine zH fun X hX => ?_ | refine zE fun X hX => ?_ | refine zl ?_ | refine zh ?_ | refine ze ?_); try simp only [oweC, oweP, opF, opH, ev, evs, evp, evo, Env.get, Env.set, putE, gdst, S0, S1, thenN, inBlockN, argEnv, builtinR, retE, fin, callR, reduceIte, Nat.reduceEqDiff, Nat.reduceAdd, reduceCtorEq, forall_const, Q57])
              refine Inv.call Fx.en65 (state_ok w3 bb S vn vb vks rows nds busy h3 (by omega) e.parent) ?_
              rintro v wy ⟨rfl, rfl⟩
              repeat ((try first | (refine z3 hX ?_; clear hX X) | (refine z2 hX ?_; clear hX X)); (first | refine zL fun X hX => ?_ | refine zH fun X hX => ?_ | refine zE fun X hX => ?_ | refine zl ?_ | refine zh ?_ | refine ze ?_); try simp only [oweC, oweP, opF, opH, ev, evs, evp, evo, Env.get, Env.set, putE, gdst, S0, S1, thenN, inBlockN, argEnv, builtinR, retE, fin, callR, reduceIte, Nat.reduceEqDiff, Nat.reduceAdd, reduceCtorEq, forall_const, Q57])
              simp [sub, Env.get, hfR]
          · simp only [s2, decide_false, Bool.not_false, Bool.false_and] at hfR ⊢
            refine ⟨fun h => (by cases h), fun _ => ?_⟩
            repeat ((try first | (refine z3 hX ?_; clear hX X) | (refine z2 hX ?_; clear hX X)); (first | refine zL fun X hX => ?_ | refine zH fun X hX => ?_ | refine zE fun X hX => ?_ | refine zl ?_ | refine zh ?_ | refine ze ?_); try simp only [oweC, oweP, opF, opH, ev, evs, evp, evo, Env.get, Env.set, putE, gdst, S0, S1, thenN, inBlockN, argEnv, builtinR, retE, fin, callR, reduceIte, Nat.reduceEqDiff, Nat.reduceAdd, reduceCtorEq, forall_const, Q57])
            simp [sub, Env.get, hfR]
        rintro w' rfl
        cases hfr : fitsR nds e with
        | false =>
          refine ok_cond (b := true) rfl (fun _ => ?_) (fun h => by cases h)
          refine ok_seq (fun M hM => ok_region rfl ?_); repeat ((try first | (refine z3 hX ?_; clear hX X) | (refine z2 hX ?_; clear hX X)); (first | refine zL fun X hX => ?_ | refine zH fun X hX => ?_ | refine zE fun X hX => ?_ | refine zl ?_ | refine zh ?_ | refine ze ?_); try simp only [oweC, oweP, opF, opH, ev, evs, evp, evo, Env.get, Env.set, putE, gdst, S0, S1, thenN, inBlockN, argEnv, builtinR, retE, fin, callR, reduceIte, Nat.reduceEqDiff, Nat.reduceAdd, reduceCtorEq, forall_const, Q57])
          refine hM _ _ _ ?_; clear hM M
          refine ok_ret ?_
          try simp only [wpL, wpH, wpE, oweC, oweP, opF, opH, ev, evs, evp, evo, Env.get, Env.set, putE, gdst, S0, S1, thenN, inBlockN, argEnv, builtinR, retE, fin, callR, reduceIte, Nat.reduceEqDiff, Nat.reduceAdd, reduceCtorEq, forall_const, Q57]
          exact he03
        | true =>
          refine ok_cond (b := false) rfl (fun h => by cases h) (fun _ => ok_skip ?_)
          try simp only [wpL, wpH, wpE, oweC, oweP, opF, opH, ev, evs, evp, evo, Env.get, Env.set, putE, gdst, S0, S1, thenN, inBlockN, argEnv, builtinR, retE, fin, callR, reduceIte, Nat.reduceEqDiff, Nat.reduceAdd, reduceCtorEq, forall_const, Q57]
          simp [sub, Env.get]
      rintro w4 ⟨hw4, hfr⟩
      subst hw4
      refine ok_region rfl ?_
      repeat ((try first | (refine z3 hX ?_; clear hX X) | (refine z2 hX ?_; clear hX X)); (first | refine zL fun X hX => ?_ | refine zH fun X hX => ?_ | refine zE fun X hX => ?_ | refine zl ?_ | refine zh ?_ | refine ze ?_); try simp only [oweC, oweP, opF, opH, ev, evs, evp, evo, Env.get, Env.set, putE, gdst, S0, S1, thenN, inBlockN, argEnv, builtinR, retE, fin, callR, reduceIte, Nat.reduceEqDiff, Nat.reduceAdd, reduceCtorEq, forall_const, Q57])
      refine ⟨_, hb13.cell (j := 1) rfl, ?_⟩
      repeat ((try first | (refine z3 hX ?_; clear hX X) | (refine z2 hX ?_; clear hX X)); (first | refine zL fun X hX => ?_ | refine zH fun X hX => ?_ | refine zE fun X hX => ?_ | refine zl ?_ | refine zh ?_ | refine ze ?_); try simp only [oweC, oweP, opF, opH, ev, evs, evp, evo, Env.get, Env.set, putE, gdst, S0, S1, thenN, inBlockN, argEnv, builtinR, retE, fin, callR, reduceIte, Nat.reduceEqDiff, Nat.reduceAdd, reduceCtorEq, forall_const, Q57])
      rw [hci]
      refine Inv.call Fx.en64 (enter_ok w4 bb S vn vb vks rows nds busy h3 (by omega) i d hd (by omega) hbd 1) ?_
      rintro v w5 ⟨rows5, hB5, hc5⟩
      repeat ((try first | (refine z3 hX ?_; clear hX X) | (refine z2 hX ?_; clear hX X)); (first | refine zL fun X hX => ?_ | refine zH fun X hX => ?_ | refine zE fun X hX => ?_ | refine zl ?_ | refine zh ?_ | refine ze ?_); try simp only [oweC, oweP, opF, opH, ev, evs, evp, evo, Env.get, Env.set, putE, gdst, S0, S1, thenN, inBlockN, argEnv, builtinR, retE, fin, callR, reduceIte, Nat.reduceEqDiff, Nat.reduceAdd, reduceCtorEq, forall_const, Q57])
      have hbz5 := busy_enter hbz h.lb hd hdp.1 hdp.2 1
      have : ({ d with state := 1 } : Nd) = d5 := by rw [hd5e, hp2]; simp
      rw [this] at hB5 hbz5
      exact ⟨by simp [sub, Env.get], hfr, rows5, _, hB5, hbz5, hc5⟩
    · have hp2 : ¬ e.port = 2 := by simpa using hport2
      rw [if_neg hp2, Bool.true_and] at hfR
      obtain ⟨gb, capb, curb, x, hvb, hx, hxc, -⟩ := h3.busyTurn (by omega) hil
      obtain ⟨x', hx', hxp⟩ := busy_pos hbz hil
      rw [hx] at hx'
      cases hx'
      rw [← hci] at hxp
      refine ok_join [(0, .pointer (some ⟨bb, 0, none⟩)), (3, .pointer (some ⟨B1, 0, none⟩))] (fun w' => Ext w3 w' ∧ fitsR nds e = true) ?_ ?_
      · refine ok_join [(0, .pointer (some ⟨bb, 0, none⟩)), (3, .pointer (some ⟨B1, 0, none⟩)), (129, .bool (!fitsR nds e))] (fun w' => Ext w3 w') ?_ ?_
        · refine (ok_draw 14 [] (Ext _) Fx.mixed (by decide) rfl (by decide +kernel) (by decide +kernel) (Ext.drew _) ?_)
          repeat ((try first | (refine z3 hX ?_; clear hX X) | (refine z2 hX ?_; clear hX X)); (first | refine zL fun X hX => ?_ | refine zH fun X hX => ?_ | refine zE fun X hX => ?_ | refine zl ?_ | refine zh ?_ | refine ze ?_); try simp only [oweC, oweP, opF, opH, ev, evs, evp, evo, Env.get, Env.set, putE, gdst, S0, S1, thenN, inBlockN, argEnv, builtinR, retE, fin, callR, reduceIte, Nat.reduceEqDiff, Nat.reduceAdd, reduceCtorEq, forall_const, Q57])
          by_cases s1 : d.state = 1
          · simp only [s1, decide_true, Bool.not_true, Bool.true_and] at hfR ⊢
            refine ⟨fun _ => ?_, fun h => by cases h⟩
            repeat ((try first | (refine z3 hX ?_; clear hX X) | (refine z2 hX ?_; clear hX X)); (first | refine zL fun X hX => ?_ | refine zH fun X hX => ?_ | refine zE fun X hX => ?_ | refine zl ?_ | refine zh ?_ | refine ze ?_); try simp only [oweC, oweP, opF, opH, ev, evs, evp, evo, Env.get, Env.set, putE, gdst, S0, S1, thenN, inBlockN, argEnv, builtinR, retE, fin, callR, reduceIte, Nat.reduceEqDiff, Nat.reduceAdd, reduceCtorEq, forall_const, Q57])
            refine ⟨vb, fun w' hw => (h3.head.ext hw).cell (j := 1) rfl, ?_⟩
            rw [hvb]
            repeat ((try first | (refine z3 hX ?_; clear hX X) | (refine z2 hX ?_; clear hX X)); (first | refine zL fun X hX => ?_ | refine zH fun X hX => ?_ | refine zE fun X hX => ?_ | refine zl ?_ | refine zh ?_ | refine ze ?_); try simp only [oweC, oweP, opF, opH, ev, evs, evp, evo, Env.get, Env.set, putE, gdst, S0, S1, thenN, inBlockN, argEnv, builtinR, retE, fin, callR, reduceIte, Nat.reduceEqDiff, Nat.reduceAdd, reduceCtorEq, forall_const, Q57])
            refine ⟨_, fun w' hw => (hb13.ext hw).cell (j := 1) rfl, ?_⟩
            repeat ((try first | (refine z3 hX ?_; clear hX X) | (refine z2 hX ?_; clear hX X)); (first | refine zL fun X hX => ?_ | refine zH fun X hX => ?_ | refine zE fun X hX => ?_ | refine zl ?_ | refine zh ?_ | refine ze ?_); try simp only [oweC, oweP, opF, opH, ev, evs, evp, evo, Env.get, Env.set, putE, gdst, S0, S1, thenN, inBlockN, argEnv, builtinR, retE, fin, callR, reduceIte, Nat.reduceEqDiff, Nat.reduceAdd, reduceCtorEq, forall_const, Q57])
            refine ⟨by simp only [inI]; omega, ?_⟩
            repeat ((try first | (refine z3 hX ?_; clear hX X) | (refine z2 hX ?_; clear hX X)); (first | refine zL fun X hX => ?_ | refine zH fun X hX => ?_ | refine zE fun X hX => ?_ | refine zl ?_ | refine zh ?_ | refine ze ?_); try simp only [oweC, oweP, opF, opH, ev, evs, evp, evo, Env.get, Env.set, putE, gdst, S0, S1, thenN, inBlockN, argEnv, builtinR, retE, fin, callR, reduceIte, Nat.reduceEqDiff, Nat.reduceAdd, reduceCtorEq, forall_const, Q57])
            refine ⟨by omega, by omega, ?_⟩
            rw [hci0]
            repeat ((try first | (refine z3 hX ?_; clear hX X) | (refine z2 hX ?_; clear hX X)); (first | refine zL fun X hX => ?_ | refine zH fun X hX => ?_ | refine zE fun X hX => ?_ | refine zl ?_ | refine zh ?_ | refine ze ?_); try simp only [oweC, oweP, opF, opH, ev, evs, evp, evo, Env.get, Env.set, putE, gdst, S0, S1, thenN, inBlockN, argEnv, builtinR, retE, fin, callR, reduceIte, Nat.reduceEqDiff, Nat.reduceAdd, reduceCtorEq, forall_const, Q57])
            refine ⟨.int .i64 x, fun w' hw => hw.cell (by simpa [add_at] using hxc), ?_⟩
            repeat ((try first | (refine z3 hX ?_; clear hX X) | (refine z2 hX ?_; clear hX X)); (first | refine zL fun X hX => ?_ | refine zH fun X hX => ?_ | refine zE fun X hX => ?_ | refine zl ?_ | refine zh ?_ | refine ze ?_); try simp only [oweC, oweP, opF, opH, ev, evs, evp, evo, Env.get, Env.set, putE, gdst, S0, S1, thenN, inBlockN, argEnv, builtinR, retE, fin, callR, reduceIte, Nat.reduceEqDiff, Nat.reduceAdd, reduceCtorEq, forall_const, Q57])
            intro w4 he4
            repeat ((try first | (refine z3 hX ?_; clear hX X) | (refine z2 hX ?_; clear hX X)); (first | refine zL fun X hX => ?_ | refine zH fun X hX => ?_ | refine zE fun X hX => ?_ | refine zl ?_ | refine zh ?_ | refine ze ?_); try simp only [oweC, oweP, opF, opH, ev, evs, evp, evo, Env.get, Env.set, putE, gdst, S0, S1, thenN, inBlockN, argEnv, builtinR, retE, fin, callR, reduceIte, Nat.reduceEqDiff, Nat.reduceAdd, reduceCtorEq, forall_const, Q57])
            refine ⟨?_, he4⟩
            rw [hfR, Bool.not_not]
            have : decide (0 < x) = nds.any (inKid e.call) := by
              cases ha : nds.any (inKid e.call) with
              | true => simpa using hxp.2 ha
              | false => simp only [decide_eq_false_iff_not]; intro h0; rw [hxp.1 h0] at ha; cases ha
            simp [sub, Env.get, this]
          · simp only [s1, decide_false, Bool.not_false, Bool.false_and] at hfR ⊢
            refine ⟨fun h => (by cases h), fun _ => ?_⟩
            repeat ((try first | (refine z3 hX ?_; clear hX X) | (refine z2 hX ?_; clear hX X)); (first | refine zL fun X hX => ?_ | refine zH fun X hX => ?_ | refine zE fun X hX => ?_ | refine zl ?_ | refine zh ?_ | refine ze ?_); try simp only [oweC, oweP, opF, opH, ev, evs, evp, evo, Env.get, Env.set, putE, gdst, S0, S1, thenN, inBlockN, argEnv, builtinR, retE, fin, callR, reduceIte, Nat.reduceEqDiff, Nat.reduceAdd, reduceCtorEq, forall_const, Q57])
            intro w4 he4
            repeat ((try first | (refine z3 hX ?_; clear hX X) | (refine z2 hX ?_; clear hX X)); (first | refine zL fun X hX => ?_ | refine zH fun X hX => ?_ | refine zE fun X hX => ?_ | refine zl ?_ | refine zh ?_ | refine ze ?_); try simp only [oweC, oweP, opF, opH, ev, evs, evp, evo, Env.get, Env.set, putE, gdst, S0, S1, thenN, inBlockN, argEnv, builtinR, retE, fin, callR, reduceIte, Nat.reduceEqDiff, Nat.reduceAdd, reduceCtorEq, forall_const, Q57])
            simp [sub, Env.get, hfR, he4]
        intro w4 he4
        cases hfr : fitsR nds e with
        | false =>
          refine ok_cond (b := true) rfl (fun _ => ?_) (fun h => by cases h)
          refine ok_seq (fun M hM => ok_region rfl ?_); repeat ((try first | (refine z3 hX ?_; clear hX X) | (refine z2 hX ?_; clear hX X)); (first | refine zL fun X hX => ?_ | refine zH fun X hX => ?_ | refine zE fun X hX => ?_ | refine zl ?_ | refine zh ?_ | refine ze ?_); try simp only [oweC, oweP, opF, opH, ev, evs, evp, evo, Env.get, Env.set, putE, gdst, S0, S1, thenN, inBlockN, argEnv, builtinR, retE, fin, callR, reduceIte, Nat.reduceEqDiff, Nat.reduceAdd, reduceCtorEq, forall_const, Q57])
          refine hM _ _ _ ?_; clear hM M
          refine ok_ret ?_
          try simp only [wpL, wpH, wpE, oweC, oweP, opF, opH, ev, evs, evp, evo, Env.get, Env.set, putE, gdst, S0, S1, thenN, inBlockN, argEnv, builtinR, retE, fin, callR, reduceIte, Nat.reduceEqDiff, Nat.reduceAdd, reduceCtorEq, forall_const, Q57]
          exact he03.trans he4
        | true =>
          refine ok_cond (b := false) rfl (fun h => by cases h) (fun _ => ok_skip ?_)
          try simp only [wpL, wpH, wpE, oweC, oweP, opF, opH, ev, evs, evp, evo, Env.get, Env.set, putE, gdst, S0, S1, thenN, inBlockN, argEnv, builtinR, retE, fin, callR, reduceIte, Nat.reduceEqDiff, Nat.reduceAdd, reduceCtorEq, forall_const, Q57]
          simp [sub, Env.get, he4]
      rintro w4 ⟨he4, hfr⟩
      rw [hfr] at hfR
      have hfR' := hfR.symm
      simp only [Bool.and_eq_true, decide_eq_true_eq] at hfR'
      have s1 := hfR'.1
      have h4 := h3.ext he4
      have hb14 := hb13.ext he4
      have he14 := he3.trans he4
      have hs4 := he4.size
      refine ok_seq (fun M hM => ok_region rfl ?_)
      repeat ((try first | (refine z3 hX ?_; clear hX X) | (refine z2 hX ?_; clear hX X)); (first | refine zL fun X hX => ?_ | refine zH fun X hX => ?_ | refine zE fun X hX => ?_ | refine zl ?_ | refine zh ?_ | refine ze ?_); try simp only [oweC, oweP, opF, opH, ev, evs, evp, evo, Env.get, Env.set, putE, gdst, S0, S1, thenN, inBlockN, argEnv, builtinR, retE, fin, callR, reduceIte, Nat.reduceEqDiff, Nat.reduceAdd, reduceCtorEq, forall_const, Q57])
      refine ⟨_, hb14.cell (j := 1) rfl, ?_⟩
      repeat ((try first | (refine z3 hX ?_; clear hX X) | (refine z2 hX ?_; clear hX X)); (first | refine zL fun X hX => ?_ | refine zH fun X hX => ?_ | refine zE fun X hX => ?_ | refine zl ?_ | refine zh ?_ | refine ze ?_); try simp only [oweC, oweP, opF, opH, ev, evs, evp, evo, Env.get, Env.set, putE, gdst, S0, S1, thenN, inBlockN, argEnv, builtinR, retE, fin, callR, reduceIte, Nat.reduceEqDiff, Nat.reduceAdd, reduceCtorEq, forall_const, Q57])
      rw [hci]
      refine Inv.call Fx.en64 (enter_ok w4 bb S vn vb vks rows nds busy h4 (by omega) i d hd (by omega) hbd 3) ?_
      rintro v w5 ⟨rows5, hB5, hc5⟩
      repeat ((try first | (refine z3 hX ?_; clear hX X) | (refine z2 hX ?_; clear hX X)); (first | refine zL fun X hX => ?_ | refine zH fun X hX => ?_ | refine zE fun X hX => ?_ | refine zl ?_ | refine zh ?_ | refine ze ?_); try simp only [oweC, oweP, opF, opH, ev, evs, evp, evo, Env.get, Env.set, putE, gdst, S0, S1, thenN, inBlockN, argEnv, builtinR, retE, fin, callR, reduceIte, Nat.reduceEqDiff, Nat.reduceAdd, reduceCtorEq, forall_const, Q57])
      refine hM _ _ _ ?_; clear hM M
      have hbz5 := busy_enter hbz h.lb hd hdp.1 hdp.2 3
      have hb15 := hb14.chg hc5 hnF1
      have hs45 := hc5.size
      refine ok_seq (fun M hM => ok_region rfl ?_)
      repeat ((try first | (refine z3 hX ?_; clear hX X) | (refine z2 hX ?_; clear hX X)); (first | refine zL fun X hX => ?_ | refine zH fun X hX => ?_ | refine zE fun X hX => ?_ | refine zl ?_ | refine zh ?_ | refine ze ?_); try simp only [oweC, oweP, opF, opH, ev, evs, evp, evo, Env.get, Env.set, putE, gdst, S0, S1, thenN, inBlockN, argEnv, builtinR, retE, fin, callR, reduceIte, Nat.reduceEqDiff, Nat.reduceAdd, reduceCtorEq, forall_const, Q57])
      refine ⟨.int .i64 e.port, hb15.cell (j := 0) rfl, ?_⟩
      repeat ((try first | (refine z3 hX ?_; clear hX X) | (refine z2 hX ?_; clear hX X)); (first | refine zL fun X hX => ?_ | refine zH fun X hX => ?_ | refine zE fun X hX => ?_ | refine zl ?_ | refine zh ?_ | refine ze ?_); try simp only [oweC, oweP, opF, opH, ev, evs, evp, evo, Env.get, Env.set, putE, gdst, S0, S1, thenN, inBlockN, argEnv, builtinR, retE, fin, callR, reduceIte, Nat.reduceEqDiff, Nat.reduceAdd, reduceCtorEq, forall_const, Q57])
      refine hM _ _ _ ?_; clear hM M
      refine ok_if rfl (fun hport1 => ?_) (fun hport1 => ok_skip ?_)
      rotate_left
      · have hp1 : ¬ e.port = 1 := by simpa using hport1
        try simp only [wpL, wpH, wpE, oweC, oweP, opF, opH, ev, evs, evp, evo, Env.get, Env.set, putE, gdst, S0, S1, thenN, inBlockN, argEnv, builtinR, retE, fin, callR, reduceIte, Nat.reduceEqDiff, Nat.reduceAdd, reduceCtorEq, forall_const, Q57]
        have : ({ d with state := 3 } : Nd) = d5 := by rw [hd5e]; simp [hport, hp2, hp1]
        rw [this] at hB5 hbz5
        exact ⟨by simp [sub, Env.get], hfr, rows5, _, hB5, hbz5, (he4.chg _).trans hc5⟩
      have hp1 : e.port = 1 := by simpa using hport1
      have hd3 : (nds.set i { d with state := 3 })[i]? = some { d with state := 3 } := List.getElem?_set_self hil
      have hl5 : (nds.set i { d with state := 3 }).length = nds.length := List.length_set
      have hbd5 := busy_bound hbz5 (by rw [hB5.lb]) (by omega)
      refine ok_seq (fun M hM => ok_region rfl ?_)
      repeat ((try first | (refine z3 hX ?_; clear hX X) | (refine z2 hX ?_; clear hX X)); (first | refine zL fun X hX => ?_ | refine zH fun X hX => ?_ | refine zE fun X hX => ?_ | refine zl ?_ | refine zh ?_ | refine ze ?_); try simp only [oweC, oweP, opF, opH, ev, evs, evp, evo, Env.get, Env.set, putE, gdst, S0, S1, thenN, inBlockN, argEnv, builtinR, retE, fin, callR, reduceIte, Nat.reduceEqDiff, Nat.reduceAdd, reduceCtorEq, forall_const, Q57])
      refine ⟨_, hb15.cell (j := 1) rfl, ?_⟩
      repeat ((try first | (refine z3 hX ?_; clear hX X) | (refine z2 hX ?_; clear hX X)); (first | refine zL fun X hX => ?_ | refine zH fun X hX => ?_ | refine zE fun X hX => ?_ | refine zl ?_ | refine zh ?_ | refine ze ?_); try simp only [oweC, oweP, opF, opH, ev, evs, evp, evo, Env.get, Env.set, putE, gdst, S0, S1, thenN, inBlockN, argEnv, builtinR, retE, fin, callR, reduceIte, Nat.reduceEqDiff, Nat.reduceAdd, reduceCtorEq, forall_const, Q57])
      rw [hci]
      refine Inv.call Fx.en64 (enter_ok w5 bb S vn vb vks rows5 _ _ hB5 (by omega) i { d with state := 3 } hd3 (by simp only; omega) hbd5 2) ?_
      rintro v w6 ⟨rows6, hB6, hc6⟩
      repeat ((try first | (refine z3 hX ?_; clear hX X) | (refine z2 hX ?_; clear hX X)); (first | refine zL fun X hX => ?_ | refine zH fun X hX => ?_ | refine zE fun X hX => ?_ | refine zl ?_ | refine zh ?_ | refine ze ?_); try simp only [oweC, oweP, opF, opH, ev, evs, evp, evo, Env.get, Env.set, putE, gdst, S0, S1, thenN, inBlockN, argEnv, builtinR, retE, fin, callR, reduceIte, Nat.reduceEqDiff, Nat.reduceAdd, reduceCtorEq, forall_const, Q57])
      refine hM _ _ _ ?_; clear hM M
      have hbz6 := busy_enter hbz5 (by rw [hB5.lb]) hd3 hdp.1 hdp.2 2
      have hb16 := hb15.chg hc6 hnF1
      have hs56 := hc6.size
      rw [List.set_set] at hB6 hbz6
      have hve6 : VSlS w6 S (.slice Ae e.args.length ce) e.args := ((hve.chg ((he1.trans he14).chg (fun _ => False)) (fun k hk => ⟨hk, id⟩)).chg hc5 (fun k hk => ⟨hk, h.sdis k hk⟩)).chg hc6 (fun k hk => ⟨hk, h.sdis k hk⟩)
      have hd6 : (nds.set i { d with state := 2 })[i]? = some { d with state := 2 } := List.getElem?_set_self hil
      obtain ⟨gL, capL, curL, hvL, hgFL, hbL, hleL, hputL⟩ := hB6.turnG hd6 (d' := { d with state := 2, last := e.args }) (off := 9) (u := .slice Ae e.args.length ce) id (fun _ => .slice Ae e.args.length ce) (by omega) (fun va vl vk => row_set_last (d := { d with state := 2 }) h55 e.args va vl vk _) (fun _ h => h) (fun _ _ => hve6) rfl h55
      rw [List.length_set] at hvL
      refine (ok_draw 11 [(false, true)] (Ext _) Fx.mixed (by decide) rfl (by decide +kernel) (by decide +kernel) (Ext.drew _) ?_)
      repeat ((try first | (refine z3 hX ?_; clear hX X) | (refine z2 hX ?_; clear hX X)); (first | refine zL fun X hX => ?_ | refine zH fun X hX => ?_ | refine zE fun X hX => ?_ | refine zl ?_ | refine zh ?_ | refine ze ?_); try simp only [oweC, oweP, opF, opH, ev, evs, evp, evo, Env.get, Env.set, putE, gdst, S0, S1, thenN, inBlockN, argEnv, builtinR, retE, fin, callR, reduceIte, Nat.reduceEqDiff, Nat.reduceAdd, reduceCtorEq, forall_const, Q57])
      refine ⟨vn, fun w' hw => (hB6.head.ext hw).cell (j := 0) rfl, ?_⟩
      rw [hvL]
      repeat ((try first | (refine z3 hX ?_; clear hX X) | (refine z2 hX ?_; clear hX X)); (first | refine zL fun X hX => ?_ | refine zH fun X hX => ?_ | refine zE fun X hX => ?_ | refine zl ?_ | refine zh ?_ | refine ze ?_); try simp only [oweC, oweP, opF, opH, ev, evs, evp, evo, Env.get, Env.set, putE, gdst, S0, S1, thenN, inBlockN, argEnv, builtinR, retE, fin, callR, reduceIte, Nat.reduceEqDiff, Nat.reduceAdd, reduceCtorEq, forall_const, Q57])
      refine ⟨_, fun w' hw => (hb16.ext hw).cell (j := 1) rfl, ?_⟩
      repeat ((try first | (refine z3 hX ?_; clear hX X) | (refine z2 hX ?_; clear hX X)); (first | refine zL fun X hX => ?_ | refine zH fun X hX => ?_ | refine zE fun X hX => ?_ | refine zl ?_ | refine zh ?_ | refine ze ?_); try simp only [oweC, oweP, opF, opH, ev, evs, evp, evo, Env.get, Env.set, putE, gdst, S0, S1, thenN, inBlockN, argEnv, builtinR, retE, fin, callR, reduceIte, Nat.reduceEqDiff, Nat.reduceAdd, reduceCtorEq, forall_const, Q57])
      refine ⟨by simp only [inI]; omega, ?_⟩
      repeat ((try first | (refine z3 hX ?_; clear hX X) | (refine z2 hX ?_; clear hX X)); (first | refine zL fun X hX => ?_ | refine zH fun X hX => ?_ | refine zE fun X hX => ?_ | refine zl ?_ | refine zh ?_ | refine ze ?_); try simp only [oweC, oweP, opF, opH, ev, evs, evp, evo, Env.get, Env.set, putE, gdst, S0, S1, thenN, inBlockN, argEnv, builtinR, retE, fin, callR, reduceIte, Nat.reduceEqDiff, Nat.reduceAdd, reduceCtorEq, forall_const, Q57])
      refine ⟨_, fun w' hw => (hb16.ext hw).cell (j := 5) rfl, ?_⟩
      repeat ((try first | (refine z3 hX ?_; clear hX X) | (refine z2 hX ?_; clear hX X)); (first | refine zL fun X hX => ?_ | refine zH fun X hX => ?_ | refine zE fun X hX => ?_ | refine zl ?_ | refine zh ?_ | refine ze ?_); try simp only [oweC, oweP, opF, opH, ev, evs, evp, evo, Env.get, Env.set, putE, gdst, S0, S1, thenN, inBlockN, argEnv, builtinR, retE, fin, callR, reduceIte, Nat.reduceEqDiff, Nat.reduceAdd, reduceCtorEq, forall_const, Q57])
      refine ⟨by omega, by omega, ?_⟩
      rw [hci0]
      repeat ((try first | (refine z3 hX ?_; clear hX X) | (refine z2 hX ?_; clear hX X)); (first | refine zL fun X hX => ?_ | refine zH fun X hX => ?_ | refine zE fun X hX => ?_ | refine zl ?_ | refine zh ?_ | refine ze ?_); try simp only [oweC, oweP, opF, opH, ev, evs, evp, evo, Env.get, Env.set, putE, gdst, S0, S1, thenN, inBlockN, argEnv, builtinR, retE, fin, callR, reduceIte, Nat.reduceEqDiff, Nat.reduceAdd, reduceCtorEq, forall_const, Q57])
      intro w7 he7
      repeat ((try first | (refine z3 hX ?_; clear hX X) | (refine z2 hX ?_; clear hX X)); (first | refine zL fun X hX => ?_ | refine zH fun X hX => ?_ | refine zE fun X hX => ?_ | refine zl ?_ | refine zh ?_ | refine ze ?_); try simp only [oweC, oweP, opF, opH, ev, evs, evp, evo, Env.get, Env.set, putE, gdst, S0, S1, thenN, inBlockN, argEnv, builtinR, retE, fin, callR, reduceIte, Nat.reduceEqDiff, Nat.reduceAdd, reduceCtorEq, forall_const, Q57])
      simp only [Nat.zero_add, Nat.add_assoc]
      refine Runs.store (hbL.ext he7) Fx.zi35' rfl (by intro u hu; simp [Value.cells] at hu; subst hu; rfl) (by simpa [Value.cells] using hleL) (fun w8 hc8 hs8 hb8 => ?_)
      repeat ((try first | (refine z3 hX ?_; clear hX X) | (refine z2 hX ?_; clear hX X)); (first | refine zL fun X hX => ?_ | refine zH fun X hX => ?_ | refine zE fun X hX => ?_ | refine zl ?_ | refine zh ?_ | refine ze ?_); try simp only [oweC, oweP, opF, opH, ev, evs, evp, evo, Env.get, Env.set, putE, gdst, S0, S1, thenN, inBlockN, argEnv, builtinR, retE, fin, callR, reduceIte, Nat.reduceEqDiff, Nat.reduceAdd, reduceCtorEq, forall_const, Q57])
      obtain ⟨rows8, hB8⟩ := hputL w8 ((he7.chg _).trans hc8) (by simpa [Value.cells] using hb8)
      have hc68 : Chg (BFoot bb vn vb vks) w6 w8 := ((he7.chg _).trans hc8).mono fun k _ hk => by rw [hk]; exact hgFL
      have hbz8 := busy_turn hbz6 hd6 (d' := { d with state := 2, last := e.args }) rfl rfl
      rw [List.set_set] at hB8 hbz8
      have : ({ d with state := 2, last := e.args } : Nd) = d5 := by rw [hd5e]; simp [hp1]
      rw [this] at hB8 hbz8
      exact ⟨by simp [sub, Env.get], hfr, rows8, _, hB8, hbz8, (he4.chg _).trans (hc5.trans (hc6.trans hc68))⟩
  rintro w5 ⟨hfr, rows5, busy5, hB5, hbz5, hc35⟩
  rw [hfr]
  have hbE5 := hb13.chg hc35 hnF1
  have hs35 := hc35.size
  have hd5 : (nds.set i d5)[i]? = some d5 := List.getElem?_set_self hil
  obtain ⟨p, hpp⟩ : ∃ p : Nat, e.port = (p : Int) := ⟨e.port.toNat, by omega⟩
  have hp5 : p < 5 := by omega
  have h55' : d.ports = d5.ports := by rw [hd5e]
  rw [h55'] at h55
  have hxl : d5.ports[p]? = some (d5.ports[p]'(by omega)) := List.getElem?_eq_getElem _
  obtain ⟨x, hx⟩ : ∃ x, d5.ports[p]? = some x := ⟨_, hxl⟩
  have hxb := (hw.ports i d hd).2 x (by rw [h55']; exact List.mem_of_getElem? hx)
  have hn5 : (nds.set i d5).length ≤ 1048576 := by rw [List.length_set]; omega
  have hl5 : (nds.set i d5).length = nds.length := List.length_set
  obtain ⟨vn5, hvn5e⟩ : ∃ v, v = vn := ⟨_, rfl⟩
  obtain ⟨vb5, hvb5e⟩ : ∃ v, v = vb := ⟨_, rfl⟩
  obtain ⟨vks5, hvks5e⟩ : ∃ v, v = vks := ⟨_, rfl⟩
  rw [← hvn5e, ← hvb5e, ← hvks5e] at hB5
  obtain ⟨gP, capP, curP, hvP, hgFP, hbP, hleP, hputP⟩ := hB5.turnG hd5 (d' := { d5 with ports := d5.ports.set p (x + 1) }) (off := 3 + p) (u := .int .i64 (x + 1)) id id (by omega) (fun va vl vk => row_set_port h55 hp5 (x + 1) va vl vk) (fun _ h => h) (fun _ h => h) rfl (by simpa using h55)
  obtain ⟨gP', capP', vaP, vlP, vkP, hvP', -, -, hcellP, -⟩ := hB5.nm.at_ (by omega) hd5
  rw [hvP] at hvP'
  cases hvP'
  have hxcell := hcellP (3 + p) _ (row_port hx vaP vlP vkP)
  have hi5 := (List.getElem?_eq_some_iff.1 hd5).1
  have hci1 : (e.call - 1).toNat = i := by omega
  have hpt : e.port.toNat = p := by omega
  refine ok_seq (fun M hM => (ok_draw 17 [(false, true)] (Ext _) Fx.mixed (by decide) rfl (by decide +kernel) (by decide +kernel) (Ext.drew _) ?_))
  repeat ((try first | (refine z3 hX ?_; clear hX X) | (refine z2 hX ?_; clear hX X)); (first | refine zL fun X hX => ?_ | refine zH fun X hX => ?_ | refine zE fun X hX => ?_ | refine zl ?_ | refine zh ?_ | refine ze ?_); try simp only [oweC, oweP, opF, opH, ev, evs, evp, evo, Env.get, Env.set, putE, gdst, S0, S1, thenN, inBlockN, argEnv, builtinR, retE, fin, callR, reduceIte, Nat.reduceEqDiff, Nat.reduceAdd, reduceCtorEq, forall_const, Q57])
  refine ⟨_, fun w' hw => (hB5.head.ext hw).cell (j := 0) rfl, ?_⟩
  rw [hvP]
  repeat ((try first | (refine z3 hX ?_; clear hX X) | (refine z2 hX ?_; clear hX X)); (first | refine zL fun X hX => ?_ | refine zH fun X hX => ?_ | refine zE fun X hX => ?_ | refine zl ?_ | refine zh ?_ | refine ze ?_); try simp only [oweC, oweP, opF, opH, ev, evs, evp, evo, Env.get, Env.set, putE, gdst, S0, S1, thenN, inBlockN, argEnv, builtinR, retE, fin, callR, reduceIte, Nat.reduceEqDiff, Nat.reduceAdd, reduceCtorEq, forall_const, Q57])
  refine ⟨_, fun w' hw => (hbE5.ext hw).cell (j := 1) rfl, ?_⟩
  repeat ((try first | (refine z3 hX ?_; clear hX X) | (refine z2 hX ?_; clear hX X)); (first | refine zL fun X hX => ?_ | refine zH fun X hX => ?_ | refine zE fun X hX => ?_ | refine zl ?_ | refine zh ?_ | refine ze ?_); try simp only [oweC, oweP, opF, opH, ev, evs, evp, evo, Env.get, Env.set, putE, gdst, S0, S1, thenN, inBlockN, argEnv, builtinR, retE, fin, callR, reduceIte, Nat.reduceEqDiff, Nat.reduceAdd, reduceCtorEq, forall_const, Q57])
  refine ⟨by simp only [inI]; omega, ?_⟩
  repeat ((try first | (refine z3 hX ?_; clear hX X) | (refine z2 hX ?_; clear hX X)); (first | refine zL fun X hX => ?_ | refine zH fun X hX => ?_ | refine zE fun X hX => ?_ | refine zl ?_ | refine zh ?_ | refine ze ?_); try simp only [oweC, oweP, opF, opH, ev, evs, evp, evo, Env.get, Env.set, putE, gdst, S0, S1, thenN, inBlockN, argEnv, builtinR, retE, fin, callR, reduceIte, Nat.reduceEqDiff, Nat.reduceAdd, reduceCtorEq, forall_const, Q57])
  refine ⟨_, fun w' hw => (hbE5.ext hw).cell (j := 0) rfl, ?_⟩
  repeat ((try first | (refine z3 hX ?_; clear hX X) | (refine z2 hX ?_; clear hX X)); (first | refine zL fun X hX => ?_ | refine zH fun X hX => ?_ | refine zE fun X hX => ?_ | refine zl ?_ | refine zh ?_ | refine ze ?_); try simp only [oweC, oweP, opF, opH, ev, evs, evp, evo, Env.get, Env.set, putE, gdst, S0, S1, thenN, inBlockN, argEnv, builtinR, retE, fin, callR, reduceIte, Nat.reduceEqDiff, Nat.reduceAdd, reduceCtorEq, forall_const, Q57])
  refine ⟨by omega, by omega, ?_⟩
  rw [hci1]
  repeat ((try first | (refine z3 hX ?_; clear hX X) | (refine z2 hX ?_; clear hX X)); (first | refine zL fun X hX => ?_ | refine zH fun X hX => ?_ | refine zE fun X hX => ?_ | refine zl ?_ | refine zh ?_ | refine ze ?_); try simp only [oweC, oweP, opF, opH, ev, evs, evp, evo, Env.get, Env.set, putE, gdst, S0, S1, thenN, inBlockN, argEnv, builtinR, retE, fin, callR, reduceIte, Nat.reduceEqDiff, Nat.reduceAdd, reduceCtorEq, forall_const, Q57])
  refine ⟨by omega, by omega, ?_⟩
  rw [hpt]
  repeat ((try first | (refine z3 hX ?_; clear hX X) | (refine z2 hX ?_; clear hX X)); (first | refine zL fun X hX => ?_ | refine zH fun X hX => ?_ | refine zE fun X hX => ?_ | refine zl ?_ | refine zh ?_ | refine ze ?_); try simp only [oweC, oweP, opF, opH, ev, evs, evp, evo, Env.get, Env.set, putE, gdst, S0, S1, thenN, inBlockN, argEnv, builtinR, retE, fin, callR, reduceIte, Nat.reduceEqDiff, Nat.reduceAdd, reduceCtorEq, forall_const, Q57])
  refine ⟨.int .i64 x, fun w' hw => hw.cell (by simpa [add_at, Nat.add_assoc] using hxcell), ?_⟩
  repeat ((try first | (refine z3 hX ?_; clear hX X) | (refine z2 hX ?_; clear hX X)); (first | refine zL fun X hX => ?_ | refine zH fun X hX => ?_ | refine zE fun X hX => ?_ | refine zl ?_ | refine zh ?_ | refine ze ?_); try simp only [oweC, oweP, opF, opH, ev, evs, evp, evo, Env.get, Env.set, putE, gdst, S0, S1, thenN, inBlockN, argEnv, builtinR, retE, fin, callR, reduceIte, Nat.reduceEqDiff, Nat.reduceAdd, reduceCtorEq, forall_const, Q57])
  refine ⟨by simp only [inI]; omega, ?_⟩
  repeat ((try first | (refine z3 hX ?_; clear hX X) | (refine z2 hX ?_; clear hX X)); (first | refine zL fun X hX => ?_ | refine zH fun X hX => ?_ | refine zE fun X hX => ?_ | refine zl ?_ | refine zh ?_ | refine ze ?_); try simp only [oweC, oweP, opF, opH, ev, evs, evp, evo, Env.get, Env.set, putE, gdst, S0, S1, thenN, inBlockN, argEnv, builtinR, retE, fin, callR, reduceIte, Nat.reduceEqDiff, Nat.reduceAdd, reduceCtorEq, forall_const, Q57])
  refine ⟨by omega, by omega, ?_⟩
  rw [hci1]
  repeat ((try first | (refine z3 hX ?_; clear hX X) | (refine z2 hX ?_; clear hX X)); (first | refine zL fun X hX => ?_ | refine zH fun X hX => ?_ | refine zE fun X hX => ?_ | refine zl ?_ | refine zh ?_ | refine ze ?_); try simp only [oweC, oweP, opF, opH, ev, evs, evp, evo, Env.get, Env.set, putE, gdst, S0, S1, thenN, inBlockN, argEnv, builtinR, retE, fin, callR, reduceIte, Nat.reduceEqDiff, Nat.reduceAdd, reduceCtorEq, forall_const, Q57])
  refine ⟨by omega, by omega, ?_⟩
  rw [hpt]
  repeat ((try first | (refine z3 hX ?_; clear hX X) | (refine z2 hX ?_; clear hX X)); (first | refine zL fun X hX => ?_ | refine zH fun X hX => ?_ | refine zE fun X hX => ?_ | refine zl ?_ | refine zh ?_ | refine ze ?_); try simp only [oweC, oweP, opF, opH, ev, evs, evp, evo, Env.get, Env.set, putE, gdst, S0, S1, thenN, inBlockN, argEnv, builtinR, retE, fin, callR, reduceIte, Nat.reduceEqDiff, Nat.reduceAdd, reduceCtorEq, forall_const, Q57])
  intro w6 he6
  repeat ((try first | (refine z3 hX ?_; clear hX X) | (refine z2 hX ?_; clear hX X)); (first | refine zL fun X hX => ?_ | refine zH fun X hX => ?_ | refine zE fun X hX => ?_ | refine zl ?_ | refine zh ?_ | refine ze ?_); try simp only [oweC, oweP, opF, opH, ev, evs, evp, evo, Env.get, Env.set, putE, gdst, S0, S1, thenN, inBlockN, argEnv, builtinR, retE, fin, callR, reduceIte, Nat.reduceEqDiff, Nat.reduceAdd, reduceCtorEq, forall_const, Q57])
  simp only [Nat.zero_add, Nat.add_assoc]
  refine Runs.store (hbP.ext he6) Fx.zi3 rfl (by intro u hu; simp [Value.cells] at hu; subst hu; rfl) (by simpa [Nat.add_assoc] using hleP) (fun w7 hc7 hs7 hb7 => ?_)
  repeat ((try first | (refine z3 hX ?_; clear hX X) | (refine z2 hX ?_; clear hX X)); (first | refine zL fun X hX => ?_ | refine zH fun X hX => ?_ | refine zE fun X hX => ?_ | refine zl ?_ | refine zh ?_ | refine ze ?_); try simp only [oweC, oweP, opF, opH, ev, evs, evp, evo, Env.get, Env.set, putE, gdst, S0, S1, thenN, inBlockN, argEnv, builtinR, retE, fin, callR, reduceIte, Nat.reduceEqDiff, Nat.reduceAdd, reduceCtorEq, forall_const, Q57])
  refine hM _ _ _ ?_; clear hM M
  obtain ⟨rows7, hB7⟩ := hputP w7 ((he6.chg _).trans hc7) (by simpa [Nat.add_assoc, Value.cells] using hb7)
  have hc57 : Chg (BFoot bb vn5 vb5 vks5) w5 w7 := ((he6.chg _).trans hc7).mono fun k _ hk => by rw [hk]; exact hgFP
  have hs57 := hc57.size
  refine ok_seq (fun M hM => ok_region rfl ?_); repeat ((try first | (refine z3 hX ?_; clear hX X) | (refine z2 hX ?_; clear hX X)); (first | refine zL fun X hX => ?_ | refine zH fun X hX => ?_ | refine zE fun X hX => ?_ | refine zl ?_ | refine zh ?_ | refine ze ?_); try simp only [oweC, oweP, opF, opH, ev, evs, evp, evo, Env.get, Env.set, putE, gdst, S0, S1, thenN, inBlockN, argEnv, builtinR, retE, fin, callR, reduceIte, Nat.reduceEqDiff, Nat.reduceAdd, reduceCtorEq, forall_const, Q57])
  refine hM _ _ _ ?_; clear hM M
  refine ok_ret ?_
  try simp only [wpL, wpH, wpE, oweC, oweP, opF, opH, ev, evs, evp, evo, Env.get, Env.set, putE, gdst, S0, S1, thenN, inBlockN, argEnv, builtinR, retE, fin, callR, reduceIte, Nat.reduceEqDiff, Nat.reduceAdd, reduceCtorEq, forall_const, Q57]
  have hfin : (nds.set i d5).set i { d5 with ports := d5.ports.set p (x + 1) } = stepN nds e := by
    rw [List.set_set]
    unfold stepN
    rw [if_neg hport, hci1, modify_set _ _ _ _ hd]
    congr 1
    have hgx : d.ports.getD p 0 = x := by rw [h55', List.getD_eq_getElem?_getD, hx]; rfl
    rw [hd5e]
    simp only [stepD, hpt, hgx]
  have hbz7 := busy_turn hbz5 hd5 (d' := { d5 with ports := d5.ports.set p (x + 1) }) rfl rfl
  rw [hfin] at hB7 hbz7
  rw [hvn5e, hvb5e, hvks5e] at hB7 hc57
  exact ⟨_, _, _, _, _, hB7, hbz7, (he1.chg _).trans ((he3.chg _).trans (hc35.trans hc57)), fun k hk => .inl hk⟩
end Go.Proofs.Ytafjfcameabbmaa
/- The calls: kids are those whose parent is the call; the tree of the calls that are out, and its size. -/
set_option linter.unusedVariables false
set_option linter.unusedSimpArgs false
namespace Go.Proofs.Vg
open Go Go.RowKit
/-- The numbers of the calls (the first is j) whose parent is c. -/
def kidsG : List Nd → Int → Int → List Int
  | [], _, _ => []
  | d :: ds, j, c => if d.parent = c then j :: kidsG ds (j + 1) c else kidsG ds (j + 1) c
theorem kidsG_app : ∀ (l l' : List Nd) (j c : Int), kidsG (l ++ l') j c = kidsG l j c ++ kidsG l' (j + l.length) c
  | [], l', j, c => by simp [kidsG]
  | d :: l, l', j, c => by
    have h := kidsG_app l l' (j + 1) c
    have e : j + 1 + (l.length : Int) = j + ((d :: l).length : Int) := by simp; omega
    rw [e] at h
    simp only [List.cons_append, kidsG, h]
    split <;> simp
theorem kidsG_par : ∀ (l l' : List Nd) (j c : Int), l.map Nd.parent = l'.map Nd.parent → kidsG l j c = kidsG l' j c
  | [], [], j, c, _ => rfl
  | [], _ :: _, j, c, h => by simp at h
  | _ :: _, [], j, c, h => by simp at h
  | d :: l, d' :: l', j, c, h => by
    simp only [List.map_cons, List.cons.injEq] at h
    simp only [kidsG, h.1, kidsG_par l l' (j + 1) c h.2]
theorem kidsG_none : ∀ (l : List Nd) (j c : Int), (∀ d ∈ l, d.parent ≠ c) → kidsG l j c = []
  | [], _, _, _ => rfl
  | d :: l, j, c, h => by
    simp only [kidsG, if_neg (h d List.mem_cons_self)]
    exact kidsG_none l (j + 1) c (fun d hd => h d (List.mem_cons_of_mem _ hd))
def KI (nds : List Nd) : Prop := ∀ (i : Nat) (d : Nd), nds[i]? = some d → d.kids = kidsG nds 1 ((i : Int) + 1)
theorem map_modify_par (l : List Nd) (i : Nat) (f : Nd → Nd) (h : ∀ d, (f d).parent = d.parent) : (l.modify i f).map Nd.parent = l.map Nd.parent := by
  apply List.ext_getElem?
  intro j
  simp only [List.getElem?_map, List.getElem?_modify]
  cases l[j]? with
  | none => simp
  | some d => by_cases hij : i = j <;> simp [hij, h]
theorem KI.modify {nds : List Nd} (h : KI nds) (i : Nat) (f : Nd → Nd) (hp : ∀ d, (f d).parent = d.parent) (hk : ∀ d, (f d).kids = d.kids) : KI (nds.modify i f) := by
  intro j d hd
  rw [kidsG_par _ _ _ _ (map_modify_par nds i f hp)]
  rw [List.getElem?_modify] at hd
  cases hj : nds[j]? with
  | none => rw [hj] at hd; simp at hd
  | some d0 =>
    rw [hj] at hd
    simp at hd
    rw [← h j d0 hj]
    subst hd
    split
    · exact hk d0
    · rfl
theorem KI.beg {m : Nat} {nds : List Nd} (h : KI nds) (hw : WF m nds) {e : Ev} (hc : e.call = (nds.length : Int) + 1) (hp : 0 ≤ e.parent ∧ e.parent ≤ (nds.length : Int)) : KI (begN nds e) := by
  have hk0 : ∀ c, kidsG (nds ++ [newN e]) 1 c = kidsG nds 1 c ++ (if e.parent = c then [e.call] else []) := fun c => by
    rw [kidsG_app, show 1 + (nds.length : Int) = e.call by omega]
    by_cases h : e.parent = c <;> simp [kidsG, newN, h]
  have hlast : kidsG nds 1 ((nds.length : Int) + 1) = [] := kidsG_none _ _ _ (fun d hd => by
    obtain ⟨i, hi⟩ := List.mem_iff_getElem?.1 hd
    have := (hw.par i d hi).2
    have := (List.getElem?_eq_some_iff.1 hi).1
    omega)
  have base : ∀ (i : Nat) (d : Nd), (nds ++ [newN e])[i]? = some d → d.kids = kidsG nds 1 ((i : Int) + 1) := fun i d hd => by
    rcases Nat.lt_or_ge i nds.length with h1 | h1
    · rw [List.getElem?_append_left h1] at hd; exact h i d hd
    · rw [List.getElem?_append_right h1] at hd
      have h2 := (List.getElem?_eq_some_iff.1 hd).1
      simp at h2
      have h3 : i = nds.length := by omega
      subst h3
      simp at hd; subst hd
      rw [hlast]; rfl
  unfold begN
  split
  · rename_i hpos
    intro j d hd
    rw [kidsG_par _ _ _ _ (map_modify_par (nds ++ [newN e]) _ (fun d => { d with kids := d.kids ++ [e.call] }) (fun _ => rfl)), hk0]
    rw [List.getElem?_modify] at hd
    cases hj : (nds ++ [newN e])[j]? with
    | none => rw [hj] at hd; simp at hd
    | some d0 =>
      rw [hj] at hd
      simp at hd
      rw [← base j d0 hj]
      by_cases hje : e.parent.toNat - 1 = j
      · rw [if_pos hje] at hd
        subst hd
        rw [if_pos (by omega)]
      · rw [if_neg hje] at hd
        subst hd
        rw [if_neg (by omega)]; simp
  · intro j d hd
    rw [hk0, ← base j d hd, if_neg (by omega)]; simp
theorem KI.step {m : Nat} {nds : List Nd} (h : KI nds) (hw : WF m nds) {e : Ev} (hf : fitsR nds e = true) : KI (stepN nds e) := by
  unfold stepN
  refine KI.modify ?_ _ _ (fun _ => rfl) (fun _ => rfl)
  split
  · rename_i hp
    unfold fitsR at hf
    rw [if_pos hp] at hf
    exact h.beg hw (fitsC_call hf) (fitsC_par hf)
  · exact h
/-- A node of the tree of an answer. -/
structure DN where
  call : Int
  proc : Int
  in_ : List Val
  out : List Val
  kids : List Int
def kidsF (g : Int → Nat → List DN) (nds : List Nd) : List Int → Nat → List DN × List Int
  | [], _ => ([], [])
  | k :: ks, b => if stateN nds k = 2 then (g k b ++ (kidsF g nds ks (b + (g k b).length)).1, (b : Int) :: (kidsF g nds ks (b + (g k b).length)).2) else kidsF g nds ks b
def growF (nds : List Nd) : Nat → Int → Nat → List DN
  | 0, _, _ => []
  | f + 1, c, b => match atN nds c with
    | none => []
    | some d => ⟨c, d.proc, d.args, d.last, (kidsF (growF nds f) nds d.kids (b + 1)).2⟩ :: (kidsF (growF nds f) nds d.kids (b + 1)).1
theorem kidsF_snoc (g : Int → Nat → List DN) (nds : List Nd) (k : Int) : ∀ (ks : List Int) (b : Nat), kidsF g nds (ks ++ [k]) b =
    if stateN nds k = 2 then ((kidsF g nds ks b).1 ++ g k (b + (kidsF g nds ks b).1.length), (kidsF g nds ks b).2 ++ [((b + (kidsF g nds ks b).1.length : Nat) : Int)]) else kidsF g nds ks b
  | [], b => by
    simp only [List.nil_append, kidsF]
    split <;> simp
  | k' :: ks, b => by
    simp only [List.cons_append, kidsF]
    split
    · rw [kidsF_snoc g nds k ks (b + (g k' b).length)]
      split
      · simp [Nat.add_assoc]
      · rfl
    · rw [kidsF_snoc g nds k ks b]
def sumK (s : Int → Nat) : List Int → Nat
  | [] => 0
  | k :: ks => s k + sumK s ks
theorem sumK_mono {s s' : Int → Nat} : ∀ (l : List Int), (∀ k, s k ≤ s' k) → sumK s l ≤ sumK s' l
  | [], _ => Nat.le_refl _
  | k :: l, h => Nat.add_le_add (h k) (sumK_mono l h)
def sizeF (nds : List Nd) : Nat → Int → Nat
  | 0, _ => 0
  | f + 1, c => match atN nds c with
    | none => 0
    | some d => 1 + sumK (fun k => if stateN nds k = 2 then sizeF nds f k else 0) d.kids
theorem kidsF_len (g : Int → Nat → List DN) (nds : List Nd) (s : Int → Nat) (h : ∀ k b, (g k b).length = s k) : ∀ (ks : List Int) (b : Nat), (kidsF g nds ks b).1.length = sumK (fun k => if stateN nds k = 2 then s k else 0) ks
  | [], b => rfl
  | k :: ks, b => by
    simp only [kidsF, sumK]
    split
    · rw [List.length_append, h, kidsF_len g nds s h]
    · rw [kidsF_len g nds s h]; omega
theorem growF_len (nds : List Nd) : ∀ (f : Nat) (c : Int) (b : Nat), (growF nds f c b).length = sizeF nds f c
  | 0, _, _ => rfl
  | f + 1, c, b => by
    simp only [growF, sizeF]
    cases atN nds c with
    | none => rfl
    | some d =>
      simp only [List.length_cons]
      rw [kidsF_len _ nds _ (growF_len nds f)]; omega
theorem sizeF_mono (nds : List Nd) : ∀ (f : Nat) (c : Int), sizeF nds f c ≤ sizeF nds (f + 1) c
  | 0, _ => Nat.zero_le _
  | f + 1, c => by
    rw [sizeF, sizeF]
    cases atN nds c with
    | none => exact Nat.le_refl _
    | some d =>
      simp only
      refine Nat.add_le_add_left (sumK_mono _ fun k => ?_) 1
      split
      · exact sizeF_mono nds f k
      · exact Nat.le_refl _
theorem sizeF_le (nds : List Nd) {f g : Nat} (h : f ≤ g) (c : Int) : sizeF nds f c ≤ sizeF nds g c := by
  induction g with
  | zero => rw [Nat.le_zero.1 h]; exact Nat.le_refl _
  | succ g ih =>
    rcases Nat.lt_or_ge f (g + 1) with h1 | h1
    · exact Nat.le_trans (ih (by omega)) (sizeF_mono nds g c)
    · have : f = g + 1 := by omega
      rw [this]; exact Nat.le_refl _
/-- The sizes of the calls (the first is j) whose parent is at most t. -/
def potG (s : Int → Nat) : List Nd → Int → Int → Nat
  | [], _, _ => 0
  | d :: ds, j, t => (if d.parent ≤ t then s j else 0) + potG s ds (j + 1) t
theorem potG_split (s : Int → Nat) : ∀ (l : List Nd) (j t : Int), potG s l j t = potG s l j (t - 1) + sumK s (kidsG l j t)
  | [], _, _ => rfl
  | d :: l, j, t => by
    simp only [potG, kidsG]
    rw [potG_split s l (j + 1) t]
    by_cases h : d.parent = t
    · rw [if_pos (by omega), if_neg (by omega), if_pos h]; simp only [sumK]; omega
    · rw [if_neg h]
      by_cases h2 : d.parent ≤ t
      · rw [if_pos h2, if_pos (by omega)]; omega
      · rw [if_neg h2, if_neg (by omega)]; omega
theorem size_root {m : Nat} {nds : List Nd} (hw : WF m nds) (hk : KI nds) (f : Nat) : sizeF nds f 1 ≤ nds.length := by
  obtain ⟨N, hN⟩ : ∃ N, N = f := ⟨_, rfl⟩
  have hs : ∀ (i : Nat) (d : Nd), nds[i]? = some d → sizeF nds N ((i : Int) + 1) ≤ 1 + sumK (sizeF nds N) (kidsG nds 1 ((i : Int) + 1)) := fun i d hd => by
    cases N with
    | zero => simp [sizeF]
    | succ N =>
      conv => lhs; rw [sizeF]
      have : atN nds ((i : Int) + 1) = some d := by
        unfold atN; rw [if_pos (by omega)]
        rw [show ((i : Int) + 1 - 1).toNat = i by omega]; exact hd
      rw [this]
      simp only
      rw [← hk i d hd]
      refine Nat.add_le_add_left (sumK_mono _ fun k => ?_) 1
      split
      · exact sizeF_mono nds N k
      · exact Nat.zero_le _
  have key : ∀ (u i : Nat), i + u = nds.length → potG (sizeF nds N) (nds.drop i) ((i : Int) + 1) (i : Int) ≤ u := by
    intro u
    induction u with
    | zero =>
      intro i hi
      rw [List.drop_of_length_le (by omega)]
      exact Nat.le_refl _
    | succ u ih =>
      intro i hi
      have hil : i < nds.length := by omega
      have hd : nds[i]? = some nds[i] := List.getElem?_eq_getElem hil
      have h1 := ih (i + 1) (by omega)
      rw [potG_split] at h1
      have h2 := hs i _ hd
      have h3 : kidsG nds 1 ((i : Int) + 1) = kidsG (nds.drop (i + 1)) ((i : Int) + 1 + 1) ((i : Int) + 1) := by
        conv => lhs; rw [← List.take_append_drop (i + 1) nds]
        rw [kidsG_app, kidsG_none (nds.take (i + 1))]
        · rw [List.length_take, Nat.min_eq_left (by omega), List.nil_append]
          congr 1
          omega
        · intro d hd
          obtain ⟨j, hj⟩ := List.mem_iff_getElem?.1 hd
          have hjl := (List.getElem?_eq_some_iff.1 hj).1
          rw [List.getElem?_take] at hj
          split at hj
          · have := (hw.par j d hj).2; omega
          · cases hj
      rw [h3] at h2
      rw [List.drop_eq_getElem_cons hil]
      simp only [potG]
      have e1 : (((i + 1 : Nat) : Int) : Int) = (i : Int) + 1 := by omega
      rw [e1] at h1
      have e2 : (i : Int) + 1 - 1 = (i : Int) := by omega
      rw [e2] at h1
      split <;> omega
  have h0 := key nds.length 0 (by omega)
  cases hn : nds with
  | nil =>
    subst hn
    cases f with
    | zero => simp [sizeF]
    | succ f => simp [sizeF, atN]
  | cons d l =>
    rw [← hn]
    rw [hn] at h0
    simp only [List.drop_zero, potG] at h0
    have hp := (hw.par 0 d (by rw [hn]; rfl)).2
    rw [if_pos (by simpa using hp)] at h0
    rw [← hn] at h0
    subst hN
    have e : ((0 : Nat) : Int) + 1 = 1 := by omega
    rw [e] at h0
    omega
end Go.Proofs.Vg
