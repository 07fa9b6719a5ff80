/- Part 11 of 14: G19, G20, G21. -/
import Derived.Test.YtafjfcameabbmaaM10
import Derived.Test.YtafjfcameabbmaaM3
/- The reference of the trace: step.  -/
set_option linter.unusedVariables false
set_option linter.unusedSimpArgs false
namespace Go.Proofs.Ytafjfcameabbmaa
open Go Go.Proofs.Vg Go.RowKit

-- -- function 59
set_option maxHeartbeats 4000000 in
set_option maxRecDepth 8000 in
theorem step_ok (w : World) (S : Nat → Prop) (vn : Value) (vks : List Value) (rows : List (List Value)) (nds : List Nd) (h : NM w 101 S vn vks rows nds) (m : Nat) (hm : m ≤ 900) (hw : WF m nds) (r : List Value) (e : Ev) (he : EvRow w S r e) (hS : ∀ k, S k → k < w.heap.size) (hf : fitsR nds e = true) :
    Rets Try.prog 59 [vn, .agg r.toArray] w (fun v w' => (∃ vks' rows', NM w' 101 S v vks' rows' (stepN nds e) ∧ ∀ k, NFoot v vks' k → NFoot vn vks k ∨ (w.heap.size ≤ k ∧ k < w'.heap.size)) ∧ Chg (NFoot vn vks) w w') := by
  obtain ⟨ve, rfl, hve⟩ := he
  obtain ⟨Ae, ce, rfl⟩ := hve.slice
  have hn := hw.n
  have hvl : ∀ k, NFoot vn vks k → k < w.heap.size := h.flt
  refine rets_of_ok Try.func59 rfl rfl ?_
  refine ok_seq (fun M hM => ok_region rfl ?_)
  repeat ((try first | (refine z3 hX ?_; clear hX X) | (refine z2 hX ?_; clear hX X)); (first | refine zL fun X hX => ?_ | refine zH fun X hX => ?_ | refine zE fun X hX => ?_ | refine zl ?_ | refine zh ?_ | refine ze ?_); try simp only [oweC, oweP, opF, opH, ev, evs, evp, evo, Env.get, Env.set, putE, gdst, S0, S1, thenN, inBlockN, argEnv, builtinR, retE, fin, callR, reduceIte, Nat.reduceEqDiff, Nat.reduceAdd, reduceCtorEq, forall_const, Q59])
  refine Runs.box (fun w1 he1 hz1 hb1 => ?_)
  generalize hB1 : w.heap.size = B1 at hz1 hb1
  simp only [Value.cells] at hb1
  repeat ((try first | (refine z3 hX ?_; clear hX X) | (refine z2 hX ?_; clear hX X)); (first | refine zL fun X hX => ?_ | refine zH fun X hX => ?_ | refine zE fun X hX => ?_ | refine zl ?_ | refine zh ?_ | refine ze ?_); try simp only [oweC, oweP, opF, opH, ev, evs, evp, evo, Env.get, Env.set, putE, gdst, S0, S1, thenN, inBlockN, argEnv, builtinR, retE, fin, callR, reduceIte, Nat.reduceEqDiff, Nat.reduceAdd, reduceCtorEq, forall_const, Q59])
  refine hM _ _ _ ?_; clear hM M
  have hs1 := he1.size
  have hl1 := hb1.lt
  have h1 := h.ext he1
  have c0 := hb1.cell (j := 0) rfl
  have c1 := hb1.cell (j := 1) rfl
  have c2 := hb1.cell (j := 2) rfl
  have c3 := hb1.cell (j := 3) rfl
  have c4 := hb1.cell (j := 4) rfl
  have c5 := hb1.cell (j := 5) rfl
  refine ok_seq (fun M0 hM0 => ?_)
  -- what comes behind the first 'if'
  have rest : ∀ (K : Env) (w2 : World) (vn2 : Value) (vks2 : List Value) (rows2 : List (List Value)) (nds2 : List Nd) (i : Nat) (d : Nd), sub [(0, vn2), (3, .pointer (some ⟨B1, 0, none⟩))] K → NM w2 101 S vn2 vks2 rows2 nds2 →
      (∀ k, NFoot vn2 vks2 k → NFoot vn vks k ∨ (w.heap.size ≤ k ∧ k ≠ B1 ∧ k < w2.heap.size)) → Chg (NFoot vn vks) w1 w2 → nds2.length ≤ 1000 → e.call = (i : Int) + 1 → nds2[i]? = some d → d.ports.length = 5 → (∀ x ∈ d.ports, 0 ≤ x ∧ x ≤ 1000) → 0 ≤ e.port → e.port ≤ 4 → nds2.modify (e.call - 1).toNat (stepD e) = stepN nds e → M0 K [] w2 := by
    intro K w2 vn2 vks2 rows2 nds2 i d hsub h2 hnf hc12 hl2 hci hd h5 hpx p0 p4 hfin
    refine hM0 _ _ _ ?_; clear hM0 M0
    refine ok_less _ hsub ?_
    have hB1n : ∀ k, NFoot vn vks k → k ≠ B1 := fun k hk => by have := hvl k hk; omega
    have hb12 := hb1.chg hc12 (fun hk => hB1n B1 hk rfl)
    have hs12 := hc12.size
    have hci1 : (e.call - 1).toNat = i := by omega
    have hil : i < nds2.length := (List.getElem?_eq_some_iff.1 hd).1
    obtain ⟨g, cap, va, vl, vk, hv, hvk, -, hcell, hva, hvl', hkk⟩ := h2.at_ (by omega) hd
    have hvo : vn2.ownBlock = some g := by rw [hv]; rfl
    have hgB : g ≠ B1 := fun e => by
      rcases hnf g (.inl hvo) with h' | h'
      · exact hB1n g h' e
      · exact h'.2.1 e
    obtain ⟨p, hpp⟩ : ∃ p : Nat, e.port = (p : Int) := ⟨e.port.toNat, by omega⟩
    have hp5 : p < 5 := by omega
    have hpt : e.port.toNat = p := by omega
    have hx : d.ports[p]? = some d.ports[p] := List.getElem?_eq_getElem (by omega)
    have hxb := hpx _ (List.getElem_mem (by omega : p < d.ports.length))
    generalize hxe : d.ports[p] = x at hx hxb
    obtain ⟨gP, capP, curP, hvP, hbP, hleP, hputP⟩ := h2.turnG hd (d' := { d with ports := d.ports.set p (x + 1) }) (off := 3 + p) (u := .int .i64 (x + 1)) id id (by omega) (fun va vl vk => row_set_port h5 hp5 (x + 1) va vl vk) (fun _ h => h) (fun _ h => h) rfl (by simpa using h5)
    rw [hv] at hvP
    cases hvP
    have hxcell := hcell (3 + p) _ (row_port hx va vl vk)
    rw [hv]
    refine ok_seq (fun M hM => ok_region rfl ?_)
    repeat ((try first | (refine z3 hX ?_; clear hX X) | (refine z2 hX ?_; clear hX X)); (first | refine zL fun X hX => ?_ | refine zH fun X hX => ?_ | refine zE fun X hX => ?_ | refine zl ?_ | refine zh ?_ | refine ze ?_); try simp only [oweC, oweP, opF, opH, ev, evs, evp, evo, Env.get, Env.set, putE, gdst, S0, S1, thenN, inBlockN, argEnv, builtinR, retE, fin, callR, reduceIte, Nat.reduceEqDiff, Nat.reduceAdd, reduceCtorEq, forall_const, Q59])
    refine ⟨_, hb12.cell (j := 1) rfl, ?_⟩
    repeat ((try first | (refine z3 hX ?_; clear hX X) | (refine z2 hX ?_; clear hX X)); (first | refine zL fun X hX => ?_ | refine zH fun X hX => ?_ | refine zE fun X hX => ?_ | refine zl ?_ | refine zh ?_ | refine ze ?_); try simp only [oweC, oweP, opF, opH, ev, evs, evp, evo, Env.get, Env.set, putE, gdst, S0, S1, thenN, inBlockN, argEnv, builtinR, retE, fin, callR, reduceIte, Nat.reduceEqDiff, Nat.reduceAdd, reduceCtorEq, forall_const, Q59])
    refine ⟨by simp only [inI]; omega, ?_⟩
    repeat ((try first | (refine z3 hX ?_; clear hX X) | (refine z2 hX ?_; clear hX X)); (first | refine zL fun X hX => ?_ | refine zH fun X hX => ?_ | refine zE fun X hX => ?_ | refine zl ?_ | refine zh ?_ | refine ze ?_); try simp only [oweC, oweP, opF, opH, ev, evs, evp, evo, Env.get, Env.set, putE, gdst, S0, S1, thenN, inBlockN, argEnv, builtinR, retE, fin, callR, reduceIte, Nat.reduceEqDiff, Nat.reduceAdd, reduceCtorEq, forall_const, Q59])
    refine ⟨by omega, by omega, ?_⟩
    rw [hci1]
    repeat ((try first | (refine z3 hX ?_; clear hX X) | (refine z2 hX ?_; clear hX X)); (first | refine zL fun X hX => ?_ | refine zH fun X hX => ?_ | refine zE fun X hX => ?_ | refine zl ?_ | refine zh ?_ | refine ze ?_); try simp only [oweC, oweP, opF, opH, ev, evs, evp, evo, Env.get, Env.set, putE, gdst, S0, S1, thenN, inBlockN, argEnv, builtinR, retE, fin, callR, reduceIte, Nat.reduceEqDiff, Nat.reduceAdd, reduceCtorEq, forall_const, Q59])
    refine hM _ _ _ ?_; clear hM M
    refine ok_seq (fun M hM => (ok_draw 11 [(false, true)] (Ext _) Fx.mixed (by decide) rfl (by decide +kernel) (by decide +kernel) (Ext.drew _) ?_))
    repeat ((try first | (refine z3 hX ?_; clear hX X) | (refine z2 hX ?_; clear hX X)); (first | refine zL fun X hX => ?_ | refine zH fun X hX => ?_ | refine zE fun X hX => ?_ | refine zl ?_ | refine zh ?_ | refine ze ?_); try simp only [oweC, oweP, opF, opH, ev, evs, evp, evo, Env.get, Env.set, putE, gdst, S0, S1, thenN, inBlockN, argEnv, builtinR, retE, fin, callR, reduceIte, Nat.reduceEqDiff, Nat.reduceAdd, reduceCtorEq, forall_const, Q59])
    refine ⟨_, fun w' hw' => (hb12.ext hw').cell (j := 0) rfl, ?_⟩
    repeat ((try first | (refine z3 hX ?_; clear hX X) | (refine z2 hX ?_; clear hX X)); (first | refine zL fun X hX => ?_ | refine zH fun X hX => ?_ | refine zE fun X hX => ?_ | refine zl ?_ | refine zh ?_ | refine ze ?_); try simp only [oweC, oweP, opF, opH, ev, evs, evp, evo, Env.get, Env.set, putE, gdst, S0, S1, thenN, inBlockN, argEnv, builtinR, retE, fin, callR, reduceIte, Nat.reduceEqDiff, Nat.reduceAdd, reduceCtorEq, forall_const, Q59])
    refine ⟨by omega, by omega, ?_⟩
    rw [hpt]
    repeat ((try first | (refine z3 hX ?_; clear hX X) | (refine z2 hX ?_; clear hX X)); (first | refine zL fun X hX => ?_ | refine zH fun X hX => ?_ | refine zE fun X hX => ?_ | refine zl ?_ | refine zh ?_ | refine ze ?_); try simp only [oweC, oweP, opF, opH, ev, evs, evp, evo, Env.get, Env.set, putE, gdst, S0, S1, thenN, inBlockN, argEnv, builtinR, retE, fin, callR, reduceIte, Nat.reduceEqDiff, Nat.reduceAdd, reduceCtorEq, forall_const, Q59])
    refine ⟨.int .i64 x, fun w' hw' => hw'.cell (by simpa [Nat.add_assoc] using hxcell), ?_⟩
    repeat ((try first | (refine z3 hX ?_; clear hX X) | (refine z2 hX ?_; clear hX X)); (first | refine zL fun X hX => ?_ | refine zH fun X hX => ?_ | refine zE fun X hX => ?_ | refine zl ?_ | refine zh ?_ | refine ze ?_); try simp only [oweC, oweP, opF, opH, ev, evs, evp, evo, Env.get, Env.set, putE, gdst, S0, S1, thenN, inBlockN, argEnv, builtinR, retE, fin, callR, reduceIte, Nat.reduceEqDiff, Nat.reduceAdd, reduceCtorEq, forall_const, Q59])
    refine ⟨by simp only [inI]; omega, ?_⟩
    repeat ((try first | (refine z3 hX ?_; clear hX X) | (refine z2 hX ?_; clear hX X)); (first | refine zL fun X hX => ?_ | refine zH fun X hX => ?_ | refine zE fun X hX => ?_ | refine zl ?_ | refine zh ?_ | refine ze ?_); try simp only [oweC, oweP, opF, opH, ev, evs, evp, evo, Env.get, Env.set, putE, gdst, S0, S1, thenN, inBlockN, argEnv, builtinR, retE, fin, callR, reduceIte, Nat.reduceEqDiff, Nat.reduceAdd, reduceCtorEq, forall_const, Q59])
    refine ⟨by omega, by omega, ?_⟩
    rw [hpt]
    repeat ((try first | (refine z3 hX ?_; clear hX X) | (refine z2 hX ?_; clear hX X)); (first | refine zL fun X hX => ?_ | refine zH fun X hX => ?_ | refine zE fun X hX => ?_ | refine zl ?_ | refine zh ?_ | refine ze ?_); try simp only [oweC, oweP, opF, opH, ev, evs, evp, evo, Env.get, Env.set, putE, gdst, S0, S1, thenN, inBlockN, argEnv, builtinR, retE, fin, callR, reduceIte, Nat.reduceEqDiff, Nat.reduceAdd, reduceCtorEq, forall_const, Q59])
    intro w3 he3
    repeat ((try first | (refine z3 hX ?_; clear hX X) | (refine z2 hX ?_; clear hX X)); (first | refine zL fun X hX => ?_ | refine zH fun X hX => ?_ | refine zE fun X hX => ?_ | refine zl ?_ | refine zh ?_ | refine ze ?_); try simp only [oweC, oweP, opF, opH, ev, evs, evp, evo, Env.get, Env.set, putE, gdst, S0, S1, thenN, inBlockN, argEnv, builtinR, retE, fin, callR, reduceIte, Nat.reduceEqDiff, Nat.reduceAdd, reduceCtorEq, forall_const, Q59])
    try simp only [Nat.zero_add, Nat.add_assoc]
    refine Runs.store (hbP.ext he3) Fx.zi3 rfl (by intro u hu; simp [Value.cells] at hu; subst hu; rfl) (by simpa [Nat.add_assoc] using hleP) (fun w4 hc4 hs4 hb4 => ?_)
    repeat ((try first | (refine z3 hX ?_; clear hX X) | (refine z2 hX ?_; clear hX X)); (first | refine zL fun X hX => ?_ | refine zH fun X hX => ?_ | refine zE fun X hX => ?_ | refine zl ?_ | refine zh ?_ | refine ze ?_); try simp only [oweC, oweP, opF, opH, ev, evs, evp, evo, Env.get, Env.set, putE, gdst, S0, S1, thenN, inBlockN, argEnv, builtinR, retE, fin, callR, reduceIte, Nat.reduceEqDiff, Nat.reduceAdd, reduceCtorEq, forall_const, Q59])
    refine hM _ _ _ ?_; clear hM M
    obtain ⟨rows4, h4⟩ := hputP w4 ((he3.chg _).trans hc4) (by simpa [Nat.add_assoc, Value.cells] using hb4)
    have hc24 : Chg (· = g) w2 w4 := (he3.chg _).trans hc4
    have hb14 := hb12.chg hc24 (fun e => hgB e.symm)
    obtain ⟨d4, hd4⟩ : ∃ d4 : Nd, d4 = { d with ports := d.ports.set p (x + 1) } := ⟨_, rfl⟩
    rw [← hd4] at h4
    have h54 : d4.ports.length = 5 := by rw [hd4]; simpa using h5
    have hdd4 : (nds2.set i d4)[i]? = some d4 := List.getElem?_set_self hil
    have hsz24 := hc24.size
    have hgd : d.ports.getD p 0 = x := by rw [List.getD_eq_getElem?_getD, hx]; rfl
    have hSF : ∀ k, S k → ¬ NFoot vn vks k := fun k hk hf => by
      rcases hf with hf | ⟨j, v, hj, hf⟩
      · exact (h.top k hf).1 hk
      · exact h.sk j v k hj hf hk
    have hSg : ∀ k, S k → k ≠ g := fun k hk e => by
      rcases hnf g (.inl hvo) with h' | h'
      · exact hSF k hk (e ▸ h')
      · have := hS k hk; omega
    refine ok_seq (fun M5 hM5 => ?_)
    have fini : ∀ (K : Env) (w' : World) (rows' : List (List Value)) (d' : Nd), sub [(0, .slice (some ⟨g, 0, none⟩) nds2.length cap)] K → NM w' 101 S (.slice (some ⟨g, 0, none⟩) nds2.length cap) vks2 rows' ((nds2.set i d4).set i d') → d' = stepD e d → Chg (· = g) w4 w' → M5 K [] w' := by
      intro K w' rows' d' hsub h' hd' hc'
      refine hM5 _ _ _ ?_; clear hM5 M5
      refine ok_less _ hsub ?_
      refine ok_seq (fun M hM => ok_region rfl ?_); repeat ((try first | (refine z3 hX ?_; clear hX X) | (refine z2 hX ?_; clear hX X)); (first | refine zL fun X hX => ?_ | refine zH fun X hX => ?_ | refine zE fun X hX => ?_ | refine zl ?_ | refine zh ?_ | refine ze ?_); try simp only [oweC, oweP, opF, opH, ev, evs, evp, evo, Env.get, Env.set, putE, gdst, S0, S1, thenN, inBlockN, argEnv, builtinR, retE, fin, callR, reduceIte, Nat.reduceEqDiff, Nat.reduceAdd, reduceCtorEq, forall_const, Q59])
      refine hM _ _ _ ?_; clear hM M
      refine ok_ret ?_
      try simp only [wpL, wpH, wpE, oweC, oweP, opF, opH, ev, evs, evp, evo, Env.get, Env.set, putE, gdst, S0, S1, thenN, inBlockN, argEnv, builtinR, retE, fin, callR, reduceIte, Nat.reduceEqDiff, Nat.reduceAdd, reduceCtorEq, forall_const, Q59]
      rw [List.set_set, hd'] at h'
      have hmod := modify_set nds2 i (stepD e) d hd
      rw [hci1, hmod] at hfin
      rw [hfin] at h'
      have hs' := hc'.size
      have hcg : Chg (· = g) w2 w' := hc24.trans hc'
      refine ⟨⟨vks2, rows', h', fun k hk => ?_⟩, ?_⟩
      · rcases hnf k (by rw [hv]; exact hk) with h7 | h7
        · exact .inl h7
        · exact .inr ⟨h7.1, by omega⟩
      · refine ((he1.chg _).trans hc12).thn hcg (fun k hk => ?_)
        rw [hk]
        rcases hnf g (.inl hvo) with h7 | h7
        · exact .inl h7
        · exact .inr h7.1
    refine ok_seq (fun M hM => ok_region rfl ?_)
    repeat ((try first | (refine z3 hX ?_; clear hX X) | (refine z2 hX ?_; clear hX X)); (first | refine zL fun X hX => ?_ | refine zH fun X hX => ?_ | refine zE fun X hX => ?_ | refine zl ?_ | refine zh ?_ | refine ze ?_); try simp only [oweC, oweP, opF, opH, ev, evs, evp, evo, Env.get, Env.set, putE, gdst, S0, S1, thenN, inBlockN, argEnv, builtinR, retE, fin, callR, reduceIte, Nat.reduceEqDiff, Nat.reduceAdd, reduceCtorEq, forall_const, Q59])
    refine ⟨_, (hb14.cell (j := 0) rfl), ?_⟩
    repeat ((try first | (refine z3 hX ?_; clear hX X) | (refine z2 hX ?_; clear hX X)); (first | refine zL fun X hX => ?_ | refine zH fun X hX => ?_ | refine zE fun X hX => ?_ | refine zl ?_ | refine zh ?_ | refine ze ?_); try simp only [oweC, oweP, opF, opH, ev, evs, evp, evo, Env.get, Env.set, putE, gdst, S0, S1, thenN, inBlockN, argEnv, builtinR, retE, fin, callR, reduceIte, Nat.reduceEqDiff, Nat.reduceAdd, reduceCtorEq, forall_const, Q59])
    refine hM _ _ _ ?_; clear hM M
    refine ok_block ?_
    refine ok_seq (fun M6 hM6 => ?_)
    refine ok_seq (fun M hM => ok_region rfl ?_); repeat ((try first | (refine z3 hX ?_; clear hX X) | (refine z2 hX ?_; clear hX X)); (first | refine zL fun X hX => ?_ | refine zH fun X hX => ?_ | refine zE fun X hX => ?_ | refine zl ?_ | refine zh ?_ | refine ze ?_); try simp only [oweC, oweP, opF, opH, ev, evs, evp, evo, Env.get, Env.set, putE, gdst, S0, S1, thenN, inBlockN, argEnv, builtinR, retE, fin, callR, reduceIte, Nat.reduceEqDiff, Nat.reduceAdd, reduceCtorEq, forall_const, Q59])
    refine hM _ _ _ ?_; clear hM M
    rw [hv] at h4
    refine ok_if rfl (fun q0 => ok_skip ?_) (fun q0 => ?_)
    · try simp only [wpL, wpH, wpE, oweC, oweP, opF, opH, ev, evs, evp, evo, Env.get, Env.set, putE, gdst, S0, S1, thenN, inBlockN, argEnv, builtinR, retE, fin, callR, reduceIte, Nat.reduceEqDiff, Nat.reduceAdd, reduceCtorEq, forall_const, Q59]
      refine hM6 _ _ _ ?_; clear hM6 M6
      refine ok_cond (b := true) (by simp [ev, Env.get, q0]) (fun _ => ?_) (fun h => by cases h)
      obtain ⟨gS, capS, curS, hvS, hbS, hleS, hputS⟩ := h4.turnG hdd4 (d' := { d4 with state := 1 }) (off := 11) (u := .int .i64 1) id id (by omega) (fun va vl vk => row_set_state h54 1 va vl vk) (fun _ h => h) (fun _ h => h) rfl h54
      rw [List.length_set] at hvS
      cases hvS
      refine ok_region rfl ?_
      repeat ((try first | (refine z3 hX ?_; clear hX X) | (refine z2 hX ?_; clear hX X)); (first | refine zL fun X hX => ?_ | refine zH fun X hX => ?_ | refine zE fun X hX => ?_ | refine zl ?_ | refine zh ?_ | refine ze ?_); try simp only [oweC, oweP, opF, opH, ev, evs, evp, evo, Env.get, Env.set, putE, gdst, S0, S1, thenN, inBlockN, argEnv, builtinR, retE, fin, callR, reduceIte, Nat.reduceEqDiff, Nat.reduceAdd, reduceCtorEq, forall_const, Q59])
      try simp only [Nat.zero_add, Nat.add_assoc]
      refine Runs.store hbS Fx.zi3 rfl (by intro u hu; simp [Value.cells] at hu; subst hu; rfl) (by simpa [Nat.add_assoc] using hleS) (fun w5 hc5 hs5 hb5 => ?_)
      obtain ⟨rows5, h5'⟩ := hputS w5 hc5 (by simpa [Nat.add_assoc, Value.cells] using hb5)
      repeat ((try first | (refine z3 hX ?_; clear hX X) | (refine z2 hX ?_; clear hX X)); (first | refine zL fun X hX => ?_ | refine zH fun X hX => ?_ | refine zE fun X hX => ?_ | refine zl ?_ | refine zh ?_ | refine ze ?_); try simp only [oweC, oweP, opF, opH, ev, evs, evp, evo, Env.get, Env.set, putE, gdst, S0, S1, thenN, inBlockN, argEnv, builtinR, retE, fin, callR, reduceIte, Nat.reduceEqDiff, Nat.reduceAdd, reduceCtorEq, forall_const, Q59])
      refine fini _ w5 rows5 _ (by simp [sub, Env.get]) h5' ?_ hc5
      rw [hd4]
      simp only [stepD, hpt, hgd]
      simp [q0]
    refine ok_region rfl ?_
    repeat ((try first | (refine z3 hX ?_; clear hX X) | (refine z2 hX ?_; clear hX X)); (first | refine zL fun X hX => ?_ | refine zH fun X hX => ?_ | refine zE fun X hX => ?_ | refine zl ?_ | refine zh ?_ | refine ze ?_); try simp only [oweC, oweP, opF, opH, ev, evs, evp, evo, Env.get, Env.set, putE, gdst, S0, S1, thenN, inBlockN, argEnv, builtinR, retE, fin, callR, reduceIte, Nat.reduceEqDiff, Nat.reduceAdd, reduceCtorEq, forall_const, Q59])
    refine hM6 _ _ _ ?_; clear hM6 M6
    refine ok_if rfl (fun q2 => ?_) (fun q2 => ?_)
    · skip
      obtain ⟨gS, capS, curS, hvS, hbS, hleS, hputS⟩ := h4.turnG hdd4 (d' := { d4 with state := 1 }) (off := 11) (u := .int .i64 1) id id (by omega) (fun va vl vk => row_set_state h54 1 va vl vk) (fun _ h => h) (fun _ h => h) rfl h54
      rw [List.length_set] at hvS
      cases hvS
      refine ok_region rfl ?_
      repeat ((try first | (refine z3 hX ?_; clear hX X) | (refine z2 hX ?_; clear hX X)); (first | refine zL fun X hX => ?_ | refine zH fun X hX => ?_ | refine zE fun X hX => ?_ | refine zl ?_ | refine zh ?_ | refine ze ?_); try simp only [oweC, oweP, opF, opH, ev, evs, evp, evo, Env.get, Env.set, putE, gdst, S0, S1, thenN, inBlockN, argEnv, builtinR, retE, fin, callR, reduceIte, Nat.reduceEqDiff, Nat.reduceAdd, reduceCtorEq, forall_const, Q59])
      try simp only [Nat.zero_add, Nat.add_assoc]
      refine Runs.store hbS Fx.zi3 rfl (by intro u hu; simp [Value.cells] at hu; subst hu; rfl) (by simpa [Nat.add_assoc] using hleS) (fun w5 hc5 hs5 hb5 => ?_)
      obtain ⟨rows5, h5'⟩ := hputS w5 hc5 (by simpa [Nat.add_assoc, Value.cells] using hb5)
      repeat ((try first | (refine z3 hX ?_; clear hX X) | (refine z2 hX ?_; clear hX X)); (first | refine zL fun X hX => ?_ | refine zH fun X hX => ?_ | refine zE fun X hX => ?_ | refine zl ?_ | refine zh ?_ | refine ze ?_); try simp only [oweC, oweP, opF, opH, ev, evs, evp, evo, Env.get, Env.set, putE, gdst, S0, S1, thenN, inBlockN, argEnv, builtinR, retE, fin, callR, reduceIte, Nat.reduceEqDiff, Nat.reduceAdd, reduceCtorEq, forall_const, Q59])
      refine fini _ w5 rows5 _ (by simp [sub, Env.get]) h5' ?_ hc5
      rw [hd4]
      simp only [stepD, hpt, hgd]
      simp [q2]
    refine ok_seq (fun M hM => ok_region rfl ?_); repeat ((try first | (refine z3 hX ?_; clear hX X) | (refine z2 hX ?_; clear hX X)); (first | refine zL fun X hX => ?_ | refine zH fun X hX => ?_ | refine zE fun X hX => ?_ | refine zl ?_ | refine zh ?_ | refine ze ?_); try simp only [oweC, oweP, opF, opH, ev, evs, evp, evo, Env.get, Env.set, putE, gdst, S0, S1, thenN, inBlockN, argEnv, builtinR, retE, fin, callR, reduceIte, Nat.reduceEqDiff, Nat.reduceAdd, reduceCtorEq, forall_const, Q59])
    refine hM _ _ _ ?_; clear hM M
    refine ok_if rfl (fun q1 => ?_) (fun q1 => ?_)
    rotate_left
    · skip
      obtain ⟨gS, capS, curS, hvS, hbS, hleS, hputS⟩ := h4.turnG hdd4 (d' := { d4 with state := 3 }) (off := 11) (u := .int .i64 3) id id (by omega) (fun va vl vk => row_set_state h54 3 va vl vk) (fun _ h => h) (fun _ h => h) rfl h54
      rw [List.length_set] at hvS
      cases hvS
      refine ok_region rfl ?_
      repeat ((try first | (refine z3 hX ?_; clear hX X) | (refine z2 hX ?_; clear hX X)); (first | refine zL fun X hX => ?_ | refine zH fun X hX => ?_ | refine zE fun X hX => ?_ | refine zl ?_ | refine zh ?_ | refine ze ?_); try simp only [oweC, oweP, opF, opH, ev, evs, evp, evo, Env.get, Env.set, putE, gdst, S0, S1, thenN, inBlockN, argEnv, builtinR, retE, fin, callR, reduceIte, Nat.reduceEqDiff, Nat.reduceAdd, reduceCtorEq, forall_const, Q59])
      try simp only [Nat.zero_add, Nat.add_assoc]
      refine Runs.store hbS Fx.zi3 rfl (by intro u hu; simp [Value.cells] at hu; subst hu; rfl) (by simpa [Nat.add_assoc] using hleS) (fun w5 hc5 hs5 hb5 => ?_)
      obtain ⟨rows5, h5'⟩ := hputS w5 hc5 (by simpa [Nat.add_assoc, Value.cells] using hb5)
      repeat ((try first | (refine z3 hX ?_; clear hX X) | (refine z2 hX ?_; clear hX X)); (first | refine zL fun X hX => ?_ | refine zH fun X hX => ?_ | refine zE fun X hX => ?_ | refine zl ?_ | refine zh ?_ | refine ze ?_); try simp only [oweC, oweP, opF, opH, ev, evs, evp, evo, Env.get, Env.set, putE, gdst, S0, S1, thenN, inBlockN, argEnv, builtinR, retE, fin, callR, reduceIte, Nat.reduceEqDiff, Nat.reduceAdd, reduceCtorEq, forall_const, Q59])
      refine fini _ w5 rows5 _ (by simp [sub, Env.get]) h5' ?_ hc5
      rw [hd4]
      simp only [stepD, hpt, hgd]
      simp [q0, q1, q2]
    obtain ⟨gS, capS, curS, hvS, hbS, hleS, hputS⟩ := h4.turnG hdd4 (d' := { d4 with state := 2 }) (off := 11) (u := .int .i64 2) id id (by omega) (fun va vl vk => row_set_state h54 2 va vl vk) (fun _ h => h) (fun _ h => h) rfl h54
    rw [List.length_set] at hvS
    cases hvS
    refine (ok_drawQ [0, 1, 2, 3, 4, 5, 6, 7, 8, 9] 6 [(true, false), (false, true), (false, true), (false, true)] (Chg (fun k => k = g) _) Fx.mixed (by decide) rfl (by decide +kernel) (by decide +kernel) (by decide +kernel) (Chg.drew _ _) ?_); simp only [pickL, List.getElem?_cons_zero, List.getElem?_cons_succ, List.take_succ_cons, List.take_zero, List.drop_succ_cons, List.drop_zero]
    repeat ((try first | (refine z3 hX ?_; clear hX X) | (refine z2 hX ?_; clear hX X)); (first | refine zL fun X hX => ?_ | refine zH fun X hX => ?_ | refine zE fun X hX => ?_ | refine zl ?_ | refine zh ?_ | refine ze ?_); try simp only [oweC, oweP, opF, opH, ev, evs, evp, evo, Env.get, Env.set, putE, gdst, S0, S1, thenN, inBlockN, argEnv, builtinR, retE, fin, callR, reduceIte, Nat.reduceEqDiff, Nat.reduceAdd, reduceCtorEq, forall_const, Q59])
    refine ⟨.slice Ae e.args.length ce, fun w' hw' => (hb14.chg hw' (fun e => hgB e.symm)).cell (j := 5) rfl, ?_⟩
    repeat ((try first | (refine z3 hX ?_; clear hX X) | (refine z2 hX ?_; clear hX X)); (first | refine zL fun X hX => ?_ | refine zH fun X hX => ?_ | refine zE fun X hX => ?_ | refine zl ?_ | refine zh ?_ | refine ze ?_); try simp only [oweC, oweP, opF, opH, ev, evs, evp, evo, Env.get, Env.set, putE, gdst, S0, S1, thenN, inBlockN, argEnv, builtinR, retE, fin, callR, reduceIte, Nat.reduceEqDiff, Nat.reduceAdd, reduceCtorEq, forall_const, Q59])
    obtain ⟨w5, hw5⟩ : ∃ w5 : World, w5 = { w4 with drawn := w4.drawn + 1 } := ⟨_, rfl⟩
    have he5 : Ext w4 w5 := by rw [hw5]; exact Ext.drew _
    rw [← hw5]
    try simp only [Nat.zero_add, Nat.add_assoc]
    refine Runs.store (hbS.ext he5) Fx.zi3 rfl (by intro u hu; simp [Value.cells] at hu; subst hu; rfl) (by simpa [Nat.add_assoc] using hleS) (fun w6 hc6 hs6 hb6 => ?_)
    obtain ⟨rows6, h6⟩ := hputS w6 ((he5.chg _).trans hc6) (by simpa [Nat.add_assoc, Value.cells] using hb6)
    refine ⟨(he5.chg _).trans hc6, ?_⟩
    have hc46 : Chg (· = g) w4 w6 := (he5.chg _).trans hc6
    have hu6 : VSlS w6 S (.slice Ae e.args.length ce) e.args := ((hve.chg (he1.chg (fun _ => False)) (fun k hk => ⟨hk, id⟩)).chg hc12 (fun k hk => ⟨hk, hSF k hk⟩)).chg (hc24.trans hc46) (fun k hk => ⟨hk, hSg k hk⟩)
    have hdd6 : ((nds2.set i d4).set i { d4 with state := 2 })[i]? = some { d4 with state := 2 } := List.getElem?_set_self (by rw [List.length_set]; exact hil)
    obtain ⟨gL, capL, curL, hvL, hbL, hleL, hputL⟩ := h6.turnG hdd6 (d' := { d4 with state := 2, last := e.args }) (off := 9) (u := .slice Ae e.args.length ce) id (fun _ => .slice Ae e.args.length ce) (by omega) (fun va vl vk => row_set_last (d := { d4 with state := 2 }) h54 e.args va vl vk _) (fun _ h => h) (fun _ _ => hu6) rfl h54
    rw [List.length_set, List.length_set] at hvL
    cases hvL
    repeat ((try first | (refine z3 hX ?_; clear hX X) | (refine z2 hX ?_; clear hX X)); (first | refine zL fun X hX => ?_ | refine zH fun X hX => ?_ | refine zE fun X hX => ?_ | refine zl ?_ | refine zh ?_ | refine ze ?_); try simp only [oweC, oweP, opF, opH, ev, evs, evp, evo, Env.get, Env.set, putE, gdst, S0, S1, thenN, inBlockN, argEnv, builtinR, retE, fin, callR, reduceIte, Nat.reduceEqDiff, Nat.reduceAdd, reduceCtorEq, forall_const, Q59])
    try simp only [Nat.zero_add, Nat.add_assoc]
    refine Runs.store hbL Fx.zi35' rfl (by intro u hu; simp [Value.cells] at hu; subst hu; rfl) (by simpa [Nat.add_assoc] using hleL) (fun w7 hc7 hs7 hb7 => ?_)
    obtain ⟨rows7, h7⟩ := hputL w7 hc7 (by simpa [Nat.add_assoc, Value.cells] using hb7)
    rw [List.set_set (l := nds2.set i d4)] at h7
    repeat ((try first | (refine z3 hX ?_; clear hX X) | (refine z2 hX ?_; clear hX X)); (first | refine zL fun X hX => ?_ | refine zH fun X hX => ?_ | refine zE fun X hX => ?_ | refine zl ?_ | refine zh ?_ | refine ze ?_); try simp only [oweC, oweP, opF, opH, ev, evs, evp, evo, Env.get, Env.set, putE, gdst, S0, S1, thenN, inBlockN, argEnv, builtinR, retE, fin, callR, reduceIte, Nat.reduceEqDiff, Nat.reduceAdd, reduceCtorEq, forall_const, Q59])
    refine fini _ w7 rows7 _ (by simp [sub, Env.get]) h7 ?_ (hc46.trans hc7)
    rw [hd4]
    simp only [stepD, hpt, hgd]
    simp [q1]
  refine ok_seq (fun M hM => ok_region rfl ?_)
  repeat ((try first | (refine z3 hX ?_; clear hX X) | (refine z2 hX ?_; clear hX X)); (first | refine zL fun X hX => ?_ | refine zH fun X hX => ?_ | refine zE fun X hX => ?_ | refine zl ?_ | refine zh ?_ | refine ze ?_); try simp only [oweC, oweP, opF, opH, ev, evs, evp, evo, Env.get, Env.set, putE, gdst, S0, S1, thenN, inBlockN, argEnv, builtinR, retE, fin, callR, reduceIte, Nat.reduceEqDiff, Nat.reduceAdd, reduceCtorEq, forall_const, Q59])
  refine ⟨_, c0, ?_⟩
  repeat ((try first | (refine z3 hX ?_; clear hX X) | (refine z2 hX ?_; clear hX X)); (first | refine zL fun X hX => ?_ | refine zH fun X hX => ?_ | refine zE fun X hX => ?_ | refine zl ?_ | refine zh ?_ | refine ze ?_); try simp only [oweC, oweP, opF, opH, ev, evs, evp, evo, Env.get, Env.set, putE, gdst, S0, S1, thenN, inBlockN, argEnv, builtinR, retE, fin, callR, reduceIte, Nat.reduceEqDiff, Nat.reduceAdd, reduceCtorEq, forall_const, Q59])
  refine hM _ _ _ ?_; clear hM M
  have portsOf : ∀ (i : Nat) (d : Nd), nds[i]? = some d → d.ports.length = 5 ∧ ∀ x ∈ d.ports, 0 ≤ x ∧ x ≤ 1000 := fun i d hd => ⟨(hw.ports i d hd).1, fun x hx => by have := (hw.ports i d hd).2 x hx; omega⟩
  refine ok_if rfl (fun hport => ?_) (fun hport => ok_skip ?_)
  rotate_left
  · try simp only [wpL, wpH, wpE, oweC, oweP, opF, opH, ev, evs, evp, evo, Env.get, Env.set, putE, gdst, S0, S1, thenN, inBlockN, argEnv, builtinR, retE, fin, callR, reduceIte, Nat.reduceEqDiff, Nat.reduceAdd, reduceCtorEq, forall_const, Q59]
    have hf2 := hf
    unfold fitsR at hf2
    rw [if_neg hport] at hf2
    simp only [Bool.and_eq_true, decide_eq_true_eq] at hf2
    obtain ⟨⟨p0, p4⟩, hf2⟩ := hf2
    cases hat : atN nds e.call with
    | none => rw [hat] at hf2; cases hf2
    | some d =>
      have hc1 : 1 ≤ e.call := by
        unfold atN at hat
        split at hat
        · assumption
        · cases hat
      unfold atN at hat
      rw [if_pos hc1] at hat
      refine rest _ w1 vn vks rows nds (e.call - 1).toNat d (by simp [sub, Env.get]) h1 (fun k hk => .inl hk) (Chg.refl _ _) (by omega) (by omega) hat (portsOf _ d hat).1 (portsOf _ d hat).2 p0 p4 ?_
      unfold stepN
      rw [if_neg hport]
  have hfC : fitsC nds e = true := by unfold fitsR at hf; rw [if_pos hport] at hf; exact hf
  have hcall := fitsC_call hfC
  obtain ⟨hp0, hp1⟩ := fitsC_par hfC
  obtain ⟨A, cp, hvn⟩ := h.len
  have hfinB : (begN nds e).modify (e.call - 1).toNat (stepD e) = stepN nds e := by unfold stepN; rw [if_pos hport]
  have hnew5 : (newN e).ports.length = 5 ∧ ∀ x ∈ (newN e).ports, 0 ≤ x ∧ x ≤ 1000 := ⟨rfl, fun x hx => by simp [newN] at hx; omega⟩
  rw [hvn]
  refine ok_seq (fun M hM => ok_region rfl ?_)
  repeat ((try first | (refine z3 hX ?_; clear hX X) | (refine z2 hX ?_; clear hX X)); (first | refine zL fun X hX => ?_ | refine zH fun X hX => ?_ | refine zE fun X hX => ?_ | refine zl ?_ | refine zh ?_ | refine ze ?_); try simp only [oweC, oweP, opF, opH, ev, evs, evp, evo, Env.get, Env.set, putE, gdst, S0, S1, thenN, inBlockN, argEnv, builtinR, retE, fin, callR, reduceIte, Nat.reduceEqDiff, Nat.reduceAdd, reduceCtorEq, forall_const, Q59])
  refine ⟨_, c3, ?_⟩
  repeat ((try first | (refine z3 hX ?_; clear hX X) | (refine z2 hX ?_; clear hX X)); (first | refine zL fun X hX => ?_ | refine zH fun X hX => ?_ | refine zE fun X hX => ?_ | refine zl ?_ | refine zh ?_ | refine ze ?_); try simp only [oweC, oweP, opF, opH, ev, evs, evp, evo, Env.get, Env.set, putE, gdst, S0, S1, thenN, inBlockN, argEnv, builtinR, retE, fin, callR, reduceIte, Nat.reduceEqDiff, Nat.reduceAdd, reduceCtorEq, forall_const, Q59])
  refine ⟨_, c2, ?_⟩
  repeat ((try first | (refine z3 hX ?_; clear hX X) | (refine z2 hX ?_; clear hX X)); (first | refine zL fun X hX => ?_ | refine zH fun X hX => ?_ | refine zE fun X hX => ?_ | refine zl ?_ | refine zh ?_ | refine ze ?_); try simp only [oweC, oweP, opF, opH, ev, evs, evp, evo, Env.get, Env.set, putE, gdst, S0, S1, thenN, inBlockN, argEnv, builtinR, retE, fin, callR, reduceIte, Nat.reduceEqDiff, Nat.reduceAdd, reduceCtorEq, forall_const, Q59])
  refine ⟨_, c4, ?_⟩
  repeat ((try first | (refine z3 hX ?_; clear hX X) | (refine z2 hX ?_; clear hX X)); (first | refine zL fun X hX => ?_ | refine zH fun X hX => ?_ | refine zE fun X hX => ?_ | refine zl ?_ | refine zh ?_ | refine ze ?_); try simp only [oweC, oweP, opF, opH, ev, evs, evp, evo, Env.get, Env.set, putE, gdst, S0, S1, thenN, inBlockN, argEnv, builtinR, retE, fin, callR, reduceIte, Nat.reduceEqDiff, Nat.reduceAdd, reduceCtorEq, forall_const, Q59])
  refine ⟨_, c5, ?_⟩
  repeat ((try first | (refine z3 hX ?_; clear hX X) | (refine z2 hX ?_; clear hX X)); (first | refine zL fun X hX => ?_ | refine zH fun X hX => ?_ | refine zE fun X hX => ?_ | refine zl ?_ | refine zh ?_ | refine ze ?_); try simp only [oweC, oweP, opF, opH, ev, evs, evp, evo, Env.get, Env.set, putE, gdst, S0, S1, thenN, inBlockN, argEnv, builtinR, retE, fin, callR, reduceIte, Nat.reduceEqDiff, Nat.reduceAdd, reduceCtorEq, forall_const, Q59])
  refine ⟨_, w1, run_build (P := Try.prog) w1 101 _ ((newN e).row (.slice Ae e.args.length ce) (.slice none 0 0) (.slice none 0 0)).toArray (by kernel_rfl), ?_⟩
  repeat ((try first | (refine z3 hX ?_; clear hX X) | (refine z2 hX ?_; clear hX X)); (first | refine zL fun X hX => ?_ | refine zH fun X hX => ?_ | refine zE fun X hX => ?_ | refine zl ?_ | refine zh ?_ | refine ze ?_); try simp only [oweC, oweP, opF, opH, ev, evs, evp, evo, Env.get, Env.set, putE, gdst, S0, S1, thenN, inBlockN, argEnv, builtinR, retE, fin, callR, reduceIte, Nat.reduceEqDiff, Nat.reduceAdd, reduceCtorEq, forall_const, Q59])
  refine Runs.lit (cs := (newN e).row (.slice Ae e.args.length ce) (.slice none 0 0) (.slice none 0 0)) Fx.un81 Fx.zi101 (by decide) (by kernel_rfl) (by decide) (fun w2 he2 hs2 hb2 => ?_)
  repeat ((try first | (refine z3 hX ?_; clear hX X) | (refine z2 hX ?_; clear hX X)); (first | refine zL fun X hX => ?_ | refine zH fun X hX => ?_ | refine zE fun X hX => ?_ | refine zl ?_ | refine zh ?_ | refine ze ?_); try simp only [oweC, oweP, opF, opH, ev, evs, evp, evo, Env.get, Env.set, putE, gdst, S0, S1, thenN, inBlockN, argEnv, builtinR, retE, fin, callR, reduceIte, Nat.reduceEqDiff, Nat.reduceAdd, reduceCtorEq, forall_const, Q59])
  have hs2' := he2.size
  have h2 := h1.ext he2
  have hone : ∀ u ∈ (newN e).row (.slice Ae e.args.length ce) (.slice none 0 0) (.slice none 0 0), u.oneCell' = true := row_one rfl rfl rfl
  rw [← hvn]
  refine Runs.append1' Fx.un81 Fx.zi101 rfl (by decide) h2.own hb2 rfl hone (by simp [maxLen]; omega) (by omega) (by omega) (fun vn3 w3 hown3 hg3 hblk3 => ?_)
  have hc3 : Chg (fun k => vn.ownBlock = some k) w2 w3 := grown_chg hg3
  have hs3 := hc3.size
  have hSF : ∀ k, S k → ¬ NFoot vn vks k := fun k hk hf => by
    rcases hf with hf | ⟨j, v, hj, hf⟩
    · exact (h.top k hf).1 hk
    · exact h.sk j v k hj hf hk
  have hnb3 : ∀ k, vn3.ownBlock = some k → vn.ownBlock = some k ∨ w2.heap.size ≤ k := fun k hk => by
    rcases hblk3 with h' | h'
    · exact .inl (h' ▸ hk)
    · rw [h'] at hk; cases hk; exact .inr (Nat.le_refl _)
  have h3 := h2.push (vn' := vn3) (d := newN e) (va := .slice Ae e.args.length ce) (vl := .slice none 0 0) (fun k hk => by have := hS k hk; omega) hc3 hown3 hnb3 rfl rfl ((hve.chg ((he1.trans he2).chg (fun _ => False)) (fun k hk => ⟨hk, id⟩)).chg hc3 (fun k hk => ⟨hk, fun e => hSF k hk (.inl e)⟩)) (VSlS.nil _ _)
  have hNF3 : ∀ k, NFoot vn3 (vks ++ [.slice none 0 0]) k → NFoot vn vks k ∨ (w2.heap.size ≤ k ∧ k < w3.heap.size) := fun k hk => by
    rcases hk with hk | ⟨i, v, hi, hk⟩
    · rcases hnb3 k hk with h' | h'
      · exact .inl (.inl h')
      · exact .inr ⟨h', (hown3.lt k hk).2⟩
    · rcases Nat.lt_or_ge i vks.length with h' | h'
      · rw [List.getElem?_append_left h'] at hi
        exact .inl (.inr ⟨i, v, hi, hk⟩)
      · rw [List.getElem?_append_right h'] at hi
        have h3 := List.mem_of_getElem? hi
        simp at h3; subst h3
        simp [Value.ownBlock] at hk
  have hc13 : Chg (NFoot vn vks) w1 w3 := (he2.chg _).trans (hc3.mono fun k _ h => .inl h)
  have hs13 := hc13.size
  have hb13 := hb1.chg hc13 (fun hk => by have := hvl _ hk; omega)
  have hlast : ∀ (l : List Nd) (d : Nd), l.length = nds.length → (l ++ [d])[nds.length]? = some d := fun l d hl => by
    rw [List.getElem?_append_right (by omega), hl, Nat.sub_self]; rfl
  repeat ((try first | (refine z3 hX ?_; clear hX X) | (refine z2 hX ?_; clear hX X)); (first | refine zL fun X hX => ?_ | refine zH fun X hX => ?_ | refine zE fun X hX => ?_ | refine zl ?_ | refine zh ?_ | refine ze ?_); try simp only [oweC, oweP, opF, opH, ev, evs, evp, evo, Env.get, Env.set, putE, gdst, S0, S1, thenN, inBlockN, argEnv, builtinR, retE, fin, callR, reduceIte, Nat.reduceEqDiff, Nat.reduceAdd, reduceCtorEq, forall_const, Q59])
  refine hM _ _ _ ?_; clear hM M
  refine ok_seq (fun M hM => ok_region rfl ?_)
  repeat ((try first | (refine z3 hX ?_; clear hX X) | (refine z2 hX ?_; clear hX X)); (first | refine zL fun X hX => ?_ | refine zH fun X hX => ?_ | refine zE fun X hX => ?_ | refine zl ?_ | refine zh ?_ | refine ze ?_); try simp only [oweC, oweP, opF, opH, ev, evs, evp, evo, Env.get, Env.set, putE, gdst, S0, S1, thenN, inBlockN, argEnv, builtinR, retE, fin, callR, reduceIte, Nat.reduceEqDiff, Nat.reduceAdd, reduceCtorEq, forall_const, Q59])
  refine ⟨_, hb13.cell (j := 2) rfl, ?_⟩
  repeat ((try first | (refine z3 hX ?_; clear hX X) | (refine z2 hX ?_; clear hX X)); (first | refine zL fun X hX => ?_ | refine zH fun X hX => ?_ | refine zE fun X hX => ?_ | refine zl ?_ | refine zh ?_ | refine ze ?_); try simp only [oweC, oweP, opF, opH, ev, evs, evp, evo, Env.get, Env.set, putE, gdst, S0, S1, thenN, inBlockN, argEnv, builtinR, retE, fin, callR, reduceIte, Nat.reduceEqDiff, Nat.reduceAdd, reduceCtorEq, forall_const, Q59])
  refine hM _ _ _ ?_; clear hM M
  refine ok_if rfl (fun hpos => ?_) (fun hpos => ok_skip ?_)
  rotate_left
  · try simp only [wpL, wpH, wpE, oweC, oweP, opF, opH, ev, evs, evp, evo, Env.get, Env.set, putE, gdst, S0, S1, thenN, inBlockN, argEnv, builtinR, retE, fin, callR, reduceIte, Nat.reduceEqDiff, Nat.reduceAdd, reduceCtorEq, forall_const, Q59]
    have hbeg : begN nds e = nds ++ [newN e] := by unfold begN; rw [if_neg hpos]
    exact rest _ w3 vn3 _ _ _ nds.length (newN e) (by simp [sub, Env.get]) h3 (fun k hk => (hNF3 k hk).imp id (fun h => ⟨by omega, by omega, h.2⟩)) hc13 (by simp; omega) (by omega) (hlast nds _ rfl) hnew5.1 hnew5.2 (by omega) (by omega) (by rw [← hbeg]; exact hfinB)
  obtain ⟨ip, hpi⟩ : ∃ i : Nat, e.parent = (i : Int) + 1 := ⟨(e.parent - 1).toNat, by omega⟩
  have hpi1 : (e.parent - 1).toNat = ip := by omega
  have hipl : ip < nds.length := by omega
  have hdp : nds[ip]? = some nds[ip] := List.getElem?_eq_getElem hipl
  generalize nds[ip] = dp at hdp
  have hdp' : (nds ++ [newN e])[ip]? = some dp := by rw [List.getElem?_append_left hipl]; exact hdp
  have hkb := (hw.kids ip dp hdp).1
  obtain ⟨gp, capp, vap, vlp, vkp, hvp, hvkp, h5p, hcellp, hvap, hvlp, hownp⟩ := h3.at_ (by simp; omega) hdp'
  have hckp := hcellp 10 _ (row_kids h5p vap vlp vkp)
  have hvo3 : vn3.ownBlock = some gp := by rw [hvp]; rfl
  have hoK : ∀ k, vkp.ownBlock = some k → NFoot vn vks k ∧ k ≠ gp ∧ k ≠ B1 := fun k hk => by
    have hne : k ≠ gp := fun e => (h3.top gp hvo3).2 ip vkp hvkp (e ▸ hk)
    rcases hNF3 k (.inr ⟨ip, vkp, hvkp, hk⟩) with h' | h'
    · exact ⟨h', hne, by have := hvl k h'; omega⟩
    · exfalso
      have hil := (List.getElem?_eq_some_iff.1 hvkp).1
      rw [List.getElem?_append_left (by rw [h.lk]; exact hipl)] at hvkp
      have := hvl k (.inr ⟨ip, vkp, hvkp, hk⟩)
      omega
  have hbeg : begN nds e = (nds ++ [newN e]).set ip { dp with kids := dp.kids ++ [e.call] } := by
    unfold begN
    rw [if_pos hpos, hpi1, modify_set _ _ _ dp hdp']
  refine (ok_drawQ [0, 1, 2, 3, 4, 5, 6, 7, 8, 9, 10, 11, 12, 13, 14, 15, 16, 17] 13 [(true, false), (true, false), (false, true), (false, true), (false, true)] (Chg (fun k => vkp.ownBlock = some k) _) Fx.mixed (by decide) rfl (by decide +kernel) (by decide +kernel) (by decide +kernel) (Chg.drew _ _) ?_); simp only [pickL, List.getElem?_cons_zero, List.getElem?_cons_succ, List.take_succ_cons, List.take_zero, List.drop_succ_cons, List.drop_zero]
  repeat ((try first | (refine z3 hX ?_; clear hX X) | (refine z2 hX ?_; clear hX X)); (first | refine zL fun X hX => ?_ | refine zH fun X hX => ?_ | refine zE fun X hX => ?_ | refine zl ?_ | refine zh ?_ | refine ze ?_); try simp only [oweC, oweP, opF, opH, ev, evs, evp, evo, Env.get, Env.set, putE, gdst, S0, S1, thenN, inBlockN, argEnv, builtinR, retE, fin, callR, reduceIte, Nat.reduceEqDiff, Nat.reduceAdd, reduceCtorEq, forall_const, Q59])
  refine ⟨_, fun w' hw' => (hb13.chg hw' (fun e => (hoK B1 e).2.2 rfl)).cell (j := 2) rfl, ?_⟩
  repeat ((try first | (refine z3 hX ?_; clear hX X) | (refine z2 hX ?_; clear hX X)); (first | refine zL fun X hX => ?_ | refine zH fun X hX => ?_ | refine zE fun X hX => ?_ | refine zl ?_ | refine zh ?_ | refine ze ?_); try simp only [oweC, oweP, opF, opH, ev, evs, evp, evo, Env.get, Env.set, putE, gdst, S0, S1, thenN, inBlockN, argEnv, builtinR, retE, fin, callR, reduceIte, Nat.reduceEqDiff, Nat.reduceAdd, reduceCtorEq, forall_const, Q59])
  refine ⟨by simp only [inI]; omega, ?_⟩
  repeat ((try first | (refine z3 hX ?_; clear hX X) | (refine z2 hX ?_; clear hX X)); (first | refine zL fun X hX => ?_ | refine zH fun X hX => ?_ | refine zE fun X hX => ?_ | refine zl ?_ | refine zh ?_ | refine ze ?_); try simp only [oweC, oweP, opF, opH, ev, evs, evp, evo, Env.get, Env.set, putE, gdst, S0, S1, thenN, inBlockN, argEnv, builtinR, retE, fin, callR, reduceIte, Nat.reduceEqDiff, Nat.reduceAdd, reduceCtorEq, forall_const, Q59])
  refine ⟨_, fun w' hw' => (hb13.chg hw' (fun e => (hoK B1 e).2.2 rfl)).cell (j := 2) rfl, ?_⟩
  repeat ((try first | (refine z3 hX ?_; clear hX X) | (refine z2 hX ?_; clear hX X)); (first | refine zL fun X hX => ?_ | refine zH fun X hX => ?_ | refine zE fun X hX => ?_ | refine zl ?_ | refine zh ?_ | refine ze ?_); try simp only [oweC, oweP, opF, opH, ev, evs, evp, evo, Env.get, Env.set, putE, gdst, S0, S1, thenN, inBlockN, argEnv, builtinR, retE, fin, callR, reduceIte, Nat.reduceEqDiff, Nat.reduceAdd, reduceCtorEq, forall_const, Q59])
  refine ⟨by simp only [inI]; omega, ?_⟩
  rw [hvp]
  repeat ((try first | (refine z3 hX ?_; clear hX X) | (refine z2 hX ?_; clear hX X)); (first | refine zL fun X hX => ?_ | refine zH fun X hX => ?_ | refine zE fun X hX => ?_ | refine zl ?_ | refine zh ?_ | refine ze ?_); try simp only [oweC, oweP, opF, opH, ev, evs, evp, evo, Env.get, Env.set, putE, gdst, S0, S1, thenN, inBlockN, argEnv, builtinR, retE, fin, callR, reduceIte, Nat.reduceEqDiff, Nat.reduceAdd, reduceCtorEq, forall_const, Q59])
  refine ⟨by omega, by simp; omega, ?_⟩
  rw [hpi1]
  repeat ((try first | (refine z3 hX ?_; clear hX X) | (refine z2 hX ?_; clear hX X)); (first | refine zL fun X hX => ?_ | refine zH fun X hX => ?_ | refine zE fun X hX => ?_ | refine zl ?_ | refine zh ?_ | refine ze ?_); try simp only [oweC, oweP, opF, opH, ev, evs, evp, evo, Env.get, Env.set, putE, gdst, S0, S1, thenN, inBlockN, argEnv, builtinR, retE, fin, callR, reduceIte, Nat.reduceEqDiff, Nat.reduceAdd, reduceCtorEq, forall_const, Q59])
  refine ⟨vkp, fun w' hw' => hw'.cell (by simpa [Nat.add_assoc] using hckp) (fun e => (hoK gp e).2.1 rfl), ?_⟩
  repeat ((try first | (refine z3 hX ?_; clear hX X) | (refine z2 hX ?_; clear hX X)); (first | refine zL fun X hX => ?_ | refine zH fun X hX => ?_ | refine zE fun X hX => ?_ | refine zl ?_ | refine zh ?_ | refine ze ?_); try simp only [oweC, oweP, opF, opH, ev, evs, evp, evo, Env.get, Env.set, putE, gdst, S0, S1, thenN, inBlockN, argEnv, builtinR, retE, fin, callR, reduceIte, Nat.reduceEqDiff, Nat.reduceAdd, reduceCtorEq, forall_const, Q59])
  refine ⟨_, fun w' hw' => (hb13.chg hw' (fun e => (hoK B1 e).2.2 rfl)).cell (j := 1) rfl, ?_⟩
  repeat ((try first | (refine z3 hX ?_; clear hX X) | (refine z2 hX ?_; clear hX X)); (first | refine zL fun X hX => ?_ | refine zH fun X hX => ?_ | refine zE fun X hX => ?_ | refine zl ?_ | refine zh ?_ | refine ze ?_); try simp only [oweC, oweP, opF, opH, ev, evs, evp, evo, Env.get, Env.set, putE, gdst, S0, S1, thenN, inBlockN, argEnv, builtinR, retE, fin, callR, reduceIte, Nat.reduceEqDiff, Nat.reduceAdd, reduceCtorEq, forall_const, Q59])
  obtain ⟨w4, hw4⟩ : ∃ w4 : World, w4 = { w3 with drawn := w3.drawn + 1 } := ⟨_, rfl⟩
  have he4 : Ext w3 w4 := by rw [hw4]; exact Ext.drew _
  rw [← hw4]
  refine Runs.lit (cs := [.int .i64 e.call]) Fx.un26 Fx.zi3 (by decide) (by kernel_rfl) (by decide) (fun w5 he5 hs5 hb5 => ?_)
  have he35 := he4.trans he5
  refine ⟨he35.chg _, ?_⟩
  have hs35 := he35.size
  have h5' := h3.ext he35
  have hown5 := owns_chg' hownp (he35.chg (fun _ => False)) (fun _ _ h => h)
  repeat ((try first | (refine z3 hX ?_; clear hX X) | (refine z2 hX ?_; clear hX X)); (first | refine zL fun X hX => ?_ | refine zH fun X hX => ?_ | refine zE fun X hX => ?_ | refine zl ?_ | refine zh ?_ | refine ze ?_); try simp only [oweC, oweP, opF, opH, ev, evs, evp, evo, Env.get, Env.set, putE, gdst, S0, S1, thenN, inBlockN, argEnv, builtinR, retE, fin, callR, reduceIte, Nat.reduceEqDiff, Nat.reduceAdd, reduceCtorEq, forall_const, Q59])
  refine Runs.append1' Fx.un26 Fx.zi3 rfl (by decide) hown5 hb5 rfl (by intro u hu; simp at hu; subst hu; rfl) (by simp [maxLen]; omega) (by omega) (by omega) (fun vk' w6 hown6 hg6 hblk6 => ?_)
  have hc6 : Chg (fun k => vkp.ownBlock = some k) w5 w6 := grown_chg hg6
  have hs6 := hc6.size
  refine ⟨(he35.chg _).trans hc6, ?_⟩
  have hnb6 : ∀ k, vk'.ownBlock = some k → vkp.ownBlock = some k ∨ w5.heap.size ≤ k := fun k hk => by
    rcases hblk6 with h' | h'
    · exact .inl (h' ▸ hk)
    · rw [h'] at hk; cases hk; exact .inr (Nat.le_refl _)
  obtain ⟨gP, capP, curP, hvP, hbP, hleP, hputP⟩ := h5'.kid (c := e.call) hdp' hvkp (fun k hk => by have := hS k hk; omega) (fun k hk => by have := (hown3.lt k hk).2; omega) hc6 hown6 hnb6
  rw [hvp] at hvP
  cases hvP
  obtain ⟨hk'o, hk'c, -⟩ := owns_one hown6
  repeat ((try first | (refine z3 hX ?_; clear hX X) | (refine z2 hX ?_; clear hX X)); (first | refine zL fun X hX => ?_ | refine zH fun X hX => ?_ | refine zE fun X hX => ?_ | refine zl ?_ | refine zh ?_ | refine ze ?_); try simp only [oweC, oweP, opF, opH, ev, evs, evp, evo, Env.get, Env.set, putE, gdst, S0, S1, thenN, inBlockN, argEnv, builtinR, retE, fin, callR, reduceIte, Nat.reduceEqDiff, Nat.reduceAdd, reduceCtorEq, forall_const, Q59])
  refine ⟨by omega, by simp; omega, ?_⟩
  rw [hpi1]
  repeat ((try first | (refine z3 hX ?_; clear hX X) | (refine z2 hX ?_; clear hX X)); (first | refine zL fun X hX => ?_ | refine zH fun X hX => ?_ | refine zE fun X hX => ?_ | refine zl ?_ | refine zh ?_ | refine ze ?_); try simp only [oweC, oweP, opF, opH, ev, evs, evp, evo, Env.get, Env.set, putE, gdst, S0, S1, thenN, inBlockN, argEnv, builtinR, retE, fin, callR, reduceIte, Nat.reduceEqDiff, Nat.reduceAdd, reduceCtorEq, forall_const, Q59])
  simp only [Nat.zero_add]
  refine Runs.store hbP Fx.zi26 (by rw [hk'c]; rfl) (by rw [hk'c]; intro u hu; simp at hu; subst hu; exact hk'o) (by simpa [Nat.add_assoc] using hleP) (fun w7 hc7 hs7 hb7 => ?_)
  obtain ⟨rows7, h7⟩ := hputP w7 hc7 (by rw [hk'c] at hb7; simpa [Nat.add_assoc] using hb7)
  rw [← hbeg] at h7
  have hs7' := hc7.size
  have hNF7 : ∀ k, NFoot vn3 ((vks ++ [Value.slice none 0 0]).set ip vk') k → NFoot vn vks k ∨ (w.heap.size ≤ k ∧ k ≠ B1 ∧ k < w7.heap.size) := fun k hk => by
    rcases hk with hk | ⟨j, v, hj, hk⟩
    · exact (hNF3 k (.inl hk)).imp id (fun h => ⟨by omega, by omega, by omega⟩)
    · by_cases hji : ip = j
      · subst hji
        rw [List.getElem?_set_self (List.getElem?_eq_some_iff.1 hvkp).1] at hj
        cases hj
        have hlt := (hown6.lt k hk).2
        rcases hnb6 k hk with h8 | h8
        · exact .inl (hoK k h8).1
        · exact .inr ⟨by omega, by omega, by omega⟩
      · rw [List.getElem?_set_ne hji] at hj
        exact (hNF3 k (.inr ⟨j, v, hj, hk⟩)).imp id (fun h => ⟨by omega, by omega, by omega⟩)
  have hc17 : Chg (NFoot vn vks) w1 w7 := by
    refine hc13.thn (((he35.chg (fun k => vkp.ownBlock = some k ∨ k = gp)).trans (hc6.mono fun k _ h => .inl h)).trans (hc7.mono fun k _ h => .inr h)) (fun k hk => ?_)
    rcases hk with hk | rfl
    · exact .inl (hoK k hk).1
    · rcases hNF3 k (.inl hvo3) with h8 | h8
      · exact .inl h8
      · exact .inr (by omega)
  have hbl : (begN nds e)[nds.length]? = some (newN e) := begN_new hp1
  repeat ((try first | (refine z3 hX ?_; clear hX X) | (refine z2 hX ?_; clear hX X)); (first | refine zL fun X hX => ?_ | refine zH fun X hX => ?_ | refine zE fun X hX => ?_ | refine zl ?_ | refine zh ?_ | refine ze ?_); try simp only [oweC, oweP, opF, opH, ev, evs, evp, evo, Env.get, Env.set, putE, gdst, S0, S1, thenN, inBlockN, argEnv, builtinR, retE, fin, callR, reduceIte, Nat.reduceEqDiff, Nat.reduceAdd, reduceCtorEq, forall_const, Q59])
  exact rest _ w7 _ _ rows7 _ nds.length (newN e) (by simp [sub, Env.get, hvp]) h7 hNF7 hc17 (by rw [begN_len]; omega) (by omega) hbl hnew5.1 hnew5.2 (by omega) (by omega) hfinB
end Go.Proofs.Ytafjfcameabbmaa
/- The reference of the trace: nodes, Right, Tree.  -/
set_option linter.unusedVariables false
set_option linter.unusedSimpArgs false
namespace Go.Proofs.Vg
open Go Go.RowKit
theorem owns_empty {w : World} {B : Nat} {e sz : Nat} (hb : Blk w B [] e) : w.ownsRow 0 e sz (.slice (some ⟨B, 0, none⟩) 0 0) 0 [] :=
  ⟨by simp, .inr ⟨B, 0, #[], rfl, Nat.zero_le _, hb, Nat.le_refl _, by decide, by simp, by simp⟩⟩
end Go.Proofs.Vg
namespace Go.Proofs.Ytafjfcameabbmaa
open Go Go.Proofs.Vg Go.RowKit

-- -- function 53
set_option maxHeartbeats 4000000 in
set_option maxRecDepth 8000 in
theorem nodes_ok (w : World) (S : Nat → Prop) (v : Value) (es : List Ev) (h : EvSl w S v es) (hl : es.length ≤ 400) (hS : ∀ k, S k → k < w.heap.size) :
    Rets Try.prog 53 [v] w (fun r w' => ∃ vn, r = .tuple #[vn, .int .i64 (rightN es)] ∧ Ext w w' ∧ (rightN es = -1 → ∃ vks rows, NM w' 101 S vn vks rows (stepsN es))) := by
  obtain ⟨rws, ⟨A, c, rfl, hlen, hcell⟩, hrl, hrow⟩ := h
  rw [hrl]
  refine rets_of_ok Try.func53 rfl rfl ?_
  refine ok_seq (fun M hM => ok_region rfl ?_); repeat ((try first | (refine z3 hX ?_; clear hX X) | (refine z2 hX ?_; clear hX X)); (first | refine zL fun X hX => ?_ | refine zH fun X hX => ?_ | refine zE fun X hX => ?_ | refine zl ?_ | refine zh ?_ | refine ze ?_); try simp only [oweC, oweP, opF, opH, ev, evs, evp, evo, Env.get, Env.set, putE, gdst, S0, S1, thenN, inBlockN, argEnv, builtinR, retE, fin, callR, reduceIte, Nat.reduceEqDiff, Nat.reduceAdd, reduceCtorEq, forall_const, Q53])
  refine hM _ _ _ ?_; clear hM M
  refine ok_seq (fun M hM => ok_region rfl ?_)
  repeat ((try first | (refine z3 hX ?_; clear hX X) | (refine z2 hX ?_; clear hX X)); (first | refine zL fun X hX => ?_ | refine zH fun X hX => ?_ | refine zE fun X hX => ?_ | refine zl ?_ | refine zh ?_ | refine ze ?_); try simp only [oweC, oweP, opF, opH, ev, evs, evp, evo, Env.get, Env.set, putE, gdst, S0, S1, thenN, inBlockN, argEnv, builtinR, retE, fin, callR, reduceIte, Nat.reduceEqDiff, Nat.reduceAdd, reduceCtorEq, forall_const, Q53])
  refine Runs.lit00 Fx.un81 Fx.zi101 (fun w1 he1 hs1 hb1 => ?_)
  generalize hB1 : w.heap.size = bb at hs1 hb1
  repeat ((try first | (refine z3 hX ?_; clear hX X) | (refine z2 hX ?_; clear hX X)); (first | refine zL fun X hX => ?_ | refine zH fun X hX => ?_ | refine zE fun X hX => ?_ | refine zl ?_ | refine zh ?_ | refine ze ?_); try simp only [oweC, oweP, opF, opH, ev, evs, evp, evo, Env.get, Env.set, putE, gdst, S0, S1, thenN, inBlockN, argEnv, builtinR, retE, fin, callR, reduceIte, Nat.reduceEqDiff, Nat.reduceAdd, reduceCtorEq, forall_const, Q53])
  refine hM _ _ _ ?_; clear hM M
  refine ok_seq (fun M0 hM0 => ?_)
  refine ok_seq (fun M hM => ok_region rfl ?_); repeat ((try first | (refine z3 hX ?_; clear hX X) | (refine z2 hX ?_; clear hX X)); (first | refine zL fun X hX => ?_ | refine zH fun X hX => ?_ | refine zE fun X hX => ?_ | refine zl ?_ | refine zh ?_ | refine ze ?_); try simp only [oweC, oweP, opF, opH, ev, evs, evp, evo, Env.get, Env.set, putE, gdst, S0, S1, thenN, inBlockN, argEnv, builtinR, retE, fin, callR, reduceIte, Nat.reduceEqDiff, Nat.reduceAdd, reduceCtorEq, forall_const, Q53])
  refine hM _ _ _ ?_; clear hM M
  refine ok_block ?_
  refine ok_loop (S := Nat × Value) (fun s => [(0, .slice A es.length c), (4, s.2), (5, .int .i64 (s.1 : Int))])
    (fun s w' => Ext w w' ∧ s.1 ≤ es.length ∧ okTo es s.1 ∧ ∃ vks rows, NM w' 101 S s.2 vks rows (stepsN (es.take s.1)) ∧ ∀ k, NFoot s.2 vks k → w.heap.size ≤ k) (fun s => es.length - s.1) (0, .slice (some ⟨bb, 0, none⟩) 0 0) ?_ ?_ ?_
  · simp [sub, Env.get, argEnv]
  · refine ⟨he1, Nat.zero_le _, fun j hj => absurd hj (Nat.not_lt_zero _), [], [], ⟨owns_empty hb1, rfl, rfl, fun i d hd => by simp [stepsN] at hd, fun i j u v k hu => by simp at hu, fun k hk => ⟨fun hs => ?_, fun i v hi => by simp at hi⟩, fun i v k hi => by simp at hi⟩, fun k hk => ?_⟩
    · simp [Value.ownBlock] at hk
      have := hS k hs; omega
    · rcases hk with hk | ⟨i, v, hi, _⟩
      · simp [Value.ownBlock] at hk; omega
      · simp at hi
  rintro ⟨i, vn⟩ w2 ⟨he2, hi, hok, vks, rows, hnm, hF⟩
  simp only at hi hok hnm hF ⊢
  have hs2 := he2.size
  refine ok_seq (fun M1 hM1 => ?_)
  refine ok_seq (fun M hM => ok_region rfl ?_); repeat ((try first | (refine z3 hX ?_; clear hX X) | (refine z2 hX ?_; clear hX X)); (first | refine zL fun X hX => ?_ | refine zH fun X hX => ?_ | refine zE fun X hX => ?_ | refine zl ?_ | refine zh ?_ | refine ze ?_); try simp only [oweC, oweP, opF, opH, ev, evs, evp, evo, Env.get, Env.set, putE, gdst, S0, S1, thenN, inBlockN, argEnv, builtinR, retE, fin, callR, reduceIte, Nat.reduceEqDiff, Nat.reduceAdd, reduceCtorEq, forall_const, Q53])
  refine hM _ _ _ ?_; clear hM M
  refine ok_if rfl (fun hc => ok_skip ?_) (fun hc => ok_exit ?_)
  rotate_left
  · try simp only [wpL, wpH, wpE, oweC, oweP, opF, opH, ev, evs, evp, evo, Env.get, Env.set, putE, gdst, S0, S1, thenN, inBlockN, argEnv, builtinR, retE, fin, callR, reduceIte, Nat.reduceEqDiff, Nat.reduceAdd, reduceCtorEq, forall_const, Q53]
    refine hM0 _ _ _ ?_; clear hM0 M0 hM1 M1
    have hia : i = es.length := by omega
    subst hia
    refine ok_seq (fun M hM => ok_region rfl ?_); repeat ((try first | (refine z3 hX ?_; clear hX X) | (refine z2 hX ?_; clear hX X)); (first | refine zL fun X hX => ?_ | refine zH fun X hX => ?_ | refine zE fun X hX => ?_ | refine zl ?_ | refine zh ?_ | refine ze ?_); try simp only [oweC, oweP, opF, opH, ev, evs, evp, evo, Env.get, Env.set, putE, gdst, S0, S1, thenN, inBlockN, argEnv, builtinR, retE, fin, callR, reduceIte, Nat.reduceEqDiff, Nat.reduceAdd, reduceCtorEq, forall_const, Q53])
    refine hM _ _ _ ?_; clear hM M
    refine ok_ret ?_
    try simp only [wpL, wpH, wpE, oweC, oweP, opF, opH, ev, evs, evp, evo, Env.get, Env.set, putE, gdst, S0, S1, thenN, inBlockN, argEnv, builtinR, retE, fin, callR, reduceIte, Nat.reduceEqDiff, Nat.reduceAdd, reduceCtorEq, forall_const, Q53]
    have hr := rightN_ok hok
    rw [List.take_of_length_le (Nat.le_refl _)] at hnm
    exact ⟨vn, by rw [hr], he2, fun _ => ⟨_, _, hnm⟩⟩
  try simp only [wpL, wpH, wpE, oweC, oweP, opF, opH, ev, evs, evp, evo, Env.get, Env.set, putE, gdst, S0, S1, thenN, inBlockN, argEnv, builtinR, retE, fin, callR, reduceIte, Nat.reduceEqDiff, Nat.reduceAdd, reduceCtorEq, forall_const, Q53]
  refine hM1 _ _ _ ?_; clear hM1 M1
  have hil : i < es.length := by omega
  have hei : es[i]? = some es[i] := List.getElem?_eq_getElem hil
  have htk : es.take (i + 1) = es.take i ++ [es[i]] := List.take_succ_eq_append_getElem hil
  generalize es[i] = e at hei htk
  have hri : rws[i]? = some (rws[i]'(by omega)) := List.getElem?_eq_getElem (by omega)
  generalize (rws[i]'(by omega)) = r at hri
  have hre := hrow i r e hri hei
  obtain ⟨b, o, rfl, hbS, hcr⟩ := hcell i r hri
  obtain ⟨hr6, hrc, hro⟩ := hre.cells
  obtain ⟨hwf, -⟩ := hok.wf hi
  refine ok_seq (fun M1 hM1 => ok_block ?_)
  refine ok_join [(0, .slice (some ⟨b, o, none⟩) es.length c), (4, vn), (5, .int .i64 (i : Int))] (fun w' => Ext w2 w' ∧ fitsR (stepsN (es.take i)) e = true) ?_ ?_
  · refine ok_seq (fun M hM => ok_region rfl ?_)
    repeat ((try first | (refine z3 hX ?_; clear hX X) | (refine z2 hX ?_; clear hX X)); (first | refine zL fun X hX => ?_ | refine zH fun X hX => ?_ | refine zE fun X hX => ?_ | refine zl ?_ | refine zh ?_ | refine ze ?_); try simp only [oweC, oweP, opF, opH, ev, evs, evp, evo, Env.get, Env.set, putE, gdst, S0, S1, thenN, inBlockN, argEnv, builtinR, retE, fin, callR, reduceIte, Nat.reduceEqDiff, Nat.reduceAdd, reduceCtorEq, forall_const, Q53])
    refine ⟨by omega, by omega, ?_⟩
    repeat ((try first | (refine z3 hX ?_; clear hX X) | (refine z2 hX ?_; clear hX X)); (first | refine zL fun X hX => ?_ | refine zH fun X hX => ?_ | refine zE fun X hX => ?_ | refine zl ?_ | refine zh ?_ | refine ze ?_); try simp only [oweC, oweP, opF, opH, ev, evs, evp, evo, Env.get, Env.set, putE, gdst, S0, S1, thenN, inBlockN, argEnv, builtinR, retE, fin, callR, reduceIte, Nat.reduceEqDiff, Nat.reduceAdd, reduceCtorEq, forall_const, Q53])
    refine ⟨r, hr6, he2.cellsAt hcr, ?_⟩
    repeat ((try first | (refine z3 hX ?_; clear hX X) | (refine z2 hX ?_; clear hX X)); (first | refine zL fun X hX => ?_ | refine zH fun X hX => ?_ | refine zE fun X hX => ?_ | refine zl ?_ | refine zh ?_ | refine ze ?_); try simp only [oweC, oweP, opF, opH, ev, evs, evp, evo, Env.get, Env.set, putE, gdst, S0, S1, thenN, inBlockN, argEnv, builtinR, retE, fin, callR, reduceIte, Nat.reduceEqDiff, Nat.reduceAdd, reduceCtorEq, forall_const, Q53])
    refine Inv.call Fx.en58 (fits_ok w2 S S vn vks rows _ hnm i (by omega) hwf r e (hre.ext he2)) ?_
    rintro vv w3 ⟨rfl, he3⟩
    repeat ((try first | (refine z3 hX ?_; clear hX X) | (refine z2 hX ?_; clear hX X)); (first | refine zL fun X hX => ?_ | refine zH fun X hX => ?_ | refine zE fun X hX => ?_ | refine zl ?_ | refine zh ?_ | refine ze ?_); try simp only [oweC, oweP, opF, opH, ev, evs, evp, evo, Env.get, Env.set, putE, gdst, S0, S1, thenN, inBlockN, argEnv, builtinR, retE, fin, callR, reduceIte, Nat.reduceEqDiff, Nat.reduceAdd, reduceCtorEq, forall_const, Q53])
    refine hM _ _ _ ?_; clear hM M
    cases hf : fitsR (stepsN (es.take i)) e with
    | false =>
      refine ok_cond (b := true) rfl (fun _ => ?_) (fun h => by cases h)
      refine ok_seq (fun M hM => ok_region rfl ?_); repeat ((try first | (refine z3 hX ?_; clear hX X) | (refine z2 hX ?_; clear hX X)); (first | refine zL fun X hX => ?_ | refine zH fun X hX => ?_ | refine zE fun X hX => ?_ | refine zl ?_ | refine zh ?_ | refine ze ?_); try simp only [oweC, oweP, opF, opH, ev, evs, evp, evo, Env.get, Env.set, putE, gdst, S0, S1, thenN, inBlockN, argEnv, builtinR, retE, fin, callR, reduceIte, Nat.reduceEqDiff, Nat.reduceAdd, reduceCtorEq, forall_const, Q53])
      refine hM _ _ _ ?_; clear hM M
      refine ok_ret ?_
      try simp only [wpL, wpH, wpE, oweC, oweP, opF, opH, ev, evs, evp, evo, Env.get, Env.set, putE, gdst, S0, S1, thenN, inBlockN, argEnv, builtinR, retE, fin, callR, reduceIte, Nat.reduceEqDiff, Nat.reduceAdd, reduceCtorEq, forall_const, Q53]
      have hr := rightN_bad hok hei hf
      exact ⟨_, by rw [hr], he2.trans he3, fun hh => by rw [hr] at hh; omega⟩
    | true =>
      refine ok_cond (b := false) rfl (fun h => by cases h) (fun _ => ok_skip ?_)
      try simp only [wpL, wpH, wpE, oweC, oweP, opF, opH, ev, evs, evp, evo, Env.get, Env.set, putE, gdst, S0, S1, thenN, inBlockN, argEnv, builtinR, retE, fin, callR, reduceIte, Nat.reduceEqDiff, Nat.reduceAdd, reduceCtorEq, forall_const, Q53]
      exact ⟨by simp [sub, Env.get], he3⟩
  rintro w3 ⟨he3, hf⟩
  have he03 := he2.trans he3
  have hs3 := he3.size
  refine ok_region rfl ?_
  repeat ((try first | (refine z3 hX ?_; clear hX X) | (refine z2 hX ?_; clear hX X)); (first | refine zL fun X hX => ?_ | refine zH fun X hX => ?_ | refine zE fun X hX => ?_ | refine zl ?_ | refine zh ?_ | refine ze ?_); try simp only [oweC, oweP, opF, opH, ev, evs, evp, evo, Env.get, Env.set, putE, gdst, S0, S1, thenN, inBlockN, argEnv, builtinR, retE, fin, callR, reduceIte, Nat.reduceEqDiff, Nat.reduceAdd, reduceCtorEq, forall_const, Q53])
  refine ⟨by omega, by omega, ?_⟩
  repeat ((try first | (refine z3 hX ?_; clear hX X) | (refine z2 hX ?_; clear hX X)); (first | refine zL fun X hX => ?_ | refine zH fun X hX => ?_ | refine zE fun X hX => ?_ | refine zl ?_ | refine zh ?_ | refine ze ?_); try simp only [oweC, oweP, opF, opH, ev, evs, evp, evo, Env.get, Env.set, putE, gdst, S0, S1, thenN, inBlockN, argEnv, builtinR, retE, fin, callR, reduceIte, Nat.reduceEqDiff, Nat.reduceAdd, reduceCtorEq, forall_const, Q53])
  refine ⟨r, hr6, he03.cellsAt hcr, ?_⟩
  repeat ((try first | (refine z3 hX ?_; clear hX X) | (refine z2 hX ?_; clear hX X)); (first | refine zL fun X hX => ?_ | refine zH fun X hX => ?_ | refine zE fun X hX => ?_ | refine zl ?_ | refine zh ?_ | refine ze ?_); try simp only [oweC, oweP, opF, opH, ev, evs, evp, evo, Env.get, Env.set, putE, gdst, S0, S1, thenN, inBlockN, argEnv, builtinR, retE, fin, callR, reduceIte, Nat.reduceEqDiff, Nat.reduceAdd, reduceCtorEq, forall_const, Q53])
  refine Inv.call Fx.en59 (step_ok w3 S vn vks rows _ (hnm.ext he3) i (by omega) hwf r e (hre.ext he03) (fun k hk => by have := hS k hk; omega) hf) ?_
  rintro vv w4 ⟨⟨vks4, rows4, hnm4, hF4⟩, hc4⟩
  repeat ((try first | (refine z3 hX ?_; clear hX X) | (refine z2 hX ?_; clear hX X)); (first | refine zL fun X hX => ?_ | refine zH fun X hX => ?_ | refine zE fun X hX => ?_ | refine zl ?_ | refine zh ?_ | refine ze ?_); try simp only [oweC, oweP, opF, opH, ev, evs, evp, evo, Env.get, Env.set, putE, gdst, S0, S1, thenN, inBlockN, argEnv, builtinR, retE, fin, callR, reduceIte, Nat.reduceEqDiff, Nat.reduceAdd, reduceCtorEq, forall_const, Q53])
  refine hM1 _ _ _ ?_; clear hM1 M1
  refine ok_region rfl ?_
  repeat ((try first | (refine z3 hX ?_; clear hX X) | (refine z2 hX ?_; clear hX X)); (first | refine zL fun X hX => ?_ | refine zH fun X hX => ?_ | refine zE fun X hX => ?_ | refine zl ?_ | refine zh ?_ | refine ze ?_); try simp only [oweC, oweP, opF, opH, ev, evs, evp, evo, Env.get, Env.set, putE, gdst, S0, S1, thenN, inBlockN, argEnv, builtinR, retE, fin, callR, reduceIte, Nat.reduceEqDiff, Nat.reduceAdd, reduceCtorEq, forall_const, Q53])
  refine ⟨by simp only [inI]; omega, ?_⟩
  repeat ((try first | (refine z3 hX ?_; clear hX X) | (refine z2 hX ?_; clear hX X)); (first | refine zL fun X hX => ?_ | refine zH fun X hX => ?_ | refine zE fun X hX => ?_ | refine zl ?_ | refine zh ?_ | refine ze ?_); try simp only [oweC, oweP, opF, opH, ev, evs, evp, evo, Env.get, Env.set, putE, gdst, S0, S1, thenN, inBlockN, argEnv, builtinR, retE, fin, callR, reduceIte, Nat.reduceEqDiff, Nat.reduceAdd, reduceCtorEq, forall_const, Q53])
  refine ⟨(i + 1, vv), by simp [sub, Env.get], ⟨he03.chg_trans hc4 (fun k hk => hF k hk), by omega, fun j hj => ?_, vks4, rows4, by rw [htk, stepsN_snoc]; exact hnm4, fun k hk => ?_⟩, by omega⟩
  · rcases Nat.lt_or_ge j i with h1 | h1
    · exact hok j h1
    · have : j = i := by omega
      subst this
      simp [badAt, hei, hf]
  · rcases hF4 k hk with h1 | h1
    · exact hF k h1
    · omega

-- -- function 38
set_option maxHeartbeats 4000000 in
theorem refRight_ok (w : World) (S : Nat → Prop) (v : Value) (es : List Ev) (h : EvSl w S v es) (hl : es.length ≤ 400) (hS : ∀ k, S k → k < w.heap.size) :
    Rets Try.prog 38 [v] w (fun r w' => r = .int .i64 (rightN es) ∧ Ext w w') := by
  refine rets_of_ok Try.func38 rfl rfl ?_
  refine ok_seq (fun M hM => ok_region rfl ?_); repeat ((try first | (refine z3 hX ?_; clear hX X) | (refine z2 hX ?_; clear hX X)); (first | refine zL fun X hX => ?_ | refine zH fun X hX => ?_ | refine zE fun X hX => ?_ | refine zl ?_ | refine zh ?_ | refine ze ?_); try simp only [oweC, oweP, opF, opH, ev, evs, evp, evo, Env.get, Env.set, putE, gdst, S0, S1, thenN, inBlockN, argEnv, builtinR, retE, fin, callR, reduceIte, Nat.reduceEqDiff, Nat.reduceAdd, reduceCtorEq, forall_const, Q38])
  refine hM _ _ _ ?_; clear hM M
  refine ok_seq (fun M hM => ok_region rfl ?_)
  repeat ((try first | (refine z3 hX ?_; clear hX X) | (refine z2 hX ?_; clear hX X)); (first | refine zL fun X hX => ?_ | refine zH fun X hX => ?_ | refine zE fun X hX => ?_ | refine zl ?_ | refine zh ?_ | refine ze ?_); try simp only [oweC, oweP, opF, opH, ev, evs, evp, evo, Env.get, Env.set, putE, gdst, S0, S1, thenN, inBlockN, argEnv, builtinR, retE, fin, callR, reduceIte, Nat.reduceEqDiff, Nat.reduceAdd, reduceCtorEq, forall_const, Q38])
  refine Inv.call Fx.en53 (nodes_ok w S v es h hl hS) ?_
  rintro r w1 ⟨vn, rfl, he1, -⟩
  repeat ((try first | (refine z3 hX ?_; clear hX X) | (refine z2 hX ?_; clear hX X)); (first | refine zL fun X hX => ?_ | refine zH fun X hX => ?_ | refine zE fun X hX => ?_ | refine zl ?_ | refine zh ?_ | refine ze ?_); try simp only [oweC, oweP, opF, opH, ev, evs, evp, evo, Env.get, Env.set, putE, gdst, S0, S1, thenN, inBlockN, argEnv, builtinR, retE, fin, callR, reduceIte, Nat.reduceEqDiff, Nat.reduceAdd, reduceCtorEq, forall_const, Q38])
  refine hM _ _ _ ?_; clear hM M
  refine ok_seq (fun M hM => ok_region rfl ?_); repeat ((try first | (refine z3 hX ?_; clear hX X) | (refine z2 hX ?_; clear hX X)); (first | refine zL fun X hX => ?_ | refine zH fun X hX => ?_ | refine zE fun X hX => ?_ | refine zl ?_ | refine zh ?_ | refine ze ?_); try simp only [oweC, oweP, opF, opH, ev, evs, evp, evo, Env.get, Env.set, putE, gdst, S0, S1, thenN, inBlockN, argEnv, builtinR, retE, fin, callR, reduceIte, Nat.reduceEqDiff, Nat.reduceAdd, reduceCtorEq, forall_const, Q38])
  refine hM _ _ _ ?_; clear hM M
  refine ok_ret ?_
  try simp only [wpL, wpH, wpE, oweC, oweP, opF, opH, ev, evs, evp, evo, Env.get, Env.set, putE, gdst, S0, S1, thenN, inBlockN, argEnv, builtinR, retE, fin, callR, reduceIte, Nat.reduceEqDiff, Nat.reduceAdd, reduceCtorEq, forall_const, Q38]
  exact he1

-- -- function 39
set_option maxHeartbeats 4000000 in
theorem refTraceTree_ok (w : World) (S : Nat → Prop) (v : Value) (es : List Ev) (h : EvSl w S v es) (hl : es.length ≤ 400) (hS : ∀ k, S k → k < w.heap.size) (hr : rightN es = -1) :
    Rets Try.prog 39 [v] w (fun r w' => ∃ vn, r = .tuple #[vn, .int .i64 0] ∧ Ext w w' ∧ ∃ vks rows, NM w' 101 S vn vks rows (stepsN es)) := by
  refine rets_of_ok Try.func39 rfl rfl ?_
  refine ok_seq (fun M hM => ok_region rfl ?_); repeat ((try first | (refine z3 hX ?_; clear hX X) | (refine z2 hX ?_; clear hX X)); (first | refine zL fun X hX => ?_ | refine zH fun X hX => ?_ | refine zE fun X hX => ?_ | refine zl ?_ | refine zh ?_ | refine ze ?_); try simp only [oweC, oweP, opF, opH, ev, evs, evp, evo, Env.get, Env.set, putE, gdst, S0, S1, thenN, inBlockN, argEnv, builtinR, retE, fin, callR, reduceIte, Nat.reduceEqDiff, Nat.reduceAdd, reduceCtorEq, forall_const, Q39])
  refine hM _ _ _ ?_; clear hM M
  refine ok_seq (fun M hM => ok_region rfl ?_)
  repeat ((try first | (refine z3 hX ?_; clear hX X) | (refine z2 hX ?_; clear hX X)); (first | refine zL fun X hX => ?_ | refine zH fun X hX => ?_ | refine zE fun X hX => ?_ | refine zl ?_ | refine zh ?_ | refine ze ?_); try simp only [oweC, oweP, opF, opH, ev, evs, evp, evo, Env.get, Env.set, putE, gdst, S0, S1, thenN, inBlockN, argEnv, builtinR, retE, fin, callR, reduceIte, Nat.reduceEqDiff, Nat.reduceAdd, reduceCtorEq, forall_const, Q39])
  refine Inv.call Fx.en53 (nodes_ok w S v es h hl hS) ?_
  rintro r w1 ⟨vn, rfl, he1, hnm⟩
  obtain ⟨vks, rows, hnm⟩ := hnm hr
  rw [hr]
  repeat ((try first | (refine z3 hX ?_; clear hX X) | (refine z2 hX ?_; clear hX X)); (first | refine zL fun X hX => ?_ | refine zH fun X hX => ?_ | refine zE fun X hX => ?_ | refine zl ?_ | refine zh ?_ | refine ze ?_); try simp only [oweC, oweP, opF, opH, ev, evs, evp, evo, Env.get, Env.set, putE, gdst, S0, S1, thenN, inBlockN, argEnv, builtinR, retE, fin, callR, reduceIte, Nat.reduceEqDiff, Nat.reduceAdd, reduceCtorEq, forall_const, Q39])
  refine hM _ _ _ ?_; clear hM M
  refine ok_seq (fun M hM => ?_)
  refine ok_seq (fun M hM => ok_region rfl ?_); repeat ((try first | (refine z3 hX ?_; clear hX X) | (refine z2 hX ?_; clear hX X)); (first | refine zL fun X hX => ?_ | refine zH fun X hX => ?_ | refine zE fun X hX => ?_ | refine zl ?_ | refine zh ?_ | refine ze ?_); try simp only [oweC, oweP, opF, opH, ev, evs, evp, evo, Env.get, Env.set, putE, gdst, S0, S1, thenN, inBlockN, argEnv, builtinR, retE, fin, callR, reduceIte, Nat.reduceEqDiff, Nat.reduceAdd, reduceCtorEq, forall_const, Q39])
  refine hM _ _ _ ?_; clear hM M
  refine ok_cond (b := false) rfl (fun h => by cases h) (fun _ => ok_skip ?_)
  try simp only [wpL, wpH, wpE, oweC, oweP, opF, opH, ev, evs, evp, evo, Env.get, Env.set, putE, gdst, S0, S1, thenN, inBlockN, argEnv, builtinR, retE, fin, callR, reduceIte, Nat.reduceEqDiff, Nat.reduceAdd, reduceCtorEq, forall_const, Q39]
  refine hM _ _ _ ?_; clear hM M
  refine ok_seq (fun M hM => ok_region rfl ?_); repeat ((try first | (refine z3 hX ?_; clear hX X) | (refine z2 hX ?_; clear hX X)); (first | refine zL fun X hX => ?_ | refine zH fun X hX => ?_ | refine zE fun X hX => ?_ | refine zl ?_ | refine zh ?_ | refine ze ?_); try simp only [oweC, oweP, opF, opH, ev, evs, evp, evo, Env.get, Env.set, putE, gdst, S0, S1, thenN, inBlockN, argEnv, builtinR, retE, fin, callR, reduceIte, Nat.reduceEqDiff, Nat.reduceAdd, reduceCtorEq, forall_const, Q39])
  refine hM _ _ _ ?_; clear hM M
  refine ok_ret ?_
  try simp only [wpL, wpH, wpE, oweC, oweP, opF, opH, ev, evs, evp, evo, Env.get, Env.set, putE, gdst, S0, S1, thenN, inBlockN, argEnv, builtinR, retE, fin, callR, reduceIte, Nat.reduceEqDiff, Nat.reduceAdd, reduceCtorEq, forall_const, Q39]
  exact ⟨vn, rfl, he1, vks, rows, hnm⟩
end Go.Proofs.Ytafjfcameabbmaa
/- The reference's tree of an answer: grow.  -/
set_option linter.unusedVariables false
set_option linter.unusedSimpArgs false
namespace Go.Proofs.Vg
open Go Go.RowKit
theorem DM.flt {w : World} {et : TypeId} {S : Nat → Prop} {vn : Value} {vks : List Value} {rows : List (List Value)} {dns : List DN} (h : DM w et S vn vks rows dns) (k : Nat) (hk : NFoot vn vks k) : k < w.heap.size := by
  rcases hk with hk | ⟨i, v, hi, hk⟩
  · exact (h.own.lt k hk).2
  · have hil := (List.getElem?_eq_some_iff.1 hi).1
    obtain ⟨_, _, _, vk, h1, _, _, _, h2⟩ := h.row i (dns[i]'(by rw [← h.lk]; exact hil)) (List.getElem?_eq_getElem _)
    rw [hi] at h1; cases h1
    exact (h2.lt k hk).2
/-- The nodes so far. -/
abbrev OutR (w : World) (dns : List DN) (vn : Value) (dvks : List Value) (drows : List (List Value)) : Prop := DM w 61 (SD w (fun _ => True) vn dvks) vn dvks drows dns
end Go.Proofs.Vg
namespace Go.Proofs.Ytafjfcameabbmaa
open Go Go.Proofs.Vg Go.RowKit

-- -- function 40
set_option maxHeartbeats 4000000 in
set_option maxRecDepth 8000 in
theorem grow_ok (b0 : Nat) (Sc : Nat → Prop) (vc : Value) (cvks : List Value) (crows : List (List Value)) (nds : List Nd) (mm : Nat) (hw : WF mm nds) (hmm : mm ≤ 400) (hSc : ∀ k, Sc k → k < b0) (hFc : ∀ k, NFoot vc cvks k → k < b0) :
    ∀ (f : Nat) (call : Int) (w : World) (vn : Value) (dvks : List Value) (drows : List (List Value)) (dns : List DN), nds.length < call.toNat + f → 1 ≤ call → call ≤ (nds.length : Int) → dns.length + sizeF nds f call ≤ 1000 → NM w 101 Sc vc cvks crows nds → OutR w dns vn dvks drows → b0 ≤ w.heap.size → (∀ k, NFoot vn dvks k → b0 ≤ k) →
    Rets Try.prog 40 [vc, .int .i64 call, vn] w (fun r w' => (∃ dvks' drows', OutR w' (dns ++ growF nds f call dns.length) r dvks' drows' ∧ ∀ k, NFoot r dvks' k → NFoot vn dvks k ∨ w.heap.size ≤ k) ∧ Chg (NFoot vn dvks) w w') := by
  intro f
  induction f with
  | zero => intro call w vn dvks drows dns h1 h2 h3; omega
  | succ f ih =>
    intro call w vn dvks drows dns hfu hc1 hcl hsz hnm hout hb0 hbF
    obtain ⟨i0, rfl⟩ : ∃ i : Nat, call = (i : Int) + 1 := ⟨(call - 1).toNat, by omega⟩
    have hi0 : i0 < nds.length := by omega
    have hn := hw.n
    have hd : nds[i0]? = some nds[i0] := List.getElem?_eq_getElem hi0
    generalize nds[i0] = d at hd
    have hat : atN nds ((i0 : Int) + 1) = some d := by
      unfold atN
      rw [if_pos (by omega), show ((i0 : Int) + 1 - 1).toNat = i0 by omega]
      exact hd
    have hgrow : growF nds (f + 1) ((i0 : Int) + 1) dns.length = ⟨(i0 : Int) + 1, d.proc, d.args, d.last, (kidsF (growF nds f) nds d.kids (dns.length + 1)).2⟩ :: (kidsF (growF nds f) nds d.kids (dns.length + 1)).1 := by
      rw [growF, hat]
    have hszd : sizeF nds (f + 1) ((i0 : Int) + 1) = 1 + sumK (fun k => if stateN nds k = 2 then sizeF nds f k else 0) d.kids := by
      rw [sizeF, hat]
    rw [hszd] at hsz
    obtain ⟨g, cap, va, vl, vk, hvc, hvk, h5, hcell, hva, hvl, hvkk⟩ := hnm.at_ (by omega) hd
    obtain ⟨Aa, ca, rfl⟩ := hva.slice
    obtain ⟨Al, cl, rfl⟩ := hvl.slice
    obtain ⟨hko, hkc, Ak, ck, rfl⟩ := owns_one hvkk
    obtain ⟨hno, hnc, An, cn, hvneq⟩ := owns_one hout.own
    have hkl := (hw.kids i0 d hd)
    have hfl : ∀ k, NFoot vn dvks k → k < w.heap.size := hout.flt
    refine rets_of_ok Try.func40 rfl rfl ?_
    refine ok_seq (fun M hM => ok_region rfl ?_); repeat ((try first | (refine z3 hX ?_; clear hX X) | (refine z2 hX ?_; clear hX X)); (first | refine zL fun X hX => ?_ | refine zH fun X hX => ?_ | refine zE fun X hX => ?_ | refine zl ?_ | refine zh ?_ | refine ze ?_); try simp only [oweC, oweP, opF, opH, ev, evs, evp, evo, Env.get, Env.set, putE, gdst, S0, S1, thenN, inBlockN, argEnv, builtinR, retE, fin, callR, reduceIte, Nat.reduceEqDiff, Nat.reduceAdd, reduceCtorEq, forall_const, Q40])
    refine hM _ _ _ ?_; clear hM M
    refine ok_seq (fun M hM => ok_region rfl ?_)
    rw [hvc]
    repeat ((try first | (refine z3 hX ?_; clear hX X) | (refine z2 hX ?_; clear hX X)); (first | refine zL fun X hX => ?_ | refine zH fun X hX => ?_ | refine zE fun X hX => ?_ | refine zl ?_ | refine zh ?_ | refine ze ?_); try simp only [oweC, oweP, opF, opH, ev, evs, evp, evo, Env.get, Env.set, putE, gdst, S0, S1, thenN, inBlockN, argEnv, builtinR, retE, fin, callR, reduceIte, Nat.reduceEqDiff, Nat.reduceAdd, reduceCtorEq, forall_const, Q40])
    refine ⟨by simp only [inI]; omega, ?_⟩
    repeat ((try first | (refine z3 hX ?_; clear hX X) | (refine z2 hX ?_; clear hX X)); (first | refine zL fun X hX => ?_ | refine zH fun X hX => ?_ | refine zE fun X hX => ?_ | refine zl ?_ | refine zh ?_ | refine ze ?_); try simp only [oweC, oweP, opF, opH, ev, evs, evp, evo, Env.get, Env.set, putE, gdst, S0, S1, thenN, inBlockN, argEnv, builtinR, retE, fin, callR, reduceIte, Nat.reduceEqDiff, Nat.reduceAdd, reduceCtorEq, forall_const, Q40])
    refine ⟨by omega, by omega, ?_⟩
    rw [show ((i0 : Int) + 1 - 1).toNat = i0 by omega]
    repeat ((try first | (refine z3 hX ?_; clear hX X) | (refine z2 hX ?_; clear hX X)); (first | refine zL fun X hX => ?_ | refine zH fun X hX => ?_ | refine zE fun X hX => ?_ | refine zl ?_ | refine zh ?_ | refine ze ?_); try simp only [oweC, oweP, opF, opH, ev, evs, evp, evo, Env.get, Env.set, putE, gdst, S0, S1, thenN, inBlockN, argEnv, builtinR, retE, fin, callR, reduceIte, Nat.reduceEqDiff, Nat.reduceAdd, reduceCtorEq, forall_const, Q40])
    refine ⟨d.row (.slice Aa d.args.length ca) (.slice Al d.last.length cl) (.slice Ak d.kids.length ck), Nd.row_len h5 _ _ _, fun j u hj => by have := hcell j u hj; simpa [add_at] using this, ?_⟩
    repeat ((try first | (refine z3 hX ?_; clear hX X) | (refine z2 hX ?_; clear hX X)); (first | refine zL fun X hX => ?_ | refine zH fun X hX => ?_ | refine zE fun X hX => ?_ | refine zl ?_ | refine zh ?_ | refine ze ?_); try simp only [oweC, oweP, opF, opH, ev, evs, evp, evo, Env.get, Env.set, putE, gdst, S0, S1, thenN, inBlockN, argEnv, builtinR, retE, fin, callR, reduceIte, Nat.reduceEqDiff, Nat.reduceAdd, reduceCtorEq, forall_const, Q40])
    refine Runs.alloc Fx.zi101 (fun w1 he1 hz1 hb1 => ?_)
    generalize hB7 : w.heap.size = B7 at hz1 hb1
    repeat ((try first | (refine z3 hX ?_; clear hX X) | (refine z2 hX ?_; clear hX X)); (first | refine zL fun X hX => ?_ | refine zH fun X hX => ?_ | refine zE fun X hX => ?_ | refine zl ?_ | refine zh ?_ | refine ze ?_); try simp only [oweC, oweP, opF, opH, ev, evs, evp, evo, Env.get, Env.set, putE, gdst, S0, S1, thenN, inBlockN, argEnv, builtinR, retE, fin, callR, reduceIte, Nat.reduceEqDiff, Nat.reduceAdd, reduceCtorEq, forall_const, Q40])
    refine Runs.store hb1 Fx.zi101 (by simp [Value.cells, Nd.row_len h5]) (by simpa [Value.cells] using row_one rfl rfl rfl) (by simp [Value.cells]) (fun w2 hc2 hs2 hb2 => ?_)
    rw [splice_all _ _ (by simp [Value.cells, Nd.row_len h5])] at hb2
    simp only [Value.cells] at hb2
    have he2 : Ext w w2 := he1.chg_trans hc2 (fun k hk => by omega)
    have hs2' := he2.size
    have hout2 := hout.keepE he2
    have hnm2 := hnm.ext he2
    have hlB7 := hb2.lt
    repeat ((try first | (refine z3 hX ?_; clear hX X) | (refine z2 hX ?_; clear hX X)); (first | refine zL fun X hX => ?_ | refine zH fun X hX => ?_ | refine zE fun X hX => ?_ | refine zl ?_ | refine zh ?_ | refine ze ?_); try simp only [oweC, oweP, opF, opH, ev, evs, evp, evo, Env.get, Env.set, putE, gdst, S0, S1, thenN, inBlockN, argEnv, builtinR, retE, fin, callR, reduceIte, Nat.reduceEqDiff, Nat.reduceAdd, reduceCtorEq, forall_const, Q40])
    refine hM _ _ _ ?_; clear hM M
    rw [hvneq]
    refine ok_seq (fun M hM => ok_region rfl ?_)
    repeat ((try first | (refine z3 hX ?_; clear hX X) | (refine z2 hX ?_; clear hX X)); (first | refine zL fun X hX => ?_ | refine zH fun X hX => ?_ | refine zE fun X hX => ?_ | refine zl ?_ | refine zh ?_ | refine ze ?_); try simp only [oweC, oweP, opF, opH, ev, evs, evp, evo, Env.get, Env.set, putE, gdst, S0, S1, thenN, inBlockN, argEnv, builtinR, retE, fin, callR, reduceIte, Nat.reduceEqDiff, Nat.reduceAdd, reduceCtorEq, forall_const, Q40])
    refine hM _ _ _ ?_; clear hM M
    refine ok_seq (fun M hM => ok_region rfl ?_)
    repeat ((try first | (refine z3 hX ?_; clear hX X) | (refine z2 hX ?_; clear hX X)); (first | refine zL fun X hX => ?_ | refine zH fun X hX => ?_ | refine zE fun X hX => ?_ | refine zl ?_ | refine zh ?_ | refine ze ?_); try simp only [oweC, oweP, opF, opH, ev, evs, evp, evo, Env.get, Env.set, putE, gdst, S0, S1, thenN, inBlockN, argEnv, builtinR, retE, fin, callR, reduceIte, Nat.reduceEqDiff, Nat.reduceAdd, reduceCtorEq, forall_const, Q40])
    refine ⟨_, hb2.cell (row_proc _ _ _), ?_⟩
    repeat ((try first | (refine z3 hX ?_; clear hX X) | (refine z2 hX ?_; clear hX X)); (first | refine zL fun X hX => ?_ | refine zH fun X hX => ?_ | refine zE fun X hX => ?_ | refine zl ?_ | refine zh ?_ | refine ze ?_); try simp only [oweC, oweP, opF, opH, ev, evs, evp, evo, Env.get, Env.set, putE, gdst, S0, S1, thenN, inBlockN, argEnv, builtinR, retE, fin, callR, reduceIte, Nat.reduceEqDiff, Nat.reduceAdd, reduceCtorEq, forall_const, Q40])
    refine ⟨_, hb2.cell (row_args h5 _ _ _), ?_⟩
    repeat ((try first | (refine z3 hX ?_; clear hX X) | (refine z2 hX ?_; clear hX X)); (first | refine zL fun X hX => ?_ | refine zH fun X hX => ?_ | refine zE fun X hX => ?_ | refine zl ?_ | refine zh ?_ | refine ze ?_); try simp only [oweC, oweP, opF, opH, ev, evs, evp, evo, Env.get, Env.set, putE, gdst, S0, S1, thenN, inBlockN, argEnv, builtinR, retE, fin, callR, reduceIte, Nat.reduceEqDiff, Nat.reduceAdd, reduceCtorEq, forall_const, Q40])
    refine ⟨_, hb2.cell (row_last h5 _ _ _), ?_⟩
    repeat ((try first | (refine z3 hX ?_; clear hX X) | (refine z2 hX ?_; clear hX X)); (first | refine zL fun X hX => ?_ | refine zH fun X hX => ?_ | refine zE fun X hX => ?_ | refine zl ?_ | refine zh ?_ | refine ze ?_); try simp only [oweC, oweP, opF, opH, ev, evs, evp, evo, Env.get, Env.set, putE, gdst, S0, S1, thenN, inBlockN, argEnv, builtinR, retE, fin, callR, reduceIte, Nat.reduceEqDiff, Nat.reduceAdd, reduceCtorEq, forall_const, Q40])
    refine ⟨_, w2, run_build (P := Try.prog) w2 61 _ #[.int .i64 ((i0 : Int) + 1), .int .i64 d.proc, .slice Aa d.args.length ca, .slice Al d.last.length cl, .slice none 0 0] (by kernel_rfl), ?_⟩
    obtain ⟨dn0, hdn0⟩ : ∃ dn : DN, dn = ⟨(i0 : Int) + 1, d.proc, d.args, d.last, []⟩ := ⟨_, rfl⟩
    have hrow0 : [Value.int .i64 ((i0 : Int) + 1), .int .i64 d.proc, .slice Aa d.args.length ca, .slice Al d.last.length cl, .slice none 0 0] = dn0.row (.slice Aa d.args.length ca) (.slice Al d.last.length cl) (.slice none 0 0) := by rw [hdn0]; rfl
    repeat ((try first | (refine z3 hX ?_; clear hX X) | (refine z2 hX ?_; clear hX X)); (first | refine zL fun X hX => ?_ | refine zH fun X hX => ?_ | refine zE fun X hX => ?_ | refine zl ?_ | refine zh ?_ | refine ze ?_); try simp only [oweC, oweP, opF, opH, ev, evs, evp, evo, Env.get, Env.set, putE, gdst, S0, S1, thenN, inBlockN, argEnv, builtinR, retE, fin, callR, reduceIte, Nat.reduceEqDiff, Nat.reduceAdd, reduceCtorEq, forall_const, Q40])
    refine Runs.lit (cs := [.int .i64 ((i0 : Int) + 1), .int .i64 d.proc, .slice Aa d.args.length ca, .slice Al d.last.length cl, .slice none 0 0]) Fx.un31 Fx.zi61 (by decide) (by kernel_rfl) (by decide) (fun w6 he6 hs6 hb6 => ?_)
    have hs6' := he6.size
    have hout6 := hout2.keepE he6
    have hone : ∀ u ∈ [Value.int .i64 ((i0 : Int) + 1), .int .i64 d.proc, .slice Aa d.args.length ca, .slice Al d.last.length cl, .slice none 0 0], u.oneCell' = true := by
      intro u hu
      simp only [List.mem_cons, List.not_mem_nil, or_false] at hu
      rcases hu with rfl | rfl | rfl | rfl | rfl <;> rfl
    repeat ((try first | (refine z3 hX ?_; clear hX X) | (refine z2 hX ?_; clear hX X)); (first | refine zL fun X hX => ?_ | refine zH fun X hX => ?_ | refine zE fun X hX => ?_ | refine zl ?_ | refine zh ?_ | refine ze ?_); try simp only [oweC, oweP, opF, opH, ev, evs, evp, evo, Env.get, Env.set, putE, gdst, S0, S1, thenN, inBlockN, argEnv, builtinR, retE, fin, callR, reduceIte, Nat.reduceEqDiff, Nat.reduceAdd, reduceCtorEq, forall_const, Q40])
    rw [← hvneq]
    refine Runs.append1' Fx.un31 Fx.zi61 rfl (by decide) hout6.own hb6 rfl hone (by simp [maxLen]; omega) (by omega) (by omega) (fun vn2 w7 hown7 hg7 hblk7 => ?_)
    have hc7 : Chg (fun k => vn.ownBlock = some k) w6 w7 := grown_chg hg7
    have hs7 := hc7.size
    rw [hrow0] at hown7
    have hSD : ∀ k, Sc k → SD w6 (fun _ => True) vn dvks k := fun k hk => ⟨by have := hSc k hk; omega, trivial, fun hh => by have := hbF k hh; have := hSc k hk; omega⟩
    obtain ⟨hdm7, hnf7⟩ := hout6.grow (hout6.flt) hc7 hown7 hblk7 (by rw [hdn0]) (va := .slice Aa d.args.length ca) (vl := .slice Al d.last.length cl)
      (by rw [hdn0]; exact hva.chg ((he2.trans he6).chg (fun _ => False)) (fun k hk => ⟨hSD k hk, id⟩))
      (by rw [hdn0]; exact hvl.chg ((he2.trans he6).chg (fun _ => False)) (fun k hk => ⟨hSD k hk, id⟩))
    repeat ((try first | (refine z3 hX ?_; clear hX X) | (refine z2 hX ?_; clear hX X)); (first | refine zL fun X hX => ?_ | refine zH fun X hX => ?_ | refine zE fun X hX => ?_ | refine zl ?_ | refine zh ?_ | refine ze ?_); try simp only [oweC, oweP, opF, opH, ev, evs, evp, evo, Env.get, Env.set, putE, gdst, S0, S1, thenN, inBlockN, argEnv, builtinR, retE, fin, callR, reduceIte, Nat.reduceEqDiff, Nat.reduceAdd, reduceCtorEq, forall_const, Q40])
    refine hM _ _ _ ?_; clear hM M
    have hc27 : Chg (NFoot vn dvks) w2 w7 := (he6.chg _).trans (hc7.mono fun k _ h => .inl h)
    refine ok_seq (fun M0 hM0 => ?_)
    refine ok_seq (fun M hM => ok_region rfl ?_); repeat ((try first | (refine z3 hX ?_; clear hX X) | (refine z2 hX ?_; clear hX X)); (first | refine zL fun X hX => ?_ | refine zH fun X hX => ?_ | refine zE fun X hX => ?_ | refine zl ?_ | refine zh ?_ | refine ze ?_); try simp only [oweC, oweP, opF, opH, ev, evs, evp, evo, Env.get, Env.set, putE, gdst, S0, S1, thenN, inBlockN, argEnv, builtinR, retE, fin, callR, reduceIte, Nat.reduceEqDiff, Nat.reduceAdd, reduceCtorEq, forall_const, Q40])
    refine hM _ _ _ ?_; clear hM M
    refine ok_block ?_
    have hB7n : ∀ k, NFoot vn dvks k → k ≠ B7 := fun k hk => by have := hfl k hk; omega
    refine ok_loop (S := Nat × Value) (fun s => [(0, .slice (some ⟨g, 0, none⟩) nds.length cap), (2, s.2), (7, .pointer (some ⟨B7, 0, none⟩)), (8, .int .i64 (dns.length : Int)), (9, .int .i64 (s.1 : Int))])
      (fun s w' => s.1 ≤ d.kids.length ∧ (∃ dvks' drows', OutR w' (dns ++ (⟨(i0 : Int) + 1, d.proc, d.args, d.last, (kidsF (growF nds f) nds (d.kids.take s.1) (dns.length + 1)).2⟩ :: (kidsF (growF nds f) nds (d.kids.take s.1) (dns.length + 1)).1)) s.2 dvks' drows' ∧ ∀ k, NFoot s.2 dvks' k → NFoot vn dvks k ∨ w2.heap.size ≤ k) ∧ Chg (NFoot vn dvks) w2 w') (fun s => d.kids.length - s.1) (0, vn2) ?_ ?_ ?_
    · simp [sub, Env.get, argEnv]
    · refine ⟨Nat.zero_le _, ⟨_, _, by simp only [List.take_zero, kidsF]; rw [← hdn0]; exact hdm7, fun k hk => ?_⟩, hc27⟩
      rcases hnf7 k hk with h1 | h1
      · exact .inl h1
      · exact .inr (by omega)
    rintro ⟨i, vn9⟩ w9 ⟨hi, ⟨dvks9, drows9, hout9, hnf9⟩, hc9⟩
    simp only at hi hout9 hnf9 ⊢
    have hs9 := hc9.size
    have hb9 := hb2.chg hc9 (fun hh => hB7n B7 hh rfl)
    have hnm9 := hnm2.chg hc9 (fun k hk hh => by have := hFc k hk; have := hbF k hh; omega) (fun k hk hh => by have := hSc k hk; have := hbF k hh; omega)
    refine ok_seq (fun M1 hM1 => ?_)
    refine ok_seq (fun M hM => ok_region rfl ?_)
    repeat ((try first | (refine z3 hX ?_; clear hX X) | (refine z2 hX ?_; clear hX X)); (first | refine zL fun X hX => ?_ | refine zH fun X hX => ?_ | refine zE fun X hX => ?_ | refine zl ?_ | refine zh ?_ | refine ze ?_); try simp only [oweC, oweP, opF, opH, ev, evs, evp, evo, Env.get, Env.set, putE, gdst, S0, S1, thenN, inBlockN, argEnv, builtinR, retE, fin, callR, reduceIte, Nat.reduceEqDiff, Nat.reduceAdd, reduceCtorEq, forall_const, Q40])
    refine ⟨_, hb9.cell (row_kids h5 _ _ _), ?_⟩
    repeat ((try first | (refine z3 hX ?_; clear hX X) | (refine z2 hX ?_; clear hX X)); (first | refine zL fun X hX => ?_ | refine zH fun X hX => ?_ | refine zE fun X hX => ?_ | refine zl ?_ | refine zh ?_ | refine ze ?_); try simp only [oweC, oweP, opF, opH, ev, evs, evp, evo, Env.get, Env.set, putE, gdst, S0, S1, thenN, inBlockN, argEnv, builtinR, retE, fin, callR, reduceIte, Nat.reduceEqDiff, Nat.reduceAdd, reduceCtorEq, forall_const, Q40])
    refine hM _ _ _ ?_; clear hM M
    refine ok_if rfl (fun hc => ok_skip ?_) (fun hc => ok_exit ?_)
    rotate_left
    · try simp only [wpL, wpH, wpE, oweC, oweP, opF, opH, ev, evs, evp, evo, Env.get, Env.set, putE, gdst, S0, S1, thenN, inBlockN, argEnv, builtinR, retE, fin, callR, reduceIte, Nat.reduceEqDiff, Nat.reduceAdd, reduceCtorEq, forall_const, Q40]
      refine hM0 _ _ _ ?_; clear hM0 M0 hM1 M1
      have hia : i = d.kids.length := by omega
      subst hia
      rw [List.take_of_length_le (Nat.le_refl _), ← hgrow] at hout9
      refine ok_seq (fun M hM => ok_region rfl ?_); repeat ((try first | (refine z3 hX ?_; clear hX X) | (refine z2 hX ?_; clear hX X)); (first | refine zL fun X hX => ?_ | refine zH fun X hX => ?_ | refine zE fun X hX => ?_ | refine zl ?_ | refine zh ?_ | refine ze ?_); try simp only [oweC, oweP, opF, opH, ev, evs, evp, evo, Env.get, Env.set, putE, gdst, S0, S1, thenN, inBlockN, argEnv, builtinR, retE, fin, callR, reduceIte, Nat.reduceEqDiff, Nat.reduceAdd, reduceCtorEq, forall_const, Q40])
      refine hM _ _ _ ?_; clear hM M
      refine ok_ret ?_
      try simp only [wpL, wpH, wpE, oweC, oweP, opF, opH, ev, evs, evp, evo, Env.get, Env.set, putE, gdst, S0, S1, thenN, inBlockN, argEnv, builtinR, retE, fin, callR, reduceIte, Nat.reduceEqDiff, Nat.reduceAdd, reduceCtorEq, forall_const, Q40]
      rw [← hvneq]
      exact ⟨⟨_, _, hout9, fun k hk => (hnf9 k hk).imp id (fun h => by omega)⟩, (he2.chg _).trans hc9⟩
    try simp only [wpL, wpH, wpE, oweC, oweP, opF, opH, ev, evs, evp, evo, Env.get, Env.set, putE, gdst, S0, S1, thenN, inBlockN, argEnv, builtinR, retE, fin, callR, reduceIte, Nat.reduceEqDiff, Nat.reduceAdd, reduceCtorEq, forall_const, Q40]
    refine hM1 _ _ _ ?_; clear hM1 M1
    have hil : i < d.kids.length := by omega
    have hki : d.kids[i]? = some d.kids[i] := List.getElem?_eq_getElem hil
    have htk : d.kids.take (i + 1) = d.kids.take i ++ [d.kids[i]] := List.take_succ_eq_append_getElem hil
    generalize d.kids[i] = kid at hki htk
    have hkb := hkl.2 kid (List.mem_of_getElem? hki)
    obtain ⟨_, _, _, _, vk9, _, hvk9, -, -, -, -, hvkk9⟩ := hnm9.at_ (by omega) hd
    rw [hvk] at hvk9
    cases hvk9
    obtain ⟨gk, capk, curk, hvg, -, hcellk, -⟩ := own_int hvkk9 hki (by omega)
    cases hvg
    obtain ⟨j0, rfl⟩ : ∃ j : Nat, kid = (j : Int) + 1 := ⟨(kid - 1).toNat, by omega⟩
    have hj0 : j0 < nds.length := by omega
    have hdk : nds[j0]? = some nds[j0] := List.getElem?_eq_getElem hj0
    generalize nds[j0] = dk at hdk
    obtain ⟨g9', cap9', vak, vlk, vkk, hvc9', -, h5k, hcellj, -⟩ := hnm9.at_ (by omega) hdk
    rw [hvc] at hvc9'
    cases hvc9'
    have hstk : stateN nds ((j0 : Int) + 1) = dk.state := by
      unfold stateN
      rw [if_pos (by omega), show ((j0 : Int) + 1 - 1).toNat = j0 by omega, hdk]
    have hks := kidsF_snoc (growF nds f) nds ((j0 : Int) + 1) (d.kids.take i) (dns.length + 1)
    have hlen9 := kidsF_len (growF nds f) nds (sizeF nds f) (growF_len nds f) (d.kids.take i) (dns.length + 1)
    have hsk1 := sumK_take (fun k => if stateN nds k = 2 then sizeF nds f k else 0) d.kids (i + 1)
    rw [htk, sumK_app] at hsk1
    simp only [sumK] at hsk1
    refine ok_seq (fun M1 hM1 => ok_block ?_)
    have nxt : ∀ (K : Env) (w' : World) (vn' : Value), (sub [(0, .slice (some ⟨g, 0, none⟩) nds.length cap), (2, vn'), (7, .pointer (some ⟨B7, 0, none⟩)), (8, .int .i64 (dns.length : Int)), (9, .int .i64 (i : Int))] K) →
        (∃ dvks' drows', OutR w' (dns ++ (⟨(i0 : Int) + 1, d.proc, d.args, d.last, (kidsF (growF nds f) nds (d.kids.take (i + 1)) (dns.length + 1)).2⟩ :: (kidsF (growF nds f) nds (d.kids.take (i + 1)) (dns.length + 1)).1)) vn' dvks' drows' ∧ ∀ k, NFoot vn' dvks' k → NFoot vn dvks k ∨ w2.heap.size ≤ k) → Chg (NFoot vn dvks) w2 w' → M1 K [] w' := by
      intro K w' vn' hsub h1 h2
      refine hM1 _ _ _ ?_; clear hM1 M1
      refine ok_less _ hsub ?_
      refine ok_region rfl ?_
      repeat ((try first | (refine z3 hX ?_; clear hX X) | (refine z2 hX ?_; clear hX X)); (first | refine zL fun X hX => ?_ | refine zH fun X hX => ?_ | refine zE fun X hX => ?_ | refine zl ?_ | refine zh ?_ | refine ze ?_); try simp only [oweC, oweP, opF, opH, ev, evs, evp, evo, Env.get, Env.set, putE, gdst, S0, S1, thenN, inBlockN, argEnv, builtinR, retE, fin, callR, reduceIte, Nat.reduceEqDiff, Nat.reduceAdd, reduceCtorEq, forall_const, Q40])
      refine ⟨by simp only [inI]; omega, ?_⟩
      repeat ((try first | (refine z3 hX ?_; clear hX X) | (refine z2 hX ?_; clear hX X)); (first | refine zL fun X hX => ?_ | refine zH fun X hX => ?_ | refine zE fun X hX => ?_ | refine zl ?_ | refine zh ?_ | refine ze ?_); try simp only [oweC, oweP, opF, opH, ev, evs, evp, evo, Env.get, Env.set, putE, gdst, S0, S1, thenN, inBlockN, argEnv, builtinR, retE, fin, callR, reduceIte, Nat.reduceEqDiff, Nat.reduceAdd, reduceCtorEq, forall_const, Q40])
      exact ⟨(i + 1, vn'), by simp [sub, Env.get], ⟨by omega, h1, h2⟩, by omega⟩
    refine ok_seq (fun M2 hM2 => ?_)
    refine ok_seq (fun M hM => ok_region rfl ?_)
    repeat ((try first | (refine z3 hX ?_; clear hX X) | (refine z2 hX ?_; clear hX X)); (first | refine zL fun X hX => ?_ | refine zH fun X hX => ?_ | refine zE fun X hX => ?_ | refine zl ?_ | refine zh ?_ | refine ze ?_); try simp only [oweC, oweP, opF, opH, ev, evs, evp, evo, Env.get, Env.set, putE, gdst, S0, S1, thenN, inBlockN, argEnv, builtinR, retE, fin, callR, reduceIte, Nat.reduceEqDiff, Nat.reduceAdd, reduceCtorEq, forall_const, Q40])
    refine ⟨_, hb9.cell (row_kids h5 _ _ _), ?_⟩
    repeat ((try first | (refine z3 hX ?_; clear hX X) | (refine z2 hX ?_; clear hX X)); (first | refine zL fun X hX => ?_ | refine zH fun X hX => ?_ | refine zE fun X hX => ?_ | refine zl ?_ | refine zh ?_ | refine ze ?_); try simp only [oweC, oweP, opF, opH, ev, evs, evp, evo, Env.get, Env.set, putE, gdst, S0, S1, thenN, inBlockN, argEnv, builtinR, retE, fin, callR, reduceIte, Nat.reduceEqDiff, Nat.reduceAdd, reduceCtorEq, forall_const, Q40])
    refine ⟨by omega, by omega, ?_⟩
    repeat ((try first | (refine z3 hX ?_; clear hX X) | (refine z2 hX ?_; clear hX X)); (first | refine zL fun X hX => ?_ | refine zH fun X hX => ?_ | refine zE fun X hX => ?_ | refine zl ?_ | refine zh ?_ | refine ze ?_); try simp only [oweC, oweP, opF, opH, ev, evs, evp, evo, Env.get, Env.set, putE, gdst, S0, S1, thenN, inBlockN, argEnv, builtinR, retE, fin, callR, reduceIte, Nat.reduceEqDiff, Nat.reduceAdd, reduceCtorEq, forall_const, Q40])
    refine ⟨.int .i64 ((j0 : Int) + 1), by simpa using hcellk, ?_⟩
    repeat ((try first | (refine z3 hX ?_; clear hX X) | (refine z2 hX ?_; clear hX X)); (first | refine zL fun X hX => ?_ | refine zH fun X hX => ?_ | refine zE fun X hX => ?_ | refine zl ?_ | refine zh ?_ | refine ze ?_); try simp only [oweC, oweP, opF, opH, ev, evs, evp, evo, Env.get, Env.set, putE, gdst, S0, S1, thenN, inBlockN, argEnv, builtinR, retE, fin, callR, reduceIte, Nat.reduceEqDiff, Nat.reduceAdd, reduceCtorEq, forall_const, Q40])
    refine ⟨by simp only [inI]; omega, ?_⟩
    repeat ((try first | (refine z3 hX ?_; clear hX X) | (refine z2 hX ?_; clear hX X)); (first | refine zL fun X hX => ?_ | refine zH fun X hX => ?_ | refine zE fun X hX => ?_ | refine zl ?_ | refine zh ?_ | refine ze ?_); try simp only [oweC, oweP, opF, opH, ev, evs, evp, evo, Env.get, Env.set, putE, gdst, S0, S1, thenN, inBlockN, argEnv, builtinR, retE, fin, callR, reduceIte, Nat.reduceEqDiff, Nat.reduceAdd, reduceCtorEq, forall_const, Q40])
    refine ⟨by omega, by omega, ?_⟩
    rw [show ((j0 : Int) + 1 - 1).toNat = j0 by omega]
    repeat ((try first | (refine z3 hX ?_; clear hX X) | (refine z2 hX ?_; clear hX X)); (first | refine zL fun X hX => ?_ | refine zH fun X hX => ?_ | refine zE fun X hX => ?_ | refine zl ?_ | refine zh ?_ | refine ze ?_); try simp only [oweC, oweP, opF, opH, ev, evs, evp, evo, Env.get, Env.set, putE, gdst, S0, S1, thenN, inBlockN, argEnv, builtinR, retE, fin, callR, reduceIte, Nat.reduceEqDiff, Nat.reduceAdd, reduceCtorEq, forall_const, Q40])
    refine ⟨.int .i64 dk.state, by simpa [Nat.add_assoc] using hcellj 11 _ (row_state h5k vak vlk vkk), ?_⟩
    repeat ((try first | (refine z3 hX ?_; clear hX X) | (refine z2 hX ?_; clear hX X)); (first | refine zL fun X hX => ?_ | refine zH fun X hX => ?_ | refine zE fun X hX => ?_ | refine zl ?_ | refine zh ?_ | refine ze ?_); try simp only [oweC, oweP, opF, opH, ev, evs, evp, evo, Env.get, Env.set, putE, gdst, S0, S1, thenN, inBlockN, argEnv, builtinR, retE, fin, callR, reduceIte, Nat.reduceEqDiff, Nat.reduceAdd, reduceCtorEq, forall_const, Q40])
    refine hM _ _ _ ?_; clear hM M
    refine ok_ifn rfl (fun hc2 => ok_exit ?_) (fun hc2 => ok_skip ?_)
    · try simp only [wpL, wpH, wpE, oweC, oweP, opF, opH, ev, evs, evp, evo, Env.get, Env.set, putE, gdst, S0, S1, thenN, inBlockN, argEnv, builtinR, retE, fin, callR, reduceIte, Nat.reduceEqDiff, Nat.reduceAdd, reduceCtorEq, forall_const, Q40]
      refine nxt _ _ vn9 (by simp [sub, Env.get]) ?_ hc9
      rw [htk, hks, if_neg (by rw [hstk]; exact hc2)]
      exact ⟨_, _, hout9, hnf9⟩
    try simp only [wpL, wpH, wpE, oweC, oweP, opF, opH, ev, evs, evp, evo, Env.get, Env.set, putE, gdst, S0, S1, thenN, inBlockN, argEnv, builtinR, retE, fin, callR, reduceIte, Nat.reduceEqDiff, Nat.reduceAdd, reduceCtorEq, forall_const, Q40]
    refine hM2 _ _ _ ?_; clear hM2 M2
    have hst2 : stateN nds ((j0 : Int) + 1) = 2 := by rw [hstk]; exact hc2
    rw [if_pos hst2] at hks hsk1
    generalize hKF : kidsF (growF nds f) nds (d.kids.take i) (dns.length + 1) = KF at *
    obtain ⟨bl, js⟩ := KF
    simp only at hout9 hks hlen9
    have hdl : (dns ++ ((⟨(i0 : Int) + 1, d.proc, d.args, d.last, js⟩ : DN) :: bl)).length = dns.length + 1 + bl.length := by simp; omega
    have hdA : (dns ++ ((⟨(i0 : Int) + 1, d.proc, d.args, d.last, js⟩ : DN) :: bl))[dns.length]? = some ⟨(i0 : Int) + 1, d.proc, d.args, d.last, js⟩ := by
      rw [List.getElem?_append_right (Nat.le_refl _), Nat.sub_self]; rfl
    obtain ⟨gA, capA, vaA, vlA, vkA, hvn9, hvkA, -, hcellA, -, -, hownA⟩ := hout9.at_ (by rw [hdl]; omega) hdA
    have hcA := hcellA 4 vkA rfl
    have hjl : js.length ≤ 400 := by
      have h1 : js.length ≤ (d.kids.take i).length := by
        have h2 : ∀ (g : Int → Nat → List DN) (ks : List Int) (b : Nat), (kidsF g nds ks b).2.length ≤ ks.length := by
          intro g ks
          induction ks with
          | nil => intro b; simp [kidsF]
          | cons k ks ih => intro b; simp only [kidsF]; split <;> simp <;> have := ih <;> first | exact this _ | (have := ih b; omega)
        have := h2 (growF nds f) (d.kids.take i) (dns.length + 1)
        rw [hKF] at this
        exact this
      rw [List.length_take] at h1
      omega
    have hvn9' : vn9 = .slice (some ⟨gA, 0, none⟩) (dns.length + 1 + bl.length) capA := by rw [hvn9, hdl]
    rw [hvn9']
    refine ok_seq (fun M hM => ok_region rfl ?_)
    repeat ((try first | (refine z3 hX ?_; clear hX X) | (refine z2 hX ?_; clear hX X)); (first | refine zL fun X hX => ?_ | refine zH fun X hX => ?_ | refine zE fun X hX => ?_ | refine zl ?_ | refine zh ?_ | refine ze ?_); try simp only [oweC, oweP, opF, opH, ev, evs, evp, evo, Env.get, Env.set, putE, gdst, S0, S1, thenN, inBlockN, argEnv, builtinR, retE, fin, callR, reduceIte, Nat.reduceEqDiff, Nat.reduceAdd, reduceCtorEq, forall_const, Q40])
    refine ⟨by omega, by omega, ?_⟩
    repeat ((try first | (refine z3 hX ?_; clear hX X) | (refine z2 hX ?_; clear hX X)); (first | refine zL fun X hX => ?_ | refine zH fun X hX => ?_ | refine zE fun X hX => ?_ | refine zl ?_ | refine zh ?_ | refine ze ?_); try simp only [oweC, oweP, opF, opH, ev, evs, evp, evo, Env.get, Env.set, putE, gdst, S0, S1, thenN, inBlockN, argEnv, builtinR, retE, fin, callR, reduceIte, Nat.reduceEqDiff, Nat.reduceAdd, reduceCtorEq, forall_const, Q40])
    refine ⟨vkA, by simpa [Nat.add_assoc] using hcA, ?_⟩
    repeat ((try first | (refine z3 hX ?_; clear hX X) | (refine z2 hX ?_; clear hX X)); (first | refine zL fun X hX => ?_ | refine zH fun X hX => ?_ | refine zE fun X hX => ?_ | refine zl ?_ | refine zh ?_ | refine ze ?_); try simp only [oweC, oweP, opF, opH, ev, evs, evp, evo, Env.get, Env.set, putE, gdst, S0, S1, thenN, inBlockN, argEnv, builtinR, retE, fin, callR, reduceIte, Nat.reduceEqDiff, Nat.reduceAdd, reduceCtorEq, forall_const, Q40])
    refine Runs.lit (cs := [.int .i64 ((dns.length + 1 + bl.length : Nat) : Int)]) Fx.un26 Fx.zi3 (by decide) (by kernel_rfl) (by decide) (fun w12 he12 hs12 hb12 => ?_)
    have hout12 := hout9.keepE he12
    have hs12' := he12.size
    obtain ⟨_, _, _, _, vkA', _, hvkA', -, -, -, -, hownA'⟩ := hout12.at_ (by rw [hdl]; omega) hdA
    rw [hvkA] at hvkA'
    cases hvkA'
    repeat ((try first | (refine z3 hX ?_; clear hX X) | (refine z2 hX ?_; clear hX X)); (first | refine zL fun X hX => ?_ | refine zH fun X hX => ?_ | refine zE fun X hX => ?_ | refine zl ?_ | refine zh ?_ | refine ze ?_); try simp only [oweC, oweP, opF, opH, ev, evs, evp, evo, Env.get, Env.set, putE, gdst, S0, S1, thenN, inBlockN, argEnv, builtinR, retE, fin, callR, reduceIte, Nat.reduceEqDiff, Nat.reduceAdd, reduceCtorEq, forall_const, Q40])
    refine Runs.append1' Fx.un26 Fx.zi3 rfl (by decide) hownA' hb12 rfl (by intro u hu; simp at hu; subst hu; rfl) (by simp [maxLen]; omega) (by simp only; omega) (by omega) (fun vk' w13 hown13 hg13 hblk13 => ?_)
    have hc13 : Chg (fun k => vkA.ownBlock = some k) w12 w13 := grown_chg hg13
    obtain ⟨gP, capP, curP, hvP, hbP, hleP, hputP⟩ := hout12.kidG (c := ((dns.length + 1 + bl.length : Nat) : Int)) hout12.flt hdA hvkA hc13 hown13 hblk13
    rw [hvn9] at hvP
    cases hvP
    obtain ⟨hk'o, hk'c, -⟩ := owns_one hown13
    repeat ((try first | (refine z3 hX ?_; clear hX X) | (refine z2 hX ?_; clear hX X)); (first | refine zL fun X hX => ?_ | refine zH fun X hX => ?_ | refine zE fun X hX => ?_ | refine zl ?_ | refine zh ?_ | refine ze ?_); try simp only [oweC, oweP, opF, opH, ev, evs, evp, evo, Env.get, Env.set, putE, gdst, S0, S1, thenN, inBlockN, argEnv, builtinR, retE, fin, callR, reduceIte, Nat.reduceEqDiff, Nat.reduceAdd, reduceCtorEq, forall_const, Q40])
    refine ⟨by omega, by omega, ?_⟩
    repeat ((try first | (refine z3 hX ?_; clear hX X) | (refine z2 hX ?_; clear hX X)); (first | refine zL fun X hX => ?_ | refine zH fun X hX => ?_ | refine zE fun X hX => ?_ | refine zl ?_ | refine zh ?_ | refine ze ?_); try simp only [oweC, oweP, opF, opH, ev, evs, evp, evo, Env.get, Env.set, putE, gdst, S0, S1, thenN, inBlockN, argEnv, builtinR, retE, fin, callR, reduceIte, Nat.reduceEqDiff, Nat.reduceAdd, reduceCtorEq, forall_const, Q40])
    simp only [Nat.zero_add]
    refine Runs.store hbP Fx.zi26 (by rw [hk'c]; rfl) (by rw [hk'c]; intro u hu; simp at hu; subst hu; exact hk'o) (by simpa [Nat.add_assoc] using hleP) (fun w14 hc14 hs14 hb14 => ?_)
    obtain ⟨drows14, hdm14, hnf14, hc1214⟩ := hputP w14 hc14 (by rw [hk'c] at hb14; simpa [Nat.add_assoc] using hb14)
    have hs13 := hc13.size
    have hs1214 := hc1214.size
    have hset : (dns ++ ((⟨(i0 : Int) + 1, d.proc, d.args, d.last, js⟩ : DN) :: bl)).set dns.length ⟨(i0 : Int) + 1, d.proc, d.args, d.last, js ++ [((dns.length + 1 + bl.length : Nat) : Int)]⟩ = dns ++ ((⟨(i0 : Int) + 1, d.proc, d.args, d.last, js ++ [((dns.length + 1 + bl.length : Nat) : Int)]⟩ : DN) :: bl) := by
      rw [List.set_append_right _ _ (Nat.le_refl _), Nat.sub_self]; rfl
    rw [hset] at hdm14
    have hNT : ∀ k, NFoot vn9 dvks9 k → NFoot vn dvks k ∨ w2.heap.size ≤ k := hnf9
    have hc914 : Chg (NFoot vn9 dvks9) w9 w14 := (he12.chg _).trans hc1214
    have hc214 : Chg (NFoot vn dvks) w2 w14 := hc9.thn hc914 hNT
    have hnf214 : ∀ k, NFoot vn9 (dvks9.set dns.length vk') k → NFoot vn dvks k ∨ w2.heap.size ≤ k := fun k hk => by
      rcases hnf14 k hk with h1 | h1
      · exact hnf9 k h1
      · exact .inr (by omega)
    have hb14' := hb2.chg hc214 (fun hh => hB7n B7 hh rfl)
    have hnm14 := hnm2.chg hc214 (fun k hk hh => by have := hFc k hk; have := hbF k hh; omega) (fun k hk hh => by have := hSc k hk; have := hbF k hh; omega)
    obtain ⟨_, _, _, _, vk14, _, hvk14, -, -, -, -, hvkk14⟩ := hnm14.at_ (by omega) hd
    rw [hvk] at hvk14
    cases hvk14
    obtain ⟨gk', capk', curk', hvg', -, hcellk', -⟩ := own_int hvkk14 hki (by omega)
    cases hvg'
    repeat ((try first | (refine z3 hX ?_; clear hX X) | (refine z2 hX ?_; clear hX X)); (first | refine zL fun X hX => ?_ | refine zH fun X hX => ?_ | refine zE fun X hX => ?_ | refine zl ?_ | refine zh ?_ | refine ze ?_); try simp only [oweC, oweP, opF, opH, ev, evs, evp, evo, Env.get, Env.set, putE, gdst, S0, S1, thenN, inBlockN, argEnv, builtinR, retE, fin, callR, reduceIte, Nat.reduceEqDiff, Nat.reduceAdd, reduceCtorEq, forall_const, Q40])
    refine hM _ _ _ ?_; clear hM M
    rw [← hvn9']
    refine ok_region rfl ?_
    repeat ((try first | (refine z3 hX ?_; clear hX X) | (refine z2 hX ?_; clear hX X)); (first | refine zL fun X hX => ?_ | refine zH fun X hX => ?_ | refine zE fun X hX => ?_ | refine zl ?_ | refine zh ?_ | refine ze ?_); try simp only [oweC, oweP, opF, opH, ev, evs, evp, evo, Env.get, Env.set, putE, gdst, S0, S1, thenN, inBlockN, argEnv, builtinR, retE, fin, callR, reduceIte, Nat.reduceEqDiff, Nat.reduceAdd, reduceCtorEq, forall_const, Q40])
    refine ⟨_, hb14'.cell (row_kids h5 _ _ _), ?_⟩
    repeat ((try first | (refine z3 hX ?_; clear hX X) | (refine z2 hX ?_; clear hX X)); (first | refine zL fun X hX => ?_ | refine zH fun X hX => ?_ | refine zE fun X hX => ?_ | refine zl ?_ | refine zh ?_ | refine ze ?_); try simp only [oweC, oweP, opF, opH, ev, evs, evp, evo, Env.get, Env.set, putE, gdst, S0, S1, thenN, inBlockN, argEnv, builtinR, retE, fin, callR, reduceIte, Nat.reduceEqDiff, Nat.reduceAdd, reduceCtorEq, forall_const, Q40])
    refine ⟨by omega, by omega, ?_⟩
    repeat ((try first | (refine z3 hX ?_; clear hX X) | (refine z2 hX ?_; clear hX X)); (first | refine zL fun X hX => ?_ | refine zH fun X hX => ?_ | refine zE fun X hX => ?_ | refine zl ?_ | refine zh ?_ | refine ze ?_); try simp only [oweC, oweP, opF, opH, ev, evs, evp, evo, Env.get, Env.set, putE, gdst, S0, S1, thenN, inBlockN, argEnv, builtinR, retE, fin, callR, reduceIte, Nat.reduceEqDiff, Nat.reduceAdd, reduceCtorEq, forall_const, Q40])
    refine ⟨.int .i64 ((j0 : Int) + 1), by simpa using hcellk', ?_⟩
    repeat ((try first | (refine z3 hX ?_; clear hX X) | (refine z2 hX ?_; clear hX X)); (first | refine zL fun X hX => ?_ | refine zH fun X hX => ?_ | refine zE fun X hX => ?_ | refine zl ?_ | refine zh ?_ | refine ze ?_); try simp only [oweC, oweP, opF, opH, ev, evs, evp, evo, Env.get, Env.set, putE, gdst, S0, S1, thenN, inBlockN, argEnv, builtinR, retE, fin, callR, reduceIte, Nat.reduceEqDiff, Nat.reduceAdd, reduceCtorEq, forall_const, Q40])
    have hdl' : (dns ++ ((⟨(i0 : Int) + 1, d.proc, d.args, d.last, js ++ [((dns.length + 1 + bl.length : Nat) : Int)]⟩ : DN) :: bl)).length = dns.length + 1 + bl.length := by simp; omega
    rw [← hvc]
    refine Inv.call Fx.en40 (ih ((j0 : Int) + 1) w14 vn9 _ drows14 _ (by omega) (by omega) (by omega) (by omega) hnm14 hdm14 (by omega) (fun k hk => by rcases hnf214 k hk with h1 | h1; exact hbF k h1; omega)) ?_
    rintro r w15 ⟨⟨dvks15, drows15, hout15, hnf15⟩, hc15⟩
    rw [hdl', List.append_assoc, List.cons_append] at hout15
    repeat ((try first | (refine z3 hX ?_; clear hX X) | (refine z2 hX ?_; clear hX X)); (first | refine zL fun X hX => ?_ | refine zH fun X hX => ?_ | refine zE fun X hX => ?_ | refine zl ?_ | refine zh ?_ | refine ze ?_); try simp only [oweC, oweP, opF, opH, ev, evs, evp, evo, Env.get, Env.set, putE, gdst, S0, S1, thenN, inBlockN, argEnv, builtinR, retE, fin, callR, reduceIte, Nat.reduceEqDiff, Nat.reduceAdd, reduceCtorEq, forall_const, Q40])
    refine nxt _ w15 r (by simp [sub, Env.get, hvc]) ?_ (hc214.thn hc15 hnf214)
    rw [htk, hks]
    refine ⟨_, _, hout15, fun k hk => ?_⟩
    rcases hnf15 k hk with h1 | h1
    · exact hnf214 k h1
    · exact .inr (by omega)
end Go.Proofs.Ytafjfcameabbmaa
