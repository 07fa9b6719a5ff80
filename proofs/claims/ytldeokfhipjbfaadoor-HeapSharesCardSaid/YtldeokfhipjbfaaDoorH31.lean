/- HeapShares: for any two values, whatever they are, the law returns true, and what came in reads as it did. No condition but the row's own: the two listed variables of the heap's package read as the program's text lays them. -/
import Derived.Test.YtldeokfhipjbfaaDoorH30
import Derived.Test.YtldeokfhipjbfaaDoorH24
set_option linter.unusedVariables false
set_option linter.unusedSimpArgs false
namespace Go.Proofs.YtldeokfhipjbfaaDoor
open Go Go.Proofs.Vg Go.RowKit Go.Deep Go.ChangeShapes Go.WideShapes Go.ChangeAt

/-- The door's own heap meets the condition. -/
theorem door_metS (os : Os) (args : Array Value) : laidMetH Tryd.prog laid2 ((World.doorLaid Tryd.prog 400 os).forCall (fun _ _ => 0) ⟨#[], args, []⟩).memory :=
  laidMetH_of_parts3 (fuel := 8) (laidMet_of_run' 8 (by kernel_rfl) (by kernel_rfl)) (by kernel_rfl) (by kernel_rfl)

set_option maxRecDepth 100000 in
theorem heapShares_lifted (os : Os) (started : os.Started) (H : Type) (enc : TypeId × Value → H) :
    ReturnsInHanded {} Tryd.checked os 4 .any (fun w args => (Rows.heapSharesSpec.pre enc Tryd.prog Tryd.f4 [] false w args ∧ laidMetH Tryd.prog laid2 w) ∧ sizedMet enc Tryd.prog Tryd.f4 (OpenSpec.ofChange Rows.heapSharesSpec) false w args)
      (Rows.heapSharesSpec.post enc Tryd.prog Tryd.f4 false true false false) := by
  refine returnsInHanded_of_change_and (C := Tryd.checked) (X := fun w _ => laidMetH Tryd.prog laid2 w) (fun _ _ _ hh h => h.of_heap hh) own36 started (by kernel_rfl) Tryd.func4
    (ChangeSpec.witness_shaped (enc := enc) (C := Tryd.checked) (os := os) (X := fun w _ => laidMetH Tryd.prog laid2 w) false (World.doorLaid Tryd.prog 400 os) #[.agg #[.int .i64 0, .int .i64 0, .string ⟨#[]⟩, .slice none 0 0], .agg #[.int .i64 0, .int .i64 0, .string ⟨#[]⟩, .slice none 0 0]] 8 rfl (World.shaped_of_RefB (by kernel_rfl) (by kernel_rfl)) (by kernel_rfl) (by kernel_rfl) (by kernel_rfl) (door_metS os _)) ?_
  intro W base args ds gs before hval0 hW _ hsz0 hL _
  have hval : ∀ (j : Nat) t v, Tryd.f4.params[j]? = some t → args[j]? = some v → Value.okWide Tryd.prog W .any base t v := hval0
  have hW' := hW
  obtain ⟨p, q, hA0, hV, rfl, hfz, hnd⟩ := hW
  have hA : DataW.TrodAll enc Tryd.prog W 0 (fun _ => true) true Tryd.f4.params.toList args.toList ds p := hA0
  have hsz : (DataW.weightsEach Tryd.prog (Tryd.f4.params.toList ++ []) (ds ++ gs)).all (· ≤ reachBytes) = true := hsz0
  rw [Tryd.params4] at hA hval hsz
  obtain ⟨v0, v1, d0, d1, p0, p1, rfl, rfl, rfl, h0, h1⟩ := trodAll_two hA
  obtain ⟨rfl, rfl⟩ := trodVars_none hV
  obtain ⟨mk, hG⟩ := of_laid hL
  clear hA0 hval0 hsz0
  simp only [List.append_nil] at hW'
  have h0' := h0
  have h1' := h1
  obtain ⟨n0, g0⟩ := h0
  obtain ⟨n1, g1⟩ := h1
  obtain ⟨cs, rfl, hcl⟩ := okWide_struct Tryd.underlying24 (hval 0 24 v0 rfl rfl)
  obtain ⟨cs1, rfl, hcl1⟩ := okWide_struct Tryd.underlying24 (hval 1 24 v1 rfl rfl)
  obtain ⟨x, hx⟩ := rd_vall _ _ cs.toList _ (Nat.le_refl _) g0 (small_of_all hsz (j := 0) rfl rfl) (by rw [ce24] at hcl; simpa using hcl)
  obtain ⟨y, hy⟩ := rd_vall _ _ cs1.toList _ (Nat.le_refl _) g1 (small_of_all hsz (j := 1) rfl rfl) (by rw [ce24] at hcl1; simpa using hcl1)
  have hlt := hW'.lt
  have hcall : Rets Tryd.prog 4 [.agg cs, .agg cs1] W (fun v w' => v = .bool true ∧ Ext W w') := by simpa using heapShares_ok W mk cs.toList cs1.toList x y hx hy hG
  refine Calls.mono hcall fun e W' he => ?_
  cases e <;> simp only [callR] at he
  obtain ⟨rfl, hxe⟩ := he
  exact ⟨_, rfl, post_ext rfl hW' hxe (fun _ _ _ => trodAll_mk1 (shut_bool (by kernel_rfl) _))
    (fun sp hsp => trodAll_mk2 (Trod_ext laid36 rr24 (by decide +kernel) h0' hxe (fun x hx => hlt x (List.mem_append_left _ hx)) (fun x hx => hsp x (List.mem_append_left _ hx)))
      (Trod_ext laid36 rr24 (by decide +kernel) h1' hxe (fun x hx => hlt x (List.mem_append_right _ hx)) (fun x hx => hsp x (List.mem_append_right _ hx)))) rfl⟩

theorem heapShares_holds0 : Rows.HeapSharesSaid :=
  OpenClaim.holds_of_wide 4 Tryd.f4 rfl rfl rfl rfl rfl rfl rfl ⟨rfl, rfl, rfl, rfl, rfl⟩ rfl rfl rfl rfl rfl (by kernel_rfl) Tryd.func4 (by kernel_rfl)
    (of_decide_eq_true (by kernel_rfl)) (by unfold Func.isWrapper; first | (rw [if_pos (by decide +kernel)]; kernel_rfl) | (rw [if_neg (by decide +kernel)]; exact ⟨rfl, rfl⟩))
    (fun os started H enc _ => heapShares_lifted os started H enc)
theorem heapShares_holds : Rows.HeapSharesCardSaid :=
  Claim7.holds_tied_plain_at .later [] [.mapped, .data] true (true, "beab9d7ea4f8e9cdac72c04170efe81e12fdbff7bc4db5d9d4c18c4af2877ea1") false
    heapShares_holds0 (fun _ h => by cases h) (by kernel_rfl) (fun _ h => by cases h) heapShares_row_tie rfl ⟨rfl, rfl⟩ (by kernel_rfl) rfl
    (fun f fn hf hfn => by
      obtain rfl : f = 4 := Option.some.inj ((show Tryd.prog.funcNamed "cinnabar/cinnabarlaw36.HeapShares" = some 4 by kernel_rfl).symm.trans hf) |>.symm
      obtain rfl : fn = Tryd.f4 := (Option.some.inj (Tryd.func4.symm.trans hfn)).symm
      exact ⟨by kernel_rfl, fun j t ht => by
        rw [Tryd.params4] at ht
        have hm : t ∈ [24] := by
          have := Array.mem_of_getElem? ht
          simp at this
          simp [this]
        have hall : ([24].all fun u => !Tryd.prog.wantsStandIn u) = true := by kernel_rfl
        exact (show Tryd.prog.wantsStandIn t = false by simpa using List.all_eq_true.1 hall t hm)⟩)
    (by kernel_rfl)
#print axioms heapShares_holds
end Go.Proofs.YtldeokfhipjbfaaDoor
