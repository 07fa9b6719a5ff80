/- DebugPlays: for every slice of nodes and every slice of answers, whatever they are, the law returns true, and what came in reads as it did. No condition but the row's own. -/
import Derived.Test.YtafjfcameabbmaaD17
import Derived.Test.YtafjfcameabbmaaE17
set_option linter.unusedVariables false
set_option linter.unusedSimpArgs false
namespace Go.Proofs.Ytafjfcameabbmaa
open Go Go.Proofs.Vg Go.RowKit Dbg Go.Deep Go.ChangeShapes Go.WideShapes Go.ChangeAt

set_option maxRecDepth 100000 in
theorem debugPlays_lifted (os : Os) (started : os.Started) (H : Type) (enc : TypeId × Value → H) :
    ReturnsInHanded {} Try.checked os 6 .any (Rows.debugPlaysSpec.pre6 enc Try.prog Try.f6 Rows.debugPlaysRow.domain false) (Rows.debugPlaysSpec.post enc Try.prog Try.f6 false true false false) := by
  refine returnsInHanded_of_change_sized (C := Try.checked) own41 started (by kernel_rfl) Try.func6
    (ChangeSpec.witness6 (enc := enc) (C := Try.checked) false ⟨#[], #[.slice none 0 0, .slice none 0 0], []⟩ 8 (by kernel_rfl) (by kernel_rfl) (by kernel_rfl) (by kernel_rfl)) ?_
  intro W base args ds gs before hval0 hW hcnd hsz0 _
  have hval : ∀ (j : Nat) t v, Try.f6.params[j]? = some t → args[j]? = some v → Value.okWide Try.prog W .any base t v := hval0
  have hW' := hW
  obtain ⟨p, q, hA0, hV, rfl, hfz, hnd⟩ := hW
  have hA : DataW.TrodAll enc Try.prog W 0 (fun _ => true) true Try.f6.params.toList args.toList ds p := hA0
  have hsz : (DataW.weightsEach Try.prog (Try.f6.params.toList ++ []) (ds ++ gs)).all (· ≤ reachBytes) = true := hsz0
  rw [Try.params6] at hA hsz hval
  obtain ⟨v0, v1, d0, d1, p0, p1, rfl, rfl, rfl, h0, h1⟩ := trodAll_two hA
  obtain ⟨rfl, rfl⟩ := trodVars_none hV
  clear hA0 hval0 hsz0
  simp only [List.append_nil] at hW'
  have h0' := h0
  have h1' := h1
  obtain ⟨n0, g0⟩ := h0
  obtain ⟨n1, g1⟩ := h1
  obtain ⟨u0, ks, e0, hks⟩ := rd_nodes g0 (small_of_all hsz (j := 0) rfl rfl)
  obtain ⟨u1, ws, e1, hws, _, _⟩ := rd_bools Fx.un23 Fx.un4 ce4 by4 g1 (small_of_all hsz (j := 1) rfl rfl)
  obtain ⟨a0, l0, c0, rfl⟩ := okWide_slice Fx.un22 (hval 0 22 v0 rfl rfl)
  obtain ⟨a1, l1, c1, rfl⟩ := okWide_slice Fx.un23 (hval 1 23 v1 rfl rfl)
  obtain rfl : Value.slice a0 l0 c0 = u0 := by simpa [Value.cells] using e0
  obtain rfl : Value.slice a1 l1 c1 = u1 := by simpa [Value.cells] using e1
  have hlt := hW'.lt
  refine Calls.mono (plays_ok W _ _ ks ws hks hws) fun e W' he => ?_
  cases e <;> simp only [callR] at he
  obtain ⟨rfl, hx⟩ := he
  exact ⟨_, rfl, post_ext rfl hW' hx (fun _ _ _ => trodAll_mk1 (shut_bool Fx.un4 _))
    (fun sp hsp => trodAll_mk2 (Trod_ext laid41 rr22 (by decide +kernel) h0' hx (fun x hx => hlt x (List.mem_append_left _ hx)) (fun x hx => hsp x (List.mem_append_left _ hx)))
      (Trod_ext laid41 rr23 (by decide +kernel) h1' hx (fun x hx => hlt x (List.mem_append_right _ hx)) (fun x hx => hsp x (List.mem_append_right _ hx)))) rfl⟩

theorem debugPlays_holds : Rows.DebugPlaysSaid :=
  OpenClaim.holds_of_wide 6 Try.f6 rfl rfl rfl rfl rfl rfl rfl ⟨rfl, rfl, rfl, rfl, rfl⟩ rfl rfl rfl rfl rfl (by kernel_rfl) Try.func6 (by kernel_rfl)
    (of_decide_eq_true (by kernel_rfl)) (by unfold Func.isWrapper; first | (rw [if_pos (by decide +kernel)]; kernel_rfl) | (rw [if_neg (by decide +kernel)]; exact ⟨rfl, rfl⟩))
    (fun os started H enc _ => debugPlays_lifted os started H enc)
#print axioms debugPlays_holds
end Go.Proofs.Ytafjfcameabbmaa
