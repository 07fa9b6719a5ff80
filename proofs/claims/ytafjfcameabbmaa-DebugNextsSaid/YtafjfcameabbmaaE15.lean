/- DebugNexts: for every slice of nodes and every two slices of numbers, whatever they are, the law returns true, and what came in reads as it did. No condition but the row's own. -/
import Derived.Test.YtafjfcameabbmaaD17
import Derived.Test.YtafjfcameabbmaaE14
set_option linter.unusedVariables false
set_option linter.unusedSimpArgs false
namespace Go.Proofs.Ytafjfcameabbmaa
open Go Go.Proofs.Vg Go.RowKit Dbg Go.Deep Go.ChangeShapes Go.WideShapes Go.ChangeAt

set_option maxRecDepth 100000 in
theorem debugNexts_lifted (os : Os) (started : os.Started) (H : Type) (enc : TypeId × Value → H) :
    ReturnsInHanded {} Try.checked os 5 .any (Rows.debugNextsSpec.pre6 enc Try.prog Try.f5 Rows.debugNextsRow.domain false) (Rows.debugNextsSpec.post enc Try.prog Try.f5 false true false false) := by
  refine returnsInHanded_of_change_sized (C := Try.checked) own41 started (by kernel_rfl) Try.func5
    (ChangeSpec.witness6 (enc := enc) (C := Try.checked) false ⟨#[], #[.slice none 0 0, .slice none 0 0, .slice none 0 0], []⟩ 8 (by kernel_rfl) (by kernel_rfl) (by kernel_rfl) (by kernel_rfl)) ?_
  intro W base args ds gs before hval0 hW hcnd hsz0 _
  have hval : ∀ (j : Nat) t v, Try.f5.params[j]? = some t → args[j]? = some v → Value.okWide Try.prog W .any base t v := hval0
  have hW' := hW
  obtain ⟨p, q, hA0, hV, rfl, hfz, hnd⟩ := hW
  have hA : DataW.TrodAll enc Try.prog W 0 (fun _ => true) true Try.f5.params.toList args.toList ds p := hA0
  have hsz : (DataW.weightsEach Try.prog (Try.f5.params.toList ++ []) (ds ++ gs)).all (· ≤ reachBytes) = true := hsz0
  rw [Try.params5] at hA hsz hval
  obtain ⟨v0, v1, v2, d0, d1, d2, p0, p1, p2, rfl, rfl, rfl, h0, h1, h2⟩ := trodAll_three hA
  obtain ⟨rfl, rfl⟩ := trodVars_none hV
  clear hA0 hval0 hsz0
  simp only [List.append_nil, List.append_assoc] at hW'
  have h0' := h0
  have h1' := h1
  have h2' := h2
  obtain ⟨n0, g0⟩ := h0
  obtain ⟨n1, g1⟩ := h1
  obtain ⟨n2, g2⟩ := h2
  obtain ⟨u0, ks, e0, hks⟩ := rd_nodes g0 (small_of_all hsz (j := 0) rfl rfl)
  obtain ⟨u1, R, e1, hR, _, _⟩ := rd_ints Fx.un26 Fx.un3 ce3 by3 g1 (small_of_all hsz (j := 1) rfl rfl)
  obtain ⟨u2, ws, e2, hws, _, _⟩ := rd_ints Fx.un26 Fx.un3 ce3 by3 g2 (small_of_all hsz (j := 2) rfl rfl)
  obtain ⟨a0, l0, c0, rfl⟩ := okWide_slice Fx.un22 (hval 0 22 v0 rfl rfl)
  obtain ⟨a1, l1, c1, rfl⟩ := okWide_slice Fx.un26 (hval 1 26 v1 rfl rfl)
  obtain ⟨a2, l2, c2, rfl⟩ := okWide_slice Fx.un26 (hval 2 26 v2 rfl rfl)
  obtain rfl : Value.slice a0 l0 c0 = u0 := by simpa [Value.cells] using e0
  obtain rfl : Value.slice a1 l1 c1 = u1 := by simpa [Value.cells] using e1
  obtain rfl : Value.slice a2 l2 c2 = u2 := by simpa [Value.cells] using e2
  have hlt := hW'.lt
  refine Calls.mono (nexts_ok W _ _ _ ks R ws hks hR hws) fun e W' he => ?_
  cases e <;> simp only [callR] at he
  obtain ⟨rfl, hx⟩ := he
  exact ⟨_, rfl, post_ext rfl hW' hx (fun _ _ _ => trodAll_mk1 (shut_bool Fx.un4 _))
    (fun sp hsp => trodAll_mk3 (Trod_ext laid41 rr22 (by decide +kernel) h0' hx (fun x hx => hlt x (List.mem_append_left _ hx)) (fun x hx => hsp x (List.mem_append_left _ hx)))
      (Trod_ext laid41 rr26 (by decide +kernel) h1' hx (fun x hx => hlt x (List.mem_append_right _ (List.mem_append_left _ hx))) (fun x hx => hsp x (List.mem_append_right _ (List.mem_append_left _ hx))))
      (Trod_ext laid41 rr26 (by decide +kernel) h2' hx (fun x hx => hlt x (List.mem_append_right _ (List.mem_append_right _ hx))) (fun x hx => hsp x (List.mem_append_right _ (List.mem_append_right _ hx))))) rfl⟩

theorem debugNexts_holds : Rows.DebugNextsSaid :=
  OpenClaim.holds_of_wide 5 Try.f5 rfl rfl rfl rfl rfl rfl rfl ⟨rfl, rfl, rfl, rfl, rfl⟩ rfl rfl rfl rfl rfl (by kernel_rfl) Try.func5 (by kernel_rfl)
    (of_decide_eq_true (by kernel_rfl)) (by unfold Func.isWrapper; first | (rw [if_pos (by decide +kernel)]; kernel_rfl) | (rw [if_neg (by decide +kernel)]; exact ⟨rfl, rfl⟩))
    (fun os started H enc _ => debugNexts_lifted os started H enc)
#print axioms debugNexts_holds
end Go.Proofs.Ytafjfcameabbmaa
