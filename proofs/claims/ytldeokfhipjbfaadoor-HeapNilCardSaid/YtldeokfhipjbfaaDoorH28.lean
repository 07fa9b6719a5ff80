/- HeapNil's row and card. HeapNil: for every word and every number, the law returns true, and what came in reads as it did. No condition but the row's own: the two listed variables of the heap's package read as the program's text lays them. -/
import Derived.Test.YtldeokfhipjbfaaDoorH27
set_option linter.unusedVariables false
set_option linter.unusedSimpArgs false
namespace Go.Proofs.YtldeokfhipjbfaaDoor
open Go Go.Proofs.Vg Go.RowKit Go.Deep Go.ChangeShapes Go.WideShapes Go.ChangeAt

/-- The door's own heap meets the condition. -/
theorem door_metN (os : Os) (args : Array Value) : laidMetH Tryd.prog laid2 ((World.doorLaid Tryd.prog 400 os).forCall (fun _ _ => 0) ⟨#[], args, []⟩).memory :=
  laidMetH_of_parts3 (fuel := 8) (laidMet_of_run' 8 (by kernel_rfl) (by kernel_rfl)) (by kernel_rfl) (by kernel_rfl)
theorem wf0 : fld Tryd.prog 31 0 = some (3, 0) := by kernel_rfl
theorem wf1 : fld Tryd.prog 31 1 = some (2, 1) := by kernel_rfl
theorem wf2 : fld Tryd.prog 31 2 = some (3, 2) := by kernel_rfl
theorem ce31 : Tryd.prog.cellsOf 31 = 3 := by kernel_rfl
theorem rr31 : Tryd.prog.readableRec 31 = true := by kernel_rfl
theorem rr2 : Tryd.prog.readableRec 2 = true := by kernel_rfl
theorem rd_word {H : Type} {enc : TypeId × Value → H} {w : World} {base : Nat} {spare : Nat → Bool} {held : Bool} {fuel : Nat} {cs : List Value} {x : DataW H × List MemPlace} (h : DataW.trod enc Tryd.prog w base spare held fuel 31 cs = some x) (hs : Small Tryd.prog 31 x.1) (hl : cs.length = 3) : ∃ y : Wd, cs = y.row := by
  match cs, hl with
  | [r0, r1, r2], _ =>
    obtain ⟨n0, y0, k0, _⟩ := rd_fld wf0 h hs
    obtain ⟨n1, y1, k1, _⟩ := rd_fld wf1 h hs
    obtain ⟨n2, y2, k2, _⟩ := rd_fld wf2 h hs
    rw [ce3] at k0 k2
    rw [ce2] at k1
    obtain ⟨k, e0, _⟩ := DataW.trod_int Fx.un3 k0
    obtain ⟨n, e1, _⟩ := DataW.trod_int Fx.un2 k1
    obtain ⟨r, e2, _⟩ := DataW.trod_int Fx.un3 k2
    simp at e0 e1 e2
    subst e0 e1 e2
    exact ⟨⟨k, n, r⟩, rfl⟩

set_option maxRecDepth 100000 in
theorem heapNil_lifted (os : Os) (started : os.Started) (H : Type) (enc : TypeId × Value → H) :
    ReturnsInHanded {} Tryd.checked os 5 .any (fun w args => (Rows.heapNilSpec.pre enc Tryd.prog Tryd.f5 [] false w args ∧ laidMetH Tryd.prog laid2 w) ∧ sizedMet enc Tryd.prog Tryd.f5 (OpenSpec.ofChange Rows.heapNilSpec) false w args)
      (Rows.heapNilSpec.post enc Tryd.prog Tryd.f5 false true false false) := by
  refine returnsInHanded_of_change_and (C := Tryd.checked) (X := fun w _ => laidMetH Tryd.prog laid2 w) (fun _ _ _ hh h => h.of_heap hh) own36 started (by kernel_rfl) Tryd.func5
    (ChangeSpec.witness_shaped (enc := enc) (C := Tryd.checked) (os := os) (X := fun w _ => laidMetH Tryd.prog laid2 w) false (World.doorLaid Tryd.prog 400 os) #[.agg #[.int .i64 0, .int .i64 0, .int .i64 0], .int .i64 0] 8 rfl (World.shaped_of_RefB (by kernel_rfl) (by kernel_rfl)) (by kernel_rfl) (by kernel_rfl) (by kernel_rfl) (door_metN os _)) ?_
  intro W base args ds gs before hval0 hW _ hsz0 hL _
  have hval : ∀ (j : Nat) t v, Tryd.f5.params[j]? = some t → args[j]? = some v → Value.okWide Tryd.prog W .any base t v := hval0
  have hW' := hW
  obtain ⟨p, q, hA0, hV, rfl, hfz, hnd⟩ := hW
  have hA : DataW.TrodAll enc Tryd.prog W 0 (fun _ => true) true Tryd.f5.params.toList args.toList ds p := hA0
  have hsz : (DataW.weightsEach Tryd.prog (Tryd.f5.params.toList ++ []) (ds ++ gs)).all (· ≤ reachBytes) = true := hsz0
  rw [Tryd.params5] at hA hval hsz
  obtain ⟨v0, v1, d0, d1, p0, p1, rfl, rfl, rfl, h0, h1⟩ := trodAll_two hA
  obtain ⟨rfl, rfl⟩ := trodVars_none hV
  obtain ⟨mk, hG⟩ := of_laid hL
  clear hA0 hval0 hsz0
  simp only [List.append_nil] at hW'
  have h0' := h0
  have h1' := h1
  obtain ⟨n0, g0⟩ := h0
  obtain ⟨cs, rfl, hcl⟩ := okWide_struct Tryd.underlying31 (hval 0 31 v0 rfl rfl)
  obtain ⟨n, rfl⟩ := okWide_int Fx.un2 (hval 1 2 v1 rfl rfl)
  obtain ⟨x, hx⟩ := rd_word (cs := cs.toList) g0 (small_of_all hsz (j := 0) rfl rfl) (by rw [ce31] at hcl; simpa using hcl)
  have hcs : cs = x.row.toArray := by rw [← hx]
  subst hcs
  have hlt := hW'.lt
  have hcall : Rets Tryd.prog 5 [wv x, .int .i64 n] W (fun v w' => v = .bool true ∧ Ext W w') := heapNil_ok W mk x n hG
  refine Calls.mono hcall fun e W' he => ?_
  cases e <;> simp only [callR] at he
  obtain ⟨rfl, hxe⟩ := he
  exact ⟨_, rfl, post_ext rfl hW' hxe (fun _ _ _ => trodAll_mk1 (shut_bool (by kernel_rfl) _))
    (fun sp hsp => trodAll_mk2 (Trod_ext laid36 rr31 (by decide +kernel) h0' hxe (fun x hx => hlt x (List.mem_append_left _ hx)) (fun x hx => hsp x (List.mem_append_left _ hx)))
      (Trod_ext laid36 rr2 (by decide +kernel) h1' hxe (fun x hx => hlt x (List.mem_append_right _ hx)) (fun x hx => hsp x (List.mem_append_right _ hx)))) rfl⟩

theorem heapNil_holds0 : Rows.HeapNilSaid :=
  OpenClaim.holds_of_wide 5 Tryd.f5 rfl rfl rfl rfl rfl rfl rfl ⟨rfl, rfl, rfl, rfl, rfl⟩ rfl rfl rfl rfl rfl (by kernel_rfl) Tryd.func5 (by kernel_rfl)
    (of_decide_eq_true (by kernel_rfl)) (by unfold Func.isWrapper; first | (rw [if_pos (by decide +kernel)]; kernel_rfl) | (rw [if_neg (by decide +kernel)]; exact ⟨rfl, rfl⟩))
    (fun os started H enc _ => heapNil_lifted os started H enc)
theorem heapNil_holds : Rows.HeapNilCardSaid :=
  Claim7.holds_tied_plain_at .later [] [.mapped, .data] true (true, "beab9d7ea4f8e9cdac72c04170efe81e12fdbff7bc4db5d9d4c18c4af2877ea1") false
    heapNil_holds0 (fun _ h => by cases h) (by kernel_rfl) (fun _ h => by cases h) heapNil_row_tie rfl ⟨rfl, rfl⟩ (by kernel_rfl) rfl
    (fun f fn hf hfn => by
      obtain rfl : f = 5 := Option.some.inj ((show Tryd.prog.funcNamed "cinnabar/cinnabarlaw36.HeapNil" = some 5 by kernel_rfl).symm.trans hf) |>.symm
      obtain rfl : fn = Tryd.f5 := (Option.some.inj (Tryd.func5.symm.trans hfn)).symm
      exact ⟨by kernel_rfl, fun j t ht => by
        rw [Tryd.params5] at ht
        have hm : t ∈ [31, 2] := by simpa using Array.mem_of_getElem? ht
        have hall : ([31, 2].all fun u => !Tryd.prog.wantsStandIn u) = true := by kernel_rfl
        exact (show Tryd.prog.wantsStandIn t = false by simpa using List.all_eq_true.1 hall t hm)⟩)
    (by kernel_rfl)
#print axioms heapNil_holds
end Go.Proofs.YtldeokfhipjbfaaDoor
