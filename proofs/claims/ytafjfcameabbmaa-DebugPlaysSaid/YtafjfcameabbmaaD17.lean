/- What the laws of chapter 41 are handed. -/
import Derived.Test.YtafjfcameabbmaaD4
import Derived.Test.YtafjfcameabbmaaVg17
import Derived.Test.YtafjfcameabbmaaRows
set_option linter.unusedVariables false
set_option linter.unusedSimpArgs false
namespace Go.Proofs.Ytafjfcameabbmaa
open Go Go.Proofs.Vg Go.RowKit Dbg Go.Deep Go.ChangeShapes Go.WideShapes Go.ChangeAt

theorem ce37 : Try.prog.cellsOf 37 = 5 := by kernel_rfl
theorem ce3 : Try.prog.cellsOf 3 = 1 := by kernel_rfl
theorem ce4 : Try.prog.cellsOf 4 = 1 := by kernel_rfl
theorem ce35 : Try.prog.cellsOf 35 = 1 := by kernel_rfl
theorem ce26 : Try.prog.cellsOf 26 = 1 := by kernel_rfl
theorem by37 : 0 < Try.prog.bytesOf 37 := by decide +kernel
theorem by3 : 0 < Try.prog.bytesOf 3 := by decide +kernel
theorem by4 : 0 < Try.prog.bytesOf 4 := by decide +kernel
theorem fl0 : fld Try.prog 37 0 = some (3, 0) := by kernel_rfl
theorem fl1 : fld Try.prog 37 1 = some (3, 1) := by kernel_rfl
theorem fl2 : fld Try.prog 37 2 = some (35, 2) := by kernel_rfl
theorem fl3 : fld Try.prog 37 3 = some (35, 3) := by kernel_rfl
theorem fl4 : fld Try.prog 37 4 = some (26, 4) := by kernel_rfl
theorem is35 : isSlice Try.prog 35 = true := by kernel_rfl

section
variable {H : Type} {enc : TypeId × Value → H} {w : World} {base : Nat} {spare : Nat → Bool} {held : Bool}
theorem rd_nodes {fuel : Nat} {cs : List Value} {x : DataW H × List MemPlace} (h : DataW.trod enc Try.prog w base spare held fuel 22 cs = some x) (hs : Small Try.prog 22 x.1) : ∃ v ks, cs = [v] ∧ NodesG w v ks := by
  obtain ⟨v, rows, rfl, hsl, h1, h2, hr⟩ := rd_slice Fx.un22 ce37 (by decide) by37 h hs
  have key : ∀ i, i < rows.length → ∃ kids : List Int, ∃ (c p : Int) (vi vo vk : Value), rows[i]? = some [.int .i64 c, .int .i64 p, vi, vo, vk] ∧ vi.oneCell' = true ∧ vo.oneCell' = true ∧ vi.cells = #[vi] ∧ vo.cells = #[vo] ∧ SlI w vk kids := by
    intro i hi
    obtain ⟨hl, f, y, hy, hsy⟩ := hr i rows[i] (List.getElem?_eq_getElem hi)
    generalize hrow : rows[i] = row at *
    match row, hl with
    | [r0, r1, r2, r3, r4], _ =>
      obtain ⟨n0, y0, k0, _⟩ := rd_fld fl0 hy hsy
      obtain ⟨n1, y1, k1, _⟩ := rd_fld fl1 hy hsy
      obtain ⟨n2, y2, k2, _⟩ := rd_fld fl2 hy hsy
      obtain ⟨n3, y3, k3, _⟩ := rd_fld fl3 hy hsy
      obtain ⟨n4, y4, k4, s4⟩ := rd_fld fl4 hy hsy
      rw [ce3] at k0 k1
      rw [ce35] at k2 k3
      rw [ce26] at k4
      obtain ⟨c, e0, _⟩ := DataW.trod_int Fx.un3 k0
      obtain ⟨p, e1, _⟩ := DataW.trod_int Fx.un3 k1
      obtain ⟨vi, e2, a2, b2⟩ := rd_anySlice is35 k2
      obtain ⟨vo, e3, a3, b3⟩ := rd_anySlice is35 k3
      obtain ⟨vk, xs, e4, sl, _, _⟩ := rd_ints Fx.un26 Fx.un3 ce3 by3 k4 s4
      simp at e0 e1 e2 e3 e4
      subst e0 e1 e2 e3 e4
      exact ⟨xs, c, p, _, _, _, by rw [List.getElem?_eq_getElem hi, hrow], a2, a3, b2, b3, sl⟩
  obtain ⟨K, hK⟩ := choose_lt (α := List Int) (p := fun i kids => ∃ (c p : Int) (vi vo vk : Value), rows[i]? = some [.int .i64 c, .int .i64 p, vi, vo, vk] ∧ vi.oneCell' = true ∧ vo.oneCell' = true ∧ vi.cells = #[vi] ∧ vo.cells = #[vo] ∧ SlI w vk kids) key
  refine ⟨v, (List.range rows.length).map K, rfl, rows, hsl, by simp, fun i hi => ?_⟩
  have hi' : i < rows.length := by simpa using hi
  obtain ⟨c, p, vi, vo, vk, h⟩ := hK i hi'
  exact ⟨c, p, vi, vo, vk, by simpa using h⟩
end
theorem own41 : ownKnob Try.prog.godebug = none := by kernel_rfl
theorem laid41 : laidOutB Try.prog = true := by kernel_rfl
theorem rr22 : Try.prog.readableRec 22 = true := by kernel_rfl
theorem rr23 : Try.prog.readableRec 23 = true := by kernel_rfl
theorem rr26 : Try.prog.readableRec 26 = true := by kernel_rfl
theorem sz26 : 26 < Try.prog.types.size := by decide +kernel
end Go.Proofs.Ytafjfcameabbmaa
