/- What the laws of chapter 36 are handed: values, words, the package's variables. -/
import Derived.Test.YtldeokfhipjbfaaDoorH20
import Derived.Test.YtldeokfhipjbfaaDoorVg24
import Derived.Test.YtldeokfhipjbfaaDoorTie
import Derived.Test.YtldeokfhipjbfaaDoorCards
import Derived.LaidMore
import Derived.OpenShut
import Derived.Stop.Joined
import Derived.SevenTiedAt
import Derived.Lib.LaidTab
set_option linter.unusedVariables false
set_option linter.unusedSimpArgs false
namespace Go.Proofs.YtldeokfhipjbfaaDoor
open Go Go.Proofs.Vg Go.RowKit Go.Deep Go.ChangeShapes Go.WideShapes Go.ChangeAt Go.WideElems

theorem ce24 : Tryd.prog.cellsOf 24 = 4 := by kernel_rfl
theorem ce3 : Tryd.prog.cellsOf 3 = 1 := by kernel_rfl
theorem ce2 : Tryd.prog.cellsOf 2 = 1 := by kernel_rfl
theorem ce9 : Tryd.prog.cellsOf 9 = 1 := by kernel_rfl
theorem ce22 : Tryd.prog.cellsOf 22 = 1 := by kernel_rfl
theorem by24 : 0 < Tryd.prog.bytesOf 24 := by decide +kernel
theorem vf0 : fld Tryd.prog 24 0 = some (3, 0) := by kernel_rfl
theorem vf1 : fld Tryd.prog 24 1 = some (2, 1) := by kernel_rfl
theorem vf2 : fld Tryd.prog 24 2 = some (9, 2) := by kernel_rfl
theorem vf3 : fld Tryd.prog 24 3 = some (22, 3) := by kernel_rfl
theorem own36 : ownKnob Tryd.prog.godebug = none := by kernel_rfl
theorem laid36 : laidOutB Tryd.prog = true := by kernel_rfl
theorem rr24 : Tryd.prog.readableRec 24 = true := by kernel_rfl

section
variable {H : Type} {enc : TypeId × Value → H} {w : World} {base : Nat} {spare : Nat → Bool} {held : Bool}
theorem rd_vall : ∀ (m : Nat) (fuel : Nat) (cs : List Value) (x : DataW H × List MemPlace), SizeOf.sizeOf x.1 ≤ m → DataW.trod enc Tryd.prog w base spare held fuel 24 cs = some x → Small Tryd.prog 24 x.1 → cs.length = 4 → ∃ v, VRow w cs v := by
  intro m
  induction m with
  | zero =>
    intro fuel cs x hm
    have : 0 < SizeOf.sizeOf x.1 := by cases x.1 <;> simp <;> omega
    omega
  | succ m ih =>
    intro fuel cs x hm h hs hl
    match cs, hl with
    | [r0, r1, r2, r3], _ =>
      obtain ⟨n0, y0, k0, _, _⟩ := rd_fld' vf0 h hs
      obtain ⟨n1, y1, k1, _, _⟩ := rd_fld' vf1 h hs
      obtain ⟨n2, y2, k2, _, _⟩ := rd_fld' vf2 h hs
      obtain ⟨n3, y3, k3, s3, z3⟩ := rd_fld' vf3 h hs
      rw [ce3] at k0
      rw [ce2] at k1
      rw [ce9] at k2
      rw [ce22] at k3
      obtain ⟨k, e0, _⟩ := DataW.trod_int Fx.un3 k0
      obtain ⟨n, e1, _⟩ := DataW.trod_int Fx.un2 k1
      obtain ⟨t, e2, _⟩ := DataW.trod_string Fx.un9 k2
      obtain ⟨v, rows, e3, hsl, h1, h2, hr⟩ := rd_slice' Fx.un22 ce24 (by decide) by24 k3 s3
      simp at e0 e1 e2 e3
      subst e0 e1 e2 e3
      have : ∃ args, VRows w rows args := by
        clear hsl
        induction rows with
        | nil => exact ⟨[], by simp only [VRows]⟩
        | cons r rows ihr =>
          obtain ⟨args, ha⟩ := ihr (fun i row hi => hr (i + 1) row (by simpa using hi))
          obtain ⟨hl0, f, y, hy, hsy, hzy⟩ := hr 0 r rfl
          obtain ⟨a, ha0⟩ := ih f r y (by omega) hy hsy hl0
          exact ⟨a :: args, by simp only [VRows]; exact ⟨ha0, ha⟩⟩
      obtain ⟨args, ha⟩ := this
      exact ⟨.mk k n t args, by simp only [VRow]; exact ⟨_, rfl, h1, h2, rows, hsl, ha⟩⟩
end

theorem gKinds : Tryd.prog.globalNamed "cinnabar/heap.kinds" = some 0 := by kernel_rfl
theorem gRanks : Tryd.prog.globalNamed "cinnabar/heap.ranks" = some 1 := by kernel_rfl
theorem tKinds : (Tryd.prog.globals[0]?).map (·.type) = some 85 := by kernel_rfl
theorem tRanks : (Tryd.prog.globals[1]?).map (·.type) = some 87 := by kernel_rfl
theorem Fx.un87 : Tryd.prog.underlying 87 = some (.array 10 3) := by kernel_rfl
theorem ce87 : Tryd.prog.cellsOf 87 = 10 := by kernel_rfl
def laid2 {H : Type} : List (String × DataW H) := [("cinnabar/heap.kinds", Rows.laid_cinnabar_heap_kinds), ("cinnabar/heap.ranks", Rows.laid_cinnabar_heap_ranks)]

theorem mem_ins {H : Type} {y : Lit × DataW H} : ∀ (l : List (Lit × DataW H)), y ∈ l.foldr DataW.insert [] ↔ y ∈ l
  | [] => by simp
  | x :: l => by simp only [List.foldr_cons, ChangeMaps.mem_insert_iff, mem_ins l, List.mem_cons]
theorem key_int {v : Value} {n : Int} (h : keyOf Tryd.prog 3 v = some (.int .i64 n)) : v = .int .i64 n := by
  unfold keyOf at h
  rw [Fx.un3] at h
  simp only [mapKey, Fx.un3] at h
  cases v <;> simp at h
  obtain ⟨⟨h1, _⟩, h2⟩ := h
  subst h1; subst h2; rfl
theorem of_laid {W : World} (h : laidMetH Tryd.prog laid2 W) : ∃ mk, Glob W mk := by
  rw [MakeChecks.laidMetH_plain _ _ _ (by kernel_rfl)] at h
  obtain ⟨ps, ⟨g0, t0, cs0, f0, p0, q0, hg0, ht0, hv0, hd0, ⟨g1, t1, cs1, f1, p1, q1, hg1, ht1, hv1, hd1, _, _⟩, _⟩, _, _⟩ := h
  obtain rfl := Option.some.inj (gKinds.symm.trans hg0)
  obtain rfl := Option.some.inj (gRanks.symm.trans hg1)
  obtain rfl := Option.some.inj (tKinds.symm.trans ht0)
  obtain rfl := Option.some.inj (tRanks.symm.trans ht1)
  rcases WideElems.open_map Fx.un85 hd0 with ⟨_, hx⟩ | ⟨bm, es, clock, m, rfl, hcs, hb, _, F, hx⟩
  · simp [Rows.laid_cinnabar_heap_kinds] at hx
  simp only [Prod.mk.injEq] at hx
  have hcell : W.cell? ⟨0, 0, none⟩ = some (.map (some bm)) := by
    have := World.var?_cell hg0 hv0 0
    rw [Array.eq_one_of_toList hcs] at this
    simpa using this
  have hR := Lib.cells_of_tab (k := .i64) (zs := [0, 1, 2, 3, 4, 5, 6, 7, 8, 0]) Fx.un87 Fx.un3 ce3 ce87 hd1
  have hel : ∀ v z, elemAt (fun (_ : TypeId × Value) => ()) Tryd.prog W 0 (fun _ => true) false m 3 v = some z → ∃ a, v = .int .i64 a ∧ z = (.lit (.int .i64 a), []) := fun v z hz => by
    obtain ⟨a, h1, h2, _⟩ := WideElems.elemAt_int Fx.un3 hz
    exact ⟨a, h1, h2⟩
  generalize elemAt (fun (_ : TypeId × Value) => ()) Tryd.prog W 0 (fun _ => true) false m 3 = R at F hx hel
  have hL : ([(.int .i64 1, .lit (.int .i64 1)), (.int .i64 2, .lit (.int .i64 2)), (.int .i64 3, .lit (.int .i64 3)), (.int .i64 4, .lit (.int .i64 4)), (.int .i64 5, .lit (.int .i64 5)), (.int .i64 6, .lit (.int .i64 6)), (.int .i64 7, .lit (.int .i64 7)), (.int .i64 8, .lit (.int .i64 8))] : List (Lit × DataW Unit)) = (es.toList.map (rg Tryd.prog 3 R)).foldr DataW.insert [] := by
    have h0 := hx.1
    unfold Rows.laid_cinnabar_heap_kinds at h0
    exact DataW.map.inj h0
  have hmem : ∀ y, y ∈ ([(.int .i64 1, .lit (.int .i64 1)), (.int .i64 2, .lit (.int .i64 2)), (.int .i64 3, .lit (.int .i64 3)), (.int .i64 4, .lit (.int .i64 4)), (.int .i64 5, .lit (.int .i64 5)), (.int .i64 6, .lit (.int .i64 6)), (.int .i64 7, .lit (.int .i64 7)), (.int .i64 8, .lit (.int .i64 8))] : List (Lit × DataW Unit)) ↔ ∃ e ∈ es.toList, rg Tryd.prog 3 R e = y := fun y => by
    rw [hL, mem_ins, List.mem_map]
  have hent : ∀ e ∈ es.toList, ∃ n v, e.key = .int .i64 n ∧ e.val = .int .i64 v ∧ rg Tryd.prog 3 R e = (.int .i64 n, .lit (.int .i64 v)) := fun e he => by
    obtain ⟨y, hy⟩ := F.reads e he
    obtain ⟨z, hz, h2⟩ := WideElems.rd_val hy
    obtain ⟨a, h3, h4⟩ := hel _ _ hz
    have h1 := rd_key hy
    have hrg := rg_of hy
    have hy1 : y ∈ ([(.int .i64 1, .lit (.int .i64 1)), (.int .i64 2, .lit (.int .i64 2)), (.int .i64 3, .lit (.int .i64 3)), (.int .i64 4, .lit (.int .i64 4)), (.int .i64 5, .lit (.int .i64 5)), (.int .i64 6, .lit (.int .i64 6)), (.int .i64 7, .lit (.int .i64 7)), (.int .i64 8, .lit (.int .i64 8))] : List (Lit × DataW Unit)) := (hmem y).2 ⟨e, he, hrg⟩
    obtain ⟨y1, y2⟩ := y
    have hk : ∃ n, y1 = .int .i64 n := by
      simp only [List.mem_cons, Prod.mk.injEq, List.not_mem_nil, or_false] at hy1
      rcases hy1 with ⟨h, _⟩ | ⟨h, _⟩ | ⟨h, _⟩ | ⟨h, _⟩ | ⟨h, _⟩ | ⟨h, _⟩ | ⟨h, _⟩ | ⟨h, _⟩ <;> exact ⟨_, h⟩
    obtain ⟨n, rfl⟩ := hk
    refine ⟨n, a, key_int h1, h3, ?_⟩
    have h2' : y2 = z.1 := h2
    rw [hrg, h2', h4]
  refine ⟨bm, hcell, ⟨es, clock, hb, fun e he => ?_, fun n v hn => ?_⟩, fun j u hj => ?_⟩
  · obtain ⟨n, v, h1, h2, h3⟩ := hent e he
    have h4 := (hmem _).2 ⟨e, he, h3⟩
    refine ⟨n, h1, ?_⟩
    rw [h2]
    simp only [List.mem_cons, Prod.mk.injEq, Lit.int.injEq, DataW.lit.injEq, List.not_mem_nil, or_false, true_and] at h4
    rcases h4 with ⟨rfl, rfl⟩ | ⟨rfl, rfl⟩ | ⟨rfl, rfl⟩ | ⟨rfl, rfl⟩ | ⟨rfl, rfl⟩ | ⟨rfl, rfl⟩ | ⟨rfl, rfl⟩ | ⟨rfl, rfl⟩ <;> rfl
  · unfold kindF at hn
    split at hn
    · rename_i h1
      have h2 : ((.int .i64 n, .lit (.int .i64 n)) : Lit × DataW Unit) ∈ ([(.int .i64 1, .lit (.int .i64 1)), (.int .i64 2, .lit (.int .i64 2)), (.int .i64 3, .lit (.int .i64 3)), (.int .i64 4, .lit (.int .i64 4)), (.int .i64 5, .lit (.int .i64 5)), (.int .i64 6, .lit (.int .i64 6)), (.int .i64 7, .lit (.int .i64 7)), (.int .i64 8, .lit (.int .i64 8))] : List (Lit × DataW Unit)) := by
        have : n = 1 ∨ n = 2 ∨ n = 3 ∨ n = 4 ∨ n = 5 ∨ n = 6 ∨ n = 7 ∨ n = 8 := by omega
        rcases this with rfl | rfl | rfl | rfl | rfl | rfl | rfl | rfl <;> simp
      obtain ⟨e, he, h3⟩ := (hmem _).1 h2
      obtain ⟨n', v', h4, h5, h6⟩ := hent e he
      rw [h6] at h3
      simp only [Prod.mk.injEq, Lit.int.injEq, true_and] at h3
      exact ⟨e, he, by rw [h4, h3.1]⟩
    · cases hn
  · have h1 : cs1 = rankL.toArray := by
      have h2 : cs1.toList = rankL := by rw [hR]; rfl
      rw [← h2]
    subst h1
    have := World.var?_cell hg1 hv1 j
    rw [add_at, Nat.zero_add, this]
    simpa using hj
end Go.Proofs.YtldeokfhipjbfaaDoor
