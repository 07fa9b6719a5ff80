/- Part 7 of 13: H20, Vg27, R0, K3, R1, R2, R3, R4, R5. -/
import Derived.Test.YtldeokfhipjbfaaGreatDoorM6
import Derived.Test.YtldeokfhipjbfaaGreatDoorM3
import Derived.Test.YtldeokfhipjbfaaGreatDoorM4
/- awake: the examples of the chapter. -/
set_option linter.unusedVariables false
set_option linter.unusedSimpArgs false
namespace Go.Proofs.YtldeokfhipjbfaaGreatDoor
open Go Go.Proofs.Vg Go.RowKit

def xA : Val := .mk 4 1 ⟨#[]⟩ [.mk 1 1 ⟨#[]⟩ [], .mk 4 0 ⟨#[]⟩ []]
def obA : Ob := .words 4 [⟨1, 1, 0⟩, ⟨4, 0, 0⟩]
def wA : Wd := ⟨4, 1, 1⟩
def aA : Wd := ⟨7, 0, 2⟩
def H2A : List Ob := [obA, .words 7 [wA]]
def H3A : List Ob := [obA, .words 7 [aA]]
theorem storeA : storeS [] xA = ([obA], wA, 0) := by rfl
theorem makeA : makeE [obA] 7 0 [wA] = 0 := by rfl
theorem makeA2 : mkW [obA] 7 0 [wA] = (H2A, aA) := by rfl
theorem setA : setE H2A aA 0 aA = 0 := by rfl
theorem setA2 : setH H2A aA 0 aA = H3A := by rfl
theorem errA : errL H3A aA = 13 := by rfl
theorem collA : (collH H3A [wA]).length = 1 := by rfl
theorem anyA : [wA].any (fun x => !rightW H3A x) = false := by rfl
theorem ringA : ringF H3A [aA] = true := by rfl
theorem wfA : Wf H3A := by
  intro o ho x hx
  simp [H3A, obA] at ho
  rcases ho with rfl | rfl
  · simp [Ob.list] at hx; rcases hx with rfl | rfl <;> simp [H3A]
  · simp [Ob.list] at hx; subst hx; simp [aA, H3A]
theorem limA : ∀ x, (argsOf H3A x).length ≤ 1048576 := by
  intro x
  unfold argsOf
  cases h : objAt H3A x.r with
  | none => simp [argsO]
  | some o =>
    have hm : o ∈ H3A := by
      unfold objAt at h
      split at h
      · exact List.mem_of_getElem? h
      · cases h
    simp [H3A, obA] at hm
    rcases hm with rfl | rfl <;> simp [argsO]

/-- What is known between the acts: the heap, what belongs to it, that all else grew. -/
structure AW (w0 w : World) (hb rb : Nat) (H : List Ob) (F : Nat → Prop) : Prop where
  hp : HeapW w hb rb H F
  ext : Ext w0 w
  lt : ∀ k, F k → w0.heap.size ≤ k ∧ k < w.heap.size
theorem AW.ex {w0 w w' : World} {hb rb : Nat} {H : List Ob} {F : Nat → Prop} (h : AW w0 w hb rb H F) (he : Ext w w') : AW w0 w' hb rb H F :=
  ⟨h.hp.ext he, h.ext.trans he, fun k hk => ⟨(h.lt k hk).1, Nat.lt_of_lt_of_le (h.lt k hk).2 he.size⟩⟩
theorem AW.grown {w0 w w' : World} {hb rb : Nat} {H H' : List Ob} {F : Nat → Prop} (h : AW w0 w hb rb H F) (hg : Grown w w' hb rb H' F) : ∃ F', AW w0 w' hb rb H' F' ∧ Chg F w w' ∧ ∀ k, F' k → F k ∨ (w.heap.size ≤ k ∧ k < w'.heap.size) := by
  obtain ⟨hc, F', h1, h2⟩ := hg
  have hs := h.ext.size
  have hs2 := hc.size
  refine ⟨F', ⟨h1, h.ext.chg_trans hc (fun k hk => (h.lt k hk).1), fun k hk => ?_⟩, hc, h2⟩
  rcases h2 k hk with h3 | h3
  · have := h.lt k h3; omega
  · omega

-- -- function 5
set_option maxHeartbeats 4000000 in
set_option maxRecDepth 8000 in
theorem awake_ok (w : World) (mk : Nat) (hg : Glob w mk) : Rets Tryz.prog 5 [] w (fun v w' => v = .bool true ∧ Ext w w') := by
  have hglt := hg.lt
  refine rets_of_ok Tryz.func5 rfl rfl ?_
  refine ok_seq (fun M hM => ok_region rfl ?_); (try revert X); refine t5 ?_; intro X hX
  refine hM _ _ _ ?_; clear hM M
  refine ok_seq (fun M hM => ok_region rfl ?_)
  (try revert X); refine t5 ?_; intro X hX
  refine Inv.call Fx.en7 (new_ok w) ?_
  rintro v w1 ⟨hb, rb, rfl, hH1, he1, hhb, hrb⟩
  have hA1 : AW w w1 hb rb [] (fun k => k = hb) := ⟨hH1, he1, fun k hk => by subst hk; obtain ⟨vs, ps, gs, h1, h2, h3⟩ := hH1; exact ⟨hhb, (h2 _ (.inl rfl)).2⟩⟩
  (try revert X); refine t5 ?_; intro X hX
  refine hM _ _ _ ?_; clear hM M
  refine ok_join [(1, ptrOf hb)] (fun w' => w' = w1) ?_ ?_
  · refine ok_seq (fun M hM => ok_region rfl ?_)
    (try revert X); refine t5 ?_; intro X hX
    refine Runs.ptrEq Fx.un25 ?_
    (try revert X); refine t5 ?_; intro X hX
    refine hM _ _ _ ?_; clear hM M
    refine ok_cond rfl (fun h => by cases h) (fun _ => ok_skip ?_)
    try simp only [zW, zU, reduceIte, Nat.reduceEqDiff, Nat.reduceAdd, reduceCtorEq, Q5]
    simp [sub, Env.get]
  rintro w' rfl
  refine ok_seq (fun M hM => ok_region rfl ?_)
  (try revert X); refine t5 ?_; intro X hX
  refine Inv.call Fx.en20 (num_ok w' 1) ?_
  rintro v w2 ⟨rfl, he2⟩
  (try revert X); refine t5 ?_; intro X hX
  refine ⟨_, w2, run_build (P := Tryz.prog) w2 36 _ #[.int .i64 4, .int .i64 0, .string ⟨#[]⟩, .slice none 0 0] (by kernel_rfl), ?_⟩
  (try revert X); refine t5 ?_; intro X hX
  refine Runs.lit (cs := [.int .i64 1, .int .i64 1, .string ⟨#[]⟩, .slice none 0 0, .int .i64 4, .int .i64 0, .string ⟨#[]⟩, .slice none 0 0]) Fx.un34 Fx.zi36 (by decide) (by kernel_rfl) (by decide) (fun w3 he3 hs3 hb3 => ?_)
  generalize hB3 : w2.heap.size = B3 at hs3 hb3
  (try revert X); refine t5 ?_; intro X hX
  refine ⟨_, w3, run_build (P := Tryz.prog) w3 36 _ #[.int .i64 4, .int .i64 1, .string ⟨#[]⟩, .slice (some ⟨B3, 0, none⟩) 2 2] (by kernel_rfl), ?_⟩
  (try revert X); refine t5 ?_; intro X hX
  have hA3 := hA1.ex (he2.trans he3)
  have hs1 := he1.size
  have hs2 := he2.size
  have hl1 := hA1.lt
  have hxA : VRowS w3 (fun k => k = B3) [.int .i64 4, .int .i64 1, .string ⟨#[]⟩, .slice (some ⟨B3, 0, none⟩) 2 2] xA := by
    simp only [xA, VRowS]
    refine ⟨_, rfl, rfl, rfl, [[.int .i64 1, .int .i64 1, .string ⟨#[]⟩, .slice none 0 0], [.int .i64 4, .int .i64 0, .string ⟨#[]⟩, .slice none 0 0]], ⟨_, 2, rfl, by simp, fun j row hj => ?_⟩, ?_⟩
    · have hjl := (List.getElem?_eq_some_iff.1 hj).1
      simp at hjl
      have : j = 0 ∨ j = 1 := by omega
      rcases this with rfl | rfl
      · simp at hj; subst hj
        exact ⟨B3, 0, rfl, rfl, hb3.cells (o := 0) (fun j u hj => by
          have := (List.getElem?_eq_some_iff.1 hj).1
          simp at this
          have : j = 0 ∨ j = 1 ∨ j = 2 ∨ j = 3 := by omega
          rcases this with rfl | rfl | rfl | rfl <;> simpa using hj)⟩
      · simp at hj; subst hj
        exact ⟨B3, 0, rfl, rfl, hb3.cells (o := 4) (fun j u hj => by
          have := (List.getElem?_eq_some_iff.1 hj).1
          simp at this
          have : j = 0 ∨ j = 1 ∨ j = 2 ∨ j = 3 := by omega
          rcases this with rfl | rfl | rfl | rfl <;> simpa using hj)⟩
    · have nilS : ∀ (S : Nat → Prop), SliS w3 S 4 (.slice none 0 0) [] := fun S => ⟨none, 0, rfl, by simp, fun j row hj => by simp at hj⟩
      simp only [VRowsS, VRowS]
      exact ⟨⟨_, rfl, rfl, rfl, [], nilS _, by simp only [VRowsS]⟩, ⟨_, rfl, rfl, rfl, [], nilS _, by simp only [VRowsS]⟩, trivial⟩
  refine Inv.call Fx.en19 (Store_ok xA w3 _ _ mk hb rb [] _ hxA (fun k hk => ⟨fun h => by have := hl1 k h; omega, by omega⟩) (hg.ext hA3.ext) ⟨by omega, by omega, by omega⟩ hA3.hp (fun k hk => (hA3.lt k hk).2) (by simp [xA, cntV, cntVs])) ?_
  rw [storeA]
  rintro v w4 ⟨rfl, hG4⟩
  obtain ⟨F4, hA4, hc4, hF4⟩ := hA3.grown hG4
  (try revert X); refine t5 ?_; intro X hX
  refine Runs.alloc Fx.zi38 (fun w5 he5 hs5 hb5 => ?_)
  generalize hC2 : w4.heap.size = C2 at hs5 hb5
  (try revert X); refine t5 ?_; intro X hX
  refine Runs.store hb5 Fx.zi38 rfl (by intro u hu; simp [Value.cells, Wd.row] at hu; rcases hu with rfl | rfl | rfl <;> rfl) (by simp [Value.cells]) (fun w6 hc6 hs6 hb6 => ?_)
  rw [splice_all _ _ (by simp [Value.cells])] at hb6
  simp only [Value.cells] at hb6
  have hA6 := hA4.ex (he5.chg_trans hc6 (fun k hk => by omega))
  have hl4 := hA4.lt
  (try revert X); refine t5 ?_; intro X hX
  refine hM _ _ _ ?_; clear hM M
  -- Make
  refine ok_seq (fun M hM => ok_region rfl ?_)
  (try revert X); refine t5 ?_; intro X hX
  refine ⟨wA.row, rfl, hb6.cells (o := 0) (fun j u hj => by simpa using hj), ?_⟩
  (try revert X); refine t5 ?_; intro X hX
  refine Runs.lit (cs := wA.row) Fx.un29 Fx.zi38 (by decide) (by kernel_rfl) (by decide) (fun w7 he7 hs7 hb7 => ?_)
  generalize hB7 : w6.heap.size = B7 at hs7 hb7
  have one : ∀ (W : World) (B : Nat) (x : Wd), Blk W B x.row 38 → SlW W (.slice (some ⟨B, 0, none⟩) 1 1) [x] := fun W B x hbx => ⟨some ⟨B, 0, none⟩, 1, rfl, by simp, fun j row hj => by
    have hj0 : j = 0 := by have := (List.getElem?_eq_some_iff.1 hj).1; simp at this; exact this
    subst hj0
    simp at hj; subst hj
    exact ⟨B, 0, rfl, hbx.cells (o := 0) (fun j u hj => by simpa using hj)⟩⟩
  have hA7 := hA6.ex he7
  (try revert X); refine t5 ?_; intro X hX
  refine Inv.call Fx.en21 (Make_ok w7 hb rb [obA] F4 hA7.hp (fun k hk => (hA7.lt k hk).2) (by decide) 7 0 _ [wA] (one w7 B7 wA hb7) (by decide)) ?_
  rw [makeA, makeA2]
  rintro v w8 ⟨rfl, hG8⟩
  simp only [if_true] at hG8 ⊢
  obtain ⟨F8, hA8, hc8, hF8⟩ := hA7.grown hG8
  have hs8 := hc8.size
  have hb8 : Blk w8 C2 wA.row 38 := (hb6.ext he7).chg hc8 (fun h => by have := hl4 C2 h; omega)
  (try revert X); refine t5 ?_; intro X hX
  refine Runs.alloc Fx.zi38 (fun w9 he9 hs9 hb9 => ?_)
  generalize hC4 : w8.heap.size = C4 at hs9 hb9
  (try revert X); refine t5 ?_; intro X hX
  refine Runs.store hb9 Fx.zi38 rfl (by intro u hu; simp [Value.cells, Wd.row] at hu; rcases hu with rfl | rfl | rfl <;> rfl) (by simp [Value.cells]) (fun w10 hc10 hs10 hb10 => ?_)
  rw [splice_all _ _ (by simp [Value.cells])] at hb10
  simp only [Value.cells] at hb10
  have hA10 := hA8.ex (he9.chg_trans hc10 (fun k hk => by omega))
  have hl8 := hA8.lt
  have hC2F8 : ¬ F8 C2 := fun h => by
    rcases hF8 C2 h with h | h
    · have := hl4 C2 h; omega
    · omega
  have hC2l := hb8.lt
  have hb10' : Blk w10 C2 wA.row 38 := (hb8.ext he9).chg hc10 (by omega)
  (try revert X); refine t5 ?_; intro X hX
  refine hM _ _ _ ?_; clear hM M
  -- Set
  refine ok_seq (fun M hM => ok_region rfl ?_)
  (try revert X); refine t5 ?_; intro X hX
  refine ⟨aA.row, rfl, hb10.cells (o := 0) (fun j u hj => by simpa using hj), ?_⟩
  (try revert X); refine t5 ?_; intro X hX
  refine ⟨aA.row, rfl, hb10.cells (o := 0) (fun j u hj => by simpa using hj), ?_⟩
  (try revert X); refine t5 ?_; intro X hX
  refine Inv.call Fx.en22 (Set_ok w10 hb rb H2A F8 hA10.hp (by decide) aA 0 aA) ?_
  rw [setA, setA2]
  rintro v w11 ⟨rfl, hG11⟩
  obtain ⟨F11, hA11, hc11, hF11⟩ := hA10.grown hG11
  have hC4F8 : ¬ F8 C4 := fun h => by have := hl8 C4 h; omega
  have hs11 := hc11.size
  have hb112 : Blk w11 C2 wA.row 38 := hb10'.chg hc11 hC2F8
  have hb114 : Blk w11 C4 aA.row 38 := hb10.chg hc11 hC4F8
  (try revert X); refine t5 ?_; intro X hX
  refine hM _ _ _ ?_; clear hM M
  -- Load
  refine ok_seq (fun M hM => ok_region rfl ?_)
  (try revert X); refine t5 ?_; intro X hX
  refine ⟨aA.row, rfl, hb114.cells (o := 0) (fun j u hj => by simpa using hj), ?_⟩
  (try revert X); refine t5 ?_; intro X hX
  refine Inv.call Fx.en13 (Load_ok hb rb H3A F11 (by decide) limA wfA mk zeroVal aA w11 (fun _ h _ => by rw [ringA] at h; cases h) hA11.hp (hg.ext hA11.ext)) ?_
  rw [errA]
  rintro v w12 ⟨cs, rfl, hcs, he12⟩
  have hcl := hcs.len
  (try revert X); refine t5 ?_; intro X hX
  refine Runs.alloc Fx.zi36 (fun w13 he13 hs13 hb13 => ?_)
  generalize hC7 : w12.heap.size = C7 at hs13 hb13
  (try revert X); refine t5 ?_; intro X hX
  refine Runs.store hb13 Fx.zi36 (by simpa [Value.cells] using hcl) (by simpa [Value.cells] using hcs.one) (by simp [Value.cells]) (fun w14 hc14 hs14 hb14 => ?_)
  have he14 : Ext w11 w14 := he12.trans (he13.chg_trans hc14 (fun k hk => by omega))
  have hA14 := hA11.ex he14
  (try revert X); refine t5 ?_; intro X hX
  refine hM _ _ _ ?_; clear hM M
  -- Collect
  refine ok_seq (fun M hM => ok_region rfl ?_)
  (try revert X); refine t5 ?_; intro X hX
  refine ⟨wA.row, rfl, (hb112.ext he14).cells (o := 0) (fun j u hj => by simpa using hj), ?_⟩
  (try revert X); refine t5 ?_; intro X hX
  refine Runs.lit (cs := wA.row) Fx.un29 Fx.zi38 (by decide) (by kernel_rfl) (by decide) (fun w15 he15 hs15 hb15 => ?_)
  generalize hB15 : w14.heap.size = B15 at hs15 hb15
  have hA15 := hA14.ex he15
  have hl14 := hA14.lt
  (try revert X); refine t5 ?_; intro X hX
  refine Inv.call Fx.en15 (collect_ok w15 hb rb H3A F11 hA15.hp (fun k hk => (hA15.lt k hk).2) (by decide) wfA _ [wA] (fun W' hc => one W' B15 wA (hb15.chg hc (fun h => by have := hl14 B15 h; omega))) (by decide)) ?_
  rintro v w16 ⟨-, hcol⟩
  obtain ⟨A16, c16, rfl, hG16S⟩ := hcol anyA
  have hG16 := hG16S.grown
  obtain ⟨F16, hA16, hc16, hF16⟩ := hA15.grown hG16
  have hb16 : Blk w16 C2 wA.row 38 := ((hb112.ext he14).ext he15).chg hc16 (fun h => by
    rcases hF11 C2 h with h | h
    · exact hC2F8 h
    · have := hb10'.lt; omega)
  (try revert X); refine t5 ?_; intro X hX
  refine hM _ _ _ ?_; clear hM M
  refine ok_seq (fun M hM => ok_region rfl ?_)
  (try revert X); refine t5 ?_; intro X hX
  simp only [List.length_singleton]
  refine ⟨.int .i64 1, hb16.cell (j := 2) rfl, ?_⟩
  (try revert X); refine t5 ?_; intro X hX
  simp only [show (((1 : Nat) : Int) = 1) = True from eq_true rfl, decide_true]
  refine ⟨fun _ => ?_, fun h => by cases h⟩
  (try revert X); refine t5 ?_; intro X hX
  refine Inv.call Fx.en16 (objects_ok w16 hb rb _ F16 hA16.hp (by rw [collA]; decide)) ?_
  rw [collA]
  rintro v w17 ⟨rfl, rfl⟩
  (try revert X); refine t5 ?_; intro X hX
  refine hM _ _ _ ?_; clear hM M
  refine ok_ret ?_
  try simp only [zW, zU, reduceIte, Nat.reduceEqDiff, Nat.reduceAdd, reduceCtorEq, Q5]
  exact ⟨rfl, hA16.ext⟩
end Go.Proofs.YtldeokfhipjbfaaGreatDoor
/- Own rows: one row's cells turned in place. -/
set_option linter.unusedVariables false
set_option linter.unusedSimpArgs false
namespace Go.Proofs.Vg
open Go Go.RowKit
theorem splice_right (a b : List Value) (o : Nat) (vs : List Value) : splice (a ++ b) (a.length + o) vs = a ++ splice b o vs := by
  unfold splice
  rw [List.take_append, List.drop_append]
  have h1 : a.take (a.length + o) = a := List.take_of_length_le (by omega)
  have h2 : a.drop (a.length + o + vs.length) = [] := List.drop_of_length_le (by omega)
  rw [h1, h2]
  have h3 : a.length + o - a.length = o := by omega
  have h4 : a.length + o + vs.length - a.length = o + vs.length := by omega
  rw [h3, h4]
  simp
theorem splice_left (a b : List Value) (o : Nat) (vs : List Value) (h : o + vs.length ≤ a.length) : splice (a ++ b) o vs = splice a o vs ++ b := by
  unfold splice
  rw [List.take_append_of_le_length (by omega), List.drop_append_of_le_length (by omega)]
  simp
theorem flat_upd {sz : Nat} (vs : List Value) (off : Nat) (hoff : off + vs.length ≤ sz) : ∀ (rows : List (List Value)) (i : Nat) (row : List Value) (rest : List Value), (∀ r ∈ rows, r.length = sz) → rows[i]? = some row →
    splice (rows.flatten ++ rest) (i * sz + off) vs = (rows.set i (splice row off vs)).flatten ++ rest := by
  intro rows
  induction rows with
  | nil => intro i row rest _ h; simp at h
  | cons r rs ih =>
    intro i row rest hr h
    have h0 := hr r List.mem_cons_self
    cases i with
    | zero =>
      simp at h; subst h
      simp only [Nat.zero_mul, Nat.zero_add, List.flatten_cons, List.set_cons_zero, List.append_assoc]
      rw [splice_left _ _ _ _ (by omega)]
    | succ i =>
      have := ih i row rest (fun x hx => hr x (List.mem_cons_of_mem _ hx)) (by simpa using h)
      simp only [List.flatten_cons, List.set_cons_succ, List.append_assoc]
      rw [← this]
      have e : (i + 1) * sz + off = r.length + (i * sz + off) := by rw [h0, Nat.add_mul]; omega
      rw [e, splice_right]
theorem flat_len {sz : Nat} : ∀ (rows : List (List Value)), (∀ r ∈ rows, r.length = sz) → rows.flatten.length = rows.length * sz := by
  intro rows
  induction rows with
  | nil => intro _; simp
  | cons r rs ih => intro h; rw [List.flatten_cons, List.length_append, h r List.mem_cons_self, ih (fun x hx => h x (List.mem_cons_of_mem _ hx)), List.length_cons, Nat.add_mul]; omega
/-- A store into a row that one owns. -/
theorem own_store {w : World} {base e sz n : Nat} {v : Value} {rows : List (List Value)} (h : w.ownsRow base e sz v n rows.flatten) (hr : ∀ r ∈ rows, r.length = sz) {i : Nat} {row : List Value} (hi : rows[i]? = some row) (hsz : 0 < sz) {off : Nat} {vs : List Value} (hoff : off + vs.length ≤ sz) (hvs : 0 < vs.length) :
    ∃ g cap cur, v = .slice (some ⟨g, 0, none⟩) n cap ∧ Blk w g cur e ∧ i * sz + off + vs.length ≤ cur.length ∧ n = rows.length ∧ base ≤ g ∧
      ∀ w', Blk w' g (splice cur (i * sz + off) vs) e → w'.ownsRow base e sz v n (rows.set i (splice row off vs)).flatten := by
  have hfl := flat_len rows hr
  have hil := (List.getElem?_eq_some_iff.1 hi).1
  have hrow : row.length = sz := hr row (List.mem_of_getElem? hi)
  have hn : n = rows.length := by
    have h1 := h.1
    rw [hfl] at h1
    exact (Nat.eq_of_mul_eq_mul_right hsz h1).symm
  rcases h.2 with ⟨h1, h2⟩ | ⟨g, cap, cur, h1, hb, hg, hnc, hm, hs, ht⟩
  · omega
  have hle : n * sz ≤ cap * sz := Nat.mul_le_mul_right sz hnc
  have hcl : cur.toList.length = cap * sz := by simpa using hs
  have hin : i * sz + sz ≤ n * sz := by
    have : (i + 1) * sz ≤ n * sz := Nat.mul_le_mul_right sz (by omega)
    rw [Nat.add_mul] at this; omega
  refine ⟨g, cap, cur.toList, h1, by simpa [Blk] using hg, by omega, hn, hb, fun w' hb' => ?_⟩
  have hset : ∀ r ∈ rows.set i (splice row off vs), r.length = sz := fun r hr' => by
    rcases List.mem_or_eq_of_mem_set hr' with h3 | h3
    · exact hr r h3
    · rw [h3, splice_length _ _ _ (by omega), hrow]
  have hcur : cur.toList = rows.flatten ++ cur.toList.drop (n * sz) := by rw [← ht]; exact (List.take_append_drop _ _).symm
  have hsp : splice cur.toList (i * sz + off) vs = (rows.set i (splice row off vs)).flatten ++ cur.toList.drop (n * sz) := by
    rw [hcur, flat_upd vs off hoff rows i row _ hr hi]
    congr 1
    rw [← hcur]
  have hfs := flat_len _ hset
  rw [List.length_set] at hfs
  refine ⟨by rw [hfs, hn], .inr ⟨g, cap, (splice cur.toList (i * sz + off) vs).toArray, h1, hb, hb', hnc, hm, ?_, ?_⟩⟩
  · rw [List.size_toArray, splice_length _ _ _ (by omega), hcl]
  · rw [hsp, List.take_append_of_le_length (by rw [hfs, hn]; exact Nat.le_refl _), List.take_of_length_le (by rw [hfs, hn]; exact Nat.le_refl _)]
/-- A row of one's own, read. -/
theorem own_row {w : World} {base e sz n : Nat} {v : Value} {rows : List (List Value)} (h : w.ownsRow base e sz v n rows.flatten) (hr : ∀ r ∈ rows, r.length = sz) {i : Nat} {row : List Value} (hi : rows[i]? = some row) (hsz : 0 < sz) (hb : rows.length ≤ 140737488355328) :
    ∃ g cap, v = .slice (some ⟨g, 0, none⟩) n cap ∧ n = rows.length ∧ cellsAt w ⟨g, i * sz, none⟩ row := by
  obtain ⟨g, cap, cur, h1, -, -, hn, -, -⟩ := own_store h hr hi hsz (off := 0) (vs := [.int .i64 0]) (by simp; omega) (by simp)
  have hs := Sli.of_own h rfl hr hn.symm (by omega)
  obtain ⟨A, c, hv, -, hc⟩ := hs
  rw [h1] at hv
  injection hv with hA _ _
  obtain ⟨b, o, hA2, hcc⟩ := hc i row hi
  rw [← hA] at hA2
  cases hA2
  exact ⟨g, cap, h1, hn, by simpa using hcc⟩
end Go.Proofs.Vg
/- The reference's heap, in memory. -/
set_option linter.unusedVariables false
set_option linter.unusedSimpArgs false
namespace Go.Proofs.Vg
open Go Go.RowKit Go.Proofs.YtldeokfhipjbfaaGreatDoor
theorem grown_chg {w w' : World} {v : Value} (hg : w.grownBy w' v.ownBlock) : Chg (fun k => v.ownBlock = some k) w w' :=
  ⟨hg.os, hg.tape, hg.output, hg.size, fun k hk hs => hg.block k hk (fun e => hs e.symm)⟩
theorem Chg.thn {S T : Nat → Prop} {a b c : World} (h : Chg S a b) (k : Chg T b c) (hs : ∀ i, T i → S i ∨ a.heap.size ≤ i) : Chg S a c := by
  refine ⟨k.os.trans h.os, k.tape.trans h.tape, k.output.trans h.output, Nat.le_trans h.size k.size, fun i hi hn => ?_⟩
  rw [k.block i (Nat.lt_of_lt_of_le hi h.size) (fun ht => by rcases hs i ht with h1 | h1; exact hn h1; omega)]
  exact h.block i hi hn
theorem Chg.drew (S : Nat → Prop) (w : World) : Chg S w { w with drawn := w.drawn + 1 } := (Ext.drew w).chg S
theorem owns_one {w : World} {base e sz n : Nat} {v : Value} {xs : List Value} (h : w.ownsRow base e sz v n xs) : v.oneCell' = true ∧ v.cells = #[v] ∧ ∃ A c, v = .slice A n c := by
  rcases h.2 with ⟨rfl, h2⟩ | ⟨g, cap, cur, rfl, _⟩
  · exact ⟨rfl, rfl, none, 0, by rw [h2]⟩
  · exact ⟨rfl, rfl, _, _, rfl⟩
theorem owns_empty {w : World} {B : Nat} {e sz : Nat} (hb : Blk w B [] e) : w.ownsRow 0 e sz (.slice (some ⟨B, 0, none⟩) 0 0) 0 [] :=
  ⟨by simp, .inr ⟨B, 0, #[], rfl, Nat.zero_le _, hb, Nat.le_refl _, by decide, by simp, by simp⟩⟩
def oflat (l : List Wd) : List Value := (l.map Wd.row).flatten
def obStr : Ob → ByteArray
  | .text s => s
  | .words _ _ => ⟨#[]⟩
/-- An object's four cells. -/
def orow (o : Ob) (vw : Value) : List Value := [.bool (obText o), .bool (isArrO (some o)), .string (obStr o), vw]
/-- The objects in memory: a row of one's own; the words of each in a row of one's own. -/
structure RM (w : World) (vL : Value) (vws : List Value) (rows : List (List Value)) (H : List Ob) : Prop where
  own : w.ownsRow 0 120 4 vL H.length rows.flatten
  lr : rows.length = H.length
  lk : vws.length = H.length
  row : ∀ (i : Nat) (o : Ob), H[i]? = some o → ∃ vw, vws[i]? = some vw ∧ rows[i]? = some (orow o vw) ∧ w.ownsRow 0 75 3 vw o.list.length (oflat o.list)
  apart : ∀ (i j : Nat) (u v : Value) (k : Nat), vws[i]? = some u → vws[j]? = some v → u.ownBlock = some k → v.ownBlock = some k → i = j
  top : ∀ k, vL.ownBlock = some k → ∀ (i : Nat) (v : Value), vws[i]? = some v → v.ownBlock ≠ some k
def RF (vL : Value) (vws : List Value) (k : Nat) : Prop := vL.ownBlock = some k ∨ ∃ (i : Nat) (v : Value), vws[i]? = some v ∧ v.ownBlock = some k
theorem RM.rlen {w : World} {vL : Value} {vws : List Value} {rows : List (List Value)} {H : List Ob} (h : RM w vL vws rows H) : ∀ r ∈ rows, r.length = 4 := by
  intro r hr
  obtain ⟨i, hi⟩ := List.mem_iff_getElem?.1 hr
  have hil := (List.getElem?_eq_some_iff.1 hi).1
  have hd : H[i]? = some (H[i]'(by rw [← h.lr]; exact hil)) := List.getElem?_eq_getElem _
  obtain ⟨vw, -, h1, -⟩ := h.row i _ hd
  rw [hi] at h1; cases h1
  rfl
theorem RM.chg {w w' : World} {T : Nat → Prop} {vL : Value} {vws : List Value} {rows : List (List Value)} {H : List Ob} (h : RM w vL vws rows H) (hc : Chg T w w') (hf : ∀ k, RF vL vws k → ¬ T k) : RM w' vL vws rows H := by
  refine ⟨owns_chg' h.own hc (fun k hk => hf k (.inl hk)), h.lr, h.lk, fun i o ho => ?_, h.apart, h.top⟩
  obtain ⟨vw, h1, h2, h3⟩ := h.row i o ho
  exact ⟨vw, h1, h2, owns_chg' h3 hc (fun k hk => hf k (.inr ⟨i, vw, h1, hk⟩))⟩
theorem RM.flt {w : World} {vL : Value} {vws : List Value} {rows : List (List Value)} {H : List Ob} (h : RM w vL vws rows H) (k : Nat) (hk : RF vL vws k) : k < w.heap.size := by
  rcases hk with hk | ⟨i, v, hi, hk⟩
  · exact (h.own.lt k hk).2
  · have hil := (List.getElem?_eq_some_iff.1 hi).1
    obtain ⟨vk, h1, _, h2⟩ := h.row i (H[i]'(by rw [← h.lk]; exact hil)) (List.getElem?_eq_getElem _)
    rw [hi] at h1; cases h1
    exact (h2.lt k hk).2
/-- An object, read. -/
theorem RM.at_ {w : World} {vL : Value} {vws : List Value} {rows : List (List Value)} {H : List Ob} (h : RM w vL vws rows H) (hl : H.length ≤ 1073741824) {i : Nat} {o : Ob} (ho : H[i]? = some o) :
    ∃ g cap vw, vL = .slice (some ⟨g, 0, none⟩) H.length cap ∧ vws[i]? = some vw ∧ (∀ (j : Nat) (u : Value), (orow o vw)[j]? = some u → w.cell? ⟨g, i * 4 + j, none⟩ = some u) ∧ w.ownsRow 0 75 3 vw o.list.length (oflat o.list) := by
  obtain ⟨vw, h1, h2, h3⟩ := h.row i o ho
  obtain ⟨g, cap, hv, -, hc⟩ := own_row h.own h.rlen h2 (by decide) (by rw [h.lr]; omega)
  exact ⟨g, cap, vw, hv, h1, fun j u hj => by have := hc j u hj; simpa [add_at] using this, h3⟩
theorem RM.len {w : World} {vL : Value} {vws : List Value} {rows : List (List Value)} {H : List Ob} (h : RM w vL vws rows H) : ∃ A c, vL = .slice A H.length c := (owns_one h.own).2.2
/-- An object more. -/
theorem RM.push {w w' : World} {vL vL' vw : Value} {vws : List Value} {rows : List (List Value)} {H : List Ob} {o : Ob} (h : RM w vL vws rows H) (hc : Chg (fun k => vL.ownBlock = some k) w w')
    (hown : w'.ownsRow 0 120 4 vL' (H.length + 1) (rows.flatten ++ orow o vw)) (hblk : ∀ k, vL'.ownBlock = some k → vL.ownBlock = some k ∨ w.heap.size ≤ k)
    (hvw : w.ownsRow 0 75 3 vw o.list.length (oflat o.list)) (hnew : ∀ k, vw.ownBlock = some k → ¬ RF vL vws k) : RM w' vL' (vws ++ [vw]) (rows ++ [orow o vw]) (H ++ [o]) := by
  have get : ∀ (i : Nat) (v : Value), (vws ++ [vw])[i]? = some v → vws[i]? = some v ∨ (i = vws.length ∧ v = vw) := fun i v hi => by
    rcases Nat.lt_or_ge i vws.length with h1 | h1
    · rw [List.getElem?_append_left h1] at hi; exact .inl hi
    · rw [List.getElem?_append_right h1] at hi
      have h2 := (List.getElem?_eq_some_iff.1 hi).1
      simp at h2
      have h3 : i - vws.length = 0 := by omega
      rw [h3] at hi
      simp at hi; exact .inr ⟨by omega, hi.symm⟩
  have hvlt : ∀ k, vw.ownBlock = some k → k < w.heap.size := fun k hk => (hvw.lt k hk).2
  refine ⟨by simpa using hown, by simp [h.lr], by simp [h.lk], fun i e he => ?_, fun i j u v k hi hj hu hv => ?_, fun k hk i v hi hv => ?_⟩
  · rcases Nat.lt_or_ge i H.length with h1 | h1
    · rw [List.getElem?_append_left h1] at he
      obtain ⟨wk, g1, g2, g3⟩ := h.row i e he
      exact ⟨wk, by rw [List.getElem?_append_left (by rw [h.lk]; exact h1)]; exact g1, by rw [List.getElem?_append_left (by rw [h.lr]; exact h1)]; exact g2, owns_chg' g3 hc (fun k hk e => h.top k e i wk g1 hk)⟩
    · rw [List.getElem?_append_right h1] at he
      have h2 := (List.getElem?_eq_some_iff.1 he).1
      simp at h2
      have h3 : i = H.length := by omega
      subst h3
      simp at he; subst he
      exact ⟨vw, by rw [List.getElem?_append_right (by rw [h.lk]; exact Nat.le_refl _)]; simp [h.lk], by rw [List.getElem?_append_right (by rw [h.lr]; exact Nat.le_refl _)]; simp [h.lr], owns_chg' hvw hc (fun k hk e => hnew k hk (.inl e))⟩
  · rcases get i u hi with h1 | ⟨h1, rfl⟩
    · rcases get j v hj with h2 | ⟨h2, rfl⟩
      · exact h.apart i j u v k h1 h2 hu hv
      · exact (hnew k hv (.inr ⟨i, u, h1, hu⟩)).elim
    · rcases get j v hj with h2 | ⟨h2, rfl⟩
      · exact (hnew k hu (.inr ⟨j, v, h2, hv⟩)).elim
      · omega
  · rcases get i v hi with h1 | ⟨h1, rfl⟩
    · rcases hblk k hk with h2 | h2
      · exact h.top k h2 i v h1 hv
      · have := h.flt k (.inr ⟨i, v, h1, hv⟩); omega
    · rcases hblk k hk with h2 | h2
      · exact hnew k hv (.inl h2)
      · have := hvlt k hv; omega
/-- A word of an object is turned, in place. -/
theorem RM.setw {w w' : World} {vL vw : Value} {vws : List Value} {rows : List (List Value)} {H : List Ob} {i : Nat} {o o' : Ob} (h : RM w vL vws rows H) (ho : H[i]? = some o) (hv : vws[i]? = some vw) (hc : Chg (fun k => vw.ownBlock = some k) w w')
    (hrow : orow o' vw = orow o vw) (hown : w'.ownsRow 0 75 3 vw o'.list.length (oflat o'.list)) : RM w' vL vws rows (H.set i o') := by
  have hil := (List.getElem?_eq_some_iff.1 ho).1
  refine ⟨by rw [List.length_set]; exact owns_chg' h.own hc (fun k hk e => h.top k hk i vw hv e), by rw [List.length_set]; exact h.lr, by rw [List.length_set]; exact h.lk, fun j e he => ?_, h.apart, h.top⟩
  by_cases hji : j = i
  · subst hji
    rw [List.getElem?_set_self hil] at he
    cases he
    obtain ⟨wk, g1, g2, g3⟩ := h.row j o ho
    rw [hv] at g1; cases g1
    exact ⟨vw, hv, by rw [hrow]; exact g2, hown⟩
  · rw [List.getElem?_set_ne (fun e => hji e.symm)] at he
    obtain ⟨wk, g1, g2, g3⟩ := h.row j e he
    exact ⟨wk, g1, g2, owns_chg' g3 hc (fun k hk e => hji (h.apart j i wk vw k g1 hv hk e))⟩
/-- The reference's heap at 'rb'. -/
structure RHeapR (w : World) (rb : Nat) (vL : Value) (vws : List Value) (rows : List (List Value)) (H : List Ob) : Prop where
  head : Blk w rb [vL] 74
  rm : RM w vL vws rows H
  hn : ¬ RF vL vws rb
def RHeapW (w : World) (rb : Nat) (H : List Ob) (F : Nat → Prop) : Prop :=
  ∃ vL vws rows, RHeapR w rb vL vws rows H ∧ ∀ k, (k = rb ∨ RF vL vws k) → F k ∧ k < w.heap.size
def RGrown (w w' : World) (rb : Nat) (H2 : List Ob) (F : Nat → Prop) : Prop :=
  Chg F w w' ∧ ∃ F', RHeapW w' rb H2 F' ∧ ∀ k, F' k → F k ∨ (w.heap.size ≤ k ∧ k < w'.heap.size)
theorem RHeapW.chg {w w' : World} {T : Nat → Prop} {rb : Nat} {H : List Ob} {F : Nat → Prop} (h : RHeapW w rb H F) (hc : Chg T w w') (hf : ∀ k, F k → ¬ T k) : RHeapW w' rb H F := by
  obtain ⟨vL, vws, rows, h1, h2⟩ := h
  have hs := hc.size
  exact ⟨vL, vws, rows, ⟨h1.head.chg hc (hf _ (h2 _ (.inl rfl)).1), h1.rm.chg hc (fun k hk => hf k (h2 k (.inr hk)).1), h1.hn⟩, fun k hk => ⟨(h2 k hk).1, by have := (h2 k hk).2; omega⟩⟩
theorem RHeapW.ext {w w' : World} {rb : Nat} {H : List Ob} {F : Nat → Prop} (h : RHeapW w rb H F) (he : Ext w w') : RHeapW w' rb H F := h.chg (he.chg (fun _ => False)) (fun _ _ => id)
theorem RGrown.same {w w' : World} {rb : Nat} {H : List Ob} {F : Nat → Prop} (h : RHeapW w rb H F) (he : Ext w w') : RGrown w w' rb H F := ⟨he.chg F, F, h.ext he, fun k hk => .inl hk⟩
end Go.Proofs.Vg
namespace Go.Proofs.YtldeokfhipjbfaaGreatDoor
open Go Go.Proofs.Vg Go.RowKit
theorem Fx.zi2 : zinfo Tryz.prog 2 = some (some (.int .i64 0), 1, 8) := by kernel_rfl
theorem Fx.zi30 : zinfo Tryz.prog 30 = some (some (.slice none 0 0), 1, 24) := by kernel_rfl
theorem Fx.zi72 : zinfo Tryz.prog 72 = some (some (.slice none 0 0), 1, 24) := by kernel_rfl
theorem Fx.zi9 : zinfo Tryz.prog 9 = some (some (.string ByteArray.empty), 1, 16) := by kernel_rfl
end Go.Proofs.YtldeokfhipjbfaaGreatDoor
/- A region that draws in which two slices in cells grow by a row each: the invariant. -/
set_option linter.unusedVariables false
set_option linter.unusedSimpArgs false
set_option linter.defProp false
namespace Go.Proofs.Vg
open Go Go.RowKit
structure AP where
  w0 : World
  bz : Nat
  vh : Value
  vr : Value
  x : List Value
  y : List Value
  xs : List Value
  ys : List Value
  n : Nat
  t1 : TypeId
  t2 : TypeId
  tz : TypeId
  slots : List (Option Nat)
  vals : List (Option Value)
  E0 : Env
  p1 : Nat
  p2 : Nat
  p3 : Nat
  p4 : Nat
  p5 : Nat
  p6 : Nat
  s1 : Nat
  s2 : Nat
  s3 : Nat
  s4 : Nat
/-- The block stays or is new. -/
def Own2 (w0 : World) (v v' : Value) : Prop := v'.ownBlock = v.ownBlock ∨ ∃ k, v'.ownBlock = some k ∧ w0.heap.size ≤ k
structure JA (A : AP) (L : Nat → Bool) (K : Env) (w : World) : Prop where
  env : ∀ s v, A.E0.get s = some v → K.get s = some v
  simple : ∀ (i s : Nat) (v : Value), A.slots[i]? = some (some s) → A.vals[i]? = some (some v) → L i = true → K.get s = some v
  chg : Chg (fun k => A.vh.ownBlock = some k ∨ A.vr.ownBlock = some k ∨ k = A.bz) A.w0 w
  l1 : L A.p1 = true → L A.p2 = false → ∃ B, K.get A.s1 = some (.slice (some ⟨B, 0, none⟩) 1 1) ∧ A.w0.heap.size ≤ B ∧ Blk w B A.x A.t1
  l2 : L A.p3 = true → L A.p4 = false → ∃ B, K.get A.s3 = some (.slice (some ⟨B, 0, none⟩) 1 1) ∧ A.w0.heap.size ≤ B ∧ Blk w B A.y A.t2
  a1n : L A.p2 = false → w.ownsRow 0 A.t1 3 A.vh A.n A.xs
  a2n : L A.p4 = false → w.ownsRow 0 A.t2 3 A.vr A.n A.ys
  a1 : L A.p2 = true → ∃ v, K.get A.s2 = some v ∧ w.ownsRow 0 A.t1 3 v (A.n + 1) (A.xs ++ A.x) ∧ Own2 A.w0 A.vh v ∧ (L A.p5 = true → w.cell? ⟨A.bz, 0, none⟩ = some v)
  a2 : L A.p4 = true → ∃ v, K.get A.s4 = some v ∧ w.ownsRow 0 A.t2 3 v (A.n + 1) (A.ys ++ A.y) ∧ Own2 A.w0 A.vr v ∧ (L A.p6 = true → w.cell? ⟨A.bz, 1, none⟩ = some v)
  z : ∃ u1 u2, Blk w A.bz [u1, u2] A.tz ∧ (L A.p5 = false → u1 = A.vh) ∧ (L A.p6 = false → u2 = A.vr)
structure AOk (A : AP) : Prop where
  inj : ∀ (i j s : Nat), A.slots[i]? = some (some s) → A.slots[j]? = some (some s) → i = j
  clash : ∀ (i s : Nat), A.slots[i]? = some (some s) → A.E0.get s = none
  e1 : A.slots[A.p1]? = some (some A.s1)
  e2 : A.slots[A.p2]? = some (some A.s2)
  e3 : A.slots[A.p3]? = some (some A.s3)
  e4 : A.slots[A.p4]? = some (some A.s4)
  nv : ∀ v, A.vals[A.p1]? ≠ some (some v) ∧ A.vals[A.p2]? ≠ some (some v) ∧ A.vals[A.p3]? ≠ some (some v) ∧ A.vals[A.p4]? ≠ some (some v)
  ns5 : ∀ s, A.slots[A.p5]? ≠ some (some s)
  ns6 : ∀ s, A.slots[A.p6]? ≠ some (some s)
  ne : A.p1 ≠ A.p2 ∧ A.p1 ≠ A.p3 ∧ A.p1 ≠ A.p4 ∧ A.p2 ≠ A.p3 ∧ A.p2 ≠ A.p4 ∧ A.p3 ≠ A.p4
  n56 : A.p5 ≠ A.p6 ∧ A.p5 ≠ A.p1 ∧ A.p5 ≠ A.p2 ∧ A.p5 ≠ A.p3 ∧ A.p5 ≠ A.p4 ∧ A.p6 ≠ A.p1 ∧ A.p6 ≠ A.p2 ∧ A.p6 ≠ A.p3 ∧ A.p6 ≠ A.p4
  d1 : A.vh.ownBlock ≠ some A.bz
  d2 : A.vr.ownBlock ≠ some A.bz
  d3 : ∀ k, A.vh.ownBlock = some k → A.vr.ownBlock ≠ some k
  bl : A.bz < A.w0.heap.size
  hl : ∀ k, A.vh.ownBlock = some k → k < A.w0.heap.size
  rl : ∀ k, A.vr.ownBlock = some k → k < A.w0.heap.size
theorem get_ne {s s' : Nat} {v : Value} {K : Env} (h : s' ≠ s) : Env.get ((s, v) :: K) s' = K.get s' := by simp [Env.get, h]
theorem get_self {s : Nat} {v : Value} {K : Env} : Env.get ((s, v) :: K) s = some v := by simp [Env.get]
theorem up_ne {L : Nat → Bool} {i k : Nat} (h : k ≠ i) : up L i k = L k := by simp [up, h]
theorem up_self {L : Nat → Bool} {i : Nat} : up L i i = true := by simp [up]
theorem Own2.ne {w0 : World} {v v' : Value} (h : Own2 w0 v v') {b : Nat} (hb : b < w0.heap.size) (hn : v.ownBlock ≠ some b) : v'.ownBlock ≠ some b := by
  rcases h with h | ⟨k, h, hk⟩
  · rw [h]; exact hn
  · rw [h]; intro e; cases e; omega
section
variable {A : AP} {L : Nat → Bool} {K : Env} {w w' : World}
/-- An operation that leaves a known value. -/
theorem JA.simp1 (ok : AOk A) (h : JA A L K w) {j s : Nat} {v : Value} (hs : A.slots[j]? = some (some s)) (hv : A.vals[j]? = some (some v)) : JA A (up L j) ((s, v) :: K) w := by
  have n1 : j ≠ A.p1 := fun e => (ok.nv v).1 (e ▸ hv)
  have n2 : j ≠ A.p2 := fun e => (ok.nv v).2.1 (e ▸ hv)
  have n3 : j ≠ A.p3 := fun e => (ok.nv v).2.2.1 (e ▸ hv)
  have n4 : j ≠ A.p4 := fun e => (ok.nv v).2.2.2 (e ▸ hv)
  have n5 : j ≠ A.p5 := fun e => ok.ns5 s (e ▸ hs)
  have n6 : j ≠ A.p6 := fun e => ok.ns6 s (e ▸ hs)
  have q : ∀ {i t : Nat}, A.slots[i]? = some (some t) → i ≠ j → t ≠ s := fun {i t} hi hne e => hne (ok.inj _ _ _ hi (e ▸ hs))
  refine ⟨fun s' v' h' => ?_, fun i s' v' h1 h2 h3 => ?_, h.chg, ?_, ?_, ?_, ?_, ?_, ?_, ?_⟩
  · rw [get_ne (fun e => by subst e; have := ok.clash _ _ hs; rw [h'] at this; cases this)]
    exact h.env _ _ h'
  · by_cases e : i = j
    · subst e
      rw [hs] at h1; cases h1
      rw [hv] at h2; cases h2
      exact get_self
    · rw [get_ne (q h1 e)]
      exact h.simple _ _ _ h1 h2 (by rwa [up_ne e] at h3)
  · rw [up_ne n1.symm, up_ne n2.symm, get_ne (q ok.e1 n1.symm)]; exact h.l1
  · rw [up_ne n3.symm, up_ne n4.symm, get_ne (q ok.e3 n3.symm)]; exact h.l2
  · rw [up_ne n2.symm]; exact h.a1n
  · rw [up_ne n4.symm]; exact h.a2n
  · rw [up_ne n2.symm, up_ne n5.symm, get_ne (q ok.e2 n2.symm)]; exact h.a1
  · rw [up_ne n4.symm, up_ne n6.symm, get_ne (q ok.e4 n4.symm)]; exact h.a2
  · rw [up_ne n5.symm, up_ne n6.symm]; exact h.z
/-- The world grows; nothing else comes. -/
theorem JA.ext (ok : AOk A) (h : JA A L K w) (he : Ext w w') : JA A L K w' := by
  refine ⟨h.env, h.simple, h.chg.trans (he.chg _), fun h1 h2 => ?_, fun h1 h2 => ?_, fun h1 => ?_, fun h1 => ?_, fun h1 => ?_, fun h1 => ?_, ?_⟩
  · obtain ⟨B, q1, q2, q3⟩ := h.l1 h1 h2; exact ⟨B, q1, q2, q3.ext he⟩
  · obtain ⟨B, q1, q2, q3⟩ := h.l2 h1 h2; exact ⟨B, q1, q2, q3.ext he⟩
  · exact owns_chg' (h.a1n h1) (he.chg (fun _ => False)) (fun _ _ => id)
  · exact owns_chg' (h.a2n h1) (he.chg (fun _ => False)) (fun _ _ => id)
  · obtain ⟨v, q1, q2, q3, q4⟩ := h.a1 h1; exact ⟨v, q1, owns_chg' q2 (he.chg (fun _ => False)) (fun _ _ => id), q3, fun hh => he.cell (q4 hh)⟩
  · obtain ⟨v, q1, q2, q3, q4⟩ := h.a2 h1; exact ⟨v, q1, owns_chg' q2 (he.chg (fun _ => False)) (fun _ _ => id), q3, fun hh => he.cell (q4 hh)⟩
  · obtain ⟨u1, u2, q1, q2, q3⟩ := h.z; exact ⟨u1, u2, q1.ext he, q2, q3⟩
theorem JA.lit1 (ok : AOk A) (h : JA A L K w) (hL : L A.p2 = false) {B : Nat} (hB : A.w0.heap.size ≤ B) (hb : Blk w B A.x A.t1) : JA A (up L A.p1) ((A.s1, .slice (some ⟨B, 0, none⟩) 1 1) :: K) w := by
  obtain ⟨m12, m13, m14, m23, m24, m34⟩ := ok.ne
  obtain ⟨m56, m51, m52, m53, m54, m61, m62, m63, m64⟩ := ok.n56
  have q : ∀ {i t : Nat}, A.slots[i]? = some (some t) → i ≠ A.p1 → t ≠ A.s1 := fun {i t} hi hne e => hne (ok.inj _ _ _ hi (e ▸ ok.e1))
  refine ⟨fun s' v' h' => ?_, fun i s' v' h1 h2 h3 => ?_, h.chg, ?_, ?_, ?_, ?_, ?_, ?_, ?_⟩
  · rw [get_ne (fun e => by subst e; have := ok.clash _ _ ok.e1; rw [h'] at this; cases this)]
    exact h.env _ _ h'
  · by_cases e : i = A.p1
    · subst e
      exact absurd h2 (ok.nv v').1
    · rw [get_ne (q h1 e)]
      exact h.simple _ _ _ h1 h2 (by rwa [up_ne e] at h3)
  · intro _ _
    exact ⟨B, get_self, hB, hb⟩
  · rw [up_ne (Ne.symm m13), up_ne (Ne.symm m14), get_ne (q ok.e3 (Ne.symm m13))]; exact h.l2
  · rw [up_ne (Ne.symm m12)]; exact h.a1n
  · rw [up_ne (Ne.symm m14)]; exact h.a2n
  · rw [up_ne (Ne.symm m12), up_ne m51, get_ne (q ok.e2 (Ne.symm m12))]; exact h.a1
  · rw [up_ne (Ne.symm m14), up_ne m61, get_ne (q ok.e4 (Ne.symm m14))]; exact h.a2
  · rw [up_ne m51, up_ne m61]; exact h.z
theorem JA.lit2 (ok : AOk A) (h : JA A L K w) (hL : L A.p4 = false) {B : Nat} (hB : A.w0.heap.size ≤ B) (hb : Blk w B A.y A.t2) : JA A (up L A.p3) ((A.s3, .slice (some ⟨B, 0, none⟩) 1 1) :: K) w := by
  obtain ⟨m12, m13, m14, m23, m24, m34⟩ := ok.ne
  obtain ⟨m56, m51, m52, m53, m54, m61, m62, m63, m64⟩ := ok.n56
  have q : ∀ {i t : Nat}, A.slots[i]? = some (some t) → i ≠ A.p3 → t ≠ A.s3 := fun {i t} hi hne e => hne (ok.inj _ _ _ hi (e ▸ ok.e3))
  refine ⟨fun s' v' h' => ?_, fun i s' v' h1 h2 h3 => ?_, h.chg, ?_, ?_, ?_, ?_, ?_, ?_, ?_⟩
  · rw [get_ne (fun e => by subst e; have := ok.clash _ _ ok.e3; rw [h'] at this; cases this)]
    exact h.env _ _ h'
  · by_cases e : i = A.p3
    · subst e
      exact absurd h2 (ok.nv v').2.2.1
    · rw [get_ne (q h1 e)]
      exact h.simple _ _ _ h1 h2 (by rwa [up_ne e] at h3)
  · rw [up_ne m13, up_ne m23, get_ne (q ok.e1 m13)]; exact h.l1
  · intro _ _
    exact ⟨B, get_self, hB, hb⟩
  · rw [up_ne m23]; exact h.a1n
  · rw [up_ne (Ne.symm m34)]; exact h.a2n
  · rw [up_ne m23, up_ne m53, get_ne (q ok.e2 m23)]; exact h.a1
  · rw [up_ne (Ne.symm m34), up_ne m63, get_ne (q ok.e4 (Ne.symm m34))]; exact h.a2
  · rw [up_ne m53, up_ne m63]; exact h.z
theorem JA.app1 (ok : AOk A) (h : JA A L K w) (hL2 : L A.p2 = false) (hL5 : L A.p5 = false) {v : Value} (hc : Chg (fun k => A.vh.ownBlock = some k) w w') (hown : w'.ownsRow 0 A.t1 3 v (A.n + 1) (A.xs ++ A.x)) (hv : v.ownBlock = A.vh.ownBlock ∨ v.ownBlock = some w.heap.size) : JA A (up L A.p2) ((A.s2, v) :: K) w' := by
  obtain ⟨m12, m13, m14, m23, m24, m34⟩ := ok.ne
  obtain ⟨m56, m51, m52, m53, m54, m61, m62, m63, m64⟩ := ok.n56
  have q : ∀ {i t : Nat}, A.slots[i]? = some (some t) → i ≠ A.p2 → t ≠ A.s2 := fun {i t} hi hne e => hne (ok.inj _ _ _ hi (e ▸ ok.e2))
  have hs := h.chg.size
  refine ⟨fun s' v' h' => ?_, fun i s' v' h1 h2 h3 => ?_, h.chg.trans (hc.mono fun k _ hk => .inl hk), ?_, ?_, ?_, ?_, ?_, ?_, ?_⟩
  · rw [get_ne (fun e => by subst e; have := ok.clash _ _ ok.e2; rw [h'] at this; cases this)]
    exact h.env _ _ h'
  · by_cases e : i = A.p2
    · subst e
      exact absurd h2 (ok.nv v').2.1
    · rw [get_ne (q h1 e)]
      exact h.simple _ _ _ h1 h2 (by rwa [up_ne e] at h3)
  · intro _ h2; rw [up_self] at h2; cases h2
  · rw [up_ne (Ne.symm m23), up_ne (Ne.symm m24), get_ne (q ok.e3 (Ne.symm m23))]
    intro h1 h2
    obtain ⟨B, q1, q2, q3⟩ := h.l2 h1 h2
    exact ⟨B, q1, q2, q3.chg hc (fun e => by have := ok.hl B e; omega)⟩
  · intro h2; rw [up_self] at h2; cases h2
  · rw [up_ne (Ne.symm m24)]
    intro h1
    exact owns_chg' (h.a2n h1) hc (fun k hk e => ok.d3 k e hk)
  · intro _
    refine ⟨v, get_self, hown, hv.imp id (fun e => ⟨_, e, hs⟩), fun h5 => ?_⟩
    rw [up_ne m52, hL5] at h5; cases h5
  · rw [up_ne (Ne.symm m24), up_ne m62, get_ne (q ok.e4 (Ne.symm m24))]
    intro h1
    obtain ⟨u, q1, q2, q3, q4⟩ := h.a2 h1
    exact ⟨u, q1, owns_chg' q2 hc (fun k hk e => q3.ne (ok.hl k e) (ok.d3 k e) hk), q3, fun h6 => hc.cell (q4 h6) (fun e => ok.d1 e)⟩
  · rw [up_ne m52, up_ne m62]
    obtain ⟨u1, u2, q1, q2, q3⟩ := h.z
    exact ⟨u1, u2, q1.chg hc (fun e => ok.d1 e), q2, q3⟩
theorem JA.app2 (ok : AOk A) (h : JA A L K w) (hL4 : L A.p4 = false) (hL6 : L A.p6 = false) {v : Value} (hc : Chg (fun k => A.vr.ownBlock = some k) w w') (hown : w'.ownsRow 0 A.t2 3 v (A.n + 1) (A.ys ++ A.y)) (hv : v.ownBlock = A.vr.ownBlock ∨ v.ownBlock = some w.heap.size) : JA A (up L A.p4) ((A.s4, v) :: K) w' := by
  obtain ⟨m12, m13, m14, m23, m24, m34⟩ := ok.ne
  obtain ⟨m56, m51, m52, m53, m54, m61, m62, m63, m64⟩ := ok.n56
  have q : ∀ {i t : Nat}, A.slots[i]? = some (some t) → i ≠ A.p4 → t ≠ A.s4 := fun {i t} hi hne e => hne (ok.inj _ _ _ hi (e ▸ ok.e4))
  have hs := h.chg.size
  refine ⟨fun s' v' h' => ?_, fun i s' v' h1 h2 h3 => ?_, h.chg.trans (hc.mono fun k _ hk => .inr (.inl hk)), ?_, ?_, ?_, ?_, ?_, ?_, ?_⟩
  · rw [get_ne (fun e => by subst e; have := ok.clash _ _ ok.e4; rw [h'] at this; cases this)]
    exact h.env _ _ h'
  · by_cases e : i = A.p4
    · subst e
      exact absurd h2 (ok.nv v').2.2.2
    · rw [get_ne (q h1 e)]
      exact h.simple _ _ _ h1 h2 (by rwa [up_ne e] at h3)
  · rw [up_ne m14, up_ne m24, get_ne (q ok.e1 m14)]
    intro h1 h2
    obtain ⟨B, q1, q2, q3⟩ := h.l1 h1 h2
    exact ⟨B, q1, q2, q3.chg hc (fun e => by have := ok.rl B e; omega)⟩
  · intro _ h2; rw [up_self] at h2; cases h2
  · rw [up_ne m24]
    intro h1
    exact owns_chg' (h.a1n h1) hc (fun k hk e => ok.d3 k hk e)
  · intro h2; rw [up_self] at h2; cases h2
  · rw [up_ne m24, up_ne m54, get_ne (q ok.e2 m24)]
    intro h1
    obtain ⟨u, q1, q2, q3, q4⟩ := h.a1 h1
    exact ⟨u, q1, owns_chg' q2 hc (fun k hk e => q3.ne (ok.rl k e) (fun e' => ok.d3 k e' e) hk), q3, fun h6 => hc.cell (q4 h6) (fun e => ok.d2 e)⟩
  · intro _
    refine ⟨v, get_self, hown, hv.imp id (fun e => ⟨_, e, hs⟩), fun h5 => ?_⟩
    rw [up_ne m64, hL6] at h5; cases h5
  · rw [up_ne m54, up_ne m64]
    obtain ⟨u1, u2, q1, q2, q3⟩ := h.z
    exact ⟨u1, u2, q1.chg hc (fun e => ok.d2 e), q2, q3⟩
theorem JA.st1 (ok : AOk A) (h : JA A L K w) (hL2 : L A.p2 = true) {v u1 u2 : Value} (hv : K.get A.s2 = some v) (hc : Chg (· = A.bz) w w') (hz : Blk w A.bz [u1, u2] A.tz) (hb : Blk w' A.bz [v, u2] A.tz) : JA A (up L A.p5) K w' := by
  obtain ⟨m12, m13, m14, m23, m24, m34⟩ := ok.ne
  obtain ⟨m56, m51, m52, m53, m54, m61, m62, m63, m64⟩ := ok.n56
  have hbl := ok.bl
  refine ⟨h.env, fun i s' v' h1 h2 h3 => h.simple i s' v' h1 h2 (by rwa [up_ne (show i ≠ A.p5 from fun e => ok.ns5 s' (e ▸ h1))] at h3), h.chg.trans (hc.mono fun k _ hk => .inr (.inr hk)), ?_, ?_, ?_, ?_, ?_, ?_, ?_⟩
  · rw [up_ne (Ne.symm m51), up_ne (Ne.symm m52)]
    intro h1 h2
    obtain ⟨B, q1, q2, q3⟩ := h.l1 h1 h2
    exact ⟨B, q1, q2, q3.chg hc (by omega)⟩
  · rw [up_ne (Ne.symm m53), up_ne (Ne.symm m54)]
    intro h1 h2
    obtain ⟨B, q1, q2, q3⟩ := h.l2 h1 h2
    exact ⟨B, q1, q2, q3.chg hc (by omega)⟩
  · rw [up_ne (Ne.symm m52)]; exact fun h1 => owns_chg' (h.a1n h1) hc (fun k hk e => ok.d1 (e ▸ hk))
  · rw [up_ne (Ne.symm m54)]; exact fun h1 => owns_chg' (h.a2n h1) hc (fun k hk e => ok.d2 (e ▸ hk))
  · rw [up_ne (Ne.symm m52)]
    intro h1
    obtain ⟨u, q1, q2, q3, q4⟩ := h.a1 h1
    rw [hv] at q1; cases q1
    exact ⟨v, hv, owns_chg' q2 hc (fun k hk e => q3.ne hbl ok.d1 (e ▸ hk)), q3, fun _ => hb.cell rfl⟩
  · rw [up_ne (Ne.symm m54), up_ne (Ne.symm m56)]
    intro h1
    obtain ⟨u, q1, q2, q3, q4⟩ := h.a2 h1
    refine ⟨u, q1, owns_chg' q2 hc (fun k hk e => q3.ne hbl ok.d2 (e ▸ hk)), q3, fun h6 => ?_⟩
    have h7 := q4 h6
    have h8 := hz.cell (j := 1) rfl
    rw [h7] at h8; cases h8
    exact hb.cell rfl
  · refine ⟨v, u2, hb, fun h5 => ?_, ?_⟩
    · rw [up_self] at h5; cases h5
    · rw [up_ne (Ne.symm m56)]
      intro h6
      obtain ⟨a1, a2, q1, q2, q3⟩ := h.z
      have h8 := hz.cell (j := 1) rfl
      rw [q1.cell (j := 1) rfl] at h8; cases h8
      exact q3 h6
theorem JA.st2 (ok : AOk A) (h : JA A L K w) (hL4 : L A.p4 = true) {v u1 u2 : Value} (hv : K.get A.s4 = some v) (hc : Chg (· = A.bz) w w') (hz : Blk w A.bz [u1, u2] A.tz) (hb : Blk w' A.bz [u1, v] A.tz) : JA A (up L A.p6) K w' := by
  obtain ⟨m12, m13, m14, m23, m24, m34⟩ := ok.ne
  obtain ⟨m56, m51, m52, m53, m54, m61, m62, m63, m64⟩ := ok.n56
  have hbl := ok.bl
  refine ⟨h.env, fun i s' v' h1 h2 h3 => h.simple i s' v' h1 h2 (by rwa [up_ne (show i ≠ A.p6 from fun e => ok.ns6 s' (e ▸ h1))] at h3), h.chg.trans (hc.mono fun k _ hk => .inr (.inr hk)), ?_, ?_, ?_, ?_, ?_, ?_, ?_⟩
  · rw [up_ne (Ne.symm m61), up_ne (Ne.symm m62)]
    intro h1 h2
    obtain ⟨B, q1, q2, q3⟩ := h.l1 h1 h2
    exact ⟨B, q1, q2, q3.chg hc (by omega)⟩
  · rw [up_ne (Ne.symm m63), up_ne (Ne.symm m64)]
    intro h1 h2
    obtain ⟨B, q1, q2, q3⟩ := h.l2 h1 h2
    exact ⟨B, q1, q2, q3.chg hc (by omega)⟩
  · rw [up_ne (Ne.symm m62)]; exact fun h1 => owns_chg' (h.a1n h1) hc (fun k hk e => ok.d1 (e ▸ hk))
  · rw [up_ne (Ne.symm m64)]; exact fun h1 => owns_chg' (h.a2n h1) hc (fun k hk e => ok.d2 (e ▸ hk))
  · rw [up_ne (Ne.symm m62), up_ne m56]
    intro h1
    obtain ⟨u, q1, q2, q3, q4⟩ := h.a1 h1
    refine ⟨u, q1, owns_chg' q2 hc (fun k hk e => q3.ne hbl ok.d1 (e ▸ hk)), q3, fun h6 => ?_⟩
    have h7 := q4 h6
    have h8 := hz.cell (j := 0) rfl
    rw [h7] at h8; cases h8
    exact hb.cell rfl
  · rw [up_ne (Ne.symm m64)]
    intro h1
    obtain ⟨u, q1, q2, q3, q4⟩ := h.a2 h1
    rw [hv] at q1; cases q1
    exact ⟨v, hv, owns_chg' q2 hc (fun k hk e => q3.ne hbl ok.d2 (e ▸ hk)), q3, fun _ => hb.cell rfl⟩
  · refine ⟨u1, v, hb, ?_, fun h6 => ?_⟩
    · rw [up_ne m56]
      intro h5
      obtain ⟨a1, a2, q1, q2, q3⟩ := h.z
      have h8 := hz.cell (j := 0) rfl
      rw [q1.cell (j := 0) rfl] at h8; cases h8
      exact q2 h5
    · rw [up_self] at h6; cases h6
theorem JA.fin (h : JA A L K w) (h2 : L A.p2 = true) (h4 : L A.p4 = true) (h5 : L A.p5 = true) (h6 : L A.p6 = true) : ∃ v v', Blk w A.bz [v, v'] A.tz ∧ w.ownsRow 0 A.t1 3 v (A.n + 1) (A.xs ++ A.x) ∧ w.ownsRow 0 A.t2 3 v' (A.n + 1) (A.ys ++ A.y) ∧ Own2 A.w0 A.vh v ∧ Own2 A.w0 A.vr v' := by
  obtain ⟨u1, u2, q1, -, -⟩ := h.z
  obtain ⟨v, -, a2, a3, a4⟩ := h.a1 h2
  obtain ⟨v', -, b2, b3, b4⟩ := h.a2 h4
  have e1 := q1.cell (j := 0) rfl
  have e2 := q1.cell (j := 1) rfl
  rw [a4 h5] at e1; cases e1
  rw [b4 h6] at e2; cases e2
  exact ⟨_, _, q1, a2, b2, a3, b3⟩
end
/-- What has come has come behind what it waits for. -/
def Cl (ops : List Oper) (L : Nat → Bool) : Prop := ∀ (j : Nat) (o : Oper), ops[j]? = some o → L j = true → ∀ k ∈ needs o, L k = true
theorem Cl.up {ops : List Oper} {L : Nat → Bool} {i : Nat} {o : Oper} (h : Cl ops L) (ho : ops[i]? = some o) (hn : ∀ k ∈ needs o, L k = true) : Cl ops (Vg.up L i) := by
  intro j o' ho' hj k hk
  simp only [Vg.up, Bool.or_eq_true, decide_eq_true_eq] at hj ⊢
  rcases hj with rfl | hj
  · rw [ho] at ho'; cases ho'
    exact .inr (hn k hk)
  · exact .inr (h j o' ho' hj k hk)
theorem Cl.no {ops : List Oper} {L : Nat → Bool} {j k : Nat} {o : Oper} (h : Cl ops L) (ho : ops[j]? = some o) (hk : k ∈ needs o) (hL : L k = false) : L j = false := by
  cases hj : L j with
  | false => rfl
  | true => rw [h j o ho hj k hk] at hL; cases hL
section
variable {P : Program} {ρ : Option Nat} {N : Nat} {ops : List Oper} {K : Env} {ds : List Deferred} {w : World} {Φ : Post}
theorem ok_anyC (J : (Nat → Bool) → Env → World → Prop) {id : Nat} (hm : P.follows .mixedOrders = true) (hd : dstsOk N ops = true) (hn : needsOk ops = true) (K0 : Env) (hs0 : sub K0 K)
    (h0 : J (fun _ => false) K0 { w with drawn := w.drawn + 1 })
    (hstep : ∀ (L : Nat → Bool) (K : Env) (w : World) (i : Nat) (o : Oper), J L K w → Cl ops L → ops[i]? = some o → L i = false → (∀ k ∈ needs o, L k = true) → wpL P ops (fun ch K w => Φ (.panic ch) K ds w) (fun K' w' => J (up L i) K' w') [o] K w)
    (hend : ∀ K w, J (fun k => decide (k < ops.length)) K w → Φ .normal K ds w) : ok P ρ N (.region id ops.toArray true) K ds w Φ := by
  refine ok_any (fun L K w => J L K w ∧ Cl ops L) hm hd hn K0 hs0 ⟨h0, fun j o _ hj => by cases hj⟩ (fun L K w i o hJ ho hL hno => ?_) (fun K w hJ => hend K w hJ.1)
  have hcl := hJ.2.up ho hno
  have : (fun (K' : Env) (w' : World) => J (up L i) K' w' ∧ Cl ops (up L i)) = fun K' w' => J (up L i) K' w' := by
    funext K' w'
    simp [hcl]
  rw [this]
  exact hstep L K w i o hJ.1 hJ.2 ho hL hno
end
end Go.Proofs.Vg
/- The reference's heap: New, add, Text, made.  -/
set_option linter.unusedVariables false
set_option linter.unusedSimpArgs false
namespace Go.Proofs.YtldeokfhipjbfaaGreatDoor
open Go Go.Proofs.Vg Go.RowKit

-- -- function 8
set_option maxHeartbeats 2000000 in
set_option maxRecDepth 8000 in
theorem rnew_ok (w : World) : Rets Tryz.prog 8 [] w (fun v w' => ∃ rb, v = ptrOf rb ∧ RHeapW w' rb [] (fun k => k = rb) ∧ Ext w w' ∧ w.heap.size ≤ rb) := by
  refine rets_of_ok Tryz.func8 rfl rfl ?_
  refine ok_seq (fun M hM => ok_region rfl ?_); (try revert X); refine t8 ?_; intro X hX
  refine hM _ _ _ ?_; clear hM M
  refine ok_seq (fun M hM => ok_region rfl ?_)
  (try revert X); refine t8 ?_; intro X hX
  refine ⟨_, w, run_build (P := Tryz.prog) w 74 _ #[.slice none 0 0] (by kernel_rfl), ?_⟩
  (try revert X); refine t8 ?_; intro X hX
  refine Runs.box (fun w1 he1 hs1 hb1 => ?_)
  generalize hr : w.heap.size = rb at *
  simp only [Value.cells] at hb1
  (try revert X); refine t8 ?_; intro X hX
  refine hM _ _ _ ?_; clear hM M
  refine ok_ret ?_
  try simp only [zW, zU, reduceIte, Nat.reduceEqDiff, Nat.reduceAdd, reduceCtorEq, Q8]
  have hnil : ∀ k, ¬ RF (.slice none 0 0) [] k := fun k hf => by
    rcases hf with hf | ⟨i, v, hi, _⟩
    · simp [Value.ownBlock] at hf
    · simp at hi
  refine ⟨rb, rfl, ⟨.slice none 0 0, [], [], ⟨hb1, ⟨World.ownsRow_nil _ _ _ _, rfl, rfl, fun i o ho => by simp at ho, fun i j u v k hu => by simp at hu, fun k hk => by simp [Value.ownBlock] at hk⟩, hnil _⟩, fun k hk => ?_⟩, he1, by omega⟩
  rcases hk with rfl | hk
  · exact ⟨rfl, by omega⟩
  · exact (hnil k hk).elim

-- -- function 98
set_option maxHeartbeats 2000000 in
set_option maxRecDepth 8000 in
theorem radd_ok (w : World) (rb : Nat) (H : List Ob) (F : Nat → Prop) (hH : RHeapW w rb H F) (hF : ∀ k, F k → k < w.heap.size) (hl : H.length ≤ 1048576) (o : Ob) (vw : Value) (hvw : w.ownsRow 0 75 3 vw o.list.length (oflat o.list)) (hnew : ∀ k, vw.ownBlock = some k → ¬ F k) :
    Rets Tryz.prog 98 [ptrOf rb, .agg (orow o vw).toArray] w (fun v w' => v = .int .i64 ((H.length : Int) + 1) ∧ Chg F w w' ∧ ∃ F', RHeapW w' rb (H ++ [o]) F' ∧ ∀ k, F' k → F k ∨ vw.ownBlock = some k ∨ (w.heap.size ≤ k ∧ k < w'.heap.size)) := by
  obtain ⟨vL, vws, rows, ⟨hhd, hrm, hhn⟩, hfoot⟩ := hH
  obtain ⟨A, c, hvL⟩ := hrm.len
  obtain ⟨hwo, hwc, Aw, cw, rfl⟩ := owns_one hvw
  have hvlt : ∀ k, (Value.slice Aw o.list.length cw).ownBlock = some k → k < w.heap.size := fun k hk => (hvw.lt k hk).2
  refine rets_of_ok Tryz.func98 rfl rfl ?_
  refine ok_seq (fun M hM => ok_region rfl ?_)
  (try revert X); refine t98 ?_; intro X hX
  refine Runs.box (fun w1 he1 hs1 hb1 => ?_)
  generalize hB1 : w.heap.size = B1 at hs1 hb1
  simp only [Value.cells] at hb1
  (try revert X); refine t98 ?_; intro X hX
  refine hM _ _ _ ?_; clear hM M
  have hs1' := he1.size
  have hhd1 := hhd.ext he1
  have hrm1 := hrm.chg (he1.chg (fun _ => False)) (fun _ _ => id)
  refine ok_seq (fun M hM => ?_)
  refine (ok_drawP [0, 1, 2, 3, 4, 5, 6, 7, 8, 9, 10] 6 [(true, false), (false, false), (false, true), (false, true), (false, true)] (Ext _) Fx.mixed (by decide) rfl (by decide +kernel) (by decide +kernel) (Ext.drew _) ?_); simp only [pickL, List.getElem?_cons_zero, List.getElem?_cons_succ, List.take_succ_cons, List.take_zero, List.drop_succ_cons, List.drop_zero]
  (try revert X); refine t98 ?_; intro X hX
  refine ⟨vL, fun w' hw' => (hhd1.ext hw').cell (j := 0) rfl, ?_⟩
  (try revert X); refine t98 ?_; intro X hX
  refine ⟨orow o (.slice Aw o.list.length cw), rfl, fun w' hw' => (hb1.ext hw').cells (o := 0) (fun j u hj => by simpa using hj), ?_⟩
  (try revert X); refine t98 ?_; intro X hX
  intro w2 he2
  (try revert X); refine t98 ?_; intro X hX
  refine Runs.lit (cs := [.bool (obText o), .bool (isArrO (some o)), .string (obStr o), .slice Aw o.list.length cw]) Fx.un72 Fx.zi120 (by decide) (by kernel_rfl) (by decide) (fun w3 he3 hs3 hb3 => ?_)
  refine ⟨he2.trans he3, ?_⟩
  have he13 := he2.trans he3
  have hs13 := he13.size
  have hrm3 := hrm1.chg (he13.chg (fun _ => False)) (fun _ _ => id)
  have hvw3 := owns_chg' hvw ((he1.trans he13).chg (fun _ => False)) (fun _ _ h => h)
  (try revert X); refine t98 ?_; intro X hX
  refine Runs.append1' Fx.un72 Fx.zi120 rfl (by decide) hrm3.own hb3 rfl (by intro u hu; simp at hu; rcases hu with rfl | rfl | rfl | rfl <;> rfl) (by simp [maxLen]; omega) (by omega) (by omega) (fun vL' w4 hown4 hg4 hblk4 => ?_)
  have hc4 : Chg (fun k => vL.ownBlock = some k) w3 w4 := grown_chg hg4
  have hs4 := hc4.size
  have hnb : ∀ k, vL'.ownBlock = some k → vL.ownBlock = some k ∨ w3.heap.size ≤ k := fun k hk => by
    rcases hblk4 with h' | h'
    · exact .inl (h' ▸ hk)
    · rw [h'] at hk; cases hk; exact .inr (Nat.le_refl _)
  have hrm4 := hrm3.push (o := o) (vw := .slice Aw o.list.length cw) hc4 hown4 hnb hvw3 (fun k hk hr => hnew k hk (hfoot k (.inr hr)).1)
  obtain ⟨hLo, hLc, -⟩ := owns_one hown4
  have hhd4 : Blk w4 rb [vL] 74 := (hhd1.ext he13).chg hc4 (fun e => hhn (.inl e))
  (try revert X); refine t98 ?_; intro X hX
  refine Runs.store hhd4 Fx.zi72 (by rw [hLc]; rfl) (by rw [hLc]; intro u hu; simp at hu; subst hu; exact hLo) (by simp) (fun w5 hc5 hs5 hb5 => ?_)
  rw [splice_all _ _ (by rw [hLc]; rfl), hLc] at hb5
  (try revert X); refine t98 ?_; intro X hX
  refine hM _ _ _ ?_; clear hM M
  have hFrb := hfoot rb (.inl rfl)
  have hnewF : ∀ k, RF vL' (vws ++ [.slice Aw o.list.length cw]) k → RF vL vws k ∨ (Value.slice Aw o.list.length cw).ownBlock = some k ∨ (w3.heap.size ≤ k ∧ k < w4.heap.size) := fun k hk => by
    rcases hk with hk | ⟨i, v, hi, hk⟩
    · rcases hnb k hk with h' | h'
      · exact .inl (.inl h')
      · exact .inr (.inr ⟨h', (hown4.lt k hk).2⟩)
    · rcases Nat.lt_or_ge i vws.length with h' | h'
      · rw [List.getElem?_append_left h'] at hi
        exact .inl (.inr ⟨i, v, hi, hk⟩)
      · rw [List.getElem?_append_right h'] at hi
        have h3 := List.mem_of_getElem? hi
        simp at h3; subst h3
        exact .inr (.inl hk)
  have hnrb : ¬ RF vL' (vws ++ [.slice Aw o.list.length cw]) rb := fun hf => by
    rcases hnewF rb hf with h' | h' | h'
    · exact hhn h'
    · exact hnew rb h' hFrb.1
    · omega
  have hrm5 := hrm4.chg hc5 (fun k hk e => hnrb (e ▸ hk))
  obtain ⟨A', c', hvL'⟩ : ∃ A c, vL' = .slice A (H.length + 1) c := by
    have := hrm5.len
    simpa using this
  have hs5' := hc5.size
  refine ok_seq (fun M hM => ok_region rfl ?_)
  (try revert X); refine t98 ?_; intro X hX
  refine ⟨_, hb5.cell (j := 0) rfl, ?_⟩
  rw [hvL']
  (try revert X); refine t98 ?_; intro X hX
  refine hM _ _ _ ?_; clear hM M
  refine ok_ret ?_
  try simp only [zW, zU, reduceIte, Nat.reduceEqDiff, Nat.reduceAdd, reduceCtorEq, Q98]
  refine ⟨by simp, ?_, fun k => k = rb ∨ RF vL' (vws ++ [.slice Aw o.list.length cw]) k, ⟨vL', _, _, ⟨hb5, hrm5, hnrb⟩, fun k hk => ⟨hk, ?_⟩⟩, fun k hk => ?_⟩
  · refine ((he1.trans he13).chg _).trans ((hc4.mono fun k _ h => (hfoot k (.inr (.inl h))).1).trans (hc5.mono fun k _ h => ?_))
    rw [h]; exact hFrb.1
  · rcases hk with rfl | hk
    · omega
    · exact hrm5.flt k hk
  · rcases hk with rfl | hk
    · exact .inl hFrb.1
    · rcases hnewF k hk with h' | h' | h'
      · exact .inl (hfoot k (.inr h')).1
      · exact .inr (.inl h')
      · exact .inr (.inr ⟨by omega, by omega⟩)
end Go.Proofs.YtldeokfhipjbfaaGreatDoor
/- The reference's heap: Text, many, made.  -/
set_option linter.unusedVariables false
set_option linter.unusedSimpArgs false
namespace Go.Proofs.YtldeokfhipjbfaaGreatDoor
open Go Go.Proofs.Vg Go.RowKit

-- -- function 96
set_option maxHeartbeats 2000000 in
set_option maxRecDepth 8000 in
theorem rtext_ok (w : World) (rb : Nat) (H : List Ob) (F : Nat → Prop) (hH : RHeapW w rb H F) (hF : ∀ k, F k → k < w.heap.size) (hl : H.length ≤ 1048576) (s : ByteArray) :
    Rets Tryz.prog 96 [ptrOf rb, .string s] w (fun v w' => v = wv ⟨3, 0, (H.length : Int) + 1⟩ ∧ RGrown w w' rb (H ++ [.text s]) F) := by
  refine rets_of_okC Tryz.func96 rfl rfl ?_
  refine ok_seq (fun M hM => ok_region rfl ?_)
  (try revert X); refine t96 ?_; intro X hX
  refine Runs.alloc Fx.zi75 (fun w1 he1 hs1 hb1 => ?_)
  simp only [Value.cells] at hb1
  generalize hB : w.heap.size = B at hs1 hb1
  (try revert X); refine t96 ?_; intro X hX
  refine hM _ _ _ ?_; clear hM M
  refine ok_join [(0, ptrOf rb), (1, .string s), (4, ptrOf B)] (fun w' => w' = w1) ?_ ?_
  · refine ok_seq (fun M hM => ok_region rfl ?_)
    (try revert X); refine t96 ?_; intro X hX
    refine Runs.ptrEq Fx.un27 ?_
    (try revert X); refine t96 ?_; intro X hX
    refine hM _ _ _ ?_; clear hM M
    refine ok_cond rfl (fun h => by cases h) (fun h => ok_skip ?_)
    try simp only [zW, zU, reduceIte, Nat.reduceEqDiff, Nat.reduceAdd, reduceCtorEq, Q96]
    simp [sub, Env.get]
  rintro w' rfl
  have hs1' := he1.size
  refine ok_seq (fun M hM => ok_region rfl ?_)
  (try revert X); refine t96 ?_; intro X hX
  refine ⟨_, w', run_build (P := Tryz.prog) w' 120 _ #[.bool true, .bool false, .string s, .slice none 0 0] (by kernel_rfl), ?_⟩
  (try revert X); refine t96 ?_; intro X hX
  refine Inv.call Fx.en98 (radd_ok w' rb H F (hH.ext he1) (fun k hk => by have := hF k hk; omega) hl (.text s) (.slice none 0 0) (World.ownsRow_nil _ _ _ _) (fun k hk => by simp [Value.ownBlock] at hk)) ?_
  rintro v w3 ⟨rfl, hc3, F', hH3, hF'⟩
  (try revert X); refine t96 ?_; intro X hX
  refine ⟨_, w3, run_build (P := Tryz.prog) w3 75 _ #[.int .i64 3, .int .i64 0, .int .i64 ((H.length : Int) + 1)] (by kernel_rfl), ?_⟩
  (try revert X); refine t96 ?_; intro X hX
  have hBF : ¬ F B := fun h => by have := hF B h; omega
  have hb13 : Blk w3 B [.int .i64 0, .int .i64 0, .int .i64 0] 75 := hb1.chg hc3 hBF
  refine Runs.store hb13 Fx.zi75 rfl (by intro u hu; simp [Value.cells] at hu; rcases hu with rfl | rfl | rfl <;> rfl) (by simp) (fun w4 hc4 hs4 hb4 => ?_)
  rw [splice_all _ _ (by simp [Value.cells])] at hb4
  simp only [Value.cells] at hb4
  (try revert X); refine t96 ?_; intro X hX
  refine hM _ _ _ ?_; clear hM M
  refine ok_ret ?_
  try simp only [zW, zU, reduceIte, Nat.reduceEqDiff, Nat.reduceAdd, reduceCtorEq, Q96]
  refine ⟨_, rfl, hb4.cells (o := 0) (row := [.int .i64 3, .int .i64 0, .int .i64 ((H.length : Int) + 1)]) (fun j u hj => by simpa using hj), rfl, ?_⟩
  have hs23 := hc3.size
  have hnil : ∀ k, (Value.slice none 0 0).ownBlock = some k → False := fun k hk => by simp [Value.ownBlock] at hk
  have hnB : ¬ F' B := fun h => by rcases hF' B h with h | h | h <;> first | exact hBF h | exact hnil _ h | omega
  refine ⟨((he1.chg F).trans hc3).thn hc4 (fun k hk => by omega), F', hH3.chg hc4 (fun k hk e => hnB (e ▸ hk)), fun k hk => ?_⟩
  rcases hF' k hk with h | h | h
  · exact .inl h
  · exact (hnil _ h).elim
  · exact .inr (by omega)

-- -- function 68
set_option maxHeartbeats 2000000 in
set_option maxRecDepth 8000 in
theorem many_ok (w : World) (k : Int) : Rets Tryz.prog 68 [.int .i64 k] w (fun v w' => v = .bool (decide (k = 4 ∨ k = 5 ∨ k = 6 ∨ k = 7)) ∧ w' = w) := by
  refine rets_of_ok Tryz.func68 rfl rfl ?_
  refine ok_seq (fun M hM => ok_region rfl ?_); (try revert X); refine t68 ?_; intro X hX
  refine hM _ _ _ ?_; clear hM M
  refine ok_seq (fun M hM => ok_region rfl ?_)
  (try revert X); refine t68 ?_; intro X hX
  by_cases h4 : k = 4
  · simp only [h4, decide_true]
    (try revert X); refine t68 ?_; intro X hX
    refine ⟨fun h => (by cases h), fun _ => ?_⟩
    (try revert X); refine t68 ?_; intro X hX
    refine hM _ _ _ ?_; clear hM M
    refine ok_ret ?_
    try simp only [zW, zU, reduceIte, Nat.reduceEqDiff, Nat.reduceAdd, reduceCtorEq, Q68]
    simp [h4]
  simp only [h4, decide_false]
  (try revert X); refine t68 ?_; intro X hX
  refine ⟨fun _ => ?_, fun h => (by cases h)⟩
  (try revert X); refine t68 ?_; intro X hX
  by_cases h5 : k = 5
  · simp only [h5, decide_true]
    (try revert X); refine t68 ?_; intro X hX
    refine ⟨fun h => (by cases h), fun _ => ?_⟩
    (try revert X); refine t68 ?_; intro X hX
    refine hM _ _ _ ?_; clear hM M
    refine ok_ret ?_
    try simp only [zW, zU, reduceIte, Nat.reduceEqDiff, Nat.reduceAdd, reduceCtorEq, Q68]
    simp [h5]
  simp only [h5, decide_false]
  (try revert X); refine t68 ?_; intro X hX
  refine ⟨fun _ => ?_, fun h => (by cases h)⟩
  (try revert X); refine t68 ?_; intro X hX
  by_cases h6 : k = 6
  · simp only [h6, decide_true]
    (try revert X); refine t68 ?_; intro X hX
    refine ⟨fun h => (by cases h), fun _ => ?_⟩
    (try revert X); refine t68 ?_; intro X hX
    refine hM _ _ _ ?_; clear hM M
    refine ok_ret ?_
    try simp only [zW, zU, reduceIte, Nat.reduceEqDiff, Nat.reduceAdd, reduceCtorEq, Q68]
    simp [h6]
  simp only [h6, decide_false]
  (try revert X); refine t68 ?_; intro X hX
  refine ⟨fun _ => ?_, fun h => (by cases h)⟩
  (try revert X); refine t68 ?_; intro X hX
  refine hM _ _ _ ?_; clear hM M
  refine ok_ret ?_
  try simp only [zW, zU, reduceIte, Nat.reduceEqDiff, Nat.reduceAdd, reduceCtorEq, Q68]
  simp [h4, h5, h6]

-- -- function 70
set_option maxHeartbeats 2000000 in
set_option maxRecDepth 8000 in
theorem rmade_ok (w : World) (rb : Nat) (H : List Ob) (F : Nat → Prop) (hH : RHeapW w rb H F) (hF : ∀ k, F k → k < w.heap.size) (hl : H.length ≤ 1048576) (k n : Int) (av : Value) (l : List Wd) (hav : SlW w av l) (hll : l.length ≤ 1073741824) :
    Rets Tryz.prog 70 [ptrOf rb, .int .i64 k, .int .i64 n, av] w (fun v w' => v = wv (mkW H k n l).2 ∧ RGrown w w' rb (mkW H k n l).1 F) := by
  obtain ⟨A, c, rfl, hlen, hcell⟩ := id hav
  rw [wd_len] at hav ⊢
  refine rets_of_okC Tryz.func70 rfl rfl ?_
  refine ok_seq (fun M hM => ok_region rfl ?_)
  (try revert X); refine t70 ?_; intro X hX
  refine Runs.alloc Fx.zi75 (fun w1 he1 hs1 hb1 => ?_)
  simp only [Value.cells] at hb1
  generalize hB : w.heap.size = B at hs1 hb1
  (try revert X); refine t70 ?_; intro X hX
  refine hM _ _ _ ?_; clear hM M
  refine ok_seq (fun M hM => ok_region rfl ?_)
  (try revert X); refine t70 ?_; intro X hX
  refine ⟨_, w1, run_build (P := Tryz.prog) w1 75 _ #[.int .i64 k, .int .i64 n, .int .i64 0] (by kernel_rfl), ?_⟩
  (try revert X); refine t70 ?_; intro X hX
  refine Runs.alloc Fx.zi75 (fun w2 he2 hs2 hb2 => ?_)
  simp only [Value.cells] at hb2
  generalize hC : w1.heap.size = C at hs2 hb2
  (try revert X); refine t70 ?_; intro X hX
  refine Runs.store hb2 Fx.zi75 rfl (by intro u hu; simp [Value.cells] at hu; rcases hu with rfl | rfl | rfl <;> rfl) (by simp) (fun w3 hc3 hs3 hb3 => ?_)
  rw [splice_all _ _ (by simp [Value.cells])] at hb3
  simp only [Value.cells] at hb3
  have he3 : Ext w w3 := (he1.trans he2).chg_trans hc3 (fun i hi => by omega)
  have hb13 : Blk w3 B [.int .i64 0, .int .i64 0, .int .i64 0] 75 := (hb1.ext he2).chg hc3 (by omega)
  (try revert X); refine t70 ?_; intro X hX
  refine hM _ _ _ ?_; clear hM M
  refine ok_join [(8, ptrOf B), (9, ptrOf C)] (fun w' => Chg F w w' ∧ ∃ F', RHeapW w' rb (mkW H k n l).1 F' ∧ (∀ k, F' k → F k ∨ (w.heap.size ≤ k ∧ k < w'.heap.size ∧ k ≠ B ∧ k ≠ C)) ∧ Blk w' B [.int .i64 0, .int .i64 0, .int .i64 0] 75 ∧ Blk w' C (mkW H k n l).2.row 75) ?_ ?_
  rotate_left
  · rintro w4 ⟨hc4, F', hH4, hF4, hbB, hbC⟩
    refine ok_seq (fun M hM => ok_region rfl ?_)
    (try revert X); refine t70 ?_; intro X hX
    refine ⟨(mkW H k n l).2.row, rfl, hbC.cells (o := 0) (fun j u hj => by simpa using hj), ?_⟩
    (try revert X); refine t70 ?_; intro X hX
    refine Runs.store hbB Fx.zi75 rfl (by intro u hu; simp [Value.cells, Wd.row] at hu; rcases hu with rfl | rfl | rfl <;> rfl) (by simp) (fun w5 hc5 hs5 hb5 => ?_)
    rw [splice_all _ _ (by simp [Value.cells])] at hb5
    simp only [Value.cells] at hb5
    (try revert X); refine t70 ?_; intro X hX
    refine hM _ _ _ ?_; clear hM M
    refine ok_ret ?_
    try simp only [zW, zU, reduceIte, Nat.reduceEqDiff, Nat.reduceAdd, reduceCtorEq, Q70]
    refine ⟨_, rfl, hb5.cells (o := 0) (row := (mkW H k n l).2.row) (fun j u hj => by simpa using hj), rfl, ?_⟩
    have hs4 := hc4.size
    have hnB : ¬ F' B := fun h => by
      rcases hF4 B h with h | h
      · have := hF B h; omega
      · omega
    refine ⟨hc4.thn hc5 (fun k hk => by omega), F', hH4.chg hc5 (fun k hk e => hnB (e ▸ hk)), fun k hk => ?_⟩
    rcases hF4 k hk with h | h
    · exact .inl h
    · exact .inr (by omega)
  refine ok_join [(0, ptrOf rb), (1, .int .i64 k), (3, .slice A l.length c), (8, ptrOf B), (9, ptrOf C), (19, .bool (decide (0 < l.length ∨ k = 7)))] (fun w' => w' = w3) ?_ ?_
  · refine ok_region rfl ?_
    (try revert X); refine t70 ?_; intro X hX
    refine ⟨fun h => ?_, fun h => ?_⟩
    · have h1 : ¬ (0 < l.length) := by simpa using h
      have h2 : ¬ ((0 : Int) < (l.length : Int)) := by omega
      simp only [h2, decide_false]
      (try revert X); refine t70 ?_; intro X hX
      simp [sub, Env.get, h1]
    · have h1 : 0 < l.length := by
        have : (0 : Int) < (l.length : Int) := by simpa using h
        omega
      (try revert X); refine t70 ?_; intro X hX
      simp [sub, Env.get, h1]
  rintro w' rfl
  refine ok_if rfl (fun hc => ?_) (fun hc => ok_skip ?_)
  rotate_left
  · try simp only [zW, zU, reduceIte, Nat.reduceEqDiff, Nat.reduceAdd, reduceCtorEq, Q70]
    have hmk : mkW H k n l = (H, ⟨k, n, 0⟩) := by unfold mkW; rw [if_neg hc]
    rw [hmk]
    refine ⟨by simp [sub, Env.get], he3.chg F, F, hH.ext he3, fun k hk => .inl hk, hb13, by simpa [Wd.row] using hb3⟩
  have hmk : mkW H k n l = (H ++ [.words (if k = 7 then 7 else 4) l], ⟨k, n, (H.length : Int) + 1⟩) := by unfold mkW; rw [if_pos hc]
  rw [hmk]
  have hs3' := he3.size
  refine ok_region rfl ?_
  (try revert X); refine t70 ?_; intro X hX
  refine Runs.lit00 Fx.un30 Fx.zi75 (fun w4 he4 hs4 hb4 => ?_)
  have hs4' := he4.size
  (try revert X); refine t70 ?_; intro X hX
  refine Runs.appendR (rows := l.map Wd.row) Fx.un30 Fx.zi75 rfl (by decide) (owns_empty hb4) ((hav.ext he3).ext he4) (words_rows l) (by simp [maxLen]; omega) (by simp; omega) (by omega) (fun vw w5 hown5 hg5 hblk5 => ?_)
  have hc5 : Chg (fun k => k = w'.heap.size) w4 w5 := (grown_chg hg5).mono (fun k _ hk => by simp [Value.ownBlock] at hk; exact hk.symm)
  have he35 : Ext w' w5 := he4.chg_trans hc5 (fun k hk => by omega)
  have he5 := he3.trans he35
  have hs5 := he35.size
  have hown5' : w5.ownsRow 0 75 3 vw l.length (oflat l) := by simpa [oflat] using hown5
  obtain ⟨hwo, hwc, Aw, cw, rfl⟩ := owns_one hown5'
  have hvnew : ∀ k, (Value.slice Aw l.length cw).ownBlock = some k → w'.heap.size ≤ k ∧ k < w5.heap.size := fun k hk => by
    refine ⟨?_, (hown5'.lt k hk).2⟩
    rcases hblk5 with h' | h'
    · rw [h'] at hk; simp [Value.ownBlock] at hk; omega
    · rw [h'] at hk; cases hk; omega
  (try revert X); refine t70 ?_; intro X hX
  refine ⟨_, w5, run_build (P := Tryz.prog) w5 120 _ #[.bool false, .bool (decide (k = 7)), .string ⟨#[]⟩, .slice Aw l.length cw] (by kernel_rfl), ?_⟩
  have horow : #[Value.bool false, .bool (decide (k = 7)), .string ⟨#[]⟩, .slice Aw l.length cw] = (orow (.words (if k = 7 then 7 else 4) l) (.slice Aw l.length cw)).toArray := by
    simp only [orow, obText, obStr, isArrO]
    by_cases h7 : k = 7 <;> simp [h7]
  rw [horow]
  (try revert X); refine t70 ?_; intro X hX
  refine Inv.call Fx.en98 (radd_ok w5 rb H F (hH.ext he5) (fun k hk => by have := hF k hk; omega) hl (.words (if k = 7 then 7 else 4) l) (.slice Aw l.length cw) hown5' (fun k hk hf => by have := hF k hf; have := hvnew k hk; omega)) ?_
  rintro v w6 ⟨rfl, hc6, F', hH6, hF'⟩
  have hs6 := hc6.size
  (try revert X); refine t70 ?_; intro X hX
  have hBF : ¬ F B := fun h => by have := hF B h; omega
  have hCF : ¬ F C := fun h => by have := hF C h; omega
  have hbC6 : Blk w6 C [.int .i64 k, .int .i64 n, .int .i64 0] 75 := (hb3.ext he35).chg hc6 hCF
  have hbB6 : Blk w6 B [.int .i64 0, .int .i64 0, .int .i64 0] 75 := (hb13.ext he35).chg hc6 hBF
  refine Runs.store hbC6 Fx.zi3 rfl (by intro u hu; simp [Value.cells] at hu; subst hu; rfl) (by simp) (fun w7 hc7 hs7 hb7 => ?_)
  (try revert X); refine t70 ?_; intro X hX
  have hnC : ¬ F' C := fun h => by rcases hF' C h with h | h | h <;> first | exact hCF h | (have := hvnew C h; omega) | omega
  have hnB : ¬ F' B := fun h => by rcases hF' B h with h | h | h <;> first | exact hBF h | (have := hvnew B h; omega) | omega
  refine ⟨by simp [sub, Env.get], ((he5.chg F).trans hc6).thn hc7 (fun k hk => by omega), F', hH6.chg hc7 (fun k hk e => hnC (e ▸ hk)), fun k hk => ?_, hbB6.chg hc7 (by omega), by simpa [splice, Value.cells, Wd.row] using hb7⟩
  have h1 : k ≠ C := fun e => hnC (e ▸ hk)
  have h2 : k ≠ B := fun e => hnB (e ▸ hk)
  rcases hF' k hk with h | h | h
  · exact .inl h
  · have := hvnew k h; exact .inr (by omega)
  · exact .inr (by omega)
end Go.Proofs.YtldeokfhipjbfaaGreatDoor
/- The reference's heap: Right, kept. -/
set_option linter.unusedVariables false
set_option linter.unusedSimpArgs false
namespace Go.Proofs.Vg
open Go Go.RowKit
theorem runPtrEq {P : Program} {t e : TypeId} {x y : Operand} (ht : P.underlying t = some (.pointer e)) (a : Option Addr) (w : World) : (do eqGuard .eql t x y (.pointer a) (.pointer none); binOp .eql t (.pointer a) (.pointer none) : Sem Value).run P w = .ok (.bool (decide (a = none))) w := by
  simp [eqGuard, binOp, run_eq_ptr ht, Result.andThen]
end Go.Proofs.Vg
namespace Go.Proofs.YtldeokfhipjbfaaGreatDoor
open Go Go.Proofs.Vg Go.RowKit

-- -- function 38
set_option maxHeartbeats 4000000 in
set_option maxRecDepth 8000 in
theorem rright_ok (w : World) (rb : Nat) (H : List Ob) (F : Nat → Prop) (hH : RHeapW w rb H F) (hl : H.length ≤ 1073741824) (x : Wd) :
    Rets Tryz.prog 38 [ptrOf rb, wv x] w (fun v w' => v = .bool (rightW H x) ∧ Ext w w') := by
  obtain ⟨vL, vws, rows, ⟨hhd, hrm, hhn⟩, hfoot⟩ := hH
  obtain ⟨A, c, hvL⟩ := hrm.len
  refine rets_of_ok Tryz.func38 rfl rfl ?_
  refine ok_seq (fun M hM => ok_region rfl ?_)
  (try revert X); refine t38 ?_; intro X hX
  refine Runs.box (fun w1 he1 hs1 hb1 => ?_)
  generalize hB1 : w.heap.size = B1 at hs1 hb1
  simp only [Value.cells] at hb1
  (try revert X); refine t38 ?_; intro X hX
  refine hM _ _ _ ?_; clear hM M
  have c0 : ∀ w', Ext w1 w' → w'.cell? ⟨B1, 0, none⟩ = some (.int .i64 x.k) := fun w' hw => (hb1.ext hw).cell rfl
  have c1 : ∀ w', Ext w1 w' → w'.cell? ⟨B1, 1, none⟩ = some (.int .i64 x.n) := fun w' hw => (hb1.ext hw).cell rfl
  have c2 : ∀ w', Ext w1 w' → w'.cell? ⟨B1, 2, none⟩ = some (.int .i64 x.r) := fun w' hw => (hb1.ext hw).cell rfl
  have cL : ∀ w', Ext w1 w' → w'.cell? ⟨rb, 0, none⟩ = some (.slice A H.length c) := fun w' hw => by rw [← hvL]; exact ((hhd.ext he1).ext hw).cell (j := 0) rfl
  -- an object's marks
  have obj : ∀ (w0 : World), Ext w1 w0 → 1 ≤ x.r → x.r ≤ (H.length : Int) → ∃ (i : Nat) (o : Ob) (g : Nat), x.r = (i : Int) + 1 ∧ i < H.length ∧ objAt H x.r = some o ∧ A = some ⟨g, 0, none⟩ ∧
      (∀ w', Ext w0 w' → w'.cell? ⟨g, i * 4 + 0, none⟩ = some (.bool (obText o))) ∧ (∀ w', Ext w0 w' → w'.cell? ⟨g, i * 4 + 1, none⟩ = some (.bool (isArrO (some o)))) := by
    intro w0 he0 h1 h2
    obtain ⟨i, hi⟩ : ∃ i : Nat, x.r = (i : Int) + 1 := ⟨(x.r - 1).toNat, by omega⟩
    have hil : i < H.length := by omega
    have ho : H[i]? = some H[i] := List.getElem?_eq_getElem hil
    obtain ⟨g, cap, vw, hv, -, hcell, -⟩ := hrm.at_ hl ho
    rw [hvL] at hv
    cases hv
    refine ⟨i, H[i], g, hi, hil, ?_, rfl, fun w' hw => ((he1.trans he0).trans hw).cell (hcell 0 _ rfl), fun w' hw => ((he1.trans he0).trans hw).cell (hcell 1 _ rfl)⟩
    unfold objAt
    rw [if_pos h1, show (x.r - 1).toNat = i by omega]; exact ho
  have out : ¬ (1 ≤ x.r ∧ x.r ≤ (H.length : Int)) → objAt H x.r = none := fun h => by
    by_cases h1 : x.r < 1
    · exact objAt_lt h1
    · exact objAt_gt (by omega)
  have fals : (x.k < 0 ∨ 9 < x.k ∨ x.r < 0 ∨ (H.length : Int) < x.r) → rightW H x = false := fun h => by
    unfold rightW
    by_cases hr : x.r < 0 ∨ (H.length : Int) < x.r
    · have hn := out (by omega)
      have h0 : ¬ x.r = 0 := by omega
      rw [hn]
      simp [h0, isTextO, isDataO, isArrO]
    · have hk : x.k < 0 ∨ 9 < x.k := by omega
      rw [if_neg (by omega), if_neg (by omega), if_neg (by omega), if_neg (by omega), if_neg (by omega)]
  clear hb1
  refine ok_join [(0, ptrOf rb), (3, ptrOf B1)] (fun w' => Ext w1 w' ∧ 0 ≤ x.k ∧ x.k ≤ 9 ∧ 0 ≤ x.r ∧ x.r ≤ (H.length : Int)) ?_ ?_
  · refine ok_join [(0, ptrOf rb), (3, ptrOf B1), (31, .bool (decide (x.k < 0 ∨ 9 < x.k ∨ x.r < 0 ∨ (H.length : Int) < x.r)))] (fun w' => Ext w1 w') ?_ ?_
    · refine (ok_draw 27 [] (Ext _) Fx.mixed (by decide) rfl (by decide +kernel) (by decide +kernel) (Ext.drew _) ?_)
      (try revert X); refine t38 ?_; intro X hX
      refine ⟨_, fun w' _ => runPtrEq Fx.un27 _ w', ?_⟩
      (try revert X); refine t38 ?_; intro X hX
      refine ⟨_, c0, ?_⟩
      (try revert X); refine t38 ?_; intro X hX
      by_cases q1 : x.k < 0
      · simp only [q1, decide_true]
        (try revert X); refine t38 ?_; intro X hX
        refine ⟨fun h => (by cases h), fun _ => ?_⟩
        (try revert X); refine t38 ?_; intro X hX
        intro w2 he2
        (try revert X); refine t38 ?_; intro X hX
        exact ⟨by simp [sub, Env.get, q1], he2⟩
      simp only [q1, decide_false]
      (try revert X); refine t38 ?_; intro X hX
      refine ⟨fun _ => ?_, fun h => (by cases h)⟩
      (try revert X); refine t38 ?_; intro X hX
      refine ⟨_, c0, ?_⟩
      (try revert X); refine t38 ?_; intro X hX
      by_cases q2 : 9 < x.k
      · simp only [q2, decide_true]
        (try revert X); refine t38 ?_; intro X hX
        refine ⟨fun h => (by cases h), fun _ => ?_⟩
        (try revert X); refine t38 ?_; intro X hX
        intro w2 he2
        (try revert X); refine t38 ?_; intro X hX
        exact ⟨by simp [sub, Env.get, q2], he2⟩
      simp only [q2, decide_false]
      (try revert X); refine t38 ?_; intro X hX
      refine ⟨fun _ => ?_, fun h => (by cases h)⟩
      (try revert X); refine t38 ?_; intro X hX
      refine ⟨_, c2, ?_⟩
      (try revert X); refine t38 ?_; intro X hX
      by_cases q3 : x.r < 0
      · simp only [q3, decide_true]
        (try revert X); refine t38 ?_; intro X hX
        refine ⟨fun h => (by cases h), fun _ => ?_⟩
        (try revert X); refine t38 ?_; intro X hX
        intro w2 he2
        (try revert X); refine t38 ?_; intro X hX
        exact ⟨by simp [sub, Env.get, q3], he2⟩
      simp only [q3, decide_false]
      (try revert X); refine t38 ?_; intro X hX
      refine ⟨fun _ => ?_, fun h => (by cases h)⟩
      (try revert X); refine t38 ?_; intro X hX
      refine ⟨_, c2, ?_⟩
      (try revert X); refine t38 ?_; intro X hX
      refine ⟨_, cL, ?_⟩
      (try revert X); refine t38 ?_; intro X hX
      intro w2 he2
      (try revert X); refine t38 ?_; intro X hX
      exact ⟨by simp [sub, Env.get, q1, q2, q3], he2⟩
    intro w2 he2
    refine ok_if rfl (fun hc => ?_) (fun hc => ok_skip ?_)
    · refine ok_seq (fun M hM => ok_region rfl ?_); (try revert X); refine t38 ?_; intro X hX
      refine hM _ _ _ ?_; clear hM M
      refine ok_ret ?_
      try simp only [zW, zU, reduceIte, Nat.reduceEqDiff, Nat.reduceAdd, reduceCtorEq, Q38]
      exact ⟨by rw [fals hc], he1.trans he2⟩
    · try simp only [zW, zU, reduceIte, Nat.reduceEqDiff, Nat.reduceAdd, reduceCtorEq, Q38]
      exact ⟨by simp [sub, Env.get], he2, by omega, by omega, by omega, by omega⟩
  rintro w2 ⟨he2, k0, k9, r0, rl⟩
  have he02 := he1.trans he2
  have r3 : x.k = 3 → rightW H x = (decide (x.n = 0) && isTextO (objAt H x.r)) := fun h => by unfold rightW; simp [h]
  have r7 : x.k = 7 → rightW H x = (decide (x.n = 0) && isArrO (objAt H x.r)) := fun h => by unfold rightW; simp [h]
  have r4 : (x.k = 4 ∨ x.k = 5 ∨ x.k = 6) → rightW H x = (decide (x.r = 0) || isDataO (objAt H x.r)) := fun h => by unfold rightW; rcases h with h | h | h <;> simp [h]
  refine ok_seq (fun M0 hM0 => ?_)
  refine ok_seq (fun M hM => ok_region rfl ?_)
  (try revert X); refine t38 ?_; intro X hX
  refine ⟨_, c0 _ he2, ?_⟩
  (try revert X); refine t38 ?_; intro X hX
  refine hM _ _ _ ?_; clear hM M
  refine ok_block ?_
  refine ok_seq (fun M hM => ok_region rfl ?_); (try revert X); refine t38 ?_; intro X hX
  refine hM _ _ _ ?_; clear hM M
  refine ok_if rfl (fun h0 => ?_) (fun h0 => ?_)
  · refine ok_seq (fun M hM => ok_region rfl ?_)
    (try revert X); refine t38 ?_; intro X hX
    refine ⟨_, c1 _ he2, ?_⟩
    (try revert X); refine t38 ?_; intro X hX
    by_cases n0 : x.n = 0
    · simp only [n0, decide_true]
      (try revert X); refine t38 ?_; intro X hX
      refine ⟨fun _ => ?_, fun h => (by cases h)⟩
      (try revert X); refine t38 ?_; intro X hX
      refine ⟨_, c2 _ he2, ?_⟩
      (try revert X); refine t38 ?_; intro X hX
      refine hM _ _ _ ?_; clear hM M
      refine ok_ret ?_
      try simp only [zW, zU, reduceIte, Nat.reduceEqDiff, Nat.reduceAdd, reduceCtorEq, Q38]
      exact ⟨by unfold rightW; simp [h0, n0], he02⟩
    · simp only [n0, decide_false]
      (try revert X); refine t38 ?_; intro X hX
      refine ⟨fun h => (by cases h), fun _ => ?_⟩
      (try revert X); refine t38 ?_; intro X hX
      refine hM _ _ _ ?_; clear hM M
      refine ok_ret ?_
      try simp only [zW, zU, reduceIte, Nat.reduceEqDiff, Nat.reduceAdd, reduceCtorEq, Q38]
      exact ⟨by unfold rightW; simp [h0, n0], he02⟩
  refine ok_seq (fun M hM => ok_region rfl ?_); (try revert X); refine t38 ?_; intro X hX
  refine hM _ _ _ ?_; clear hM M
  refine ok_if rfl (fun h3 => ?_) (fun h3 => ?_)
  · skip
    refine ok_seq (fun M hM => ?_)
    refine (ok_draw 21 [] (Ext _) Fx.mixed (by decide) rfl (by decide +kernel) (by decide +kernel) (Ext.drew _) ?_)
    (try revert X); refine t38 ?_; intro X hX
    refine ⟨_, fun w' hw => c1 w' (he2.trans hw), ?_⟩
    (try revert X); refine t38 ?_; intro X hX
    by_cases n0 : x.n = 0
    rotate_left
    · simp only [n0, decide_false]
      (try revert X); refine t38 ?_; intro X hX
      refine ⟨fun h => (by cases h), fun _ => ?_⟩
      (try revert X); refine t38 ?_; intro X hX
      intro w3 he3
      (try revert X); refine t38 ?_; intro X hX
      refine hM _ _ _ ?_; clear hM M
      refine ok_ret ?_
      try simp only [zW, zU, reduceIte, Nat.reduceEqDiff, Nat.reduceAdd, reduceCtorEq, Q38]
      exact ⟨by rw [r3 h3]; simp [n0], he02.trans he3⟩
    simp only [n0, decide_true]
    (try revert X); refine t38 ?_; intro X hX
    refine ⟨fun _ => ?_, fun h => (by cases h)⟩
    (try revert X); refine t38 ?_; intro X hX
    refine ⟨_, fun w' hw => c2 w' (he2.trans hw), ?_⟩
    (try revert X); refine t38 ?_; intro X hX
    by_cases rp : 0 < x.r
    rotate_left
    · simp only [rp, decide_false]
      (try revert X); refine t38 ?_; intro X hX
      refine ⟨fun h => (by cases h), fun _ => ?_⟩
      (try revert X); refine t38 ?_; intro X hX
      intro w3 he3
      (try revert X); refine t38 ?_; intro X hX
      refine hM _ _ _ ?_; clear hM M
      refine ok_ret ?_
      try simp only [zW, zU, reduceIte, Nat.reduceEqDiff, Nat.reduceAdd, reduceCtorEq, Q38]
      exact ⟨by rw [r3 h3, out (by omega)]; simp [isTextO], he02.trans he3⟩
    obtain ⟨i, o, g, hi, hil, ho, hA, hm0, hm1⟩ := obj w2 he2 (by omega) rl
    subst hA
    simp only [rp, decide_true]
    (try revert X); refine t38 ?_; intro X hX
    refine ⟨fun _ => ?_, fun h => (by cases h)⟩
    (try revert X); refine t38 ?_; intro X hX
    refine ⟨_, fun w' hw => cL w' (he2.trans hw), ?_⟩
    (try revert X); refine t38 ?_; intro X hX
    refine ⟨_, fun w' hw => c2 w' (he2.trans hw), ?_⟩
    (try revert X); refine t38 ?_; intro X hX
    refine ⟨by simp only [inI]; omega, ?_⟩
    (try revert X); refine t38 ?_; intro X hX
    refine ⟨by omega, by omega, ?_⟩
    rw [show (x.r - 1).toNat = i by omega]
    (try revert X); refine t38 ?_; intro X hX
    refine ⟨.bool (obText o), fun w' hw => by simpa [Nat.add_assoc] using hm0 w' hw, ?_⟩
    (try revert X); refine t38 ?_; intro X hX
    intro w3 he3
    (try revert X); refine t38 ?_; intro X hX
    refine hM _ _ _ ?_; clear hM M
    refine ok_ret ?_
    try simp only [zW, zU, reduceIte, Nat.reduceEqDiff, Nat.reduceAdd, reduceCtorEq, Q38]
    exact ⟨by rw [r3 h3, ho]; simp [n0, isTextO]; all_goals (cases o <;> simp [isTextO, obText]), he02.trans he3⟩
  refine ok_seq (fun M hM => ok_region rfl ?_); (try revert X); refine t38 ?_; intro X hX
  refine hM _ _ _ ?_; clear hM M
  refine ok_if rfl (fun h7 => ?_) (fun h7 => ?_)
  · skip
    refine ok_seq (fun M hM => ?_)
    refine (ok_draw 21 [] (Ext _) Fx.mixed (by decide) rfl (by decide +kernel) (by decide +kernel) (Ext.drew _) ?_)
    (try revert X); refine t38 ?_; intro X hX
    refine ⟨_, fun w' hw => c1 w' (he2.trans hw), ?_⟩
    (try revert X); refine t38 ?_; intro X hX
    by_cases n0 : x.n = 0
    rotate_left
    · simp only [n0, decide_false]
      (try revert X); refine t38 ?_; intro X hX
      refine ⟨fun h => (by cases h), fun _ => ?_⟩
      (try revert X); refine t38 ?_; intro X hX
      intro w3 he3
      (try revert X); refine t38 ?_; intro X hX
      refine hM _ _ _ ?_; clear hM M
      refine ok_ret ?_
      try simp only [zW, zU, reduceIte, Nat.reduceEqDiff, Nat.reduceAdd, reduceCtorEq, Q38]
      exact ⟨by rw [r7 h7]; simp [n0], he02.trans he3⟩
    simp only [n0, decide_true]
    (try revert X); refine t38 ?_; intro X hX
    refine ⟨fun _ => ?_, fun h => (by cases h)⟩
    (try revert X); refine t38 ?_; intro X hX
    refine ⟨_, fun w' hw => c2 w' (he2.trans hw), ?_⟩
    (try revert X); refine t38 ?_; intro X hX
    by_cases rp : 0 < x.r
    rotate_left
    · simp only [rp, decide_false]
      (try revert X); refine t38 ?_; intro X hX
      refine ⟨fun h => (by cases h), fun _ => ?_⟩
      (try revert X); refine t38 ?_; intro X hX
      intro w3 he3
      (try revert X); refine t38 ?_; intro X hX
      refine hM _ _ _ ?_; clear hM M
      refine ok_ret ?_
      try simp only [zW, zU, reduceIte, Nat.reduceEqDiff, Nat.reduceAdd, reduceCtorEq, Q38]
      exact ⟨by rw [r7 h7, out (by omega)]; simp [isArrO], he02.trans he3⟩
    obtain ⟨i, o, g, hi, hil, ho, hA, hm0, hm1⟩ := obj w2 he2 (by omega) rl
    subst hA
    simp only [rp, decide_true]
    (try revert X); refine t38 ?_; intro X hX
    refine ⟨fun _ => ?_, fun h => (by cases h)⟩
    (try revert X); refine t38 ?_; intro X hX
    refine ⟨_, fun w' hw => cL w' (he2.trans hw), ?_⟩
    (try revert X); refine t38 ?_; intro X hX
    refine ⟨_, fun w' hw => c2 w' (he2.trans hw), ?_⟩
    (try revert X); refine t38 ?_; intro X hX
    refine ⟨by simp only [inI]; omega, ?_⟩
    (try revert X); refine t38 ?_; intro X hX
    refine ⟨by omega, by omega, ?_⟩
    rw [show (x.r - 1).toNat = i by omega]
    (try revert X); refine t38 ?_; intro X hX
    refine ⟨.bool (isArrO (some o)), fun w' hw => by simpa [Nat.add_assoc] using hm1 w' hw, ?_⟩
    (try revert X); refine t38 ?_; intro X hX
    intro w3 he3
    (try revert X); refine t38 ?_; intro X hX
    refine hM _ _ _ ?_; clear hM M
    refine ok_ret ?_
    try simp only [zW, zU, reduceIte, Nat.reduceEqDiff, Nat.reduceAdd, reduceCtorEq, Q38]
    exact ⟨by rw [r7 h7, ho]; simp [n0, isArrO]; all_goals (cases o <;> simp [isArrO, obText]), he02.trans he3⟩
  refine ok_join [(0, ptrOf rb), (3, ptrOf B1), (88, .bool (decide (x.k = 4 ∨ x.k = 5 ∨ x.k = 6)))] (fun w' => w' = w2) ?_ ?_
  · refine ok_seq (fun M hM => ok_region rfl ?_); (try revert X); refine t38 ?_; intro X hX
    refine hM _ _ _ ?_; clear hM M
    refine ok_if rfl (fun h4 => ok_skip ?_) (fun h4 => ?_)
    · try simp only [zW, zU, reduceIte, Nat.reduceEqDiff, Nat.reduceAdd, reduceCtorEq, Q38]
      all_goals simp [sub, Env.get, h4]
    refine ok_seq (fun M hM => ok_region rfl ?_); (try revert X); refine t38 ?_; intro X hX
    refine hM _ _ _ ?_; clear hM M
    refine ok_if rfl (fun h5 => ok_skip ?_) (fun h5 => ?_)
    · try simp only [zW, zU, reduceIte, Nat.reduceEqDiff, Nat.reduceAdd, reduceCtorEq, Q38]
      all_goals simp [sub, Env.get, h5]
    refine ok_region rfl ?_
    (try revert X); refine t38 ?_; intro X hX
    all_goals simp [sub, Env.get, h4, h5]
  rintro w' rfl
  refine ok_if rfl (fun h4 => ?_) (fun h4 => ok_skip ?_)
  · refine ok_seq (fun M hM => ?_)
    refine (ok_draw 30 [] (Ext _) Fx.mixed (by decide) rfl (by decide +kernel) (by decide +kernel) (Ext.drew _) ?_)
    (try revert X); refine t38 ?_; intro X hX
    refine ⟨_, fun w1 hw => c2 w1 (he2.trans hw), ?_⟩
    (try revert X); refine t38 ?_; intro X hX
    by_cases rz : x.r = 0
    · simp only [rz, decide_true]
      (try revert X); refine t38 ?_; intro X hX
      refine ⟨fun h => (by cases h), fun _ => ?_⟩
      (try revert X); refine t38 ?_; intro X hX
      intro w3 he3
      (try revert X); refine t38 ?_; intro X hX
      refine hM _ _ _ ?_; clear hM M
      refine ok_ret ?_
      try simp only [zW, zU, reduceIte, Nat.reduceEqDiff, Nat.reduceAdd, reduceCtorEq, Q38]
      exact ⟨by rw [r4 h4]; simp [rz], he02.trans he3⟩
    obtain ⟨i, o, g, hi, hil, ho, hA, hm0, hm1⟩ := obj w' he2 (by omega) rl
    subst hA
    simp only [rz, decide_false]
    (try revert X); refine t38 ?_; intro X hX
    refine ⟨fun _ => ?_, fun h => (by cases h)⟩
    (try revert X); refine t38 ?_; intro X hX
    refine ⟨_, fun w1 hw => cL w1 (he2.trans hw), ?_⟩
    (try revert X); refine t38 ?_; intro X hX
    refine ⟨_, fun w1 hw => c2 w1 (he2.trans hw), ?_⟩
    (try revert X); refine t38 ?_; intro X hX
    refine ⟨by simp only [inI]; omega, ?_⟩
    (try revert X); refine t38 ?_; intro X hX
    refine ⟨by omega, by omega, ?_⟩
    rw [show (x.r - 1).toNat = i by omega]
    (try revert X); refine t38 ?_; intro X hX
    refine ⟨.bool (obText o), fun w1 hw => by simpa [Nat.add_assoc] using hm0 w1 hw, ?_⟩
    (try revert X); refine t38 ?_; intro X hX
    cases hoT : obText o with
    | true =>
      simp only [Bool.not_true]
      (try revert X); refine t38 ?_; intro X hX
      refine ⟨fun h => (by cases h), fun _ => ?_⟩
      (try revert X); refine t38 ?_; intro X hX
      intro w3 he3
      (try revert X); refine t38 ?_; intro X hX
      refine hM _ _ _ ?_; clear hM M
      refine ok_ret ?_
      try simp only [zW, zU, reduceIte, Nat.reduceEqDiff, Nat.reduceAdd, reduceCtorEq, Q38]
      exact ⟨by rw [r4 h4, ho]; cases o <;> simp [obText] at hoT <;> simp [isDataO, rz], he02.trans he3⟩
    | false =>
      simp only [Bool.not_false]
      (try revert X); refine t38 ?_; intro X hX
      refine ⟨fun _ => ?_, fun h => (by cases h)⟩
      (try revert X); refine t38 ?_; intro X hX
      refine ⟨_, fun w1 hw => cL w1 (he2.trans hw), ?_⟩
      (try revert X); refine t38 ?_; intro X hX
      refine ⟨_, fun w1 hw => c2 w1 (he2.trans hw), ?_⟩
      (try revert X); refine t38 ?_; intro X hX
      refine ⟨by simp only [inI]; omega, ?_⟩
      (try revert X); refine t38 ?_; intro X hX
      refine ⟨by omega, by omega, ?_⟩
      rw [show (x.r - 1).toNat = i by omega]
      (try revert X); refine t38 ?_; intro X hX
      refine ⟨.bool (isArrO (some o)), fun w1 hw => by simpa [Nat.add_assoc] using hm1 w1 hw, ?_⟩
      (try revert X); refine t38 ?_; intro X hX
      intro w3 he3
      (try revert X); refine t38 ?_; intro X hX
      refine hM _ _ _ ?_; clear hM M
      refine ok_ret ?_
      try simp only [zW, zU, reduceIte, Nat.reduceEqDiff, Nat.reduceAdd, reduceCtorEq, Q38]
      exact ⟨by rw [r4 h4, ho]; cases o <;> simp [obText] at hoT <;> simp [isDataO, isArrO, rz], he02.trans he3⟩
  · try simp only [zW, zU, reduceIte, Nat.reduceEqDiff, Nat.reduceAdd, reduceCtorEq, Q38]
    refine hM0 _ _ _ ?_; clear hM0 M0
    refine ok_seq (fun M hM => ok_region rfl ?_)
    (try revert X); refine t38 ?_; intro X hX
    refine ⟨_, c2 _ he2, ?_⟩
    (try revert X); refine t38 ?_; intro X hX
    refine hM _ _ _ ?_; clear hM M
    refine ok_ret ?_
    try simp only [zW, zU, reduceIte, Nat.reduceEqDiff, Nat.reduceAdd, reduceCtorEq, Q38]
    have : x.k = 1 ∨ x.k = 2 ∨ x.k = 8 ∨ x.k = 9 := by omega
    exact ⟨by unfold rightW; rw [if_neg h0, if_pos this], he02⟩

-- -- function 69
set_option maxHeartbeats 4000000 in
set_option maxRecDepth 8000 in
theorem rkept_ok (w : World) (rb : Nat) (H : List Ob) (F : Nat → Prop) (hH : RHeapW w rb H F) (hl : H.length ≤ 1073741824) (x : Wd) :
    Rets Tryz.prog 69 [ptrOf rb, wv x] w (fun v w' => v = .bool (!badArg H x) ∧ Ext w w') := by
  refine rets_of_ok Tryz.func69 rfl rfl ?_
  refine ok_seq (fun M hM => ok_region rfl ?_)
  (try revert X); refine t69 ?_; intro X hX
  refine Runs.box (fun w1 he1 hs1 hb1 => ?_)
  generalize hB1 : w.heap.size = B1 at hs1 hb1
  simp only [Value.cells] at hb1
  (try revert X); refine t69 ?_; intro X hX
  refine hM _ _ _ ?_; clear hM M
  refine ok_seq (fun M hM => ok_region rfl ?_)
  (try revert X); refine t69 ?_; intro X hX
  refine ⟨x.row, rfl, hb1.cells (o := 0) (fun j u hj => by simpa [Wd.row] using hj), ?_⟩
  (try revert X); refine t69 ?_; intro X hX
  refine Inv.call Fx.en38 (rright_ok w1 rb H F (hH.ext he1) hl x) ?_
  rintro v w2 ⟨rfl, he2⟩
  have hb2 := hb1.ext he2
  (try revert X); refine t69 ?_; intro X hX
  cases hr : rightW H x with
  | false =>
    (try revert X); refine t69 ?_; intro X hX
    refine ⟨fun h => (by cases h), fun _ => ?_⟩
    (try revert X); refine t69 ?_; intro X hX
    refine hM _ _ _ ?_; clear hM M
    refine ok_ret ?_
    try simp only [zW, zU, reduceIte, Nat.reduceEqDiff, Nat.reduceAdd, reduceCtorEq, Q69]
    exact ⟨by simp [badArg, hr], he1.trans he2⟩
  | true =>
    (try revert X); refine t69 ?_; intro X hX
    refine ⟨fun _ => ?_, fun h => (by cases h)⟩
    (try revert X); refine t69 ?_; intro X hX
    refine ⟨.int .i64 x.k, hb2.cell (j := 0) rfl, ?_⟩
    (try revert X); refine t69 ?_; intro X hX
    by_cases h0 : x.k = 0
    · simp only [h0, decide_true, Bool.not_true]
      (try revert X); refine t69 ?_; intro X hX
      refine ⟨fun h => (by cases h), fun _ => ?_⟩
      (try revert X); refine t69 ?_; intro X hX
      refine hM _ _ _ ?_; clear hM M
      refine ok_ret ?_
      try simp only [zW, zU, reduceIte, Nat.reduceEqDiff, Nat.reduceAdd, reduceCtorEq, Q69]
      exact ⟨by simp [badArg, h0], he1.trans he2⟩
    simp only [h0, decide_false, Bool.not_false]
    (try revert X); refine t69 ?_; intro X hX
    refine ⟨fun _ => ?_, fun h => (by cases h)⟩
    (try revert X); refine t69 ?_; intro X hX
    refine ⟨.int .i64 x.k, hb2.cell (j := 0) rfl, ?_⟩
    (try revert X); refine t69 ?_; intro X hX
    refine hM _ _ _ ?_; clear hM M
    refine ok_ret ?_
    try simp only [zW, zU, reduceIte, Nat.reduceEqDiff, Nat.reduceAdd, reduceCtorEq, Q69]
    exact ⟨by simp [badArg, h0, hr], he1.trans he2⟩
end Go.Proofs.YtldeokfhipjbfaaGreatDoor
/- The reference's heap: Make, Set.  -/
set_option linter.unusedVariables false
set_option linter.unusedSimpArgs false
namespace Go.Proofs.YtldeokfhipjbfaaGreatDoor
open Go Go.Proofs.Vg Go.RowKit

-- -- function 29
set_option maxHeartbeats 4000000 in
set_option maxRecDepth 8000 in
theorem rMake_ok (w : World) (rb : Nat) (H : List Ob) (F : Nat → Prop) (hH : RHeapW w rb H F) (hF : ∀ k, F k → k < w.heap.size) (hl : H.length ≤ 1048576) (k n : Int) (av : Value) (l : List Wd) (hav : SlW w av l) (hll : l.length ≤ 1073741824) :
    Rets Tryz.prog 29 [ptrOf rb, .int .i64 k, .int .i64 n, av] w (fun v w' => v = .tuple #[wv (if makeE H k n l = 0 then (mkW H k n l).2 else ⟨0, 0, 0⟩), .int .i64 (makeE H k n l)] ∧ RGrown w w' rb (if makeE H k n l = 0 then (mkW H k n l).1 else H) F) := by
  obtain ⟨A, c, rfl, hlen, hcell⟩ := id hav
  rw [wd_len] at hav ⊢
  refine rets_of_okC Tryz.func29 rfl rfl ?_
  refine ok_seq (fun M hM => ok_region rfl ?_)
  (try revert X); refine t29 ?_; intro X hX
  refine Runs.alloc Fx.zi75 (fun w1 he1 hs1 hb1 => ?_)
  simp only [Value.cells] at hb1
  generalize hB : w.heap.size = B at hs1 hb1
  (try revert X); refine t29 ?_; intro X hX
  refine hM _ _ _ ?_; clear hM M
  have hs1' := he1.size
  have fin : ∀ (w2 w3 : World) (e : Int), Ext w w2 → Chg (· = B) w2 w3 → Blk w3 B [.int .i64 0, .int .i64 0, .int .i64 0] 75 → makeE H k n l = e → e ≠ 0 →
      ∃ cs : List Value, cs.length = 3 ∧ cellsAt w3 ⟨B, 0, none⟩ cs ∧ (.tuple #[.agg cs.toArray, .int .i64 e] : Value) = .tuple #[wv (if makeE H k n l = 0 then (mkW H k n l).2 else ⟨0, 0, 0⟩), .int .i64 (makeE H k n l)] ∧ RGrown w w3 rb (if makeE H k n l = 0 then (mkW H k n l).1 else H) F := by
    intro w2 w3 e he2 hc hb he hne
    refine ⟨[.int .i64 0, .int .i64 0, .int .i64 0], rfl, hb.cells (o := 0) (fun j u hj => by simpa using hj), by rw [if_neg (by omega), he]; rfl, ?_⟩
    rw [if_neg (by omega)]
    exact RGrown.same hH (he2.chg_trans hc (fun k hk => by omega))
  refine ok_join [(0, ptrOf rb), (1, .int .i64 k), (2, .int .i64 n), (3, .slice A l.length c), (8, ptrOf B)] (fun w' => w' = w1) ?_ ?_
  · refine ok_seq (fun M hM => ok_region rfl ?_)
    (try revert X); refine t29 ?_; intro X hX
    refine Runs.ptrEq Fx.un27 ?_
    (try revert X); refine t29 ?_; intro X hX
    refine hM _ _ _ ?_; clear hM M
    refine ok_cond rfl (fun h => by cases h) (fun h => ok_skip ?_)
    try simp only [zW, zU, reduceIte, Nat.reduceEqDiff, Nat.reduceAdd, reduceCtorEq, Q29]
    simp [sub, Env.get]
  rintro w' rfl
  refine ok_join [(0, ptrOf rb), (1, .int .i64 k), (2, .int .i64 n), (3, .slice A l.length c), (8, ptrOf B)] (fun w2 => w2 = w' ∧ (k = 4 ∨ k = 5 ∨ k = 6 ∨ k = 7)) ?_ ?_
  · refine ok_seq (fun M hM => ok_region rfl ?_)
    (try revert X); refine t29 ?_; intro X hX
    refine Inv.call Fx.en68 (many_ok w' k) ?_
    rintro v w2 ⟨rfl, rfl⟩
    (try revert X); refine t29 ?_; intro X hX
    refine hM _ _ _ ?_; clear hM M
    refine ok_ifn rfl (fun hk => ?_) (fun hk => ok_skip ?_)
    · skip
      refine ok_seq (fun M hM => ok_region rfl ?_)
      (try revert X); refine t29 ?_; intro X hX
      refine ⟨_, w2, run_build (P := Tryz.prog) w2 75 _ #[.int .i64 0, .int .i64 0, .int .i64 0] (by kernel_rfl), ?_⟩
      (try revert X); refine t29 ?_; intro X hX
      refine Runs.store hb1 Fx.zi75 rfl (by intro u hu; simp [Value.cells] at hu; rcases hu with rfl | rfl | rfl <;> rfl) (by simp) (fun w9 hc9 hs9 hb9 => ?_)
      rw [splice_all _ _ (by simp [Value.cells])] at hb9
      simp only [Value.cells] at hb9
      (try revert X); refine t29 ?_; intro X hX
      refine hM _ _ _ ?_; clear hM M
      refine ok_ret ?_
      try simp only [zW, zU, reduceIte, Nat.reduceEqDiff, Nat.reduceAdd, reduceCtorEq, Q29]
      exact fin w2 w9 3 he1 hc9 hb9 (by unfold makeE; rw [if_neg hk]) (by decide)
    · try simp only [zW, zU, reduceIte, Nat.reduceEqDiff, Nat.reduceAdd, reduceCtorEq, Q29]
      exact ⟨by simp [sub, Env.get], hk⟩
  rintro w2 ⟨rfl, hk⟩
  refine ok_join [(0, ptrOf rb), (1, .int .i64 k), (2, .int .i64 n), (3, .slice A l.length c), (8, ptrOf B)] (fun w3 => w3 = w2 ∧ ¬ (n < 0 ∨ (k = 7 ∧ n ≠ 0))) ?_ ?_
  · refine ok_join [(0, ptrOf rb), (1, .int .i64 k), (2, .int .i64 n), (3, .slice A l.length c), (8, ptrOf B), (27, .bool (decide (n < 0 ∨ (k = 7 ∧ n ≠ 0))))] (fun w3 => w3 = w2) ?_ ?_
    · refine ok_region rfl ?_
      (try revert X); refine t29 ?_; intro X hX
      by_cases q1 : n < 0
      · simp only [q1, decide_true]
        (try revert X); refine t29 ?_; intro X hX
        refine ⟨fun h => (by cases h), fun _ => ?_⟩
        (try revert X); refine t29 ?_; intro X hX
        all_goals simp [sub, Env.get, q1]
      simp only [q1, decide_false]
      (try revert X); refine t29 ?_; intro X hX
      refine ⟨fun _ => ?_, fun h => (by cases h)⟩
      (try revert X); refine t29 ?_; intro X hX
      by_cases q2 : k = 7
      · simp only [q2, decide_true]
        (try revert X); refine t29 ?_; intro X hX
        refine ⟨fun _ => ?_, fun h => (by cases h)⟩
        (try revert X); refine t29 ?_; intro X hX
        all_goals simp [sub, Env.get, q1, q2]
      simp only [q2, decide_false]
      (try revert X); refine t29 ?_; intro X hX
      refine ⟨fun h => (by cases h), fun _ => ?_⟩
      (try revert X); refine t29 ?_; intro X hX
      all_goals simp [sub, Env.get, q1, q2]
    rintro w3 rfl
    refine ok_if rfl (fun hq => ?_) (fun hq => ok_skip ?_)
    · skip
      refine ok_seq (fun M hM => ok_region rfl ?_)
      (try revert X); refine t29 ?_; intro X hX
      refine ⟨_, w3, run_build (P := Tryz.prog) w3 75 _ #[.int .i64 0, .int .i64 0, .int .i64 0] (by kernel_rfl), ?_⟩
      (try revert X); refine t29 ?_; intro X hX
      refine Runs.store hb1 Fx.zi75 rfl (by intro u hu; simp [Value.cells] at hu; rcases hu with rfl | rfl | rfl <;> rfl) (by simp) (fun w9 hc9 hs9 hb9 => ?_)
      rw [splice_all _ _ (by simp [Value.cells])] at hb9
      simp only [Value.cells] at hb9
      (try revert X); refine t29 ?_; intro X hX
      refine hM _ _ _ ?_; clear hM M
      refine ok_ret ?_
      try simp only [zW, zU, reduceIte, Nat.reduceEqDiff, Nat.reduceAdd, reduceCtorEq, Q29]
      exact fin w3 w9 5 he1 hc9 hb9 (by unfold makeE; rw [if_pos hk, if_pos hq]) (by decide)
    · try simp only [zW, zU, reduceIte, Nat.reduceEqDiff, Nat.reduceAdd, reduceCtorEq, Q29]
      exact ⟨by simp [sub, Env.get], hq⟩
  rintro w3 ⟨rfl, hq⟩
  have hmk : makeE H k n l = if l.any (badArg H) = true then 2 else 0 := by unfold makeE; rw [if_pos hk, if_neg hq]
  refine ok_seq (fun M0 hM0 => ?_)
  refine ok_seq (fun M hM => ok_region rfl ?_); (try revert X); refine t29 ?_; intro X hX
  refine hM _ _ _ ?_; clear hM M
  refine ok_block ?_
  refine ok_loop (S := Nat) (fun i => [(0, ptrOf rb), (1, .int .i64 k), (2, .int .i64 n), (3, .slice A l.length c), (8, ptrOf B), (10, .int .i64 (i : Int))])
    (fun i w' => Ext w3 w' ∧ i ≤ l.length ∧ ∀ (j : Nat) (x : Wd), j < i → l[j]? = some x → badArg H x = false) (fun i => l.length - i) 0 ?_ ?_ ?_
  · simp [sub, Env.get]
  · exact ⟨Ext.refl _, Nat.zero_le _, fun j x hj => absurd hj (Nat.not_lt_zero _)⟩
  rintro i w4 ⟨he4, hi, hall⟩
  have he04 := he1.trans he4
  have hb4 := hb1.ext he4
  refine ok_seq (fun M1 hM1 => ?_)
  refine ok_seq (fun M hM => ok_region rfl ?_); (try revert X); refine t29 ?_; intro X hX
  refine hM _ _ _ ?_; clear hM M
  refine ok_if rfl (fun hc => ok_skip ?_) (fun hc => ok_exit ?_)
  rotate_left
  · try simp only [zW, zU, reduceIte, Nat.reduceEqDiff, Nat.reduceAdd, reduceCtorEq, Q29]
    refine hM0 _ _ _ ?_; clear hM0 M0 hM1 M1
    have hany : l.any (badArg H) = false := by
      rw [List.any_eq_false]
      intro x hx
      obtain ⟨j, hj⟩ := List.mem_iff_getElem?.1 hx
      have := hall j x (by have := (List.getElem?_eq_some_iff.1 hj).1; omega) hj
      simp [this]
    rw [hany] at hmk
    simp only [Bool.false_eq_true, if_false] at hmk
    have hs4 := he4.size
    refine ok_seq (fun M hM => ok_region rfl ?_)
    (try revert X); refine t29 ?_; intro X hX
    refine Inv.call Fx.en70 (rmade_ok w4 rb H F (hH.ext he04) (fun k hk => by have := hF k hk; omega) hl k n _ l (hav.ext he04) hll) ?_
    rintro v w5 ⟨rfl, hc5, F', hH5, hF5⟩
    have hs5 := hc5.size
    have hBF : ¬ F B := fun h => by have := hF B h; omega
    have hnB : ¬ F' B := fun h => by rcases hF5 B h with h | h <;> first | exact hBF h | (have := hb4.lt; omega)
    (try revert X); refine t29 ?_; intro X hX
    refine Runs.store (hb4.chg hc5 hBF) Fx.zi75 rfl (by intro u hu; simp [Value.cells, Wd.row] at hu; rcases hu with rfl | rfl | rfl <;> rfl) (by simp) (fun w6 hc6 hs6 hb6 => ?_)
    rw [splice_all _ _ (by simp [Value.cells])] at hb6
    simp only [Value.cells] at hb6
    (try revert X); refine t29 ?_; intro X hX
    refine hM _ _ _ ?_; clear hM M
    refine ok_ret ?_
    try simp only [zW, zU, reduceIte, Nat.reduceEqDiff, Nat.reduceAdd, reduceCtorEq, Q29]
    rw [hmk, if_pos rfl, if_pos rfl]
    refine ⟨(mkW H k n l).2.row, rfl, hb6.cells (o := 0) (fun j u hj => by simpa using hj), rfl, ((he04.chg F).trans hc5).thn hc6 (fun k hk => by omega), F', hH5.chg hc6 (fun k hk e => hnB (e ▸ hk)), fun k hk => ?_⟩
    rcases hF5 k hk with h | h
    · exact .inl h
    · exact .inr (by omega)
  try simp only [zW, zU, reduceIte, Nat.reduceEqDiff, Nat.reduceAdd, reduceCtorEq, Q29]
  refine hM1 _ _ _ ?_; clear hM1 M1
  have hil : i < l.length := by omega
  have hxi : l[i]? = some l[i] := List.getElem?_eq_getElem hil
  generalize l[i] = x at hxi
  obtain ⟨b, o, rfl, hcr⟩ := hcell i x.row (by simp [hxi])
  refine ok_seq (fun M1 hM1 => ok_block ?_)
  refine ok_seq (fun M hM => ok_region rfl ?_)
  (try revert X); refine t29 ?_; intro X hX
  refine ⟨by omega, by omega, ?_⟩
  (try revert X); refine t29 ?_; intro X hX
  refine ⟨x.row, rfl, he04.cellsAt hcr, ?_⟩
  (try revert X); refine t29 ?_; intro X hX
  refine Inv.call Fx.en69 (rkept_ok w4 rb H F (hH.ext he04) (by omega) x) ?_
  rintro v w5 ⟨rfl, he5⟩
  have hb5 := hb4.ext he5
  (try revert X); refine t29 ?_; intro X hX
  refine hM _ _ _ ?_; clear hM M
  cases hbad : badArg H x with
  | true =>
    refine ok_cond (b := true) (by simp [ev, Env.get]) (fun _ => ?_) (fun h => by cases h)
    refine ok_seq (fun M hM => ok_region rfl ?_)
    (try revert X); refine t29 ?_; intro X hX
    refine ⟨_, w5, run_build (P := Tryz.prog) w5 75 _ #[.int .i64 0, .int .i64 0, .int .i64 0] (by kernel_rfl), ?_⟩
    (try revert X); refine t29 ?_; intro X hX
    refine Runs.store hb5 Fx.zi75 rfl (by intro u hu; simp [Value.cells] at hu; rcases hu with rfl | rfl | rfl <;> rfl) (by simp) (fun w9 hc9 hs9 hb9 => ?_)
    rw [splice_all _ _ (by simp [Value.cells])] at hb9
    simp only [Value.cells] at hb9
    (try revert X); refine t29 ?_; intro X hX
    refine hM _ _ _ ?_; clear hM M
    refine ok_ret ?_
    try simp only [zW, zU, reduceIte, Nat.reduceEqDiff, Nat.reduceAdd, reduceCtorEq, Q29]
    exact fin w5 w9 2 (he04.trans he5) hc9 hb9 (by rw [hmk, if_pos (List.any_eq_true.2 ⟨x, List.mem_of_getElem? hxi, hbad⟩)]) (by decide)
  | false =>
    refine ok_cond (b := false) (by simp [ev, Env.get]) (fun h => by cases h) (fun _ => ok_skip ?_)
    try simp only [zW, zU, reduceIte, Nat.reduceEqDiff, Nat.reduceAdd, reduceCtorEq, Q29]
    refine hM1 _ _ _ ?_; clear hM1 M1
    refine ok_region rfl ?_
    (try revert X); refine t29 ?_; intro X hX
    refine ⟨by simp only [inI]; omega, ?_⟩
    (try revert X); refine t29 ?_; intro X hX
    refine ⟨i + 1, by simp [sub, Env.get], ⟨he4.trans he5, by omega, fun j y hj hy => ?_⟩, by omega⟩
    rcases Nat.lt_or_ge j i with h1 | h1
    · exact hall j y h1 hy
    · have : j = i := by omega
      subst this
      rw [hxi] at hy; cases hy; exact hbad
end Go.Proofs.YtldeokfhipjbfaaGreatDoor
/- The reference's heap: Set. -/
set_option linter.unusedVariables false
set_option linter.unusedSimpArgs false
namespace Go.Proofs.YtldeokfhipjbfaaGreatDoor
open Go Go.Proofs.Vg Go.RowKit

-- -- function 30
set_option maxHeartbeats 4000000 in
set_option maxRecDepth 8000 in
theorem rSet_ok (w : World) (rb : Nat) (H : List Ob) (F : Nat → Prop) (hH : RHeapW w rb H F) (hF : ∀ k, F k → k < w.heap.size) (hl : H.length ≤ 1048576) (hLim : ∀ x, (argsOf H x).length ≤ 1048576) (x y : Wd) (i : Int) :
    Rets Tryz.prog 30 [ptrOf rb, wv x, .int .i64 i, wv y] w (fun v w' => v = .int .i64 (setE H x i y) ∧ RGrown w w' rb (setH H x i y) F) := by
  have err : ∀ e, setE H x i y = e → e ≠ 0 → ∀ w', Ext w w' → RGrown w w' rb (setH H x i y) F := fun e he hne w' hx => by
    have : setH H x i y = H := by unfold setH; rw [if_neg (by omega)]
    rw [this]
    exact RGrown.same hH hx
  refine rets_of_ok Tryz.func30 rfl rfl ?_
  refine ok_seq (fun M hM => ok_region rfl ?_)
  (try revert X); refine t30 ?_; intro X hX
  refine Runs.box (fun w1 he1 hs1 hb1 => ?_)
  generalize hB1 : w.heap.size = B1 at hs1 hb1
  simp only [Value.cells] at hb1
  (try revert X); refine t30 ?_; intro X hX
  refine Runs.box (fun w2 he2 hs2 hb2 => ?_)
  generalize hB2 : w1.heap.size = B2 at hs2 hb2
  simp only [Value.cells] at hb2
  (try revert X); refine t30 ?_; intro X hX
  refine hM _ _ _ ?_; clear hM M
  have hb12 := hb1.ext he2
  have he02 := he1.trans he2
  refine ok_join [(0, ptrOf rb), (2, .int .i64 i), (5, ptrOf B1), (7, ptrOf B2)] (fun w' => w' = w2) ?_ ?_
  · refine ok_seq (fun M hM => ok_region rfl ?_)
    (try revert X); refine t30 ?_; intro X hX
    refine Runs.ptrEq Fx.un27 ?_
    (try revert X); refine t30 ?_; intro X hX
    refine hM _ _ _ ?_; clear hM M
    refine ok_cond rfl (fun h => by cases h) (fun h => ok_skip ?_)
    try simp only [zW, zU, reduceIte, Nat.reduceEqDiff, Nat.reduceAdd, reduceCtorEq, Q30]
    simp [sub, Env.get]
  rintro w' rfl
  refine ok_join [(0, ptrOf rb), (2, .int .i64 i), (5, ptrOf B1), (7, ptrOf B2)] (fun w3 => Ext w' w3 ∧ rightW H x = true ∧ badArg H y = false) ?_ ?_
  · refine ok_seq (fun M hM => ok_region rfl ?_)
    (try revert X); refine t30 ?_; intro X hX
    refine ⟨x.row, rfl, hb12.cells (o := 0) (fun j u hj => by simpa [Wd.row] using hj), ?_⟩
    (try revert X); refine t30 ?_; intro X hX
    refine Inv.call Fx.en38 (rright_ok w' rb H F (hH.ext he02) (by omega) x) ?_
    rintro v w3 ⟨rfl, he3⟩
    (try revert X); refine t30 ?_; intro X hX
    cases hr : rightW H x with
    | false =>
      simp only [Bool.not_false]
      (try revert X); refine t30 ?_; intro X hX
      refine ⟨fun h => (by cases h), fun _ => ?_⟩
      (try revert X); refine t30 ?_; intro X hX
      refine hM _ _ _ ?_; clear hM M
      refine ok_cond (b := true) (by simp [ev, Env.get]) (fun _ => ?_) (fun h => by cases h)
      refine ok_seq (fun M hM => ok_region rfl ?_); (try revert X); refine t30 ?_; intro X hX
      refine hM _ _ _ ?_; clear hM M
      refine ok_ret ?_
      try simp only [zW, zU, reduceIte, Nat.reduceEqDiff, Nat.reduceAdd, reduceCtorEq, Q30]
      have he : setE H x i y = 2 := by unfold setE; simp [hr]
      exact ⟨by rw [he], err 2 he (by decide) _ (he02.trans he3)⟩
    | true =>
      simp only [Bool.not_true]
      (try revert X); refine t30 ?_; intro X hX
      refine ⟨fun _ => ?_, fun h => (by cases h)⟩
      (try revert X); refine t30 ?_; intro X hX
      refine ⟨y.row, rfl, (hb2.ext he3).cells (o := 0) (fun j u hj => by simpa [Wd.row] using hj), ?_⟩
      (try revert X); refine t30 ?_; intro X hX
      refine Inv.call Fx.en69 (rkept_ok w3 rb H F (hH.ext (he02.trans he3)) (by omega) y) ?_
      rintro v w4 ⟨rfl, he4⟩
      (try revert X); refine t30 ?_; intro X hX
      refine hM _ _ _ ?_; clear hM M
      cases hbad : badArg H y with
      | true =>
        refine ok_cond (b := true) (by simp [ev, Env.get]) (fun _ => ?_) (fun h => by cases h)
        refine ok_seq (fun M hM => ok_region rfl ?_); (try revert X); refine t30 ?_; intro X hX
        refine hM _ _ _ ?_; clear hM M
        refine ok_ret ?_
        try simp only [zW, zU, reduceIte, Nat.reduceEqDiff, Nat.reduceAdd, reduceCtorEq, Q30]
        have he : setE H x i y = 2 := by
          unfold setE
          simp [badArg] at hbad
          rw [if_neg]
          rintro ⟨_, h2, h3, h4⟩
          rw [h2] at hbad
          simp [h3, h4] at hbad
        exact ⟨by rw [he], err 2 he (by decide) _ ((he02.trans he3).trans he4)⟩
      | false =>
        refine ok_cond (b := false) (by simp [ev, Env.get]) (fun h => by cases h) (fun _ => ok_skip ?_)
        try simp only [zW, zU, reduceIte, Nat.reduceEqDiff, Nat.reduceAdd, reduceCtorEq, Q30]
        refine ⟨?_, ?_⟩
        · simp [sub, Env.get]
        · first | exact ⟨he3.trans he4, hr, hbad⟩ | exact ⟨he3.trans he4, hr⟩ | exact he3.trans he4
  rintro w3 ⟨he3, hr, hbad⟩
  have he03 := he02.trans he3
  have hb13 := hb12.ext he3
  have hb23 := hb2.ext he3
  have hbad' : rightW H y = true ∧ y.k ≠ 0 ∧ y.k ≠ 9 := by
    simp [badArg] at hbad
    exact ⟨hbad.1.1, hbad.1.2, hbad.2⟩
  have hset : setE H x i y = if x.k = 7 then if 0 ≤ i ∧ i < ((argsOf H x).length : Int) then 0 else 24 else 3 := by
    unfold setE; rw [if_pos ⟨hr, hbad'.1, hbad'.2⟩]
  refine ok_join [(0, ptrOf rb), (2, .int .i64 i), (5, ptrOf B1), (7, ptrOf B2)] (fun w4 => w4 = w3 ∧ x.k = 7) ?_ ?_
  · refine ok_seq (fun M hM => ok_region rfl ?_)
    (try revert X); refine t30 ?_; intro X hX
    refine ⟨.int .i64 x.k, hb13.cell (j := 0) rfl, ?_⟩
    (try revert X); refine t30 ?_; intro X hX
    refine hM _ _ _ ?_; clear hM M
    refine ok_ifn rfl (fun h7 => ?_) (fun h7 => ok_skip ?_)
    · refine ok_seq (fun M hM => ok_region rfl ?_); (try revert X); refine t30 ?_; intro X hX
      refine hM _ _ _ ?_; clear hM M
      refine ok_ret ?_
      try simp only [zW, zU, reduceIte, Nat.reduceEqDiff, Nat.reduceAdd, reduceCtorEq, Q30]
      rw [if_neg h7] at hset
      exact ⟨by rw [hset], err 3 hset (by decide) _ he03⟩
    · try simp only [zW, zU, reduceIte, Nat.reduceEqDiff, Nat.reduceAdd, reduceCtorEq, Q30]
      exact ⟨by simp [sub, Env.get], h7⟩
  rintro w4 ⟨rfl, h7⟩
  rw [if_pos h7] at hset
  obtain ⟨l, ho⟩ := right7 hr h7
  have hargs : argsOf H x = l := by unfold argsOf; rw [ho]; rfl
  obtain ⟨j, hj⟩ : ∃ j : Nat, x.r = (j : Int) + 1 := by
    refine ⟨(x.r - 1).toNat, ?_⟩
    unfold objAt at ho
    split at ho
    · omega
    · cases ho
  have hoj : H[j]? = some (.words 7 l) := by
    unfold objAt at ho
    rw [if_pos (by omega), show (x.r - 1).toNat = j by omega] at ho
    exact ho
  have hjl := (List.getElem?_eq_some_iff.1 hoj).1
  obtain ⟨vL, vws, rows, ⟨hhd, hrm, hhn⟩, hfoot⟩ := hH.ext he03
  obtain ⟨g, cap, vw, hvL, hvw, hcell, hown⟩ := hrm.at_ (by omega) hoj
  simp only [Ob.list] at hown
  obtain ⟨hwo, hwc, Aw, cw, rfl⟩ := owns_one hown
  have hll := hLim x
  rw [hargs] at hll hset
  have hcw := hcell 3 _ rfl
  have hb1F : ∀ k, F k → k ≠ B1 ∧ k ≠ B2 := fun k hk => by have := hF k hk; have := he1.size; omega
  refine ok_join [(0, ptrOf rb), (2, .int .i64 i), (5, ptrOf B1), (7, ptrOf B2)] (fun w5 => Ext w4 w5 ∧ 0 ≤ i ∧ i < (l.length : Int)) ?_ ?_
  · refine ok_join [(0, ptrOf rb), (2, .int .i64 i), (5, ptrOf B1), (7, ptrOf B2), (40, .bool (decide (i < 0 ∨ (l.length : Int) ≤ i)))] (fun w5 => Ext w4 w5) ?_ ?_
    · refine (ok_draw 17 [] (Ext _) Fx.mixed (by decide) rfl (by decide +kernel) (by decide +kernel) (Ext.drew _) ?_)
      (try revert X); refine t30 ?_; intro X hX
      by_cases q1 : i < 0
      · simp only [q1, decide_true]
        (try revert X); refine t30 ?_; intro X hX
        refine ⟨fun h => (by cases h), fun _ => ?_⟩
        (try revert X); refine t30 ?_; intro X hX
        intro w5 he5
        (try revert X); refine t30 ?_; intro X hX
        exact ⟨by simp [sub, Env.get, q1], he5⟩
      simp only [q1, decide_false]
      (try revert X); refine t30 ?_; intro X hX
      refine ⟨fun _ => ?_, fun h => (by cases h)⟩
      (try revert X); refine t30 ?_; intro X hX
      refine ⟨vL, fun w' hw => (hhd.ext hw).cell (j := 0) rfl, ?_⟩
      rw [hvL]
      (try revert X); refine t30 ?_; intro X hX
      refine ⟨.int .i64 x.r, fun w' hw => (hb13.ext hw).cell (j := 2) rfl, ?_⟩
      (try revert X); refine t30 ?_; intro X hX
      refine ⟨by simp only [inI]; omega, ?_⟩
      (try revert X); refine t30 ?_; intro X hX
      refine ⟨by omega, by omega, ?_⟩
      rw [show (x.r - 1).toNat = j by omega]
      (try revert X); refine t30 ?_; intro X hX
      refine ⟨.slice Aw l.length cw, fun w' hw => hw.cell (by simpa [Nat.add_assoc] using hcw), ?_⟩
      (try revert X); refine t30 ?_; intro X hX
      intro w5 he5
      (try revert X); refine t30 ?_; intro X hX
      exact ⟨by simp [sub, Env.get, q1], he5⟩
    intro w5 he5
    refine ok_if rfl (fun hc => ?_) (fun hc => ok_skip ?_)
    · refine ok_seq (fun M hM => ok_region rfl ?_); (try revert X); refine t30 ?_; intro X hX
      refine hM _ _ _ ?_; clear hM M
      refine ok_ret ?_
      try simp only [zW, zU, reduceIte, Nat.reduceEqDiff, Nat.reduceAdd, reduceCtorEq, Q30]
      rw [if_neg (by omega)] at hset
      exact ⟨by rw [hset], err 24 hset (by decide) _ (he03.trans he5)⟩
    · try simp only [zW, zU, reduceIte, Nat.reduceEqDiff, Nat.reduceAdd, reduceCtorEq, Q30]
      exact ⟨by simp [sub, Env.get], he5, by omega, by omega⟩
  rintro w5 ⟨he5, q0, q1⟩
  rw [if_pos ⟨q0, q1⟩] at hset
  obtain ⟨m, rfl⟩ : ∃ m : Nat, i = (m : Int) := ⟨i.toNat, by omega⟩
  have hml : m < l.length := by omega
  have hxm : l[m]? = some l[m] := List.getElem?_eq_getElem hml
  have hown5 := owns_chg' hown (he5.chg (fun _ => False)) (fun _ _ h => h)
  obtain ⟨gw, capw, curw, hvw', hbw, hlew, -, -, hputw⟩ := own_store (rows := l.map Wd.row) hown5 (fun r hr => (words_rows l r hr).1) (i := m) (row := (l[m]).row) (by simp [hxm]) (by decide) (off := 0) (vs := y.row) (by simp) (by simp)
  cases hvw'
  have hrm5 := hrm.chg (he5.chg (fun _ => False)) (fun _ _ => id)
  refine ok_seq (fun M hM => ?_)
  refine (ok_draw 13 [(false, true)] (Ext _) Fx.mixed (by decide) rfl (by decide +kernel) (by decide +kernel) (Ext.drew _) ?_)
  (try revert X); refine t30 ?_; intro X hX
  refine ⟨vL, fun w' hw => ((hhd.ext he5).ext hw).cell (j := 0) rfl, ?_⟩
  rw [hvL]
  (try revert X); refine t30 ?_; intro X hX
  refine ⟨.int .i64 x.r, fun w' hw => ((hb13.ext he5).ext hw).cell (j := 2) rfl, ?_⟩
  (try revert X); refine t30 ?_; intro X hX
  refine ⟨by simp only [inI]; omega, ?_⟩
  (try revert X); refine t30 ?_; intro X hX
  refine ⟨by omega, by omega, ?_⟩
  rw [show (x.r - 1).toNat = j by omega]
  (try revert X); refine t30 ?_; intro X hX
  refine ⟨.slice (some ⟨gw, 0, none⟩) l.length cw, fun w' hw => hw.cell (he5.cell (by simpa [Nat.add_assoc] using hcw)), ?_⟩
  (try revert X); refine t30 ?_; intro X hX
  refine ⟨y.row, rfl, fun w' hw => ((hb23.ext he5).ext hw).cells (o := 0) (fun j u hj => by simpa [Wd.row] using hj), ?_⟩
  (try revert X); refine t30 ?_; intro X hX
  refine ⟨by omega, by omega, ?_⟩
  (try revert X); refine t30 ?_; intro X hX
  intro w6 he6
  (try revert X); refine t30 ?_; intro X hX
  simp only [Nat.zero_add]
  refine Runs.store (hbw.ext he6) Fx.zi75 rfl (by intro u hu; simp [Value.cells, Wd.row] at hu; rcases hu with rfl | rfl | rfl <;> rfl) (by simpa [Nat.add_assoc, Value.cells, Wd.row] using hlew) (fun w7 hc7 hs7 hb7 => ?_)
  have hown7 := hputw w7 (by simpa [Nat.add_assoc, Value.cells] using hb7)
  (try revert X); refine t30 ?_; intro X hX
  refine hM _ _ _ ?_; clear hM M
  have hrow : splice (l[m]).row 0 y.row = y.row := splice_all _ _ rfl
  rw [hrow] at hown7
  have hflat : ((l.map Wd.row).set m y.row).flatten = oflat (l.set m y) := by
    unfold oflat
    rw [List.map_set]
  rw [hflat] at hown7
  have hown7' : w7.ownsRow 0 75 3 (.slice (some ⟨gw, 0, none⟩) l.length cw) (Ob.words 7 (l.set m y)).list.length (oflat (Ob.words 7 (l.set m y)).list) := by
    simpa [Ob.list] using hown7
  have hrm7 := (hrm5.chg (he6.chg (fun _ => False)) (fun _ _ => id)).setw (o' := .words 7 (l.set m y)) hoj hvw (hc7.mono fun k _ (h : k = gw) => by rw [h]; rfl) rfl hown7'
  refine ok_seq (fun M hM => ok_region rfl ?_); (try revert X); refine t30 ?_; intro X hX
  refine hM _ _ _ ?_; clear hM M
  refine ok_ret ?_
  try simp only [zW, zU, reduceIte, Nat.reduceEqDiff, Nat.reduceAdd, reduceCtorEq, Q30]
  have hsH : setH H x (m : Int) y = H.set j (.words 7 (l.set m y)) := by
    unfold setH
    rw [if_pos hset, hargs, show (x.r - 1).toNat = j by omega]
    simp
  have hgF : F gw := (hfoot gw (.inr (.inr ⟨j, _, hvw, rfl⟩))).1
  have he06 := (he03.trans he5).trans he6
  have hs6 := he06.size
  refine ⟨by rw [hset], ?_⟩
  rw [hsH]
  have hhd7 : Blk w7 rb [vL] 74 := ((hhd.ext he5).ext he6).chg hc7 (fun e => hhn (.inr ⟨j, _, hvw, by rw [e]; rfl⟩))
  refine ⟨(he06.chg F).trans (hc7.mono fun k _ h => by rw [h]; exact hgF), F, ⟨vL, vws, rows, ⟨hhd7, hrm7, hhn⟩, fun k hk => ?_⟩, fun k hk => .inl hk⟩
  have := hfoot k hk
  have hs46 := (he5.trans he6).size
  exact ⟨this.1, by omega⟩
end Go.Proofs.YtldeokfhipjbfaaGreatDoor
