import Derived.Test.YtldeokfhipjbfaaDoorVg11
set_option linter.unusedVariables false
set_option linter.unusedSimpArgs false
namespace Go.Proofs.Vg
open Go Go.RowKit

/-! Memory. -/
/-- Blocks outside of S are as they were. -/
structure Chg (S : Nat → Prop) (w w' : World) : Prop where
  os : w'.os = w.os
  tape : w'.tape = w.tape
  output : w'.output = w.output
  size : w.heap.size ≤ w'.heap.size
  block : ∀ k, k < w.heap.size → ¬ S k → w'.heap[k]? = w.heap[k]?
theorem Chg.refl (S : Nat → Prop) (w : World) : Chg S w w := ⟨rfl, rfl, rfl, Nat.le_refl _, fun _ _ _ => rfl⟩
theorem Chg.trans {S : Nat → Prop} {a b c : World} (h : Chg S a b) (k : Chg S b c) : Chg S a c :=
  ⟨k.os.trans h.os, k.tape.trans h.tape, k.output.trans h.output, Nat.le_trans h.size k.size, fun i hi hs => (k.block i (Nat.lt_of_lt_of_le hi h.size) hs).trans (h.block i hi hs)⟩
theorem Chg.mono {S S' : Nat → Prop} {a b : World} (h : Chg S a b) (hs : ∀ k, k < a.heap.size → S k → S' k) : Chg S' a b :=
  ⟨h.os, h.tape, h.output, h.size, fun i hi hn => h.block i hi (fun hk => hn (hs i hi hk))⟩
theorem Ext.chg {a b : World} (h : Ext a b) (S : Nat → Prop) : Chg S a b := ⟨h.os, h.tape, h.output, h.size, fun i hi _ => Below.block h i hi⟩
theorem Chg.ext {S : Nat → Prop} {a b : World} (h : Chg S a b) (hs : ∀ k, k < a.heap.size → ¬ S k) : Ext a b := ⟨h.os, h.tape, h.output, h.size, fun i hi => h.block i hi (hs i hi)⟩
/-- Since a, only what is newer than a has turned. -/
theorem Ext.chg_trans {S : Nat → Prop} {a b c : World} (h : Ext a b) (k : Chg S b c) (hs : ∀ i, S i → a.heap.size ≤ i) : Ext a c :=
  ⟨k.os.trans h.os, k.tape.trans h.tape, k.output.trans h.output, Nat.le_trans h.size k.size, fun i hi => (k.block i (Nat.lt_of_lt_of_le hi h.size) (fun hk => absurd (hs i hk) (by omega))).trans (Below.block h i hi)⟩

/-- A block of cells, none frozen. -/
def Blk (w : World) (b : Nat) (cs : List Value) (e : TypeId) : Prop := w.heap[b]? = some (.cells cs.toArray e (0, 0))
section
variable {w w' : World} {b : Nat} {cs : List Value} {e : TypeId} {S : Nat → Prop}
theorem Blk.lt (h : Blk w b cs e) : b < w.heap.size := (Array.getElem?_eq_some_iff.1 h).1
theorem Blk.ext (h : Blk w b cs e) (he : Ext w w') : Blk w' b cs e := he.block h
theorem Blk.chg (h : Blk w b cs e) (hc : Chg S w w') (hs : ¬ S b) : Blk w' b cs e := (hc.block b h.lt hs).trans h
theorem Blk.cell (h : Blk w b cs e) {j : Nat} {u : Value} (hj : cs[j]? = some u) : w.cell? ⟨b, j, none⟩ = some u := by
  unfold World.cell?
  rw [show w.heap[(⟨b, j, none⟩ : Addr).block]? = some (.cells cs.toArray e (0, 0)) from h]
  simpa using hj
theorem Blk.cells (h : Blk w b cs e) {o : Nat} {row : List Value} (hr : ∀ j u, row[j]? = some u → cs[o + j]? = some u) : cellsAt w ⟨b, o, none⟩ row := fun j u hj => by
  rw [add_at]; exact h.cell (hr j u hj)
theorem Chg.cell (hc : Chg S w w') {a : Addr} {v : Value} (h : w.cell? a = some v) (hs : ¬ S a.block) : w'.cell? a = some v :=
  (World.cell?_of_block (w := w) (hc.block a.block (World.block_lt_of_cell? w a h) hs)).trans h
theorem Chg.cellsAt (hc : Chg S w w') {a : Addr} {cs : List Value} (h : cellsAt w a cs) (hs : ¬ S a.block) : cellsAt w' a cs := fun j u hj => hc.cell (h j u hj) (by
  unfold Addr.add; split <;> exact hs)
end

section
variable {P : Program} {w : World}
/-- A type's zero value, its cells, its bytes. -/
def zinfo (P : Program) (t : TypeId) : Option (Option Value × Nat × Nat) := (P.info? t).map fun i => (i.zero, i.size, i.bytes)
theorem zinfo_some {t : TypeId} {z : Option Value} {n by_ : Nat} (h : zinfo P t = some (z, n, by_)) : ∃ i, P.info? t = some i ∧ i.zero = z ∧ i.size = n ∧ i.bytes = by_ := by
  unfold zinfo at h
  cases hi : P.info? t with
  | none => simp [hi] at h
  | some i => simp [hi] at h; exact ⟨i, rfl, h.1, h.2.1, h.2.2⟩

/-- A new block at the end of the heap. -/
def newW (w : World) (cs : List Value) (e : TypeId) : World := w.alloc (.cells cs.toArray e)
theorem newW_ext (w : World) (cs : List Value) (e : TypeId) : Ext w (newW w cs e) := ⟨rfl, rfl, rfl, by simp [newW], fun k hk => Below.heap_alloc w _ k hk⟩
theorem newW_blk (w : World) (cs : List Value) (e : TypeId) : Blk (newW w cs e) w.heap.size cs e := heap_alloc_new w _
theorem newW_size (w : World) (cs : List Value) (e : TypeId) : (newW w cs e).heap.size = w.heap.size + 1 := by simp [newW]

theorem Runs.alloc {t : TypeId} {z : Value} {n by_ : Nat} {nx : Value → World → Prop} (hz : zinfo P t = some (some z, n, by_))
    (h : ∀ w1, Ext w w1 → w1.heap.size = w.heap.size + 1 → Blk w1 w.heap.size z.cells.toList t → nx (.pointer (some ⟨w.heap.size, 0, none⟩)) w1) : Runs P (Instr.alloc t true (.tuple #[])) w nx := by
  obtain ⟨i, hi, hz, _, _⟩ := zinfo_some hz
  refine ⟨_, newW w z.cells.toList t, ?_, h _ (newW_ext _ _ _) (newW_size _ _ _) (newW_blk _ _ _)⟩
  simp [Instr.alloc, zeroValue, typeInfo, hi, hz, newVar, newRow, newObj, Sem.run, newW]
theorem Runs.box {t : TypeId} {v : Value} {nx : Value → World → Prop}
    (h : ∀ w1, Ext w w1 → w1.heap.size = w.heap.size + 1 → Blk w1 w.heap.size v.cells.toList t → nx (.pointer (some ⟨w.heap.size, 0, none⟩)) w1) : Runs P (Instr.box t v) w nx := by
  refine ⟨_, newW w v.cells.toList t, ?_, h _ (newW_ext _ _ _) (newW_size _ _ _) (newW_blk _ _ _)⟩
  simp [Instr.box, newVar, newRow, newObj, Sem.run, newW]

/-- Some cells of a list replaced. -/
def splice (cs : List Value) (o : Nat) (vs : List Value) : List Value := cs.take o ++ vs ++ cs.drop (o + vs.length)
theorem splice_one (cs : List Value) (o : Nat) (v : Value) (h : o < cs.length) : splice cs o [v] = cs.set o v := by
  unfold splice
  rw [List.set_eq_take_append_cons_drop, if_pos h]
  simp
theorem splice_length (cs : List Value) (o : Nat) (vs : List Value) (h : o + vs.length ≤ cs.length) : (splice cs o vs).length = cs.length := by
  unfold splice; simp; omega
theorem splice_all (cs vs : List Value) (h : vs.length = cs.length) : splice cs 0 vs = vs := by
  unfold splice; simp [h]

theorem Runs.store {t : TypeId} {b o : Nat} {cs : List Value} {e : TypeId} {v : Value} {z : Option Value} {n by_ : Nat} {nx : World → Prop} (hb : Blk w b cs e) (hz : zinfo P t = some (z, n, by_)) (hv : v.cells.size = n)
    (h1 : ∀ u ∈ v.cells.toList, u.oneCell' = true) (hfit : o + n ≤ cs.length)
    (h : ∀ w1, Chg (· = b) w w1 → w1.heap.size = w.heap.size → Blk w1 b (splice cs o v.cells.toList) e → nx w1) : Runs P (storeVar t ⟨b, o, none⟩ v) w (fun _ w' => nx w') := by
  obtain ⟨i, hi, _, hs, _⟩ := zinfo_some hz
  have hr := run_storeCells_at P b o e v.cells.toList 0 cs.toArray w hb (by simp; omega) h1
  refine ⟨(), w.setRow b (splice cs o v.cells.toList).toArray, ?_, h _ ?_ (size_setRow _ _ _) ?_⟩
  · simp only [storeVar, sizeOf, typeInfo, Sem.run_bind]
    simp [hi, hs, hv] at hr ⊢
    rw [hr]
    simp [splice, hv]
  · exact ⟨rfl, rfl, rfl, by rw [size_setRow]; exact Nat.le_refl _, fun k _ hk => setRow_other w b k _ hk⟩
  · exact setRow_heap w b cs.toArray _ e _ hb

/-- make([]T, n), T of one cell. -/
theorem Runs.make1 {t e : TypeId} {z : Value} {by_ : Nat} {k : IntKind} {n : Int} {nx : Value → World → Prop} (ht : P.underlying t = some (.slice e)) (hz : zinfo P e = some (some z, 1, by_)) (hzc : z.cells = #[z])
    (h0 : 0 ≤ n) (hn : (by_ : Int) * n ≤ 281474976710656) (h63 : n ≤ 9223372036854775807)
    (h : ∀ w1, Ext w w1 → w1.heap.size = w.heap.size + 1 → Blk w1 w.heap.size (List.replicate n.toNat z) e → nx (.slice (some ⟨w.heap.size, 0, none⟩) n.toNat n.toNat) w1) :
    Runs P (Instr.makeSlice t (.int k n) (.int k n)) w nx := by
  obtain ⟨i, hi, hzz, hs, hb⟩ := zinfo_some hz
  have hr := run_make (P := P) w t e i z ht hi hzz k k n n h0 (Int.le_refl _) (by rw [hb]; exact hn) h63
  have hm : madeCells z.cells (n.toNat * i.size) = (List.replicate n.toNat z).toArray := by
    rw [hs, hzc, Nat.mul_one]
    apply Array.ext
    · simp [madeCells]
    · intro j h1 h2
      simp [madeCells, Nat.mod_one]
  rw [hm] at hr
  exact ⟨_, _, hr, h (newW w (List.replicate n.toNat z) e) (newW_ext _ _ _) (newW_size _ _ _) (newW_blk _ _ _)⟩

/-- A literal slice, its cells by evaluation. -/
theorem Runs.lit {t : TypeId} {e n : Nat} {parts : List (Nat × Value)} {cs : List Value} {nx : Value → World → Prop} {z : Value} {sz by_ : Nat} (ht : P.underlying t = some (.slice e)) (hz : zinfo P e = some (some z, sz, by_))
    (hsm : n * sz ≤ 16777216) (hf : Instr.fill (fun i => some (i * sz, sz)) ((Array.range (n * sz)).map fun j => z.cells[j % z.cells.size]!) parts = some cs.toArray) (hn : 0 < n * sz)
    (h : ∀ w1, Ext w w1 → w1.heap.size = w.heap.size + 1 → Blk w1 w.heap.size cs e → nx (.slice (some ⟨w.heap.size, 0, none⟩) n n) w1) : Runs P (Instr.buildSlice t n parts.toArray) w nx := by
  obtain ⟨i, hi, hzz, hs, hb⟩ := zinfo_some hz
  refine ⟨_, newW w cs e, ?_, h _ (newW_ext _ _ _) (newW_size _ _ _) (newW_blk _ _ _)⟩
  subst hs
  have h1 : ¬ (n * i.size > 2 ^ 24) := by omega
  have h2 : ¬ (n * i.size = 0) := by omega
  simp [Instr.buildSlice, run_underlying ht, sizeOf, zeroValue, typeInfo, hi, hzz, hf, newRow, newObj, Sem.run, newW, h1, h2]
end
end Go.Proofs.Vg
