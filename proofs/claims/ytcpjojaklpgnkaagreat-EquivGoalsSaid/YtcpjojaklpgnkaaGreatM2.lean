/- Part 2 of 12: Vg11, Vg12, Vg13, Vg14, Vg15, Fx, Vg16, Vg17, Vg24, Vg25, Vg28, Vg29. -/
import Derived.Test.YtcpjojaklpgnkaaGreatM1
import Derived.RangeFuncLeaves
import Derived.RangeFuncRecord
import Derived.Test.YtcpjojaklpgnkaaGreatProg
import Derived.KernelRfl
import Derived.Deep.Slices
import Derived.SizedLaws
import Derived.Carry
import Derived.ProofKit
set_option linter.unusedVariables false
set_option linter.unusedSimpArgs false
namespace Go.Proofs.Vg
open Go Go.RowKit

section
variable {P : Program} {t : TypeId} {k k' : IntKind} {a b : Int} {s u : ByteArray} {x y : Bool}
theorem bvAdd : binV P t .add (.int k a) (.int k' b) = some (k = k' ∧ inI k (a + b), .int k (a + b)) := rfl
theorem bvSub : binV P t .sub (.int k a) (.int k' b) = some (k = k' ∧ inI k (a - b), .int k (a - b)) := rfl
theorem bvMul : binV P t .mul (.int k a) (.int k' b) = some (k = k' ∧ inI k (a * b), .int k (a * b)) := rfl
theorem bvEql : binV P t .eql (.int k a) (.int k' b) = some (k = k', .bool (decide (a = b))) := rfl
theorem bvNeq : binV P t .neq (.int k a) (.int k' b) = some (k = k', .bool (!decide (a = b))) := rfl
theorem bvLss : binV P t .lss (.int k a) (.int k' b) = some (k = k', .bool (decide (a < b))) := rfl
theorem bvLeq : binV P t .leq (.int k a) (.int k' b) = some (k = k', .bool (decide (a ≤ b))) := rfl
theorem bvGtr : binV P t .gtr (.int k a) (.int k' b) = some (k = k', .bool (decide (b < a))) := rfl
theorem bvGeq : binV P t .geq (.int k a) (.int k' b) = some (k = k', .bool (decide (b ≤ a))) := rfl
theorem bvSEql : binV P t .eql (.string s) (.string u) = some (True, .bool (decide (s = u))) := rfl
theorem bvSNeq : binV P t .neq (.string s) (.string u) = some (True, .bool (!decide (s = u))) := rfl
theorem bvBEql : binV P t .eql (.bool x) (.bool y) = some (P.underlying t = some .bool, .bool (decide (x = y))) := rfl
theorem bvBNeq : binV P t .neq (.bool x) (.bool y) = some (P.underlying t = some .bool, .bool (!decide (x = y))) := rfl
end

/-- A test that is decided. -/
theorem ok_if {P : Program} {ρ : Option Nat} {N : Nat} {K : Env} {ds : List Deferred} {w : World} {Φ : Post} {c : Operand} {x y : Code} {p : Prop} [Decidable p] (hc : ev K c = some (.bool (decide p)))
    (ht : p → ok P ρ N x K ds w Φ) (hf : ¬ p → ok P ρ N y K ds w Φ) : ok P ρ N (.cond c x y) K ds w Φ :=
  ok_cond hc (fun h => ht (of_decide_eq_true h)) (fun h => hf (of_decide_eq_false h))
theorem ok_ifn {P : Program} {ρ : Option Nat} {N : Nat} {K : Env} {ds : List Deferred} {w : World} {Φ : Post} {c : Operand} {x y : Code} {p : Prop} [Decidable p] (hc : ev K c = some (.bool (!decide p)))
    (ht : ¬ p → ok P ρ N x K ds w Φ) (hf : p → ok P ρ N y K ds w Φ) : ok P ρ N (.cond c x y) K ds w Φ :=
  ok_cond hc (fun h => ht (by simpa using h)) (fun h => hf (by simpa using h))

/-- A function's contract: it returns. -/
def Rets (P : Program) (f : FuncId) (args : List Value) (w : World) (R : Value → World → Prop) : Prop := Calls P f args.toArray w (callR R fun _ _ => False)

section
variable {P : Program} {w : World} {next : Value → World → Prop} {pan : List PanicEntry → World → Prop} {R : Value → World → Prop}

theorem Rets.mono {f : FuncId} {args : List Value} {R' : Value → World → Prop} (h : Rets P f args w R) (hr : ∀ v w', R v w' → R' v w') : Rets P f args w R' :=
  Calls.mono h fun e w' he => by cases e <;> simp only [callR] at he ⊢ <;> first | exact hr _ _ he | exact he

theorem Inv.call {f : FuncId} {args : List Value} (hen : ∀ (xs : Array Value) (w : World), (callFunc f xs).run P w = .ok (.enter f xs) w) (h : Rets P f args w R) (hn : ∀ v w', R v w' → next v w') :
    Inv P (.func (.func f) #[] #[]) args w (callR next pan) := by
  refine .inl ⟨f, #[], #[], rfl, hen, ?_⟩
  have : (#[] ++ args.toArray ++ #[] : Array Value) = args.toArray := by simp
  rw [this]
  exact Calls.mono h fun e w' he => by cases e <;> simp only [callR] at he ⊢ <;> first | exact hn _ _ he | exact he.elim
/-- A closure: its captured values behind the arguments. -/
theorem Inv.clos {f : FuncId} {args cap : List Value} (hen : ∀ (xs : Array Value) (w : World), (callFunc f xs).run P w = .ok (.enter f xs) w) (h : Rets P f (args ++ cap) w R) (hn : ∀ v w', R v w' → next v w') :
    Inv P (.func (.func f) #[] cap.toArray) args w (callR next pan) := by
  refine .inl ⟨f, #[], cap.toArray, rfl, hen, ?_⟩
  have : (#[] ++ args.toArray ++ cap.toArray : Array Value) = (args ++ cap).toArray := by simp
  rw [this]
  exact Calls.mono h fun e w' he => by cases e <;> simp only [callR] at he ⊢ <;> first | exact hn _ _ he | exact he.elim

/-- A function's contract, from its body. -/
theorem rets_of_ok {f : FuncId} {fn : Func} {c : Code} {args : List Value} (hf : P.funcs[f]? = some fn) (hb : fn.body = some c) (hn : fn.ntmps = args.length + (fn.ntmps - args.length))
    (h : ok P none fn.ntmps c (argEnv 0 args) [] w (fin fn.results.toList (callR R fun _ _ => False))) : Rets P f args w R := calls_of_ok hf hb hn h

theorem add_at (b o n : Nat) : (⟨b, o, none⟩ : Addr).add n = ⟨b, o + n, none⟩ := by unfold Addr.add; split <;> simp_all

/-! Slices: 'sz' cells an element. -/
def Sli (w : World) (sz : Nat) (v : Value) (rows : List (List Value)) : Prop :=
  ∃ A c, v = .slice A rows.length c ∧ rows.length ≤ 140737488355328 ∧ ∀ j row, rows[j]? = some row → ∃ b o, A = some ⟨b, o, none⟩ ∧ cellsAt w ⟨b, o + j * sz, none⟩ row
theorem Sli.ext {sz : Nat} {v : Value} {rows : List (List Value)} {w' : World} (h : Sli w sz v rows) (he : Ext w w') : Sli w' sz v rows := by
  obtain ⟨A, c, hv, hl, hr⟩ := h
  exact ⟨A, c, hv, hl, fun j row hj => by
    obtain ⟨b, o, hA, hc⟩ := hr j row hj
    exact ⟨b, o, hA, he.cellsAt hc⟩⟩
def ints (xs : List Int) : List (List Value) := xs.map fun x => [.int .i64 x]
def bls (xs : List Bool) : List (List Value) := xs.map fun x => [.bool x]
abbrev SlI (w : World) (v : Value) (xs : List Int) : Prop := Sli w 1 v (ints xs)
abbrev SlB (w : World) (v : Value) (xs : List Bool) : Prop := Sli w 1 v (bls xs)
@[simp] theorem ints_length (xs : List Int) : (ints xs).length = xs.length := by simp [ints]
@[simp] theorem bls_length (xs : List Bool) : (bls xs).length = xs.length := by simp [bls]
/-- An element's cell. -/
theorem SlI.at_ {v : Value} {xs : List Int} (h : SlI w v xs) : ∃ A c, v = .slice A xs.length c ∧ xs.length ≤ 140737488355328 ∧ ∀ j, (hj : j < xs.length) → ∃ b o, A = some ⟨b, o, none⟩ ∧ w.cell? ⟨b, o + j, none⟩ = some (.int .i64 xs[j]) := by
  obtain ⟨A, c, hv, hl, hr⟩ := h
  refine ⟨A, c, by simpa using hv, by simpa using hl, fun j hj => ?_⟩
  obtain ⟨b, o, hA, hc⟩ := hr j [.int .i64 xs[j]] (by simp [ints, hj])
  refine ⟨b, o, hA, ?_⟩
  have := hc 0 _ rfl
  simpa [add_at] using this
theorem SlB.at_ {v : Value} {xs : List Bool} (h : SlB w v xs) : ∃ A c, v = .slice A xs.length c ∧ xs.length ≤ 140737488355328 ∧ ∀ j, (hj : j < xs.length) → ∃ b o, A = some ⟨b, o, none⟩ ∧ w.cell? ⟨b, o + j, none⟩ = some (.bool xs[j]) := by
  obtain ⟨A, c, hv, hl, hr⟩ := h
  refine ⟨A, c, by simpa using hv, by simpa using hl, fun j hj => ?_⟩
  obtain ⟨b, o, hA, hc⟩ := hr j [.bool xs[j]] (by simp [bls, hj])
  refine ⟨b, o, hA, ?_⟩
  have := hc 0 _ rfl
  simpa [add_at] using this
end
end Go.Proofs.Vg
set_option linter.unusedVariables false
set_option linter.unusedSimpArgs false
namespace Go.Proofs.Vg
open Go Go.RowKit

/-! Memory. -/
/-- Blocks outside of S are as they were. -/
structure Chg (S : Nat → Prop) (w w' : World) : Prop where
  os : w'.os = w.os
  tape : w'.tape = w.tape
  output : w'.output = w.output
  size : w.heap.size ≤ w'.heap.size
  block : ∀ k, k < w.heap.size → ¬ S k → w'.heap[k]? = w.heap[k]?
theorem Chg.refl (S : Nat → Prop) (w : World) : Chg S w w := ⟨rfl, rfl, rfl, Nat.le_refl _, fun _ _ _ => rfl⟩
theorem Chg.trans {S : Nat → Prop} {a b c : World} (h : Chg S a b) (k : Chg S b c) : Chg S a c :=
  ⟨k.os.trans h.os, k.tape.trans h.tape, k.output.trans h.output, Nat.le_trans h.size k.size, fun i hi hs => (k.block i (Nat.lt_of_lt_of_le hi h.size) hs).trans (h.block i hi hs)⟩
theorem Chg.mono {S S' : Nat → Prop} {a b : World} (h : Chg S a b) (hs : ∀ k, k < a.heap.size → S k → S' k) : Chg S' a b :=
  ⟨h.os, h.tape, h.output, h.size, fun i hi hn => h.block i hi (fun hk => hn (hs i hi hk))⟩
theorem Ext.chg {a b : World} (h : Ext a b) (S : Nat → Prop) : Chg S a b := ⟨h.os, h.tape, h.output, h.size, fun i hi _ => Below.block h i hi⟩
theorem Chg.ext {S : Nat → Prop} {a b : World} (h : Chg S a b) (hs : ∀ k, k < a.heap.size → ¬ S k) : Ext a b := ⟨h.os, h.tape, h.output, h.size, fun i hi => h.block i hi (hs i hi)⟩
/-- Since a, only what is newer than a has turned. -/
theorem Ext.chg_trans {S : Nat → Prop} {a b c : World} (h : Ext a b) (k : Chg S b c) (hs : ∀ i, S i → a.heap.size ≤ i) : Ext a c :=
  ⟨k.os.trans h.os, k.tape.trans h.tape, k.output.trans h.output, Nat.le_trans h.size k.size, fun i hi => (k.block i (Nat.lt_of_lt_of_le hi h.size) (fun hk => absurd (hs i hk) (by omega))).trans (Below.block h i hi)⟩

/-- A block of cells, none frozen. -/
def Blk (w : World) (b : Nat) (cs : List Value) (e : TypeId) : Prop := w.heap[b]? = some (.cells cs.toArray e (0, 0))
section
variable {w w' : World} {b : Nat} {cs : List Value} {e : TypeId} {S : Nat → Prop}
theorem Blk.lt (h : Blk w b cs e) : b < w.heap.size := (Array.getElem?_eq_some_iff.1 h).1
theorem Blk.ext (h : Blk w b cs e) (he : Ext w w') : Blk w' b cs e := he.block h
theorem Blk.chg (h : Blk w b cs e) (hc : Chg S w w') (hs : ¬ S b) : Blk w' b cs e := (hc.block b h.lt hs).trans h
theorem Blk.cell (h : Blk w b cs e) {j : Nat} {u : Value} (hj : cs[j]? = some u) : w.cell? ⟨b, j, none⟩ = some u := by
  unfold World.cell?
  rw [show w.heap[(⟨b, j, none⟩ : Addr).block]? = some (.cells cs.toArray e (0, 0)) from h]
  simpa using hj
theorem Blk.cells (h : Blk w b cs e) {o : Nat} {row : List Value} (hr : ∀ j u, row[j]? = some u → cs[o + j]? = some u) : cellsAt w ⟨b, o, none⟩ row := fun j u hj => by
  rw [add_at]; exact h.cell (hr j u hj)
theorem Chg.cell (hc : Chg S w w') {a : Addr} {v : Value} (h : w.cell? a = some v) (hs : ¬ S a.block) : w'.cell? a = some v :=
  (World.cell?_of_block (w := w) (hc.block a.block (World.block_lt_of_cell? w a h) hs)).trans h
theorem Chg.cellsAt (hc : Chg S w w') {a : Addr} {cs : List Value} (h : cellsAt w a cs) (hs : ¬ S a.block) : cellsAt w' a cs := fun j u hj => hc.cell (h j u hj) (by
  unfold Addr.add; split <;> exact hs)
end

section
variable {P : Program} {w : World}
/-- A type's zero value, its cells, its bytes. -/
def zinfo (P : Program) (t : TypeId) : Option (Option Value × Nat × Nat) := (P.info? t).map fun i => (i.zero, i.size, i.bytes)
theorem zinfo_some {t : TypeId} {z : Option Value} {n by_ : Nat} (h : zinfo P t = some (z, n, by_)) : ∃ i, P.info? t = some i ∧ i.zero = z ∧ i.size = n ∧ i.bytes = by_ := by
  unfold zinfo at h
  cases hi : P.info? t with
  | none => simp [hi] at h
  | some i => simp [hi] at h; exact ⟨i, rfl, h.1, h.2.1, h.2.2⟩

/-- A new block at the end of the heap. -/
def newW (w : World) (cs : List Value) (e : TypeId) : World := w.alloc (.cells cs.toArray e)
theorem newW_ext (w : World) (cs : List Value) (e : TypeId) : Ext w (newW w cs e) := ⟨rfl, rfl, rfl, by simp [newW], fun k hk => Below.heap_alloc w _ k hk⟩
theorem newW_blk (w : World) (cs : List Value) (e : TypeId) : Blk (newW w cs e) w.heap.size cs e := heap_alloc_new w _
theorem newW_size (w : World) (cs : List Value) (e : TypeId) : (newW w cs e).heap.size = w.heap.size + 1 := by simp [newW]

theorem Runs.alloc {t : TypeId} {z : Value} {n by_ : Nat} {nx : Value → World → Prop} (hz : zinfo P t = some (some z, n, by_))
    (h : ∀ w1, Ext w w1 → w1.heap.size = w.heap.size + 1 → Blk w1 w.heap.size z.cells.toList t → nx (.pointer (some ⟨w.heap.size, 0, none⟩)) w1) : Runs P (Instr.alloc t true (.tuple #[])) w nx := by
  obtain ⟨i, hi, hz, _, _⟩ := zinfo_some hz
  refine ⟨_, newW w z.cells.toList t, ?_, h _ (newW_ext _ _ _) (newW_size _ _ _) (newW_blk _ _ _)⟩
  simp [Instr.alloc, zeroValue, typeInfo, hi, hz, newVar, newRow, newObj, Sem.run, newW]
theorem Runs.box {t : TypeId} {v : Value} {nx : Value → World → Prop}
    (h : ∀ w1, Ext w w1 → w1.heap.size = w.heap.size + 1 → Blk w1 w.heap.size v.cells.toList t → nx (.pointer (some ⟨w.heap.size, 0, none⟩)) w1) : Runs P (Instr.box t v) w nx := by
  refine ⟨_, newW w v.cells.toList t, ?_, h _ (newW_ext _ _ _) (newW_size _ _ _) (newW_blk _ _ _)⟩
  simp [Instr.box, newVar, newRow, newObj, Sem.run, newW]

/-- Some cells of a list replaced. -/
def splice (cs : List Value) (o : Nat) (vs : List Value) : List Value := cs.take o ++ vs ++ cs.drop (o + vs.length)
theorem splice_one (cs : List Value) (o : Nat) (v : Value) (h : o < cs.length) : splice cs o [v] = cs.set o v := by
  unfold splice
  rw [List.set_eq_take_append_cons_drop, if_pos h]
  simp
theorem splice_length (cs : List Value) (o : Nat) (vs : List Value) (h : o + vs.length ≤ cs.length) : (splice cs o vs).length = cs.length := by
  unfold splice; simp; omega
theorem splice_all (cs vs : List Value) (h : vs.length = cs.length) : splice cs 0 vs = vs := by
  unfold splice; simp [h]

theorem Runs.store {t : TypeId} {b o : Nat} {cs : List Value} {e : TypeId} {v : Value} {z : Option Value} {n by_ : Nat} {nx : World → Prop} (hb : Blk w b cs e) (hz : zinfo P t = some (z, n, by_)) (hv : v.cells.size = n)
    (h1 : ∀ u ∈ v.cells.toList, u.oneCell' = true) (hfit : o + n ≤ cs.length)
    (h : ∀ w1, Chg (· = b) w w1 → w1.heap.size = w.heap.size → Blk w1 b (splice cs o v.cells.toList) e → nx w1) : Runs P (storeVar t ⟨b, o, none⟩ v) w (fun _ w' => nx w') := by
  obtain ⟨i, hi, _, hs, _⟩ := zinfo_some hz
  have hr := run_storeCells_at P b o e v.cells.toList 0 cs.toArray w hb (by simp; omega) h1
  refine ⟨(), w.setRow b (splice cs o v.cells.toList).toArray, ?_, h _ ?_ (size_setRow _ _ _) ?_⟩
  · simp only [storeVar, sizeOf, typeInfo, Sem.run_bind]
    simp [hi, hs, hv] at hr ⊢
    rw [hr]
    simp [splice, hv]
  · exact ⟨rfl, rfl, rfl, by rw [size_setRow]; exact Nat.le_refl _, fun k _ hk => setRow_other w b k _ hk⟩
  · exact setRow_heap w b cs.toArray _ e _ hb

/-- make([]T, n), T of one cell. -/
theorem Runs.make1 {t e : TypeId} {z : Value} {by_ : Nat} {k : IntKind} {n : Int} {nx : Value → World → Prop} (ht : P.underlying t = some (.slice e)) (hz : zinfo P e = some (some z, 1, by_)) (hzc : z.cells = #[z])
    (h0 : 0 ≤ n) (hn : (by_ : Int) * n ≤ 281474976710656) (h63 : n ≤ 9223372036854775807)
    (h : ∀ w1, Ext w w1 → w1.heap.size = w.heap.size + 1 → Blk w1 w.heap.size (List.replicate n.toNat z) e → nx (.slice (some ⟨w.heap.size, 0, none⟩) n.toNat n.toNat) w1) :
    Runs P (Instr.makeSlice t (.int k n) (.int k n)) w nx := by
  obtain ⟨i, hi, hzz, hs, hb⟩ := zinfo_some hz
  have hr := run_make (P := P) w t e i z ht hi hzz k k n n h0 (Int.le_refl _) (by rw [hb]; exact hn) h63
  have hm : madeCells z.cells (n.toNat * i.size) = (List.replicate n.toNat z).toArray := by
    rw [hs, hzc, Nat.mul_one]
    apply Array.ext
    · simp [madeCells]
    · intro j h1 h2
      simp [madeCells, Nat.mod_one]
  rw [hm] at hr
  exact ⟨_, _, hr, h (newW w (List.replicate n.toNat z) e) (newW_ext _ _ _) (newW_size _ _ _) (newW_blk _ _ _)⟩

/-- A literal slice, its cells by evaluation. -/
theorem Runs.lit {t : TypeId} {e n : Nat} {parts : List (Nat × Value)} {cs : List Value} {nx : Value → World → Prop} {z : Value} {sz by_ : Nat} (ht : P.underlying t = some (.slice e)) (hz : zinfo P e = some (some z, sz, by_))
    (hsm : n * sz ≤ 16777216) (hf : Instr.fill (fun i => some (i * sz, sz)) ((Array.range (n * sz)).map fun j => z.cells[j % z.cells.size]!) parts = some cs.toArray) (hn : 0 < n * sz)
    (h : ∀ w1, Ext w w1 → w1.heap.size = w.heap.size + 1 → Blk w1 w.heap.size cs e → nx (.slice (some ⟨w.heap.size, 0, none⟩) n n) w1) : Runs P (Instr.buildSlice t n parts.toArray) w nx := by
  obtain ⟨i, hi, hzz, hs, hb⟩ := zinfo_some hz
  refine ⟨_, newW w cs e, ?_, h _ (newW_ext _ _ _) (newW_size _ _ _) (newW_blk _ _ _)⟩
  subst hs
  have h1 : ¬ (n * i.size > 2 ^ 24) := by omega
  have h2 : ¬ (n * i.size = 0) := by omega
  simp [Instr.buildSlice, run_underlying ht, sizeOf, zeroValue, typeInfo, hi, hzz, hf, newRow, newObj, Sem.run, newW, h1, h2]
end
end Go.Proofs.Vg
set_option linter.unusedVariables false
set_option linter.unusedSimpArgs false
namespace Go.Proofs.Vg
open Go Go.RowKit

/-! A range over a function. -/
/-- A call of yield l: the loop's body goes through one round. -/
def Yields (P : Program) (l : Nat) (args : List Value) (W : World) (R : Bool → World → Prop) : Prop :=
  ∃ fn tmps assign body, (Instr.yield l args.toArray).run P W = .ok (.round l fn tmps assign body) W ∧
    RoundIn (fence none) 0 P l fn tmps assign body W (fun e W' => ∃ b, e = .returned (.bool b) ∧ R b W')

theorem Inv.yield {P : Program} {l : Nat} {args : List Value} {W : World} {R : Bool → World → Prop} {next : Value → World → Prop} {pan : List PanicEntry → World → Prop} (h : Yields P l args W R) (hn : ∀ b W', R b W' → next (.bool b) W') :
    Inv P (.func (.yield l) #[] #[]) args W (callR next pan) := by
  obtain ⟨fn, tmps, assign, body, hy, hr⟩ := h
  refine .inr ⟨l, #[], #[], fn, tmps, assign, body, rfl, by simpa using hy, RoundIn.mono hr ?_⟩
  rintro e W' ⟨b, rfl, hb⟩
  exact hn _ _ hb

/-- Worlds alike but for the two blocks of a loop's book-keeping. -/
structure Off (n : Nat) (W W' : World) : Prop where
  os : W'.os = W.os
  tape : W'.tape = W.tape
  output : W'.output = W.output
  size : W'.heap.size = W.heap.size
  block : ∀ k, k ≠ n → k ≠ n + 1 → W'.heap[k]? = W.heap[k]?
theorem Off.put (n : Nat) (W : World) (o : Obj) : Off n W (W.putObj (n + 1) o) := ⟨rfl, rfl, rfl, by simp, fun k _ h => World.putObj_heap_other h⟩
def Keep (n : Nat) (W W' : World) : Prop := W'.heap[n]? = W.heap[n]? ∧ W'.heap[n + 1]? = W.heap[n + 1]?
theorem Keep.refl (n : Nat) (W : World) : Keep n W W := ⟨rfl, rfl⟩
theorem Keep.trans {n : Nat} {a b c : World} (h : Keep n a b) (k : Keep n b c) : Keep n a c := ⟨k.1.trans h.1, k.2.trans h.2⟩
theorem Keep.ext {n : Nat} {W W' : World} (h : Ext W W') (hn : n + 1 < W.heap.size) : Keep n W W' := ⟨Below.block h n (by omega), Below.block h (n + 1) hn⟩
theorem Keep.chg {n : Nat} {S : Nat → Prop} {W W' : World} (h : Chg S W W') (hn : n + 1 < W.heap.size) (h0 : ¬ S n) (h1 : ¬ S (n + 1)) : Keep n W W' := ⟨h.block n (by omega) h0, h.block (n + 1) hn h1⟩

def bindE : List Nat → List Value → Env → Env
  | p :: ps, v :: vs, K => bindE ps vs ((p, v) :: K)
  | _, _, K => K

section
variable {P : Program} {N : Nat} {K : Env} {ds : List Deferred} {w : World} {a : Act} {Φ : Post}

theorem Kn.bind : ∀ (ps : List Nat) (vs : List Value) (K : Env) (tmps : Array Value), (∀ p ∈ ps, p < N) → Kn K N [] { tmps := tmps, defers := [] } →
    Kn (bindE ps vs K) N [] { tmps := (ps.zip vs).foldl (fun tmps (p : Nat × Value) => tmps.setIfInBounds p.1 p.2) tmps, defers := [] }
  | [], vs, K, tmps, _, h => by cases vs <;> exact h
  | p :: ps, [], K, tmps, _, h => h
  | p :: ps, v :: vs, K, tmps, hp, h => by
    simp only [bindE, List.zip_cons_cons, List.foldl_cons]
    exact Kn.bind ps vs _ _ (fun q hq => hp q (List.mem_cons_of_mem _ hq)) (h.put (dst := some p) (v := v) (fun d hd => by cases hd; exact hp p List.mem_cons_self))

/-- The mark that an outermost loop leaves. -/
def markOf (n : Nat) : Deferred := { target := .collected n, args := #[] }

theorem ok_range {S : Type} {g : Operand} {ps : List Nat} {assign body : Code} {gf : FuncId} {cap : List Value} (J : S → World → Prop) (Jx : Code → World → Prop) (s0 : S) (elem : S → List Value) (more fini : S → Prop) (nxt : S → S → Prop)
    (hg : ev K g = some (.func (.func gf) #[] cap.toArray)) (hen : ∀ (xs : Array Value) (w : World), (callFunc gf xs).run P w = .ok (.enter gf xs) w)
    (hps : ∀ p ∈ ps, p < N) (hel : ∀ s, more s → (elem s).length = ps.length)
    (hst : ∀ s W W', Off w.heap.size W W' → J s W → J s W') (hstx : ∀ c W W', Off w.heap.size W W' → Jx c W → Jx c W') (hmono : ∀ s W W', Ext W W' → J s W → J s W')
    (hJ0 : ∀ W, Ext w W → W.heap.size = w.heap.size + 2 → J s0 W)
    (hround : ∀ s W, more s → J s W → w.heap.size + 1 < W.heap.size → ok P (some (w.heap.size + 1)) N assign (bindE ps (elem s) K) [] W (fun e K1 ds1 W1 => e = .normal ∧ Keep w.heap.size W W1 ∧
      ∀ W2, Off w.heap.size W1 W2 → ok P (some (w.heap.size + 1)) N body K1 ds1 W2 (fun e K3 ds3 W3 => Keep w.heap.size W2 W3 ∧ match e with
        | .normal => ∃ s', nxt s s' ∧ J s' W3
        | .ret => Jx .ret W3
        | .exit id => Jx (.exit id) W3
        | _ => False)))
    (hit : ∀ (J' : S → World → Prop) (Jx' : World → Prop) (W : World), (∀ s W W', Ext W W' → J' s W → J' s W') → (∀ s W, J' s W → J s W) → J' s0 W →
      (∀ s W, more s → J' s W → Yields P (w.heap.size + 1) (elem s) W (fun b W' => (b = true ∧ ∃ s', nxt s s' ∧ J' s' W') ∨ (b = false ∧ Jx' W'))) →
      Rets P gf (.func (.yield (w.heap.size + 1)) #[] #[] :: cap) W (fun _ W' => (∃ s, fini s ∧ J' s W') ∨ Jx' W'))
    (hdone : ∀ s W, fini s → J s W → W.heap[w.heap.size]? = some (.deferred (some [])) → Φ .normal K (markOf w.heap.size :: ds) W)
    (hret : ∀ W, Jx .ret W → W.heap[w.heap.size]? = some (.deferred (some [])) → Φ .ret K (markOf w.heap.size :: ds) W)
    (hexit : ∀ id W, Jx (.exit id) W → W.heap[w.heap.size]? = some (.deferred (some [])) → Φ (.exit id) K (markOf w.heap.size :: ds) W) :
    ok P none N (.rangeFunc g ps.toArray assign body) K ds w Φ := by
  intro a ha
  refine wpIn_rangeFunc (fun fn hfn => ?_)
  generalize hn : w.heap.size = n at *
  -- the record
  let rec_ : LoopState → Option Code → Loop := fun st pd => { state := st, pending := pd, fn := fn, tmps := a.tmps, params := ps.toArray, assign := assign, body := body, defers := n }
  let w1 : World := (w.alloc (.deferred (some []))).alloc (.loop (rec_ .ready none))
  have hw1 : Ext w w1 := ⟨rfl, rfl, rfl, by simp [w1]; omega, fun k hk => by
    show ((w.alloc _).alloc _).heap[k]? = _
    rw [Below.heap_alloc _ _ k (by simp; omega), Below.heap_alloc _ _ k hk]⟩
  have hl1 : w1.heap[n + 1]? = some (.loop (rec_ .ready none)) := by
    have := World.alloc_heap_new (w.alloc (.deferred (some []))) (.loop (rec_ .ready none))
    simp only [World.size_alloc, hn] at this
    exact this
  have hd1 : w1.heap[n]? = some (.deferred (some [])) := by
    show ((w.alloc _).alloc _).heap[n]? = _
    rw [Below.heap_alloc _ _ n (by simp; omega)]
    have := World.alloc_heap_new w (.deferred (some []))
    rw [hn] at this
    exact this
  refine ⟨n + 1, [markOf n], w1, { target := .fn (.func gf) cap.toArray, args := #[.func (.yield (n + 1)) #[] #[]] }, w1, gf, #[.func (.yield (n + 1)) #[] #[]] ++ cap.toArray, w1, ?_, ?_, ?_, ?_, fence_depth _ _, ?_⟩
  · have := run_enterLoop_outer (P := P) (w := w) fn a.tmps ps.toArray assign body
    rw [hn] at this
    exact this
  · have he := ev_eval ha hg
    simp only [resolve, rangeCall, he]
    simp [Deferred.ofValue, Act.eval]
  · intro f' _; trivial
  · simp [invoke, hen]
  -- the call
  let J' : S → World → Prop := fun s W => J s W ∧ W.heap[n + 1]? = some (.loop (rec_ .ready none)) ∧ W.heap[n]? = some (.deferred (some []))
  let Jx' : World → Prop := fun W => ∃ c, Jx c W ∧ (c = .ret ∨ ∃ id, c = .exit id) ∧ W.heap[n + 1]? = some (.loop (rec_ .done (some c))) ∧ W.heap[n]? = some (.deferred (some []))
  have hcall := hit J' Jx' w1 (fun s W W' he ⟨h1, h2, h3⟩ => ⟨hmono s W W' he h1, he.block h2, he.block h3⟩) (fun s W h => h.1) ⟨hJ0 w1 hw1 (by simp [w1, hn]), hl1, hd1⟩ (fun s W hm ⟨hj, hl, hd⟩ => by
    -- one round
    have hlt : n + 1 < W.heap.size := (Array.getElem?_eq_some_iff.1 hl).1
    have hy := run_yield (P := P) (args := (elem s).toArray) hl (by simp [rec_, hel s hm])
    refine ⟨fn, _, assign, body, hy, roundIn_of_wpIn trivial ?_⟩
    have hk0 : Kn K N [] { tmps := a.tmps, defers := [] } := ⟨ha.size, rfl, ha.at_⟩
    have hkb := Kn.bind ps (elem s) K a.tmps hps hk0
    have hfold : (((rec_ .ready none).params.zip (elem s).toArray).foldl (fun tmps (x : Tmp × Value) => match x with | (t, a) => tmps.setIfInBounds t a) (rec_ .ready none).tmps) =
        (ps.zip (elem s)).foldl (fun tmps (p : Nat × Value) => tmps.setIfInBounds p.1 p.2) a.tmps := by
      simp only [rec_]
      rw [← Array.foldl_toList]
      simp
    have hra := hround s W hm hj hlt _ hkb
    rw [hfold]
    refine wpIn_mono (F := fence (some (n + 1))) hra ?_
    rintro e a1 W1 ⟨K1, ds1, hk1, rfl, hkeep, hbody⟩
    have hl1' : W1.heap[n + 1]? = some (.loop (rec_ .ready none)) := hkeep.2.trans hl
    have hd1' : W1.heap[n]? = some (.deferred (some [])) := hkeep.1.trans hd
    have hlt1 : n + 1 < W1.heap.size := (Array.getElem?_eq_some_iff.1 hl1').1
    refine ⟨_, run_beginRound hl1' rfl, ?_⟩
    refine wpIn_mono (F := fence (some (n + 1))) (hbody _ (Off.put n W1 _) a1 hk1) ?_
    have hl2 : (W1.putObj (n + 1) (.loop { rec_ .ready none with state := .busy })).heap[n + 1]? = some (.loop (rec_ .busy none)) := World.putObj_heap_same hlt1
    have hd2 : (W1.putObj (n + 1) (.loop { rec_ .ready none with state := .busy })).heap[n]? = some (.deferred (some [])) := (World.putObj_heap_other (by omega)).trans hd1'
    rintro e a3 W3 ⟨K3, ds3, hk3, hkeep3, hpost⟩
    have hl3 := hkeep3.2.trans hl2
    have hd3 := hkeep3.1.trans hd2
    have hlt3 : n + 1 < W3.heap.size := (Array.getElem?_eq_some_iff.1 hl3).1
    cases e with
    | normal =>
      obtain ⟨s', hns, hj'⟩ := hpost
      refine ⟨_, _, run_endRound none hl3, true, rfl, .inl ⟨rfl, s', hns, hst _ _ _ (Off.put n W3 _) hj', World.putObj_heap_same hlt3, (World.putObj_heap_other (by omega)).trans hd3⟩⟩
    | ret =>
      refine ⟨_, _, run_endRound (some .ret) hl3, false, rfl, .inr ⟨rfl, .ret, hstx _ _ _ (Off.put n W3 _) hpost, .inl rfl, World.putObj_heap_same hlt3, (World.putObj_heap_other (by omega)).trans hd3⟩⟩
    | exit id =>
      refine ⟨_, _, run_endRound (some (.exit id)) hl3, false, rfl, .inr ⟨rfl, .exit id, hstx _ _ _ (Off.put n W3 _) hpost, .inr ⟨id, rfl⟩, World.putObj_heap_same hlt3, (World.putObj_heap_other (by omega)).trans hd3⟩⟩
    | goto t => exact hpost.elim
    | panic ch => exact hpost.elim
    | outgrown => exact hpost.elim)
  have hcall' : CallsIn Fence.wide (0 - 1) P gf (#[.func (.yield (n + 1)) #[] #[]] ++ cap.toArray) w1 (callR (fun _ W' => (∃ s, fini s ∧ J' s W') ∨ Jx' W') fun _ _ => False) := by
    refine callsIn_wide.2 ?_
    have : (#[.func (.yield (n + 1)) #[] #[]] ++ cap.toArray : Array Value) = (.func (.yield (n + 1)) #[] #[] :: cap).toArray := by simp
    rw [this]
    exact hcall
  have hka : Kn K N (markOf n :: ds) { a with defers := [markOf n] ++ a.defers } := ⟨ha.size, by simp [ha.defers], ha.at_⟩
  refine CallsIn.mono hcall' ?_
  rintro e W he
  cases e <;> simp only [callR] at he
  · simp only [rangePost]
    rcases he with ⟨s, hf, hj, hl, hd⟩ | ⟨c, hx, hc, hl, hd⟩
    · refine ⟨none, _, run_endLoop hl (by simp [rec_]), ?_⟩
      exact ⟨K, _, hka, hdone s _ hf (hst _ _ _ (Off.put n W _) hj) ((World.putObj_heap_other (by omega)).trans hd)⟩
    · refine ⟨some c, _, run_endLoop hl (by simp [rec_]), ?_⟩
      have hx' := hstx _ _ _ (Off.put n W (.loop { rec_ .done (some c) with state := .exhausted })) hx
      have hd' : (W.putObj (n + 1) (.loop { rec_ .done (some c) with state := .exhausted })).heap[n]? = some (.deferred (some [])) := (World.putObj_heap_other (by omega)).trans hd
      rcases hc with rfl | ⟨id, rfl⟩
      · exact wpIn_ret ⟨K, _, hka, hret _ hx' hd'⟩
      · exact wpIn_exit ⟨K, _, hka, hexit id _ hx' hd'⟩

/-- A function's end, where a range over a function may have left its mark. -/
def finM (rs : List ResultVar) (R : Ending → World → Prop) : Post
  | .ret, K, ds, w => (ds = [] ∧ match retE K rs with | some v => R (.returned v) w | none => False) ∨
      (∃ r, ds = [markOf r] ∧ w.heap[r]? = some (.deferred (some [])) ∧ match retE K rs with | some v => R (.returned v) (w.putObj r (.deferred none)) | none => False)
  | _, _, _, _ => False

theorem calls_of_okM {f : FuncId} {fn : Func} {c : Code} {args : List Value} {R : Ending → World → Prop} (hf : P.funcs[f]? = some fn) (hb : fn.body = some c) (hn : fn.ntmps = args.length + (fn.ntmps - args.length))
    (h : ok P none fn.ntmps c (argEnv 0 args) [] w (finM fn.results.toList R)) : Calls P f args.toArray w R := by
  refine (callsIn_wide (n := 0)).1 (callsIn_of_wp_marks hf hb trivial (c := c) ?_)
  have hk := Kn.enter args (fn.ntmps - args.length)
  rw [← hn] at hk
  have hw := h _ hk
  refine wpIn_mono (F := fence none) hw ?_
  rintro e a' w' ⟨K, ds, hk, hp⟩
  cases e <;> simp only [finM] at hp <;> simp only [bodyPostM]
  rcases hp with ⟨rfl, hp⟩ | ⟨r, rfl, hr, hp⟩
  · split at hp
    · rename_i v hv
      rw [hk.defers]
      exact ⟨v, retE_run hk hv _, hp⟩
    · exact hp.elim
  · split at hp
    · rename_i v hv
      rw [hk.defers]
      refine ⟨by simp, .inl ⟨r, _, rfl, run_takeDeferred hr, ?_⟩⟩
      exact ⟨v, retE_run hk hv _, hp⟩
    · exact hp.elim
theorem rets_of_okM {f : FuncId} {fn : Func} {c : Code} {args : List Value} {R : Value → World → Prop} (hf : P.funcs[f]? = some fn) (hb : fn.body = some c) (hn : fn.ntmps = args.length + (fn.ntmps - args.length))
    (h : ok P none fn.ntmps c (argEnv 0 args) [] w (finM fn.results.toList (callR R fun _ _ => False))) : Rets P f args w R := calls_of_okM hf hb hn h
end
end Go.Proofs.Vg
set_option linter.unusedVariables false
set_option linter.unusedSimpArgs false
namespace Go.Proofs.Vg
open Go Go.RowKit

section
variable {P : Program} {w : World}

/-- x[lo:hi] of a slice. -/
theorem run_sliceAt {t e : TypeId} {sz by_ : Nat} {z : Option Value} (ht : P.underlying t = some (.slice e)) (hz : zinfo P e = some (z, sz, by_)) (A : Option Addr) (len cap : Nat) (lo hi : Option Nat) (kl kh : IntKind)
    (hhi : hi.getD len ≤ cap) (hlo : lo.getD 0 ≤ hi.getD len) (w : World) :
    (Instr.sliceAt t (.slice A len cap) (lo.map fun (x : Nat) => .int kl (x : Int)) (hi.map fun (x : Nat) => .int kh (x : Int)) none).run P w =
      .ok (.slice (if cap = lo.getD 0 then A else A.map (·.add (lo.getD 0 * sz))) (hi.getD len - lo.getD 0) (cap - lo.getD 0)) w := by
  obtain ⟨i, hi', _, hs, _⟩ := zinfo_some hz
  subst hs
  cases lo with
  | none =>
    cases hi with
    | none => simp [Instr.sliceAt, run_underlying ht, Instr.slice, Instr.sliceBounds, sizeOf, typeInfo, hi']
    | some h =>
      simp only [Option.getD_some] at hhi hlo
      have h1 : (0 : Int) ≤ (h : Int) ∧ (h : Int) ≤ (cap : Int) := by omega
      simp [Instr.sliceAt, run_underlying ht, Instr.slice, Instr.sliceBounds, Instr.sliceBound, asIntOf, sizeOf, typeInfo, hi', h1, hhi]
  | some l =>
    cases hi with
    | none =>
      simp only [Option.getD_some, Option.getD_none] at hhi hlo
      simp [Instr.sliceAt, run_underlying ht, Instr.slice, Instr.sliceBounds, Instr.sliceBound, asIntOf, sizeOf, typeInfo, hi', hlo]
    | some h =>
      simp only [Option.getD_some] at hhi hlo
      simp [Instr.sliceAt, run_underlying ht, Instr.slice, Instr.sliceBounds, Instr.sliceBound, asIntOf, sizeOf, typeInfo, hi', hlo, hhi]

/-- What is behind a slice's first elements. -/
theorem Sli.drop {sz : Nat} {A : Option Addr} {n c lo : Nat} {rows : List (List Value)} (h : Sli w sz (.slice A n c) rows) (hlo : lo ≤ n) (hc : n ≤ c) :
    Sli w sz (.slice (if c = lo then A else A.map (·.add (lo * sz))) (n - lo) (c - lo)) (rows.drop lo) := by
  obtain ⟨A', c', hv, hl, hr⟩ := h
  cases hv
  refine ⟨_, _, by rw [List.length_drop], by rw [List.length_drop]; omega, fun j row hj => ?_⟩
  rw [List.getElem?_drop] at hj
  obtain ⟨b, o, hA, hcc⟩ := hr (lo + j) row hj
  have hlt : lo + j < rows.length := (List.getElem?_eq_some_iff.1 hj).1
  rw [if_neg (by omega), hA]
  refine ⟨b, o + lo * sz, by simp [add_at], ?_⟩
  have : o + lo * sz + j * sz = o + (lo + j) * sz := by rw [Nat.add_mul]; omega
  rw [this]
  exact hcc

/-- xs[lo:], of one-cell elements. -/
theorem Runs.sliceLo {t e : TypeId} {by_ : Nat} {z : Option Value} (ht : P.underlying t = some (.slice e)) (hz : zinfo P e = some (z, 1, by_)) {A : Option Addr} {n c : Nat} {rows : List (List Value)} (h : Sli w 1 (.slice A n c) rows) (hc : n ≤ c)
    (lo : Nat) (hlo : lo ≤ n) {k : IntKind} {i : Int} (hi : i = (lo : Int)) {nx : Value → World → Prop} (hx : ∀ A' c', Sli w 1 (.slice A' (n - lo) c') (rows.drop lo) → nx (.slice A' (n - lo) c') w) :
    Runs P (Instr.sliceAt t (.slice A n c) (some (.int k i)) none none) w nx := by
  subst hi
  have := run_sliceAt (P := P) ht hz A n c (some lo) none k k (by simpa using hc) (by simpa using hlo) w
  exact ⟨_, _, this, hx _ _ (by simpa using h.drop hlo hc)⟩

/-- append of one element (of 'sz' cells) that lies in a block of its own. -/
theorem Runs.append1 {t ty e : TypeId} {z : Value} {sz by_ base : Nat} (ht : P.underlying t = some (.slice e)) (hz : zinfo P e = some (some z, sz, by_)) (hzs : z.cells.size = sz) (hsz : 0 < sz)
    {v : Value} {n : Nat} {xs : List Value} (hown : w.ownsRow base e sz v n xs) {b : Nat} {news : List Value} {c : Nat} {eb : TypeId} (hb : Blk w b news eb) (hl : news.length = sz) (h1 : ∀ u ∈ news, u.oneCell' = true)
    (h63 : n + 1 ≤ maxLen) (hbytes : (n + 1) * by_ ≤ 140737488355328) (hbase : base ≤ w.heap.size) {cs : Array Bool} {nx : Value → World → Prop}
    (h : ∀ v' w', w'.ownsRow base e sz v' (n + 1) (xs ++ news) → w.grownBy w' v.ownBlock → nx v' w') :
    Runs P (builtin .append #[t, t] ty cs [v, .slice (some ⟨b, 0, none⟩) 1 c].toArray) w (builtinR nx) := by
  obtain ⟨i, hi, hzz, hs, hbb⟩ := zinfo_some hz
  obtain ⟨v', w', hr, ho, hg, _⟩ := run_append_own (P := P) w base t ty e i z sz by_ ht hi hzz hs hbb hzs hsz v n xs hown ⟨b, 0, none⟩ 1 c news (by omega)
    (fun j u hj => by have := hb.cells (o := 0) (row := news) (fun j u hj => by simpa using hj) j u hj; exact this) h1 h63 hbytes hbase
  refine ⟨.value v', w', ?_, h v' w' ho hg⟩
  simp only [builtin]
  rw [Sem.run_bind]
  have : [v, Value.slice (some ⟨b, 0, none⟩) 1 c].toArray = #[v, .slice (some ⟨b, 0, none⟩) 1 c] := rfl
  rw [this, hr]
  rfl

theorem grown_ext {w w' : World} {B : Nat} {v : Value} {base e sz n : Nat} {xs : List Value} (hown : w.ownsRow base e sz v n xs) (hg : w.grownBy w' v.ownBlock) (S : Nat → Prop) (hS : ∀ k, base ≤ k → S k) : Chg S w w' :=
  ⟨hg.os, hg.tape, hg.output, hg.size, fun k hk hs => hg.block k hk (fun e => hs (hS k (hown.lt k e.symm).1))⟩
/-- What is owned can be read. -/
theorem Sli.of_own {base e sz n : Nat} {v : Value} {xs : List Value} {rows : List (List Value)} (h : w.ownsRow base e sz v n xs) (hx : xs = rows.flatten) (hr : ∀ r ∈ rows, r.length = sz) (hn : rows.length = n) (hb : n ≤ 140737488355328) : Sli w sz v rows := by
  subst hn
  have key : ∀ (j : Nat) (row : List Value), rows[j]? = some row → ∀ k u, row[k]? = some u → xs[j * sz + k]? = some u := by
    subst hx
    clear h hb
    intro j row hj k u hk
    have hrow : row.length = sz := hr row (List.mem_of_getElem? hj)
    have hk' : k < sz := by rw [← hrow]; exact (List.getElem?_eq_some_iff.1 hk).1
    induction rows generalizing j with
    | nil => simp at hj
    | cons r rs ih =>
      have hr0 : r.length = sz := hr r List.mem_cons_self
      cases j with
      | zero =>
        simp at hj; subst hj
        rw [List.flatten_cons, List.getElem?_append_left (by omega)]
        simpa using hk
      | succ j =>
        rw [List.flatten_cons, List.getElem?_append_right (by rw [hr0, Nat.add_mul]; omega), hr0]
        have := ih (fun x hx => hr x (List.mem_cons_of_mem _ hx)) j (by simpa using hj)
        rw [← this]
        congr 1
        rw [Nat.add_mul]; omega
  rcases h.2 with ⟨rfl, h0⟩ | ⟨g, cap, cur, rfl, hb', hg, h1, h2, h3, h4⟩
  · refine ⟨none, 0, by rw [h0], hb, fun j row hj => ?_⟩
    have : j < rows.length := (List.getElem?_eq_some_iff.1 hj).1
    omega
  · refine ⟨_, _, rfl, hb, fun j row hj => ⟨g, 0, rfl, fun k u hk => ?_⟩⟩
    have hx' := key j row hj k u hk
    have hc := h.cells (g := g) rfl (j * sz + k) u hx'
    rw [add_at] at hc ⊢
    simpa using hc
end
end Go.Proofs.Vg
set_option linter.unusedVariables false
set_option linter.unusedSimpArgs false
namespace Go.Proofs.Vg
open Go Go.RowKit

section
variable {P : Program} {w : World}

/-- copy(dst, src), elements of one cell, dst in a block of the call's own. -/
theorem Runs.copy {dT sT ty e : TypeId} {z : Option Value} {by_ : Nat} (ht : P.underlying dT = some (.slice e)) (hz : zinfo P e = some (z, 1, by_)) {b o dLen dCap : Nat} {a : Addr} {sLen sCap : Nat} {cur : List Value} {te : TypeId} (hb : Blk w b cur te)
    {cs : List Value} (hn : cs.length = Nat.min sLen dLen) (hsrc : cellsAt w a cs) (hfit : o + cs.length ≤ cur.length) (h1 : ∀ v ∈ cs, v.oneCell' = true) {cb : Array Bool} {nx : Value → World → Prop}
    (h : ∀ w1, Chg (· = b) w w1 → w1.heap.size = w.heap.size → Blk w1 b (splice cur o cs) te → nx (.int .i64 (cs.length : Int)) w1) :
    Runs P (builtin .copy #[dT, sT] ty cb [.slice (some ⟨b, o, none⟩) dLen dCap, .slice (some a) sLen sCap].toArray) w (builtinR nx) := by
  obtain ⟨i, hi, _, hs, _⟩ := zinfo_some hz
  have hr := run_copy_row (P := P) (ty := ty) w dT sT e b o dLen dCap a sLen sCap cur.toArray te cs ht (by simp [hi, hs]) hb hn hsrc (by simpa using hfit) h1
  refine ⟨.value (.int .i64 (cs.length : Int)), w.setRow b (splice cur o cs).toArray, ?_, h _ ?_ (size_setRow _ _ _) ?_⟩
  · simp only [builtin]
    rw [Sem.run_bind]
    rw [show [Value.slice (some ⟨b, o, none⟩) dLen dCap, Value.slice (some a) sLen sCap].toArray = #[.slice (some ⟨b, o, none⟩) dLen dCap, .slice (some a) sLen sCap] from rfl, hr]
    simp [splice, goInt]
  · exact ⟨rfl, rfl, rfl, by rw [size_setRow]; exact Nat.le_refl _, fun k _ hk => setRow_other w b k _ hk⟩
  · exact setRow_heap w b cur.toArray _ te _ hb

/-- A conversion between whole numbers that fits. -/
theorem Runs.conv {s d : TypeId} {ds : TypeDesc} {k k' : IntKind} {n : Int} {nx : Value → World → Prop} (hs : P.underlying s = some ds) (hd : P.underlying d = some (.int k')) (hn : inI k' n) (h : nx (.int k' n) w) :
    Runs P (convert s d (.int k n)) w nx := by
  refine ⟨_, w, ?_, h⟩
  simp [convert, run_underlying hs, run_underlying hd, Conv.intToInt, wrap_in hn]

theorem and_mask (n : Nat) (h : n < 4294967296) : n &&& 4294967295 = n := by
  have := Nat.and_two_pow_sub_one_eq_mod n 32
  simp at this
  rw [this, Nat.mod_eq_of_lt h]
theorem Runs.and32 {t : TypeId} {x y : Operand} {n : Int} {nx : Value → World → Prop} (h0 : 0 ≤ n) (h1 : n < 4294967296) (h : nx (.int .u64 n) w) :
    Runs P (do eqGuard .and t x y (.int .u64 n) (.int .u64 4294967295); binOp .and t (.int .u64 n) (.int .u64 4294967295)) w nx := by
  refine ⟨_, w, ?_, h⟩
  obtain ⟨m, rfl⟩ := Int.eq_ofNat_of_zero_le h0
  have hb := u64_and_nat m 4294967295 (by omega) (by omega)
  rw [and_mask m (by omega)] at hb
  simp [eqGuard, binOp, Op.intBits]
  exact hb
theorem Runs.shr32 {t : TypeId} {x y : Operand} {n : Int} {nx : Value → World → Prop} (h0 : 0 ≤ n) (h1 : n < 4294967296) (h : nx (.int .u64 0) w) :
    Runs P (do eqGuard .shr t x y (.int .u64 n) (.int .u64 32); binOp .shr t (.int .u64 n) (.int .u64 32)) w nx := by
  refine ⟨_, w, ?_, h⟩
  have : n.fdiv 4294967296 = 0 := by
    rw [Int.fdiv_eq_ediv_of_nonneg _ (by omega)]
    omega
  simp [eqGuard, binOp, Op.shift, IntKind.bits, this]
end
end Go.Proofs.Vg
/- Closed facts of the loaded program: sizes of types, places of fields, which functions have bodies. -/
set_option linter.unusedVariables false
namespace Go.Proofs.YtcpjojaklpgnkaaGreat
open Go Go.Proofs.Vg
namespace Fx
theorem ag2 : aggN Tryz.prog 2 = some none := by kernel_rfl
theorem ag3 : aggN Tryz.prog 3 = some none := by kernel_rfl
theorem ag4 : aggN Tryz.prog 4 = some none := by kernel_rfl
theorem ag9 : aggN Tryz.prog 9 = some none := by kernel_rfl
theorem ag22 : aggN Tryz.prog 22 = some none := by kernel_rfl
theorem ag23 : aggN Tryz.prog 23 = some none := by kernel_rfl
theorem ag24 : aggN Tryz.prog 24 = some none := by kernel_rfl
theorem ag25 : aggN Tryz.prog 25 = some none := by kernel_rfl
theorem ag27 : aggN Tryz.prog 27 = some (some 4) := by kernel_rfl
theorem ag28 : aggN Tryz.prog 28 = some none := by kernel_rfl
theorem ag29 : aggN Tryz.prog 29 = some none := by kernel_rfl
theorem ag31 : aggN Tryz.prog 31 = some (some 6) := by kernel_rfl
theorem ag32 : aggN Tryz.prog 32 = some none := by kernel_rfl
theorem ag33 : aggN Tryz.prog 33 = some none := by kernel_rfl
theorem ag34 : aggN Tryz.prog 34 = some none := by kernel_rfl
theorem ag35 : aggN Tryz.prog 35 = some none := by kernel_rfl
theorem ag37 : aggN Tryz.prog 37 = some (some 9) := by kernel_rfl
theorem ag39 : aggN Tryz.prog 39 = some (some 17) := by kernel_rfl
theorem ag41 : aggN Tryz.prog 41 = some (some 22) := by kernel_rfl
theorem ag44 : aggN Tryz.prog 44 = some none := by kernel_rfl
theorem ag47 : aggN Tryz.prog 47 = some none := by kernel_rfl
theorem ag49 : aggN Tryz.prog 49 = some (some 6) := by kernel_rfl
theorem ag53 : aggN Tryz.prog 53 = some (some 22) := by kernel_rfl
theorem ag58 : aggN Tryz.prog 58 = some (some 11) := by kernel_rfl
theorem ag62 : aggN Tryz.prog 62 = some (some 3) := by kernel_rfl
theorem ag70 : aggN Tryz.prog 70 = some (some 2) := by kernel_rfl
theorem ag71 : aggN Tryz.prog 71 = some none := by kernel_rfl
theorem ag73 : aggN Tryz.prog 73 = some (some 4) := by kernel_rfl
theorem ag77 : aggN Tryz.prog 77 = some none := by kernel_rfl
theorem ag86 : aggN Tryz.prog 86 = some (some 55) := by kernel_rfl
theorem ag89 : aggN Tryz.prog 89 = some none := by kernel_rfl
theorem ag90 : aggN Tryz.prog 90 = some none := by kernel_rfl
theorem ag91 : aggN Tryz.prog 91 = some none := by kernel_rfl
theorem ag93 : aggN Tryz.prog 93 = some (some 3) := by kernel_rfl
theorem ag95 : aggN Tryz.prog 95 = some (some 9) := by kernel_rfl
theorem ag99 : aggN Tryz.prog 99 = some none := by kernel_rfl
theorem ag101 : aggN Tryz.prog 101 = some (some 5) := by kernel_rfl
theorem ag105 : aggN Tryz.prog 105 = some none := by kernel_rfl
theorem ag108 : aggN Tryz.prog 108 = some (some 2) := by kernel_rfl
theorem ag111 : aggN Tryz.prog 111 = some (some 4) := by kernel_rfl
theorem ag129 : aggN Tryz.prog 129 = some none := by kernel_rfl
theorem ag131 : aggN Tryz.prog 131 = some none := by kernel_rfl
theorem ag132 : aggN Tryz.prog 132 = some none := by kernel_rfl
theorem ag134 : aggN Tryz.prog 134 = some (some 24) := by kernel_rfl
theorem ag149 : aggN Tryz.prog 149 = some (some 3) := by kernel_rfl
theorem ag153 : aggN Tryz.prog 153 = some (some 2) := by kernel_rfl
theorem ag155 : aggN Tryz.prog 155 = some (some 2) := by kernel_rfl
theorem ag185 : aggN Tryz.prog 185 = some (some 2) := by kernel_rfl
theorem ag195 : aggN Tryz.prog 195 = some (some 2) := by kernel_rfl
theorem ag205 : aggN Tryz.prog 205 = some none := by kernel_rfl
theorem ag215 : aggN Tryz.prog 215 = some none := by kernel_rfl
theorem ag217 : aggN Tryz.prog 217 = some (some 2) := by kernel_rfl
theorem fo27_0 : fieldOff Tryz.prog 27 0 = some 0 := by kernel_rfl
theorem fo27_1 : fieldOff Tryz.prog 27 1 = some 1 := by kernel_rfl
theorem fo27_2 : fieldOff Tryz.prog 27 2 = some 2 := by kernel_rfl
theorem fo27_3 : fieldOff Tryz.prog 27 3 = some 3 := by kernel_rfl
theorem fo31_0 : fieldOff Tryz.prog 31 0 = some 0 := by kernel_rfl
theorem fo31_1 : fieldOff Tryz.prog 31 1 = some 4 := by kernel_rfl
theorem fo31_2 : fieldOff Tryz.prog 31 2 = some 5 := by kernel_rfl
theorem fo37_0 : fieldOff Tryz.prog 37 0 = some 0 := by kernel_rfl
theorem fo37_1 : fieldOff Tryz.prog 37 1 = some 1 := by kernel_rfl
theorem fo37_2 : fieldOff Tryz.prog 37 2 = some 2 := by kernel_rfl
theorem fo37_3 : fieldOff Tryz.prog 37 3 = some 3 := by kernel_rfl
theorem fo37_4 : fieldOff Tryz.prog 37 4 = some 4 := by kernel_rfl
theorem fo37_5 : fieldOff Tryz.prog 37 5 = some 5 := by kernel_rfl
theorem fo37_6 : fieldOff Tryz.prog 37 6 = some 6 := by kernel_rfl
theorem fo37_7 : fieldOff Tryz.prog 37 7 = some 7 := by kernel_rfl
theorem fo37_8 : fieldOff Tryz.prog 37 8 = some 8 := by kernel_rfl
theorem fo39_0 : fieldOff Tryz.prog 39 0 = some 0 := by kernel_rfl
theorem fo39_1 : fieldOff Tryz.prog 39 1 = some 1 := by kernel_rfl
theorem fo39_2 : fieldOff Tryz.prog 39 2 = some 2 := by kernel_rfl
theorem fo39_3 : fieldOff Tryz.prog 39 3 = some 3 := by kernel_rfl
theorem fo39_4 : fieldOff Tryz.prog 39 4 = some 4 := by kernel_rfl
theorem fo39_5 : fieldOff Tryz.prog 39 5 = some 5 := by kernel_rfl
theorem fo39_6 : fieldOff Tryz.prog 39 6 = some 6 := by kernel_rfl
theorem fo39_7 : fieldOff Tryz.prog 39 7 = some 15 := by kernel_rfl
theorem fo39_8 : fieldOff Tryz.prog 39 8 = some 16 := by kernel_rfl
theorem fo41_0 : fieldOff Tryz.prog 41 0 = some 0 := by kernel_rfl
theorem fo41_1 : fieldOff Tryz.prog 41 1 = some 1 := by kernel_rfl
theorem fo41_2 : fieldOff Tryz.prog 41 2 = some 2 := by kernel_rfl
theorem fo41_3 : fieldOff Tryz.prog 41 3 = some 3 := by kernel_rfl
theorem fo41_4 : fieldOff Tryz.prog 41 4 = some 4 := by kernel_rfl
theorem fo41_5 : fieldOff Tryz.prog 41 5 = some 5 := by kernel_rfl
theorem fo49_0 : fieldOff Tryz.prog 49 0 = some 0 := by kernel_rfl
theorem fo49_1 : fieldOff Tryz.prog 49 1 = some 4 := by kernel_rfl
theorem fo49_2 : fieldOff Tryz.prog 49 2 = some 5 := by kernel_rfl
theorem fo53_0 : fieldOff Tryz.prog 53 0 = some 0 := by kernel_rfl
theorem fo53_1 : fieldOff Tryz.prog 53 1 = some 1 := by kernel_rfl
theorem fo53_2 : fieldOff Tryz.prog 53 2 = some 2 := by kernel_rfl
theorem fo53_3 : fieldOff Tryz.prog 53 3 = some 3 := by kernel_rfl
theorem fo53_4 : fieldOff Tryz.prog 53 4 = some 4 := by kernel_rfl
theorem fo53_5 : fieldOff Tryz.prog 53 5 = some 5 := by kernel_rfl
theorem fo58_0 : fieldOff Tryz.prog 58 0 = some 0 := by kernel_rfl
theorem fo58_1 : fieldOff Tryz.prog 58 1 = some 1 := by kernel_rfl
theorem fo58_2 : fieldOff Tryz.prog 58 2 = some 10 := by kernel_rfl
theorem fo59_0 : fieldOff Tryz.prog 59 0 = some 0 := by kernel_rfl
theorem fo59_1 : fieldOff Tryz.prog 59 1 = some 1 := by kernel_rfl
theorem fo59_2 : fieldOff Tryz.prog 59 2 = some 10 := by kernel_rfl
theorem fo62_0 : fieldOff Tryz.prog 62 0 = some 0 := by kernel_rfl
theorem fo62_1 : fieldOff Tryz.prog 62 1 = some 1 := by kernel_rfl
theorem fo62_2 : fieldOff Tryz.prog 62 2 = some 2 := by kernel_rfl
theorem fo70_0 : fieldOff Tryz.prog 70 0 = some 0 := by kernel_rfl
theorem fo73_0 : fieldOff Tryz.prog 73 0 = some 0 := by kernel_rfl
theorem fo73_1 : fieldOff Tryz.prog 73 1 = some 1 := by kernel_rfl
theorem fo73_2 : fieldOff Tryz.prog 73 2 = some 2 := by kernel_rfl
theorem fo73_3 : fieldOff Tryz.prog 73 3 = some 3 := by kernel_rfl
theorem fo86_0 : fieldOff Tryz.prog 86 0 = some 0 := by kernel_rfl
theorem fo86_1 : fieldOff Tryz.prog 86 1 = some 6 := by kernel_rfl
theorem fo86_2 : fieldOff Tryz.prog 86 2 = some 28 := by kernel_rfl
theorem fo86_3 : fieldOff Tryz.prog 86 3 = some 45 := by kernel_rfl
theorem fo86_4 : fieldOff Tryz.prog 86 4 = some 54 := by kernel_rfl
theorem fo93_0 : fieldOff Tryz.prog 93 0 = some 0 := by kernel_rfl
theorem fo93_1 : fieldOff Tryz.prog 93 1 = some 1 := by kernel_rfl
theorem fo93_2 : fieldOff Tryz.prog 93 2 = some 2 := by kernel_rfl
theorem fo95_0 : fieldOff Tryz.prog 95 0 = some 0 := by kernel_rfl
theorem fo95_1 : fieldOff Tryz.prog 95 1 = some 1 := by kernel_rfl
theorem fo95_2 : fieldOff Tryz.prog 95 2 = some 2 := by kernel_rfl
theorem fo95_3 : fieldOff Tryz.prog 95 3 = some 3 := by kernel_rfl
theorem fo95_4 : fieldOff Tryz.prog 95 4 = some 4 := by kernel_rfl
theorem fo95_5 : fieldOff Tryz.prog 95 5 = some 7 := by kernel_rfl
theorem fo101_0 : fieldOff Tryz.prog 101 0 = some 0 := by kernel_rfl
theorem fo101_1 : fieldOff Tryz.prog 101 1 = some 1 := by kernel_rfl
theorem fo101_2 : fieldOff Tryz.prog 101 2 = some 2 := by kernel_rfl
theorem fo101_3 : fieldOff Tryz.prog 101 3 = some 3 := by kernel_rfl
theorem fo101_4 : fieldOff Tryz.prog 101 4 = some 4 := by kernel_rfl
theorem fo108_0 : fieldOff Tryz.prog 108 0 = some 0 := by kernel_rfl
theorem fo111_0 : fieldOff Tryz.prog 111 0 = some 0 := by kernel_rfl
theorem fo111_1 : fieldOff Tryz.prog 111 1 = some 1 := by kernel_rfl
theorem fo134_0 : fieldOff Tryz.prog 134 0 = some 0 := by kernel_rfl
theorem fo134_1 : fieldOff Tryz.prog 134 1 = some 1 := by kernel_rfl
theorem fo134_2 : fieldOff Tryz.prog 134 2 = some 2 := by kernel_rfl
theorem fo149_0 : fieldOff Tryz.prog 149 0 = some 0 := by kernel_rfl
theorem fo149_1 : fieldOff Tryz.prog 149 1 = some 1 := by kernel_rfl
theorem fo149_2 : fieldOff Tryz.prog 149 2 = some 2 := by kernel_rfl
theorem fo153_0 : fieldOff Tryz.prog 153 0 = some 0 := by kernel_rfl
theorem fo153_1 : fieldOff Tryz.prog 153 1 = some 1 := by kernel_rfl
theorem fo155_0 : fieldOff Tryz.prog 155 0 = some 0 := by kernel_rfl
theorem fo155_1 : fieldOff Tryz.prog 155 1 = some 1 := by kernel_rfl
theorem fo185_0 : fieldOff Tryz.prog 185 0 = some 0 := by kernel_rfl
theorem fo185_1 : fieldOff Tryz.prog 185 1 = some 1 := by kernel_rfl
theorem fo195_0 : fieldOff Tryz.prog 195 0 = some 0 := by kernel_rfl
theorem fo195_1 : fieldOff Tryz.prog 195 1 = some 1 := by kernel_rfl
theorem fo217_0 : fieldOff Tryz.prog 217 0 = some 0 := by kernel_rfl
theorem fo217_1 : fieldOff Tryz.prog 217 1 = some 1 := by kernel_rfl
theorem es22 : elemSize Tryz.prog 22 = some 9 := by kernel_rfl
theorem es23 : elemSize Tryz.prog 23 = some 4 := by kernel_rfl
theorem es24 : elemSize Tryz.prog 24 = some 17 := by kernel_rfl
theorem es25 : elemSize Tryz.prog 25 = some 5 := by kernel_rfl
theorem es28 : elemSize Tryz.prog 28 = some 11 := by kernel_rfl
theorem es29 : elemSize Tryz.prog 29 = some 1 := by kernel_rfl
theorem es32 : elemSize Tryz.prog 32 = some 4 := by kernel_rfl
theorem es33 : elemSize Tryz.prog 33 = some 2 := by kernel_rfl
theorem es34 : elemSize Tryz.prog 34 = some 9 := by kernel_rfl
theorem es35 : elemSize Tryz.prog 35 = some 1 := by kernel_rfl
theorem es47 : elemSize Tryz.prog 47 = some 11 := by kernel_rfl
theorem es71 : elemSize Tryz.prog 71 = some 2 := by kernel_rfl
theorem es89 : elemSize Tryz.prog 89 = some 1 := by kernel_rfl
theorem es90 : elemSize Tryz.prog 90 = some 3 := by kernel_rfl
theorem es91 : elemSize Tryz.prog 91 = some 3 := by kernel_rfl
theorem es99 : elemSize Tryz.prog 99 = some 2 := by kernel_rfl
theorem es105 : elemSize Tryz.prog 105 = some 2 := by kernel_rfl
theorem es224 : elemSize Tryz.prog 224 = some 1 := by kernel_rfl
theorem es225 : elemSize Tryz.prog 225 = some 1 := by kernel_rfl
theorem isl22 : isSlice Tryz.prog 22 = true := by kernel_rfl
theorem isl23 : isSlice Tryz.prog 23 = true := by kernel_rfl
theorem isl24 : isSlice Tryz.prog 24 = true := by kernel_rfl
theorem isl25 : isSlice Tryz.prog 25 = true := by kernel_rfl
theorem isl28 : isSlice Tryz.prog 28 = true := by kernel_rfl
theorem isl29 : isSlice Tryz.prog 29 = true := by kernel_rfl
theorem isl32 : isSlice Tryz.prog 32 = true := by kernel_rfl
theorem isl33 : isSlice Tryz.prog 33 = true := by kernel_rfl
theorem isl34 : isSlice Tryz.prog 34 = true := by kernel_rfl
theorem isl35 : isSlice Tryz.prog 35 = true := by kernel_rfl
theorem isl47 : isSlice Tryz.prog 47 = true := by kernel_rfl
theorem isl71 : isSlice Tryz.prog 71 = true := by kernel_rfl
theorem isl89 : isSlice Tryz.prog 89 = true := by kernel_rfl
theorem isl90 : isSlice Tryz.prog 90 = true := by kernel_rfl
theorem isl91 : isSlice Tryz.prog 91 = true := by kernel_rfl
theorem isl99 : isSlice Tryz.prog 99 = true := by kernel_rfl
theorem isl105 : isSlice Tryz.prog 105 = true := by kernel_rfl
theorem isl224 : isSlice Tryz.prog 224 = true := by kernel_rfl
theorem isl225 : isSlice Tryz.prog 225 = true := by kernel_rfl
theorem ist9 : isString Tryz.prog 9 = true := by kernel_rfl
theorem un2 : Tryz.prog.underlying 2 = some (.int .i64) := by kernel_rfl
theorem un3 : Tryz.prog.underlying 3 = some (.int .i64) := by kernel_rfl
theorem un4 : Tryz.prog.underlying 4 = some (.bool) := by kernel_rfl
theorem un5 : Tryz.prog.underlying 5 = some (.int .u8) := by kernel_rfl
theorem un9 : Tryz.prog.underlying 9 = some (.string) := by kernel_rfl
theorem un22 : Tryz.prog.underlying 22 = some (.slice 95) := by kernel_rfl
theorem un23 : Tryz.prog.underlying 23 = some (.slice 73) := by kernel_rfl
theorem un24 : Tryz.prog.underlying 24 = some (.slice 39) := by kernel_rfl
theorem un25 : Tryz.prog.underlying 25 = some (.slice 101) := by kernel_rfl
theorem un28 : Tryz.prog.underlying 28 = some (.slice 58) := by kernel_rfl
theorem un29 : Tryz.prog.underlying 29 = some (.slice 3) := by kernel_rfl
theorem un32 : Tryz.prog.underlying 32 = some (.slice 111) := by kernel_rfl
theorem un33 : Tryz.prog.underlying 33 = some (.slice 70) := by kernel_rfl
theorem un34 : Tryz.prog.underlying 34 = some (.slice 37) := by kernel_rfl
theorem un35 : Tryz.prog.underlying 35 = some (.slice 105) := by kernel_rfl
theorem un44 : Tryz.prog.underlying 44 = some (.int .i64) := by kernel_rfl
theorem un47 : Tryz.prog.underlying 47 = some (.slice 59) := by kernel_rfl
theorem un71 : Tryz.prog.underlying 71 = some (.slice 153) := by kernel_rfl
theorem un81 : Tryz.prog.underlying 81 = some (.int .i64) := by kernel_rfl
theorem un89 : Tryz.prog.underlying 89 = some (.slice 9) := by kernel_rfl
theorem un90 : Tryz.prog.underlying 90 = some (.slice 149) := by kernel_rfl
theorem un91 : Tryz.prog.underlying 91 = some (.slice 93) := by kernel_rfl
theorem un99 : Tryz.prog.underlying 99 = some (.slice 155) := by kernel_rfl
theorem un105 : Tryz.prog.underlying 105 = some (.slice 108) := by kernel_rfl
theorem un139 : Tryz.prog.underlying 139 = some (.map 3 138) := by kernel_rfl
theorem un204 : Tryz.prog.underlying 204 = some (.map 9 93) := by kernel_rfl
theorem un205 : Tryz.prog.underlying 205 = some (.map 3 3) := by kernel_rfl
theorem un224 : Tryz.prog.underlying 224 = some (.slice 34) := by kernel_rfl
theorem un225 : Tryz.prog.underlying 225 = some (.slice 29) := by kernel_rfl
theorem zi3 : zinfo Tryz.prog 3 = some (some (.int .i64 0), 1, 8) := by kernel_rfl
theorem zi4 : zinfo Tryz.prog 4 = some (some (.bool false), 1, 1) := by kernel_rfl
theorem zi9 : zinfo Tryz.prog 9 = some (some (.string ByteArray.empty), 1, 16) := by kernel_rfl
theorem zi24 : zinfo Tryz.prog 24 = some (some (.slice none 0 0), 1, 24) := by kernel_rfl
theorem zi27 : zinfo Tryz.prog 27 = some (some (.agg #[.slice none 0 0, .slice none 0 0, .slice none 0 0, .slice none 0 0]), 4, 96) := by kernel_rfl
theorem zi28 : zinfo Tryz.prog 28 = some (some (.slice none 0 0), 1, 24) := by kernel_rfl
theorem zi29 : zinfo Tryz.prog 29 = some (some (.slice none 0 0), 1, 24) := by kernel_rfl
theorem zi31 : zinfo Tryz.prog 31 = some (some (.agg #[.slice none 0 0, .slice none 0 0, .slice none 0 0, .slice none 0 0, .slice none 0 0, .slice none 0 0]), 6, 144) := by kernel_rfl
theorem zi32 : zinfo Tryz.prog 32 = some (some (.slice none 0 0), 1, 24) := by kernel_rfl
theorem zi33 : zinfo Tryz.prog 33 = some (some (.slice none 0 0), 1, 24) := by kernel_rfl
theorem zi34 : zinfo Tryz.prog 34 = some (some (.slice none 0 0), 1, 24) := by kernel_rfl
theorem zi35 : zinfo Tryz.prog 35 = some (some (.slice none 0 0), 1, 24) := by kernel_rfl
theorem zi37 : zinfo Tryz.prog 37 = some (some (.agg #[.int .i64 0, .int .i64 0, .int .i64 0, .string ByteArray.empty, .int .i64 0, .slice none 0 0, .slice none 0 0, .slice none 0 0, .int .i64 0]), 9, 128) := by kernel_rfl
theorem zi39 : zinfo Tryz.prog 39 = some (some (.agg #[.string ByteArray.empty, .int .i64 0, .slice none 0 0, .slice none 0 0, .slice none 0 0, .int .i64 0, .int .i64 0, .int .i64 0, .int .i64 0, .string ByteArray.empty, .int .i64 0, .slice none 0 0, .slice none 0 0, .slice none 0 0, .int .i64 0, .string ByteArray.empty, .int .i64 0]), 17, 256) := by kernel_rfl
theorem zi41 : zinfo Tryz.prog 41 = some (some (.agg #[.int .i64 0, .int .i64 0, .slice none 0 0, .int .i64 0, .int .i64 0, .string ByteArray.empty, .int .i64 0, .slice none 0 0, .slice none 0 0, .slice none 0 0, .int .i64 0, .int .i64 0, .int .i64 0, .int .i64 0, .string ByteArray.empty, .int .i64 0, .slice none 0 0, .slice none 0 0, .slice none 0 0, .int .i64 0, .string ByteArray.empty, .int .i64 0]), 22, 312) := by kernel_rfl
theorem zi44 : zinfo Tryz.prog 44 = some (some (.int .i64 0), 1, 8) := by kernel_rfl
theorem zi47 : zinfo Tryz.prog 47 = some (some (.slice none 0 0), 1, 24) := by kernel_rfl
theorem zi49 : zinfo Tryz.prog 49 = some (some (.agg #[.slice none 0 0, .slice none 0 0, .slice none 0 0, .slice none 0 0, .slice none 0 0, .slice none 0 0]), 6, 144) := by kernel_rfl
theorem zi53 : zinfo Tryz.prog 53 = some (some (.agg #[.int .i64 0, .int .i64 0, .slice none 0 0, .int .i64 0, .int .i64 0, .string ByteArray.empty, .int .i64 0, .slice none 0 0, .slice none 0 0, .slice none 0 0, .int .i64 0, .int .i64 0, .int .i64 0, .int .i64 0, .string ByteArray.empty, .int .i64 0, .slice none 0 0, .slice none 0 0, .slice none 0 0, .int .i64 0, .string ByteArray.empty, .int .i64 0]), 22, 312) := by kernel_rfl
theorem zi58 : zinfo Tryz.prog 58 = some (some (.agg #[.int .i64 0, .int .i64 0, .int .i64 0, .int .i64 0, .string ByteArray.empty, .int .i64 0, .slice none 0 0, .slice none 0 0, .slice none 0 0, .int .i64 0, .bool false]), 11, 144) := by kernel_rfl
theorem zi59 : zinfo Tryz.prog 59 = some (some (.agg #[.int .i64 0, .int .i64 0, .int .i64 0, .int .i64 0, .string ByteArray.empty, .int .i64 0, .slice none 0 0, .slice none 0 0, .slice none 0 0, .int .i64 0, .bool false]), 11, 144) := by kernel_rfl
theorem zi62 : zinfo Tryz.prog 62 = some (some (.agg #[.slice none 0 0, .int .i64 0, .int .i64 0]), 3, 40) := by kernel_rfl
theorem zi70 : zinfo Tryz.prog 70 = some (some (.agg #[.int .i64 0, .int .i64 0]), 2, 16) := by kernel_rfl
theorem zi71 : zinfo Tryz.prog 71 = some (some (.slice none 0 0), 1, 24) := by kernel_rfl
theorem zi73 : zinfo Tryz.prog 73 = some (some (.agg #[.int .i64 0, .slice none 0 0, .slice none 0 0, .int .i64 0]), 4, 64) := by kernel_rfl
theorem zi77 : zinfo Tryz.prog 77 = some (some (.pointer none), 1, 8) := by kernel_rfl
theorem zi86 : zinfo Tryz.prog 86 = some (some (.agg #[.slice none 0 0, .slice none 0 0, .slice none 0 0, .slice none 0 0, .slice none 0 0, .slice none 0 0, .int .i64 0, .int .i64 0, .slice none 0 0, .int .i64 0, .int .i64 0, .string ByteArray.empty, .int .i64 0, .slice none 0 0, .slice none 0 0, .slice none 0 0, .int .i64 0, .int .i64 0, .int .i64 0, .int .i64 0, .string ByteArray.empty, .int .i64 0, .slice none 0 0, .slice none 0 0, .slice none 0 0, .int .i64 0, .string ByteArray.empty, .int .i64 0, .string ByteArray.empty, .int .i64 0, .slice none 0 0, .slice none 0 0, .slice none 0 0, .int .i64 0, .int .i64 0, .int .i64 0, .int .i64 0, .string ByteArray.empty, .int .i64 0, .slice none 0 0, .slice none 0 0, .slice none 0 0, .int .i64 0, .string ByteArray.empty, .int .i64 0, .int .i64 0, .int .i64 0, .int .i64 0, .string ByteArray.empty, .int .i64 0, .slice none 0 0, .slice none 0 0, .slice none 0 0, .int .i64 0, .int .i64 0]), 55, 848) := by kernel_rfl
theorem zi89 : zinfo Tryz.prog 89 = some (some (.slice none 0 0), 1, 24) := by kernel_rfl
theorem zi90 : zinfo Tryz.prog 90 = some (some (.slice none 0 0), 1, 24) := by kernel_rfl
theorem zi91 : zinfo Tryz.prog 91 = some (some (.slice none 0 0), 1, 24) := by kernel_rfl
theorem zi93 : zinfo Tryz.prog 93 = some (some (.agg #[.int .i64 0, .string ByteArray.empty, .slice none 0 0]), 3, 48) := by kernel_rfl
theorem zi95 : zinfo Tryz.prog 95 = some (some (.agg #[.string ByteArray.empty, .slice none 0 0, .int .i64 0, .slice none 0 0, .int .i64 0, .string ByteArray.empty, .slice none 0 0, .bool false, .int .i64 0]), 9, 136) := by kernel_rfl
theorem zi99 : zinfo Tryz.prog 99 = some (some (.slice none 0 0), 1, 24) := by kernel_rfl
theorem zi101 : zinfo Tryz.prog 101 = some (some (.agg #[.string ByteArray.empty, .slice none 0 0, .slice none 0 0, .int .i64 0, .slice none 0 0]), 5, 96) := by kernel_rfl
theorem zi105 : zinfo Tryz.prog 105 = some (some (.slice none 0 0), 1, 24) := by kernel_rfl
theorem zi108 : zinfo Tryz.prog 108 = some (some (.agg #[.int .i64 0, .string ByteArray.empty]), 2, 24) := by kernel_rfl
theorem zi111 : zinfo Tryz.prog 111 = some (some (.agg #[.string ByteArray.empty, .int .i64 0, .string ByteArray.empty, .slice none 0 0]), 4, 64) := by kernel_rfl
theorem zi131 : zinfo Tryz.prog 131 = some (some (.pointer none), 1, 8) := by kernel_rfl
theorem zi134 : zinfo Tryz.prog 134 = some (some (.agg #[.pointer none, .pointer none, .int .i64 0, .int .i64 0, .slice none 0 0, .int .i64 0, .int .i64 0, .string ByteArray.empty, .int .i64 0, .slice none 0 0, .slice none 0 0, .slice none 0 0, .int .i64 0, .int .i64 0, .int .i64 0, .int .i64 0, .string ByteArray.empty, .int .i64 0, .slice none 0 0, .slice none 0 0, .slice none 0 0, .int .i64 0, .string ByteArray.empty, .int .i64 0]), 24, 328) := by kernel_rfl
theorem zi149 : zinfo Tryz.prog 149 = some (some (.agg #[.string ByteArray.empty, .slice none 0 0, .slice none 0 0]), 3, 64) := by kernel_rfl
theorem zi153 : zinfo Tryz.prog 153 = some (some (.agg #[.string ByteArray.empty, .slice none 0 0]), 2, 40) := by kernel_rfl
theorem zi155 : zinfo Tryz.prog 155 = some (some (.agg #[.int .i64 0, .slice none 0 0]), 2, 32) := by kernel_rfl
theorem zi185 : zinfo Tryz.prog 185 = some (some (.agg #[.slice none 0 0, .slice none 0 0]), 2, 48) := by kernel_rfl
theorem zi195 : zinfo Tryz.prog 195 = some (some (.agg #[.slice none 0 0, .slice none 0 0]), 2, 48) := by kernel_rfl
theorem zi205 : zinfo Tryz.prog 205 = some (some (.map none), 1, 8) := by kernel_rfl
theorem zi215 : zinfo Tryz.prog 215 = some (some (.pointer none), 1, 8) := by kernel_rfl
theorem zi217 : zinfo Tryz.prog 217 = some (some (.agg #[.map none, .map none]), 2, 16) := by kernel_rfl
theorem en5 : ∀ (xs : Array Value) (w : World), (callFunc 5 xs).run Tryz.prog w = .ok (.enter 5 xs) w := fun _ _ => by kernel_rfl
theorem en6 : ∀ (xs : Array Value) (w : World), (callFunc 6 xs).run Tryz.prog w = .ok (.enter 6 xs) w := fun _ _ => by kernel_rfl
theorem en7 : ∀ (xs : Array Value) (w : World), (callFunc 7 xs).run Tryz.prog w = .ok (.enter 7 xs) w := fun _ _ => by kernel_rfl
theorem en8 : ∀ (xs : Array Value) (w : World), (callFunc 8 xs).run Tryz.prog w = .ok (.enter 8 xs) w := fun _ _ => by kernel_rfl
theorem en9 : ∀ (xs : Array Value) (w : World), (callFunc 9 xs).run Tryz.prog w = .ok (.enter 9 xs) w := fun _ _ => by kernel_rfl
theorem en10 : ∀ (xs : Array Value) (w : World), (callFunc 10 xs).run Tryz.prog w = .ok (.enter 10 xs) w := fun _ _ => by kernel_rfl
theorem en11 : ∀ (xs : Array Value) (w : World), (callFunc 11 xs).run Tryz.prog w = .ok (.enter 11 xs) w := fun _ _ => by kernel_rfl
theorem en12 : ∀ (xs : Array Value) (w : World), (callFunc 12 xs).run Tryz.prog w = .ok (.enter 12 xs) w := fun _ _ => by kernel_rfl
theorem en13 : ∀ (xs : Array Value) (w : World), (callFunc 13 xs).run Tryz.prog w = .ok (.enter 13 xs) w := fun _ _ => by kernel_rfl
theorem en14 : ∀ (xs : Array Value) (w : World), (callFunc 14 xs).run Tryz.prog w = .ok (.enter 14 xs) w := fun _ _ => by kernel_rfl
theorem en15 : ∀ (xs : Array Value) (w : World), (callFunc 15 xs).run Tryz.prog w = .ok (.enter 15 xs) w := fun _ _ => by kernel_rfl
theorem en16 : ∀ (xs : Array Value) (w : World), (callFunc 16 xs).run Tryz.prog w = .ok (.enter 16 xs) w := fun _ _ => by kernel_rfl
theorem en17 : ∀ (xs : Array Value) (w : World), (callFunc 17 xs).run Tryz.prog w = .ok (.enter 17 xs) w := fun _ _ => by kernel_rfl
theorem en18 : ∀ (xs : Array Value) (w : World), (callFunc 18 xs).run Tryz.prog w = .ok (.enter 18 xs) w := fun _ _ => by kernel_rfl
theorem en19 : ∀ (xs : Array Value) (w : World), (callFunc 19 xs).run Tryz.prog w = .ok (.enter 19 xs) w := fun _ _ => by kernel_rfl
theorem en20 : ∀ (xs : Array Value) (w : World), (callFunc 20 xs).run Tryz.prog w = .ok (.enter 20 xs) w := fun _ _ => by kernel_rfl
theorem en21 : ∀ (xs : Array Value) (w : World), (callFunc 21 xs).run Tryz.prog w = .ok (.enter 21 xs) w := fun _ _ => by kernel_rfl
theorem en22 : ∀ (xs : Array Value) (w : World), (callFunc 22 xs).run Tryz.prog w = .ok (.enter 22 xs) w := fun _ _ => by kernel_rfl
theorem en23 : ∀ (xs : Array Value) (w : World), (callFunc 23 xs).run Tryz.prog w = .ok (.enter 23 xs) w := fun _ _ => by kernel_rfl
theorem en24 : ∀ (xs : Array Value) (w : World), (callFunc 24 xs).run Tryz.prog w = .ok (.enter 24 xs) w := fun _ _ => by kernel_rfl
theorem en25 : ∀ (xs : Array Value) (w : World), (callFunc 25 xs).run Tryz.prog w = .ok (.enter 25 xs) w := fun _ _ => by kernel_rfl
theorem en26 : ∀ (xs : Array Value) (w : World), (callFunc 26 xs).run Tryz.prog w = .ok (.enter 26 xs) w := fun _ _ => by kernel_rfl
theorem en27 : ∀ (xs : Array Value) (w : World), (callFunc 27 xs).run Tryz.prog w = .ok (.enter 27 xs) w := fun _ _ => by kernel_rfl
theorem en28 : ∀ (xs : Array Value) (w : World), (callFunc 28 xs).run Tryz.prog w = .ok (.enter 28 xs) w := fun _ _ => by kernel_rfl
theorem en29 : ∀ (xs : Array Value) (w : World), (callFunc 29 xs).run Tryz.prog w = .ok (.enter 29 xs) w := fun _ _ => by kernel_rfl
theorem en30 : ∀ (xs : Array Value) (w : World), (callFunc 30 xs).run Tryz.prog w = .ok (.enter 30 xs) w := fun _ _ => by kernel_rfl
theorem en31 : ∀ (xs : Array Value) (w : World), (callFunc 31 xs).run Tryz.prog w = .ok (.enter 31 xs) w := fun _ _ => by kernel_rfl
theorem en32 : ∀ (xs : Array Value) (w : World), (callFunc 32 xs).run Tryz.prog w = .ok (.enter 32 xs) w := fun _ _ => by kernel_rfl
theorem en33 : ∀ (xs : Array Value) (w : World), (callFunc 33 xs).run Tryz.prog w = .ok (.enter 33 xs) w := fun _ _ => by kernel_rfl
theorem en34 : ∀ (xs : Array Value) (w : World), (callFunc 34 xs).run Tryz.prog w = .ok (.enter 34 xs) w := fun _ _ => by kernel_rfl
theorem en35 : ∀ (xs : Array Value) (w : World), (callFunc 35 xs).run Tryz.prog w = .ok (.enter 35 xs) w := fun _ _ => by kernel_rfl
theorem en36 : ∀ (xs : Array Value) (w : World), (callFunc 36 xs).run Tryz.prog w = .ok (.enter 36 xs) w := fun _ _ => by kernel_rfl
theorem en37 : ∀ (xs : Array Value) (w : World), (callFunc 37 xs).run Tryz.prog w = .ok (.enter 37 xs) w := fun _ _ => by kernel_rfl
theorem en38 : ∀ (xs : Array Value) (w : World), (callFunc 38 xs).run Tryz.prog w = .ok (.enter 38 xs) w := fun _ _ => by kernel_rfl
theorem en39 : ∀ (xs : Array Value) (w : World), (callFunc 39 xs).run Tryz.prog w = .ok (.enter 39 xs) w := fun _ _ => by kernel_rfl
theorem en40 : ∀ (xs : Array Value) (w : World), (callFunc 40 xs).run Tryz.prog w = .ok (.enter 40 xs) w := fun _ _ => by kernel_rfl
theorem en41 : ∀ (xs : Array Value) (w : World), (callFunc 41 xs).run Tryz.prog w = .ok (.enter 41 xs) w := fun _ _ => by kernel_rfl
theorem en42 : ∀ (xs : Array Value) (w : World), (callFunc 42 xs).run Tryz.prog w = .ok (.enter 42 xs) w := fun _ _ => by kernel_rfl
theorem en43 : ∀ (xs : Array Value) (w : World), (callFunc 43 xs).run Tryz.prog w = .ok (.enter 43 xs) w := fun _ _ => by kernel_rfl
theorem en44 : ∀ (xs : Array Value) (w : World), (callFunc 44 xs).run Tryz.prog w = .ok (.enter 44 xs) w := fun _ _ => by kernel_rfl
theorem en45 : ∀ (xs : Array Value) (w : World), (callFunc 45 xs).run Tryz.prog w = .ok (.enter 45 xs) w := fun _ _ => by kernel_rfl
theorem en46 : ∀ (xs : Array Value) (w : World), (callFunc 46 xs).run Tryz.prog w = .ok (.enter 46 xs) w := fun _ _ => by kernel_rfl
theorem en47 : ∀ (xs : Array Value) (w : World), (callFunc 47 xs).run Tryz.prog w = .ok (.enter 47 xs) w := fun _ _ => by kernel_rfl
theorem en48 : ∀ (xs : Array Value) (w : World), (callFunc 48 xs).run Tryz.prog w = .ok (.enter 48 xs) w := fun _ _ => by kernel_rfl
theorem en49 : ∀ (xs : Array Value) (w : World), (callFunc 49 xs).run Tryz.prog w = .ok (.enter 49 xs) w := fun _ _ => by kernel_rfl
theorem en50 : ∀ (xs : Array Value) (w : World), (callFunc 50 xs).run Tryz.prog w = .ok (.enter 50 xs) w := fun _ _ => by kernel_rfl
theorem en51 : ∀ (xs : Array Value) (w : World), (callFunc 51 xs).run Tryz.prog w = .ok (.enter 51 xs) w := fun _ _ => by kernel_rfl
theorem en52 : ∀ (xs : Array Value) (w : World), (callFunc 52 xs).run Tryz.prog w = .ok (.enter 52 xs) w := fun _ _ => by kernel_rfl
theorem en53 : ∀ (xs : Array Value) (w : World), (callFunc 53 xs).run Tryz.prog w = .ok (.enter 53 xs) w := fun _ _ => by kernel_rfl
theorem en54 : ∀ (xs : Array Value) (w : World), (callFunc 54 xs).run Tryz.prog w = .ok (.enter 54 xs) w := fun _ _ => by kernel_rfl
theorem en55 : ∀ (xs : Array Value) (w : World), (callFunc 55 xs).run Tryz.prog w = .ok (.enter 55 xs) w := fun _ _ => by kernel_rfl
theorem en56 : ∀ (xs : Array Value) (w : World), (callFunc 56 xs).run Tryz.prog w = .ok (.enter 56 xs) w := fun _ _ => by kernel_rfl
theorem en57 : ∀ (xs : Array Value) (w : World), (callFunc 57 xs).run Tryz.prog w = .ok (.enter 57 xs) w := fun _ _ => by kernel_rfl
theorem en58 : ∀ (xs : Array Value) (w : World), (callFunc 58 xs).run Tryz.prog w = .ok (.enter 58 xs) w := fun _ _ => by kernel_rfl
theorem en59 : ∀ (xs : Array Value) (w : World), (callFunc 59 xs).run Tryz.prog w = .ok (.enter 59 xs) w := fun _ _ => by kernel_rfl
theorem en60 : ∀ (xs : Array Value) (w : World), (callFunc 60 xs).run Tryz.prog w = .ok (.enter 60 xs) w := fun _ _ => by kernel_rfl
theorem en61 : ∀ (xs : Array Value) (w : World), (callFunc 61 xs).run Tryz.prog w = .ok (.enter 61 xs) w := fun _ _ => by kernel_rfl
theorem en62 : ∀ (xs : Array Value) (w : World), (callFunc 62 xs).run Tryz.prog w = .ok (.enter 62 xs) w := fun _ _ => by kernel_rfl
theorem en63 : ∀ (xs : Array Value) (w : World), (callFunc 63 xs).run Tryz.prog w = .ok (.enter 63 xs) w := fun _ _ => by kernel_rfl
theorem en64 : ∀ (xs : Array Value) (w : World), (callFunc 64 xs).run Tryz.prog w = .ok (.enter 64 xs) w := fun _ _ => by kernel_rfl
theorem en65 : ∀ (xs : Array Value) (w : World), (callFunc 65 xs).run Tryz.prog w = .ok (.enter 65 xs) w := fun _ _ => by kernel_rfl
theorem en66 : ∀ (xs : Array Value) (w : World), (callFunc 66 xs).run Tryz.prog w = .ok (.enter 66 xs) w := fun _ _ => by kernel_rfl
theorem en67 : ∀ (xs : Array Value) (w : World), (callFunc 67 xs).run Tryz.prog w = .ok (.enter 67 xs) w := fun _ _ => by kernel_rfl
theorem en68 : ∀ (xs : Array Value) (w : World), (callFunc 68 xs).run Tryz.prog w = .ok (.enter 68 xs) w := fun _ _ => by kernel_rfl
theorem en69 : ∀ (xs : Array Value) (w : World), (callFunc 69 xs).run Tryz.prog w = .ok (.enter 69 xs) w := fun _ _ => by kernel_rfl
theorem en70 : ∀ (xs : Array Value) (w : World), (callFunc 70 xs).run Tryz.prog w = .ok (.enter 70 xs) w := fun _ _ => by kernel_rfl
theorem en71 : ∀ (xs : Array Value) (w : World), (callFunc 71 xs).run Tryz.prog w = .ok (.enter 71 xs) w := fun _ _ => by kernel_rfl
theorem en72 : ∀ (xs : Array Value) (w : World), (callFunc 72 xs).run Tryz.prog w = .ok (.enter 72 xs) w := fun _ _ => by kernel_rfl
theorem en73 : ∀ (xs : Array Value) (w : World), (callFunc 73 xs).run Tryz.prog w = .ok (.enter 73 xs) w := fun _ _ => by kernel_rfl
theorem en74 : ∀ (xs : Array Value) (w : World), (callFunc 74 xs).run Tryz.prog w = .ok (.enter 74 xs) w := fun _ _ => by kernel_rfl
theorem en75 : ∀ (xs : Array Value) (w : World), (callFunc 75 xs).run Tryz.prog w = .ok (.enter 75 xs) w := fun _ _ => by kernel_rfl
theorem en76 : ∀ (xs : Array Value) (w : World), (callFunc 76 xs).run Tryz.prog w = .ok (.enter 76 xs) w := fun _ _ => by kernel_rfl
theorem en77 : ∀ (xs : Array Value) (w : World), (callFunc 77 xs).run Tryz.prog w = .ok (.enter 77 xs) w := fun _ _ => by kernel_rfl
theorem en78 : ∀ (xs : Array Value) (w : World), (callFunc 78 xs).run Tryz.prog w = .ok (.enter 78 xs) w := fun _ _ => by kernel_rfl
theorem en79 : ∀ (xs : Array Value) (w : World), (callFunc 79 xs).run Tryz.prog w = .ok (.enter 79 xs) w := fun _ _ => by kernel_rfl
theorem en80 : ∀ (xs : Array Value) (w : World), (callFunc 80 xs).run Tryz.prog w = .ok (.enter 80 xs) w := fun _ _ => by kernel_rfl
theorem en81 : ∀ (xs : Array Value) (w : World), (callFunc 81 xs).run Tryz.prog w = .ok (.enter 81 xs) w := fun _ _ => by kernel_rfl
theorem en82 : ∀ (xs : Array Value) (w : World), (callFunc 82 xs).run Tryz.prog w = .ok (.enter 82 xs) w := fun _ _ => by kernel_rfl
theorem en83 : ∀ (xs : Array Value) (w : World), (callFunc 83 xs).run Tryz.prog w = .ok (.enter 83 xs) w := fun _ _ => by kernel_rfl
theorem en84 : ∀ (xs : Array Value) (w : World), (callFunc 84 xs).run Tryz.prog w = .ok (.enter 84 xs) w := fun _ _ => by kernel_rfl
theorem en85 : ∀ (xs : Array Value) (w : World), (callFunc 85 xs).run Tryz.prog w = .ok (.enter 85 xs) w := fun _ _ => by kernel_rfl
theorem en86 : ∀ (xs : Array Value) (w : World), (callFunc 86 xs).run Tryz.prog w = .ok (.enter 86 xs) w := fun _ _ => by kernel_rfl
theorem en87 : ∀ (xs : Array Value) (w : World), (callFunc 87 xs).run Tryz.prog w = .ok (.enter 87 xs) w := fun _ _ => by kernel_rfl
theorem en88 : ∀ (xs : Array Value) (w : World), (callFunc 88 xs).run Tryz.prog w = .ok (.enter 88 xs) w := fun _ _ => by kernel_rfl
theorem en89 : ∀ (xs : Array Value) (w : World), (callFunc 89 xs).run Tryz.prog w = .ok (.enter 89 xs) w := fun _ _ => by kernel_rfl
theorem en90 : ∀ (xs : Array Value) (w : World), (callFunc 90 xs).run Tryz.prog w = .ok (.enter 90 xs) w := fun _ _ => by kernel_rfl
theorem en91 : ∀ (xs : Array Value) (w : World), (callFunc 91 xs).run Tryz.prog w = .ok (.enter 91 xs) w := fun _ _ => by kernel_rfl
theorem en92 : ∀ (xs : Array Value) (w : World), (callFunc 92 xs).run Tryz.prog w = .ok (.enter 92 xs) w := fun _ _ => by kernel_rfl
theorem en93 : ∀ (xs : Array Value) (w : World), (callFunc 93 xs).run Tryz.prog w = .ok (.enter 93 xs) w := fun _ _ => by kernel_rfl
theorem en94 : ∀ (xs : Array Value) (w : World), (callFunc 94 xs).run Tryz.prog w = .ok (.enter 94 xs) w := fun _ _ => by kernel_rfl
theorem en95 : ∀ (xs : Array Value) (w : World), (callFunc 95 xs).run Tryz.prog w = .ok (.enter 95 xs) w := fun _ _ => by kernel_rfl
theorem en96 : ∀ (xs : Array Value) (w : World), (callFunc 96 xs).run Tryz.prog w = .ok (.enter 96 xs) w := fun _ _ => by kernel_rfl
theorem en97 : ∀ (xs : Array Value) (w : World), (callFunc 97 xs).run Tryz.prog w = .ok (.enter 97 xs) w := fun _ _ => by kernel_rfl
theorem en98 : ∀ (xs : Array Value) (w : World), (callFunc 98 xs).run Tryz.prog w = .ok (.enter 98 xs) w := fun _ _ => by kernel_rfl
theorem en99 : ∀ (xs : Array Value) (w : World), (callFunc 99 xs).run Tryz.prog w = .ok (.enter 99 xs) w := fun _ _ => by kernel_rfl
theorem en100 : ∀ (xs : Array Value) (w : World), (callFunc 100 xs).run Tryz.prog w = .ok (.enter 100 xs) w := fun _ _ => by kernel_rfl
theorem en101 : ∀ (xs : Array Value) (w : World), (callFunc 101 xs).run Tryz.prog w = .ok (.enter 101 xs) w := fun _ _ => by kernel_rfl
theorem en102 : ∀ (xs : Array Value) (w : World), (callFunc 102 xs).run Tryz.prog w = .ok (.enter 102 xs) w := fun _ _ => by kernel_rfl
theorem en103 : ∀ (xs : Array Value) (w : World), (callFunc 103 xs).run Tryz.prog w = .ok (.enter 103 xs) w := fun _ _ => by kernel_rfl
theorem en104 : ∀ (xs : Array Value) (w : World), (callFunc 104 xs).run Tryz.prog w = .ok (.enter 104 xs) w := fun _ _ => by kernel_rfl
theorem en105 : ∀ (xs : Array Value) (w : World), (callFunc 105 xs).run Tryz.prog w = .ok (.enter 105 xs) w := fun _ _ => by kernel_rfl
theorem en106 : ∀ (xs : Array Value) (w : World), (callFunc 106 xs).run Tryz.prog w = .ok (.enter 106 xs) w := fun _ _ => by kernel_rfl
theorem en107 : ∀ (xs : Array Value) (w : World), (callFunc 107 xs).run Tryz.prog w = .ok (.enter 107 xs) w := fun _ _ => by kernel_rfl
theorem en108 : ∀ (xs : Array Value) (w : World), (callFunc 108 xs).run Tryz.prog w = .ok (.enter 108 xs) w := fun _ _ => by kernel_rfl
theorem en109 : ∀ (xs : Array Value) (w : World), (callFunc 109 xs).run Tryz.prog w = .ok (.enter 109 xs) w := fun _ _ => by kernel_rfl
theorem en110 : ∀ (xs : Array Value) (w : World), (callFunc 110 xs).run Tryz.prog w = .ok (.enter 110 xs) w := fun _ _ => by kernel_rfl
theorem en111 : ∀ (xs : Array Value) (w : World), (callFunc 111 xs).run Tryz.prog w = .ok (.enter 111 xs) w := fun _ _ => by kernel_rfl
theorem en112 : ∀ (xs : Array Value) (w : World), (callFunc 112 xs).run Tryz.prog w = .ok (.enter 112 xs) w := fun _ _ => by kernel_rfl
theorem en113 : ∀ (xs : Array Value) (w : World), (callFunc 113 xs).run Tryz.prog w = .ok (.enter 113 xs) w := fun _ _ => by kernel_rfl
theorem en114 : ∀ (xs : Array Value) (w : World), (callFunc 114 xs).run Tryz.prog w = .ok (.enter 114 xs) w := fun _ _ => by kernel_rfl
theorem en115 : ∀ (xs : Array Value) (w : World), (callFunc 115 xs).run Tryz.prog w = .ok (.enter 115 xs) w := fun _ _ => by kernel_rfl
theorem en116 : ∀ (xs : Array Value) (w : World), (callFunc 116 xs).run Tryz.prog w = .ok (.enter 116 xs) w := fun _ _ => by kernel_rfl
theorem en117 : ∀ (xs : Array Value) (w : World), (callFunc 117 xs).run Tryz.prog w = .ok (.enter 117 xs) w := fun _ _ => by kernel_rfl
theorem en118 : ∀ (xs : Array Value) (w : World), (callFunc 118 xs).run Tryz.prog w = .ok (.enter 118 xs) w := fun _ _ => by kernel_rfl
theorem en119 : ∀ (xs : Array Value) (w : World), (callFunc 119 xs).run Tryz.prog w = .ok (.enter 119 xs) w := fun _ _ => by kernel_rfl
theorem en120 : ∀ (xs : Array Value) (w : World), (callFunc 120 xs).run Tryz.prog w = .ok (.enter 120 xs) w := fun _ _ => by kernel_rfl
theorem en121 : ∀ (xs : Array Value) (w : World), (callFunc 121 xs).run Tryz.prog w = .ok (.enter 121 xs) w := fun _ _ => by kernel_rfl
theorem en122 : ∀ (xs : Array Value) (w : World), (callFunc 122 xs).run Tryz.prog w = .ok (.enter 122 xs) w := fun _ _ => by kernel_rfl
theorem en123 : ∀ (xs : Array Value) (w : World), (callFunc 123 xs).run Tryz.prog w = .ok (.enter 123 xs) w := fun _ _ => by kernel_rfl
theorem en124 : ∀ (xs : Array Value) (w : World), (callFunc 124 xs).run Tryz.prog w = .ok (.enter 124 xs) w := fun _ _ => by kernel_rfl
theorem en125 : ∀ (xs : Array Value) (w : World), (callFunc 125 xs).run Tryz.prog w = .ok (.enter 125 xs) w := fun _ _ => by kernel_rfl
theorem en126 : ∀ (xs : Array Value) (w : World), (callFunc 126 xs).run Tryz.prog w = .ok (.enter 126 xs) w := fun _ _ => by kernel_rfl
theorem en127 : ∀ (xs : Array Value) (w : World), (callFunc 127 xs).run Tryz.prog w = .ok (.enter 127 xs) w := fun _ _ => by kernel_rfl
theorem en128 : ∀ (xs : Array Value) (w : World), (callFunc 128 xs).run Tryz.prog w = .ok (.enter 128 xs) w := fun _ _ => by kernel_rfl
theorem en129 : ∀ (xs : Array Value) (w : World), (callFunc 129 xs).run Tryz.prog w = .ok (.enter 129 xs) w := fun _ _ => by kernel_rfl
theorem en130 : ∀ (xs : Array Value) (w : World), (callFunc 130 xs).run Tryz.prog w = .ok (.enter 130 xs) w := fun _ _ => by kernel_rfl
theorem en131 : ∀ (xs : Array Value) (w : World), (callFunc 131 xs).run Tryz.prog w = .ok (.enter 131 xs) w := fun _ _ => by kernel_rfl
theorem en132 : ∀ (xs : Array Value) (w : World), (callFunc 132 xs).run Tryz.prog w = .ok (.enter 132 xs) w := fun _ _ => by kernel_rfl
theorem en133 : ∀ (xs : Array Value) (w : World), (callFunc 133 xs).run Tryz.prog w = .ok (.enter 133 xs) w := fun _ _ => by kernel_rfl
theorem en134 : ∀ (xs : Array Value) (w : World), (callFunc 134 xs).run Tryz.prog w = .ok (.enter 134 xs) w := fun _ _ => by kernel_rfl
theorem en135 : ∀ (xs : Array Value) (w : World), (callFunc 135 xs).run Tryz.prog w = .ok (.enter 135 xs) w := fun _ _ => by kernel_rfl
theorem en136 : ∀ (xs : Array Value) (w : World), (callFunc 136 xs).run Tryz.prog w = .ok (.enter 136 xs) w := fun _ _ => by kernel_rfl
theorem en137 : ∀ (xs : Array Value) (w : World), (callFunc 137 xs).run Tryz.prog w = .ok (.enter 137 xs) w := fun _ _ => by kernel_rfl
theorem en138 : ∀ (xs : Array Value) (w : World), (callFunc 138 xs).run Tryz.prog w = .ok (.enter 138 xs) w := fun _ _ => by kernel_rfl
theorem en139 : ∀ (xs : Array Value) (w : World), (callFunc 139 xs).run Tryz.prog w = .ok (.enter 139 xs) w := fun _ _ => by kernel_rfl
theorem en140 : ∀ (xs : Array Value) (w : World), (callFunc 140 xs).run Tryz.prog w = .ok (.enter 140 xs) w := fun _ _ => by kernel_rfl
theorem en141 : ∀ (xs : Array Value) (w : World), (callFunc 141 xs).run Tryz.prog w = .ok (.enter 141 xs) w := fun _ _ => by kernel_rfl
theorem en142 : ∀ (xs : Array Value) (w : World), (callFunc 142 xs).run Tryz.prog w = .ok (.enter 142 xs) w := fun _ _ => by kernel_rfl
theorem en143 : ∀ (xs : Array Value) (w : World), (callFunc 143 xs).run Tryz.prog w = .ok (.enter 143 xs) w := fun _ _ => by kernel_rfl
theorem en144 : ∀ (xs : Array Value) (w : World), (callFunc 144 xs).run Tryz.prog w = .ok (.enter 144 xs) w := fun _ _ => by kernel_rfl
theorem en145 : ∀ (xs : Array Value) (w : World), (callFunc 145 xs).run Tryz.prog w = .ok (.enter 145 xs) w := fun _ _ => by kernel_rfl
theorem en146 : ∀ (xs : Array Value) (w : World), (callFunc 146 xs).run Tryz.prog w = .ok (.enter 146 xs) w := fun _ _ => by kernel_rfl
theorem en147 : ∀ (xs : Array Value) (w : World), (callFunc 147 xs).run Tryz.prog w = .ok (.enter 147 xs) w := fun _ _ => by kernel_rfl
theorem en148 : ∀ (xs : Array Value) (w : World), (callFunc 148 xs).run Tryz.prog w = .ok (.enter 148 xs) w := fun _ _ => by kernel_rfl
theorem en149 : ∀ (xs : Array Value) (w : World), (callFunc 149 xs).run Tryz.prog w = .ok (.enter 149 xs) w := fun _ _ => by kernel_rfl
theorem en150 : ∀ (xs : Array Value) (w : World), (callFunc 150 xs).run Tryz.prog w = .ok (.enter 150 xs) w := fun _ _ => by kernel_rfl
theorem en151 : ∀ (xs : Array Value) (w : World), (callFunc 151 xs).run Tryz.prog w = .ok (.enter 151 xs) w := fun _ _ => by kernel_rfl
theorem en152 : ∀ (xs : Array Value) (w : World), (callFunc 152 xs).run Tryz.prog w = .ok (.enter 152 xs) w := fun _ _ => by kernel_rfl
theorem en153 : ∀ (xs : Array Value) (w : World), (callFunc 153 xs).run Tryz.prog w = .ok (.enter 153 xs) w := fun _ _ => by kernel_rfl
theorem en154 : ∀ (xs : Array Value) (w : World), (callFunc 154 xs).run Tryz.prog w = .ok (.enter 154 xs) w := fun _ _ => by kernel_rfl
theorem en155 : ∀ (xs : Array Value) (w : World), (callFunc 155 xs).run Tryz.prog w = .ok (.enter 155 xs) w := fun _ _ => by kernel_rfl
theorem en156 : ∀ (xs : Array Value) (w : World), (callFunc 156 xs).run Tryz.prog w = .ok (.enter 156 xs) w := fun _ _ => by kernel_rfl
theorem en157 : ∀ (xs : Array Value) (w : World), (callFunc 157 xs).run Tryz.prog w = .ok (.enter 157 xs) w := fun _ _ => by kernel_rfl
theorem en158 : ∀ (xs : Array Value) (w : World), (callFunc 158 xs).run Tryz.prog w = .ok (.enter 158 xs) w := fun _ _ => by kernel_rfl
theorem en159 : ∀ (xs : Array Value) (w : World), (callFunc 159 xs).run Tryz.prog w = .ok (.enter 159 xs) w := fun _ _ => by kernel_rfl
theorem en160 : ∀ (xs : Array Value) (w : World), (callFunc 160 xs).run Tryz.prog w = .ok (.enter 160 xs) w := fun _ _ => by kernel_rfl
theorem en161 : ∀ (xs : Array Value) (w : World), (callFunc 161 xs).run Tryz.prog w = .ok (.enter 161 xs) w := fun _ _ => by kernel_rfl
theorem en162 : ∀ (xs : Array Value) (w : World), (callFunc 162 xs).run Tryz.prog w = .ok (.enter 162 xs) w := fun _ _ => by kernel_rfl
theorem en163 : ∀ (xs : Array Value) (w : World), (callFunc 163 xs).run Tryz.prog w = .ok (.enter 163 xs) w := fun _ _ => by kernel_rfl
theorem en164 : ∀ (xs : Array Value) (w : World), (callFunc 164 xs).run Tryz.prog w = .ok (.enter 164 xs) w := fun _ _ => by kernel_rfl
theorem en165 : ∀ (xs : Array Value) (w : World), (callFunc 165 xs).run Tryz.prog w = .ok (.enter 165 xs) w := fun _ _ => by kernel_rfl
theorem en166 : ∀ (xs : Array Value) (w : World), (callFunc 166 xs).run Tryz.prog w = .ok (.enter 166 xs) w := fun _ _ => by kernel_rfl
theorem en167 : ∀ (xs : Array Value) (w : World), (callFunc 167 xs).run Tryz.prog w = .ok (.enter 167 xs) w := fun _ _ => by kernel_rfl
theorem en168 : ∀ (xs : Array Value) (w : World), (callFunc 168 xs).run Tryz.prog w = .ok (.enter 168 xs) w := fun _ _ => by kernel_rfl
theorem en169 : ∀ (xs : Array Value) (w : World), (callFunc 169 xs).run Tryz.prog w = .ok (.enter 169 xs) w := fun _ _ => by kernel_rfl
theorem en170 : ∀ (xs : Array Value) (w : World), (callFunc 170 xs).run Tryz.prog w = .ok (.enter 170 xs) w := fun _ _ => by kernel_rfl
theorem en171 : ∀ (xs : Array Value) (w : World), (callFunc 171 xs).run Tryz.prog w = .ok (.enter 171 xs) w := fun _ _ => by kernel_rfl
theorem en172 : ∀ (xs : Array Value) (w : World), (callFunc 172 xs).run Tryz.prog w = .ok (.enter 172 xs) w := fun _ _ => by kernel_rfl
theorem en173 : ∀ (xs : Array Value) (w : World), (callFunc 173 xs).run Tryz.prog w = .ok (.enter 173 xs) w := fun _ _ => by kernel_rfl
theorem en174 : ∀ (xs : Array Value) (w : World), (callFunc 174 xs).run Tryz.prog w = .ok (.enter 174 xs) w := fun _ _ => by kernel_rfl
theorem en175 : ∀ (xs : Array Value) (w : World), (callFunc 175 xs).run Tryz.prog w = .ok (.enter 175 xs) w := fun _ _ => by kernel_rfl
theorem en176 : ∀ (xs : Array Value) (w : World), (callFunc 176 xs).run Tryz.prog w = .ok (.enter 176 xs) w := fun _ _ => by kernel_rfl
theorem en177 : ∀ (xs : Array Value) (w : World), (callFunc 177 xs).run Tryz.prog w = .ok (.enter 177 xs) w := fun _ _ => by kernel_rfl
theorem en178 : ∀ (xs : Array Value) (w : World), (callFunc 178 xs).run Tryz.prog w = .ok (.enter 178 xs) w := fun _ _ => by kernel_rfl
theorem en179 : ∀ (xs : Array Value) (w : World), (callFunc 179 xs).run Tryz.prog w = .ok (.enter 179 xs) w := fun _ _ => by kernel_rfl
theorem en180 : ∀ (xs : Array Value) (w : World), (callFunc 180 xs).run Tryz.prog w = .ok (.enter 180 xs) w := fun _ _ => by kernel_rfl
theorem en181 : ∀ (xs : Array Value) (w : World), (callFunc 181 xs).run Tryz.prog w = .ok (.enter 181 xs) w := fun _ _ => by kernel_rfl
theorem en182 : ∀ (xs : Array Value) (w : World), (callFunc 182 xs).run Tryz.prog w = .ok (.enter 182 xs) w := fun _ _ => by kernel_rfl
theorem en183 : ∀ (xs : Array Value) (w : World), (callFunc 183 xs).run Tryz.prog w = .ok (.enter 183 xs) w := fun _ _ => by kernel_rfl
theorem en184 : ∀ (xs : Array Value) (w : World), (callFunc 184 xs).run Tryz.prog w = .ok (.enter 184 xs) w := fun _ _ => by kernel_rfl
theorem en185 : ∀ (xs : Array Value) (w : World), (callFunc 185 xs).run Tryz.prog w = .ok (.enter 185 xs) w := fun _ _ => by kernel_rfl
theorem en186 : ∀ (xs : Array Value) (w : World), (callFunc 186 xs).run Tryz.prog w = .ok (.enter 186 xs) w := fun _ _ => by kernel_rfl
theorem en187 : ∀ (xs : Array Value) (w : World), (callFunc 187 xs).run Tryz.prog w = .ok (.enter 187 xs) w := fun _ _ => by kernel_rfl
theorem en188 : ∀ (xs : Array Value) (w : World), (callFunc 188 xs).run Tryz.prog w = .ok (.enter 188 xs) w := fun _ _ => by kernel_rfl
theorem en189 : ∀ (xs : Array Value) (w : World), (callFunc 189 xs).run Tryz.prog w = .ok (.enter 189 xs) w := fun _ _ => by kernel_rfl
theorem en190 : ∀ (xs : Array Value) (w : World), (callFunc 190 xs).run Tryz.prog w = .ok (.enter 190 xs) w := fun _ _ => by kernel_rfl
theorem en191 : ∀ (xs : Array Value) (w : World), (callFunc 191 xs).run Tryz.prog w = .ok (.enter 191 xs) w := fun _ _ => by kernel_rfl
theorem en192 : ∀ (xs : Array Value) (w : World), (callFunc 192 xs).run Tryz.prog w = .ok (.enter 192 xs) w := fun _ _ => by kernel_rfl
theorem en193 : ∀ (xs : Array Value) (w : World), (callFunc 193 xs).run Tryz.prog w = .ok (.enter 193 xs) w := fun _ _ => by kernel_rfl
theorem en194 : ∀ (xs : Array Value) (w : World), (callFunc 194 xs).run Tryz.prog w = .ok (.enter 194 xs) w := fun _ _ => by kernel_rfl
theorem en195 : ∀ (xs : Array Value) (w : World), (callFunc 195 xs).run Tryz.prog w = .ok (.enter 195 xs) w := fun _ _ => by kernel_rfl
theorem en196 : ∀ (xs : Array Value) (w : World), (callFunc 196 xs).run Tryz.prog w = .ok (.enter 196 xs) w := fun _ _ => by kernel_rfl
theorem en197 : ∀ (xs : Array Value) (w : World), (callFunc 197 xs).run Tryz.prog w = .ok (.enter 197 xs) w := fun _ _ => by kernel_rfl
theorem en198 : ∀ (xs : Array Value) (w : World), (callFunc 198 xs).run Tryz.prog w = .ok (.enter 198 xs) w := fun _ _ => by kernel_rfl
theorem mixed : Tryz.prog.follows .mixedOrders = true := by kernel_rfl
end Fx
end Go.Proofs.YtcpjojaklpgnkaaGreat
set_option linter.unusedVariables false
set_option linter.unusedSimpArgs false
namespace Go.Proofs.Vg
open Go Go.RowKit
section
variable {P : Program} {ρ : Option Nat} {N : Nat} {K : Env} {ds : List Deferred} {w : World} {Φ : Post}
/-- One behind the other, with what is known between them. -/
theorem ok_join {c d : Code} (K1 : Env) (F : World → Prop) (h : ok P ρ N c K ds w (thenN (fun K' ds' w' => ds' = ds ∧ sub K1 K' ∧ F w') Φ)) (h2 : ∀ w', F w' → ok P ρ N d K1 ds w' Φ) : ok P ρ N (.seq c d) K ds w Φ :=
  ok_seq (fun M hM => ok_mono h fun e K' ds' w' he => by
    cases e <;> simp only [thenN] at he ⊢ <;> first | exact he | skip
    obtain ⟨rfl, hs, hf⟩ := he
    exact hM _ _ _ (ok_less K1 hs (h2 _ hf)))

variable {ops : List Oper} {pan : List PanicEntry → Env → World → Prop} {M : Env → World → Prop} {H : Env → Prop} {C : World → Prop}
/-! One operation at a time: what comes behind it is a name. -/
theorem ofX2 {X Y : Value → Env → Prop} (h : X = Y) {v : Value} {K : Env} (hy : Y v K) : X v K := h ▸ hy
theorem ofX3 {X Y : Value → Env → World → Prop} (h : X = Y) {v : Value} {K : Env} {w : World} (hy : Y v K w) : X v K w := h ▸ hy
theorem wpL_step {o : Oper} {rest : List Oper} (h : ∀ X : Value → Env → World → Prop, X = (fun v K' w' => wpL P ops pan M rest (putE o.dst v K') w') →
    match o.guard with
    | none => opF P K w (fun v w' => X v K w') (fun ch w' => pan ch K w') o.type o.op
    | some (j, want) => match gdst ops j with
      | some d => (match K.get d with
        | some (.bool b) => (b = want → opF P (K.set d (.bool want)) w (fun v w' => X v (K.set d (.bool want)) w') (fun ch w' => pan ch (K.set d (.bool want)) w') o.type o.op) ∧
            (b = !want → X undef (K.set d (.bool !want)) w)
        | some (.tuple _) => X undef K w
        | _ => False)
      | none => False) : wpL P ops pan M (o :: rest) K w := h _ rfl
theorem wpL_end (h : M K w) : wpL P ops pan M [] K w := h
theorem wpH_step {o : Oper} {rest : List Oper} (h : ∀ X : Value → Env → Prop, X = (fun v K' => wpH P ops C H rest (putE o.dst v K')) →
    match o.guard with
    | none => opH P K C (fun v => X v K) o.type o.op
    | some (j, want) => match gdst ops j with
      | some d => (match K.get d with
        | some (.bool b) => (b = want → opH P (K.set d (.bool want)) C (fun v => X v (K.set d (.bool want))) o.type o.op) ∧
            (b = !want → X undef (K.set d (.bool !want)))
        | some (.tuple _) => X undef K
        | _ => False)
      | none => False) : wpH P ops C H (o :: rest) K := h _ rfl
theorem wpH_end (h : H K) : wpH P ops C H [] K := h
theorem wpE_step {fl : List (Bool × Bool)} {o : Oper} {rest : List Oper} (h : ∀ X : Value → Env → World → Prop, X = (fun v K' w' => wpE P ops C pan M fl.tail rest (putE o.dst v K') w') →
    match o.guard with
    | none => opF P K w (fun v w' => oweC (fl.headD (false, false)).1 (C w') (X v K w')) (fun ch w' => oweP (fl.headD (false, false)).2 (pan ch K w')) o.type o.op
    | some (j, want) => match gdst ops j with
      | some d => (match K.get d with
        | some (.bool b) => (b = want → opF P (K.set d (.bool want)) w (fun v w' => oweC (fl.headD (false, false)).1 (C w') (X v (K.set d (.bool want)) w')) (fun ch w' => oweP (fl.headD (false, false)).2 (pan ch (K.set d (.bool want)) w')) o.type o.op) ∧
            (b = !want → oweC (fl.headD (false, false)).1 (C w) (X undef (K.set d (.bool !want)) w))
        | some (.tuple _) => oweC (fl.headD (false, false)).1 (C w) (X undef K w)
        | _ => False)
      | none => False) : wpE P ops C pan M fl (o :: rest) K w := h _ rfl
theorem wpE_end {fl : List (Bool × Bool)} (h : M K w) : wpE P ops C pan M fl [] K w := h
end
end Go.Proofs.Vg
/- What comes in: slices read, as 'Sli'. -/
set_option linter.unusedVariables false
set_option linter.unusedSimpArgs false
namespace Go.Proofs.Vg
open Go Go.RowKit Go.Deep Go.ChangeShapes Go.WideShapes Go.ChangeAt

section
variable {H : Type} {enc : TypeId × Value → H} {P : Program} {w : World} {base : Nat} {spare : Nat → Bool} {held : Bool}

/-- No part of it is too great. -/
def Small (P : Program) (t : TypeId) (d : DataW H) : Prop := ∀ n ∈ d.weights P t, n ≤ reachBytes
theorem small_of_all {ts : List TypeId} {ds : List (DataW H)} (h : (DataW.weightsEach P ts ds).all (· ≤ reachBytes) = true) {j : Nat} {t : TypeId} {d : DataW H} (ht : ts[j]? = some t) (hd : ds[j]? = some d) : Small P t d := fun n hn => by
  have := List.all_eq_true.1 h n (DataW.weights_mem_each ht hd n hn)
  simpa using this
theorem weightsAll_mem {e : TypeId} : ∀ {l : List (DataW H)} {d : DataW H}, d ∈ l → ∀ n ∈ d.weights P e, n ∈ DataW.weightsAll P e l
  | d0 :: l, d, hd, n, hn => by
    simp only [DataW.weightsAll, List.mem_append]
    rcases List.mem_cons.1 hd with rfl | hd
    · exact .inl hn
    · exact .inr (weightsAll_mem hd n hn)
theorem cell_spot {w : World} {a : Addr} {v : Value} (h : w.cell? a = some v) : a.spot = none := by
  unfold World.cell? at h
  split at h
  · cases hs : a.spot with
    | none => rfl
    | some s => simp [hs] at h
  · cases h

/-- A SLICE THAT IS READ. -/
theorem rd_slice {t e : TypeId} {sz fuel : Nat} {cs : List Value} {x : DataW H × List MemPlace} (ht : P.underlying t = some (.slice e)) (hc : P.cellsOf e = sz) (h0 : 0 < sz) (hb : 0 < P.bytesOf e) (h : DataW.trod enc P w base spare held fuel t cs = some x) (hs : Small P t x.1) :
    ∃ v rows, cs = [v] ∧ Sli w sz v rows ∧ v.oneCell' = true ∧ v.cells = #[v] ∧ ∀ (i : Nat) (row : List Value), rows[i]? = some row → row.length = sz ∧ ∃ (f : Nat) (y : DataW H × List MemPlace), DataW.trod enc P w base spare held f e row = some y ∧ Small P e y.1 := by
  rcases open_slice ht h with ⟨rfl, rfl⟩ | ⟨a, len, cap, m, n, D, Pl, rfl, hba, hl, hm, hmm, rfl, hx⟩
  · exact ⟨_, [], rfl, ⟨none, 0, rfl, by simp, fun j row hj => by simp at hj⟩, rfl, rfl, fun i row hr => by simp at hr⟩
  rw [hc] at hx
  have hlm : len ≤ m := by rw [hmm]; split <;> omega
  obtain ⟨R, hR⟩ := choose_lt (α := List Value) (p := fun i cs' => w.cells? base (a.add (i * sz)) sz = some cs' ∧ DataW.trod enc P w base spare held n e cs' = some (D i, Pl i)) hx
  have hlen : len ≤ 140737488355328 := by
    have := hs ((len + (m - len)) * P.bytesOf e) (by simp [DataW.weights, ht])
    have h1 : len * 1 ≤ (len + (m - len)) * P.bytesOf e := Nat.mul_le_mul (by omega) hb
    have h2 : reachBytes ≤ 140737488355328 := by decide
    omega
  refine ⟨_, (List.range len).map R, rfl, ⟨some a, cap, by simp, by simpa using hlen, fun j row hj => ?_⟩, rfl, rfl, fun i row hr => ?_⟩
  · have hjl : j < len := by have := (List.getElem?_eq_some_iff.1 hj).1; simpa using this
    simp [hjl] at hj
    subst hj
    obtain ⟨h1, _⟩ := hR j (by omega)
    obtain ⟨_, hrl, hcl⟩ := World.cells?_some h1
    have hcell : ∀ k u, (R j)[k]? = some u → w.cell? ((a.add (j * sz)).add k) = some u := fun k u hk => by
      have hk' : k < sz := by rw [← hrl]; exact (List.getElem?_eq_some_iff.1 hk).1
      rw [hcl k hk', hk]
    have hsp : a.spot = none := by
      have h00 : 0 < (R 0).length := by
        obtain ⟨h1, _⟩ := hR 0 (by omega)
        rw [(World.cells?_some h1).2.1]; exact h0
      obtain ⟨h2, _⟩ := hR 0 (by omega)
      have := (World.cells?_some h2).2.2 0 h0
      rw [List.getElem?_eq_getElem h00] at this
      have := cell_spot this
      simpa [Addr.add] using this
    obtain ⟨b, o, sp⟩ := a
    simp only at hsp
    subst hsp
    refine ⟨b, o, rfl, fun k u hk => ?_⟩
    have := hcell k u hk
    rw [add_at] at this
    exact this
  · have hjl : i < len := by have := (List.getElem?_eq_some_iff.1 hr).1; simpa using this
    simp [hjl] at hr
    subst hr
    obtain ⟨h1, h2⟩ := hR i (by omega)
    refine ⟨(World.cells?_some h1).2.1, n, _, h2, fun q hq => hs q ?_⟩
    simp only [DataW.weights, ht, List.mem_cons, List.mem_append]
    exact .inr (.inl (weightsAll_mem (List.mem_map.2 ⟨i, List.mem_range.2 hjl, rfl⟩) q hq))
/-- A struct's field. -/
theorem rd_field {t : TypeId} {fs : Array Field} {fuel : Nat} {cs : List Value} {x : DataW H × List MemPlace} (ht : P.underlying t = some (.struct fs)) (h : DataW.trod enc P w base spare held fuel t cs = some x) (hs : Small P t x.1) {i : Nat} {f : Field} (hf : fs[i]? = some f) :
    ∃ (n : Nat) (y : DataW H × List MemPlace), DataW.trod enc P w base spare held n f.type ((cs.drop f.offset).take (P.cellsOf f.type)) = some y ∧ Small P f.type y.1 := by
  obtain ⟨xs, n, _, rfl, hl, hlen, hfs⟩ := DataW.trod_struct ht h
  have h1 := hfs i f hf
  have hi : i < xs.length := by rw [hlen]; exact (Array.getElem?_eq_some_iff.1 hf).1
  rw [List.getElem?_eq_getElem hi] at h1
  refine ⟨n, _, h1, fun q hq => hs q ?_⟩
  simp only [DataW.weights, ht]
  exact DataW.weights_mem_each (j := i) (t := f.type) (d := xs[i].1) (by simp [Array.getElem?_toList, hf]) (by simp [hi]) q hq
def fld (P : Program) (t i : Nat) : Option (TypeId × Nat) := match P.underlying t with
  | some (.struct fs) => (fs[i]?).map fun f => (f.type, f.offset)
  | _ => none
theorem rd_fld {t i o : Nat} {ft : TypeId} {fuel : Nat} {cs : List Value} {x : DataW H × List MemPlace} (hf : fld P t i = some (ft, o)) (h : DataW.trod enc P w base spare held fuel t cs = some x) (hs : Small P t x.1) :
    ∃ (n : Nat) (y : DataW H × List MemPlace), DataW.trod enc P w base spare held n ft ((cs.drop o).take (P.cellsOf ft)) = some y ∧ Small P ft y.1 := by
  unfold fld at hf
  split at hf
  · rename_i fs ht
    cases hfi : fs[i]? with
    | none => simp [hfi] at hf
    | some f =>
      simp [hfi] at hf
      obtain ⟨rfl, rfl⟩ := hf
      exact rd_field ht h hs hfi
  · cases hf
theorem rd_anySlice {t : TypeId} {fuel : Nat} {cs : List Value} {x : DataW H × List MemPlace} (ht : isSlice P t = true) (h : DataW.trod enc P w base spare held fuel t cs = some x) : ∃ v : Value, cs = [v] ∧ v.oneCell' = true ∧ v.cells = #[v] := by
  unfold isSlice at ht
  split at ht
  · rename_i e he
    rcases DataW.trod_slice he h with ⟨rfl, _⟩ | ⟨a, len, cap, _, _, _, _, rfl, _⟩
    · exact ⟨_, rfl, rfl, rfl⟩
    · exact ⟨_, rfl, rfl, rfl⟩
  · cases ht
/-- A slice of ints; of bools. -/
theorem rd_ints {t e : TypeId} {fuel : Nat} {cs : List Value} {x : DataW H × List MemPlace} (ht : P.underlying t = some (.slice e)) (he : P.underlying e = some (.int .i64)) (hc : P.cellsOf e = 1) (hb : 0 < P.bytesOf e) (h : DataW.trod enc P w base spare held fuel t cs = some x) (hs : Small P t x.1) :
    ∃ v xs, cs = [v] ∧ SlI w v xs ∧ v.oneCell' = true ∧ v.cells = #[v] := by
  obtain ⟨v, rows, rfl, hsl, h1, h2, hr⟩ := rd_slice ht hc (by decide) hb h hs
  have : ∃ xs : List Int, rows = ints xs := by
    clear hsl
    induction rows with
    | nil => exact ⟨[], rfl⟩
    | cons r rows ih =>
      obtain ⟨xs, rfl⟩ := ih (fun i row hi => hr (i + 1) row (by simpa using hi))
      obtain ⟨_, f, y, hy, _⟩ := hr 0 r rfl
      obtain ⟨n, rfl, _⟩ := DataW.trod_int he hy
      exact ⟨n :: xs, rfl⟩
  obtain ⟨xs, rfl⟩ := this
  exact ⟨v, xs, rfl, hsl, h1, h2⟩
theorem rd_bools {t e : TypeId} {fuel : Nat} {cs : List Value} {x : DataW H × List MemPlace} (ht : P.underlying t = some (.slice e)) (he : P.underlying e = some .bool) (hc : P.cellsOf e = 1) (hb : 0 < P.bytesOf e) (h : DataW.trod enc P w base spare held fuel t cs = some x) (hs : Small P t x.1) :
    ∃ v xs, cs = [v] ∧ SlB w v xs ∧ v.oneCell' = true ∧ v.cells = #[v] := by
  obtain ⟨v, rows, rfl, hsl, h1, h2, hr⟩ := rd_slice ht hc (by decide) hb h hs
  have : ∃ xs : List Bool, rows = bls xs := by
    clear hsl
    induction rows with
    | nil => exact ⟨[], rfl⟩
    | cons r rows ih =>
      obtain ⟨xs, rfl⟩ := ih (fun i row hi => hr (i + 1) row (by simpa using hi))
      obtain ⟨_, f, y, hy, _⟩ := hr 0 r rfl
      obtain ⟨n, rfl, _⟩ := DataW.trod_bool he hy
      exact ⟨n :: xs, rfl⟩
  obtain ⟨xs, rfl⟩ := this
  exact ⟨v, xs, rfl, hsl, h1, h2⟩
theorem Trod_ext {t : TypeId} (hl : laidOutB P = true) (hr : P.readableRec t = true) (hrow : t < P.types.size) {W W' : World} {sp : Nat → Bool} {v : Value} {d : DataW H} {ps : List MemPlace}
    (h : DataW.Trod enc P W 0 (fun _ => true) true t v d ps) (he : Ext W W') (hlt : ∀ x ∈ ps, x.block < W.heap.size) (hs : ∀ p ∈ ps, sp p.block = true) : DataW.Trod enc P W' 0 sp true t v d ps :=
  WideElems.Trod_stays hl hr hrow h (fun x hx => Below.same he (hlt x hx)) hs
/-- What a law's row asks behind the call: true; all reads as it did. -/
theorem post_ext {f : Func} {s : ChangeSpec} {apart fresh handsOn : Bool} {W W' : World} {args : Array Value} {v : Value} {ds : List (DataW H)} {before : List MemPlace} (hvs : s.vars = [])
    (hW : DataW.Whole enc P f.params.toList s.vars apart W args.toList ds [] before) (he : Ext W W')
    (hres : ∀ (b : Nat) (sp : Nat → Bool) (hd : Bool), DataW.TrodAll enc P W' b sp hd f.resultTypes.toList (v.resultList f.resultTypes.size) (s.fn H ds).results [])
    (hargs : ∀ sp : Nat → Bool, (∀ p ∈ before, sp p.block = true) → DataW.TrodAll enc P W' 0 sp true f.params.toList args.toList (s.fn H ds).args before) (hv : (s.fn H ds).vars = []) :
    s.post enc P f apart fresh handsOn false W args v W' := by
  have hold : ∀ p ∈ before, (fun b => decide (b < W.heap.size)) p.block = true := fun p hp => by simpa using hW.lt p hp
  refine ⟨ds, [], before, [], before, [], hW, ?_, ?_, ?_, World.keptBut_mono (fun p hp => ⟨hp, .inr (.inl hp)⟩) (Below.frame he (· ∈ before)), fun h => by cases h⟩
  · rw [List.append_nil]; exact hres _ _ _
  · rw [List.append_nil]; exact hargs _ hold
  · rw [hvs, List.append_nil, hv]; rfl
end
end Go.Proofs.Vg
/- Reading: with the datum's size. -/
set_option linter.unusedVariables false
set_option linter.unusedSimpArgs false
namespace Go.Proofs.Vg
open Go Go.RowKit Go.Deep Go.ChangeShapes Go.WideShapes Go.ChangeAt

section
variable {H : Type} {enc : TypeId × Value → H} {P : Program} {w : World} {base : Nat} {spare : Nat → Bool} {held : Bool}
/-- A SLICE THAT IS READ. -/
theorem rd_slice' {t e : TypeId} {sz fuel : Nat} {cs : List Value} {x : DataW H × List MemPlace} (ht : P.underlying t = some (.slice e)) (hc : P.cellsOf e = sz) (h0 : 0 < sz) (hb : 0 < P.bytesOf e) (h : DataW.trod enc P w base spare held fuel t cs = some x) (hs : Small P t x.1) :
    ∃ v rows, cs = [v] ∧ Sli w sz v rows ∧ v.oneCell' = true ∧ v.cells = #[v] ∧ ∀ (i : Nat) (row : List Value), rows[i]? = some row → row.length = sz ∧ ∃ (f : Nat) (y : DataW H × List MemPlace), DataW.trod enc P w base spare held f e row = some y ∧ Small P e y.1 ∧ SizeOf.sizeOf y.1 < SizeOf.sizeOf x.1 := by
  rcases open_slice ht h with ⟨rfl, rfl⟩ | ⟨a, len, cap, m, n, D, Pl, rfl, hba, hl, hm, hmm, rfl, hx⟩
  · exact ⟨_, [], rfl, ⟨none, 0, rfl, by simp, fun j row hj => by simp at hj⟩, rfl, rfl, fun i row hr => by simp at hr⟩
  rw [hc] at hx
  have hlm : len ≤ m := by rw [hmm]; split <;> omega
  obtain ⟨R, hR⟩ := choose_lt (α := List Value) (p := fun i cs' => w.cells? base (a.add (i * sz)) sz = some cs' ∧ DataW.trod enc P w base spare held n e cs' = some (D i, Pl i)) hx
  have hlen : len ≤ 140737488355328 := by
    have := hs ((len + (m - len)) * P.bytesOf e) (by simp [DataW.weights, ht])
    have h1 : len * 1 ≤ (len + (m - len)) * P.bytesOf e := Nat.mul_le_mul (by omega) hb
    have h2 : reachBytes ≤ 140737488355328 := by decide
    omega
  refine ⟨_, (List.range len).map R, rfl, ⟨some a, cap, by simp, by simpa using hlen, fun j row hj => ?_⟩, rfl, rfl, fun i row hr => ?_⟩
  · have hjl : j < len := by have := (List.getElem?_eq_some_iff.1 hj).1; simpa using this
    simp [hjl] at hj
    subst hj
    obtain ⟨h1, _⟩ := hR j (by omega)
    obtain ⟨_, hrl, hcl⟩ := World.cells?_some h1
    have hcell : ∀ k u, (R j)[k]? = some u → w.cell? ((a.add (j * sz)).add k) = some u := fun k u hk => by
      have hk' : k < sz := by rw [← hrl]; exact (List.getElem?_eq_some_iff.1 hk).1
      rw [hcl k hk', hk]
    have hsp : a.spot = none := by
      have h00 : 0 < (R 0).length := by
        obtain ⟨h1, _⟩ := hR 0 (by omega)
        rw [(World.cells?_some h1).2.1]; exact h0
      obtain ⟨h2, _⟩ := hR 0 (by omega)
      have := (World.cells?_some h2).2.2 0 h0
      rw [List.getElem?_eq_getElem h00] at this
      have := cell_spot this
      simpa [Addr.add] using this
    obtain ⟨b, o, sp⟩ := a
    simp only at hsp
    subst hsp
    refine ⟨b, o, rfl, fun k u hk => ?_⟩
    have := hcell k u hk
    rw [add_at] at this
    exact this
  · have hjl : i < len := by have := (List.getElem?_eq_some_iff.1 hr).1; simpa using this
    simp [hjl] at hr
    subst hr
    obtain ⟨h1, h2⟩ := hR i (by omega)
    refine ⟨(World.cells?_some h1).2.1, n, _, h2, fun q hq => hs q ?_, by
      have hm : D i ∈ (List.range len).map D := List.mem_map.2 ⟨i, List.mem_range.2 hjl, rfl⟩
      have := List.sizeOf_lt_of_mem hm
      simp
      omega⟩
    simp only [DataW.weights, ht, List.mem_cons, List.mem_append]
    exact .inr (.inl (weightsAll_mem (List.mem_map.2 ⟨i, List.mem_range.2 hjl, rfl⟩) q hq))
/-- A struct's field. -/
theorem rd_field' {t : TypeId} {fs : Array Field} {fuel : Nat} {cs : List Value} {x : DataW H × List MemPlace} (ht : P.underlying t = some (.struct fs)) (h : DataW.trod enc P w base spare held fuel t cs = some x) (hs : Small P t x.1) {i : Nat} {f : Field} (hf : fs[i]? = some f) :
    ∃ (n : Nat) (y : DataW H × List MemPlace), DataW.trod enc P w base spare held n f.type ((cs.drop f.offset).take (P.cellsOf f.type)) = some y ∧ Small P f.type y.1 ∧ SizeOf.sizeOf y.1 < SizeOf.sizeOf x.1 := by
  obtain ⟨xs, n, _, rfl, hl, hlen, hfs⟩ := DataW.trod_struct ht h
  have h1 := hfs i f hf
  have hi : i < xs.length := by rw [hlen]; exact (Array.getElem?_eq_some_iff.1 hf).1
  rw [List.getElem?_eq_getElem hi] at h1
  refine ⟨n, _, h1, fun q hq => hs q ?_, by
    have hm : (xs[i]).1 ∈ xs.map (·.1) := List.mem_map.2 ⟨xs[i], List.getElem_mem hi, rfl⟩
    have := List.sizeOf_lt_of_mem hm
    simp
    omega⟩
  simp only [DataW.weights, ht]
  exact DataW.weights_mem_each (j := i) (t := f.type) (d := xs[i].1) (by simp [Array.getElem?_toList, hf]) (by simp [hi]) q hq
theorem rd_fld' {t i o : Nat} {ft : TypeId} {fuel : Nat} {cs : List Value} {x : DataW H × List MemPlace} (hf : fld P t i = some (ft, o)) (h : DataW.trod enc P w base spare held fuel t cs = some x) (hs : Small P t x.1) :
    ∃ (n : Nat) (y : DataW H × List MemPlace), DataW.trod enc P w base spare held n ft ((cs.drop o).take (P.cellsOf ft)) = some y ∧ Small P ft y.1 ∧ SizeOf.sizeOf y.1 < SizeOf.sizeOf x.1 := by
  unfold fld at hf
  split at hf
  · rename_i fs ht
    cases hfi : fs[i]? with
    | none => simp [hfi] at hf
    | some f =>
      simp [hfi] at hf
      obtain ⟨rfl, rfl⟩ := hf
      exact rd_field' ht h hs hfi
  · cases hf
end
end Go.Proofs.Vg
/- Small laws in one: for short texts. -/
set_option linter.unusedVariables false
namespace Go.Proofs.Vg
open Go Go.RowKit
theorem S0 :
    (∀ {α : Type} (a : α) (l : List α) (d : α), (a :: l).headD d = a) ∧ (∀ {α : Type} (a : α) (l : List α), (a :: l).tail = l) ∧
    (∀ {α : Type} (a : α) (l : List α) (n : Nat), (a :: l).take (n + 1) = a :: l.take n) ∧ (∀ {α : Type} (l : List α), l.take 0 = []) ∧
    (∀ {α : Type} (a : α) (l : List α) (n : Nat), (a :: l).drop (n + 1) = l.drop n) ∧ (∀ {α : Type} (l : List α), l.drop 0 = l) ∧
    (∀ {α : Type} (a : α) (l : List α), (a :: l)[0]? = some a) ∧ (∀ {α : Type} (a : α) (l : List α) (n : Nat), (a :: l)[n + 1]? = l[n]?) ∧
    ((!true) = false) ∧ ((!false) = true) ∧ (∀ p : Prop, (True ∧ p) = p) ∧ (∀ p : Prop, (p ∧ True) = p) ∧ (∀ p : Prop, (False → p) = True) ∧ (∀ p : Prop, (True → p) = p) ∧
    (∀ h : Decidable True, @decide True h = true) ∧ (∀ h : Decidable False, @decide False h = false) ∧
    (∀ {α : Type} (l : List α), l.toArray.toList = l) ∧ (∀ {α : Type} (a : α) (l m : List α), (a :: l) ++ m = a :: (l ++ m)) ∧ (∀ {α : Type} (l : List α), [] ++ l = l) ∧
    (∀ n : Nat, ((n : Int)).toNat = n) ∧ (∀ b o n : Nat, (⟨b, o, none⟩ : Addr).add n = ⟨b, o + n, none⟩) ∧ (∀ n : Nat, n * 1 = n) ∧ (∀ n : Nat, n + 0 = n) :=
  ⟨fun _ _ _ => rfl, fun _ _ => rfl, fun _ _ _ => rfl, fun _ => rfl, fun _ _ _ => rfl, fun _ => rfl, fun _ _ => rfl, fun _ _ _ => rfl, rfl, rfl, fun p => true_and p, fun p => and_true p, fun p => false_implies p, fun p => true_implies p,
    fun _ => decide_true _, fun _ => decide_false _, fun _ => rfl, fun _ _ _ => rfl, fun _ => rfl, fun _ => rfl, add_at, Nat.mul_one, Nat.add_zero⟩
theorem S1 :
    (∀ (P : Program) (t : TypeId) (k k' : IntKind) (a b : Int), binV P t .add (.int k a) (.int k' b) = some (k = k' ∧ inI k (a + b), .int k (a + b))) ∧
    (∀ (P : Program) (t : TypeId) (k k' : IntKind) (a b : Int), binV P t .sub (.int k a) (.int k' b) = some (k = k' ∧ inI k (a - b), .int k (a - b))) ∧
    (∀ (P : Program) (t : TypeId) (k k' : IntKind) (a b : Int), binV P t .mul (.int k a) (.int k' b) = some (k = k' ∧ inI k (a * b), .int k (a * b))) ∧
    (∀ (P : Program) (t : TypeId) (k k' : IntKind) (a b : Int), binV P t .eql (.int k a) (.int k' b) = some (k = k', .bool (decide (a = b)))) ∧
    (∀ (P : Program) (t : TypeId) (k k' : IntKind) (a b : Int), binV P t .neq (.int k a) (.int k' b) = some (k = k', .bool (!decide (a = b)))) ∧
    (∀ (P : Program) (t : TypeId) (k k' : IntKind) (a b : Int), binV P t .lss (.int k a) (.int k' b) = some (k = k', .bool (decide (a < b)))) ∧
    (∀ (P : Program) (t : TypeId) (k k' : IntKind) (a b : Int), binV P t .leq (.int k a) (.int k' b) = some (k = k', .bool (decide (a ≤ b)))) ∧
    (∀ (P : Program) (t : TypeId) (k k' : IntKind) (a b : Int), binV P t .gtr (.int k a) (.int k' b) = some (k = k', .bool (decide (b < a)))) ∧
    (∀ (P : Program) (t : TypeId) (k k' : IntKind) (a b : Int), binV P t .geq (.int k a) (.int k' b) = some (k = k', .bool (decide (b ≤ a)))) ∧
    (∀ (P : Program) (t : TypeId) (s u : ByteArray), binV P t .eql (.string s) (.string u) = some (True, .bool (decide (s = u)))) ∧
    (∀ (P : Program) (t : TypeId) (s u : ByteArray), binV P t .neq (.string s) (.string u) = some (True, .bool (!decide (s = u)))) ∧
    (∀ (P : Program) (t : TypeId) (x y : Bool), binV P t .eql (.bool x) (.bool y) = some (P.underlying t = some .bool, .bool (decide (x = y)))) ∧
    (∀ (P : Program) (t : TypeId) (x y : Bool), binV P t .neq (.bool x) (.bool y) = some (P.underlying t = some .bool, .bool (!decide (x = y)))) :=
  ⟨fun _ _ _ _ _ _ => rfl, fun _ _ _ _ _ _ => rfl, fun _ _ _ _ _ _ => rfl, fun _ _ _ _ _ _ => rfl, fun _ _ _ _ _ _ => rfl, fun _ _ _ _ _ _ => rfl, fun _ _ _ _ _ _ => rfl, fun _ _ _ _ _ _ => rfl, fun _ _ _ _ _ _ => rfl,
    fun _ _ _ _ => rfl, fun _ _ _ _ => rfl, fun _ _ _ _ => rfl, fun _ _ _ _ => rfl⟩
end Go.Proofs.Vg
/- A region that draws its order, by an invariant over the set of operations that have come. -/
set_option linter.unusedVariables false
set_option linter.unusedSimpArgs false
namespace Go.Proofs.Vg
open Go Go.RowKit
section
variable {P : Program} {ρ : Option Nat} {N : Nat} {K : Env} {ds : List Deferred} {w : World} {a : Act} {Φ : Post} {ops : List Oper}

theorem wp1_sound {M : Env → World → Prop} {Kont : Act → World → Prop} {i : Nat} {o : Oper} (ho : ops[i]? = some o) (hd0 : ∀ d, o.dst = some d → d < N) (ha : Kn K N ds a)
    (h : wpL P ops (fun ch K w => Φ (.panic ch) K ds w) M [o] K w) (hM : ∀ K' w' a', Kn K' N ds a' → M K' w' → Kont a' w') : wpOpIn (fence ρ) 0 P ops.toArray (lift N Φ) i Kont a w := by
  have hi : ops.toArray[i]? = some o := by simpa using ho
  simp only [wpL] at h
  unfold wpOpIn
  simp only [hi]
  cases hg : o.guard with
  | none =>
    rw [hg] at h
    simp only [Region.wanted, hg, if_true]
    exact opF_sound ha h (fun v w' hv => hM _ _ _ (ha.put hd0) hv) (fun ch w' hc => ⟨K, ds, ha, hc⟩)
  | some gd =>
    obtain ⟨j, want⟩ := gd
    rw [hg] at h
    simp only at h
    split at h
    · rename_i d hgd
      have hy : yielded ops.toArray a.tmps j = match a.tmps[d]? with | some (.bool b) => some b | _ => none := by
        unfold gdst at hgd
        split at hgd
        · rename_i oj hj
          simp only [yielded, List.getElem?_toArray, hj, Option.bind_some, hgd]
          split <;> simp_all
        · cases hgd
      split at h
      · rename_i b hb
        have hya : yielded ops.toArray a.tmps j = some b := by rw [hy, ha.at_ _ _ hb]
        by_cases hbw : b = want
        · subst hbw
          have hw : Region.wanted o (yielded ops.toArray a.tmps) = true := by simp [Region.wanted, hg, hya]
          rw [if_pos hw]
          have ha' := ha.set hb
          exact opF_sound ha' (h.1 rfl) (fun v w' hv => hM _ _ _ (ha'.put hd0) hv) (fun ch w' hc => ⟨_, ds, ha', hc⟩)
        · have hbn : b = !want := by cases b <;> cases want <;> simp_all
          have hw : ¬ Region.wanted o (yielded ops.toArray a.tmps) = true := by simp [Region.wanted, hg, hya, hbw]
          rw [if_neg hw]
          have ha' := ha.set (hbn ▸ hb)
          exact ⟨fun _ _ => trivial, hM _ _ _ (ha'.put hd0) (h.2 hbn)⟩
      · rename_i x hb
        have hya : yielded ops.toArray a.tmps j = none := by rw [hy, ha.at_ _ _ hb]
        have hw : ¬ Region.wanted o (yielded ops.toArray a.tmps) = true := by simp [Region.wanted, hg, hya]
        rw [if_neg hw]
        exact ⟨fun _ _ => trivial, hM _ _ _ (ha.put hd0) h⟩
      · exact h.elim
    · exact h.elim

def needsOk (ops : List Oper) : Bool := (List.range ops.length).all fun j => match ops[j]? with | some o => (needs o).all (· < j) | none => true
theorem needsOk_lt (h : needsOk ops = true) {j : Nat} {o : Oper} (ho : ops[j]? = some o) : ∀ k ∈ needs o, k < j := by
  have hj := (List.getElem?_eq_some_iff.1 ho).1
  have h1 := List.all_eq_true.1 h j (List.mem_range.2 hj)
  rw [ho] at h1
  intro k hk
  have := List.all_eq_true.1 h1 k hk
  simpa using this
def up (L : Nat → Bool) (i : Nat) : Nat → Bool := fun k => decide (k = i) || L k

/-- A REGION THAT DRAWS ITS ORDER: J holds of what has come. -/
theorem ok_any (J : (Nat → Bool) → Env → World → Prop) {id : Nat} (hm : P.follows .mixedOrders = true) (hd : dstsOk N ops = true) (hn : needsOk ops = true) (K0 : Env) (hs0 : sub K0 K)
    (h0 : J (fun _ => false) K0 { w with drawn := w.drawn + 1 })
    (hstep : ∀ (L : Nat → Bool) (K : Env) (w : World) (i : Nat) (o : Oper), J L K w → ops[i]? = some o → L i = false → (∀ k ∈ needs o, L k = true) → wpL P ops (fun ch K w => Φ (.panic ch) K ds w) (fun K' w' => J (up L i) K' w') [o] K w)
    (hend : ∀ K w, J (fun k => decide (k < ops.length)) K w → Φ .normal K ds w) : ok P ρ N (.region id ops.toArray true) K ds w Φ := by
  intro a ha
  refine wpIn_region_any hm ?_
  have main : ∀ (u : Nat) (listed : Array Bool) (K : Env) (b : Act) (w : World) (fuel : Nat), (missing ops.length listed).length = u → u ≤ fuel → listed.size = ops.length → Kn K N ds b → J (fun k => listed.getD k false) K w →
      wpAnyIn (fence ρ) 0 P .any ops.toArray (lift N Φ) fuel listed b w := by
    intro u
    induction u with
    | zero =>
      intro listed K b w fuel hu hf hs hk hJ
      have hm0 : missing ops.length listed = [] := List.eq_nil_of_length_eq_zero hu
      have hall : ∀ k, k < ops.length → listed.getD k false = true := fun k hk => by
        cases h0 : listed.getD k false with
        | true => rfl
        | false => have := missing_mem.2 ⟨hk, h0⟩; rw [hm0] at this; cases this
      have hL : (fun k => listed.getD k false) = fun k => decide (k < ops.length) := by
        funext k
        by_cases hk : k < ops.length
        · rw [hall k hk]; simp [hk]
        · have : listed.getD k false = false := by simp [show ¬ k < listed.size by omega]
          rw [this]; simp [hk]
      rw [hL] at hJ
      have hend' : lift N Φ .normal b w := ⟨K, ds, hk, hend K w hJ⟩
      have hr : Region.ready .any ops.toArray listed = [] := by
        apply List.eq_nil_iff_forall_not_mem.2
        intro i hi
        obtain ⟨o, ho, h1, _⟩ := (ready_iff hs).1 hi
        rw [hall i (List.getElem?_eq_some_iff.1 ho).1] at h1
        cases h1
      cases fuel with
      | zero => exact ⟨hr, hend'⟩
      | succ fuel => exact ⟨fun _ => hend', fun i hi => by rw [hr] at hi; cases hi⟩
    | succ u ih =>
      intro listed K b w fuel hu hf hs hk hJ
      cases fuel with
      | zero => omega
      | succ fuel =>
        refine ⟨fun h0 => ?_, fun i hi => ?_⟩
        · obtain ⟨i, hi, h1, h2⟩ := missing_first (n := ops.length) (listed := listed) (fun e => by rw [e] at hu; simp at hu)
          have ho : ops[i]? = some ops[i] := List.getElem?_eq_getElem hi
          have : i ∈ Region.ready .any ops.toArray listed := (ready_iff hs).2 ⟨_, ho, h1, fun k hk => h2 k (needsOk_lt hn ho k hk)⟩
          rw [h0] at this
          cases this
        · obtain ⟨o, ho, h1, h2⟩ := (ready_iff hs).1 hi
          have hil : i < ops.length := (List.getElem?_eq_some_iff.1 ho).1
          have hd0 : ∀ d, o.dst = some d → d < N := fun d he => by
            have := List.all_eq_true.1 hd o (List.mem_of_getElem? ho)
            rw [he] at this; simpa using this
          refine wp1_sound ho hd0 hk (hstep _ K w i o hJ ho h1 h2) (fun K' w' a' hk' hJ' => ih _ K' a' w' fuel ?_ (by omega) (by simp [hs]) hk' ?_)
          · have := missing_set hil (by omega) h1
            omega
          · have : (fun k => (listed.setIfInBounds i true).getD k false) = up (fun k => listed.getD k false) i := by
              funext k
              rw [getD_set (by omega)]; rfl
            rw [this]; exact hJ'
  have h00 : (fun k => (Array.replicate ops.length false).getD k false) = fun _ => false := by
    funext k
    rcases Nat.lt_or_ge k ops.length with h | h
    · simp [h]
    · simp [h]
  have := main _ (Array.replicate ops.length false) K0 a { w with drawn := w.drawn + 1 } ops.length rfl ?_ (by simp) (ha.less hs0) (by rw [h00]; exact h0)
  · simpa using this
  · have := List.length_filter_le (fun k => !(Array.replicate ops.length false).getD k false) (List.range ops.length)
    simpa [missing] using this
end
end Go.Proofs.Vg
/- A region in the order of the text where additions and subtractions may overflow. -/
set_option linter.unusedVariables false
set_option linter.unusedSimpArgs false
namespace Go.Proofs.Vg
open Go Go.RowKit
def opFW (P : Program) (K : Env) (w : World) (next : Value → World → Prop) (pan : List PanicEntry → World → Prop) (type : TypeId) : Op → Prop
  | .binOp .add _ x y _ => (match ev K x, ev K y with
    | some (.int k a), some (.int k' b) => k = k' ∧ next (.int k (k.wrap (a + b))) w
    | _, _ => False)
  | .binOp .sub _ x y _ => (match ev K x, ev K y with
    | some (.int k a), some (.int k' b) => k = k' ∧ next (.int k (k.wrap (a - b))) w
    | _, _ => False)
  | op => opF P K w next pan type op
/-- What a list of operations owes, carried out in the order of the text. -/
def wpLW (P : Program) (ops : List Oper) (pan : List PanicEntry → Env → World → Prop) (M : Env → World → Prop) : List Oper → Env → World → Prop
  | [], K, w => M K w
  | o :: rest, K, w =>
    match o.guard with
    | none => opFW P K w (fun v w' => wpLW P ops pan M rest (putE o.dst v K) w') (fun ch w' => pan ch K w') o.type o.op
    | some (j, want) => match gdst ops j with
      | some d => (match K.get d with
        | some (.bool b) => (b = want → opFW P (K.set d (.bool want)) w (fun v w' => wpLW P ops pan M rest (putE o.dst v (K.set d (.bool want))) w') (fun ch w' => pan ch (K.set d (.bool want)) w') o.type o.op) ∧
            (b = !want → wpLW P ops pan M rest (putE o.dst undef (K.set d (.bool !want))) w)
        | some (.tuple _) => wpLW P ops pan M rest (putE o.dst undef K) w
        | _ => False)
      | none => False


section
variable {P : Program} {ρ : Option Nat} {N : Nat} {K : Env} {ds : List Deferred} {w : World} {a : Act} {Φ : Post}
theorem opFW_sound {o : Oper} {M : Act → World → Prop} {Q : Exit → Act → World → Prop} {nx : Value → World → Prop} {pan : List PanicEntry → World → Prop} (ha : Kn K N ds a) (h : opFW P K w nx pan o.type o.op)
    (hn : ∀ v w', nx v w' → M (a.put o.dst v) w') (hp : ∀ ch w', pan ch w' → Q (.panic ch) a w') : o.wpIn (fence ρ) 0 P a w M Q := by
  have old : opF P K w nx pan o.type o.op → o.wpIn (fence ρ) 0 P a w M Q := fun h => opF_sound ha h hn hp
  cases hop : o.op
  case binOp op t x y z =>
    rw [hop] at h old
    cases op <;> simp only [opFW] at h
    case add =>
      split at h
      · rename_i k p k' q hx hy
        obtain ⟨rfl, hh⟩ := h
        exact wpIn_val (by simp [hop]) (by simp [execOp, hop, ev_eval ha hx, ev_eval ha hy, eqGuard, binOp, Op.intArith]) (hn _ _ hh)
      · exact h.elim
    case sub =>
      split at h
      · rename_i k p k' q hx hy
        obtain ⟨rfl, hh⟩ := h
        exact wpIn_val (by simp [hop]) (by simp [execOp, hop, ev_eval ha hx, ev_eval ha hy, eqGuard, binOp, Op.intArith]) (hn _ _ hh)
      · exact h.elim
    all_goals exact old h
  all_goals
    rw [hop] at h old
    exact old h
theorem wpLW_sound {ops : List Oper} {pan : List PanicEntry → Env → World → Prop} {M : Env → World → Prop} (hp : ∀ ch K w, pan ch K w → Φ (.panic ch) K ds w) (hM : ∀ K w, M K w → Φ .normal K ds w) :
    ∀ (rest : List Oper) (K : Env) (w : World) (a : Act), dstsOk N rest = true → Kn K N ds a → wpLW P ops pan M rest K w → wpListIn (fence ρ) 0 P ops.toArray (lift N Φ) rest a w
  | [], K, w, a, _, ha, h => ⟨K, ds, ha, hM _ _ h⟩
  | o :: rest, K, w, a, hd, ha, h => by
    simp only [dstsOk, List.all_cons, Bool.and_eq_true] at hd
    have hd0 : ∀ d, o.dst = some d → d < N := fun d he => by have := hd.1; rw [he] at this; simpa using this
    simp only [wpLW] at h
    unfold wpListIn
    cases hg : o.guard with
    | none =>
      rw [hg] at h
      simp only [Region.wanted, hg, if_true]
      exact opFW_sound ha h (fun v w' hv => wpLW_sound hp hM rest _ _ _ hd.2 (ha.put hd0) hv) (fun ch w' hc => ⟨K, ds, ha, hp _ _ _ hc⟩)
    | some gd =>
      obtain ⟨j, want⟩ := gd
      rw [hg] at h
      simp only at h
      split at h
      · rename_i d hgd
        have hy : yielded ops.toArray a.tmps j = match a.tmps[d]? with | some (.bool b) => some b | _ => none := by
          unfold gdst at hgd
          split at hgd
          · rename_i oj hj
            simp only [yielded, List.getElem?_toArray, hj, Option.bind_some, hgd]
            split <;> simp_all
          · cases hgd
        split at h
        · rename_i b hb
          have hya : yielded ops.toArray a.tmps j = some b := by rw [hy, ha.at_ _ _ hb]
          by_cases hbw : b = want
          · subst hbw
            have hw : Region.wanted o (yielded ops.toArray a.tmps) = true := by simp [Region.wanted, hg, hya]
            rw [if_pos hw]
            have ha' := ha.set hb
            exact opFW_sound ha' (h.1 rfl) (fun v w' hv => wpLW_sound hp hM rest _ _ _ hd.2 (ha'.put hd0) hv) (fun ch w' hc => ⟨_, ds, ha', hp _ _ _ hc⟩)
          · have hbn : b = !want := by cases b <;> cases want <;> simp_all
            have hw : ¬ Region.wanted o (yielded ops.toArray a.tmps) = true := by simp [Region.wanted, hg, hya, hbw]
            rw [if_neg hw]
            have ha' := ha.set (hbn ▸ hb)
            exact ⟨fun _ _ => trivial, wpLW_sound hp hM rest _ _ _ hd.2 (ha'.put hd0) (h.2 hbn)⟩
        · rename_i x hb
          have hya : yielded ops.toArray a.tmps j = none := by rw [hy, ha.at_ _ _ hb]
          have hw : ¬ Region.wanted o (yielded ops.toArray a.tmps) = true := by simp [Region.wanted, hg, hya]
          rw [if_neg hw]
          exact ⟨fun _ _ => trivial, wpLW_sound hp hM rest _ _ _ hd.2 (ha.put hd0) h⟩
        · exact h.elim
      · exact h.elim

theorem wpLW_step {ops : List Oper} {pan : List PanicEntry → Env → World → Prop} {M : Env → World → Prop} {o : Oper} {rest : List Oper} (h : ∀ X : Value → Env → World → Prop, X = (fun v K' w' => wpLW P ops pan M rest (putE o.dst v K') w') →
    match o.guard with
    | none => opFW P K w (fun v w' => X v K w') (fun ch w' => pan ch K w') o.type o.op
    | some (j, want) => match gdst ops j with
      | some d => (match K.get d with
        | some (.bool b) => (b = want → opFW P (K.set d (.bool want)) w (fun v w' => X v (K.set d (.bool want)) w') (fun ch w' => pan ch (K.set d (.bool want)) w') o.type o.op) ∧
            (b = !want → X undef (K.set d (.bool !want)) w)
        | some (.tuple _) => X undef K w
        | _ => False)
      | none => False) : wpLW P ops pan M (o :: rest) K w := h _ rfl
theorem wpLW_end {ops : List Oper} {pan : List PanicEntry → Env → World → Prop} {M : Env → World → Prop} (h : M K w) : wpLW P ops pan M [] K w := h
/-- A region in the order of the text. -/
theorem ok_regionF {id : Nat} {ops : List Oper} (hd : dstsOk N ops = true) (h : wpLW P ops (fun ch K w => Φ (.panic ch) K ds w) (fun K w => Φ .normal K ds w) ops K w) :
    ok P ρ N (.region id ops.toArray false) K ds w Φ :=
  fun a ha => wpIn_region_lit (wpLW_sound (fun _ _ _ h => h) (fun _ _ h => h) ops K w a hd ha h)
theorem wrap64 (n : Int) : IntKind.i64.wrap n = (n + 9223372036854775808) % 18446744073709551616 - 9223372036854775808 := by
  simp only [IntKind.wrap, IntKind.bits, IntKind.signed, if_true]
  simp
  omega
end
end Go.Proofs.Vg
