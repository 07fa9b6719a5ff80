import Derived.Test.YtldeokfhipjbfaaDoorVg14
set_option linter.unusedVariables false
set_option linter.unusedSimpArgs false
namespace Go.Proofs.Vg
open Go Go.RowKit

section
variable {P : Program} {w : World}

/-- copy(dst, src), elements of one cell, dst in a block of the call's own. -/
theorem Runs.copy {dT sT ty e : TypeId} {z : Option Value} {by_ : Nat} (ht : P.underlying dT = some (.slice e)) (hz : zinfo P e = some (z, 1, by_)) {b o dLen dCap : Nat} {a : Addr} {sLen sCap : Nat} {cur : List Value} {te : TypeId} (hb : Blk w b cur te)
    {cs : List Value} (hn : cs.length = Nat.min sLen dLen) (hsrc : cellsAt w a cs) (hfit : o + cs.length ≤ cur.length) (h1 : ∀ v ∈ cs, v.oneCell' = true) {cb : Array Bool} {nx : Value → World → Prop}
    (h : ∀ w1, Chg (· = b) w w1 → w1.heap.size = w.heap.size → Blk w1 b (splice cur o cs) te → nx (.int .i64 (cs.length : Int)) w1) :
    Runs P (builtin .copy #[dT, sT] ty cb [.slice (some ⟨b, o, none⟩) dLen dCap, .slice (some a) sLen sCap].toArray) w (builtinR nx) := by
  obtain ⟨i, hi, _, hs, _⟩ := zinfo_some hz
  have hr := run_copy_row (P := P) (ty := ty) w dT sT e b o dLen dCap a sLen sCap cur.toArray te cs ht (by simp [hi, hs]) hb hn hsrc (by simpa using hfit) h1
  refine ⟨.value (.int .i64 (cs.length : Int)), w.setRow b (splice cur o cs).toArray, ?_, h _ ?_ (size_setRow _ _ _) ?_⟩
  · simp only [builtin]
    rw [Sem.run_bind]
    rw [show [Value.slice (some ⟨b, o, none⟩) dLen dCap, Value.slice (some a) sLen sCap].toArray = #[.slice (some ⟨b, o, none⟩) dLen dCap, .slice (some a) sLen sCap] from rfl, hr]
    simp [splice, goInt]
  · exact ⟨rfl, rfl, rfl, by rw [size_setRow]; exact Nat.le_refl _, fun k _ hk => setRow_other w b k _ hk⟩
  · exact setRow_heap w b cur.toArray _ te _ hb

/-- A conversion between whole numbers that fits. -/
theorem Runs.conv {s d : TypeId} {ds : TypeDesc} {k k' : IntKind} {n : Int} {nx : Value → World → Prop} (hs : P.underlying s = some ds) (hd : P.underlying d = some (.int k')) (hn : inI k' n) (h : nx (.int k' n) w) :
    Runs P (convert s d (.int k n)) w nx := by
  refine ⟨_, w, ?_, h⟩
  simp [convert, run_underlying hs, run_underlying hd, Conv.intToInt, wrap_in hn]

theorem and_mask (n : Nat) (h : n < 4294967296) : n &&& 4294967295 = n := by
  have := Nat.and_two_pow_sub_one_eq_mod n 32
  simp at this
  rw [this, Nat.mod_eq_of_lt h]
theorem Runs.and32 {t : TypeId} {x y : Operand} {n : Int} {nx : Value → World → Prop} (h0 : 0 ≤ n) (h1 : n < 4294967296) (h : nx (.int .u64 n) w) :
    Runs P (do eqGuard .and t x y (.int .u64 n) (.int .u64 4294967295); binOp .and t (.int .u64 n) (.int .u64 4294967295)) w nx := by
  refine ⟨_, w, ?_, h⟩
  obtain ⟨m, rfl⟩ := Int.eq_ofNat_of_zero_le h0
  have hb := u64_and_nat m 4294967295 (by omega) (by omega)
  rw [and_mask m (by omega)] at hb
  simp [eqGuard, binOp, Op.intBits]
  exact hb
theorem Runs.shr32 {t : TypeId} {x y : Operand} {n : Int} {nx : Value → World → Prop} (h0 : 0 ≤ n) (h1 : n < 4294967296) (h : nx (.int .u64 0) w) :
    Runs P (do eqGuard .shr t x y (.int .u64 n) (.int .u64 32); binOp .shr t (.int .u64 n) (.int .u64 32)) w nx := by
  refine ⟨_, w, ?_, h⟩
  have : n.fdiv 4294967296 = 0 := by
    rw [Int.fdiv_eq_ediv_of_nonneg _ (by omega)]
    omega
  simp [eqGuard, binOp, Op.shift, IntKind.bits, this]
end
end Go.Proofs.Vg
