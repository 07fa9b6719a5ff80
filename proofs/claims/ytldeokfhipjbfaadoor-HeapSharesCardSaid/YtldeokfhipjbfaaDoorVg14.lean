import Derived.Test.YtldeokfhipjbfaaDoorVg13
set_option linter.unusedVariables false
set_option linter.unusedSimpArgs false
namespace Go.Proofs.Vg
open Go Go.RowKit

section
variable {P : Program} {w : World}

/-- x[lo:hi] of a slice. -/
theorem run_sliceAt {t e : TypeId} {sz by_ : Nat} {z : Option Value} (ht : P.underlying t = some (.slice e)) (hz : zinfo P e = some (z, sz, by_)) (A : Option Addr) (len cap : Nat) (lo hi : Option Nat) (kl kh : IntKind)
    (hhi : hi.getD len ≤ cap) (hlo : lo.getD 0 ≤ hi.getD len) (w : World) :
    (Instr.sliceAt t (.slice A len cap) (lo.map fun (x : Nat) => .int kl (x : Int)) (hi.map fun (x : Nat) => .int kh (x : Int)) none).run P w =
      .ok (.slice (if cap = lo.getD 0 then A else A.map (·.add (lo.getD 0 * sz))) (hi.getD len - lo.getD 0) (cap - lo.getD 0)) w := by
  obtain ⟨i, hi', _, hs, _⟩ := zinfo_some hz
  subst hs
  cases lo with
  | none =>
    cases hi with
    | none => simp [Instr.sliceAt, run_underlying ht, Instr.slice, Instr.sliceBounds, sizeOf, typeInfo, hi']
    | some h =>
      simp only [Option.getD_some] at hhi hlo
      have h1 : (0 : Int) ≤ (h : Int) ∧ (h : Int) ≤ (cap : Int) := by omega
      simp [Instr.sliceAt, run_underlying ht, Instr.slice, Instr.sliceBounds, Instr.sliceBound, asIntOf, sizeOf, typeInfo, hi', h1, hhi]
  | some l =>
    cases hi with
    | none =>
      simp only [Option.getD_some, Option.getD_none] at hhi hlo
      simp [Instr.sliceAt, run_underlying ht, Instr.slice, Instr.sliceBounds, Instr.sliceBound, asIntOf, sizeOf, typeInfo, hi', hlo]
    | some h =>
      simp only [Option.getD_some] at hhi hlo
      simp [Instr.sliceAt, run_underlying ht, Instr.slice, Instr.sliceBounds, Instr.sliceBound, asIntOf, sizeOf, typeInfo, hi', hlo, hhi]

/-- What is behind a slice's first elements. -/
theorem Sli.drop {sz : Nat} {A : Option Addr} {n c lo : Nat} {rows : List (List Value)} (h : Sli w sz (.slice A n c) rows) (hlo : lo ≤ n) (hc : n ≤ c) :
    Sli w sz (.slice (if c = lo then A else A.map (·.add (lo * sz))) (n - lo) (c - lo)) (rows.drop lo) := by
  obtain ⟨A', c', hv, hl, hr⟩ := h
  cases hv
  refine ⟨_, _, by rw [List.length_drop], by rw [List.length_drop]; omega, fun j row hj => ?_⟩
  rw [List.getElem?_drop] at hj
  obtain ⟨b, o, hA, hcc⟩ := hr (lo + j) row hj
  have hlt : lo + j < rows.length := (List.getElem?_eq_some_iff.1 hj).1
  rw [if_neg (by omega), hA]
  refine ⟨b, o + lo * sz, by simp [add_at], ?_⟩
  have : o + lo * sz + j * sz = o + (lo + j) * sz := by rw [Nat.add_mul]; omega
  rw [this]
  exact hcc

/-- xs[lo:], of one-cell elements. -/
theorem Runs.sliceLo {t e : TypeId} {by_ : Nat} {z : Option Value} (ht : P.underlying t = some (.slice e)) (hz : zinfo P e = some (z, 1, by_)) {A : Option Addr} {n c : Nat} {rows : List (List Value)} (h : Sli w 1 (.slice A n c) rows) (hc : n ≤ c)
    (lo : Nat) (hlo : lo ≤ n) {k : IntKind} {i : Int} (hi : i = (lo : Int)) {nx : Value → World → Prop} (hx : ∀ A' c', Sli w 1 (.slice A' (n - lo) c') (rows.drop lo) → nx (.slice A' (n - lo) c') w) :
    Runs P (Instr.sliceAt t (.slice A n c) (some (.int k i)) none none) w nx := by
  subst hi
  have := run_sliceAt (P := P) ht hz A n c (some lo) none k k (by simpa using hc) (by simpa using hlo) w
  exact ⟨_, _, this, hx _ _ (by simpa using h.drop hlo hc)⟩

/-- append of one element (of 'sz' cells) that lies in a block of its own. -/
theorem Runs.append1 {t ty e : TypeId} {z : Value} {sz by_ base : Nat} (ht : P.underlying t = some (.slice e)) (hz : zinfo P e = some (some z, sz, by_)) (hzs : z.cells.size = sz) (hsz : 0 < sz)
    {v : Value} {n : Nat} {xs : List Value} (hown : w.ownsRow base e sz v n xs) {b : Nat} {news : List Value} {c : Nat} {eb : TypeId} (hb : Blk w b news eb) (hl : news.length = sz) (h1 : ∀ u ∈ news, u.oneCell' = true)
    (h63 : n + 1 ≤ maxLen) (hbytes : (n + 1) * by_ ≤ 140737488355328) (hbase : base ≤ w.heap.size) {cs : Array Bool} {nx : Value → World → Prop}
    (h : ∀ v' w', w'.ownsRow base e sz v' (n + 1) (xs ++ news) → w.grownBy w' v.ownBlock → nx v' w') :
    Runs P (builtin .append #[t, t] ty cs [v, .slice (some ⟨b, 0, none⟩) 1 c].toArray) w (builtinR nx) := by
  obtain ⟨i, hi, hzz, hs, hbb⟩ := zinfo_some hz
  obtain ⟨v', w', hr, ho, hg, _⟩ := run_append_own (P := P) w base t ty e i z sz by_ ht hi hzz hs hbb hzs hsz v n xs hown ⟨b, 0, none⟩ 1 c news (by omega)
    (fun j u hj => by have := hb.cells (o := 0) (row := news) (fun j u hj => by simpa using hj) j u hj; exact this) h1 h63 hbytes hbase
  refine ⟨.value v', w', ?_, h v' w' ho hg⟩
  simp only [builtin]
  rw [Sem.run_bind]
  have : [v, Value.slice (some ⟨b, 0, none⟩) 1 c].toArray = #[v, .slice (some ⟨b, 0, none⟩) 1 c] := rfl
  rw [this, hr]
  rfl

theorem grown_ext {w w' : World} {B : Nat} {v : Value} {base e sz n : Nat} {xs : List Value} (hown : w.ownsRow base e sz v n xs) (hg : w.grownBy w' v.ownBlock) (S : Nat → Prop) (hS : ∀ k, base ≤ k → S k) : Chg S w w' :=
  ⟨hg.os, hg.tape, hg.output, hg.size, fun k hk hs => hg.block k hk (fun e => hs (hS k (hown.lt k e.symm).1))⟩
/-- What is owned can be read. -/
theorem Sli.of_own {base e sz n : Nat} {v : Value} {xs : List Value} {rows : List (List Value)} (h : w.ownsRow base e sz v n xs) (hx : xs = rows.flatten) (hr : ∀ r ∈ rows, r.length = sz) (hn : rows.length = n) (hb : n ≤ 140737488355328) : Sli w sz v rows := by
  subst hn
  have key : ∀ (j : Nat) (row : List Value), rows[j]? = some row → ∀ k u, row[k]? = some u → xs[j * sz + k]? = some u := by
    subst hx
    clear h hb
    intro j row hj k u hk
    have hrow : row.length = sz := hr row (List.mem_of_getElem? hj)
    have hk' : k < sz := by rw [← hrow]; exact (List.getElem?_eq_some_iff.1 hk).1
    induction rows generalizing j with
    | nil => simp at hj
    | cons r rs ih =>
      have hr0 : r.length = sz := hr r List.mem_cons_self
      cases j with
      | zero =>
        simp at hj; subst hj
        rw [List.flatten_cons, List.getElem?_append_left (by omega)]
        simpa using hk
      | succ j =>
        rw [List.flatten_cons, List.getElem?_append_right (by rw [hr0, Nat.add_mul]; omega), hr0]
        have := ih (fun x hx => hr x (List.mem_cons_of_mem _ hx)) j (by simpa using hj)
        rw [← this]
        congr 1
        rw [Nat.add_mul]; omega
  rcases h.2 with ⟨rfl, h0⟩ | ⟨g, cap, cur, rfl, hb', hg, h1, h2, h3, h4⟩
  · refine ⟨none, 0, by rw [h0], hb, fun j row hj => ?_⟩
    have : j < rows.length := (List.getElem?_eq_some_iff.1 hj).1
    omega
  · refine ⟨_, _, rfl, hb, fun j row hj => ⟨g, 0, rfl, fun k u hk => ?_⟩⟩
    have hx' := key j row hj k u hk
    have hc := h.cells (g := g) rfl (j * sz + k) u hx'
    rw [add_at] at hc ⊢
    simpa using hc
end
end Go.Proofs.Vg
