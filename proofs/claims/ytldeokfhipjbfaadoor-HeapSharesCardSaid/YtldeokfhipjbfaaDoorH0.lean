/- The heap of words, in plain Lean; and how it lies in memory. -/
import Derived.Test.YtldeokfhipjbfaaDoorFx
import Derived.Test.YtldeokfhipjbfaaDoorVg19
import Derived.Test.YtldeokfhipjbfaaDoorVg20
import Derived.Test.YtldeokfhipjbfaaDoorVg21
import Derived.Test.YtldeokfhipjbfaaDoorVg25
set_option linter.unusedVariables false
set_option linter.unusedSimpArgs false
namespace Go.Proofs.Vg
open Go Go.RowKit

section
variable {P : Program} {w : World} {t e : TypeId} {x y : Operand} {nx : Value → World → Prop}
theorem run_eq_ptr (ht : P.underlying t = some (.pointer e)) (a : Option Addr) : (Op.equal t (.pointer a) (.pointer none)).run P w = .ok (decide (a = none)) w := by
  unfold Op.equal
  rw [show Op.maxDepth = 9999 + 1 from rfl, Op.equalIn]
  cases a <;> simp [run_underlying ht, Result.andThen]
theorem run_eq_sl (ht : P.underlying t = some (.slice e)) (a : Option Addr) (n c n' c' : Nat) : (Op.equal t (.slice a n c) (.slice none n' c')).run P w = .ok (decide (a = none)) w := by
  unfold Op.equal
  rw [show Op.maxDepth = 9999 + 1 from rfl, Op.equalIn]
  cases a <;> simp [run_underlying ht, Result.andThen]
theorem Runs.ptrEq (ht : P.underlying t = some (.pointer e)) {a : Option Addr} (h : nx (.bool (decide (a = none))) w) : Runs P (do eqGuard .eql t x y (.pointer a) (.pointer none); binOp .eql t (.pointer a) (.pointer none)) w nx := by
  refine ⟨_, w, ?_, h⟩
  simp [eqGuard, binOp, run_eq_ptr ht, Result.andThen]
theorem Runs.ptrNe (ht : P.underlying t = some (.pointer e)) {a : Option Addr} (h : nx (.bool (!decide (a = none))) w) : Runs P (do eqGuard .neq t x y (.pointer a) (.pointer none); binOp .neq t (.pointer a) (.pointer none)) w nx := by
  refine ⟨_, w, ?_, h⟩
  simp [eqGuard, binOp, run_eq_ptr ht, Result.andThen]
theorem Runs.slEq (ht : P.underlying t = some (.slice e)) {a : Option Addr} {n c : Nat} (h : nx (.bool (decide (a = none))) w) : Runs P (do eqGuard .eql t x y (.slice a n c) (.slice none 0 0); binOp .eql t (.slice a n c) (.slice none 0 0)) w nx := by
  refine ⟨_, w, ?_, h⟩
  simp [eqGuard, binOp, run_eq_sl ht, Result.andThen]
end

structure Wd where
  k : Int
  n : Int
  r : Int
def Wd.row (x : Wd) : List Value := [.int .i64 x.k, .int .i64 x.n, .int .i64 x.r]
@[simp] theorem Wd.row_length (x : Wd) : x.row.length = 3 := rfl
inductive Ob where
  | text (s : ByteArray)
  | words (sort : Int) (l : List Wd)
def Ob.list : Ob → List Wd
  | .text _ => []
  | .words _ l => l
def objAt (H : List Ob) (r : Int) : Option Ob := if 1 ≤ r then H[(r - 1).toNat]? else none
def isTextO : Option Ob → Bool
  | some (.text _) => true
  | _ => false
def isDataO : Option Ob → Bool
  | some (.words s _) => !decide (s = 7)
  | _ => false
def isArrO : Option Ob → Bool
  | some (.words s _) => decide (s = 7)
  | _ => false
def rightW (H : List Ob) (x : Wd) : Bool :=
  if x.k = 0 then decide (x.n = 0) && decide (x.r = 0)
  else if x.k = 1 ∨ x.k = 2 ∨ x.k = 8 ∨ x.k = 9 then decide (x.r = 0)
  else if x.k = 3 then decide (x.n = 0) && isTextO (objAt H x.r)
  else if x.k = 4 ∨ x.k = 5 ∨ x.k = 6 then decide (x.r = 0) || isDataO (objAt H x.r)
  else if x.k = 7 then decide (x.n = 0) && isArrO (objAt H x.r)
  else false
def argsO : Option Ob → List Wd
  | some (.words _ l) => l
  | _ => []
def argsOf (H : List Ob) (x : Wd) : List Wd := argsO (objAt H x.r)

/-- The rules of a heap: by kind. -/
def ruleF (hb : Nat) (k : Int) : Option Value :=
  if k = 0 then some (.func (.func 47) #[] #[])
  else if k = 1 ∨ k = 2 ∨ k = 8 ∨ k = 9 then some (.func (.func 46) #[] #[])
  else if k = 3 then some (.func (.func 48) #[.pointer (some ⟨hb, 0, none⟩)] #[])
  else if k = 4 ∨ k = 5 ∨ k = 6 then some (.func (.func 49) #[.pointer (some ⟨hb, 0, none⟩)] #[])
  else if k = 7 then some (.func (.func 50) #[.pointer (some ⟨hb, 0, none⟩)] #[])
  else none

abbrev ptrOf (b : Nat) : Value := .pointer (some ⟨b, 0, none⟩)
/-- A list of words that lies at the head of the block 'g'. -/
def WL (w : World) (g : Nat) (lv : Value) (l : List Wd) : Prop :=
  ∃ A c, lv = .slice A l.length c ∧ l.length ≤ 1073741824 ∧ l.length ≤ c ∧ (l ≠ [] → A = some ⟨g, 0, none⟩ ∧ ∃ cs, Blk w g cs 31 ∧ cs.take (l.length * 3) = (l.map Wd.row).flatten)
def ObW (w : World) (p g : Nat) : Ob → Prop
  | .text s => Blk w p [.slice none 0 0, .string s, .bool true, .int .i64 0] 72
  | .words sort l => ∃ lv, Blk w p [lv, .string ⟨#[]⟩, .bool false, .int .i64 sort] 72 ∧ WL w g lv l

/-- A heap at 'hb', its rules at 'rb', its objects at 'ps', their words in 'gs'. -/
structure HeapR (w : World) (hb rb : Nat) (vs : Value) (ps gs : List Nat) (H : List Ob) : Prop where
  head : Blk w hb [vs, .map (some rb)] 59
  rules : MapI w rb (ruleF hb)
  own : w.ownsRow 0 73 1 vs H.length (ps.map ptrOf)
  lenp : ps.length = H.length
  leng : gs.length = H.length
  ndp : ps.Nodup
  ndg : gs.Nodup
  ap : (hb ∉ ps ∧ hb ∉ gs) ∧ ∀ k, vs.ownBlock = some k → k ≠ hb ∧ k ∉ ps ∧ k ∉ gs
  obj : ∀ (i p g : Nat) (o : Ob), ps[i]? = some p → gs[i]? = some g → H[i]? = some o → ObW w p g o
def Foot (hb : Nat) (vs : Value) (ps gs : List Nat) (k : Nat) : Prop := k = hb ∨ vs.ownBlock = some k ∨ k ∈ ps ∨ k ∈ gs
def HeapW (w : World) (hb rb : Nat) (H : List Ob) (F : Nat → Prop) : Prop :=
  ∃ vs ps gs, HeapR w hb rb vs ps gs H ∧ (∀ k, Foot hb vs ps gs k → F k ∧ k < w.heap.size) ∧ ¬ F rb

theorem owns_chg' {w w' : World} {S : Nat → Prop} {base e sz n : Nat} {v : Value} {xs : List Value} (h : w.ownsRow base e sz v n xs) (hc : Chg S w w') (hs : ∀ k, v.ownBlock = some k → ¬ S k) : w'.ownsRow base e sz v n xs := by
  refine ⟨h.1, ?_⟩
  rcases h.2 with hn | ⟨g, cap, cur, rfl, hb, hgg, rest⟩
  · exact .inl hn
  · refine .inr ⟨g, cap, cur, rfl, hb, ?_, rest⟩
    rw [hc.block g (Array.getElem?_eq_some_iff.1 hgg).1 (hs g rfl)]
    exact hgg
theorem WL.chg {w w' : World} {S : Nat → Prop} {g : Nat} {lv : Value} {l : List Wd} (h : WL w g lv l) (hc : Chg S w w') (hs : ¬ S g) : WL w' g lv l := by
  obtain ⟨A, c, h1, h2, h3, h4⟩ := h
  refine ⟨A, c, h1, h2, h3, fun hne => ?_⟩
  obtain ⟨h5, cs, h6, h7⟩ := h4 hne
  exact ⟨h5, cs, h6.chg hc hs, h7⟩
theorem WL.ext {w w' : World} {g : Nat} {lv : Value} {l : List Wd} (h : WL w g lv l) (he : Ext w w') : WL w' g lv l := h.chg (he.chg (fun _ => False)) id
theorem ObW.chg {w w' : World} {S : Nat → Prop} {p g : Nat} {o : Ob} (h : ObW w p g o) (hc : Chg S w w') (hp : ¬ S p) (hg : ¬ S g) : ObW w' p g o := by
  cases o with
  | text s => exact Blk.chg h hc hp
  | words sort l =>
    obtain ⟨lv, h1, h2⟩ := h
    exact ⟨lv, h1.chg hc hp, h2.chg hc hg⟩
theorem HeapR.chg {w w' : World} {S : Nat → Prop} {hb rb : Nat} {vs : Value} {ps gs : List Nat} {H : List Ob} (h : HeapR w hb rb vs ps gs H) (hc : Chg S w w') (hn : ∀ k, Foot hb vs ps gs k → ¬ S k) (hr : ¬ S rb) : HeapR w' hb rb vs ps gs H := by
  obtain ⟨h1, h2, h3, h4, h5, h6, h7, h9, h8⟩ := h
  refine ⟨h1.chg hc (hn _ (.inl rfl)), h2.chg hc hr, owns_chg' h3 hc (fun k hk => hn k (.inr (.inl hk))), h4, h5, h6, h7, h9, fun i p g o hp hg ho => ?_⟩
  exact (h8 i p g o hp hg ho).chg hc (hn _ (.inr (.inr (.inl (List.mem_of_getElem? hp))))) (hn _ (.inr (.inr (.inr (List.mem_of_getElem? hg)))))
theorem HeapR.ext {w w' : World} {hb rb : Nat} {vs : Value} {ps gs : List Nat} {H : List Ob} (h : HeapR w hb rb vs ps gs H) (he : Ext w w') : HeapR w' hb rb vs ps gs H := h.chg (he.chg (fun _ => False)) (fun _ _ => id) id
theorem HeapW.chg {w w' : World} {S F : Nat → Prop} {hb rb : Nat} {H : List Ob} (h : HeapW w hb rb H F) (hc : Chg S w w') (hs : ∀ k, F k → ¬ S k) (hr : ¬ S rb) : HeapW w' hb rb H F := by
  obtain ⟨vs, ps, gs, ⟨h1, h2, h3, h4, h5, h6, h7, h9, h8⟩, hf, hrb⟩ := h
  have hn : ∀ k, Foot hb vs ps gs k → ¬ S k := fun k hk => hs k (hf k hk).1
  refine ⟨vs, ps, gs, ⟨h1.chg hc (hn _ (.inl rfl)), h2.chg hc hr, owns_chg' h3 hc (fun k hk => hn k (.inr (.inl hk))), h4, h5, h6, h7, h9, fun i p g o hp hg ho => ?_⟩, fun k hk => ⟨(hf k hk).1, Nat.lt_of_lt_of_le (hf k hk).2 hc.size⟩, hrb⟩
  exact (h8 i p g o hp hg ho).chg hc (hn _ (.inr (.inr (.inl (List.mem_of_getElem? hp))))) (hn _ (.inr (.inr (.inr (List.mem_of_getElem? hg)))))
theorem HeapW.ext {w w' : World} {F : Nat → Prop} {hb rb : Nat} {H : List Ob} (h : HeapW w hb rb H F) (he : Ext w w') : HeapW w' hb rb H F := h.chg (he.chg (fun _ => False)) (fun _ _ => id) id
theorem HeapW.mono {w : World} {F G : Nat → Prop} {hb rb : Nat} {H : List Ob} (h : HeapW w hb rb H F) (hs : ∀ k, F k → G k) (hr : ¬ G rb) : HeapW w hb rb H G := by
  obtain ⟨vs, ps, gs, h1, h2, h3⟩ := h
  exact ⟨vs, ps, gs, h1, fun k hk => ⟨hs k (h2 k hk).1, (h2 k hk).2⟩, hr⟩
/-- The list's words as rows. -/
theorem WL.sli {w : World} {g : Nat} {lv : Value} {l : List Wd} (h : WL w g lv l) : Sli w 3 lv (l.map Wd.row) := by
  obtain ⟨A, c, rfl, h2, h3, h4⟩ := h
  refine ⟨A, c, by simp, by simp; omega, fun j row hj => ?_⟩
  have hjl : j < l.length := by have := (List.getElem?_eq_some_iff.1 hj).1; simpa using this
  obtain ⟨rfl, cs, hb, hcs⟩ := h4 (fun e => by subst e; simp at hjl)
  refine ⟨g, 0, rfl, fun k u hk => ?_⟩
  have hk3 : k < 3 := by
    rw [List.getElem?_map, List.getElem?_eq_getElem hjl] at hj
    simp at hj; subst hj
    have := (List.getElem?_eq_some_iff.1 hk).1; simpa using this
  have : cs[j * 3 + k]? = some u := by
    have h0 : (cs.take (l.length * 3))[j * 3 + k]? = cs[j * 3 + k]? := by rw [List.getElem?_take]; rw [if_pos (by omega)]
    rw [← h0, hcs]
    clear h0 hcs hb h4
    induction l generalizing j with
    | nil => simp at hjl
    | cons x xs ih =>
      cases j with
      | zero =>
        simp at hj; subst hj
        rw [List.map_cons, List.flatten_cons, List.getElem?_append_left (by simpa using hk3)]
        simpa using hk
      | succ j =>
        rw [List.map_cons, List.flatten_cons, List.getElem?_append_right (by simp; omega)]
        have := ih (by simp at h2; omega) (by simp at h3; omega) j (by simpa using hj) (by simpa using hjl)
        rw [← this]
        congr 1
        simp; omega
  rw [add_at]
  have := hb.cell this
  simpa using this
/-- An object of a heap. -/
theorem HeapR.at_ {w : World} {hb rb : Nat} {vs : Value} {ps gs : List Nat} {H : List Ob} (h : HeapR w hb rb vs ps gs H) {i : Nat} {o : Ob} (ho : H[i]? = some o) :
    ∃ p g, ps[i]? = some p ∧ gs[i]? = some g ∧ ObW w p g o := by
  have hi := (List.getElem?_eq_some_iff.1 ho).1
  have hp : ps[i]? = some (ps[i]'(by rw [h.lenp]; exact hi)) := List.getElem?_eq_getElem _
  have hg : gs[i]? = some (gs[i]'(by rw [h.leng]; exact hi)) := List.getElem?_eq_getElem _
  exact ⟨_, _, hp, hg, h.obj i _ _ o hp hg ho⟩
theorem flat_ptr (ps : List Nat) : ps.map ptrOf = (ps.map fun p => [ptrOf p]).flatten := by
  induction ps with
  | nil => rfl
  | cons p ps ih => simp [ih]
/-- The row of pointers, read. -/
theorem HeapR.sli {w : World} {hb rb : Nat} {vs : Value} {ps gs : List Nat} {H : List Ob} (h : HeapR w hb rb vs ps gs H) (hl : H.length ≤ 1073741824) : Sli w 1 vs (ps.map fun p => [ptrOf p]) := by
  exact Sli.of_own h.own (flat_ptr ps) (by simp) (by simp [h.lenp]) (by omega)
end Go.Proofs.Vg
