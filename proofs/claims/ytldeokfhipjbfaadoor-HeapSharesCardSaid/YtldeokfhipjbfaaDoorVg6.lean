import Derived.Test.YtldeokfhipjbfaaDoorVg5
import Derived.OrdersIn
set_option linter.unusedVariables false
set_option linter.unusedSimpArgs false
namespace Go.Proofs.Vg
open Go Go.RowKit

/-- All that was there is there. -/
def Ext (w w' : World) : Prop := Below w.heap.size w w'
theorem Ext.refl (w : World) : Ext w w := Below.refl _ _
theorem Ext.trans {a b c : World} (h : Ext a b) (k : Ext b c) : Ext a c := Below.trans h (Below.mono k h.size)
theorem Ext.drew (w : World) : Ext w { w with drawn := w.drawn + 1 } := ⟨rfl, rfl, rfl, Nat.le_refl _, fun _ _ => rfl⟩
theorem Ext.block {w w' : World} (h : Ext w w') {b : Nat} {o : Obj} (hb : w.heap[b]? = some o) : w'.heap[b]? = some o :=
  (Below.block h b (Array.getElem?_eq_some_iff.1 hb).1).trans hb
theorem Ext.cell {w w' : World} (h : Ext w w') {a : Addr} {v : Value} (hc : w.cell? a = some v) : w'.cell? a = some v :=
  (Below.cell h (World.block_lt_of_cell? w a hc)).trans hc
theorem Ext.cellsAt {w w' : World} (h : Ext w w') {a : Addr} {cs : List Value} (hc : cellsAt w a cs) : cellsAt w' a cs := fun j u hj => h.cell (hc j u hj)

/-- What an operation owes that may come in whatever order: one value, in every world that has come of this one by growth. -/
def opH (P : Program) (K : Env) (C : World → Prop) (next : Value → Prop) (type : TypeId) : Op → Prop
  | .move x => match ev K x with | some v => next v | none => False
  | .assign x => match ev K x with | some v => next v | none => False
  | .pick c a b => match ev K c with
    | some (.bool t) => (t = true → match ev K a with | some v => next v | none => False) ∧ (t = false → match ev K b with | some v => next v | none => False)
    | _ => False
  | .load t x => match ev K x with
    | some (.pointer (some a)) => (match aggN P t with
      | some none => ∃ v, (∀ w', C w' → w'.cell? a = some v) ∧ next v
      | some (some n) => ∃ cs : List Value, cs.length = n ∧ (∀ w', C w' → cellsAt w' a cs) ∧ next (.agg cs.toArray)
      | none => False)
    | _ => False
  | .nilCheck x => match ev K x with | some (.pointer (some a)) => next (.pointer (some a)) | _ => False
  | .binOp op t x y _ => match ev K x, ev K y with
    | some a, some b => (match binV P t op a b with
      | some (ob, v) => ob ∧ next v
      | none => ∃ v, (∀ w', C w' → (do eqGuard op t x y a b; binOp op t a b : Sem Value).run P w' = .ok v w') ∧ next v)
    | _, _ => False
  | .unOp .not _ x => match ev K x with | some (.bool b) => next (.bool !b) | _ => False
  | .unOp .neg _ x => match ev K x with | some (.int k n) => inI k (0 - n) ∧ next (.int k (0 - n)) | _ => False
  | .makeFunc fn first cap => match evs K first.toList, evs K cap.toList with | some l, some m => next (.func fn l.toArray m.toArray) | _, _ => False
  | .fieldAddr s x f => match ev K x with
    | some (.pointer (some a)) => (match fieldOff P s f with
      | some off => next (.pointer (some (a.add off)))
      | none => False)
    | _ => False
  | .indexAddr t x i => match ev K x, ev K i with
    | some (.slice b len cap), some (.int k j) => (match elemSize P t, b with
      | some sz, some ad => 0 ≤ j ∧ j < (len : Int) ∧ next (.pointer (some (ad.add (j.toNat * sz))))
      | _, _ => False)
    | some (.pointer (some ad)), some (.int k j) => (match arrInfo P t with
      | some (n, sz) => 0 ≤ j ∧ j < (n : Int) ∧ next (.pointer (some (ad.add (j.toNat * sz))))
      | none => False)
    | _, _ => False
  | .extract x i => match ev K x with
    | some (.tuple vs) => (match vs.toList[i]? with | some v => next v | none => False)
    | _ => False
  | .build t parts => match evp K parts.toList with | some l => ∃ v, (∀ w', C w' → (Instr.build t l.toArray).run P w' = .ok v w') ∧ next v | none => False
  | .slice t x l h m => match ev K x, evo K l, evo K h, evo K m with | some v, some a, some b, some c => ∃ u, (∀ w', C w' → (Instr.sliceAt t v a b c).run P w' = .ok u w') ∧ next u | _, _, _, _ => False
  | .lookup t x i okk => match ev K x, ev K i with | some a, some b => ∃ v, (∀ w', C w' → (Instr.lookup t a b okk).run P w' = .ok v w') ∧ next v | _, _ => False
  | .call c => match c.callee with
    | .builtin .len => match evs K c.args.toList, c.argTypes.toList with
      | some [.slice _ n _], [t] => (match isSlice P t with | true => next (.int .i64 n) | false => False)
      | some [.string s], [t] => (match isString P t with | true => next (.int .i64 s.size) | false => False)
      | _, _ => False
    | .value f => match ev K f, evs K c.args.toList with
      | some fv, some l => ∃ v, (∀ w', C w' → Inv P fv l w' (callR (fun u w'' => u = v ∧ C w'') (fun _ _ => False))) ∧ next v
      | _, _ => False
    | _ => False
  | _ => False

section
variable {P : Program} {ρ : Option Nat} {N : Nat} {K : Env} {ds : List Deferred} {w : World} {a : Act} {Φ : Post}

/-- Which operations read nothing and turn nothing (0), read memory (1), call (2). -/
def kindOf : Op → Nat
  | .move _ | .assign _ | .pick .. | .nilCheck _ | .unOp .. | .fieldAddr .. | .indexAddr .. | .extract .. | .makeFunc .. => 0
  | .call c => (match c.callee with | .value _ => 2 | _ => 1)
  | _ => 1
/-- One value, in every world of the class. -/
def StillF (P : Program) (K : Env) (C : World → Prop) (type : TypeId) (op : Op) (v : Value) : Prop :=
  (kindOf op = 2 → ∀ w', C w' → opF P K w' (fun u w'' => u = v ∧ C w'') (fun _ _ => False) type op) ∧
  (kindOf op ≠ 2 → ∀ w', (kindOf op = 0 ∨ C w') → opF P K w' (fun u w'' => u = v ∧ w'' = w') (fun _ _ => False) type op)

theorem opH_still {C : World → Prop} {nx : Value → Prop} {type : TypeId} {op : Op} (h : opH P K C nx type op) : ∃ v, nx v ∧ StillF P K C type op v := by
  have z : ∀ {v : Value}, kindOf op = 0 → (∀ w', opF P K w' (fun u w'' => u = v ∧ w'' = w') (fun _ _ => False) type op) → StillF P K C type op v := fun hk h => ⟨fun h2 => by omega, fun _ w' _ => h w'⟩
  have o : ∀ {v : Value}, kindOf op = 1 → (∀ w', C w' → opF P K w' (fun u w'' => u = v ∧ w'' = w') (fun _ _ => False) type op) → StillF P K C type op v := fun hk h => ⟨fun h2 => by omega, fun _ w' hw => h w' (by rcases hw with h | h; omega; exact h)⟩
  cases op <;> simp only [opH] at h
  all_goals first | exact h.elim | skip
  case move x =>
    split at h
    · rename_i v hv; exact ⟨v, h, z rfl fun w' => by simp only [opF, hv]; exact ⟨trivial, trivial⟩⟩
    · exact h.elim
  case assign x =>
    split at h
    · rename_i v hv; exact ⟨v, h, z rfl fun w' => by simp only [opF, hv]; exact ⟨trivial, trivial⟩⟩
    · exact h.elim
  case pick c x y =>
    split at h
    · rename_i t hc
      cases t
      · have h := h.2 rfl
        split at h
        · rename_i v hv; exact ⟨v, h, z rfl fun w' => by simp [opF, hc, hv]⟩
        · exact h.elim
      · have h := h.1 rfl
        split at h
        · rename_i v hv; exact ⟨v, h, z rfl fun w' => by simp [opF, hc, hv]⟩
        · exact h.elim
    · exact h.elim
  case load t x =>
    split at h
    · rename_i b hb
      split at h
      · rename_i hg
        obtain ⟨v, hc, hn⟩ := h
        exact ⟨v, hn, o rfl fun w' hw => by simp only [opF, hb, hg]; exact ⟨v, hc w' hw, by simp⟩⟩
      · rename_i n hg
        obtain ⟨cs, hl, hc, hn⟩ := h
        exact ⟨_, hn, o rfl fun w' hw => by simp only [opF, hb, hg]; exact ⟨cs, hl, hc w' hw, by simp⟩⟩
      · exact h.elim
    · exact h.elim
  case nilCheck x =>
    split at h
    · rename_i b hb; exact ⟨_, h, z rfl fun w' => by simp only [opF, hb]; exact ⟨trivial, trivial⟩⟩
    · exact h.elim
  case binOp op t x y u =>
    split at h
    · rename_i p q hx hy
      split at h
      · rename_i ob v hb
        exact ⟨v, h.2, o rfl fun w' hw => by simp only [opF, hx, hy, hb]; exact ⟨h.1, trivial, trivial⟩⟩
      · rename_i hb
        obtain ⟨v, hv, hn⟩ := h
        exact ⟨v, hn, o rfl fun w' hw => by simp only [opF, hx, hy, hb]; exact ⟨v, w', hv w' hw, rfl, rfl⟩⟩
    · exact h.elim
  case unOp op t x =>
    cases op <;> simp only [opH] at h <;> first | exact h.elim | skip
    · split at h
      · rename_i k n hx; exact ⟨_, h.2, z rfl fun w' => by simp only [opF, hx]; exact ⟨h.1, trivial, trivial⟩⟩
      · exact h.elim
    · split at h
      · rename_i b hx; exact ⟨_, h, z rfl fun w' => by simp only [opF, hx]; exact ⟨trivial, trivial⟩⟩
      · exact h.elim
  case makeFunc f x y =>
    split at h
    · rename_i l m hl hm; exact ⟨_, h, z rfl fun w' => by simp only [opF, hl, hm]; exact ⟨trivial, trivial⟩⟩
    · exact h.elim
  case fieldAddr s x f =>
    split at h
    · rename_i b hb
      split at h
      · rename_i off ho
        exact ⟨_, h, z rfl fun w' => by simp only [opF, hb, ho]; exact ⟨trivial, trivial⟩⟩
      · exact h.elim
    · exact h.elim
  case indexAddr t x i =>
    split at h
    · rename_i b len cap k j hx hi
      split at h
      · rename_i sz ad hs
        obtain ⟨h0, h1, hn⟩ := h
        exact ⟨_, hn, z rfl fun w' => by simp only [opF, hx, hi, hs]; exact ⟨h0, h1, trivial, trivial⟩⟩
      · exact h.elim
    · rename_i ad k j hx hi
      split at h
      · rename_i n sz hs
        obtain ⟨h0, h1, hn⟩ := h
        exact ⟨_, hn, z rfl fun w' => by simp only [opF, hx, hi, hs]; exact ⟨h0, h1, trivial, trivial⟩⟩
      · exact h.elim
    · exact h.elim
  case extract x i =>
    split at h
    · rename_i vs hv
      split at h
      · rename_i v hi; exact ⟨v, h, z rfl fun w' => by simp only [opF, hv, hi]; exact ⟨trivial, trivial⟩⟩
      · exact h.elim
    · exact h.elim
  case build t ps =>
    split at h
    · rename_i l hl
      obtain ⟨v, hv, hn⟩ := h
      exact ⟨v, hn, o rfl fun w' hw => by simp only [opF, hl]; exact ⟨v, w', hv w' hw, rfl, rfl⟩⟩
    · exact h.elim
  case lookup t x i okk =>
    split at h
    · rename_i p q hx hi
      obtain ⟨v, hv, hn⟩ := h
      exact ⟨v, hn, o rfl fun w' hw => by simp only [opF, hx, hi]; exact ⟨v, w', hv w' hw, rfl, rfl⟩⟩
    · exact h.elim
  case slice t x l m u =>
    split at h
    · rename_i p q r s hx hl hm hu
      obtain ⟨v, hv, hn⟩ := h
      exact ⟨v, hn, o rfl fun w' hw => by simp only [opF, hx, hl, hm, hu]; exact ⟨v, w', hv w' hw, rfl, rfl⟩⟩
    · exact h.elim
  case call c =>
    split at h
    · rename_i hc
      have hk : kindOf (.call c) = 1 := by simp [kindOf, hc]
      split at h
      · rename_i b n cp t hl ht
        split at h
        · rename_i hi; exact ⟨_, h, o hk fun w' hw => by simp only [opF, hc, hl, ht, hi]; exact ⟨trivial, trivial⟩⟩
        · exact h.elim
      · rename_i s t hl ht
        split at h
        · rename_i hi; exact ⟨_, h, o hk fun w' hw => by simp only [opF, hc, hl, ht, hi]; exact ⟨trivial, trivial⟩⟩
        · exact h.elim
      · exact h.elim
    · rename_i f hc
      have hk : kindOf (.call c) = 2 := by simp [kindOf, hc]
      split at h
      · rename_i fv l hf hl
        obtain ⟨v, hv, hn⟩ := h
        exact ⟨v, hn, fun _ w' hw => by simp only [opF, hc, hf, hl]; exact hv w' hw, fun h2 => absurd hk h2⟩
      · exact h.elim
    · exact h.elim
end
end Go.Proofs.Vg
