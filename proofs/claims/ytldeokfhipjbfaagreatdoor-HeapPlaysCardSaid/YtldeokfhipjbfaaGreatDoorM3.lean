/- Part 3 of 13: Vg25, Vg28, Vg29, Vg30, Vg31, Vg32, Vg33, H0, Fq, H1. -/
import Derived.Test.YtldeokfhipjbfaaGreatDoorM2
/- Small laws in one: for short texts. -/
set_option linter.unusedVariables false
namespace Go.Proofs.Vg
open Go Go.RowKit
theorem S0 :
    (∀ {α : Type} (a : α) (l : List α) (d : α), (a :: l).headD d = a) ∧ (∀ {α : Type} (a : α) (l : List α), (a :: l).tail = l) ∧
    (∀ {α : Type} (a : α) (l : List α) (n : Nat), (a :: l).take (n + 1) = a :: l.take n) ∧ (∀ {α : Type} (l : List α), l.take 0 = []) ∧
    (∀ {α : Type} (a : α) (l : List α) (n : Nat), (a :: l).drop (n + 1) = l.drop n) ∧ (∀ {α : Type} (l : List α), l.drop 0 = l) ∧
    (∀ {α : Type} (a : α) (l : List α), (a :: l)[0]? = some a) ∧ (∀ {α : Type} (a : α) (l : List α) (n : Nat), (a :: l)[n + 1]? = l[n]?) ∧
    ((!true) = false) ∧ ((!false) = true) ∧ (∀ p : Prop, (True ∧ p) = p) ∧ (∀ p : Prop, (p ∧ True) = p) ∧ (∀ p : Prop, (False → p) = True) ∧ (∀ p : Prop, (True → p) = p) ∧
    (∀ h : Decidable True, @decide True h = true) ∧ (∀ h : Decidable False, @decide False h = false) ∧
    (∀ {α : Type} (l : List α), l.toArray.toList = l) ∧ (∀ {α : Type} (a : α) (l m : List α), (a :: l) ++ m = a :: (l ++ m)) ∧ (∀ {α : Type} (l : List α), [] ++ l = l) ∧
    (∀ n : Nat, ((n : Int)).toNat = n) ∧ (∀ b o n : Nat, (⟨b, o, none⟩ : Addr).add n = ⟨b, o + n, none⟩) ∧ (∀ n : Nat, n * 1 = n) ∧ (∀ n : Nat, n + 0 = n) :=
  ⟨fun _ _ _ => rfl, fun _ _ => rfl, fun _ _ _ => rfl, fun _ => rfl, fun _ _ _ => rfl, fun _ => rfl, fun _ _ => rfl, fun _ _ _ => rfl, rfl, rfl, fun p => true_and p, fun p => and_true p, fun p => false_implies p, fun p => true_implies p,
    fun _ => decide_true _, fun _ => decide_false _, fun _ => rfl, fun _ _ _ => rfl, fun _ => rfl, fun _ => rfl, add_at, Nat.mul_one, Nat.add_zero⟩
theorem S1 :
    (∀ (P : Program) (t : TypeId) (k k' : IntKind) (a b : Int), binV P t .add (.int k a) (.int k' b) = some (k = k' ∧ inI k (a + b), .int k (a + b))) ∧
    (∀ (P : Program) (t : TypeId) (k k' : IntKind) (a b : Int), binV P t .sub (.int k a) (.int k' b) = some (k = k' ∧ inI k (a - b), .int k (a - b))) ∧
    (∀ (P : Program) (t : TypeId) (k k' : IntKind) (a b : Int), binV P t .mul (.int k a) (.int k' b) = some (k = k' ∧ inI k (a * b), .int k (a * b))) ∧
    (∀ (P : Program) (t : TypeId) (k k' : IntKind) (a b : Int), binV P t .eql (.int k a) (.int k' b) = some (k = k', .bool (decide (a = b)))) ∧
    (∀ (P : Program) (t : TypeId) (k k' : IntKind) (a b : Int), binV P t .neq (.int k a) (.int k' b) = some (k = k', .bool (!decide (a = b)))) ∧
    (∀ (P : Program) (t : TypeId) (k k' : IntKind) (a b : Int), binV P t .lss (.int k a) (.int k' b) = some (k = k', .bool (decide (a < b)))) ∧
    (∀ (P : Program) (t : TypeId) (k k' : IntKind) (a b : Int), binV P t .leq (.int k a) (.int k' b) = some (k = k', .bool (decide (a ≤ b)))) ∧
    (∀ (P : Program) (t : TypeId) (k k' : IntKind) (a b : Int), binV P t .gtr (.int k a) (.int k' b) = some (k = k', .bool (decide (b < a)))) ∧
    (∀ (P : Program) (t : TypeId) (k k' : IntKind) (a b : Int), binV P t .geq (.int k a) (.int k' b) = some (k = k', .bool (decide (b ≤ a)))) ∧
    (∀ (P : Program) (t : TypeId) (s u : ByteArray), binV P t .eql (.string s) (.string u) = some (True, .bool (decide (s = u)))) ∧
    (∀ (P : Program) (t : TypeId) (s u : ByteArray), binV P t .neq (.string s) (.string u) = some (True, .bool (!decide (s = u)))) ∧
    (∀ (P : Program) (t : TypeId) (x y : Bool), binV P t .eql (.bool x) (.bool y) = some (P.underlying t = some .bool, .bool (decide (x = y)))) ∧
    (∀ (P : Program) (t : TypeId) (x y : Bool), binV P t .neq (.bool x) (.bool y) = some (P.underlying t = some .bool, .bool (!decide (x = y)))) :=
  ⟨fun _ _ _ _ _ _ => rfl, fun _ _ _ _ _ _ => rfl, fun _ _ _ _ _ _ => rfl, fun _ _ _ _ _ _ => rfl, fun _ _ _ _ _ _ => rfl, fun _ _ _ _ _ _ => rfl, fun _ _ _ _ _ _ => rfl, fun _ _ _ _ _ _ => rfl, fun _ _ _ _ _ _ => rfl,
    fun _ _ _ _ => rfl, fun _ _ _ _ => rfl, fun _ _ _ _ => rfl, fun _ _ _ _ => rfl⟩
end Go.Proofs.Vg
/- A region that draws its order, by an invariant over the set of operations that have come. -/
set_option linter.unusedVariables false
set_option linter.unusedSimpArgs false
namespace Go.Proofs.Vg
open Go Go.RowKit
section
variable {P : Program} {ρ : Option Nat} {N : Nat} {K : Env} {ds : List Deferred} {w : World} {a : Act} {Φ : Post} {ops : List Oper}

theorem wp1_sound {M : Env → World → Prop} {Kont : Act → World → Prop} {i : Nat} {o : Oper} (ho : ops[i]? = some o) (hd0 : ∀ d, o.dst = some d → d < N) (ha : Kn K N ds a)
    (h : wpL P ops (fun ch K w => Φ (.panic ch) K ds w) M [o] K w) (hM : ∀ K' w' a', Kn K' N ds a' → M K' w' → Kont a' w') : wpOpIn (fence ρ) 0 P ops.toArray (lift N Φ) i Kont a w := by
  have hi : ops.toArray[i]? = some o := by simpa using ho
  simp only [wpL] at h
  unfold wpOpIn
  simp only [hi]
  cases hg : o.guard with
  | none =>
    rw [hg] at h
    simp only [Region.wanted, hg, if_true]
    exact opF_sound ha h (fun v w' hv => hM _ _ _ (ha.put hd0) hv) (fun ch w' hc => ⟨K, ds, ha, hc⟩)
  | some gd =>
    obtain ⟨j, want⟩ := gd
    rw [hg] at h
    simp only at h
    split at h
    · rename_i d hgd
      have hy : yielded ops.toArray a.tmps j = match a.tmps[d]? with | some (.bool b) => some b | _ => none := by
        unfold gdst at hgd
        split at hgd
        · rename_i oj hj
          simp only [yielded, List.getElem?_toArray, hj, Option.bind_some, hgd]
          split <;> simp_all
        · cases hgd
      split at h
      · rename_i b hb
        have hya : yielded ops.toArray a.tmps j = some b := by rw [hy, ha.at_ _ _ hb]
        by_cases hbw : b = want
        · subst hbw
          have hw : Region.wanted o (yielded ops.toArray a.tmps) = true := by simp [Region.wanted, hg, hya]
          rw [if_pos hw]
          have ha' := ha.set hb
          exact opF_sound ha' (h.1 rfl) (fun v w' hv => hM _ _ _ (ha'.put hd0) hv) (fun ch w' hc => ⟨_, ds, ha', hc⟩)
        · have hbn : b = !want := by cases b <;> cases want <;> simp_all
          have hw : ¬ Region.wanted o (yielded ops.toArray a.tmps) = true := by simp [Region.wanted, hg, hya, hbw]
          rw [if_neg hw]
          have ha' := ha.set (hbn ▸ hb)
          exact ⟨fun _ _ => trivial, hM _ _ _ (ha'.put hd0) (h.2 hbn)⟩
      · rename_i x hb
        have hya : yielded ops.toArray a.tmps j = none := by rw [hy, ha.at_ _ _ hb]
        have hw : ¬ Region.wanted o (yielded ops.toArray a.tmps) = true := by simp [Region.wanted, hg, hya]
        rw [if_neg hw]
        exact ⟨fun _ _ => trivial, hM _ _ _ (ha.put hd0) h⟩
      · exact h.elim
    · exact h.elim

def needsOk (ops : List Oper) : Bool := (List.range ops.length).all fun j => match ops[j]? with | some o => (needs o).all (· < j) | none => true
theorem needsOk_lt (h : needsOk ops = true) {j : Nat} {o : Oper} (ho : ops[j]? = some o) : ∀ k ∈ needs o, k < j := by
  have hj := (List.getElem?_eq_some_iff.1 ho).1
  have h1 := List.all_eq_true.1 h j (List.mem_range.2 hj)
  rw [ho] at h1
  intro k hk
  have := List.all_eq_true.1 h1 k hk
  simpa using this
def up (L : Nat → Bool) (i : Nat) : Nat → Bool := fun k => decide (k = i) || L k

/-- A REGION THAT DRAWS ITS ORDER: J holds of what has come. -/
theorem ok_any (J : (Nat → Bool) → Env → World → Prop) {id : Nat} (hm : P.follows .mixedOrders = true) (hd : dstsOk N ops = true) (hn : needsOk ops = true) (K0 : Env) (hs0 : sub K0 K)
    (h0 : J (fun _ => false) K0 { w with drawn := w.drawn + 1 })
    (hstep : ∀ (L : Nat → Bool) (K : Env) (w : World) (i : Nat) (o : Oper), J L K w → ops[i]? = some o → L i = false → (∀ k ∈ needs o, L k = true) → wpL P ops (fun ch K w => Φ (.panic ch) K ds w) (fun K' w' => J (up L i) K' w') [o] K w)
    (hend : ∀ K w, J (fun k => decide (k < ops.length)) K w → Φ .normal K ds w) : ok P ρ N (.region id ops.toArray true) K ds w Φ := by
  intro a ha
  refine wpIn_region_any hm ?_
  have main : ∀ (u : Nat) (listed : Array Bool) (K : Env) (b : Act) (w : World) (fuel : Nat), (missing ops.length listed).length = u → u ≤ fuel → listed.size = ops.length → Kn K N ds b → J (fun k => listed.getD k false) K w →
      wpAnyIn (fence ρ) 0 P .any ops.toArray (lift N Φ) fuel listed b w := by
    intro u
    induction u with
    | zero =>
      intro listed K b w fuel hu hf hs hk hJ
      have hm0 : missing ops.length listed = [] := List.eq_nil_of_length_eq_zero hu
      have hall : ∀ k, k < ops.length → listed.getD k false = true := fun k hk => by
        cases h0 : listed.getD k false with
        | true => rfl
        | false => have := missing_mem.2 ⟨hk, h0⟩; rw [hm0] at this; cases this
      have hL : (fun k => listed.getD k false) = fun k => decide (k < ops.length) := by
        funext k
        by_cases hk : k < ops.length
        · rw [hall k hk]; simp [hk]
        · have : listed.getD k false = false := by simp [show ¬ k < listed.size by omega]
          rw [this]; simp [hk]
      rw [hL] at hJ
      have hend' : lift N Φ .normal b w := ⟨K, ds, hk, hend K w hJ⟩
      have hr : Region.ready .any ops.toArray listed = [] := by
        apply List.eq_nil_iff_forall_not_mem.2
        intro i hi
        obtain ⟨o, ho, h1, _⟩ := (ready_iff hs).1 hi
        rw [hall i (List.getElem?_eq_some_iff.1 ho).1] at h1
        cases h1
      cases fuel with
      | zero => exact ⟨hr, hend'⟩
      | succ fuel => exact ⟨fun _ => hend', fun i hi => by rw [hr] at hi; cases hi⟩
    | succ u ih =>
      intro listed K b w fuel hu hf hs hk hJ
      cases fuel with
      | zero => omega
      | succ fuel =>
        refine ⟨fun h0 => ?_, fun i hi => ?_⟩
        · obtain ⟨i, hi, h1, h2⟩ := missing_first (n := ops.length) (listed := listed) (fun e => by rw [e] at hu; simp at hu)
          have ho : ops[i]? = some ops[i] := List.getElem?_eq_getElem hi
          have : i ∈ Region.ready .any ops.toArray listed := (ready_iff hs).2 ⟨_, ho, h1, fun k hk => h2 k (needsOk_lt hn ho k hk)⟩
          rw [h0] at this
          cases this
        · obtain ⟨o, ho, h1, h2⟩ := (ready_iff hs).1 hi
          have hil : i < ops.length := (List.getElem?_eq_some_iff.1 ho).1
          have hd0 : ∀ d, o.dst = some d → d < N := fun d he => by
            have := List.all_eq_true.1 hd o (List.mem_of_getElem? ho)
            rw [he] at this; simpa using this
          refine wp1_sound ho hd0 hk (hstep _ K w i o hJ ho h1 h2) (fun K' w' a' hk' hJ' => ih _ K' a' w' fuel ?_ (by omega) (by simp [hs]) hk' ?_)
          · have := missing_set hil (by omega) h1
            omega
          · have : (fun k => (listed.setIfInBounds i true).getD k false) = up (fun k => listed.getD k false) i := by
              funext k
              rw [getD_set (by omega)]; rfl
            rw [this]; exact hJ'
  have h00 : (fun k => (Array.replicate ops.length false).getD k false) = fun _ => false := by
    funext k
    rcases Nat.lt_or_ge k ops.length with h | h
    · simp [h]
    · simp [h]
  have := main _ (Array.replicate ops.length false) K0 a { w with drawn := w.drawn + 1 } ops.length rfl ?_ (by simp) (ha.less hs0) (by rw [h00]; exact h0)
  · simpa using this
  · have := List.length_filter_le (fun k => !(Array.replicate ops.length false).getD k false) (List.range ops.length)
    simpa [missing] using this
end
end Go.Proofs.Vg
/- A region in the order of the text where additions and subtractions may overflow. -/
set_option linter.unusedVariables false
set_option linter.unusedSimpArgs false
namespace Go.Proofs.Vg
open Go Go.RowKit
def opFW (P : Program) (K : Env) (w : World) (next : Value → World → Prop) (pan : List PanicEntry → World → Prop) (type : TypeId) : Op → Prop
  | .binOp .add _ x y _ => (match ev K x, ev K y with
    | some (.int k a), some (.int k' b) => k = k' ∧ next (.int k (k.wrap (a + b))) w
    | _, _ => False)
  | .binOp .sub _ x y _ => (match ev K x, ev K y with
    | some (.int k a), some (.int k' b) => k = k' ∧ next (.int k (k.wrap (a - b))) w
    | _, _ => False)
  | op => opF P K w next pan type op
/-- What a list of operations owes, carried out in the order of the text. -/
def wpLW (P : Program) (ops : List Oper) (pan : List PanicEntry → Env → World → Prop) (M : Env → World → Prop) : List Oper → Env → World → Prop
  | [], K, w => M K w
  | o :: rest, K, w =>
    match o.guard with
    | none => opFW P K w (fun v w' => wpLW P ops pan M rest (putE o.dst v K) w') (fun ch w' => pan ch K w') o.type o.op
    | some (j, want) => match gdst ops j with
      | some d => (match K.get d with
        | some (.bool b) => (b = want → opFW P (K.set d (.bool want)) w (fun v w' => wpLW P ops pan M rest (putE o.dst v (K.set d (.bool want))) w') (fun ch w' => pan ch (K.set d (.bool want)) w') o.type o.op) ∧
            (b = !want → wpLW P ops pan M rest (putE o.dst undef (K.set d (.bool !want))) w)
        | some (.tuple _) => wpLW P ops pan M rest (putE o.dst undef K) w
        | _ => False)
      | none => False


section
variable {P : Program} {ρ : Option Nat} {N : Nat} {K : Env} {ds : List Deferred} {w : World} {a : Act} {Φ : Post}
theorem wpLW_step {ops : List Oper} {pan : List PanicEntry → Env → World → Prop} {M : Env → World → Prop} {o : Oper} {rest : List Oper} (h : ∀ X : Value → Env → World → Prop, X = (fun v K' w' => wpLW P ops pan M rest (putE o.dst v K') w') →
    match o.guard with
    | none => opFW P K w (fun v w' => X v K w') (fun ch w' => pan ch K w') o.type o.op
    | some (j, want) => match gdst ops j with
      | some d => (match K.get d with
        | some (.bool b) => (b = want → opFW P (K.set d (.bool want)) w (fun v w' => X v (K.set d (.bool want)) w') (fun ch w' => pan ch (K.set d (.bool want)) w') o.type o.op) ∧
            (b = !want → X undef (K.set d (.bool !want)) w)
        | some (.tuple _) => X undef K w
        | _ => False)
      | none => False) : wpLW P ops pan M (o :: rest) K w := h _ rfl
theorem wpLW_end {ops : List Oper} {pan : List PanicEntry → Env → World → Prop} {M : Env → World → Prop} (h : M K w) : wpLW P ops pan M [] K w := h
end
end Go.Proofs.Vg
/- A region that draws its order, where calculations may overflow. -/
set_option linter.unusedVariables false
set_option linter.unusedSimpArgs false
namespace Go.Proofs.Vg
open Go Go.RowKit
def opHW (P : Program) (K : Env) (C : World → Prop) (next : Value → Prop) (type : TypeId) : Op → Prop
  | .binOp .add _ x y _ => (match ev K x, ev K y with
    | some (.int k a), some (.int k' b) => k = k' ∧ next (.int k (k.wrap (a + b)))
    | _, _ => False)
  | .binOp .sub _ x y _ => (match ev K x, ev K y with
    | some (.int k a), some (.int k' b) => k = k' ∧ next (.int k (k.wrap (a - b)))
    | _, _ => False)
  | op => opH P K C next type op
section
variable {P : Program} {ρ : Option Nat} {N : Nat} {K : Env} {ds : List Deferred} {w : World} {ops : List Oper} {n : Nat} {C : World → Prop}
/-- What the heads owe, in the order of the text; each leaves one value. -/
def wpHW (P : Program) (ops : List Oper) (C : World → Prop) (M : Env → Prop) : List Oper → Env → Prop
  | [], K => M K
  | o :: rest, K =>
    match o.guard with
    | none => opHW P K C (fun v => wpHW P ops C M rest (putE o.dst v K)) o.type o.op
    | some (j, want) => match gdst ops j with
      | some d => (match K.get d with
        | some (.bool b) => (b = want → opHW P (K.set d (.bool want)) C (fun v => wpHW P ops C M rest (putE o.dst v (K.set d (.bool want)))) o.type o.op) ∧
            (b = !want → wpHW P ops C M rest (putE o.dst undef (K.set d (.bool !want))))
        | some (.tuple _) => wpHW P ops C M rest (putE o.dst undef K)
        | _ => False)
      | none => False

theorem wpHW_step {H : Env → Prop} {o : Oper} {rest : List Oper} (h : ∀ X : Value → Env → Prop, X = (fun v K' => wpHW P ops C H rest (putE o.dst v K')) →
    match o.guard with
    | none => opHW P K C (fun v => X v K) o.type o.op
    | some (j, want) => match gdst ops j with
      | some d => (match K.get d with
        | some (.bool b) => (b = want → opHW P (K.set d (.bool want)) C (fun v => X v (K.set d (.bool want))) o.type o.op) ∧
            (b = !want → X undef (K.set d (.bool !want)))
        | some (.tuple _) => X undef K
        | _ => False)
      | none => False) : wpHW P ops C H (o :: rest) K := h _ rfl
theorem wpHW_end {H : Env → Prop} (h : H K) : wpHW P ops C H [] K := h
end
end Go.Proofs.Vg
/- A region that draws its order, its operations taken in another order than that of the text. -/
set_option linter.unusedVariables false
set_option linter.unusedSimpArgs false
namespace Go.Proofs.Vg
open Go Go.RowKit
/-- The operations with these indices. -/
def pickL (ops : List Oper) : List Nat → List Oper
  | [] => []
  | i :: r => match ops[i]? with
    | some o => o :: pickL ops r
    | none => pickL ops r
def ren (π : Nat → Nat) (o : Oper) : Oper := { o with after := (o.after.toList.map fun e => { e with on := π e.on }).toArray, guard := o.guard.map fun g => (π g.1, g.2) }
def place (σ : List Nat) (i : Nat) : Nat := σ.idxOf i
def reord (ops : List Oper) (σ : List Nat) : List Oper := (pickL ops σ).map (ren (place σ))
def permOk (n : Nat) (σ : List Nat) : Bool := decide (σ.length = n) && (List.range n).all fun i => decide (σ[place σ i]? = some i) && decide (place σ i < n)
section
variable {P : Program} {ρ : Option Nat} {N : Nat} {K : Env} {ds : List Deferred} {w : World} {ops : List Oper} {n : Nat} {C : World → Prop} {σ : List Nat}
theorem pickL_get : ∀ (σ : List Nat), (∀ i ∈ σ, i < ops.length) → ∀ (j : Nat), (pickL ops σ)[j]? = (σ[j]?).bind fun (i : Nat) => ops[i]?
  | [], _, j => by simp [pickL]
  | i :: r, h, j => by
    have hi : ops[i]? = some (ops[i]'(h i List.mem_cons_self)) := List.getElem?_eq_getElem _
    simp only [pickL]
    rw [hi]
    simp only
    cases j with
    | zero => simp [hi]
    | succ j => simpa using pickL_get r (fun i hi => h i (List.mem_cons_of_mem _ hi)) j
theorem permOk_spec (h : permOk n σ = true) : σ.length = n ∧ ∀ i, i < n → σ[place σ i]? = some i ∧ place σ i < n := by
  simp only [permOk, Bool.and_eq_true, decide_eq_true_eq, List.all_eq_true, List.mem_range] at h
  exact h
theorem place_out (h : permOk n σ = true) (hm : ∀ i ∈ σ, i < n) {i : Nat} (hi : n ≤ i) : place σ i = n := by
  have : i ∉ σ := fun hc => by have := hm i hc; omega
  rw [place, List.idxOf_eq_length this, (permOk_spec h).1]
theorem place_inj (h : permOk n σ = true) {i j : Nat} (hi : i < n) (hj : j < n) (e : place σ i = place σ j) : i = j := by
  have h1 := ((permOk_spec h).2 i hi).1
  rw [e, ((permOk_spec h).2 j hj).1] at h1
  exact (Option.some.inj h1).symm
theorem reord_at (h : permOk ops.length σ = true) (hm : ∀ i ∈ σ, i < ops.length) {i : Nat} {o : Oper} (ho : ops[i]? = some o) : (reord ops σ)[place σ i]? = some (ren (place σ) o) := by
  have hi := (List.getElem?_eq_some_iff.1 ho).1
  rw [reord, List.getElem?_map, pickL_get σ hm, ((permOk_spec h).2 i hi).1]
  simp [ho]
theorem reord_len (h : permOk ops.length σ = true) (hm : ∀ i ∈ σ, i < ops.length) : (pickL ops σ).length = ops.length := by
  have : ∀ (σ : List Nat), (∀ i ∈ σ, i < ops.length) → (pickL ops σ).length = σ.length := by
    intro σ
    induction σ with
    | nil => intro _; rfl
    | cons i r ih =>
      intro hm
      simp only [pickL]
      rw [List.getElem?_eq_getElem (hm i List.mem_cons_self)]
      simp [ih (fun i hi => hm i (List.mem_cons_of_mem _ hi))]
  rw [this σ hm, (permOk_spec h).1]
theorem needs_ren (π : Nat → Nat) (o : Oper) : needs (ren π o) = (needs o).map π := by
  unfold needs ren
  simp only
  generalize o.after.toList = l
  induction l with
  | nil => rfl
  | cons e l ih =>
    simp only [List.map_cons, List.filterMap_cons]
    have hb : Region.binds .any { e with on := π e.on } = Region.binds .any e := rfl
    rw [hb]
    cases Region.binds .any e <;> simp [ih]
theorem yielded_ren (h : permOk ops.length σ = true) (hm : ∀ i ∈ σ, i < ops.length) (tmps : Array Value) (j : Nat) : yielded (reord ops σ).toArray tmps (place σ j) = yielded ops.toArray tmps j := by
  rcases Nat.lt_or_ge j ops.length with hj | hj
  · have ho : ops[j]? = some ops[j] := List.getElem?_eq_getElem hj
    have ho' := reord_at h hm ho
    simp only [yielded, List.getElem?_toArray, ho, ho', Option.bind_some]
    rfl
  · have hl : (reord ops σ).length = ops.length := by rw [reord, List.length_map, reord_len h hm]
    rw [place_out h hm hj]
    simp [yielded, List.getElem?_eq_none hj, List.getElem?_eq_none (Nat.le_of_eq hl)]
theorem wanted_ren (h : permOk ops.length σ = true) (hm : ∀ i ∈ σ, i < ops.length) (tmps : Array Value) (o : Oper) : Region.wanted (ren (place σ) o) (yielded (reord ops σ).toArray tmps) = Region.wanted o (yielded ops.toArray tmps) := by
  cases hg : o.guard with
  | none => simp [Region.wanted, ren, hg]
  | some g =>
    obtain ⟨j, b⟩ := g
    simp only [Region.wanted, ren, hg, Option.map_some, yielded_ren h hm]
theorem wpIn_ren {o : Oper} {a : Act} {π : Nat → Nat} {M : Act → World → Prop} {Q : Exit → Act → World → Prop} : (ren π o).wpIn (fence ρ) 0 P a w M Q = o.wpIn (fence ρ) 0 P a w M Q := rfl
theorem any_perm {Q : Exit → Act → World → Prop} (h : permOk ops.length σ = true) (hm : ∀ i ∈ σ, i < ops.length) : ∀ (fuel : Nat) (listed listed' : Array Bool) (a : Act) (w : World), listed.size = ops.length → listed'.size = ops.length → (∀ i, i < ops.length → listed'.getD (place σ i) false = listed.getD i false) →
    wpAnyIn (fence ρ) 0 P .any (reord ops σ).toArray Q fuel listed' a w → wpAnyIn (fence ρ) 0 P .any ops.toArray Q fuel listed a w := by
  have hl : (reord ops σ).length = ops.length := by rw [reord, List.length_map, reord_len h hm]
  have rdy : ∀ (listed listed' : Array Bool), listed.size = ops.length → listed'.size = ops.length → (∀ i, i < ops.length → listed'.getD (place σ i) false = listed.getD i false) → ∀ i, i ∈ Region.ready .any ops.toArray listed → place σ i ∈ Region.ready .any (reord ops σ).toArray listed' := by
    intro listed listed' hs hs' hr i hi
    obtain ⟨o, ho, h1, h2⟩ := (ready_iff hs).1 hi
    have hil := (List.getElem?_eq_some_iff.1 ho).1
    refine (ready_iff (by rw [hs', hl])).2 ⟨_, reord_at h hm ho, by rw [hr i hil]; exact h1, fun k hk => ?_⟩
    rw [needs_ren, List.mem_map] at hk
    obtain ⟨k0, hk0, rfl⟩ := hk
    have h3 := h2 k0 hk0
    have hk0l : k0 < ops.length := by
      rcases Nat.lt_or_ge k0 ops.length with h4 | h4
      · exact h4
      · simp [show ¬ k0 < listed.size by omega] at h3
    rw [hr k0 hk0l]; exact h3
  intro fuel
  induction fuel with
  | zero =>
    intro listed listed' a w hs hs' hr hh
    refine ⟨List.eq_nil_iff_forall_not_mem.2 fun i hi => ?_, hh.2⟩
    have := rdy listed listed' hs hs' hr i hi
    rw [hh.1] at this; cases this
  | succ fuel ih =>
    intro listed listed' a w hs hs' hr hh
    refine ⟨fun h0 => ?_, fun i hi => ?_⟩
    · refine hh.1 (List.eq_nil_iff_forall_not_mem.2 fun i' hi' => ?_)
      obtain ⟨o', ho', h1, h2⟩ := (ready_iff (by rw [hs', hl])).1 hi'
      have hil' : i' < ops.length := by rw [← hl]; exact (List.getElem?_eq_some_iff.1 ho').1
      have hsl : i' < σ.length := by rw [(permOk_spec h).1]; exact hil'
      have hσ : σ[i']? = some σ[i'] := List.getElem?_eq_getElem hsl
      have hi0 := hm _ (List.getElem_mem hsl)
      generalize σ[i'] = i at hσ hi0
      have ho : ops[i]? = some ops[i] := List.getElem?_eq_getElem hi0
      generalize ops[i] = o at ho
      have hoe : o' = ren (place σ) o := by
        rw [reord, List.getElem?_map, pickL_get σ hm, hσ] at ho'
        simp [ho] at ho'
        exact ho'.symm
      have hpi : place σ i = i' := by
        -- no index stands twice
        have key : ∀ (A : List Nat), A.Nodup → (∀ x ∈ A, x < ops.length) → A.length ≤ ops.length := fun A hA hx => by
          have := List.Nodup.length_le_of_subset hA (l₂ := List.range ops.length) (fun x hxx => List.mem_range.2 (hx x hxx))
          simpa using this
        by_cases hd : place σ i = i'
        · exact hd
        · exfalso
          -- the map 'place' has ops.length values, none of them i'
          have hnd : ((List.range ops.length).map (place σ)).Nodup := by
            rw [List.Nodup, List.pairwise_map]
            refine List.Pairwise.imp_of_mem (fun {x y} hx hy hxy e => hxy ?_) List.nodup_range
            exact place_inj h (List.mem_range.1 hx) (List.mem_range.1 hy) e
          have hni : i' ∉ (List.range ops.length).map (place σ) := fun hc => by
            obtain ⟨x, hx, hxe⟩ := List.mem_map.1 hc
            have h5 := ((permOk_spec h).2 x (List.mem_range.1 hx)).1
            rw [hxe, hσ] at h5
            cases h5
            exact hd hxe
          have := key (i' :: (List.range ops.length).map (place σ)) (List.nodup_cons.2 ⟨hni, hnd⟩) (fun x hx => by
            rcases List.mem_cons.1 hx with rfl | hx
            · exact hil'
            · obtain ⟨y, hy, rfl⟩ := List.mem_map.1 hx
              exact ((permOk_spec h).2 y (List.mem_range.1 hy)).2)
          simp at this
          omega
      have : i ∈ Region.ready .any ops.toArray listed := (ready_iff hs).2 ⟨o, ho, by rw [← hr i hi0, hpi]; exact h1, fun k hk => by
        have h3 := h2 (place σ k) (by rw [hoe, needs_ren]; exact List.mem_map.2 ⟨k, hk, rfl⟩)
        rcases Nat.lt_or_ge k ops.length with h4 | h4
        · rw [← hr k h4]; exact h3
        · rw [place_out h hm h4] at h3
          simp [show ¬ ops.length < listed'.size by omega] at h3⟩
      rw [h0] at this; cases this
    · have hi2 := rdy listed listed' hs hs' hr i hi
      obtain ⟨o, ho, h1, h2⟩ := (ready_iff hs).1 hi
      have hil := (List.getElem?_eq_some_iff.1 ho).1
      have hpl := ((permOk_spec h).2 i hil).2
      have h3 := hh.2 _ hi2
      have hR : ∀ k, k < ops.length → (listed'.setIfInBounds (place σ i) true).getD (place σ k) false = (listed.setIfInBounds i true).getD k false := fun k hk => by
        rw [getD_set (by omega), getD_set (by omega), hr k hk]
        congr 1
        by_cases hki : k = i
        · subst hki; simp
        · have : place σ k ≠ place σ i := fun e => hki (place_inj h hk hil e)
          simp [hki, this]
      have h4 := wpOpIn_mono (fun a' w' hh' => ih (listed.setIfInBounds i true) (listed'.setIfInBounds (place σ i) true) a' w' (by simp [hs]) (by simp [hs']) hR hh') h3
      unfold wpOpIn at h4 ⊢
      have ho1 : ops.toArray[i]? = some o := by simpa using ho
      have ho2 : (reord ops σ).toArray[place σ i]? = some (ren (place σ) o) := by simpa using reord_at h hm ho
      simp only [ho1, ho2, wanted_ren h hm] at h4 ⊢
      exact h4
theorem wpT_ren (h : permOk ops.length σ = true) (hm : ∀ i ∈ σ, i < ops.length) {Q : Exit → Act → World → Prop} : ∀ (l : List Oper) (fl : List (Bool × Bool)) (a : Act) (w : World), wpT P ρ ops.toArray C Q fl l a w → wpT P ρ (reord ops σ).toArray C Q fl (l.map (ren (place σ))) a w
  | [], _, _, _, hh => hh
  | o :: l, fl, a, w, hh => by
    simp only [List.map_cons]
    unfold wpT at hh ⊢
    rw [wanted_ren h hm]
    split
    · rename_i hw
      rw [if_pos hw] at hh
      rw [wpIn_ren]
      exact Oper.wpIn_mono (fun a' w' h' => ⟨h'.1, wpT_ren h hm l _ _ _ h'.2⟩) hh
    · rename_i hw
      rw [if_neg hw] at hh
      exact ⟨hh.1, wpT_ren h hm l _ _ _ hh.2⟩
theorem Yl.ren (h : permOk ops.length σ = true) (hm : ∀ i ∈ σ, i < ops.length) {o : Oper} {v : Value} {a : Act} (hy : Yl P ρ ops C o v a) : Yl P ρ (reord ops σ) C (ren (place σ) o) v a := by
  unfold Yl at hy ⊢
  rw [wanted_ren h hm]
  exact hy
theorem wpHL_steps (hN : 0 < N) {M : Env → Prop} (L : List Oper) : ∀ (rest : List Oper) (k : Nat) (K : Env) (a : Act), (∀ j, j < rest.length → rest[j]? = L[k + j]?) → dstsOk N rest = true → Kn K N ds a → wpH P ops C M rest K →
    ∃ (A : Nat → Act) (V : Nat → Value) (K' : Env), A k = a ∧ (∀ i o, k ≤ i → i < k + rest.length → L[i]? = some o → A (i + 1) = (A i).put o.dst (V i) ∧ Yl P ρ ops C o (V i) (A i)) ∧
      Kn K' N ds (A (k + rest.length)) ∧ M K'
  | [], k, K, a, _, _, ha, h => ⟨fun _ => a, fun _ => undef, K, rfl, fun i o h1 h2 => by simp at h2; omega, ha, h⟩
  | o :: rest, k, K, a, hr, hd, ha, h => by
    simp only [dstsOk, List.all_cons, Bool.and_eq_true] at hd
    have hd0 : ∀ d, o.dst = some d → d < N := fun d he => by have := hd.1; rw [he] at this; simpa using this
    have ho : L[k]? = some o := by simpa using (hr 0 (by simp)).symm
    -- one step, whatever it leaves
    have go : ∀ (v : Value) (K1 : Env), Kn K1 N ds a → Yl P ρ ops C o v a → wpH P ops C M rest (putE o.dst v K1) →
        ∃ (A : Nat → Act) (V : Nat → Value) (K' : Env), A k = a ∧ (∀ i o', k ≤ i → i < k + (o :: rest).length → L[i]? = some o' → A (i + 1) = (A i).put o'.dst (V i) ∧ Yl P ρ ops C o' (V i) (A i)) ∧
          Kn K' N ds (A (k + (o :: rest).length)) ∧ M K' := by
      intro v K1 hk1 hy hh
      obtain ⟨A, V, K', hA, hst, hk', hM⟩ := wpHL_steps hN L rest (k + 1) _ (a.put o.dst v) (fun j hj => by have := hr (j + 1) (by simp; omega); simpa [Nat.add_assoc, Nat.add_comm 1 j] using this) hd.2 (hk1.put hd0) hh
      refine ⟨fun i => if i = k then a else A i, fun i => if i = k then v else V i, K', by simp, fun i o' h1 h2 ho' => ?_, ?_, hM⟩
      · by_cases hi : i = k
        · subst hi
          rw [ho] at ho'; cases ho'
          simp [hA, hy]
        · have h3 := hst i o' (by omega) (by simp at h2; omega) ho'
          simp only [if_neg hi, if_neg (show i + 1 ≠ k by omega)]
          exact h3
      · have : k + (o :: rest).length = k + 1 + rest.length := by simp; omega
        rw [this]
        simp only [if_neg (show k + 1 + rest.length ≠ k by omega)]
        exact hk'
    have still : ∀ {K1 : Env} {v : Value}, Kn K1 N ds a → Region.wanted o (yielded ops.toArray a.tmps) = true → StillF P K1 C o.type o.op v → Yl P ρ ops C o v a := fun hk1 hwt hs =>
      .inl ⟨hwt, fun hk w' hw' => upon1_of_opF hk1 hN (hs.1 hk w' hw'), fun hk w' hw' => upon1_of_opF (C := fun x => x = w') hk1 hN (hs.2 hk w' hw')⟩
    simp only [wpH] at h
    cases hg : o.guard with
    | none =>
      rw [hg] at h
      obtain ⟨v, hv, hs⟩ := opH_still h
      exact go v K ha (still ha (by simp [Region.wanted, hg]) hs) hv
    | some gd =>
      obtain ⟨j, want⟩ := gd
      rw [hg] at h
      simp only at h
      split at h
      · rename_i d hgd
        have hy : yielded ops.toArray a.tmps j = match a.tmps[d]? with | some (.bool b) => some b | _ => none := by
          unfold gdst at hgd
          split at hgd
          · rename_i oj hj
            simp only [yielded, List.getElem?_toArray, hj, Option.bind_some, hgd]
            split <;> simp_all
          · cases hgd
        split at h
        · rename_i b hb
          have hya : yielded ops.toArray a.tmps j = some b := by rw [hy, ha.at_ _ _ hb]
          by_cases hbw : b = want
          · subst hbw
            have hw : Region.wanted o (yielded ops.toArray a.tmps) = true := by simp [Region.wanted, hg, hya]
            have ha' := ha.set hb
            obtain ⟨v, hv, hs⟩ := opH_still (h.1 rfl)
            exact go v _ ha' (still ha' hw hs) hv
          · have hbn : b = !want := by cases b <;> cases want <;> simp_all
            have hw : Region.wanted o (yielded ops.toArray a.tmps) = false := by simp [Region.wanted, hg, hya, hbw]
            exact go undef _ (ha.set (hbn ▸ hb)) (.inr ⟨hw, rfl⟩) (h.2 hbn)
        · rename_i x hb
          have hya : yielded ops.toArray a.tmps j = none := by rw [hy, ha.at_ _ _ hb]
          have hw : Region.wanted o (yielded ops.toArray a.tmps) = false := by simp [Region.wanted, hg, hya]
          exact go undef _ ha (.inr ⟨hw, rfl⟩) h
        · exact h.elim
      · exact h.elim


theorem any_of_heads0 {V : Nat → Value} {Q : Exit → Act → World → Prop} (h : drawOk ops n = true) (hk : ∀ k, k < n → kindAt ops k ≠ 2) {A : Nat → Act} (step : ∀ i o, i < n → ops[i]? = some o → A (i + 1) = (A i).put o.dst (V i))
    (still : ∀ i o, i < n → ops[i]? = some o → Yl P ρ ops C o (V i) (A i)) {w : World} (tail : wpT P ρ ops.toArray C Q (flags ops n) (ops.drop n) (A n) w) (hw : C w) :
    wpAnyIn (fence ρ) 0 P .any ops.toArray Q ops.length (Array.replicate ops.length false) (A 0) w := by
  obtain ⟨hn, hheads, hdist, _⟩ := drawOk_parts h
  have get : ∀ i, i < ops.length → ∃ o, ops[i]? = some o := fun i hi => ⟨ops[i]'hi, List.getElem?_eq_getElem hi⟩
  have lexA : ∀ i, i ≤ n → Sl ops n (A 0) V (fun k => decide (k < i)) (A i) := by
    intro i
    induction i with
    | zero => intro _; exact ⟨rfl, rfl, fun k t _ hs => by simp at hs, fun t _ => rfl⟩
    | succ i ih =>
      intro hi
      obtain ⟨o, ho⟩ := get i (by omega)
      rw [step i o (by omega) ho]
      exact (ih (by omega)).put hdist (by omega) ho (fun k _ => by simp; omega)
  have h0 : ∀ k, (Array.replicate ops.length false).getD k false = false := fun k => by
    rcases Nat.lt_or_ge k ops.length with h | h
    · simp [h]
    · simp [h]
  have hmiss : (missing n (Array.replicate ops.length false)).length = n := by
    simp only [missing, h0]
    have : (List.range n).filter (fun k => !false) = List.range n := List.filter_eq_self.2 (fun _ _ => rfl)
    rw [this]
    simp
  have hA := lexA n (Nat.le_refl _)
  have hsl : Sl ops n (A 0) V (fun k => (Array.replicate ops.length false).getD k false) (A 0) := ⟨rfl, rfl, fun k t _ hs => (by rw [h0] at hs; cases hs), fun t _ => rfl⟩
  refine phaseB h lexA still _ _ n (A 0) (A n) w (by simp) (Nat.le_refl _) hn (fun k hk1 hk2 => by rw [h0]; simp; omega) (fun j o ho hj => by simp only [h0] at hj; cases hj) (fun k hk' _ => hk k hk') (fun _ => hw) ⟨hsl.size, fun s _ => fun k hk hS hd hlt => hsl.come k s hk hS hd hlt, fun s _ hr => hsl.rest s hr⟩ ?_ (by simpa using tail) (by rw [hmiss]; omega)
  refine ⟨by rw [hA.size], by rw [hA.defers], fun s k hk _ hd hlt => hA.come k s hk (by simpa using hk) hd hlt, fun s hr => ?_⟩
  exact (hA.rest s (fun k hk _ => hr k hk (h0 k)))
def noCallB (ops : List Oper) (n : Nat) : Bool := (List.range n).all fun k => kindAt ops k != 2
def orderOk (ops : List Oper) (σ : List Nat) (n : Nat) : Bool := permOk ops.length σ && σ.all (· < ops.length) && drawOk (reord ops σ) n
/-- A REGION THAT DRAWS ITS ORDER, taken in the order 'σ': n heads, then the others. -/
theorem ok_drawP (σ : List Nat) (n : Nat) (fl : List (Bool × Bool)) (C : World → Prop) {id : Nat} {Φ : Post} (hm : P.follows .mixedOrders = true) (hN : 0 < N) (hd : dstsOk N ops = true) (hB : orderOk ops σ n = true) (hfl : flags (reord ops σ) n = fl)
    (hC : C { w with drawn := w.drawn + 1 })
    (h : wpH P ops C (fun K' => ∀ w', C w' → wpE P ops C (fun ch K w => Φ (.panic ch) K ds w) (fun K w => Φ .normal K ds w) fl ((pickL ops σ).drop n) K' w') ((pickL ops σ).take n) K) :
    ok P ρ N (.region id ops.toArray true) K ds w Φ := by
  intro a ha
  subst hfl
  simp only [orderOk, Bool.and_eq_true] at hB
  obtain ⟨⟨hp, hσ⟩, hB⟩ := hB
  have hmm : ∀ i ∈ σ, i < ops.length := fun i hi => by simpa using List.all_eq_true.1 hσ i hi
  have hn := (drawOk_parts hB).1
  have hl : (reord ops σ).length = ops.length := by rw [reord, List.length_map, reord_len hp hmm]
  have hpl := reord_len hp hmm
  have hlen : ((pickL ops σ).take n).length = n := by simp [hpl]; omega
  have hdall : ∀ l, (∀ o ∈ l, o ∈ pickL ops σ) → dstsOk N l = true := fun l hl => by
    simp only [dstsOk, List.all_eq_true] at hd ⊢
    intro o ho
    obtain ⟨j, hj⟩ := List.mem_iff_getElem?.1 (hl o ho)
    rw [pickL_get σ hmm] at hj
    cases hs : σ[j]? with
    | none => rw [hs] at hj; simp at hj
    | some i => rw [hs] at hj; simp at hj; exact hd o (List.mem_of_getElem? hj)
  obtain ⟨A, V, K', hA, hst, hk', hM⟩ := wpHL_steps (ρ := ρ) hN (pickL ops σ) ((pickL ops σ).take n) 0 K a (fun j hj => by rw [hlen] at hj; simp [List.getElem?_take, hj]) (hdall _ fun o ho => List.mem_of_mem_take ho) ha h
  rw [hlen] at hst hk'
  simp only [Nat.zero_add] at hst hk'
  refine wpIn_region_any hm ?_
  have orig : ∀ (i : Nat) (o : Oper), (reord ops σ)[i]? = some o → ∃ o0, (pickL ops σ)[i]? = some o0 ∧ o = ren (place σ) o0 := fun i o ho => by
    rw [reord, List.getElem?_map] at ho
    cases hx : (pickL ops σ)[i]? with
    | none => rw [hx] at ho; simp at ho
    | some o0 => rw [hx] at ho; simp at ho; exact ⟨o0, rfl, ho.symm⟩
  have := any_of_heads (P := P) (ρ := ρ) (C := C) (Q := lift N Φ) hB (A := A) (V := V) (fun i o hi ho => by
      obtain ⟨o0, h0, rfl⟩ := orig i o ho
      exact (hst i o0 (Nat.zero_le _) hi h0).1) (fun i o hi ho => by
      obtain ⟨o0, h0, rfl⟩ := orig i o ho
      exact (hst i o0 (Nat.zero_le _) hi h0).2.ren hp hmm)
    (fun w' hw' => by
      have := wpE_sound (ρ := ρ) (Φ := Φ) (ops := ops) (C := C) (pan := fun ch K w => Φ (.panic ch) K ds w) (M := fun K w => Φ .normal K ds w) (fun _ _ _ h => h) (fun _ _ h => h) ((pickL ops σ).drop n) _ _ _ _ (hdall _ fun o ho => List.mem_of_mem_drop ho) hk' (hM w' hw')
      have := wpT_ren hp hmm _ _ _ _ this
      rw [List.map_drop] at this
      exact this) hC
  rw [hA] at this
  rw [hl] at this
  have h8 := any_perm (Q := lift N Φ) hp hmm ops.length (Array.replicate ops.length false) (Array.replicate ops.length false) a _ (by simp) (by simp) (fun i hi => ?_) this
  · simpa using h8
  · have h9 := ((permOk_spec hp).2 i hi).2
    simp [hi, h9]
/-- A REGION THAT DRAWS ITS ORDER, taken in the order 'σ': n heads without calls, then the others, in the world as it was. -/
theorem ok_drawQ (σ : List Nat) (n : Nat) (fl : List (Bool × Bool)) (C : World → Prop) {id : Nat} {Φ : Post} (hm : P.follows .mixedOrders = true) (hN : 0 < N) (hd : dstsOk N ops = true) (hB : orderOk ops σ n = true) (hnc : noCallB (reord ops σ) n = true) (hfl : flags (reord ops σ) n = fl)
    (hC : C { w with drawn := w.drawn + 1 })
    (h : wpH P ops C (fun K' => wpE P ops C (fun ch K w => Φ (.panic ch) K ds w) (fun K w => Φ .normal K ds w) fl ((pickL ops σ).drop n) K' { w with drawn := w.drawn + 1 }) ((pickL ops σ).take n) K) :
    ok P ρ N (.region id ops.toArray true) K ds w Φ := by
  intro a ha
  subst hfl
  simp only [orderOk, Bool.and_eq_true] at hB
  obtain ⟨⟨hp, hσ⟩, hB⟩ := hB
  have hmm : ∀ i ∈ σ, i < ops.length := fun i hi => by simpa using List.all_eq_true.1 hσ i hi
  have hn := (drawOk_parts hB).1
  have hl : (reord ops σ).length = ops.length := by rw [reord, List.length_map, reord_len hp hmm]
  have hpl := reord_len hp hmm
  have hlen : ((pickL ops σ).take n).length = n := by simp [hpl]; omega
  have hdall : ∀ l, (∀ o ∈ l, o ∈ pickL ops σ) → dstsOk N l = true := fun l hl => by
    simp only [dstsOk, List.all_eq_true] at hd ⊢
    intro o ho
    obtain ⟨j, hj⟩ := List.mem_iff_getElem?.1 (hl o ho)
    rw [pickL_get σ hmm] at hj
    cases hs : σ[j]? with
    | none => rw [hs] at hj; simp at hj
    | some i => rw [hs] at hj; simp at hj; exact hd o (List.mem_of_getElem? hj)
  obtain ⟨A, V, K', hA, hst, hk', hM⟩ := wpHL_steps (ρ := ρ) hN (pickL ops σ) ((pickL ops σ).take n) 0 K a (fun j hj => by rw [hlen] at hj; simp [List.getElem?_take, hj]) (hdall _ fun o ho => List.mem_of_mem_take ho) ha h
  rw [hlen] at hst hk'
  simp only [Nat.zero_add] at hst hk'
  refine wpIn_region_any hm ?_
  have orig : ∀ (i : Nat) (o : Oper), (reord ops σ)[i]? = some o → ∃ o0, (pickL ops σ)[i]? = some o0 ∧ o = ren (place σ) o0 := fun i o ho => by
    rw [reord, List.getElem?_map] at ho
    cases hx : (pickL ops σ)[i]? with
    | none => rw [hx] at ho; simp at ho
    | some o0 => rw [hx] at ho; simp at ho; exact ⟨o0, rfl, ho.symm⟩
  have := any_of_heads0 (P := P) (ρ := ρ) (C := C) (Q := lift N Φ) hB (fun k hk => by have := List.all_eq_true.1 hnc k (List.mem_range.2 hk); simpa using this) (A := A) (V := V) (fun i o hi ho => by
      obtain ⟨o0, h0, rfl⟩ := orig i o ho
      exact (hst i o0 (Nat.zero_le _) hi h0).1) (fun i o hi ho => by
      obtain ⟨o0, h0, rfl⟩ := orig i o ho
      exact (hst i o0 (Nat.zero_le _) hi h0).2.ren hp hmm)
    (by
      have := wpE_sound (ρ := ρ) (Φ := Φ) (ops := ops) (C := C) (pan := fun ch K w => Φ (.panic ch) K ds w) (M := fun K w => Φ .normal K ds w) (fun _ _ _ h => h) (fun _ _ h => h) ((pickL ops σ).drop n) _ _ _ _ (hdall _ fun o ho => List.mem_of_mem_drop ho) hk' hM
      have := wpT_ren hp hmm _ _ _ _ this
      rw [List.map_drop] at this
      exact this) hC
  rw [hA] at this
  rw [hl] at this
  have h8 := any_perm (Q := lift N Φ) hp hmm ops.length (Array.replicate ops.length false) (Array.replicate ops.length false) a _ (by simp) (by simp) (fun i hi => ?_) this
  · simpa using h8
  · have h9 := ((permOk_spec hp).2 i hi).2
    simp [hi, h9]
end
end Go.Proofs.Vg
/- Short names, for short texts. -/
set_option linter.unusedVariables false
set_option linter.defProp false
namespace Go.Proofs.Vg
open Go Go.RowKit
def zL := @wpL_step
def zH := @wpH_step
def zE := @wpE_step
def zl := @wpL_end
def zh := @wpH_end
def ze := @wpE_end
def zA := @wpLW_step
def zB := @wpHW_step
def za := @wpLW_end
def zb := @wpHW_end
def z2 := @ofX2
def z3 := @ofX3
end Go.Proofs.Vg
/- The equations of the calculus in one: for short texts. -/
set_option linter.unusedVariables false
set_option linter.defProp false
namespace Go.Proofs.Vg
open Go Go.RowKit
def zU := And.intro @oweC.eq_1 (And.intro @oweC.eq_2 (And.intro @oweP.eq_1 (And.intro @oweP.eq_2 (And.intro @opF.eq_1 (And.intro @opF.eq_2 (And.intro @opF.eq_3 (And.intro @opF.eq_4 (And.intro @opF.eq_5 (And.intro @opF.eq_6 (And.intro @opF.eq_7 (And.intro @opF.eq_8 (And.intro @opF.eq_9 (And.intro @opF.eq_10 (And.intro @opF.eq_11 (And.intro @opF.eq_12 (And.intro @opF.eq_13 (And.intro @opF.eq_14 (And.intro @opF.eq_15 (And.intro @opF.eq_16 (And.intro @opF.eq_17 (And.intro @opF.eq_18 (And.intro @opF.eq_19 (And.intro @opF.eq_20 (And.intro @opF.eq_21 (And.intro @opF.eq_22 (And.intro @opF.eq_23 (And.intro @opF.eq_24 (And.intro @opF.eq_25 (And.intro @opF.eq_26 (And.intro @opF.eq_27 (And.intro @opF.eq_28 (And.intro @opF.eq_29 (And.intro @opF.eq_30 (And.intro @opF.eq_31 (And.intro @opF.eq_32 (And.intro @opH.eq_1 (And.intro @opH.eq_2 (And.intro @opH.eq_3 (And.intro @opH.eq_4 (And.intro @opH.eq_5 (And.intro @opH.eq_6 (And.intro @opH.eq_7 (And.intro @opH.eq_8 (And.intro @opH.eq_9 (And.intro @opH.eq_10 (And.intro @opH.eq_11 (And.intro @opH.eq_12 (And.intro @opH.eq_13 (And.intro @opH.eq_14 (And.intro @opH.eq_15 (And.intro @opH.eq_16 (And.intro @ev.eq_1 (And.intro @ev.eq_2 (And.intro @ev.eq_3 (And.intro @ev.eq_4 (And.intro @evs.eq_1 (And.intro @evs.eq_2 (And.intro @evp.eq_1 (And.intro @evp.eq_2 (And.intro @evo.eq_1 (And.intro @evo.eq_2 (And.intro @Env.get.eq_1 (And.intro @Env.get.eq_2 (And.intro @Env.set.eq_1 (And.intro @Env.set.eq_2 (And.intro @putE.eq_1 (And.intro @putE.eq_2 (And.intro @gdst.eq_1 (And.intro @thenN.eq_1 (And.intro @thenN.eq_2 (And.intro @inBlockN.eq_1 (And.intro @inBlockN.eq_2 (And.intro @argEnv.eq_1 (And.intro @argEnv.eq_2 (And.intro @builtinR.eq_1 (And.intro @builtinR.eq_2 (And.intro @retE.eq_1 (And.intro @retE.eq_2 (And.intro @retE.eq_3 (And.intro @retE.eq_4 (And.intro @fin.eq_1 (And.intro @fin.eq_2 (And.intro @fin.eq_3 (And.intro @finC.eq_1 (And.intro @finC.eq_2 (And.intro @finC.eq_3 (And.intro @retC.eq_1 (And.intro @retC.eq_2 (And.intro @oneC.eq_1 (And.intro @oneC.eq_2 (And.intro @callR.eq_1 (And.intro @callR.eq_2 (And.intro @callR.eq_3 (And.intro @opHW.eq_1 (And.intro @opHW.eq_2 (And.intro @opHW.eq_3 (And.intro @opFW.eq_1 (And.intro @opFW.eq_2 (And.intro @opFW.eq_3 (And.intro S0 (And.intro S1 (And.intro @forall_const.{1} (@forall_const.{0})))))))))))))))))))))))))))))))))))))))))))))))))))))))))))))))))))))))))))))))))))))))))))))))))))))))
def zW := And.intro @wpL.eq_1 (And.intro @wpL.eq_2 (And.intro @wpH.eq_1 (And.intro @wpH.eq_2 (And.intro @wpE.eq_1 (@wpE.eq_2)))))
theorem dX {G : Prop} (h : ∀ X : Unit, X = () → G) : G := h () rfl
end Go.Proofs.Vg
/- The heap of words, in plain Lean; and how it lies in memory. -/
set_option linter.unusedVariables false
set_option linter.unusedSimpArgs false
namespace Go.Proofs.Vg
open Go Go.RowKit

section
variable {P : Program} {w : World} {t e : TypeId} {x y : Operand} {nx : Value → World → Prop}
theorem run_eq_ptr (ht : P.underlying t = some (.pointer e)) (a : Option Addr) : (Op.equal t (.pointer a) (.pointer none)).run P w = .ok (decide (a = none)) w := by
  unfold Op.equal
  rw [show Op.maxDepth = 9999 + 1 from rfl, Op.equalIn]
  cases a <;> simp [run_underlying ht, Result.andThen]
theorem run_eq_sl (ht : P.underlying t = some (.slice e)) (a : Option Addr) (n c n' c' : Nat) : (Op.equal t (.slice a n c) (.slice none n' c')).run P w = .ok (decide (a = none)) w := by
  unfold Op.equal
  rw [show Op.maxDepth = 9999 + 1 from rfl, Op.equalIn]
  cases a <;> simp [run_underlying ht, Result.andThen]
theorem Runs.ptrEq (ht : P.underlying t = some (.pointer e)) {a : Option Addr} (h : nx (.bool (decide (a = none))) w) : Runs P (do eqGuard .eql t x y (.pointer a) (.pointer none); binOp .eql t (.pointer a) (.pointer none)) w nx := by
  refine ⟨_, w, ?_, h⟩
  simp [eqGuard, binOp, run_eq_ptr ht, Result.andThen]
theorem Runs.ptrNe (ht : P.underlying t = some (.pointer e)) {a : Option Addr} (h : nx (.bool (!decide (a = none))) w) : Runs P (do eqGuard .neq t x y (.pointer a) (.pointer none); binOp .neq t (.pointer a) (.pointer none)) w nx := by
  refine ⟨_, w, ?_, h⟩
  simp [eqGuard, binOp, run_eq_ptr ht, Result.andThen]
theorem Runs.slEq (ht : P.underlying t = some (.slice e)) {a : Option Addr} {n c : Nat} (h : nx (.bool (decide (a = none))) w) : Runs P (do eqGuard .eql t x y (.slice a n c) (.slice none 0 0); binOp .eql t (.slice a n c) (.slice none 0 0)) w nx := by
  refine ⟨_, w, ?_, h⟩
  simp [eqGuard, binOp, run_eq_sl ht, Result.andThen]
end

structure Wd where
  k : Int
  n : Int
  r : Int
def Wd.row (x : Wd) : List Value := [.int .i64 x.k, .int .i64 x.n, .int .i64 x.r]
@[simp] theorem Wd.row_length (x : Wd) : x.row.length = 3 := rfl
inductive Ob where
  | text (s : ByteArray)
  | words (sort : Int) (l : List Wd)
def Ob.list : Ob → List Wd
  | .text _ => []
  | .words _ l => l
def objAt (H : List Ob) (r : Int) : Option Ob := if 1 ≤ r then H[(r - 1).toNat]? else none
def isTextO : Option Ob → Bool
  | some (.text _) => true
  | _ => false
def isDataO : Option Ob → Bool
  | some (.words s _) => !decide (s = 7)
  | _ => false
def isArrO : Option Ob → Bool
  | some (.words s _) => decide (s = 7)
  | _ => false
def rightW (H : List Ob) (x : Wd) : Bool :=
  if x.k = 0 then decide (x.n = 0) && decide (x.r = 0)
  else if x.k = 1 ∨ x.k = 2 ∨ x.k = 8 ∨ x.k = 9 then decide (x.r = 0)
  else if x.k = 3 then decide (x.n = 0) && isTextO (objAt H x.r)
  else if x.k = 4 ∨ x.k = 5 ∨ x.k = 6 then decide (x.r = 0) || isDataO (objAt H x.r)
  else if x.k = 7 then decide (x.n = 0) && isArrO (objAt H x.r)
  else false
def argsO : Option Ob → List Wd
  | some (.words _ l) => l
  | _ => []
def argsOf (H : List Ob) (x : Wd) : List Wd := argsO (objAt H x.r)

/-- The rules of a heap: by kind. -/
def ruleF (hb : Nat) (k : Int) : Option Value :=
  if k = 0 then some (.func (.func 62) #[] #[])
  else if k = 1 ∨ k = 2 ∨ k = 8 ∨ k = 9 then some (.func (.func 61) #[] #[])
  else if k = 3 then some (.func (.func 63) #[.pointer (some ⟨hb, 0, none⟩)] #[])
  else if k = 4 ∨ k = 5 ∨ k = 6 then some (.func (.func 64) #[.pointer (some ⟨hb, 0, none⟩)] #[])
  else if k = 7 then some (.func (.func 65) #[.pointer (some ⟨hb, 0, none⟩)] #[])
  else none

abbrev ptrOf (b : Nat) : Value := .pointer (some ⟨b, 0, none⟩)
/-- A list of words that lies at the head of the block 'g'. -/
def WL (w : World) (g : Nat) (lv : Value) (l : List Wd) : Prop :=
  ∃ A c, lv = .slice A l.length c ∧ l.length ≤ 1073741824 ∧ l.length ≤ c ∧ (l ≠ [] → A = some ⟨g, 0, none⟩ ∧ ∃ cs, Blk w g cs 38 ∧ cs.take (l.length * 3) = (l.map Wd.row).flatten)
def ObW (w : World) (p g : Nat) : Ob → Prop
  | .text s => Blk w p [.slice none 0 0, .string s, .bool true, .int .i64 0] 108
  | .words sort l => ∃ lv, Blk w p [lv, .string ⟨#[]⟩, .bool false, .int .i64 sort] 108 ∧ WL w g lv l

/-- A heap at 'hb', its rules at 'rb', its objects at 'ps', their words in 'gs'. -/
structure HeapR (w : World) (hb rb : Nat) (vs : Value) (ps gs : List Nat) (H : List Ob) : Prop where
  head : Blk w hb [vs, .map (some rb)] 70
  rules : MapI w rb (ruleF hb)
  own : w.ownsRow 0 103 1 vs H.length (ps.map ptrOf)
  lenp : ps.length = H.length
  leng : gs.length = H.length
  ndp : ps.Nodup
  ndg : gs.Nodup
  ap : (hb ∉ ps ∧ hb ∉ gs) ∧ ∀ k, vs.ownBlock = some k → k ≠ hb ∧ k ∉ ps ∧ k ∉ gs
  obj : ∀ (i p g : Nat) (o : Ob), ps[i]? = some p → gs[i]? = some g → H[i]? = some o → ObW w p g o
def Foot (hb : Nat) (vs : Value) (ps gs : List Nat) (k : Nat) : Prop := k = hb ∨ vs.ownBlock = some k ∨ k ∈ ps ∨ k ∈ gs
def HeapW (w : World) (hb rb : Nat) (H : List Ob) (F : Nat → Prop) : Prop :=
  ∃ vs ps gs, HeapR w hb rb vs ps gs H ∧ (∀ k, Foot hb vs ps gs k → F k ∧ k < w.heap.size) ∧ ¬ F rb

theorem owns_chg' {w w' : World} {S : Nat → Prop} {base e sz n : Nat} {v : Value} {xs : List Value} (h : w.ownsRow base e sz v n xs) (hc : Chg S w w') (hs : ∀ k, v.ownBlock = some k → ¬ S k) : w'.ownsRow base e sz v n xs := by
  refine ⟨h.1, ?_⟩
  rcases h.2 with hn | ⟨g, cap, cur, rfl, hb, hgg, rest⟩
  · exact .inl hn
  · refine .inr ⟨g, cap, cur, rfl, hb, ?_, rest⟩
    rw [hc.block g (Array.getElem?_eq_some_iff.1 hgg).1 (hs g rfl)]
    exact hgg
theorem WL.chg {w w' : World} {S : Nat → Prop} {g : Nat} {lv : Value} {l : List Wd} (h : WL w g lv l) (hc : Chg S w w') (hs : ¬ S g) : WL w' g lv l := by
  obtain ⟨A, c, h1, h2, h3, h4⟩ := h
  refine ⟨A, c, h1, h2, h3, fun hne => ?_⟩
  obtain ⟨h5, cs, h6, h7⟩ := h4 hne
  exact ⟨h5, cs, h6.chg hc hs, h7⟩
theorem WL.ext {w w' : World} {g : Nat} {lv : Value} {l : List Wd} (h : WL w g lv l) (he : Ext w w') : WL w' g lv l := h.chg (he.chg (fun _ => False)) id
theorem ObW.chg {w w' : World} {S : Nat → Prop} {p g : Nat} {o : Ob} (h : ObW w p g o) (hc : Chg S w w') (hp : ¬ S p) (hg : ¬ S g) : ObW w' p g o := by
  cases o with
  | text s => exact Blk.chg h hc hp
  | words sort l =>
    obtain ⟨lv, h1, h2⟩ := h
    exact ⟨lv, h1.chg hc hp, h2.chg hc hg⟩
theorem HeapR.chg {w w' : World} {S : Nat → Prop} {hb rb : Nat} {vs : Value} {ps gs : List Nat} {H : List Ob} (h : HeapR w hb rb vs ps gs H) (hc : Chg S w w') (hn : ∀ k, Foot hb vs ps gs k → ¬ S k) (hr : ¬ S rb) : HeapR w' hb rb vs ps gs H := by
  obtain ⟨h1, h2, h3, h4, h5, h6, h7, h9, h8⟩ := h
  refine ⟨h1.chg hc (hn _ (.inl rfl)), h2.chg hc hr, owns_chg' h3 hc (fun k hk => hn k (.inr (.inl hk))), h4, h5, h6, h7, h9, fun i p g o hp hg ho => ?_⟩
  exact (h8 i p g o hp hg ho).chg hc (hn _ (.inr (.inr (.inl (List.mem_of_getElem? hp))))) (hn _ (.inr (.inr (.inr (List.mem_of_getElem? hg)))))
theorem HeapR.ext {w w' : World} {hb rb : Nat} {vs : Value} {ps gs : List Nat} {H : List Ob} (h : HeapR w hb rb vs ps gs H) (he : Ext w w') : HeapR w' hb rb vs ps gs H := h.chg (he.chg (fun _ => False)) (fun _ _ => id) id
theorem HeapW.chg {w w' : World} {S F : Nat → Prop} {hb rb : Nat} {H : List Ob} (h : HeapW w hb rb H F) (hc : Chg S w w') (hs : ∀ k, F k → ¬ S k) (hr : ¬ S rb) : HeapW w' hb rb H F := by
  obtain ⟨vs, ps, gs, ⟨h1, h2, h3, h4, h5, h6, h7, h9, h8⟩, hf, hrb⟩ := h
  have hn : ∀ k, Foot hb vs ps gs k → ¬ S k := fun k hk => hs k (hf k hk).1
  refine ⟨vs, ps, gs, ⟨h1.chg hc (hn _ (.inl rfl)), h2.chg hc hr, owns_chg' h3 hc (fun k hk => hn k (.inr (.inl hk))), h4, h5, h6, h7, h9, fun i p g o hp hg ho => ?_⟩, fun k hk => ⟨(hf k hk).1, Nat.lt_of_lt_of_le (hf k hk).2 hc.size⟩, hrb⟩
  exact (h8 i p g o hp hg ho).chg hc (hn _ (.inr (.inr (.inl (List.mem_of_getElem? hp))))) (hn _ (.inr (.inr (.inr (List.mem_of_getElem? hg)))))
theorem HeapW.ext {w w' : World} {F : Nat → Prop} {hb rb : Nat} {H : List Ob} (h : HeapW w hb rb H F) (he : Ext w w') : HeapW w' hb rb H F := h.chg (he.chg (fun _ => False)) (fun _ _ => id) id
/-- The list's words as rows. -/
theorem WL.sli {w : World} {g : Nat} {lv : Value} {l : List Wd} (h : WL w g lv l) : Sli w 3 lv (l.map Wd.row) := by
  obtain ⟨A, c, rfl, h2, h3, h4⟩ := h
  refine ⟨A, c, by simp, by simp; omega, fun j row hj => ?_⟩
  have hjl : j < l.length := by have := (List.getElem?_eq_some_iff.1 hj).1; simpa using this
  obtain ⟨rfl, cs, hb, hcs⟩ := h4 (fun e => by subst e; simp at hjl)
  refine ⟨g, 0, rfl, fun k u hk => ?_⟩
  have hk3 : k < 3 := by
    rw [List.getElem?_map, List.getElem?_eq_getElem hjl] at hj
    simp at hj; subst hj
    have := (List.getElem?_eq_some_iff.1 hk).1; simpa using this
  have : cs[j * 3 + k]? = some u := by
    have h0 : (cs.take (l.length * 3))[j * 3 + k]? = cs[j * 3 + k]? := by rw [List.getElem?_take]; rw [if_pos (by omega)]
    rw [← h0, hcs]
    clear h0 hcs hb h4
    induction l generalizing j with
    | nil => simp at hjl
    | cons x xs ih =>
      cases j with
      | zero =>
        simp at hj; subst hj
        rw [List.map_cons, List.flatten_cons, List.getElem?_append_left (by simpa using hk3)]
        simpa using hk
      | succ j =>
        rw [List.map_cons, List.flatten_cons, List.getElem?_append_right (by simp; omega)]
        have := ih (by simp at h2; omega) (by simp at h3; omega) j (by simpa using hj) (by simpa using hjl)
        rw [← this]
        congr 1
        simp; omega
  rw [add_at]
  have := hb.cell this
  simpa using this
/-- An object of a heap. -/
theorem HeapR.at_ {w : World} {hb rb : Nat} {vs : Value} {ps gs : List Nat} {H : List Ob} (h : HeapR w hb rb vs ps gs H) {i : Nat} {o : Ob} (ho : H[i]? = some o) :
    ∃ p g, ps[i]? = some p ∧ gs[i]? = some g ∧ ObW w p g o := by
  have hi := (List.getElem?_eq_some_iff.1 ho).1
  have hp : ps[i]? = some (ps[i]'(by rw [h.lenp]; exact hi)) := List.getElem?_eq_getElem _
  have hg : gs[i]? = some (gs[i]'(by rw [h.leng]; exact hi)) := List.getElem?_eq_getElem _
  exact ⟨_, _, hp, hg, h.obj i _ _ o hp hg ho⟩
theorem flat_ptr (ps : List Nat) : ps.map ptrOf = (ps.map fun p => [ptrOf p]).flatten := by
  induction ps with
  | nil => rfl
  | cons p ps ih => simp [ih]
/-- The row of pointers, read. -/
theorem HeapR.sli {w : World} {hb rb : Nat} {vs : Value} {ps gs : List Nat} {H : List Ob} (h : HeapR w hb rb vs ps gs H) (hl : H.length ≤ 1073741824) : Sli w 1 vs (ps.map fun p => [ptrOf p]) := by
  exact Sli.of_own h.own (flat_ptr ps) (by simp) (by simp [h.lenp]) (by omega)
end Go.Proofs.Vg
set_option linter.defProp false
namespace Go.Proofs.YtldeokfhipjbfaaGreatDoor
open Go Go.Proofs.Vg
def Q3 := And.intro Tryz.results3 (And.intro Fx.ag32 (And.intro Fx.ag40 (And.intro Fx.es22 (Fx.isl22))))
def Q5 := And.intro Tryz.results5 (And.intro Fx.ag3 (And.intro Fx.ag38 (And.intro Fx.fo38_2 (Fx.isl29))))
def Q6 := And.intro Tryz.results6 (Fx.isl22)
def Q7 := And.intro Tryz.results7 (Fx.fo70_1)
def Q8 := Tryz.results8
def Q9 := And.intro Tryz.results9 (And.intro Fx.ag2 (And.intro Fx.ag29 (And.intro Fx.ag3 (And.intro Fx.ag30 (And.intro Fx.ag32 (And.intro Fx.ag33 (And.intro Fx.ag36 (And.intro Fx.ag38 (And.intro Fx.ag75 (And.intro Fx.es29 (And.intro Fx.es30 (And.intro Fx.fo32_0 (And.intro Fx.fo32_1 (And.intro Fx.fo40_0 (And.intro Fx.fo40_1 (And.intro Fx.fo40_2 (And.intro Fx.fo40_3 (And.intro Fx.fo40_4 (And.intro Fx.fo40_5 (Fx.isl29))))))))))))))))))))
def Q10 := And.intro Tryz.results10 (And.intro Fx.ag29 (And.intro Fx.ag30 (And.intro Fx.ag36 (And.intro Fx.ag38 (And.intro Fx.ag75 (And.intro Fx.es29 (And.intro Fx.es30 (And.intro Fx.fo32_0 (And.intro Fx.fo32_1 (And.intro Fx.isl29 (Fx.un4)))))))))))
def Q11 := And.intro Tryz.results11 (And.intro Fx.ag29 (And.intro Fx.ag3 (And.intro Fx.ag30 (And.intro Fx.ag32 (And.intro Fx.ag38 (And.intro Fx.ag75 (And.intro Fx.es29 (And.intro Fx.es30 (And.intro Fx.es33 (And.intro Fx.fo32_0 (And.intro Fx.fo32_1 (And.intro Fx.isl29 (Fx.isl33)))))))))))))
def Q12 := And.intro Tryz.results12 (And.intro Fx.ag3 (And.intro Fx.ag38 (And.intro Fx.ag68 (And.intro Fx.fo38_0 (Fx.fo70_1)))))
def Q13 := And.intro Tryz.results13 (Fx.ag38)
def Q14 := And.intro Tryz.results14 (And.intro Fx.ag25 (Fx.ag3))
def Q15 := And.intro Tryz.results15 (And.intro Fx.ag103 (And.intro Fx.ag25 (And.intro Fx.ag29 (And.intro Fx.ag33 (And.intro Fx.ag67 (And.intro Fx.es33 (And.intro Fx.es67 (And.intro Fx.fo106_0 (And.intro Fx.fo108_0 (And.intro Fx.fo70_0 (Fx.isl67)))))))))))
def Q16 := And.intro Tryz.results16 (And.intro Fx.ag67 (And.intro Fx.fo70_0 (Fx.isl67)))
def Q17 := And.intro Tryz.results17 (And.intro Fx.ag2 (And.intro Fx.ag3 (And.intro Fx.ag34 (And.intro Fx.ag36 (And.intro Fx.ag9 (And.intro Fx.es34 (And.intro Fx.fo36_0 (And.intro Fx.fo36_1 (And.intro Fx.fo36_2 (And.intro Fx.fo36_3 (Fx.isl34)))))))))))
def Q18 := And.intro Tryz.results18 (And.intro Fx.ag38 (And.intro Fx.es29 (Fx.isl29)))
def Q19 := And.intro Tryz.results19 (Fx.ag36)
def Q20 := Tryz.results20
def Q21 := And.intro Tryz.results21 (Fx.ag25)
def Q22 := And.intro Tryz.results22 (And.intro Fx.ag29 (And.intro Fx.ag3 (And.intro Fx.ag38 (And.intro Fx.es29 (And.intro Fx.fo106_0 (And.intro Fx.fo108_0 (And.intro Fx.fo38_0 (And.intro Fx.fo38_2 (Fx.isl29)))))))))
def Q23 := Tryz.results23
def Q24 := And.intro Tryz.results24 (And.intro Fx.ag3 (And.intro Fx.ag33 (And.intro Fx.ag36 (And.intro Fx.fo40_0 (And.intro Fx.fo40_3 (And.intro Fx.fo40_4 (Fx.isl33)))))))
def Q25 := And.intro Tryz.results25 (And.intro Fx.ag3 (And.intro Fx.ag34 (And.intro Fx.ag65 (And.intro Fx.ag9 (And.intro Fx.fo36_2 (And.intro Fx.fo36_3 (Fx.ist9)))))))
def Q26 := Tryz.results26
def Q27 := And.intro Tryz.results27 (Fx.ag36)
def Q28 := And.intro Tryz.results28 (And.intro Fx.ag29 (And.intro Fx.ag30 (And.intro Fx.ag38 (And.intro Fx.ag75 (And.intro Fx.fo32_0 (Fx.fo32_1))))))
def Q29 := And.intro Tryz.results29 (And.intro Fx.ag75 (And.intro Fx.es30 (Fx.isl30)))
def Q30 := And.intro Tryz.results30 (And.intro Fx.ag3 (And.intro Fx.ag30 (And.intro Fx.ag72 (And.intro Fx.ag75 (And.intro Fx.es30 (And.intro Fx.es72 (And.intro Fx.fo120_3 (And.intro Fx.fo74_0 (And.intro Fx.fo75_0 (And.intro Fx.fo75_2 (Fx.isl30)))))))))))
def Q31 := And.intro Tryz.results31 (And.intro Fx.ag120 (And.intro Fx.ag3 (And.intro Fx.ag30 (And.intro Fx.ag72 (And.intro Fx.es33 (And.intro Fx.es72 (And.intro Fx.fo120_3 (And.intro Fx.fo74_0 (Fx.isl33)))))))))
def Q32 := Tryz.results32
def Q33 := And.intro Tryz.results33 (Fx.ag75)
def Q34 := And.intro Tryz.results34 (And.intro Fx.ag3 (And.intro Fx.ag38 (Fx.fo38_0)))
def Q35 := And.intro Tryz.results35 (And.intro Fx.ag3 (And.intro Fx.ag75 (Fx.fo75_0)))
def Q36 := And.intro Tryz.results36 (And.intro Fx.ag3 (And.intro Fx.ag38 (And.intro Fx.ag9 (And.intro Fx.fo108_1 (And.intro Fx.fo38_0 (Fx.fo38_2))))))
def Q37 := And.intro Tryz.results37 (And.intro Fx.ag3 (And.intro Fx.ag72 (And.intro Fx.ag75 (And.intro Fx.ag9 (And.intro Fx.es72 (And.intro Fx.fo120_2 (And.intro Fx.fo74_0 (And.intro Fx.fo75_0 (Fx.fo75_2)))))))))
def Q38 := And.intro Tryz.results38 (And.intro Fx.ag2 (And.intro Fx.ag3 (And.intro Fx.ag4 (And.intro Fx.ag72 (And.intro Fx.es72 (And.intro Fx.fo120_0 (And.intro Fx.fo120_1 (And.intro Fx.fo74_0 (And.intro Fx.fo75_0 (And.intro Fx.fo75_1 (And.intro Fx.fo75_2 (Fx.isl72))))))))))))
def Q39 := And.intro Tryz.results39 (And.intro Fx.ag38 (And.intro Fx.es29 (Fx.isl29)))
def Q40 := And.intro Tryz.results40 (Fx.ag75)
def Q41 := And.intro Tryz.results41 (Fx.ag38)
def Q42 := And.intro Tryz.results42 (Fx.ag75)
def Q43 := And.intro Tryz.results43 (Fx.isl33)
def Q44 := And.intro Tryz.results44 (And.intro Fx.ag72 (And.intro Fx.fo74_0 (Fx.isl72)))
def Q45 := And.intro Tryz.results45 (And.intro Fx.ag25 (And.intro Fx.ag67 (And.intro Fx.fo70_0 (Fx.isl67))))
def Q46 := And.intro Tryz.results46 (And.intro Fx.ag2 (And.intro Fx.ag3 (And.intro Fx.ag34 (And.intro Fx.ag36 (And.intro Fx.ag38 (And.intro Fx.ag9 (And.intro Fx.ar132 (And.intro Fx.es29 (And.intro Fx.fo108_1 (And.intro Fx.fo36_0 (And.intro Fx.fo36_3 (And.intro Fx.fo38_0 (And.intro Fx.fo38_1 (And.intro Fx.fo38_2 (Fx.isl29)))))))))))))))
def Q47 := Tryz.results47
def Q48 := And.intro Tryz.results48 (And.intro Fx.ag25 (Fx.ag38))
def Q49 := Tryz.results49
def Q50 := And.intro Tryz.results50 (And.intro Fx.ag25 (Fx.ag38))
def Q51 := And.intro Tryz.results51 (And.intro Fx.ag3 (And.intro Fx.ag33 (And.intro Fx.ag38 (And.intro Fx.es29 (And.intro Fx.es33 (And.intro Fx.fo38_2 (Fx.isl29)))))))
def Q52 := And.intro Tryz.results52 (And.intro Fx.ag137 (And.intro Fx.ag3 (And.intro Fx.ag34 (And.intro Fx.ag36 (And.intro Fx.es34 (And.intro Fx.fo36_0 (And.intro Fx.fo36_3 (Fx.isl34))))))))
def Q53 := And.intro Tryz.results53 (And.intro Fx.ag2 (And.intro Fx.ag3 (And.intro Fx.ag34 (And.intro Fx.ag9 (And.intro Fx.fo36_0 (And.intro Fx.fo36_1 (And.intro Fx.fo36_2 (And.intro Fx.fo36_3 (Fx.isl34)))))))))
def Q54 := And.intro Tryz.results54 (And.intro Fx.ag137 (And.intro Fx.ag2 (And.intro Fx.ag3 (And.intro Fx.ag34 (And.intro Fx.ag36 (And.intro Fx.ag9 (And.intro Fx.es34 (And.intro Fx.fo36_0 (And.intro Fx.fo36_1 (And.intro Fx.fo36_2 (And.intro Fx.fo36_3 (Fx.isl34))))))))))))
def Q55 := And.intro Tryz.results55 (And.intro Fx.ag25 (And.intro Fx.ag3 (And.intro Fx.ag38 (Fx.fo38_0))))
def Q56 := And.intro Tryz.results56 (And.intro Fx.ag38 (And.intro Fx.fo38_2 (Fx.isl29)))
def Q57 := And.intro Tryz.results57 (And.intro Fx.ag103 (And.intro Fx.ag67 (And.intro Fx.es67 (And.intro Fx.fo70_0 (Fx.isl67)))))
def Q58 := And.intro Tryz.results58 (And.intro Fx.ag40 (And.intro Fx.es22 (Fx.isl22)))
def Q59 := Tryz.results59
def Q60 := And.intro Tryz.results60 (And.intro Fx.ag36 (Fx.ag65))
def Q61 := And.intro Tryz.results61 (And.intro Fx.ag3 (Fx.fo38_2))
def Q62 := And.intro Tryz.results62 (And.intro Fx.ag2 (And.intro Fx.ag3 (And.intro Fx.fo38_1 (Fx.fo38_2))))
def Q63 := And.intro Tryz.results63 (And.intro Fx.ag2 (And.intro Fx.ag3 (And.intro Fx.ag4 (And.intro Fx.fo108_2 (And.intro Fx.fo38_1 (Fx.fo38_2))))))
def Q64 := And.intro Tryz.results64 (And.intro Fx.ag3 (And.intro Fx.ag4 (And.intro Fx.fo108_2 (And.intro Fx.fo108_3 (Fx.fo38_2)))))
def Q65 := And.intro Tryz.results65 (And.intro Fx.ag2 (And.intro Fx.ag3 (And.intro Fx.ag4 (And.intro Fx.fo108_2 (And.intro Fx.fo108_3 (And.intro Fx.fo38_1 (Fx.fo38_2)))))))
def Q66 := And.intro Tryz.results66 (Fx.ag36)
def Q67 := And.intro Tryz.results67 (And.intro Fx.ag2 (And.intro Fx.ag3 (And.intro Fx.ag34 (And.intro Fx.ag36 (And.intro Fx.ag75 (And.intro Fx.ag9 (And.intro Fx.ar144 (And.intro Fx.es142 (And.intro Fx.es34 (And.intro Fx.fo36_0 (And.intro Fx.fo36_1 (And.intro Fx.fo36_2 (And.intro Fx.fo36_3 (And.intro Fx.fo75_0 (And.intro Fx.isl142 (Fx.isl34))))))))))))))))
def Q68 := Tryz.results68
def Q69 := And.intro Tryz.results69 (And.intro Fx.ag3 (And.intro Fx.ag75 (Fx.fo75_0)))
def Q70 := And.intro Tryz.results70 (And.intro Fx.ag75 (And.intro Fx.fo75_2 (Fx.isl30)))
def Q71 := And.intro Tryz.results71 (And.intro Fx.ag75 (And.intro Fx.es30 (Fx.isl30)))
def Q72 := And.intro Tryz.results72 (And.intro Fx.ag3 (And.intro Fx.ag30 (And.intro Fx.ag72 (And.intro Fx.ag75 (And.intro Fx.es30 (And.intro Fx.es33 (And.intro Fx.es72 (And.intro Fx.fo120_3 (And.intro Fx.fo74_0 (And.intro Fx.isl30 (Fx.isl33)))))))))))
def Q73 := And.intro Tryz.results73 (And.intro Fx.ag3 (And.intro Fx.ag75 (And.intro Fx.es30 (And.intro Fx.fo75_2 (Fx.isl30)))))
def Q74 := And.intro Tryz.results74 (And.intro Fx.ag38 (And.intro Fx.ag75 (And.intro Fx.es29 (And.intro Fx.es30 (And.intro Fx.isl29 (Fx.isl30))))))
def Q75 := And.intro Tryz.results75 (And.intro Fx.ag38 (Fx.ag75))
def Q76 := And.intro Tryz.results76 (And.intro Fx.ag3 (And.intro Fx.ag30 (And.intro Fx.ag72 (And.intro Fx.ag75 (And.intro Fx.es33 (And.intro Fx.es72 (And.intro Fx.fo120_3 (And.intro Fx.fo74_0 (Fx.isl33)))))))))
def Q77 := And.intro Tryz.results77 (And.intro Fx.ag2 (And.intro Fx.ag3 (And.intro Fx.ag34 (And.intro Fx.ag36 (And.intro Fx.ag72 (And.intro Fx.ag75 (And.intro Fx.ag9 (And.intro Fx.ar144 (And.intro Fx.es142 (And.intro Fx.es30 (And.intro Fx.es72 (And.intro Fx.fo120_2 (And.intro Fx.fo36_0 (And.intro Fx.fo36_1 (And.intro Fx.fo36_2 (And.intro Fx.fo36_3 (And.intro Fx.fo74_0 (And.intro Fx.fo75_0 (And.intro Fx.fo75_1 (And.intro Fx.fo75_2 (And.intro Fx.isl142 (Fx.isl30))))))))))))))))))))))
def Q78 := Tryz.results78
def Q79 := And.intro Tryz.results79 (And.intro Fx.ag29 (And.intro Fx.ag3 (And.intro Fx.ag4 (And.intro Fx.fo106_0 (And.intro Fx.fo108_0 (And.intro Fx.fo108_2 (Fx.fo38_2)))))))
def Q80 := And.intro Tryz.results80 (And.intro Fx.ag3 (And.intro Fx.ag30 (And.intro Fx.ag72 (And.intro Fx.es72 (And.intro Fx.fo120_3 (And.intro Fx.fo74_0 (And.intro Fx.fo75_0 (Fx.fo75_2))))))))
def Q81 := And.intro Tryz.results81 (And.intro Fx.ag75 (And.intro Fx.es30 (Fx.isl30)))
def Q82 := And.intro Tryz.results82 (And.intro Fx.ag25 (And.intro Fx.ag3 (And.intro Fx.ag38 (Fx.fo38_0))))
def Q83 := And.intro Tryz.results83 (And.intro Fx.ag2 (And.intro Fx.ag3 (And.intro Fx.ag38 (And.intro Fx.ag9 (And.intro Fx.ar132 (And.intro Fx.fo108_1 (And.intro Fx.fo38_0 (And.intro Fx.fo38_1 (And.intro Fx.fo38_2 (Fx.isl29))))))))))
def Q84 := And.intro Tryz.results84 (Fx.ag36)
def Q85 := And.intro Tryz.results85 (And.intro Fx.ag103 (And.intro Fx.ag117 (And.intro Fx.ag25 (And.intro Fx.ag29 (And.intro Fx.ag3 (And.intro Fx.ag33 (And.intro Fx.ag38 (And.intro Fx.ag67 (And.intro Fx.es29 (And.intro Fx.es33 (And.intro Fx.es67 (And.intro Fx.fo106_0 (And.intro Fx.fo108_0 (And.intro Fx.fo38_2 (And.intro Fx.fo70_0 (Fx.isl29))))))))))))))))
def Q86 := And.intro Tryz.results86 (And.intro Fx.ag117 (And.intro Fx.ag3 (Fx.fo38_2)))
def Q87 := And.intro Tryz.results87 (And.intro Fx.ag38 (And.intro Fx.es29 (Fx.isl29)))
def Q88 := And.intro Tryz.results88 (And.intro Fx.ag103 (And.intro Fx.ag25 (And.intro Fx.ag29 (And.intro Fx.ag3 (And.intro Fx.ag33 (And.intro Fx.ag67 (And.intro Fx.es33 (And.intro Fx.es67 (And.intro Fx.fo106_0 (And.intro Fx.fo108_0 (And.intro Fx.fo70_0 (And.intro Fx.isl33 (Fx.isl67)))))))))))))
def Q89 := And.intro Tryz.results89 (And.intro Fx.ag134 (And.intro Fx.ag3 (And.intro Fx.ag33 (And.intro Fx.ag38 (And.intro Fx.ag4 (And.intro Fx.es134 (And.intro Fx.es29 (And.intro Fx.fo38_2 (Fx.isl29)))))))))
def Q90 := And.intro Tryz.results90 (Fx.ag36)
def Q91 := Tryz.results91
def Q92 := And.intro Tryz.results92 (And.intro Fx.ag67 (And.intro Fx.fo70_0 (Fx.isl67)))
def Q93 := And.intro Tryz.results93 (And.intro Fx.ag36 (And.intro Fx.es34 (Fx.isl34)))
def Q94 := And.intro Tryz.results94 (And.intro Fx.ag3 (And.intro Fx.ag34 (And.intro Fx.ag36 (And.intro Fx.es34 (And.intro Fx.fo36_0 (And.intro Fx.fo36_3 (Fx.isl34)))))))
def Q95 := And.intro Tryz.results95 (And.intro Fx.ag2 (And.intro Fx.ag3 (And.intro Fx.ag34 (And.intro Fx.ag36 (And.intro Fx.ag9 (And.intro Fx.es34 (And.intro Fx.fo36_0 (And.intro Fx.fo36_1 (And.intro Fx.fo36_2 (And.intro Fx.fo36_3 (Fx.isl34)))))))))))
def Q96 := Tryz.results96
def Q97 := Tryz.results97
def Q98 := And.intro Tryz.results98 (And.intro Fx.ag120 (And.intro Fx.ag72 (And.intro Fx.fo74_0 (Fx.isl72))))
def Q99 := And.intro Tryz.results99 (And.intro Fx.ag3 (Fx.fo75_2))
def Q100 := And.intro Tryz.results100 (And.intro Fx.ag3 (And.intro Fx.es33 (Fx.isl33)))
def Q101 := And.intro Tryz.results101 (And.intro Fx.ag25 (Fx.ag38))
def Q102 := Tryz.results102
def Q103 := Tryz.results103
def Q104 := Tryz.results104
def Q105 := And.intro Tryz.results105 (And.intro Fx.ag38 (And.intro Fx.es29 (Fx.isl29)))
def Q106 := And.intro Tryz.results106 (And.intro Fx.ag3 (And.intro Fx.ag34 (And.intro Fx.ag36 (And.intro Fx.es34 (And.intro Fx.fo36_0 (And.intro Fx.fo36_3 (Fx.isl34)))))))
def Q107 := And.intro Tryz.results107 (And.intro Fx.ag2 (And.intro Fx.ag3 (And.intro Fx.ag34 (And.intro Fx.ag36 (And.intro Fx.ag9 (And.intro Fx.es34 (And.intro Fx.fo36_0 (And.intro Fx.fo36_1 (And.intro Fx.fo36_2 (And.intro Fx.fo36_3 (Fx.isl34)))))))))))
def Q108 := Tryz.results108
def Q110 := Tryz.results110
def Q111 := Tryz.results111
def Q112 := Tryz.results112
theorem t3 {A B : Prop} (b : B) (f : B → A := by (intro q; (try intro X hX); (repeat ((try subst X); (first | (first | apply zL | apply zH | apply zE); intro X hX | apply zl | apply zh | apply ze); try simp only [zU, reduceIte, Nat.reduceEqDiff, Nat.reduceAdd, reduceCtorEq, Q3])); (first | revert X | refine dX ?_); exact q)) : A := f b
theorem t5 {A B : Prop} (b : B) (f : B → A := by (intro q; (try intro X hX); (repeat ((try subst X); (first | (first | apply zL | apply zH | apply zE); intro X hX | apply zl | apply zh | apply ze); try simp only [zU, reduceIte, Nat.reduceEqDiff, Nat.reduceAdd, reduceCtorEq, Q5])); (first | revert X | refine dX ?_); exact q)) : A := f b
theorem t6 {A B : Prop} (b : B) (f : B → A := by (intro q; (try intro X hX); (repeat ((try subst X); (first | (first | apply zL | apply zH | apply zE); intro X hX | apply zl | apply zh | apply ze); try simp only [zU, reduceIte, Nat.reduceEqDiff, Nat.reduceAdd, reduceCtorEq, Q6])); (first | revert X | refine dX ?_); exact q)) : A := f b
theorem t7 {A B : Prop} (b : B) (f : B → A := by (intro q; (try intro X hX); (repeat ((try subst X); (first | (first | apply zL | apply zH | apply zE); intro X hX | apply zl | apply zh | apply ze); try simp only [zU, reduceIte, Nat.reduceEqDiff, Nat.reduceAdd, reduceCtorEq, Q7])); (first | revert X | refine dX ?_); exact q)) : A := f b
theorem t8 {A B : Prop} (b : B) (f : B → A := by (intro q; (try intro X hX); (repeat ((try subst X); (first | (first | apply zL | apply zH | apply zE); intro X hX | apply zl | apply zh | apply ze); try simp only [zU, reduceIte, Nat.reduceEqDiff, Nat.reduceAdd, reduceCtorEq, Q8])); (first | revert X | refine dX ?_); exact q)) : A := f b
theorem t9 {A B : Prop} (b : B) (f : B → A := by (intro q; (try intro X hX); (repeat ((try subst X); (first | (first | apply zL | apply zH | apply zE); intro X hX | apply zl | apply zh | apply ze); try simp only [zU, reduceIte, Nat.reduceEqDiff, Nat.reduceAdd, reduceCtorEq, Q9])); (first | revert X | refine dX ?_); exact q)) : A := f b
theorem t10 {A B : Prop} (b : B) (f : B → A := by (intro q; (try intro X hX); (repeat ((try subst X); (first | (first | apply zL | apply zH | apply zE); intro X hX | apply zl | apply zh | apply ze); try simp only [zU, reduceIte, Nat.reduceEqDiff, Nat.reduceAdd, reduceCtorEq, Q10])); (first | revert X | refine dX ?_); exact q)) : A := f b
theorem t11 {A B : Prop} (b : B) (f : B → A := by (intro q; (try intro X hX); (repeat ((try subst X); (first | (first | apply zL | apply zH | apply zE); intro X hX | apply zl | apply zh | apply ze); try simp only [zU, reduceIte, Nat.reduceEqDiff, Nat.reduceAdd, reduceCtorEq, Q11])); (first | revert X | refine dX ?_); exact q)) : A := f b
theorem t12 {A B : Prop} (b : B) (f : B → A := by (intro q; (try intro X hX); (repeat ((try subst X); (first | (first | apply zL | apply zH | apply zE); intro X hX | apply zl | apply zh | apply ze); try simp only [zU, reduceIte, Nat.reduceEqDiff, Nat.reduceAdd, reduceCtorEq, Q12])); (first | revert X | refine dX ?_); exact q)) : A := f b
theorem t13 {A B : Prop} (b : B) (f : B → A := by (intro q; (try intro X hX); (repeat ((try subst X); (first | (first | apply zL | apply zH | apply zE); intro X hX | apply zl | apply zh | apply ze); try simp only [zU, reduceIte, Nat.reduceEqDiff, Nat.reduceAdd, reduceCtorEq, Q13])); (first | revert X | refine dX ?_); exact q)) : A := f b
theorem t14 {A B : Prop} (b : B) (f : B → A := by (intro q; (try intro X hX); (repeat ((try subst X); (first | (first | apply zL | apply zH | apply zE); intro X hX | apply zl | apply zh | apply ze); try simp only [zU, reduceIte, Nat.reduceEqDiff, Nat.reduceAdd, reduceCtorEq, Q14])); (first | revert X | refine dX ?_); exact q)) : A := f b
theorem t15 {A B : Prop} (b : B) (f : B → A := by (intro q; (try intro X hX); (repeat ((try subst X); (first | (first | apply zL | apply zH | apply zE); intro X hX | apply zl | apply zh | apply ze); try simp only [zU, reduceIte, Nat.reduceEqDiff, Nat.reduceAdd, reduceCtorEq, Q15])); (first | revert X | refine dX ?_); exact q)) : A := f b
theorem t16 {A B : Prop} (b : B) (f : B → A := by (intro q; (try intro X hX); (repeat ((try subst X); (first | (first | apply zL | apply zH | apply zE); intro X hX | apply zl | apply zh | apply ze); try simp only [zU, reduceIte, Nat.reduceEqDiff, Nat.reduceAdd, reduceCtorEq, Q16])); (first | revert X | refine dX ?_); exact q)) : A := f b
theorem t17 {A B : Prop} (b : B) (f : B → A := by (intro q; (try intro X hX); (repeat ((try subst X); (first | (first | apply zL | apply zH | apply zE); intro X hX | apply zl | apply zh | apply ze); try simp only [zU, reduceIte, Nat.reduceEqDiff, Nat.reduceAdd, reduceCtorEq, Q17])); (first | revert X | refine dX ?_); exact q)) : A := f b
theorem t19 {A B : Prop} (b : B) (f : B → A := by (intro q; (try intro X hX); (repeat ((try subst X); (first | (first | apply zL | apply zH | apply zE); intro X hX | apply zl | apply zh | apply ze); try simp only [zU, reduceIte, Nat.reduceEqDiff, Nat.reduceAdd, reduceCtorEq, Q19])); (first | revert X | refine dX ?_); exact q)) : A := f b
theorem t20 {A B : Prop} (b : B) (f : B → A := by (intro q; (try intro X hX); (repeat ((try subst X); (first | (first | apply zL | apply zH | apply zE); intro X hX | apply zl | apply zh | apply ze); try simp only [zU, reduceIte, Nat.reduceEqDiff, Nat.reduceAdd, reduceCtorEq, Q20])); (first | revert X | refine dX ?_); exact q)) : A := f b
theorem t21 {A B : Prop} (b : B) (f : B → A := by (intro q; (try intro X hX); (repeat ((try subst X); (first | (first | apply zL | apply zH | apply zE); intro X hX | apply zl | apply zh | apply ze); try simp only [zU, reduceIte, Nat.reduceEqDiff, Nat.reduceAdd, reduceCtorEq, Q21])); (first | revert X | refine dX ?_); exact q)) : A := f b
theorem t22 {A B : Prop} (b : B) (f : B → A := by (intro q; (try intro X hX); (repeat ((try subst X); (first | (first | apply zL | apply zH | apply zE); intro X hX | apply zl | apply zh | apply ze); try simp only [zU, reduceIte, Nat.reduceEqDiff, Nat.reduceAdd, reduceCtorEq, Q22])); (first | revert X | refine dX ?_); exact q)) : A := f b
theorem t23 {A B : Prop} (b : B) (f : B → A := by (intro q; (try intro X hX); (repeat ((try subst X); (first | (first | apply zL | apply zH | apply zE); intro X hX | apply zl | apply zh | apply ze); try simp only [zU, reduceIte, Nat.reduceEqDiff, Nat.reduceAdd, reduceCtorEq, Q23])); (first | revert X | refine dX ?_); exact q)) : A := f b
theorem t24 {A B : Prop} (b : B) (f : B → A := by (intro q; (try intro X hX); (repeat ((try subst X); (first | (first | apply zL | apply zH | apply zE); intro X hX | apply zl | apply zh | apply ze); try simp only [zU, reduceIte, Nat.reduceEqDiff, Nat.reduceAdd, reduceCtorEq, Q24])); (first | revert X | refine dX ?_); exact q)) : A := f b
theorem t25 {A B : Prop} (b : B) (f : B → A := by (intro q; (try intro X hX); (repeat ((try subst X); (first | (first | apply zL | apply zH | apply zE); intro X hX | apply zl | apply zh | apply ze); try simp only [zU, reduceIte, Nat.reduceEqDiff, Nat.reduceAdd, reduceCtorEq, Q25])); (first | revert X | refine dX ?_); exact q)) : A := f b
theorem t26 {A B : Prop} (b : B) (f : B → A := by (intro q; (try intro X hX); (repeat ((try subst X); (first | (first | apply zL | apply zH | apply zE); intro X hX | apply zl | apply zh | apply ze); try simp only [zU, reduceIte, Nat.reduceEqDiff, Nat.reduceAdd, reduceCtorEq, Q26])); (first | revert X | refine dX ?_); exact q)) : A := f b
theorem t27 {A B : Prop} (b : B) (f : B → A := by (intro q; (try intro X hX); (repeat ((try subst X); (first | (first | apply zL | apply zH | apply zE); intro X hX | apply zl | apply zh | apply ze); try simp only [zU, reduceIte, Nat.reduceEqDiff, Nat.reduceAdd, reduceCtorEq, Q27])); (first | revert X | refine dX ?_); exact q)) : A := f b
theorem t28 {A B : Prop} (b : B) (f : B → A := by (intro q; (try intro X hX); (repeat ((try subst X); (first | (first | apply zL | apply zH | apply zE); intro X hX | apply zl | apply zh | apply ze); try simp only [zU, reduceIte, Nat.reduceEqDiff, Nat.reduceAdd, reduceCtorEq, Q28])); (first | revert X | refine dX ?_); exact q)) : A := f b
theorem t29 {A B : Prop} (b : B) (f : B → A := by (intro q; (try intro X hX); (repeat ((try subst X); (first | (first | apply zL | apply zH | apply zE); intro X hX | apply zl | apply zh | apply ze); try simp only [zU, reduceIte, Nat.reduceEqDiff, Nat.reduceAdd, reduceCtorEq, Q29])); (first | revert X | refine dX ?_); exact q)) : A := f b
theorem t30 {A B : Prop} (b : B) (f : B → A := by (intro q; (try intro X hX); (repeat ((try subst X); (first | (first | apply zL | apply zH | apply zE); intro X hX | apply zl | apply zh | apply ze); try simp only [zU, reduceIte, Nat.reduceEqDiff, Nat.reduceAdd, reduceCtorEq, Q30])); (first | revert X | refine dX ?_); exact q)) : A := f b
theorem t31 {A B : Prop} (b : B) (f : B → A := by (intro q; (try intro X hX); (repeat ((try subst X); (first | (first | apply zL | apply zH | apply zE); intro X hX | apply zl | apply zh | apply ze); try simp only [zU, reduceIte, Nat.reduceEqDiff, Nat.reduceAdd, reduceCtorEq, Q31])); (first | revert X | refine dX ?_); exact q)) : A := f b
theorem t32 {A B : Prop} (b : B) (f : B → A := by (intro q; (try intro X hX); (repeat ((try subst X); (first | (first | apply zL | apply zH | apply zE); intro X hX | apply zl | apply zh | apply ze); try simp only [zU, reduceIte, Nat.reduceEqDiff, Nat.reduceAdd, reduceCtorEq, Q32])); (first | revert X | refine dX ?_); exact q)) : A := f b
theorem t33 {A B : Prop} (b : B) (f : B → A := by (intro q; (try intro X hX); (repeat ((try subst X); (first | (first | apply zL | apply zH | apply zE); intro X hX | apply zl | apply zh | apply ze); try simp only [zU, reduceIte, Nat.reduceEqDiff, Nat.reduceAdd, reduceCtorEq, Q33])); (first | revert X | refine dX ?_); exact q)) : A := f b
theorem t34 {A B : Prop} (b : B) (f : B → A := by (intro q; (try intro X hX); (repeat ((try subst X); (first | (first | apply zL | apply zH | apply zE); intro X hX | apply zl | apply zh | apply ze); try simp only [zU, reduceIte, Nat.reduceEqDiff, Nat.reduceAdd, reduceCtorEq, Q34])); (first | revert X | refine dX ?_); exact q)) : A := f b
theorem t35 {A B : Prop} (b : B) (f : B → A := by (intro q; (try intro X hX); (repeat ((try subst X); (first | (first | apply zL | apply zH | apply zE); intro X hX | apply zl | apply zh | apply ze); try simp only [zU, reduceIte, Nat.reduceEqDiff, Nat.reduceAdd, reduceCtorEq, Q35])); (first | revert X | refine dX ?_); exact q)) : A := f b
theorem t36 {A B : Prop} (b : B) (f : B → A := by (intro q; (try intro X hX); (repeat ((try subst X); (first | (first | apply zL | apply zH | apply zE); intro X hX | apply zl | apply zh | apply ze); try simp only [zU, reduceIte, Nat.reduceEqDiff, Nat.reduceAdd, reduceCtorEq, Q36])); (first | revert X | refine dX ?_); exact q)) : A := f b
theorem t37 {A B : Prop} (b : B) (f : B → A := by (intro q; (try intro X hX); (repeat ((try subst X); (first | (first | apply zL | apply zH | apply zE); intro X hX | apply zl | apply zh | apply ze); try simp only [zU, reduceIte, Nat.reduceEqDiff, Nat.reduceAdd, reduceCtorEq, Q37])); (first | revert X | refine dX ?_); exact q)) : A := f b
theorem t38 {A B : Prop} (b : B) (f : B → A := by (intro q; (try intro X hX); (repeat ((try subst X); (first | (first | apply zL | apply zH | apply zE); intro X hX | apply zl | apply zh | apply ze); try simp only [zU, reduceIte, Nat.reduceEqDiff, Nat.reduceAdd, reduceCtorEq, Q38])); (first | revert X | refine dX ?_); exact q)) : A := f b
theorem t39 {A B : Prop} (b : B) (f : B → A := by (intro q; (try intro X hX); (repeat ((try subst X); (first | (first | apply zL | apply zH | apply zE); intro X hX | apply zl | apply zh | apply ze); try simp only [zU, reduceIte, Nat.reduceEqDiff, Nat.reduceAdd, reduceCtorEq, Q39])); (first | revert X | refine dX ?_); exact q)) : A := f b
theorem t40 {A B : Prop} (b : B) (f : B → A := by (intro q; (try intro X hX); (repeat ((try subst X); (first | (first | apply zL | apply zH | apply zE); intro X hX | apply zl | apply zh | apply ze); try simp only [zU, reduceIte, Nat.reduceEqDiff, Nat.reduceAdd, reduceCtorEq, Q40])); (first | revert X | refine dX ?_); exact q)) : A := f b
theorem t41 {A B : Prop} (b : B) (f : B → A := by (intro q; (try intro X hX); (repeat ((try subst X); (first | (first | apply zL | apply zH | apply zE); intro X hX | apply zl | apply zh | apply ze); try simp only [zU, reduceIte, Nat.reduceEqDiff, Nat.reduceAdd, reduceCtorEq, Q41])); (first | revert X | refine dX ?_); exact q)) : A := f b
theorem t42 {A B : Prop} (b : B) (f : B → A := by (intro q; (try intro X hX); (repeat ((try subst X); (first | (first | apply zL | apply zH | apply zE); intro X hX | apply zl | apply zh | apply ze); try simp only [zU, reduceIte, Nat.reduceEqDiff, Nat.reduceAdd, reduceCtorEq, Q42])); (first | revert X | refine dX ?_); exact q)) : A := f b
theorem t43 {A B : Prop} (b : B) (f : B → A := by (intro q; (try intro X hX); (repeat ((try subst X); (first | (first | apply zL | apply zH | apply zE); intro X hX | apply zl | apply zh | apply ze); try simp only [zU, reduceIte, Nat.reduceEqDiff, Nat.reduceAdd, reduceCtorEq, Q43])); (first | revert X | refine dX ?_); exact q)) : A := f b
theorem t44 {A B : Prop} (b : B) (f : B → A := by (intro q; (try intro X hX); (repeat ((try subst X); (first | (first | apply zL | apply zH | apply zE); intro X hX | apply zl | apply zh | apply ze); try simp only [zU, reduceIte, Nat.reduceEqDiff, Nat.reduceAdd, reduceCtorEq, Q44])); (first | revert X | refine dX ?_); exact q)) : A := f b
theorem t45 {A B : Prop} (b : B) (f : B → A := by (intro q; (try intro X hX); (repeat ((try subst X); (first | (first | apply zL | apply zH | apply zE); intro X hX | apply zl | apply zh | apply ze); try simp only [zU, reduceIte, Nat.reduceEqDiff, Nat.reduceAdd, reduceCtorEq, Q45])); (first | revert X | refine dX ?_); exact q)) : A := f b
theorem t46 {A B : Prop} (b : B) (f : B → A := by (intro q; (try intro X hX); (repeat ((try subst X); (first | (first | apply zL | apply zH | apply zE); intro X hX | apply zl | apply zh | apply ze); try simp only [zU, reduceIte, Nat.reduceEqDiff, Nat.reduceAdd, reduceCtorEq, Q46])); (first | revert X | refine dX ?_); exact q)) : A := f b
theorem t47 {A B : Prop} (b : B) (f : B → A := by (intro q; (try intro X hX); (repeat ((try subst X); (first | (first | apply zL | apply zH | apply zE); intro X hX | apply zl | apply zh | apply ze); try simp only [zU, reduceIte, Nat.reduceEqDiff, Nat.reduceAdd, reduceCtorEq, Q47])); (first | revert X | refine dX ?_); exact q)) : A := f b
theorem t48 {A B : Prop} (b : B) (f : B → A := by (intro q; (try intro X hX); (repeat ((try subst X); (first | (first | apply zL | apply zH | apply zE); intro X hX | apply zl | apply zh | apply ze); try simp only [zU, reduceIte, Nat.reduceEqDiff, Nat.reduceAdd, reduceCtorEq, Q48])); (first | revert X | refine dX ?_); exact q)) : A := f b
theorem t49 {A B : Prop} (b : B) (f : B → A := by (intro q; (try intro X hX); (repeat ((try subst X); (first | (first | apply zL | apply zH | apply zE); intro X hX | apply zl | apply zh | apply ze); try simp only [zU, reduceIte, Nat.reduceEqDiff, Nat.reduceAdd, reduceCtorEq, Q49])); (first | revert X | refine dX ?_); exact q)) : A := f b
theorem t50 {A B : Prop} (b : B) (f : B → A := by (intro q; (try intro X hX); (repeat ((try subst X); (first | (first | apply zL | apply zH | apply zE); intro X hX | apply zl | apply zh | apply ze); try simp only [zU, reduceIte, Nat.reduceEqDiff, Nat.reduceAdd, reduceCtorEq, Q50])); (first | revert X | refine dX ?_); exact q)) : A := f b
theorem t51 {A B : Prop} (b : B) (f : B → A := by (intro q; (try intro X hX); (repeat ((try subst X); (first | (first | apply zL | apply zH | apply zE); intro X hX | apply zl | apply zh | apply ze); try simp only [zU, reduceIte, Nat.reduceEqDiff, Nat.reduceAdd, reduceCtorEq, Q51])); (first | revert X | refine dX ?_); exact q)) : A := f b
theorem t52 {A B : Prop} (b : B) (f : B → A := by (intro q; (try intro X hX); (repeat ((try subst X); (first | (first | apply zL | apply zH | apply zE); intro X hX | apply zl | apply zh | apply ze); try simp only [zU, reduceIte, Nat.reduceEqDiff, Nat.reduceAdd, reduceCtorEq, Q52])); (first | revert X | refine dX ?_); exact q)) : A := f b
theorem t53 {A B : Prop} (b : B) (f : B → A := by (intro q; (try intro X hX); (repeat ((try subst X); (first | (first | apply zL | apply zH | apply zE); intro X hX | apply zl | apply zh | apply ze); try simp only [zU, reduceIte, Nat.reduceEqDiff, Nat.reduceAdd, reduceCtorEq, Q53])); (first | revert X | refine dX ?_); exact q)) : A := f b
theorem t54 {A B : Prop} (b : B) (f : B → A := by (intro q; (try intro X hX); (repeat ((try subst X); (first | (first | apply zL | apply zH | apply zE); intro X hX | apply zl | apply zh | apply ze); try simp only [zU, reduceIte, Nat.reduceEqDiff, Nat.reduceAdd, reduceCtorEq, Q54])); (first | revert X | refine dX ?_); exact q)) : A := f b
theorem t55 {A B : Prop} (b : B) (f : B → A := by (intro q; (try intro X hX); (repeat ((try subst X); (first | (first | apply zL | apply zH | apply zE); intro X hX | apply zl | apply zh | apply ze); try simp only [zU, reduceIte, Nat.reduceEqDiff, Nat.reduceAdd, reduceCtorEq, Q55])); (first | revert X | refine dX ?_); exact q)) : A := f b
theorem t56 {A B : Prop} (b : B) (f : B → A := by (intro q; (try intro X hX); (repeat ((try subst X); (first | (first | apply zL | apply zH | apply zE); intro X hX | apply zl | apply zh | apply ze); try simp only [zU, reduceIte, Nat.reduceEqDiff, Nat.reduceAdd, reduceCtorEq, Q56])); (first | revert X | refine dX ?_); exact q)) : A := f b
theorem t57 {A B : Prop} (b : B) (f : B → A := by (intro q; (try intro X hX); (repeat ((try subst X); (first | (first | apply zL | apply zH | apply zE); intro X hX | apply zl | apply zh | apply ze); try simp only [zU, reduceIte, Nat.reduceEqDiff, Nat.reduceAdd, reduceCtorEq, Q57])); (first | revert X | refine dX ?_); exact q)) : A := f b
theorem t58 {A B : Prop} (b : B) (f : B → A := by (intro q; (try intro X hX); (repeat ((try subst X); (first | (first | apply zL | apply zH | apply zE); intro X hX | apply zl | apply zh | apply ze); try simp only [zU, reduceIte, Nat.reduceEqDiff, Nat.reduceAdd, reduceCtorEq, Q58])); (first | revert X | refine dX ?_); exact q)) : A := f b
theorem t59 {A B : Prop} (b : B) (f : B → A := by (intro q; (try intro X hX); (repeat ((try subst X); (first | (first | apply zL | apply zH | apply zE); intro X hX | apply zl | apply zh | apply ze); try simp only [zU, reduceIte, Nat.reduceEqDiff, Nat.reduceAdd, reduceCtorEq, Q59])); (first | revert X | refine dX ?_); exact q)) : A := f b
theorem t60 {A B : Prop} (b : B) (f : B → A := by (intro q; (try intro X hX); (repeat ((try subst X); (first | (first | apply zL | apply zH | apply zE); intro X hX | apply zl | apply zh | apply ze); try simp only [zU, reduceIte, Nat.reduceEqDiff, Nat.reduceAdd, reduceCtorEq, Q60])); (first | revert X | refine dX ?_); exact q)) : A := f b
theorem t61 {A B : Prop} (b : B) (f : B → A := by (intro q; (try intro X hX); (repeat ((try subst X); (first | (first | apply zL | apply zH | apply zE); intro X hX | apply zl | apply zh | apply ze); try simp only [zU, reduceIte, Nat.reduceEqDiff, Nat.reduceAdd, reduceCtorEq, Q61])); (first | revert X | refine dX ?_); exact q)) : A := f b
theorem t62 {A B : Prop} (b : B) (f : B → A := by (intro q; (try intro X hX); (repeat ((try subst X); (first | (first | apply zL | apply zH | apply zE); intro X hX | apply zl | apply zh | apply ze); try simp only [zU, reduceIte, Nat.reduceEqDiff, Nat.reduceAdd, reduceCtorEq, Q62])); (first | revert X | refine dX ?_); exact q)) : A := f b
theorem t63 {A B : Prop} (b : B) (f : B → A := by (intro q; (try intro X hX); (repeat ((try subst X); (first | (first | apply zL | apply zH | apply zE); intro X hX | apply zl | apply zh | apply ze); try simp only [zU, reduceIte, Nat.reduceEqDiff, Nat.reduceAdd, reduceCtorEq, Q63])); (first | revert X | refine dX ?_); exact q)) : A := f b
theorem t64 {A B : Prop} (b : B) (f : B → A := by (intro q; (try intro X hX); (repeat ((try subst X); (first | (first | apply zL | apply zH | apply zE); intro X hX | apply zl | apply zh | apply ze); try simp only [zU, reduceIte, Nat.reduceEqDiff, Nat.reduceAdd, reduceCtorEq, Q64])); (first | revert X | refine dX ?_); exact q)) : A := f b
theorem t65 {A B : Prop} (b : B) (f : B → A := by (intro q; (try intro X hX); (repeat ((try subst X); (first | (first | apply zL | apply zH | apply zE); intro X hX | apply zl | apply zh | apply ze); try simp only [zU, reduceIte, Nat.reduceEqDiff, Nat.reduceAdd, reduceCtorEq, Q65])); (first | revert X | refine dX ?_); exact q)) : A := f b
theorem t66 {A B : Prop} (b : B) (f : B → A := by (intro q; (try intro X hX); (repeat ((try subst X); (first | (first | apply zL | apply zH | apply zE); intro X hX | apply zl | apply zh | apply ze); try simp only [zU, reduceIte, Nat.reduceEqDiff, Nat.reduceAdd, reduceCtorEq, Q66])); (first | revert X | refine dX ?_); exact q)) : A := f b
theorem t67 {A B : Prop} (b : B) (f : B → A := by (intro q; (try intro X hX); (repeat ((try subst X); (first | (first | apply zL | apply zH | apply zE); intro X hX | apply zl | apply zh | apply ze); try simp only [zU, reduceIte, Nat.reduceEqDiff, Nat.reduceAdd, reduceCtorEq, Q67])); (first | revert X | refine dX ?_); exact q)) : A := f b
theorem t68 {A B : Prop} (b : B) (f : B → A := by (intro q; (try intro X hX); (repeat ((try subst X); (first | (first | apply zL | apply zH | apply zE); intro X hX | apply zl | apply zh | apply ze); try simp only [zU, reduceIte, Nat.reduceEqDiff, Nat.reduceAdd, reduceCtorEq, Q68])); (first | revert X | refine dX ?_); exact q)) : A := f b
theorem t69 {A B : Prop} (b : B) (f : B → A := by (intro q; (try intro X hX); (repeat ((try subst X); (first | (first | apply zL | apply zH | apply zE); intro X hX | apply zl | apply zh | apply ze); try simp only [zU, reduceIte, Nat.reduceEqDiff, Nat.reduceAdd, reduceCtorEq, Q69])); (first | revert X | refine dX ?_); exact q)) : A := f b
theorem t70 {A B : Prop} (b : B) (f : B → A := by (intro q; (try intro X hX); (repeat ((try subst X); (first | (first | apply zL | apply zH | apply zE); intro X hX | apply zl | apply zh | apply ze); try simp only [zU, reduceIte, Nat.reduceEqDiff, Nat.reduceAdd, reduceCtorEq, Q70])); (first | revert X | refine dX ?_); exact q)) : A := f b
theorem t71 {A B : Prop} (b : B) (f : B → A := by (intro q; (try intro X hX); (repeat ((try subst X); (first | (first | apply zL | apply zH | apply zE); intro X hX | apply zl | apply zh | apply ze); try simp only [zU, reduceIte, Nat.reduceEqDiff, Nat.reduceAdd, reduceCtorEq, Q71])); (first | revert X | refine dX ?_); exact q)) : A := f b
theorem t72 {A B : Prop} (b : B) (f : B → A := by (intro q; (try intro X hX); (repeat ((try subst X); (first | (first | apply zL | apply zH | apply zE); intro X hX | apply zl | apply zh | apply ze); try simp only [zU, reduceIte, Nat.reduceEqDiff, Nat.reduceAdd, reduceCtorEq, Q72])); (first | revert X | refine dX ?_); exact q)) : A := f b
theorem t73 {A B : Prop} (b : B) (f : B → A := by (intro q; (try intro X hX); (repeat ((try subst X); (first | (first | apply zL | apply zH | apply zE); intro X hX | apply zl | apply zh | apply ze); try simp only [zU, reduceIte, Nat.reduceEqDiff, Nat.reduceAdd, reduceCtorEq, Q73])); (first | revert X | refine dX ?_); exact q)) : A := f b
theorem t74 {A B : Prop} (b : B) (f : B → A := by (intro q; (try intro X hX); (repeat ((try subst X); (first | (first | apply zL | apply zH | apply zE); intro X hX | apply zl | apply zh | apply ze); try simp only [zU, reduceIte, Nat.reduceEqDiff, Nat.reduceAdd, reduceCtorEq, Q74])); (first | revert X | refine dX ?_); exact q)) : A := f b
theorem t75 {A B : Prop} (b : B) (f : B → A := by (intro q; (try intro X hX); (repeat ((try subst X); (first | (first | apply zL | apply zH | apply zE); intro X hX | apply zl | apply zh | apply ze); try simp only [zU, reduceIte, Nat.reduceEqDiff, Nat.reduceAdd, reduceCtorEq, Q75])); (first | revert X | refine dX ?_); exact q)) : A := f b
theorem t76 {A B : Prop} (b : B) (f : B → A := by (intro q; (try intro X hX); (repeat ((try subst X); (first | (first | apply zL | apply zH | apply zE); intro X hX | apply zl | apply zh | apply ze); try simp only [zU, reduceIte, Nat.reduceEqDiff, Nat.reduceAdd, reduceCtorEq, Q76])); (first | revert X | refine dX ?_); exact q)) : A := f b
theorem t77 {A B : Prop} (b : B) (f : B → A := by (intro q; (try intro X hX); (repeat ((try subst X); (first | (first | apply zL | apply zH | apply zE); intro X hX | apply zl | apply zh | apply ze); try simp only [zU, reduceIte, Nat.reduceEqDiff, Nat.reduceAdd, reduceCtorEq, Q77])); (first | revert X | refine dX ?_); exact q)) : A := f b
theorem t78 {A B : Prop} (b : B) (f : B → A := by (intro q; (try intro X hX); (repeat ((try subst X); (first | (first | apply zL | apply zH | apply zE); intro X hX | apply zl | apply zh | apply ze); try simp only [zU, reduceIte, Nat.reduceEqDiff, Nat.reduceAdd, reduceCtorEq, Q78])); (first | revert X | refine dX ?_); exact q)) : A := f b
theorem t79 {A B : Prop} (b : B) (f : B → A := by (intro q; (try intro X hX); (repeat ((try subst X); (first | (first | apply zL | apply zH | apply zE); intro X hX | apply zl | apply zh | apply ze); try simp only [zU, reduceIte, Nat.reduceEqDiff, Nat.reduceAdd, reduceCtorEq, Q79])); (first | revert X | refine dX ?_); exact q)) : A := f b
theorem t80 {A B : Prop} (b : B) (f : B → A := by (intro q; (try intro X hX); (repeat ((try subst X); (first | (first | apply zL | apply zH | apply zE); intro X hX | apply zl | apply zh | apply ze); try simp only [zU, reduceIte, Nat.reduceEqDiff, Nat.reduceAdd, reduceCtorEq, Q80])); (first | revert X | refine dX ?_); exact q)) : A := f b
theorem t81 {A B : Prop} (b : B) (f : B → A := by (intro q; (try intro X hX); (repeat ((try subst X); (first | (first | apply zL | apply zH | apply zE); intro X hX | apply zl | apply zh | apply ze); try simp only [zU, reduceIte, Nat.reduceEqDiff, Nat.reduceAdd, reduceCtorEq, Q81])); (first | revert X | refine dX ?_); exact q)) : A := f b
theorem t82 {A B : Prop} (b : B) (f : B → A := by (intro q; (try intro X hX); (repeat ((try subst X); (first | (first | apply zL | apply zH | apply zE); intro X hX | apply zl | apply zh | apply ze); try simp only [zU, reduceIte, Nat.reduceEqDiff, Nat.reduceAdd, reduceCtorEq, Q82])); (first | revert X | refine dX ?_); exact q)) : A := f b
theorem t83 {A B : Prop} (b : B) (f : B → A := by (intro q; (try intro X hX); (repeat ((try subst X); (first | (first | apply zL | apply zH | apply zE); intro X hX | apply zl | apply zh | apply ze); try simp only [zU, reduceIte, Nat.reduceEqDiff, Nat.reduceAdd, reduceCtorEq, Q83])); (first | revert X | refine dX ?_); exact q)) : A := f b
theorem t84 {A B : Prop} (b : B) (f : B → A := by (intro q; (try intro X hX); (repeat ((try subst X); (first | (first | apply zL | apply zH | apply zE); intro X hX | apply zl | apply zh | apply ze); try simp only [zU, reduceIte, Nat.reduceEqDiff, Nat.reduceAdd, reduceCtorEq, Q84])); (first | revert X | refine dX ?_); exact q)) : A := f b
theorem t85 {A B : Prop} (b : B) (f : B → A := by (intro q; (try intro X hX); (repeat ((try subst X); (first | (first | apply zL | apply zH | apply zE); intro X hX | apply zl | apply zh | apply ze); try simp only [zU, reduceIte, Nat.reduceEqDiff, Nat.reduceAdd, reduceCtorEq, Q85])); (first | revert X | refine dX ?_); exact q)) : A := f b
theorem t86 {A B : Prop} (b : B) (f : B → A := by (intro q; (try intro X hX); (repeat ((try subst X); (first | (first | apply zL | apply zH | apply zE); intro X hX | apply zl | apply zh | apply ze); try simp only [zU, reduceIte, Nat.reduceEqDiff, Nat.reduceAdd, reduceCtorEq, Q86])); (first | revert X | refine dX ?_); exact q)) : A := f b
theorem t87 {A B : Prop} (b : B) (f : B → A := by (intro q; (try intro X hX); (repeat ((try subst X); (first | (first | apply zL | apply zH | apply zE); intro X hX | apply zl | apply zh | apply ze); try simp only [zU, reduceIte, Nat.reduceEqDiff, Nat.reduceAdd, reduceCtorEq, Q87])); (first | revert X | refine dX ?_); exact q)) : A := f b
theorem t88 {A B : Prop} (b : B) (f : B → A := by (intro q; (try intro X hX); (repeat ((try subst X); (first | (first | apply zL | apply zH | apply zE); intro X hX | apply zl | apply zh | apply ze); try simp only [zU, reduceIte, Nat.reduceEqDiff, Nat.reduceAdd, reduceCtorEq, Q88])); (first | revert X | refine dX ?_); exact q)) : A := f b
theorem t89 {A B : Prop} (b : B) (f : B → A := by (intro q; (try intro X hX); (repeat ((try subst X); (first | (first | apply zL | apply zH | apply zE); intro X hX | apply zl | apply zh | apply ze); try simp only [zU, reduceIte, Nat.reduceEqDiff, Nat.reduceAdd, reduceCtorEq, Q89])); (first | revert X | refine dX ?_); exact q)) : A := f b
theorem t90 {A B : Prop} (b : B) (f : B → A := by (intro q; (try intro X hX); (repeat ((try subst X); (first | (first | apply zL | apply zH | apply zE); intro X hX | apply zl | apply zh | apply ze); try simp only [zU, reduceIte, Nat.reduceEqDiff, Nat.reduceAdd, reduceCtorEq, Q90])); (first | revert X | refine dX ?_); exact q)) : A := f b
theorem t91 {A B : Prop} (b : B) (f : B → A := by (intro q; (try intro X hX); (repeat ((try subst X); (first | (first | apply zL | apply zH | apply zE); intro X hX | apply zl | apply zh | apply ze); try simp only [zU, reduceIte, Nat.reduceEqDiff, Nat.reduceAdd, reduceCtorEq, Q91])); (first | revert X | refine dX ?_); exact q)) : A := f b
theorem t92 {A B : Prop} (b : B) (f : B → A := by (intro q; (try intro X hX); (repeat ((try subst X); (first | (first | apply zL | apply zH | apply zE); intro X hX | apply zl | apply zh | apply ze); try simp only [zU, reduceIte, Nat.reduceEqDiff, Nat.reduceAdd, reduceCtorEq, Q92])); (first | revert X | refine dX ?_); exact q)) : A := f b
theorem t93 {A B : Prop} (b : B) (f : B → A := by (intro q; (try intro X hX); (repeat ((try subst X); (first | (first | apply zL | apply zH | apply zE); intro X hX | apply zl | apply zh | apply ze); try simp only [zU, reduceIte, Nat.reduceEqDiff, Nat.reduceAdd, reduceCtorEq, Q93])); (first | revert X | refine dX ?_); exact q)) : A := f b
theorem t94 {A B : Prop} (b : B) (f : B → A := by (intro q; (try intro X hX); (repeat ((try subst X); (first | (first | apply zL | apply zH | apply zE); intro X hX | apply zl | apply zh | apply ze); try simp only [zU, reduceIte, Nat.reduceEqDiff, Nat.reduceAdd, reduceCtorEq, Q94])); (first | revert X | refine dX ?_); exact q)) : A := f b
theorem t95 {A B : Prop} (b : B) (f : B → A := by (intro q; (try intro X hX); (repeat ((try subst X); (first | (first | apply zL | apply zH | apply zE); intro X hX | apply zl | apply zh | apply ze); try simp only [zU, reduceIte, Nat.reduceEqDiff, Nat.reduceAdd, reduceCtorEq, Q95])); (first | revert X | refine dX ?_); exact q)) : A := f b
theorem t96 {A B : Prop} (b : B) (f : B → A := by (intro q; (try intro X hX); (repeat ((try subst X); (first | (first | apply zL | apply zH | apply zE); intro X hX | apply zl | apply zh | apply ze); try simp only [zU, reduceIte, Nat.reduceEqDiff, Nat.reduceAdd, reduceCtorEq, Q96])); (first | revert X | refine dX ?_); exact q)) : A := f b
theorem t97 {A B : Prop} (b : B) (f : B → A := by (intro q; (try intro X hX); (repeat ((try subst X); (first | (first | apply zL | apply zH | apply zE); intro X hX | apply zl | apply zh | apply ze); try simp only [zU, reduceIte, Nat.reduceEqDiff, Nat.reduceAdd, reduceCtorEq, Q97])); (first | revert X | refine dX ?_); exact q)) : A := f b
theorem t98 {A B : Prop} (b : B) (f : B → A := by (intro q; (try intro X hX); (repeat ((try subst X); (first | (first | apply zL | apply zH | apply zE); intro X hX | apply zl | apply zh | apply ze); try simp only [zU, reduceIte, Nat.reduceEqDiff, Nat.reduceAdd, reduceCtorEq, Q98])); (first | revert X | refine dX ?_); exact q)) : A := f b
theorem t99 {A B : Prop} (b : B) (f : B → A := by (intro q; (try intro X hX); (repeat ((try subst X); (first | (first | apply zL | apply zH | apply zE); intro X hX | apply zl | apply zh | apply ze); try simp only [zU, reduceIte, Nat.reduceEqDiff, Nat.reduceAdd, reduceCtorEq, Q99])); (first | revert X | refine dX ?_); exact q)) : A := f b
theorem t100 {A B : Prop} (b : B) (f : B → A := by (intro q; (try intro X hX); (repeat ((try subst X); (first | (first | apply zL | apply zH | apply zE); intro X hX | apply zl | apply zh | apply ze); try simp only [zU, reduceIte, Nat.reduceEqDiff, Nat.reduceAdd, reduceCtorEq, Q100])); (first | revert X | refine dX ?_); exact q)) : A := f b
theorem t101 {A B : Prop} (b : B) (f : B → A := by (intro q; (try intro X hX); (repeat ((try subst X); (first | (first | apply zL | apply zH | apply zE); intro X hX | apply zl | apply zh | apply ze); try simp only [zU, reduceIte, Nat.reduceEqDiff, Nat.reduceAdd, reduceCtorEq, Q101])); (first | revert X | refine dX ?_); exact q)) : A := f b
theorem t102 {A B : Prop} (b : B) (f : B → A := by (intro q; (try intro X hX); (repeat ((try subst X); (first | (first | apply zL | apply zH | apply zE); intro X hX | apply zl | apply zh | apply ze); try simp only [zU, reduceIte, Nat.reduceEqDiff, Nat.reduceAdd, reduceCtorEq, Q102])); (first | revert X | refine dX ?_); exact q)) : A := f b
theorem t103 {A B : Prop} (b : B) (f : B → A := by (intro q; (try intro X hX); (repeat ((try subst X); (first | (first | apply zL | apply zH | apply zE); intro X hX | apply zl | apply zh | apply ze); try simp only [zU, reduceIte, Nat.reduceEqDiff, Nat.reduceAdd, reduceCtorEq, Q103])); (first | revert X | refine dX ?_); exact q)) : A := f b
theorem t104 {A B : Prop} (b : B) (f : B → A := by (intro q; (try intro X hX); (repeat ((try subst X); (first | (first | apply zL | apply zH | apply zE); intro X hX | apply zl | apply zh | apply ze); try simp only [zU, reduceIte, Nat.reduceEqDiff, Nat.reduceAdd, reduceCtorEq, Q104])); (first | revert X | refine dX ?_); exact q)) : A := f b
theorem t105 {A B : Prop} (b : B) (f : B → A := by (intro q; (try intro X hX); (repeat ((try subst X); (first | (first | apply zL | apply zH | apply zE); intro X hX | apply zl | apply zh | apply ze); try simp only [zU, reduceIte, Nat.reduceEqDiff, Nat.reduceAdd, reduceCtorEq, Q105])); (first | revert X | refine dX ?_); exact q)) : A := f b
theorem t106 {A B : Prop} (b : B) (f : B → A := by (intro q; (try intro X hX); (repeat ((try subst X); (first | (first | apply zL | apply zH | apply zE); intro X hX | apply zl | apply zh | apply ze); try simp only [zU, reduceIte, Nat.reduceEqDiff, Nat.reduceAdd, reduceCtorEq, Q106])); (first | revert X | refine dX ?_); exact q)) : A := f b
theorem t107 {A B : Prop} (b : B) (f : B → A := by (intro q; (try intro X hX); (repeat ((try subst X); (first | (first | apply zL | apply zH | apply zE); intro X hX | apply zl | apply zh | apply ze); try simp only [zU, reduceIte, Nat.reduceEqDiff, Nat.reduceAdd, reduceCtorEq, Q107])); (first | revert X | refine dX ?_); exact q)) : A := f b
theorem t108 {A B : Prop} (b : B) (f : B → A := by (intro q; (try intro X hX); (repeat ((try subst X); (first | (first | apply zL | apply zH | apply zE); intro X hX | apply zl | apply zh | apply ze); try simp only [zU, reduceIte, Nat.reduceEqDiff, Nat.reduceAdd, reduceCtorEq, Q108])); (first | revert X | refine dX ?_); exact q)) : A := f b
theorem t110 {A B : Prop} (b : B) (f : B → A := by (intro q; (try intro X hX); (repeat ((try subst X); (first | (first | apply zL | apply zH | apply zE); intro X hX | apply zl | apply zh | apply ze); try simp only [zU, reduceIte, Nat.reduceEqDiff, Nat.reduceAdd, reduceCtorEq, Q110])); (first | revert X | refine dX ?_); exact q)) : A := f b
theorem t111 {A B : Prop} (b : B) (f : B → A := by (intro q; (try intro X hX); (repeat ((try subst X); (first | (first | apply zL | apply zH | apply zE); intro X hX | apply zl | apply zh | apply ze); try simp only [zU, reduceIte, Nat.reduceEqDiff, Nat.reduceAdd, reduceCtorEq, Q111])); (first | revert X | refine dX ?_); exact q)) : A := f b
theorem t112 {A B : Prop} (b : B) (f : B → A := by (intro q; (try intro X hX); (repeat ((try subst X); (first | (first | apply zL | apply zH | apply zE); intro X hX | apply zl | apply zh | apply ze); try simp only [zU, reduceIte, Nat.reduceEqDiff, Nat.reduceAdd, reduceCtorEq, Q112])); (first | revert X | refine dX ?_); exact q)) : A := f b
end Go.Proofs.YtldeokfhipjbfaaGreatDoor
/- New: an empty heap with its rules. -/
set_option linter.unusedVariables false
set_option linter.unusedSimpArgs false
namespace Go.Proofs.YtldeokfhipjbfaaGreatDoor
open Go Go.Proofs.Vg Go.RowKit
theorem Fx.zi45 : zinfo Tryz.prog 45 = some (some .nilFunc, 1, 8) := by kernel_rfl
theorem Fx.zi68 : zinfo Tryz.prog 68 = some (some (.map none), 1, 8) := by kernel_rfl

-- -- function 26
set_option maxHeartbeats 2000000 in
set_option maxRecDepth 8000 in
theorem table_ok (w : World) (hb : Nat) : Rets Tryz.prog 26 [ptrOf hb] w (fun v w' => v = .map (some w.heap.size) ∧ MapI w' w.heap.size (ruleF hb) ∧ Ext w w' ∧ w'.heap.size = w.heap.size + 1) := by
  refine rets_of_ok Tryz.func26 rfl rfl ?_
  refine ok_seq (fun M hM => ok_region rfl ?_); (try revert X); refine t26 ?_; intro X hX
  refine hM _ _ _ ?_; clear hM M
  refine ok_seq (fun M hM => ok_region rfl ?_); (try revert X); refine t26 ?_; intro X hX
  refine hM _ _ _ ?_; clear hM M
  refine ok_seq (fun M hM => ok_region rfl ?_)
  (try revert X); refine t26 ?_; intro X hX
  refine Runs.makeMapI (fun w1 he1 hs1 hm1 => ?_)
  generalize hr : w.heap.size = rb at *
  (try revert X); refine t26 ?_; intro X hX
  refine Runs.mapPut Fx.un68 Fx.un3 hm1 0 _ rfl (fun w2 hc2 hs2 hm2 => ?_)
  (try revert X); refine t26 ?_; intro X hX
  refine Runs.mapPut Fx.un68 Fx.un3 hm2 1 _ rfl (fun w3 hc3 hs3 hm3 => ?_)
  (try revert X); refine t26 ?_; intro X hX
  refine Runs.mapPut Fx.un68 Fx.un3 hm3 2 _ rfl (fun w4 hc4 hs4 hm4 => ?_)
  (try revert X); refine t26 ?_; intro X hX
  refine Runs.mapPut Fx.un68 Fx.un3 hm4 8 _ rfl (fun w5 hc5 hs5 hm5 => ?_)
  (try revert X); refine t26 ?_; intro X hX
  refine Runs.mapPut Fx.un68 Fx.un3 hm5 9 _ rfl (fun w6 hc6 hs6 hm6 => ?_)
  (try revert X); refine t26 ?_; intro X hX
  refine Runs.mapPut Fx.un68 Fx.un3 hm6 3 _ rfl (fun w7 hc7 hs7 hm7 => ?_)
  (try revert X); refine t26 ?_; intro X hX
  refine Runs.mapPut Fx.un68 Fx.un3 hm7 4 _ rfl (fun w8 hc8 hs8 hm8 => ?_)
  (try revert X); refine t26 ?_; intro X hX
  refine Runs.mapPut Fx.un68 Fx.un3 hm8 5 _ rfl (fun w9 hc9 hs9 hm9 => ?_)
  (try revert X); refine t26 ?_; intro X hX
  refine Runs.mapPut Fx.un68 Fx.un3 hm9 6 _ rfl (fun w10 hc10 hs10 hm10 => ?_)
  (try revert X); refine t26 ?_; intro X hX
  refine Runs.mapPut Fx.un68 Fx.un3 hm10 7 _ rfl (fun w11 hc11 hs11 hm11 => ?_)
  (try revert X); refine t26 ?_; intro X hX
  refine hM _ _ _ ?_; clear hM M
  refine ok_ret ?_
  try simp only [zW, zU, reduceIte, Nat.reduceEqDiff, Nat.reduceAdd, reduceCtorEq, Q26]
  have hc := hc2.trans (hc3.trans (hc4.trans (hc5.trans (hc6.trans (hc7.trans (hc8.trans (hc9.trans (hc10.trans hc11))))))))
  refine ⟨?_, he1.chg_trans hc (fun i hi => by omega), by omega⟩
  refine cast (congrArg (MapI w11 rb) ?_) hm11
  funext k
  unfold ruleF
  by_cases h7 : k = 7
  · subst h7; rfl
  by_cases h6 : k = 6
  · subst h6; rfl
  by_cases h5 : k = 5
  · subst h5; rfl
  by_cases h4 : k = 4
  · subst h4; rfl
  by_cases h3 : k = 3
  · subst h3; rfl
  by_cases h9 : k = 9
  · subst h9; rfl
  by_cases h8 : k = 8
  · subst h8; rfl
  by_cases h2 : k = 2
  · subst h2; rfl
  by_cases h1 : k = 1
  · subst h1; rfl
  by_cases h0 : k = 0
  · subst h0; rfl
  simp [h0, h1, h2, h3, h4, h5, h6, h7, h8, h9]

-- -- function 7
set_option maxHeartbeats 2000000 in
set_option maxRecDepth 8000 in
theorem new_ok (w : World) : Rets Tryz.prog 7 [] w (fun v w' => ∃ hb rb, v = ptrOf hb ∧ HeapW w' hb rb [] (fun k => k = hb) ∧ Ext w w' ∧ w.heap.size ≤ hb ∧ w.heap.size ≤ rb) := by
  refine rets_of_ok Tryz.func7 rfl rfl ?_
  refine ok_seq (fun M hM => ok_region rfl ?_); (try revert X); refine t7 ?_; intro X hX
  refine hM _ _ _ ?_; clear hM M
  refine ok_seq (fun M hM => ok_region rfl ?_)
  (try revert X); refine t7 ?_; intro X hX
  refine ⟨_, w, run_build (P := Tryz.prog) w 70 _ #[.slice none 0 0, .map none] (by kernel_rfl), ?_⟩
  (try revert X); refine t7 ?_; intro X hX
  refine Runs.box (fun w1 he1 hs1 hb1 => ?_)
  generalize hr : w.heap.size = hb at *
  simp only [Value.cells] at hb1
  (try revert X); refine t7 ?_; intro X hX
  refine hM _ _ _ ?_; clear hM M
  refine ok_seq (fun M hM => ok_region rfl ?_)
  (try revert X); refine t7 ?_; intro X hX
  refine Inv.call Fx.en26 (table_ok w1 hb) ?_
  rintro v w2 ⟨rfl, hm2, he2, hs2⟩
  (try revert X); refine t7 ?_; intro X hX
  refine Runs.store (hb1.ext he2) Fx.zi68 rfl (by intro u hu; simp [Value.cells] at hu; subst hu; rfl) (by decide) (fun w3 hc3 hs3 hb3 => ?_)
  (try revert X); refine t7 ?_; intro X hX
  refine hM _ _ _ ?_; clear hM M
  refine ok_seq (fun M hM => ok_region rfl ?_); (try revert X); refine t7 ?_; intro X hX
  refine hM _ _ _ ?_; clear hM M
  refine ok_ret ?_
  try simp only [zW, zU, reduceIte, Nat.reduceEqDiff, Nat.reduceAdd, reduceCtorEq, Q7]
  refine ⟨hb, w1.heap.size, rfl, ⟨.slice none 0 0, [], [], ⟨by simpa [splice, Value.cells] using hb3, hm2.chg hc3 (by omega), World.ownsRow_nil _ _ _ _, rfl, rfl, List.nodup_nil, List.nodup_nil, ⟨by simp, fun k hk => by simp [Value.ownBlock] at hk⟩, fun i p g o hp => by simp at hp⟩, ?_, by omega⟩, ?_, by omega, by omega⟩
  · rintro k (rfl | hk | hk | hk)
    · exact ⟨rfl, by omega⟩
    · simp [Value.ownBlock] at hk
    · simp at hk
    · simp at hk
  · exact (he1.trans he2).chg_trans hc3 (fun i hi => by omega)
end Go.Proofs.YtldeokfhipjbfaaGreatDoor
