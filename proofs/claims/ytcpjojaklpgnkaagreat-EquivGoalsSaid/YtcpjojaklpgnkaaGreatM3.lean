/- Part 3 of 12: Vg30, Vg31, Vg34, Vg22, Vg36, Vg37, Vg38, N0, Vg39, Vg27, Vg40, Vg23, Vg20. -/
import Derived.Test.YtcpjojaklpgnkaaGreatM2
import Derived.Maps.AppendAt
import Derived.Laws.Tables
import Derived.KernelRfl
import Derived.RangeFuncLeaves
import Derived.RangeFuncRecord
/- A region that draws its order, where calculations may overflow. -/
set_option linter.unusedVariables false
set_option linter.unusedSimpArgs false
namespace Go.Proofs.Vg
open Go Go.RowKit
def opHW (P : Program) (K : Env) (C : World → Prop) (next : Value → Prop) (type : TypeId) : Op → Prop
  | .binOp .add _ x y _ => (match ev K x, ev K y with
    | some (.int k a), some (.int k' b) => k = k' ∧ next (.int k (k.wrap (a + b)))
    | _, _ => False)
  | .binOp .sub _ x y _ => (match ev K x, ev K y with
    | some (.int k a), some (.int k' b) => k = k' ∧ next (.int k (k.wrap (a - b)))
    | _, _ => False)
  | op => opH P K C next type op
section
variable {P : Program} {ρ : Option Nat} {N : Nat} {K : Env} {ds : List Deferred} {w : World} {ops : List Oper} {n : Nat} {C : World → Prop}
theorem runSub {k : IntKind} {t : TypeId} {x y : Operand} {a b : Int} (w : World) : (do eqGuard .sub t x y (.int k a) (.int k b); binOp .sub t (.int k a) (.int k b) : Sem Value).run P w = .ok (.int k (k.wrap (a - b))) w := by simp [eqGuard, binOp, Op.intArith]
theorem runAdd {k : IntKind} {t : TypeId} {x y : Operand} {a b : Int} (w : World) : (do eqGuard .add t x y (.int k a) (.int k b); binOp .add t (.int k a) (.int k b) : Sem Value).run P w = .ok (.int k (k.wrap (a + b))) w := by simp [eqGuard, binOp, Op.intArith]
theorem yl_run {o : Oper} {op : BinOp} {t : TypeId} {x y : Operand} {z : TypeId} {p q v : Value} (hop : o.op = .binOp op t x y z) (hx : ev K x = some p) (hy : ev K y = some q)
    (hv : ∀ w', (do eqGuard op t x y p q; binOp op t p q : Sem Value).run P w' = .ok v w') {a : Act} (hk1 : Kn K N ds a) (hwt : Region.wanted o (yielded ops.toArray a.tmps) = true) : Yl P ρ ops C o v a := by
  refine .inl ⟨hwt, fun hk => by rw [hop] at hk; simp [kindOf] at hk, fun hk w' hw' => ?_⟩
  rw [Oper.semAt_eq _ _ _ (by simp [hop])]
  simp only [execOp, hop, ev_eval hk1 hx, ev_eval hk1 hy]
  rw [Sem.run_bind, hv]
  exact ⟨rfl, rfl⟩
theorem opHW_still {nx : Value → Prop} {o : Oper} (hN : 0 < N) (h : opHW P K C nx o.type o.op) : ∃ v, nx v ∧ ∀ {a : Act}, Kn K N ds a → Region.wanted o (yielded ops.toArray a.tmps) = true → Yl P ρ ops C o v a := by
  have old : opH P K C nx o.type o.op → ∃ v, nx v ∧ ∀ {a : Act}, Kn K N ds a → Region.wanted o (yielded ops.toArray a.tmps) = true → Yl P ρ ops C o v a := fun h => by
    obtain ⟨v, hv, hs⟩ := opH_still h
    exact ⟨v, hv, fun hk1 hwt => .inl ⟨hwt, fun hk w' hw' => upon1_of_opF hk1 hN (hs.1 hk w' hw'), fun hk w' hw' => upon1_of_opF (C := fun x => x = w') hk1 hN (hs.2 hk w' hw')⟩⟩
  cases hop : o.op
  case binOp op t x y z =>
    rw [hop] at h old
    cases op <;> simp only [opHW] at h
    case add =>
      split at h
      · rename_i k a k' b hx hy
        obtain ⟨rfl, hn⟩ := h
        exact ⟨_, hn, fun hk1 hwt => yl_run hop hx hy (fun w' => runAdd w') hk1 hwt⟩
      · exact h.elim
    case sub =>
      split at h
      · rename_i k a k' b hx hy
        obtain ⟨rfl, hn⟩ := h
        exact ⟨_, hn, fun hk1 hwt => yl_run hop hx hy (fun w' => runSub w') hk1 hwt⟩
      · exact h.elim
    all_goals exact old h
  all_goals
    rw [hop] at h old
    exact old h
/-- What the heads owe, in the order of the text; each leaves one value. -/
def wpHW (P : Program) (ops : List Oper) (C : World → Prop) (M : Env → Prop) : List Oper → Env → Prop
  | [], K => M K
  | o :: rest, K =>
    match o.guard with
    | none => opHW P K C (fun v => wpHW P ops C M rest (putE o.dst v K)) o.type o.op
    | some (j, want) => match gdst ops j with
      | some d => (match K.get d with
        | some (.bool b) => (b = want → opHW P (K.set d (.bool want)) C (fun v => wpHW P ops C M rest (putE o.dst v (K.set d (.bool want)))) o.type o.op) ∧
            (b = !want → wpHW P ops C M rest (putE o.dst undef (K.set d (.bool !want))))
        | some (.tuple _) => wpHW P ops C M rest (putE o.dst undef K)
        | _ => False)
      | none => False

theorem wpHW_steps (hN : 0 < N) {M : Env → Prop} : ∀ (rest : List Oper) (k : Nat) (K : Env) (a : Act), (∀ j, j < rest.length → rest[j]? = ops[k + j]?) → dstsOk N rest = true → Kn K N ds a → wpHW P ops C M rest K →
    ∃ (A : Nat → Act) (V : Nat → Value) (K' : Env), A k = a ∧ (∀ i o, k ≤ i → i < k + rest.length → ops[i]? = some o → A (i + 1) = (A i).put o.dst (V i) ∧ Yl P ρ ops C o (V i) (A i)) ∧
      Kn K' N ds (A (k + rest.length)) ∧ M K'
  | [], k, K, a, _, _, ha, h => ⟨fun _ => a, fun _ => undef, K, rfl, fun i o h1 h2 => by simp at h2; omega, ha, h⟩
  | o :: rest, k, K, a, hr, hd, ha, h => by
    simp only [dstsOk, List.all_cons, Bool.and_eq_true] at hd
    have hd0 : ∀ d, o.dst = some d → d < N := fun d he => by have := hd.1; rw [he] at this; simpa using this
    have ho : ops[k]? = some o := by simpa using (hr 0 (by simp)).symm
    -- one step, whatever it leaves
    have go : ∀ (v : Value) (K1 : Env), Kn K1 N ds a → Yl P ρ ops C o v a → wpHW P ops C M rest (putE o.dst v K1) →
        ∃ (A : Nat → Act) (V : Nat → Value) (K' : Env), A k = a ∧ (∀ i o', k ≤ i → i < k + (o :: rest).length → ops[i]? = some o' → A (i + 1) = (A i).put o'.dst (V i) ∧ Yl P ρ ops C o' (V i) (A i)) ∧
          Kn K' N ds (A (k + (o :: rest).length)) ∧ M K' := by
      intro v K1 hk1 hy hh
      obtain ⟨A, V, K', hA, hst, hk', hM⟩ := wpHW_steps hN rest (k + 1) _ (a.put o.dst v) (fun j hj => by have := hr (j + 1) (by simp; omega); simpa [Nat.add_assoc, Nat.add_comm 1 j] using this) hd.2 (hk1.put hd0) hh
      refine ⟨fun i => if i = k then a else A i, fun i => if i = k then v else V i, K', by simp, fun i o' h1 h2 ho' => ?_, ?_, hM⟩
      · by_cases hi : i = k
        · subst hi
          rw [ho] at ho'; cases ho'
          simp [hA, hy]
        · have h3 := hst i o' (by omega) (by simp at h2; omega) ho'
          simp only [if_neg hi, if_neg (show i + 1 ≠ k by omega)]
          exact h3
      · have : k + (o :: rest).length = k + 1 + rest.length := by simp; omega
        rw [this]
        simp only [if_neg (show k + 1 + rest.length ≠ k by omega)]
        exact hk'
    simp only [wpHW] at h
    cases hg : o.guard with
    | none =>
      rw [hg] at h
      obtain ⟨v, hv, hs⟩ := opHW_still (ρ := ρ) (ops := ops) hN h
      exact go v K ha (hs ha (by simp [Region.wanted, hg])) hv
    | some gd =>
      obtain ⟨j, want⟩ := gd
      rw [hg] at h
      simp only at h
      split at h
      · rename_i d hgd
        have hy : yielded ops.toArray a.tmps j = match a.tmps[d]? with | some (.bool b) => some b | _ => none := by
          unfold gdst at hgd
          split at hgd
          · rename_i oj hj
            simp only [yielded, List.getElem?_toArray, hj, Option.bind_some, hgd]
            split <;> simp_all
          · cases hgd
        split at h
        · rename_i b hb
          have hya : yielded ops.toArray a.tmps j = some b := by rw [hy, ha.at_ _ _ hb]
          by_cases hbw : b = want
          · subst hbw
            have hw : Region.wanted o (yielded ops.toArray a.tmps) = true := by simp [Region.wanted, hg, hya]
            have ha' := ha.set hb
            obtain ⟨v, hv, hs⟩ := opHW_still (ρ := ρ) (ops := ops) hN (h.1 rfl)
            exact go v _ ha' (hs ha' hw) hv
          · have hbn : b = !want := by cases b <;> cases want <;> simp_all
            have hw : Region.wanted o (yielded ops.toArray a.tmps) = false := by simp [Region.wanted, hg, hya, hbw]
            exact go undef _ (ha.set (hbn ▸ hb)) (.inr ⟨hw, rfl⟩) (h.2 hbn)
        · rename_i x hb
          have hya : yielded ops.toArray a.tmps j = none := by rw [hy, ha.at_ _ _ hb]
          have hw : Region.wanted o (yielded ops.toArray a.tmps) = false := by simp [Region.wanted, hg, hya]
          exact go undef _ ha (.inr ⟨hw, rfl⟩) h
        · exact h.elim
      · exact h.elim

theorem wpHW_step {H : Env → Prop} {o : Oper} {rest : List Oper} (h : ∀ X : Value → Env → Prop, X = (fun v K' => wpHW P ops C H rest (putE o.dst v K')) →
    match o.guard with
    | none => opHW P K C (fun v => X v K) o.type o.op
    | some (j, want) => match gdst ops j with
      | some d => (match K.get d with
        | some (.bool b) => (b = want → opHW P (K.set d (.bool want)) C (fun v => X v (K.set d (.bool want))) o.type o.op) ∧
            (b = !want → X undef (K.set d (.bool !want)))
        | some (.tuple _) => X undef K
        | _ => False)
      | none => False) : wpHW P ops C H (o :: rest) K := h _ rfl
theorem wpHW_end {H : Env → Prop} (h : H K) : wpHW P ops C H [] K := h
/-- A REGION THAT DRAWS ITS ORDER: n heads, in worlds of the class C; then the others. -/
theorem ok_drawW (n : Nat) (fl : List (Bool × Bool)) (C : World → Prop) {id : Nat} {Φ : Post} (hm : P.follows .mixedOrders = true) (hN : 0 < N) (hd : dstsOk N ops = true) (hB : drawOk ops n = true) (hfl : flags ops n = fl)
    (hC : C { w with drawn := w.drawn + 1 })
    (h : wpHW P ops C (fun K' => ∀ w', C w' → wpE P ops C (fun ch K w => Φ (.panic ch) K ds w) (fun K w => Φ .normal K ds w) fl (ops.drop n) K' w') (ops.take n) K) :
    ok P ρ N (.region id ops.toArray true) K ds w Φ := by
  intro a ha
  subst hfl
  have hn := (drawOk_parts hB).1
  have hlen : (ops.take n).length = n := by simp; omega
  have hdall : ∀ l, (∀ o ∈ l, o ∈ ops) → dstsOk N l = true := fun l hl => by
    simp only [dstsOk, List.all_eq_true] at hd ⊢
    exact fun o ho => hd o (hl o ho)
  obtain ⟨A, V, K', hA, hst, hk', hM⟩ := wpHW_steps (ρ := ρ) hN (ops.take n) 0 K a (fun j hj => by rw [hlen] at hj; simp [List.getElem?_take, hj]) (hdall _ fun o ho => List.mem_of_mem_take ho) ha h
  rw [hlen] at hst hk'
  simp only [Nat.zero_add] at hst hk'
  refine wpIn_region_any hm ?_
  have := any_of_heads (P := P) (ρ := ρ) (C := C) (Q := lift N Φ) hB (A := A) (V := V) (fun i o hi ho => (hst i o (Nat.zero_le _) hi ho).1) (fun i o hi ho => (hst i o (Nat.zero_le _) hi ho).2)
    (fun w' hw' => wpE_sound (fun _ _ _ h => h) (fun _ _ h => h) _ _ _ _ _ (hdall _ fun o ho => List.mem_of_mem_drop ho) hk' (hM w' hw')) hC
  rw [hA] at this
  simpa using this
end
end Go.Proofs.Vg
/- A region that draws its order, its operations taken in another order than that of the text. -/
set_option linter.unusedVariables false
set_option linter.unusedSimpArgs false
namespace Go.Proofs.Vg
open Go Go.RowKit
/-- The operations with these indices. -/
def pickL (ops : List Oper) : List Nat → List Oper
  | [] => []
  | i :: r => match ops[i]? with
    | some o => o :: pickL ops r
    | none => pickL ops r
def ren (π : Nat → Nat) (o : Oper) : Oper := { o with after := (o.after.toList.map fun e => { e with on := π e.on }).toArray, guard := o.guard.map fun g => (π g.1, g.2) }
def place (σ : List Nat) (i : Nat) : Nat := σ.idxOf i
def reord (ops : List Oper) (σ : List Nat) : List Oper := (pickL ops σ).map (ren (place σ))
def permOk (n : Nat) (σ : List Nat) : Bool := decide (σ.length = n) && (List.range n).all fun i => decide (σ[place σ i]? = some i) && decide (place σ i < n)
section
variable {P : Program} {ρ : Option Nat} {N : Nat} {K : Env} {ds : List Deferred} {w : World} {ops : List Oper} {n : Nat} {C : World → Prop} {σ : List Nat}
theorem pickL_get : ∀ (σ : List Nat), (∀ i ∈ σ, i < ops.length) → ∀ (j : Nat), (pickL ops σ)[j]? = (σ[j]?).bind fun (i : Nat) => ops[i]?
  | [], _, j => by simp [pickL]
  | i :: r, h, j => by
    have hi : ops[i]? = some (ops[i]'(h i List.mem_cons_self)) := List.getElem?_eq_getElem _
    simp only [pickL]
    rw [hi]
    simp only
    cases j with
    | zero => simp [hi]
    | succ j => simpa using pickL_get r (fun i hi => h i (List.mem_cons_of_mem _ hi)) j
theorem permOk_spec (h : permOk n σ = true) : σ.length = n ∧ ∀ i, i < n → σ[place σ i]? = some i ∧ place σ i < n := by
  simp only [permOk, Bool.and_eq_true, decide_eq_true_eq, List.all_eq_true, List.mem_range] at h
  exact h
theorem place_out (h : permOk n σ = true) (hm : ∀ i ∈ σ, i < n) {i : Nat} (hi : n ≤ i) : place σ i = n := by
  have : i ∉ σ := fun hc => by have := hm i hc; omega
  rw [place, List.idxOf_eq_length this, (permOk_spec h).1]
theorem place_inj (h : permOk n σ = true) {i j : Nat} (hi : i < n) (hj : j < n) (e : place σ i = place σ j) : i = j := by
  have h1 := ((permOk_spec h).2 i hi).1
  rw [e, ((permOk_spec h).2 j hj).1] at h1
  exact (Option.some.inj h1).symm
theorem reord_at (h : permOk ops.length σ = true) (hm : ∀ i ∈ σ, i < ops.length) {i : Nat} {o : Oper} (ho : ops[i]? = some o) : (reord ops σ)[place σ i]? = some (ren (place σ) o) := by
  have hi := (List.getElem?_eq_some_iff.1 ho).1
  rw [reord, List.getElem?_map, pickL_get σ hm, ((permOk_spec h).2 i hi).1]
  simp [ho]
theorem reord_len (h : permOk ops.length σ = true) (hm : ∀ i ∈ σ, i < ops.length) : (pickL ops σ).length = ops.length := by
  have : ∀ (σ : List Nat), (∀ i ∈ σ, i < ops.length) → (pickL ops σ).length = σ.length := by
    intro σ
    induction σ with
    | nil => intro _; rfl
    | cons i r ih =>
      intro hm
      simp only [pickL]
      rw [List.getElem?_eq_getElem (hm i List.mem_cons_self)]
      simp [ih (fun i hi => hm i (List.mem_cons_of_mem _ hi))]
  rw [this σ hm, (permOk_spec h).1]
theorem needs_ren (π : Nat → Nat) (o : Oper) : needs (ren π o) = (needs o).map π := by
  unfold needs ren
  simp only
  generalize o.after.toList = l
  induction l with
  | nil => rfl
  | cons e l ih =>
    simp only [List.map_cons, List.filterMap_cons]
    have hb : Region.binds .any { e with on := π e.on } = Region.binds .any e := rfl
    rw [hb]
    cases Region.binds .any e <;> simp [ih]
theorem yielded_ren (h : permOk ops.length σ = true) (hm : ∀ i ∈ σ, i < ops.length) (tmps : Array Value) (j : Nat) : yielded (reord ops σ).toArray tmps (place σ j) = yielded ops.toArray tmps j := by
  rcases Nat.lt_or_ge j ops.length with hj | hj
  · have ho : ops[j]? = some ops[j] := List.getElem?_eq_getElem hj
    have ho' := reord_at h hm ho
    simp only [yielded, List.getElem?_toArray, ho, ho', Option.bind_some]
    rfl
  · have hl : (reord ops σ).length = ops.length := by rw [reord, List.length_map, reord_len h hm]
    rw [place_out h hm hj]
    simp [yielded, List.getElem?_eq_none hj, List.getElem?_eq_none (Nat.le_of_eq hl)]
theorem wanted_ren (h : permOk ops.length σ = true) (hm : ∀ i ∈ σ, i < ops.length) (tmps : Array Value) (o : Oper) : Region.wanted (ren (place σ) o) (yielded (reord ops σ).toArray tmps) = Region.wanted o (yielded ops.toArray tmps) := by
  cases hg : o.guard with
  | none => simp [Region.wanted, ren, hg]
  | some g =>
    obtain ⟨j, b⟩ := g
    simp only [Region.wanted, ren, hg, Option.map_some, yielded_ren h hm]
theorem wpIn_ren {o : Oper} {a : Act} {π : Nat → Nat} {M : Act → World → Prop} {Q : Exit → Act → World → Prop} : (ren π o).wpIn (fence ρ) 0 P a w M Q = o.wpIn (fence ρ) 0 P a w M Q := rfl
theorem any_perm {Q : Exit → Act → World → Prop} (h : permOk ops.length σ = true) (hm : ∀ i ∈ σ, i < ops.length) : ∀ (fuel : Nat) (listed listed' : Array Bool) (a : Act) (w : World), listed.size = ops.length → listed'.size = ops.length → (∀ i, i < ops.length → listed'.getD (place σ i) false = listed.getD i false) →
    wpAnyIn (fence ρ) 0 P .any (reord ops σ).toArray Q fuel listed' a w → wpAnyIn (fence ρ) 0 P .any ops.toArray Q fuel listed a w := by
  have hl : (reord ops σ).length = ops.length := by rw [reord, List.length_map, reord_len h hm]
  have rdy : ∀ (listed listed' : Array Bool), listed.size = ops.length → listed'.size = ops.length → (∀ i, i < ops.length → listed'.getD (place σ i) false = listed.getD i false) → ∀ i, i ∈ Region.ready .any ops.toArray listed → place σ i ∈ Region.ready .any (reord ops σ).toArray listed' := by
    intro listed listed' hs hs' hr i hi
    obtain ⟨o, ho, h1, h2⟩ := (ready_iff hs).1 hi
    have hil := (List.getElem?_eq_some_iff.1 ho).1
    refine (ready_iff (by rw [hs', hl])).2 ⟨_, reord_at h hm ho, by rw [hr i hil]; exact h1, fun k hk => ?_⟩
    rw [needs_ren, List.mem_map] at hk
    obtain ⟨k0, hk0, rfl⟩ := hk
    have h3 := h2 k0 hk0
    have hk0l : k0 < ops.length := by
      rcases Nat.lt_or_ge k0 ops.length with h4 | h4
      · exact h4
      · simp [show ¬ k0 < listed.size by omega] at h3
    rw [hr k0 hk0l]; exact h3
  intro fuel
  induction fuel with
  | zero =>
    intro listed listed' a w hs hs' hr hh
    refine ⟨List.eq_nil_iff_forall_not_mem.2 fun i hi => ?_, hh.2⟩
    have := rdy listed listed' hs hs' hr i hi
    rw [hh.1] at this; cases this
  | succ fuel ih =>
    intro listed listed' a w hs hs' hr hh
    refine ⟨fun h0 => ?_, fun i hi => ?_⟩
    · refine hh.1 (List.eq_nil_iff_forall_not_mem.2 fun i' hi' => ?_)
      obtain ⟨o', ho', h1, h2⟩ := (ready_iff (by rw [hs', hl])).1 hi'
      have hil' : i' < ops.length := by rw [← hl]; exact (List.getElem?_eq_some_iff.1 ho').1
      have hsl : i' < σ.length := by rw [(permOk_spec h).1]; exact hil'
      have hσ : σ[i']? = some σ[i'] := List.getElem?_eq_getElem hsl
      have hi0 := hm _ (List.getElem_mem hsl)
      generalize σ[i'] = i at hσ hi0
      have ho : ops[i]? = some ops[i] := List.getElem?_eq_getElem hi0
      generalize ops[i] = o at ho
      have hoe : o' = ren (place σ) o := by
        rw [reord, List.getElem?_map, pickL_get σ hm, hσ] at ho'
        simp [ho] at ho'
        exact ho'.symm
      have hpi : place σ i = i' := by
        -- no index stands twice
        have key : ∀ (A : List Nat), A.Nodup → (∀ x ∈ A, x < ops.length) → A.length ≤ ops.length := fun A hA hx => by
          have := List.Nodup.length_le_of_subset hA (l₂ := List.range ops.length) (fun x hxx => List.mem_range.2 (hx x hxx))
          simpa using this
        by_cases hd : place σ i = i'
        · exact hd
        · exfalso
          -- the map 'place' has ops.length values, none of them i'
          have hnd : ((List.range ops.length).map (place σ)).Nodup := by
            rw [List.Nodup, List.pairwise_map]
            refine List.Pairwise.imp_of_mem (fun {x y} hx hy hxy e => hxy ?_) List.nodup_range
            exact place_inj h (List.mem_range.1 hx) (List.mem_range.1 hy) e
          have hni : i' ∉ (List.range ops.length).map (place σ) := fun hc => by
            obtain ⟨x, hx, hxe⟩ := List.mem_map.1 hc
            have h5 := ((permOk_spec h).2 x (List.mem_range.1 hx)).1
            rw [hxe, hσ] at h5
            cases h5
            exact hd hxe
          have := key (i' :: (List.range ops.length).map (place σ)) (List.nodup_cons.2 ⟨hni, hnd⟩) (fun x hx => by
            rcases List.mem_cons.1 hx with rfl | hx
            · exact hil'
            · obtain ⟨y, hy, rfl⟩ := List.mem_map.1 hx
              exact ((permOk_spec h).2 y (List.mem_range.1 hy)).2)
          simp at this
          omega
      have : i ∈ Region.ready .any ops.toArray listed := (ready_iff hs).2 ⟨o, ho, by rw [← hr i hi0, hpi]; exact h1, fun k hk => by
        have h3 := h2 (place σ k) (by rw [hoe, needs_ren]; exact List.mem_map.2 ⟨k, hk, rfl⟩)
        rcases Nat.lt_or_ge k ops.length with h4 | h4
        · rw [← hr k h4]; exact h3
        · rw [place_out h hm h4] at h3
          simp [show ¬ ops.length < listed'.size by omega] at h3⟩
      rw [h0] at this; cases this
    · have hi2 := rdy listed listed' hs hs' hr i hi
      obtain ⟨o, ho, h1, h2⟩ := (ready_iff hs).1 hi
      have hil := (List.getElem?_eq_some_iff.1 ho).1
      have hpl := ((permOk_spec h).2 i hil).2
      have h3 := hh.2 _ hi2
      have hR : ∀ k, k < ops.length → (listed'.setIfInBounds (place σ i) true).getD (place σ k) false = (listed.setIfInBounds i true).getD k false := fun k hk => by
        rw [getD_set (by omega), getD_set (by omega), hr k hk]
        congr 1
        by_cases hki : k = i
        · subst hki; simp
        · have : place σ k ≠ place σ i := fun e => hki (place_inj h hk hil e)
          simp [hki, this]
      have h4 := wpOpIn_mono (fun a' w' hh' => ih (listed.setIfInBounds i true) (listed'.setIfInBounds (place σ i) true) a' w' (by simp [hs]) (by simp [hs']) hR hh') h3
      unfold wpOpIn at h4 ⊢
      have ho1 : ops.toArray[i]? = some o := by simpa using ho
      have ho2 : (reord ops σ).toArray[place σ i]? = some (ren (place σ) o) := by simpa using reord_at h hm ho
      simp only [ho1, ho2, wanted_ren h hm] at h4 ⊢
      exact h4
theorem wpT_ren (h : permOk ops.length σ = true) (hm : ∀ i ∈ σ, i < ops.length) {Q : Exit → Act → World → Prop} : ∀ (l : List Oper) (fl : List (Bool × Bool)) (a : Act) (w : World), wpT P ρ ops.toArray C Q fl l a w → wpT P ρ (reord ops σ).toArray C Q fl (l.map (ren (place σ))) a w
  | [], _, _, _, hh => hh
  | o :: l, fl, a, w, hh => by
    simp only [List.map_cons]
    unfold wpT at hh ⊢
    rw [wanted_ren h hm]
    split
    · rename_i hw
      rw [if_pos hw] at hh
      rw [wpIn_ren]
      exact Oper.wpIn_mono (fun a' w' h' => ⟨h'.1, wpT_ren h hm l _ _ _ h'.2⟩) hh
    · rename_i hw
      rw [if_neg hw] at hh
      exact ⟨hh.1, wpT_ren h hm l _ _ _ hh.2⟩
theorem Yl.ren (h : permOk ops.length σ = true) (hm : ∀ i ∈ σ, i < ops.length) {o : Oper} {v : Value} {a : Act} (hy : Yl P ρ ops C o v a) : Yl P ρ (reord ops σ) C (ren (place σ) o) v a := by
  unfold Yl at hy ⊢
  rw [wanted_ren h hm]
  exact hy
theorem wpHL_steps (hN : 0 < N) {M : Env → Prop} (L : List Oper) : ∀ (rest : List Oper) (k : Nat) (K : Env) (a : Act), (∀ j, j < rest.length → rest[j]? = L[k + j]?) → dstsOk N rest = true → Kn K N ds a → wpH P ops C M rest K →
    ∃ (A : Nat → Act) (V : Nat → Value) (K' : Env), A k = a ∧ (∀ i o, k ≤ i → i < k + rest.length → L[i]? = some o → A (i + 1) = (A i).put o.dst (V i) ∧ Yl P ρ ops C o (V i) (A i)) ∧
      Kn K' N ds (A (k + rest.length)) ∧ M K'
  | [], k, K, a, _, _, ha, h => ⟨fun _ => a, fun _ => undef, K, rfl, fun i o h1 h2 => by simp at h2; omega, ha, h⟩
  | o :: rest, k, K, a, hr, hd, ha, h => by
    simp only [dstsOk, List.all_cons, Bool.and_eq_true] at hd
    have hd0 : ∀ d, o.dst = some d → d < N := fun d he => by have := hd.1; rw [he] at this; simpa using this
    have ho : L[k]? = some o := by simpa using (hr 0 (by simp)).symm
    -- one step, whatever it leaves
    have go : ∀ (v : Value) (K1 : Env), Kn K1 N ds a → Yl P ρ ops C o v a → wpH P ops C M rest (putE o.dst v K1) →
        ∃ (A : Nat → Act) (V : Nat → Value) (K' : Env), A k = a ∧ (∀ i o', k ≤ i → i < k + (o :: rest).length → L[i]? = some o' → A (i + 1) = (A i).put o'.dst (V i) ∧ Yl P ρ ops C o' (V i) (A i)) ∧
          Kn K' N ds (A (k + (o :: rest).length)) ∧ M K' := by
      intro v K1 hk1 hy hh
      obtain ⟨A, V, K', hA, hst, hk', hM⟩ := wpHL_steps hN L rest (k + 1) _ (a.put o.dst v) (fun j hj => by have := hr (j + 1) (by simp; omega); simpa [Nat.add_assoc, Nat.add_comm 1 j] using this) hd.2 (hk1.put hd0) hh
      refine ⟨fun i => if i = k then a else A i, fun i => if i = k then v else V i, K', by simp, fun i o' h1 h2 ho' => ?_, ?_, hM⟩
      · by_cases hi : i = k
        · subst hi
          rw [ho] at ho'; cases ho'
          simp [hA, hy]
        · have h3 := hst i o' (by omega) (by simp at h2; omega) ho'
          simp only [if_neg hi, if_neg (show i + 1 ≠ k by omega)]
          exact h3
      · have : k + (o :: rest).length = k + 1 + rest.length := by simp; omega
        rw [this]
        simp only [if_neg (show k + 1 + rest.length ≠ k by omega)]
        exact hk'
    have still : ∀ {K1 : Env} {v : Value}, Kn K1 N ds a → Region.wanted o (yielded ops.toArray a.tmps) = true → StillF P K1 C o.type o.op v → Yl P ρ ops C o v a := fun hk1 hwt hs =>
      .inl ⟨hwt, fun hk w' hw' => upon1_of_opF hk1 hN (hs.1 hk w' hw'), fun hk w' hw' => upon1_of_opF (C := fun x => x = w') hk1 hN (hs.2 hk w' hw')⟩
    simp only [wpH] at h
    cases hg : o.guard with
    | none =>
      rw [hg] at h
      obtain ⟨v, hv, hs⟩ := opH_still h
      exact go v K ha (still ha (by simp [Region.wanted, hg]) hs) hv
    | some gd =>
      obtain ⟨j, want⟩ := gd
      rw [hg] at h
      simp only at h
      split at h
      · rename_i d hgd
        have hy : yielded ops.toArray a.tmps j = match a.tmps[d]? with | some (.bool b) => some b | _ => none := by
          unfold gdst at hgd
          split at hgd
          · rename_i oj hj
            simp only [yielded, List.getElem?_toArray, hj, Option.bind_some, hgd]
            split <;> simp_all
          · cases hgd
        split at h
        · rename_i b hb
          have hya : yielded ops.toArray a.tmps j = some b := by rw [hy, ha.at_ _ _ hb]
          by_cases hbw : b = want
          · subst hbw
            have hw : Region.wanted o (yielded ops.toArray a.tmps) = true := by simp [Region.wanted, hg, hya]
            have ha' := ha.set hb
            obtain ⟨v, hv, hs⟩ := opH_still (h.1 rfl)
            exact go v _ ha' (still ha' hw hs) hv
          · have hbn : b = !want := by cases b <;> cases want <;> simp_all
            have hw : Region.wanted o (yielded ops.toArray a.tmps) = false := by simp [Region.wanted, hg, hya, hbw]
            exact go undef _ (ha.set (hbn ▸ hb)) (.inr ⟨hw, rfl⟩) (h.2 hbn)
        · rename_i x hb
          have hya : yielded ops.toArray a.tmps j = none := by rw [hy, ha.at_ _ _ hb]
          have hw : Region.wanted o (yielded ops.toArray a.tmps) = false := by simp [Region.wanted, hg, hya]
          exact go undef _ ha (.inr ⟨hw, rfl⟩) h
        · exact h.elim
      · exact h.elim


theorem any_of_heads0 {V : Nat → Value} {Q : Exit → Act → World → Prop} (h : drawOk ops n = true) (hk : ∀ k, k < n → kindAt ops k ≠ 2) {A : Nat → Act} (step : ∀ i o, i < n → ops[i]? = some o → A (i + 1) = (A i).put o.dst (V i))
    (still : ∀ i o, i < n → ops[i]? = some o → Yl P ρ ops C o (V i) (A i)) {w : World} (tail : wpT P ρ ops.toArray C Q (flags ops n) (ops.drop n) (A n) w) (hw : C w) :
    wpAnyIn (fence ρ) 0 P .any ops.toArray Q ops.length (Array.replicate ops.length false) (A 0) w := by
  obtain ⟨hn, hheads, hdist, _⟩ := drawOk_parts h
  have get : ∀ i, i < ops.length → ∃ o, ops[i]? = some o := fun i hi => ⟨ops[i]'hi, List.getElem?_eq_getElem hi⟩
  have lexA : ∀ i, i ≤ n → Sl ops n (A 0) V (fun k => decide (k < i)) (A i) := by
    intro i
    induction i with
    | zero => intro _; exact ⟨rfl, rfl, fun k t _ hs => by simp at hs, fun t _ => rfl⟩
    | succ i ih =>
      intro hi
      obtain ⟨o, ho⟩ := get i (by omega)
      rw [step i o (by omega) ho]
      exact (ih (by omega)).put hdist (by omega) ho (fun k _ => by simp; omega)
  have h0 : ∀ k, (Array.replicate ops.length false).getD k false = false := fun k => by
    rcases Nat.lt_or_ge k ops.length with h | h
    · simp [h]
    · simp [h]
  have hmiss : (missing n (Array.replicate ops.length false)).length = n := by
    simp only [missing, h0]
    have : (List.range n).filter (fun k => !false) = List.range n := List.filter_eq_self.2 (fun _ _ => rfl)
    rw [this]
    simp
  have hA := lexA n (Nat.le_refl _)
  have hsl : Sl ops n (A 0) V (fun k => (Array.replicate ops.length false).getD k false) (A 0) := ⟨rfl, rfl, fun k t _ hs => (by rw [h0] at hs; cases hs), fun t _ => rfl⟩
  refine phaseB h lexA still _ _ n (A 0) (A n) w (by simp) (Nat.le_refl _) hn (fun k hk1 hk2 => by rw [h0]; simp; omega) (fun j o ho hj => by simp only [h0] at hj; cases hj) (fun k hk' _ => hk k hk') (fun _ => hw) ⟨hsl.size, fun s _ => fun k hk hS hd hlt => hsl.come k s hk hS hd hlt, fun s _ hr => hsl.rest s hr⟩ ?_ (by simpa using tail) (by rw [hmiss]; omega)
  refine ⟨by rw [hA.size], by rw [hA.defers], fun s k hk _ hd hlt => hA.come k s hk (by simpa using hk) hd hlt, fun s hr => ?_⟩
  exact (hA.rest s (fun k hk _ => hr k hk (h0 k)))
def noCallB (ops : List Oper) (n : Nat) : Bool := (List.range n).all fun k => kindAt ops k != 2
def orderOk (ops : List Oper) (σ : List Nat) (n : Nat) : Bool := permOk ops.length σ && σ.all (· < ops.length) && drawOk (reord ops σ) n
/-- A REGION THAT DRAWS ITS ORDER, taken in the order 'σ': n heads, then the others. -/
theorem ok_drawP (σ : List Nat) (n : Nat) (fl : List (Bool × Bool)) (C : World → Prop) {id : Nat} {Φ : Post} (hm : P.follows .mixedOrders = true) (hN : 0 < N) (hd : dstsOk N ops = true) (hB : orderOk ops σ n = true) (hfl : flags (reord ops σ) n = fl)
    (hC : C { w with drawn := w.drawn + 1 })
    (h : wpH P ops C (fun K' => ∀ w', C w' → wpE P ops C (fun ch K w => Φ (.panic ch) K ds w) (fun K w => Φ .normal K ds w) fl ((pickL ops σ).drop n) K' w') ((pickL ops σ).take n) K) :
    ok P ρ N (.region id ops.toArray true) K ds w Φ := by
  intro a ha
  subst hfl
  simp only [orderOk, Bool.and_eq_true] at hB
  obtain ⟨⟨hp, hσ⟩, hB⟩ := hB
  have hmm : ∀ i ∈ σ, i < ops.length := fun i hi => by simpa using List.all_eq_true.1 hσ i hi
  have hn := (drawOk_parts hB).1
  have hl : (reord ops σ).length = ops.length := by rw [reord, List.length_map, reord_len hp hmm]
  have hpl := reord_len hp hmm
  have hlen : ((pickL ops σ).take n).length = n := by simp [hpl]; omega
  have hdall : ∀ l, (∀ o ∈ l, o ∈ pickL ops σ) → dstsOk N l = true := fun l hl => by
    simp only [dstsOk, List.all_eq_true] at hd ⊢
    intro o ho
    obtain ⟨j, hj⟩ := List.mem_iff_getElem?.1 (hl o ho)
    rw [pickL_get σ hmm] at hj
    cases hs : σ[j]? with
    | none => rw [hs] at hj; simp at hj
    | some i => rw [hs] at hj; simp at hj; exact hd o (List.mem_of_getElem? hj)
  obtain ⟨A, V, K', hA, hst, hk', hM⟩ := wpHL_steps (ρ := ρ) hN (pickL ops σ) ((pickL ops σ).take n) 0 K a (fun j hj => by rw [hlen] at hj; simp [List.getElem?_take, hj]) (hdall _ fun o ho => List.mem_of_mem_take ho) ha h
  rw [hlen] at hst hk'
  simp only [Nat.zero_add] at hst hk'
  refine wpIn_region_any hm ?_
  have orig : ∀ (i : Nat) (o : Oper), (reord ops σ)[i]? = some o → ∃ o0, (pickL ops σ)[i]? = some o0 ∧ o = ren (place σ) o0 := fun i o ho => by
    rw [reord, List.getElem?_map] at ho
    cases hx : (pickL ops σ)[i]? with
    | none => rw [hx] at ho; simp at ho
    | some o0 => rw [hx] at ho; simp at ho; exact ⟨o0, rfl, ho.symm⟩
  have := any_of_heads (P := P) (ρ := ρ) (C := C) (Q := lift N Φ) hB (A := A) (V := V) (fun i o hi ho => by
      obtain ⟨o0, h0, rfl⟩ := orig i o ho
      exact (hst i o0 (Nat.zero_le _) hi h0).1) (fun i o hi ho => by
      obtain ⟨o0, h0, rfl⟩ := orig i o ho
      exact (hst i o0 (Nat.zero_le _) hi h0).2.ren hp hmm)
    (fun w' hw' => by
      have := wpE_sound (ρ := ρ) (Φ := Φ) (ops := ops) (C := C) (pan := fun ch K w => Φ (.panic ch) K ds w) (M := fun K w => Φ .normal K ds w) (fun _ _ _ h => h) (fun _ _ h => h) ((pickL ops σ).drop n) _ _ _ _ (hdall _ fun o ho => List.mem_of_mem_drop ho) hk' (hM w' hw')
      have := wpT_ren hp hmm _ _ _ _ this
      rw [List.map_drop] at this
      exact this) hC
  rw [hA] at this
  rw [hl] at this
  have h8 := any_perm (Q := lift N Φ) hp hmm ops.length (Array.replicate ops.length false) (Array.replicate ops.length false) a _ (by simp) (by simp) (fun i hi => ?_) this
  · simpa using h8
  · have h9 := ((permOk_spec hp).2 i hi).2
    simp [hi, h9]
/-- A REGION THAT DRAWS ITS ORDER, taken in the order 'σ': n heads without calls, then the others, in the world as it was. -/
theorem ok_drawQ (σ : List Nat) (n : Nat) (fl : List (Bool × Bool)) (C : World → Prop) {id : Nat} {Φ : Post} (hm : P.follows .mixedOrders = true) (hN : 0 < N) (hd : dstsOk N ops = true) (hB : orderOk ops σ n = true) (hnc : noCallB (reord ops σ) n = true) (hfl : flags (reord ops σ) n = fl)
    (hC : C { w with drawn := w.drawn + 1 })
    (h : wpH P ops C (fun K' => wpE P ops C (fun ch K w => Φ (.panic ch) K ds w) (fun K w => Φ .normal K ds w) fl ((pickL ops σ).drop n) K' { w with drawn := w.drawn + 1 }) ((pickL ops σ).take n) K) :
    ok P ρ N (.region id ops.toArray true) K ds w Φ := by
  intro a ha
  subst hfl
  simp only [orderOk, Bool.and_eq_true] at hB
  obtain ⟨⟨hp, hσ⟩, hB⟩ := hB
  have hmm : ∀ i ∈ σ, i < ops.length := fun i hi => by simpa using List.all_eq_true.1 hσ i hi
  have hn := (drawOk_parts hB).1
  have hl : (reord ops σ).length = ops.length := by rw [reord, List.length_map, reord_len hp hmm]
  have hpl := reord_len hp hmm
  have hlen : ((pickL ops σ).take n).length = n := by simp [hpl]; omega
  have hdall : ∀ l, (∀ o ∈ l, o ∈ pickL ops σ) → dstsOk N l = true := fun l hl => by
    simp only [dstsOk, List.all_eq_true] at hd ⊢
    intro o ho
    obtain ⟨j, hj⟩ := List.mem_iff_getElem?.1 (hl o ho)
    rw [pickL_get σ hmm] at hj
    cases hs : σ[j]? with
    | none => rw [hs] at hj; simp at hj
    | some i => rw [hs] at hj; simp at hj; exact hd o (List.mem_of_getElem? hj)
  obtain ⟨A, V, K', hA, hst, hk', hM⟩ := wpHL_steps (ρ := ρ) hN (pickL ops σ) ((pickL ops σ).take n) 0 K a (fun j hj => by rw [hlen] at hj; simp [List.getElem?_take, hj]) (hdall _ fun o ho => List.mem_of_mem_take ho) ha h
  rw [hlen] at hst hk'
  simp only [Nat.zero_add] at hst hk'
  refine wpIn_region_any hm ?_
  have orig : ∀ (i : Nat) (o : Oper), (reord ops σ)[i]? = some o → ∃ o0, (pickL ops σ)[i]? = some o0 ∧ o = ren (place σ) o0 := fun i o ho => by
    rw [reord, List.getElem?_map] at ho
    cases hx : (pickL ops σ)[i]? with
    | none => rw [hx] at ho; simp at ho
    | some o0 => rw [hx] at ho; simp at ho; exact ⟨o0, rfl, ho.symm⟩
  have := any_of_heads0 (P := P) (ρ := ρ) (C := C) (Q := lift N Φ) hB (fun k hk => by have := List.all_eq_true.1 hnc k (List.mem_range.2 hk); simpa using this) (A := A) (V := V) (fun i o hi ho => by
      obtain ⟨o0, h0, rfl⟩ := orig i o ho
      exact (hst i o0 (Nat.zero_le _) hi h0).1) (fun i o hi ho => by
      obtain ⟨o0, h0, rfl⟩ := orig i o ho
      exact (hst i o0 (Nat.zero_le _) hi h0).2.ren hp hmm)
    (by
      have := wpE_sound (ρ := ρ) (Φ := Φ) (ops := ops) (C := C) (pan := fun ch K w => Φ (.panic ch) K ds w) (M := fun K w => Φ .normal K ds w) (fun _ _ _ h => h) (fun _ _ h => h) ((pickL ops σ).drop n) _ _ _ _ (hdall _ fun o ho => List.mem_of_mem_drop ho) hk' hM
      have := wpT_ren hp hmm _ _ _ _ this
      rw [List.map_drop] at this
      exact this) hC
  rw [hA] at this
  rw [hl] at this
  have h8 := any_perm (Q := lift N Φ) hp hmm ops.length (Array.replicate ops.length false) (Array.replicate ops.length false) a _ (by simp) (by simp) (fun i hi => ?_) this
  · simpa using h8
  · have h9 := ((permOk_spec hp).2 i hi).2
    simp [hi, h9]
end
end Go.Proofs.Vg
/- A region that draws its order and only makes things new, by a table: what each operation leaves, and where. -/
set_option linter.unusedVariables false
set_option linter.unusedSimpArgs false
namespace Go.Proofs.Vg
open Go Go.RowKit
abbrev Tab := List (Nat × (Value → World → Prop))
structure JT (T : Tab) (E0 : Env) (w0 : World) (L : Nat → Bool) (K : Env) (w : World) : Prop where
  ext : Ext w0 w
  base : sub E0 K
  at_ : ∀ (i s : Nat) (p : Value → World → Prop), T[i]? = some (s, p) → L i = true → ∃ v, K.get s = some v ∧ p v w
def tabOk (T : Tab) (E0 : Env) : Bool := (List.range T.length).all fun i => match T[i]? with
  | some (s, _) => (E0.all fun q => q.1 != s) && ((List.range T.length).all fun j => match T[j]? with | some (s', _) => s' != s || decide (j = i) | none => true)
  | none => true
theorem sub_put {s : Nat} {v : Value} {K : Env} : ∀ {E0 : Env}, (E0.all fun q => q.1 != s) = true → sub E0 K → sub E0 ((s, v) :: K)
  | [], _, _ => trivial
  | (i, u) :: r, h, hs => by
    simp only [List.all_cons, Bool.and_eq_true, bne_iff_ne, ne_eq] at h
    refine ⟨?_, sub_put h.2 hs.2⟩
    simp only [Env.get]
    rw [if_neg h.1]
    exact hs.1
theorem JT.get {T : Tab} {E0 : Env} {w0 w : World} {L : Nat → Bool} {K : Env} (h : JT T E0 w0 L K w) (s : Nat) {v : Value} (hv : E0.get s = some v) : K.get s = some v := sub_get h.base s v hv
theorem JT.put {T : Tab} {E0 : Env} {w0 w w' : World} {L : Nat → Bool} {K : Env} (h : JT T E0 w0 L K w) {i s : Nat} {p : Value → World → Prop} {v : Value} (hi : T[i]? = some (s, p)) (hT : tabOk T E0 = true)
    (hm : ∀ (j s : Nat) (p : Value → World → Prop), T[j]? = some (s, p) → ∀ v w w', Ext w w' → p v w → p v w') (he : Ext w w') (hp : p v w') : JT T E0 w0 (up L i) ((s, v) :: K) w' := by
  have h1 := List.all_eq_true.1 hT i (List.mem_range.2 (List.getElem?_eq_some_iff.1 hi).1)
  rw [hi] at h1
  simp only [Bool.and_eq_true] at h1
  refine ⟨h.ext.trans he, sub_put h1.1 h.base, fun j s' p' hj hL => ?_⟩
  by_cases hji : j = i
  · subst hji
    rw [hi] at hj; cases hj
    exact ⟨v, by simp [Env.get], hp⟩
  · have hL' : L j = true := by simpa [up, hji] using hL
    obtain ⟨u, hu, hpu⟩ := h.at_ j s' p' hj hL'
    have h2 := List.all_eq_true.1 h1.2 j (List.mem_range.2 (List.getElem?_eq_some_iff.1 hj).1)
    rw [hj] at h2
    simp only [Bool.or_eq_true, bne_iff_ne, ne_eq, decide_eq_true_eq] at h2
    have hne : ¬ s' = s := h2.resolve_right hji
    exact ⟨u, by simp only [Env.get]; rw [if_neg hne]; exact hu, hm j s' p' hj _ _ _ he hpu⟩
section
variable {P : Program} {ρ : Option Nat} {N : Nat} {K : Env} {ds : List Deferred} {w : World} {Φ : Post} {ops : List Oper}
theorem ok_tab (T : Tab) (E0 : Env) {id : Nat} (hm : P.follows .mixedOrders = true) (hd : dstsOk N ops = true) (hn : needsOk ops = true) (hl : T.length = ops.length) (hs0 : sub E0 K) (hss : sub E0 E0)
    (hstep : ∀ (L : Nat → Bool) (K : Env) (w1 : World) (i : Nat) (o : Oper), JT T E0 w L K w1 → ops[i]? = some o → (∀ k ∈ needs o, L k = true) → wpL P ops (fun ch K w => Φ (.panic ch) K ds w) (fun K' w' => JT T E0 w (up L i) K' w') [o] K w1)
    (hend : ∀ K w1, JT T E0 w (fun k => decide (k < ops.length)) K w1 → Φ .normal K ds w1) : ok P ρ N (.region id ops.toArray true) K ds w Φ :=
  ok_any (fun L K w1 => JT T E0 w L K w1) hm hd hn E0 hs0 ⟨Ext.drew w, hss, fun i s p _ h => by cases h⟩ (fun L K w1 i o hJ ho _ hno => hstep L K w1 i o hJ ho hno) hend
end
end Go.Proofs.Vg
/- append of rows to one's own row; empty literals; structs built of parts. -/
set_option linter.unusedVariables false
set_option linter.unusedSimpArgs false
namespace Go.Proofs.Vg
open Go Go.RowKit
/-- An empty literal. -/
theorem Runs.lit00 {P : Program} {w : World} {t : TypeId} {e : Nat} {nx : Value → World → Prop} {z : Option Value} {sz by_ : Nat} (ht : P.underlying t = some (.slice e)) (hz : zinfo P e = some (z, sz, by_))
    (h : ∀ w1, Ext w w1 → w1.heap.size = w.heap.size + 1 → Blk w1 w.heap.size [] e → nx (.slice (some ⟨w.heap.size, 0, none⟩) 0 0) w1) : Runs P (Instr.buildSlice t 0 (#[] : Array (Nat × Value))) w nx := by
  obtain ⟨i, hi, hzz, hs, hb⟩ := zinfo_some hz
  refine ⟨_, newW w [] e, ?_, h _ (newW_ext _ _ _) (newW_size _ _ _) (newW_blk _ _ _)⟩
  simp [Instr.buildSlice, run_underlying ht, sizeOf, typeInfo, hi, newRow, newObj, Sem.run, newW, Instr.fill]
  congr 2
  exact Array.ext (by simp) (fun i h => by simp at h)
/-- A struct's places and zero cells. -/
def stInf (P : Program) (t : TypeId) : Option (List (Nat × Nat) × Array Value) := match P.info? t, P.underlying t with
  | some it, some (.struct fields) => (match it.zero, fields.toList.mapM (fun f => (P.info? f.type).map fun i => (f.offset, i.size)) with
    | some z, some places => some (places, z.cells)
    | _, _ => none)
  | _, _ => none
theorem built_of {P : Program} {t : TypeId} {pl : List (Nat × Nat)} {zc : Array Value} {parts : List (Nat × Value)} (h : stInf P t = some (pl, zc)) : P.built t parts = Instr.fill (pl.toArray[·]?) zc parts := by
  unfold stInf at h
  unfold Program.built
  split at h
  · rename_i it fields h1 h2
    rw [h1, h2]
    simp only
    split at h
    · rename_i z places h3 h4
      rw [h3, h4]
      cases h
      rfl
    · cases h
  · cases h
theorem run_append_none' {P : Program} {w : World} (base : Nat) (t ty e : TypeId) (i : TypeInfo) (size : Nat) (ht : P.underlying t = some (.slice e)) (hi : P.info? e = some i)
    (v : Value) (n c : Nat) (xs : List Value) (hown : w.ownsRow base e size v n xs) :
    (Builtin.append_ #[t, t] ty #[v, .slice none 0 c]).run P w = .ok v w := by
  rcases hown.2 with ⟨rfl, rfl⟩ | ⟨g, cap, cur, rfl, _, _, hnc, _⟩
  · simp [Builtin.append_, run_underlying ht, sizeOf, typeInfo, hi, Builtin.lenOf, Builtin.firstCells]
  · simp [Builtin.append_, run_underlying ht, sizeOf, typeInfo, hi, Builtin.lenOf, Builtin.firstCells, hnc, storeCells]
theorem flat_get {sz : Nat} : ∀ (rows : List (List Value)), (∀ r ∈ rows, r.length = sz) → ∀ (m : Nat) (u : Value), rows.flatten[m]? = some u → 0 < sz → ∃ j k row, rows[j]? = some row ∧ row[k]? = some u ∧ m = j * sz + k := by
  intro rows
  induction rows with
  | nil => intro _ m u h; simp at h
  | cons r rs ih =>
    intro hr m u h hs
    have h0 := hr r List.mem_cons_self
    rw [List.flatten_cons] at h
    rcases Nat.lt_or_ge m r.length with hm | hm
    · rw [List.getElem?_append_left hm] at h
      exact ⟨0, m, r, rfl, h, by omega⟩
    · rw [List.getElem?_append_right hm] at h
      obtain ⟨j, k, row, h1, h2, h3⟩ := ih (fun x hx => hr x (List.mem_cons_of_mem _ hx)) _ u h hs
      exact ⟨j + 1, k, row, by simpa using h1, h2, by rw [Nat.add_mul]; omega⟩
/-- append of a slice's rows to one's own row. -/
theorem Runs.appendR {P : Program} {w : World} {t ty e : TypeId} {z : Value} {sz by_ base : Nat} (ht : P.underlying t = some (.slice e)) (hz : zinfo P e = some (some z, sz, by_)) (hzs : z.cells.size = sz) (hsz : 0 < sz)
    {v vs : Value} {n : Nat} {xs : List Value} {rows : List (List Value)} (hown : w.ownsRow base e sz v n xs) (hs : Sli w sz vs rows) (hr : ∀ r ∈ rows, r.length = sz ∧ ∀ u ∈ r, u.oneCell' = true)
    (h63 : n + rows.length ≤ maxLen) (hbytes : (n + rows.length) * by_ ≤ 140737488355328) (hbase : base ≤ w.heap.size) {cs : Array Bool} {nx : Value → World → Prop}
    (h : ∀ v' w', w'.ownsRow base e sz v' (n + rows.length) (xs ++ rows.flatten) → w.grownBy w' v.ownBlock → (v'.ownBlock = v.ownBlock ∨ v'.ownBlock = some w.heap.size) → nx v' w') :
    Runs P (builtin .append #[t, t] ty cs [v, vs].toArray) w (builtinR nx) := by
  obtain ⟨i, hi, hzz, hsi, hbb⟩ := zinfo_some hz
  obtain ⟨A, c, rfl, hl, hcell⟩ := hs
  have fin : ∀ v' w', (Builtin.append_ #[t, t] ty #[v, .slice A rows.length c]).run P w = .ok v' w' → nx v' w' → Runs P (builtin .append #[t, t] ty cs [v, .slice A rows.length c].toArray) w (builtinR nx) := fun v' w' hr hn => by
    refine ⟨.value v', w', ?_, hn⟩
    simp only [builtin]
    rw [Sem.run_bind]
    have : [v, Value.slice A rows.length c].toArray = #[v, .slice A rows.length c] := rfl
    rw [this, hr]
    rfl
  cases hA : A with
  | none =>
    subst hA
    have hy : rows = [] := by
      cases rows with
      | nil => rfl
      | cons y ys => obtain ⟨b, o, h1, _⟩ := hcell 0 y rfl; cases h1
    subst hy
    refine fin v w (run_append_none' base t ty e i sz ht hi v n c xs hown) (h v w ?_ ⟨rfl, rfl, rfl, Nat.le_refl _, fun _ _ _ => rfl⟩ (.inl rfl))
    simpa using hown
  | some a =>
    subst hA
    have hlen : ∀ (rs : List (List Value)), (∀ r ∈ rs, r.length = sz) → rs.flatten.length = rs.length * sz := by
      intro rs
      induction rs with
      | nil => intro _; simp
      | cons r rs ih => intro h; rw [List.flatten_cons, List.length_append, h r List.mem_cons_self, ih (fun x hx => h x (List.mem_cons_of_mem _ hx)), List.length_cons, Nat.add_mul]; omega
    obtain ⟨v', w', hr2, ho, hg, _, hown2⟩ := run_append_own_at (P := P) w base t ty e i z sz by_ ht hi hzz hsi hbb hzs hsz v n xs hown a rows.length c rows.flatten (hlen rows fun r hr' => (hr r hr').1)
      (fun m u hm => by
        obtain ⟨j, k, row, h1, h2, h3⟩ := flat_get rows (fun r hr' => (hr r hr').1) m u hm hsz
        obtain ⟨b, o, h4, h5⟩ := hcell j row h1
        cases h4
        have := h5 k u h2
        rw [add_at] at this ⊢
        rw [h3, ← Nat.add_assoc]; exact this)
      (fun u hu => by obtain ⟨r, hr1, hr2⟩ := List.mem_flatten.1 hu; exact (hr r hr1).2 u hr2) h63 hbytes hbase
    exact fin v' w' hr2 (h v' w' ho hg hown2)
/-- append of one element that lies in a block of its own: where the row lies then. -/
theorem Runs.append1' {P : Program} {w : World} {t ty e : TypeId} {z : Value} {sz by_ base : Nat} (ht : P.underlying t = some (.slice e)) (hz : zinfo P e = some (some z, sz, by_)) (hzs : z.cells.size = sz) (hsz : 0 < sz)
    {v : Value} {n : Nat} {xs : List Value} (hown : w.ownsRow base e sz v n xs) {b : Nat} {news : List Value} {c : Nat} {eb : TypeId} (hb : Blk w b news eb) (hl : news.length = sz) (h1 : ∀ u ∈ news, u.oneCell' = true)
    (h63 : n + 1 ≤ maxLen) (hbytes : (n + 1) * by_ ≤ 140737488355328) (hbase : base ≤ w.heap.size) {cs : Array Bool} {nx : Value → World → Prop}
    (h : ∀ v' w', w'.ownsRow base e sz v' (n + 1) (xs ++ news) → w.grownBy w' v.ownBlock → (v'.ownBlock = v.ownBlock ∨ v'.ownBlock = some w.heap.size) → nx v' w') :
    Runs P (builtin .append #[t, t] ty cs [v, .slice (some ⟨b, 0, none⟩) 1 c].toArray) w (builtinR nx) := by
  refine Runs.appendR (rows := [news]) ht hz hzs hsz hown ⟨some ⟨b, 0, none⟩, c, rfl, by simp, fun j row hj => ⟨b, 0, rfl, ?_⟩⟩ (by simpa using ⟨hl, h1⟩) h63 hbytes hbase (by simpa using h)
  have hj0 : j = 0 := by have := (List.getElem?_eq_some_iff.1 hj).1; simp at this; exact this
  subst hj0
  simp at hj; subst hj
  rw [Nat.zero_mul]
  exact hb.cells (o := 0) (fun j u hj => by simpa using hj)
end Go.Proofs.Vg
/- Data: cells and slices of rows; what reads as data; what of it a row of the kit's reading leaves. -/
set_option linter.unusedVariables false
set_option linter.unusedSimpArgs false
namespace Go.Proofs.Vg
open Go Go.RowKit Go.Deep Go.ChangeShapes Go.WideShapes Go.ChangeAt

/-- Data: a cell, or a slice of rows (with the bytes of an element). -/
inductive D where
  | at (v : Value)
  | sl (b : Nat) (rows : List (List D))
/-- Cells read as data; what they lead to lies in S. -/
inductive Rd (w : World) (S : Nat → Prop) : List Value → List D → Prop
  | nil : Rd w S [] []
  | at {v : Value} {vs : List Value} {ds : List D} : v.oneCell' = true → v.cells = #[v] → Rd w S vs ds → Rd w S (v :: vs) (.at v :: ds)
  | sl {A : Option Addr} {b c : Nat} {rows : List (List D)} {vs : List Value} {ds : List D} (f : Nat → List Value) (hl : rows.length ≤ 140737488355328) (hb : rows.length * b ≤ 140737488355328) (hc : rows.length ≤ c)
      (ha : ∀ j row, rows[j]? = some row → ∃ k o, A = some ⟨k, o, none⟩ ∧ S k ∧ k < w.heap.size ∧ cellsAt w ⟨k, o + j * row.length, none⟩ (f j))
      (hr : ∀ j row, rows[j]? = some row → Rd w S (f j) row) (ht : Rd w S vs ds) : Rd w S (.slice A rows.length c :: vs) (.sl b rows :: ds)
section
variable {w w' : World} {S T : Nat → Prop} {cs : List Value} {ds : List D}
theorem Rd.mono (h : Rd w S cs ds) {S' : Nat → Prop} (hs : ∀ k, S k → k < w.heap.size → S' k) : Rd w S' cs ds := by
  induction h with
  | nil => exact .nil
  | «at» h1 h2 _ ih => exact .at h1 h2 ih
  | sl f hl hb hc ha hr ht ih iht =>
    refine .sl f hl hb hc (fun j row hj => ?_) ih iht
    obtain ⟨k, o, h1, h2, h3, h4⟩ := ha j row hj
    exact ⟨k, o, h1, hs k h2 h3, h3, h4⟩
theorem Rd.chg (h : Rd w S cs ds) (hc : Chg T w w') (hs : ∀ k, S k → k < w.heap.size → ¬ T k) : Rd w' S cs ds := by
  induction h with
  | nil => exact .nil
  | «at» h1 h2 _ ih => exact .at h1 h2 ih
  | sl f hl hb hc' ha hr ht ih iht =>
    refine .sl f hl hb hc' (fun j row hj => ?_) ih iht
    obtain ⟨k, o, h1, h2, h3, h4⟩ := ha j row hj
    exact ⟨k, o, h1, h2, Nat.lt_of_lt_of_le h3 hc.size, hc.cellsAt h4 (hs k h2 h3)⟩
theorem Rd.ext (h : Rd w S cs ds) (he : Ext w w') : Rd w' S cs ds := h.chg (he.chg (fun _ => False)) (fun _ _ _ => id)
theorem Rd.len (h : Rd w S cs ds) : cs.length = ds.length := by
  induction h with
  | nil => rfl
  | «at» _ _ _ ih => simp [ih]
  | sl f hl hb hc ha hr ht ih iht => simp [iht]
theorem Rd.one (h : Rd w S cs ds) : ∀ u ∈ cs, u.oneCell' = true ∧ u.cells = #[u] := by
  induction h with
  | nil => intro u hu; cases hu
  | «at» h1 h2 _ ih =>
    intro u hu
    rcases List.mem_cons.1 hu with rfl | hu
    · exact ⟨h1, h2⟩
    · exact ih u hu
  | sl f hl hb hc ha hr ht ih iht =>
    intro u hu
    rcases List.mem_cons.1 hu with rfl | hu
    · exact ⟨rfl, rfl⟩
    · exact iht u hu
theorem Rd.append {cs2 : List Value} {ds2 : List D} (h : Rd w S cs ds) (h2 : Rd w S cs2 ds2) : Rd w S (cs ++ cs2) (ds ++ ds2) := by
  induction h with
  | nil => exact h2
  | «at» h1 h3 _ ih => exact .at h1 h3 ih
  | sl f hl hb hc ha hr ht ih iht => exact .sl f hl hb hc ha hr iht
theorem Rd.split {ds1 ds2 : List D} : ∀ {cs : List Value}, Rd w S cs (ds1 ++ ds2) → Rd w S (cs.take ds1.length) ds1 ∧ Rd w S (cs.drop ds1.length) ds2 := by
  induction ds1 with
  | nil => intro cs h; exact ⟨by simpa using Rd.nil, by simpa using h⟩
  | cons d ds1 ih =>
    intro cs h
    cases h with
    | «at» h1 h2 h3 => obtain ⟨k1, k2⟩ := ih h3; exact ⟨.at h1 h2 k1, k2⟩
    | sl f hl hb hc ha hr ht => obtain ⟨k1, k2⟩ := ih ht; exact ⟨.sl f hl hb hc ha hr k1, k2⟩
/-- One field of it. -/
theorem Rd.get : ∀ {cs : List Value} {ds : List D}, Rd w S cs ds → ∀ (i : Nat) (d : D), ds[i]? = some d → ∃ v, cs[i]? = some v ∧ Rd w S [v] [d]
  | _, _, .nil, i, d, h => by simp at h
  | _, _, .at h1 h2 h3, i, d, h => by
    cases i with
    | zero => simp at h; subst h; exact ⟨_, rfl, .at h1 h2 .nil⟩
    | succ i => exact Rd.get h3 i d (by simpa using h)
  | _, _, .sl f hl hb hc ha hr ht, i, d, h => by
    cases i with
    | zero => simp at h; subst h; exact ⟨_, rfl, .sl f hl hb hc ha hr .nil⟩
    | succ i => exact Rd.get ht i d (by simpa using h)
theorem Rd.set {d : D} {v : Value} (hv : Rd w S [v] [d]) : ∀ {cs : List Value} {ds : List D}, Rd w S cs ds → ∀ (i : Nat), Rd w S (cs.set i v) (ds.set i d)
  | _, _, .nil, i => by simpa using Rd.nil
  | _, _, .at h1 h2 h3, i => by
    cases i with
    | zero => simpa using Rd.append hv h3
    | succ i => exact .at h1 h2 (Rd.set hv h3 i)
  | _, _, .sl f hl hb hc ha hr ht, i => by
    cases i with
    | zero => simpa using Rd.append hv ht
    | succ i => exact .sl f hl hb hc ha hr (Rd.set hv ht i)
theorem Rd.at_inv {v u : Value} (h : Rd w S [v] [.at u]) : v = u := by cases h; rfl
theorem Rd.atc {v u : Value} (h : Rd w S (v :: cs) (.at u :: ds)) : v = u ∧ Rd w S cs ds := by cases h; exact ⟨rfl, by assumption⟩
theorem Rd.slc {v : Value} {b : Nat} {rows : List (List D)} (h : Rd w S (v :: cs) (.sl b rows :: ds)) : Rd w S [v] [.sl b rows] ∧ Rd w S cs ds := by
  cases h with
  | sl f hl hb hc ha hr ht => exact ⟨.sl f hl hb hc ha hr .nil, ht⟩
theorem Rd.nilc {cs : List Value} (h : Rd w S cs []) : cs = [] := by cases h; rfl
/-- A slice's head. -/
theorem Rd.hd {v : Value} {b : Nat} {rows : List (List D)} (h : Rd w S [v] [.sl b rows]) : ∃ A c, v = .slice A rows.length c ∧ rows.length ≤ 140737488355328 ∧ rows.length * b ≤ 140737488355328 ∧ rows.length ≤ c := by
  cases h with
  | sl f hl hb hc ha hr ht => exact ⟨_, _, rfl, hl, hb, hc⟩
/-- An element of a slice. -/
theorem Rd.row {A : Option Addr} {b n c : Nat} {rows : List (List D)} (h : Rd w S [.slice A n c] [.sl b rows]) {j : Nat} {row : List D} (hj : rows[j]? = some row) :
    ∃ k o r, A = some ⟨k, o, none⟩ ∧ S k ∧ k < w.heap.size ∧ cellsAt w ⟨k, o + j * row.length, none⟩ r ∧ Rd w S r row := by
  cases h with
  | sl f hl hb hc ha hr ht =>
    obtain ⟨k, o, h1, h2, h3, h4⟩ := ha j row hj
    exact ⟨k, o, f j, h1, h2, h3, h4, hr j row hj⟩
theorem Rd.n_eq {A : Option Addr} {b n c : Nat} {rows : List (List D)} (h : Rd w S [.slice A n c] [.sl b rows]) : n = rows.length := by cases h; rfl
theorem Rd.nil_of {b n c : Nat} {rows : List (List D)} (h : Rd w S [.slice none n c] [.sl b rows]) : rows = [] := by
  cases rows with
  | nil => rfl
  | cons r rs => obtain ⟨k, o, r, h1, _⟩ := h.row (j := 0) rfl; cases h1
/-- As 'Sli'. -/
theorem Rd.sli {v : Value} {b sz : Nat} {rows : List (List D)} (h : Rd w S [v] [.sl b rows]) (hz : ∀ r ∈ rows, r.length = sz) : ∃ crows, Sli w sz v crows ∧ crows.length = rows.length ∧ ∀ (i : Nat) (r : List Value) (d : List D), crows[i]? = some r → rows[i]? = some d → Rd w S r d := by
  cases h with
  | @sl A _ c _ _ _ f hl hb hc ha hr ht =>
    refine ⟨(List.range rows.length).map f, ⟨A, c, by simp, by simpa using hl, fun j row hj => ?_⟩, by simp, fun i r d hi hd => ?_⟩
    · have hjl : j < rows.length := by have := (List.getElem?_eq_some_iff.1 hj).1; simpa using this
      simp [hjl] at hj
      subst hj
      obtain ⟨k, o, h1, h2, h3, h4⟩ := ha j rows[j] (List.getElem?_eq_getElem hjl)
      rw [hz _ (List.getElem_mem hjl)] at h4
      exact ⟨k, o, h1, h4⟩
    · have hil : i < rows.length := (List.getElem?_eq_some_iff.1 hd).1
      simp [hil] at hi
      subst hi
      exact hr i d hd
theorem Rd.mk {v : Value} {b sz : Nat} {rows : List (List D)} {A : Option Addr} {c : Nat} {crows : List (List Value)} (hv : v = .slice A rows.length c) (hlen : crows.length = rows.length) (hl : rows.length ≤ 140737488355328) (hb : rows.length * b ≤ 140737488355328) (hc : rows.length ≤ c)
    (hz : ∀ r ∈ rows, r.length = sz) (ha : ∀ j row, crows[j]? = some row → ∃ k o, A = some ⟨k, o, none⟩ ∧ S k ∧ k < w.heap.size ∧ cellsAt w ⟨k, o + j * sz, none⟩ row)
    (hr : ∀ (i : Nat) (r : List Value) (d : List D), crows[i]? = some r → rows[i]? = some d → Rd w S r d) : Rd w S [v] [.sl b rows] := by
  subst hv
  refine .sl (fun j => crows[j]?.getD []) hl hb hc (fun j row hj => ?_) (fun j row hj => ?_) .nil
  · have hjl : j < crows.length := by rw [hlen]; exact (List.getElem?_eq_some_iff.1 hj).1
    obtain ⟨k, o, h1, h2, h3, h4⟩ := ha j crows[j] (List.getElem?_eq_getElem hjl)
    rw [hz row (List.mem_of_getElem? hj)]
    exact ⟨k, o, h1, h2, h3, by simpa [hjl] using h4⟩
  · have hjl : j < crows.length := by rw [hlen]; exact (List.getElem?_eq_some_iff.1 hj).1
    have := hr j crows[j] row (List.getElem?_eq_getElem hjl) hj
    simpa [hjl] using this
/-- An empty slice. -/
theorem Rd.empty {A : Option Addr} {b c : Nat} : Rd w S [.slice A 0 c] [.sl b []] := Rd.sl (rows := []) (fun _ => []) (Nat.zero_le _) (by simp) (Nat.zero_le _) (fun j r h => by simp at h) (fun j r h => by simp at h) .nil
/-- What is behind a slice's first elements; its first ones. -/
theorem Rd.drop {A : Option Addr} {b n c lo sz : Nat} {rows : List (List D)} (h : Rd w S [.slice A n c] [.sl b rows]) (hz : ∀ r ∈ rows, r.length = sz) (hlo : lo ≤ n) : Rd w S [.slice (A.map (·.add (lo * sz))) (n - lo) (c - lo)] [.sl b (rows.drop lo)] := by
  cases h with
  | sl f hl hb hc ha hr ht =>
    have hd : (rows.drop lo).length = rows.length - lo := by simp
    rw [← hd]
    refine .sl (fun j => f (lo + j)) (by rw [hd]; omega) (Nat.le_trans (Nat.mul_le_mul_right _ (by rw [hd]; omega)) hb) (by rw [hd]; omega) (fun j row hj => ?_) (fun j row hj => ?_) .nil
    · rw [List.getElem?_drop] at hj
      obtain ⟨k, o, h1, h2, h3, h4⟩ := ha _ row hj
      refine ⟨k, o + lo * sz, by rw [h1]; simp [add_at], h2, h3, ?_⟩
      have := hz row (List.mem_of_getElem? hj)
      rw [this, Nat.add_mul] at h4
      rw [this, Nat.add_assoc]
      exact h4
    · rw [List.getElem?_drop] at hj
      exact hr _ row hj
theorem Rd.take {A : Option Addr} {b n c hi : Nat} {rows : List (List D)} (h : Rd w S [.slice A n c] [.sl b rows]) (hlo : hi ≤ n) : Rd w S [.slice A hi c] [.sl b (rows.take hi)] := by
  cases h with
  | sl f hl hb hc ha hr ht =>
    have hd : (rows.take hi).length = hi := by simp; omega
    have := Rd.sl (w := w) (S := S) (A := A) (b := b) (c := c) (rows := rows.take hi) (vs := []) (ds := []) f (by rw [hd]; omega) (Nat.le_trans (Nat.mul_le_mul_right _ (by rw [hd]; omega)) hb) (by rw [hd]; omega) (fun j row hj => ?_) (fun j row hj => ?_) .nil
    · rw [hd] at this; exact this
    · have hjl := (List.getElem?_eq_some_iff.1 hj).1
      rw [List.getElem?_take, if_pos (by rw [hd] at hjl; exact hjl)] at hj
      exact ha j row hj
    · have hjl := (List.getElem?_eq_some_iff.1 hj).1
      rw [List.getElem?_take, if_pos (by rw [hd] at hjl; exact hjl)] at hj
      exact hr j row hj

/-- A row of one's own that grows: its elements read as data that does not lie in it. -/
structure Own (w : World) (S : Nat → Prop) (base : Nat) (e : TypeId) (sz : Nat) (v : Value) (rows : List (List D)) : Prop where
  ex : ∃ crows : List (List Value), w.ownsRow base e sz v rows.length crows.flatten ∧ crows.length = rows.length ∧ ∀ (i : Nat) (r : List Value) (d : List D), crows[i]? = some r → rows[i]? = some d → Rd w (fun k => S k ∧ v.ownBlock ≠ some k) r d
  wid : ∀ r ∈ rows, r.length = sz
  pos : 0 < sz
variable {base e sz : Nat} {v : Value} {rows : List (List D)}
theorem owns_chg' {n : Nat} {xs : List Value} (h : w.ownsRow base e sz v n xs) (hc : Chg S w w') (hs : ∀ k, v.ownBlock = some k → ¬ S k) : w'.ownsRow base e sz v n xs := by
  refine ⟨h.1, ?_⟩
  rcases h.2 with hn | ⟨g, cap, cur, rfl, hb, hgg, rest⟩
  · exact .inl hn
  · refine .inr ⟨g, cap, cur, rfl, hb, ?_, rest⟩
    rw [hc.block g (Array.getElem?_eq_some_iff.1 hgg).1 (hs g rfl)]
    exact hgg
theorem grown_chg (hg : w.grownBy w' v.ownBlock) : Chg (fun k => v.ownBlock = some k) w w' :=
  ⟨hg.os, hg.tape, hg.output, hg.size, fun k hk hs => hg.block k hk (fun e => hs e.symm)⟩
theorem Own.nil (hs : 0 < sz) : Own w S base e sz (.slice none 0 0) [] := ⟨⟨[], World.ownsRow_nil _ _ _ _, rfl, fun i r d h => by simp at h⟩, fun r h => (by cases h), hs⟩
theorem Own.fresh {b : Nat} (hs : 0 < sz) (hb : Blk w b [] e) (hbase : base ≤ b) : Own w S base e sz (.slice (some ⟨b, 0, none⟩) 0 0) [] :=
  ⟨⟨[], ⟨by simp, .inr ⟨b, 0, #[], rfl, hbase, by simpa [Blk] using hb, Nat.le_refl _, Nat.zero_le _, by simp, by simp⟩⟩, rfl, fun i r d h => by simp at h⟩, fun r h => (by cases h), hs⟩
theorem Own.chg (h : Own w S base e sz v rows) (hc : Chg T w w') (h1 : ∀ k, v.ownBlock = some k → ¬ T k) (hs : ∀ k, S k → k < w.heap.size → ¬ T k) : Own w' S base e sz v rows := by
  obtain ⟨⟨crows, h2, h3, h4⟩, h5, h6⟩ := h
  exact ⟨⟨crows, owns_chg' h2 hc h1, h3, fun i r d hi hd => (h4 i r d hi hd).chg hc (fun k hk hl => hs k hk.1 hl)⟩, h5, h6⟩
theorem Own.ext (h : Own w S base e sz v rows) (he : Ext w w') : Own w' S base e sz v rows := h.chg (he.chg (fun _ => False)) (fun _ _ => id) (fun _ _ _ => id)
theorem Own.mono (h : Own w S base e sz v rows) {S' : Nat → Prop} (hs : ∀ k, S k → k < w.heap.size → v.ownBlock ≠ some k → S' k) : Own w S' base e sz v rows := by
  obtain ⟨⟨crows, h2, h3, h4⟩, h5, h6⟩ := h
  exact ⟨⟨crows, h2, h3, fun i r d hi hd => (h4 i r d hi hd).mono (fun k hk hl => ⟨hs k hk.1 hl hk.2, hk.2⟩)⟩, h5, h6⟩
theorem Own.len (h : Own w S base e sz v rows) : ∃ A c, v = .slice A rows.length c ∧ rows.length ≤ c := by
  obtain ⟨⟨crows, h2, h3, h4⟩, h5, h6⟩ := h
  rcases h2.2 with ⟨h7, h8⟩ | ⟨g, cap, cur, h7, _, _, h8, _⟩
  · exact ⟨none, 0, by rw [h7, h8], by omega⟩
  · exact ⟨_, _, h7, h8⟩
theorem Own.lt (h : Own w S base e sz v rows) {k : Nat} (hk : v.ownBlock = some k) : base ≤ k ∧ k < w.heap.size := by
  obtain ⟨⟨crows, h2, h3, h4⟩, h5, h6⟩ := h
  exact h2.lt k hk
theorem flat_row : ∀ (crows : List (List Value)), (∀ r ∈ crows, r.length = sz) → ∀ (i : Nat) (r : List Value), crows[i]? = some r → ∀ (j : Nat) (u : Value), r[j]? = some u → crows.flatten[i * sz + j]? = some u := by
  intro crows
  induction crows with
  | nil => intro _ i r h; simp at h
  | cons c cs ih =>
    intro hz i r hi j u hj
    have h0 := hz c List.mem_cons_self
    rw [List.flatten_cons]
    cases i with
    | zero =>
      simp at hi; subst hi
      rw [Nat.zero_mul, Nat.zero_add, List.getElem?_append_left (List.getElem?_eq_some_iff.1 hj).1]
      exact hj
    | succ i =>
      rw [List.getElem?_append_right (by rw [h0, Nat.add_mul]; omega), h0, show (i + 1) * sz + j - sz = i * sz + j by rw [Nat.add_mul]; omega]
      exact ih (fun x hx => hz x (List.mem_cons_of_mem _ hx)) i r (by simpa using hi) j u hj
theorem Own.crows (h : Own w S base e sz v rows) : ∃ crows : List (List Value), w.ownsRow base e sz v rows.length crows.flatten ∧ crows.length = rows.length ∧ (∀ r ∈ crows, r.length = sz) ∧ ∀ (i : Nat) (r : List Value) (d : List D), crows[i]? = some r → rows[i]? = some d → Rd w (fun k => S k ∧ v.ownBlock ≠ some k) r d := by
  obtain ⟨⟨crows, h2, h3, h4⟩, h5, h6⟩ := h
  refine ⟨crows, h2, h3, fun r hr => ?_, h4⟩
  obtain ⟨i, hi⟩ := List.mem_iff_getElem?.1 hr
  have hil := (List.getElem?_eq_some_iff.1 hi).1
  have hd : rows[i]? = some (rows[i]'(by omega)) := List.getElem?_eq_getElem _
  rw [(h4 i r _ hi hd).len]
  exact h5 _ (List.getElem_mem _)
/-- What is owned reads as data. -/
theorem Own.rd (h : Own w S base e sz v rows) {b : Nat} (hl : rows.length ≤ 140737488355328) (hb : rows.length * b ≤ 140737488355328) {S' : Nat → Prop} (hs : ∀ k, k < w.heap.size → (S k ∧ v.ownBlock ≠ some k) ∨ (v.ownBlock = some k) → S' k) : Rd w S' [v] [.sl b rows] := by
  obtain ⟨crows, h2, h3, hz, h4⟩ := h.crows
  rcases h2.2 with ⟨h7, h8⟩ | ⟨g, cap, cur, h7, _, hg, h8, _, _, htk⟩
  · have : rows = [] := List.length_eq_zero_iff.1 h8
    subst this h7
    exact Rd.empty
  · have hgl : g < w.heap.size := (Array.getElem?_eq_some_iff.1 hg).1
    refine Rd.mk (sz := sz) (crows := crows) h7 h3 hl hb h8 h.wid (fun j row hj => ⟨g, 0, rfl, hs g hgl (.inr (by rw [h7]; rfl)), hgl, fun i u hi => ?_⟩) (fun i r d hi hd => (h4 i r d hi hd).mono (fun k hk hl => hs k hl (.inl hk)))
    have h9 := flat_row crows hz j row hj i u hi
    rw [← htk, List.getElem?_take] at h9
    split at h9
    · rw [add_at]
      unfold World.cell?
      simp only [hg]
      simpa [Nat.add_assoc] using h9
    · cases h9
end
end Go.Proofs.Vg
/- append of data; what a row of the kit's reading leaves, as data. -/
set_option linter.unusedVariables false
set_option linter.unusedSimpArgs false
namespace Go.Proofs.Vg
open Go Go.RowKit Go.Deep Go.ChangeShapes Go.WideShapes Go.ChangeAt
section
variable {P : Program} {w : World} {S : Nat → Prop} {t ty e : TypeId} {z : Value} {sz by_ base : Nat} {v vs : Value} {rows rows2 : List (List D)}
theorem Runs.appC (ht : P.underlying t = some (.slice e)) (hz : zinfo P e = some (some z, sz, by_)) (hzs : z.cells.size = sz) (hby : 0 < by_) (hown : Own w S base e sz v rows) {crows2 : List (List Value)} (hs : Sli w sz vs crows2) (hl2 : crows2.length = rows2.length)
    (hr2 : ∀ (i : Nat) (r : List Value) (d : List D), crows2[i]? = some r → rows2[i]? = some d → Rd w (fun k => S k ∧ v.ownBlock ≠ some k) r d) (hw2 : ∀ r ∈ rows2, r.length = sz)
    (hb : (rows.length + rows2.length) * by_ ≤ 140737488355328) (hbase : base ≤ w.heap.size) {cs : Array Bool} {nx : Value → World → Prop}
    (h : ∀ v' w', Own w' S base e sz v' (rows ++ rows2) → Chg (fun k => v.ownBlock = some k) w w' → (v'.ownBlock = v.ownBlock ∨ v'.ownBlock = some w.heap.size) → nx v' w') :
    Runs P (builtin .append #[t, t] ty cs [v, vs].toArray) w (builtinR nx) := by
  obtain ⟨crows, h2, h3, hzz, h4⟩ := hown.crows
  have hlen : rows.length + rows2.length ≤ maxLen := by
    have : (rows.length + rows2.length) * 1 ≤ (rows.length + rows2.length) * by_ := Nat.mul_le_mul_left _ hby
    simp only [maxLen]; omega
  have hel2 : ∀ r ∈ crows2, r.length = sz ∧ ∀ u ∈ r, u.oneCell' = true := by
    intro r hr
    obtain ⟨i, hi⟩ := List.mem_iff_getElem?.1 hr
    have hd : rows2[i]? = some (rows2[i]'(by rw [← hl2]; exact (List.getElem?_eq_some_iff.1 hi).1)) := List.getElem?_eq_getElem _
    have := hr2 i r _ hi hd
    exact ⟨by rw [this.len]; exact hw2 _ (List.getElem_mem _), fun u hu => (this.one u hu).1⟩
  refine Runs.appendR ht hz hzs hown.pos h2 hs hel2 (by rw [hl2]; exact hlen) (by rw [hl2]; exact hb) hbase (fun v' w' hown' hg hblk => ?_)
  have hc := grown_chg hg
  refine h v' w' ⟨⟨crows ++ crows2, ?_, by simp [h3, hl2], fun i r d hi hd => ?_⟩, fun r hr => ?_, hown.pos⟩ hc hblk
  · rw [List.flatten_append, List.length_append, ← hl2]; exact hown'
  · have key : Rd w (fun k => S k ∧ v.ownBlock ≠ some k) r d := by
      rcases Nat.lt_or_ge i rows.length with h1 | h1
      · rw [List.getElem?_append_left (by omega)] at hi hd
        exact h4 i r d hi hd
      · rw [List.getElem?_append_right (by omega)] at hi hd
        exact hr2 _ r d (by rw [h3] at hi; exact hi) hd
    refine (key.mono (S' := fun k => (S k ∧ v.ownBlock ≠ some k) ∧ k < w.heap.size) (fun k hk hl => ⟨hk, hl⟩)).chg hc (fun k hk _ => hk.1.2) |>.mono (fun k hk _ => ⟨hk.1.1, ?_⟩)
    rcases hblk with h1 | h1
    · rw [h1]; exact hk.1.2
    · rw [h1]; intro e; cases e; exact Nat.lt_irrefl _ hk.2
  · rcases List.mem_append.1 hr with h1 | h1
    · exact hown.wid r h1
    · exact hw2 r h1
/-- append of a slice. -/
theorem Runs.appD (ht : P.underlying t = some (.slice e)) (hz : zinfo P e = some (some z, sz, by_)) (hzs : z.cells.size = sz) (hby : 0 < by_) (hown : Own w S base e sz v rows) {b : Nat} (hs : Rd w (fun k => S k ∧ v.ownBlock ≠ some k) [vs] [.sl b rows2]) (hw2 : ∀ r ∈ rows2, r.length = sz)
    (hb : (rows.length + rows2.length) * by_ ≤ 140737488355328) (hbase : base ≤ w.heap.size) {cs : Array Bool} {nx : Value → World → Prop}
    (h : ∀ v' w', Own w' S base e sz v' (rows ++ rows2) → Chg (fun k => v.ownBlock = some k) w w' → (v'.ownBlock = v.ownBlock ∨ v'.ownBlock = some w.heap.size) → nx v' w') :
    Runs P (builtin .append #[t, t] ty cs [v, vs].toArray) w (builtinR nx) := by
  obtain ⟨crows, h1, h2, h3⟩ := hs.sli hw2
  exact Runs.appC ht hz hzs hby hown h1 h2 h3 hw2 hb hbase h
/-- append of one element that lies in a block of its own. -/
theorem Runs.pushD (ht : P.underlying t = some (.slice e)) (hz : zinfo P e = some (some z, sz, by_)) (hzs : z.cells.size = sz) (hby : 0 < by_) (hown : Own w S base e sz v rows) {k : Nat} {news : List Value} {c : Nat} {eb : TypeId} {row : List D} (hk : Blk w k news eb)
    (hs : Rd w (fun k => S k ∧ v.ownBlock ≠ some k) news row) (hw : row.length = sz) (hb : (rows.length + 1) * by_ ≤ 140737488355328) (hbase : base ≤ w.heap.size) {cs : Array Bool} {nx : Value → World → Prop}
    (h : ∀ v' w', Own w' S base e sz v' (rows ++ [row]) → Chg (fun k => v.ownBlock = some k) w w' → (v'.ownBlock = v.ownBlock ∨ v'.ownBlock = some w.heap.size) → nx v' w') :
    Runs P (builtin .append #[t, t] ty cs [v, .slice (some ⟨k, 0, none⟩) 1 c].toArray) w (builtinR nx) := by
  refine Runs.appC (crows2 := [news]) (rows2 := [row]) ht hz hzs hby hown ⟨some ⟨k, 0, none⟩, c, rfl, by simp, fun j r hj => ⟨k, 0, rfl, ?_⟩⟩ rfl (fun i r d hi hd => ?_) (fun r hr => by simp at hr; subst hr; exact hw) hb hbase h
  · have hj0 : j = 0 := by have := (List.getElem?_eq_some_iff.1 hj).1; simp at this; exact this
    subst hj0
    simp at hj; subst hj
    rw [Nat.zero_mul]
    exact hk.cells (o := 0) (fun j u hj => by simpa using hj)
  · have hi0 : i = 0 := by have := (List.getElem?_eq_some_iff.1 hi).1; simp at this; exact this
    subst hi0
    simp at hi hd; subst hi hd
    exact hs
end

/-! Reading. -/
/-- Data of a type. -/
inductive Conf (P : Program) : TypeId → List D → Prop
  | int {t : TypeId} {k : IntKind} {n : Int} : P.underlying t = some (.int k) → (Lit.int k n).wf = true → Conf P t [.at (.int k n)]
  | str {t : TypeId} {s : ByteArray} : P.underlying t = some .string → Conf P t [.at (.string s)]
  | bool {t : TypeId} {b : Bool} : P.underlying t = some .bool → Conf P t [.at (.bool b)]
  | sl {t e : TypeId} {rows : List (List D)} : P.underlying t = some (.slice e) → (∀ r, r ∈ rows → Conf P e r) → Conf P t [.sl (P.bytesOf e) rows]
  | st {t : TypeId} {fs : Array Field} (ps : List (List D)) : P.underlying t = some (.struct fs) → ps.length = fs.size → (∀ (i : Nat) (f : Field) (p : List D), fs[i]? = some f → ps[i]? = some p → Conf P f.type p) → Conf P t ps.flatten
/-- Fields that lie one behind the other. -/
def tiled (P : Program) : Nat → List Field → Option Nat
  | n, [] => some n
  | n, f :: fs => if f.offset = n then tiled P (n + P.cellsOf f.type) fs else none
def okTy (P : Program) (L : List TypeId) (t : TypeId) : Bool := match P.underlying t with
  | some (.int _) | some .string | some .bool => P.cellsOf t == 1
  | some (.slice e) => L.contains e && decide (0 < P.cellsOf e) && decide (0 < P.bytesOf e)
  | some (.struct fs) => fs.toList.all (fun f => L.contains f.type) && tiled P 0 fs.toList == some (P.cellsOf t)
  | _ => false
section
variable {H : Type} {enc : TypeId × Value → H} {P : Program} {w : World} {base : Nat} {spare : Nat → Bool} {held : Bool}
theorem sl_bound {t e : TypeId} {fuel : Nat} {cs : List Value} {x : DataW H × List MemPlace} (ht : P.underlying t = some (.slice e)) (h : DataW.trod enc P w base spare held fuel t cs = some x) (hs : Small P t x.1) {A : Option Addr} {n c : Nat} (hv : cs = [.slice A n c]) : n ≤ c ∧ n * P.bytesOf e ≤ 140737488355328 := by
  rcases open_slice ht h with ⟨h1, _⟩ | ⟨a, len, cap, m, n', D, Pl, h1, _, hl, _, hmm, rfl, _⟩
  · rw [hv] at h1
    simp only [List.cons.injEq, Value.slice.injEq, and_true] at h1
    obtain ⟨_, rfl, rfl⟩ := h1
    simp
  · rw [hv] at h1
    simp only [List.cons.injEq, Value.slice.injEq, and_true] at h1
    obtain ⟨_, rfl, rfl⟩ := h1
    refine ⟨hl, ?_⟩
    have := hs ((n + (m - n)) * P.bytesOf e) (by simp [DataW.weights, ht])
    have hr : reachBytes ≤ 140737488355328 := by decide
    exact Nat.le_trans (Nat.le_trans (Nat.mul_le_mul_right _ (by omega)) this) hr
theorem tile_flat {S : Nat → Prop} : ∀ (fs : List Field) (n m : Nat) (cs : List Value) (ps : List (List D)), tiled P n fs = some m → cs.length = m → ps.length = fs.length → (∀ (i : Nat) (f : Field) (p : List D), fs[i]? = some f → ps[i]? = some p → Rd w S ((cs.drop f.offset).take (P.cellsOf f.type)) p) → Rd w S (cs.drop n) ps.flatten
  | [], n, m, cs, ps, ht, hl, hp, hr => by
    have : ps = [] := List.length_eq_zero_iff.1 hp
    subst this
    simp only [tiled] at ht
    cases ht
    rw [List.drop_eq_nil_of_le (by omega)]
    exact .nil
  | f :: fs, n, m, cs, [], ht, hl, hp, hr => by simp at hp
  | f :: fs, n, m, cs, p :: ps, ht, hl, hp, hr => by
    simp only [tiled] at ht
    split at ht
    · rename_i ho
      have ih := tile_flat fs _ m cs ps ht hl (by simpa using hp) (fun i f' p' h1 h2 => hr (i + 1) f' p' (by simpa using h1) (by simpa using h2))
      have h0 := hr 0 f p rfl rfl
      rw [ho] at h0
      have := Rd.append h0 ih
      rw [← List.drop_drop, List.take_append_drop] at this
      exact this
    · cases ht
/-- EVERYTHING THAT IS READ IS DATA. -/
theorem rd_all {L : List TypeId} (hL : L.all (okTy P L) = true) : ∀ (m : Nat) (t : TypeId) (fuel : Nat) (cs : List Value) (x : DataW H × List MemPlace), SizeOf.sizeOf x.1 ≤ m → t ∈ L → DataW.trod enc P w base spare held fuel t cs = some x → Small P t x.1 → ∃ ds, Rd w (fun k => k < w.heap.size) cs ds ∧ Conf P t ds := by
  intro m
  induction m with
  | zero =>
    intro t fuel cs x hm
    have : 0 < SizeOf.sizeOf x.1 := by cases x.1 <;> simp <;> omega
    omega
  | succ m ih =>
    intro t fuel cs x hm ht h hs
    have hok := List.all_eq_true.1 hL t ht
    unfold okTy at hok
    split at hok
    · rename_i k hu
      obtain ⟨n, rfl, _, hwf⟩ := DataW.trod_int hu h
      exact ⟨_, .at rfl rfl .nil, .int hu hwf⟩
    · rename_i hu
      obtain ⟨s, rfl, _⟩ := DataW.trod_string hu h
      exact ⟨_, .at rfl rfl .nil, .str hu⟩
    · rename_i hu
      obtain ⟨s, rfl, _⟩ := DataW.trod_bool hu h
      exact ⟨_, .at rfl rfl .nil, .bool hu⟩
    · rename_i e hu
      simp only [Bool.and_eq_true, decide_eq_true_eq, List.contains_iff_mem] at hok
      obtain ⟨v, rows, e3, hsl, h1, h2, hr⟩ := rd_slice' hu rfl hok.1.2 hok.2 h hs
      obtain ⟨A, c, hvA, hlen, hcell⟩ := id hsl
      obtain ⟨hcap, hby⟩ := sl_bound hu h hs (by rw [e3, hvA])
      have key : ∀ i, i < rows.length → ∃ ds, Rd w (fun k => k < w.heap.size) rows[i]! ds ∧ Conf P e ds := fun i hi => by
        obtain ⟨hl0, f, y, hy, hsy, hzy⟩ := hr i rows[i] (List.getElem?_eq_getElem hi)
        have hri : rows[i]! = rows[i] := by simp [hi]
        rw [hri]
        exact ih e f _ y (by omega) hok.1.1 hy hsy
      obtain ⟨E, hE⟩ := choose_lt (α := List D) (p := fun i ds => Rd w (fun k => k < w.heap.size) rows[i]! ds ∧ Conf P e ds) key
      have hwid : ∀ i, i < rows.length → (E i).length = P.cellsOf e := fun i hi => by
        rw [← (hE i hi).1.len]
        have hri : rows[i]! = rows[i] := by simp [hi]
        rw [hri]
        exact (hr i rows[i] (List.getElem?_eq_getElem hi)).1
      have hLE : ((List.range rows.length).map E).length = rows.length := by simp
      refine ⟨[.sl (P.bytesOf e) ((List.range rows.length).map E)], ?_, .sl hu (fun r hr' => ?_)⟩
      · rw [e3]
        refine Rd.mk (sz := P.cellsOf e) (crows := rows) (by rw [hLE]; exact hvA) hLE.symm (by rw [hLE]; exact hlen) (by rw [hLE]; exact hby) (by rw [hLE]; exact hcap) (fun r hr' => ?_) (fun j row hj => ?_) (fun i r d hi hd => ?_)
        · obtain ⟨i, hi, rfl⟩ := List.mem_map.1 hr'
          exact hwid i (List.mem_range.1 hi)
        · obtain ⟨b, o, h3, h4⟩ := hcell j row hj
          have hl := (hr j row hj).1
          have h0 : 0 < row.length := by rw [hl]; exact hok.1.2
          have hc := h4 0 (row[0]'h0) (List.getElem?_eq_getElem _)
          have := World.block_lt_of_cell? w _ hc
          rw [add_at] at this
          exact ⟨b, o, h3, this, this, h4⟩
        · have hil := (List.getElem?_eq_some_iff.1 hi).1
          have h3 := (hE i hil).1
          have h4 : rows[i]! = r := by simp [hi]
          rw [h4] at h3
          simp [hil] at hd
          rw [← hd]; exact h3
      · obtain ⟨i, hi, rfl⟩ := List.mem_map.1 hr'
        exact (hE i (List.mem_range.1 hi)).2
    · rename_i fs hu
      simp only [Bool.and_eq_true, List.all_eq_true, List.contains_iff_mem, beq_iff_eq] at hok
      obtain ⟨xs, n, _, hx, hl, hlen, hfs⟩ := DataW.trod_struct hu h
      have key : ∀ i, i < fs.size → ∃ ds, Rd w (fun k => k < w.heap.size) ((cs.drop fs[i]!.offset).take (P.cellsOf fs[i]!.type)) ds ∧ Conf P fs[i]!.type ds := fun i hi => by
        have hf : fs[i]? = some fs[i] := Array.getElem?_eq_getElem hi
        obtain ⟨n, y, hy, hsy, hzy⟩ := rd_field' hu h hs hf
        have hri : fs[i]! = fs[i] := by simp [hi]
        rw [hri]
        exact ih _ n _ y (by omega) (hok.1 _ (Array.getElem_mem_toList hi)) hy hsy
      obtain ⟨E, hE⟩ := choose_lt (α := List D) (p := fun i ds => Rd w (fun k => k < w.heap.size) ((cs.drop fs[i]!.offset).take (P.cellsOf fs[i]!.type)) ds ∧ Conf P fs[i]!.type ds) key
      have hget : ∀ (i : Nat) (f : Field) (p : List D), fs[i]? = some f → ((List.range fs.size).map E)[i]? = some p → fs[i]! = f ∧ p = E i ∧ i < fs.size := fun i f p h1 h2 => by
        have hi := (Array.getElem?_eq_some_iff.1 h1).1
        refine ⟨by rw [getElem!_pos fs i hi]; exact (Array.getElem?_eq_some_iff.1 h1).2, ?_, hi⟩
        simp [hi] at h2
        exact h2.symm
      refine ⟨((List.range fs.size).map E).flatten, ?_, .st _ hu (by simp) (fun i f p h1 h2 => ?_)⟩
      · have := tile_flat (w := w) (S := fun k => k < w.heap.size) fs.toList 0 (P.cellsOf t) cs ((List.range fs.size).map E) hok.2 hl (by simp) (fun i f p h1 h2 => by
          rw [Array.getElem?_toList] at h1
          obtain ⟨h3, h4, h5⟩ := hget i f p h1 h2
          have h6 := (hE i h5).1
          rw [h3] at h6
          rw [h4]
          exact h6)
        simpa using this
      · obtain ⟨h3, h4, h5⟩ := hget i f p h1 h2
        rw [h4, ← h3]
        exact (hE i h5).2
    · cases hok
end
end Go.Proofs.Vg
/- Chapter 31: goals, procedures, states as trees, and as data. -/
set_option linter.unusedVariables false
set_option linter.unusedSimpArgs false
namespace Go.Proofs.Vg
open Go Go.RowKit

abbrev iD (n : Int) : D := .at (.int .i64 n)
abbrev sD (s : ByteArray) : D := .at (.string s)
abbrev bD (b : Bool) : D := .at (.bool b)
abbrev isD (l : List Int) : D := .sl 8 (l.map fun n => [iD n])

/-- A type. -/
inductive Ty where
  | mk (kind : Int) (name : ByteArray) (args : List Ty)
/-- A goal. -/
inductive G where
  | mk (kind left num : Int) (text : ByteArray) (form : Int) (args : List Int) (kids : List G) (cases : List (List (Int × ByteArray))) (pos : Int)
namespace Ty
def kind : Ty → Int | mk k _ _ => k
def name : Ty → ByteArray | mk _ n _ => n
def args : Ty → List Ty | mk _ _ a => a
end Ty
namespace G
def kind : G → Int | mk k _ _ _ _ _ _ _ _ => k
def left : G → Int | mk _ l _ _ _ _ _ _ _ => l
def num : G → Int | mk _ _ n _ _ _ _ _ _ => n
def text : G → ByteArray | mk _ _ _ t _ _ _ _ _ => t
def form : G → Int | mk _ _ _ _ f _ _ _ _ => f
def args : G → List Int | mk _ _ _ _ _ a _ _ _ => a
def kids : G → List G | mk _ _ _ _ _ _ k _ _ => k
def cases : G → List (List (Int × ByteArray)) | mk _ _ _ _ _ _ _ c _ => c
def pos : G → Int | mk _ _ _ _ _ _ _ _ p => p
def withKids : G → List G → G | mk k l n t f a _ c p, ks => mk k l n t f a ks c p
end G
abbrev encC (c : Int × ByteArray) : List D := [iD c.1, sD c.2]
abbrev casesD (l : List (List (Int × ByteArray))) : D := .sl 24 (l.map fun r => [.sl 24 (r.map encC)])
mutual
def encT : Ty → List D
  | .mk k n a => [iD k, sD n, .sl 48 (encTs a)]
def encTs : List Ty → List (List D)
  | [] => []
  | t :: ts => encT t :: encTs ts
end
mutual
def encG : G → List D
  | .mk k l n t f a ks c p => [iD k, iD l, iD n, sD t, iD f, isD a, .sl 128 (encGs ks), casesD c, iD p]
def encGs : List G → List (List D)
  | [] => []
  | g :: gs => encG g :: encGs gs
end
theorem encTs_map (l : List Ty) : encTs l = l.map encT := by
  induction l with
  | nil => rfl
  | cons t ts ih => simp [encTs, ih]
theorem encGs_map (l : List G) : encGs l = l.map encG := by
  induction l with
  | nil => rfl
  | cons t ts ih => simp [encGs, ih]
theorem encT_eq (t : Ty) : encT t = [iD t.kind, sD t.name, .sl 48 (t.args.map encT)] := by
  cases t; simp [encT, encTs_map, Ty.kind, Ty.name, Ty.args]
theorem encG_eq (g : G) : encG g = [iD g.kind, iD g.left, iD g.num, sD g.text, iD g.form, isD g.args, .sl 128 (g.kids.map encG), casesD g.cases, iD g.pos] := by
  cases g; simp [encG, encGs_map, G.kind, G.left, G.num, G.text, G.form, G.args, G.kids, G.cases, G.pos]
theorem encT_len (t : Ty) : (encT t).length = 3 := by rw [encT_eq]; rfl
theorem encG_len (g : G) : (encG g).length = 9 := by rw [encG_eq]; rfl
/-- Induction over goals; over types. -/
theorem G.ind {p : G → Prop} (h : ∀ g, (∀ k ∈ g.kids, p k) → p g) : ∀ g, p g := by
  intro g
  induction hn : SizeOf.sizeOf g using Nat.strongRecOn generalizing g with
  | _ n ih =>
    refine h g fun k hk => ih _ ?_ k rfl
    have := List.sizeOf_lt_of_mem hk
    cases g
    simp only [G.kids] at this
    simp at hn
    omega
theorem Ty.ind {p : Ty → Prop} (h : ∀ g, (∀ k ∈ g.args, p k) → p g) : ∀ g, p g := by
  intro g
  induction hn : SizeOf.sizeOf g using Nat.strongRecOn generalizing g with
  | _ n ih =>
    refine h g fun k hk => ih _ ?_ k rfl
    have := List.sizeOf_lt_of_mem hk
    cases g
    simp only [Ty.args] at this
    simp at hn
    omega

structure Vr where
  name : ByteArray
  ty : Ty
abbrev Md := Int × Int
structure Pr where
  name : ByteArray
  number : Int
  vars : List Vr
  heads : List Int
  modes : List Md
  det : Int
  body : G
  builtin : ByteArray
  pos : Int
structure Al where
  name : ByteArray
  args : List Int
structure In where
  kind : Int
  alts : List Al
  modes : List Md
  det : Int
abbrev encV (v : Vr) : List D := [sD v.name, iD v.ty.kind, sD v.ty.name, .sl 48 (v.ty.args.map encT)]
abbrev encM (m : Md) : List D := [iD m.1, iD m.2]
abbrev encA (a : Al) : List D := [sD a.name, isD a.args]
abbrev encI (i : In) : List D := [iD i.kind, .sl 40 (i.alts.map encA), .sl 16 (i.modes.map encM), iD i.det]
abbrev encP (p : Pr) : List D := [sD p.name, iD p.number, .sl 64 (p.vars.map encV), isD p.heads, .sl 16 (p.modes.map encM), iD p.det,
  iD p.body.kind, iD p.body.left, iD p.body.num, sD p.body.text, iD p.body.form, isD p.body.args, .sl 128 (p.body.kids.map encG), casesD p.body.cases, iD p.body.pos, sD p.builtin, iD p.pos]
theorem encV_eq (v : Vr) : encV v = sD v.name :: encT v.ty := by rw [encT_eq]
theorem encP_eq (p : Pr) : encP p = [sD p.name, iD p.number, .sl 64 (p.vars.map encV), isD p.heads, .sl 16 (p.modes.map encM), iD p.det] ++ encG p.body ++ [sD p.builtin, iD p.pos] := by rw [encG_eq]; rfl

/-! What reads as data of a type is such a tree. -/
def stF (P : Program) (t : TypeId) : Option (List TypeId) := match P.underlying t with
  | some (.struct fs) => some (fs.toList.map (·.type))
  | _ => none
theorem Conf.st_inv {P : Program} {t : TypeId} {ds : List D} {ts : List TypeId} (h : Conf P t ds) (ht : stF P t = some ts) : ∃ ps : List (List D), ds = ps.flatten ∧ ps.length = ts.length ∧ ∀ (i : Nat) (f : TypeId) (p : List D), ts[i]? = some f → ps[i]? = some p → Conf P f p := by
  unfold stF at ht
  cases h with
  | st ps hu hl hp =>
    rw [hu] at ht
    simp only [Option.some.injEq] at ht
    subst ht
    refine ⟨ps, rfl, by simp [hl], fun i f p h1 h2 => ?_⟩
    simp only [List.getElem?_map, Option.map_eq_some_iff, Array.getElem?_toList] at h1
    obtain ⟨fd, h3, rfl⟩ := h1
    exact hp i fd p h3 h2
  | int hu _ => rw [hu] at ht; cases ht
  | str hu => rw [hu] at ht; cases ht
  | bool hu => rw [hu] at ht; cases ht
  | sl hu _ => rw [hu] at ht; cases ht
theorem Conf.int_inv {P : Program} {t : TypeId} {ds : List D} {k : IntKind} (h : Conf P t ds) (ht : P.underlying t = some (.int k)) : ∃ n, ds = [.at (.int k n)] ∧ (Lit.int k n).wf = true := by
  cases h with
  | st ps hu hl hp => rw [hu] at ht; cases ht
  | int hu hw => rw [hu] at ht; cases ht; exact ⟨_, rfl, hw⟩
  | str hu => rw [hu] at ht; cases ht
  | bool hu => rw [hu] at ht; cases ht
  | sl hu _ => rw [hu] at ht; cases ht
theorem Conf.str_inv {P : Program} {t : TypeId} {ds : List D} (h : Conf P t ds) (ht : P.underlying t = some .string) : ∃ s, ds = [.at (.string s)] := by
  cases h with
  | st ps hu hl hp => rw [hu] at ht; cases ht
  | int hu hw => rw [hu] at ht; cases ht
  | str hu => exact ⟨_, rfl⟩
  | bool hu => rw [hu] at ht; cases ht
  | sl hu _ => rw [hu] at ht; cases ht
theorem Conf.bool_inv {P : Program} {t : TypeId} {ds : List D} (h : Conf P t ds) (ht : P.underlying t = some .bool) : ∃ s, ds = [.at (.bool s)] := by
  cases h with
  | st ps hu hl hp => rw [hu] at ht; cases ht
  | int hu hw => rw [hu] at ht; cases ht
  | str hu => rw [hu] at ht; cases ht
  | bool hu => exact ⟨_, rfl⟩
  | sl hu _ => rw [hu] at ht; cases ht
theorem Conf.sl_inv {P : Program} {t e : TypeId} {ds : List D} {b : Nat} (h : Conf P t ds) (ht : P.underlying t = some (.slice e)) (hb : P.bytesOf e = b) : ∃ rows, ds = [.sl b rows] ∧ ∀ r ∈ rows, Conf P e r := by
  cases h with
  | st ps hu hl hp => rw [hu] at ht; cases ht
  | int hu hw => rw [hu] at ht; cases ht
  | str hu => rw [hu] at ht; cases ht
  | bool hu => rw [hu] at ht; cases ht
  | sl hu hr => rw [hu] at ht; cases ht; exact ⟨_, by rw [hb], hr⟩
theorem all_enc {α : Type} {enc : α → List D} {p : α → Prop} : ∀ {rows : List (List D)}, (∀ r ∈ rows, ∃ x, r = enc x ∧ p x) → ∃ xs : List α, rows = xs.map enc ∧ ∀ x ∈ xs, p x
  | [], _ => ⟨[], rfl, fun x h => by cases h⟩
  | r :: rows, h => by
    obtain ⟨x, h1, h2⟩ := h r List.mem_cons_self
    obtain ⟨xs, h3, h4⟩ := all_enc (rows := rows) (fun r hr => h r (List.mem_cons_of_mem _ hr))
    exact ⟨x :: xs, by rw [h1, h3]; rfl, fun y hy => by
      rcases List.mem_cons.1 hy with rfl | hy
      · exact h2
      · exact h4 y hy⟩
end Go.Proofs.Vg
/- Chapter 31: what is read is goals, procedures, insts. -/
set_option linter.unusedVariables false
set_option linter.unusedSimpArgs false
namespace Go.Proofs.YtcpjojaklpgnkaaGreat
open Go Go.Proofs.Vg Go.RowKit
theorem cf37 : stF Tryz.prog 37 = some [3, 3, 2, 9, 3, 29, 34, 35, 3] := by kernel_rfl
theorem cf93 : stF Tryz.prog 93 = some [3, 9, 91] := by kernel_rfl
theorem cf111 : stF Tryz.prog 111 = some [9, 93] := by kernel_rfl
theorem cf70 : stF Tryz.prog 70 = some [3, 3] := by kernel_rfl
theorem cf39 : stF Tryz.prog 39 = some [9, 3, 32, 29, 33, 3, 37, 9, 3] := by kernel_rfl
theorem cf73 : stF Tryz.prog 73 = some [3, 71, 33, 3] := by kernel_rfl
theorem cf153 : stF Tryz.prog 153 = some [9, 29] := by kernel_rfl
theorem cf108 : stF Tryz.prog 108 = some [2, 9] := by kernel_rfl
theorem cu2 : Tryz.prog.underlying 2 = some (.int .i64) := by kernel_rfl
theorem cu3 : Tryz.prog.underlying 3 = some (.int .i64) := by kernel_rfl
theorem cu9 : Tryz.prog.underlying 9 = some .string := by kernel_rfl
theorem cu29 : Tryz.prog.underlying 29 = some (.slice 3) := by kernel_rfl
theorem cu34 : Tryz.prog.underlying 34 = some (.slice 37) := by kernel_rfl
theorem cu35 : Tryz.prog.underlying 35 = some (.slice 105) := by kernel_rfl
theorem cu105 : Tryz.prog.underlying 105 = some (.slice 108) := by kernel_rfl
theorem cu91 : Tryz.prog.underlying 91 = some (.slice 93) := by kernel_rfl
theorem cu32 : Tryz.prog.underlying 32 = some (.slice 111) := by kernel_rfl
theorem cu33 : Tryz.prog.underlying 33 = some (.slice 70) := by kernel_rfl
theorem cu71 : Tryz.prog.underlying 71 = some (.slice 153) := by kernel_rfl
theorem cu23 : Tryz.prog.underlying 23 = some (.slice 73) := by kernel_rfl
theorem cb3 : Tryz.prog.bytesOf 3 = 8 := by kernel_rfl
theorem cb37 : Tryz.prog.bytesOf 37 = 128 := by kernel_rfl
theorem cb105 : Tryz.prog.bytesOf 105 = 24 := by kernel_rfl
theorem cb108 : Tryz.prog.bytesOf 108 = 24 := by kernel_rfl
theorem cb93 : Tryz.prog.bytesOf 93 = 48 := by kernel_rfl
theorem cb111 : Tryz.prog.bytesOf 111 = 64 := by kernel_rfl
theorem cb70 : Tryz.prog.bytesOf 70 = 16 := by kernel_rfl
theorem cb153 : Tryz.prog.bytesOf 153 = 40 := by kernel_rfl
theorem cb73 : Tryz.prog.bytesOf 73 = 64 := by kernel_rfl
abbrev Cf := Conf Tryz.prog
theorem cf_int {t : TypeId} {ds : List D} (h : Cf t ds) (ht : t = 2 ∨ t = 3) : ∃ n, ds = [iD n] := by
  rcases ht with rfl | rfl
  · obtain ⟨n, h, _⟩ := h.int_inv cu2; exact ⟨n, h⟩
  · obtain ⟨n, h, _⟩ := h.int_inv cu3; exact ⟨n, h⟩
theorem cf_str {ds : List D} (h : Cf 9 ds) : ∃ s, ds = [sD s] := h.str_inv cu9
theorem cf_slice {α : Type} {enc : α → List D} {t e : TypeId} {b : Nat} {ds : List D} (h : Cf t ds) (ht : Tryz.prog.underlying t = some (.slice e)) (hb : Tryz.prog.bytesOf e = b) (hx : ∀ r, Cf e r → ∃ x, r = enc x) : ∃ xs : List α, ds = [.sl b (xs.map enc)] := by
  obtain ⟨rows, h1, h2⟩ := h.sl_inv ht hb
  obtain ⟨xs, h3, _⟩ := all_enc (p := fun _ : α => True) (enc := enc) (fun r hr => let ⟨x, hx⟩ := hx r (h2 r hr); ⟨x, hx, trivial⟩)
  exact ⟨xs, by rw [h1, h3]⟩
theorem cf_ints {ds : List D} (h : Cf 29 ds) : ∃ l, ds = [isD l] := cf_slice h cu29 cb3 (fun r hr => let ⟨n, h⟩ := cf_int hr (.inr rfl); ⟨n, h⟩)
theorem cf_two {t a b : TypeId} {ds : List D} (h : Cf t ds) (ht : stF Tryz.prog t = some [a, b]) : ∃ p q, ds = p ++ q ∧ Cf a p ∧ Cf b q := by
  obtain ⟨ps, h1, h2, h3⟩ := h.st_inv ht
  match ps, h2 with
  | [p, q], _ => exact ⟨p, q, by simp [h1], h3 0 _ _ rfl rfl, h3 1 _ _ rfl rfl⟩
theorem cf_case {ds : List D} (h : Cf 108 ds) : ∃ c, ds = encC c := by
  obtain ⟨p, q, rfl, h1, h2⟩ := cf_two h cf108
  obtain ⟨n, rfl⟩ := cf_int h1 (.inl rfl)
  obtain ⟨s, rfl⟩ := cf_str h2
  exact ⟨(n, s), rfl⟩
theorem cf_mode {ds : List D} (h : Cf 70 ds) : ∃ c, ds = encM c := by
  obtain ⟨p, q, rfl, h1, h2⟩ := cf_two h cf70
  obtain ⟨n, rfl⟩ := cf_int h1 (.inr rfl)
  obtain ⟨m, rfl⟩ := cf_int h2 (.inr rfl)
  exact ⟨(n, m), rfl⟩
theorem cf_alt {ds : List D} (h : Cf 153 ds) : ∃ c, ds = encA c := by
  obtain ⟨p, q, rfl, h1, h2⟩ := cf_two h cf153
  obtain ⟨n, rfl⟩ := cf_str h1
  obtain ⟨m, rfl⟩ := cf_ints h2
  exact ⟨⟨n, m⟩, rfl⟩
theorem cf_cases {ds : List D} (h : Cf 35 ds) : ∃ l, ds = [casesD l] := cf_slice h cu35 cb105 (enc := fun r : List (Int × ByteArray) => [D.sl 24 (r.map encC)]) (fun r hr => cf_slice hr cu105 cb108 (fun r hr => cf_case hr))
theorem cf_inst {ds : List D} (h : Cf 73 ds) : ∃ c, ds = encI c := by
  obtain ⟨ps, h1, h2, h3⟩ := h.st_inv cf73
  match ps, h2 with
  | [p, q, r, s], _ =>
    obtain ⟨n, rfl⟩ := cf_int (h3 0 _ _ rfl rfl) (.inr rfl)
    obtain ⟨al, rfl⟩ := cf_slice (h3 1 _ _ rfl rfl) cu71 cb153 (fun r hr => cf_alt hr)
    obtain ⟨ml, rfl⟩ := cf_slice (h3 2 _ _ rfl rfl) cu33 cb70 (fun r hr => cf_mode hr)
    obtain ⟨d, rfl⟩ := cf_int (h3 3 _ _ rfl rfl) (.inr rfl)
    exact ⟨⟨n, al, ml, d⟩, by simp [h1]⟩
theorem sizeOf_mem_flat {ps : List (List D)} {p : List D} {b : Nat} {rows : List (List D)} {r : List D} (hp : p ∈ ps) (he : D.sl b rows ∈ p) (hr : r ∈ rows) : SizeOf.sizeOf r < SizeOf.sizeOf ps.flatten := by
  have h1 : D.sl b rows ∈ ps.flatten := List.mem_flatten.2 ⟨p, hp, he⟩
  have h2 := List.sizeOf_lt_of_mem h1
  have h3 := List.sizeOf_lt_of_mem hr
  simp at h2
  omega
theorem cf_type : ∀ (m : Nat) {ds : List D}, SizeOf.sizeOf ds ≤ m → Cf 93 ds → ∃ c, ds = encT c := by
  intro m
  induction m with
  | zero => intro ds hm; cases ds <;> simp at hm
  | succ m ih =>
    intro ds hm h
    obtain ⟨ps, h1, h2, h3⟩ := h.st_inv cf93
    match ps, h2 with
    | [p, q, r], _ =>
      obtain ⟨n, rfl⟩ := cf_int (h3 0 _ _ rfl rfl) (.inr rfl)
      obtain ⟨s, rfl⟩ := cf_str (h3 1 _ _ rfl rfl)
      obtain ⟨rows, rfl, hr⟩ := (h3 2 _ _ rfl rfl : Cf 91 r).sl_inv cu91 cb93
      obtain ⟨xs, rfl, _⟩ := all_enc (p := fun _ : Ty => True) (enc := encT) (fun r hrr => by
        have hlt : SizeOf.sizeOf r < SizeOf.sizeOf ds := by rw [h1]; exact sizeOf_mem_flat (p := [D.sl 48 rows]) (by simp) (List.mem_singleton.2 rfl) hrr
        obtain ⟨x, hx⟩ := ih (by omega) (hr r hrr)
        exact ⟨x, hx, trivial⟩)
      exact ⟨.mk n s xs, by rw [h1, encT_eq]; rfl⟩
theorem cf_goal : ∀ (m : Nat) {ds : List D}, SizeOf.sizeOf ds ≤ m → Cf 37 ds → ∃ c, ds = encG c := by
  intro m
  induction m with
  | zero => intro ds hm; cases ds <;> simp at hm
  | succ m ih =>
    intro ds hm h
    obtain ⟨ps, h1, h2, h3⟩ := h.st_inv cf37
    match ps, h2 with
    | [p0, p1, p2, p3, p4, p5, p6, p7, p8], _ =>
      obtain ⟨k, rfl⟩ := cf_int (h3 0 _ _ rfl rfl) (.inr rfl)
      obtain ⟨l, rfl⟩ := cf_int (h3 1 _ _ rfl rfl) (.inr rfl)
      obtain ⟨n, rfl⟩ := cf_int (h3 2 _ _ rfl rfl) (.inl rfl)
      obtain ⟨s, rfl⟩ := cf_str (h3 3 _ _ rfl rfl)
      obtain ⟨f, rfl⟩ := cf_int (h3 4 _ _ rfl rfl) (.inr rfl)
      obtain ⟨a, rfl⟩ := cf_ints (h3 5 _ _ rfl rfl)
      obtain ⟨rows, rfl, hr⟩ := (h3 6 _ _ rfl rfl : Cf 34 p6).sl_inv cu34 cb37
      obtain ⟨c, rfl⟩ := cf_cases (h3 7 _ _ rfl rfl)
      obtain ⟨p, rfl⟩ := cf_int (h3 8 _ _ rfl rfl) (.inr rfl)
      obtain ⟨xs, rfl, _⟩ := all_enc (p := fun _ : G => True) (enc := encG) (fun r hrr => by
        have hlt : SizeOf.sizeOf r < SizeOf.sizeOf ds := by rw [h1]; exact sizeOf_mem_flat (p := [D.sl 128 rows]) (by simp) (List.mem_singleton.2 rfl) hrr
        obtain ⟨x, hx⟩ := ih (by omega) (hr r hrr)
        exact ⟨x, hx, trivial⟩)
      exact ⟨.mk k l n s f a xs c p, by rw [h1, encG_eq]; rfl⟩
theorem cf_var {ds : List D} (h : Cf 111 ds) : ∃ c, ds = encV c := by
  obtain ⟨p, q, rfl, h1, h2⟩ := cf_two h cf111
  obtain ⟨n, rfl⟩ := cf_str h1
  obtain ⟨t, rfl⟩ := cf_type _ (Nat.le_refl _) h2
  exact ⟨⟨n, t⟩, by rw [encV_eq]; rfl⟩
theorem cf_proc {ds : List D} (h : Cf 39 ds) : ∃ c, ds = encP c := by
  obtain ⟨ps, h1, h2, h3⟩ := h.st_inv cf39
  match ps, h2 with
  | [p0, p1, p2, p3, p4, p5, p6, p7, p8], _ =>
    obtain ⟨a, rfl⟩ := cf_str (h3 0 _ _ rfl rfl)
    obtain ⟨b, rfl⟩ := cf_int (h3 1 _ _ rfl rfl) (.inr rfl)
    obtain ⟨v, rfl⟩ := cf_slice (h3 2 _ _ rfl rfl) cu32 cb111 (fun r hr => cf_var hr)
    obtain ⟨hs, rfl⟩ := cf_ints (h3 3 _ _ rfl rfl)
    obtain ⟨ms, rfl⟩ := cf_slice (h3 4 _ _ rfl rfl) cu33 cb70 (fun r hr => cf_mode hr)
    obtain ⟨d, rfl⟩ := cf_int (h3 5 _ _ rfl rfl) (.inr rfl)
    obtain ⟨g, rfl⟩ := cf_goal _ (Nat.le_refl _) (h3 6 _ _ rfl rfl)
    obtain ⟨bi, rfl⟩ := cf_str (h3 7 _ _ rfl rfl)
    obtain ⟨p, rfl⟩ := cf_int (h3 8 _ _ rfl rfl) (.inr rfl)
    exact ⟨⟨a, b, v, hs, ms, d, g, bi, p⟩, by rw [h1, encP_eq]; simp⟩
end Go.Proofs.YtcpjojaklpgnkaaGreat
/- Small things: comparison of a slice with nil, a block whole, an own block's number. -/
set_option linter.unusedVariables false
set_option linter.unusedSimpArgs false
namespace Go.Proofs.Vg
open Go Go.RowKit
section
variable {P : Program} {w w' : World} {t e : TypeId} {x y : Operand} {nx : Value → World → Prop}
theorem run_eq_ptr (ht : P.underlying t = some (.pointer e)) (a : Option Addr) : (Op.equal t (.pointer a) (.pointer none)).run P w = .ok (decide (a = none)) w := by
  unfold Op.equal
  rw [show Op.maxDepth = 9999 + 1 from rfl, Op.equalIn]
  cases a <;> simp [run_underlying ht, Result.andThen]
theorem run_eq_sl (ht : P.underlying t = some (.slice e)) (a : Option Addr) (n c n' c' : Nat) : (Op.equal t (.slice a n c) (.slice none n' c')).run P w = .ok (decide (a = none)) w := by
  unfold Op.equal
  rw [show Op.maxDepth = 9999 + 1 from rfl, Op.equalIn]
  cases a <;> simp [run_underlying ht, Result.andThen]
theorem Runs.ptrEq (ht : P.underlying t = some (.pointer e)) {a : Option Addr} (h : nx (.bool (decide (a = none))) w) : Runs P (do eqGuard .eql t x y (.pointer a) (.pointer none); binOp .eql t (.pointer a) (.pointer none)) w nx := by
  refine ⟨_, w, ?_, h⟩
  simp [eqGuard, binOp, run_eq_ptr ht, Result.andThen]
theorem Runs.ptrNe (ht : P.underlying t = some (.pointer e)) {a : Option Addr} (h : nx (.bool (!decide (a = none))) w) : Runs P (do eqGuard .neq t x y (.pointer a) (.pointer none); binOp .neq t (.pointer a) (.pointer none)) w nx := by
  refine ⟨_, w, ?_, h⟩
  simp [eqGuard, binOp, run_eq_ptr ht, Result.andThen]
theorem Runs.slEq (ht : P.underlying t = some (.slice e)) {a : Option Addr} {n c : Nat} (h : nx (.bool (decide (a = none))) w) : Runs P (do eqGuard .eql t x y (.slice a n c) (.slice none 0 0); binOp .eql t (.slice a n c) (.slice none 0 0)) w nx := by
  refine ⟨_, w, ?_, h⟩
  simp [eqGuard, binOp, run_eq_sl ht, Result.andThen]
theorem Blk.all {b : Nat} {cs : List Value} (h : Blk w b cs e) : cellsAt w ⟨b, 0, none⟩ cs := h.cells (o := 0) (fun j u hj => by simpa using hj)
theorem Blk.at_ {b o : Nat} {cs row : List Value} (h : Blk w b cs e) (hr : (cs.drop o).take row.length = row) : cellsAt w ⟨b, o, none⟩ row := h.cells fun j u hj => by
  rw [← hr, List.getElem?_take] at hj
  split at hj
  · simpa using hj
  · cases hj
theorem agg_cells {cs : List Value} : (Value.agg cs.toArray).cells.toList = cs := rfl
theorem fill_get : ∀ (l : List Value) (k off : Nat) (xs : Array Value) (i : Nat), ((l.zipIdx k).foldl (fun cs (p : Value × Nat) => cs.setIfInBounds (off + p.2) p.1) xs)[i]? = if off + k ≤ i ∧ i < off + k + l.length ∧ i < xs.size then l[i - (off + k)]? else xs[i]?
  | [], k, off, xs, i => by simp; omega
  | v :: l, k, off, xs, i => by
    rw [List.zipIdx_cons, List.foldl_cons, fill_get l (k + 1) off _ i]
    simp only [Array.size_setIfInBounds, List.length_cons]
    by_cases h1 : off + k = i
    · subst h1
      rw [if_neg (by omega)]
      by_cases h2 : off + k < xs.size
      · rw [if_pos ⟨Nat.le_refl _, by omega, h2⟩, Array.getElem?_setIfInBounds_self_of_lt h2]
        simp
      · rw [if_neg (by omega)]
        simp [h2]
    · rw [Array.getElem?_setIfInBounds_ne h1]
      by_cases h2 : off + (k + 1) ≤ i ∧ i < off + (k + 1) + l.length ∧ i < xs.size
      · rw [if_pos h2, if_pos ⟨by omega, by omega, h2.2.2⟩, show i - (off + k) = (i - (off + (k + 1))) + 1 by omega, List.getElem?_cons_succ]
      · rw [if_neg h2, if_neg (by omega)]
/-- A literal slice of one element. -/
theorem Runs.lit1 {ty : TypeId} {n by_ : Nat} {v z : Value} {cs : List Value} {nx : Value → World → Prop} (ht : P.underlying ty = some (.slice e)) (hz : zinfo P e = some (some z, n, by_)) (hzs : z.cells.size = n) (hv : v.cells = cs.toArray) (hn : cs.length = n) (h0 : 0 < n) (hs : n ≤ 1000)
    (h : ∀ w1, Ext w w1 → w1.heap.size = w.heap.size + 1 → Blk w1 w.heap.size cs e → nx (.slice (some ⟨w.heap.size, 0, none⟩) 1 1) w1) : Runs P (Instr.buildSlice ty 1 #[(0, v)]) w nx := by
  refine Runs.lit (parts := [(0, v)]) ht hz (by omega) ?_ (by omega) h
  have hvs : v.cells.size = n := by rw [hv]; simpa using hn
  simp only [Instr.fill, Nat.zero_mul]
  rw [if_neg (by simp [hvs])]
  congr 1
  rw [hv, ← Array.foldl_toList, Array.toList_zipIdx]
  refine Array.ext_getElem? fun i => ?_
  have := fill_get cs 0 0 ((Array.range (1 * n)).map fun j => z.cells[j % z.cells.size]!) i
  simp only [Nat.zero_add] at this ⊢
  rw [this]
  by_cases hi : i < n
  · rw [if_pos ⟨by omega, by omega, by simpa using hi⟩]; simp
  · rw [if_neg (by omega)]
    rw [Array.getElem?_eq_none (by simp; omega)]
    simp; omega
theorem cell1s {A : Option Addr} {n c : Nat} : ∀ u ∈ (Value.slice A n c).cells.toList, u.oneCell' = true := by
  intro u hu
  have : u = .slice A n c := by simpa [Value.cells] using hu
  subst this; rfl
theorem Rd.old {S : Nat → Prop} {cs : List Value} {ds : List D} (h : Rd w S cs ds) : Rd w (fun k => k < w.heap.size) cs ds := h.mono fun _ _ h => h
theorem own_lt {A : Option Addr} {n c k : Nat} (h : (Value.slice A n c).ownBlock = some k) : ∃ a, A = some a ∧ a.block = k := by
  cases A with
  | none => cases h
  | some a => exact ⟨a, rfl, by simpa [Value.ownBlock] using h⟩
end
end Go.Proofs.Vg
/- Own rows: one row's cells turned in place. -/
set_option linter.unusedVariables false
set_option linter.unusedSimpArgs false
namespace Go.Proofs.Vg
open Go Go.RowKit
theorem splice_right (a b : List Value) (o : Nat) (vs : List Value) : splice (a ++ b) (a.length + o) vs = a ++ splice b o vs := by
  unfold splice
  rw [List.take_append, List.drop_append]
  have h1 : a.take (a.length + o) = a := List.take_of_length_le (by omega)
  have h2 : a.drop (a.length + o + vs.length) = [] := List.drop_of_length_le (by omega)
  rw [h1, h2]
  have h3 : a.length + o - a.length = o := by omega
  have h4 : a.length + o + vs.length - a.length = o + vs.length := by omega
  rw [h3, h4]
  simp
theorem splice_left (a b : List Value) (o : Nat) (vs : List Value) (h : o + vs.length ≤ a.length) : splice (a ++ b) o vs = splice a o vs ++ b := by
  unfold splice
  rw [List.take_append_of_le_length (by omega), List.drop_append_of_le_length (by omega)]
  simp
theorem flat_upd {sz : Nat} (vs : List Value) (off : Nat) (hoff : off + vs.length ≤ sz) : ∀ (rows : List (List Value)) (i : Nat) (row : List Value) (rest : List Value), (∀ r ∈ rows, r.length = sz) → rows[i]? = some row →
    splice (rows.flatten ++ rest) (i * sz + off) vs = (rows.set i (splice row off vs)).flatten ++ rest := by
  intro rows
  induction rows with
  | nil => intro i row rest _ h; simp at h
  | cons r rs ih =>
    intro i row rest hr h
    have h0 := hr r List.mem_cons_self
    cases i with
    | zero =>
      simp at h; subst h
      simp only [Nat.zero_mul, Nat.zero_add, List.flatten_cons, List.set_cons_zero, List.append_assoc]
      rw [splice_left _ _ _ _ (by omega)]
    | succ i =>
      have := ih i row rest (fun x hx => hr x (List.mem_cons_of_mem _ hx)) (by simpa using h)
      simp only [List.flatten_cons, List.set_cons_succ, List.append_assoc]
      rw [← this]
      have e : (i + 1) * sz + off = r.length + (i * sz + off) := by rw [h0, Nat.add_mul]; omega
      rw [e, splice_right]
theorem flat_len {sz : Nat} : ∀ (rows : List (List Value)), (∀ r ∈ rows, r.length = sz) → rows.flatten.length = rows.length * sz := by
  intro rows
  induction rows with
  | nil => intro _; simp
  | cons r rs ih => intro h; rw [List.flatten_cons, List.length_append, h r List.mem_cons_self, ih (fun x hx => h x (List.mem_cons_of_mem _ hx)), List.length_cons, Nat.add_mul]; omega
/-- A store into a row that one owns. -/
theorem own_store {w : World} {base e sz n : Nat} {v : Value} {rows : List (List Value)} (h : w.ownsRow base e sz v n rows.flatten) (hr : ∀ r ∈ rows, r.length = sz) {i : Nat} {row : List Value} (hi : rows[i]? = some row) (hsz : 0 < sz) {off : Nat} {vs : List Value} (hoff : off + vs.length ≤ sz) (hvs : 0 < vs.length) :
    ∃ g cap cur, v = .slice (some ⟨g, 0, none⟩) n cap ∧ Blk w g cur e ∧ i * sz + off + vs.length ≤ cur.length ∧ n = rows.length ∧ base ≤ g ∧
      ∀ w', Blk w' g (splice cur (i * sz + off) vs) e → w'.ownsRow base e sz v n (rows.set i (splice row off vs)).flatten := by
  have hfl := flat_len rows hr
  have hil := (List.getElem?_eq_some_iff.1 hi).1
  have hrow : row.length = sz := hr row (List.mem_of_getElem? hi)
  have hn : n = rows.length := by
    have h1 := h.1
    rw [hfl] at h1
    exact (Nat.eq_of_mul_eq_mul_right hsz h1).symm
  rcases h.2 with ⟨h1, h2⟩ | ⟨g, cap, cur, h1, hb, hg, hnc, hm, hs, ht⟩
  · omega
  have hle : n * sz ≤ cap * sz := Nat.mul_le_mul_right sz hnc
  have hcl : cur.toList.length = cap * sz := by simpa using hs
  have hin : i * sz + sz ≤ n * sz := by
    have : (i + 1) * sz ≤ n * sz := Nat.mul_le_mul_right sz (by omega)
    rw [Nat.add_mul] at this; omega
  refine ⟨g, cap, cur.toList, h1, by simpa [Blk] using hg, by omega, hn, hb, fun w' hb' => ?_⟩
  have hset : ∀ r ∈ rows.set i (splice row off vs), r.length = sz := fun r hr' => by
    rcases List.mem_or_eq_of_mem_set hr' with h3 | h3
    · exact hr r h3
    · rw [h3, splice_length _ _ _ (by omega), hrow]
  have hcur : cur.toList = rows.flatten ++ cur.toList.drop (n * sz) := by rw [← ht]; exact (List.take_append_drop _ _).symm
  have hsp : splice cur.toList (i * sz + off) vs = (rows.set i (splice row off vs)).flatten ++ cur.toList.drop (n * sz) := by
    rw [hcur, flat_upd vs off hoff rows i row _ hr hi]
    congr 1
    rw [← hcur]
  have hfs := flat_len _ hset
  rw [List.length_set] at hfs
  refine ⟨by rw [hfs, hn], .inr ⟨g, cap, (splice cur.toList (i * sz + off) vs).toArray, h1, hb, hb', hnc, hm, ?_, ?_⟩⟩
  · rw [List.size_toArray, splice_length _ _ _ (by omega), hcl]
  · rw [hsp, List.take_append_of_le_length (by rw [hfs, hn]; exact Nat.le_refl _), List.take_of_length_le (by rw [hfs, hn]; exact Nat.le_refl _)]
/-- A row of one's own, read. -/
theorem own_row {w : World} {base e sz n : Nat} {v : Value} {rows : List (List Value)} (h : w.ownsRow base e sz v n rows.flatten) (hr : ∀ r ∈ rows, r.length = sz) {i : Nat} {row : List Value} (hi : rows[i]? = some row) (hsz : 0 < sz) (hb : rows.length ≤ 140737488355328) :
    ∃ g cap, v = .slice (some ⟨g, 0, none⟩) n cap ∧ n = rows.length ∧ cellsAt w ⟨g, i * sz, none⟩ row := by
  obtain ⟨g, cap, cur, h1, -, -, hn, -, -⟩ := own_store h hr hi hsz (off := 0) (vs := [.int .i64 0]) (by simp; omega) (by simp)
  have hs := Sli.of_own h rfl hr hn.symm (by omega)
  obtain ⟨A, c, hv, -, hc⟩ := hs
  rw [h1] at hv
  injection hv with hA _ _
  obtain ⟨b, o, hA2, hcc⟩ := hc i row hi
  rw [← hA] at hA2
  cases hA2
  exact ⟨g, cap, h1, hn, by simpa using hcc⟩
end Go.Proofs.Vg
/- A row of one's own: an element read, an element's cells stored. -/
set_option linter.unusedVariables false
set_option linter.unusedSimpArgs false
namespace Go.Proofs.Vg
open Go Go.RowKit
/-- Some data of a row replaced. -/
def spliceD (row : List D) (off : Nat) (ds : List D) : List D := row.take off ++ ds ++ row.drop (off + ds.length)
section
variable {w : World} {S : Nat → Prop} {base e sz : Nat} {v : Value} {rows : List (List D)}
theorem Rd.splice {cs vs : List Value} {row ds : List D} {off : Nat} (h : Rd w S cs row) (hd : Rd w S vs ds) (hoff : off + vs.length ≤ cs.length) : Rd w S (splice cs off vs) (spliceD row off ds) := by
  have hl := h.len
  have hdl := hd.len
  have h1 : row = row.take off ++ row.drop off := (List.take_append_drop _ _).symm
  have h2 := h
  rw [h1] at h2
  have h3 := h2.split
  rw [List.length_take, Nat.min_eq_left (by omega)] at h3
  have h4 : row = row.take (off + ds.length) ++ row.drop (off + ds.length) := (List.take_append_drop _ _).symm
  have h5 := h
  rw [h4] at h5
  have h6 := h5.split
  rw [List.length_take, Nat.min_eq_left (by omega)] at h6
  unfold Go.Proofs.Vg.splice spliceD
  rw [hdl]
  exact (h3.1.append hd).append h6.2
theorem Own.row (h : Own w S base e sz v rows) {i : Nat} {row : List D} (hi : rows[i]? = some row) (hb : rows.length ≤ 140737488355328) :
    ∃ g cap r, v = .slice (some ⟨g, 0, none⟩) rows.length cap ∧ cellsAt w ⟨g, i * sz, none⟩ r ∧ r.length = sz ∧ Rd w (fun k => S k ∧ v.ownBlock ≠ some k) r row := by
  obtain ⟨crows, h2, h3, hz, h4⟩ := h.crows
  have hil : i < crows.length := by rw [h3]; exact (List.getElem?_eq_some_iff.1 hi).1
  obtain ⟨g, cap, h5, h6, h7⟩ := own_row h2 hz (List.getElem?_eq_getElem hil) h.pos (by omega)
  refine ⟨g, cap, crows[i], h5, ?_, hz _ (List.getElem_mem hil), h4 i _ _ (List.getElem?_eq_getElem hil) hi⟩
  simpa using h7
theorem Own.rebase (h : Own w S base e sz v rows) {b : Nat} (hb : b ≤ base) : Own w S b e sz v rows := by
  obtain ⟨⟨crows, h2, h3, h4⟩, h5, h6⟩ := h
  refine ⟨⟨crows, ⟨h2.1, ?_⟩, h3, h4⟩, h5, h6⟩
  rcases h2.2 with h7 | ⟨g, cap, cur, h7, h8, h9⟩
  · exact .inl h7
  · exact .inr ⟨g, cap, cur, h7, Nat.le_trans hb h8, h9⟩
theorem Own.store (h : Own w S base e sz v rows) {i : Nat} {row : List D} (hi : rows[i]? = some row) {off : Nat} {vs : List Value} {ds : List D} (hd : Rd w (fun k => S k ∧ v.ownBlock ≠ some k) vs ds) (hoff : off + vs.length ≤ sz) (hpos : 0 < vs.length) :
    ∃ g cap cur, v = .slice (some ⟨g, 0, none⟩) rows.length cap ∧ Blk w g cur e ∧ i * sz + off + vs.length ≤ cur.length ∧ base ≤ g ∧
      ∀ w', Chg (· = g) w w' → Blk w' g (splice cur (i * sz + off) vs) e → Own w' S base e sz v (rows.set i (spliceD row off ds)) := by
  obtain ⟨crows, h2, h3, hz, h4⟩ := h.crows
  have hil : i < crows.length := by rw [h3]; exact (List.getElem?_eq_some_iff.1 hi).1
  obtain ⟨g, cap, cur, h5, h6, h7, h8, h9, h10⟩ := own_store h2 hz (List.getElem?_eq_getElem hil) h.pos hoff hpos
  refine ⟨g, cap, cur, h5, h6, h7, h9, fun w' hc hb => ?_⟩
  have hvo : v.ownBlock = some g := by rw [h5]; rfl
  have hown := h10 w' hb
  have hrl := hz _ (List.getElem_mem hil)
  have hrd := h4 i _ _ (List.getElem?_eq_getElem hil) hi
  have hnew := hrd.splice hd (by rw [hrl]; exact hoff)
  have tr : ∀ {r : List Value} {d : List D}, Rd w (fun k => S k ∧ v.ownBlock ≠ some k) r d → Rd w' (fun k => S k ∧ v.ownBlock ≠ some k) r d := fun h => h.chg hc (fun k hk _ e => hk.2 (e ▸ hvo))
  refine ⟨⟨_, by rw [List.length_set]; exact hown, by simp [h3], fun j r d hj hd' => ?_⟩, fun r hr => ?_, h.pos⟩
  · by_cases hji : j = i
    · subst hji
      rw [List.getElem?_set_self hil] at hj
      rw [List.getElem?_set_self (by rw [← h3]; exact hil)] at hd'
      cases hj; cases hd'
      exact tr hnew
    · rw [List.getElem?_set_ne (fun e => hji e.symm)] at hj hd'
      exact tr (h4 j r d hj hd')
  · rcases List.mem_or_eq_of_mem_set hr with h11 | h11
    · exact h.wid r h11
    · rw [h11, ← hnew.len, splice_length _ _ _ (by rw [hrl]; exact hoff), hrl]
end
/-- A struct built of parts. -/
theorem Runs.build {P : Program} {w : World} {t : TypeId} {nx : Value → World → Prop} {parts : List (Nat × Value)} {pl : List (Nat × Nat)} {zc cs : Array Value} (h : stInf P t = some (pl, zc)) (hf : Instr.fill (pl.toArray[·]?) zc parts = some cs) (hn : nx (.agg cs) w) : Runs P (Instr.build t parts.toArray) w nx :=
  ⟨_, w, run_build w t _ cs (by rw [built_of h]; exact hf), hn⟩
/-- A slice of ints: its head, its elements. -/
theorem Rd.ints {w : World} {S : Nat → Prop} {v : Value} {xs : List Int} (h : Rd w S [v] [isD xs]) : ∃ A c, v = .slice A xs.length c ∧ xs.length ≤ 140737488355328 ∧ ∀ (i : Nat) (x : Int), xs[i]? = some x → ∃ k o, A = some ⟨k, o, none⟩ ∧ S k ∧ w.cell? ⟨k, o + i, none⟩ = some (.int .i64 x) := by
  obtain ⟨A, c, rfl, h1, -, -⟩ := h.hd
  refine ⟨A, c, by simp, by simpa using h1, fun i x hx => ?_⟩
  obtain ⟨k, o, r, h2, h3, h4, h5, h6⟩ := h.row (j := i) (row := [iD x]) (by simp [hx])
  obtain ⟨u, h7, h8⟩ := h6.get 0 _ rfl
  have := h8.at_inv
  subst this
  refine ⟨k, o, h2, h3, ?_⟩
  have := h5 0 _ h7
  simpa [add_at] using this
section
variable {P : Program} {ρ : Option Nat} {N : Nat} {K : Env} {ds : List Deferred} {w : World} {Φ : Post}
theorem sub_cons {i : Nat} {v : Value} {K' : Env} : ∀ {L : Env}, (L.all fun q => q.1 != i) = true → sub L K' → sub L ((i, v) :: K')
  | [], _, _ => trivial
  | (j, u) :: r, h, hs => by
    simp only [List.all_cons, Bool.and_eq_true, bne_iff_ne, ne_eq] at h
    exact ⟨by simp only [Env.get]; rw [if_neg h.1]; exact hs.1, sub_cons h.2 hs.2⟩
/-- 'for i := range n', as a range over a slice is: i in slot si, n in slot sn. -/
theorem ok_for {id id2 r1 r2 sc si sn st ty1 ty2 ty3 : Nat} {p1 p2 p3 : String} {a1 a2 a3 : Array Edge} {body : Code} {n : Nat} (K0 : Env) (I : Nat → World → Prop)
    (hK : (K0.all fun q => q.1 != si && q.1 != st && q.1 != sc && q.1 != sn) = true) (hK0 : sub K0 K0) (hs : (sc != si && sc != sn && si != sn && st != sn && st != si && decide (sc < N) && decide (si < N) && decide (st < N)) = true)
    (hsub : sub ((si, .int .i64 0) :: (sn, .int .i64 (n : Int)) :: K0) K) (hn : n ≤ 140737488355328) (h0 : I 0 w)
    (hbody : ∀ i W, i < n → I i W → ok P ρ N body ((si, .int .i64 (i : Int)) :: (sn, .int .i64 (n : Int)) :: K0) ds W
      (inBlockN id2 (thenN (fun K' ds' W' => ds' = ds ∧ sub ((si, .int .i64 (i : Int)) :: (sn, .int .i64 (n : Int)) :: K0) K' ∧ I (i + 1) W') (inBlockN id Φ))))
    (hend : ∀ W, I n W → Φ .normal ((sc, .bool false) :: (si, .int .i64 (n : Int)) :: (sn, .int .i64 (n : Int)) :: K0) ds W) :
    ok P ρ N (.block id (.loop (.seq (.region r1 #[{ dst := some sc, op := .binOp .lss 3 (.tmp si) (.tmp sn) 3, type := ty1, pos := p1, after := a1, guard := none }] false)
      (.seq (.cond (.tmp sc) .skip (.exit id)) (.seq (.block id2 body) (.region r2 #[{ dst := some st, op := .binOp .add 3 (.tmp si) (.const (.int .i64 1)) 3, type := ty2, pos := p2, after := a2, guard := none },
        { dst := some si, op := .move (.tmp st), type := ty3, pos := p3, after := a3, guard := none }] false)))))) K ds w Φ := by
  simp only [Bool.and_eq_true, bne_iff_ne, ne_eq, decide_eq_true_eq] at hs
  obtain ⟨⟨⟨⟨⟨⟨⟨h1, h2⟩, h3⟩, h4⟩, h5⟩, h6⟩, h7⟩, h8⟩ := hs
  have hKa : ∀ q ∈ K0, ((¬ q.1 = si ∧ ¬ q.1 = st) ∧ ¬ q.1 = sc) ∧ ¬ q.1 = sn := fun q hq => by simpa using List.all_eq_true.1 hK q hq
  have hK1 : (K0.all fun q => q.1 != si) = true := List.all_eq_true.2 fun q hq => by simpa using (hKa q hq).1.1.1
  have hK2 : (K0.all fun q => q.1 != st) = true := List.all_eq_true.2 fun q hq => by simpa using (hKa q hq).1.1.2
  have hK3 : (K0.all fun q => q.1 != sc) = true := List.all_eq_true.2 fun q hq => by simpa using (hKa q hq).1.2
  have hK4 : (K0.all fun q => q.1 != sn) = true := List.all_eq_true.2 fun q hq => by simpa using (hKa q hq).2
  refine ok_block (ok_loop (fun i : Nat => (si, .int .i64 (i : Int)) :: (sn, .int .i64 (n : Int)) :: K0) (fun i W => i ≤ n ∧ I i W) (fun i => n - i) 0 hsub ⟨Nat.zero_le _, h0⟩ ?_)
  rintro i W ⟨hi, hI⟩
  have g1 : Env.get ((si, .int .i64 (i : Int)) :: (sn, .int .i64 (n : Int)) :: K0) si = some (.int .i64 (i : Int)) := by simp [Env.get]
  have g2 : Env.get ((si, .int .i64 (i : Int)) :: (sn, .int .i64 (n : Int)) :: K0) sn = some (.int .i64 (n : Int)) := by simp [Env.get, Ne.symm h3]
  refine ok_seq (fun M hM => ok_region (ops := [_]) (by simp [dstsOk, h6]) ?_)
  simp only [wpL, opF, ev, g1, g2, binV, putE, true_and]
  refine hM _ _ _ ?_; clear hM M
  have g3 : ev ((sc, .bool (decide ((i : Int) < (n : Int)))) :: (si, .int .i64 (i : Int)) :: (sn, .int .i64 (n : Int)) :: K0) (.tmp sc) = some (.bool (decide ((i : Int) < (n : Int)))) := by simp [ev, Env.get]
  by_cases hlt : i < n
  · refine ok_seq (fun M hM => ok_cond (b := true) (by rw [g3]; simp; omega) (fun _ => ok_skip ?_) (fun h => by cases h))
    refine hM _ _ _ ?_; clear hM M
    refine ok_seq (fun M hM => ok_block (ok_mono (ok_less ((si, .int .i64 (i : Int)) :: (sn, .int .i64 (n : Int)) :: K0) ?_ (hbody i W hlt hI)) ?_))
    · refine ⟨?_, ?_, sub_cons hK3 (sub_cons hK1 (sub_cons hK4 hK0))⟩
      · simp [Env.get, Ne.symm h1]
      · simp [Env.get, Ne.symm h2, Ne.symm h3]
    · have key : ∀ (K' : Env) (ds' : List Deferred) (W' : World), ds' = ds ∧ sub ((si, .int .i64 (i : Int)) :: (sn, .int .i64 (n : Int)) :: K0) K' ∧ I (i + 1) W' → M K' ds' W' := by
        rintro K' ds' W' ⟨rfl, hs', hI'⟩
        have g4 : K'.get si = some (.int .i64 (i : Int)) := hs'.1
        refine hM _ _ _ (ok_region (ops := [_, _]) (by simp [dstsOk, h7, h8]) ?_)
        have hin : inI .i64 ((i : Int) + 1) := by simp only [inI]; omega
        simp only [wpL, opF, ev, g4, binV, putE, true_and, hin, Env.get, if_true, thenN]
        refine ⟨i + 1, ⟨by simp [Env.get], ?_, sub_cons hK1 (sub_cons hK2 hs'.2.2)⟩, ⟨hlt, hI'⟩, by omega⟩
        have := hs'.2.1
        simp [Env.get, Ne.symm h3, Ne.symm h4, this]
      intro e K' ds' W' hp
      cases e with
      | normal => exact key K' ds' W' hp
      | exit j =>
        simp only [inBlockN, thenN] at hp ⊢
        split at hp
        · rename_i hj; subst hj; rw [if_pos rfl]; exact key K' ds' W' hp
        · rename_i hj; rw [if_neg hj]; exact hp
      | goto l => exact hp
      | ret => exact hp
      | panic ch => exact hp
      | outgrown => exact hp
  · refine ok_seq (fun M hM => ok_cond (b := false) (by rw [g3]; simp; omega) (fun h => by cases h) (fun _ => ok_exit ?_))
    obtain rfl : i = n := by omega
    have hdn : decide ((i : Int) < (i : Int)) = false := by simp
    rw [hdn]
    simp only [thenN, inBlockN, if_true]
    exact hend W hI
end
end Go.Proofs.Vg
/- Range over a function that works on cells of its own: the state may change with the world. -/
set_option linter.unusedVariables false
set_option linter.unusedSimpArgs false
namespace Go.Proofs.Vg
open Go Go.RowKit
section
variable {P : Program} {N : Nat} {K : Env} {ds : List Deferred} {w : World} {a : Act} {Φ : Post}
theorem ok_rangeG {S : Type} {g : Operand} {ps : List Nat} {assign body : Code} {gf : FuncId} {cap : List Value} (J : S → World → Prop) (Jx : Code → World → Prop) (s0 : S) (elem : S → List Value) (more fini : S → Prop) (nxt : S → S → Prop) (gen : S → World → S → World → Prop)
    (hg : ev K g = some (.func (.func gf) #[] cap.toArray)) (hen : ∀ (xs : Array Value) (w : World), (callFunc gf xs).run P w = .ok (.enter gf xs) w)
    (hps : ∀ p ∈ ps, p < N) (hel : ∀ s, more s → (elem s).length = ps.length)
    (hst : ∀ s W W', Off w.heap.size W W' → J s W → J s W') (hstx : ∀ c W W', Off w.heap.size W W' → Jx c W → Jx c W') (hgen : ∀ s W s' W', w.heap.size + 1 < W.heap.size → gen s W s' W' → J s W → Keep w.heap.size W W' ∧ J s' W')
    (hJ0 : ∀ W, Ext w W → W.heap.size = w.heap.size + 2 → J s0 W)
    (hround : ∀ s W, more s → J s W → w.heap.size + 1 < W.heap.size → ok P (some (w.heap.size + 1)) N assign (bindE ps (elem s) K) [] W (fun e K1 ds1 W1 => e = .normal ∧ Keep w.heap.size W W1 ∧
      ∀ W2, Off w.heap.size W1 W2 → ok P (some (w.heap.size + 1)) N body K1 ds1 W2 (fun e K3 ds3 W3 => Keep w.heap.size W2 W3 ∧ match e with
        | .normal => ∃ s', nxt s s' ∧ J s' W3
        | .ret => Jx .ret W3
        | .exit id => Jx (.exit id) W3
        | _ => False)))
    (hit : ∀ (J' : S → World → Prop) (Jx' : World → Prop) (W : World), (∀ s W s' W', gen s W s' W' → J' s W → J' s' W') → (∀ s W, J' s W → J s W ∧ w.heap.size + 1 < W.heap.size) → J' s0 W →
      (∀ s W, more s → J' s W → Yields P (w.heap.size + 1) (elem s) W (fun b W' => (b = true ∧ ∃ s', nxt s s' ∧ J' s' W') ∨ (b = false ∧ Jx' W'))) →
      Rets P gf (.func (.yield (w.heap.size + 1)) #[] #[] :: cap) W (fun _ W' => (∃ s, fini s ∧ J' s W') ∨ Jx' W'))
    (hdone : ∀ s W, fini s → J s W → W.heap[w.heap.size]? = some (.deferred (some [])) → Φ .normal K (markOf w.heap.size :: ds) W)
    (hret : ∀ W, Jx .ret W → W.heap[w.heap.size]? = some (.deferred (some [])) → Φ .ret K (markOf w.heap.size :: ds) W)
    (hexit : ∀ id W, Jx (.exit id) W → W.heap[w.heap.size]? = some (.deferred (some [])) → Φ (.exit id) K (markOf w.heap.size :: ds) W) :
    ok P none N (.rangeFunc g ps.toArray assign body) K ds w Φ := by
  intro a ha
  refine wpIn_rangeFunc (fun fn hfn => ?_)
  generalize hn : w.heap.size = n at *
  -- the record
  let rec_ : LoopState → Option Code → Loop := fun st pd => { state := st, pending := pd, fn := fn, tmps := a.tmps, params := ps.toArray, assign := assign, body := body, defers := n }
  let w1 : World := (w.alloc (.deferred (some []))).alloc (.loop (rec_ .ready none))
  have hw1 : Ext w w1 := ⟨rfl, rfl, rfl, by simp [w1]; omega, fun k hk => by
    show ((w.alloc _).alloc _).heap[k]? = _
    rw [Below.heap_alloc _ _ k (by simp; omega), Below.heap_alloc _ _ k hk]⟩
  have hl1 : w1.heap[n + 1]? = some (.loop (rec_ .ready none)) := by
    have := World.alloc_heap_new (w.alloc (.deferred (some []))) (.loop (rec_ .ready none))
    simp only [World.size_alloc, hn] at this
    exact this
  have hd1 : w1.heap[n]? = some (.deferred (some [])) := by
    show ((w.alloc _).alloc _).heap[n]? = _
    rw [Below.heap_alloc _ _ n (by simp; omega)]
    have := World.alloc_heap_new w (.deferred (some []))
    rw [hn] at this
    exact this
  refine ⟨n + 1, [markOf n], w1, { target := .fn (.func gf) cap.toArray, args := #[.func (.yield (n + 1)) #[] #[]] }, w1, gf, #[.func (.yield (n + 1)) #[] #[]] ++ cap.toArray, w1, ?_, ?_, ?_, ?_, fence_depth _ _, ?_⟩
  · have := run_enterLoop_outer (P := P) (w := w) fn a.tmps ps.toArray assign body
    rw [hn] at this
    exact this
  · have he := ev_eval ha hg
    simp only [resolve, rangeCall, he]
    simp [Deferred.ofValue, Act.eval]
  · intro f' _; trivial
  · simp [invoke, hen]
  -- the call
  let J' : S → World → Prop := fun s W => J s W ∧ W.heap[n + 1]? = some (.loop (rec_ .ready none)) ∧ W.heap[n]? = some (.deferred (some []))
  let Jx' : World → Prop := fun W => ∃ c, Jx c W ∧ (c = .ret ∨ ∃ id, c = .exit id) ∧ W.heap[n + 1]? = some (.loop (rec_ .done (some c))) ∧ W.heap[n]? = some (.deferred (some []))
  have hcall := hit J' Jx' w1 (fun s W s' W' he ⟨h1, h2, h3⟩ => by
    obtain ⟨hk, hj⟩ := hgen s W s' W' (Array.getElem?_eq_some_iff.1 h2).1 he h1
    exact ⟨hj, hk.2.trans h2, hk.1.trans h3⟩) (fun s W h => ⟨h.1, (Array.getElem?_eq_some_iff.1 h.2.1).1⟩) ⟨hJ0 w1 hw1 (by simp [w1, hn]), hl1, hd1⟩ (fun s W hm ⟨hj, hl, hd⟩ => by
    -- one round
    have hlt : n + 1 < W.heap.size := (Array.getElem?_eq_some_iff.1 hl).1
    have hy := run_yield (P := P) (args := (elem s).toArray) hl (by simp [rec_, hel s hm])
    refine ⟨fn, _, assign, body, hy, roundIn_of_wpIn trivial ?_⟩
    have hk0 : Kn K N [] { tmps := a.tmps, defers := [] } := ⟨ha.size, rfl, ha.at_⟩
    have hkb := Kn.bind ps (elem s) K a.tmps hps hk0
    have hfold : (((rec_ .ready none).params.zip (elem s).toArray).foldl (fun tmps (x : Tmp × Value) => match x with | (t, a) => tmps.setIfInBounds t a) (rec_ .ready none).tmps) =
        (ps.zip (elem s)).foldl (fun tmps (p : Nat × Value) => tmps.setIfInBounds p.1 p.2) a.tmps := by
      simp only [rec_]
      rw [← Array.foldl_toList]
      simp
    have hra := hround s W hm hj hlt _ hkb
    rw [hfold]
    refine wpIn_mono (F := fence (some (n + 1))) hra ?_
    rintro e a1 W1 ⟨K1, ds1, hk1, rfl, hkeep, hbody⟩
    have hl1' : W1.heap[n + 1]? = some (.loop (rec_ .ready none)) := hkeep.2.trans hl
    have hd1' : W1.heap[n]? = some (.deferred (some [])) := hkeep.1.trans hd
    have hlt1 : n + 1 < W1.heap.size := (Array.getElem?_eq_some_iff.1 hl1').1
    refine ⟨_, run_beginRound hl1' rfl, ?_⟩
    refine wpIn_mono (F := fence (some (n + 1))) (hbody _ (Off.put n W1 _) a1 hk1) ?_
    have hl2 : (W1.putObj (n + 1) (.loop { rec_ .ready none with state := .busy })).heap[n + 1]? = some (.loop (rec_ .busy none)) := World.putObj_heap_same hlt1
    have hd2 : (W1.putObj (n + 1) (.loop { rec_ .ready none with state := .busy })).heap[n]? = some (.deferred (some [])) := (World.putObj_heap_other (by omega)).trans hd1'
    rintro e a3 W3 ⟨K3, ds3, hk3, hkeep3, hpost⟩
    have hl3 := hkeep3.2.trans hl2
    have hd3 := hkeep3.1.trans hd2
    have hlt3 : n + 1 < W3.heap.size := (Array.getElem?_eq_some_iff.1 hl3).1
    cases e with
    | normal =>
      obtain ⟨s', hns, hj'⟩ := hpost
      refine ⟨_, _, run_endRound none hl3, true, rfl, .inl ⟨rfl, s', hns, hst _ _ _ (Off.put n W3 _) hj', World.putObj_heap_same hlt3, (World.putObj_heap_other (by omega)).trans hd3⟩⟩
    | ret =>
      refine ⟨_, _, run_endRound (some .ret) hl3, false, rfl, .inr ⟨rfl, .ret, hstx _ _ _ (Off.put n W3 _) hpost, .inl rfl, World.putObj_heap_same hlt3, (World.putObj_heap_other (by omega)).trans hd3⟩⟩
    | exit id =>
      refine ⟨_, _, run_endRound (some (.exit id)) hl3, false, rfl, .inr ⟨rfl, .exit id, hstx _ _ _ (Off.put n W3 _) hpost, .inr ⟨id, rfl⟩, World.putObj_heap_same hlt3, (World.putObj_heap_other (by omega)).trans hd3⟩⟩
    | goto t => exact hpost.elim
    | panic ch => exact hpost.elim
    | outgrown => exact hpost.elim)
  have hcall' : CallsIn Fence.wide (0 - 1) P gf (#[.func (.yield (n + 1)) #[] #[]] ++ cap.toArray) w1 (callR (fun _ W' => (∃ s, fini s ∧ J' s W') ∨ Jx' W') fun _ _ => False) := by
    refine callsIn_wide.2 ?_
    have : (#[.func (.yield (n + 1)) #[] #[]] ++ cap.toArray : Array Value) = (.func (.yield (n + 1)) #[] #[] :: cap).toArray := by simp
    rw [this]
    exact hcall
  have hka : Kn K N (markOf n :: ds) { a with defers := [markOf n] ++ a.defers } := ⟨ha.size, by simp [ha.defers], ha.at_⟩
  refine CallsIn.mono hcall' ?_
  rintro e W he
  cases e <;> simp only [callR] at he
  · simp only [rangePost]
    rcases he with ⟨s, hf, hj, hl, hd⟩ | ⟨c, hx, hc, hl, hd⟩
    · refine ⟨none, _, run_endLoop hl (by simp [rec_]), ?_⟩
      exact ⟨K, _, hka, hdone s _ hf (hst _ _ _ (Off.put n W _) hj) ((World.putObj_heap_other (by omega)).trans hd)⟩
    · refine ⟨some c, _, run_endLoop hl (by simp [rec_]), ?_⟩
      have hx' := hstx _ _ _ (Off.put n W (.loop { rec_ .done (some c) with state := .exhausted })) hx
      have hd' : (W.putObj (n + 1) (.loop { rec_ .done (some c) with state := .exhausted })).heap[n]? = some (.deferred (some [])) := (World.putObj_heap_other (by omega)).trans hd
      rcases hc with rfl | ⟨id, rfl⟩
      · exact wpIn_ret ⟨K, _, hka, hret _ hx' hd'⟩
      · exact wpIn_exit ⟨K, _, hka, hexit id _ hx' hd'⟩
end
end Go.Proofs.Vg
/- Functions whose results lie in cells. -/
set_option linter.unusedVariables false
set_option linter.unusedSimpArgs false
namespace Go.Proofs.Vg
open Go Go.RowKit
section
variable {P : Program} {N : Nat} {K : Env} {ds : List Deferred} {w : World} {a : Act}
/-- What one result variable reads as. -/
def oneC (P : Program) (K : Env) (w : World) (nx : Value → Prop) : ResultVar → Prop
  | .tmp t => match K.get t with | some v => nx v | none => False
  | .cell t ty => match K.get t with
    | some (.pointer (some a)) => (match aggN P ty with
      | some none => ∃ v, w.cell? a = some v ∧ nx v
      | some (some n) => ∃ cs : List Value, cs.length = n ∧ cellsAt w a cs ∧ nx (.agg cs.toArray)
      | none => False)
    | _ => False
def retC (P : Program) (K : Env) (w : World) (nx : Value → Prop) : List ResultVar → Prop
  | [x] => oneC P K w nx x
  | [x, y] => oneC P K w (fun u => oneC P K w (fun v => nx (.tuple #[u, v])) y) x
  | _ => False

def oneSem (tmps : Array Value) : ResultVar → Sem Value
  | .tmp t => pure (tmps.getD t undef)
  | .cell a t => do loadVar t (← asAddr (tmps.getD a undef))
theorem oneC_run (ha : Kn K N ds a) {nx : Value → Prop} {x : ResultVar} (h : oneC P K w nx x) : ∃ v, (oneSem a.tmps x).run P w = .ok v w ∧ nx v := by
  cases x with
  | tmp t =>
    simp only [oneC] at h
    split at h
    · rename_i v hv
      exact ⟨v, by simp only [oneSem, ha.getD hv]; rfl, h⟩
    · exact h.elim
  | cell t ty =>
    simp only [oneC] at h
    split at h
    · rename_i b hb
      have hb' := ha.getD hb
      have hasAddr : (asAddr (a.tmps.getD t undef)).run P w = .ok b w := by rw [hb']; simp [asAddr]
      split at h
      · rename_i hg
        obtain ⟨v, hc, hn⟩ := h
        refine ⟨v, ?_, hn⟩
        simp only [oneSem, Sem.run_bind, hasAddr, Result.andThen]
        exact load_run hg hc
      · rename_i n hg
        obtain ⟨cs, hl, hc, hn⟩ := h
        refine ⟨_, ?_, hn⟩
        simp only [oneSem, Sem.run_bind, hasAddr, Result.andThen]
        exact loadAgg_run hg hl hc
      · exact h.elim
    · exact h.elim
theorem results_one (fn : Func) (tmps : Array Value) : results fn tmps = (do let vs ← fn.results.mapM (oneSem tmps); pure (if h : vs.size = 1 then vs[0] else .tuple vs)) := by
  unfold results
  congr 1
theorem retC_run {fn : Func} (ha : Kn K N ds a) {nx : Value → Prop} (h : retC P K w nx fn.results.toList) : ∃ v, (results fn a.tmps).run P w = .ok v w ∧ nx v := by
  have hr : fn.results = fn.results.toList.toArray := by simp
  rw [results_one]
  generalize fn.results.toList = l at *
  rw [hr]
  unfold retC at h
  split at h
  · rename_i x
    obtain ⟨v, hv, hn⟩ := oneC_run ha h
    exact ⟨v, by simp [Sem.run_bind, hv, Result.andThen], hn⟩
  · rename_i x y
    obtain ⟨u, hu, hn⟩ := oneC_run ha h
    obtain ⟨v, hv, hn⟩ := oneC_run ha hn
    exact ⟨_, by simp [Sem.run_bind, hu, hv, Result.andThen], hn⟩
  · exact h.elim
/-- A function's end, its results in cells. -/
def finC (P : Program) (rs : List ResultVar) (R : Ending → World → Prop) : Post
  | .normal, K, ds, w => ds = [] ∧ retC P K w (fun v => R (.returned v) w) rs
  | .ret, K, ds, w => ds = [] ∧ retC P K w (fun v => R (.returned v) w) rs
  | .panic ch, K, ds, w => ds = [] ∧ R (.panicked ch) w
  | _, _, _, _ => False
theorem calls_of_okC {f : FuncId} {fn : Func} {c : Code} {args : List Value} {R : Ending → World → Prop} (hf : P.funcs[f]? = some fn) (hb : fn.body = some c) (hn : fn.ntmps = args.length + (fn.ntmps - args.length))
    (h : ok P none fn.ntmps c (argEnv 0 args) [] w (finC P fn.results.toList R)) : Calls P f args.toArray w R := by
  refine (callsIn_wide (n := 0)).1 (callsIn_of_wp hf hb trivial (c := c) ?_)
  have hk := Kn.enter args (fn.ntmps - args.length)
  rw [← hn] at hk
  have hw := h _ hk
  refine wpIn_mono (F := fence none) hw ?_
  rintro e a' w' ⟨K, ds, hk, hp⟩
  cases e <;> simp only [finC] at hp <;> simp only [bodyPost]
  all_goals first | exact hp.elim | skip
  · obtain ⟨rfl, hp⟩ := hp
    obtain ⟨v, hv, hr⟩ := retC_run hk hp
    exact ⟨hk.defers, v, hv, hr⟩
  · obtain ⟨rfl, hp⟩ := hp
    obtain ⟨v, hv, hr⟩ := retC_run hk hp
    exact ⟨hk.defers, v, hv, hr⟩
  · exact ⟨hp.1 ▸ hk.defers, hp.2⟩
theorem rets_of_okC {f : FuncId} {fn : Func} {c : Code} {args : List Value} {R : Value → World → Prop} (hf : P.funcs[f]? = some fn) (hb : fn.body = some c) (hn : fn.ntmps = args.length + (fn.ntmps - args.length))
    (h : ok P none fn.ntmps c (argEnv 0 args) [] w (finC P fn.results.toList (callR R fun _ _ => False))) : Rets P f args w R := calls_of_okC hf hb hn h
end
end Go.Proofs.Vg
