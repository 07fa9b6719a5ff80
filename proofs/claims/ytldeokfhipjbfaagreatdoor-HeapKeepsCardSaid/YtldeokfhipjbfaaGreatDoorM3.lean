/- Part 3 of 12: Vg30, Vg31, Vg32, Vg33, H0, Fq, H1, H2, H3, Vg22. -/
import Derived.Test.YtldeokfhipjbfaaGreatDoorM2
import Derived.Maps.AppendAt
import Derived.Laws.Tables
/- A region that draws its order, where calculations may overflow. -/
set_option linter.unusedVariables false
set_option linter.unusedSimpArgs false
namespace Go.Proofs.Vg
open Go Go.RowKit
def opHW (P : Program) (K : Env) (C : World → Prop) (next : Value → Prop) (type : TypeId) : Op → Prop
  | .binOp .add _ x y _ => (match ev K x, ev K y with
    | some (.int k a), some (.int k' b) => k = k' ∧ next (.int k (k.wrap (a + b)))
    | _, _ => False)
  | .binOp .sub _ x y _ => (match ev K x, ev K y with
    | some (.int k a), some (.int k' b) => k = k' ∧ next (.int k (k.wrap (a - b)))
    | _, _ => False)
  | op => opH P K C next type op
section
variable {P : Program} {ρ : Option Nat} {N : Nat} {K : Env} {ds : List Deferred} {w : World} {ops : List Oper} {n : Nat} {C : World → Prop}
theorem runSub {k : IntKind} {t : TypeId} {x y : Operand} {a b : Int} (w : World) : (do eqGuard .sub t x y (.int k a) (.int k b); binOp .sub t (.int k a) (.int k b) : Sem Value).run P w = .ok (.int k (k.wrap (a - b))) w := by simp [eqGuard, binOp, Op.intArith]
theorem runAdd {k : IntKind} {t : TypeId} {x y : Operand} {a b : Int} (w : World) : (do eqGuard .add t x y (.int k a) (.int k b); binOp .add t (.int k a) (.int k b) : Sem Value).run P w = .ok (.int k (k.wrap (a + b))) w := by simp [eqGuard, binOp, Op.intArith]
theorem yl_run {o : Oper} {op : BinOp} {t : TypeId} {x y : Operand} {z : TypeId} {p q v : Value} (hop : o.op = .binOp op t x y z) (hx : ev K x = some p) (hy : ev K y = some q)
    (hv : ∀ w', (do eqGuard op t x y p q; binOp op t p q : Sem Value).run P w' = .ok v w') {a : Act} (hk1 : Kn K N ds a) (hwt : Region.wanted o (yielded ops.toArray a.tmps) = true) : Yl P ρ ops C o v a := by
  refine .inl ⟨hwt, fun hk => by rw [hop] at hk; simp [kindOf] at hk, fun hk w' hw' => ?_⟩
  rw [Oper.semAt_eq _ _ _ (by simp [hop])]
  simp only [execOp, hop, ev_eval hk1 hx, ev_eval hk1 hy]
  rw [Sem.run_bind, hv]
  exact ⟨rfl, rfl⟩
theorem opHW_still {nx : Value → Prop} {o : Oper} (hN : 0 < N) (h : opHW P K C nx o.type o.op) : ∃ v, nx v ∧ ∀ {a : Act}, Kn K N ds a → Region.wanted o (yielded ops.toArray a.tmps) = true → Yl P ρ ops C o v a := by
  have old : opH P K C nx o.type o.op → ∃ v, nx v ∧ ∀ {a : Act}, Kn K N ds a → Region.wanted o (yielded ops.toArray a.tmps) = true → Yl P ρ ops C o v a := fun h => by
    obtain ⟨v, hv, hs⟩ := opH_still h
    exact ⟨v, hv, fun hk1 hwt => .inl ⟨hwt, fun hk w' hw' => upon1_of_opF hk1 hN (hs.1 hk w' hw'), fun hk w' hw' => upon1_of_opF (C := fun x => x = w') hk1 hN (hs.2 hk w' hw')⟩⟩
  cases hop : o.op
  case binOp op t x y z =>
    rw [hop] at h old
    cases op <;> simp only [opHW] at h
    case add =>
      split at h
      · rename_i k a k' b hx hy
        obtain ⟨rfl, hn⟩ := h
        exact ⟨_, hn, fun hk1 hwt => yl_run hop hx hy (fun w' => runAdd w') hk1 hwt⟩
      · exact h.elim
    case sub =>
      split at h
      · rename_i k a k' b hx hy
        obtain ⟨rfl, hn⟩ := h
        exact ⟨_, hn, fun hk1 hwt => yl_run hop hx hy (fun w' => runSub w') hk1 hwt⟩
      · exact h.elim
    all_goals exact old h
  all_goals
    rw [hop] at h old
    exact old h
/-- What the heads owe, in the order of the text; each leaves one value. -/
def wpHW (P : Program) (ops : List Oper) (C : World → Prop) (M : Env → Prop) : List Oper → Env → Prop
  | [], K => M K
  | o :: rest, K =>
    match o.guard with
    | none => opHW P K C (fun v => wpHW P ops C M rest (putE o.dst v K)) o.type o.op
    | some (j, want) => match gdst ops j with
      | some d => (match K.get d with
        | some (.bool b) => (b = want → opHW P (K.set d (.bool want)) C (fun v => wpHW P ops C M rest (putE o.dst v (K.set d (.bool want)))) o.type o.op) ∧
            (b = !want → wpHW P ops C M rest (putE o.dst undef (K.set d (.bool !want))))
        | some (.tuple _) => wpHW P ops C M rest (putE o.dst undef K)
        | _ => False)
      | none => False

theorem wpHW_steps (hN : 0 < N) {M : Env → Prop} : ∀ (rest : List Oper) (k : Nat) (K : Env) (a : Act), (∀ j, j < rest.length → rest[j]? = ops[k + j]?) → dstsOk N rest = true → Kn K N ds a → wpHW P ops C M rest K →
    ∃ (A : Nat → Act) (V : Nat → Value) (K' : Env), A k = a ∧ (∀ i o, k ≤ i → i < k + rest.length → ops[i]? = some o → A (i + 1) = (A i).put o.dst (V i) ∧ Yl P ρ ops C o (V i) (A i)) ∧
      Kn K' N ds (A (k + rest.length)) ∧ M K'
  | [], k, K, a, _, _, ha, h => ⟨fun _ => a, fun _ => undef, K, rfl, fun i o h1 h2 => by simp at h2; omega, ha, h⟩
  | o :: rest, k, K, a, hr, hd, ha, h => by
    simp only [dstsOk, List.all_cons, Bool.and_eq_true] at hd
    have hd0 : ∀ d, o.dst = some d → d < N := fun d he => by have := hd.1; rw [he] at this; simpa using this
    have ho : ops[k]? = some o := by simpa using (hr 0 (by simp)).symm
    -- one step, whatever it leaves
    have go : ∀ (v : Value) (K1 : Env), Kn K1 N ds a → Yl P ρ ops C o v a → wpHW P ops C M rest (putE o.dst v K1) →
        ∃ (A : Nat → Act) (V : Nat → Value) (K' : Env), A k = a ∧ (∀ i o', k ≤ i → i < k + (o :: rest).length → ops[i]? = some o' → A (i + 1) = (A i).put o'.dst (V i) ∧ Yl P ρ ops C o' (V i) (A i)) ∧
          Kn K' N ds (A (k + (o :: rest).length)) ∧ M K' := by
      intro v K1 hk1 hy hh
      obtain ⟨A, V, K', hA, hst, hk', hM⟩ := wpHW_steps hN rest (k + 1) _ (a.put o.dst v) (fun j hj => by have := hr (j + 1) (by simp; omega); simpa [Nat.add_assoc, Nat.add_comm 1 j] using this) hd.2 (hk1.put hd0) hh
      refine ⟨fun i => if i = k then a else A i, fun i => if i = k then v else V i, K', by simp, fun i o' h1 h2 ho' => ?_, ?_, hM⟩
      · by_cases hi : i = k
        · subst hi
          rw [ho] at ho'; cases ho'
          simp [hA, hy]
        · have h3 := hst i o' (by omega) (by simp at h2; omega) ho'
          simp only [if_neg hi, if_neg (show i + 1 ≠ k by omega)]
          exact h3
      · have : k + (o :: rest).length = k + 1 + rest.length := by simp; omega
        rw [this]
        simp only [if_neg (show k + 1 + rest.length ≠ k by omega)]
        exact hk'
    simp only [wpHW] at h
    cases hg : o.guard with
    | none =>
      rw [hg] at h
      obtain ⟨v, hv, hs⟩ := opHW_still (ρ := ρ) (ops := ops) hN h
      exact go v K ha (hs ha (by simp [Region.wanted, hg])) hv
    | some gd =>
      obtain ⟨j, want⟩ := gd
      rw [hg] at h
      simp only at h
      split at h
      · rename_i d hgd
        have hy : yielded ops.toArray a.tmps j = match a.tmps[d]? with | some (.bool b) => some b | _ => none := by
          unfold gdst at hgd
          split at hgd
          · rename_i oj hj
            simp only [yielded, List.getElem?_toArray, hj, Option.bind_some, hgd]
            split <;> simp_all
          · cases hgd
        split at h
        · rename_i b hb
          have hya : yielded ops.toArray a.tmps j = some b := by rw [hy, ha.at_ _ _ hb]
          by_cases hbw : b = want
          · subst hbw
            have hw : Region.wanted o (yielded ops.toArray a.tmps) = true := by simp [Region.wanted, hg, hya]
            have ha' := ha.set hb
            obtain ⟨v, hv, hs⟩ := opHW_still (ρ := ρ) (ops := ops) hN (h.1 rfl)
            exact go v _ ha' (hs ha' hw) hv
          · have hbn : b = !want := by cases b <;> cases want <;> simp_all
            have hw : Region.wanted o (yielded ops.toArray a.tmps) = false := by simp [Region.wanted, hg, hya, hbw]
            exact go undef _ (ha.set (hbn ▸ hb)) (.inr ⟨hw, rfl⟩) (h.2 hbn)
        · rename_i x hb
          have hya : yielded ops.toArray a.tmps j = none := by rw [hy, ha.at_ _ _ hb]
          have hw : Region.wanted o (yielded ops.toArray a.tmps) = false := by simp [Region.wanted, hg, hya]
          exact go undef _ ha (.inr ⟨hw, rfl⟩) h
        · exact h.elim
      · exact h.elim

theorem wpHW_step {H : Env → Prop} {o : Oper} {rest : List Oper} (h : ∀ X : Value → Env → Prop, X = (fun v K' => wpHW P ops C H rest (putE o.dst v K')) →
    match o.guard with
    | none => opHW P K C (fun v => X v K) o.type o.op
    | some (j, want) => match gdst ops j with
      | some d => (match K.get d with
        | some (.bool b) => (b = want → opHW P (K.set d (.bool want)) C (fun v => X v (K.set d (.bool want))) o.type o.op) ∧
            (b = !want → X undef (K.set d (.bool !want)))
        | some (.tuple _) => X undef K
        | _ => False)
      | none => False) : wpHW P ops C H (o :: rest) K := h _ rfl
theorem wpHW_end {H : Env → Prop} (h : H K) : wpHW P ops C H [] K := h
/-- A REGION THAT DRAWS ITS ORDER: n heads, in worlds of the class C; then the others. -/
theorem ok_drawW (n : Nat) (fl : List (Bool × Bool)) (C : World → Prop) {id : Nat} {Φ : Post} (hm : P.follows .mixedOrders = true) (hN : 0 < N) (hd : dstsOk N ops = true) (hB : drawOk ops n = true) (hfl : flags ops n = fl)
    (hC : C { w with drawn := w.drawn + 1 })
    (h : wpHW P ops C (fun K' => ∀ w', C w' → wpE P ops C (fun ch K w => Φ (.panic ch) K ds w) (fun K w => Φ .normal K ds w) fl (ops.drop n) K' w') (ops.take n) K) :
    ok P ρ N (.region id ops.toArray true) K ds w Φ := by
  intro a ha
  subst hfl
  have hn := (drawOk_parts hB).1
  have hlen : (ops.take n).length = n := by simp; omega
  have hdall : ∀ l, (∀ o ∈ l, o ∈ ops) → dstsOk N l = true := fun l hl => by
    simp only [dstsOk, List.all_eq_true] at hd ⊢
    exact fun o ho => hd o (hl o ho)
  obtain ⟨A, V, K', hA, hst, hk', hM⟩ := wpHW_steps (ρ := ρ) hN (ops.take n) 0 K a (fun j hj => by rw [hlen] at hj; simp [List.getElem?_take, hj]) (hdall _ fun o ho => List.mem_of_mem_take ho) ha h
  rw [hlen] at hst hk'
  simp only [Nat.zero_add] at hst hk'
  refine wpIn_region_any hm ?_
  have := any_of_heads (P := P) (ρ := ρ) (C := C) (Q := lift N Φ) hB (A := A) (V := V) (fun i o hi ho => (hst i o (Nat.zero_le _) hi ho).1) (fun i o hi ho => (hst i o (Nat.zero_le _) hi ho).2)
    (fun w' hw' => wpE_sound (fun _ _ _ h => h) (fun _ _ h => h) _ _ _ _ _ (hdall _ fun o ho => List.mem_of_mem_drop ho) hk' (hM w' hw')) hC
  rw [hA] at this
  simpa using this
end
end Go.Proofs.Vg
/- A region that draws its order, its operations taken in another order than that of the text. -/
set_option linter.unusedVariables false
set_option linter.unusedSimpArgs false
namespace Go.Proofs.Vg
open Go Go.RowKit
/-- The operations with these indices. -/
def pickL (ops : List Oper) : List Nat → List Oper
  | [] => []
  | i :: r => match ops[i]? with
    | some o => o :: pickL ops r
    | none => pickL ops r
def ren (π : Nat → Nat) (o : Oper) : Oper := { o with after := (o.after.toList.map fun e => { e with on := π e.on }).toArray, guard := o.guard.map fun g => (π g.1, g.2) }
def place (σ : List Nat) (i : Nat) : Nat := σ.idxOf i
def reord (ops : List Oper) (σ : List Nat) : List Oper := (pickL ops σ).map (ren (place σ))
def permOk (n : Nat) (σ : List Nat) : Bool := decide (σ.length = n) && (List.range n).all fun i => decide (σ[place σ i]? = some i) && decide (place σ i < n)
section
variable {P : Program} {ρ : Option Nat} {N : Nat} {K : Env} {ds : List Deferred} {w : World} {ops : List Oper} {n : Nat} {C : World → Prop} {σ : List Nat}
theorem pickL_get : ∀ (σ : List Nat), (∀ i ∈ σ, i < ops.length) → ∀ (j : Nat), (pickL ops σ)[j]? = (σ[j]?).bind fun (i : Nat) => ops[i]?
  | [], _, j => by simp [pickL]
  | i :: r, h, j => by
    have hi : ops[i]? = some (ops[i]'(h i List.mem_cons_self)) := List.getElem?_eq_getElem _
    simp only [pickL]
    rw [hi]
    simp only
    cases j with
    | zero => simp [hi]
    | succ j => simpa using pickL_get r (fun i hi => h i (List.mem_cons_of_mem _ hi)) j
theorem permOk_spec (h : permOk n σ = true) : σ.length = n ∧ ∀ i, i < n → σ[place σ i]? = some i ∧ place σ i < n := by
  simp only [permOk, Bool.and_eq_true, decide_eq_true_eq, List.all_eq_true, List.mem_range] at h
  exact h
theorem place_out (h : permOk n σ = true) (hm : ∀ i ∈ σ, i < n) {i : Nat} (hi : n ≤ i) : place σ i = n := by
  have : i ∉ σ := fun hc => by have := hm i hc; omega
  rw [place, List.idxOf_eq_length this, (permOk_spec h).1]
theorem place_inj (h : permOk n σ = true) {i j : Nat} (hi : i < n) (hj : j < n) (e : place σ i = place σ j) : i = j := by
  have h1 := ((permOk_spec h).2 i hi).1
  rw [e, ((permOk_spec h).2 j hj).1] at h1
  exact (Option.some.inj h1).symm
theorem reord_at (h : permOk ops.length σ = true) (hm : ∀ i ∈ σ, i < ops.length) {i : Nat} {o : Oper} (ho : ops[i]? = some o) : (reord ops σ)[place σ i]? = some (ren (place σ) o) := by
  have hi := (List.getElem?_eq_some_iff.1 ho).1
  rw [reord, List.getElem?_map, pickL_get σ hm, ((permOk_spec h).2 i hi).1]
  simp [ho]
theorem reord_len (h : permOk ops.length σ = true) (hm : ∀ i ∈ σ, i < ops.length) : (pickL ops σ).length = ops.length := by
  have : ∀ (σ : List Nat), (∀ i ∈ σ, i < ops.length) → (pickL ops σ).length = σ.length := by
    intro σ
    induction σ with
    | nil => intro _; rfl
    | cons i r ih =>
      intro hm
      simp only [pickL]
      rw [List.getElem?_eq_getElem (hm i List.mem_cons_self)]
      simp [ih (fun i hi => hm i (List.mem_cons_of_mem _ hi))]
  rw [this σ hm, (permOk_spec h).1]
theorem needs_ren (π : Nat → Nat) (o : Oper) : needs (ren π o) = (needs o).map π := by
  unfold needs ren
  simp only
  generalize o.after.toList = l
  induction l with
  | nil => rfl
  | cons e l ih =>
    simp only [List.map_cons, List.filterMap_cons]
    have hb : Region.binds .any { e with on := π e.on } = Region.binds .any e := rfl
    rw [hb]
    cases Region.binds .any e <;> simp [ih]
theorem yielded_ren (h : permOk ops.length σ = true) (hm : ∀ i ∈ σ, i < ops.length) (tmps : Array Value) (j : Nat) : yielded (reord ops σ).toArray tmps (place σ j) = yielded ops.toArray tmps j := by
  rcases Nat.lt_or_ge j ops.length with hj | hj
  · have ho : ops[j]? = some ops[j] := List.getElem?_eq_getElem hj
    have ho' := reord_at h hm ho
    simp only [yielded, List.getElem?_toArray, ho, ho', Option.bind_some]
    rfl
  · have hl : (reord ops σ).length = ops.length := by rw [reord, List.length_map, reord_len h hm]
    rw [place_out h hm hj]
    simp [yielded, List.getElem?_eq_none hj, List.getElem?_eq_none (Nat.le_of_eq hl)]
theorem wanted_ren (h : permOk ops.length σ = true) (hm : ∀ i ∈ σ, i < ops.length) (tmps : Array Value) (o : Oper) : Region.wanted (ren (place σ) o) (yielded (reord ops σ).toArray tmps) = Region.wanted o (yielded ops.toArray tmps) := by
  cases hg : o.guard with
  | none => simp [Region.wanted, ren, hg]
  | some g =>
    obtain ⟨j, b⟩ := g
    simp only [Region.wanted, ren, hg, Option.map_some, yielded_ren h hm]
theorem wpIn_ren {o : Oper} {a : Act} {π : Nat → Nat} {M : Act → World → Prop} {Q : Exit → Act → World → Prop} : (ren π o).wpIn (fence ρ) 0 P a w M Q = o.wpIn (fence ρ) 0 P a w M Q := rfl
theorem any_perm {Q : Exit → Act → World → Prop} (h : permOk ops.length σ = true) (hm : ∀ i ∈ σ, i < ops.length) : ∀ (fuel : Nat) (listed listed' : Array Bool) (a : Act) (w : World), listed.size = ops.length → listed'.size = ops.length → (∀ i, i < ops.length → listed'.getD (place σ i) false = listed.getD i false) →
    wpAnyIn (fence ρ) 0 P .any (reord ops σ).toArray Q fuel listed' a w → wpAnyIn (fence ρ) 0 P .any ops.toArray Q fuel listed a w := by
  have hl : (reord ops σ).length = ops.length := by rw [reord, List.length_map, reord_len h hm]
  have rdy : ∀ (listed listed' : Array Bool), listed.size = ops.length → listed'.size = ops.length → (∀ i, i < ops.length → listed'.getD (place σ i) false = listed.getD i false) → ∀ i, i ∈ Region.ready .any ops.toArray listed → place σ i ∈ Region.ready .any (reord ops σ).toArray listed' := by
    intro listed listed' hs hs' hr i hi
    obtain ⟨o, ho, h1, h2⟩ := (ready_iff hs).1 hi
    have hil := (List.getElem?_eq_some_iff.1 ho).1
    refine (ready_iff (by rw [hs', hl])).2 ⟨_, reord_at h hm ho, by rw [hr i hil]; exact h1, fun k hk => ?_⟩
    rw [needs_ren, List.mem_map] at hk
    obtain ⟨k0, hk0, rfl⟩ := hk
    have h3 := h2 k0 hk0
    have hk0l : k0 < ops.length := by
      rcases Nat.lt_or_ge k0 ops.length with h4 | h4
      · exact h4
      · simp [show ¬ k0 < listed.size by omega] at h3
    rw [hr k0 hk0l]; exact h3
  intro fuel
  induction fuel with
  | zero =>
    intro listed listed' a w hs hs' hr hh
    refine ⟨List.eq_nil_iff_forall_not_mem.2 fun i hi => ?_, hh.2⟩
    have := rdy listed listed' hs hs' hr i hi
    rw [hh.1] at this; cases this
  | succ fuel ih =>
    intro listed listed' a w hs hs' hr hh
    refine ⟨fun h0 => ?_, fun i hi => ?_⟩
    · refine hh.1 (List.eq_nil_iff_forall_not_mem.2 fun i' hi' => ?_)
      obtain ⟨o', ho', h1, h2⟩ := (ready_iff (by rw [hs', hl])).1 hi'
      have hil' : i' < ops.length := by rw [← hl]; exact (List.getElem?_eq_some_iff.1 ho').1
      have hsl : i' < σ.length := by rw [(permOk_spec h).1]; exact hil'
      have hσ : σ[i']? = some σ[i'] := List.getElem?_eq_getElem hsl
      have hi0 := hm _ (List.getElem_mem hsl)
      generalize σ[i'] = i at hσ hi0
      have ho : ops[i]? = some ops[i] := List.getElem?_eq_getElem hi0
      generalize ops[i] = o at ho
      have hoe : o' = ren (place σ) o := by
        rw [reord, List.getElem?_map, pickL_get σ hm, hσ] at ho'
        simp [ho] at ho'
        exact ho'.symm
      have hpi : place σ i = i' := by
        -- no index stands twice
        have key : ∀ (A : List Nat), A.Nodup → (∀ x ∈ A, x < ops.length) → A.length ≤ ops.length := fun A hA hx => by
          have := List.Nodup.length_le_of_subset hA (l₂ := List.range ops.length) (fun x hxx => List.mem_range.2 (hx x hxx))
          simpa using this
        by_cases hd : place σ i = i'
        · exact hd
        · exfalso
          -- the map 'place' has ops.length values, none of them i'
          have hnd : ((List.range ops.length).map (place σ)).Nodup := by
            rw [List.Nodup, List.pairwise_map]
            refine List.Pairwise.imp_of_mem (fun {x y} hx hy hxy e => hxy ?_) List.nodup_range
            exact place_inj h (List.mem_range.1 hx) (List.mem_range.1 hy) e
          have hni : i' ∉ (List.range ops.length).map (place σ) := fun hc => by
            obtain ⟨x, hx, hxe⟩ := List.mem_map.1 hc
            have h5 := ((permOk_spec h).2 x (List.mem_range.1 hx)).1
            rw [hxe, hσ] at h5
            cases h5
            exact hd hxe
          have := key (i' :: (List.range ops.length).map (place σ)) (List.nodup_cons.2 ⟨hni, hnd⟩) (fun x hx => by
            rcases List.mem_cons.1 hx with rfl | hx
            · exact hil'
            · obtain ⟨y, hy, rfl⟩ := List.mem_map.1 hx
              exact ((permOk_spec h).2 y (List.mem_range.1 hy)).2)
          simp at this
          omega
      have : i ∈ Region.ready .any ops.toArray listed := (ready_iff hs).2 ⟨o, ho, by rw [← hr i hi0, hpi]; exact h1, fun k hk => by
        have h3 := h2 (place σ k) (by rw [hoe, needs_ren]; exact List.mem_map.2 ⟨k, hk, rfl⟩)
        rcases Nat.lt_or_ge k ops.length with h4 | h4
        · rw [← hr k h4]; exact h3
        · rw [place_out h hm h4] at h3
          simp [show ¬ ops.length < listed'.size by omega] at h3⟩
      rw [h0] at this; cases this
    · have hi2 := rdy listed listed' hs hs' hr i hi
      obtain ⟨o, ho, h1, h2⟩ := (ready_iff hs).1 hi
      have hil := (List.getElem?_eq_some_iff.1 ho).1
      have hpl := ((permOk_spec h).2 i hil).2
      have h3 := hh.2 _ hi2
      have hR : ∀ k, k < ops.length → (listed'.setIfInBounds (place σ i) true).getD (place σ k) false = (listed.setIfInBounds i true).getD k false := fun k hk => by
        rw [getD_set (by omega), getD_set (by omega), hr k hk]
        congr 1
        by_cases hki : k = i
        · subst hki; simp
        · have : place σ k ≠ place σ i := fun e => hki (place_inj h hk hil e)
          simp [hki, this]
      have h4 := wpOpIn_mono (fun a' w' hh' => ih (listed.setIfInBounds i true) (listed'.setIfInBounds (place σ i) true) a' w' (by simp [hs]) (by simp [hs']) hR hh') h3
      unfold wpOpIn at h4 ⊢
      have ho1 : ops.toArray[i]? = some o := by simpa using ho
      have ho2 : (reord ops σ).toArray[place σ i]? = some (ren (place σ) o) := by simpa using reord_at h hm ho
      simp only [ho1, ho2, wanted_ren h hm] at h4 ⊢
      exact h4
theorem wpT_ren (h : permOk ops.length σ = true) (hm : ∀ i ∈ σ, i < ops.length) {Q : Exit → Act → World → Prop} : ∀ (l : List Oper) (fl : List (Bool × Bool)) (a : Act) (w : World), wpT P ρ ops.toArray C Q fl l a w → wpT P ρ (reord ops σ).toArray C Q fl (l.map (ren (place σ))) a w
  | [], _, _, _, hh => hh
  | o :: l, fl, a, w, hh => by
    simp only [List.map_cons]
    unfold wpT at hh ⊢
    rw [wanted_ren h hm]
    split
    · rename_i hw
      rw [if_pos hw] at hh
      rw [wpIn_ren]
      exact Oper.wpIn_mono (fun a' w' h' => ⟨h'.1, wpT_ren h hm l _ _ _ h'.2⟩) hh
    · rename_i hw
      rw [if_neg hw] at hh
      exact ⟨hh.1, wpT_ren h hm l _ _ _ hh.2⟩
theorem Yl.ren (h : permOk ops.length σ = true) (hm : ∀ i ∈ σ, i < ops.length) {o : Oper} {v : Value} {a : Act} (hy : Yl P ρ ops C o v a) : Yl P ρ (reord ops σ) C (ren (place σ) o) v a := by
  unfold Yl at hy ⊢
  rw [wanted_ren h hm]
  exact hy
theorem wpHL_steps (hN : 0 < N) {M : Env → Prop} (L : List Oper) : ∀ (rest : List Oper) (k : Nat) (K : Env) (a : Act), (∀ j, j < rest.length → rest[j]? = L[k + j]?) → dstsOk N rest = true → Kn K N ds a → wpH P ops C M rest K →
    ∃ (A : Nat → Act) (V : Nat → Value) (K' : Env), A k = a ∧ (∀ i o, k ≤ i → i < k + rest.length → L[i]? = some o → A (i + 1) = (A i).put o.dst (V i) ∧ Yl P ρ ops C o (V i) (A i)) ∧
      Kn K' N ds (A (k + rest.length)) ∧ M K'
  | [], k, K, a, _, _, ha, h => ⟨fun _ => a, fun _ => undef, K, rfl, fun i o h1 h2 => by simp at h2; omega, ha, h⟩
  | o :: rest, k, K, a, hr, hd, ha, h => by
    simp only [dstsOk, List.all_cons, Bool.and_eq_true] at hd
    have hd0 : ∀ d, o.dst = some d → d < N := fun d he => by have := hd.1; rw [he] at this; simpa using this
    have ho : L[k]? = some o := by simpa using (hr 0 (by simp)).symm
    -- one step, whatever it leaves
    have go : ∀ (v : Value) (K1 : Env), Kn K1 N ds a → Yl P ρ ops C o v a → wpH P ops C M rest (putE o.dst v K1) →
        ∃ (A : Nat → Act) (V : Nat → Value) (K' : Env), A k = a ∧ (∀ i o', k ≤ i → i < k + (o :: rest).length → L[i]? = some o' → A (i + 1) = (A i).put o'.dst (V i) ∧ Yl P ρ ops C o' (V i) (A i)) ∧
          Kn K' N ds (A (k + (o :: rest).length)) ∧ M K' := by
      intro v K1 hk1 hy hh
      obtain ⟨A, V, K', hA, hst, hk', hM⟩ := wpHL_steps hN L rest (k + 1) _ (a.put o.dst v) (fun j hj => by have := hr (j + 1) (by simp; omega); simpa [Nat.add_assoc, Nat.add_comm 1 j] using this) hd.2 (hk1.put hd0) hh
      refine ⟨fun i => if i = k then a else A i, fun i => if i = k then v else V i, K', by simp, fun i o' h1 h2 ho' => ?_, ?_, hM⟩
      · by_cases hi : i = k
        · subst hi
          rw [ho] at ho'; cases ho'
          simp [hA, hy]
        · have h3 := hst i o' (by omega) (by simp at h2; omega) ho'
          simp only [if_neg hi, if_neg (show i + 1 ≠ k by omega)]
          exact h3
      · have : k + (o :: rest).length = k + 1 + rest.length := by simp; omega
        rw [this]
        simp only [if_neg (show k + 1 + rest.length ≠ k by omega)]
        exact hk'
    have still : ∀ {K1 : Env} {v : Value}, Kn K1 N ds a → Region.wanted o (yielded ops.toArray a.tmps) = true → StillF P K1 C o.type o.op v → Yl P ρ ops C o v a := fun hk1 hwt hs =>
      .inl ⟨hwt, fun hk w' hw' => upon1_of_opF hk1 hN (hs.1 hk w' hw'), fun hk w' hw' => upon1_of_opF (C := fun x => x = w') hk1 hN (hs.2 hk w' hw')⟩
    simp only [wpH] at h
    cases hg : o.guard with
    | none =>
      rw [hg] at h
      obtain ⟨v, hv, hs⟩ := opH_still h
      exact go v K ha (still ha (by simp [Region.wanted, hg]) hs) hv
    | some gd =>
      obtain ⟨j, want⟩ := gd
      rw [hg] at h
      simp only at h
      split at h
      · rename_i d hgd
        have hy : yielded ops.toArray a.tmps j = match a.tmps[d]? with | some (.bool b) => some b | _ => none := by
          unfold gdst at hgd
          split at hgd
          · rename_i oj hj
            simp only [yielded, List.getElem?_toArray, hj, Option.bind_some, hgd]
            split <;> simp_all
          · cases hgd
        split at h
        · rename_i b hb
          have hya : yielded ops.toArray a.tmps j = some b := by rw [hy, ha.at_ _ _ hb]
          by_cases hbw : b = want
          · subst hbw
            have hw : Region.wanted o (yielded ops.toArray a.tmps) = true := by simp [Region.wanted, hg, hya]
            have ha' := ha.set hb
            obtain ⟨v, hv, hs⟩ := opH_still (h.1 rfl)
            exact go v _ ha' (still ha' hw hs) hv
          · have hbn : b = !want := by cases b <;> cases want <;> simp_all
            have hw : Region.wanted o (yielded ops.toArray a.tmps) = false := by simp [Region.wanted, hg, hya, hbw]
            exact go undef _ (ha.set (hbn ▸ hb)) (.inr ⟨hw, rfl⟩) (h.2 hbn)
        · rename_i x hb
          have hya : yielded ops.toArray a.tmps j = none := by rw [hy, ha.at_ _ _ hb]
          have hw : Region.wanted o (yielded ops.toArray a.tmps) = false := by simp [Region.wanted, hg, hya]
          exact go undef _ ha (.inr ⟨hw, rfl⟩) h
        · exact h.elim
      · exact h.elim


theorem any_of_heads0 {V : Nat → Value} {Q : Exit → Act → World → Prop} (h : drawOk ops n = true) (hk : ∀ k, k < n → kindAt ops k ≠ 2) {A : Nat → Act} (step : ∀ i o, i < n → ops[i]? = some o → A (i + 1) = (A i).put o.dst (V i))
    (still : ∀ i o, i < n → ops[i]? = some o → Yl P ρ ops C o (V i) (A i)) {w : World} (tail : wpT P ρ ops.toArray C Q (flags ops n) (ops.drop n) (A n) w) (hw : C w) :
    wpAnyIn (fence ρ) 0 P .any ops.toArray Q ops.length (Array.replicate ops.length false) (A 0) w := by
  obtain ⟨hn, hheads, hdist, _⟩ := drawOk_parts h
  have get : ∀ i, i < ops.length → ∃ o, ops[i]? = some o := fun i hi => ⟨ops[i]'hi, List.getElem?_eq_getElem hi⟩
  have lexA : ∀ i, i ≤ n → Sl ops n (A 0) V (fun k => decide (k < i)) (A i) := by
    intro i
    induction i with
    | zero => intro _; exact ⟨rfl, rfl, fun k t _ hs => by simp at hs, fun t _ => rfl⟩
    | succ i ih =>
      intro hi
      obtain ⟨o, ho⟩ := get i (by omega)
      rw [step i o (by omega) ho]
      exact (ih (by omega)).put hdist (by omega) ho (fun k _ => by simp; omega)
  have h0 : ∀ k, (Array.replicate ops.length false).getD k false = false := fun k => by
    rcases Nat.lt_or_ge k ops.length with h | h
    · simp [h]
    · simp [h]
  have hmiss : (missing n (Array.replicate ops.length false)).length = n := by
    simp only [missing, h0]
    have : (List.range n).filter (fun k => !false) = List.range n := List.filter_eq_self.2 (fun _ _ => rfl)
    rw [this]
    simp
  have hA := lexA n (Nat.le_refl _)
  have hsl : Sl ops n (A 0) V (fun k => (Array.replicate ops.length false).getD k false) (A 0) := ⟨rfl, rfl, fun k t _ hs => (by rw [h0] at hs; cases hs), fun t _ => rfl⟩
  refine phaseB h lexA still _ _ n (A 0) (A n) w (by simp) (Nat.le_refl _) hn (fun k hk1 hk2 => by rw [h0]; simp; omega) (fun j o ho hj => by simp only [h0] at hj; cases hj) (fun k hk' _ => hk k hk') (fun _ => hw) ⟨hsl.size, fun s _ => fun k hk hS hd hlt => hsl.come k s hk hS hd hlt, fun s _ hr => hsl.rest s hr⟩ ?_ (by simpa using tail) (by rw [hmiss]; omega)
  refine ⟨by rw [hA.size], by rw [hA.defers], fun s k hk _ hd hlt => hA.come k s hk (by simpa using hk) hd hlt, fun s hr => ?_⟩
  exact (hA.rest s (fun k hk _ => hr k hk (h0 k)))
def noCallB (ops : List Oper) (n : Nat) : Bool := (List.range n).all fun k => kindAt ops k != 2
def orderOk (ops : List Oper) (σ : List Nat) (n : Nat) : Bool := permOk ops.length σ && σ.all (· < ops.length) && drawOk (reord ops σ) n
/-- A REGION THAT DRAWS ITS ORDER, taken in the order 'σ': n heads, then the others. -/
theorem ok_drawP (σ : List Nat) (n : Nat) (fl : List (Bool × Bool)) (C : World → Prop) {id : Nat} {Φ : Post} (hm : P.follows .mixedOrders = true) (hN : 0 < N) (hd : dstsOk N ops = true) (hB : orderOk ops σ n = true) (hfl : flags (reord ops σ) n = fl)
    (hC : C { w with drawn := w.drawn + 1 })
    (h : wpH P ops C (fun K' => ∀ w', C w' → wpE P ops C (fun ch K w => Φ (.panic ch) K ds w) (fun K w => Φ .normal K ds w) fl ((pickL ops σ).drop n) K' w') ((pickL ops σ).take n) K) :
    ok P ρ N (.region id ops.toArray true) K ds w Φ := by
  intro a ha
  subst hfl
  simp only [orderOk, Bool.and_eq_true] at hB
  obtain ⟨⟨hp, hσ⟩, hB⟩ := hB
  have hmm : ∀ i ∈ σ, i < ops.length := fun i hi => by simpa using List.all_eq_true.1 hσ i hi
  have hn := (drawOk_parts hB).1
  have hl : (reord ops σ).length = ops.length := by rw [reord, List.length_map, reord_len hp hmm]
  have hpl := reord_len hp hmm
  have hlen : ((pickL ops σ).take n).length = n := by simp [hpl]; omega
  have hdall : ∀ l, (∀ o ∈ l, o ∈ pickL ops σ) → dstsOk N l = true := fun l hl => by
    simp only [dstsOk, List.all_eq_true] at hd ⊢
    intro o ho
    obtain ⟨j, hj⟩ := List.mem_iff_getElem?.1 (hl o ho)
    rw [pickL_get σ hmm] at hj
    cases hs : σ[j]? with
    | none => rw [hs] at hj; simp at hj
    | some i => rw [hs] at hj; simp at hj; exact hd o (List.mem_of_getElem? hj)
  obtain ⟨A, V, K', hA, hst, hk', hM⟩ := wpHL_steps (ρ := ρ) hN (pickL ops σ) ((pickL ops σ).take n) 0 K a (fun j hj => by rw [hlen] at hj; simp [List.getElem?_take, hj]) (hdall _ fun o ho => List.mem_of_mem_take ho) ha h
  rw [hlen] at hst hk'
  simp only [Nat.zero_add] at hst hk'
  refine wpIn_region_any hm ?_
  have orig : ∀ (i : Nat) (o : Oper), (reord ops σ)[i]? = some o → ∃ o0, (pickL ops σ)[i]? = some o0 ∧ o = ren (place σ) o0 := fun i o ho => by
    rw [reord, List.getElem?_map] at ho
    cases hx : (pickL ops σ)[i]? with
    | none => rw [hx] at ho; simp at ho
    | some o0 => rw [hx] at ho; simp at ho; exact ⟨o0, rfl, ho.symm⟩
  have := any_of_heads (P := P) (ρ := ρ) (C := C) (Q := lift N Φ) hB (A := A) (V := V) (fun i o hi ho => by
      obtain ⟨o0, h0, rfl⟩ := orig i o ho
      exact (hst i o0 (Nat.zero_le _) hi h0).1) (fun i o hi ho => by
      obtain ⟨o0, h0, rfl⟩ := orig i o ho
      exact (hst i o0 (Nat.zero_le _) hi h0).2.ren hp hmm)
    (fun w' hw' => by
      have := wpE_sound (ρ := ρ) (Φ := Φ) (ops := ops) (C := C) (pan := fun ch K w => Φ (.panic ch) K ds w) (M := fun K w => Φ .normal K ds w) (fun _ _ _ h => h) (fun _ _ h => h) ((pickL ops σ).drop n) _ _ _ _ (hdall _ fun o ho => List.mem_of_mem_drop ho) hk' (hM w' hw')
      have := wpT_ren hp hmm _ _ _ _ this
      rw [List.map_drop] at this
      exact this) hC
  rw [hA] at this
  rw [hl] at this
  have h8 := any_perm (Q := lift N Φ) hp hmm ops.length (Array.replicate ops.length false) (Array.replicate ops.length false) a _ (by simp) (by simp) (fun i hi => ?_) this
  · simpa using h8
  · have h9 := ((permOk_spec hp).2 i hi).2
    simp [hi, h9]
/-- A REGION THAT DRAWS ITS ORDER, taken in the order 'σ': n heads without calls, then the others, in the world as it was. -/
theorem ok_drawQ (σ : List Nat) (n : Nat) (fl : List (Bool × Bool)) (C : World → Prop) {id : Nat} {Φ : Post} (hm : P.follows .mixedOrders = true) (hN : 0 < N) (hd : dstsOk N ops = true) (hB : orderOk ops σ n = true) (hnc : noCallB (reord ops σ) n = true) (hfl : flags (reord ops σ) n = fl)
    (hC : C { w with drawn := w.drawn + 1 })
    (h : wpH P ops C (fun K' => wpE P ops C (fun ch K w => Φ (.panic ch) K ds w) (fun K w => Φ .normal K ds w) fl ((pickL ops σ).drop n) K' { w with drawn := w.drawn + 1 }) ((pickL ops σ).take n) K) :
    ok P ρ N (.region id ops.toArray true) K ds w Φ := by
  intro a ha
  subst hfl
  simp only [orderOk, Bool.and_eq_true] at hB
  obtain ⟨⟨hp, hσ⟩, hB⟩ := hB
  have hmm : ∀ i ∈ σ, i < ops.length := fun i hi => by simpa using List.all_eq_true.1 hσ i hi
  have hn := (drawOk_parts hB).1
  have hl : (reord ops σ).length = ops.length := by rw [reord, List.length_map, reord_len hp hmm]
  have hpl := reord_len hp hmm
  have hlen : ((pickL ops σ).take n).length = n := by simp [hpl]; omega
  have hdall : ∀ l, (∀ o ∈ l, o ∈ pickL ops σ) → dstsOk N l = true := fun l hl => by
    simp only [dstsOk, List.all_eq_true] at hd ⊢
    intro o ho
    obtain ⟨j, hj⟩ := List.mem_iff_getElem?.1 (hl o ho)
    rw [pickL_get σ hmm] at hj
    cases hs : σ[j]? with
    | none => rw [hs] at hj; simp at hj
    | some i => rw [hs] at hj; simp at hj; exact hd o (List.mem_of_getElem? hj)
  obtain ⟨A, V, K', hA, hst, hk', hM⟩ := wpHL_steps (ρ := ρ) hN (pickL ops σ) ((pickL ops σ).take n) 0 K a (fun j hj => by rw [hlen] at hj; simp [List.getElem?_take, hj]) (hdall _ fun o ho => List.mem_of_mem_take ho) ha h
  rw [hlen] at hst hk'
  simp only [Nat.zero_add] at hst hk'
  refine wpIn_region_any hm ?_
  have orig : ∀ (i : Nat) (o : Oper), (reord ops σ)[i]? = some o → ∃ o0, (pickL ops σ)[i]? = some o0 ∧ o = ren (place σ) o0 := fun i o ho => by
    rw [reord, List.getElem?_map] at ho
    cases hx : (pickL ops σ)[i]? with
    | none => rw [hx] at ho; simp at ho
    | some o0 => rw [hx] at ho; simp at ho; exact ⟨o0, rfl, ho.symm⟩
  have := any_of_heads0 (P := P) (ρ := ρ) (C := C) (Q := lift N Φ) hB (fun k hk => by have := List.all_eq_true.1 hnc k (List.mem_range.2 hk); simpa using this) (A := A) (V := V) (fun i o hi ho => by
      obtain ⟨o0, h0, rfl⟩ := orig i o ho
      exact (hst i o0 (Nat.zero_le _) hi h0).1) (fun i o hi ho => by
      obtain ⟨o0, h0, rfl⟩ := orig i o ho
      exact (hst i o0 (Nat.zero_le _) hi h0).2.ren hp hmm)
    (by
      have := wpE_sound (ρ := ρ) (Φ := Φ) (ops := ops) (C := C) (pan := fun ch K w => Φ (.panic ch) K ds w) (M := fun K w => Φ .normal K ds w) (fun _ _ _ h => h) (fun _ _ h => h) ((pickL ops σ).drop n) _ _ _ _ (hdall _ fun o ho => List.mem_of_mem_drop ho) hk' hM
      have := wpT_ren hp hmm _ _ _ _ this
      rw [List.map_drop] at this
      exact this) hC
  rw [hA] at this
  rw [hl] at this
  have h8 := any_perm (Q := lift N Φ) hp hmm ops.length (Array.replicate ops.length false) (Array.replicate ops.length false) a _ (by simp) (by simp) (fun i hi => ?_) this
  · simpa using h8
  · have h9 := ((permOk_spec hp).2 i hi).2
    simp [hi, h9]
end
end Go.Proofs.Vg
/- Short names, for short texts. -/
set_option linter.unusedVariables false
set_option linter.defProp false
namespace Go.Proofs.Vg
open Go Go.RowKit
def zL := @wpL_step
def zH := @wpH_step
def zE := @wpE_step
def zl := @wpL_end
def zh := @wpH_end
def ze := @wpE_end
def zA := @wpLW_step
def zB := @wpHW_step
def za := @wpLW_end
def zb := @wpHW_end
def z2 := @ofX2
def z3 := @ofX3
end Go.Proofs.Vg
/- The equations of the calculus in one: for short texts. -/
set_option linter.unusedVariables false
set_option linter.defProp false
namespace Go.Proofs.Vg
open Go Go.RowKit
def zU := And.intro @oweC.eq_1 (And.intro @oweC.eq_2 (And.intro @oweP.eq_1 (And.intro @oweP.eq_2 (And.intro @opF.eq_1 (And.intro @opF.eq_2 (And.intro @opF.eq_3 (And.intro @opF.eq_4 (And.intro @opF.eq_5 (And.intro @opF.eq_6 (And.intro @opF.eq_7 (And.intro @opF.eq_8 (And.intro @opF.eq_9 (And.intro @opF.eq_10 (And.intro @opF.eq_11 (And.intro @opF.eq_12 (And.intro @opF.eq_13 (And.intro @opF.eq_14 (And.intro @opF.eq_15 (And.intro @opF.eq_16 (And.intro @opF.eq_17 (And.intro @opF.eq_18 (And.intro @opF.eq_19 (And.intro @opF.eq_20 (And.intro @opF.eq_21 (And.intro @opF.eq_22 (And.intro @opF.eq_23 (And.intro @opF.eq_24 (And.intro @opF.eq_25 (And.intro @opF.eq_26 (And.intro @opF.eq_27 (And.intro @opF.eq_28 (And.intro @opF.eq_29 (And.intro @opF.eq_30 (And.intro @opF.eq_31 (And.intro @opF.eq_32 (And.intro @opH.eq_1 (And.intro @opH.eq_2 (And.intro @opH.eq_3 (And.intro @opH.eq_4 (And.intro @opH.eq_5 (And.intro @opH.eq_6 (And.intro @opH.eq_7 (And.intro @opH.eq_8 (And.intro @opH.eq_9 (And.intro @opH.eq_10 (And.intro @opH.eq_11 (And.intro @opH.eq_12 (And.intro @opH.eq_13 (And.intro @opH.eq_14 (And.intro @opH.eq_15 (And.intro @opH.eq_16 (And.intro @ev.eq_1 (And.intro @ev.eq_2 (And.intro @ev.eq_3 (And.intro @ev.eq_4 (And.intro @evs.eq_1 (And.intro @evs.eq_2 (And.intro @evp.eq_1 (And.intro @evp.eq_2 (And.intro @evo.eq_1 (And.intro @evo.eq_2 (And.intro @Env.get.eq_1 (And.intro @Env.get.eq_2 (And.intro @Env.set.eq_1 (And.intro @Env.set.eq_2 (And.intro @putE.eq_1 (And.intro @putE.eq_2 (And.intro @gdst.eq_1 (And.intro @thenN.eq_1 (And.intro @thenN.eq_2 (And.intro @inBlockN.eq_1 (And.intro @inBlockN.eq_2 (And.intro @argEnv.eq_1 (And.intro @argEnv.eq_2 (And.intro @builtinR.eq_1 (And.intro @builtinR.eq_2 (And.intro @retE.eq_1 (And.intro @retE.eq_2 (And.intro @retE.eq_3 (And.intro @retE.eq_4 (And.intro @fin.eq_1 (And.intro @fin.eq_2 (And.intro @fin.eq_3 (And.intro @finC.eq_1 (And.intro @finC.eq_2 (And.intro @finC.eq_3 (And.intro @retC.eq_1 (And.intro @retC.eq_2 (And.intro @oneC.eq_1 (And.intro @oneC.eq_2 (And.intro @callR.eq_1 (And.intro @callR.eq_2 (And.intro @callR.eq_3 (And.intro @opHW.eq_1 (And.intro @opHW.eq_2 (And.intro @opHW.eq_3 (And.intro @opFW.eq_1 (And.intro @opFW.eq_2 (And.intro @opFW.eq_3 (And.intro S0 (And.intro S1 (And.intro @forall_const.{1} (@forall_const.{0})))))))))))))))))))))))))))))))))))))))))))))))))))))))))))))))))))))))))))))))))))))))))))))))))))))))
def zW := And.intro @wpL.eq_1 (And.intro @wpL.eq_2 (And.intro @wpH.eq_1 (And.intro @wpH.eq_2 (And.intro @wpE.eq_1 (@wpE.eq_2)))))
end Go.Proofs.Vg
/- The heap of words, in plain Lean; and how it lies in memory. -/
set_option linter.unusedVariables false
set_option linter.unusedSimpArgs false
namespace Go.Proofs.Vg
open Go Go.RowKit

section
variable {P : Program} {w : World} {t e : TypeId} {x y : Operand} {nx : Value → World → Prop}
theorem run_eq_ptr (ht : P.underlying t = some (.pointer e)) (a : Option Addr) : (Op.equal t (.pointer a) (.pointer none)).run P w = .ok (decide (a = none)) w := by
  unfold Op.equal
  rw [show Op.maxDepth = 9999 + 1 from rfl, Op.equalIn]
  cases a <;> simp [run_underlying ht, Result.andThen]
theorem run_eq_sl (ht : P.underlying t = some (.slice e)) (a : Option Addr) (n c n' c' : Nat) : (Op.equal t (.slice a n c) (.slice none n' c')).run P w = .ok (decide (a = none)) w := by
  unfold Op.equal
  rw [show Op.maxDepth = 9999 + 1 from rfl, Op.equalIn]
  cases a <;> simp [run_underlying ht, Result.andThen]
theorem Runs.ptrEq (ht : P.underlying t = some (.pointer e)) {a : Option Addr} (h : nx (.bool (decide (a = none))) w) : Runs P (do eqGuard .eql t x y (.pointer a) (.pointer none); binOp .eql t (.pointer a) (.pointer none)) w nx := by
  refine ⟨_, w, ?_, h⟩
  simp [eqGuard, binOp, run_eq_ptr ht, Result.andThen]
theorem Runs.ptrNe (ht : P.underlying t = some (.pointer e)) {a : Option Addr} (h : nx (.bool (!decide (a = none))) w) : Runs P (do eqGuard .neq t x y (.pointer a) (.pointer none); binOp .neq t (.pointer a) (.pointer none)) w nx := by
  refine ⟨_, w, ?_, h⟩
  simp [eqGuard, binOp, run_eq_ptr ht, Result.andThen]
theorem Runs.slEq (ht : P.underlying t = some (.slice e)) {a : Option Addr} {n c : Nat} (h : nx (.bool (decide (a = none))) w) : Runs P (do eqGuard .eql t x y (.slice a n c) (.slice none 0 0); binOp .eql t (.slice a n c) (.slice none 0 0)) w nx := by
  refine ⟨_, w, ?_, h⟩
  simp [eqGuard, binOp, run_eq_sl ht, Result.andThen]
end

structure Wd where
  k : Int
  n : Int
  r : Int
def Wd.row (x : Wd) : List Value := [.int .i64 x.k, .int .i64 x.n, .int .i64 x.r]
@[simp] theorem Wd.row_length (x : Wd) : x.row.length = 3 := rfl
inductive Ob where
  | text (s : ByteArray)
  | words (sort : Int) (l : List Wd)
def Ob.list : Ob → List Wd
  | .text _ => []
  | .words _ l => l
def objAt (H : List Ob) (r : Int) : Option Ob := if 1 ≤ r then H[(r - 1).toNat]? else none
def isTextO : Option Ob → Bool
  | some (.text _) => true
  | _ => false
def isDataO : Option Ob → Bool
  | some (.words s _) => !decide (s = 7)
  | _ => false
def isArrO : Option Ob → Bool
  | some (.words s _) => decide (s = 7)
  | _ => false
def rightW (H : List Ob) (x : Wd) : Bool :=
  if x.k = 0 then decide (x.n = 0) && decide (x.r = 0)
  else if x.k = 1 ∨ x.k = 2 ∨ x.k = 8 ∨ x.k = 9 then decide (x.r = 0)
  else if x.k = 3 then decide (x.n = 0) && isTextO (objAt H x.r)
  else if x.k = 4 ∨ x.k = 5 ∨ x.k = 6 then decide (x.r = 0) || isDataO (objAt H x.r)
  else if x.k = 7 then decide (x.n = 0) && isArrO (objAt H x.r)
  else false
def argsO : Option Ob → List Wd
  | some (.words _ l) => l
  | _ => []
def argsOf (H : List Ob) (x : Wd) : List Wd := argsO (objAt H x.r)

/-- The rules of a heap: by kind. -/
def ruleF (hb : Nat) (k : Int) : Option Value :=
  if k = 0 then some (.func (.func 62) #[] #[])
  else if k = 1 ∨ k = 2 ∨ k = 8 ∨ k = 9 then some (.func (.func 61) #[] #[])
  else if k = 3 then some (.func (.func 63) #[.pointer (some ⟨hb, 0, none⟩)] #[])
  else if k = 4 ∨ k = 5 ∨ k = 6 then some (.func (.func 64) #[.pointer (some ⟨hb, 0, none⟩)] #[])
  else if k = 7 then some (.func (.func 65) #[.pointer (some ⟨hb, 0, none⟩)] #[])
  else none

abbrev ptrOf (b : Nat) : Value := .pointer (some ⟨b, 0, none⟩)
/-- A list of words that lies at the head of the block 'g'. -/
def WL (w : World) (g : Nat) (lv : Value) (l : List Wd) : Prop :=
  ∃ A c, lv = .slice A l.length c ∧ l.length ≤ 1073741824 ∧ l.length ≤ c ∧ (l ≠ [] → A = some ⟨g, 0, none⟩ ∧ ∃ cs, Blk w g cs 38 ∧ cs.take (l.length * 3) = (l.map Wd.row).flatten)
def ObW (w : World) (p g : Nat) : Ob → Prop
  | .text s => Blk w p [.slice none 0 0, .string s, .bool true, .int .i64 0] 108
  | .words sort l => ∃ lv, Blk w p [lv, .string ⟨#[]⟩, .bool false, .int .i64 sort] 108 ∧ WL w g lv l

/-- A heap at 'hb', its rules at 'rb', its objects at 'ps', their words in 'gs'. -/
structure HeapR (w : World) (hb rb : Nat) (vs : Value) (ps gs : List Nat) (H : List Ob) : Prop where
  head : Blk w hb [vs, .map (some rb)] 70
  rules : MapI w rb (ruleF hb)
  own : w.ownsRow 0 103 1 vs H.length (ps.map ptrOf)
  lenp : ps.length = H.length
  leng : gs.length = H.length
  ndp : ps.Nodup
  ndg : gs.Nodup
  ap : (hb ∉ ps ∧ hb ∉ gs) ∧ ∀ k, vs.ownBlock = some k → k ≠ hb ∧ k ∉ ps ∧ k ∉ gs
  obj : ∀ (i p g : Nat) (o : Ob), ps[i]? = some p → gs[i]? = some g → H[i]? = some o → ObW w p g o
def Foot (hb : Nat) (vs : Value) (ps gs : List Nat) (k : Nat) : Prop := k = hb ∨ vs.ownBlock = some k ∨ k ∈ ps ∨ k ∈ gs
def HeapW (w : World) (hb rb : Nat) (H : List Ob) (F : Nat → Prop) : Prop :=
  ∃ vs ps gs, HeapR w hb rb vs ps gs H ∧ (∀ k, Foot hb vs ps gs k → F k ∧ k < w.heap.size) ∧ ¬ F rb

theorem owns_chg' {w w' : World} {S : Nat → Prop} {base e sz n : Nat} {v : Value} {xs : List Value} (h : w.ownsRow base e sz v n xs) (hc : Chg S w w') (hs : ∀ k, v.ownBlock = some k → ¬ S k) : w'.ownsRow base e sz v n xs := by
  refine ⟨h.1, ?_⟩
  rcases h.2 with hn | ⟨g, cap, cur, rfl, hb, hgg, rest⟩
  · exact .inl hn
  · refine .inr ⟨g, cap, cur, rfl, hb, ?_, rest⟩
    rw [hc.block g (Array.getElem?_eq_some_iff.1 hgg).1 (hs g rfl)]
    exact hgg
theorem WL.chg {w w' : World} {S : Nat → Prop} {g : Nat} {lv : Value} {l : List Wd} (h : WL w g lv l) (hc : Chg S w w') (hs : ¬ S g) : WL w' g lv l := by
  obtain ⟨A, c, h1, h2, h3, h4⟩ := h
  refine ⟨A, c, h1, h2, h3, fun hne => ?_⟩
  obtain ⟨h5, cs, h6, h7⟩ := h4 hne
  exact ⟨h5, cs, h6.chg hc hs, h7⟩
theorem WL.ext {w w' : World} {g : Nat} {lv : Value} {l : List Wd} (h : WL w g lv l) (he : Ext w w') : WL w' g lv l := h.chg (he.chg (fun _ => False)) id
theorem ObW.chg {w w' : World} {S : Nat → Prop} {p g : Nat} {o : Ob} (h : ObW w p g o) (hc : Chg S w w') (hp : ¬ S p) (hg : ¬ S g) : ObW w' p g o := by
  cases o with
  | text s => exact Blk.chg h hc hp
  | words sort l =>
    obtain ⟨lv, h1, h2⟩ := h
    exact ⟨lv, h1.chg hc hp, h2.chg hc hg⟩
theorem HeapR.chg {w w' : World} {S : Nat → Prop} {hb rb : Nat} {vs : Value} {ps gs : List Nat} {H : List Ob} (h : HeapR w hb rb vs ps gs H) (hc : Chg S w w') (hn : ∀ k, Foot hb vs ps gs k → ¬ S k) (hr : ¬ S rb) : HeapR w' hb rb vs ps gs H := by
  obtain ⟨h1, h2, h3, h4, h5, h6, h7, h9, h8⟩ := h
  refine ⟨h1.chg hc (hn _ (.inl rfl)), h2.chg hc hr, owns_chg' h3 hc (fun k hk => hn k (.inr (.inl hk))), h4, h5, h6, h7, h9, fun i p g o hp hg ho => ?_⟩
  exact (h8 i p g o hp hg ho).chg hc (hn _ (.inr (.inr (.inl (List.mem_of_getElem? hp))))) (hn _ (.inr (.inr (.inr (List.mem_of_getElem? hg)))))
theorem HeapR.ext {w w' : World} {hb rb : Nat} {vs : Value} {ps gs : List Nat} {H : List Ob} (h : HeapR w hb rb vs ps gs H) (he : Ext w w') : HeapR w' hb rb vs ps gs H := h.chg (he.chg (fun _ => False)) (fun _ _ => id) id
theorem HeapW.chg {w w' : World} {S F : Nat → Prop} {hb rb : Nat} {H : List Ob} (h : HeapW w hb rb H F) (hc : Chg S w w') (hs : ∀ k, F k → ¬ S k) (hr : ¬ S rb) : HeapW w' hb rb H F := by
  obtain ⟨vs, ps, gs, ⟨h1, h2, h3, h4, h5, h6, h7, h9, h8⟩, hf, hrb⟩ := h
  have hn : ∀ k, Foot hb vs ps gs k → ¬ S k := fun k hk => hs k (hf k hk).1
  refine ⟨vs, ps, gs, ⟨h1.chg hc (hn _ (.inl rfl)), h2.chg hc hr, owns_chg' h3 hc (fun k hk => hn k (.inr (.inl hk))), h4, h5, h6, h7, h9, fun i p g o hp hg ho => ?_⟩, fun k hk => ⟨(hf k hk).1, Nat.lt_of_lt_of_le (hf k hk).2 hc.size⟩, hrb⟩
  exact (h8 i p g o hp hg ho).chg hc (hn _ (.inr (.inr (.inl (List.mem_of_getElem? hp))))) (hn _ (.inr (.inr (.inr (List.mem_of_getElem? hg)))))
theorem HeapW.ext {w w' : World} {F : Nat → Prop} {hb rb : Nat} {H : List Ob} (h : HeapW w hb rb H F) (he : Ext w w') : HeapW w' hb rb H F := h.chg (he.chg (fun _ => False)) (fun _ _ => id) id
theorem HeapW.mono {w : World} {F G : Nat → Prop} {hb rb : Nat} {H : List Ob} (h : HeapW w hb rb H F) (hs : ∀ k, F k → G k) (hr : ¬ G rb) : HeapW w hb rb H G := by
  obtain ⟨vs, ps, gs, h1, h2, h3⟩ := h
  exact ⟨vs, ps, gs, h1, fun k hk => ⟨hs k (h2 k hk).1, (h2 k hk).2⟩, hr⟩
/-- The list's words as rows. -/
theorem WL.sli {w : World} {g : Nat} {lv : Value} {l : List Wd} (h : WL w g lv l) : Sli w 3 lv (l.map Wd.row) := by
  obtain ⟨A, c, rfl, h2, h3, h4⟩ := h
  refine ⟨A, c, by simp, by simp; omega, fun j row hj => ?_⟩
  have hjl : j < l.length := by have := (List.getElem?_eq_some_iff.1 hj).1; simpa using this
  obtain ⟨rfl, cs, hb, hcs⟩ := h4 (fun e => by subst e; simp at hjl)
  refine ⟨g, 0, rfl, fun k u hk => ?_⟩
  have hk3 : k < 3 := by
    rw [List.getElem?_map, List.getElem?_eq_getElem hjl] at hj
    simp at hj; subst hj
    have := (List.getElem?_eq_some_iff.1 hk).1; simpa using this
  have : cs[j * 3 + k]? = some u := by
    have h0 : (cs.take (l.length * 3))[j * 3 + k]? = cs[j * 3 + k]? := by rw [List.getElem?_take]; rw [if_pos (by omega)]
    rw [← h0, hcs]
    clear h0 hcs hb h4
    induction l generalizing j with
    | nil => simp at hjl
    | cons x xs ih =>
      cases j with
      | zero =>
        simp at hj; subst hj
        rw [List.map_cons, List.flatten_cons, List.getElem?_append_left (by simpa using hk3)]
        simpa using hk
      | succ j =>
        rw [List.map_cons, List.flatten_cons, List.getElem?_append_right (by simp; omega)]
        have := ih (by simp at h2; omega) (by simp at h3; omega) j (by simpa using hj) (by simpa using hjl)
        rw [← this]
        congr 1
        simp; omega
  rw [add_at]
  have := hb.cell this
  simpa using this
/-- An object of a heap. -/
theorem HeapR.at_ {w : World} {hb rb : Nat} {vs : Value} {ps gs : List Nat} {H : List Ob} (h : HeapR w hb rb vs ps gs H) {i : Nat} {o : Ob} (ho : H[i]? = some o) :
    ∃ p g, ps[i]? = some p ∧ gs[i]? = some g ∧ ObW w p g o := by
  have hi := (List.getElem?_eq_some_iff.1 ho).1
  have hp : ps[i]? = some (ps[i]'(by rw [h.lenp]; exact hi)) := List.getElem?_eq_getElem _
  have hg : gs[i]? = some (gs[i]'(by rw [h.leng]; exact hi)) := List.getElem?_eq_getElem _
  exact ⟨_, _, hp, hg, h.obj i _ _ o hp hg ho⟩
theorem flat_ptr (ps : List Nat) : ps.map ptrOf = (ps.map fun p => [ptrOf p]).flatten := by
  induction ps with
  | nil => rfl
  | cons p ps ih => simp [ih]
/-- The row of pointers, read. -/
theorem HeapR.sli {w : World} {hb rb : Nat} {vs : Value} {ps gs : List Nat} {H : List Ob} (h : HeapR w hb rb vs ps gs H) (hl : H.length ≤ 1073741824) : Sli w 1 vs (ps.map fun p => [ptrOf p]) := by
  exact Sli.of_own h.own (flat_ptr ps) (by simp) (by simp [h.lenp]) (by omega)
end Go.Proofs.Vg
set_option linter.defProp false
namespace Go.Proofs.YtldeokfhipjbfaaGreatDoor
open Go Go.Proofs.Vg
def Q4 := And.intro Tryz.results4 (And.intro Fx.ag2 (And.intro Fx.ag3 (And.intro Fx.ag32 (And.intro Fx.ag36 (And.intro Fx.ag38 (And.intro Fx.ag40 (And.intro Fx.ag47 (And.intro Fx.es22 (And.intro Fx.es29 (And.intro Fx.es34 (And.intro Fx.es46 (And.intro Fx.fo38_0 (And.intro Fx.fo38_1 (And.intro Fx.fo38_2 (And.intro Fx.fo40_0 (And.intro Fx.isl22 (And.intro Fx.isl29 (And.intro Fx.isl33 (Fx.un4)))))))))))))))))))
def Q5 := And.intro Tryz.results5 (And.intro Fx.ag3 (And.intro Fx.ag38 (And.intro Fx.fo38_2 (Fx.isl29))))
def Q6 := And.intro Tryz.results6 (Fx.isl22)
def Q7 := And.intro Tryz.results7 (Fx.fo70_1)
def Q8 := Tryz.results8
def Q9 := And.intro Tryz.results9 (And.intro Fx.ag2 (And.intro Fx.ag29 (And.intro Fx.ag3 (And.intro Fx.ag30 (And.intro Fx.ag32 (And.intro Fx.ag33 (And.intro Fx.ag36 (And.intro Fx.ag38 (And.intro Fx.ag75 (And.intro Fx.es29 (And.intro Fx.es30 (And.intro Fx.fo32_0 (And.intro Fx.fo32_1 (And.intro Fx.fo40_0 (And.intro Fx.fo40_1 (And.intro Fx.fo40_2 (And.intro Fx.fo40_3 (And.intro Fx.fo40_4 (And.intro Fx.fo40_5 (Fx.isl29))))))))))))))))))))
def Q11 := And.intro Tryz.results11 (And.intro Fx.ag29 (And.intro Fx.ag3 (And.intro Fx.ag30 (And.intro Fx.ag32 (And.intro Fx.ag38 (And.intro Fx.ag75 (And.intro Fx.es29 (And.intro Fx.es30 (And.intro Fx.es33 (And.intro Fx.fo32_0 (And.intro Fx.fo32_1 (And.intro Fx.isl29 (Fx.isl33)))))))))))))
def Q12 := And.intro Tryz.results12 (And.intro Fx.ag3 (And.intro Fx.ag38 (And.intro Fx.ag68 (And.intro Fx.fo38_0 (Fx.fo70_1)))))
def Q13 := And.intro Tryz.results13 (Fx.ag38)
def Q14 := And.intro Tryz.results14 (And.intro Fx.ag25 (Fx.ag3))
def Q15 := And.intro Tryz.results15 (And.intro Fx.ag103 (And.intro Fx.ag25 (And.intro Fx.ag29 (And.intro Fx.ag33 (And.intro Fx.ag67 (And.intro Fx.es33 (And.intro Fx.es67 (And.intro Fx.fo106_0 (And.intro Fx.fo108_0 (And.intro Fx.fo70_0 (Fx.isl67)))))))))))
def Q16 := And.intro Tryz.results16 (And.intro Fx.ag67 (And.intro Fx.fo70_0 (Fx.isl67)))
def Q17 := And.intro Tryz.results17 (And.intro Fx.ag2 (And.intro Fx.ag3 (And.intro Fx.ag34 (And.intro Fx.ag36 (And.intro Fx.ag9 (And.intro Fx.es34 (And.intro Fx.fo36_0 (And.intro Fx.fo36_1 (And.intro Fx.fo36_2 (And.intro Fx.fo36_3 (Fx.isl34)))))))))))
def Q18 := And.intro Tryz.results18 (And.intro Fx.ag38 (And.intro Fx.es29 (Fx.isl29)))
def Q19 := And.intro Tryz.results19 (Fx.ag36)
def Q20 := Tryz.results20
def Q21 := And.intro Tryz.results21 (Fx.ag25)
def Q22 := And.intro Tryz.results22 (And.intro Fx.ag29 (And.intro Fx.ag3 (And.intro Fx.ag38 (And.intro Fx.es29 (And.intro Fx.fo106_0 (And.intro Fx.fo108_0 (And.intro Fx.fo38_0 (And.intro Fx.fo38_2 (Fx.isl29)))))))))
def Q23 := Tryz.results23
def Q24 := And.intro Tryz.results24 (And.intro Fx.ag3 (And.intro Fx.ag33 (And.intro Fx.ag36 (And.intro Fx.fo40_0 (And.intro Fx.fo40_3 (And.intro Fx.fo40_4 (Fx.isl33)))))))
def Q25 := And.intro Tryz.results25 (And.intro Fx.ag3 (And.intro Fx.ag34 (And.intro Fx.ag65 (And.intro Fx.ag9 (And.intro Fx.fo36_2 (And.intro Fx.fo36_3 (Fx.ist9)))))))
def Q26 := Tryz.results26
def Q27 := And.intro Tryz.results27 (Fx.ag36)
def Q28 := And.intro Tryz.results28 (And.intro Fx.ag29 (And.intro Fx.ag30 (And.intro Fx.ag38 (And.intro Fx.ag75 (And.intro Fx.fo32_0 (Fx.fo32_1))))))
def Q29 := And.intro Tryz.results29 (And.intro Fx.ag75 (And.intro Fx.es30 (Fx.isl30)))
def Q30 := And.intro Tryz.results30 (And.intro Fx.ag3 (And.intro Fx.ag30 (And.intro Fx.ag72 (And.intro Fx.ag75 (And.intro Fx.es30 (And.intro Fx.es72 (And.intro Fx.fo120_3 (And.intro Fx.fo74_0 (And.intro Fx.fo75_0 (And.intro Fx.fo75_2 (Fx.isl30)))))))))))
def Q38 := And.intro Tryz.results38 (And.intro Fx.ag2 (And.intro Fx.ag3 (And.intro Fx.ag4 (And.intro Fx.ag72 (And.intro Fx.es72 (And.intro Fx.fo120_0 (And.intro Fx.fo120_1 (And.intro Fx.fo74_0 (And.intro Fx.fo75_0 (And.intro Fx.fo75_1 (And.intro Fx.fo75_2 (Fx.isl72))))))))))))
def Q39 := And.intro Tryz.results39 (And.intro Fx.ag38 (And.intro Fx.es29 (Fx.isl29)))
def Q45 := And.intro Tryz.results45 (And.intro Fx.ag25 (And.intro Fx.ag67 (And.intro Fx.fo70_0 (Fx.isl67))))
def Q46 := And.intro Tryz.results46 (And.intro Fx.ag2 (And.intro Fx.ag3 (And.intro Fx.ag34 (And.intro Fx.ag36 (And.intro Fx.ag38 (And.intro Fx.ag9 (And.intro Fx.ar132 (And.intro Fx.es29 (And.intro Fx.fo108_1 (And.intro Fx.fo36_0 (And.intro Fx.fo36_3 (And.intro Fx.fo38_0 (And.intro Fx.fo38_1 (And.intro Fx.fo38_2 (Fx.isl29)))))))))))))))
def Q47 := Tryz.results47
def Q48 := And.intro Tryz.results48 (And.intro Fx.ag25 (Fx.ag38))
def Q49 := Tryz.results49
def Q50 := And.intro Tryz.results50 (And.intro Fx.ag25 (Fx.ag38))
def Q51 := And.intro Tryz.results51 (And.intro Fx.ag3 (And.intro Fx.ag33 (And.intro Fx.ag38 (And.intro Fx.es29 (And.intro Fx.es33 (And.intro Fx.fo38_2 (Fx.isl29)))))))
def Q52 := And.intro Tryz.results52 (And.intro Fx.ag137 (And.intro Fx.ag3 (And.intro Fx.ag34 (And.intro Fx.ag36 (And.intro Fx.es34 (And.intro Fx.fo36_0 (And.intro Fx.fo36_3 (Fx.isl34))))))))
def Q53 := And.intro Tryz.results53 (And.intro Fx.ag2 (And.intro Fx.ag3 (And.intro Fx.ag34 (And.intro Fx.ag9 (And.intro Fx.fo36_0 (And.intro Fx.fo36_1 (And.intro Fx.fo36_2 (And.intro Fx.fo36_3 (Fx.isl34)))))))))
def Q54 := And.intro Tryz.results54 (And.intro Fx.ag137 (And.intro Fx.ag2 (And.intro Fx.ag3 (And.intro Fx.ag34 (And.intro Fx.ag36 (And.intro Fx.ag9 (And.intro Fx.es34 (And.intro Fx.fo36_0 (And.intro Fx.fo36_1 (And.intro Fx.fo36_2 (And.intro Fx.fo36_3 (Fx.isl34))))))))))))
def Q55 := And.intro Tryz.results55 (And.intro Fx.ag25 (And.intro Fx.ag3 (And.intro Fx.ag38 (Fx.fo38_0))))
def Q56 := And.intro Tryz.results56 (And.intro Fx.ag38 (And.intro Fx.fo38_2 (Fx.isl29)))
def Q57 := And.intro Tryz.results57 (And.intro Fx.ag103 (And.intro Fx.ag67 (And.intro Fx.es67 (And.intro Fx.fo70_0 (Fx.isl67)))))
def Q58 := And.intro Tryz.results58 (And.intro Fx.ag40 (And.intro Fx.es22 (Fx.isl22)))
def Q59 := Tryz.results59
def Q60 := And.intro Tryz.results60 (And.intro Fx.ag36 (Fx.ag65))
def Q61 := And.intro Tryz.results61 (And.intro Fx.ag3 (Fx.fo38_2))
def Q62 := And.intro Tryz.results62 (And.intro Fx.ag2 (And.intro Fx.ag3 (And.intro Fx.fo38_1 (Fx.fo38_2))))
def Q63 := And.intro Tryz.results63 (And.intro Fx.ag2 (And.intro Fx.ag3 (And.intro Fx.ag4 (And.intro Fx.fo108_2 (And.intro Fx.fo38_1 (Fx.fo38_2))))))
def Q64 := And.intro Tryz.results64 (And.intro Fx.ag3 (And.intro Fx.ag4 (And.intro Fx.fo108_2 (And.intro Fx.fo108_3 (Fx.fo38_2)))))
def Q65 := And.intro Tryz.results65 (And.intro Fx.ag2 (And.intro Fx.ag3 (And.intro Fx.ag4 (And.intro Fx.fo108_2 (And.intro Fx.fo108_3 (And.intro Fx.fo38_1 (Fx.fo38_2)))))))
def Q66 := And.intro Tryz.results66 (Fx.ag36)
def Q67 := And.intro Tryz.results67 (And.intro Fx.ag2 (And.intro Fx.ag3 (And.intro Fx.ag34 (And.intro Fx.ag36 (And.intro Fx.ag75 (And.intro Fx.ag9 (And.intro Fx.ar144 (And.intro Fx.es142 (And.intro Fx.es34 (And.intro Fx.fo36_0 (And.intro Fx.fo36_1 (And.intro Fx.fo36_2 (And.intro Fx.fo36_3 (And.intro Fx.fo75_0 (And.intro Fx.isl142 (Fx.isl34))))))))))))))))
def Q68 := Tryz.results68
def Q69 := And.intro Tryz.results69 (And.intro Fx.ag3 (And.intro Fx.ag75 (Fx.fo75_0)))
def Q70 := And.intro Tryz.results70 (And.intro Fx.ag75 (And.intro Fx.fo75_2 (Fx.isl30)))
def Q78 := Tryz.results78
def Q79 := And.intro Tryz.results79 (And.intro Fx.ag29 (And.intro Fx.ag3 (And.intro Fx.ag4 (And.intro Fx.fo106_0 (And.intro Fx.fo108_0 (And.intro Fx.fo108_2 (Fx.fo38_2)))))))
def Q85 := And.intro Tryz.results85 (And.intro Fx.ag103 (And.intro Fx.ag117 (And.intro Fx.ag25 (And.intro Fx.ag29 (And.intro Fx.ag3 (And.intro Fx.ag33 (And.intro Fx.ag38 (And.intro Fx.ag67 (And.intro Fx.es29 (And.intro Fx.es33 (And.intro Fx.es67 (And.intro Fx.fo106_0 (And.intro Fx.fo108_0 (And.intro Fx.fo38_2 (And.intro Fx.fo70_0 (Fx.isl29))))))))))))))))
def Q86 := And.intro Tryz.results86 (And.intro Fx.ag117 (And.intro Fx.ag3 (Fx.fo38_2)))
def Q87 := And.intro Tryz.results87 (And.intro Fx.ag38 (And.intro Fx.es29 (Fx.isl29)))
def Q88 := And.intro Tryz.results88 (And.intro Fx.ag103 (And.intro Fx.ag25 (And.intro Fx.ag29 (And.intro Fx.ag3 (And.intro Fx.ag33 (And.intro Fx.ag67 (And.intro Fx.es33 (And.intro Fx.es67 (And.intro Fx.fo106_0 (And.intro Fx.fo108_0 (And.intro Fx.fo70_0 (And.intro Fx.isl33 (Fx.isl67)))))))))))))
def Q89 := And.intro Tryz.results89 (And.intro Fx.ag134 (And.intro Fx.ag3 (And.intro Fx.ag33 (And.intro Fx.ag38 (And.intro Fx.ag4 (And.intro Fx.es134 (And.intro Fx.es29 (And.intro Fx.fo38_2 (Fx.isl29)))))))))
def Q90 := And.intro Tryz.results90 (Fx.ag36)
def Q91 := Tryz.results91
def Q92 := And.intro Tryz.results92 (And.intro Fx.ag67 (And.intro Fx.fo70_0 (Fx.isl67)))
def Q93 := And.intro Tryz.results93 (And.intro Fx.ag36 (And.intro Fx.es34 (Fx.isl34)))
def Q94 := And.intro Tryz.results94 (And.intro Fx.ag3 (And.intro Fx.ag34 (And.intro Fx.ag36 (And.intro Fx.es34 (And.intro Fx.fo36_0 (And.intro Fx.fo36_3 (Fx.isl34)))))))
def Q95 := And.intro Tryz.results95 (And.intro Fx.ag2 (And.intro Fx.ag3 (And.intro Fx.ag34 (And.intro Fx.ag36 (And.intro Fx.ag9 (And.intro Fx.es34 (And.intro Fx.fo36_0 (And.intro Fx.fo36_1 (And.intro Fx.fo36_2 (And.intro Fx.fo36_3 (Fx.isl34)))))))))))
def Q96 := Tryz.results96
def Q97 := Tryz.results97
def Q98 := And.intro Tryz.results98 (And.intro Fx.ag120 (And.intro Fx.ag72 (And.intro Fx.fo74_0 (Fx.isl72))))
end Go.Proofs.YtldeokfhipjbfaaGreatDoor
/- New: an empty heap with its rules. -/
set_option linter.unusedVariables false
set_option linter.unusedSimpArgs false
namespace Go.Proofs.YtldeokfhipjbfaaGreatDoor
open Go Go.Proofs.Vg Go.RowKit
theorem Fx.un45 : Tryz.prog.underlying 3 = some (.int .i64) := Fx.un3
theorem Fx.zi45 : zinfo Tryz.prog 45 = some (some .nilFunc, 1, 8) := by kernel_rfl
theorem Fx.zi68 : zinfo Tryz.prog 68 = some (some (.map none), 1, 8) := by kernel_rfl

-- -- function 26
set_option maxHeartbeats 2000000 in
set_option maxRecDepth 8000 in
theorem table_ok (w : World) (hb : Nat) : Rets Tryz.prog 26 [ptrOf hb] w (fun v w' => v = .map (some w.heap.size) ∧ MapI w' w.heap.size (ruleF hb) ∧ Ext w w' ∧ w'.heap.size = w.heap.size + 1) := by
  refine rets_of_ok Tryz.func26 rfl rfl ?_
  refine ok_seq (fun M hM => ok_region rfl ?_); repeat ((try subst X); (first | (first | apply zL | apply zH | apply zE); intro X hX | apply zl | apply zh | apply ze); try simp only [zU, reduceIte, Nat.reduceEqDiff, Nat.reduceAdd, reduceCtorEq, Q26])
  refine hM _ _ _ ?_; clear hM M
  refine ok_seq (fun M hM => ok_region rfl ?_); repeat ((try subst X); (first | (first | apply zL | apply zH | apply zE); intro X hX | apply zl | apply zh | apply ze); try simp only [zU, reduceIte, Nat.reduceEqDiff, Nat.reduceAdd, reduceCtorEq, Q26])
  refine hM _ _ _ ?_; clear hM M
  refine ok_seq (fun M hM => ok_region rfl ?_)
  repeat ((try subst X); (first | (first | apply zL | apply zH | apply zE); intro X hX | apply zl | apply zh | apply ze); try simp only [zU, reduceIte, Nat.reduceEqDiff, Nat.reduceAdd, reduceCtorEq, Q26])
  refine Runs.makeMapI (fun w1 he1 hs1 hm1 => ?_)
  generalize hr : w.heap.size = rb at *
  repeat ((try subst X); (first | (first | apply zL | apply zH | apply zE); intro X hX | apply zl | apply zh | apply ze); try simp only [zU, reduceIte, Nat.reduceEqDiff, Nat.reduceAdd, reduceCtorEq, Q26])
  refine Runs.mapPut Fx.un68 Fx.un3 hm1 0 _ rfl (fun w2 hc2 hs2 hm2 => ?_)
  repeat ((try subst X); (first | (first | apply zL | apply zH | apply zE); intro X hX | apply zl | apply zh | apply ze); try simp only [zU, reduceIte, Nat.reduceEqDiff, Nat.reduceAdd, reduceCtorEq, Q26])
  refine Runs.mapPut Fx.un68 Fx.un3 hm2 1 _ rfl (fun w3 hc3 hs3 hm3 => ?_)
  repeat ((try subst X); (first | (first | apply zL | apply zH | apply zE); intro X hX | apply zl | apply zh | apply ze); try simp only [zU, reduceIte, Nat.reduceEqDiff, Nat.reduceAdd, reduceCtorEq, Q26])
  refine Runs.mapPut Fx.un68 Fx.un3 hm3 2 _ rfl (fun w4 hc4 hs4 hm4 => ?_)
  repeat ((try subst X); (first | (first | apply zL | apply zH | apply zE); intro X hX | apply zl | apply zh | apply ze); try simp only [zU, reduceIte, Nat.reduceEqDiff, Nat.reduceAdd, reduceCtorEq, Q26])
  refine Runs.mapPut Fx.un68 Fx.un3 hm4 8 _ rfl (fun w5 hc5 hs5 hm5 => ?_)
  repeat ((try subst X); (first | (first | apply zL | apply zH | apply zE); intro X hX | apply zl | apply zh | apply ze); try simp only [zU, reduceIte, Nat.reduceEqDiff, Nat.reduceAdd, reduceCtorEq, Q26])
  refine Runs.mapPut Fx.un68 Fx.un3 hm5 9 _ rfl (fun w6 hc6 hs6 hm6 => ?_)
  repeat ((try subst X); (first | (first | apply zL | apply zH | apply zE); intro X hX | apply zl | apply zh | apply ze); try simp only [zU, reduceIte, Nat.reduceEqDiff, Nat.reduceAdd, reduceCtorEq, Q26])
  refine Runs.mapPut Fx.un68 Fx.un3 hm6 3 _ rfl (fun w7 hc7 hs7 hm7 => ?_)
  repeat ((try subst X); (first | (first | apply zL | apply zH | apply zE); intro X hX | apply zl | apply zh | apply ze); try simp only [zU, reduceIte, Nat.reduceEqDiff, Nat.reduceAdd, reduceCtorEq, Q26])
  refine Runs.mapPut Fx.un68 Fx.un3 hm7 4 _ rfl (fun w8 hc8 hs8 hm8 => ?_)
  repeat ((try subst X); (first | (first | apply zL | apply zH | apply zE); intro X hX | apply zl | apply zh | apply ze); try simp only [zU, reduceIte, Nat.reduceEqDiff, Nat.reduceAdd, reduceCtorEq, Q26])
  refine Runs.mapPut Fx.un68 Fx.un3 hm8 5 _ rfl (fun w9 hc9 hs9 hm9 => ?_)
  repeat ((try subst X); (first | (first | apply zL | apply zH | apply zE); intro X hX | apply zl | apply zh | apply ze); try simp only [zU, reduceIte, Nat.reduceEqDiff, Nat.reduceAdd, reduceCtorEq, Q26])
  refine Runs.mapPut Fx.un68 Fx.un3 hm9 6 _ rfl (fun w10 hc10 hs10 hm10 => ?_)
  repeat ((try subst X); (first | (first | apply zL | apply zH | apply zE); intro X hX | apply zl | apply zh | apply ze); try simp only [zU, reduceIte, Nat.reduceEqDiff, Nat.reduceAdd, reduceCtorEq, Q26])
  refine Runs.mapPut Fx.un68 Fx.un3 hm10 7 _ rfl (fun w11 hc11 hs11 hm11 => ?_)
  repeat ((try subst X); (first | (first | apply zL | apply zH | apply zE); intro X hX | apply zl | apply zh | apply ze); try simp only [zU, reduceIte, Nat.reduceEqDiff, Nat.reduceAdd, reduceCtorEq, Q26])
  refine hM _ _ _ ?_; clear hM M
  refine ok_ret ?_
  try simp only [zW, zU, reduceIte, Nat.reduceEqDiff, Nat.reduceAdd, reduceCtorEq, Q26]
  have hc := hc2.trans (hc3.trans (hc4.trans (hc5.trans (hc6.trans (hc7.trans (hc8.trans (hc9.trans (hc10.trans hc11))))))))
  refine ⟨?_, he1.chg_trans hc (fun i hi => by omega), by omega⟩
  refine cast (congrArg (MapI w11 rb) ?_) hm11
  funext k
  unfold ruleF
  by_cases h7 : k = 7
  · subst h7; rfl
  by_cases h6 : k = 6
  · subst h6; rfl
  by_cases h5 : k = 5
  · subst h5; rfl
  by_cases h4 : k = 4
  · subst h4; rfl
  by_cases h3 : k = 3
  · subst h3; rfl
  by_cases h9 : k = 9
  · subst h9; rfl
  by_cases h8 : k = 8
  · subst h8; rfl
  by_cases h2 : k = 2
  · subst h2; rfl
  by_cases h1 : k = 1
  · subst h1; rfl
  by_cases h0 : k = 0
  · subst h0; rfl
  simp [h0, h1, h2, h3, h4, h5, h6, h7, h8, h9]

-- -- function 7
set_option maxHeartbeats 2000000 in
set_option maxRecDepth 8000 in
theorem new_ok (w : World) : Rets Tryz.prog 7 [] w (fun v w' => ∃ hb rb, v = ptrOf hb ∧ HeapW w' hb rb [] (fun k => k = hb) ∧ Ext w w' ∧ w.heap.size ≤ hb ∧ w.heap.size ≤ rb) := by
  refine rets_of_ok Tryz.func7 rfl rfl ?_
  refine ok_seq (fun M hM => ok_region rfl ?_); repeat ((try subst X); (first | (first | apply zL | apply zH | apply zE); intro X hX | apply zl | apply zh | apply ze); try simp only [zU, reduceIte, Nat.reduceEqDiff, Nat.reduceAdd, reduceCtorEq, Q7])
  refine hM _ _ _ ?_; clear hM M
  refine ok_seq (fun M hM => ok_region rfl ?_)
  repeat ((try subst X); (first | (first | apply zL | apply zH | apply zE); intro X hX | apply zl | apply zh | apply ze); try simp only [zU, reduceIte, Nat.reduceEqDiff, Nat.reduceAdd, reduceCtorEq, Q7])
  refine ⟨_, w, run_build (P := Tryz.prog) w 70 _ #[.slice none 0 0, .map none] (by kernel_rfl), ?_⟩
  repeat ((try subst X); (first | (first | apply zL | apply zH | apply zE); intro X hX | apply zl | apply zh | apply ze); try simp only [zU, reduceIte, Nat.reduceEqDiff, Nat.reduceAdd, reduceCtorEq, Q7])
  refine Runs.box (fun w1 he1 hs1 hb1 => ?_)
  generalize hr : w.heap.size = hb at *
  simp only [Value.cells] at hb1
  repeat ((try subst X); (first | (first | apply zL | apply zH | apply zE); intro X hX | apply zl | apply zh | apply ze); try simp only [zU, reduceIte, Nat.reduceEqDiff, Nat.reduceAdd, reduceCtorEq, Q7])
  refine hM _ _ _ ?_; clear hM M
  refine ok_seq (fun M hM => ok_region rfl ?_)
  repeat ((try subst X); (first | (first | apply zL | apply zH | apply zE); intro X hX | apply zl | apply zh | apply ze); try simp only [zU, reduceIte, Nat.reduceEqDiff, Nat.reduceAdd, reduceCtorEq, Q7])
  refine Inv.call Fx.en26 (table_ok w1 hb) ?_
  rintro v w2 ⟨rfl, hm2, he2, hs2⟩
  repeat ((try subst X); (first | (first | apply zL | apply zH | apply zE); intro X hX | apply zl | apply zh | apply ze); try simp only [zU, reduceIte, Nat.reduceEqDiff, Nat.reduceAdd, reduceCtorEq, Q7])
  refine Runs.store (hb1.ext he2) Fx.zi68 rfl (by intro u hu; simp [Value.cells] at hu; subst hu; rfl) (by decide) (fun w3 hc3 hs3 hb3 => ?_)
  repeat ((try subst X); (first | (first | apply zL | apply zH | apply zE); intro X hX | apply zl | apply zh | apply ze); try simp only [zU, reduceIte, Nat.reduceEqDiff, Nat.reduceAdd, reduceCtorEq, Q7])
  refine hM _ _ _ ?_; clear hM M
  refine ok_seq (fun M hM => ok_region rfl ?_); repeat ((try subst X); (first | (first | apply zL | apply zH | apply zE); intro X hX | apply zl | apply zh | apply ze); try simp only [zU, reduceIte, Nat.reduceEqDiff, Nat.reduceAdd, reduceCtorEq, Q7])
  refine hM _ _ _ ?_; clear hM M
  refine ok_ret ?_
  try simp only [zW, zU, reduceIte, Nat.reduceEqDiff, Nat.reduceAdd, reduceCtorEq, Q7]
  refine ⟨hb, w1.heap.size, rfl, ⟨.slice none 0 0, [], [], ⟨by simpa [splice, Value.cells] using hb3, hm2.chg hc3 (by omega), World.ownsRow_nil _ _ _ _, rfl, rfl, List.nodup_nil, List.nodup_nil, ⟨by simp, fun k hk => by simp [Value.ownBlock] at hk⟩, fun i p g o hp => by simp at hp⟩, ?_, by omega⟩, ?_, by omega, by omega⟩
  · rintro k (rfl | hk | hk | hk)
    · exact ⟨rfl, by omega⟩
    · simp [Value.ownBlock] at hk
    · simp at hk
    · simp at hk
  · exact (he1.trans he2).chg_trans hc3 (fun i hi => by omega)
end Go.Proofs.YtldeokfhipjbfaaGreatDoor
/- object, args, the rules of words. -/
set_option linter.unusedVariables false
set_option linter.unusedSimpArgs false
namespace Go.Proofs.YtldeokfhipjbfaaGreatDoor
open Go Go.Proofs.Vg Go.RowKit
abbrev wv (x : Wd) : Value := .agg x.row.toArray
abbrev iw (x : Wd) : Prop := inI .i64 x.r

theorem objAt_lt {H : List Ob} {r : Int} (h : r < 1) : objAt H r = none := by unfold objAt; rw [if_neg (by omega)]
theorem objAt_gt {H : List Ob} {r : Int} (h : (H.length : Int) < r) : objAt H r = none := by
  unfold objAt
  split
  · exact List.getElem?_eq_none (by omega)
  · rfl
theorem objAt_in {H : List Ob} {r : Int} (h1 : 1 ≤ r) (h2 : r ≤ (H.length : Int)) : ∃ (i : Nat) (o : Ob), r = (i : Int) + 1 ∧ i < H.length ∧ H[i]? = some o ∧ objAt H r = some o := by
  have hi : (r - 1).toNat < H.length := by omega
  refine ⟨(r - 1).toNat, H[(r - 1).toNat], by omega, hi, List.getElem?_eq_getElem hi, ?_⟩
  unfold objAt; rw [if_pos h1]; exact List.getElem?_eq_getElem hi

-- -- function 57
set_option maxHeartbeats 2000000 in
set_option maxRecDepth 8000 in
theorem object_ok (w : World) (hb rb : Nat) (vs : Value) (ps gs : List Nat) (H : List Ob) (hH : HeapR w hb rb vs ps gs H) (hl : H.length ≤ 1073741824) (r : Int) :
    Rets Tryz.prog 57 [ptrOf hb, .int .i64 r] w (fun v w' => w' = w ∧ ((objAt H r = none ∧ v = .pointer none) ∨ ∃ (i p g : Nat) (o : Ob), objAt H r = some o ∧ r = (i : Int) + 1 ∧ H[i]? = some o ∧ ps[i]? = some p ∧ gs[i]? = some g ∧ v = ptrOf p)) := by
  obtain ⟨A, c, hv, hlen, hcell⟩ := hH.sli hl
  have hL : (ps.map fun p => [ptrOf p]).length = H.length := by simp [hH.lenp]
  rw [hL] at hv
  have hh0 : w.cell? ⟨hb, 0, none⟩ = some (.slice A H.length c) := by rw [← hv]; exact hH.head.cell rfl
  refine rets_of_ok Tryz.func57 rfl rfl ?_
  refine ok_seq (fun M hM => ok_region rfl ?_); repeat ((try subst X); (first | (first | apply zL | apply zH | apply zE); intro X hX | apply zl | apply zh | apply ze); try simp only [zU, reduceIte, Nat.reduceEqDiff, Nat.reduceAdd, reduceCtorEq, Q57])
  refine hM _ _ _ ?_; clear hM M
  refine ok_join [(0, ptrOf hb), (1, .int .i64 r)] (fun w' => w' = w ∧ 1 ≤ r ∧ r ≤ (H.length : Int)) ?_ ?_
  · refine ok_seq (fun M hM => ok_region rfl ?_)
    repeat ((try subst X); (first | (first | apply zL | apply zH | apply zE); intro X hX | apply zl | apply zh | apply ze); try simp only [zU, reduceIte, Nat.reduceEqDiff, Nat.reduceAdd, reduceCtorEq, Q57])
    refine ⟨fun h => ?_, fun h => ?_⟩
    · have h1 : ¬ r < 1 := by simpa using h
      clear h
      repeat ((try subst X); (first | (first | apply zL | apply zH | apply zE); intro X hX | apply zl | apply zh | apply ze); try simp only [zU, reduceIte, Nat.reduceEqDiff, Nat.reduceAdd, reduceCtorEq, Q57])
      refine ⟨_, hh0, ?_⟩
      repeat ((try subst X); (first | (first | apply zL | apply zH | apply zE); intro X hX | apply zl | apply zh | apply ze); try simp only [zU, reduceIte, Nat.reduceEqDiff, Nat.reduceAdd, reduceCtorEq, Q57])
      refine hM _ _ _ ?_; clear hM M
      refine ok_if rfl (fun hc => ?_) (fun hc => ok_skip ?_)
      · refine ok_seq (fun M hM => ok_region rfl ?_); repeat ((try subst X); (first | (first | apply zL | apply zH | apply zE); intro X hX | apply zl | apply zh | apply ze); try simp only [zU, reduceIte, Nat.reduceEqDiff, Nat.reduceAdd, reduceCtorEq, Q57])
        refine hM _ _ _ ?_; clear hM M
        refine ok_ret ?_
        try simp only [zW, zU, reduceIte, Nat.reduceEqDiff, Nat.reduceAdd, reduceCtorEq, Q57]
        have hq := objAt_gt (H := H) (r := r) (by omega); first | exact .inl ⟨hq, rfl⟩ | exact .inl hq | exact hq
      · try simp only [zW, zU, reduceIte, Nat.reduceEqDiff, Nat.reduceAdd, reduceCtorEq, Q57]
        exact ⟨by simp [sub, Env.get], by omega, by omega⟩
    · repeat ((try subst X); (first | (first | apply zL | apply zH | apply zE); intro X hX | apply zl | apply zh | apply ze); try simp only [zU, reduceIte, Nat.reduceEqDiff, Nat.reduceAdd, reduceCtorEq, Q57])
      refine hM _ _ _ ?_; clear hM M
      refine ok_cond rfl (fun _ => ?_) (fun h => by cases h)
      refine ok_seq (fun M hM => ok_region rfl ?_); repeat ((try subst X); (first | (first | apply zL | apply zH | apply zE); intro X hX | apply zl | apply zh | apply ze); try simp only [zU, reduceIte, Nat.reduceEqDiff, Nat.reduceAdd, reduceCtorEq, Q57])
      refine hM _ _ _ ?_; clear hM M
      refine ok_ret ?_
      try simp only [zW, zU, reduceIte, Nat.reduceEqDiff, Nat.reduceAdd, reduceCtorEq, Q57]
      have hq := objAt_lt (H := H) (r := r) (by simpa using h); first | exact .inl ⟨hq, rfl⟩ | exact .inl hq | exact hq
  rintro w' ⟨rfl, h1, h2⟩
  obtain ⟨i, o, rfl, hi, ho, hoo⟩ := objAt_in h1 h2
  obtain ⟨p, g, hp, hg, -⟩ := hH.at_ ho
  obtain ⟨b, off, rfl, hcc⟩ := hcell i [ptrOf p] (by rw [List.getElem?_map, hp]; rfl)
  have hc0 := hcc 0 _ rfl
  refine ok_seq (fun M hM => ok_region rfl ?_)
  repeat ((try subst X); (first | (first | apply zL | apply zH | apply zE); intro X hX | apply zl | apply zh | apply ze); try simp only [zU, reduceIte, Nat.reduceEqDiff, Nat.reduceAdd, reduceCtorEq, Q57])
  refine ⟨_, hh0, ?_⟩
  repeat ((try subst X); (first | (first | apply zL | apply zH | apply zE); intro X hX | apply zl | apply zh | apply ze); try simp only [zU, reduceIte, Nat.reduceEqDiff, Nat.reduceAdd, reduceCtorEq, Q57])
  refine ⟨by simp only [inI]; omega, ?_⟩
  repeat ((try subst X); (first | (first | apply zL | apply zH | apply zE); intro X hX | apply zl | apply zh | apply ze); try simp only [zU, reduceIte, Nat.reduceEqDiff, Nat.reduceAdd, reduceCtorEq, Q57])
  have e1 : ((i : Int) + 1 - 1).toNat = i := by omega
  refine ⟨by omega, by omega, ?_⟩
  repeat ((try subst X); (first | (first | apply zL | apply zH | apply zE); intro X hX | apply zl | apply zh | apply ze); try simp only [zU, reduceIte, Nat.reduceEqDiff, Nat.reduceAdd, reduceCtorEq, Q57])
  refine ⟨_, by rw [e1]; simpa [add_at] using hc0, ?_⟩
  repeat ((try subst X); (first | (first | apply zL | apply zH | apply zE); intro X hX | apply zl | apply zh | apply ze); try simp only [zU, reduceIte, Nat.reduceEqDiff, Nat.reduceAdd, reduceCtorEq, Q57])
  refine hM _ _ _ ?_; clear hM M
  refine ok_ret ?_
  try simp only [zW, zU, reduceIte, Nat.reduceEqDiff, Nat.reduceAdd, reduceCtorEq, Q57]
  exact .inr ⟨i, p, g, o, hoo, rfl, ho, hp, hg, rfl⟩

-- -- function 61
set_option maxHeartbeats 2000000 in
set_option maxRecDepth 8000 in
theorem number_ok (w : World) (x : Wd) : Rets Tryz.prog 61 [wv x] w (fun v w' => v = .bool (decide (x.r = 0)) ∧ Ext w w') := by
  refine rets_of_ok Tryz.func61 rfl rfl ?_
  refine ok_seq (fun M hM => ok_region rfl ?_)
  repeat ((try subst X); (first | (first | apply zL | apply zH | apply zE); intro X hX | apply zl | apply zh | apply ze); try simp only [zU, reduceIte, Nat.reduceEqDiff, Nat.reduceAdd, reduceCtorEq, Q61])
  refine Runs.box (fun w1 he1 hs1 hb1 => ?_)
  simp only [Value.cells, Wd.row] at hb1
  repeat ((try subst X); (first | (first | apply zL | apply zH | apply zE); intro X hX | apply zl | apply zh | apply ze); try simp only [zU, reduceIte, Nat.reduceEqDiff, Nat.reduceAdd, reduceCtorEq, Q61])
  refine hM _ _ _ ?_; clear hM M
  refine ok_seq (fun M hM => ok_region rfl ?_)
  repeat ((try subst X); (first | (first | apply zL | apply zH | apply zE); intro X hX | apply zl | apply zh | apply ze); try simp only [zU, reduceIte, Nat.reduceEqDiff, Nat.reduceAdd, reduceCtorEq, Q61])
  refine ⟨_, hb1.cell (j := 2) rfl, ?_⟩
  repeat ((try subst X); (first | (first | apply zL | apply zH | apply zE); intro X hX | apply zl | apply zh | apply ze); try simp only [zU, reduceIte, Nat.reduceEqDiff, Nat.reduceAdd, reduceCtorEq, Q61])
  refine hM _ _ _ ?_; clear hM M
  refine ok_ret ?_
  try simp only [zW, zU, reduceIte, Nat.reduceEqDiff, Nat.reduceAdd, reduceCtorEq, Q61]
  exact he1

-- -- function 62
set_option maxHeartbeats 2000000 in
set_option maxRecDepth 8000 in
theorem none_ok (w : World) (x : Wd) : Rets Tryz.prog 62 [wv x] w (fun v w' => v = .bool (decide (x.n = 0) && decide (x.r = 0)) ∧ Ext w w') := by
  refine rets_of_ok Tryz.func62 rfl rfl ?_
  refine ok_seq (fun M hM => ok_region rfl ?_)
  repeat ((try subst X); (first | (first | apply zL | apply zH | apply zE); intro X hX | apply zl | apply zh | apply ze); try simp only [zU, reduceIte, Nat.reduceEqDiff, Nat.reduceAdd, reduceCtorEq, Q62])
  refine Runs.box (fun w1 he1 hs1 hb1 => ?_)
  simp only [Value.cells, Wd.row] at hb1
  repeat ((try subst X); (first | (first | apply zL | apply zH | apply zE); intro X hX | apply zl | apply zh | apply ze); try simp only [zU, reduceIte, Nat.reduceEqDiff, Nat.reduceAdd, reduceCtorEq, Q62])
  refine hM _ _ _ ?_; clear hM M
  refine ok_seq (fun M hM => ok_region rfl ?_)
  repeat ((try subst X); (first | (first | apply zL | apply zH | apply zE); intro X hX | apply zl | apply zh | apply ze); try simp only [zU, reduceIte, Nat.reduceEqDiff, Nat.reduceAdd, reduceCtorEq, Q62])
  refine ⟨_, hb1.cell (j := 1) rfl, ?_⟩
  repeat ((try subst X); (first | (first | apply zL | apply zH | apply zE); intro X hX | apply zl | apply zh | apply ze); try simp only [zU, reduceIte, Nat.reduceEqDiff, Nat.reduceAdd, reduceCtorEq, Q62])
  refine ⟨fun h => ?_, fun h => ?_⟩
  · repeat ((try subst X); (first | (first | apply zL | apply zH | apply zE); intro X hX | apply zl | apply zh | apply ze); try simp only [zU, reduceIte, Nat.reduceEqDiff, Nat.reduceAdd, reduceCtorEq, Q62])
    refine ⟨_, hb1.cell (j := 2) rfl, ?_⟩
    repeat ((try subst X); (first | (first | apply zL | apply zH | apply zE); intro X hX | apply zl | apply zh | apply ze); try simp only [zU, reduceIte, Nat.reduceEqDiff, Nat.reduceAdd, reduceCtorEq, Q62])
    refine hM _ _ _ ?_; clear hM M
    refine ok_ret ?_
    try simp only [zW, zU, reduceIte, Nat.reduceEqDiff, Nat.reduceAdd, reduceCtorEq, Q62]
    have : x.n = 0 := by simpa using h
    simp [this, he1]
  · repeat ((try subst X); (first | (first | apply zL | apply zH | apply zE); intro X hX | apply zl | apply zh | apply ze); try simp only [zU, reduceIte, Nat.reduceEqDiff, Nat.reduceAdd, reduceCtorEq, Q62])
    refine hM _ _ _ ?_; clear hM M
    refine ok_ret ?_
    try simp only [zW, zU, reduceIte, Nat.reduceEqDiff, Nat.reduceAdd, reduceCtorEq, Q62]
    have : ¬ x.n = 0 := by simpa using h
    simp [this, he1]

-- -- function 63
set_option maxHeartbeats 2000000 in
set_option maxRecDepth 8000 in
theorem isText_ok (w : World) (hb rb : Nat) (H : List Ob) (F : Nat → Prop) (hH : HeapW w hb rb H F) (hl : H.length ≤ 1073741824) (x : Wd) :
    Rets Tryz.prog 63 [ptrOf hb, wv x] w (fun v w' => v = .bool (decide (x.n = 0) && isTextO (objAt H x.r)) ∧ Ext w w') := by
  refine rets_of_ok Tryz.func63 rfl rfl ?_
  refine ok_seq (fun M hM => ok_region rfl ?_)
  repeat ((try subst X); (first | (first | apply zL | apply zH | apply zE); intro X hX | apply zl | apply zh | apply ze); try simp only [zU, reduceIte, Nat.reduceEqDiff, Nat.reduceAdd, reduceCtorEq, Q63])
  refine Runs.box (fun w1 he1 hs1 hb1 => ?_)
  simp only [Value.cells, Wd.row] at hb1
  obtain ⟨vs, ps, gs, hR, -⟩ := hH.ext he1
  repeat ((try subst X); (first | (first | apply zL | apply zH | apply zE); intro X hX | apply zl | apply zh | apply ze); try simp only [zU, reduceIte, Nat.reduceEqDiff, Nat.reduceAdd, reduceCtorEq, Q63])
  refine hM _ _ _ ?_; clear hM M
  refine ok_seq (fun M hM => ok_region rfl ?_)
  repeat ((try subst X); (first | (first | apply zL | apply zH | apply zE); intro X hX | apply zl | apply zh | apply ze); try simp only [zU, reduceIte, Nat.reduceEqDiff, Nat.reduceAdd, reduceCtorEq, Q63])
  refine ⟨_, hb1.cell (j := 2) rfl, ?_⟩
  repeat ((try subst X); (first | (first | apply zL | apply zH | apply zE); intro X hX | apply zl | apply zh | apply ze); try simp only [zU, reduceIte, Nat.reduceEqDiff, Nat.reduceAdd, reduceCtorEq, Q63])
  refine Inv.call Fx.en57 (object_ok w1 hb rb vs ps gs H hR hl x.r) ?_
  rintro v w' ⟨rfl, hv⟩
  repeat ((try subst X); (first | (first | apply zL | apply zH | apply zE); intro X hX | apply zl | apply zh | apply ze); try simp only [zU, reduceIte, Nat.reduceEqDiff, Nat.reduceAdd, reduceCtorEq, Q63])
  refine hM _ _ _ ?_; clear hM M
  refine ok_seq (fun M hM => ok_region rfl ?_)
  repeat ((try subst X); (first | (first | apply zL | apply zH | apply zE); intro X hX | apply zl | apply zh | apply ze); try simp only [zU, reduceIte, Nat.reduceEqDiff, Nat.reduceAdd, reduceCtorEq, Q63])
  refine ⟨_, hb1.cell (j := 1) rfl, ?_⟩
  repeat ((try subst X); (first | (first | apply zL | apply zH | apply zE); intro X hX | apply zl | apply zh | apply ze); try simp only [zU, reduceIte, Nat.reduceEqDiff, Nat.reduceAdd, reduceCtorEq, Q63])
  refine ⟨fun h => ?_, fun h => ?_⟩
  · have hn : x.n = 0 := by simpa using h
    rcases hv with ⟨ho, rfl⟩ | ⟨i, p, g, o, ho, hr, hi, hp, hg, rfl⟩
    · repeat ((try subst X); (first | (first | apply zL | apply zH | apply zE); intro X hX | apply zl | apply zh | apply ze); try simp only [zU, reduceIte, Nat.reduceEqDiff, Nat.reduceAdd, reduceCtorEq, Q63])
      refine Runs.ptrNe Fx.un103 ?_
      repeat ((try subst X); (first | (first | apply zL | apply zH | apply zE); intro X hX | apply zl | apply zh | apply ze); try simp only [zU, reduceIte, Nat.reduceEqDiff, Nat.reduceAdd, reduceCtorEq, Q63])
      refine hM _ _ _ ?_; clear hM M
      refine ok_ret ?_
      try simp only [zW, zU, reduceIte, Nat.reduceEqDiff, Nat.reduceAdd, reduceCtorEq, Q63]
      simp [hn, ho, isTextO, he1]
    · repeat ((try subst X); (first | (first | apply zL | apply zH | apply zE); intro X hX | apply zl | apply zh | apply ze); try simp only [zU, reduceIte, Nat.reduceEqDiff, Nat.reduceAdd, reduceCtorEq, Q63])
      refine Runs.ptrNe Fx.un103 ?_
      repeat ((try subst X); (first | (first | apply zL | apply zH | apply zE); intro X hX | apply zl | apply zh | apply ze); try simp only [zU, reduceIte, Nat.reduceEqDiff, Nat.reduceAdd, reduceCtorEq, Q63])
      have hob := hR.obj i p g o hp hg hi
      have hcell : w'.cell? ⟨p, 2, none⟩ = some (.bool (isTextO (some o))) := by
        cases o with
        | text s => exact Blk.cell hob rfl
        | words s l => obtain ⟨lv, h1, h2⟩ := hob; exact h1.cell rfl
      refine ⟨_, hcell, ?_⟩
      repeat ((try subst X); (first | (first | apply zL | apply zH | apply zE); intro X hX | apply zl | apply zh | apply ze); try simp only [zU, reduceIte, Nat.reduceEqDiff, Nat.reduceAdd, reduceCtorEq, Q63])
      refine hM _ _ _ ?_; clear hM M
      refine ok_ret ?_
      try simp only [zW, zU, reduceIte, Nat.reduceEqDiff, Nat.reduceAdd, reduceCtorEq, Q63]
      simp [hn, ho, he1]
  · repeat ((try subst X); (first | (first | apply zL | apply zH | apply zE); intro X hX | apply zl | apply zh | apply ze); try simp only [zU, reduceIte, Nat.reduceEqDiff, Nat.reduceAdd, reduceCtorEq, Q63])
    refine hM _ _ _ ?_; clear hM M
    refine ok_ret ?_
    try simp only [zW, zU, reduceIte, Nat.reduceEqDiff, Nat.reduceAdd, reduceCtorEq, Q63]
    have : ¬ x.n = 0 := by simpa using h
    simp [this, he1]
end Go.Proofs.YtldeokfhipjbfaaGreatDoor
/- The rules of words; Right; args. -/
set_option linter.unusedVariables false
set_option linter.unusedSimpArgs false
namespace Go.Proofs.Vg
open Go Go.RowKit
theorem Inv.bound {P : Program} {w : World} {R : Value → World → Prop} {next : Value → World → Prop} {pan : List PanicEntry → World → Prop} {f : FuncId} {first args : List Value} (hen : ∀ (xs : Array Value) (w : World), (callFunc f xs).run P w = .ok (.enter f xs) w) (h : Rets P f (first ++ args) w R) (hn : ∀ v w', R v w' → next v w') :
    Inv P (.func (.func f) first.toArray #[]) args w (callR next pan) := by
  have := Inv.clos (P := P) (w := w) (R := R) (next := next) (pan := pan) (f := f) (args := first ++ args) (cap := []) hen (by simpa using h) hn
  rcases this with ⟨f', fi, ca, h1, h2, h3⟩ | ⟨l, fi, ca, fn, tmps, assign, body, h1, _⟩
  · cases h1
    exact .inl ⟨f, first.toArray, #[], rfl, h2, by simpa using h3⟩
  · cases h1
end Go.Proofs.Vg
namespace Go.Proofs.YtldeokfhipjbfaaGreatDoor
open Go Go.Proofs.Vg Go.RowKit

/-- What an object tells: is it a text, its sort. -/
def obText : Ob → Bool
  | .text _ => true
  | _ => false
def obSort : Ob → Int
  | .text _ => 0
  | .words s _ => s
theorem ObW.text {w : World} {p g : Nat} {o : Ob} (h : ObW w p g o) : w.cell? ⟨p, 2, none⟩ = some (.bool (obText o)) := by
  cases o with
  | text s => exact Blk.cell h rfl
  | words s l => obtain ⟨lv, h1, h2⟩ := h; exact h1.cell rfl
theorem ObW.sort {w : World} {p g : Nat} {o : Ob} (h : ObW w p g o) : w.cell? ⟨p, 3, none⟩ = some (.int .i64 (obSort o)) := by
  cases o with
  | text s => exact Blk.cell h rfl
  | words s l => obtain ⟨lv, h1, h2⟩ := h; exact h1.cell rfl
theorem isDataO_some (o : Ob) : isDataO (some o) = (!obText o && !decide (obSort o = 7)) := by cases o with
  | text s => rfl
  | words s l => by_cases h : s = 7 <;> simp [isDataO, obText, obSort, h]
theorem isArrO_some (o : Ob) : isArrO (some o) = (!obText o && decide (obSort o = 7)) := by cases o with
  | text s => rfl
  | words s l => by_cases h : s = 7 <;> simp [isArrO, obText, obSort, h]

-- -- function 64
set_option maxHeartbeats 2000000 in
set_option maxRecDepth 8000 in
theorem isData_ok (w : World) (hb rb : Nat) (H : List Ob) (F : Nat → Prop) (hH : HeapW w hb rb H F) (hl : H.length ≤ 1073741824) (x : Wd) :
    Rets Tryz.prog 64 [ptrOf hb, wv x] w (fun v w' => v = .bool (decide (x.r = 0) || isDataO (objAt H x.r)) ∧ Ext w w') := by
  refine rets_of_ok Tryz.func64 rfl rfl ?_
  refine ok_seq (fun M hM => ok_region rfl ?_)
  repeat ((try subst X); (first | (first | apply zL | apply zH | apply zE); intro X hX | apply zl | apply zh | apply ze); try simp only [zU, reduceIte, Nat.reduceEqDiff, Nat.reduceAdd, reduceCtorEq, Q64])
  refine Runs.box (fun w1 he1 hs1 hb1 => ?_)
  simp only [Value.cells, Wd.row] at hb1
  obtain ⟨vs, ps, gs, hR, -⟩ := hH.ext he1
  repeat ((try subst X); (first | (first | apply zL | apply zH | apply zE); intro X hX | apply zl | apply zh | apply ze); try simp only [zU, reduceIte, Nat.reduceEqDiff, Nat.reduceAdd, reduceCtorEq, Q64])
  refine hM _ _ _ ?_; clear hM M
  refine ok_seq (fun M hM => ok_region rfl ?_)
  repeat ((try subst X); (first | (first | apply zL | apply zH | apply zE); intro X hX | apply zl | apply zh | apply ze); try simp only [zU, reduceIte, Nat.reduceEqDiff, Nat.reduceAdd, reduceCtorEq, Q64])
  refine ⟨_, hb1.cell (j := 2) rfl, ?_⟩
  repeat ((try subst X); (first | (first | apply zL | apply zH | apply zE); intro X hX | apply zl | apply zh | apply ze); try simp only [zU, reduceIte, Nat.reduceEqDiff, Nat.reduceAdd, reduceCtorEq, Q64])
  refine Inv.call Fx.en57 (object_ok w1 hb rb vs ps gs H hR hl x.r) ?_
  rintro v w' ⟨rfl, hv⟩
  repeat ((try subst X); (first | (first | apply zL | apply zH | apply zE); intro X hX | apply zl | apply zh | apply ze); try simp only [zU, reduceIte, Nat.reduceEqDiff, Nat.reduceAdd, reduceCtorEq, Q64])
  refine hM _ _ _ ?_; clear hM M
  refine ok_seq (fun M hM => ok_region rfl ?_)
  repeat ((try subst X); (first | (first | apply zL | apply zH | apply zE); intro X hX | apply zl | apply zh | apply ze); try simp only [zU, reduceIte, Nat.reduceEqDiff, Nat.reduceAdd, reduceCtorEq, Q64])
  refine ⟨_, hb1.cell (j := 2) rfl, ?_⟩
  repeat ((try subst X); (first | (first | apply zL | apply zH | apply zE); intro X hX | apply zl | apply zh | apply ze); try simp only [zU, reduceIte, Nat.reduceEqDiff, Nat.reduceAdd, reduceCtorEq, Q64])
  refine ⟨fun h => ?_, fun h => ?_⟩
  · have hn : ¬ x.r = 0 := by simpa using h
    rcases hv with ⟨ho, rfl⟩ | ⟨i, p, g, o, ho, hr, hi, hp, hg, rfl⟩
    · repeat ((try subst X); (first | (first | apply zL | apply zH | apply zE); intro X hX | apply zl | apply zh | apply ze); try simp only [zU, reduceIte, Nat.reduceEqDiff, Nat.reduceAdd, reduceCtorEq, Q64])
      refine Runs.ptrNe Fx.un103 ?_
      repeat ((try subst X); (first | (first | apply zL | apply zH | apply zE); intro X hX | apply zl | apply zh | apply ze); try simp only [zU, reduceIte, Nat.reduceEqDiff, Nat.reduceAdd, reduceCtorEq, Q64])
      simp only [hn, decide_false]
      repeat ((try subst X); (first | (first | apply zL | apply zH | apply zE); intro X hX | apply zl | apply zh | apply ze); try simp only [zU, reduceIte, Nat.reduceEqDiff, Nat.reduceAdd, reduceCtorEq, Q64])
      refine hM _ _ _ ?_; clear hM M
      refine ok_ret ?_
      try simp only [zW, zU, reduceIte, Nat.reduceEqDiff, Nat.reduceAdd, reduceCtorEq, Q64]
      simp [hn, ho, isDataO, he1]
    · repeat ((try subst X); (first | (first | apply zL | apply zH | apply zE); intro X hX | apply zl | apply zh | apply ze); try simp only [zU, reduceIte, Nat.reduceEqDiff, Nat.reduceAdd, reduceCtorEq, Q64])
      refine Runs.ptrNe Fx.un103 ?_
      repeat ((try subst X); (first | (first | apply zL | apply zH | apply zE); intro X hX | apply zl | apply zh | apply ze); try simp only [zU, reduceIte, Nat.reduceEqDiff, Nat.reduceAdd, reduceCtorEq, Q64])
      have hob := hR.obj i p g o hp hg hi
      refine ⟨_, ObW.text hob, ?_⟩
      repeat ((try subst X); (first | (first | apply zL | apply zH | apply zE); intro X hX | apply zl | apply zh | apply ze); try simp only [zU, reduceIte, Nat.reduceEqDiff, Nat.reduceAdd, reduceCtorEq, Q64])
      simp only [hn, decide_false]
      repeat ((try subst X); (first | (first | apply zL | apply zH | apply zE); intro X hX | apply zl | apply zh | apply ze); try simp only [zU, reduceIte, Nat.reduceEqDiff, Nat.reduceAdd, reduceCtorEq, Q64])
      refine ⟨fun h => ?_, fun h => ?_⟩
      · repeat ((try subst X); (first | (first | apply zL | apply zH | apply zE); intro X hX | apply zl | apply zh | apply ze); try simp only [zU, reduceIte, Nat.reduceEqDiff, Nat.reduceAdd, reduceCtorEq, Q64])
        refine ⟨_, ObW.sort hob, ?_⟩
        repeat ((try subst X); (first | (first | apply zL | apply zH | apply zE); intro X hX | apply zl | apply zh | apply ze); try simp only [zU, reduceIte, Nat.reduceEqDiff, Nat.reduceAdd, reduceCtorEq, Q64])
        refine hM _ _ _ ?_; clear hM M
        refine ok_ret ?_
        try simp only [zW, zU, reduceIte, Nat.reduceEqDiff, Nat.reduceAdd, reduceCtorEq, Q64]
        have ht : obText o = false := by simpa using h
        simp [hn, ho, he1, isDataO_some, ht]
      · repeat ((try subst X); (first | (first | apply zL | apply zH | apply zE); intro X hX | apply zl | apply zh | apply ze); try simp only [zU, reduceIte, Nat.reduceEqDiff, Nat.reduceAdd, reduceCtorEq, Q64])
        refine hM _ _ _ ?_; clear hM M
        refine ok_ret ?_
        try simp only [zW, zU, reduceIte, Nat.reduceEqDiff, Nat.reduceAdd, reduceCtorEq, Q64]
        have ht : obText o = true := by simpa using h
        simp [hn, ho, he1, isDataO_some, ht]
  · repeat ((try subst X); (first | (first | apply zL | apply zH | apply zE); intro X hX | apply zl | apply zh | apply ze); try simp only [zU, reduceIte, Nat.reduceEqDiff, Nat.reduceAdd, reduceCtorEq, Q64])
    refine hM _ _ _ ?_; clear hM M
    refine ok_ret ?_
    try simp only [zW, zU, reduceIte, Nat.reduceEqDiff, Nat.reduceAdd, reduceCtorEq, Q64]
    have : x.r = 0 := by simpa using h
    simp [this, he1]

-- -- function 65
set_option maxHeartbeats 2000000 in
set_option maxRecDepth 8000 in
theorem isArray_ok (w : World) (hb rb : Nat) (H : List Ob) (F : Nat → Prop) (hH : HeapW w hb rb H F) (hl : H.length ≤ 1073741824) (x : Wd) :
    Rets Tryz.prog 65 [ptrOf hb, wv x] w (fun v w' => v = .bool (decide (x.n = 0) && isArrO (objAt H x.r)) ∧ Ext w w') := by
  refine rets_of_ok Tryz.func65 rfl rfl ?_
  refine ok_seq (fun M hM => ok_region rfl ?_)
  repeat ((try subst X); (first | (first | apply zL | apply zH | apply zE); intro X hX | apply zl | apply zh | apply ze); try simp only [zU, reduceIte, Nat.reduceEqDiff, Nat.reduceAdd, reduceCtorEq, Q65])
  refine Runs.box (fun w1 he1 hs1 hb1 => ?_)
  simp only [Value.cells, Wd.row] at hb1
  obtain ⟨vs, ps, gs, hR, -⟩ := hH.ext he1
  repeat ((try subst X); (first | (first | apply zL | apply zH | apply zE); intro X hX | apply zl | apply zh | apply ze); try simp only [zU, reduceIte, Nat.reduceEqDiff, Nat.reduceAdd, reduceCtorEq, Q65])
  refine hM _ _ _ ?_; clear hM M
  refine ok_seq (fun M hM => ok_region rfl ?_)
  repeat ((try subst X); (first | (first | apply zL | apply zH | apply zE); intro X hX | apply zl | apply zh | apply ze); try simp only [zU, reduceIte, Nat.reduceEqDiff, Nat.reduceAdd, reduceCtorEq, Q65])
  refine ⟨_, hb1.cell (j := 2) rfl, ?_⟩
  repeat ((try subst X); (first | (first | apply zL | apply zH | apply zE); intro X hX | apply zl | apply zh | apply ze); try simp only [zU, reduceIte, Nat.reduceEqDiff, Nat.reduceAdd, reduceCtorEq, Q65])
  refine Inv.call Fx.en57 (object_ok w1 hb rb vs ps gs H hR hl x.r) ?_
  rintro v w' ⟨rfl, hv⟩
  repeat ((try subst X); (first | (first | apply zL | apply zH | apply zE); intro X hX | apply zl | apply zh | apply ze); try simp only [zU, reduceIte, Nat.reduceEqDiff, Nat.reduceAdd, reduceCtorEq, Q65])
  refine hM _ _ _ ?_; clear hM M
  refine ok_seq (fun M hM => ok_region rfl ?_)
  repeat ((try subst X); (first | (first | apply zL | apply zH | apply zE); intro X hX | apply zl | apply zh | apply ze); try simp only [zU, reduceIte, Nat.reduceEqDiff, Nat.reduceAdd, reduceCtorEq, Q65])
  refine ⟨_, hb1.cell (j := 1) rfl, ?_⟩
  repeat ((try subst X); (first | (first | apply zL | apply zH | apply zE); intro X hX | apply zl | apply zh | apply ze); try simp only [zU, reduceIte, Nat.reduceEqDiff, Nat.reduceAdd, reduceCtorEq, Q65])
  refine ⟨fun h => ?_, fun h => ?_⟩
  · have hn : x.n = 0 := by simpa using h
    rcases hv with ⟨ho, rfl⟩ | ⟨i, p, g, o, ho, hr, hi, hp, hg, rfl⟩
    · repeat ((try subst X); (first | (first | apply zL | apply zH | apply zE); intro X hX | apply zl | apply zh | apply ze); try simp only [zU, reduceIte, Nat.reduceEqDiff, Nat.reduceAdd, reduceCtorEq, Q65])
      refine Runs.ptrNe Fx.un103 ?_
      repeat ((try subst X); (first | (first | apply zL | apply zH | apply zE); intro X hX | apply zl | apply zh | apply ze); try simp only [zU, reduceIte, Nat.reduceEqDiff, Nat.reduceAdd, reduceCtorEq, Q65])
      refine hM _ _ _ ?_; clear hM M
      refine ok_ret ?_
      try simp only [zW, zU, reduceIte, Nat.reduceEqDiff, Nat.reduceAdd, reduceCtorEq, Q65]
      simp [hn, ho, isArrO, he1]
    · repeat ((try subst X); (first | (first | apply zL | apply zH | apply zE); intro X hX | apply zl | apply zh | apply ze); try simp only [zU, reduceIte, Nat.reduceEqDiff, Nat.reduceAdd, reduceCtorEq, Q65])
      refine Runs.ptrNe Fx.un103 ?_
      repeat ((try subst X); (first | (first | apply zL | apply zH | apply zE); intro X hX | apply zl | apply zh | apply ze); try simp only [zU, reduceIte, Nat.reduceEqDiff, Nat.reduceAdd, reduceCtorEq, Q65])
      have hob := hR.obj i p g o hp hg hi
      refine ⟨_, ObW.text hob, ?_⟩
      repeat ((try subst X); (first | (first | apply zL | apply zH | apply zE); intro X hX | apply zl | apply zh | apply ze); try simp only [zU, reduceIte, Nat.reduceEqDiff, Nat.reduceAdd, reduceCtorEq, Q65])
      refine ⟨fun h => ?_, fun h => ?_⟩
      · repeat ((try subst X); (first | (first | apply zL | apply zH | apply zE); intro X hX | apply zl | apply zh | apply ze); try simp only [zU, reduceIte, Nat.reduceEqDiff, Nat.reduceAdd, reduceCtorEq, Q65])
        refine ⟨_, ObW.sort hob, ?_⟩
        repeat ((try subst X); (first | (first | apply zL | apply zH | apply zE); intro X hX | apply zl | apply zh | apply ze); try simp only [zU, reduceIte, Nat.reduceEqDiff, Nat.reduceAdd, reduceCtorEq, Q65])
        refine hM _ _ _ ?_; clear hM M
        refine ok_ret ?_
        try simp only [zW, zU, reduceIte, Nat.reduceEqDiff, Nat.reduceAdd, reduceCtorEq, Q65]
        have ht : obText o = false := by simpa using h
        simp [hn, ho, he1, isArrO_some, ht]
      · repeat ((try subst X); (first | (first | apply zL | apply zH | apply zE); intro X hX | apply zl | apply zh | apply ze); try simp only [zU, reduceIte, Nat.reduceEqDiff, Nat.reduceAdd, reduceCtorEq, Q65])
        refine hM _ _ _ ?_; clear hM M
        refine ok_ret ?_
        try simp only [zW, zU, reduceIte, Nat.reduceEqDiff, Nat.reduceAdd, reduceCtorEq, Q65]
        have ht : obText o = true := by simpa using h
        simp [hn, ho, he1, isArrO_some, ht]
  · repeat ((try subst X); (first | (first | apply zL | apply zH | apply zE); intro X hX | apply zl | apply zh | apply ze); try simp only [zU, reduceIte, Nat.reduceEqDiff, Nat.reduceAdd, reduceCtorEq, Q65])
    refine hM _ _ _ ?_; clear hM M
    refine ok_ret ?_
    try simp only [zW, zU, reduceIte, Nat.reduceEqDiff, Nat.reduceAdd, reduceCtorEq, Q65]
    have : ¬ x.n = 0 := by simpa using h
    simp [this, he1]

theorem rule_ok {w : World} {hb rb : Nat} {H : List Ob} {F : Nat → Prop} (hH : HeapW w hb rb H F) (hl : H.length ≤ 1073741824) {x : Wd} {fv : Value} (hf : ruleF hb x.k = some fv) {next : Value → World → Prop} {pan : List PanicEntry → World → Prop}
    (hn : ∀ w', Ext w w' → next (.bool (rightW H x)) w') : Inv Tryz.prog fv [wv x] w (callR next pan) := by
  unfold ruleF at hf
  split at hf
  · rename_i h0
    cases hf
    refine Inv.call Fx.en62 (none_ok w x) ?_
    rintro v w' ⟨rfl, he⟩
    have := hn w' he
    unfold rightW at this
    rwa [if_pos h0] at this
  rename_i h0
  split at hf
  · rename_i h1
    cases hf
    refine Inv.call Fx.en61 (number_ok w x) ?_
    rintro v w' ⟨rfl, he⟩
    have := hn w' he
    unfold rightW at this
    rwa [if_neg h0, if_pos h1] at this
  rename_i h1
  split at hf
  · rename_i h2
    cases hf
    refine Inv.bound (first := [ptrOf hb]) Fx.en63 (isText_ok w hb rb H F hH hl x) ?_
    rintro v w' ⟨rfl, he⟩
    have := hn w' he
    unfold rightW at this
    rwa [if_neg h0, if_neg h1, if_pos h2] at this
  rename_i h2
  split at hf
  · rename_i h3
    cases hf
    refine Inv.bound (first := [ptrOf hb]) Fx.en64 (isData_ok w hb rb H F hH hl x) ?_
    rintro v w' ⟨rfl, he⟩
    have := hn w' he
    unfold rightW at this
    rwa [if_neg h0, if_neg h1, if_neg h2, if_pos h3] at this
  rename_i h3
  split at hf
  · rename_i h4
    cases hf
    refine Inv.bound (first := [ptrOf hb]) Fx.en65 (isArray_ok w hb rb H F hH hl x) ?_
    rintro v w' ⟨rfl, he⟩
    have := hn w' he
    unfold rightW at this
    rwa [if_neg h0, if_neg h1, if_neg h2, if_neg h3, if_pos h4] at this
  · cases hf
theorem rule_none {H : List Ob} {hb : Nat} {x : Wd} (hf : ruleF hb x.k = none) : rightW H x = false := by
  unfold ruleF at hf
  unfold rightW
  split at hf
  · cases hf
  split at hf
  · cases hf
  split at hf
  · cases hf
  split at hf
  · cases hf
  split at hf
  · cases hf
  simp [*]

-- -- function 12
set_option maxHeartbeats 2000000 in
set_option maxRecDepth 8000 in
theorem right_ok (w : World) (hb rb : Nat) (H : List Ob) (F : Nat → Prop) (hH : HeapW w hb rb H F) (hl : H.length ≤ 1073741824) (x : Wd) :
    Rets Tryz.prog 12 [ptrOf hb, wv x] w (fun v w' => v = .bool (rightW H x) ∧ Ext w w') := by
  refine rets_of_ok Tryz.func12 rfl rfl ?_
  refine ok_seq (fun M hM => ok_region rfl ?_)
  repeat ((try subst X); (first | (first | apply zL | apply zH | apply zE); intro X hX | apply zl | apply zh | apply ze); try simp only [zU, reduceIte, Nat.reduceEqDiff, Nat.reduceAdd, reduceCtorEq, Q12])
  refine Runs.box (fun w1 he1 hs1 hb1 => ?_)
  generalize hB : w.heap.size = B at *
  simp only [Value.cells, Wd.row] at hb1
  have hH1 := hH.ext he1
  repeat ((try subst X); (first | (first | apply zL | apply zH | apply zE); intro X hX | apply zl | apply zh | apply ze); try simp only [zU, reduceIte, Nat.reduceEqDiff, Nat.reduceAdd, reduceCtorEq, Q12])
  refine hM _ _ _ ?_; clear hM M
  refine ok_join [(0, ptrOf hb), (3, ptrOf B)] (fun w' => w' = w1) ?_ ?_
  · refine ok_seq (fun M hM => ok_region rfl ?_)
    repeat ((try subst X); (first | (first | apply zL | apply zH | apply zE); intro X hX | apply zl | apply zh | apply ze); try simp only [zU, reduceIte, Nat.reduceEqDiff, Nat.reduceAdd, reduceCtorEq, Q12])
    refine Runs.ptrEq Fx.un25 ?_
    repeat ((try subst X); (first | (first | apply zL | apply zH | apply zE); intro X hX | apply zl | apply zh | apply ze); try simp only [zU, reduceIte, Nat.reduceEqDiff, Nat.reduceAdd, reduceCtorEq, Q12])
    refine hM _ _ _ ?_; clear hM M
    refine ok_cond rfl (fun h => by cases h) (fun h => ok_skip ?_)
    try simp only [zW, zU, reduceIte, Nat.reduceEqDiff, Nat.reduceAdd, reduceCtorEq, Q12]
    simp [sub, Env.get]
  rintro w' rfl
  obtain ⟨vs, ps, gs, hR, -⟩ := id hH1
  refine ok_seq (fun M hM => ok_draw 12 [] (Ext _) Fx.mixed (by decide) rfl (by decide +kernel) (by decide +kernel) (Ext.drew _) ?_); repeat ((try subst X); (first | (first | apply zL | apply zH | apply zE); intro X hX | apply zl | apply zh | apply ze); try simp only [zU, reduceIte, Nat.reduceEqDiff, Nat.reduceAdd, reduceCtorEq, Q12])
  refine ⟨_, fun w5 h => h.cell (hR.head.cell (j := 1) rfl), ?_⟩
  repeat ((try subst X); (first | (first | apply zL | apply zH | apply zE); intro X hX | apply zl | apply zh | apply ze); try simp only [zU, reduceIte, Nat.reduceEqDiff, Nat.reduceAdd, reduceCtorEq, Q12])
  refine ⟨_, fun w5 h => h.cell (hb1.cell (j := 0) rfl), ?_⟩
  repeat ((try subst X); (first | (first | apply zL | apply zH | apply zE); intro X hX | apply zl | apply zh | apply ze); try simp only [zU, reduceIte, Nat.reduceEqDiff, Nat.reduceAdd, reduceCtorEq, Q12])
  refine ⟨_, fun w5 h => run_lookupI Fx.un68 Fx.un3 Fx.zi45 (hR.rules.ext h) x.k, ?_⟩
  repeat ((try subst X); (first | (first | apply zL | apply zH | apply zE); intro X hX | apply zl | apply zh | apply ze); try simp only [zU, reduceIte, Nat.reduceEqDiff, Nat.reduceAdd, reduceCtorEq, Q12])
  intro w2 he2
  repeat ((try subst X); (first | (first | apply zL | apply zH | apply zE); intro X hX | apply zl | apply zh | apply ze); try simp only [zU, reduceIte, Nat.reduceEqDiff, Nat.reduceAdd, reduceCtorEq, Q12])
  refine hM _ _ _ ?_; clear hM M
  refine ok_seq (fun M hM => ok_region rfl ?_)
  repeat ((try subst X); (first | (first | apply zL | apply zH | apply zE); intro X hX | apply zl | apply zh | apply ze); try simp only [zU, reduceIte, Nat.reduceEqDiff, Nat.reduceAdd, reduceCtorEq, Q12])
  cases hf : ruleF hb x.k with
  | none =>
    simp only [Option.isSome_none]
    refine ⟨fun h => (by cases h), fun _ => ?_⟩
    repeat ((try subst X); (first | (first | apply zL | apply zH | apply zE); intro X hX | apply zl | apply zh | apply ze); try simp only [zU, reduceIte, Nat.reduceEqDiff, Nat.reduceAdd, reduceCtorEq, Q12])
    repeat ((try subst X); (first | (first | apply zL | apply zH | apply zE); intro X hX | apply zl | apply zh | apply ze); try simp only [zU, reduceIte, Nat.reduceEqDiff, Nat.reduceAdd, reduceCtorEq, Q12])
    refine hM _ _ _ ?_; clear hM M
    refine ok_ret ?_
    try simp only [zW, zU, reduceIte, Nat.reduceEqDiff, Nat.reduceAdd, reduceCtorEq, Q12]
    rw [rule_none hf]
    simp [he1.trans he2]
  | some fv =>
    simp only [Option.isSome_some, Option.getD_some]
    refine ⟨fun _ => ?_, fun h => by cases h⟩
    repeat ((try subst X); (first | (first | apply zL | apply zH | apply zE); intro X hX | apply zl | apply zh | apply ze); try simp only [zU, reduceIte, Nat.reduceEqDiff, Nat.reduceAdd, reduceCtorEq, Q12])
    refine ⟨x.row, rfl, (hb1.ext he2).cells (row := x.row) (o := 0) (fun j u hj => by simpa [Wd.row] using hj), ?_⟩
    repeat ((try subst X); (first | (first | apply zL | apply zH | apply zE); intro X hX | apply zl | apply zh | apply ze); try simp only [zU, reduceIte, Nat.reduceEqDiff, Nat.reduceAdd, reduceCtorEq, Q12])
    refine rule_ok (hH1.ext he2) hl hf (fun w3 he3 => ?_)
    repeat ((try subst X); (first | (first | apply zL | apply zH | apply zE); intro X hX | apply zl | apply zh | apply ze); try simp only [zU, reduceIte, Nat.reduceEqDiff, Nat.reduceAdd, reduceCtorEq, Q12])
    refine hM _ _ _ ?_; clear hM M
    refine ok_ret ?_
    try simp only [zW, zU, reduceIte, Nat.reduceEqDiff, Nat.reduceAdd, reduceCtorEq, Q12]
    exact he1.trans (he2.trans he3)
end Go.Proofs.YtldeokfhipjbfaaGreatDoor
/- append of rows to one's own row; empty literals; structs built of parts. -/
set_option linter.unusedVariables false
set_option linter.unusedSimpArgs false
namespace Go.Proofs.Vg
open Go Go.RowKit
/-- An empty literal. -/
theorem Runs.lit00 {P : Program} {w : World} {t : TypeId} {e : Nat} {nx : Value → World → Prop} {z : Option Value} {sz by_ : Nat} (ht : P.underlying t = some (.slice e)) (hz : zinfo P e = some (z, sz, by_))
    (h : ∀ w1, Ext w w1 → w1.heap.size = w.heap.size + 1 → Blk w1 w.heap.size [] e → nx (.slice (some ⟨w.heap.size, 0, none⟩) 0 0) w1) : Runs P (Instr.buildSlice t 0 (#[] : Array (Nat × Value))) w nx := by
  obtain ⟨i, hi, hzz, hs, hb⟩ := zinfo_some hz
  refine ⟨_, newW w [] e, ?_, h _ (newW_ext _ _ _) (newW_size _ _ _) (newW_blk _ _ _)⟩
  simp [Instr.buildSlice, run_underlying ht, sizeOf, typeInfo, hi, newRow, newObj, Sem.run, newW, Instr.fill]
  congr 2
  exact Array.ext (by simp) (fun i h => by simp at h)
/-- A struct's places and zero cells. -/
def stInf (P : Program) (t : TypeId) : Option (List (Nat × Nat) × Array Value) := match P.info? t, P.underlying t with
  | some it, some (.struct fields) => (match it.zero, fields.toList.mapM (fun f => (P.info? f.type).map fun i => (f.offset, i.size)) with
    | some z, some places => some (places, z.cells)
    | _, _ => none)
  | _, _ => none
theorem built_of {P : Program} {t : TypeId} {pl : List (Nat × Nat)} {zc : Array Value} {parts : List (Nat × Value)} (h : stInf P t = some (pl, zc)) : P.built t parts = Instr.fill (pl.toArray[·]?) zc parts := by
  unfold stInf at h
  unfold Program.built
  split at h
  · rename_i it fields h1 h2
    rw [h1, h2]
    simp only
    split at h
    · rename_i z places h3 h4
      rw [h3, h4]
      cases h
      rfl
    · cases h
  · cases h
theorem run_append_none' {P : Program} {w : World} (base : Nat) (t ty e : TypeId) (i : TypeInfo) (size : Nat) (ht : P.underlying t = some (.slice e)) (hi : P.info? e = some i)
    (v : Value) (n c : Nat) (xs : List Value) (hown : w.ownsRow base e size v n xs) :
    (Builtin.append_ #[t, t] ty #[v, .slice none 0 c]).run P w = .ok v w := by
  rcases hown.2 with ⟨rfl, rfl⟩ | ⟨g, cap, cur, rfl, _, _, hnc, _⟩
  · simp [Builtin.append_, run_underlying ht, sizeOf, typeInfo, hi, Builtin.lenOf, Builtin.firstCells]
  · simp [Builtin.append_, run_underlying ht, sizeOf, typeInfo, hi, Builtin.lenOf, Builtin.firstCells, hnc, storeCells]
theorem flat_get {sz : Nat} : ∀ (rows : List (List Value)), (∀ r ∈ rows, r.length = sz) → ∀ (m : Nat) (u : Value), rows.flatten[m]? = some u → 0 < sz → ∃ j k row, rows[j]? = some row ∧ row[k]? = some u ∧ m = j * sz + k := by
  intro rows
  induction rows with
  | nil => intro _ m u h; simp at h
  | cons r rs ih =>
    intro hr m u h hs
    have h0 := hr r List.mem_cons_self
    rw [List.flatten_cons] at h
    rcases Nat.lt_or_ge m r.length with hm | hm
    · rw [List.getElem?_append_left hm] at h
      exact ⟨0, m, r, rfl, h, by omega⟩
    · rw [List.getElem?_append_right hm] at h
      obtain ⟨j, k, row, h1, h2, h3⟩ := ih (fun x hx => hr x (List.mem_cons_of_mem _ hx)) _ u h hs
      exact ⟨j + 1, k, row, by simpa using h1, h2, by rw [Nat.add_mul]; omega⟩
/-- append of a slice's rows to one's own row. -/
theorem Runs.appendR {P : Program} {w : World} {t ty e : TypeId} {z : Value} {sz by_ base : Nat} (ht : P.underlying t = some (.slice e)) (hz : zinfo P e = some (some z, sz, by_)) (hzs : z.cells.size = sz) (hsz : 0 < sz)
    {v vs : Value} {n : Nat} {xs : List Value} {rows : List (List Value)} (hown : w.ownsRow base e sz v n xs) (hs : Sli w sz vs rows) (hr : ∀ r ∈ rows, r.length = sz ∧ ∀ u ∈ r, u.oneCell' = true)
    (h63 : n + rows.length ≤ maxLen) (hbytes : (n + rows.length) * by_ ≤ 140737488355328) (hbase : base ≤ w.heap.size) {cs : Array Bool} {nx : Value → World → Prop}
    (h : ∀ v' w', w'.ownsRow base e sz v' (n + rows.length) (xs ++ rows.flatten) → w.grownBy w' v.ownBlock → (v'.ownBlock = v.ownBlock ∨ v'.ownBlock = some w.heap.size) → nx v' w') :
    Runs P (builtin .append #[t, t] ty cs [v, vs].toArray) w (builtinR nx) := by
  obtain ⟨i, hi, hzz, hsi, hbb⟩ := zinfo_some hz
  obtain ⟨A, c, rfl, hl, hcell⟩ := hs
  have fin : ∀ v' w', (Builtin.append_ #[t, t] ty #[v, .slice A rows.length c]).run P w = .ok v' w' → nx v' w' → Runs P (builtin .append #[t, t] ty cs [v, .slice A rows.length c].toArray) w (builtinR nx) := fun v' w' hr hn => by
    refine ⟨.value v', w', ?_, hn⟩
    simp only [builtin]
    rw [Sem.run_bind]
    have : [v, Value.slice A rows.length c].toArray = #[v, .slice A rows.length c] := rfl
    rw [this, hr]
    rfl
  cases hA : A with
  | none =>
    subst hA
    have hy : rows = [] := by
      cases rows with
      | nil => rfl
      | cons y ys => obtain ⟨b, o, h1, _⟩ := hcell 0 y rfl; cases h1
    subst hy
    refine fin v w (run_append_none' base t ty e i sz ht hi v n c xs hown) (h v w ?_ ⟨rfl, rfl, rfl, Nat.le_refl _, fun _ _ _ => rfl⟩ (.inl rfl))
    simpa using hown
  | some a =>
    subst hA
    have hlen : ∀ (rs : List (List Value)), (∀ r ∈ rs, r.length = sz) → rs.flatten.length = rs.length * sz := by
      intro rs
      induction rs with
      | nil => intro _; simp
      | cons r rs ih => intro h; rw [List.flatten_cons, List.length_append, h r List.mem_cons_self, ih (fun x hx => h x (List.mem_cons_of_mem _ hx)), List.length_cons, Nat.add_mul]; omega
    obtain ⟨v', w', hr2, ho, hg, _, hown2⟩ := run_append_own_at (P := P) w base t ty e i z sz by_ ht hi hzz hsi hbb hzs hsz v n xs hown a rows.length c rows.flatten (hlen rows fun r hr' => (hr r hr').1)
      (fun m u hm => by
        obtain ⟨j, k, row, h1, h2, h3⟩ := flat_get rows (fun r hr' => (hr r hr').1) m u hm hsz
        obtain ⟨b, o, h4, h5⟩ := hcell j row h1
        cases h4
        have := h5 k u h2
        rw [add_at] at this ⊢
        rw [h3, ← Nat.add_assoc]; exact this)
      (fun u hu => by obtain ⟨r, hr1, hr2⟩ := List.mem_flatten.1 hu; exact (hr r hr1).2 u hr2) h63 hbytes hbase
    exact fin v' w' hr2 (h v' w' ho hg hown2)
/-- append of one element that lies in a block of its own: where the row lies then. -/
theorem Runs.append1' {P : Program} {w : World} {t ty e : TypeId} {z : Value} {sz by_ base : Nat} (ht : P.underlying t = some (.slice e)) (hz : zinfo P e = some (some z, sz, by_)) (hzs : z.cells.size = sz) (hsz : 0 < sz)
    {v : Value} {n : Nat} {xs : List Value} (hown : w.ownsRow base e sz v n xs) {b : Nat} {news : List Value} {c : Nat} {eb : TypeId} (hb : Blk w b news eb) (hl : news.length = sz) (h1 : ∀ u ∈ news, u.oneCell' = true)
    (h63 : n + 1 ≤ maxLen) (hbytes : (n + 1) * by_ ≤ 140737488355328) (hbase : base ≤ w.heap.size) {cs : Array Bool} {nx : Value → World → Prop}
    (h : ∀ v' w', w'.ownsRow base e sz v' (n + 1) (xs ++ news) → w.grownBy w' v.ownBlock → (v'.ownBlock = v.ownBlock ∨ v'.ownBlock = some w.heap.size) → nx v' w') :
    Runs P (builtin .append #[t, t] ty cs [v, .slice (some ⟨b, 0, none⟩) 1 c].toArray) w (builtinR nx) := by
  refine Runs.appendR (rows := [news]) ht hz hzs hsz hown ⟨some ⟨b, 0, none⟩, c, rfl, by simp, fun j row hj => ⟨b, 0, rfl, ?_⟩⟩ (by simpa using ⟨hl, h1⟩) h63 hbytes hbase (by simpa using h)
  have hj0 : j = 0 := by have := (List.getElem?_eq_some_iff.1 hj).1; simp at this; exact this
  subst hj0
  simp at hj; subst hj
  rw [Nat.zero_mul]
  exact hb.cells (o := 0) (fun j u hj => by simpa using hj)
end Go.Proofs.Vg
