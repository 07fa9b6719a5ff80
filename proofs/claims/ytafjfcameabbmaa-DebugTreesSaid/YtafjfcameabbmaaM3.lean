/- Part 3 of 14: Vg29, Vg30, Vg31, Vg17, Vg24, Vg25, Vg32, Fx2, Fq, D1, D2. -/
import Derived.Test.YtafjfcameabbmaaM2
import Derived.Deep.Slices
import Derived.SizedLaws
import Derived.Carry
import Derived.ProofKit
import Derived.Test.YtafjfcameabbmaaProg
import Derived.KernelRfl
/- A region in the order of the text where additions and subtractions may overflow. -/
set_option linter.unusedVariables false
set_option linter.unusedSimpArgs false
namespace Go.Proofs.Vg
open Go Go.RowKit
def opFW (P : Program) (K : Env) (w : World) (next : Value → World → Prop) (pan : List PanicEntry → World → Prop) (type : TypeId) : Op → Prop
  | .binOp .add _ x y _ => (match ev K x, ev K y with
    | some (.int k a), some (.int k' b) => k = k' ∧ next (.int k (k.wrap (a + b))) w
    | _, _ => False)
  | .binOp .sub _ x y _ => (match ev K x, ev K y with
    | some (.int k a), some (.int k' b) => k = k' ∧ next (.int k (k.wrap (a - b))) w
    | _, _ => False)
  | op => opF P K w next pan type op
/-- What a list of operations owes, carried out in the order of the text. -/
def wpLW (P : Program) (ops : List Oper) (pan : List PanicEntry → Env → World → Prop) (M : Env → World → Prop) : List Oper → Env → World → Prop
  | [], K, w => M K w
  | o :: rest, K, w =>
    match o.guard with
    | none => opFW P K w (fun v w' => wpLW P ops pan M rest (putE o.dst v K) w') (fun ch w' => pan ch K w') o.type o.op
    | some (j, want) => match gdst ops j with
      | some d => (match K.get d with
        | some (.bool b) => (b = want → opFW P (K.set d (.bool want)) w (fun v w' => wpLW P ops pan M rest (putE o.dst v (K.set d (.bool want))) w') (fun ch w' => pan ch (K.set d (.bool want)) w') o.type o.op) ∧
            (b = !want → wpLW P ops pan M rest (putE o.dst undef (K.set d (.bool !want))) w)
        | some (.tuple _) => wpLW P ops pan M rest (putE o.dst undef K) w
        | _ => False)
      | none => False


section
variable {P : Program} {ρ : Option Nat} {N : Nat} {K : Env} {ds : List Deferred} {w : World} {a : Act} {Φ : Post}
theorem opFW_sound {o : Oper} {M : Act → World → Prop} {Q : Exit → Act → World → Prop} {nx : Value → World → Prop} {pan : List PanicEntry → World → Prop} (ha : Kn K N ds a) (h : opFW P K w nx pan o.type o.op)
    (hn : ∀ v w', nx v w' → M (a.put o.dst v) w') (hp : ∀ ch w', pan ch w' → Q (.panic ch) a w') : o.wpIn (fence ρ) 0 P a w M Q := by
  have old : opF P K w nx pan o.type o.op → o.wpIn (fence ρ) 0 P a w M Q := fun h => opF_sound ha h hn hp
  cases hop : o.op
  case binOp op t x y z =>
    rw [hop] at h old
    cases op <;> simp only [opFW] at h
    case add =>
      split at h
      · rename_i k p k' q hx hy
        obtain ⟨rfl, hh⟩ := h
        exact wpIn_val (by simp [hop]) (by simp [execOp, hop, ev_eval ha hx, ev_eval ha hy, eqGuard, binOp, Op.intArith]) (hn _ _ hh)
      · exact h.elim
    case sub =>
      split at h
      · rename_i k p k' q hx hy
        obtain ⟨rfl, hh⟩ := h
        exact wpIn_val (by simp [hop]) (by simp [execOp, hop, ev_eval ha hx, ev_eval ha hy, eqGuard, binOp, Op.intArith]) (hn _ _ hh)
      · exact h.elim
    all_goals exact old h
  all_goals
    rw [hop] at h old
    exact old h
theorem wpLW_sound {ops : List Oper} {pan : List PanicEntry → Env → World → Prop} {M : Env → World → Prop} (hp : ∀ ch K w, pan ch K w → Φ (.panic ch) K ds w) (hM : ∀ K w, M K w → Φ .normal K ds w) :
    ∀ (rest : List Oper) (K : Env) (w : World) (a : Act), dstsOk N rest = true → Kn K N ds a → wpLW P ops pan M rest K w → wpListIn (fence ρ) 0 P ops.toArray (lift N Φ) rest a w
  | [], K, w, a, _, ha, h => ⟨K, ds, ha, hM _ _ h⟩
  | o :: rest, K, w, a, hd, ha, h => by
    simp only [dstsOk, List.all_cons, Bool.and_eq_true] at hd
    have hd0 : ∀ d, o.dst = some d → d < N := fun d he => by have := hd.1; rw [he] at this; simpa using this
    simp only [wpLW] at h
    unfold wpListIn
    cases hg : o.guard with
    | none =>
      rw [hg] at h
      simp only [Region.wanted, hg, if_true]
      exact opFW_sound ha h (fun v w' hv => wpLW_sound hp hM rest _ _ _ hd.2 (ha.put hd0) hv) (fun ch w' hc => ⟨K, ds, ha, hp _ _ _ hc⟩)
    | some gd =>
      obtain ⟨j, want⟩ := gd
      rw [hg] at h
      simp only at h
      split at h
      · rename_i d hgd
        have hy : yielded ops.toArray a.tmps j = match a.tmps[d]? with | some (.bool b) => some b | _ => none := by
          unfold gdst at hgd
          split at hgd
          · rename_i oj hj
            simp only [yielded, List.getElem?_toArray, hj, Option.bind_some, hgd]
            split <;> simp_all
          · cases hgd
        split at h
        · rename_i b hb
          have hya : yielded ops.toArray a.tmps j = some b := by rw [hy, ha.at_ _ _ hb]
          by_cases hbw : b = want
          · subst hbw
            have hw : Region.wanted o (yielded ops.toArray a.tmps) = true := by simp [Region.wanted, hg, hya]
            rw [if_pos hw]
            have ha' := ha.set hb
            exact opFW_sound ha' (h.1 rfl) (fun v w' hv => wpLW_sound hp hM rest _ _ _ hd.2 (ha'.put hd0) hv) (fun ch w' hc => ⟨_, ds, ha', hp _ _ _ hc⟩)
          · have hbn : b = !want := by cases b <;> cases want <;> simp_all
            have hw : ¬ Region.wanted o (yielded ops.toArray a.tmps) = true := by simp [Region.wanted, hg, hya, hbw]
            rw [if_neg hw]
            have ha' := ha.set (hbn ▸ hb)
            exact ⟨fun _ _ => trivial, wpLW_sound hp hM rest _ _ _ hd.2 (ha'.put hd0) (h.2 hbn)⟩
        · rename_i x hb
          have hya : yielded ops.toArray a.tmps j = none := by rw [hy, ha.at_ _ _ hb]
          have hw : ¬ Region.wanted o (yielded ops.toArray a.tmps) = true := by simp [Region.wanted, hg, hya]
          rw [if_neg hw]
          exact ⟨fun _ _ => trivial, wpLW_sound hp hM rest _ _ _ hd.2 (ha.put hd0) h⟩
        · exact h.elim
      · exact h.elim

theorem wpLW_step {ops : List Oper} {pan : List PanicEntry → Env → World → Prop} {M : Env → World → Prop} {o : Oper} {rest : List Oper} (h : ∀ X : Value → Env → World → Prop, X = (fun v K' w' => wpLW P ops pan M rest (putE o.dst v K') w') →
    match o.guard with
    | none => opFW P K w (fun v w' => X v K w') (fun ch w' => pan ch K w') o.type o.op
    | some (j, want) => match gdst ops j with
      | some d => (match K.get d with
        | some (.bool b) => (b = want → opFW P (K.set d (.bool want)) w (fun v w' => X v (K.set d (.bool want)) w') (fun ch w' => pan ch (K.set d (.bool want)) w') o.type o.op) ∧
            (b = !want → X undef (K.set d (.bool !want)) w)
        | some (.tuple _) => X undef K w
        | _ => False)
      | none => False) : wpLW P ops pan M (o :: rest) K w := h _ rfl
theorem wpLW_end {ops : List Oper} {pan : List PanicEntry → Env → World → Prop} {M : Env → World → Prop} (h : M K w) : wpLW P ops pan M [] K w := h
/-- A region in the order of the text. -/
theorem ok_regionF {id : Nat} {ops : List Oper} (hd : dstsOk N ops = true) (h : wpLW P ops (fun ch K w => Φ (.panic ch) K ds w) (fun K w => Φ .normal K ds w) ops K w) :
    ok P ρ N (.region id ops.toArray false) K ds w Φ :=
  fun a ha => wpIn_region_lit (wpLW_sound (fun _ _ _ h => h) (fun _ _ h => h) ops K w a hd ha h)
theorem wrap64 (n : Int) : IntKind.i64.wrap n = (n + 9223372036854775808) % 18446744073709551616 - 9223372036854775808 := by
  simp only [IntKind.wrap, IntKind.bits, IntKind.signed, if_true]
  simp
  omega
end
end Go.Proofs.Vg
/- A region that draws its order, where calculations may overflow. -/
set_option linter.unusedVariables false
set_option linter.unusedSimpArgs false
namespace Go.Proofs.Vg
open Go Go.RowKit
def opHW (P : Program) (K : Env) (C : World → Prop) (next : Value → Prop) (type : TypeId) : Op → Prop
  | .binOp .add _ x y _ => (match ev K x, ev K y with
    | some (.int k a), some (.int k' b) => k = k' ∧ next (.int k (k.wrap (a + b)))
    | _, _ => False)
  | .binOp .sub _ x y _ => (match ev K x, ev K y with
    | some (.int k a), some (.int k' b) => k = k' ∧ next (.int k (k.wrap (a - b)))
    | _, _ => False)
  | op => opH P K C next type op
section
variable {P : Program} {ρ : Option Nat} {N : Nat} {K : Env} {ds : List Deferred} {w : World} {ops : List Oper} {n : Nat} {C : World → Prop}
theorem runSub {k : IntKind} {t : TypeId} {x y : Operand} {a b : Int} (w : World) : (do eqGuard .sub t x y (.int k a) (.int k b); binOp .sub t (.int k a) (.int k b) : Sem Value).run P w = .ok (.int k (k.wrap (a - b))) w := by simp [eqGuard, binOp, Op.intArith]
theorem runAdd {k : IntKind} {t : TypeId} {x y : Operand} {a b : Int} (w : World) : (do eqGuard .add t x y (.int k a) (.int k b); binOp .add t (.int k a) (.int k b) : Sem Value).run P w = .ok (.int k (k.wrap (a + b))) w := by simp [eqGuard, binOp, Op.intArith]
theorem yl_run {o : Oper} {op : BinOp} {t : TypeId} {x y : Operand} {z : TypeId} {p q v : Value} (hop : o.op = .binOp op t x y z) (hx : ev K x = some p) (hy : ev K y = some q)
    (hv : ∀ w', (do eqGuard op t x y p q; binOp op t p q : Sem Value).run P w' = .ok v w') {a : Act} (hk1 : Kn K N ds a) (hwt : Region.wanted o (yielded ops.toArray a.tmps) = true) : Yl P ρ ops C o v a := by
  refine .inl ⟨hwt, fun hk => by rw [hop] at hk; simp [kindOf] at hk, fun hk w' hw' => ?_⟩
  rw [Oper.semAt_eq _ _ _ (by simp [hop])]
  simp only [execOp, hop, ev_eval hk1 hx, ev_eval hk1 hy]
  rw [Sem.run_bind, hv]
  exact ⟨rfl, rfl⟩
theorem opHW_still {nx : Value → Prop} {o : Oper} (hN : 0 < N) (h : opHW P K C nx o.type o.op) : ∃ v, nx v ∧ ∀ {a : Act}, Kn K N ds a → Region.wanted o (yielded ops.toArray a.tmps) = true → Yl P ρ ops C o v a := by
  have old : opH P K C nx o.type o.op → ∃ v, nx v ∧ ∀ {a : Act}, Kn K N ds a → Region.wanted o (yielded ops.toArray a.tmps) = true → Yl P ρ ops C o v a := fun h => by
    obtain ⟨v, hv, hs⟩ := opH_still h
    exact ⟨v, hv, fun hk1 hwt => .inl ⟨hwt, fun hk w' hw' => upon1_of_opF hk1 hN (hs.1 hk w' hw'), fun hk w' hw' => upon1_of_opF (C := fun x => x = w') hk1 hN (hs.2 hk w' hw')⟩⟩
  cases hop : o.op
  case binOp op t x y z =>
    rw [hop] at h old
    cases op <;> simp only [opHW] at h
    case add =>
      split at h
      · rename_i k a k' b hx hy
        obtain ⟨rfl, hn⟩ := h
        exact ⟨_, hn, fun hk1 hwt => yl_run hop hx hy (fun w' => runAdd w') hk1 hwt⟩
      · exact h.elim
    case sub =>
      split at h
      · rename_i k a k' b hx hy
        obtain ⟨rfl, hn⟩ := h
        exact ⟨_, hn, fun hk1 hwt => yl_run hop hx hy (fun w' => runSub w') hk1 hwt⟩
      · exact h.elim
    all_goals exact old h
  all_goals
    rw [hop] at h old
    exact old h
/-- What the heads owe, in the order of the text; each leaves one value. -/
def wpHW (P : Program) (ops : List Oper) (C : World → Prop) (M : Env → Prop) : List Oper → Env → Prop
  | [], K => M K
  | o :: rest, K =>
    match o.guard with
    | none => opHW P K C (fun v => wpHW P ops C M rest (putE o.dst v K)) o.type o.op
    | some (j, want) => match gdst ops j with
      | some d => (match K.get d with
        | some (.bool b) => (b = want → opHW P (K.set d (.bool want)) C (fun v => wpHW P ops C M rest (putE o.dst v (K.set d (.bool want)))) o.type o.op) ∧
            (b = !want → wpHW P ops C M rest (putE o.dst undef (K.set d (.bool !want))))
        | some (.tuple _) => wpHW P ops C M rest (putE o.dst undef K)
        | _ => False)
      | none => False

theorem wpHW_steps (hN : 0 < N) {M : Env → Prop} : ∀ (rest : List Oper) (k : Nat) (K : Env) (a : Act), (∀ j, j < rest.length → rest[j]? = ops[k + j]?) → dstsOk N rest = true → Kn K N ds a → wpHW P ops C M rest K →
    ∃ (A : Nat → Act) (V : Nat → Value) (K' : Env), A k = a ∧ (∀ i o, k ≤ i → i < k + rest.length → ops[i]? = some o → A (i + 1) = (A i).put o.dst (V i) ∧ Yl P ρ ops C o (V i) (A i)) ∧
      Kn K' N ds (A (k + rest.length)) ∧ M K'
  | [], k, K, a, _, _, ha, h => ⟨fun _ => a, fun _ => undef, K, rfl, fun i o h1 h2 => by simp at h2; omega, ha, h⟩
  | o :: rest, k, K, a, hr, hd, ha, h => by
    simp only [dstsOk, List.all_cons, Bool.and_eq_true] at hd
    have hd0 : ∀ d, o.dst = some d → d < N := fun d he => by have := hd.1; rw [he] at this; simpa using this
    have ho : ops[k]? = some o := by simpa using (hr 0 (by simp)).symm
    -- one step, whatever it leaves
    have go : ∀ (v : Value) (K1 : Env), Kn K1 N ds a → Yl P ρ ops C o v a → wpHW P ops C M rest (putE o.dst v K1) →
        ∃ (A : Nat → Act) (V : Nat → Value) (K' : Env), A k = a ∧ (∀ i o', k ≤ i → i < k + (o :: rest).length → ops[i]? = some o' → A (i + 1) = (A i).put o'.dst (V i) ∧ Yl P ρ ops C o' (V i) (A i)) ∧
          Kn K' N ds (A (k + (o :: rest).length)) ∧ M K' := by
      intro v K1 hk1 hy hh
      obtain ⟨A, V, K', hA, hst, hk', hM⟩ := wpHW_steps hN rest (k + 1) _ (a.put o.dst v) (fun j hj => by have := hr (j + 1) (by simp; omega); simpa [Nat.add_assoc, Nat.add_comm 1 j] using this) hd.2 (hk1.put hd0) hh
      refine ⟨fun i => if i = k then a else A i, fun i => if i = k then v else V i, K', by simp, fun i o' h1 h2 ho' => ?_, ?_, hM⟩
      · by_cases hi : i = k
        · subst hi
          rw [ho] at ho'; cases ho'
          simp [hA, hy]
        · have h3 := hst i o' (by omega) (by simp at h2; omega) ho'
          simp only [if_neg hi, if_neg (show i + 1 ≠ k by omega)]
          exact h3
      · have : k + (o :: rest).length = k + 1 + rest.length := by simp; omega
        rw [this]
        simp only [if_neg (show k + 1 + rest.length ≠ k by omega)]
        exact hk'
    simp only [wpHW] at h
    cases hg : o.guard with
    | none =>
      rw [hg] at h
      obtain ⟨v, hv, hs⟩ := opHW_still (ρ := ρ) (ops := ops) hN h
      exact go v K ha (hs ha (by simp [Region.wanted, hg])) hv
    | some gd =>
      obtain ⟨j, want⟩ := gd
      rw [hg] at h
      simp only at h
      split at h
      · rename_i d hgd
        have hy : yielded ops.toArray a.tmps j = match a.tmps[d]? with | some (.bool b) => some b | _ => none := by
          unfold gdst at hgd
          split at hgd
          · rename_i oj hj
            simp only [yielded, List.getElem?_toArray, hj, Option.bind_some, hgd]
            split <;> simp_all
          · cases hgd
        split at h
        · rename_i b hb
          have hya : yielded ops.toArray a.tmps j = some b := by rw [hy, ha.at_ _ _ hb]
          by_cases hbw : b = want
          · subst hbw
            have hw : Region.wanted o (yielded ops.toArray a.tmps) = true := by simp [Region.wanted, hg, hya]
            have ha' := ha.set hb
            obtain ⟨v, hv, hs⟩ := opHW_still (ρ := ρ) (ops := ops) hN (h.1 rfl)
            exact go v _ ha' (hs ha' hw) hv
          · have hbn : b = !want := by cases b <;> cases want <;> simp_all
            have hw : Region.wanted o (yielded ops.toArray a.tmps) = false := by simp [Region.wanted, hg, hya, hbw]
            exact go undef _ (ha.set (hbn ▸ hb)) (.inr ⟨hw, rfl⟩) (h.2 hbn)
        · rename_i x hb
          have hya : yielded ops.toArray a.tmps j = none := by rw [hy, ha.at_ _ _ hb]
          have hw : Region.wanted o (yielded ops.toArray a.tmps) = false := by simp [Region.wanted, hg, hya]
          exact go undef _ ha (.inr ⟨hw, rfl⟩) h
        · exact h.elim
      · exact h.elim

theorem wpHW_step {H : Env → Prop} {o : Oper} {rest : List Oper} (h : ∀ X : Value → Env → Prop, X = (fun v K' => wpHW P ops C H rest (putE o.dst v K')) →
    match o.guard with
    | none => opHW P K C (fun v => X v K) o.type o.op
    | some (j, want) => match gdst ops j with
      | some d => (match K.get d with
        | some (.bool b) => (b = want → opHW P (K.set d (.bool want)) C (fun v => X v (K.set d (.bool want))) o.type o.op) ∧
            (b = !want → X undef (K.set d (.bool !want)))
        | some (.tuple _) => X undef K
        | _ => False)
      | none => False) : wpHW P ops C H (o :: rest) K := h _ rfl
theorem wpHW_end {H : Env → Prop} (h : H K) : wpHW P ops C H [] K := h
/-- A REGION THAT DRAWS ITS ORDER: n heads, in worlds of the class C; then the others. -/
theorem ok_drawW (n : Nat) (fl : List (Bool × Bool)) (C : World → Prop) {id : Nat} {Φ : Post} (hm : P.follows .mixedOrders = true) (hN : 0 < N) (hd : dstsOk N ops = true) (hB : drawOk ops n = true) (hfl : flags ops n = fl)
    (hC : C { w with drawn := w.drawn + 1 })
    (h : wpHW P ops C (fun K' => ∀ w', C w' → wpE P ops C (fun ch K w => Φ (.panic ch) K ds w) (fun K w => Φ .normal K ds w) fl (ops.drop n) K' w') (ops.take n) K) :
    ok P ρ N (.region id ops.toArray true) K ds w Φ := by
  intro a ha
  subst hfl
  have hn := (drawOk_parts hB).1
  have hlen : (ops.take n).length = n := by simp; omega
  have hdall : ∀ l, (∀ o ∈ l, o ∈ ops) → dstsOk N l = true := fun l hl => by
    simp only [dstsOk, List.all_eq_true] at hd ⊢
    exact fun o ho => hd o (hl o ho)
  obtain ⟨A, V, K', hA, hst, hk', hM⟩ := wpHW_steps (ρ := ρ) hN (ops.take n) 0 K a (fun j hj => by rw [hlen] at hj; simp [List.getElem?_take, hj]) (hdall _ fun o ho => List.mem_of_mem_take ho) ha h
  rw [hlen] at hst hk'
  simp only [Nat.zero_add] at hst hk'
  refine wpIn_region_any hm ?_
  have := any_of_heads (P := P) (ρ := ρ) (C := C) (Q := lift N Φ) hB (A := A) (V := V) (fun i o hi ho => (hst i o (Nat.zero_le _) hi ho).1) (fun i o hi ho => (hst i o (Nat.zero_le _) hi ho).2)
    (fun w' hw' => wpE_sound (fun _ _ _ h => h) (fun _ _ h => h) _ _ _ _ _ (hdall _ fun o ho => List.mem_of_mem_drop ho) hk' (hM w' hw')) hC
  rw [hA] at this
  simpa using this
end
end Go.Proofs.Vg
/- A region that draws its order, its operations taken in another order than that of the text. -/
set_option linter.unusedVariables false
set_option linter.unusedSimpArgs false
namespace Go.Proofs.Vg
open Go Go.RowKit
/-- The operations with these indices. -/
def pickL (ops : List Oper) : List Nat → List Oper
  | [] => []
  | i :: r => match ops[i]? with
    | some o => o :: pickL ops r
    | none => pickL ops r
def ren (π : Nat → Nat) (o : Oper) : Oper := { o with after := (o.after.toList.map fun e => { e with on := π e.on }).toArray, guard := o.guard.map fun g => (π g.1, g.2) }
def place (σ : List Nat) (i : Nat) : Nat := σ.idxOf i
def reord (ops : List Oper) (σ : List Nat) : List Oper := (pickL ops σ).map (ren (place σ))
def permOk (n : Nat) (σ : List Nat) : Bool := decide (σ.length = n) && (List.range n).all fun i => decide (σ[place σ i]? = some i) && decide (place σ i < n)
section
variable {P : Program} {ρ : Option Nat} {N : Nat} {K : Env} {ds : List Deferred} {w : World} {ops : List Oper} {n : Nat} {C : World → Prop} {σ : List Nat}
theorem pickL_get : ∀ (σ : List Nat), (∀ i ∈ σ, i < ops.length) → ∀ (j : Nat), (pickL ops σ)[j]? = (σ[j]?).bind fun (i : Nat) => ops[i]?
  | [], _, j => by simp [pickL]
  | i :: r, h, j => by
    have hi : ops[i]? = some (ops[i]'(h i List.mem_cons_self)) := List.getElem?_eq_getElem _
    simp only [pickL]
    rw [hi]
    simp only
    cases j with
    | zero => simp [hi]
    | succ j => simpa using pickL_get r (fun i hi => h i (List.mem_cons_of_mem _ hi)) j
theorem permOk_spec (h : permOk n σ = true) : σ.length = n ∧ ∀ i, i < n → σ[place σ i]? = some i ∧ place σ i < n := by
  simp only [permOk, Bool.and_eq_true, decide_eq_true_eq, List.all_eq_true, List.mem_range] at h
  exact h
theorem place_out (h : permOk n σ = true) (hm : ∀ i ∈ σ, i < n) {i : Nat} (hi : n ≤ i) : place σ i = n := by
  have : i ∉ σ := fun hc => by have := hm i hc; omega
  rw [place, List.idxOf_eq_length this, (permOk_spec h).1]
theorem place_inj (h : permOk n σ = true) {i j : Nat} (hi : i < n) (hj : j < n) (e : place σ i = place σ j) : i = j := by
  have h1 := ((permOk_spec h).2 i hi).1
  rw [e, ((permOk_spec h).2 j hj).1] at h1
  exact (Option.some.inj h1).symm
theorem reord_at (h : permOk ops.length σ = true) (hm : ∀ i ∈ σ, i < ops.length) {i : Nat} {o : Oper} (ho : ops[i]? = some o) : (reord ops σ)[place σ i]? = some (ren (place σ) o) := by
  have hi := (List.getElem?_eq_some_iff.1 ho).1
  rw [reord, List.getElem?_map, pickL_get σ hm, ((permOk_spec h).2 i hi).1]
  simp [ho]
theorem reord_len (h : permOk ops.length σ = true) (hm : ∀ i ∈ σ, i < ops.length) : (pickL ops σ).length = ops.length := by
  have : ∀ (σ : List Nat), (∀ i ∈ σ, i < ops.length) → (pickL ops σ).length = σ.length := by
    intro σ
    induction σ with
    | nil => intro _; rfl
    | cons i r ih =>
      intro hm
      simp only [pickL]
      rw [List.getElem?_eq_getElem (hm i List.mem_cons_self)]
      simp [ih (fun i hi => hm i (List.mem_cons_of_mem _ hi))]
  rw [this σ hm, (permOk_spec h).1]
theorem needs_ren (π : Nat → Nat) (o : Oper) : needs (ren π o) = (needs o).map π := by
  unfold needs ren
  simp only
  generalize o.after.toList = l
  induction l with
  | nil => rfl
  | cons e l ih =>
    simp only [List.map_cons, List.filterMap_cons]
    have hb : Region.binds .any { e with on := π e.on } = Region.binds .any e := rfl
    rw [hb]
    cases Region.binds .any e <;> simp [ih]
theorem yielded_ren (h : permOk ops.length σ = true) (hm : ∀ i ∈ σ, i < ops.length) (tmps : Array Value) (j : Nat) : yielded (reord ops σ).toArray tmps (place σ j) = yielded ops.toArray tmps j := by
  rcases Nat.lt_or_ge j ops.length with hj | hj
  · have ho : ops[j]? = some ops[j] := List.getElem?_eq_getElem hj
    have ho' := reord_at h hm ho
    simp only [yielded, List.getElem?_toArray, ho, ho', Option.bind_some]
    rfl
  · have hl : (reord ops σ).length = ops.length := by rw [reord, List.length_map, reord_len h hm]
    rw [place_out h hm hj]
    simp [yielded, List.getElem?_eq_none hj, List.getElem?_eq_none (Nat.le_of_eq hl)]
theorem wanted_ren (h : permOk ops.length σ = true) (hm : ∀ i ∈ σ, i < ops.length) (tmps : Array Value) (o : Oper) : Region.wanted (ren (place σ) o) (yielded (reord ops σ).toArray tmps) = Region.wanted o (yielded ops.toArray tmps) := by
  cases hg : o.guard with
  | none => simp [Region.wanted, ren, hg]
  | some g =>
    obtain ⟨j, b⟩ := g
    simp only [Region.wanted, ren, hg, Option.map_some, yielded_ren h hm]
theorem wpIn_ren {o : Oper} {a : Act} {π : Nat → Nat} {M : Act → World → Prop} {Q : Exit → Act → World → Prop} : (ren π o).wpIn (fence ρ) 0 P a w M Q = o.wpIn (fence ρ) 0 P a w M Q := rfl
theorem any_perm {Q : Exit → Act → World → Prop} (h : permOk ops.length σ = true) (hm : ∀ i ∈ σ, i < ops.length) : ∀ (fuel : Nat) (listed listed' : Array Bool) (a : Act) (w : World), listed.size = ops.length → listed'.size = ops.length → (∀ i, i < ops.length → listed'.getD (place σ i) false = listed.getD i false) →
    wpAnyIn (fence ρ) 0 P .any (reord ops σ).toArray Q fuel listed' a w → wpAnyIn (fence ρ) 0 P .any ops.toArray Q fuel listed a w := by
  have hl : (reord ops σ).length = ops.length := by rw [reord, List.length_map, reord_len h hm]
  have rdy : ∀ (listed listed' : Array Bool), listed.size = ops.length → listed'.size = ops.length → (∀ i, i < ops.length → listed'.getD (place σ i) false = listed.getD i false) → ∀ i, i ∈ Region.ready .any ops.toArray listed → place σ i ∈ Region.ready .any (reord ops σ).toArray listed' := by
    intro listed listed' hs hs' hr i hi
    obtain ⟨o, ho, h1, h2⟩ := (ready_iff hs).1 hi
    have hil := (List.getElem?_eq_some_iff.1 ho).1
    refine (ready_iff (by rw [hs', hl])).2 ⟨_, reord_at h hm ho, by rw [hr i hil]; exact h1, fun k hk => ?_⟩
    rw [needs_ren, List.mem_map] at hk
    obtain ⟨k0, hk0, rfl⟩ := hk
    have h3 := h2 k0 hk0
    have hk0l : k0 < ops.length := by
      rcases Nat.lt_or_ge k0 ops.length with h4 | h4
      · exact h4
      · simp [show ¬ k0 < listed.size by omega] at h3
    rw [hr k0 hk0l]; exact h3
  intro fuel
  induction fuel with
  | zero =>
    intro listed listed' a w hs hs' hr hh
    refine ⟨List.eq_nil_iff_forall_not_mem.2 fun i hi => ?_, hh.2⟩
    have := rdy listed listed' hs hs' hr i hi
    rw [hh.1] at this; cases this
  | succ fuel ih =>
    intro listed listed' a w hs hs' hr hh
    refine ⟨fun h0 => ?_, fun i hi => ?_⟩
    · refine hh.1 (List.eq_nil_iff_forall_not_mem.2 fun i' hi' => ?_)
      obtain ⟨o', ho', h1, h2⟩ := (ready_iff (by rw [hs', hl])).1 hi'
      have hil' : i' < ops.length := by rw [← hl]; exact (List.getElem?_eq_some_iff.1 ho').1
      have hsl : i' < σ.length := by rw [(permOk_spec h).1]; exact hil'
      have hσ : σ[i']? = some σ[i'] := List.getElem?_eq_getElem hsl
      have hi0 := hm _ (List.getElem_mem hsl)
      generalize σ[i'] = i at hσ hi0
      have ho : ops[i]? = some ops[i] := List.getElem?_eq_getElem hi0
      generalize ops[i] = o at ho
      have hoe : o' = ren (place σ) o := by
        rw [reord, List.getElem?_map, pickL_get σ hm, hσ] at ho'
        simp [ho] at ho'
        exact ho'.symm
      have hpi : place σ i = i' := by
        -- no index stands twice
        have key : ∀ (A : List Nat), A.Nodup → (∀ x ∈ A, x < ops.length) → A.length ≤ ops.length := fun A hA hx => by
          have := List.Nodup.length_le_of_subset hA (l₂ := List.range ops.length) (fun x hxx => List.mem_range.2 (hx x hxx))
          simpa using this
        by_cases hd : place σ i = i'
        · exact hd
        · exfalso
          -- the map 'place' has ops.length values, none of them i'
          have hnd : ((List.range ops.length).map (place σ)).Nodup := by
            rw [List.Nodup, List.pairwise_map]
            refine List.Pairwise.imp_of_mem (fun {x y} hx hy hxy e => hxy ?_) List.nodup_range
            exact place_inj h (List.mem_range.1 hx) (List.mem_range.1 hy) e
          have hni : i' ∉ (List.range ops.length).map (place σ) := fun hc => by
            obtain ⟨x, hx, hxe⟩ := List.mem_map.1 hc
            have h5 := ((permOk_spec h).2 x (List.mem_range.1 hx)).1
            rw [hxe, hσ] at h5
            cases h5
            exact hd hxe
          have := key (i' :: (List.range ops.length).map (place σ)) (List.nodup_cons.2 ⟨hni, hnd⟩) (fun x hx => by
            rcases List.mem_cons.1 hx with rfl | hx
            · exact hil'
            · obtain ⟨y, hy, rfl⟩ := List.mem_map.1 hx
              exact ((permOk_spec h).2 y (List.mem_range.1 hy)).2)
          simp at this
          omega
      have : i ∈ Region.ready .any ops.toArray listed := (ready_iff hs).2 ⟨o, ho, by rw [← hr i hi0, hpi]; exact h1, fun k hk => by
        have h3 := h2 (place σ k) (by rw [hoe, needs_ren]; exact List.mem_map.2 ⟨k, hk, rfl⟩)
        rcases Nat.lt_or_ge k ops.length with h4 | h4
        · rw [← hr k h4]; exact h3
        · rw [place_out h hm h4] at h3
          simp [show ¬ ops.length < listed'.size by omega] at h3⟩
      rw [h0] at this; cases this
    · have hi2 := rdy listed listed' hs hs' hr i hi
      obtain ⟨o, ho, h1, h2⟩ := (ready_iff hs).1 hi
      have hil := (List.getElem?_eq_some_iff.1 ho).1
      have hpl := ((permOk_spec h).2 i hil).2
      have h3 := hh.2 _ hi2
      have hR : ∀ k, k < ops.length → (listed'.setIfInBounds (place σ i) true).getD (place σ k) false = (listed.setIfInBounds i true).getD k false := fun k hk => by
        rw [getD_set (by omega), getD_set (by omega), hr k hk]
        congr 1
        by_cases hki : k = i
        · subst hki; simp
        · have : place σ k ≠ place σ i := fun e => hki (place_inj h hk hil e)
          simp [hki, this]
      have h4 := wpOpIn_mono (fun a' w' hh' => ih (listed.setIfInBounds i true) (listed'.setIfInBounds (place σ i) true) a' w' (by simp [hs]) (by simp [hs']) hR hh') h3
      unfold wpOpIn at h4 ⊢
      have ho1 : ops.toArray[i]? = some o := by simpa using ho
      have ho2 : (reord ops σ).toArray[place σ i]? = some (ren (place σ) o) := by simpa using reord_at h hm ho
      simp only [ho1, ho2, wanted_ren h hm] at h4 ⊢
      exact h4
theorem wpT_ren (h : permOk ops.length σ = true) (hm : ∀ i ∈ σ, i < ops.length) {Q : Exit → Act → World → Prop} : ∀ (l : List Oper) (fl : List (Bool × Bool)) (a : Act) (w : World), wpT P ρ ops.toArray C Q fl l a w → wpT P ρ (reord ops σ).toArray C Q fl (l.map (ren (place σ))) a w
  | [], _, _, _, hh => hh
  | o :: l, fl, a, w, hh => by
    simp only [List.map_cons]
    unfold wpT at hh ⊢
    rw [wanted_ren h hm]
    split
    · rename_i hw
      rw [if_pos hw] at hh
      rw [wpIn_ren]
      exact Oper.wpIn_mono (fun a' w' h' => ⟨h'.1, wpT_ren h hm l _ _ _ h'.2⟩) hh
    · rename_i hw
      rw [if_neg hw] at hh
      exact ⟨hh.1, wpT_ren h hm l _ _ _ hh.2⟩
theorem Yl.ren (h : permOk ops.length σ = true) (hm : ∀ i ∈ σ, i < ops.length) {o : Oper} {v : Value} {a : Act} (hy : Yl P ρ ops C o v a) : Yl P ρ (reord ops σ) C (ren (place σ) o) v a := by
  unfold Yl at hy ⊢
  rw [wanted_ren h hm]
  exact hy
theorem wpHL_steps (hN : 0 < N) {M : Env → Prop} (L : List Oper) : ∀ (rest : List Oper) (k : Nat) (K : Env) (a : Act), (∀ j, j < rest.length → rest[j]? = L[k + j]?) → dstsOk N rest = true → Kn K N ds a → wpH P ops C M rest K →
    ∃ (A : Nat → Act) (V : Nat → Value) (K' : Env), A k = a ∧ (∀ i o, k ≤ i → i < k + rest.length → L[i]? = some o → A (i + 1) = (A i).put o.dst (V i) ∧ Yl P ρ ops C o (V i) (A i)) ∧
      Kn K' N ds (A (k + rest.length)) ∧ M K'
  | [], k, K, a, _, _, ha, h => ⟨fun _ => a, fun _ => undef, K, rfl, fun i o h1 h2 => by simp at h2; omega, ha, h⟩
  | o :: rest, k, K, a, hr, hd, ha, h => by
    simp only [dstsOk, List.all_cons, Bool.and_eq_true] at hd
    have hd0 : ∀ d, o.dst = some d → d < N := fun d he => by have := hd.1; rw [he] at this; simpa using this
    have ho : L[k]? = some o := by simpa using (hr 0 (by simp)).symm
    -- one step, whatever it leaves
    have go : ∀ (v : Value) (K1 : Env), Kn K1 N ds a → Yl P ρ ops C o v a → wpH P ops C M rest (putE o.dst v K1) →
        ∃ (A : Nat → Act) (V : Nat → Value) (K' : Env), A k = a ∧ (∀ i o', k ≤ i → i < k + (o :: rest).length → L[i]? = some o' → A (i + 1) = (A i).put o'.dst (V i) ∧ Yl P ρ ops C o' (V i) (A i)) ∧
          Kn K' N ds (A (k + (o :: rest).length)) ∧ M K' := by
      intro v K1 hk1 hy hh
      obtain ⟨A, V, K', hA, hst, hk', hM⟩ := wpHL_steps hN L rest (k + 1) _ (a.put o.dst v) (fun j hj => by have := hr (j + 1) (by simp; omega); simpa [Nat.add_assoc, Nat.add_comm 1 j] using this) hd.2 (hk1.put hd0) hh
      refine ⟨fun i => if i = k then a else A i, fun i => if i = k then v else V i, K', by simp, fun i o' h1 h2 ho' => ?_, ?_, hM⟩
      · by_cases hi : i = k
        · subst hi
          rw [ho] at ho'; cases ho'
          simp [hA, hy]
        · have h3 := hst i o' (by omega) (by simp at h2; omega) ho'
          simp only [if_neg hi, if_neg (show i + 1 ≠ k by omega)]
          exact h3
      · have : k + (o :: rest).length = k + 1 + rest.length := by simp; omega
        rw [this]
        simp only [if_neg (show k + 1 + rest.length ≠ k by omega)]
        exact hk'
    have still : ∀ {K1 : Env} {v : Value}, Kn K1 N ds a → Region.wanted o (yielded ops.toArray a.tmps) = true → StillF P K1 C o.type o.op v → Yl P ρ ops C o v a := fun hk1 hwt hs =>
      .inl ⟨hwt, fun hk w' hw' => upon1_of_opF hk1 hN (hs.1 hk w' hw'), fun hk w' hw' => upon1_of_opF (C := fun x => x = w') hk1 hN (hs.2 hk w' hw')⟩
    simp only [wpH] at h
    cases hg : o.guard with
    | none =>
      rw [hg] at h
      obtain ⟨v, hv, hs⟩ := opH_still h
      exact go v K ha (still ha (by simp [Region.wanted, hg]) hs) hv
    | some gd =>
      obtain ⟨j, want⟩ := gd
      rw [hg] at h
      simp only at h
      split at h
      · rename_i d hgd
        have hy : yielded ops.toArray a.tmps j = match a.tmps[d]? with | some (.bool b) => some b | _ => none := by
          unfold gdst at hgd
          split at hgd
          · rename_i oj hj
            simp only [yielded, List.getElem?_toArray, hj, Option.bind_some, hgd]
            split <;> simp_all
          · cases hgd
        split at h
        · rename_i b hb
          have hya : yielded ops.toArray a.tmps j = some b := by rw [hy, ha.at_ _ _ hb]
          by_cases hbw : b = want
          · subst hbw
            have hw : Region.wanted o (yielded ops.toArray a.tmps) = true := by simp [Region.wanted, hg, hya]
            have ha' := ha.set hb
            obtain ⟨v, hv, hs⟩ := opH_still (h.1 rfl)
            exact go v _ ha' (still ha' hw hs) hv
          · have hbn : b = !want := by cases b <;> cases want <;> simp_all
            have hw : Region.wanted o (yielded ops.toArray a.tmps) = false := by simp [Region.wanted, hg, hya, hbw]
            exact go undef _ (ha.set (hbn ▸ hb)) (.inr ⟨hw, rfl⟩) (h.2 hbn)
        · rename_i x hb
          have hya : yielded ops.toArray a.tmps j = none := by rw [hy, ha.at_ _ _ hb]
          have hw : Region.wanted o (yielded ops.toArray a.tmps) = false := by simp [Region.wanted, hg, hya]
          exact go undef _ ha (.inr ⟨hw, rfl⟩) h
        · exact h.elim
      · exact h.elim


theorem any_of_heads0 {V : Nat → Value} {Q : Exit → Act → World → Prop} (h : drawOk ops n = true) (hk : ∀ k, k < n → kindAt ops k ≠ 2) {A : Nat → Act} (step : ∀ i o, i < n → ops[i]? = some o → A (i + 1) = (A i).put o.dst (V i))
    (still : ∀ i o, i < n → ops[i]? = some o → Yl P ρ ops C o (V i) (A i)) {w : World} (tail : wpT P ρ ops.toArray C Q (flags ops n) (ops.drop n) (A n) w) (hw : C w) :
    wpAnyIn (fence ρ) 0 P .any ops.toArray Q ops.length (Array.replicate ops.length false) (A 0) w := by
  obtain ⟨hn, hheads, hdist, _⟩ := drawOk_parts h
  have get : ∀ i, i < ops.length → ∃ o, ops[i]? = some o := fun i hi => ⟨ops[i]'hi, List.getElem?_eq_getElem hi⟩
  have lexA : ∀ i, i ≤ n → Sl ops n (A 0) V (fun k => decide (k < i)) (A i) := by
    intro i
    induction i with
    | zero => intro _; exact ⟨rfl, rfl, fun k t _ hs => by simp at hs, fun t _ => rfl⟩
    | succ i ih =>
      intro hi
      obtain ⟨o, ho⟩ := get i (by omega)
      rw [step i o (by omega) ho]
      exact (ih (by omega)).put hdist (by omega) ho (fun k _ => by simp; omega)
  have h0 : ∀ k, (Array.replicate ops.length false).getD k false = false := fun k => by
    rcases Nat.lt_or_ge k ops.length with h | h
    · simp [h]
    · simp [h]
  have hmiss : (missing n (Array.replicate ops.length false)).length = n := by
    simp only [missing, h0]
    have : (List.range n).filter (fun k => !false) = List.range n := List.filter_eq_self.2 (fun _ _ => rfl)
    rw [this]
    simp
  have hA := lexA n (Nat.le_refl _)
  have hsl : Sl ops n (A 0) V (fun k => (Array.replicate ops.length false).getD k false) (A 0) := ⟨rfl, rfl, fun k t _ hs => (by rw [h0] at hs; cases hs), fun t _ => rfl⟩
  refine phaseB h lexA still _ _ n (A 0) (A n) w (by simp) (Nat.le_refl _) hn (fun k hk1 hk2 => by rw [h0]; simp; omega) (fun j o ho hj => by simp only [h0] at hj; cases hj) (fun k hk' _ => hk k hk') (fun _ => hw) ⟨hsl.size, fun s _ => fun k hk hS hd hlt => hsl.come k s hk hS hd hlt, fun s _ hr => hsl.rest s hr⟩ ?_ (by simpa using tail) (by rw [hmiss]; omega)
  refine ⟨by rw [hA.size], by rw [hA.defers], fun s k hk _ hd hlt => hA.come k s hk (by simpa using hk) hd hlt, fun s hr => ?_⟩
  exact (hA.rest s (fun k hk _ => hr k hk (h0 k)))
def noCallB (ops : List Oper) (n : Nat) : Bool := (List.range n).all fun k => kindAt ops k != 2
def orderOk (ops : List Oper) (σ : List Nat) (n : Nat) : Bool := permOk ops.length σ && σ.all (· < ops.length) && drawOk (reord ops σ) n
/-- A REGION THAT DRAWS ITS ORDER, taken in the order 'σ': n heads, then the others. -/
theorem ok_drawP (σ : List Nat) (n : Nat) (fl : List (Bool × Bool)) (C : World → Prop) {id : Nat} {Φ : Post} (hm : P.follows .mixedOrders = true) (hN : 0 < N) (hd : dstsOk N ops = true) (hB : orderOk ops σ n = true) (hfl : flags (reord ops σ) n = fl)
    (hC : C { w with drawn := w.drawn + 1 })
    (h : wpH P ops C (fun K' => ∀ w', C w' → wpE P ops C (fun ch K w => Φ (.panic ch) K ds w) (fun K w => Φ .normal K ds w) fl ((pickL ops σ).drop n) K' w') ((pickL ops σ).take n) K) :
    ok P ρ N (.region id ops.toArray true) K ds w Φ := by
  intro a ha
  subst hfl
  simp only [orderOk, Bool.and_eq_true] at hB
  obtain ⟨⟨hp, hσ⟩, hB⟩ := hB
  have hmm : ∀ i ∈ σ, i < ops.length := fun i hi => by simpa using List.all_eq_true.1 hσ i hi
  have hn := (drawOk_parts hB).1
  have hl : (reord ops σ).length = ops.length := by rw [reord, List.length_map, reord_len hp hmm]
  have hpl := reord_len hp hmm
  have hlen : ((pickL ops σ).take n).length = n := by simp [hpl]; omega
  have hdall : ∀ l, (∀ o ∈ l, o ∈ pickL ops σ) → dstsOk N l = true := fun l hl => by
    simp only [dstsOk, List.all_eq_true] at hd ⊢
    intro o ho
    obtain ⟨j, hj⟩ := List.mem_iff_getElem?.1 (hl o ho)
    rw [pickL_get σ hmm] at hj
    cases hs : σ[j]? with
    | none => rw [hs] at hj; simp at hj
    | some i => rw [hs] at hj; simp at hj; exact hd o (List.mem_of_getElem? hj)
  obtain ⟨A, V, K', hA, hst, hk', hM⟩ := wpHL_steps (ρ := ρ) hN (pickL ops σ) ((pickL ops σ).take n) 0 K a (fun j hj => by rw [hlen] at hj; simp [List.getElem?_take, hj]) (hdall _ fun o ho => List.mem_of_mem_take ho) ha h
  rw [hlen] at hst hk'
  simp only [Nat.zero_add] at hst hk'
  refine wpIn_region_any hm ?_
  have orig : ∀ (i : Nat) (o : Oper), (reord ops σ)[i]? = some o → ∃ o0, (pickL ops σ)[i]? = some o0 ∧ o = ren (place σ) o0 := fun i o ho => by
    rw [reord, List.getElem?_map] at ho
    cases hx : (pickL ops σ)[i]? with
    | none => rw [hx] at ho; simp at ho
    | some o0 => rw [hx] at ho; simp at ho; exact ⟨o0, rfl, ho.symm⟩
  have := any_of_heads (P := P) (ρ := ρ) (C := C) (Q := lift N Φ) hB (A := A) (V := V) (fun i o hi ho => by
      obtain ⟨o0, h0, rfl⟩ := orig i o ho
      exact (hst i o0 (Nat.zero_le _) hi h0).1) (fun i o hi ho => by
      obtain ⟨o0, h0, rfl⟩ := orig i o ho
      exact (hst i o0 (Nat.zero_le _) hi h0).2.ren hp hmm)
    (fun w' hw' => by
      have := wpE_sound (ρ := ρ) (Φ := Φ) (ops := ops) (C := C) (pan := fun ch K w => Φ (.panic ch) K ds w) (M := fun K w => Φ .normal K ds w) (fun _ _ _ h => h) (fun _ _ h => h) ((pickL ops σ).drop n) _ _ _ _ (hdall _ fun o ho => List.mem_of_mem_drop ho) hk' (hM w' hw')
      have := wpT_ren hp hmm _ _ _ _ this
      rw [List.map_drop] at this
      exact this) hC
  rw [hA] at this
  rw [hl] at this
  have h8 := any_perm (Q := lift N Φ) hp hmm ops.length (Array.replicate ops.length false) (Array.replicate ops.length false) a _ (by simp) (by simp) (fun i hi => ?_) this
  · simpa using h8
  · have h9 := ((permOk_spec hp).2 i hi).2
    simp [hi, h9]
/-- A REGION THAT DRAWS ITS ORDER, taken in the order 'σ': n heads without calls, then the others, in the world as it was. -/
theorem ok_drawQ (σ : List Nat) (n : Nat) (fl : List (Bool × Bool)) (C : World → Prop) {id : Nat} {Φ : Post} (hm : P.follows .mixedOrders = true) (hN : 0 < N) (hd : dstsOk N ops = true) (hB : orderOk ops σ n = true) (hnc : noCallB (reord ops σ) n = true) (hfl : flags (reord ops σ) n = fl)
    (hC : C { w with drawn := w.drawn + 1 })
    (h : wpH P ops C (fun K' => wpE P ops C (fun ch K w => Φ (.panic ch) K ds w) (fun K w => Φ .normal K ds w) fl ((pickL ops σ).drop n) K' { w with drawn := w.drawn + 1 }) ((pickL ops σ).take n) K) :
    ok P ρ N (.region id ops.toArray true) K ds w Φ := by
  intro a ha
  subst hfl
  simp only [orderOk, Bool.and_eq_true] at hB
  obtain ⟨⟨hp, hσ⟩, hB⟩ := hB
  have hmm : ∀ i ∈ σ, i < ops.length := fun i hi => by simpa using List.all_eq_true.1 hσ i hi
  have hn := (drawOk_parts hB).1
  have hl : (reord ops σ).length = ops.length := by rw [reord, List.length_map, reord_len hp hmm]
  have hpl := reord_len hp hmm
  have hlen : ((pickL ops σ).take n).length = n := by simp [hpl]; omega
  have hdall : ∀ l, (∀ o ∈ l, o ∈ pickL ops σ) → dstsOk N l = true := fun l hl => by
    simp only [dstsOk, List.all_eq_true] at hd ⊢
    intro o ho
    obtain ⟨j, hj⟩ := List.mem_iff_getElem?.1 (hl o ho)
    rw [pickL_get σ hmm] at hj
    cases hs : σ[j]? with
    | none => rw [hs] at hj; simp at hj
    | some i => rw [hs] at hj; simp at hj; exact hd o (List.mem_of_getElem? hj)
  obtain ⟨A, V, K', hA, hst, hk', hM⟩ := wpHL_steps (ρ := ρ) hN (pickL ops σ) ((pickL ops σ).take n) 0 K a (fun j hj => by rw [hlen] at hj; simp [List.getElem?_take, hj]) (hdall _ fun o ho => List.mem_of_mem_take ho) ha h
  rw [hlen] at hst hk'
  simp only [Nat.zero_add] at hst hk'
  refine wpIn_region_any hm ?_
  have orig : ∀ (i : Nat) (o : Oper), (reord ops σ)[i]? = some o → ∃ o0, (pickL ops σ)[i]? = some o0 ∧ o = ren (place σ) o0 := fun i o ho => by
    rw [reord, List.getElem?_map] at ho
    cases hx : (pickL ops σ)[i]? with
    | none => rw [hx] at ho; simp at ho
    | some o0 => rw [hx] at ho; simp at ho; exact ⟨o0, rfl, ho.symm⟩
  have := any_of_heads0 (P := P) (ρ := ρ) (C := C) (Q := lift N Φ) hB (fun k hk => by have := List.all_eq_true.1 hnc k (List.mem_range.2 hk); simpa using this) (A := A) (V := V) (fun i o hi ho => by
      obtain ⟨o0, h0, rfl⟩ := orig i o ho
      exact (hst i o0 (Nat.zero_le _) hi h0).1) (fun i o hi ho => by
      obtain ⟨o0, h0, rfl⟩ := orig i o ho
      exact (hst i o0 (Nat.zero_le _) hi h0).2.ren hp hmm)
    (by
      have := wpE_sound (ρ := ρ) (Φ := Φ) (ops := ops) (C := C) (pan := fun ch K w => Φ (.panic ch) K ds w) (M := fun K w => Φ .normal K ds w) (fun _ _ _ h => h) (fun _ _ h => h) ((pickL ops σ).drop n) _ _ _ _ (hdall _ fun o ho => List.mem_of_mem_drop ho) hk' hM
      have := wpT_ren hp hmm _ _ _ _ this
      rw [List.map_drop] at this
      exact this) hC
  rw [hA] at this
  rw [hl] at this
  have h8 := any_perm (Q := lift N Φ) hp hmm ops.length (Array.replicate ops.length false) (Array.replicate ops.length false) a _ (by simp) (by simp) (fun i hi => ?_) this
  · simpa using h8
  · have h9 := ((permOk_spec hp).2 i hi).2
    simp [hi, h9]
end
end Go.Proofs.Vg
/- What comes in: slices read, as 'Sli'. -/
set_option linter.unusedVariables false
set_option linter.unusedSimpArgs false
namespace Go.Proofs.Vg
open Go Go.RowKit Go.Deep Go.ChangeShapes Go.WideShapes Go.ChangeAt

section
variable {H : Type} {enc : TypeId × Value → H} {P : Program} {w : World} {base : Nat} {spare : Nat → Bool} {held : Bool}

/-- No part of it is too great. -/
def Small (P : Program) (t : TypeId) (d : DataW H) : Prop := ∀ n ∈ d.weights P t, n ≤ reachBytes
theorem small_of_all {ts : List TypeId} {ds : List (DataW H)} (h : (DataW.weightsEach P ts ds).all (· ≤ reachBytes) = true) {j : Nat} {t : TypeId} {d : DataW H} (ht : ts[j]? = some t) (hd : ds[j]? = some d) : Small P t d := fun n hn => by
  have := List.all_eq_true.1 h n (DataW.weights_mem_each ht hd n hn)
  simpa using this
theorem weightsAll_mem {e : TypeId} : ∀ {l : List (DataW H)} {d : DataW H}, d ∈ l → ∀ n ∈ d.weights P e, n ∈ DataW.weightsAll P e l
  | d0 :: l, d, hd, n, hn => by
    simp only [DataW.weightsAll, List.mem_append]
    rcases List.mem_cons.1 hd with rfl | hd
    · exact .inl hn
    · exact .inr (weightsAll_mem hd n hn)
theorem cell_spot {w : World} {a : Addr} {v : Value} (h : w.cell? a = some v) : a.spot = none := by
  unfold World.cell? at h
  split at h
  · cases hs : a.spot with
    | none => rfl
    | some s => simp [hs] at h
  · cases h

/-- A SLICE THAT IS READ. -/
theorem rd_slice {t e : TypeId} {sz fuel : Nat} {cs : List Value} {x : DataW H × List MemPlace} (ht : P.underlying t = some (.slice e)) (hc : P.cellsOf e = sz) (h0 : 0 < sz) (hb : 0 < P.bytesOf e) (h : DataW.trod enc P w base spare held fuel t cs = some x) (hs : Small P t x.1) :
    ∃ v rows, cs = [v] ∧ Sli w sz v rows ∧ v.oneCell' = true ∧ v.cells = #[v] ∧ ∀ (i : Nat) (row : List Value), rows[i]? = some row → row.length = sz ∧ ∃ (f : Nat) (y : DataW H × List MemPlace), DataW.trod enc P w base spare held f e row = some y ∧ Small P e y.1 := by
  rcases open_slice ht h with ⟨rfl, rfl⟩ | ⟨a, len, cap, m, n, D, Pl, rfl, hba, hl, hm, hmm, rfl, hx⟩
  · exact ⟨_, [], rfl, ⟨none, 0, rfl, by simp, fun j row hj => by simp at hj⟩, rfl, rfl, fun i row hr => by simp at hr⟩
  rw [hc] at hx
  have hlm : len ≤ m := by rw [hmm]; split <;> omega
  obtain ⟨R, hR⟩ := choose_lt (α := List Value) (p := fun i cs' => w.cells? base (a.add (i * sz)) sz = some cs' ∧ DataW.trod enc P w base spare held n e cs' = some (D i, Pl i)) hx
  have hlen : len ≤ 140737488355328 := by
    have := hs ((len + (m - len)) * P.bytesOf e) (by simp [DataW.weights, ht])
    have h1 : len * 1 ≤ (len + (m - len)) * P.bytesOf e := Nat.mul_le_mul (by omega) hb
    have h2 : reachBytes ≤ 140737488355328 := by decide
    omega
  refine ⟨_, (List.range len).map R, rfl, ⟨some a, cap, by simp, by simpa using hlen, fun j row hj => ?_⟩, rfl, rfl, fun i row hr => ?_⟩
  · have hjl : j < len := by have := (List.getElem?_eq_some_iff.1 hj).1; simpa using this
    simp [hjl] at hj
    subst hj
    obtain ⟨h1, _⟩ := hR j (by omega)
    obtain ⟨_, hrl, hcl⟩ := World.cells?_some h1
    have hcell : ∀ k u, (R j)[k]? = some u → w.cell? ((a.add (j * sz)).add k) = some u := fun k u hk => by
      have hk' : k < sz := by rw [← hrl]; exact (List.getElem?_eq_some_iff.1 hk).1
      rw [hcl k hk', hk]
    have hsp : a.spot = none := by
      have h00 : 0 < (R 0).length := by
        obtain ⟨h1, _⟩ := hR 0 (by omega)
        rw [(World.cells?_some h1).2.1]; exact h0
      obtain ⟨h2, _⟩ := hR 0 (by omega)
      have := (World.cells?_some h2).2.2 0 h0
      rw [List.getElem?_eq_getElem h00] at this
      have := cell_spot this
      simpa [Addr.add] using this
    obtain ⟨b, o, sp⟩ := a
    simp only at hsp
    subst hsp
    refine ⟨b, o, rfl, fun k u hk => ?_⟩
    have := hcell k u hk
    rw [add_at] at this
    exact this
  · have hjl : i < len := by have := (List.getElem?_eq_some_iff.1 hr).1; simpa using this
    simp [hjl] at hr
    subst hr
    obtain ⟨h1, h2⟩ := hR i (by omega)
    refine ⟨(World.cells?_some h1).2.1, n, _, h2, fun q hq => hs q ?_⟩
    simp only [DataW.weights, ht, List.mem_cons, List.mem_append]
    exact .inr (.inl (weightsAll_mem (List.mem_map.2 ⟨i, List.mem_range.2 hjl, rfl⟩) q hq))
/-- A struct's field. -/
theorem rd_field {t : TypeId} {fs : Array Field} {fuel : Nat} {cs : List Value} {x : DataW H × List MemPlace} (ht : P.underlying t = some (.struct fs)) (h : DataW.trod enc P w base spare held fuel t cs = some x) (hs : Small P t x.1) {i : Nat} {f : Field} (hf : fs[i]? = some f) :
    ∃ (n : Nat) (y : DataW H × List MemPlace), DataW.trod enc P w base spare held n f.type ((cs.drop f.offset).take (P.cellsOf f.type)) = some y ∧ Small P f.type y.1 := by
  obtain ⟨xs, n, _, rfl, hl, hlen, hfs⟩ := DataW.trod_struct ht h
  have h1 := hfs i f hf
  have hi : i < xs.length := by rw [hlen]; exact (Array.getElem?_eq_some_iff.1 hf).1
  rw [List.getElem?_eq_getElem hi] at h1
  refine ⟨n, _, h1, fun q hq => hs q ?_⟩
  simp only [DataW.weights, ht]
  exact DataW.weights_mem_each (j := i) (t := f.type) (d := xs[i].1) (by simp [Array.getElem?_toList, hf]) (by simp [hi]) q hq
def fld (P : Program) (t i : Nat) : Option (TypeId × Nat) := match P.underlying t with
  | some (.struct fs) => (fs[i]?).map fun f => (f.type, f.offset)
  | _ => none
theorem rd_fld {t i o : Nat} {ft : TypeId} {fuel : Nat} {cs : List Value} {x : DataW H × List MemPlace} (hf : fld P t i = some (ft, o)) (h : DataW.trod enc P w base spare held fuel t cs = some x) (hs : Small P t x.1) :
    ∃ (n : Nat) (y : DataW H × List MemPlace), DataW.trod enc P w base spare held n ft ((cs.drop o).take (P.cellsOf ft)) = some y ∧ Small P ft y.1 := by
  unfold fld at hf
  split at hf
  · rename_i fs ht
    cases hfi : fs[i]? with
    | none => simp [hfi] at hf
    | some f =>
      simp [hfi] at hf
      obtain ⟨rfl, rfl⟩ := hf
      exact rd_field ht h hs hfi
  · cases hf
theorem rd_anySlice {t : TypeId} {fuel : Nat} {cs : List Value} {x : DataW H × List MemPlace} (ht : isSlice P t = true) (h : DataW.trod enc P w base spare held fuel t cs = some x) : ∃ v : Value, cs = [v] ∧ v.oneCell' = true ∧ v.cells = #[v] := by
  unfold isSlice at ht
  split at ht
  · rename_i e he
    rcases DataW.trod_slice he h with ⟨rfl, _⟩ | ⟨a, len, cap, _, _, _, _, rfl, _⟩
    · exact ⟨_, rfl, rfl, rfl⟩
    · exact ⟨_, rfl, rfl, rfl⟩
  · cases ht
/-- A slice of ints; of bools. -/
theorem rd_ints {t e : TypeId} {fuel : Nat} {cs : List Value} {x : DataW H × List MemPlace} (ht : P.underlying t = some (.slice e)) (he : P.underlying e = some (.int .i64)) (hc : P.cellsOf e = 1) (hb : 0 < P.bytesOf e) (h : DataW.trod enc P w base spare held fuel t cs = some x) (hs : Small P t x.1) :
    ∃ v xs, cs = [v] ∧ SlI w v xs ∧ v.oneCell' = true ∧ v.cells = #[v] := by
  obtain ⟨v, rows, rfl, hsl, h1, h2, hr⟩ := rd_slice ht hc (by decide) hb h hs
  have : ∃ xs : List Int, rows = ints xs := by
    clear hsl
    induction rows with
    | nil => exact ⟨[], rfl⟩
    | cons r rows ih =>
      obtain ⟨xs, rfl⟩ := ih (fun i row hi => hr (i + 1) row (by simpa using hi))
      obtain ⟨_, f, y, hy, _⟩ := hr 0 r rfl
      obtain ⟨n, rfl, _⟩ := DataW.trod_int he hy
      exact ⟨n :: xs, rfl⟩
  obtain ⟨xs, rfl⟩ := this
  exact ⟨v, xs, rfl, hsl, h1, h2⟩
theorem rd_bools {t e : TypeId} {fuel : Nat} {cs : List Value} {x : DataW H × List MemPlace} (ht : P.underlying t = some (.slice e)) (he : P.underlying e = some .bool) (hc : P.cellsOf e = 1) (hb : 0 < P.bytesOf e) (h : DataW.trod enc P w base spare held fuel t cs = some x) (hs : Small P t x.1) :
    ∃ v xs, cs = [v] ∧ SlB w v xs ∧ v.oneCell' = true ∧ v.cells = #[v] := by
  obtain ⟨v, rows, rfl, hsl, h1, h2, hr⟩ := rd_slice ht hc (by decide) hb h hs
  have : ∃ xs : List Bool, rows = bls xs := by
    clear hsl
    induction rows with
    | nil => exact ⟨[], rfl⟩
    | cons r rows ih =>
      obtain ⟨xs, rfl⟩ := ih (fun i row hi => hr (i + 1) row (by simpa using hi))
      obtain ⟨_, f, y, hy, _⟩ := hr 0 r rfl
      obtain ⟨n, rfl, _⟩ := DataW.trod_bool he hy
      exact ⟨n :: xs, rfl⟩
  obtain ⟨xs, rfl⟩ := this
  exact ⟨v, xs, rfl, hsl, h1, h2⟩
theorem Trod_ext {t : TypeId} (hl : laidOutB P = true) (hr : P.readableRec t = true) (hrow : t < P.types.size) {W W' : World} {sp : Nat → Bool} {v : Value} {d : DataW H} {ps : List MemPlace}
    (h : DataW.Trod enc P W 0 (fun _ => true) true t v d ps) (he : Ext W W') (hlt : ∀ x ∈ ps, x.block < W.heap.size) (hs : ∀ p ∈ ps, sp p.block = true) : DataW.Trod enc P W' 0 sp true t v d ps :=
  WideElems.Trod_stays hl hr hrow h (fun x hx => Below.same he (hlt x hx)) hs
/-- What a law's row asks behind the call: true; all reads as it did. -/
theorem post_ext {f : Func} {s : ChangeSpec} {apart fresh handsOn : Bool} {W W' : World} {args : Array Value} {v : Value} {ds : List (DataW H)} {before : List MemPlace} (hvs : s.vars = [])
    (hW : DataW.Whole enc P f.params.toList s.vars apart W args.toList ds [] before) (he : Ext W W')
    (hres : ∀ (b : Nat) (sp : Nat → Bool) (hd : Bool), DataW.TrodAll enc P W' b sp hd f.resultTypes.toList (v.resultList f.resultTypes.size) (s.fn H ds).results [])
    (hargs : ∀ sp : Nat → Bool, (∀ p ∈ before, sp p.block = true) → DataW.TrodAll enc P W' 0 sp true f.params.toList args.toList (s.fn H ds).args before) (hv : (s.fn H ds).vars = []) :
    s.post enc P f apart fresh handsOn false W args v W' := by
  have hold : ∀ p ∈ before, (fun b => decide (b < W.heap.size)) p.block = true := fun p hp => by simpa using hW.lt p hp
  refine ⟨ds, [], before, [], before, [], hW, ?_, ?_, ?_, World.keptBut_mono (fun p hp => ⟨hp, .inr (.inl hp)⟩) (Below.frame he (· ∈ before)), fun h => by cases h⟩
  · rw [List.append_nil]; exact hres _ _ _
  · rw [List.append_nil]; exact hargs _ hold
  · rw [hvs, List.append_nil, hv]; rfl
end
end Go.Proofs.Vg
/- Reading: with the datum's size. -/
set_option linter.unusedVariables false
set_option linter.unusedSimpArgs false
namespace Go.Proofs.Vg
open Go Go.RowKit Go.Deep Go.ChangeShapes Go.WideShapes Go.ChangeAt

section
variable {H : Type} {enc : TypeId × Value → H} {P : Program} {w : World} {base : Nat} {spare : Nat → Bool} {held : Bool}
/-- A SLICE THAT IS READ. -/
theorem rd_slice' {t e : TypeId} {sz fuel : Nat} {cs : List Value} {x : DataW H × List MemPlace} (ht : P.underlying t = some (.slice e)) (hc : P.cellsOf e = sz) (h0 : 0 < sz) (hb : 0 < P.bytesOf e) (h : DataW.trod enc P w base spare held fuel t cs = some x) (hs : Small P t x.1) :
    ∃ v rows, cs = [v] ∧ Sli w sz v rows ∧ v.oneCell' = true ∧ v.cells = #[v] ∧ ∀ (i : Nat) (row : List Value), rows[i]? = some row → row.length = sz ∧ ∃ (f : Nat) (y : DataW H × List MemPlace), DataW.trod enc P w base spare held f e row = some y ∧ Small P e y.1 ∧ SizeOf.sizeOf y.1 < SizeOf.sizeOf x.1 := by
  rcases open_slice ht h with ⟨rfl, rfl⟩ | ⟨a, len, cap, m, n, D, Pl, rfl, hba, hl, hm, hmm, rfl, hx⟩
  · exact ⟨_, [], rfl, ⟨none, 0, rfl, by simp, fun j row hj => by simp at hj⟩, rfl, rfl, fun i row hr => by simp at hr⟩
  rw [hc] at hx
  have hlm : len ≤ m := by rw [hmm]; split <;> omega
  obtain ⟨R, hR⟩ := choose_lt (α := List Value) (p := fun i cs' => w.cells? base (a.add (i * sz)) sz = some cs' ∧ DataW.trod enc P w base spare held n e cs' = some (D i, Pl i)) hx
  have hlen : len ≤ 140737488355328 := by
    have := hs ((len + (m - len)) * P.bytesOf e) (by simp [DataW.weights, ht])
    have h1 : len * 1 ≤ (len + (m - len)) * P.bytesOf e := Nat.mul_le_mul (by omega) hb
    have h2 : reachBytes ≤ 140737488355328 := by decide
    omega
  refine ⟨_, (List.range len).map R, rfl, ⟨some a, cap, by simp, by simpa using hlen, fun j row hj => ?_⟩, rfl, rfl, fun i row hr => ?_⟩
  · have hjl : j < len := by have := (List.getElem?_eq_some_iff.1 hj).1; simpa using this
    simp [hjl] at hj
    subst hj
    obtain ⟨h1, _⟩ := hR j (by omega)
    obtain ⟨_, hrl, hcl⟩ := World.cells?_some h1
    have hcell : ∀ k u, (R j)[k]? = some u → w.cell? ((a.add (j * sz)).add k) = some u := fun k u hk => by
      have hk' : k < sz := by rw [← hrl]; exact (List.getElem?_eq_some_iff.1 hk).1
      rw [hcl k hk', hk]
    have hsp : a.spot = none := by
      have h00 : 0 < (R 0).length := by
        obtain ⟨h1, _⟩ := hR 0 (by omega)
        rw [(World.cells?_some h1).2.1]; exact h0
      obtain ⟨h2, _⟩ := hR 0 (by omega)
      have := (World.cells?_some h2).2.2 0 h0
      rw [List.getElem?_eq_getElem h00] at this
      have := cell_spot this
      simpa [Addr.add] using this
    obtain ⟨b, o, sp⟩ := a
    simp only at hsp
    subst hsp
    refine ⟨b, o, rfl, fun k u hk => ?_⟩
    have := hcell k u hk
    rw [add_at] at this
    exact this
  · have hjl : i < len := by have := (List.getElem?_eq_some_iff.1 hr).1; simpa using this
    simp [hjl] at hr
    subst hr
    obtain ⟨h1, h2⟩ := hR i (by omega)
    refine ⟨(World.cells?_some h1).2.1, n, _, h2, fun q hq => hs q ?_, by
      have hm : D i ∈ (List.range len).map D := List.mem_map.2 ⟨i, List.mem_range.2 hjl, rfl⟩
      have := List.sizeOf_lt_of_mem hm
      simp
      omega⟩
    simp only [DataW.weights, ht, List.mem_cons, List.mem_append]
    exact .inr (.inl (weightsAll_mem (List.mem_map.2 ⟨i, List.mem_range.2 hjl, rfl⟩) q hq))
/-- A struct's field. -/
theorem rd_field' {t : TypeId} {fs : Array Field} {fuel : Nat} {cs : List Value} {x : DataW H × List MemPlace} (ht : P.underlying t = some (.struct fs)) (h : DataW.trod enc P w base spare held fuel t cs = some x) (hs : Small P t x.1) {i : Nat} {f : Field} (hf : fs[i]? = some f) :
    ∃ (n : Nat) (y : DataW H × List MemPlace), DataW.trod enc P w base spare held n f.type ((cs.drop f.offset).take (P.cellsOf f.type)) = some y ∧ Small P f.type y.1 ∧ SizeOf.sizeOf y.1 < SizeOf.sizeOf x.1 := by
  obtain ⟨xs, n, _, rfl, hl, hlen, hfs⟩ := DataW.trod_struct ht h
  have h1 := hfs i f hf
  have hi : i < xs.length := by rw [hlen]; exact (Array.getElem?_eq_some_iff.1 hf).1
  rw [List.getElem?_eq_getElem hi] at h1
  refine ⟨n, _, h1, fun q hq => hs q ?_, by
    have hm : (xs[i]).1 ∈ xs.map (·.1) := List.mem_map.2 ⟨xs[i], List.getElem_mem hi, rfl⟩
    have := List.sizeOf_lt_of_mem hm
    simp
    omega⟩
  simp only [DataW.weights, ht]
  exact DataW.weights_mem_each (j := i) (t := f.type) (d := xs[i].1) (by simp [Array.getElem?_toList, hf]) (by simp [hi]) q hq
theorem rd_fld' {t i o : Nat} {ft : TypeId} {fuel : Nat} {cs : List Value} {x : DataW H × List MemPlace} (hf : fld P t i = some (ft, o)) (h : DataW.trod enc P w base spare held fuel t cs = some x) (hs : Small P t x.1) :
    ∃ (n : Nat) (y : DataW H × List MemPlace), DataW.trod enc P w base spare held n ft ((cs.drop o).take (P.cellsOf ft)) = some y ∧ Small P ft y.1 ∧ SizeOf.sizeOf y.1 < SizeOf.sizeOf x.1 := by
  unfold fld at hf
  split at hf
  · rename_i fs ht
    cases hfi : fs[i]? with
    | none => simp [hfi] at hf
    | some f =>
      simp [hfi] at hf
      obtain ⟨rfl, rfl⟩ := hf
      exact rd_field' ht h hs hfi
  · cases hf
end
end Go.Proofs.Vg
/- Small laws in one: for short texts. -/
set_option linter.unusedVariables false
namespace Go.Proofs.Vg
open Go Go.RowKit
theorem S0 :
    (∀ {α : Type} (a : α) (l : List α) (d : α), (a :: l).headD d = a) ∧ (∀ {α : Type} (a : α) (l : List α), (a :: l).tail = l) ∧
    (∀ {α : Type} (a : α) (l : List α) (n : Nat), (a :: l).take (n + 1) = a :: l.take n) ∧ (∀ {α : Type} (l : List α), l.take 0 = []) ∧
    (∀ {α : Type} (a : α) (l : List α) (n : Nat), (a :: l).drop (n + 1) = l.drop n) ∧ (∀ {α : Type} (l : List α), l.drop 0 = l) ∧
    (∀ {α : Type} (a : α) (l : List α), (a :: l)[0]? = some a) ∧ (∀ {α : Type} (a : α) (l : List α) (n : Nat), (a :: l)[n + 1]? = l[n]?) ∧
    ((!true) = false) ∧ ((!false) = true) ∧ (∀ p : Prop, (True ∧ p) = p) ∧ (∀ p : Prop, (p ∧ True) = p) ∧ (∀ p : Prop, (False → p) = True) ∧ (∀ p : Prop, (True → p) = p) ∧
    (∀ h : Decidable True, @decide True h = true) ∧ (∀ h : Decidable False, @decide False h = false) ∧
    (∀ {α : Type} (l : List α), l.toArray.toList = l) ∧ (∀ {α : Type} (a : α) (l m : List α), (a :: l) ++ m = a :: (l ++ m)) ∧ (∀ {α : Type} (l : List α), [] ++ l = l) ∧
    (∀ n : Nat, ((n : Int)).toNat = n) ∧ (∀ b o n : Nat, (⟨b, o, none⟩ : Addr).add n = ⟨b, o + n, none⟩) ∧ (∀ n : Nat, n * 1 = n) ∧ (∀ n : Nat, n + 0 = n) :=
  ⟨fun _ _ _ => rfl, fun _ _ => rfl, fun _ _ _ => rfl, fun _ => rfl, fun _ _ _ => rfl, fun _ => rfl, fun _ _ => rfl, fun _ _ _ => rfl, rfl, rfl, fun p => true_and p, fun p => and_true p, fun p => false_implies p, fun p => true_implies p,
    fun _ => decide_true _, fun _ => decide_false _, fun _ => rfl, fun _ _ _ => rfl, fun _ => rfl, fun _ => rfl, add_at, Nat.mul_one, Nat.add_zero⟩
theorem S1 :
    (∀ (P : Program) (t : TypeId) (k k' : IntKind) (a b : Int), binV P t .add (.int k a) (.int k' b) = some (k = k' ∧ inI k (a + b), .int k (a + b))) ∧
    (∀ (P : Program) (t : TypeId) (k k' : IntKind) (a b : Int), binV P t .sub (.int k a) (.int k' b) = some (k = k' ∧ inI k (a - b), .int k (a - b))) ∧
    (∀ (P : Program) (t : TypeId) (k k' : IntKind) (a b : Int), binV P t .mul (.int k a) (.int k' b) = some (k = k' ∧ inI k (a * b), .int k (a * b))) ∧
    (∀ (P : Program) (t : TypeId) (k k' : IntKind) (a b : Int), binV P t .eql (.int k a) (.int k' b) = some (k = k', .bool (decide (a = b)))) ∧
    (∀ (P : Program) (t : TypeId) (k k' : IntKind) (a b : Int), binV P t .neq (.int k a) (.int k' b) = some (k = k', .bool (!decide (a = b)))) ∧
    (∀ (P : Program) (t : TypeId) (k k' : IntKind) (a b : Int), binV P t .lss (.int k a) (.int k' b) = some (k = k', .bool (decide (a < b)))) ∧
    (∀ (P : Program) (t : TypeId) (k k' : IntKind) (a b : Int), binV P t .leq (.int k a) (.int k' b) = some (k = k', .bool (decide (a ≤ b)))) ∧
    (∀ (P : Program) (t : TypeId) (k k' : IntKind) (a b : Int), binV P t .gtr (.int k a) (.int k' b) = some (k = k', .bool (decide (b < a)))) ∧
    (∀ (P : Program) (t : TypeId) (k k' : IntKind) (a b : Int), binV P t .geq (.int k a) (.int k' b) = some (k = k', .bool (decide (b ≤ a)))) ∧
    (∀ (P : Program) (t : TypeId) (s u : ByteArray), binV P t .eql (.string s) (.string u) = some (True, .bool (decide (s = u)))) ∧
    (∀ (P : Program) (t : TypeId) (s u : ByteArray), binV P t .neq (.string s) (.string u) = some (True, .bool (!decide (s = u)))) ∧
    (∀ (P : Program) (t : TypeId) (x y : Bool), binV P t .eql (.bool x) (.bool y) = some (P.underlying t = some .bool, .bool (decide (x = y)))) ∧
    (∀ (P : Program) (t : TypeId) (x y : Bool), binV P t .neq (.bool x) (.bool y) = some (P.underlying t = some .bool, .bool (!decide (x = y)))) :=
  ⟨fun _ _ _ _ _ _ => rfl, fun _ _ _ _ _ _ => rfl, fun _ _ _ _ _ _ => rfl, fun _ _ _ _ _ _ => rfl, fun _ _ _ _ _ _ => rfl, fun _ _ _ _ _ _ => rfl, fun _ _ _ _ _ _ => rfl, fun _ _ _ _ _ _ => rfl, fun _ _ _ _ _ _ => rfl,
    fun _ _ _ _ => rfl, fun _ _ _ _ => rfl, fun _ _ _ _ => rfl, fun _ _ _ _ => rfl⟩
end Go.Proofs.Vg
/- Short names, for short texts. -/
set_option linter.unusedVariables false
set_option linter.defProp false
namespace Go.Proofs.Vg
open Go Go.RowKit
def zL := @wpL_step
def zH := @wpH_step
def zE := @wpE_step
def zl := @wpL_end
def zh := @wpH_end
def ze := @wpE_end
def zA := @wpLW_step
def zB := @wpHW_step
def za := @wpLW_end
def zb := @wpHW_end
def z2 := @ofX2
def z3 := @ofX3
end Go.Proofs.Vg
/- Closed facts of the loaded program: sizes of types, places of fields, which functions have bodies. -/
set_option linter.unusedVariables false
namespace Go.Proofs.Ytafjfcameabbmaa
open Go Go.Proofs.Vg
namespace Fx
theorem ag2 : aggN Try.prog 2 = some none := by kernel_rfl
theorem ag9 : aggN Try.prog 9 = some none := by kernel_rfl
theorem ag61 : aggN Try.prog 61 = some (some 5) := by kernel_rfl
theorem ag69 : aggN Try.prog 69 = some (some 6) := by kernel_rfl
theorem ag73 : aggN Try.prog 73 = some none := by kernel_rfl
theorem ag76 : aggN Try.prog 76 = some none := by kernel_rfl
theorem ag79 : aggN Try.prog 79 = some (some 12) := by kernel_rfl
theorem ag93 : aggN Try.prog 93 = some (some 4) := by kernel_rfl
theorem ag98 : aggN Try.prog 98 = some (some 2) := by kernel_rfl
theorem ag101 : aggN Try.prog 101 = some (some 12) := by kernel_rfl
theorem fo61_0 : fieldOff Try.prog 61 0 = some 0 := by kernel_rfl
theorem fo61_1 : fieldOff Try.prog 61 1 = some 1 := by kernel_rfl
theorem fo61_2 : fieldOff Try.prog 61 2 = some 2 := by kernel_rfl
theorem fo61_3 : fieldOff Try.prog 61 3 = some 3 := by kernel_rfl
theorem fo69_0 : fieldOff Try.prog 69 0 = some 0 := by kernel_rfl
theorem fo69_1 : fieldOff Try.prog 69 1 = some 1 := by kernel_rfl
theorem fo69_2 : fieldOff Try.prog 69 2 = some 2 := by kernel_rfl
theorem fo69_3 : fieldOff Try.prog 69 3 = some 3 := by kernel_rfl
theorem fo69_4 : fieldOff Try.prog 69 4 = some 4 := by kernel_rfl
theorem fo69_5 : fieldOff Try.prog 69 5 = some 5 := by kernel_rfl
theorem fo79_0 : fieldOff Try.prog 79 0 = some 0 := by kernel_rfl
theorem fo79_1 : fieldOff Try.prog 79 1 = some 1 := by kernel_rfl
theorem fo79_2 : fieldOff Try.prog 79 2 = some 2 := by kernel_rfl
theorem fo79_3 : fieldOff Try.prog 79 3 = some 3 := by kernel_rfl
theorem fo79_4 : fieldOff Try.prog 79 4 = some 8 := by kernel_rfl
theorem fo79_5 : fieldOff Try.prog 79 5 = some 9 := by kernel_rfl
theorem fo79_6 : fieldOff Try.prog 79 6 = some 10 := by kernel_rfl
theorem fo79_7 : fieldOff Try.prog 79 7 = some 11 := by kernel_rfl
theorem fo93_0 : fieldOff Try.prog 93 0 = some 0 := by kernel_rfl
theorem fo93_1 : fieldOff Try.prog 93 1 = some 1 := by kernel_rfl
theorem fo93_2 : fieldOff Try.prog 93 2 = some 2 := by kernel_rfl
theorem fo93_3 : fieldOff Try.prog 93 3 = some 3 := by kernel_rfl
theorem fo98_0 : fieldOff Try.prog 98 0 = some 0 := by kernel_rfl
theorem fo98_1 : fieldOff Try.prog 98 1 = some 1 := by kernel_rfl
theorem fo101_0 : fieldOff Try.prog 101 0 = some 0 := by kernel_rfl
theorem fo101_1 : fieldOff Try.prog 101 1 = some 1 := by kernel_rfl
theorem fo101_2 : fieldOff Try.prog 101 2 = some 2 := by kernel_rfl
theorem fo101_3 : fieldOff Try.prog 101 3 = some 3 := by kernel_rfl
theorem fo101_4 : fieldOff Try.prog 101 4 = some 8 := by kernel_rfl
theorem fo101_5 : fieldOff Try.prog 101 5 = some 9 := by kernel_rfl
theorem fo101_6 : fieldOff Try.prog 101 6 = some 10 := by kernel_rfl
theorem fo101_7 : fieldOff Try.prog 101 7 = some 11 := by kernel_rfl
theorem es35 : elemSize Try.prog 35 = some 4 := by kernel_rfl
theorem es42 : elemSize Try.prog 42 = some 6 := by kernel_rfl
theorem es73 : elemSize Try.prog 73 = some 12 := by kernel_rfl
theorem es81 : elemSize Try.prog 81 = some 12 := by kernel_rfl
theorem ar77 : arrInfo Try.prog 77 = some (5, 1) := by kernel_rfl
theorem isl35 : isSlice Try.prog 35 = true := by kernel_rfl
theorem isl42 : isSlice Try.prog 42 = true := by kernel_rfl
theorem isl73 : isSlice Try.prog 73 = true := by kernel_rfl
theorem isl81 : isSlice Try.prog 81 = true := by kernel_rfl
theorem ist9 : isString Try.prog 9 = true := by kernel_rfl
theorem un2 : Try.prog.underlying 2 = some (.int .i64) := by kernel_rfl
theorem un35 : Try.prog.underlying 35 = some (.slice 93) := by kernel_rfl
theorem un42 : Try.prog.underlying 42 = some (.slice 69) := by kernel_rfl
theorem un73 : Try.prog.underlying 73 = some (.slice 79) := by kernel_rfl
theorem un81 : Try.prog.underlying 81 = some (.slice 101) := by kernel_rfl
theorem zi69 : zinfo Try.prog 69 = some (some (.agg #[.int .i64 0, .int .i64 0, .int .i64 0, .int .i64 0, .int .i64 0, .slice none 0 0]), 6, 64) := by kernel_rfl
theorem zi73 : zinfo Try.prog 73 = some (some (.slice none 0 0), 1, 24) := by kernel_rfl
theorem zi79 : zinfo Try.prog 79 = some (some (.agg #[.int .i64 0, .int .i64 0, .int .i64 0, .int .i64 0, .int .i64 0, .int .i64 0, .int .i64 0, .int .i64 0, .slice none 0 0, .slice none 0 0, .slice none 0 0, .int .i64 0]), 12, 144) := by kernel_rfl
theorem zi93 : zinfo Try.prog 93 = some (some (.agg #[.int .i64 0, .int .i64 0, .string ByteArray.empty, .slice none 0 0]), 4, 56) := by kernel_rfl
theorem zi98 : zinfo Try.prog 98 = some (some (.agg #[.slice none 0 0, .slice none 0 0]), 2, 48) := by kernel_rfl
theorem zi101 : zinfo Try.prog 101 = some (some (.agg #[.int .i64 0, .int .i64 0, .int .i64 0, .int .i64 0, .int .i64 0, .int .i64 0, .int .i64 0, .int .i64 0, .slice none 0 0, .slice none 0 0, .slice none 0 0, .int .i64 0]), 12, 144) := by kernel_rfl
theorem en16 : ∀ (xs : Array Value) (w : World), (callFunc 16 xs).run Try.prog w = .ok (.enter 16 xs) w := fun _ _ => by kernel_rfl
theorem en17 : ∀ (xs : Array Value) (w : World), (callFunc 17 xs).run Try.prog w = .ok (.enter 17 xs) w := fun _ _ => by kernel_rfl
theorem en18 : ∀ (xs : Array Value) (w : World), (callFunc 18 xs).run Try.prog w = .ok (.enter 18 xs) w := fun _ _ => by kernel_rfl
theorem en19 : ∀ (xs : Array Value) (w : World), (callFunc 19 xs).run Try.prog w = .ok (.enter 19 xs) w := fun _ _ => by kernel_rfl
theorem en32 : ∀ (xs : Array Value) (w : World), (callFunc 32 xs).run Try.prog w = .ok (.enter 32 xs) w := fun _ _ => by kernel_rfl
theorem en33 : ∀ (xs : Array Value) (w : World), (callFunc 33 xs).run Try.prog w = .ok (.enter 33 xs) w := fun _ _ => by kernel_rfl
theorem en34 : ∀ (xs : Array Value) (w : World), (callFunc 34 xs).run Try.prog w = .ok (.enter 34 xs) w := fun _ _ => by kernel_rfl
theorem en35 : ∀ (xs : Array Value) (w : World), (callFunc 35 xs).run Try.prog w = .ok (.enter 35 xs) w := fun _ _ => by kernel_rfl
theorem en36 : ∀ (xs : Array Value) (w : World), (callFunc 36 xs).run Try.prog w = .ok (.enter 36 xs) w := fun _ _ => by kernel_rfl
theorem en37 : ∀ (xs : Array Value) (w : World), (callFunc 37 xs).run Try.prog w = .ok (.enter 37 xs) w := fun _ _ => by kernel_rfl
theorem en38 : ∀ (xs : Array Value) (w : World), (callFunc 38 xs).run Try.prog w = .ok (.enter 38 xs) w := fun _ _ => by kernel_rfl
theorem en39 : ∀ (xs : Array Value) (w : World), (callFunc 39 xs).run Try.prog w = .ok (.enter 39 xs) w := fun _ _ => by kernel_rfl
theorem en40 : ∀ (xs : Array Value) (w : World), (callFunc 40 xs).run Try.prog w = .ok (.enter 40 xs) w := fun _ _ => by kernel_rfl
theorem en41 : ∀ (xs : Array Value) (w : World), (callFunc 41 xs).run Try.prog w = .ok (.enter 41 xs) w := fun _ _ => by kernel_rfl
theorem en51 : ∀ (xs : Array Value) (w : World), (callFunc 51 xs).run Try.prog w = .ok (.enter 51 xs) w := fun _ _ => by kernel_rfl
theorem en52 : ∀ (xs : Array Value) (w : World), (callFunc 52 xs).run Try.prog w = .ok (.enter 52 xs) w := fun _ _ => by kernel_rfl
theorem en53 : ∀ (xs : Array Value) (w : World), (callFunc 53 xs).run Try.prog w = .ok (.enter 53 xs) w := fun _ _ => by kernel_rfl
theorem en54 : ∀ (xs : Array Value) (w : World), (callFunc 54 xs).run Try.prog w = .ok (.enter 54 xs) w := fun _ _ => by kernel_rfl
theorem en57 : ∀ (xs : Array Value) (w : World), (callFunc 57 xs).run Try.prog w = .ok (.enter 57 xs) w := fun _ _ => by kernel_rfl
theorem en58 : ∀ (xs : Array Value) (w : World), (callFunc 58 xs).run Try.prog w = .ok (.enter 58 xs) w := fun _ _ => by kernel_rfl
theorem en59 : ∀ (xs : Array Value) (w : World), (callFunc 59 xs).run Try.prog w = .ok (.enter 59 xs) w := fun _ _ => by kernel_rfl
theorem en63 : ∀ (xs : Array Value) (w : World), (callFunc 63 xs).run Try.prog w = .ok (.enter 63 xs) w := fun _ _ => by kernel_rfl
theorem en64 : ∀ (xs : Array Value) (w : World), (callFunc 64 xs).run Try.prog w = .ok (.enter 64 xs) w := fun _ _ => by kernel_rfl
theorem en65 : ∀ (xs : Array Value) (w : World), (callFunc 65 xs).run Try.prog w = .ok (.enter 65 xs) w := fun _ _ => by kernel_rfl
theorem en66 : ∀ (xs : Array Value) (w : World), (callFunc 66 xs).run Try.prog w = .ok (.enter 66 xs) w := fun _ _ => by kernel_rfl
end Fx
end Go.Proofs.Ytafjfcameabbmaa
set_option linter.defProp false
namespace Go.Proofs.Ytafjfcameabbmaa
open Go Go.Proofs.Vg
def Q7 := Try.results7
def Q8 := And.intro Try.results8 (And.intro Fx.ag26 (And.intro Fx.es22 (And.intro Fx.fo37_4 (And.intro Fx.isl22 (Fx.isl26)))))
def Q9 := And.intro Try.results9 (Fx.isl26)
def Q10 := And.intro Try.results10 (And.intro Fx.ag3 (And.intro Fx.ag4 (And.intro Fx.es23 (And.intro Fx.fo55_2 (And.intro Fx.isl22 (Fx.isl23))))))
def Q13 := And.intro Try.results13 (And.intro Fx.ag3 (And.intro Fx.es26 (Fx.isl26)))
def Q16 := And.intro Try.results16 (And.intro Fx.ag35 (And.intro Fx.es42 (And.intro Fx.fo69_5 (Fx.isl42))))
def Q17 := And.intro Try.results17 (And.intro Fx.ag22 (Fx.ag76))
def Q18 := And.intro Try.results18 (And.intro Fx.ag3 (And.intro Fx.es42 (And.intro Fx.fo69_0 (And.intro Fx.fo69_1 (Fx.isl42)))))
def Q19 := And.intro Try.results19 (And.intro Fx.ag26 (And.intro Fx.ag3 (And.intro Fx.ag35 (And.intro Fx.ag37 (And.intro Fx.ag61 (And.intro Fx.es22 (And.intro Fx.es31 (And.intro Fx.fo37_0 (And.intro Fx.fo37_1 (And.intro Fx.fo37_2 (And.intro Fx.fo37_3 (And.intro Fx.fo37_4 (And.intro Fx.fo61_0 (And.intro Fx.fo61_1 (And.intro Fx.fo61_2 (And.intro Fx.fo61_3 (And.intro Fx.fo61_4 (And.intro Fx.isl22 (Fx.isl31)))))))))))))))))))
def Q20 := And.intro Try.results20 (And.intro Fx.ag26 (And.intro Fx.ag3 (And.intro Fx.ag37 (And.intro Fx.es22 (And.intro Fx.es26 (And.intro Fx.fo37_4 (And.intro Fx.isl22 (Fx.isl26))))))))
def Q21 := And.intro Try.results21 (Fx.isl22)
def Q22 := And.intro Try.results22 (And.intro Fx.ag23 (And.intro Fx.ag3 (And.intro Fx.ag4 (And.intro Fx.es23 (And.intro Fx.es26 (And.intro Fx.fo55_1 (And.intro Fx.fo55_2 (Fx.isl23))))))))
def Q23 := And.intro Try.results23 (And.intro Fx.ag22 (And.intro Fx.ag23 (And.intro Fx.ag4 (And.intro Fx.es23 (And.intro Fx.fo55_0 (And.intro Fx.fo55_1 (And.intro Fx.fo55_2 (And.intro Fx.isl22 (And.intro Fx.isl23 (Fx.un4))))))))))
def Q28 := Try.results28
def Q32 := And.intro Try.results32 (And.intro Fx.ag35 (And.intro Fx.ag9 (And.intro Fx.es35 (And.intro Fx.fo93_2 (And.intro Fx.fo93_3 (And.intro Fx.isl35 (Fx.ist9)))))))
def Q33 := Try.results33
def Q34 := And.intro Try.results34 (And.intro Fx.ag3 (And.intro Fx.ag69 (And.intro Fx.es42 (And.intro Fx.fo69_0 (And.intro Fx.fo69_1 (Fx.isl42))))))
def Q35 := And.intro Try.results35 (And.intro Fx.ag35 (And.intro Fx.ag73 (And.intro Fx.es73 (And.intro Fx.fo79_4 (And.intro Fx.fo79_5 (And.intro Fx.fo98_0 (Fx.isl73)))))))
def Q36 := And.intro Try.results36 (And.intro Fx.ag22 (And.intro Fx.ag26 (And.intro Fx.ag3 (And.intro Fx.ag35 (And.intro Fx.ag73 (And.intro Fx.ag76 (And.intro Fx.ag79 (And.intro Fx.es22 (And.intro Fx.es26 (And.intro Fx.es73 (And.intro Fx.fo37_4 (And.intro Fx.fo79_0 (And.intro Fx.fo79_4 (And.intro Fx.fo79_5 (And.intro Fx.fo79_6 (And.intro Fx.fo79_7 (And.intro Fx.isl22 (Fx.isl26))))))))))))))))))
def Q37 := And.intro Try.results37 (And.intro Fx.ag35 (And.intro Fx.ag93 (And.intro Fx.es35 (And.intro Fx.fo93_3 (Fx.isl35)))))
def Q38 := Try.results38
def Q39 := Try.results39
def Q40 := And.intro Try.results40 (And.intro Fx.ag101 (And.intro Fx.ag26 (And.intro Fx.ag3 (And.intro Fx.ag35 (And.intro Fx.es26 (And.intro Fx.es31 (And.intro Fx.es81 (And.intro Fx.fo101_0 (And.intro Fx.fo101_4 (And.intro Fx.fo101_5 (And.intro Fx.fo101_6 (And.intro Fx.fo101_7 (And.intro Fx.fo61_4 (And.intro Fx.isl26 (Fx.isl31)))))))))))))))
def Q41 := And.intro Try.results41 (And.intro Fx.ag93 (And.intro Fx.es35 (Fx.isl35)))
def Q42 := Try.results42
def Q43 := And.intro Try.results43 (Fx.isl23)
def Q44 := And.intro Try.results44 (And.intro Fx.ag22 (And.intro Fx.ag23 (And.intro Fx.ag26 (And.intro Fx.ag3 (And.intro Fx.ag4 (And.intro Fx.ag50 (And.intro Fx.es22 (And.intro Fx.es23 (And.intro Fx.es26 (And.intro Fx.fo37_4 (And.intro Fx.fo55_0 (And.intro Fx.fo55_1 (And.intro Fx.isl22 (Fx.isl26))))))))))))))
def Q45 := And.intro Try.results45 (And.intro Fx.ag22 (And.intro Fx.ag26 (And.intro Fx.ag3 (And.intro Fx.es22 (And.intro Fx.es26 (And.intro Fx.fo37_4 (And.intro Fx.fo55_0 (Fx.isl26))))))))
def Q46 := And.intro Try.results46 (And.intro Fx.ag23 (Fx.es23))
def Q49 := And.intro Try.results49 (And.intro Fx.ag3 (And.intro Fx.es26 (Fx.isl26)))
def Q51 := And.intro Try.results51 (And.intro Fx.ag69 (And.intro Fx.es42 (Fx.isl42)))
def Q52 := And.intro Try.results52 (And.intro Fx.ag35 (And.intro Fx.ag93 (And.intro Fx.es35 (And.intro Fx.fo93_3 (Fx.isl35)))))
def Q53 := And.intro Try.results53 (And.intro Fx.ag69 (And.intro Fx.es42 (Fx.isl42)))
def Q54 := And.intro Try.results54 (And.intro Fx.ag2 (And.intro Fx.ag3 (And.intro Fx.ag35 (And.intro Fx.ag9 (And.intro Fx.ag93 (And.intro Fx.es35 (And.intro Fx.fo93_0 (And.intro Fx.fo93_1 (And.intro Fx.fo93_2 (And.intro Fx.fo93_3 (Fx.isl35)))))))))))
def Q55 := Try.results55
def Q56 := Try.results56
def Q57 := And.intro Try.results57 (And.intro Fx.ag26 (And.intro Fx.ag3 (And.intro Fx.ag35 (And.intro Fx.ag69 (And.intro Fx.ag73 (And.intro Fx.ar77 (And.intro Fx.es26 (And.intro Fx.es73 (And.intro Fx.fo69_0 (And.intro Fx.fo69_1 (And.intro Fx.fo69_2 (And.intro Fx.fo69_3 (And.intro Fx.fo69_4 (And.intro Fx.fo69_5 (And.intro Fx.fo79_0 (And.intro Fx.fo79_1 (And.intro Fx.fo79_2 (And.intro Fx.fo79_3 (And.intro Fx.fo79_4 (And.intro Fx.fo79_5 (And.intro Fx.fo98_0 (And.intro Fx.fo98_1 (Fx.isl35)))))))))))))))))))))))
def Q58 := And.intro Try.results58 (And.intro Fx.ag101 (And.intro Fx.ag3 (And.intro Fx.ag35 (And.intro Fx.es81 (And.intro Fx.fo101_0 (And.intro Fx.fo101_1 (And.intro Fx.fo101_2 (And.intro Fx.fo101_4 (And.intro Fx.fo101_7 (And.intro Fx.fo69_0 (And.intro Fx.fo69_1 (And.intro Fx.fo69_2 (And.intro Fx.fo69_3 (And.intro Fx.fo69_4 (And.intro Fx.fo69_5 (And.intro Fx.isl35 (Fx.isl81)))))))))))))))))
def Q59 := And.intro Try.results59 (And.intro Fx.ag26 (And.intro Fx.ag3 (And.intro Fx.ag35 (And.intro Fx.ar77 (And.intro Fx.es81 (And.intro Fx.fo101_3 (And.intro Fx.fo101_5 (And.intro Fx.fo101_6 (And.intro Fx.fo101_7 (And.intro Fx.fo69_0 (And.intro Fx.fo69_1 (And.intro Fx.fo69_2 (And.intro Fx.fo69_3 (And.intro Fx.fo69_4 (Fx.fo69_5)))))))))))))))
def Q61 := Try.results61
def Q62 := And.intro Try.results62 (And.intro Fx.ag22 (And.intro Fx.ag37 (And.intro Fx.es22 (Fx.isl22))))
def Q63 := And.intro Try.results63 (And.intro Fx.ag26 (And.intro Fx.ag3 (And.intro Fx.ag35 (And.intro Fx.ag73 (And.intro Fx.es73 (And.intro Fx.fo69_1 (And.intro Fx.fo69_2 (And.intro Fx.fo69_3 (And.intro Fx.fo69_4 (And.intro Fx.fo69_5 (And.intro Fx.fo79_6 (And.intro Fx.fo98_0 (And.intro Fx.fo98_1 (Fx.isl73))))))))))))))
def Q64 := And.intro Try.results64 (And.intro Fx.ag26 (And.intro Fx.ag3 (And.intro Fx.ag73 (And.intro Fx.es26 (And.intro Fx.es73 (And.intro Fx.fo79_1 (And.intro Fx.fo79_7 (And.intro Fx.fo98_0 (Fx.fo98_1)))))))))
def Q65 := And.intro Try.results65 (And.intro Fx.ag3 (And.intro Fx.ag73 (And.intro Fx.es73 (And.intro Fx.fo79_7 (And.intro Fx.fo98_0 (Fx.isl73))))))
def Q66 := And.intro Try.results66 (And.intro Fx.ag3 (And.intro Fx.es81 (And.intro Fx.fo101_1 (And.intro Fx.fo101_7 (Fx.isl81)))))
end Go.Proofs.Ytafjfcameabbmaa
/- Contracts: slices.IndexFunc, slices.ContainsFunc, slices.Index, slices.Contains over []int. -/
set_option linter.unusedVariables false
set_option linter.unusedSimpArgs false
namespace Go.Proofs.Ytafjfcameabbmaa
open Go Go.Proofs.Vg Go.RowKit

/-- A predicate over ints, as a function value. -/
def PredI (fv : Value) (w : World) (xs : List Int) (p : Int → Bool) : Prop :=
  ∀ x ∈ xs, ∀ w', Ext w w' → ∀ (nx : Value → World → Prop), (∀ w'', Ext w' w'' → nx (.bool (p x)) w'') → Inv Try.prog fv [.int .i64 x] w' (callR nx fun _ _ => False)

-- -- function 49
theorem indexFunc_ok (w : World) (va fv : Value) (xs : List Int) (p : Int → Bool) (ha : SlI w va xs) (hp : PredI fv w xs p) :
    Rets Try.prog 49 [va, fv] w (fun v w' => (∃ i : Int, v = .int .i64 i ∧ (0 ≤ i ↔ xs.any p = true)) ∧ Ext w w') := by
  obtain ⟨A, ca, rfl, hla, hca⟩ := ha.at_
  clear ha
  refine rets_of_ok Try.func49 rfl rfl ?_
  refine ok_seq (fun M hM => ok_region rfl ?_); try simp only [wpL, wpH, wpE, oweC, oweP, opF, opH, ev, evs, evp, evo, Env.get, Env.set, putE, gdst, S0, S1, thenN, inBlockN, argEnv, builtinR, retE, fin, callR, reduceIte, Nat.reduceEqDiff, Nat.reduceAdd, reduceCtorEq, forall_const, Q49]
  refine hM _ _ _ ?_; clear hM M
  refine ok_seq (fun M0 hM0 => ?_)
  refine ok_seq (fun M hM => ok_region rfl ?_); try simp only [wpL, wpH, wpE, oweC, oweP, opF, opH, ev, evs, evp, evo, Env.get, Env.set, putE, gdst, S0, S1, thenN, inBlockN, argEnv, builtinR, retE, fin, callR, reduceIte, Nat.reduceEqDiff, Nat.reduceAdd, reduceCtorEq, forall_const, Q49]
  refine hM _ _ _ ?_; clear hM M
  refine ok_block ?_
  refine ok_loop (S := Nat) (fun k => [(0, .slice A xs.length ca), (1, fv), (7, .int .i64 (xs.length : Int)), (8, .int .i64 (k : Int))]) (fun k w' => Ext w w' ∧ k ≤ xs.length ∧ (xs.take k).any p = false) (fun k => xs.length - k) 0 ?_ ?_ ?_
  · simp [sub, Env.get, argEnv]
  · exact ⟨Ext.refl _, Nat.zero_le _, by simp⟩
  rintro k w' ⟨he, hk, hno⟩
  refine ok_seq (fun M hM => ok_region rfl ?_); try simp only [wpL, wpH, wpE, oweC, oweP, opF, opH, ev, evs, evp, evo, Env.get, Env.set, putE, gdst, S0, S1, thenN, inBlockN, argEnv, builtinR, retE, fin, callR, reduceIte, Nat.reduceEqDiff, Nat.reduceAdd, reduceCtorEq, forall_const, Q49]
  refine hM _ _ _ ?_; clear hM M
  refine ok_seq (fun M hM => ok_if rfl (fun hc => ok_skip ?_) (fun hc => ok_exit ?_))
  · try simp only [wpL, wpH, wpE, oweC, oweP, opF, opH, ev, evs, evp, evo, Env.get, Env.set, putE, gdst, S0, S1, thenN, inBlockN, argEnv, builtinR, retE, fin, callR, reduceIte, Nat.reduceEqDiff, Nat.reduceAdd, reduceCtorEq, forall_const, Q49]
    refine hM _ _ _ ?_; clear hM M
    have hkl : k < xs.length := by omega
    obtain ⟨b, o, rfl, hcx⟩ := hca k hkl
    refine ok_seq (fun M1 hM1 => ok_block ?_)
    refine ok_seq (fun M hM => ok_region rfl ?_); try simp only [wpL, wpH, wpE, oweC, oweP, opF, opH, ev, evs, evp, evo, Env.get, Env.set, putE, gdst, S0, S1, thenN, inBlockN, argEnv, builtinR, retE, fin, callR, reduceIte, Nat.reduceEqDiff, Nat.reduceAdd, reduceCtorEq, forall_const, Q49]
    refine hM _ _ _ ?_; clear hM M
    refine ok_seq (fun M hM => ok_region rfl ?_)
    try simp only [wpL, wpH, wpE, oweC, oweP, opF, opH, ev, evs, evp, evo, Env.get, Env.set, putE, gdst, S0, S1, thenN, inBlockN, argEnv, builtinR, retE, fin, callR, reduceIte, Nat.reduceEqDiff, Nat.reduceAdd, reduceCtorEq, forall_const, Q49]
    refine ⟨by omega, by omega, _, he.cell hcx, ?_⟩
    try simp only [wpL, wpH, wpE, oweC, oweP, opF, opH, ev, evs, evp, evo, Env.get, Env.set, putE, gdst, S0, S1, thenN, inBlockN, argEnv, builtinR, retE, fin, callR, reduceIte, Nat.reduceEqDiff, Nat.reduceAdd, reduceCtorEq, forall_const, Q49]
    refine hp _ (List.getElem_mem hkl) w' he _ (fun w2 he2 => ?_)
    refine hM _ _ _ ?_; clear hM M
    refine ok_cond rfl (fun hc => ?_) (fun hc => ok_skip ?_)
    · refine ok_seq (fun M hM => ok_region rfl ?_); try simp only [wpL, wpH, wpE, oweC, oweP, opF, opH, ev, evs, evp, evo, Env.get, Env.set, putE, gdst, S0, S1, thenN, inBlockN, argEnv, builtinR, retE, fin, callR, reduceIte, Nat.reduceEqDiff, Nat.reduceAdd, reduceCtorEq, forall_const, Q49]
      refine hM _ _ _ ?_; clear hM M
      refine ok_ret ?_
      try simp only [wpL, wpH, wpE, oweC, oweP, opF, opH, ev, evs, evp, evo, Env.get, Env.set, putE, gdst, S0, S1, thenN, inBlockN, argEnv, builtinR, retE, fin, callR, reduceIte, Nat.reduceEqDiff, Nat.reduceAdd, reduceCtorEq, forall_const, Q49]
      refine ⟨⟨k, rfl, ?_⟩, he.trans he2⟩
      have : xs.any p = true := List.any_eq_true.2 ⟨_, List.getElem_mem hkl, hc⟩
      simp [this]
    · try simp only [wpL, wpH, wpE, oweC, oweP, opF, opH, ev, evs, evp, evo, Env.get, Env.set, putE, gdst, S0, S1, thenN, inBlockN, argEnv, builtinR, retE, fin, callR, reduceIte, Nat.reduceEqDiff, Nat.reduceAdd, reduceCtorEq, forall_const, Q49]
      refine hM1 _ _ _ ?_; clear hM1 M1
      refine ok_region rfl ?_
      try simp only [wpL, wpH, wpE, oweC, oweP, opF, opH, ev, evs, evp, evo, Env.get, Env.set, putE, gdst, S0, S1, thenN, inBlockN, argEnv, builtinR, retE, fin, callR, reduceIte, Nat.reduceEqDiff, Nat.reduceAdd, reduceCtorEq, forall_const, Q49]
      refine ⟨by simp only [inI]; omega, k + 1, by simp [sub, Env.get], ⟨he.trans he2, by omega, ?_⟩, by omega⟩
      rw [List.take_succ_eq_append_getElem hkl, List.any_append, hno]
      simp [hc]
  · try simp only [wpL, wpH, wpE, oweC, oweP, opF, opH, ev, evs, evp, evo, Env.get, Env.set, putE, gdst, S0, S1, thenN, inBlockN, argEnv, builtinR, retE, fin, callR, reduceIte, Nat.reduceEqDiff, Nat.reduceAdd, reduceCtorEq, forall_const, Q49]
    refine hM0 _ _ _ ?_; clear hM0 M0 hM M
    refine ok_seq (fun M hM => ok_region rfl ?_); try simp only [wpL, wpH, wpE, oweC, oweP, opF, opH, ev, evs, evp, evo, Env.get, Env.set, putE, gdst, S0, S1, thenN, inBlockN, argEnv, builtinR, retE, fin, callR, reduceIte, Nat.reduceEqDiff, Nat.reduceAdd, reduceCtorEq, forall_const, Q49]
    refine hM _ _ _ ?_; clear hM M
    refine ok_ret ?_
    try simp only [wpL, wpH, wpE, oweC, oweP, opF, opH, ev, evs, evp, evo, Env.get, Env.set, putE, gdst, S0, S1, thenN, inBlockN, argEnv, builtinR, retE, fin, callR, reduceIte, Nat.reduceEqDiff, Nat.reduceAdd, reduceCtorEq, forall_const, Q49]
    refine ⟨⟨-1, rfl, ?_⟩, he⟩
    rw [List.take_of_length_le (by omega)] at hno
    simp [hno]

-- -- function 28
theorem containsFunc_ok (w : World) (va fv : Value) (xs : List Int) (p : Int → Bool) (ha : SlI w va xs) (hp : PredI fv w xs p) :
    Rets Try.prog 28 [va, fv] w (fun v w' => v = .bool (xs.any p) ∧ Ext w w') := by
  refine rets_of_ok Try.func28 rfl rfl ?_
  refine ok_seq (fun M hM => ok_region rfl ?_); try simp only [wpL, wpH, wpE, oweC, oweP, opF, opH, ev, evs, evp, evo, Env.get, Env.set, putE, gdst, S0, S1, thenN, inBlockN, argEnv, builtinR, retE, fin, callR, reduceIte, Nat.reduceEqDiff, Nat.reduceAdd, reduceCtorEq, forall_const, Q28]
  refine hM _ _ _ ?_; clear hM M
  refine ok_seq (fun M hM => ok_region rfl ?_)
  try simp only [wpL, wpH, wpE, oweC, oweP, opF, opH, ev, evs, evp, evo, Env.get, Env.set, putE, gdst, S0, S1, thenN, inBlockN, argEnv, builtinR, retE, fin, callR, reduceIte, Nat.reduceEqDiff, Nat.reduceAdd, reduceCtorEq, forall_const, Q28]
  refine Inv.call Fx.en49 (indexFunc_ok w va fv xs p ha hp) ?_
  rintro v w' ⟨⟨i, rfl, hi⟩, he⟩
  try simp only [wpL, wpH, wpE, oweC, oweP, opF, opH, ev, evs, evp, evo, Env.get, Env.set, putE, gdst, S0, S1, thenN, inBlockN, argEnv, builtinR, retE, fin, callR, reduceIte, Nat.reduceEqDiff, Nat.reduceAdd, reduceCtorEq, forall_const, Q28]
  refine hM _ _ _ ?_; clear hM M
  refine ok_ret ?_
  try simp only [wpL, wpH, wpE, oweC, oweP, opF, opH, ev, evs, evp, evo, Env.get, Env.set, putE, gdst, S0, S1, thenN, inBlockN, argEnv, builtinR, retE, fin, callR, reduceIte, Nat.reduceEqDiff, Nat.reduceAdd, reduceCtorEq, forall_const, Q28]
  refine ⟨?_, he⟩
  cases h : xs.any p <;> simp [h] at hi ⊢ <;> omega
end Go.Proofs.Ytafjfcameabbmaa
/- debug.formed. -/
set_option linter.unusedVariables false
set_option linter.unusedSimpArgs false
namespace Go.Proofs.Ytafjfcameabbmaa
open Go Go.Proofs.Vg Go.RowKit Dbg

-- -- function 42
theorem notOne_ok (w : World) (x : Int) : Rets Try.prog 42 [.int .i64 x] w (fun v w' => v = .bool (!decide (x = 1)) ∧ Ext w w') := by
  refine rets_of_ok Try.func42 rfl rfl ?_
  refine ok_seq (fun M hM => ok_region rfl ?_); try simp only [wpL, wpH, wpE, oweC, oweP, opF, opH, ev, evs, evp, evo, Env.get, Env.set, putE, gdst, S0, S1, thenN, inBlockN, argEnv, builtinR, retE, fin, callR, reduceIte, Nat.reduceEqDiff, Nat.reduceAdd, reduceCtorEq, forall_const, Q42]
  refine hM _ _ _ ?_; clear hM M
  refine ok_seq (fun M hM => ok_region rfl ?_); try simp only [wpL, wpH, wpE, oweC, oweP, opF, opH, ev, evs, evp, evo, Env.get, Env.set, putE, gdst, S0, S1, thenN, inBlockN, argEnv, builtinR, retE, fin, callR, reduceIte, Nat.reduceEqDiff, Nat.reduceAdd, reduceCtorEq, forall_const, Q42]
  refine hM _ _ _ ?_; clear hM M
  refine ok_ret ?_
  try simp only [wpL, wpH, wpE, oweC, oweP, opF, opH, ev, evs, evp, evo, Env.get, Env.set, putE, gdst, S0, S1, thenN, inBlockN, argEnv, builtinR, retE, fin, callR, reduceIte, Nat.reduceEqDiff, Nat.reduceAdd, reduceCtorEq, forall_const, Q42]
  exact Ext.refl _

def iv (xs : List Int) : List Value := xs.map fun x => .int .i64 x
@[simp] theorem iv_length (xs : List Int) : (iv xs).length = xs.length := by simp [iv]
theorem iv_get (xs : List Int) (j : Nat) (h : j < xs.length) : (iv xs)[j]? = some (.int .i64 xs[j]) := by simp [iv, h]
theorem iv_set (xs : List Int) (j : Nat) (x : Int) : iv (xs.set j x) = (iv xs).set j (.int .i64 x) := by simp [iv, List.map_set]
/-- A block of ints, as a slice. -/
theorem Blk.slI {w : World} {b : Nat} {xs : List Int} {e : TypeId} (h : Blk w b (iv xs) e) (hl : xs.length ≤ 140737488355328) (c : Nat) : SlI w (.slice (some ⟨b, 0, none⟩) xs.length c) xs :=
  ⟨_, c, by simp, by simpa using hl, fun j row hj => ⟨b, 0, rfl, by
    have hlt : j < xs.length := by have := (List.getElem?_eq_some_iff.1 hj).1; simpa using this
    simp [ints, hlt] at hj
    subst hj
    refine h.cells fun k u hk => ?_
    cases k with
    | zero => simp at hk; subst hk; simp [iv, hlt]
    | succ k => simp at hk⟩⟩

-- -- function 20
set_option maxHeartbeats 1000000 in
theorem formed_ok (w : World) (vn : Value) (ks : List (List Int)) (hn : NodesG w vn ks) (hs : ks.length + ks.flatten.length ≤ 1000) :
    Rets Try.prog 20 [vn] w (fun v w' => v = .bool (formedB ks) ∧ Ext w w') := by
  obtain ⟨A, cp, rfl, hlen, hrow⟩ := hn.at_
  clear hn
  refine rets_of_ok Try.func20 rfl rfl ?_
  refine ok_seq (fun M hM => ok_region rfl ?_); try simp only [wpL, wpH, wpE, oweC, oweP, opF, opH, ev, evs, evp, evo, Env.get, Env.set, putE, gdst, S0, S1, thenN, inBlockN, argEnv, builtinR, retE, fin, callR, reduceIte, Nat.reduceEqDiff, Nat.reduceAdd, reduceCtorEq, forall_const, Q20]
  refine hM _ _ _ ?_; clear hM M
  refine ok_seq (fun M hM => ok_region rfl ?_)
  try simp only [wpL, wpH, wpE, oweC, oweP, opF, opH, ev, evs, evp, evo, Env.get, Env.set, putE, gdst, S0, S1, thenN, inBlockN, argEnv, builtinR, retE, fin, callR, reduceIte, Nat.reduceEqDiff, Nat.reduceAdd, reduceCtorEq, forall_const, Q20]
  refine Runs.make1 Fx.un26 Fx.zi3 rfl (by omega) (by omega) (by omega) (fun w1 he1 hz1 hb1 => ?_)
  try simp only [wpL, wpH, wpE, oweC, oweP, opF, opH, ev, evs, evp, evo, Env.get, Env.set, putE, gdst, S0, S1, thenN, inBlockN, argEnv, builtinR, retE, fin, callR, reduceIte, Nat.reduceEqDiff, Nat.reduceAdd, reduceCtorEq, forall_const, Q20]
  refine hM _ _ _ ?_; clear hM M
  generalize hB : w.heap.size = B at *
  have hb1' : Blk w1 B (iv (counts ks.length [])) 3 := by
    rw [counts_nil]; simpa [iv] using hb1
  clear hb1
  refine ok_seq (fun M0 hM0 => ?_)
  refine ok_seq (fun M hM => ok_region rfl ?_); try simp only [wpL, wpH, wpE, oweC, oweP, opF, opH, ev, evs, evp, evo, Env.get, Env.set, putE, gdst, S0, S1, thenN, inBlockN, argEnv, builtinR, retE, fin, callR, reduceIte, Nat.reduceEqDiff, Nat.reduceAdd, reduceCtorEq, forall_const, Q20]
  refine hM _ _ _ ?_; clear hM M
  refine ok_block ?_
  refine ok_loop (S := Nat) (fun i => [(0, .slice A ks.length cp), (3, .slice (some ⟨B, 0, none⟩) ks.length ks.length), (11, .slice A ks.length cp), (12, .int .i64 (ks.length : Int)), (13, .int .i64 (i : Int))])
    (fun i w' => Ext w w' ∧ i ≤ ks.length ∧ Blk w' B (iv (counts ks.length (upto ks i 0))) 3 ∧ ∀ i', i' < i → (kidsOf ks i').all (edgeB ks.length i') = true) (fun i => ks.length - i) 0 ?_ ?_ ?_
  · simp [sub, Env.get, argEnv]
  · exact ⟨he1, Nat.zero_le _, by rw [upto_zero]; exact hb1', fun i' h => absurd h (Nat.not_lt_zero _)⟩
  rintro i w2 ⟨he2, hi, hb2, hall⟩
  refine ok_seq (fun M hM => ok_region rfl ?_); try simp only [wpL, wpH, wpE, oweC, oweP, opF, opH, ev, evs, evp, evo, Env.get, Env.set, putE, gdst, S0, S1, thenN, inBlockN, argEnv, builtinR, retE, fin, callR, reduceIte, Nat.reduceEqDiff, Nat.reduceAdd, reduceCtorEq, forall_const, Q20]
  refine hM _ _ _ ?_; clear hM M
  refine ok_seq (fun M hM => ok_if rfl (fun hc => ok_skip ?_) (fun hc => ok_exit ?_))
  rotate_left
  · -- behind the loops
    try simp only [wpL, wpH, wpE, oweC, oweP, opF, opH, ev, evs, evp, evo, Env.get, Env.set, putE, gdst, S0, S1, thenN, inBlockN, argEnv, builtinR, retE, fin, callR, reduceIte, Nat.reduceEqDiff, Nat.reduceAdd, reduceCtorEq, forall_const, Q20]
    refine hM0 _ _ _ ?_; clear hM0 M0 hM M
    have hil : i = ks.length := by omega
    subst hil
    refine ok_seq (fun M hM => ok_region rfl ?_)
    try simp only [wpL, wpH, wpE, oweC, oweP, opF, opH, ev, evs, evp, evo, Env.get, Env.set, putE, gdst, S0, S1, thenN, inBlockN, argEnv, builtinR, retE, fin, callR, reduceIte, Nat.reduceEqDiff, Nat.reduceAdd, reduceCtorEq, forall_const, Q20]
    have hedges : edgesB ks = true := by
      simp only [edgesB, List.all_eq_true, List.mem_range]
      exact fun i hi => List.all_eq_true.1 (hall i hi)
    refine ⟨fun h0 => ?_, fun h0 => ?_⟩
    · have h0' : 0 < ks.length := by simpa using h0
      rw [upto_end] at hb2
      have hsl := Blk.slI hb2 (by simpa using hlen) ks.length
      simp only [counts_length] at hsl
      refine Runs.sliceLo Fx.un26 Fx.zi3 hsl (Nat.le_refl _) 1 h0' rfl (fun A' c' hrd => ?_)
      try simp only [wpL, wpH, wpE, oweC, oweP, opF, opH, ev, evs, evp, evo, Env.get, Env.set, putE, gdst, S0, S1, thenN, inBlockN, argEnv, builtinR, retE, fin, callR, reduceIte, Nat.reduceEqDiff, Nat.reduceAdd, reduceCtorEq, forall_const, Q20]
      have hrd' : SlI w2 (.slice A' (ks.length - 1) c') ((counts ks.length ks.flatten).drop 1) := by
        simp only [SlI, ints, List.map_drop] at hrd ⊢
        exact hrd
      refine Inv.call Fx.en28 (containsFunc_ok w2 _ _ _ (fun x => !decide (x = 1)) hrd' (fun x _ w' he nx hnx => Inv.call Fx.en42 (notOne_ok w' x) (fun v w'' ⟨hv, he''⟩ => by rw [hv]; exact hnx _ he''))) ?_
      rintro v w3 ⟨rfl, he3⟩
      try simp only [wpL, wpH, wpE, oweC, oweP, opF, opH, ev, evs, evp, evo, Env.get, Env.set, putE, gdst, S0, S1, thenN, inBlockN, argEnv, builtinR, retE, fin, callR, reduceIte, Nat.reduceEqDiff, Nat.reduceAdd, reduceCtorEq, forall_const, Q20]
      refine hM _ _ _ ?_; clear hM M
      refine ok_ret ?_
      try simp only [wpL, wpH, wpE, oweC, oweP, opF, opH, ev, evs, evp, evo, Env.get, Env.set, putE, gdst, S0, S1, thenN, inBlockN, argEnv, builtinR, retE, fin, callR, reduceIte, Nat.reduceEqDiff, Nat.reduceAdd, reduceCtorEq, forall_const, Q20]
      refine ⟨?_, he2.trans he3⟩
      have : List.any (List.drop 1 (counts ks.length ks.flatten)) (fun x => !decide (x = 1)) = !onesB ks := onesB_iff ks
      rw [this]
      simp [formedB, hedges, h0']
    · try simp only [wpL, wpH, wpE, oweC, oweP, opF, opH, ev, evs, evp, evo, Env.get, Env.set, putE, gdst, S0, S1, thenN, inBlockN, argEnv, builtinR, retE, fin, callR, reduceIte, Nat.reduceEqDiff, Nat.reduceAdd, reduceCtorEq, forall_const, Q20]
      refine hM _ _ _ ?_; clear hM M
      refine ok_ret ?_
      try simp only [wpL, wpH, wpE, oweC, oweP, opF, opH, ev, evs, evp, evo, Env.get, Env.set, putE, gdst, S0, S1, thenN, inBlockN, argEnv, builtinR, retE, fin, callR, reduceIte, Nat.reduceEqDiff, Nat.reduceAdd, reduceCtorEq, forall_const, Q20]
      refine ⟨?_, he2⟩
      have h0' : ¬ 0 < ks.length := by simpa using h0
      simp [formedB, h0']
  · try simp only [wpL, wpH, wpE, oweC, oweP, opF, opH, ev, evs, evp, evo, Env.get, Env.set, putE, gdst, S0, S1, thenN, inBlockN, argEnv, builtinR, retE, fin, callR, reduceIte, Nat.reduceEqDiff, Nat.reduceAdd, reduceCtorEq, forall_const, Q20]
    refine hM _ _ _ ?_; clear hM M
    have hil : i < ks.length := by omega
    have hki : kidsOf ks i = ks[i] := kidsOf_get ks i hil
    obtain ⟨b, o, c, p, vi, vo, vk, rfl, hcells, h1, h2, h3, h4, hk⟩ := hrow i hil
    obtain ⟨A2, c2, rfl, hl2, hk⟩ := hk.at_
    refine ok_seq (fun M1 hM1 => ok_block ?_)
    refine ok_seq (fun M hM => ok_region rfl ?_)
    try simp only [wpL, wpH, wpE, oweC, oweP, opF, opH, ev, evs, evp, evo, Env.get, Env.set, putE, gdst, S0, S1, thenN, inBlockN, argEnv, builtinR, retE, fin, callR, reduceIte, Nat.reduceEqDiff, Nat.reduceAdd, reduceCtorEq, forall_const, Q20]
    refine ⟨by omega, by omega, _, rfl, he2.cellsAt hcells, ?_⟩
    refine Runs.alloc Fx.zi37 (fun w3 he3 hz3 hb3 => ?_)
    try simp only [wpL, wpH, wpE, oweC, oweP, opF, opH, ev, evs, evp, evo, Env.get, Env.set, putE, gdst, S0, S1, thenN, inBlockN, argEnv, builtinR, retE, fin, callR, reduceIte, Nat.reduceEqDiff, Nat.reduceAdd, reduceCtorEq, forall_const, Q20]
    refine Runs.store hb3 Fx.zi37 rfl (by intro u hu; simp [Value.cells] at hu; rcases hu with rfl | rfl | rfl | rfl | rfl <;> first | rfl | assumption) (by simp [Value.cells]) (fun w4 hc4 hz4 hb4 => ?_)
    try simp only [wpL, wpH, wpE, oweC, oweP, opF, opH, ev, evs, evp, evo, Env.get, Env.set, putE, gdst, S0, S1, thenN, inBlockN, argEnv, builtinR, retE, fin, callR, reduceIte, Nat.reduceEqDiff, Nat.reduceAdd, reduceCtorEq, forall_const, Q20]
    refine hM _ _ _ ?_; clear hM M
    have hBlt : B < w2.heap.size := hb2.lt
    have hwlt : w.heap.size ≤ w2.heap.size := he2.size
    have he4 : Ext w w4 := (he2.trans he3).chg_trans hc4 (fun k hk => by subst hk; exact hwlt)
    have hb4' : Blk w4 B (iv (counts ks.length (upto ks i 0))) 3 := (hb2.ext he3).chg hc4 (by omega)
    have hv4 : w4.cell? ⟨w2.heap.size, 4, none⟩ = some (.slice A2 ks[i].length c2) := hb4.cell (by simp [splice, Value.cells])
    clear hb4 hb3 he3 hz3 hc4 hz4
    refine ok_seq (fun M hM => ok_region rfl ?_); try simp only [wpL, wpH, wpE, oweC, oweP, opF, opH, ev, evs, evp, evo, Env.get, Env.set, putE, gdst, S0, S1, thenN, inBlockN, argEnv, builtinR, retE, fin, callR, reduceIte, Nat.reduceEqDiff, Nat.reduceAdd, reduceCtorEq, forall_const, Q20]
    refine ⟨_, hv4, ?_⟩
    try simp only [wpL, wpH, wpE, oweC, oweP, opF, opH, ev, evs, evp, evo, Env.get, Env.set, putE, gdst, S0, S1, thenN, inBlockN, argEnv, builtinR, retE, fin, callR, reduceIte, Nat.reduceEqDiff, Nat.reduceAdd, reduceCtorEq, forall_const, Q20]
    refine hM _ _ _ ?_; clear hM M
    refine ok_block ?_
    refine ok_loop (S := Nat) (fun j => [(0, .slice (some ⟨b, o, none⟩) ks.length cp), (3, .slice (some ⟨B, 0, none⟩) ks.length ks.length), (4, .int .i64 (i : Int)), (11, .slice (some ⟨b, o, none⟩) ks.length cp), (12, .int .i64 (ks.length : Int)), (13, .int .i64 (i : Int)),
        (19, .slice A2 ks[i].length c2), (20, .int .i64 (ks[i].length : Int)), (21, .int .i64 (j : Int))])
      (fun j w' => Ext w w' ∧ j ≤ ks[i].length ∧ Blk w' B (iv (counts ks.length (upto ks i j))) 3 ∧ ((kidsOf ks i).take j).all (edgeB ks.length i) = true) (fun j => ks[i].length - j) 0 ?_ ?_ ?_
    · simp [sub, Env.get, argEnv]
    · exact ⟨he4, Nat.zero_le _, hb4', by simp⟩
    clear hb4' he4 hv4 w4
    rintro j w4 ⟨he4, hj, hb4, hallj⟩
    refine ok_seq (fun M hM => ok_region rfl ?_); try simp only [wpL, wpH, wpE, oweC, oweP, opF, opH, ev, evs, evp, evo, Env.get, Env.set, putE, gdst, S0, S1, thenN, inBlockN, argEnv, builtinR, retE, fin, callR, reduceIte, Nat.reduceEqDiff, Nat.reduceAdd, reduceCtorEq, forall_const, Q20]
    refine hM _ _ _ ?_; clear hM M
    refine ok_seq (fun M hM => ok_if rfl (fun hc => ok_skip ?_) (fun hc => ok_exit ?_))
    rotate_left
    · -- the kids are through
      try simp only [wpL, wpH, wpE, oweC, oweP, opF, opH, ev, evs, evp, evo, Env.get, Env.set, putE, gdst, S0, S1, thenN, inBlockN, argEnv, builtinR, retE, fin, callR, reduceIte, Nat.reduceEqDiff, Nat.reduceAdd, reduceCtorEq, forall_const, Q20]
      clear hM M
      refine hM1 _ _ _ ?_; clear hM1 M1
      refine ok_region rfl ?_
      try simp only [wpL, wpH, wpE, oweC, oweP, opF, opH, ev, evs, evp, evo, Env.get, Env.set, putE, gdst, S0, S1, thenN, inBlockN, argEnv, builtinR, retE, fin, callR, reduceIte, Nat.reduceEqDiff, Nat.reduceAdd, reduceCtorEq, forall_const, Q20]
      have hjl : j = ks[i].length := by omega
      refine ⟨by simp only [inI]; omega, i + 1, by simp [sub, Env.get], ⟨he4, by omega, ?_, fun i' hi' => ?_⟩, by omega⟩
      · rw [hjl, ← hki, upto_node ks i hil] at hb4
        exact hb4
      · rcases Nat.lt_or_ge i' i with h | h
        · exact hall i' h
        · have : i' = i := by omega
          subst this
          rw [List.take_of_length_le (by rw [hki]; omega)] at hallj
          exact hallj
    · try simp only [wpL, wpH, wpE, oweC, oweP, opF, opH, ev, evs, evp, evo, Env.get, Env.set, putE, gdst, S0, S1, thenN, inBlockN, argEnv, builtinR, retE, fin, callR, reduceIte, Nat.reduceEqDiff, Nat.reduceAdd, reduceCtorEq, forall_const, Q20]
      refine hM _ _ _ ?_; clear hM M
      have hjl : j < ks[i].length := by omega
      obtain ⟨bk, ok_, rfl, hkj⟩ := hk j hjl
      have hsnoc := upto_kid ks i j (by rw [hki]; exact hjl)
      have hulen := upto_length ks i j hil
      have htk : (kidsOf ks i).take (j + 1) = (kidsOf ks i).take j ++ [ks[i][j]] := by
        rw [List.take_succ_eq_append_getElem (by rw [hki]; exact hjl)]
        simp only [hki]
      have hmem : ks[i][j] ∈ kidsOf ks i := by rw [hki]; exact List.getElem_mem _
      have hgj : (kidsOf ks i)[j]'(by rw [hki]; exact hjl) = ks[i][j] := by simp only [hki]
      rw [hgj] at hsnoc
      generalize ks[i][j] = k at *
      have hbad : edgeB ks.length i k = false → formedB ks = false := fun h => by
        have : edgesB ks = false := by
          simp only [edgesB, List.all_eq_false, List.mem_range]
          exact ⟨i, hil, by simp only [Bool.not_eq_true, List.all_eq_false]; exact ⟨k, hmem, by simp [h]⟩⟩
        simp [formedB, this]
      refine ok_seq (fun M2 hM2 => ok_block ?_)
      refine ok_seq (fun M hM => ok_region rfl ?_); try simp only [wpL, wpH, wpE, oweC, oweP, opF, opH, ev, evs, evp, evo, Env.get, Env.set, putE, gdst, S0, S1, thenN, inBlockN, argEnv, builtinR, retE, fin, callR, reduceIte, Nat.reduceEqDiff, Nat.reduceAdd, reduceCtorEq, forall_const, Q20]
      refine ⟨by omega, by omega, _, he4.cell hkj, ?_⟩
      try simp only [wpL, wpH, wpE, oweC, oweP, opF, opH, ev, evs, evp, evo, Env.get, Env.set, putE, gdst, S0, S1, thenN, inBlockN, argEnv, builtinR, retE, fin, callR, reduceIte, Nat.reduceEqDiff, Nat.reduceAdd, reduceCtorEq, forall_const, Q20]
      refine hM _ _ _ ?_; clear hM M
      refine ok_seq (fun M3 hM3 => ?_)
      refine ok_seq (fun M hM => ok_region rfl ?_); try simp only [wpL, wpH, wpE, oweC, oweP, opF, opH, ev, evs, evp, evo, Env.get, Env.set, putE, gdst, S0, S1, thenN, inBlockN, argEnv, builtinR, retE, fin, callR, reduceIte, Nat.reduceEqDiff, Nat.reduceAdd, reduceCtorEq, forall_const, Q20]
      refine ⟨fun hle => ?_, fun hle => ?_⟩
      · refine hM _ _ _ ?_; clear hM M
        have hle' : ¬ k ≤ (i : Int) := of_decide_eq_false hle
        refine ok_if rfl (fun hc2 => ?_) (fun hc2 => ok_skip ?_)
        · refine ok_seq (fun M hM => ok_region rfl ?_); try simp only [wpL, wpH, wpE, oweC, oweP, opF, opH, ev, evs, evp, evo, Env.get, Env.set, putE, gdst, S0, S1, thenN, inBlockN, argEnv, builtinR, retE, fin, callR, reduceIte, Nat.reduceEqDiff, Nat.reduceAdd, reduceCtorEq, forall_const, Q20]
          refine hM _ _ _ ?_; clear hM M
          refine ok_ret ?_
          try simp only [wpL, wpH, wpE, oweC, oweP, opF, opH, ev, evs, evp, evo, Env.get, Env.set, putE, gdst, S0, S1, thenN, inBlockN, argEnv, builtinR, retE, fin, callR, reduceIte, Nat.reduceEqDiff, Nat.reduceAdd, reduceCtorEq, forall_const, Q20]
          refine ⟨?_, he4⟩
          rw [hbad (by simp [edgeB]; omega)]
        · try simp only [wpL, wpH, wpE, oweC, oweP, opF, opH, ev, evs, evp, evo, Env.get, Env.set, putE, gdst, S0, S1, thenN, inBlockN, argEnv, builtinR, retE, fin, callR, reduceIte, Nat.reduceEqDiff, Nat.reduceAdd, reduceCtorEq, forall_const, Q20]
          refine hM3 _ _ _ ?_; clear hM3 M3
          refine ok_region rfl ?_
          try simp only [wpL, wpH, wpE, oweC, oweP, opF, opH, ev, evs, evp, evo, Env.get, Env.set, putE, gdst, S0, S1, thenN, inBlockN, argEnv, builtinR, retE, fin, callR, reduceIte, Nat.reduceEqDiff, Nat.reduceAdd, reduceCtorEq, forall_const, Q20]
          have hk0 : 0 ≤ k := by omega
          have hkn : k.toNat < (counts ks.length (upto ks i j)).length := by simp; omega
          have hcg := counts_get ks.length (upto ks i j) k.toNat (by omega)
          have hkk : ((k.toNat : Nat) : Int) = k := by omega
          rw [hkk] at hcg
          have hcell := hb4.cell (j := k.toNat) (u := .int .i64 ((List.count k (upto ks i j) : Nat) : Int)) (by simp [iv, hcg])
          have hcle : List.count k (upto ks i j) ≤ (upto ks i j).length := List.count_le_length
          refine ⟨by omega, by omega, _, by simpa using hcell, ?_⟩
          try simp only [wpL, wpH, wpE, oweC, oweP, opF, opH, ev, evs, evp, evo, Env.get, Env.set, putE, gdst, S0, S1, thenN, inBlockN, argEnv, builtinR, retE, fin, callR, reduceIte, Nat.reduceEqDiff, Nat.reduceAdd, reduceCtorEq, forall_const, Q20]
          refine ⟨by simp only [inI]; omega, by omega, by omega, ?_⟩
          refine Runs.store (o := 0 + k.toNat) hb4 Fx.zi3 rfl (by simp [Value.cells, Value.oneCell']) (by simp; omega) (fun w5 hc5 hz5 hb5 => ?_)
          try simp only [wpL, wpH, wpE, oweC, oweP, opF, opH, ev, evs, evp, evo, Env.get, Env.set, putE, gdst, S0, S1, thenN, inBlockN, argEnv, builtinR, retE, fin, callR, reduceIte, Nat.reduceEqDiff, Nat.reduceAdd, reduceCtorEq, forall_const, Q20]
          refine hM2 _ _ _ ?_; clear hM2 M2
          refine ok_region rfl ?_
          try simp only [wpL, wpH, wpE, oweC, oweP, opF, opH, ev, evs, evp, evo, Env.get, Env.set, putE, gdst, S0, S1, thenN, inBlockN, argEnv, builtinR, retE, fin, callR, reduceIte, Nat.reduceEqDiff, Nat.reduceAdd, reduceCtorEq, forall_const, Q20]
          refine ⟨by simp only [inI]; omega, j + 1, by simp [sub, Env.get], ⟨he4.chg_trans hc5 (fun q hq => by subst hq; omega), by omega, ?_, ?_⟩, by omega⟩
          · rw [hsnoc, counts_snoc _ _ _ hk0 (by omega), iv_set]
            have : splice (iv (counts ks.length (upto ks i j))) (0 + k.toNat) (Value.int IntKind.i64 (((List.count k (upto ks i j) : Nat) : Int) + 1)).cells.toList = (iv (counts ks.length (upto ks i j))).set k.toNat (.int .i64 (((List.count k (upto ks i j) : Nat) : Int) + 1)) := by
              rw [Nat.zero_add]
              exact splice_one _ _ _ (by simpa using hkn)
            rw [← this]
            exact hb5
          · rw [htk, List.all_append, hallj]
            simp [edgeB]
            omega
      · try simp only [wpL, wpH, wpE, oweC, oweP, opF, opH, ev, evs, evp, evo, Env.get, Env.set, putE, gdst, S0, S1, thenN, inBlockN, argEnv, builtinR, retE, fin, callR, reduceIte, Nat.reduceEqDiff, Nat.reduceAdd, reduceCtorEq, forall_const, Q20]
        refine hM _ _ _ ?_; clear hM M
        refine ok_cond rfl (fun hc2 => ?_) (fun hc2 => by cases hc2)
        refine ok_seq (fun M hM => ok_region rfl ?_); try simp only [wpL, wpH, wpE, oweC, oweP, opF, opH, ev, evs, evp, evo, Env.get, Env.set, putE, gdst, S0, S1, thenN, inBlockN, argEnv, builtinR, retE, fin, callR, reduceIte, Nat.reduceEqDiff, Nat.reduceAdd, reduceCtorEq, forall_const, Q20]
        refine hM _ _ _ ?_; clear hM M
        refine ok_ret ?_
        try simp only [wpL, wpH, wpE, oweC, oweP, opF, opH, ev, evs, evp, evo, Env.get, Env.set, putE, gdst, S0, S1, thenN, inBlockN, argEnv, builtinR, retE, fin, callR, reduceIte, Nat.reduceEqDiff, Nat.reduceAdd, reduceCtorEq, forall_const, Q20]
        refine ⟨?_, he4⟩
        have hle' : k ≤ (i : Int) := by simpa using hle
        rw [hbad (by simp [edgeB]; omega)]
end Go.Proofs.Ytafjfcameabbmaa
