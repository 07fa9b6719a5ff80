/- Part 1 of 12: Vg1, Vg2, Vg3, Vg4, Vg5, Vg6, Vg7, Vg8, Vg9, Vg10. -/
import Derived.CallsIn
import Derived.TacticsIn
import Derived.Below
import Derived.WalkKit
import Derived.OrdersIn
/- A small calculus of triples over the kit's own 'Code.wpIn': what is known of some temporaries, and of the world; a function reckons what a list of operations owes. -/
set_option linter.unusedVariables false
set_option linter.unusedSimpArgs false
namespace Go.Proofs.Vg
open Go Go.RowKit

/-- What is known of temporaries. -/
abbrev Env := List (Nat × Value)
def Env.get : Env → Nat → Option Value
  | [], _ => none
  | (i, v) :: r, j => if j = i then some v else Env.get r j

/-- An activation of which this is known. -/
structure Kn (K : Env) (N : Nat) (ds : List Deferred) (a : Act) : Prop where
  size : a.tmps.size = N
  defers : a.defers = ds
  at_ : ∀ i v, K.get i = some v → a.tmps[i]? = some v

/-- A fence that lets everything in. -/
def fence (ρ : Option Nat) : Fence := { fn := fun _ => True, depth := none, alive := false, round := ρ }
theorem fence_none : fence none = Fence.wide := rfl
theorem fence_room (ρ : Option Nat) (n : Nat) : (fence ρ).room n := fun _ h => by simp [fence] at h
theorem fence_depth (ρ : Option Nat) (n : Nat) : (fence ρ).depth.isSome = true → 1 ≤ n := fun h => by simp [fence] at h

abbrev Post := Exit → Env → List Deferred → World → Prop
def lift (N : Nat) (Φ : Post) : Exit → Act → World → Prop := fun e a w => ∃ K ds, Kn K N ds a ∧ Φ e K ds w

/-- THE TRIPLE. -/
def ok (P : Program) (ρ : Option Nat) (N : Nat) (c : Code) (K : Env) (ds : List Deferred) (w : World) (Φ : Post) : Prop :=
  ∀ a, Kn K N ds a → c.wpIn (fence ρ) 0 P (lift N Φ) a w

section
variable {P : Program} {ρ : Option Nat} {N : Nat} {K : Env} {ds : List Deferred} {w : World} {Φ : Post}

theorem ok_mono {c : Code} {Φ' : Post} (h : ok P ρ N c K ds w Φ) (hq : ∀ e K ds w, Φ e K ds w → Φ' e K ds w) : ok P ρ N c K ds w Φ' :=
  fun a ha => wpIn_mono (h a ha) fun e a w ⟨K, ds, hk, hp⟩ => ⟨K, ds, hk, hq _ _ _ _ hp⟩

/-- Less is known. -/
def sub : Env → Env → Prop
  | [], _ => True
  | (i, v) :: r, K => K.get i = some v ∧ sub r K
theorem sub_get {K' : Env} : ∀ {L : Env}, sub L K' → ∀ i v, L.get i = some v → K'.get i = some v
  | [], _, i, v, h => by simp [Env.get] at h
  | (j, u) :: r, hs, i, v, h => by
    simp only [Env.get] at h
    split at h
    · rename_i e; subst e; cases h; exact hs.1
    · exact sub_get hs.2 i v h
theorem Kn.less {K' : Env} {a : Act} (h : Kn K N ds a) (hs : sub K' K) : Kn K' N ds a := ⟨h.size, h.defers, fun i v hv => h.at_ i v (sub_get hs i v hv)⟩
theorem ok_less {c : Code} (K' : Env) (hs : sub K' K) (h : ok P ρ N c K' ds w Φ) : ok P ρ N c K ds w Φ := fun a ha => h a (ha.less hs)

def thenN (M : Env → List Deferred → World → Prop) (Φ : Post) : Post
  | .normal, K, ds, w => M K ds w
  | e, K, ds, w => Φ e K ds w

theorem ok_seq {x y : Code} (h : ∀ M : Env → List Deferred → World → Prop, (∀ K ds w, ok P ρ N y K ds w Φ → M K ds w) → ok P ρ N x K ds w (thenN M Φ)) : ok P ρ N (.seq x y) K ds w Φ := by
  intro a ha
  refine wpIn_seq ?_
  have := h (fun K ds w => ok P ρ N y K ds w Φ) (fun _ _ _ h => h) a ha
  refine wpIn_mono this ?_
  rintro e a' w' ⟨K', ds', hk, hp⟩
  cases e <;> simp only [thenN] at hp <;> simp only [Exit.then] <;> first | exact hp a' hk | exact ⟨K', ds', hk, hp⟩

theorem ok_skip (h : Φ .normal K ds w) : ok P ρ N .skip K ds w Φ := fun a ha => wpIn_skip ⟨K, ds, ha, h⟩
theorem ok_ret (h : Φ .ret K ds w) : ok P ρ N .ret K ds w Φ := fun a ha => wpIn_ret ⟨K, ds, ha, h⟩
theorem ok_exit {id : Nat} (h : Φ (.exit id) K ds w) : ok P ρ N (.exit id) K ds w Φ := fun a ha => wpIn_exit ⟨K, ds, ha, h⟩

def inBlockN (id : Nat) (Φ : Post) : Post
  | .exit id', K, ds, w => if id' = id then Φ .normal K ds w else Φ (.exit id') K ds w
  | e, K, ds, w => Φ e K ds w
theorem ok_block {id : Nat} {c : Code} (h : ok P ρ N c K ds w (inBlockN id Φ)) : ok P ρ N (.block id c) K ds w Φ := by
  intro a ha
  refine wpIn_block (wpIn_mono (h a ha) ?_)
  rintro e a' w' ⟨K', ds', hk, hp⟩
  cases e <;> simp only [inBlockN] at hp <;> simp only [Exit.inBlock] <;> first | exact ⟨K', ds', hk, hp⟩ | skip
  split at hp <;> rename_i h1 <;> simp only [h1, if_true, if_false] <;> exact ⟨K', ds', hk, hp⟩

/-- What an operand is. -/
def ev (K : Env) : Operand → Option Value
  | .tmp t => K.get t
  | .const v => some v
  | .global g => some (.pointer (some ⟨g, 0, none⟩))
  | .func f => some (.func (.func f) #[] #[])
theorem ev_eval {a : Act} (ha : Kn K N ds a) {x : Operand} {v : Value} (h : ev K x = some v) : a.eval x = v := by
  cases x with
  | tmp t =>
    have := ha.at_ t v h
    simp only [Act.eval, Array.getD_eq_getD_getElem?, this, Option.getD_some]
  | const u => simpa [ev, Act.eval] using h
  | global g => simpa [ev, Act.eval] using h
  | func f => simpa [ev, Act.eval] using h

theorem ok_cond {c : Operand} {x y : Code} {b : Bool} (hc : ev K c = some (.bool b)) (ht : b = true → ok P ρ N x K ds w Φ) (hf : b = false → ok P ρ N y K ds w Φ) : ok P ρ N (.cond c x y) K ds w Φ := by
  intro a ha
  refine wpIn_cond (ev_eval ha hc) ?_
  cases b
  · exact hf rfl a ha
  · exact ht rfl a ha

/-- A loop: its state is a ghost s. -/
theorem ok_loop {c : Code} {S : Type} (inv : S → Env) (wi : S → World → Prop) (μ : S → Nat) (s0 : S) (h0 : sub (inv s0) K) (hw0 : wi s0 w)
    (hr : ∀ s w, wi s w → ok P ρ N c (inv s) ds w (thenN (fun K' ds' w' => ds' = ds ∧ ∃ s', sub (inv s') K' ∧ wi s' w' ∧ μ s' < μ s) Φ)) : ok P ρ N (.loop c) K ds w Φ := by
  intro a ha b k cs hro hb hrm
  have key : ∀ n s w a, μ s = n → wi s w → Kn (inv s) N ds a →
      ∃ e a' w', lift N Φ e a' w' ∧ ArrivesIn (Machine.fenced P (fence ρ)) P (lone (b.atR a (.code c :: .inLoop c :: k)) cs w) b k cs e a' w' := by
    intro n
    induction n using Nat.strongRecOn with
    | _ n ih =>
      intro s w a hn hw hk
      obtain ⟨e, a₁, w₁, ⟨K', ds', hk', hp⟩, harr⟩ := hr s w hw a hk b (.inLoop c :: k) cs hro hb hrm
      have pass : e ≠ .normal → ∃ e a' w', lift N Φ e a' w' ∧ ArrivesIn (Machine.fenced P (fence ρ)) P (lone (b.atR a (.code c :: .inLoop c :: k)) cs w) b k cs e a' w' := fun hne =>
        ⟨e, a₁, w₁, ⟨K', ds', hk', by cases e <;> first | exact hp | exact absurd rfl hne⟩, .pass (x := .inLoop c) rfl (fun _ _ => .inl hne) harr⟩
      cases e with
      | normal =>
        simp only [thenN] at hp
        obtain ⟨hds, s', hs', hw', hlt⟩ := hp
        rw [hds] at hk'
        obtain ⟨e₂, a₂, w₂, hq₂, harr₂⟩ := ih (μ s') (hn ▸ hlt) s' w₁ a₁ rfl hw' (hk'.less hs')
        exact ⟨e₂, a₂, w₂, hq₂, .of_steps (StepsIn.trans harr (.one (fenced_calm hb hrm rfl) stepR_inLoop)) harr₂⟩
      | exit id => exact pass (by simp)
      | goto l => exact pass (by simp)
      | ret => exact pass (by simp)
      | panic ch => exact pass (by simp)
      | outgrown => exact pass (by simp)
  obtain ⟨e, a', w', hq, harr⟩ := key _ s0 w a rfl hw0 (ha.less h0)
  exact ⟨e, a', w', hq, .of_steps (.one (fenced_calm hb hrm rfl) stepR_loop) harr⟩
end
end Go.Proofs.Vg
set_option linter.unusedVariables false
set_option linter.unusedSimpArgs false
namespace Go.Proofs.Vg
open Go Go.RowKit

def Runs {α : Type} (P : Program) (s : Sem α) (w : World) (R : α → World → Prop) : Prop := ∃ v w', s.run P w = .ok v w' ∧ R v w'

/-- A number lies in its kind. -/
def inI : IntKind → Int → Prop
  | .i64, n => -9223372036854775808 ≤ n ∧ n ≤ 9223372036854775807
  | .u64, n => 0 ≤ n ∧ n ≤ 18446744073709551615
  | .u8, n => 0 ≤ n ∧ n ≤ 255
  | .i32, n => -2147483648 ≤ n ∧ n ≤ 2147483647
  | k, n => k.wrap n = n
theorem wrap_in {k : IntKind} {n : Int} (h : inI k n) : k.wrap n = n := by
  cases k <;> simp only [inI] at h <;> first | exact h | skip
  all_goals simp only [IntKind.wrap, IntKind.bits, IntKind.signed, if_true, if_false, Bool.false_eq_true]
  all_goals (simp; omega)

/-- A calculation that has no way but one: what it asks, and its value. -/
def binV (P : Program) (t : TypeId) : BinOp → Value → Value → Option (Prop × Value)
  | .add, .int k a, .int k' b => some (k = k' ∧ inI k (a + b), .int k (a + b))
  | .sub, .int k a, .int k' b => some (k = k' ∧ inI k (a - b), .int k (a - b))
  | .mul, .int k a, .int k' b => some (k = k' ∧ inI k (a * b), .int k (a * b))
  | .eql, .int k a, .int k' b => some (k = k', .bool (decide (a = b)))
  | .neq, .int k a, .int k' b => some (k = k', .bool (!decide (a = b)))
  | .lss, .int k a, .int k' b => some (k = k', .bool (decide (a < b)))
  | .leq, .int k a, .int k' b => some (k = k', .bool (decide (a ≤ b)))
  | .gtr, .int k a, .int k' b => some (k = k', .bool (decide (b < a)))
  | .geq, .int k a, .int k' b => some (k = k', .bool (decide (b ≤ a)))
  | .eql, .string a, .string b => some (True, .bool (decide (a = b)))
  | .neq, .string a, .string b => some (True, .bool (!decide (a = b)))
  | .eql, .bool a, .bool b => some (P.underlying t = some .bool, .bool (decide (a = b)))
  | .neq, .bool a, .bool b => some (P.underlying t = some .bool, .bool (!decide (a = b)))
  | _, _, _ => none

def fieldOff (P : Program) (s f : Nat) : Option Nat :=
  match P.underlying s with
  | some (.struct fs) => match fs[f]? with
    | some fd => if (P.info? fd.type).isNone || P.cellsOf fd.type = 0 then none else some fd.offset
    | none => none
  | _ => none
/-- The cells of an element of a slice type. -/
def elemSize (P : Program) (t : TypeId) : Option Nat :=
  match P.underlying t with
  | some (.slice e) => (P.info? e).map (·.size)
  | _ => none
def arrInfo (P : Program) (t : TypeId) : Option (Nat × Nat) :=
  match P.underlying t with
  | some (.array n e) => (P.info? e).map fun i => (n, i.size)
  | _ => none
def isSlice (P : Program) (t : TypeId) : Bool := match P.underlying t with | some (.slice _) => true | _ => false
def isString (P : Program) (t : TypeId) : Bool := match P.underlying t with | some .string => true | _ => false

/-- Is a type a struct or an array, and of how many cells? -/
def aggN (P : Program) (t : TypeId) : Option (Option Nat) :=
  match P.info? t, P.underlying t with
  | some i, some (.struct _) => some (some i.size)
  | some i, some (.array _ _) => some (some i.size)
  | some _, some _ => some none
  | _, _ => none
def cellsAt (w : World) (a : Addr) (cs : List Value) : Prop := ∀ j u, cs[j]? = some u → w.cell? (a.add j) = some u

def evs (K : Env) : List Operand → Option (List Value)
  | [] => some []
  | x :: r => match ev K x, evs K r with
    | some v, some l => some (v :: l)
    | _, _ => none
def evp (K : Env) : List (Nat × Operand) → Option (List (Nat × Value))
  | [] => some []
  | (i, x) :: r => match ev K x, evp K r with
    | some v, some l => some ((i, v) :: l)
    | _, _ => none
def evo (K : Env) : Option Operand → Option (Option Value)
  | none => some none
  | some x => match ev K x with
    | some v => some (some v)
    | none => none

/-- A call of a function value. -/
def Inv (P : Program) (fv : Value) (args : List Value) (w : World) (R : Ending → World → Prop) : Prop :=
  (∃ f first cap, fv = .func (.func f) first cap ∧ (∀ (xs : Array Value) (w : World), (callFunc f xs).run P w = .ok (.enter f xs) w) ∧ Calls P f (first ++ args.toArray ++ cap) w R) ∨
  (∃ l first cap fn tmps assign body, fv = .func (.yield l) first cap ∧ (Instr.yield l (first ++ args.toArray)).run P w = .ok (.round l fn tmps assign body) w ∧ RoundIn (fence none) 0 P l fn tmps assign body w R)

def callR (next : Value → World → Prop) (pan : List PanicEntry → World → Prop) : Ending → World → Prop
  | .returned v, w' => next v w'
  | .panicked ch, w' => pan ch w'
  | .outgrown, _ => False

def builtinR (next : Value → World → Prop) : Next → World → Prop
  | .value v, w' => next v w'
  | .skip, w' => next undef w'
  | _, _ => False

/-- What an operation owes. -/
def opF (P : Program) (K : Env) (w : World) (next : Value → World → Prop) (pan : List PanicEntry → World → Prop) (type : TypeId) : Op → Prop
  | .move x => match ev K x with | some v => next v w | none => False
  | .assign x => match ev K x with | some v => next v w | none => False
  | .pick c a b => match ev K c with
    | some (.bool t) => (t = true → match ev K a with | some v => next v w | none => False) ∧ (t = false → match ev K b with | some v => next v w | none => False)
    | _ => False
  | .alloc t => Runs P (Instr.alloc t true (.tuple #[])) w next
  | .box t x => match ev K x with | some v => Runs P (Instr.box t v) w next | none => False
  | .build t parts => match evp K parts.toList with | some l => Runs P (Instr.build t l.toArray) w next | none => False
  | .buildSlice t n parts => match evp K parts.toList with | some l => Runs P (Instr.buildSlice t n l.toArray) w next | none => False
  | .load t x => match ev K x with
    | some (.pointer (some a)) => (match aggN P t with
      | some none => ∃ v, w.cell? a = some v ∧ next v w
      | some (some n) => ∃ cs : List Value, cs.length = n ∧ cellsAt w a cs ∧ next (.agg cs.toArray) w
      | none => False)
    | _ => False
  | .store t x y => match ev K x, ev K y with | some (.pointer (some a)), some v => Runs P (storeVar t a v) w (fun _ w' => next undef w') | _, _ => False
  | .nilCheck x => match ev K x with | some (.pointer (some a)) => next (.pointer (some a)) w | _ => False
  | .binOp op t x y _ => match ev K x, ev K y with
    | some a, some b => (match binV P t op a b with
      | some (ob, v) => ob ∧ next v w
      | none => Runs P (do eqGuard op t x y a b; binOp op t a b) w next)
    | _, _ => False
  | .unOp .not _ x => match ev K x with | some (.bool b) => next (.bool !b) w | _ => False
  | .unOp .neg _ x => match ev K x with | some (.int k n) => inI k (0 - n) ∧ next (.int k (0 - n)) w | _ => False
  | .convert src dst x => match ev K x with | some v => Runs P (convert src dst v) w next | none => False
  | .makeInterface t x => match ev K x with | some v => Runs P (Instr.makeInterface t v) w next | none => False
  | .makeFunc fn first cap => match evs K first.toList, evs K cap.toList with | some l, some m => next (.func fn l.toArray m.toArray) w | _, _ => False
  | .makeMap t r => match evo K r with | some v => Runs P (Instr.makeMap t v) w next | none => False
  | .makeSlice t l c => match ev K l, ev K c with | some a, some b => Runs P (Instr.makeSlice t a b) w next | _, _ => False
  | .slice t x l h m => match ev K x, evo K l, evo K h, evo K m with | some v, some a, some b, some c => Runs P (Instr.sliceAt t v a b c) w next | _, _, _, _ => False
  | .fieldAddr s x f => match ev K x with
    | some (.pointer (some a)) => (match fieldOff P s f with
      | some off => next (.pointer (some (a.add off))) w
      | none => False)
    | _ => False
  | .field t x f => match ev K x with | some v => Runs P (Instr.field t v f) w next | none => False
  | .indexAddr t x i => match ev K x, ev K i with
    | some (.slice b len cap), some (.int k j) => (match elemSize P t, b with
      | some sz, some ad => 0 ≤ j ∧ j < (len : Int) ∧ next (.pointer (some (ad.add (j.toNat * sz)))) w
      | _, _ => False)
    | some (.pointer (some ad)), some (.int k j) => (match arrInfo P t with
      | some (n, sz) => 0 ≤ j ∧ j < (n : Int) ∧ next (.pointer (some (ad.add (j.toNat * sz)))) w
      | none => False)
    | _, _ => False
  | .index t x i => match ev K x, ev K i with | some a, some b => Runs P (Instr.index t a b) w next | _, _ => False
  | .lookup t x i okk => match ev K x, ev K i with | some a, some b => Runs P (Instr.lookup t a b okk) w next | _, _ => False
  | .mapUpdate t m k v => match ev K m, ev K k, ev K v with | some a, some b, some c => Runs P (Instr.mapUpdate t a b c) w (fun _ w' => next undef w') | _, _, _ => False
  | .insert t m k v => match ev K m, ev K k, ev K v with | some a, some b, some c => Runs P (Instr.mapUpdate t a b c) w (fun _ w' => next undef w') | _, _, _ => False
  | .range t x => match ev K x with | some v => Runs P (Instr.range t v) w next | none => False
  | .next x s => match ev K x with | some v => Runs P (Instr.next v s type) w next | none => False
  | .typeAssert x t u okk => match ev K x with | some v => Runs P (Instr.typeAssert v t u okk) w next | none => False
  | .extract x i => match ev K x with
    | some (.tuple vs) => (match vs.toList[i]? with | some v => next v w | none => False)
    | _ => False
  | .call c => match c.callee with
    | .builtin .len => match evs K c.args.toList, c.argTypes.toList with
      | some [.slice _ n _], [t] => (match isSlice P t with | true => next (.int .i64 n) w | false => False)
      | some [.string s], [t] => (match isString P t with | true => next (.int .i64 s.size) w | false => False)
      | some l, _ => Runs P (builtin .len c.argTypes type (c.args.map fun | .const _ => true | _ => false) l.toArray) w (builtinR next)
      | none, _ => False
    | .builtin b => match evs K c.args.toList with
      | some l => Runs P (builtin b c.argTypes type (c.args.map fun | .const _ => true | _ => false) l.toArray) w (builtinR next)
      | none => False
    | .value f => match ev K f, evs K c.args.toList with
      | some fv, some l => Inv P fv l w (callR next pan)
      | _, _ => False
    | _ => False
  | .panic x => match ev K x with | some v => ∃ u w', (Instr.panic v).run P w = .halt (.panic u) w' ∧ pan [{ v := u, recovered := false }] w' | none => False
  | _ => False
end Go.Proofs.Vg
set_option linter.unusedVariables false
set_option linter.unusedSimpArgs false
namespace Go.Proofs.Vg
open Go Go.RowKit

section
variable {ty : TypeId} {P : Program} {ρ : Option Nat} {N : Nat} {K : Env} {ds : List Deferred} {w : World} {a : Act} {o : Oper} {M : Act → World → Prop} {Q : Exit → Act → World → Prop}

theorem wpIn_val {v : Value} {w' : World} (hd : ∀ c, o.op ≠ .defer c) (h : (execOp a.eval o).run P w = .ok (.value v) w') (hn : M (a.put o.dst v) w') : o.wpIn (fence ρ) 0 P a w M Q := by
  refine ⟨fun _ _ => trivial, ?_⟩
  rw [Oper.semAt_eq _ _ _ hd, h]
  exact hn
theorem wpIn_skp {w' : World} (hd : ∀ c, o.op ≠ .defer c) (h : (execOp a.eval o).run P w = .ok .skip w') (hn : M (a.put o.dst undef) w') : o.wpIn (fence ρ) 0 P a w M Q := by
  refine ⟨fun _ _ => trivial, ?_⟩
  rw [Oper.semAt_eq _ _ _ hd, h]
  exact hn

theorem evs_map (ha : Kn K N ds a) : ∀ (xs : List Operand) (l : List Value), evs K xs = some l → xs.map a.eval = l
  | [], l, h => by simp [evs] at h; simp [h]
  | x :: r, l, h => by
    simp only [evs] at h
    split at h
    · rename_i v m hv hm
      cases h
      simp [ev_eval ha hv, evs_map ha r m hm]
    · cases h
theorem evp_map (ha : Kn K N ds a) : ∀ (xs : List (Nat × Operand)) (l : List (Nat × Value)), evp K xs = some l → (xs.map fun (i, x) => (i, a.eval x)) = l
  | [], l, h => by simp [evp] at h; simp [h]
  | (i, x) :: r, l, h => by
    simp only [evp] at h
    split at h
    · rename_i v m hv hm
      cases h
      simp only [List.map_cons, ev_eval ha hv, evp_map ha r m hm]
    · cases h
theorem evo_map (ha : Kn K N ds a) (x : Option Operand) (l : Option Value) (h : evo K x = some l) : x.map a.eval = l := by
  cases x with
  | none => simp [evo] at h; simp [← h]
  | some x =>
    simp only [evo] at h
    split at h
    · rename_i v hv
      cases h
      simp [ev_eval ha hv]
    · cases h
theorem evs_arr (ha : Kn K N ds a) (xs : Array Operand) (l : List Value) (h : evs K xs.toList = some l) : xs.map a.eval = l.toArray := by
  have := evs_map ha _ _ h
  apply Array.ext'
  simpa using this

theorem decide_toList (x y : ByteArray) : (x.toList == y.toList) = decide (x = y) := by
  have hl : ∀ s : ByteArray, s.toList = s.data.toList := fun s => by rw [ByteArray.toList_eq]
  rw [hl, hl]
  by_cases h : x = y
  · subst h; simp
  · have : x.data.toList ≠ y.data.toList := fun e => h (by
      cases x; cases y; simp at e; simp [e])
    simp [h]
    exact fun e => this (by rw [e])

theorem binV_run {t : TypeId} {op : BinOp} {x y : Operand} {u v r : Value} {ob : Prop} (h : binV P t op u v = some (ob, r)) (hob : ob) (w : World) :
    (do eqGuard op t x y u v; binOp op t u v : Sem Value).run P w = .ok r w := by
  unfold binV at h
  split at h <;> first | (cases h; done) | skip
  all_goals
    simp only [Option.some.injEq, Prod.mk.injEq] at h
    obtain ⟨rfl, rfl⟩ := h
  all_goals first
    | (obtain ⟨rfl, hi⟩ := hob; simp [eqGuard, binOp, Op.intArith, wrap_in hi]; done)
    | (subst hob; simp [eqGuard, binOp, Op.intCmp]; done)
    | (simp [eqGuard, binOp, Op.stringOp, decide_toList]; done)
    | (simp [eqGuard, binOp, run_equal_bool _ _ _ _ hob]; done)
    | skip
  · subst hob; simp [eqGuard, binOp, Op.intCmp]; rfl
  · subst hob; simp [eqGuard, binOp, Op.intCmp]; rfl
  · simp [eqGuard, binOp, run_equal_bool _ _ _ _ hob]; rename_i a b; cases a <;> cases b <;> rfl
  · simp [eqGuard, binOp, run_equal_bool _ _ _ _ hob]; rename_i a b; cases a <;> cases b <;> rfl

theorem load_run {t : Nat} {b : Addr} {v : Value} (h : aggN P t = some none) (hc : w.cell? b = some v) : (loadVar t b).run P w = .ok v w := by
  unfold aggN at h
  split at h <;> first | (cases h; done) | skip
  rename_i i d hn1 hn2 hi hu
  have : (isAgg t).run P w = .ok false w := by
    simp only [isAgg, Sem.run_bind, run_underlying hu, Result.andThen_ok]
    rfl
  simp [loadVar, this, load, Sem.run, hc]
theorem loadAgg_run {t n : Nat} {b : Addr} {cs : List Value} (h : aggN P t = some (some n)) (hl : cs.length = n) (hc : cellsAt w b cs) : (loadVar t b).run P w = .ok (.agg cs.toArray) w := by
  unfold aggN at h
  have key : ∀ (i : TypeInfo) (d : TypeDesc), P.info? t = some i → P.underlying t = some d → ((∃ fs, d = .struct fs) ∨ (∃ n e, d = .array n e)) → i.size = n → (loadVar t b).run P w = .ok (.agg cs.toArray) w := by
    intro i d hi hu hd hs
    have : (isAgg t).run P w = .ok true w := by
      simp only [isAgg, Sem.run_bind, run_underlying hu, Result.andThen_ok]
      rcases hd with ⟨fs, rfl⟩ | ⟨n, e, rfl⟩ <;> rfl
    have hz : (sizeOf t).run P w = .ok n w := by simp [sizeOf, typeInfo, hi, hs]
    have hlc := run_loadCells_list (P := P) (w := w) b cs (fun j v hj => hc j v hj)
    rw [hl] at hlc
    simp [loadVar, this, hz, hlc]
  split at h <;> first | (cases h; done) | skip
  · rename_i i fs hi hu; cases h; exact key i _ hi hu (.inl ⟨_, rfl⟩) rfl
  · rename_i i m e hi hu; cases h; exact key i _ hi hu (.inr ⟨_, _, rfl⟩) rfl

theorem fieldOff_run {s f off : Nat} (h : fieldOff P s f = some off) (b : Addr) (w : World) : (Instr.fieldAt s (.pointer (some b)) f).run P w = .ok (.pointer (some (b.add off))) w := by
  unfold fieldOff at h
  split at h
  · rename_i fs hu
    split at h
    · rename_i fd hf
      split at h
      · cases h
      · rename_i hz
        cases h
        cases hi : P.info? fd.type with
        | none => simp [hi] at hz
        | some i =>
          simp [hi, Program.cellsOf] at hz
          simp [Instr.fieldAt, run_underlying hu, hf, Instr.sureAddr, fieldPlace, sizeOf, typeInfo, hi, hz]
    · cases h
  · cases h
theorem indexSlice_run {t sz len cap : Nat} {b : Addr} {k : IntKind} {j : Int} (h : elemSize P t = some sz) (h0 : 0 ≤ j) (h1 : j < (len : Int)) (w : World) :
    (Instr.indexAt t (.slice (some b) len cap) (.int k j)).run P w = .ok (.pointer (some (b.add (j.toNat * sz)))) w := by
  unfold elemSize at h
  split at h
  · rename_i e hu
    cases hi : P.info? e with
    | none => simp [hi] at h
    | some i =>
      simp [hi] at h
      simp [Instr.indexAt, asIntOf, run_underlying hu, h0, h1, sizeOf, typeInfo, hi, h]
  · cases h
theorem indexArr_run {t n sz : Nat} {b : Addr} {k : IntKind} {j : Int} (h : arrInfo P t = some (n, sz)) (h0 : 0 ≤ j) (h1 : j < (n : Int)) (w : World) :
    (Instr.indexAt t (.pointer (some b)) (.int k j)).run P w = .ok (.pointer (some (b.add (j.toNat * sz)))) w := by
  unfold arrInfo at h
  split at h
  · rename_i m e hu
    cases hi : P.info? e with
    | none => simp [hi] at h
    | some i =>
      simp [hi] at h
      obtain ⟨rfl, h⟩ := h
      simp [Instr.indexAt, asIntOf, run_underlying hu, h0, h1, sizeOf, typeInfo, hi, h, Instr.sureAddr]
  · cases h
theorem isSlice_run {t : Nat} (h : isSlice P t = true) {b : Option Addr} {n c : Nat} (w : World) : (Builtin.len_ #[t] ty #[.slice b n c]).run P w = .ok (.int .i64 n) w := by
  unfold isSlice at h
  split at h
  · rename_i e hu
    simp [Builtin.len_, run_underlying hu, goInt]
  · cases h
theorem isString_run {t : Nat} (h : isString P t = true) {s : ByteArray} (w : World) : (Builtin.len_ #[t] ty #[.string s]).run P w = .ok (.int .i64 s.size) w := by
  unfold isString at h
  split at h
  · rename_i hu
    simp [Builtin.len_, run_underlying hu, goInt]
  · cases h

theorem runs_value {α : Type} {s : Sem α} {nx : α → World → Prop} (f : α → Value) (hd : ∀ c, o.op ≠ .defer c) (he : execOp a.eval o = (do let v ← s; pure (.value (f v)) : Sem Next)) (h : Runs P s w nx)
    (hn : ∀ v w', nx v w' → M (a.put o.dst (f v)) w') : o.wpIn (fence ρ) 0 P a w M Q := by
  obtain ⟨v, w', hr, hx⟩ := h
  exact wpIn_val hd (by rw [he]; simp [hr]) (hn _ _ hx)
theorem runs_skip {s : Sem Unit} {nx : World → Prop} (hd : ∀ c, o.op ≠ .defer c) (he : execOp a.eval o = (do s; pure .skip : Sem Next)) (h : Runs P s w fun _ w' => nx w')
    (hn : ∀ w', nx w' → M (a.put o.dst undef) w') : o.wpIn (fence ρ) 0 P a w M Q := by
  obtain ⟨v, w', hr, hx⟩ := h
  exact wpIn_skp hd (by rw [he]; simp [hr]) (hn _ hx)

theorem opF_sound {nx : Value → World → Prop} {pan : List PanicEntry → World → Prop} (ha : Kn K N ds a) (h : opF P K w nx pan o.type o.op)
    (hn : ∀ v w', nx v w' → M (a.put o.dst v) w') (hp : ∀ ch w', pan ch w' → Q (.panic ch) a w') : o.wpIn (fence ρ) 0 P a w M Q := by
  have E : ∀ {x : Operand} {v : Value}, ev K x = some v → a.eval x = v := fun h => ev_eval ha h
  cases hop : o.op <;> rw [hop] at h <;> simp only [opF] at h
  all_goals first | exact h.elim | skip
  case move x =>
    split at h
    · rename_i v hv
      exact wpIn_val (by simp [hop]) (by simp [execOp, hop, E hv]) (hn _ _ h)
    · exact h.elim
  case assign x =>
    split at h
    · rename_i v hv
      exact wpIn_val (by simp [hop]) (by simp [execOp, hop, E hv]) (hn _ _ h)
    · exact h.elim
  case pick c x y =>
    split at h
    · rename_i t hc
      cases t
      · have h := h.2 rfl
        split at h
        · rename_i v hv
          exact wpIn_val (by simp [hop]) (by simp [execOp, hop, E hv, E hc, asBool]) (hn _ _ h)
        · exact h.elim
      · have h := h.1 rfl
        split at h
        · rename_i v hv
          exact wpIn_val (by simp [hop]) (by simp [execOp, hop, E hv, E hc, asBool]) (hn _ _ h)
        · exact h.elim
    · exact h.elim
  case alloc t => exact runs_value (fun v => v) (by simp [hop]) (by simp only [execOp, hop]) h hn
  case box t x =>
    split at h
    · rename_i v hv
      exact runs_value (fun v => v) (by simp [hop]) (by simp only [execOp, hop, E hv]) h hn
    · exact h.elim
  case build t ps =>
    split at h
    · rename_i l hl
      refine runs_value (fun v => v) (by simp [hop]) ?_ h hn
      have : (ps.map fun (i, x) => (i, a.eval x)) = l.toArray := by
        apply Array.ext'; simpa using evp_map ha _ _ hl
      simp only [execOp, hop, this]
    · exact h.elim
  case buildSlice t n ps =>
    split at h
    · rename_i l hl
      refine runs_value (fun v => v) (by simp [hop]) ?_ h hn
      have : (ps.map fun (i, x) => (i, a.eval x)) = l.toArray := by
        apply Array.ext'; simpa using evp_map ha _ _ hl
      simp only [execOp, hop, this]
    · exact h.elim
  case load t x =>
    split at h
    · rename_i b hv
      have hex : execOp a.eval o = (do let v ← loadVar t b; pure (.value v) : Sem Next) := by
        simp only [execOp, hop, E hv, Instr.loadAt, Instr.sureAddr]; rfl
      split at h
      · rename_i hg
        obtain ⟨v, hc, hx⟩ := h
        exact wpIn_val (by simp [hop]) (by rw [hex, Sem.run_bind, load_run hg hc]; rfl) (hn _ _ hx)
      · rename_i n hg
        obtain ⟨cs, hl, hc, hx⟩ := h
        exact wpIn_val (by simp [hop]) (by rw [hex, Sem.run_bind, loadAgg_run hg hl hc]; rfl) (hn _ _ hx)
      · exact h.elim
    · exact h.elim
  case store t x y =>
    split at h
    · rename_i b v hb hv
      refine runs_skip (nx := fun w' => nx undef w') (by simp [hop]) ?_ h (fun w' => hn _ _)
      simp only [execOp, hop, E hb, E hv, Instr.storeAt, Instr.sureAddr]; rfl
    · exact h.elim
  case nilCheck x =>
    split at h
    · rename_i b hv
      exact wpIn_val (by simp [hop]) (by simp [execOp, hop, E hv]) (hn _ _ h)
    · exact h.elim
  case binOp op t x y u =>
    split at h
    · rename_i p q hx hy
      split at h
      · rename_i ob v hb
        exact wpIn_val (by simp [hop]) (by
          have := binV_run (x := x) (y := y) hb h.1 w
          simp only [execOp, hop, E hx, E hy]
          rw [Sem.run_bind, this]; rfl) (hn _ _ h.2)
      · exact runs_value (fun v => v) (by simp [hop]) (by simp only [execOp, hop, E hx, E hy]) h hn
    · exact h.elim
  case unOp op t x =>
    cases op <;> simp only [opF] at h <;> first | exact h.elim | skip
    · split at h
      · rename_i k n hx
        exact wpIn_val (by simp [hop]) (by have := wrap_in h.1; simp only [Int.zero_sub] at this; simp [execOp, hop, E hx, Op.unary, Op.intArith, this]) (hn _ _ h.2)
      · exact h.elim
    · split at h
      · rename_i b hx
        exact wpIn_val (by simp [hop]) (by simp [execOp, hop, E hx, Op.unary]) (hn _ _ h)
      · exact h.elim
  case convert s d x =>
    split at h
    · rename_i v hv
      exact runs_value (fun v => v) (by simp [hop]) (by simp only [execOp, hop, E hv]) h hn
    · exact h.elim
  case makeInterface t x =>
    split at h
    · rename_i v hv
      exact runs_value (fun v => v) (by simp [hop]) (by simp only [execOp, hop, E hv]) h hn
    · exact h.elim
  case makeFunc f x y =>
    split at h
    · rename_i l m hl hm
      exact wpIn_val (by simp [hop]) (by simp [execOp, hop, evs_arr ha _ _ hl, evs_arr ha _ _ hm, Instr.makeFunc]) (hn _ _ h)
    · exact h.elim
  case makeMap t r =>
    split at h
    · rename_i v hv
      exact runs_value (fun v => v) (by simp [hop]) (by simp only [execOp, hop, evo_map ha _ _ hv]) h hn
    · exact h.elim
  case makeSlice t x y =>
    split at h
    · rename_i p q hx hy
      exact runs_value (fun v => v) (by simp [hop]) (by simp only [execOp, hop, E hx, E hy]) h hn
    · exact h.elim
  case slice t x l m u =>
    split at h
    · rename_i v p q r hv hp' hq hr
      exact runs_value (fun v => v) (by simp [hop]) (by simp only [execOp, hop, E hv, evo_map ha _ _ hp', evo_map ha _ _ hq, evo_map ha _ _ hr]) h hn
    · exact h.elim
  case fieldAddr s x f =>
    split at h
    · rename_i b hv
      split at h
      · rename_i off ho
        exact wpIn_val (by simp [hop]) (by simp only [execOp, hop, E hv]; rw [Sem.run_bind, fieldOff_run ho]; rfl) (hn _ _ h)
      · exact h.elim
    · exact h.elim
  case field t x f =>
    split at h
    · rename_i v hv
      exact runs_value (fun v => v) (by simp [hop]) (by simp only [execOp, hop, E hv]) h hn
    · exact h.elim
  case indexAddr t x i =>
    split at h
    · rename_i b len cap k j hx hi
      split at h
      · rename_i sz ad hs
        obtain ⟨h0, h1, hh⟩ := h
        exact wpIn_val (by simp [hop]) (by simp only [execOp, hop, E hx, E hi]; rw [Sem.run_bind, indexSlice_run hs h0 h1]; rfl) (hn _ _ hh)
      · exact h.elim
    · rename_i ad k j hx hi
      split at h
      · rename_i n sz hs
        obtain ⟨h0, h1, hh⟩ := h
        exact wpIn_val (by simp [hop]) (by simp only [execOp, hop, E hx, E hi]; rw [Sem.run_bind, indexArr_run hs h0 h1]; rfl) (hn _ _ hh)
      · exact h.elim
    · exact h.elim
  case index t x i =>
    split at h
    · rename_i p q hx hy
      exact runs_value (fun v => v) (by simp [hop]) (by simp only [execOp, hop, E hx, E hy]) h hn
    · exact h.elim
  case lookup t x i okk =>
    split at h
    · rename_i p q hx hy
      exact runs_value (fun v => v) (by simp [hop]) (by simp only [execOp, hop, E hx, E hy]) h hn
    · exact h.elim
  case mapUpdate t m k v =>
    split at h
    · rename_i p q r hx hy hz
      exact runs_skip (nx := fun w' => nx undef w') (by simp [hop]) (by simp only [execOp, hop, E hx, E hy, E hz]) h (fun w' => hn _ _)
    · exact h.elim
  case insert t m k v =>
    split at h
    · rename_i p q r hx hy hz
      exact runs_skip (nx := fun w' => nx undef w') (by simp [hop]) (by simp only [execOp, hop, E hx, E hy, E hz]) h (fun w' => hn _ _)
    · exact h.elim
  case range t x =>
    split at h
    · rename_i v hv
      exact runs_value (fun v => v) (by simp [hop]) (by simp only [execOp, hop, E hv]) h hn
    · exact h.elim
  case next x s =>
    split at h
    · rename_i v hv
      exact runs_value (fun v => v) (by simp [hop]) (by simp only [execOp, hop, E hv]) h hn
    · exact h.elim
  case typeAssert x t u okk =>
    split at h
    · rename_i v hv
      exact runs_value (fun v => v) (by simp [hop]) (by simp only [execOp, hop, E hv]) h hn
    · exact h.elim
  case extract x i =>
    split at h
    · rename_i vs hv
      split at h
      · rename_i v hi
        exact wpIn_val (by simp [hop]) (by
          have : vs[i]? = some v := by rw [← hi]; simp
          simp [execOp, hop, E hv, Instr.extract, this]) (hn _ _ h)
      · exact h.elim
    · exact h.elim
  case panic x =>
    split at h
    · rename_i v hv
      obtain ⟨u, w', hr, hx⟩ := h
      refine ⟨fun _ _ => trivial, ?_⟩
      rw [Oper.semAt_eq _ _ _ (by simp [hop])]
      have : (execOp a.eval o).run P w = .halt (.panic u) w' := by
        simp only [execOp, hop, E hv]; rw [Sem.run_bind, hr]; rfl
      rw [this]
      exact hp _ _ hx
    · exact h.elim
  case call c =>
    split at h
    · rename_i hcal
      have hres : ∀ l, evs K c.args.toList = some l → (execOp a.eval o).run P w = ((builtin .len c.argTypes o.type (c.args.map fun | .const _ => true | _ => false) l.toArray).run P w) := by
        intro l hl
        simp only [execOp, hop, resolve, hcal, evs_arr ha _ _ hl]
        rfl
      split at h
      · rename_i b n cp t hl ht
        have hat : c.argTypes = #[t] := by apply Array.ext'; simpa using ht
        split at h
        · rename_i hi
          exact wpIn_val (by simp [hop]) (by rw [hres _ hl, hat]; simp only [builtin]; rw [Sem.run_bind]; rw [show ([Value.slice b n cp].toArray) = #[Value.slice b n cp] from rfl, isSlice_run hi]; rfl) (hn _ _ h)
        · exact h.elim
      · rename_i s t hl ht
        have hat : c.argTypes = #[t] := by apply Array.ext'; simpa using ht
        split at h
        · rename_i hi
          exact wpIn_val (by simp [hop]) (by rw [hres _ hl, hat]; simp only [builtin]; rw [Sem.run_bind]; rw [show ([Value.string s].toArray) = #[Value.string s] from rfl, isString_run hi]; rfl) (hn _ _ h)
        · exact h.elim
      · rename_i l hl _ _
        obtain ⟨n, w', hr, hx⟩ := h
        have hr' := (hres _ hl).trans hr
        cases n <;> simp only [builtinR] at hx <;> first | exact hx.elim | skip
        · exact wpIn_val (by simp [hop]) hr' (hn _ _ hx)
        · exact wpIn_skp (by simp [hop]) hr' (hn _ _ hx)
      · exact h.elim
    · rename_i b _ hcal
      split at h
      · rename_i l hl
        have hres : (execOp a.eval o).run P w = ((builtin b c.argTypes o.type (c.args.map fun | .const _ => true | _ => false) l.toArray).run P w) := by
          simp only [execOp, hop, resolve, hcal, evs_arr ha _ _ hl]
          rfl
        obtain ⟨n, w', hr, hx⟩ := h
        have hr' := hres.trans hr
        cases n <;> simp only [builtinR] at hx <;> first | exact hx.elim | skip
        · exact wpIn_val (by simp [hop]) hr' (hn _ _ hx)
        · exact wpIn_skp (by simp [hop]) hr' (hn _ _ hx)
      · exact h.elim
    · rename_i f hcal
      split at h
      · rename_i fv l hf hl
        refine ⟨fun _ _ => trivial, ?_⟩
        rw [Oper.semAt_eq _ _ _ (by simp [hop])]
        have hR : ∀ e w', callR nx pan e w' → (match e, w' with
            | .returned v, w'' => M (a.put o.dst v) w''
            | .panicked chain, w'' => Q (.panic chain) a w''
            | .outgrown, _ => LetsOut Q) := by
          intro e w' he
          cases e <;> simp only [callR] at he
          · exact hn _ _ he
          · exact hp _ _ he
        rcases h with ⟨g, first, cap, rfl, hg, hc⟩ | ⟨g, first, cap, fn, tmps, assign, body, rfl, hg, hc⟩
        · have : (execOp a.eval o).run P w = .ok (.enter g (first ++ l.toArray ++ cap)) w := by
            simp only [execOp, hop, resolve, hcal, evs_arr ha _ _ hl, E hf]
            simp [Deferred.ofValue, invoke, hg]
          rw [this]
          simp only [Oper.uponIn]
          exact ⟨fence_depth _ _, CallsIn.mono (callsIn_wide.2 hc : CallsIn Fence.wide 0 P g _ w _) hR⟩
        · have : (execOp a.eval o).run P w = .ok (.round g fn tmps assign body) w := by
            simp only [execOp, hop, resolve, hcal, evs_arr ha _ _ hl, E hf]
            simp [Deferred.ofValue, invoke, hg]
          rw [this]
          simp only [Oper.uponIn]
          exact ⟨fence_depth _ _, RoundIn.mono hc hR⟩
      · exact h.elim
    · exact h.elim
end
end Go.Proofs.Vg
set_option linter.unusedVariables false
set_option linter.unusedSimpArgs false
namespace Go.Proofs.Vg
open Go Go.RowKit

def putE (dst : Option Nat) (v : Value) (K : Env) : Env := match dst with | some d => (d, v) :: K | none => K
def Env.set : Env → Nat → Value → Env
  | [], _, _ => []
  | (i, u) :: r, j, v => if j = i then (i, v) :: r else (i, u) :: Env.set r j v
theorem Env.get_set (K : Env) (j : Nat) (v : Value) (i : Nat) : (K.set j v).get i = if i = j then (K.get j).map (fun _ => v) else K.get i := by
  induction K with
  | nil => simp [Env.set, Env.get]
  | cons p r ih =>
    obtain ⟨k, u⟩ := p
    simp only [Env.set, Env.get]
    by_cases h1 : j = k
    · subst h1
      simp only [if_true, Env.get]
      by_cases h2 : i = j <;> simp [h2]
    · simp only [if_neg h1, Env.get, ih]
      by_cases h2 : i = k
      · subst h2
        simp [Ne.symm h1]
      · simp only [if_neg h2]
def gdst (ops : List Oper) (j : Nat) : Option Nat := match ops[j]? with | some o => o.dst | none => none

/-- What a list of operations owes, carried out in the order of the text. -/
def wpL (P : Program) (ops : List Oper) (pan : List PanicEntry → Env → World → Prop) (M : Env → World → Prop) : List Oper → Env → World → Prop
  | [], K, w => M K w
  | o :: rest, K, w =>
    match o.guard with
    | none => opF P K w (fun v w' => wpL P ops pan M rest (putE o.dst v K) w') (fun ch w' => pan ch K w') o.type o.op
    | some (j, want) => match gdst ops j with
      | some d => (match K.get d with
        | some (.bool b) => (b = want → opF P (K.set d (.bool want)) w (fun v w' => wpL P ops pan M rest (putE o.dst v (K.set d (.bool want))) w') (fun ch w' => pan ch (K.set d (.bool want)) w') o.type o.op) ∧
            (b = !want → wpL P ops pan M rest (putE o.dst undef (K.set d (.bool !want))) w)
        | some (.tuple _) => wpL P ops pan M rest (putE o.dst undef K) w
        | _ => False)
      | none => False

def dstsOk (N : Nat) (ops : List Oper) : Bool := ops.all fun o => match o.dst with | some d => decide (d < N) | none => true

section
variable {P : Program} {ρ : Option Nat} {N : Nat} {K : Env} {ds : List Deferred} {w : World} {a : Act} {Φ : Post}

theorem Kn.put {dst : Option Nat} {v : Value} (ha : Kn K N ds a) (hd : ∀ d, dst = some d → d < N) : Kn (putE dst v K) N ds (a.put dst v) := by
  cases dst with
  | none => exact ha
  | some d =>
    refine ⟨by simp [Act.put, ha.size], ha.defers, fun i u h => ?_⟩
    simp only [putE, Env.get] at h
    simp only [Act.put]
    split at h
    · rename_i e
      subst e
      cases h
      rw [Array.getElem?_setIfInBounds_self_of_lt (by rw [ha.size]; exact hd _ rfl)]
    · rename_i e
      rw [Array.getElem?_setIfInBounds_ne (Ne.symm e)]
      exact ha.at_ i u h
theorem Kn.set {d : Nat} {v : Value} (ha : Kn K N ds a) (hv : K.get d = some v) : Kn (K.set d v) N ds a :=
  ⟨ha.size, ha.defers, fun i u h => by
    rw [Env.get_set] at h
    split at h
    · rename_i e; subst e; rw [hv] at h; cases h; exact ha.at_ _ _ hv
    · exact ha.at_ i u h⟩

theorem wpL_sound {ops : List Oper} {pan : List PanicEntry → Env → World → Prop} {M : Env → World → Prop} (hp : ∀ ch K w, pan ch K w → Φ (.panic ch) K ds w) (hM : ∀ K w, M K w → Φ .normal K ds w) :
    ∀ (rest : List Oper) (K : Env) (w : World) (a : Act), dstsOk N rest = true → Kn K N ds a → wpL P ops pan M rest K w → wpListIn (fence ρ) 0 P ops.toArray (lift N Φ) rest a w
  | [], K, w, a, _, ha, h => ⟨K, ds, ha, hM _ _ h⟩
  | o :: rest, K, w, a, hd, ha, h => by
    simp only [dstsOk, List.all_cons, Bool.and_eq_true] at hd
    have hd0 : ∀ d, o.dst = some d → d < N := fun d he => by have := hd.1; rw [he] at this; simpa using this
    simp only [wpL] at h
    unfold wpListIn
    cases hg : o.guard with
    | none =>
      rw [hg] at h
      simp only [Region.wanted, hg, if_true]
      exact opF_sound ha h (fun v w' hv => wpL_sound hp hM rest _ _ _ hd.2 (ha.put hd0) hv) (fun ch w' hc => ⟨K, ds, ha, hp _ _ _ hc⟩)
    | some gd =>
      obtain ⟨j, want⟩ := gd
      rw [hg] at h
      simp only at h
      split at h
      · rename_i d hgd
        have hy : yielded ops.toArray a.tmps j = match a.tmps[d]? with | some (.bool b) => some b | _ => none := by
          unfold gdst at hgd
          split at hgd
          · rename_i oj hj
            simp only [yielded, List.getElem?_toArray, hj, Option.bind_some, hgd]
            split <;> simp_all
          · cases hgd
        split at h
        · rename_i b hb
          have hya : yielded ops.toArray a.tmps j = some b := by rw [hy, ha.at_ _ _ hb]
          by_cases hbw : b = want
          · subst hbw
            have hw : Region.wanted o (yielded ops.toArray a.tmps) = true := by simp [Region.wanted, hg, hya]
            rw [if_pos hw]
            have ha' := ha.set hb
            exact opF_sound ha' (h.1 rfl) (fun v w' hv => wpL_sound hp hM rest _ _ _ hd.2 (ha'.put hd0) hv) (fun ch w' hc => ⟨_, ds, ha', hp _ _ _ hc⟩)
          · have hbn : b = !want := by cases b <;> cases want <;> simp_all
            have hw : ¬ Region.wanted o (yielded ops.toArray a.tmps) = true := by simp [Region.wanted, hg, hya, hbw]
            rw [if_neg hw]
            have ha' := ha.set (hbn ▸ hb)
            exact ⟨fun _ _ => trivial, wpL_sound hp hM rest _ _ _ hd.2 (ha'.put hd0) (h.2 hbn)⟩
        · rename_i x hb
          have hya : yielded ops.toArray a.tmps j = none := by rw [hy, ha.at_ _ _ hb]
          have hw : ¬ Region.wanted o (yielded ops.toArray a.tmps) = true := by simp [Region.wanted, hg, hya]
          rw [if_neg hw]
          exact ⟨fun _ _ => trivial, wpL_sound hp hM rest _ _ _ hd.2 (ha.put hd0) h⟩
        · exact h.elim
      · exact h.elim

/-- A region in the order of the text. -/
theorem ok_region {id : Nat} {ops : List Oper} (hd : dstsOk N ops = true) (h : wpL P ops (fun ch K w => Φ (.panic ch) K ds w) (fun K w => Φ .normal K ds w) ops K w) :
    ok P ρ N (.region id ops.toArray false) K ds w Φ :=
  fun a ha => wpIn_region_lit (wpL_sound (fun _ _ _ h => h) (fun _ _ h => h) ops K w a hd ha h)
end
end Go.Proofs.Vg
set_option linter.unusedVariables false
set_option linter.unusedSimpArgs false
namespace Go.Proofs.Vg
open Go Go.RowKit

def argEnv : Nat → List Value → Env
  | _, [] => []
  | i, v :: r => (i, v) :: argEnv (i + 1) r
theorem argEnv_get : ∀ (l : List Value) (i j : Nat) (v : Value), (argEnv i l).get j = some v → i ≤ j ∧ l[j - i]? = some v
  | [], i, j, v, h => by simp [argEnv, Env.get] at h
  | u :: r, i, j, v, h => by
    simp only [argEnv, Env.get] at h
    split at h
    · rename_i e; subst e; cases h; simp
    · rename_i e
      have := argEnv_get r (i + 1) j v h
      refine ⟨by omega, ?_⟩
      rw [show j - i = (j - (i + 1)) + 1 by omega, List.getElem?_cons_succ]
      exact this.2

/-- What a function hands back. -/
def retE (K : Env) : List ResultVar → Option Value
  | [] => some (.tuple #[])
  | [.tmp t] => K.get t
  | [.tmp t, .tmp u] => match K.get t, K.get u with
    | some a, some b => some (.tuple #[a, b])
    | _, _ => none
  | [.tmp t, .tmp u, .tmp x] => match K.get t, K.get u, K.get x with
    | some a, some b, some c => some (.tuple #[a, b, c])
    | _, _, _ => none
  | _ => none

section
variable {P : Program} {ρ : Option Nat} {N : Nat} {K : Env} {ds : List Deferred} {w : World} {a : Act} {Φ : Post}

theorem Kn.getD (ha : Kn K N ds a) {t : Nat} {v : Value} (h : K.get t = some v) : a.tmps.getD t undef = v := by
  have := ha.at_ _ _ h
  simp only [Array.getD_eq_getD_getElem?, this, Option.getD_some]

theorem results_tmp3' {fn : Func} {t u v : Tmp} (h : fn.results = #[.tmp t, .tmp u, .tmp v]) (tmps : Array Value) (P : Program) (w : World) :
    (results fn tmps).run P w = .ok (.tuple #[tmps.getD t undef, tmps.getD u undef, tmps.getD v undef]) w := by
  simp [results, h]

theorem retE_run {fn : Func} {v : Value} (ha : Kn K N ds a) (h : retE K fn.results.toList = some v) (w : World) : (results fn a.tmps).run P w = .ok v w := by
  have hr : fn.results = fn.results.toList.toArray := by simp
  generalize fn.results.toList = l at *
  unfold retE at h
  split at h
  · cases h; exact results_none hr _ _ _
  · rename_i t
    rw [results_tmp hr, ha.getD h]
  · rename_i t u
    split at h
    · rename_i x y hx hy
      cases h
      rw [results_tmp2 hr, ha.getD hx, ha.getD hy]
    · cases h
  · rename_i t u x
    split at h
    · rename_i p q r hp hq hr'
      cases h
      rw [results_tmp3' hr, ha.getD hp, ha.getD hq, ha.getD hr']
    · cases h
  · cases h

/-- A function's end. -/
def fin (rs : List ResultVar) (R : Ending → World → Prop) : Post
  | .normal, K, ds, w => ds = [] ∧ match retE K rs with | some v => R (.returned v) w | none => False
  | .ret, K, ds, w => ds = [] ∧ match retE K rs with | some v => R (.returned v) w | none => False
  | .panic ch, K, ds, w => ds = [] ∧ R (.panicked ch) w
  | _, _, _, _ => False

theorem Kn.enter (args : List Value) (n : Nat) : Kn (argEnv 0 args) (args.length + n) [] { tmps := args.toArray ++ Array.replicate n undef, defers := [] } := by
  refine ⟨by simp, rfl, fun i v h => ?_⟩
  have := (argEnv_get args 0 i v h).2
  simp only [Nat.sub_zero] at this
  have hlt : i < args.length := by
    rcases Nat.lt_or_ge i args.length with h | h
    · exact h
    · rw [List.getElem?_eq_none h] at this; cases this
  rw [Array.getElem?_append_left (by simpa using hlt)]
  simpa using this

theorem calls_of_ok {f : FuncId} {fn : Func} {c : Code} {args : List Value} {R : Ending → World → Prop} (hf : P.funcs[f]? = some fn) (hb : fn.body = some c) (hn : fn.ntmps = args.length + (fn.ntmps - args.length))
    (h : ok P none fn.ntmps c (argEnv 0 args) [] w (fin fn.results.toList R)) : Calls P f args.toArray w R := by
  refine (callsIn_wide (n := 0)).1 (callsIn_of_wp hf hb trivial (c := c) ?_)
  have hk := Kn.enter args (fn.ntmps - args.length)
  rw [← hn] at hk
  have hw := h _ hk
  refine wpIn_mono (F := fence none) hw ?_
  rintro e a' w' ⟨K, ds, hk, hp⟩
  cases e <;> simp only [fin] at hp <;> simp only [bodyPost]
  all_goals first | exact hp.elim | skip
  · obtain ⟨rfl, hp⟩ := hp
    split at hp
    · rename_i v hv
      exact ⟨hk.defers, v, retE_run hk hv _, hp⟩
    · exact hp.elim
  · obtain ⟨rfl, hp⟩ := hp
    split at hp
    · rename_i v hv
      exact ⟨hk.defers, v, retE_run hk hv _, hp⟩
    · exact hp.elim
  · exact ⟨hp.1 ▸ hk.defers, hp.2⟩
end
end Go.Proofs.Vg
set_option linter.unusedVariables false
set_option linter.unusedSimpArgs false
namespace Go.Proofs.Vg
open Go Go.RowKit

/-- All that was there is there. -/
def Ext (w w' : World) : Prop := Below w.heap.size w w'
theorem Ext.refl (w : World) : Ext w w := Below.refl _ _
theorem Ext.trans {a b c : World} (h : Ext a b) (k : Ext b c) : Ext a c := Below.trans h (Below.mono k h.size)
theorem Ext.drew (w : World) : Ext w { w with drawn := w.drawn + 1 } := ⟨rfl, rfl, rfl, Nat.le_refl _, fun _ _ => rfl⟩
theorem Ext.block {w w' : World} (h : Ext w w') {b : Nat} {o : Obj} (hb : w.heap[b]? = some o) : w'.heap[b]? = some o :=
  (Below.block h b (Array.getElem?_eq_some_iff.1 hb).1).trans hb
theorem Ext.cell {w w' : World} (h : Ext w w') {a : Addr} {v : Value} (hc : w.cell? a = some v) : w'.cell? a = some v :=
  (Below.cell h (World.block_lt_of_cell? w a hc)).trans hc
theorem Ext.cellsAt {w w' : World} (h : Ext w w') {a : Addr} {cs : List Value} (hc : cellsAt w a cs) : cellsAt w' a cs := fun j u hj => h.cell (hc j u hj)

/-- What an operation owes that may come in whatever order: one value, in every world that has come of this one by growth. -/
def opH (P : Program) (K : Env) (C : World → Prop) (next : Value → Prop) (type : TypeId) : Op → Prop
  | .move x => match ev K x with | some v => next v | none => False
  | .assign x => match ev K x with | some v => next v | none => False
  | .pick c a b => match ev K c with
    | some (.bool t) => (t = true → match ev K a with | some v => next v | none => False) ∧ (t = false → match ev K b with | some v => next v | none => False)
    | _ => False
  | .load t x => match ev K x with
    | some (.pointer (some a)) => (match aggN P t with
      | some none => ∃ v, (∀ w', C w' → w'.cell? a = some v) ∧ next v
      | some (some n) => ∃ cs : List Value, cs.length = n ∧ (∀ w', C w' → cellsAt w' a cs) ∧ next (.agg cs.toArray)
      | none => False)
    | _ => False
  | .nilCheck x => match ev K x with | some (.pointer (some a)) => next (.pointer (some a)) | _ => False
  | .binOp op t x y _ => match ev K x, ev K y with
    | some a, some b => (match binV P t op a b with
      | some (ob, v) => ob ∧ next v
      | none => ∃ v, (∀ w', C w' → (do eqGuard op t x y a b; binOp op t a b : Sem Value).run P w' = .ok v w') ∧ next v)
    | _, _ => False
  | .unOp .not _ x => match ev K x with | some (.bool b) => next (.bool !b) | _ => False
  | .unOp .neg _ x => match ev K x with | some (.int k n) => inI k (0 - n) ∧ next (.int k (0 - n)) | _ => False
  | .makeFunc fn first cap => match evs K first.toList, evs K cap.toList with | some l, some m => next (.func fn l.toArray m.toArray) | _, _ => False
  | .fieldAddr s x f => match ev K x with
    | some (.pointer (some a)) => (match fieldOff P s f with
      | some off => next (.pointer (some (a.add off)))
      | none => False)
    | _ => False
  | .indexAddr t x i => match ev K x, ev K i with
    | some (.slice b len cap), some (.int k j) => (match elemSize P t, b with
      | some sz, some ad => 0 ≤ j ∧ j < (len : Int) ∧ next (.pointer (some (ad.add (j.toNat * sz))))
      | _, _ => False)
    | some (.pointer (some ad)), some (.int k j) => (match arrInfo P t with
      | some (n, sz) => 0 ≤ j ∧ j < (n : Int) ∧ next (.pointer (some (ad.add (j.toNat * sz))))
      | none => False)
    | _, _ => False
  | .extract x i => match ev K x with
    | some (.tuple vs) => (match vs.toList[i]? with | some v => next v | none => False)
    | _ => False
  | .build t parts => match evp K parts.toList with | some l => ∃ v, (∀ w', C w' → (Instr.build t l.toArray).run P w' = .ok v w') ∧ next v | none => False
  | .slice t x l h m => match ev K x, evo K l, evo K h, evo K m with | some v, some a, some b, some c => ∃ u, (∀ w', C w' → (Instr.sliceAt t v a b c).run P w' = .ok u w') ∧ next u | _, _, _, _ => False
  | .lookup t x i okk => match ev K x, ev K i with | some a, some b => ∃ v, (∀ w', C w' → (Instr.lookup t a b okk).run P w' = .ok v w') ∧ next v | _, _ => False
  | .call c => match c.callee with
    | .builtin .len => match evs K c.args.toList, c.argTypes.toList with
      | some [.slice _ n _], [t] => (match isSlice P t with | true => next (.int .i64 n) | false => False)
      | some [.string s], [t] => (match isString P t with | true => next (.int .i64 s.size) | false => False)
      | _, _ => False
    | .value f => match ev K f, evs K c.args.toList with
      | some fv, some l => ∃ v, (∀ w', C w' → Inv P fv l w' (callR (fun u w'' => u = v ∧ C w'') (fun _ _ => False))) ∧ next v
      | _, _ => False
    | _ => False
  | _ => False

section
variable {P : Program} {ρ : Option Nat} {N : Nat} {K : Env} {ds : List Deferred} {w : World} {a : Act} {Φ : Post}

/-- Which operations read nothing and turn nothing (0), read memory (1), call (2). -/
def kindOf : Op → Nat
  | .move _ | .assign _ | .pick .. | .nilCheck _ | .unOp .. | .fieldAddr .. | .indexAddr .. | .extract .. | .makeFunc .. => 0
  | .call c => (match c.callee with | .value _ => 2 | _ => 1)
  | _ => 1
/-- One value, in every world of the class. -/
def StillF (P : Program) (K : Env) (C : World → Prop) (type : TypeId) (op : Op) (v : Value) : Prop :=
  (kindOf op = 2 → ∀ w', C w' → opF P K w' (fun u w'' => u = v ∧ C w'') (fun _ _ => False) type op) ∧
  (kindOf op ≠ 2 → ∀ w', (kindOf op = 0 ∨ C w') → opF P K w' (fun u w'' => u = v ∧ w'' = w') (fun _ _ => False) type op)

theorem opH_still {C : World → Prop} {nx : Value → Prop} {type : TypeId} {op : Op} (h : opH P K C nx type op) : ∃ v, nx v ∧ StillF P K C type op v := by
  have z : ∀ {v : Value}, kindOf op = 0 → (∀ w', opF P K w' (fun u w'' => u = v ∧ w'' = w') (fun _ _ => False) type op) → StillF P K C type op v := fun hk h => ⟨fun h2 => by omega, fun _ w' _ => h w'⟩
  have o : ∀ {v : Value}, kindOf op = 1 → (∀ w', C w' → opF P K w' (fun u w'' => u = v ∧ w'' = w') (fun _ _ => False) type op) → StillF P K C type op v := fun hk h => ⟨fun h2 => by omega, fun _ w' hw => h w' (by rcases hw with h | h; omega; exact h)⟩
  cases op <;> simp only [opH] at h
  all_goals first | exact h.elim | skip
  case move x =>
    split at h
    · rename_i v hv; exact ⟨v, h, z rfl fun w' => by simp only [opF, hv]; exact ⟨trivial, trivial⟩⟩
    · exact h.elim
  case assign x =>
    split at h
    · rename_i v hv; exact ⟨v, h, z rfl fun w' => by simp only [opF, hv]; exact ⟨trivial, trivial⟩⟩
    · exact h.elim
  case pick c x y =>
    split at h
    · rename_i t hc
      cases t
      · have h := h.2 rfl
        split at h
        · rename_i v hv; exact ⟨v, h, z rfl fun w' => by simp [opF, hc, hv]⟩
        · exact h.elim
      · have h := h.1 rfl
        split at h
        · rename_i v hv; exact ⟨v, h, z rfl fun w' => by simp [opF, hc, hv]⟩
        · exact h.elim
    · exact h.elim
  case load t x =>
    split at h
    · rename_i b hb
      split at h
      · rename_i hg
        obtain ⟨v, hc, hn⟩ := h
        exact ⟨v, hn, o rfl fun w' hw => by simp only [opF, hb, hg]; exact ⟨v, hc w' hw, by simp⟩⟩
      · rename_i n hg
        obtain ⟨cs, hl, hc, hn⟩ := h
        exact ⟨_, hn, o rfl fun w' hw => by simp only [opF, hb, hg]; exact ⟨cs, hl, hc w' hw, by simp⟩⟩
      · exact h.elim
    · exact h.elim
  case nilCheck x =>
    split at h
    · rename_i b hb; exact ⟨_, h, z rfl fun w' => by simp only [opF, hb]; exact ⟨trivial, trivial⟩⟩
    · exact h.elim
  case binOp op t x y u =>
    split at h
    · rename_i p q hx hy
      split at h
      · rename_i ob v hb
        exact ⟨v, h.2, o rfl fun w' hw => by simp only [opF, hx, hy, hb]; exact ⟨h.1, trivial, trivial⟩⟩
      · rename_i hb
        obtain ⟨v, hv, hn⟩ := h
        exact ⟨v, hn, o rfl fun w' hw => by simp only [opF, hx, hy, hb]; exact ⟨v, w', hv w' hw, rfl, rfl⟩⟩
    · exact h.elim
  case unOp op t x =>
    cases op <;> simp only [opH] at h <;> first | exact h.elim | skip
    · split at h
      · rename_i k n hx; exact ⟨_, h.2, z rfl fun w' => by simp only [opF, hx]; exact ⟨h.1, trivial, trivial⟩⟩
      · exact h.elim
    · split at h
      · rename_i b hx; exact ⟨_, h, z rfl fun w' => by simp only [opF, hx]; exact ⟨trivial, trivial⟩⟩
      · exact h.elim
  case makeFunc f x y =>
    split at h
    · rename_i l m hl hm; exact ⟨_, h, z rfl fun w' => by simp only [opF, hl, hm]; exact ⟨trivial, trivial⟩⟩
    · exact h.elim
  case fieldAddr s x f =>
    split at h
    · rename_i b hb
      split at h
      · rename_i off ho
        exact ⟨_, h, z rfl fun w' => by simp only [opF, hb, ho]; exact ⟨trivial, trivial⟩⟩
      · exact h.elim
    · exact h.elim
  case indexAddr t x i =>
    split at h
    · rename_i b len cap k j hx hi
      split at h
      · rename_i sz ad hs
        obtain ⟨h0, h1, hn⟩ := h
        exact ⟨_, hn, z rfl fun w' => by simp only [opF, hx, hi, hs]; exact ⟨h0, h1, trivial, trivial⟩⟩
      · exact h.elim
    · rename_i ad k j hx hi
      split at h
      · rename_i n sz hs
        obtain ⟨h0, h1, hn⟩ := h
        exact ⟨_, hn, z rfl fun w' => by simp only [opF, hx, hi, hs]; exact ⟨h0, h1, trivial, trivial⟩⟩
      · exact h.elim
    · exact h.elim
  case extract x i =>
    split at h
    · rename_i vs hv
      split at h
      · rename_i v hi; exact ⟨v, h, z rfl fun w' => by simp only [opF, hv, hi]; exact ⟨trivial, trivial⟩⟩
      · exact h.elim
    · exact h.elim
  case build t ps =>
    split at h
    · rename_i l hl
      obtain ⟨v, hv, hn⟩ := h
      exact ⟨v, hn, o rfl fun w' hw => by simp only [opF, hl]; exact ⟨v, w', hv w' hw, rfl, rfl⟩⟩
    · exact h.elim
  case lookup t x i okk =>
    split at h
    · rename_i p q hx hi
      obtain ⟨v, hv, hn⟩ := h
      exact ⟨v, hn, o rfl fun w' hw => by simp only [opF, hx, hi]; exact ⟨v, w', hv w' hw, rfl, rfl⟩⟩
    · exact h.elim
  case slice t x l m u =>
    split at h
    · rename_i p q r s hx hl hm hu
      obtain ⟨v, hv, hn⟩ := h
      exact ⟨v, hn, o rfl fun w' hw => by simp only [opF, hx, hl, hm, hu]; exact ⟨v, w', hv w' hw, rfl, rfl⟩⟩
    · exact h.elim
  case call c =>
    split at h
    · rename_i hc
      have hk : kindOf (.call c) = 1 := by simp [kindOf, hc]
      split at h
      · rename_i b n cp t hl ht
        split at h
        · rename_i hi; exact ⟨_, h, o hk fun w' hw => by simp only [opF, hc, hl, ht, hi]; exact ⟨trivial, trivial⟩⟩
        · exact h.elim
      · rename_i s t hl ht
        split at h
        · rename_i hi; exact ⟨_, h, o hk fun w' hw => by simp only [opF, hc, hl, ht, hi]; exact ⟨trivial, trivial⟩⟩
        · exact h.elim
      · exact h.elim
    · rename_i f hc
      have hk : kindOf (.call c) = 2 := by simp [kindOf, hc]
      split at h
      · rename_i fv l hf hl
        obtain ⟨v, hv, hn⟩ := h
        exact ⟨v, hn, fun _ w' hw => by simp only [opF, hc, hf, hl]; exact hv w' hw, fun h2 => absurd hk h2⟩
      · exact h.elim
    · exact h.elim
end
end Go.Proofs.Vg
set_option linter.unusedVariables false
set_option linter.unusedSimpArgs false
namespace Go.Proofs.Vg
open Go Go.RowKit

/-! Regions that draw their order: some operations first, in whatever order; then the others, one behind the other. -/
def needs (o : Oper) : List Nat := o.after.toList.filterMap fun e => if Region.binds .any e then some e.on else none
/-- What must have come before each: bit sets. -/
def maskOf (acc : List Nat) (l : List Nat) : Nat := l.foldr (fun i s => s ||| (2 ^ i ||| acc.getD i 0)) 0
def masks : List Nat → List Oper → List Nat
  | acc, [] => acc
  | acc, o :: r => masks (acc ++ [maskOf acc (needs o)]) r
def looks (ops : List Oper) (o : Oper) : List Nat :=
  (o.op.operands.toList.filterMap fun | .tmp t => some t | _ => none) ++
  (match o.guard with | some (g, _) => (gdst ops g).toList | none => [])
def notSel : Op → Bool | .select .. => false | _ => true
def kindAt (ops : List Oper) (i : Nat) : Nat := match ops[i]? with | some o => kindOf o.op | none => 0
def headOk (ops : List Oper) (B : List Nat) (n j : Nat) : Bool :=
  match ops[j]? with
  | none => false
  | some o => notSel o.op && (needs o).all (· < j) && (List.range n).all fun i => match (ops[i]?).bind (·.dst) with
      | none => true
      | some d => !(looks ops o).contains d || (i != j && ((B.getD j 0).testBit i || (B.getD i 0).testBit j))
def distinctOk (ops : List Oper) (n : Nat) : Bool :=
  (List.range n).all fun i => (List.range n).all fun j => i == j || (match (ops[i]?).bind (·.dst), (ops[j]?).bind (·.dst) with
    | some d, some e => d != e
    | _, _ => true)
/-- A later operation waits for those before it, but perhaps for heads that turn nothing and that it can't tell. -/
def tailOk (ops : List Oper) (B : List Nat) (n t : Nat) : Bool :=
  match ops[t]? with
  | none => false
  | some o => notSel o.op && (needs o).all (· < t) && (List.range t).all fun i => (B.getD t 0).testBit i || (decide (i < n) && kindAt ops i != 2 && (match ops[i]? with
      | none => false
      | some oi => (match oi.dst with | some d => !(looks ops o).contains d && o.dst != some d | none => true) && (match o.dst with | some d => !(looks ops oi).contains d | none => true)))
/-- Does operation t leave some head behind that reads memory? -/
def late (ops : List Oper) (B : List Nat) (n t : Nat) : Bool := (List.range n).any fun i => !(B.getD t 0).testBit i && kindAt ops i == 1
def drawOk (ops : List Oper) (n : Nat) : Bool :=
  decide (n ≤ ops.length) && (List.range n).all (headOk ops (masks [] ops) n) && distinctOk ops n && (List.range ops.length).all fun t => decide (t < n) || tailOk ops (masks [] ops) n t
def lates (ops : List Oper) (n : Nat) : List Bool := (List.range (ops.length - n)).map fun j => late ops (masks [] ops) n (n + j)

/-- The state of a schedule. -/
def Closed (ops : List Oper) (L : Nat → Bool) : Prop := ∀ j o, ops[j]? = some o → L j = true → ∀ i ∈ needs o, L i = true

theorem maskOf_bit (acc : List Nat) : ∀ (l : List Nat) (i : Nat), (maskOf acc l).testBit i = true → ∃ k ∈ l, i = k ∨ (acc.getD k 0).testBit i = true
  | [], i, h => by simp [maskOf] at h
  | k :: l, i, h => by
    simp only [maskOf, List.foldr_cons] at h
    rw [Nat.testBit_or, Nat.testBit_or] at h
    simp only [Bool.or_eq_true] at h
    rcases h with h | h | h
    · obtain ⟨k', hk', h'⟩ := maskOf_bit acc l i h
      exact ⟨k', List.mem_cons_of_mem _ hk', h'⟩
    · rw [Nat.testBit_two_pow] at h
      have hk : k = i := by simpa using h
      exact ⟨k, List.mem_cons_self, .inl hk.symm⟩
    · exact ⟨k, List.mem_cons_self, .inr h⟩

theorem masks_spec (ops : List Oper) {L : Nat → Bool} (hc : Closed ops L) : ∀ (rest : List Oper) (acc : List Nat) (k : Nat), acc.length = k → (∀ j, rest[j]? = ops[k + j]?) →
    (∀ j, j < k → (∀ o, ops[j]? = some o → ∀ i ∈ needs o, L i = true) → ∀ i, (acc.getD j 0).testBit i = true → L i = true) →
    ∀ j, (∀ o, ops[j]? = some o → ∀ i ∈ needs o, L i = true) → ∀ i, ((masks acc rest).getD j 0).testBit i = true → L i = true
  | [], acc, k, hk, hr, hacc, j, hj, i, hb => by
    simp only [masks] at hb
    rcases Nat.lt_or_ge j k with h | h
    · exact hacc j h hj i hb
    · rw [List.getD_eq_getElem?_getD, List.getElem?_eq_none (by omega)] at hb
      simp at hb
  | o :: rest, acc, k, hk, hr, hacc, j, hj, i, hb => by
    simp only [masks] at hb
    refine masks_spec ops hc rest _ (k + 1) (by simp [hk]) (fun j => by have := hr (j + 1); simpa [Nat.add_assoc, Nat.add_comm 1 j] using this) ?_ j hj i hb
    intro j' hj' hn i' hb'
    rcases Nat.lt_or_ge j' k with h | h
    · rw [List.getD_eq_getElem?_getD, List.getElem?_append_left (by omega), ← List.getD_eq_getElem?_getD] at hb'
      exact hacc j' h hn i' hb'
    · have : j' = k := by omega
      subst this
      rw [List.getD_eq_getElem?_getD, List.getElem?_append_right (by omega), hk] at hb'
      simp at hb'
      obtain ⟨q, hq, h'⟩ := maskOf_bit _ _ _ hb'
      have ho : ops[j']? = some o := by simpa using (hr 0).symm
      have hLq := hn o ho q hq
      rcases h' with rfl | h'
      · exact hLq
      · rcases Nat.lt_or_ge q j' with hq' | hq'
        · exact hacc q hq' (fun o' ho' => hc q o' ho' hLq) i' (by simpa using h')
        · rw [List.getD_eq_getElem?_getD, List.getElem?_eq_none (by omega)] at h'
          simp at h'
theorem mask_listed {ops : List Oper} {L : Nat → Bool} (hc : Closed ops L) {j : Nat} (hj : ∀ o, ops[j]? = some o → ∀ i ∈ needs o, L i = true) {i : Nat} (hb : ((masks [] ops).getD j 0).testBit i = true) : L i = true :=
  masks_spec ops hc ops [] 0 rfl (fun j => by simp) (fun j h => absurd h (Nat.not_lt_zero _)) j hj i hb

theorem ready_iff {ops : List Oper} {listed : Array Bool} {i : Nat} (hs : listed.size = ops.length) : i ∈ Region.ready .any ops.toArray listed ↔ ∃ o, ops[i]? = some o ∧ listed.getD i false = false ∧ ∀ k ∈ needs o, listed.getD k false = true := by
  have key : ∀ i, i < ops.length → listed.getD i true = listed.getD i false := fun i hi => by simp [show i < listed.size by omega]
  simp only [Region.ready, List.mem_filter, List.mem_range, Bool.and_eq_true, Bool.not_eq_true', List.size_toArray, List.getElem?_toArray]
  constructor
  · rintro ⟨hi, h1, h2⟩
    have ho : ops[i]? = some ops[i] := List.getElem?_eq_getElem hi
    refine ⟨ops[i], ho, by rw [← key i hi]; exact h1, fun k hk => ?_⟩
    rw [ho] at h2
    simp only [Option.map_some, Option.getD_some] at h2
    simp only [needs, List.mem_filterMap] at hk
    obtain ⟨e, he, hb⟩ := hk
    split at hb
    · rename_i hbb
      cases hb
      have := Array.all_eq_true'.1 h2 e (by simpa using he)
      simp only [hbb, Bool.not_true, Bool.false_or] at this
      exact this
    · cases hb
  · rintro ⟨o, ho, h1, h2⟩
    have hi : i < ops.length := (List.getElem?_eq_some_iff.1 ho).1
    refine ⟨hi, by rw [key i hi]; exact h1, ?_⟩
    rw [ho]
    simp only [Option.map_some, Option.getD_some]
    refine Array.all_eq_true'.2 fun e he => ?_
    cases hb : Region.binds .any e with
    | false => simp
    | true =>
      simp only [Bool.not_true, Bool.false_or]
      exact h2 _ (by simp only [needs, List.mem_filterMap]; exact ⟨e, by simpa using he, by simp [hb]⟩)
end Go.Proofs.Vg
set_option linter.unusedVariables false
set_option linter.unusedSimpArgs false
namespace Go.Proofs.Vg
open Go Go.RowKit

/-- One value, and a world of the class. -/
def Upon1 (P : Program) (ρ : Option Nat) (C : World → Prop) (v : Value) : Result Next → Prop
  | .ok (.value u) w' => u = v ∧ C w'
  | .ok .skip w' => v = undef ∧ C w'
  | .ok (.enter f args) w' => CallsIn (fence ρ) 0 P f args w' (fun e w'' => e = .returned v ∧ C w'')
  | .ok (.round l f tmps as bd) w' => RoundIn (fence ρ) 0 P l f tmps as bd w' (fun e w'' => e = .returned v ∧ C w'')
  | .ok (.row row args) w' => RowsIn (fence ρ) 0 P row args w' (fun u w'' => u = v ∧ C w'')
  | _ => False

section
variable {P : Program} {ρ : Option Nat} {N : Nat} {K : Env} {ds : List Deferred} {w : World} {ops : List Oper} {n : Nat} {C : World → Prop}

theorem upon1_of_opF {o : Oper} {a : Act} {v : Value} {w' : World} (ha : Kn K N ds a) (hN : 0 < N) (h : opF P K w' (fun u w'' => u = v ∧ C w'') (fun _ _ => False) o.type o.op) :
    Upon1 P ρ C v ((o.semAt (fence ρ).round a.eval).run P w') := by
  have h1 := opF_sound (o := { o with dst := some 0 }) (ρ := ρ) (M := fun a' w'' => a'.tmps[0]? = some v ∧ C w'' ∧ a'.defers = a.defers) (Q := fun _ _ _ => False) ha h
    (fun u w'' hu => ⟨by
      have : 0 < a.tmps.size := by rw [ha.size]; exact hN
      simp [Act.put, this, hu.1], hu.2, rfl⟩) (fun _ _ h => h)
  have h2 := h1.2
  have hs : ({ o with dst := some 0 } : Oper).semAt (fence ρ).round a.eval = o.semAt (fence ρ).round a.eval := rfl
  rw [hs] at h2
  have hput : ∀ u, (a.put (some 0) u).tmps[0]? = some v → u = v := fun u hu => by
    have : 0 < a.tmps.size := by rw [ha.size]; exact hN
    simpa [Act.put, this] using hu
  generalize (o.semAt (fence ρ).round a.eval).run P w' = r at h2
  cases r with
  | ok x w1 =>
    cases x <;> simp only [Oper.uponIn] at h2 <;> simp only [Upon1]
    all_goals first | exact h2.elim | skip
    · exact ⟨hput _ h2.1, h2.2.1⟩
    · exact ⟨(hput _ h2.1).symm, h2.2.1⟩
    · refine CallsIn.mono h2.2 fun e w2 he => ?_
      cases e <;> simp only at he
      · exact ⟨by rw [hput _ he.1], he.2.1⟩
      · obtain ⟨_, _, he⟩ := he; exact he.elim
    · refine RoundIn.mono h2.2 fun e w2 he => ?_
      cases e <;> simp only at he
      · exact ⟨by rw [hput _ he.1], he.2.1⟩
      · obtain ⟨_, _, he⟩ := he; exact he.elim
    · rename_i d
      have h3 : d :: a.defers = a.defers := h2.2.2
      exact absurd (congrArg List.length h3) (by simp)
    · exact RowsIn.mono h2.2 fun u w2 he => ⟨hput _ he.1, he.2.1⟩
  | halt x w1 => cases x <;> simp only [Oper.uponIn] at h2 <;> exact h2.elim

/-- An operation that leaves one value, whenever it comes. -/
def Yl (P : Program) (ρ : Option Nat) (ops : List Oper) (C : World → Prop) (o : Oper) (v : Value) (a : Act) : Prop :=
  (Region.wanted o (yielded ops.toArray a.tmps) = true ∧ (kindOf o.op = 2 → ∀ w, C w → Upon1 P ρ C v ((o.semAt (fence ρ).round a.eval).run P w)) ∧
    (kindOf o.op ≠ 2 → ∀ w, (kindOf o.op = 0 ∨ C w) → Upon1 P ρ (fun w' => w' = w) v ((o.semAt (fence ρ).round a.eval).run P w))) ∨
  (Region.wanted o (yielded ops.toArray a.tmps) = false ∧ v = undef)

theorem upon1_next {o : Oper} {a : Act} {v : Value} {w' : World} {M : Act → World → Prop} {Q : Exit → Act → World → Prop} (h3 : Upon1 P ρ C v ((o.semAt (fence ρ).round a.eval).run P w')) (hM : ∀ w'', C w'' → M (a.put o.dst v) w'') : o.wpIn (fence ρ) 0 P a w' M Q := by
  refine ⟨fun _ _ => trivial, ?_⟩
  generalize (o.semAt (fence ρ).round a.eval).run P w' = r at h3
  cases r with
  | ok x w1 =>
    cases x <;> simp only [Upon1] at h3 <;> simp only [Oper.uponIn]
    all_goals first | exact h3.elim | skip
    · rw [h3.1]; exact hM _ h3.2
    · rw [← h3.1]; exact hM _ h3.2
    · refine ⟨fence_depth _ _, CallsIn.mono h3 fun e w2 ⟨he, hc⟩ => ?_⟩
      subst he; exact hM _ hc
    · refine ⟨fence_depth _ _, RoundIn.mono h3 fun e w2 ⟨he, hc⟩ => ?_⟩
      subst he; exact hM _ hc
    · exact ⟨fence_depth _ _, RowsIn.mono h3 fun u w2 ⟨he, hc⟩ => by subst he; exact hM _ hc⟩
  | halt x w1 => simp only [Upon1] at h3

/-- In a world of the class. -/
theorem Yl.op {i : Nat} {o : Oper} {a : Act} {v : Value} {w' : World} {M : Act → World → Prop} {Q : Exit → Act → World → Prop} (hy : Yl P ρ ops C o v a) (ho : ops[i]? = some o) (hw : C w') (hM : ∀ w'', C w'' → M (a.put o.dst v) w'') :
    wpOpIn (fence ρ) 0 P ops.toArray Q i M a w' := by
  unfold wpOpIn
  simp only [List.getElem?_toArray, ho]
  rcases hy with ⟨h1, h2, h3⟩ | ⟨h1, rfl⟩
  · rw [if_pos h1]
    by_cases hk : kindOf o.op = 2
    · exact upon1_next (h2 hk w' hw) hM
    · exact upon1_next (h3 hk w' (.inr hw)) (fun w'' h => by rw [h]; exact hM _ hw)
  · rw [if_neg (by simp [h1])]
    exact ⟨fun _ _ => trivial, hM _ hw⟩
/-- One that makes no call: it turns nothing. -/
theorem Yl.op1 {i : Nat} {o : Oper} {a : Act} {v : Value} {w' : World} {M : Act → World → Prop} {Q : Exit → Act → World → Prop} (hy : Yl P ρ ops C o v a) (ho : ops[i]? = some o) (hk : kindOf o.op ≠ 2) (hw : kindOf o.op = 0 ∨ C w') (hM : M (a.put o.dst v) w') :
    wpOpIn (fence ρ) 0 P ops.toArray Q i M a w' := by
  unfold wpOpIn
  simp only [List.getElem?_toArray, ho]
  rcases hy with ⟨h1, h2, h3⟩ | ⟨h1, rfl⟩
  · rw [if_pos h1]
    exact upon1_next (h3 hk w' hw) (fun w'' h => by rw [h]; exact hM)
  · rw [if_neg (by simp [h1])]
    exact ⟨fun _ _ => trivial, hM⟩

/-- Two acts that an operation can't tell. -/
theorem same_op {o : Oper} {a b : Act} (hsel : notSel o.op = true) (hl : ∀ t ∈ looks ops o, a.tmps[t]? = b.tmps[t]?) :
    Region.wanted o (yielded ops.toArray a.tmps) = Region.wanted o (yielded ops.toArray b.tmps) ∧ o.semAt (fence ρ).round a.eval = o.semAt (fence ρ).round b.eval := by
  have he : ∀ x ∈ o.op.operands, a.eval x = b.eval x := by
    intro x hx
    cases x with
    | tmp t =>
      have ht : t ∈ looks ops o := List.mem_append_left _ (List.mem_filterMap.2 ⟨.tmp t, by simpa using hx, rfl⟩)
      have := hl t ht
      simp only [Act.eval, Array.getD_eq_getD_getElem?, this]
    | _ => rfl
  have hexec : execOp a.eval o = execOp b.eval o := execOp_congr o (fun cs b' hc => by rw [hc] at hsel; cases hsel) he
  refine ⟨?_, ?_⟩
  · unfold Region.wanted
    cases hg : o.guard with
    | none => rfl
    | some gd =>
      obtain ⟨j, want⟩ := gd
      have : yielded ops.toArray a.tmps j = yielded ops.toArray b.tmps j := by
        unfold yielded
        simp only [List.getElem?_toArray]
        cases hj : ops[j]? with
        | none => rfl
        | some oj =>
          simp only [Option.bind_some]
          cases hd : oj.dst with
          | none => rfl
          | some d =>
            simp only [Option.bind_some]
            have : d ∈ looks ops o := List.mem_append_right _ (by rw [hg]; simp only; simp [gdst, hj, hd])
            rw [hl d this]
      simp only [this]
  · unfold Oper.semAt
    split
    · rename_i l c _ ho'
      have := resolve_congr (ρ := a.eval) (ρ' := b.eval) c o.type (fun x hx => he x (by rw [ho']; simpa [Op.operands] using hx))
      rw [this]
    · exact hexec

theorem Yl.same {o : Oper} {a b : Act} {v : Value} (hy : Yl P ρ ops C o v a) (hsel : notSel o.op = true) (hl : ∀ t ∈ looks ops o, a.tmps[t]? = b.tmps[t]?) : Yl P ρ ops C o v b := by
  obtain ⟨h1, h2⟩ := same_op (ρ := ρ) hsel hl
  unfold Yl at hy ⊢
  rw [h1, h2] at hy
  exact hy

/-- The later operations, one behind the other; 'fl': must the class hold behind this one; have all heads come. -/
def wpT (P : Program) (ρ : Option Nat) (ops : Array Oper) (C : World → Prop) (Q : Exit → Act → World → Prop) : List (Bool × Bool) → List Oper → Act → World → Prop
  | _, [], a, w => Q .normal a w
  | fl, o :: rest, a, w =>
    if Region.wanted o (yielded ops a.tmps) then o.wpIn (fence ρ) 0 P a w (fun a' w' => ((fl.headD (false, false)).1 = true → C w') ∧ wpT P ρ ops C Q fl.tail rest a' w') (fun e a' w' => (fl.headD (false, false)).2 = true ∧ Q e a' w')
    else ((fl.headD (false, false)).1 = true → C w) ∧ wpT P ρ ops C Q fl.tail rest (a.put o.dst undef) w

theorem wpIn_transfer {o : Oper} {a b : Act} {w : World} {M M' : Act → World → Prop} {Q Q' : Exit → Act → World → Prop} (hs : o.semAt (fence ρ).round a.eval = o.semAt (fence ρ).round b.eval) (hd : a.defers = b.defers)
    (h : o.wpIn (fence ρ) 0 P a w M Q) (hM : ∀ ds v w', M (({ tmps := a.tmps, defers := ds } : Act).put o.dst v) w' → M' (({ tmps := b.tmps, defers := ds } : Act).put o.dst v) w') (hQ : ∀ ch w', Q (.panic ch) a w' → Q' (.panic ch) b w') (hL : LetsOut Q → LetsOut Q') :
    o.wpIn (fence ρ) 0 P b w M' Q' := by
  obtain ⟨_, h⟩ := h
  refine ⟨fun _ _ => trivial, ?_⟩
  rw [← hs]
  have hM1 : ∀ v w', M (a.put o.dst v) w' → M' (b.put o.dst v) w' := fun v w' hm => by
    have := hM a.defers v w' hm
    rw [hd] at this
    exact this
  generalize (o.semAt (fence ρ).round a.eval).run P w = r at h
  cases r with
  | ok x w1 =>
    cases x <;> simp only [Oper.uponIn] at h ⊢
    · exact hM1 _ _ h
    · exact hM1 _ _ h
    · refine ⟨h.1, CallsIn.mono h.2 fun e w2 he => ?_⟩
      cases e <;> simp only at he ⊢
      · exact hM1 _ _ he
      · exact hQ _ _ he
      · exact hL he
    · refine ⟨h.1, RoundIn.mono h.2 fun e w2 he => ?_⟩
      cases e <;> simp only at he ⊢
      · exact hM1 _ _ he
      · exact hQ _ _ he
      · exact hL he
    · rw [← hd]; exact hM _ _ _ h
    · exact ⟨h.1, RowsIn.mono h.2 fun u w2 he => hM1 _ _ he⟩
  | halt x w1 => cases x <;> simp only [Oper.uponIn] at h ⊢ <;> exact hQ _ _ h
end
end Go.Proofs.Vg
set_option linter.unusedVariables false
set_option linter.unusedSimpArgs false
namespace Go.Proofs.Vg
open Go Go.RowKit

section
variable {P : Program} {ρ : Option Nat} {N : Nat} {K : Env} {ds : List Deferred} {w : World} {ops : List Oper} {n : Nat} {C : World → Prop} {Q : Exit → Act → World → Prop}

theorem drawOk_parts (h : drawOk ops n = true) : n ≤ ops.length ∧ (∀ j, j < n → headOk ops (masks [] ops) n j = true) ∧ distinctOk ops n = true ∧ (∀ t, n ≤ t → t < ops.length → tailOk ops (masks [] ops) n t = true) := by
  simp only [drawOk, Bool.and_eq_true, decide_eq_true_eq, List.all_eq_true, List.mem_range, Bool.or_eq_true] at h
  exact ⟨h.1.1.1, h.1.1.2, h.1.2, fun t h1 h2 => (h.2 t h2).resolve_left (by omega)⟩
theorem needs_lt (h : drawOk ops n = true) {j : Nat} {o : Oper} (ho : ops[j]? = some o) : ∀ k ∈ needs o, k < j := by
  obtain ⟨_, hh, _, ht⟩ := drawOk_parts h
  have hj : j < ops.length := (List.getElem?_eq_some_iff.1 ho).1
  intro k hk
  rcases Nat.lt_or_ge j n with hjn | hjn
  · have := hh j hjn
    simp only [headOk, ho, Bool.and_eq_true, List.all_eq_true] at this
    simpa using this.1.2 k hk
  · have := ht j hjn hj
    simp only [tailOk, ho, Bool.and_eq_true, List.all_eq_true] at this
    simpa using this.1.2 k hk
theorem sel_ok (h : drawOk ops n = true) {j : Nat} {o : Oper} (ho : ops[j]? = some o) : notSel o.op = true := by
  obtain ⟨_, hh, _, ht⟩ := drawOk_parts h
  have hj : j < ops.length := (List.getElem?_eq_some_iff.1 ho).1
  rcases Nat.lt_or_ge j n with hjn | hjn
  · have := hh j hjn
    simp only [headOk, ho, Bool.and_eq_true] at this
    exact this.1.1
  · have := ht j hjn hj
    simp only [tailOk, ho, Bool.and_eq_true] at this
    exact this.1.1
/-- A later operation and one before it. -/
theorem tail_before (h : drawOk ops n = true) {t i : Nat} {o : Oper} (ht : n ≤ t) (ho : ops[t]? = some o) (hi : i < t) :
    ((masks [] ops).getD t 0).testBit i = true ∨ (i < n ∧ kindAt ops i ≠ 2 ∧ ∃ oi, ops[i]? = some oi ∧ (∀ d, oi.dst = some d → d ∉ looks ops o ∧ o.dst ≠ some d) ∧ (∀ d, o.dst = some d → d ∉ looks ops oi)) := by
  obtain ⟨_, _, _, hh⟩ := drawOk_parts h
  have htl : t < ops.length := (List.getElem?_eq_some_iff.1 ho).1
  have := hh t ht htl
  simp only [tailOk, ho, Bool.and_eq_true, List.all_eq_true, List.mem_range] at this
  have := this.2 i hi
  simp only [Bool.or_eq_true, Bool.and_eq_true, decide_eq_true_eq, bne_iff_ne, ne_eq] at this
  rcases this with h1 | ⟨⟨h1, h2⟩, h3⟩
  · exact .inl h1
  · refine .inr ⟨h1, h2, ?_⟩
    cases hoi : ops[i]? with
    | none => rw [hoi] at h3; cases h3
    | some oi =>
      rw [hoi] at h3
      simp only [Bool.and_eq_true] at h3
      refine ⟨oi, rfl, fun d hd => ?_, fun d hd => ?_⟩
      · have := h3.1
        rw [hd] at this
        simpa using this
      · have := h3.2
        rw [hd] at this
        simpa using this

theorem getD_set {listed : Array Bool} {i k : Nat} (hi : i < listed.size) : (listed.setIfInBounds i true).getD k false = (decide (k = i) || listed.getD k false) := by
  by_cases h : k = i
  · subst h; simp [hi]
  · simp [h, Array.getElem?_setIfInBounds_ne (Ne.symm h)]

/-- What lies in the slots when some heads have come. -/
structure Sl (ops : List Oper) (n : Nat) (a0 : Act) (V : Nat → Value) (S : Nat → Bool) (b : Act) : Prop where
  defers : b.defers = a0.defers
  size : b.tmps.size = a0.tmps.size
  come : ∀ k t, k < n → S k = true → (ops[k]?).bind (·.dst) = some t → t < a0.tmps.size → b.tmps[t]? = some (V k)
  rest : ∀ t, (∀ k, k < n → S k = true → (ops[k]?).bind (·.dst) ≠ some t) → b.tmps[t]? = a0.tmps[t]?

theorem Sl.eq {a0 b b' : Act} {V : Nat → Value} {S : Nat → Bool} (h : Sl ops n a0 V S b) (h' : Sl ops n a0 V S b') : b = b' := by
  have ht : b.tmps = b'.tmps := by
    apply Array.ext_getElem?
    intro t
    by_cases hx : ∃ k, k < n ∧ S k = true ∧ (ops[k]?).bind (·.dst) = some t
    · obtain ⟨k, hk, hs, hd⟩ := hx
      rcases Nat.lt_or_ge t a0.tmps.size with hlt | hge
      · rw [h.come k t hk hs hd hlt, h'.come k t hk hs hd hlt]
      · rw [Array.getElem?_eq_none (by rw [h.size]; exact hge), Array.getElem?_eq_none (by rw [h'.size]; exact hge)]
    · have hr : ∀ k, k < n → S k = true → (ops[k]?).bind (·.dst) ≠ some t := fun k hk hs hd => hx ⟨k, hk, hs, hd⟩
      rw [h.rest t hr, h'.rest t hr]
  cases b; cases b'
  simp only [Act.mk.injEq]
  exact ⟨ht, h.defers.trans h'.defers.symm⟩

theorem Sl.put (hd : distinctOk ops n = true) {a0 b : Act} {V : Nat → Value} {S S' : Nat → Bool} (h : Sl ops n a0 V S b) {i : Nat} {o : Oper} (hi : i < n) (ho : ops[i]? = some o)
    (hS : ∀ k, k < n → (S' k = true ↔ k = i ∨ S k = true)) : Sl ops n a0 V S' (b.put o.dst (V i)) := by
  have hdist : ∀ k t, k < n → k ≠ i → (ops[k]?).bind (·.dst) = some t → o.dst ≠ some t := by
    intro k t hk hki hkd hod
    have := List.all_eq_true.1 (List.all_eq_true.1 hd k (List.mem_range.2 hk)) i (List.mem_range.2 hi)
    simp only [hkd, ho, Option.bind_some, hod, Bool.or_eq_true, beq_iff_eq, bne_iff_ne, ne_eq, not_true_eq_false, or_false] at this
    exact hki this
  refine ⟨?_, ?_, ?_, ?_⟩
  · cases o.dst <;> exact h.defers
  · cases o.dst <;> simp [Act.put, h.size]
  · intro k t hk hs hkd hlt
    by_cases hki : k = i
    · subst hki
      have hod : o.dst = some t := by simpa [ho] using hkd
      simp [Act.put, hod, h.size, hlt]
    · have hs' : S k = true := by
        rcases (hS k hk).1 hs with h | h
        · exact absurd h hki
        · exact h
      have hne := hdist k t hk hki hkd
      have := h.come k t hk hs' hkd hlt
      cases hod : o.dst with
      | none => exact this
      | some d =>
        have : d ≠ t := fun e => hne (by rw [hod, e])
        simp only [Act.put, Array.getElem?_setIfInBounds_ne this]
        assumption
  · intro t hr
    have h1 := h.rest t (fun k hk hs => hr k hk ((hS k hk).2 (.inr hs)))
    have h2 := hr i hi ((hS i hi).2 (.inl rfl))
    cases hod : o.dst with
    | none => exact h1
    | some d =>
      have : d ≠ t := fun e => h2 (by simp [ho, hod, e])
      simp only [Act.put, Array.getElem?_setIfInBounds_ne this]
      exact h1
end
end Go.Proofs.Vg
set_option linter.unusedVariables false
set_option linter.unusedSimpArgs false
namespace Go.Proofs.Vg
open Go Go.RowKit

section
variable {P : Program} {ρ : Option Nat} {N : Nat} {K : Env} {ds : List Deferred} {w : World} {ops : List Oper} {n : Nat} {C : World → Prop} {Q : Exit → Act → World → Prop}

/-- What each later operation needs to know: does it leave a head behind that reads memory; have all heads come. -/
def flagOf (ops : List Oper) (n t : Nat) : Bool × Bool := (late ops (masks [] ops) n t, (List.range n).all fun i => ((masks [] ops).getD t 0).testBit i)
def flags (ops : List Oper) (n : Nat) : List (Bool × Bool) := (List.range (ops.length - n)).map fun j => flagOf ops n (n + j)

/-- The slots that no later operation has written: as in 'Sl'. -/
structure SlD (ops : List Oper) (n t : Nat) (a0 : Act) (V : Nat → Value) (S : Nat → Bool) (b : Act) : Prop where
  size : b.tmps.size = a0.tmps.size
  come : ∀ s, (∀ k, n ≤ k → k < t → (ops[k]?).bind (·.dst) ≠ some s) → ∀ k, k < n → S k = true → (ops[k]?).bind (·.dst) = some s → s < a0.tmps.size → b.tmps[s]? = some (V k)
  rest : ∀ s, (∀ k, n ≤ k → k < t → (ops[k]?).bind (·.dst) ≠ some s) → (∀ k, k < n → S k = true → (ops[k]?).bind (·.dst) ≠ some s) → b.tmps[s]? = a0.tmps[s]?
/-- The act as it is, and as it would be had all heads come. -/
structure Sim (ops : List Oper) (n : Nat) (V : Nat → Value) (S : Nat → Bool) (b bs : Act) : Prop where
  size : bs.tmps.size = b.tmps.size
  defers : bs.defers = b.defers
  come : ∀ s k, k < n → S k = false → (ops[k]?).bind (·.dst) = some s → s < b.tmps.size → bs.tmps[s]? = some (V k)
  rest : ∀ s, (∀ k, k < n → S k = false → (ops[k]?).bind (·.dst) ≠ some s) → bs.tmps[s]? = b.tmps[s]?

theorem distinct_heads (hd : distinctOk ops n = true) {i k : Nat} (hi : i < n) (hk : k < n) {s : Nat} (h1 : (ops[i]?).bind (·.dst) = some s) (h2 : (ops[k]?).bind (·.dst) = some s) : i = k := by
  have := List.all_eq_true.1 (List.all_eq_true.1 hd i (List.mem_range.2 hi)) k (List.mem_range.2 hk)
  simp only [h1, h2, Bool.or_eq_true, beq_iff_eq, bne_iff_ne, ne_eq, not_true_eq_false, or_false] at this
  exact this

/-- The slots that a ready head looks at are as in the order of the text. -/
theorem look_head (h : drawOk ops n = true) {A0 Ai b : Act} {V : Nat → Value} {i t : Nat} {o : Oper} {L : Nat → Bool} (hi : i < n) (ho : ops[i]? = some o) (hlex : Sl ops n A0 V (fun k => decide (k < i)) Ai)
    (hc : Closed ops L) (h2 : ∀ k ∈ needs o, L k = true) (h1 : L i = false) (hb : SlD ops n t A0 V L b) (htail : ∀ k, n ≤ k → k < t → ∀ d, (ops[k]?).bind (·.dst) = some d → d ∉ looks ops o) :
    ∀ s ∈ looks ops o, Ai.tmps[s]? = b.tmps[s]? := by
  obtain ⟨hn, hheads, hdist, _⟩ := drawOk_parts h
  have get : ∀ i, i < n → ∃ o, ops[i]? = some o := fun i hi => ⟨ops[i]'(by omega), List.getElem?_eq_getElem (by omega)⟩
  have hho := hheads i hi
  simp only [headOk, ho, Bool.and_eq_true, List.all_eq_true, List.mem_range] at hho
  obtain ⟨_, hdep⟩ := hho
  have hml : ∀ k, ((masks [] ops).getD i 0).testBit k = true → L k = true := fun k hb =>
    mask_listed hc (j := i) (fun o'' ho'' k' hk' => by rw [ho] at ho''; cases ho''; exact h2 k' hk') hb
  have hmlex : ∀ k, ((masks [] ops).getD i 0).testBit k = true → k < i := fun k hb => by
    have hclex : Closed ops (fun k => decide (k < i)) := fun j o' ho' hj k hk => by
      have := needs_lt h ho' k hk
      simp only [decide_eq_true_eq] at hj ⊢
      omega
    have := mask_listed hclex (j := i) (fun o'' ho'' k' hk' => by rw [ho] at ho''; cases ho''; simpa using needs_lt h ho k' hk') hb
    simpa using this
  have hmlt : ∀ k, k < n → ((masks [] ops).getD k 0).testBit i = true → i < k := fun k hk hb => by
    obtain ⟨o', ho'⟩ := get k hk
    have hck : Closed ops (fun j => decide (j < k)) := fun j o' ho' hj q hq => by
      have := needs_lt h ho' q hq
      simp only [decide_eq_true_eq] at hj ⊢
      omega
    have := mask_listed hck (j := k) (fun o'' ho'' k' hk' => by simpa using needs_lt h ho'' k' hk') hb
    simpa using this
  have hnd : ∀ j, j < n → ((masks [] ops).getD j 0).testBit i = true → L j = false := fun j hj hb => by
    cases h0 : L j with
    | false => rfl
    | true =>
      have := mask_listed hc (j := j) (fun o'' ho'' k' hk' => hc j o'' ho'' h0 k' hk') hb
      rw [h1] at this; cases this
  intro s hs
  have hts : ∀ k, n ≤ k → k < t → (ops[k]?).bind (·.dst) ≠ some s := fun k hk1 hk2 hd => htail k hk1 hk2 s hd hs
  by_cases hx : ∃ k, k < n ∧ (ops[k]?).bind (·.dst) = some s
  · obtain ⟨k, hk, hkd⟩ := hx
    have hd := hdep k hk
    rw [hkd] at hd
    have htc : (looks ops o).contains s = true := by simpa using hs
    simp only [htc, Bool.not_true, Bool.false_or, Bool.and_eq_true, bne_iff_ne, ne_eq, Bool.or_eq_true] at hd
    obtain ⟨hki, hd⟩ := hd
    rcases hd with hd | hd
    · have h3 := hml k hd
      have h4 := hmlex k hd
      rcases Nat.lt_or_ge s A0.tmps.size with hlt | hge
      · rw [hlex.come k s hk (by simpa using h4) hkd hlt, hb.come s hts k hk h3 hkd hlt]
      · rw [Array.getElem?_eq_none (by rw [hlex.size]; exact hge), Array.getElem?_eq_none (by rw [hb.size]; exact hge)]
    · have h3 := hnd k hk hd
      have h4 := hmlt k hk hd
      rw [hlex.rest s (fun q hq hs' hqd => by have := distinct_heads hdist hq hk hqd hkd; subst this; simp at hs'; omega),
        hb.rest s hts (fun q hq hs' hqd => by have := distinct_heads hdist hq hk hqd hkd; subst this; rw [h3] at hs'; cases hs')]
  · rw [hlex.rest s (fun q hq _ hqd => hx ⟨q, hq, hqd⟩), hb.rest s hts (fun q hq _ hqd => hx ⟨q, hq, hqd⟩)]

/-- How many heads have not come. -/
def missing (n : Nat) (listed : Array Bool) : List Nat := (List.range n).filter fun k => !listed.getD k false
theorem missing_mem {listed : Array Bool} {k : Nat} : k ∈ missing n listed ↔ k < n ∧ listed.getD k false = false := by simp [missing]
theorem missing_set {listed : Array Bool} {i : Nat} (hi : i < n) (hs : i < listed.size) (h1 : listed.getD i false = false) : (missing n (listed.setIfInBounds i true)).length + 1 = (missing n listed).length := by
  have heq : missing n (listed.setIfInBounds i true) = (missing n listed).filter (fun k => decide (k ≠ i)) := by
    unfold missing
    rw [List.filter_filter]
    apply List.filter_congr
    intro k _
    rw [getD_set hs]
    cases hk : decide (k = i) <;> simp_all
  have hnd : (missing n listed).Nodup := List.Nodup.sublist List.filter_sublist List.nodup_range
  have hmem : i ∈ missing n listed := missing_mem.2 ⟨hi, h1⟩
  rw [heq]
  generalize missing n listed = l at hnd hmem
  have he : l.filter (fun k => decide (k ≠ i)) = l.erase i := by
    rw [hnd.erase_eq_filter]
    apply List.filter_congr
    intro x _
    by_cases hx : x = i <;> simp [hx]
  rw [he, List.length_erase_of_mem hmem]
  have : 0 < l.length := List.length_pos_of_mem hmem
  omega
theorem missing_first {listed : Array Bool} (h : missing n listed ≠ []) : ∃ i, i < n ∧ listed.getD i false = false ∧ ∀ k, k < i → listed.getD k false = true := by
  obtain ⟨x, hx⟩ := List.exists_mem_of_ne_nil _ h
  rw [missing_mem] at hx
  revert hx
  induction x using Nat.strongRecOn with
  | _ i ih' =>
    intro hi
    by_cases hx : ∃ k, k < i ∧ listed.getD k false = false
    · obtain ⟨k, hk, hk0⟩ := hx
      exact ih' k hk ⟨by omega, hk0⟩
    · refine ⟨i, hi.1, hi.2, fun k hk => ?_⟩
      cases h0 : listed.getD k false with
      | true => rfl
      | false => exact absurd ⟨k, hk, h0⟩ hx

theorem phaseB (h : drawOk ops n = true) {A : Nat → Act} {V : Nat → Value} (lexA : ∀ i, i ≤ n → Sl ops n (A 0) V (fun k => decide (k < i)) (A i))
    (still : ∀ i o, i < n → ops[i]? = some o → Yl P ρ ops C o (V i) (A i)) :
    ∀ (fuel : Nat) (listed : Array Bool) (t : Nat) (b bs : Act) (w : World), listed.size = ops.length → n ≤ t → t ≤ ops.length → (∀ k, n ≤ k → k < ops.length → (listed.getD k false = decide (k < t))) →
      Closed ops (fun k => listed.getD k false) → (∀ k, k < n → listed.getD k false = false → kindAt ops k ≠ 2) → ((∃ k, k < n ∧ listed.getD k false = false ∧ kindAt ops k = 1) → C w) →
      SlD ops n t (A 0) V (fun k => listed.getD k false) b → Sim ops n V (fun k => listed.getD k false) b bs →
      wpT P ρ ops.toArray C Q ((flags ops n).drop (t - n)) (ops.drop t) bs w → (missing n listed).length + (ops.length - t) ≤ fuel →
      wpAnyIn (fence ρ) 0 P .any ops.toArray Q fuel listed b w := by
  obtain ⟨hn, hheads, hdist, _⟩ := drawOk_parts h
  have get : ∀ i, i < ops.length → ∃ o, ops[i]? = some o := fun i hi => ⟨ops[i]'hi, List.getElem?_eq_getElem hi⟩
  intro fuel
  induction fuel with
  | zero =>
    intro listed t b bs w hs hnt htm hL hc hk2 hk1 hsl hsim hw hf
    have hm0 : missing n listed = [] := List.eq_nil_of_length_eq_zero (by omega)
    have ht : t = ops.length := by omega
    have hall : ∀ k, k < n → listed.getD k false = true := fun k hk => by
      cases h0 : listed.getD k false with
      | true => rfl
      | false => have := missing_mem.2 ⟨hk, h0⟩; rw [hm0] at this; cases this
    have hbs : bs = b := by
      have : bs.tmps = b.tmps := Array.ext_getElem? (fun s => hsim.rest s (fun k hk hs => by rw [hall k hk] at hs; cases hs))
      cases bs; cases b; simp only [Act.mk.injEq]; exact ⟨this, hsim.defers⟩
    subst hbs
    refine ⟨?_, ?_⟩
    · rw [List.eq_nil_iff_forall_not_mem]
      intro i hi
      obtain ⟨o, ho, h1, _⟩ := (ready_iff hs).1 hi
      have hil : i < ops.length := (List.getElem?_eq_some_iff.1 ho).1
      rcases Nat.lt_or_ge i n with h | h
      · rw [hall i h] at h1; cases h1
      · rw [hL i h hil] at h1; simp at h1; omega
    · have hdr : ops.drop t = [] := List.drop_eq_nil_iff.2 (by omega)
      rw [hdr] at hw
      exact hw
  | succ fuel ih =>
    intro listed t b bs w hs hnt htm hL hc hk2 hk1 hsl hsim hw hf
    refine ⟨fun h0 => ?_, fun i hi => ?_⟩
    · -- nothing is ready: all is done
      by_cases hm : missing n listed = []
      · have hall : ∀ k, k < n → listed.getD k false = true := fun k hk => by
          cases h0 : listed.getD k false with
          | true => rfl
          | false => have := missing_mem.2 ⟨hk, h0⟩; rw [hm] at this; cases this
        by_cases ht : t = ops.length
        · have hbs : bs = b := by
            have : bs.tmps = b.tmps := Array.ext_getElem? (fun s => hsim.rest s (fun k hk hs => by rw [hall k hk] at hs; cases hs))
            cases bs; cases b; simp only [Act.mk.injEq]; exact ⟨this, hsim.defers⟩
          subst hbs
          have hdr : ops.drop t = [] := List.drop_eq_nil_iff.2 (by omega)
          rw [hdr] at hw
          exact hw
        · obtain ⟨o, ho⟩ := get t (by omega)
          have : t ∈ Region.ready .any ops.toArray listed := (ready_iff hs).2 ⟨o, ho, by rw [hL t hnt (by omega)]; simp, fun k hk => by
            have hkt := needs_lt h ho k hk
            rcases Nat.lt_or_ge k n with h | h
            · exact hall k h
            · rw [hL k h (by omega)]; simpa using hkt⟩
          rw [h0] at this
          cases this
      · obtain ⟨i, hi, h1, h2⟩ := missing_first hm
        obtain ⟨o, ho⟩ := get i (by omega)
        have : i ∈ Region.ready .any ops.toArray listed := (ready_iff hs).2 ⟨o, ho, h1, fun k hk => h2 k (needs_lt h ho k hk)⟩
        rw [h0] at this
        cases this
    · obtain ⟨o, ho, h1, h2⟩ := (ready_iff hs).1 hi
      have hil : i < ops.length := (List.getElem?_eq_some_iff.1 ho).1
      have hset : ∀ k, (listed.setIfInBounds i true).getD k false = (decide (k = i) || listed.getD k false) := fun k => getD_set (by omega)
      have hmi : ∀ k, ((masks [] ops).getD i 0).testBit k = true → listed.getD k false = true := fun k hb =>
        mask_listed hc (j := i) (fun o'' ho'' k' hk' => by rw [ho] at ho''; cases ho''; exact h2 k' hk') hb
      rcases Nat.lt_or_ge i n with hin | hin
      · -- a head
        have htail : ∀ k, n ≤ k → k < t → ∀ d, (ops[k]?).bind (·.dst) = some d → d ∉ looks ops o := fun k hk1 hk2 d hd => by
          obtain ⟨ok_, hok⟩ := get k (by omega)
          have hLk : listed.getD k false = true := by rw [hL k hk1 (by omega)]; simpa using hk2
          rcases tail_before h hk1 hok (by omega : i < k) with hb | ⟨_, _, oi, hoi, hx1, hx2⟩
          · have := mask_listed hc (j := k) (fun o'' ho'' k' hk' => hc k o'' ho'' hLk k' hk') hb
            rw [h1] at this; cases this
          · rw [ho] at hoi; cases hoi
            exact hx2 d (by simpa [hok] using hd)
        have hlook := look_head h hin ho (lexA i (by omega)) hc h2 h1 hsl htail
        have hy := (still i o hin ho).same (sel_ok h ho) hlook
        have hkind : kindOf o.op = kindAt ops i := by simp [kindAt, ho]
        refine hy.op1 ho (by rw [hkind]; exact hk2 i hin h1) (by
          rw [hkind]
          have h2' := hk2 i hin h1
          have : kindAt ops i ≤ 2 := by
            unfold kindAt
            split
            · rename_i o' _
              unfold kindOf
              split <;> first | omega | (split <;> omega)
            · omega
          by_cases h3 : kindAt ops i = 0
          · exact .inl h3
          · exact .inr (hk1 ⟨i, hin, h1, by omega⟩)) ?_
        refine ih _ t _ bs w (by simp [hs]) hnt htm ?_ ?_ ?_ ?_ ?_ ?_ hw ?_
        · intro k hk1 hk2
          rw [hset, hL k hk1 hk2]
          have : k ≠ i := by omega
          simp [this]
        · intro j o' ho' hj k hk
          simp only [hset, Bool.or_eq_true, decide_eq_true_eq] at hj ⊢
          rcases hj with rfl | hj
          · rw [ho] at ho'; cases ho'; exact .inr (h2 k hk)
          · exact .inr (hc j o' ho' hj k hk)
        · intro k hk hk0
          rw [hset] at hk0
          simp only [Bool.or_eq_false_iff] at hk0
          exact hk2 k hk hk0.2
        · rintro ⟨k, hk, hk0, hkk⟩
          rw [hset] at hk0
          simp only [Bool.or_eq_false_iff] at hk0
          exact hk1 ⟨k, hk, hk0.2, hkk⟩
        · refine ⟨?_, ?_, ?_⟩
          · cases o.dst <;> simp [Act.put, hsl.size]
          · intro s hts k hk hks hkd hlt
            rw [hset] at hks
            simp only [Bool.or_eq_true, decide_eq_true_eq] at hks
            by_cases hki : k = i
            · subst hki
              have hod : o.dst = some s := by simpa [ho] using hkd
              simp [Act.put, hod, hsl.size, hlt]
            · have hks' : listed.getD k false = true := hks.resolve_left hki
              have := hsl.come s hts k hk hks' hkd hlt
              cases hod : o.dst with
              | none => exact this
              | some d =>
                have hne : d ≠ s := fun e => hki (distinct_heads hdist hk hin hkd (by simp [ho, hod, e]))
                simp only [Act.put, Array.getElem?_setIfInBounds_ne hne]
                exact this
          · intro s hts hr
            have h3 := hsl.rest s hts (fun k hk hks => hr k hk (by rw [hset]; simp [hks]))
            have h4 := hr i hin (by rw [hset]; simp)
            cases hod : o.dst with
            | none => exact h3
            | some d =>
              have hne : d ≠ s := fun e => h4 (by simp [ho, hod, e])
              simp only [Act.put, Array.getElem?_setIfInBounds_ne hne]
              exact h3
        · refine ⟨?_, ?_, ?_, ?_⟩
          · rw [hsim.size]; cases o.dst <;> simp [Act.put]
          · rw [hsim.defers]; cases o.dst <;> rfl
          · intro s k hk hks hkd hlt
            rw [hset] at hks
            simp only [Bool.or_eq_false_iff] at hks
            exact hsim.come s k hk hks.2 hkd (by
              have : (b.put o.dst (V i)).tmps.size = b.tmps.size := by cases o.dst <;> simp [Act.put]
              rw [this] at hlt; exact hlt)
          · intro s hr
            by_cases hsi : o.dst = some s
            · rcases Nat.lt_or_ge s b.tmps.size with hlt | hge
              · rw [hsim.come s i hin h1 (by simp [ho, hsi]) hlt]
                simp [Act.put, hsi, hlt]
              · rw [Array.getElem?_eq_none (by rw [hsim.size]; exact hge), Array.getElem?_eq_none (by simp [Act.put, hsi]; exact hge)]
            · have h3 := hsim.rest s (fun k hk hks hkd => by
                by_cases hki : k = i
                · subst hki; exact hsi (by simpa [ho] using hkd)
                · exact hr k hk (by rw [hset]; simp [hki, hks]) hkd)
              rw [h3]
              cases hod : o.dst with
              | none => rfl
              | some d =>
                have hne : d ≠ s := fun e => hsi (by rw [hod, e])
                simp only [Act.put, Array.getElem?_setIfInBounds_ne hne]
        · have := missing_set hin (by omega) h1
          omega
      · -- the next of the later ones
        have hit : i = t := by
          rcases Nat.lt_trichotomy i t with hlt | heq | hgt
          · rw [hL i hin hil] at h1; simp at h1; omega
          · exact heq
          · rcases tail_before h hin ho hgt with hb | ⟨hx, _⟩
            · have := hmi t hb
              rw [hL t hnt (by omega)] at this
              simp at this
            · omega
        subst hit
        have hlook : ∀ s ∈ looks ops o, bs.tmps[s]? = b.tmps[s]? := fun s hs' => hsim.rest s (fun k hk hks hkd => by
          rcases tail_before h hin ho (by omega : k < i) with hb | ⟨_, _, oi, hoi, hx1, _⟩
          · rw [hmi k hb] at hks; cases hks
          · exact (hx1 s (by simpa [hoi] using hkd)).1 hs')
        obtain ⟨hwant, hsem⟩ := same_op (ρ := ρ) (sel_ok h ho) hlook
        have hdr : ops.drop i = o :: ops.drop (i + 1) := by
          rw [List.drop_eq_getElem_cons hil]
          congr 1
          have := List.getElem?_eq_getElem hil
          rw [ho] at this; cases this; rfl
        rw [hdr] at hw
        have hfl : (flags ops n).drop (i - n) = flagOf ops n i :: (flags ops n).drop (i + 1 - n) := by
          have hlt : i - n < (flags ops n).length := by simp [flags]; omega
          rw [List.drop_eq_getElem_cons hlt]
          congr 1
          · simp [flags]; congr 1; omega
          · congr 1; omega
        rw [hfl] at hw
        unfold wpT at hw
        simp only [List.headD_cons, List.tail_cons] at hw
        have hfull : (flagOf ops n i).2 = true → b = bs := fun hf' => by
          simp only [flagOf, List.all_eq_true, List.mem_range] at hf'
          have hall : ∀ k, k < n → listed.getD k false = true := fun k hk => hmi k (hf' k hk)
          have : bs.tmps = b.tmps := Array.ext_getElem? (fun s => hsim.rest s (fun k hk hs => by rw [hall k hk] at hs; cases hs))
          cases bs; cases b; simp only [Act.mk.injEq]; exact ⟨this.symm, hsim.defers.symm⟩
        have next : ∀ (ds : List Deferred) (v : Value) (w' : World), ((flagOf ops n i).1 = true → C w') → wpT P ρ ops.toArray C Q ((flags ops n).drop (i + 1 - n)) (ops.drop (i + 1)) (({ tmps := bs.tmps, defers := ds } : Act).put o.dst v) w' →
            wpAnyIn (fence ρ) 0 P .any ops.toArray Q fuel (listed.setIfInBounds i true) (({ tmps := b.tmps, defers := ds } : Act).put o.dst v) w' := by
          intro ds v w' hC hw'
          refine ih _ (i + 1) _ _ w' (by simp [hs]) (by omega) (by omega) ?_ ?_ ?_ ?_ ?_ ?_ hw' ?_
          · intro k hk1 hk2
            rw [hset, hL k hk1 hk2]
            by_cases hki : k = i
            · subst hki; simp
            · simp only [hki, decide_false, Bool.false_or, decide_eq_decide]; omega
          · intro j o' ho' hj k hk
            simp only [hset, Bool.or_eq_true, decide_eq_true_eq] at hj ⊢
            rcases hj with rfl | hj
            · rw [ho] at ho'; cases ho'; exact .inr (h2 k hk)
            · exact .inr (hc j o' ho' hj k hk)
          · intro k hk hk0
            rw [hset] at hk0
            simp only [Bool.or_eq_false_iff] at hk0
            exact hk2 k hk hk0.2
          · rintro ⟨k, hk, hk0, hkk⟩
            rw [hset] at hk0
            simp only [Bool.or_eq_false_iff] at hk0
            refine hC ?_
            simp only [flagOf, late, List.any_eq_true, List.mem_range, Bool.and_eq_true, Bool.not_eq_true', beq_iff_eq]
            refine ⟨k, hk, ?_, hkk⟩
            cases hb : ((masks [] ops).getD i 0).testBit k with
            | false => rfl
            | true => rw [hmi k hb] at hk0; cases hk0.2
          · refine ⟨?_, ?_, ?_⟩
            · cases o.dst <;> simp [Act.put, hsl.size]
            · intro s hts k hk hks hkd hlt
              rw [hset] at hks
              have hki : k ≠ i := by omega
              simp only [hki, decide_false, Bool.false_or] at hks
              have := hsl.come s (fun q hq1 hq2 => hts q hq1 (by omega)) k hk hks hkd hlt
              have h3 := hts i hin (by omega)
              cases hod : o.dst with
              | none => exact this
              | some d =>
                have hne : d ≠ s := fun e => h3 (by simp [ho, hod, e])
                simp only [Act.put, Array.getElem?_setIfInBounds_ne hne]
                exact this
            · intro s hts hr
              have h3 := hts i hin (by omega)
              have h4 := hsl.rest s (fun q hq1 hq2 => hts q hq1 (by omega)) (fun k hk hks => hr k hk (by rw [hset]; simp [hks]))
              cases hod : o.dst with
              | none => exact h4
              | some d =>
                have hne : d ≠ s := fun e => h3 (by simp [ho, hod, e])
                simp only [Act.put, Array.getElem?_setIfInBounds_ne hne]
                exact h4
          · have hkeep : ∀ k, k < n → (listed.setIfInBounds i true).getD k false = false → listed.getD k false = false := fun k hk hks => by
              rw [hset] at hks
              simp only [Bool.or_eq_false_iff] at hks
              exact hks.2
            refine ⟨?_, ?_, ?_, ?_⟩
            · cases o.dst <;> simp [Act.put, hsim.size]
            · cases o.dst <;> rfl
            · intro s k hk hks hkd hlt
              have hks' := hkeep k hk hks
              have hlt' : s < b.tmps.size := by
                have : (({ tmps := b.tmps, defers := ds } : Act).put o.dst v).tmps.size = b.tmps.size := by cases o.dst <;> simp [Act.put]
                rw [this] at hlt; exact hlt
              have h3 := hsim.come s k hk hks' hkd hlt'
              have hne : o.dst ≠ some s := by
                rcases tail_before h hin ho (by omega : k < i) with hb | ⟨_, _, oi, hoi, hx1, _⟩
                · rw [hmi k hb] at hks'; cases hks'
                · exact (hx1 s (by simpa [hoi] using hkd)).2
              cases hod : o.dst with
              | none => exact h3
              | some d =>
                have hne' : d ≠ s := fun e => hne (by rw [hod, e])
                simp only [Act.put, Array.getElem?_setIfInBounds_ne hne']
                exact h3
            · intro s hr
              have h3 := hsim.rest s (fun k hk hks hkd => hr k hk (by
                rw [hset]
                have : k ≠ i := by omega
                simp [this, hks]) hkd)
              cases hod : o.dst with
              | none => exact h3
              | some d =>
                by_cases hds : d = s
                · subst hds
                  rcases Nat.lt_or_ge d b.tmps.size with hlt | hge
                  · simp [Act.put, hlt, hsim.size]
                  · rw [Array.getElem?_eq_none (by simp [Act.put, hsim.size]; exact hge), Array.getElem?_eq_none (by simp [Act.put]; exact hge)]
                · simp only [Act.put, Array.getElem?_setIfInBounds_ne hds]
                  exact h3
          · have hmeq : missing n (listed.setIfInBounds i true) = missing n listed := by
              unfold missing
              apply List.filter_congr
              intro k hk
              have hkn : k < n := List.mem_range.1 hk
              have : k ≠ i := by omega
              rw [hset]; simp [this]
            rw [hmeq]
            omega
        unfold wpOpIn
        simp only [List.getElem?_toArray, ho]
        rw [hwant] at hw
        split
        · rename_i hwt
          rw [if_pos hwt] at hw
          refine wpIn_transfer hsem hsim.defers hw (fun ds v w' hm => next ds v w' hm.1 hm.2) (fun ch w' hq => by rw [hfull hq.1]; exact hq.2) (fun ⟨a, w, hq⟩ => ⟨a, w, hq.2⟩)
        · rename_i hwt
          rw [if_neg hwt] at hw
          refine ⟨fun _ _ => trivial, ?_⟩
          have := next b.defers undef w hw.1 (by have := hw.2; rw [← hsim.defers]; exact this)
          exact this

theorem any_of_heads (h : drawOk ops n = true) {A : Nat → Act} {V : Nat → Value} (step : ∀ i o, i < n → ops[i]? = some o → A (i + 1) = (A i).put o.dst (V i))
    (still : ∀ i o, i < n → ops[i]? = some o → Yl P ρ ops C o (V i) (A i)) (tail : ∀ w', C w' → wpT P ρ ops.toArray C Q (flags ops n) (ops.drop n) (A n) w') {w : World} (hw : C w) :
    wpAnyIn (fence ρ) 0 P .any ops.toArray Q ops.length (Array.replicate ops.length false) (A 0) w := by
  obtain ⟨hn, hheads, hdist, _⟩ := drawOk_parts h
  have get : ∀ i, i < ops.length → ∃ o, ops[i]? = some o := fun i hi => ⟨ops[i]'hi, List.getElem?_eq_getElem hi⟩
  have lexA : ∀ i, i ≤ n → Sl ops n (A 0) V (fun k => decide (k < i)) (A i) := by
    intro i
    induction i with
    | zero => intro _; exact ⟨rfl, rfl, fun k t _ hs => by simp at hs, fun t _ => rfl⟩
    | succ i ih =>
      intro hi
      obtain ⟨o, ho⟩ := get i (by omega)
      rw [step i o (by omega) ho]
      exact (ih (by omega)).put hdist (by omega) ho (fun k _ => by simp; omega)
  have main : ∀ (u : Nat) (listed : Array Bool) (b : Act) (w : World) (fuel : Nat), (missing n listed).length = u → u + (ops.length - n) ≤ fuel → listed.size = ops.length →
      (∀ k, listed.getD k false = true → k < n) → Closed ops (fun k => listed.getD k false) → Sl ops n (A 0) V (fun k => listed.getD k false) b → C w →
      wpAnyIn (fence ρ) 0 P .any ops.toArray Q fuel listed b w := by
    intro u
    induction u with
    | zero =>
      intro listed b w fuel hu hf hs hL hc hsl hw
      have hm0 : missing n listed = [] := List.eq_nil_of_length_eq_zero hu
      have hall : ∀ k, k < n → listed.getD k false = true := fun k hk => by
        cases h0 : listed.getD k false with
        | true => rfl
        | false => have := missing_mem.2 ⟨hk, h0⟩; rw [hm0] at this; cases this
      refine phaseB h lexA still fuel listed n b (A n) w hs (Nat.le_refl _) hn ?_ hc (fun k hk h0 => by rw [hall k hk] at h0; cases h0) (fun _ => hw) ⟨hsl.size, fun s _ => fun k hk hS hd hlt => hsl.come k s hk hS hd hlt, fun s _ hr => hsl.rest s hr⟩ ?_ (by simpa using tail w hw) (by omega)
      · intro k hk1 hk2
        cases h0 : listed.getD k false with
        | false => simp; omega
        | true => have := hL k h0; omega
      · have : b = A n := hsl.eq (by
          have := lexA n (Nat.le_refl _)
          exact ⟨this.defers, this.size, fun k t hk _ => this.come k t hk (by simpa using hk), fun t hr => this.rest t (fun k hk _ => hr k hk (hall k hk))⟩)
        subst this
        exact ⟨rfl, rfl, (fun s k hk h0 => by rw [hall k hk] at h0; cases h0), fun _ _ => rfl⟩
    | succ u ih =>
      intro listed b w fuel hu hf hs hL hc hsl hw
      by_cases h2x : ∃ k, k < n ∧ listed.getD k false = false ∧ kindAt ops k = 2
      · obtain ⟨q, hq, hq0, hq2⟩ := h2x
        cases fuel with
        | zero => omega
        | succ fuel =>
          refine ⟨fun h0 => ?_, fun i hi => ?_⟩
          · obtain ⟨i, hi, h1, h2⟩ := missing_first (n := n) (listed := listed) (fun e => by rw [e] at hu; simp at hu)
            obtain ⟨o, ho⟩ := get i (by omega)
            have : i ∈ Region.ready .any ops.toArray listed := (ready_iff hs).2 ⟨o, ho, h1, fun k hk => h2 k (needs_lt h ho k hk)⟩
            rw [h0] at this
            cases this
          · obtain ⟨o, ho, h1, h2⟩ := (ready_iff hs).1 hi
            have hil : i < ops.length := (List.getElem?_eq_some_iff.1 ho).1
            have hmi : ∀ k, ((masks [] ops).getD i 0).testBit k = true → listed.getD k false = true := fun k hb =>
              mask_listed hc (j := i) (fun o'' ho'' k' hk' => by rw [ho] at ho''; cases ho''; exact h2 k' hk') hb
            have hin : i < n := by
              rcases Nat.lt_or_ge i n with hlt | hge
              · exact hlt
              · rcases tail_before h hge ho (by omega : q < i) with hb | ⟨_, hx, _⟩
                · rw [hmi q hb] at hq0; cases hq0
                · exact absurd hq2 hx
            have hlook := look_head (t := n) h hin ho (lexA i (by omega)) hc h2 h1 ⟨hsl.size, fun s _ => fun k hk hS hd hlt => hsl.come k s hk hS hd hlt, fun s _ hr => hsl.rest s hr⟩ (fun k hk1 hk2 => by omega)
            have hy := (still i o hin ho).same (sel_ok h ho) hlook
            refine hy.op ho hw (fun w'' hw'' => ih _ _ w'' fuel ?_ (by omega) (by simp [hs]) ?_ ?_ ?_ hw'')
            · have := missing_set hin (by omega) h1
              omega
            · intro k hk
              rw [getD_set (by omega)] at hk
              simp only [Bool.or_eq_true, decide_eq_true_eq] at hk
              rcases hk with rfl | hk
              · exact hin
              · exact hL k hk
            · intro j o' ho' hj k hk
              simp only [getD_set (show i < listed.size by omega), Bool.or_eq_true, decide_eq_true_eq] at hj ⊢
              rcases hj with rfl | hj
              · rw [ho] at ho'; cases ho'; exact .inr (h2 k hk)
              · exact .inr (hc j o' ho' hj k hk)
            · exact hsl.put hdist hin ho (fun k _ => by rw [getD_set (by omega)]; simp)
      · have hA := lexA n (Nat.le_refl _)
        refine phaseB h lexA still fuel listed n b (A n) w hs (Nat.le_refl _) hn ?_ hc (fun k hk h0 e => h2x ⟨k, hk, h0, e⟩) (fun _ => hw) ⟨hsl.size, fun s _ => fun k hk hS hd hlt => hsl.come k s hk hS hd hlt, fun s _ hr => hsl.rest s hr⟩ ?_ (by simpa using tail w hw) (by omega)
        · intro k hk1 hk2
          cases h0 : listed.getD k false with
          | false => simp; omega
          | true => have := hL k h0; omega
        · refine ⟨by rw [hA.size, hsl.size], by rw [hA.defers, hsl.defers], fun s k hk h0 hd hlt => hA.come k s hk (by simpa using hk) hd (by have h9 := hsl.size; rw [h9] at hlt; exact hlt), fun s hr => ?_⟩
          by_cases hx : ∃ k, k < n ∧ (ops[k]?).bind (·.dst) = some s
          · obtain ⟨k, hk, hkd⟩ := hx
            have hS : listed.getD k false = true := by
              cases h0 : listed.getD k false with
              | true => rfl
              | false => exact absurd hkd (hr k hk h0)
            rcases Nat.lt_or_ge s (A 0).tmps.size with hlt | hge
            · rw [hA.come k s hk (by simpa using hk) hkd hlt, hsl.come k s hk hS hkd hlt]
            · rw [Array.getElem?_eq_none (by rw [hA.size]; exact hge), Array.getElem?_eq_none (by rw [hsl.size]; exact hge)]
          · rw [hA.rest s (fun q hq _ hqd => hx ⟨q, hq, hqd⟩), hsl.rest s (fun q hq _ hqd => hx ⟨q, hq, hqd⟩)]
  have h0 : ∀ k, (Array.replicate ops.length false).getD k false = false := fun k => by
    rcases Nat.lt_or_ge k ops.length with h | h
    · simp [h]
    · simp [h]
  refine main n _ (A 0) w _ ?_ (by omega) (by simp) (fun k hk => by rw [h0] at hk; cases hk) (fun j o ho hj => by simp only [h0] at hj; cases hj) ?_ hw
  · simp only [missing, h0]
    have : (List.range n).filter (fun k => !false) = List.range n := List.filter_eq_self.2 (fun _ _ => rfl)
    rw [this]
    simp
  · exact ⟨rfl, rfl, fun k t _ hs => (by rw [h0] at hs; cases hs), fun t _ => rfl⟩

/-- What the heads owe, in the order of the text; each leaves one value. -/
def wpH (P : Program) (ops : List Oper) (C : World → Prop) (M : Env → Prop) : List Oper → Env → Prop
  | [], K => M K
  | o :: rest, K =>
    match o.guard with
    | none => opH P K C (fun v => wpH P ops C M rest (putE o.dst v K)) o.type o.op
    | some (j, want) => match gdst ops j with
      | some d => (match K.get d with
        | some (.bool b) => (b = want → opH P (K.set d (.bool want)) C (fun v => wpH P ops C M rest (putE o.dst v (K.set d (.bool want)))) o.type o.op) ∧
            (b = !want → wpH P ops C M rest (putE o.dst undef (K.set d (.bool !want))))
        | some (.tuple _) => wpH P ops C M rest (putE o.dst undef K)
        | _ => False)
      | none => False

theorem wpH_steps (hN : 0 < N) {M : Env → Prop} : ∀ (rest : List Oper) (k : Nat) (K : Env) (a : Act), (∀ j, j < rest.length → rest[j]? = ops[k + j]?) → dstsOk N rest = true → Kn K N ds a → wpH P ops C M rest K →
    ∃ (A : Nat → Act) (V : Nat → Value) (K' : Env), A k = a ∧ (∀ i o, k ≤ i → i < k + rest.length → ops[i]? = some o → A (i + 1) = (A i).put o.dst (V i) ∧ Yl P ρ ops C o (V i) (A i)) ∧
      Kn K' N ds (A (k + rest.length)) ∧ M K'
  | [], k, K, a, _, _, ha, h => ⟨fun _ => a, fun _ => undef, K, rfl, fun i o h1 h2 => by simp at h2; omega, ha, h⟩
  | o :: rest, k, K, a, hr, hd, ha, h => by
    simp only [dstsOk, List.all_cons, Bool.and_eq_true] at hd
    have hd0 : ∀ d, o.dst = some d → d < N := fun d he => by have := hd.1; rw [he] at this; simpa using this
    have ho : ops[k]? = some o := by simpa using (hr 0 (by simp)).symm
    -- one step, whatever it leaves
    have go : ∀ (v : Value) (K1 : Env), Kn K1 N ds a → Yl P ρ ops C o v a → wpH P ops C M rest (putE o.dst v K1) →
        ∃ (A : Nat → Act) (V : Nat → Value) (K' : Env), A k = a ∧ (∀ i o', k ≤ i → i < k + (o :: rest).length → ops[i]? = some o' → A (i + 1) = (A i).put o'.dst (V i) ∧ Yl P ρ ops C o' (V i) (A i)) ∧
          Kn K' N ds (A (k + (o :: rest).length)) ∧ M K' := by
      intro v K1 hk1 hy hh
      obtain ⟨A, V, K', hA, hst, hk', hM⟩ := wpH_steps hN rest (k + 1) _ (a.put o.dst v) (fun j hj => by have := hr (j + 1) (by simp; omega); simpa [Nat.add_assoc, Nat.add_comm 1 j] using this) hd.2 (hk1.put hd0) hh
      refine ⟨fun i => if i = k then a else A i, fun i => if i = k then v else V i, K', by simp, fun i o' h1 h2 ho' => ?_, ?_, hM⟩
      · by_cases hi : i = k
        · subst hi
          rw [ho] at ho'; cases ho'
          simp [hA, hy]
        · have h3 := hst i o' (by omega) (by simp at h2; omega) ho'
          simp only [if_neg hi, if_neg (show i + 1 ≠ k by omega)]
          exact h3
      · have : k + (o :: rest).length = k + 1 + rest.length := by simp; omega
        rw [this]
        simp only [if_neg (show k + 1 + rest.length ≠ k by omega)]
        exact hk'
    have still : ∀ {K1 : Env} {v : Value}, Kn K1 N ds a → Region.wanted o (yielded ops.toArray a.tmps) = true → StillF P K1 C o.type o.op v → Yl P ρ ops C o v a := fun hk1 hwt hs =>
      .inl ⟨hwt, fun hk w' hw' => upon1_of_opF hk1 hN (hs.1 hk w' hw'), fun hk w' hw' => upon1_of_opF (C := fun x => x = w') hk1 hN (hs.2 hk w' hw')⟩
    simp only [wpH] at h
    cases hg : o.guard with
    | none =>
      rw [hg] at h
      obtain ⟨v, hv, hs⟩ := opH_still h
      exact go v K ha (still ha (by simp [Region.wanted, hg]) hs) hv
    | some gd =>
      obtain ⟨j, want⟩ := gd
      rw [hg] at h
      simp only at h
      split at h
      · rename_i d hgd
        have hy : yielded ops.toArray a.tmps j = match a.tmps[d]? with | some (.bool b) => some b | _ => none := by
          unfold gdst at hgd
          split at hgd
          · rename_i oj hj
            simp only [yielded, List.getElem?_toArray, hj, Option.bind_some, hgd]
            split <;> simp_all
          · cases hgd
        split at h
        · rename_i b hb
          have hya : yielded ops.toArray a.tmps j = some b := by rw [hy, ha.at_ _ _ hb]
          by_cases hbw : b = want
          · subst hbw
            have hw : Region.wanted o (yielded ops.toArray a.tmps) = true := by simp [Region.wanted, hg, hya]
            have ha' := ha.set hb
            obtain ⟨v, hv, hs⟩ := opH_still (h.1 rfl)
            exact go v _ ha' (still ha' hw hs) hv
          · have hbn : b = !want := by cases b <;> cases want <;> simp_all
            have hw : Region.wanted o (yielded ops.toArray a.tmps) = false := by simp [Region.wanted, hg, hya, hbw]
            exact go undef _ (ha.set (hbn ▸ hb)) (.inr ⟨hw, rfl⟩) (h.2 hbn)
        · rename_i x hb
          have hya : yielded ops.toArray a.tmps j = none := by rw [hy, ha.at_ _ _ hb]
          have hw : Region.wanted o (yielded ops.toArray a.tmps) = false := by simp [Region.wanted, hg, hya]
          exact go undef _ ha (.inr ⟨hw, rfl⟩) h
        · exact h.elim
      · exact h.elim

def oweC : Bool → Prop → Prop → Prop
  | true, c, m => c ∧ m
  | false, _, m => m
def oweP : Bool → Prop → Prop
  | true, p => p
  | false, _ => False
/-- What the later operations owe; 'fl' as in 'flags'. -/
def wpE (P : Program) (ops : List Oper) (C : World → Prop) (pan : List PanicEntry → Env → World → Prop) (M : Env → World → Prop) : List (Bool × Bool) → List Oper → Env → World → Prop
  | _, [], K, w => M K w
  | fl, o :: rest, K, w =>
    match o.guard with
    | none => opF P K w (fun v w' => oweC (fl.headD (false, false)).1 (C w') (wpE P ops C pan M fl.tail rest (putE o.dst v K) w')) (fun ch w' => oweP (fl.headD (false, false)).2 (pan ch K w')) o.type o.op
    | some (j, want) => match gdst ops j with
      | some d => (match K.get d with
        | some (.bool b) => (b = want → opF P (K.set d (.bool want)) w (fun v w' => oweC (fl.headD (false, false)).1 (C w') (wpE P ops C pan M fl.tail rest (putE o.dst v (K.set d (.bool want))) w')) (fun ch w' => oweP (fl.headD (false, false)).2 (pan ch (K.set d (.bool want)) w')) o.type o.op) ∧
            (b = !want → oweC (fl.headD (false, false)).1 (C w) (wpE P ops C pan M fl.tail rest (putE o.dst undef (K.set d (.bool !want))) w))
        | some (.tuple _) => oweC (fl.headD (false, false)).1 (C w) (wpE P ops C pan M fl.tail rest (putE o.dst undef K) w)
        | _ => False)
      | none => False

theorem oweC_sound {b : Bool} {c m m' : Prop} (h : oweC b c m) (hm : m → m') : (b = true → c) ∧ m' := by
  cases b
  · exact ⟨fun h => Bool.noConfusion h, hm h⟩
  · exact ⟨fun _ => h.1, hm h.2⟩
theorem oweP_sound {b : Bool} {p p' : Prop} (h : oweP b p) (hm : p → p') : b = true ∧ p' := by
  cases b
  · exact h.elim
  · exact ⟨rfl, hm h⟩

theorem wpE_sound {Φ : Post} {pan : List PanicEntry → Env → World → Prop} {M : Env → World → Prop} (hp : ∀ ch K w, pan ch K w → Φ (.panic ch) K ds w) (hM : ∀ K w, M K w → Φ .normal K ds w) :
    ∀ (rest : List Oper) (fl : List (Bool × Bool)) (K : Env) (w : World) (a : Act), dstsOk N rest = true → Kn K N ds a → wpE P ops C pan M fl rest K w → wpT P ρ ops.toArray C (lift N Φ) fl rest a w
  | [], fl, K, w, a, _, ha, h => ⟨K, ds, ha, hM _ _ h⟩
  | o :: rest, fl, K, w, a, hd, ha, h => by
    simp only [dstsOk, List.all_cons, Bool.and_eq_true] at hd
    have hd0 : ∀ d, o.dst = some d → d < N := fun d he => by have := hd.1; rw [he] at this; simpa using this
    simp only [wpE] at h
    unfold wpT
    cases hg : o.guard with
    | none =>
      rw [hg] at h
      simp only [Region.wanted, hg, if_true]
      exact opF_sound ha h (fun v w' hv => oweC_sound hv fun hv => wpE_sound hp hM rest _ _ _ _ hd.2 (ha.put hd0) hv) (fun ch w' hc => oweP_sound hc fun hc => ⟨K, ds, ha, hp _ _ _ hc⟩)
    | some gd =>
      obtain ⟨j, want⟩ := gd
      rw [hg] at h
      simp only at h
      split at h
      · rename_i d hgd
        have hy : yielded ops.toArray a.tmps j = match a.tmps[d]? with | some (.bool b) => some b | _ => none := by
          unfold gdst at hgd
          split at hgd
          · rename_i oj hj
            simp only [yielded, List.getElem?_toArray, hj, Option.bind_some, hgd]
            split <;> simp_all
          · cases hgd
        split at h
        · rename_i b hb
          have hya : yielded ops.toArray a.tmps j = some b := by rw [hy, ha.at_ _ _ hb]
          by_cases hbw : b = want
          · subst hbw
            have hw : Region.wanted o (yielded ops.toArray a.tmps) = true := by simp [Region.wanted, hg, hya]
            rw [if_pos hw]
            have ha' := ha.set hb
            exact opF_sound ha' (h.1 rfl) (fun v w' hv => oweC_sound hv fun hv => wpE_sound hp hM rest _ _ _ _ hd.2 (ha'.put hd0) hv) (fun ch w' hc => oweP_sound hc fun hc => ⟨_, ds, ha', hp _ _ _ hc⟩)
          · have hbn : b = !want := by cases b <;> cases want <;> simp_all
            have hw : ¬ Region.wanted o (yielded ops.toArray a.tmps) = true := by simp [Region.wanted, hg, hya, hbw]
            rw [if_neg hw]
            have ha' := ha.set (hbn ▸ hb)
            exact oweC_sound (h.2 hbn) fun hv => wpE_sound hp hM rest _ _ _ _ hd.2 (ha'.put hd0) hv
        · rename_i x hb
          have hya : yielded ops.toArray a.tmps j = none := by rw [hy, ha.at_ _ _ hb]
          have hw : ¬ Region.wanted o (yielded ops.toArray a.tmps) = true := by simp [Region.wanted, hg, hya]
          rw [if_neg hw]
          exact oweC_sound h fun hv => wpE_sound hp hM rest _ _ _ _ hd.2 (ha.put hd0) hv
        · exact h.elim
      · exact h.elim

/-- A REGION THAT DRAWS ITS ORDER: n heads, in worlds of the class C; then the others. -/
theorem ok_draw (n : Nat) (fl : List (Bool × Bool)) (C : World → Prop) {id : Nat} {Φ : Post} (hm : P.follows .mixedOrders = true) (hN : 0 < N) (hd : dstsOk N ops = true) (hB : drawOk ops n = true) (hfl : flags ops n = fl)
    (hC : C { w with drawn := w.drawn + 1 })
    (h : wpH P ops C (fun K' => ∀ w', C w' → wpE P ops C (fun ch K w => Φ (.panic ch) K ds w) (fun K w => Φ .normal K ds w) fl (ops.drop n) K' w') (ops.take n) K) :
    ok P ρ N (.region id ops.toArray true) K ds w Φ := by
  intro a ha
  subst hfl
  have hn := (drawOk_parts hB).1
  have hlen : (ops.take n).length = n := by simp; omega
  have hdall : ∀ l, (∀ o ∈ l, o ∈ ops) → dstsOk N l = true := fun l hl => by
    simp only [dstsOk, List.all_eq_true] at hd ⊢
    exact fun o ho => hd o (hl o ho)
  obtain ⟨A, V, K', hA, hst, hk', hM⟩ := wpH_steps (ρ := ρ) hN (ops.take n) 0 K a (fun j hj => by rw [hlen] at hj; simp [List.getElem?_take, hj]) (hdall _ fun o ho => List.mem_of_mem_take ho) ha h
  rw [hlen] at hst hk'
  simp only [Nat.zero_add] at hst hk'
  refine wpIn_region_any hm ?_
  have := any_of_heads (P := P) (ρ := ρ) (C := C) (Q := lift N Φ) hB (A := A) (V := V) (fun i o hi ho => (hst i o (Nat.zero_le _) hi ho).1) (fun i o hi ho => (hst i o (Nat.zero_le _) hi ho).2)
    (fun w' hw' => wpE_sound (fun _ _ _ h => h) (fun _ _ h => h) _ _ _ _ _ (hdall _ fun o ho => List.mem_of_mem_drop ho) hk' (hM w' hw')) hC
  rw [hA] at this
  simpa using this
end
end Go.Proofs.Vg
