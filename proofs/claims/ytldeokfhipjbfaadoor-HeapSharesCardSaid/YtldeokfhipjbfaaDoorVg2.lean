import Derived.Test.YtldeokfhipjbfaaDoorVg1
set_option linter.unusedVariables false
set_option linter.unusedSimpArgs false
namespace Go.Proofs.Vg
open Go Go.RowKit

def Runs {α : Type} (P : Program) (s : Sem α) (w : World) (R : α → World → Prop) : Prop := ∃ v w', s.run P w = .ok v w' ∧ R v w'

/-- A number lies in its kind. -/
def inI : IntKind → Int → Prop
  | .i64, n => -9223372036854775808 ≤ n ∧ n ≤ 9223372036854775807
  | .u64, n => 0 ≤ n ∧ n ≤ 18446744073709551615
  | .u8, n => 0 ≤ n ∧ n ≤ 255
  | .i32, n => -2147483648 ≤ n ∧ n ≤ 2147483647
  | k, n => k.wrap n = n
theorem wrap_in {k : IntKind} {n : Int} (h : inI k n) : k.wrap n = n := by
  cases k <;> simp only [inI] at h <;> first | exact h | skip
  all_goals simp only [IntKind.wrap, IntKind.bits, IntKind.signed, if_true, if_false, Bool.false_eq_true]
  all_goals (simp; omega)

/-- A calculation that has no way but one: what it asks, and its value. -/
def binV (P : Program) (t : TypeId) : BinOp → Value → Value → Option (Prop × Value)
  | .add, .int k a, .int k' b => some (k = k' ∧ inI k (a + b), .int k (a + b))
  | .sub, .int k a, .int k' b => some (k = k' ∧ inI k (a - b), .int k (a - b))
  | .mul, .int k a, .int k' b => some (k = k' ∧ inI k (a * b), .int k (a * b))
  | .eql, .int k a, .int k' b => some (k = k', .bool (decide (a = b)))
  | .neq, .int k a, .int k' b => some (k = k', .bool (!decide (a = b)))
  | .lss, .int k a, .int k' b => some (k = k', .bool (decide (a < b)))
  | .leq, .int k a, .int k' b => some (k = k', .bool (decide (a ≤ b)))
  | .gtr, .int k a, .int k' b => some (k = k', .bool (decide (b < a)))
  | .geq, .int k a, .int k' b => some (k = k', .bool (decide (b ≤ a)))
  | .eql, .string a, .string b => some (True, .bool (decide (a = b)))
  | .neq, .string a, .string b => some (True, .bool (!decide (a = b)))
  | .eql, .bool a, .bool b => some (P.underlying t = some .bool, .bool (decide (a = b)))
  | .neq, .bool a, .bool b => some (P.underlying t = some .bool, .bool (!decide (a = b)))
  | _, _, _ => none

def fieldOff (P : Program) (s f : Nat) : Option Nat :=
  match P.underlying s with
  | some (.struct fs) => match fs[f]? with
    | some fd => if (P.info? fd.type).isNone || P.cellsOf fd.type = 0 then none else some fd.offset
    | none => none
  | _ => none
/-- The cells of an element of a slice type. -/
def elemSize (P : Program) (t : TypeId) : Option Nat :=
  match P.underlying t with
  | some (.slice e) => (P.info? e).map (·.size)
  | _ => none
def arrInfo (P : Program) (t : TypeId) : Option (Nat × Nat) :=
  match P.underlying t with
  | some (.array n e) => (P.info? e).map fun i => (n, i.size)
  | _ => none
def isSlice (P : Program) (t : TypeId) : Bool := match P.underlying t with | some (.slice _) => true | _ => false
def isString (P : Program) (t : TypeId) : Bool := match P.underlying t with | some .string => true | _ => false

/-- Is a type a struct or an array, and of how many cells? -/
def aggN (P : Program) (t : TypeId) : Option (Option Nat) :=
  match P.info? t, P.underlying t with
  | some i, some (.struct _) => some (some i.size)
  | some i, some (.array _ _) => some (some i.size)
  | some _, some _ => some none
  | _, _ => none
def cellsAt (w : World) (a : Addr) (cs : List Value) : Prop := ∀ j u, cs[j]? = some u → w.cell? (a.add j) = some u

def evs (K : Env) : List Operand → Option (List Value)
  | [] => some []
  | x :: r => match ev K x, evs K r with
    | some v, some l => some (v :: l)
    | _, _ => none
def evp (K : Env) : List (Nat × Operand) → Option (List (Nat × Value))
  | [] => some []
  | (i, x) :: r => match ev K x, evp K r with
    | some v, some l => some ((i, v) :: l)
    | _, _ => none
def evo (K : Env) : Option Operand → Option (Option Value)
  | none => some none
  | some x => match ev K x with
    | some v => some (some v)
    | none => none

/-- A call of a function value. -/
def Inv (P : Program) (fv : Value) (args : List Value) (w : World) (R : Ending → World → Prop) : Prop :=
  (∃ f first cap, fv = .func (.func f) first cap ∧ (∀ (as : Array Value) (w : World), (callFunc f as).run P w = .ok (.enter f as) w) ∧ Calls P f (first ++ args.toArray ++ cap) w R) ∨
  (∃ l first cap fn tmps assign body, fv = .func (.yield l) first cap ∧ (Instr.yield l (first ++ args.toArray)).run P w = .ok (.round l fn tmps assign body) w ∧ RoundIn (fence none) 0 P l fn tmps assign body w R)

def callR (next : Value → World → Prop) (pan : List PanicEntry → World → Prop) : Ending → World → Prop
  | .returned v, w' => next v w'
  | .panicked ch, w' => pan ch w'
  | .outgrown, _ => False

def builtinR (next : Value → World → Prop) : Next → World → Prop
  | .value v, w' => next v w'
  | .skip, w' => next undef w'
  | _, _ => False

/-- What an operation owes. -/
def opF (P : Program) (K : Env) (w : World) (next : Value → World → Prop) (pan : List PanicEntry → World → Prop) (type : TypeId) : Op → Prop
  | .move x => match ev K x with | some v => next v w | none => False
  | .assign x => match ev K x with | some v => next v w | none => False
  | .pick c a b => match ev K c with
    | some (.bool t) => (t = true → match ev K a with | some v => next v w | none => False) ∧ (t = false → match ev K b with | some v => next v w | none => False)
    | _ => False
  | .alloc t => Runs P (Instr.alloc t true (.tuple #[])) w next
  | .box t x => match ev K x with | some v => Runs P (Instr.box t v) w next | none => False
  | .build t parts => match evp K parts.toList with | some l => Runs P (Instr.build t l.toArray) w next | none => False
  | .buildSlice t n parts => match evp K parts.toList with | some l => Runs P (Instr.buildSlice t n l.toArray) w next | none => False
  | .load t x => match ev K x with
    | some (.pointer (some a)) => (match aggN P t with
      | some none => ∃ v, w.cell? a = some v ∧ next v w
      | some (some n) => ∃ cs : List Value, cs.length = n ∧ cellsAt w a cs ∧ next (.agg cs.toArray) w
      | none => False)
    | _ => False
  | .store t x y => match ev K x, ev K y with | some (.pointer (some a)), some v => Runs P (storeVar t a v) w (fun _ w' => next undef w') | _, _ => False
  | .nilCheck x => match ev K x with | some (.pointer (some a)) => next (.pointer (some a)) w | _ => False
  | .binOp op t x y _ => match ev K x, ev K y with
    | some a, some b => (match binV P t op a b with
      | some (ob, v) => ob ∧ next v w
      | none => Runs P (do eqGuard op t x y a b; binOp op t a b) w next)
    | _, _ => False
  | .unOp .not _ x => match ev K x with | some (.bool b) => next (.bool !b) w | _ => False
  | .unOp .neg _ x => match ev K x with | some (.int k n) => inI k (0 - n) ∧ next (.int k (0 - n)) w | _ => False
  | .convert src dst x => match ev K x with | some v => Runs P (convert src dst v) w next | none => False
  | .makeInterface t x => match ev K x with | some v => Runs P (Instr.makeInterface t v) w next | none => False
  | .makeFunc fn first cap => match evs K first.toList, evs K cap.toList with | some l, some m => next (.func fn l.toArray m.toArray) w | _, _ => False
  | .makeMap t r => match evo K r with | some v => Runs P (Instr.makeMap t v) w next | none => False
  | .makeSlice t l c => match ev K l, ev K c with | some a, some b => Runs P (Instr.makeSlice t a b) w next | _, _ => False
  | .slice t x l h m => match ev K x, evo K l, evo K h, evo K m with | some v, some a, some b, some c => Runs P (Instr.sliceAt t v a b c) w next | _, _, _, _ => False
  | .fieldAddr s x f => match ev K x with
    | some (.pointer (some a)) => (match fieldOff P s f with
      | some off => next (.pointer (some (a.add off))) w
      | none => False)
    | _ => False
  | .field t x f => match ev K x with | some v => Runs P (Instr.field t v f) w next | none => False
  | .indexAddr t x i => match ev K x, ev K i with
    | some (.slice b len cap), some (.int k j) => (match elemSize P t, b with
      | some sz, some ad => 0 ≤ j ∧ j < (len : Int) ∧ next (.pointer (some (ad.add (j.toNat * sz)))) w
      | _, _ => False)
    | some (.pointer (some ad)), some (.int k j) => (match arrInfo P t with
      | some (n, sz) => 0 ≤ j ∧ j < (n : Int) ∧ next (.pointer (some (ad.add (j.toNat * sz)))) w
      | none => False)
    | _, _ => False
  | .index t x i => match ev K x, ev K i with | some a, some b => Runs P (Instr.index t a b) w next | _, _ => False
  | .lookup t x i okk => match ev K x, ev K i with | some a, some b => Runs P (Instr.lookup t a b okk) w next | _, _ => False
  | .mapUpdate t m k v => match ev K m, ev K k, ev K v with | some a, some b, some c => Runs P (Instr.mapUpdate t a b c) w (fun _ w' => next undef w') | _, _, _ => False
  | .insert t m k v => match ev K m, ev K k, ev K v with | some a, some b, some c => Runs P (Instr.mapUpdate t a b c) w (fun _ w' => next undef w') | _, _, _ => False
  | .range t x => match ev K x with | some v => Runs P (Instr.range t v) w next | none => False
  | .next x s => match ev K x with | some v => Runs P (Instr.next v s type) w next | none => False
  | .typeAssert x t u okk => match ev K x with | some v => Runs P (Instr.typeAssert v t u okk) w next | none => False
  | .extract x i => match ev K x with
    | some (.tuple vs) => (match vs.toList[i]? with | some v => next v w | none => False)
    | _ => False
  | .call c => match c.callee with
    | .builtin .len => match evs K c.args.toList, c.argTypes.toList with
      | some [.slice _ n _], [t] => (match isSlice P t with | true => next (.int .i64 n) w | false => False)
      | some [.string s], [t] => (match isString P t with | true => next (.int .i64 s.size) w | false => False)
      | some l, _ => Runs P (builtin .len c.argTypes type (c.args.map fun | .const _ => true | _ => false) l.toArray) w (builtinR next)
      | none, _ => False
    | .builtin b => match evs K c.args.toList with
      | some l => Runs P (builtin b c.argTypes type (c.args.map fun | .const _ => true | _ => false) l.toArray) w (builtinR next)
      | none => False
    | .value f => match ev K f, evs K c.args.toList with
      | some fv, some l => Inv P fv l w (callR next pan)
      | _, _ => False
    | _ => False
  | .panic x => match ev K x with | some v => ∃ u w', (Instr.panic v).run P w = .halt (.panic u) w' ∧ pan [{ v := u, recovered := false }] w' | none => False
  | _ => False
end Go.Proofs.Vg
