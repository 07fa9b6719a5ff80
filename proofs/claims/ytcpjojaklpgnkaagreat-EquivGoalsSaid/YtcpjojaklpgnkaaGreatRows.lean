/-
  NARROWER THAN 'FOR EVERY INPUT', by the rows' own cells (each row's printed sentence says how): EquivApplies: loops · EquivGoals: loops.
  DERIVED. THE GIVEN ROWS OF THIS SEAT. 2 by the template 'for every input the law returns true; each argument reads behind the call as it read before'; 0 by the template 'total and deterministic' (their statements: YtcpjojaklpgnkaaGreatTotals.lean).
  GIVEN WITH THE SEED: the statements are not yours to turn. If you find one false, say at which input.
  Laid BY PROGRAM, IN A SANDBOX (cutbox-rows.mjs): the forced cells as the released guide's own fill.sh prints them over the translation 48ca632b87448dc7… (all of the seat's roots in one cut). By AI agents, Wed Nov 11 2026. No macro, syntax, notation, axiom, sorry.
-/
import Derived.Test.YtcpjojaklpgnkaaGreatChecked
import GoSem.Claim
import GoSem.ClaimJoined
import GoSem.ClaimMapViews
import Derived.JoinedTies
import Derived.KernelRfl
namespace Go.Proofs.YtcpjojaklpgnkaaGreat
/- THE CELL 'sum', in the pinned program and in every row, IS THE sha256 OF THE DUMP (.gsa) THAT YtcpjojaklpgnkaaGreatProg.lean LOADS. Nothing in Lean hashes anything: it is a label: what it is worth is what the hold of that sum in a sandbox is worth. -/
noncomputable def Tryz.pinned : Pinned := { name := "ytcpjojaklpgnkaagreat", sum := "48ca632b87448dc7f815af2776177ca1e95fc379a21410bf5b5a6d70f7f85e2f", checked := Tryz.checked }
namespace Rows
def none {H : Type} : Left H := { results := [], args := [] }

/-- 'cinnabarlaw31.EquivApplies': WHATEVER THE INPUT: true; the input reads as it did. -/
def equivAppliesSpec : ChangeSpec := { name := "equivApplies", fn := fun _ => fun
  | [d1, d2] => { results := [.lit (.bool true)], args := [d1, d2] }
  | _ => none }
def equivAppliesRow : OpenClaim := { program := "ytcpjojaklpgnkaagreat", sum := "48ca632b87448dc7f815af2776177ca1e95fc379a21410bf5b5a6d70f7f85e2f", func := "cinnabar/cinnabarlaw31.EquivApplies", spec := "equivApplies", unfollowed := true, recurses := true, loops := true, apart := false }
def EquivAppliesSaid : Prop := equivAppliesRow.holds Tryz.pinned (OpenSpec.ofChange equivAppliesSpec)

/-- ITS FALSE NEIGHBOUR: 'it returns false'. Refute it at one input. -/
def equivAppliesWrong : ChangeSpec := { name := "equivApplies", fn := fun _ => fun
  | [d1, d2] => { results := [.lit (.bool false)], args := [d1, d2] }
  | _ => none }
def EquivAppliesWrongFalsely : Prop := equivAppliesRow.holds Tryz.pinned (OpenSpec.ofChange equivAppliesWrong)

/-- 'cinnabarlaw31.EquivGoals': WHATEVER THE INPUT: true; the input reads as it did. -/
def equivGoalsSpec : ChangeSpec := { name := "equivGoals", fn := fun _ => fun
  | [d1, d2, d3] => { results := [.lit (.bool true)], args := [d1, d2, d3] }
  | _ => none }
def equivGoalsRow : OpenClaim := { program := "ytcpjojaklpgnkaagreat", sum := "48ca632b87448dc7f815af2776177ca1e95fc379a21410bf5b5a6d70f7f85e2f", func := "cinnabar/cinnabarlaw31.EquivGoals", spec := "equivGoals", unfollowed := true, recurses := true, loops := true, apart := false }
def EquivGoalsSaid : Prop := equivGoalsRow.holds Tryz.pinned (OpenSpec.ofChange equivGoalsSpec)

/-- ITS FALSE NEIGHBOUR: 'it returns false'. Refute it at one input. -/
def equivGoalsWrong : ChangeSpec := { name := "equivGoals", fn := fun _ => fun
  | [d1, d2, d3] => { results := [.lit (.bool false)], args := [d1, d2, d3] }
  | _ => none }
def EquivGoalsWrongFalsely : Prop := equivGoalsRow.holds Tryz.pinned (OpenSpec.ofChange equivGoalsWrong)

/- THE SECOND FORM. 'bulk': how many values and letters a reading holds, each counted each time it is reached (what is shared counts as often as it is met; a slice's spare places count too). A statement '..UptoSaid' is the law's where the arguments, and the package variables that the reading takes, are together of bulk at most 1048576: NARROWER than '..Said'. Prove '..Said' where nothing that the law and all that it calls make is longer than what came in: it says more and counts as full. Else prove '..UptoSaid'. A law counts once. -/
mutual
def uptoBulk {H : Type} : DataW H → Nat
  | .lit (.string bytes) => bytes.length + 1
  | .lit _ => 1
  | .nil => 1
  | .ptr d => uptoBulk d + 1
  | .slice elems spare => uptoBulkAll elems + uptoBulkAll spare + 1
  | .agg parts => uptoBulkAll parts + 1
  | .iface _ d => uptoBulk d + 1
  | .map entries => uptoBulkEntries entries + 1
  | .held _ => 1
def uptoBulkAll {H : Type} : List (DataW H) → Nat
  | [] => 0
  | d :: r => uptoBulk d + uptoBulkAll r
def uptoBulkEntries {H : Type} : List (Lit × DataW H) → Nat
  | [] => 0
  | x :: r => uptoBulkEntry x + uptoBulkEntries r
def uptoBulkEntry {H : Type} : Lit × DataW H → Nat
  | (.string bytes, d) => bytes.length + uptoBulk d + 1
  | (_, d) => uptoBulk d + 1
 end
def uptoSmall : (H : Type) → List (DataW H) → Bool := fun _ ds => decide (uptoBulkAll ds ≤ 1048576)
def OpenSpec.upto (s : _root_.Go.ChangeSpec) : _root_.Go.OpenSpec := { _root_.Go.OpenSpec.ofChange s with cond := some uptoSmall }

/-- 'cinnabarlaw31.EquivApplies', WHERE WHAT IT READS IS OF BULK AT MOST 1048576: true; the input reads as it did. -/
def equivAppliesUptoRow : OpenClaim := { program := "ytcpjojaklpgnkaagreat", sum := "48ca632b87448dc7f815af2776177ca1e95fc379a21410bf5b5a6d70f7f85e2f", func := "cinnabar/cinnabarlaw31.EquivApplies", spec := "equivApplies", unfollowed := true, recurses := true, loops := true, apart := false, narrowed := true }
def EquivAppliesUptoSaid : Prop := equivAppliesUptoRow.holds Tryz.pinned (OpenSpec.upto equivAppliesSpec)

/-- 'cinnabarlaw31.EquivGoals', WHERE WHAT IT READS IS OF BULK AT MOST 1048576: true; the input reads as it did. -/
def equivGoalsUptoRow : OpenClaim := { program := "ytcpjojaklpgnkaagreat", sum := "48ca632b87448dc7f815af2776177ca1e95fc379a21410bf5b5a6d70f7f85e2f", func := "cinnabar/cinnabarlaw31.EquivGoals", spec := "equivGoals", unfollowed := true, recurses := true, loops := true, apart := false, narrowed := true }
def EquivGoalsUptoSaid : Prop := equivGoalsUptoRow.holds Tryz.pinned (OpenSpec.upto equivGoalsSpec)

end Rows
end Go.Proofs.YtcpjojaklpgnkaaGreat
