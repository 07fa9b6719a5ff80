/-
  NARROWER THAN 'FOR EVERY INPUT', by the rows' own cells (each row's printed sentence says how): DebugBlames: loops · DebugFinds: loops · DebugNexts: loops · DebugPlays: loops · DebugTrees: loops.
  DERIVED. THE GIVEN ROWS OF THIS SEAT. 5 by the template 'for every input the law returns true; each argument reads behind the call as it read before'; 0 by the template 'total and deterministic' (their statements: YtafjfcameabbmaaTotals.lean).
  GIVEN WITH THE SEED: the statements are not yours to turn. If you find one false, say at which input.
  Laid BY PROGRAM, IN A SANDBOX (cutbox-rows.mjs): the forced cells as the released guide's own fill.sh prints them over the translation 8366f3e4fd2df455… (all of the seat's roots in one cut). By AI agents, Wed Nov 11 2026. No macro, syntax, notation, axiom, sorry.
-/
import Derived.Test.YtafjfcameabbmaaChecked
import GoSem.Claim
import GoSem.ClaimJoined
import GoSem.ClaimMapViews
import Derived.JoinedTies
import Derived.KernelRfl
namespace Go.Proofs.Ytafjfcameabbmaa
/- THE CELL 'sum', in the pinned program and in every row, IS THE sha256 OF THE DUMP (.gsa) THAT YtafjfcameabbmaaProg.lean LOADS. Nothing in Lean hashes anything: it is a label: what it is worth is what the hold of that sum in a sandbox is worth. -/
noncomputable def Try.pinned : Pinned := { name := "ytafjfcameabbmaa", sum := "8366f3e4fd2df4558911a533b1285403190fc81969fb3de40610063b3a0b38cd", checked := Try.checked }
namespace Rows
def none {H : Type} : Left H := { results := [], args := [] }

/-- 'cinnabarlaw41.DebugBlames': WHATEVER THE INPUT: true; the input reads as it did. -/
def debugBlamesSpec : ChangeSpec := { name := "debugBlames", fn := fun _ => fun
  | [d1, d2] => { results := [.lit (.bool true)], args := [d1, d2] }
  | _ => none }
def debugBlamesRow : OpenClaim := { program := "ytafjfcameabbmaa", sum := "8366f3e4fd2df4558911a533b1285403190fc81969fb3de40610063b3a0b38cd", func := "cinnabar/cinnabarlaw41.DebugBlames", spec := "debugBlames", unfollowed := true, recurses := true, loops := true, apart := false }
def DebugBlamesSaid : Prop := debugBlamesRow.holds Try.pinned (OpenSpec.ofChange debugBlamesSpec)

/-- ITS FALSE NEIGHBOUR: 'it returns false'. Refute it at one input. -/
def debugBlamesWrong : ChangeSpec := { name := "debugBlames", fn := fun _ => fun
  | [d1, d2] => { results := [.lit (.bool false)], args := [d1, d2] }
  | _ => none }
def DebugBlamesWrongFalsely : Prop := debugBlamesRow.holds Try.pinned (OpenSpec.ofChange debugBlamesWrong)

/-- 'cinnabarlaw41.DebugFinds': WHATEVER THE INPUT: true; the input reads as it did. -/
def debugFindsSpec : ChangeSpec := { name := "debugFinds", fn := fun _ => fun
  | [d1, d2] => { results := [.lit (.bool true)], args := [d1, d2] }
  | _ => none }
def debugFindsRow : OpenClaim := { program := "ytafjfcameabbmaa", sum := "8366f3e4fd2df4558911a533b1285403190fc81969fb3de40610063b3a0b38cd", func := "cinnabar/cinnabarlaw41.DebugFinds", spec := "debugFinds", unfollowed := true, recurses := true, loops := true, apart := false }
def DebugFindsSaid : Prop := debugFindsRow.holds Try.pinned (OpenSpec.ofChange debugFindsSpec)

/-- ITS FALSE NEIGHBOUR: 'it returns false'. Refute it at one input. -/
def debugFindsWrong : ChangeSpec := { name := "debugFinds", fn := fun _ => fun
  | [d1, d2] => { results := [.lit (.bool false)], args := [d1, d2] }
  | _ => none }
def DebugFindsWrongFalsely : Prop := debugFindsRow.holds Try.pinned (OpenSpec.ofChange debugFindsWrong)

/-- 'cinnabarlaw41.DebugNexts': WHATEVER THE INPUT: true; the input reads as it did. -/
def debugNextsSpec : ChangeSpec := { name := "debugNexts", fn := fun _ => fun
  | [d1, d2, d3] => { results := [.lit (.bool true)], args := [d1, d2, d3] }
  | _ => none }
def debugNextsRow : OpenClaim := { program := "ytafjfcameabbmaa", sum := "8366f3e4fd2df4558911a533b1285403190fc81969fb3de40610063b3a0b38cd", func := "cinnabar/cinnabarlaw41.DebugNexts", spec := "debugNexts", unfollowed := true, recurses := true, loops := true, apart := false }
def DebugNextsSaid : Prop := debugNextsRow.holds Try.pinned (OpenSpec.ofChange debugNextsSpec)

/-- ITS FALSE NEIGHBOUR: 'it returns false'. Refute it at one input. -/
def debugNextsWrong : ChangeSpec := { name := "debugNexts", fn := fun _ => fun
  | [d1, d2, d3] => { results := [.lit (.bool false)], args := [d1, d2, d3] }
  | _ => none }
def DebugNextsWrongFalsely : Prop := debugNextsRow.holds Try.pinned (OpenSpec.ofChange debugNextsWrong)

/-- 'cinnabarlaw41.DebugPlays': WHATEVER THE INPUT: true; the input reads as it did. -/
def debugPlaysSpec : ChangeSpec := { name := "debugPlays", fn := fun _ => fun
  | [d1, d2] => { results := [.lit (.bool true)], args := [d1, d2] }
  | _ => none }
def debugPlaysRow : OpenClaim := { program := "ytafjfcameabbmaa", sum := "8366f3e4fd2df4558911a533b1285403190fc81969fb3de40610063b3a0b38cd", func := "cinnabar/cinnabarlaw41.DebugPlays", spec := "debugPlays", unfollowed := true, recurses := true, loops := true, apart := false }
def DebugPlaysSaid : Prop := debugPlaysRow.holds Try.pinned (OpenSpec.ofChange debugPlaysSpec)

/-- ITS FALSE NEIGHBOUR: 'it returns false'. Refute it at one input. -/
def debugPlaysWrong : ChangeSpec := { name := "debugPlays", fn := fun _ => fun
  | [d1, d2] => { results := [.lit (.bool false)], args := [d1, d2] }
  | _ => none }
def DebugPlaysWrongFalsely : Prop := debugPlaysRow.holds Try.pinned (OpenSpec.ofChange debugPlaysWrong)

/-- 'cinnabarlaw41.DebugTrees': WHATEVER THE INPUT: true; the input reads as it did. -/
def debugTreesSpec : ChangeSpec := { name := "debugTrees", fn := fun _ => fun
  | [d1, d2] => { results := [.lit (.bool true)], args := [d1, d2] }
  | _ => none }
def debugTreesRow : OpenClaim := { program := "ytafjfcameabbmaa", sum := "8366f3e4fd2df4558911a533b1285403190fc81969fb3de40610063b3a0b38cd", func := "cinnabar/cinnabarlaw41.DebugTrees", spec := "debugTrees", unfollowed := true, recurses := true, loops := true, apart := false }
def DebugTreesSaid : Prop := debugTreesRow.holds Try.pinned (OpenSpec.ofChange debugTreesSpec)

/-- ITS FALSE NEIGHBOUR: 'it returns false'. Refute it at one input. -/
def debugTreesWrong : ChangeSpec := { name := "debugTrees", fn := fun _ => fun
  | [d1, d2] => { results := [.lit (.bool false)], args := [d1, d2] }
  | _ => none }
def DebugTreesWrongFalsely : Prop := debugTreesRow.holds Try.pinned (OpenSpec.ofChange debugTreesWrong)

/- THE SECOND FORM. 'bulk': how many values and letters a reading holds, each counted each time it is reached (what is shared counts as often as it is met; a slice's spare places count too). A statement '..UptoSaid' is the law's where the arguments, and the package variables that the reading takes, are together of bulk at most 1048576: NARROWER than '..Said'. Prove '..Said' where nothing that the law and all that it calls make is longer than what came in: it says more and counts as full. Else prove '..UptoSaid'. A law counts once. -/
mutual
def uptoBulk {H : Type} : DataW H → Nat
  | .lit (.string bytes) => bytes.length + 1
  | .lit _ => 1
  | .nil => 1
  | .ptr d => uptoBulk d + 1
  | .slice elems spare => uptoBulkAll elems + uptoBulkAll spare + 1
  | .agg parts => uptoBulkAll parts + 1
  | .iface _ d => uptoBulk d + 1
  | .map entries => uptoBulkEntries entries + 1
  | .held _ => 1
def uptoBulkAll {H : Type} : List (DataW H) → Nat
  | [] => 0
  | d :: r => uptoBulk d + uptoBulkAll r
def uptoBulkEntries {H : Type} : List (Lit × DataW H) → Nat
  | [] => 0
  | x :: r => uptoBulkEntry x + uptoBulkEntries r
def uptoBulkEntry {H : Type} : Lit × DataW H → Nat
  | (.string bytes, d) => bytes.length + uptoBulk d + 1
  | (_, d) => uptoBulk d + 1
 end
def uptoSmall : (H : Type) → List (DataW H) → Bool := fun _ ds => decide (uptoBulkAll ds ≤ 1048576)
def OpenSpec.upto (s : _root_.Go.ChangeSpec) : _root_.Go.OpenSpec := { _root_.Go.OpenSpec.ofChange s with cond := some uptoSmall }

/-- 'cinnabarlaw41.DebugBlames', WHERE WHAT IT READS IS OF BULK AT MOST 1048576: true; the input reads as it did. -/
def debugBlamesUptoRow : OpenClaim := { program := "ytafjfcameabbmaa", sum := "8366f3e4fd2df4558911a533b1285403190fc81969fb3de40610063b3a0b38cd", func := "cinnabar/cinnabarlaw41.DebugBlames", spec := "debugBlames", unfollowed := true, recurses := true, loops := true, apart := false, narrowed := true }
def DebugBlamesUptoSaid : Prop := debugBlamesUptoRow.holds Try.pinned (OpenSpec.upto debugBlamesSpec)

/-- 'cinnabarlaw41.DebugFinds', WHERE WHAT IT READS IS OF BULK AT MOST 1048576: true; the input reads as it did. -/
def debugFindsUptoRow : OpenClaim := { program := "ytafjfcameabbmaa", sum := "8366f3e4fd2df4558911a533b1285403190fc81969fb3de40610063b3a0b38cd", func := "cinnabar/cinnabarlaw41.DebugFinds", spec := "debugFinds", unfollowed := true, recurses := true, loops := true, apart := false, narrowed := true }
def DebugFindsUptoSaid : Prop := debugFindsUptoRow.holds Try.pinned (OpenSpec.upto debugFindsSpec)

/-- 'cinnabarlaw41.DebugNexts', WHERE WHAT IT READS IS OF BULK AT MOST 1048576: true; the input reads as it did. -/
def debugNextsUptoRow : OpenClaim := { program := "ytafjfcameabbmaa", sum := "8366f3e4fd2df4558911a533b1285403190fc81969fb3de40610063b3a0b38cd", func := "cinnabar/cinnabarlaw41.DebugNexts", spec := "debugNexts", unfollowed := true, recurses := true, loops := true, apart := false, narrowed := true }
def DebugNextsUptoSaid : Prop := debugNextsUptoRow.holds Try.pinned (OpenSpec.upto debugNextsSpec)

/-- 'cinnabarlaw41.DebugPlays', WHERE WHAT IT READS IS OF BULK AT MOST 1048576: true; the input reads as it did. -/
def debugPlaysUptoRow : OpenClaim := { program := "ytafjfcameabbmaa", sum := "8366f3e4fd2df4558911a533b1285403190fc81969fb3de40610063b3a0b38cd", func := "cinnabar/cinnabarlaw41.DebugPlays", spec := "debugPlays", unfollowed := true, recurses := true, loops := true, apart := false, narrowed := true }
def DebugPlaysUptoSaid : Prop := debugPlaysUptoRow.holds Try.pinned (OpenSpec.upto debugPlaysSpec)

/-- 'cinnabarlaw41.DebugTrees', WHERE WHAT IT READS IS OF BULK AT MOST 1048576: true; the input reads as it did. -/
def debugTreesUptoRow : OpenClaim := { program := "ytafjfcameabbmaa", sum := "8366f3e4fd2df4558911a533b1285403190fc81969fb3de40610063b3a0b38cd", func := "cinnabar/cinnabarlaw41.DebugTrees", spec := "debugTrees", unfollowed := true, recurses := true, loops := true, apart := false, narrowed := true }
def DebugTreesUptoSaid : Prop := debugTreesUptoRow.holds Try.pinned (OpenSpec.upto debugTreesSpec)

end Rows
end Go.Proofs.Ytafjfcameabbmaa
