/-
  NARROWER THAN 'FOR EVERY INPUT', by the rows' own cells (each row's printed sentence says how): HeapStores: loops, laid · HeapShares: loops, laid · HeapNil: laid.
  DERIVED. THE GIVEN ROWS OF THIS SEAT. 3 by the template 'for every input the law returns true; each argument reads behind the call as it read before'; 0 by the template 'total and deterministic' (their statements: YtldeokfhipjbfaaDoorTotals.lean).
  GIVEN WITH THE SEED: the statements are not yours to turn. If you find one false, say at which input.
  Laid BY PROGRAM, IN A SANDBOX (cutbox-rows.mjs): the forced cells as the released guide's own fill.sh prints them over the translation bc186e23601728dd… (all of the seat's roots in one cut). By AI agents, Wed Nov 11 2026. No macro, syntax, notation, axiom, sorry.
-/
import Derived.Test.YtldeokfhipjbfaaDoorChecked
import GoSem.Claim
import GoSem.ClaimJoined
import GoSem.ClaimMapViews
import Derived.JoinedTies
import Derived.KernelRfl
namespace Go.Proofs.YtldeokfhipjbfaaDoor
/- THE CELL 'sum', in the pinned program and in every row, IS THE sha256 OF THE DUMP (.gsa) THAT YtldeokfhipjbfaaDoorProg.lean LOADS. Nothing in Lean hashes anything: it is a label: what it is worth is what the hold of that sum in a sandbox is worth. -/
noncomputable def Tryd.pinned : Pinned := { name := "ytldeokfhipjbfaadoor", sum := "bc186e23601728dd181ff6f392267178735725cd61002224c6deddf816685ebf", checked := Tryd.checked }
namespace Rows
def none {H : Type} : Left H := { results := [], args := [] }

/- WHAT THE LISTED PACKAGE-LEVEL VARIABLES READ AS WHEN THE CALL BEGINS. Each datum BY PROGRAM (the guide's laid-datum.mjs) off the statement by which the dump's own 'gosem.cut.vars' lays the variable. In a bare row this is a premise. The card (YtldeokfhipjbfaaDoorCards.lean) ties it to the program's text. -/
def laid_cinnabar_heap_kinds {H : Type} : DataW H := .map [(.int .i64 1, .lit (.int .i64 1)), (.int .i64 2, .lit (.int .i64 2)), (.int .i64 3, .lit (.int .i64 3)), (.int .i64 4, .lit (.int .i64 4)), (.int .i64 5, .lit (.int .i64 5)), (.int .i64 6, .lit (.int .i64 6)), (.int .i64 7, .lit (.int .i64 7)), (.int .i64 8, .lit (.int .i64 8))]
def laid_cinnabar_heap_ranks {H : Type} : DataW H := .agg [.lit (.int .i64 0), .lit (.int .i64 1), .lit (.int .i64 2), .lit (.int .i64 3), .lit (.int .i64 4), .lit (.int .i64 5), .lit (.int .i64 6), .lit (.int .i64 7), .lit (.int .i64 8), .lit (.int .i64 0)]

/-- 'cinnabarlaw36.HeapStores': WHATEVER THE INPUT: true; the input reads as it did. -/
def heapStoresSpec : ChangeSpec := { name := "heapStores", fn := fun _ => fun
  | [d] => { results := [.lit (.bool true)], args := [d] }
  | _ => none }
def heapStoresRow : OpenClaim := { program := "ytldeokfhipjbfaadoor", sum := "bc186e23601728dd181ff6f392267178735725cd61002224c6deddf816685ebf", func := "cinnabar/cinnabarlaw36.HeapStores", spec := "heapStores", unfollowed := true, recurses := true, named := ["cinnabar/heap.kinds", "cinnabar/heap.ranks"], loops := true, apart := false, laid := [("cinnabar/heap.kinds", laid_cinnabar_heap_kinds), ("cinnabar/heap.ranks", laid_cinnabar_heap_ranks)] }
def HeapStoresSaid : Prop := heapStoresRow.holds Tryd.pinned (OpenSpec.ofChange heapStoresSpec)

/-- ITS FALSE NEIGHBOUR: 'it returns false'. Refute it at one input. -/
def heapStoresWrong : ChangeSpec := { name := "heapStores", fn := fun _ => fun
  | [d] => { results := [.lit (.bool false)], args := [d] }
  | _ => none }
def HeapStoresWrongFalsely : Prop := heapStoresRow.holds Tryd.pinned (OpenSpec.ofChange heapStoresWrong)

/-- 'cinnabarlaw36.HeapShares': WHATEVER THE INPUT: true; the input reads as it did. -/
def heapSharesSpec : ChangeSpec := { name := "heapShares", fn := fun _ => fun
  | [d1, d2] => { results := [.lit (.bool true)], args := [d1, d2] }
  | _ => none }
def heapSharesRow : OpenClaim := { program := "ytldeokfhipjbfaadoor", sum := "bc186e23601728dd181ff6f392267178735725cd61002224c6deddf816685ebf", func := "cinnabar/cinnabarlaw36.HeapShares", spec := "heapShares", unfollowed := true, recurses := true, named := ["cinnabar/heap.kinds", "cinnabar/heap.ranks"], loops := true, apart := false, laid := [("cinnabar/heap.kinds", laid_cinnabar_heap_kinds), ("cinnabar/heap.ranks", laid_cinnabar_heap_ranks)] }
def HeapSharesSaid : Prop := heapSharesRow.holds Tryd.pinned (OpenSpec.ofChange heapSharesSpec)

/-- ITS FALSE NEIGHBOUR: 'it returns false'. Refute it at one input. -/
def heapSharesWrong : ChangeSpec := { name := "heapShares", fn := fun _ => fun
  | [d1, d2] => { results := [.lit (.bool false)], args := [d1, d2] }
  | _ => none }
def HeapSharesWrongFalsely : Prop := heapSharesRow.holds Tryd.pinned (OpenSpec.ofChange heapSharesWrong)

/-- 'cinnabarlaw36.HeapNil': WHATEVER THE INPUT: true; the input reads as it did. -/
def heapNilSpec : ChangeSpec := { name := "heapNil", fn := fun _ => fun
  | [d1, d2] => { results := [.lit (.bool true)], args := [d1, d2] }
  | _ => none }
def heapNilRow : OpenClaim := { program := "ytldeokfhipjbfaadoor", sum := "bc186e23601728dd181ff6f392267178735725cd61002224c6deddf816685ebf", func := "cinnabar/cinnabarlaw36.HeapNil", spec := "heapNil", inPlace := ["internal/bytealg.abigen_runtime_cmpstring"], unfollowed := true, recurses := true, named := ["cinnabar/heap.kinds", "cinnabar/heap.ranks"], apart := false, laid := [("cinnabar/heap.kinds", laid_cinnabar_heap_kinds), ("cinnabar/heap.ranks", laid_cinnabar_heap_ranks)] }
def HeapNilSaid : Prop := heapNilRow.holds Tryd.pinned (OpenSpec.ofChange heapNilSpec)

/-- ITS FALSE NEIGHBOUR: 'it returns false'. Refute it at one input. -/
def heapNilWrong : ChangeSpec := { name := "heapNil", fn := fun _ => fun
  | [d1, d2] => { results := [.lit (.bool false)], args := [d1, d2] }
  | _ => none }
def HeapNilWrongFalsely : Prop := heapNilRow.holds Tryd.pinned (OpenSpec.ofChange heapNilWrong)

/- THE SECOND FORM. 'bulk': how many values and letters a reading holds, each counted each time it is reached (what is shared counts as often as it is met; a slice's spare places count too). A statement '..UptoSaid' is the law's where the arguments, and the package variables that the reading takes, are together of bulk at most 1048576: NARROWER than '..Said'. Prove '..Said' where nothing that the law and all that it calls make is longer than what came in: it says more and counts as full. Else prove '..UptoSaid'. A law counts once. -/
mutual
def uptoBulk {H : Type} : DataW H → Nat
  | .lit (.string bytes) => bytes.length + 1
  | .lit _ => 1
  | .nil => 1
  | .ptr d => uptoBulk d + 1
  | .slice elems spare => uptoBulkAll elems + uptoBulkAll spare + 1
  | .agg parts => uptoBulkAll parts + 1
  | .iface _ d => uptoBulk d + 1
  | .map entries => uptoBulkEntries entries + 1
  | .held _ => 1
def uptoBulkAll {H : Type} : List (DataW H) → Nat
  | [] => 0
  | d :: r => uptoBulk d + uptoBulkAll r
def uptoBulkEntries {H : Type} : List (Lit × DataW H) → Nat
  | [] => 0
  | x :: r => uptoBulkEntry x + uptoBulkEntries r
def uptoBulkEntry {H : Type} : Lit × DataW H → Nat
  | (.string bytes, d) => bytes.length + uptoBulk d + 1
  | (_, d) => uptoBulk d + 1
 end
def uptoSmall : (H : Type) → List (DataW H) → Bool := fun _ ds => decide (uptoBulkAll ds ≤ 1048576)
def OpenSpec.upto (s : _root_.Go.ChangeSpec) : _root_.Go.OpenSpec := { _root_.Go.OpenSpec.ofChange s with cond := some uptoSmall }

/-- 'cinnabarlaw36.HeapStores', WHERE WHAT IT READS IS OF BULK AT MOST 1048576: true; the input reads as it did. -/
def heapStoresUptoRow : OpenClaim := { program := "ytldeokfhipjbfaadoor", sum := "bc186e23601728dd181ff6f392267178735725cd61002224c6deddf816685ebf", func := "cinnabar/cinnabarlaw36.HeapStores", spec := "heapStores", unfollowed := true, recurses := true, named := ["cinnabar/heap.kinds", "cinnabar/heap.ranks"], loops := true, apart := false, laid := [("cinnabar/heap.kinds", laid_cinnabar_heap_kinds), ("cinnabar/heap.ranks", laid_cinnabar_heap_ranks)], narrowed := true }
def HeapStoresUptoSaid : Prop := heapStoresUptoRow.holds Tryd.pinned (OpenSpec.upto heapStoresSpec)

/-- 'cinnabarlaw36.HeapShares', WHERE WHAT IT READS IS OF BULK AT MOST 1048576: true; the input reads as it did. -/
def heapSharesUptoRow : OpenClaim := { program := "ytldeokfhipjbfaadoor", sum := "bc186e23601728dd181ff6f392267178735725cd61002224c6deddf816685ebf", func := "cinnabar/cinnabarlaw36.HeapShares", spec := "heapShares", unfollowed := true, recurses := true, named := ["cinnabar/heap.kinds", "cinnabar/heap.ranks"], loops := true, apart := false, laid := [("cinnabar/heap.kinds", laid_cinnabar_heap_kinds), ("cinnabar/heap.ranks", laid_cinnabar_heap_ranks)], narrowed := true }
def HeapSharesUptoSaid : Prop := heapSharesUptoRow.holds Tryd.pinned (OpenSpec.upto heapSharesSpec)

/-- 'cinnabarlaw36.HeapNil', WHERE WHAT IT READS IS OF BULK AT MOST 1048576: true; the input reads as it did. -/
def heapNilUptoRow : OpenClaim := { program := "ytldeokfhipjbfaadoor", sum := "bc186e23601728dd181ff6f392267178735725cd61002224c6deddf816685ebf", func := "cinnabar/cinnabarlaw36.HeapNil", spec := "heapNil", inPlace := ["internal/bytealg.abigen_runtime_cmpstring"], unfollowed := true, recurses := true, named := ["cinnabar/heap.kinds", "cinnabar/heap.ranks"], apart := false, laid := [("cinnabar/heap.kinds", laid_cinnabar_heap_kinds), ("cinnabar/heap.ranks", laid_cinnabar_heap_ranks)], narrowed := true }
def HeapNilUptoSaid : Prop := heapNilUptoRow.holds Tryd.pinned (OpenSpec.upto heapNilSpec)

end Rows
end Go.Proofs.YtldeokfhipjbfaaDoor
