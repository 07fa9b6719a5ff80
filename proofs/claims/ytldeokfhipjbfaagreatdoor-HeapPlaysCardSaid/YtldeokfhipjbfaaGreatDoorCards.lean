/-
  DERIVED. GIVEN WITH THE SEED: THE CARDS: each row of YtldeokfhipjbfaaGreatDoorRows.lean that lists a variable, with what it lists TIED to the program's text (the seventh form; the later family's looks); each row that meets fmt, with fmt's text TOLD by the authors' own Lean function (tested against real Go, not proved from fmt's source: count such statements apart). THE CARD IS WHAT COUNTS. Prove the row's statement (the work); the ties are given (YtldeokfhipjbfaaGreatDoorTie.lean); close each card by the builder's one call (the guide's Derived/Test/ToyasCard.lean, 'card_holds'). Laid BY PROGRAM, IN A SANDBOX (cutbox-door.mjs). By AI agents, Wed Nov 11 2026. No macro, syntax, notation, axiom, sorry.
-/
import Derived.Test.YtldeokfhipjbfaaGreatDoorRows
import GoSem.ClaimSeven
namespace Go.Proofs.YtldeokfhipjbfaaGreatDoor
namespace Rows

/-- THE TIED CARD OF 'cinnabarlaw36.HeapPlays'. -/
def heapPlaysCard : Claim7 := { stood := { row := heapPlaysRow, standIns := [], harness := (true, "e02bab49af59349f6e08261c09bc89bc785096cf90b8782bb9742aeb95cefeaf"), looks := false }, kinds := [], alts := [], laidByText := true, laidKinds := [.mapped, .data], laidTests := true, laidLooks := .later }
def HeapPlaysCardSaid : Prop := Claim7.holds Tryz.pinned (.plain (OpenSpec.ofChange heapPlaysSpec)) heapPlaysCard

/-- THE TIED CARD OF 'cinnabarlaw36.HeapKeeps'. -/
def heapKeepsCard : Claim7 := { stood := { row := heapKeepsRow, standIns := [], harness := (true, "e02bab49af59349f6e08261c09bc89bc785096cf90b8782bb9742aeb95cefeaf"), looks := false }, kinds := [], alts := [], laidByText := true, laidKinds := [.mapped, .data], laidTests := true, laidLooks := .later }
def HeapKeepsCardSaid : Prop := Claim7.holds Tryz.pinned (.plain (OpenSpec.ofChange heapKeepsSpec)) heapKeepsCard

/-- THE SECOND FORM's CARD OF 'cinnabarlaw36.HeapPlays'. -/
def heapPlaysUptoCard : Claim7 := { stood := { row := heapPlaysUptoRow, standIns := [], harness := (true, "e02bab49af59349f6e08261c09bc89bc785096cf90b8782bb9742aeb95cefeaf"), looks := false }, kinds := [], alts := [], laidByText := true, laidKinds := [.mapped, .data], laidTests := true, laidLooks := .later }
def HeapPlaysUptoCardSaid : Prop := Claim7.holds Tryz.pinned (.plain (OpenSpec.upto heapPlaysSpec)) heapPlaysUptoCard

/-- THE SECOND FORM's CARD OF 'cinnabarlaw36.HeapKeeps'. -/
def heapKeepsUptoCard : Claim7 := { stood := { row := heapKeepsUptoRow, standIns := [], harness := (true, "e02bab49af59349f6e08261c09bc89bc785096cf90b8782bb9742aeb95cefeaf"), looks := false }, kinds := [], alts := [], laidByText := true, laidKinds := [.mapped, .data], laidTests := true, laidLooks := .later }
def HeapKeepsUptoCardSaid : Prop := Claim7.holds Tryz.pinned (.plain (OpenSpec.upto heapKeepsSpec)) heapKeepsUptoCard
end Rows
end Go.Proofs.YtldeokfhipjbfaaGreatDoor
