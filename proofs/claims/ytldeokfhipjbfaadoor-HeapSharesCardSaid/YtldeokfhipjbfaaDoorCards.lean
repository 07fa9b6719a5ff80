/-
  DERIVED. GIVEN WITH THE SEED: THE CARDS: each row of YtldeokfhipjbfaaDoorRows.lean that lists a variable, with what it lists TIED to the program's text (the seventh form; the later family's looks); each row that meets fmt, with fmt's text TOLD by the authors' own Lean function (tested against real Go, not proved from fmt's source: count such statements apart). THE CARD IS WHAT COUNTS. Prove the row's statement (the work); the ties are given (YtldeokfhipjbfaaDoorTie.lean); close each card by the builder's one call (the guide's Derived/Test/ToyasCard.lean, 'card_holds'). Laid BY PROGRAM, IN A SANDBOX (cutbox-door.mjs). By AI agents, Wed Nov 11 2026. No macro, syntax, notation, axiom, sorry.
-/
import Derived.Test.YtldeokfhipjbfaaDoorRows
import GoSem.ClaimSeven
namespace Go.Proofs.YtldeokfhipjbfaaDoor
namespace Rows

/-- THE TIED CARD OF 'cinnabarlaw36.HeapStores'. -/
def heapStoresCard : Claim7 := { stood := { row := heapStoresRow, standIns := [], harness := (true, "beab9d7ea4f8e9cdac72c04170efe81e12fdbff7bc4db5d9d4c18c4af2877ea1"), looks := false }, kinds := [], alts := [], laidByText := true, laidKinds := [.mapped, .data], laidTests := true, laidLooks := .later }
def HeapStoresCardSaid : Prop := Claim7.holds Tryd.pinned (.plain (OpenSpec.ofChange heapStoresSpec)) heapStoresCard

/-- THE TIED CARD OF 'cinnabarlaw36.HeapShares'. -/
def heapSharesCard : Claim7 := { stood := { row := heapSharesRow, standIns := [], harness := (true, "beab9d7ea4f8e9cdac72c04170efe81e12fdbff7bc4db5d9d4c18c4af2877ea1"), looks := false }, kinds := [], alts := [], laidByText := true, laidKinds := [.mapped, .data], laidTests := true, laidLooks := .later }
def HeapSharesCardSaid : Prop := Claim7.holds Tryd.pinned (.plain (OpenSpec.ofChange heapSharesSpec)) heapSharesCard

/-- THE TIED CARD OF 'cinnabarlaw36.HeapNil'. -/
def heapNilCard : Claim7 := { stood := { row := heapNilRow, standIns := [], harness := (true, "beab9d7ea4f8e9cdac72c04170efe81e12fdbff7bc4db5d9d4c18c4af2877ea1"), looks := false }, kinds := [], alts := [], laidByText := true, laidKinds := [.mapped, .data], laidTests := true, laidLooks := .later }
def HeapNilCardSaid : Prop := Claim7.holds Tryd.pinned (.plain (OpenSpec.ofChange heapNilSpec)) heapNilCard

/-- THE SECOND FORM's CARD OF 'cinnabarlaw36.HeapStores'. -/
def heapStoresUptoCard : Claim7 := { stood := { row := heapStoresUptoRow, standIns := [], harness := (true, "beab9d7ea4f8e9cdac72c04170efe81e12fdbff7bc4db5d9d4c18c4af2877ea1"), looks := false }, kinds := [], alts := [], laidByText := true, laidKinds := [.mapped, .data], laidTests := true, laidLooks := .later }
def HeapStoresUptoCardSaid : Prop := Claim7.holds Tryd.pinned (.plain (OpenSpec.upto heapStoresSpec)) heapStoresUptoCard

/-- THE SECOND FORM's CARD OF 'cinnabarlaw36.HeapShares'. -/
def heapSharesUptoCard : Claim7 := { stood := { row := heapSharesUptoRow, standIns := [], harness := (true, "beab9d7ea4f8e9cdac72c04170efe81e12fdbff7bc4db5d9d4c18c4af2877ea1"), looks := false }, kinds := [], alts := [], laidByText := true, laidKinds := [.mapped, .data], laidTests := true, laidLooks := .later }
def HeapSharesUptoCardSaid : Prop := Claim7.holds Tryd.pinned (.plain (OpenSpec.upto heapSharesSpec)) heapSharesUptoCard

/-- THE SECOND FORM's CARD OF 'cinnabarlaw36.HeapNil'. -/
def heapNilUptoCard : Claim7 := { stood := { row := heapNilUptoRow, standIns := [], harness := (true, "beab9d7ea4f8e9cdac72c04170efe81e12fdbff7bc4db5d9d4c18c4af2877ea1"), looks := false }, kinds := [], alts := [], laidByText := true, laidKinds := [.mapped, .data], laidTests := true, laidLooks := .later }
def HeapNilUptoCardSaid : Prop := Claim7.holds Tryd.pinned (.plain (OpenSpec.upto heapNilSpec)) heapNilUptoCard
end Rows
end Go.Proofs.YtldeokfhipjbfaaDoor
