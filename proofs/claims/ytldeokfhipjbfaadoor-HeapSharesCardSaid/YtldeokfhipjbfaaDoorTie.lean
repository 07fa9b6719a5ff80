/-
  DERIVED. GIVEN WITH THE SEED: THE PROGRAM's TIES (one call each: nine closed facts by the kernel) AND EACH ROW's TIE, after the 31st guide's Derived/Test/Toyas{Tie, Card}.lean. No idea stands in it: it is a product of the set-up. Laid BY PROGRAM, IN A SANDBOX (cutbox-door.mjs). By AI agents, Wed Nov 11 2026. No macro, syntax, notation, axiom, sorry.
-/
import Derived.Test.YtldeokfhipjbfaaDoorRows
import Derived.LaidByTextLater
import Derived.SevenTiedAt
import Derived.LaidSub
import Derived.LaidOnce
namespace Go.Proofs.YtldeokfhipjbfaaDoor
open Go
set_option maxRecDepth 100000
theorem seatTie1 : Tryd.prog.laidByTextLater [("cinnabar/heap.kinds", Rows.laid_cinnabar_heap_kinds), ("cinnabar/heap.ranks", Rows.laid_cinnabar_heap_ranks)] [.mapped, .data] true :=
  Program.laidByTextLater_by_one 59 8 11 (by kernel_rfl) (by kernel_rfl) (by kernel_rfl) (by kernel_rfl) (by kernel_rfl) (by kernel_rfl) (fun _ _ => by kernel_rfl)
theorem noOwnUnsafe : Tryd.pinned.checked.prog.headLifts.contains "ownunsafe" = false := by kernel_rfl
theorem tie : Tryd.prog.laidByTextLater [("cinnabar/heap.kinds", Rows.laid_cinnabar_heap_kinds), ("cinnabar/heap.ranks", Rows.laid_cinnabar_heap_ranks)] [.mapped, .data] true :=
  Program.laidByTextLater.sub seatTie1 ["cinnabar/heap.kinds", "cinnabar/heap.ranks"] (by kernel_rfl) (by kernel_rfl)
theorem heapStores_row_tie : Rows.heapStoresRow.laidByTextAt .later Tryd.pinned [.mapped, .data] true :=
  OpenClaim.laidByTextAt_later rfl rfl tie noOwnUnsafe
theorem heapShares_row_tie : Rows.heapSharesRow.laidByTextAt .later Tryd.pinned [.mapped, .data] true :=
  OpenClaim.laidByTextAt_later rfl rfl tie noOwnUnsafe
theorem heapNil_row_tie : Rows.heapNilRow.laidByTextAt .later Tryd.pinned [.mapped, .data] true :=
  OpenClaim.laidByTextAt_later rfl rfl tie noOwnUnsafe
theorem heapStoresUpto_row_tie : Rows.heapStoresUptoRow.laidByTextAt .later Tryd.pinned [.mapped, .data] true :=
  OpenClaim.laidByTextAt_later rfl rfl tie noOwnUnsafe
theorem heapSharesUpto_row_tie : Rows.heapSharesUptoRow.laidByTextAt .later Tryd.pinned [.mapped, .data] true :=
  OpenClaim.laidByTextAt_later rfl rfl tie noOwnUnsafe
theorem heapNilUpto_row_tie : Rows.heapNilUptoRow.laidByTextAt .later Tryd.pinned [.mapped, .data] true :=
  OpenClaim.laidByTextAt_later rfl rfl tie noOwnUnsafe
end Go.Proofs.YtldeokfhipjbfaaDoor
