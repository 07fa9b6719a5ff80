/- Closed facts of the loaded program: sizes of types, places of fields, which functions have bodies. -/
import Derived.Test.YtldeokfhipjbfaaDoorProg
import Derived.Test.YtldeokfhipjbfaaDoorVg15
import Derived.KernelRfl
set_option linter.unusedVariables false
namespace Go.Proofs.YtldeokfhipjbfaaDoor
open Go Go.Proofs.Vg
namespace Fx
theorem ag2 : aggN Tryd.prog 2 = some none := by kernel_rfl
theorem ag3 : aggN Tryd.prog 3 = some none := by kernel_rfl
theorem ag4 : aggN Tryd.prog 4 = some none := by kernel_rfl
theorem ag9 : aggN Tryd.prog 9 = some none := by kernel_rfl
theorem ag22 : aggN Tryd.prog 22 = some none := by kernel_rfl
theorem ag24 : aggN Tryd.prog 24 = some (some 4) := by kernel_rfl
theorem ag27 : aggN Tryd.prog 27 = some none := by kernel_rfl
theorem ag28 : aggN Tryd.prog 28 = some none := by kernel_rfl
theorem ag31 : aggN Tryd.prog 31 = some (some 3) := by kernel_rfl
theorem ag42 : aggN Tryd.prog 42 = some none := by kernel_rfl
theorem ag56 : aggN Tryd.prog 56 = some none := by kernel_rfl
theorem ag57 : aggN Tryd.prog 57 = some none := by kernel_rfl
theorem ag59 : aggN Tryd.prog 59 = some (some 2) := by kernel_rfl
theorem ag72 : aggN Tryd.prog 72 = some (some 4) := by kernel_rfl
theorem ag73 : aggN Tryd.prog 73 = some none := by kernel_rfl
theorem ag78 : aggN Tryd.prog 78 = some none := by kernel_rfl
theorem ag85 : aggN Tryd.prog 85 = some none := by kernel_rfl
theorem ag86 : aggN Tryd.prog 86 = some none := by kernel_rfl
theorem ag93 : aggN Tryd.prog 93 = some none := by kernel_rfl
theorem fo24_0 : fieldOff Tryd.prog 24 0 = some 0 := by kernel_rfl
theorem fo24_1 : fieldOff Tryd.prog 24 1 = some 1 := by kernel_rfl
theorem fo24_2 : fieldOff Tryd.prog 24 2 = some 2 := by kernel_rfl
theorem fo24_3 : fieldOff Tryd.prog 24 3 = some 3 := by kernel_rfl
theorem fo31_0 : fieldOff Tryd.prog 31 0 = some 0 := by kernel_rfl
theorem fo31_1 : fieldOff Tryd.prog 31 1 = some 1 := by kernel_rfl
theorem fo31_2 : fieldOff Tryd.prog 31 2 = some 2 := by kernel_rfl
theorem fo59_0 : fieldOff Tryd.prog 59 0 = some 0 := by kernel_rfl
theorem fo59_1 : fieldOff Tryd.prog 59 1 = some 1 := by kernel_rfl
theorem fo70_0 : fieldOff Tryd.prog 70 0 = some 0 := by kernel_rfl
theorem fo72_0 : fieldOff Tryd.prog 72 0 = some 0 := by kernel_rfl
theorem fo72_1 : fieldOff Tryd.prog 72 1 = some 1 := by kernel_rfl
theorem fo72_2 : fieldOff Tryd.prog 72 2 = some 2 := by kernel_rfl
theorem fo72_3 : fieldOff Tryd.prog 72 3 = some 3 := by kernel_rfl
theorem es22 : elemSize Tryd.prog 22 = some 4 := by kernel_rfl
theorem es42 : elemSize Tryd.prog 42 = some 3 := by kernel_rfl
theorem es56 : elemSize Tryd.prog 56 = some 1 := by kernel_rfl
theorem es78 : elemSize Tryd.prog 78 = some 1 := by kernel_rfl
theorem es93 : elemSize Tryd.prog 93 = some 1 := by kernel_rfl
theorem ar87 : arrInfo Tryd.prog 87 = some (10, 1) := by kernel_rfl
theorem isl22 : isSlice Tryd.prog 22 = true := by kernel_rfl
theorem isl42 : isSlice Tryd.prog 42 = true := by kernel_rfl
theorem isl56 : isSlice Tryd.prog 56 = true := by kernel_rfl
theorem isl78 : isSlice Tryd.prog 78 = true := by kernel_rfl
theorem ist9 : isString Tryd.prog 9 = true := by kernel_rfl
theorem un2 : Tryd.prog.underlying 2 = some (.int .i64) := by kernel_rfl
theorem un3 : Tryd.prog.underlying 3 = some (.int .i64) := by kernel_rfl
theorem un9 : Tryd.prog.underlying 9 = some (.string) := by kernel_rfl
theorem un22 : Tryd.prog.underlying 22 = some (.slice 24) := by kernel_rfl
theorem un28 : Tryd.prog.underlying 28 = some (.pointer 59) := by kernel_rfl
theorem un32 : Tryd.prog.underlying 32 = some (.int .i64) := by kernel_rfl
theorem un42 : Tryd.prog.underlying 42 = some (.slice 31) := by kernel_rfl
theorem un56 : Tryd.prog.underlying 56 = some (.slice 73) := by kernel_rfl
theorem un57 : Tryd.prog.underlying 57 = some (.map 3 39) := by kernel_rfl
theorem un73 : Tryd.prog.underlying 73 = some (.pointer 72) := by kernel_rfl
theorem un78 : Tryd.prog.underlying 78 = some (.slice 3) := by kernel_rfl
theorem un85 : Tryd.prog.underlying 85 = some (.map 3 3) := by kernel_rfl
theorem un93 : Tryd.prog.underlying 93 = some (.slice 4) := by kernel_rfl
theorem zi3 : zinfo Tryd.prog 3 = some (some (.int .i64 0), 1, 8) := by kernel_rfl
theorem zi4 : zinfo Tryd.prog 4 = some (some (.bool false), 1, 1) := by kernel_rfl
theorem zi24 : zinfo Tryd.prog 24 = some (some (.agg #[.int .i64 0, .int .i64 0, .string ByteArray.empty, .slice none 0 0]), 4, 56) := by kernel_rfl
theorem zi27 : zinfo Tryd.prog 27 = some (some (.pointer none), 1, 8) := by kernel_rfl
theorem zi28 : zinfo Tryd.prog 28 = some (some (.pointer none), 1, 8) := by kernel_rfl
theorem zi31 : zinfo Tryd.prog 31 = some (some (.agg #[.int .i64 0, .int .i64 0, .int .i64 0]), 3, 24) := by kernel_rfl
theorem zi42 : zinfo Tryd.prog 42 = some (some (.slice none 0 0), 1, 24) := by kernel_rfl
theorem zi56 : zinfo Tryd.prog 56 = some (some (.slice none 0 0), 1, 24) := by kernel_rfl
theorem zi59 : zinfo Tryd.prog 59 = some (some (.agg #[.slice none 0 0, .map none]), 2, 32) := by kernel_rfl
theorem zi72 : zinfo Tryd.prog 72 = some (some (.agg #[.slice none 0 0, .string ByteArray.empty, .bool false, .int .i64 0]), 4, 56) := by kernel_rfl
theorem zi73 : zinfo Tryd.prog 73 = some (some (.pointer none), 1, 8) := by kernel_rfl
theorem zi78 : zinfo Tryd.prog 78 = some (some (.slice none 0 0), 1, 24) := by kernel_rfl
theorem zi93 : zinfo Tryd.prog 93 = some (some (.slice none 0 0), 1, 24) := by kernel_rfl
theorem en6 : ∀ (xs : Array Value) (w : World), (callFunc 6 xs).run Tryd.prog w = .ok (.enter 6 xs) w := fun _ _ => by kernel_rfl
theorem en7 : ∀ (xs : Array Value) (w : World), (callFunc 7 xs).run Tryd.prog w = .ok (.enter 7 xs) w := fun _ _ => by kernel_rfl
theorem en8 : ∀ (xs : Array Value) (w : World), (callFunc 8 xs).run Tryd.prog w = .ok (.enter 8 xs) w := fun _ _ => by kernel_rfl
theorem en9 : ∀ (xs : Array Value) (w : World), (callFunc 9 xs).run Tryd.prog w = .ok (.enter 9 xs) w := fun _ _ => by kernel_rfl
theorem en10 : ∀ (xs : Array Value) (w : World), (callFunc 10 xs).run Tryd.prog w = .ok (.enter 10 xs) w := fun _ _ => by kernel_rfl
theorem en11 : ∀ (xs : Array Value) (w : World), (callFunc 11 xs).run Tryd.prog w = .ok (.enter 11 xs) w := fun _ _ => by kernel_rfl
theorem en12 : ∀ (xs : Array Value) (w : World), (callFunc 12 xs).run Tryd.prog w = .ok (.enter 12 xs) w := fun _ _ => by kernel_rfl
theorem en13 : ∀ (xs : Array Value) (w : World), (callFunc 13 xs).run Tryd.prog w = .ok (.enter 13 xs) w := fun _ _ => by kernel_rfl
theorem en14 : ∀ (xs : Array Value) (w : World), (callFunc 14 xs).run Tryd.prog w = .ok (.enter 14 xs) w := fun _ _ => by kernel_rfl
theorem en15 : ∀ (xs : Array Value) (w : World), (callFunc 15 xs).run Tryd.prog w = .ok (.enter 15 xs) w := fun _ _ => by kernel_rfl
theorem en16 : ∀ (xs : Array Value) (w : World), (callFunc 16 xs).run Tryd.prog w = .ok (.enter 16 xs) w := fun _ _ => by kernel_rfl
theorem en17 : ∀ (xs : Array Value) (w : World), (callFunc 17 xs).run Tryd.prog w = .ok (.enter 17 xs) w := fun _ _ => by kernel_rfl
theorem en18 : ∀ (xs : Array Value) (w : World), (callFunc 18 xs).run Tryd.prog w = .ok (.enter 18 xs) w := fun _ _ => by kernel_rfl
theorem en19 : ∀ (xs : Array Value) (w : World), (callFunc 19 xs).run Tryd.prog w = .ok (.enter 19 xs) w := fun _ _ => by kernel_rfl
theorem en20 : ∀ (xs : Array Value) (w : World), (callFunc 20 xs).run Tryd.prog w = .ok (.enter 20 xs) w := fun _ _ => by kernel_rfl
theorem en21 : ∀ (xs : Array Value) (w : World), (callFunc 21 xs).run Tryd.prog w = .ok (.enter 21 xs) w := fun _ _ => by kernel_rfl
theorem en22 : ∀ (xs : Array Value) (w : World), (callFunc 22 xs).run Tryd.prog w = .ok (.enter 22 xs) w := fun _ _ => by kernel_rfl
theorem en23 : ∀ (xs : Array Value) (w : World), (callFunc 23 xs).run Tryd.prog w = .ok (.enter 23 xs) w := fun _ _ => by kernel_rfl
theorem en24 : ∀ (xs : Array Value) (w : World), (callFunc 24 xs).run Tryd.prog w = .ok (.enter 24 xs) w := fun _ _ => by kernel_rfl
theorem en25 : ∀ (xs : Array Value) (w : World), (callFunc 25 xs).run Tryd.prog w = .ok (.enter 25 xs) w := fun _ _ => by kernel_rfl
theorem en26 : ∀ (xs : Array Value) (w : World), (callFunc 26 xs).run Tryd.prog w = .ok (.enter 26 xs) w := fun _ _ => by kernel_rfl
theorem en27 : ∀ (xs : Array Value) (w : World), (callFunc 27 xs).run Tryd.prog w = .ok (.enter 27 xs) w := fun _ _ => by kernel_rfl
theorem en28 : ∀ (xs : Array Value) (w : World), (callFunc 28 xs).run Tryd.prog w = .ok (.enter 28 xs) w := fun _ _ => by kernel_rfl
theorem en29 : ∀ (xs : Array Value) (w : World), (callFunc 29 xs).run Tryd.prog w = .ok (.enter 29 xs) w := fun _ _ => by kernel_rfl
theorem en30 : ∀ (xs : Array Value) (w : World), (callFunc 30 xs).run Tryd.prog w = .ok (.enter 30 xs) w := fun _ _ => by kernel_rfl
theorem en31 : ∀ (xs : Array Value) (w : World), (callFunc 31 xs).run Tryd.prog w = .ok (.enter 31 xs) w := fun _ _ => by kernel_rfl
theorem en32 : ∀ (xs : Array Value) (w : World), (callFunc 32 xs).run Tryd.prog w = .ok (.enter 32 xs) w := fun _ _ => by kernel_rfl
theorem en33 : ∀ (xs : Array Value) (w : World), (callFunc 33 xs).run Tryd.prog w = .ok (.enter 33 xs) w := fun _ _ => by kernel_rfl
theorem en34 : ∀ (xs : Array Value) (w : World), (callFunc 34 xs).run Tryd.prog w = .ok (.enter 34 xs) w := fun _ _ => by kernel_rfl
theorem en35 : ∀ (xs : Array Value) (w : World), (callFunc 35 xs).run Tryd.prog w = .ok (.enter 35 xs) w := fun _ _ => by kernel_rfl
theorem en36 : ∀ (xs : Array Value) (w : World), (callFunc 36 xs).run Tryd.prog w = .ok (.enter 36 xs) w := fun _ _ => by kernel_rfl
theorem en37 : ∀ (xs : Array Value) (w : World), (callFunc 37 xs).run Tryd.prog w = .ok (.enter 37 xs) w := fun _ _ => by kernel_rfl
theorem en38 : ∀ (xs : Array Value) (w : World), (callFunc 38 xs).run Tryd.prog w = .ok (.enter 38 xs) w := fun _ _ => by kernel_rfl
theorem en39 : ∀ (xs : Array Value) (w : World), (callFunc 39 xs).run Tryd.prog w = .ok (.enter 39 xs) w := fun _ _ => by kernel_rfl
theorem en40 : ∀ (xs : Array Value) (w : World), (callFunc 40 xs).run Tryd.prog w = .ok (.enter 40 xs) w := fun _ _ => by kernel_rfl
theorem en41 : ∀ (xs : Array Value) (w : World), (callFunc 41 xs).run Tryd.prog w = .ok (.enter 41 xs) w := fun _ _ => by kernel_rfl
theorem en42 : ∀ (xs : Array Value) (w : World), (callFunc 42 xs).run Tryd.prog w = .ok (.enter 42 xs) w := fun _ _ => by kernel_rfl
theorem en43 : ∀ (xs : Array Value) (w : World), (callFunc 43 xs).run Tryd.prog w = .ok (.enter 43 xs) w := fun _ _ => by kernel_rfl
theorem en44 : ∀ (xs : Array Value) (w : World), (callFunc 44 xs).run Tryd.prog w = .ok (.enter 44 xs) w := fun _ _ => by kernel_rfl
theorem en45 : ∀ (xs : Array Value) (w : World), (callFunc 45 xs).run Tryd.prog w = .ok (.enter 45 xs) w := fun _ _ => by kernel_rfl
theorem en46 : ∀ (xs : Array Value) (w : World), (callFunc 46 xs).run Tryd.prog w = .ok (.enter 46 xs) w := fun _ _ => by kernel_rfl
theorem en47 : ∀ (xs : Array Value) (w : World), (callFunc 47 xs).run Tryd.prog w = .ok (.enter 47 xs) w := fun _ _ => by kernel_rfl
theorem en48 : ∀ (xs : Array Value) (w : World), (callFunc 48 xs).run Tryd.prog w = .ok (.enter 48 xs) w := fun _ _ => by kernel_rfl
theorem en49 : ∀ (xs : Array Value) (w : World), (callFunc 49 xs).run Tryd.prog w = .ok (.enter 49 xs) w := fun _ _ => by kernel_rfl
theorem en50 : ∀ (xs : Array Value) (w : World), (callFunc 50 xs).run Tryd.prog w = .ok (.enter 50 xs) w := fun _ _ => by kernel_rfl
theorem en51 : ∀ (xs : Array Value) (w : World), (callFunc 51 xs).run Tryd.prog w = .ok (.enter 51 xs) w := fun _ _ => by kernel_rfl
theorem en52 : ∀ (xs : Array Value) (w : World), (callFunc 52 xs).run Tryd.prog w = .ok (.enter 52 xs) w := fun _ _ => by kernel_rfl
theorem en53 : ∀ (xs : Array Value) (w : World), (callFunc 53 xs).run Tryd.prog w = .ok (.enter 53 xs) w := fun _ _ => by kernel_rfl
theorem en54 : ∀ (xs : Array Value) (w : World), (callFunc 54 xs).run Tryd.prog w = .ok (.enter 54 xs) w := fun _ _ => by kernel_rfl
theorem en55 : ∀ (xs : Array Value) (w : World), (callFunc 55 xs).run Tryd.prog w = .ok (.enter 55 xs) w := fun _ _ => by kernel_rfl
theorem en56 : ∀ (xs : Array Value) (w : World), (callFunc 56 xs).run Tryd.prog w = .ok (.enter 56 xs) w := fun _ _ => by kernel_rfl
theorem en57 : ∀ (xs : Array Value) (w : World), (callFunc 57 xs).run Tryd.prog w = .ok (.enter 57 xs) w := fun _ _ => by kernel_rfl
theorem en58 : ∀ (xs : Array Value) (w : World), (callFunc 58 xs).run Tryd.prog w = .ok (.enter 58 xs) w := fun _ _ => by kernel_rfl
theorem en59 : ∀ (xs : Array Value) (w : World), (callFunc 59 xs).run Tryd.prog w = .ok (.enter 59 xs) w := fun _ _ => by kernel_rfl
theorem en60 : ∀ (xs : Array Value) (w : World), (callFunc 60 xs).run Tryd.prog w = .ok (.enter 60 xs) w := fun _ _ => by kernel_rfl
theorem en61 : ∀ (xs : Array Value) (w : World), (callFunc 61 xs).run Tryd.prog w = .ok (.enter 61 xs) w := fun _ _ => by kernel_rfl
theorem en62 : ∀ (xs : Array Value) (w : World), (callFunc 62 xs).run Tryd.prog w = .ok (.enter 62 xs) w := fun _ _ => by kernel_rfl
theorem en63 : ∀ (xs : Array Value) (w : World), (callFunc 63 xs).run Tryd.prog w = .ok (.enter 63 xs) w := fun _ _ => by kernel_rfl
theorem en64 : ∀ (xs : Array Value) (w : World), (callFunc 64 xs).run Tryd.prog w = .ok (.enter 64 xs) w := fun _ _ => by kernel_rfl
theorem mixed : Tryd.prog.follows .mixedOrders = true := by kernel_rfl
end Fx
end Go.Proofs.YtldeokfhipjbfaaDoor
