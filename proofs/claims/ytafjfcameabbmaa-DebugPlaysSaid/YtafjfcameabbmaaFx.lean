/- Closed facts of the loaded program: sizes of types, places of fields, which functions have bodies. -/
import Derived.Test.YtafjfcameabbmaaProg
import Derived.Test.YtafjfcameabbmaaVg15
import Derived.KernelRfl
set_option linter.unusedVariables false
namespace Go.Proofs.Ytafjfcameabbmaa
open Go Go.Proofs.Vg
namespace Fx
theorem ag3 : aggN Try.prog 3 = some none := by kernel_rfl
theorem ag4 : aggN Try.prog 4 = some none := by kernel_rfl
theorem ag22 : aggN Try.prog 22 = some none := by kernel_rfl
theorem ag23 : aggN Try.prog 23 = some none := by kernel_rfl
theorem ag26 : aggN Try.prog 26 = some none := by kernel_rfl
theorem ag31 : aggN Try.prog 31 = some none := by kernel_rfl
theorem ag35 : aggN Try.prog 35 = some none := by kernel_rfl
theorem ag37 : aggN Try.prog 37 = some (some 5) := by kernel_rfl
theorem ag50 : aggN Try.prog 50 = some none := by kernel_rfl
theorem ag55 : aggN Try.prog 55 = some (some 3) := by kernel_rfl
theorem ag60 : aggN Try.prog 60 = some (some 3) := by kernel_rfl
theorem fo37_0 : fieldOff Try.prog 37 0 = some 0 := by kernel_rfl
theorem fo37_1 : fieldOff Try.prog 37 1 = some 1 := by kernel_rfl
theorem fo37_2 : fieldOff Try.prog 37 2 = some 2 := by kernel_rfl
theorem fo37_3 : fieldOff Try.prog 37 3 = some 3 := by kernel_rfl
theorem fo37_4 : fieldOff Try.prog 37 4 = some 4 := by kernel_rfl
theorem fo55_0 : fieldOff Try.prog 55 0 = some 0 := by kernel_rfl
theorem fo55_1 : fieldOff Try.prog 55 1 = some 1 := by kernel_rfl
theorem fo55_2 : fieldOff Try.prog 55 2 = some 2 := by kernel_rfl
theorem fo60_0 : fieldOff Try.prog 60 0 = some 0 := by kernel_rfl
theorem fo60_1 : fieldOff Try.prog 60 1 = some 1 := by kernel_rfl
theorem fo60_2 : fieldOff Try.prog 60 2 = some 2 := by kernel_rfl
theorem fo61_4 : fieldOff Try.prog 61 4 = some 4 := by kernel_rfl
theorem es22 : elemSize Try.prog 22 = some 5 := by kernel_rfl
theorem es23 : elemSize Try.prog 23 = some 1 := by kernel_rfl
theorem es26 : elemSize Try.prog 26 = some 1 := by kernel_rfl
theorem es31 : elemSize Try.prog 31 = some 5 := by kernel_rfl
theorem es63 : elemSize Try.prog 63 = some 1 := by kernel_rfl
theorem isl22 : isSlice Try.prog 22 = true := by kernel_rfl
theorem isl23 : isSlice Try.prog 23 = true := by kernel_rfl
theorem isl26 : isSlice Try.prog 26 = true := by kernel_rfl
theorem isl31 : isSlice Try.prog 31 = true := by kernel_rfl
theorem isl63 : isSlice Try.prog 63 = true := by kernel_rfl
theorem un3 : Try.prog.underlying 3 = some (.int .i64) := by kernel_rfl
theorem un4 : Try.prog.underlying 4 = some (.bool) := by kernel_rfl
theorem un9 : Try.prog.underlying 9 = some (.string) := by kernel_rfl
theorem un22 : Try.prog.underlying 22 = some (.slice 37) := by kernel_rfl
theorem un23 : Try.prog.underlying 23 = some (.slice 4) := by kernel_rfl
theorem un26 : Try.prog.underlying 26 = some (.slice 3) := by kernel_rfl
theorem un27 : Try.prog.underlying 27 = some (.int .i64) := by kernel_rfl
theorem un31 : Try.prog.underlying 31 = some (.slice 61) := by kernel_rfl
theorem un62 : Try.prog.underlying 62 = some (.map 3 4) := by kernel_rfl
theorem un63 : Try.prog.underlying 63 = some (.slice 26) := by kernel_rfl
theorem un103 : Try.prog.underlying 103 = some (.int .u64) := by kernel_rfl
theorem un112 : Try.prog.underlying 112 = some (.int .u32) := by kernel_rfl
theorem un115 : Try.prog.underlying 115 = some (.int .u64) := by kernel_rfl
theorem zi3 : zinfo Try.prog 3 = some (some (.int .i64 0), 1, 8) := by kernel_rfl
theorem zi4 : zinfo Try.prog 4 = some (some (.bool false), 1, 1) := by kernel_rfl
theorem zi22 : zinfo Try.prog 22 = some (some (.slice none 0 0), 1, 24) := by kernel_rfl
theorem zi23 : zinfo Try.prog 23 = some (some (.slice none 0 0), 1, 24) := by kernel_rfl
theorem zi26 : zinfo Try.prog 26 = some (some (.slice none 0 0), 1, 24) := by kernel_rfl
theorem zi37 : zinfo Try.prog 37 = some (some (.agg #[.int .i64 0, .int .i64 0, .slice none 0 0, .slice none 0 0, .slice none 0 0]), 5, 88) := by kernel_rfl
theorem zi50 : zinfo Try.prog 50 = some (some (.pointer none), 1, 8) := by kernel_rfl
theorem zi55 : zinfo Try.prog 55 = some (some (.agg #[.slice none 0 0, .slice none 0 0, .int .i64 0]), 3, 56) := by kernel_rfl
theorem zi60 : zinfo Try.prog 60 = some (some (.agg #[.slice none 0 0, .int .i64 0, .slice none 0 0]), 3, 56) := by kernel_rfl
theorem zi61 : zinfo Try.prog 61 = some (some (.agg #[.int .i64 0, .int .i64 0, .slice none 0 0, .slice none 0 0, .slice none 0 0]), 5, 88) := by kernel_rfl
theorem en8 : ∀ (xs : Array Value) (w : World), (callFunc 8 xs).run Try.prog w = .ok (.enter 8 xs) w := fun _ _ => by kernel_rfl
theorem en9 : ∀ (xs : Array Value) (w : World), (callFunc 9 xs).run Try.prog w = .ok (.enter 9 xs) w := fun _ _ => by kernel_rfl
theorem en10 : ∀ (xs : Array Value) (w : World), (callFunc 10 xs).run Try.prog w = .ok (.enter 10 xs) w := fun _ _ => by kernel_rfl
theorem en11 : ∀ (xs : Array Value) (w : World), (callFunc 11 xs).run Try.prog w = .ok (.enter 11 xs) w := fun _ _ => by kernel_rfl
theorem en12 : ∀ (xs : Array Value) (w : World), (callFunc 12 xs).run Try.prog w = .ok (.enter 12 xs) w := fun _ _ => by kernel_rfl
theorem en13 : ∀ (xs : Array Value) (w : World), (callFunc 13 xs).run Try.prog w = .ok (.enter 13 xs) w := fun _ _ => by kernel_rfl
theorem en14 : ∀ (xs : Array Value) (w : World), (callFunc 14 xs).run Try.prog w = .ok (.enter 14 xs) w := fun _ _ => by kernel_rfl
theorem en15 : ∀ (xs : Array Value) (w : World), (callFunc 15 xs).run Try.prog w = .ok (.enter 15 xs) w := fun _ _ => by kernel_rfl
theorem en20 : ∀ (xs : Array Value) (w : World), (callFunc 20 xs).run Try.prog w = .ok (.enter 20 xs) w := fun _ _ => by kernel_rfl
theorem en21 : ∀ (xs : Array Value) (w : World), (callFunc 21 xs).run Try.prog w = .ok (.enter 21 xs) w := fun _ _ => by kernel_rfl
theorem en22 : ∀ (xs : Array Value) (w : World), (callFunc 22 xs).run Try.prog w = .ok (.enter 22 xs) w := fun _ _ => by kernel_rfl
theorem en23 : ∀ (xs : Array Value) (w : World), (callFunc 23 xs).run Try.prog w = .ok (.enter 23 xs) w := fun _ _ => by kernel_rfl
theorem en24 : ∀ (xs : Array Value) (w : World), (callFunc 24 xs).run Try.prog w = .ok (.enter 24 xs) w := fun _ _ => by kernel_rfl
theorem en25 : ∀ (xs : Array Value) (w : World), (callFunc 25 xs).run Try.prog w = .ok (.enter 25 xs) w := fun _ _ => by kernel_rfl
theorem en26 : ∀ (xs : Array Value) (w : World), (callFunc 26 xs).run Try.prog w = .ok (.enter 26 xs) w := fun _ _ => by kernel_rfl
theorem en27 : ∀ (xs : Array Value) (w : World), (callFunc 27 xs).run Try.prog w = .ok (.enter 27 xs) w := fun _ _ => by kernel_rfl
theorem en28 : ∀ (xs : Array Value) (w : World), (callFunc 28 xs).run Try.prog w = .ok (.enter 28 xs) w := fun _ _ => by kernel_rfl
theorem en29 : ∀ (xs : Array Value) (w : World), (callFunc 29 xs).run Try.prog w = .ok (.enter 29 xs) w := fun _ _ => by kernel_rfl
theorem en30 : ∀ (xs : Array Value) (w : World), (callFunc 30 xs).run Try.prog w = .ok (.enter 30 xs) w := fun _ _ => by kernel_rfl
theorem en31 : ∀ (xs : Array Value) (w : World), (callFunc 31 xs).run Try.prog w = .ok (.enter 31 xs) w := fun _ _ => by kernel_rfl
theorem en42 : ∀ (xs : Array Value) (w : World), (callFunc 42 xs).run Try.prog w = .ok (.enter 42 xs) w := fun _ _ => by kernel_rfl
theorem en43 : ∀ (xs : Array Value) (w : World), (callFunc 43 xs).run Try.prog w = .ok (.enter 43 xs) w := fun _ _ => by kernel_rfl
theorem en44 : ∀ (xs : Array Value) (w : World), (callFunc 44 xs).run Try.prog w = .ok (.enter 44 xs) w := fun _ _ => by kernel_rfl
theorem en45 : ∀ (xs : Array Value) (w : World), (callFunc 45 xs).run Try.prog w = .ok (.enter 45 xs) w := fun _ _ => by kernel_rfl
theorem en46 : ∀ (xs : Array Value) (w : World), (callFunc 46 xs).run Try.prog w = .ok (.enter 46 xs) w := fun _ _ => by kernel_rfl
theorem en47 : ∀ (xs : Array Value) (w : World), (callFunc 47 xs).run Try.prog w = .ok (.enter 47 xs) w := fun _ _ => by kernel_rfl
theorem en48 : ∀ (xs : Array Value) (w : World), (callFunc 48 xs).run Try.prog w = .ok (.enter 48 xs) w := fun _ _ => by kernel_rfl
theorem en49 : ∀ (xs : Array Value) (w : World), (callFunc 49 xs).run Try.prog w = .ok (.enter 49 xs) w := fun _ _ => by kernel_rfl
theorem en50 : ∀ (xs : Array Value) (w : World), (callFunc 50 xs).run Try.prog w = .ok (.enter 50 xs) w := fun _ _ => by kernel_rfl
theorem en55 : ∀ (xs : Array Value) (w : World), (callFunc 55 xs).run Try.prog w = .ok (.enter 55 xs) w := fun _ _ => by kernel_rfl
theorem en56 : ∀ (xs : Array Value) (w : World), (callFunc 56 xs).run Try.prog w = .ok (.enter 56 xs) w := fun _ _ => by kernel_rfl
theorem en60 : ∀ (xs : Array Value) (w : World), (callFunc 60 xs).run Try.prog w = .ok (.enter 60 xs) w := fun _ _ => by kernel_rfl
theorem en61 : ∀ (xs : Array Value) (w : World), (callFunc 61 xs).run Try.prog w = .ok (.enter 61 xs) w := fun _ _ => by kernel_rfl
theorem en62 : ∀ (xs : Array Value) (w : World), (callFunc 62 xs).run Try.prog w = .ok (.enter 62 xs) w := fun _ _ => by kernel_rfl
theorem mixed : Try.prog.follows .mixedOrders = true := by kernel_rfl
end Fx
end Go.Proofs.Ytafjfcameabbmaa
