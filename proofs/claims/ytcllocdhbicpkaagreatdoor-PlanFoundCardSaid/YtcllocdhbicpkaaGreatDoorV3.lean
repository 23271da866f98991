/-
The comparison of two strings, by the library's own text (turned from the kit's templates for it).
-/
import Derived.Test.YtcllocdhbicpkaaGreatDoorProg
import Derived.Lib.Strings
import Derived.Lib.Slices
import Derived.Lib.Walk
import Derived.Lib.Bytealg
namespace Go.Proofs.YtcllocdhbicpkaaGreatDoor

set_option maxHeartbeats 1000000 in
set_option maxRecDepth 100000 in
theorem bytes_compare (a b : ByteArray) (w : World) :
    Calls Tryz.prog 108 #[.string a, .string b] w fun e w' => e = .returned (.int .i64 (Lib.compareBytes a.data.toList b.data.toList)) ∧ w' = w := by
  go_enter Tryz.func108, Tryz.ntmps108
  go_wp2
  rw [run_callFunc_extern Tryz.func120 (by kernel_rfl) (by kernel_rfl) (by kernel_rfl) (e := Extern.BytealgCompare.compare) (by kernel_rfl), Lib.run_compareString]
  simp only [Result.andThen]
  rw [Oper.upon_value]
  go_wp2
  go_ret
  exact ⟨rfl, rfl⟩

set_option maxHeartbeats 1000000 in
theorem string_compare (a b : ByteArray) (w : World) :
    Calls Tryz.prog 90 #[.string a, .string b] w fun e w' => e = .returned (.int .i64 (Lib.compareBytes a.data.toList b.data.toList)) ∧ w' = w := by
  go_enter Tryz.func90, Tryz.ntmps90
  go_wp2_with (go_at_call 108; refine (bytes_compare _ _ _).mono ?_; rintro e w' ⟨rfl, rfl⟩)
  go_ret
  exact ⟨rfl, rfl⟩
end Go.Proofs.YtcllocdhbicpkaaGreatDoor
