/-
The closures of the tests of rates (printed by gen_pln4.py).
-/
import Derived.Test.YtcllocdhbicpkaaGreatDoorPlnN
namespace Go.Proofs.YtcllocdhbicpkaaGreatDoor
open Go.RowKit

set_option maxRecDepth 100000 in
set_option maxHeartbeats 1000000 in
theorem plan_Residue_1 (n : Bool) (a b : List UInt8) (w : World) (la : a.length ≤ 17179869184) (lb : b.length ≤ 17179869184) :
  Calls Tryz.prog 37 #[raw n a b] w fun e w' => e = .returned (.bool (!rateB (decR n a b))) ∧ Below w.heap.size w w' := by
 have hr := fun W => plan_isRate n a b W la lb
 clear la lb
 generalize rateB (decR n a b) = r at *
 unfold raw at *
 cases r
 ·have HR := Lib.hid hr
  clear hr
  go_enter Tryz.func37, Tryz.ntmps37
  have HS := Lib.hid (St.start w)
  go_wp2_with fail
  have HS2 := Lib.hid (St.alloc (HS.out) #[.bool n, .string (bs a), .string (bs b)] 25 (w.heap.size) (by simp))
  refine (HR.out _).mono ?_
  rintro e w3 ⟨rfl, hb3⟩
  have HS3 := Lib.hid (HS2.out.call hb3)
  clear hb3 HS HS2
  go_wp2
  go_ret
  have HS4 := Lib.hid HS3.out
  exact ⟨rfl, HS4.out.below⟩
 ·have HR := Lib.hid hr
  clear hr
  go_enter Tryz.func37, Tryz.ntmps37
  have HS := Lib.hid (St.start w)
  go_wp2_with fail
  have HS2 := Lib.hid (St.alloc (HS.out) #[.bool n, .string (bs a), .string (bs b)] 25 (w.heap.size) (by simp))
  refine (HR.out _).mono ?_
  rintro e w3 ⟨rfl, hb3⟩
  have HS3 := Lib.hid (HS2.out.call hb3)
  clear hb3 HS HS2
  go_wp2
  go_ret
  have HS4 := Lib.hid HS3.out
  exact ⟨rfl, HS4.out.below⟩

set_option maxRecDepth 100000 in
set_option maxHeartbeats 1000000 in
theorem plan_statute_1 (n : Bool) (a b : List UInt8) (w : World) (la : a.length ≤ 17179869184) (lb : b.length ≤ 17179869184) :
  Calls Tryz.prog 70 #[raw n a b] w fun e w' => e = .returned (.bool (decide (0 < sgn (decR n a b).num))) ∧ Below w.heap.size w w' := by
 have sg := fun W => rational_Sign n a b W (by omega) (by omega)
 change ∀ W, Calls Tryz.prog _ _ W (fun e w' => e = .returned (.int .i64 (sgn (decR n a b).num)) ∧ _) at sg
 clear la lb
 generalize sgn (decR n a b).num = s at *
 unfold raw at *
 have SG := Lib.hid sg
 clear sg
 go_enter Tryz.func70, Tryz.ntmps70
 have HS := Lib.hid (St.start w)
 go_wp2_with fail
 have HS2 := Lib.hid (St.alloc (HS.out) #[.bool n, .string (bs a), .string (bs b)] 25 (w.heap.size) (by simp))
 refine (SG.out _).mono ?_
 rintro e w3 ⟨rfl, hb3⟩
 have HS3 := Lib.hid (HS2.out.call hb3)
 clear hb3 HS HS2
 go_wp2
 go_ret
 have HS4 := Lib.hid HS3.out
 exact ⟨rfl, HS4.out.below⟩
end Go.Proofs.YtcllocdhbicpkaaGreatDoor
