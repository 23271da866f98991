/-
Part 27 of the base.
-/
import Derived.Test.YtlkhoommpkndpaaGreatDoorKd26
import Derived.Test.YtlkhoommpkndpaaGreatDoorKd46
import Derived.Test.YtlkhoommpkndpaaGreatDoorKd47
set_option maxRecDepth 100000
set_option maxHeartbeats 1000000
namespace Go.Proofs.YtlkhoommpkndpaaGreatDoor
open Go.RowKit
def simpR (p : Rat) (l : List Stp) (src dst base : Int) : Rat × Int := if argsErr p l src dst base 1 ≠ 0 then (0, argsErr p l src dst base 1) else (p * simpS l src dst base, 0)
theorem simpR_err {p : Rat} {l : List Stp} {src dst base n : Int} (h : argsErr p l src dst base 1 = n) (hn : n ≠ 0) : simpR p l src dst base = (0, n) := by unfold simpR; rw [h, if_pos hn]
theorem simpR_ok {p : Rat} {l : List Stp} {src dst base : Int} (h : argsErr p l src dst base 1 = 0) : simpR p l src dst base = (p * simpS l src dst base, 0) := by unfold simpR; rw [h, if_neg (by decide)]
theorem interest_Simple (n : Bool) (a b : List UInt8) (v : Value) (l : List Stp) (src dst base : Int) (w : World) (h : StepsL w v l) (hok : ∀ s ∈ l, s.num.length ≤ 1000 ∧ s.den.length ≤ 1000) (la : a.length ≤ 1000) (lb : b.length ≤ 1000) :
  Calls Tryz.prog 45 #[raw n a b, v, .int .i64 src, .int .i64 dst, .int .i64 base] w fun e w' => e = .returned (.tuple #[rat (simpR (decR n a b) l src dst base).1, .int .i64 (simpR (decR n a b) l src dst base).2]) ∧ Below w.heap.size w w' := by
 have hC := fun W (hb : Below w.heap.size w W) => interest_check n a b v l src dst base 1 W (h.below hb) (fun s hs => by have := hok s hs; omega) (by omega) (by omega)
 have K1 := @simpR_err (decR n a b) l src dst base
 have K2 := @simpR_ok (decR n a b) l src dst base
 have K0 := @args_zero (decR n a b) l src dst base 1
 have sp := sized_dec (neg := n) la lb (by decide)
 have hS := fun W (hb : Below w.heap.size w W) h1 h2 h3 h4 h5 => interest_simple v l src dst base W (h.below hb) hok h1 h2 h3 h4 h5
 have hM := fun W (hq : Sized 17179869184 (simpS l src dst base)) => rational_MultiplyR n a b (simpS l src dst base) W (by omega) (by omega) hq
 have hok' := hok
 generalize hp : decR n a b = p at *
 clear hp
 obtain ⟨m, hm⟩ : ∃ m, m = argsErr p l src dst base 1 := ⟨_, rfl⟩
 rw [← hm] at hC K1 K2 K0
 unfold raw at *
 by_cases h0 : m = 0
 ·subst h0
  obtain ⟨z1, z2, z3, z4, _, z6, z7⟩ := K0 rfl
  have hri := checkS_rising z1
  have hlen := (checkS_zero z1).1
  have q1 := dayB_in z2
  have q2 := dayB_in z3
  have hx := simp_sized (src := src) (dst := dst) (base := base) hri hlen (rates_in (by decide) hok') (by omega) (by omega) (by omega) (by omega)
  have R := Lib.hid (K2 rfl)
  have hS := fun W hb => hS W hb hri hlen (by omega) (by omega) (by omega)
  have hM := fun W => hM W (hx.mono (by decide))
  generalize hy : p * simpS l src dst base = y at *
  generalize simpS l src dst base = x at *
  unfold rat raw at hS hM
  have HC := Lib.hid hC
  have HSS := Lib.hid hS
  have HM := Lib.hid hM
  clear hC hS hM hm K0 K1 K2 z1 z2 z3 z4 z6 z7 hri hlen q1 q2 hx sp h hok hok' hy
  go_enter Tryz.func45, Tryz.ntmps45
  have HS := Lib.hid (St.start w)
  go_wp2_with fail
  have HS2 := Lib.hid (St.alloc (St.alloc (HS.out) #[.bool n, .string (bs a), .string (bs b)] 34 (w.heap.size) (by simp)) #[.bool false, .string (bs []), .string (bs [])] 34 (w.heap.size + 1) (by simp))
  refine cL (HC.out _ HS2.out.below) HS2 fun w3 HS3 => ?_
  clear HS HS2
  go_wp2
  refine wp_region_facts 7 [fun _ vv => vv = .agg #[.bool n, .string (bs a), .string (bs b)], fun _ vv => vv = v, fun _ vv => vv = .int .i64 src, fun _ vv => vv = .int .i64 dst, fun _ vv => vv = .int .i64 base, fun _ vv => vv = .agg #[.bool (negB (x)), .string (bs (numB (x))), .string (bs (denomB (x)))], fun _ vv => vv = .agg #[.bool (negB (y)), .string (bs (numB (y))), .string (bs (denomB (y)))]] rfl (by kernel_rfl) (by kernel_rfl) (by kernel_rfl) ⟨pP, pP, pP, pP, pP, pP, pP, trivial⟩ ?_ ?_
  refine ⟨?_, ?_, ?_, ?_, ?_, ?_, ?_, trivial⟩ <;> (intro xx af wv hbx hev hev0 hd; have H := SH.mk hev hev0 hd; clear hev hev0 hd)
  ·have e5 := H.i 5; clear H; have hs1 := Lib.hid (HS3.out.call hbx); have y0 := cC hs1 1 0; have y1 := cC hs1 1 1; have y2 := cC hs1 1 2; go_wp2; exact sR rfl
  ·have e1 := H.i 1; clear H; go_wp2; exact sR rfl
  ·have e2 := H.i 2; clear H; go_wp2; exact sR rfl
  ·have e3 := H.i 3; clear H; go_wp2; exact sR rfl
  ·have e4 := H.i 4; clear H; go_wp2; exact sR rfl
  ·have e24 := H.r 1 24; have e25 := H.r 2 25; have e26 := H.r 3 26; have e27 := H.r 4 27; clear H; have hs1 := Lib.hid (HS3.out.call hbx)
   go_wp2_with fail
   refine (HSS.out _ hs1.out.below).mono ?_
   rintro e w8 ⟨rfl, hb8⟩; go_wp2; exact StepQ.mk _ hb8 rfl
  ·have e23 := H.r 0 23; have e28 := H.r 5 28; clear H
   go_wp2_with fail
   refine (HM.out _).mono ?_
   rintro e w8 ⟨rfl, hb8⟩; go_wp2; exact StepQ.mk _ hb8 rfl
  intro xx w4 hb9 hv
  simp only [List.take, List.drop, fillA, Act.put]
  simp only [vQ hv 0, vQ hv 1, vQ hv 2, vQ hv 3, vQ hv 4, vQ hv 5, vQ hv 6]
  clear hv
  have HS4 := Lib.hid (HS3.out.call hb9)
  clear hb9 HS3
  have x1 := cC HS4 0 0
  have x2 := cC HS4 0 1
  have x3 := cC HS4 0 2
  have x4 := cF HS4 0 0
  have x5 := cF HS4 0 1
  have x6 := cF HS4 0 2
  have x7 := cN HS4 0 1
  have x8 := cN HS4 1 0
  go_wp2
  have HS5 : Hid (St w [⟨w.heap.size + 1, #[.bool (negB (y)), .string (bs (numB (y))), .string (bs (denomB (y)))], 34⟩, _] _) := Lib.hid (St.set (St.set (St.set (HS4.out) 0 rfl 0 _) 0 rfl 1 _) 0 rfl 2 _)
  refine bodyPost_ret (raw_result2 rfl _ _ _ _ _ _ rfl (HS5.out.blk 0 rfl)) rfl ?_
  rw [R.out]
  exact ⟨rfl, HS5.out.below⟩
 ·have R := Lib.hid (K1 rfl h0)
  have hn0 : (m == 0) = false := by rw [beq_eq_false_iff_ne]; exact h0
  have hn1 : (m != 0) = true := by rw [bne, hn0]; rfl
  have HC := Lib.hid hC
  clear hC hS hm K0 K1 K2 sp h hok hok' hM
  go_enter Tryz.func45, Tryz.ntmps45
  have HS := Lib.hid (St.start w)
  go_wp2_with fail
  have HS2 := Lib.hid (St.alloc (St.alloc (HS.out) #[.bool n, .string (bs a), .string (bs b)] 34 (w.heap.size) (by simp)) #[.bool false, .string (bs []), .string (bs [])] 34 (w.heap.size + 1) (by simp))
  refine cL (HC.out _ HS2.out.below) HS2 fun w3 HS3 => ?_
  clear HS HS2
  have x1 := cC HS3 0 0
  have x2 := cC HS3 0 1
  have x3 := cC HS3 0 2
  have x4 := cF HS3 0 0
  have x5 := cF HS3 0 1
  have x6 := cF HS3 0 2
  have x7 := cN HS3 0 1
  have x8 := cN HS3 1 0
  go_wp2
  have HS4 : Hid (St w [⟨w.heap.size + 1, #[.bool false, .string (bs []), .string (bs [])], 34⟩, _] _) := Lib.hid (St.set (St.set (St.set (HS3.out) 0 rfl 0 _) 0 rfl 1 _) 0 rfl 2 _)
  refine bodyPost_ret (raw_result2 rfl _ _ _ _ _ _ rfl (HS4.out.blk 0 rfl)) rfl ?_
  rw [R.out, rat_zero]
  exact ⟨rfl, HS4.out.below⟩
end Go.Proofs.YtlkhoommpkndpaaGreatDoor
