/-
Part 23 of the base.
-/
import Derived.Test.YtlkhoommpkndpaaGreatDoorKd17
import Derived.Test.YtlkhoommpkndpaaGreatDoorKd14
set_option maxRecDepth 100000
namespace Go.Proofs.YtlkhoommpkndpaaGreatDoor
open Go.RowKit
def amountR (x : Nat) : Rat := if x % 5 = 0 then mkRat ((x : Int) / 5 % 23) (1 + x / 115 % 6) else if x % 5 = 1 then ((10 * ((x : Int) / 5 % 4) : Int) : Rat) else (((x : Int) / 5 % 13 : Int) : Rat)
theorem amountR_sized {x : Nat} (_ : x ≤ 65535) : Sized 8 (amountR x) := by
 have hp : (256 : Nat) ^ 8 = 18446744073709551616 := by decide
 have hi : ∀ n : Int, n.natAbs < 256 ^ 8 → Sized 8 (n : Rat) := by
  intro n hn
  refine ⟨?_, ?_⟩
  ·rw [Rat.num_intCast]; exact bytesOf_length _ _ hn
  ·rw [Rat.den_intCast]; exact bytesOf_length _ _ (by decide)
 unfold amountR
 split
 ·exact sized_mkRat (by omega) (bytesOf_length _ _ (by omega)) (bytesOf_length _ _ (by omega))
 ·split
  ·exact hi _ (by omega)
  ·exact hi _ (by omega)
theorem law0_Amount (x : Nat) (w : World) (hx : x ≤ 65535) :
  Calls Tryz.prog 53 #[.int .u16 (x : Nat)] w fun e w' => e = .returned (rat (amountR x)) ∧ Below w.heap.size w w' := by
 have k0 : Raw (w.alloc (Obj.cells #[.bool false, .string (bs []), .string (bs [])] 34)) w.heap.size false [] [] := Blk.new w _ _
 have hbw : Hid (Below w.heap.size w (w.alloc (Obj.cells #[.bool false, .string (bs []), .string (bs [])] 34))) := Ext.alloc (Below.refl _ _) _
 have e1 : Int.tmod (x : Int) 5 = (x : Int) % 5 := Int.tmod_eq_emod_of_nonneg (by omega)
 have e2 : Int.tdiv (x : Int) 5 = (x : Int) / 5 := Int.tdiv_eq_ediv_of_nonneg (by omega)
 have e3 : Int.tdiv (x : Int) 115 = (x : Int) / 115 := Int.tdiv_eq_ediv_of_nonneg (by omega)
 have e4 : Int.tmod ((x : Int) / 5) 23 = (x : Int) / 5 % 23 := Int.tmod_eq_emod_of_nonneg (by omega)
 have e5 : Int.tmod ((x : Int) / 115) 6 = (x : Int) / 115 % 6 := Int.tmod_eq_emod_of_nonneg (by omega)
 have e6 : Int.tmod ((x : Int) / 5) 4 = (x : Int) / 5 % 4 := Int.tmod_eq_emod_of_nonneg (by omega)
 have e7 : Int.tmod ((x : Int) / 5) 13 = (x : Int) / 5 % 13 := Int.tmod_eq_emod_of_nonneg (by omega)
 have v1 : IntKind.u16.wrap ((x : Int) / 5) = (x : Int) / 5 := by rw [IntKind.wrap_u16]; omega
 have v2 : IntKind.u16.wrap ((x : Int) / 115) = (x : Int) / 115 := by rw [IntKind.wrap_u16]; omega
 have v3 : IntKind.i64.wrap ((x : Int) / 5 % 23) = (x : Int) / 5 % 23 := IntWalk.i64_in _ (by omega)
 have v4 : IntKind.i64.wrap ((x : Int) / 115 % 6) = (x : Int) / 115 % 6 := IntWalk.i64_in _ (by omega)
 have v5 : IntKind.i64.wrap (1 + (x : Int) / 115 % 6) = 1 + (x : Int) / 115 % 6 := IntWalk.i64_in _ (by omega)
 have v6 : IntKind.i64.wrap ((x : Int) / 5 % 4) = (x : Int) / 5 % 4 := IntWalk.i64_in _ (by omega)
 have v7 : IntKind.i64.wrap (10 * ((x : Int) / 5 % 4)) = 10 * ((x : Int) / 5 % 4) := IntWalk.i64_in _ (by omega)
 have v8 : IntKind.i64.wrap ((x : Int) / 5 % 13) = (x : Int) / 5 % 13 := IntWalk.i64_in _ (by omega)
 have hR := fun W => law0_Ratio ((x : Int) / 5 % 23) (1 + (x : Int) / 115 % 6) W (by omega) (by omega) (by omega) (by omega)
 rw [show (1 + (x : Int) / 115 % 6).toNat = 1 + x / 115 % 6 by omega] at hR
 have hA := fun W => law0_Whole (10 * ((x : Int) / 5 % 4)) W (by omega) (by omega)
 have hB := fun W => law0_Whole ((x : Int) / 5 % 13) W (by omega) (by omega)
 by_cases h0 : x % 5 = 0
 ·have c1 : (x : Int) % 5 = 0 := by omega
  have hq : amountR x = mkRat ((x : Int) / 5 % 23) (1 + x / 115 % 6) := by unfold amountR; rw [if_pos h0]
  rw [hq]
  generalize mkRat ((x : Int) / 5 % 23) (1 + x / 115 % 6) = q at *
  have HF := Lib.hid hR
  clear hA hB hR hq h0
  have K0 := Lib.hid k0
  clear k0
  unfold rat raw at *
  go_enter Tryz.func53, Tryz.ntmps53
  go_wp2_with fail
  refine (HF.out _).mono ?_
  rintro e w2 ⟨rfl, hb2⟩
  have k1 := K0.out.below hb2 (Raw.lt K0.out)
  have z0 := k1.frozen 0
  have z1 := k1.frozen 1
  have z2 := k1.frozen 2
  have d0 := k1.c0
  have d1 := k1.c1
  have d2 := k1.c2
  have K1 := Lib.hid k1
  have HB := Lib.hid (Ext.trans hbw.out hb2)
  clear k1 hb2
  go_wp2
  exact bodyPost_ret (raw_result rfl _ _ _ _ _ _ rfl (K1.out.put _ _ _)) rfl ⟨rfl, below_put HB.out (Nat.le_refl _) _ _ _⟩
 ·by_cases h1 : x % 5 = 1
  ·have c1 : (x : Int) % 5 = 1 := by omega
   have hq : amountR x = ((10 * ((x : Int) / 5 % 4) : Int) : Rat) := by unfold amountR; rw [if_neg h0, if_pos h1]
   rw [hq]
   generalize ((10 * ((x : Int) / 5 % 4) : Int) : Rat) = q at *
   have HF := Lib.hid hA
   clear hA hB hR hq h0 h1
   have K0 := Lib.hid k0
   clear k0
   unfold rat raw at *
   go_enter Tryz.func53, Tryz.ntmps53
   go_wp2_with fail
   refine (HF.out _).mono ?_
   rintro e w2 ⟨rfl, hb2⟩
   have k1 := K0.out.below hb2 (Raw.lt K0.out)
   have z0 := k1.frozen 0
   have z1 := k1.frozen 1
   have z2 := k1.frozen 2
   have d0 := k1.c0
   have d1 := k1.c1
   have d2 := k1.c2
   have K1 := Lib.hid k1
   have HB := Lib.hid (Ext.trans hbw.out hb2)
   clear k1 hb2
   go_wp2
   exact bodyPost_ret (raw_result rfl _ _ _ _ _ _ rfl (K1.out.put _ _ _)) rfl ⟨rfl, below_put HB.out (Nat.le_refl _) _ _ _⟩
  ·have c0 : ((x : Int) % 5 == 0) = false := by rw [beq_eq_false_iff_ne]; omega
   have c1 : ((x : Int) % 5 == 1) = false := by rw [beq_eq_false_iff_ne]; omega
   have c2 : ¬ (x : Int) % 5 = 0 := by omega
   have c3 : ¬ (x : Int) % 5 = 1 := by omega
   have hq : amountR x = (((x : Int) / 5 % 13 : Int) : Rat) := by unfold amountR; rw [if_neg h0, if_neg h1]
   rw [hq]
   generalize (((x : Int) / 5 % 13 : Int) : Rat) = q at *
   have HF := Lib.hid hB
   clear hA hB hR hq h0 h1
   have K0 := Lib.hid k0
   clear k0
   unfold rat raw at *
   go_enter Tryz.func53, Tryz.ntmps53
   go_wp2_with fail
   refine (HF.out _).mono ?_
   rintro e w2 ⟨rfl, hb2⟩
   have k1 := K0.out.below hb2 (Raw.lt K0.out)
   have z0 := k1.frozen 0
   have z1 := k1.frozen 1
   have z2 := k1.frozen 2
   have d0 := k1.c0
   have d1 := k1.c1
   have d2 := k1.c2
   have K1 := Lib.hid k1
   have HB := Lib.hid (Ext.trans hbw.out hb2)
   clear k1 hb2
   go_wp2
   exact bodyPost_ret (raw_result rfl _ _ _ _ _ _ rfl (K1.out.put _ _ _)) rfl ⟨rfl, below_put HB.out (Nat.le_refl _) _ _ _⟩
end Go.Proofs.YtlkhoommpkndpaaGreatDoor
