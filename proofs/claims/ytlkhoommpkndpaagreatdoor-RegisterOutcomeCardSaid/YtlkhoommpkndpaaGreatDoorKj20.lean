/-
Part 20 of the base.
-/
import Derived.Test.YtlkhoommpkndpaaGreatDoorKj15
import Derived.Deep.Slices
import Derived.Deep.Fields
import Derived.ChangeSame
import Derived.Carry
set_option maxRecDepth 100000
namespace Go.Proofs.YtlkhoommpkndpaaGreatDoor
open Go.RowKit
def a1w (x : Nat) : Rat := if x % 5 = 0 then mkRat ((x : Int) / 5 % 23) (1 + x / 115 % 6) else if x % 5 = 1 then ((10 * ((x : Int) / 5 % 4) : Int) : Rat) else (((x : Int) / 5 % 13 : Int) : Rat)
theorem b6d {x : Nat} (_ : x <= 65535) : Sized 8 (a1w x) := by
 have hp : (256 : Nat) ^ 8 = 18446744073709551616 := by decide
 have hi : ∀ n : Int, n.natAbs < 256 ^ 8 -> Sized 8 (n : Rat) := by
  intro n hn
  refine ⟨?_, ?_⟩
  ·rw [Rat.num_intCast]; exact a0g _ _ hn
  rw [Rat.den_intCast]; exact a0g _ _ (by decide)
 unfold a1w
 split
 ·exact a5c (by omega) (a0g _ _ (by omega)) (a0g _ _ (by omega))
 split
 ·exact hi _ (by omega)
 exact hi _ (by omega)
theorem b9d (x : Nat) (w : World) (hx : x <= 65535) :
  Calls Tryz.prog 53 #[.int .u16 (x : Nat)] w fun e w' => e = .returned (rat (a1w x)) /\ Below w.heap.size w w' := by
 have k0 : Raw (w.alloc (Obj.cells #[.bool false, .string (bs []), .string (bs [])] 34)) w.heap.size false [] [] := Blk.new w _ _
 have hbw : Hid (Below w.heap.size w (w.alloc (Obj.cells #[.bool false, .string (bs []), .string (bs [])] 34))) := Ext.alloc (Below.refl _ _) _
 have e1 : Int.tmod (x : Int) 5 = (x : Int) % 5 := Int.tmod_eq_emod_of_nonneg (by omega)
 have e2 : Int.tdiv (x : Int) 5 = (x : Int) / 5 := Int.tdiv_eq_ediv_of_nonneg (by omega)
 have e3 : Int.tdiv (x : Int) 115 = (x : Int) / 115 := Int.tdiv_eq_ediv_of_nonneg (by omega)
 have e4 : Int.tmod ((x : Int) / 5) 23 = (x : Int) / 5 % 23 := Int.tmod_eq_emod_of_nonneg (by omega)
 have e5 : Int.tmod ((x : Int) / 115) 6 = (x : Int) / 115 % 6 := Int.tmod_eq_emod_of_nonneg (by omega)
 have e6 : Int.tmod ((x : Int) / 5) 4 = (x : Int) / 5 % 4 := Int.tmod_eq_emod_of_nonneg (by omega)
 have e7 : Int.tmod ((x : Int) / 5) 13 = (x : Int) / 5 % 13 := Int.tmod_eq_emod_of_nonneg (by omega)
 have v1 : IntKind.u16.wrap ((x : Int) / 5) = (x : Int) / 5 := by rw [IntKind.wrap_u16]; omega
 have v2 : IntKind.u16.wrap ((x : Int) / 115) = (x : Int) / 115 := by rw [IntKind.wrap_u16]; omega
 have v3 : IntKind.i64.wrap ((x : Int) / 5 % 23) = (x : Int) / 5 % 23 := IntWalk.i64_in _ (by omega)
 have v4 : IntKind.i64.wrap ((x : Int) / 115 % 6) = (x : Int) / 115 % 6 := IntWalk.i64_in _ (by omega)
 have v5 : IntKind.i64.wrap (1 + (x : Int) / 115 % 6) = 1 + (x : Int) / 115 % 6 := IntWalk.i64_in _ (by omega)
 have v6 : IntKind.i64.wrap ((x : Int) / 5 % 4) = (x : Int) / 5 % 4 := IntWalk.i64_in _ (by omega)
 have v7 : IntKind.i64.wrap (10 * ((x : Int) / 5 % 4)) = 10 * ((x : Int) / 5 % 4) := IntWalk.i64_in _ (by omega)
 have v8 : IntKind.i64.wrap ((x : Int) / 5 % 13) = (x : Int) / 5 % 13 := IntWalk.i64_in _ (by omega)
 have hR := fun W => a7x ((x : Int) / 5 % 23) (1 + (x : Int) / 115 % 6) W (by omega) (by omega) (by omega) (by omega)
 rw [show (1 + (x : Int) / 115 % 6).toNat = 1 + x / 115 % 6 by omega] at hR
 have hA := fun W => b4w (10 * ((x : Int) / 5 % 4)) W (by omega) (by omega)
 have hB := fun W => b4w ((x : Int) / 5 % 13) W (by omega) (by omega)
 by_cases h0 : x % 5 = 0
 have c1 : (x : Int) % 5 = 0 := by omega
 have hq : a1w x = mkRat ((x : Int) / 5 % 23) (1 + x / 115 % 6) := by unfold a1w; rw [if_pos h0]
 rw [hq]
 generalize mkRat ((x : Int) / 5 % 23) (1 + x / 115 % 6) = q at *
 have HF := zh hR
 clear hA hB hR hq h0
 have K0 := zh k0
 clear k0
 unfold rat raw at *
 rotate_left
 by_cases h1 : x % 5 = 1
 have c1 : (x : Int) % 5 = 1 := by omega
 have hq : a1w x = ((10 * ((x : Int) / 5 % 4) : Int) : Rat) := by unfold a1w; rw [if_neg h0, if_pos h1]
 rw [hq]
 generalize ((10 * ((x : Int) / 5 % 4) : Int) : Rat) = q at *
 have HF := zh hA
 clear hA hB hR hq h0 h1
 have K0 := zh k0
 clear k0
 unfold rat raw at *
 rotate_left
 have c0 : ((x : Int) % 5 == 0) = false := by rw [beq_eq_false_iff_ne]; omega
 have c1 : ((x : Int) % 5 == 1) = false := by rw [beq_eq_false_iff_ne]; omega
 have c2 : ¬ (x : Int) % 5 = 0 := by omega
 have c3 : ¬ (x : Int) % 5 = 1 := by omega
 have hq : a1w x = (((x : Int) / 5 % 13 : Int) : Rat) := by unfold a1w; rw [if_neg h0, if_neg h1]
 rw [hq]
 generalize (((x : Int) / 5 % 13 : Int) : Rat) = q at *
 have HF := zh hB
 clear hA hB hR hq h0 h1
 have K0 := zh k0
 clear k0
 unfold rat raw at *
 rotate_left
 all_goals
  go_enter Tryz.func53, Tryz.ntmps53
  go_wp2_with fail
  refine (HF.out _).mono ?_
  rintro e w2 ⟨rfl, hb2⟩
  have k1 := K0.out.below hb2 (Raw.lt K0.out)
  have z0 := k1.frozen 0
  have z1 := k1.frozen 1
  have z2 := k1.frozen 2
  have d0 := k1.c0
  have d1 := k1.c1
  have d2 := k1.c2
  have K1 := zh k1
  have HB := zh (Ext.trans hbw.out hb2)
  clear k1 hb2
  go_wp2
 ·exact bodyPost_ret (a0k rfl _ _ _ _ _ _ rfl (K1.out.put _ _ _)) rfl ⟨rfl, a0p HB.out (Nat.le_refl _) _ _ _⟩
 ·exact bodyPost_ret (a0k rfl _ _ _ _ _ _ rfl (K1.out.put _ _ _)) rfl ⟨rfl, a0p HB.out (Nat.le_refl _) _ _ _⟩
 exact bodyPost_ret (a0k rfl _ _ _ _ _ _ rfl (K1.out.put _ _ _)) rfl ⟨rfl, a0p HB.out (Nat.le_refl _) _ _ _⟩
theorem b4c (x : Nat) : 0 <= a1w x := by
 unfold a1w
 split
 ·rw [<- Rat.num_nonneg, <- Rat.normalize_eq_mkRat (by omega), Rat.num_normalize]
  exact Int.ediv_nonneg (by omega) (by omega)
 split
 ·rw [<- Rat.num_nonneg, Rat.num_intCast]; omega
 rw [<- Rat.num_nonneg, Rat.num_intCast]; omega
open Go.ChangeShapes Go.WideShapes Go.Deep Go.RowKit
section
variable {H : Type} {enc : TypeId × Value -> H} {W : World} {base : Nat} {sp : Nat -> Bool} {held : Bool}
theorem c3u {a : Int} (h : (Lit.int .i64 a).wf = true) : -9223372036854775808 <= a /\ a <= 9223372036854775807 := by
 simpa [Lit.wf, IntKind.min, IntKind.max, IntKind.signed, IntKind.bits] using h
end
end Go.Proofs.YtlkhoommpkndpaaGreatDoor
