/-
The laws' amounts.
-/
import Derived.Test.YtcllocdhbicpkaaGreatDoorVH
import Derived.Test.YtcllocdhbicpkaaGreatDoorV8
namespace Go.Proofs.YtcllocdhbicpkaaGreatDoor
open Go.RowKit

set_option maxRecDepth 100000 in
theorem ref_Opposite (q : Rat) (w : World) :
    Calls Tryz.prog 82 #[rat q] w fun e w' => e = .returned (rat (-q)) ∧ Below w.heap.size w w' := by
  by_cases h0 : q = 0
  · have f1 := bs_empty (numB_nil.2 h0)
    have e : -q = q := by rw [h0]; rfl
    rw [e]
    unfold rat raw
    clear h0 e
    go_enter Tryz.func82, Tryz.ntmps82
    go_wp2
    exact bodyPost_ret (raw_result rfl _ _ _ _ _ _ rfl (Blk.new1 w _ _ _)) rfl ⟨rfl, Ext.alloc (Ext.alloc (Below.refl _ _) _) _⟩
  · have f1 := bs_nonempty (mt numB_nil.1 h0)
    have e1 := neg_negB' h0
    have e2 := neg_numB' q
    have e3 := neg_denomB' q
    unfold rat raw
    rw [e1, e2, e3]
    clear h0 e1 e2 e3
    go_enter Tryz.func82, Tryz.ntmps82
    go_wp2
    exact bodyPost_ret (raw_result rfl _ _ _ _ _ _ rfl (Blk.new1 w _ _ _)) rfl ⟨rfl, Ext.alloc (Ext.alloc (Below.refl _ _) _) _⟩

/-- The law's amount of a word. -/
def amountR (x : Nat) : Rat := if x % 5 = 0 then mkRat ((x : Int) / 5 % 23) (1 + x / 115 % 6) else if x % 5 = 1 then ((10 * ((x : Int) / 5 % 4) : Int) : Rat) else (((x : Int) / 5 % 13 : Int) : Rat)
def signedR (x : Nat) : Rat := if x % 2 = 1 then -amountR (x / 2) else amountR (x / 2)
theorem amountR_sized {x : Nat} (_ : x ≤ 65535) : Sized 8 (amountR x) := by
  have hp : (256 : Nat) ^ 8 = 18446744073709551616 := by decide
  have hi : ∀ n : Int, n.natAbs < 256 ^ 8 → Sized 8 (n : Rat) := by
    intro n hn
    refine ⟨?_, ?_⟩
    · rw [Rat.num_intCast]; exact bytesOf_length _ _ hn
    · rw [Rat.den_intCast]; exact bytesOf_length _ _ (by decide)
  unfold amountR
  split
  · exact sized_mkRat (by omega) (bytesOf_length _ _ (by omega)) (bytesOf_length _ _ (by omega))
  · split
    · exact hi _ (by omega)
    · exact hi _ (by omega)
theorem signedR_sized {x : Nat} (h : x ≤ 65535) : Sized 8 (signedR x) := by
  unfold signedR
  split
  · exact (amountR_sized (by omega)).neg
  · exact amountR_sized (by omega)

theorem amountR_nonneg (x : Nat) : 0 ≤ amountR x := by
  unfold amountR
  split
  · rw [← Rat.num_nonneg, ← Rat.normalize_eq_mkRat (by omega), Rat.num_normalize]
    exact Int.ediv_nonneg (by omega) (by omega)
  · split
    · rw [← Rat.num_nonneg, Rat.num_intCast]; omega
    · rw [← Rat.num_nonneg, Rat.num_intCast]; omega
end Go.Proofs.YtcllocdhbicpkaaGreatDoor
