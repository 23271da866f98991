/-
Part 35 of the base.
-/
import Derived.Test.YtlkhoommpkndpaaGreatDoorKh27
import Derived.Test.YtlkhoommpkndpaaGreatDoorKh34
set_option maxRecDepth 100000
set_option maxHeartbeats 1000000
namespace Go.Proofs.YtlkhoommpkndpaaGreatDoor
open Go.RowKit
def usdQ : Quo := ⟨usdL, 0, negB (mkRat 9 10), numB (mkRat 9 10), a0a (mkRat 9 10)⟩
theorem b5k (w : World) : Calls Tryz.prog 36 #[] w fun e w' => ∃ v', e = .returned v' /\ a3g w' v' [usdQ] /\ Below w.heap.size w w' := by
 have hR := fun W => c6e 9 10 W (by decide) (by decide) (by decide) (by decide)
 rw [show (10 : Int).toNat = 10 from rfl] at hR
 obtain ⟨rq, hrq⟩ : ∃ y, y = mkRat 9 10 := ⟨_, rfl⟩
 have huq : usdQ = ⟨usdL, 0, negB rq, numB rq, a0a rq⟩ := by rw [hrq]; rfl
 rw [<- hrq] at hR
 unfold rat raw at hR
 have HR := zh hR
 have HU := zh huq
 clear hR hrq huq
 go_enter Tryz.func36, Tryz.ntmps36
 have HS := zh (St.start w)
 go_wp2_with fail
 refine cL (HR.out _) HS fun w2 HS2 => ?_
 clear HS
 go_wp2
 go_ret
 have HS3 := aL HS2 #[.string (bs [85, 83, 68]), .int .i64 0, .bool (negB (rq)), .string (bs (numB (rq))), .string (bs (a0a (rq)))] 40 w2.heap.size
 rw [HU.out]
 exact ⟨_, rfl, Slc.of_blk quo_len' (HS3.out.blk 0 rfl) rfl rfl (Nat.le_refl _) (by decide), HS3.out.below⟩
end Go.Proofs.YtlkhoommpkndpaaGreatDoor
