/-
Part 11 of the base.
-/
import Derived.Test.YtgdhpghfojccaaaDoorRe10
set_option maxRecDepth 100000
set_option maxHeartbeats 1000000
namespace Go.Proofs.YtgdhpghfojccaaaDoor
open Go.RowKit
theorem b3c (n1 : Bool) (a1 b1 : List UInt8) (n2 : Bool) (a2 b2 : List UInt8) (w : World) (la1 : a1.length <= 17179869184) (lb1 : b1.length <= 17179869184) (la2 : a2.length <= 17179869184) (lb2 : b2.length <= 17179869184) :
  Calls Tryd.prog 21 #[raw n1 a1 b1, raw n2 a2 b2] w fun e w' => e = .returned (rat (decR n1 a1 b1 + decR n2 a2 b2)) /\ Below w.heap.size w w' := by
 have c1 := fun W => a3t n1 a1 b1 W (by omega) (by omega)
 have c2 := fun W => a3t n2 a2 b2 W (by omega) (by omega)
 have sp := b2u (neg := n1) la1 lb1 (by decide)
 have sq := b2u (neg := n2) la2 lb2 (by decide)
 generalize decR n1 a1 b1 = p at *
 generalize decR n2 a2 b2 = q at *
 clear la1 lb1 la2 lb2
 have ad := fun W => b3b p q W sp sq
 clear sp sq
 generalize p + q = r at *
 unfold rat raw at *
 generalize negB p = np at *
 generalize numB p = bp at *
 generalize a0j p = dp at *
 generalize negB q = nq at *
 generalize numB q = bq at *
 generalize a0j q = dq at *
 generalize negB r = nr at *
 generalize numB r = br at *
 generalize a0j r = dr at *
 have C1 := zh c1
 have C2 := zh c2
 have AD := zh ad
 clear c1 c2 ad
 go_enter Tryd.func21, Tryd.ntmps21
 have HS := zh (St.start w)
 go_wp2
 have HS2 := aL (aL (aL HS #[.bool n1, .string (bs a1), .string (bs b1)] 25 w.heap.size) #[.bool n2, .string (bs a2), .string (bs b2)] 25 (w.heap.size + 1)) #[.bool false, .string (bs []), .string (bs [])] 25 (w.heap.size + 1 + 1)
 clear HS
 refine a0c 5 [fun _ vv => vv = .agg #[.bool n1, .string (bs a1), .string (bs b1)], fun _ vv => vv = .agg #[.bool np, .string (bs bp), .string (bs dp)], fun _ vv => vv = .agg #[.bool n2, .string (bs a2), .string (bs b2)], fun _ vv => vv = .agg #[.bool nq, .string (bs bq), .string (bs dq)], fun _ vv => vv = .agg #[.bool nr, .string (bs br), .string (bs dr)]] rfl (by kernel_rfl) (by kernel_rfl) (by kernel_rfl) ⟨pP, pP, pP, pP, pP, trivial⟩ ?_ ?_
 refine ⟨?_, ?_, ?_, ?_, ?_, trivial⟩ <;> (intro xx af wv hbx hev hev0 hd; have H := SH.mk hev hev0 hd; clear hev hev0 hd)
 ·have e2 := H.i 2; clear H; have hs1 := zh (HS2.out.call hbx); have y0 := cC hs1 2 0; have y1 := cC hs1 2 1; have y2 := cC hs1 2 2; go_wp2; exact sR rfl
 ·have e5 := H.r 0 5; clear H
  go_wp2_with fail
  refine (C1.out _).mono ?_
  rintro e w8 ⟨rfl, hb8⟩; go_wp2; exact StepQ.mk _ hb8 rfl
 ·have e3 := H.i 3; clear H; have hs1 := zh (HS2.out.call hbx); have y0 := cC hs1 1 0; have y1 := cC hs1 1 1; have y2 := cC hs1 1 2; go_wp2; exact sR rfl
 ·have e7 := H.r 2 7; clear H
  go_wp2_with fail
  refine (C2.out _).mono ?_
  rintro e w8 ⟨rfl, hb8⟩; go_wp2; exact StepQ.mk _ hb8 rfl
 ·have e6 := H.r 1 6; have e8 := H.r 3 8; clear H
  go_wp2_with fail
  refine (AD.out _).mono ?_
  rintro e w8 ⟨rfl, hb8⟩; go_wp2; exact StepQ.mk _ hb8 rfl
 intro xx w6 hb9 hv
 simp only [List.take, List.drop, a0h, Act.put]
 simp only [vQ hv 0, vQ hv 1, vQ hv 2, vQ hv 3, vQ hv 4]
 clear hv
 have HS6 := zh (HS2.out.call hb9)
 clear hb9 HS2
 have x1 := cC HS6 0 0
 have x2 := cC HS6 0 1
 have x3 := cC HS6 0 2
 have x4 := cF HS6 0 0
 have x5 := cF HS6 0 1
 have x6 := cF HS6 0 2
 have x7 := cN HS6 0 1
 have x8 := cN HS6 1 0
 have x9 := cN HS6 0 2
 have x10 := cN HS6 2 0
 go_wp2
 have HS7 : Hid (St w [⟨w.heap.size + 1 + 1, #[.bool nr, .string (bs br), .string (bs dr)], 25⟩, _, _] _) := zh (St.set (St.set (St.set (HS6.out) 0 rfl 0 _) 0 rfl 1 _) 0 rfl 2 _)
 exact bodyPost_ret (a0u rfl _ _ _ _ _ _ rfl (HS7.out.blk 0 rfl)) rfl ⟨rfl, HS7.out.below⟩
end Go.Proofs.YtgdhpghfojccaaaDoor
