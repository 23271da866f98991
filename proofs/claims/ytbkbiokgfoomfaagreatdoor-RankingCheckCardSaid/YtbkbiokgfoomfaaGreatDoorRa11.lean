/-
Part 11 of the base.
-/
import Derived.Test.YtbkbiokgfoomfaaGreatDoorRa10
namespace Go.Proofs.YtbkbiokgfoomfaaGreatDoor
open Go.RowKit

set_option maxRecDepth 100000 in
set_option maxHeartbeats 1000000 in
theorem b4n (n1 : Bool) (a1 b1 : List UInt8) (n2 : Bool) (a2 b2 : List UInt8) (w : World) (la1 : a1.length <= 17179869184) (lb1 : b1.length <= 17179869184) (la2 : a2.length <= 17179869184) (lb2 : b2.length <= 17179869184) :
  Calls Tryz.prog 69 #[raw n1 a1 b1, raw n2 a2 b2] w fun e w' => e = .returned (rat (decR n1 a1 b1 + decR n2 a2 b2)) /\ Below w.heap.size w w' := by
 have c1 := fun W => a4k n1 a1 b1 W (by omega) (by omega)
 have c2 := fun W => a4k n2 a2 b2 W (by omega) (by omega)
 have sp := b4b (neg := n1) la1 lb1 (by decide)
 have sq := b4b (neg := n2) la2 lb2 (by decide)
 generalize decR n1 a1 b1 = p at *
 generalize decR n2 a2 b2 = q at *
 clear la1 lb1 la2 lb2
 have ad := fun W => b4m p q W sp sq
 clear sp sq
 generalize p + q = r at *
 unfold rat raw at *
 generalize negB p = np at *
 generalize numB p = bp at *
 generalize a0p p = dp at *
 generalize negB q = nq at *
 generalize numB q = bq at *
 generalize a0p q = dq at *
 generalize negB r = nr at *
 generalize numB r = br at *
 generalize a0p r = dr at *
 have C1 := zh c1
 have C2 := zh c2
 have AD := zh ad
 clear c1 c2 ad
 go_enter Tryz.func69, Tryz.ntmps69
 have HS := zh (St.start w)
 go_wp2
 have HS2 : Hid (St w [⟨w.heap.size + 1 + 1, #[.bool false, .string (bs []), .string (bs [])], 51⟩, ⟨w.heap.size + 1, #[.bool n2, .string (bs a2), .string (bs b2)], 51⟩, ⟨w.heap.size, #[.bool n1, .string (bs a1), .string (bs b1)], 51⟩] _) := zh (St.alloc ((St.alloc ((St.alloc (HS.out) #[.bool n1, .string (bs a1), .string (bs b1)] 51 _ (by simp))) #[.bool n2, .string (bs a2), .string (bs b2)] 51 _ (by simp))) #[.bool false, .string (bs []), .string (bs [])] 51 _ (by simp))
 clear HS
 refine a0d 5 [fun _ vv => vv = .agg #[.bool n1, .string (bs a1), .string (bs b1)], fun _ vv => vv = .agg #[.bool np, .string (bs bp), .string (bs dp)], fun _ vv => vv = .agg #[.bool n2, .string (bs a2), .string (bs b2)], fun _ vv => vv = .agg #[.bool nq, .string (bs bq), .string (bs dq)], fun _ vv => vv = .agg #[.bool nr, .string (bs br), .string (bs dr)]] rfl (by kernel_rfl) (by kernel_rfl) (by kernel_rfl) ⟨fun _ _ _ h _ => h, fun _ _ _ h _ => h, fun _ _ _ h _ => h, fun _ _ _ h _ => h, fun _ _ _ h _ => h, trivial⟩ ?_ ?_
 refine ⟨?_, ?_, ?_, ?_, ?_, trivial⟩
 ·intro xx af wv hbx hev hev0 hd; have e2 : af.tmps[2]?.getD undef = .pointer (some ⟨w.heap.size, 0, none⟩) := hev0 2 rfl; clear hev hev0 hd; have hs1 := zh (HS2.out.call hbx); have y0 := hs1.out.cell 2 rfl 0 rfl; have y1 := hs1.out.cell 2 rfl 1 rfl; have y2 := hs1.out.cell 2 rfl 2 rfl; go_wp2; exact StepQ.mk _ (Below.refl _ _) rfl
 ·intro xx af wv hbx hev hev0 hd
  have e5 := (hev 0 _ 5 rfl rfl).trans (hd ⟨0, .data⟩ (by simp) rfl)
  clear hev hev0 hd
  go_wp2_with fail
  refine (C1.out _).mono ?_
  rintro e w8 ⟨rfl, hb8⟩
  go_wp2
  exact StepQ.mk _ hb8 rfl
 ·intro xx af wv hbx hev hev0 hd; have e3 : af.tmps[3]?.getD undef = .pointer (some ⟨w.heap.size + 1, 0, none⟩) := hev0 3 rfl; clear hev hev0 hd; have hs1 := zh (HS2.out.call hbx); have y0 := hs1.out.cell 1 rfl 0 rfl; have y1 := hs1.out.cell 1 rfl 1 rfl; have y2 := hs1.out.cell 1 rfl 2 rfl; go_wp2; exact StepQ.mk _ (Below.refl _ _) rfl
 ·intro xx af wv hbx hev hev0 hd
  have e7 := (hev 2 _ 7 rfl rfl).trans (hd ⟨2, .data⟩ (by simp) rfl)
  clear hev hev0 hd
  go_wp2_with fail
  refine (C2.out _).mono ?_
  rintro e w8 ⟨rfl, hb8⟩
  go_wp2
  exact StepQ.mk _ hb8 rfl
 ·intro xx af wv hbx hev hev0 hd
  have e6 := (hev 1 _ 6 rfl rfl).trans (hd ⟨1, .data⟩ (by simp) rfl)
  have e8 := (hev 3 _ 8 rfl rfl).trans (hd ⟨3, .data⟩ (by simp) rfl)
  clear hev hev0 hd
  go_wp2_with fail
  refine (AD.out _).mono ?_
  rintro e w8 ⟨rfl, hb8⟩
  go_wp2
  exact StepQ.mk _ hb8 rfl
 intro xx w6 hb9 hv
 simp only [List.take, List.drop, a0j, Act.put]
 simp only [show xx 0 = _ from hv 0 (by decide), show xx 1 = _ from hv 1 (by decide), show xx 2 = _ from hv 2 (by decide), show xx 3 = _ from hv 3 (by decide), show xx 4 = _ from hv 4 (by decide)]
 clear hv
 have HS6 := zh (HS2.out.call hb9)
 clear hb9 HS2
 have x1 := HS6.out.cell 0 rfl 0 rfl
 have x2 := HS6.out.cell 0 rfl 1 rfl
 have x3 := HS6.out.cell 0 rfl 2 rfl
 have x4 := HS6.out.frozen 0 rfl 0
 have x5 := HS6.out.frozen 0 rfl 1
 have x6 := HS6.out.frozen 0 rfl 2
 have x7 := HS6.out.ne 0 1 rfl rfl (by decide)
 have x8 := HS6.out.ne 1 0 rfl rfl (by decide)
 have x9 := HS6.out.ne 0 2 rfl rfl (by decide)
 have x10 := HS6.out.ne 2 0 rfl rfl (by decide)
 go_wp2
 have HS7 : Hid (St w [⟨w.heap.size + 1 + 1, #[.bool nr, .string (bs br), .string (bs dr)], 51⟩, ⟨w.heap.size + 1, #[.bool n2, .string (bs a2), .string (bs b2)], 51⟩, ⟨w.heap.size, #[.bool n1, .string (bs a1), .string (bs b1)], 51⟩] _) := zh (St.set ((St.set ((St.set (HS6.out) 0 rfl 0 _)) 0 rfl 1 _)) 0 rfl 2 _)
 exact bodyPost_ret (a1c rfl _ _ _ _ _ _ rfl (HS7.out.blk 0 rfl)) rfl ⟨rfl, HS7.out.below⟩


end Go.Proofs.YtbkbiokgfoomfaaGreatDoor
