/-
Part 10 of the base.
-/
import Derived.Test.YtoighiepglclkaaGreatDoorKf9
set_option maxRecDepth 100000
set_option maxHeartbeats 1000000
namespace Go.Proofs.YtoighiepglclkaaGreatDoor
open Go.RowKit
theorem b3r (n1 : Bool) (a1 b1 : List UInt8) (n2 : Bool) (a2 b2 : List UInt8) (w : World) (la1 : a1.length <= 17179869184) (lb1 : b1.length <= 17179869184) (la2 : a2.length <= 17179869184) (lb2 : b2.length <= 17179869184) :
  Calls Tryz.prog 50 #[raw n1 a1 b1, raw n2 a2 b2] w fun e w' => e = .returned (rat (decR n1 a1 b1 + decR n2 a2 b2)) /\ Below w.heap.size w w' := by
 have c1 := fun W => a2j n1 a1 b1 W (by omega) (by omega)
 have c2 := fun W => a2j n2 a2 b2 W (by omega) (by omega)
 have sp := a1f (neg := n1) la1 lb1 (by decide)
 have sq := a1f (neg := n2) la2 lb2 (by decide)
 generalize decR n1 a1 b1 = p at *
 generalize decR n2 a2 b2 = q at *
 clear la1 lb1 la2 lb2
 have ad := fun W => c1s p q W sp sq
 clear sp sq
 generalize p + q = r at *
 unfold rat raw at *
 generalize negB p = np at *
 generalize numB p = bp at *
 generalize a0a p = dp at *
 generalize negB q = nq at *
 generalize numB q = bq at *
 generalize a0a q = dq at *
 generalize negB r = nr at *
 generalize numB r = br at *
 generalize a0a r = dr at *
 have C1 := zh c1
 have C2 := zh c2
 have AD := zh ad
 clear c1 c2 ad
 go_enter Tryz.func50, Tryz.ntmps50
 have HS := zh (St.start w)
 go_wp2
 have HS2 := aL (aL (aL HS #[.bool n1, .string (bs a1), .string (bs b1)] 40 w.heap.size) #[.bool n2, .string (bs a2), .string (bs b2)] 40 (w.heap.size + 1)) #[.bool false, .string (bs []), .string (bs [])] 40 (w.heap.size + 1 + 1)
 clear HS
 refine a0d 5 [fun _ vv => vv = .agg #[.bool n1, .string (bs a1), .string (bs b1)], fun _ vv => vv = .agg #[.bool np, .string (bs bp), .string (bs dp)], fun _ vv => vv = .agg #[.bool n2, .string (bs a2), .string (bs b2)], fun _ vv => vv = .agg #[.bool nq, .string (bs bq), .string (bs dq)], fun _ vv => vv = .agg #[.bool nr, .string (bs br), .string (bs dr)]] rfl (by kernel_rfl) (by kernel_rfl) (by kernel_rfl) ⟨pP, pP, pP, pP, pP, trivial⟩ ?_ ?_
 refine ⟨?_, ?_, ?_, ?_, ?_, trivial⟩ <;> (intro xx af wv hbx hev hev0 hd; have H := SH.mk hev hev0 hd; clear hev hev0 hd)
 ·have e2 := H.i 2; clear H; have hs1 := zh (HS2.out.call hbx); have y0 := cC hs1 2 0; have y1 := cC hs1 2 1; have y2 := cC hs1 2 2; go_wp2; exact sR rfl
 ·have e5 := H.r 0 5; clear H
  go_wp2_with fail
  refine (C1.out _).mono ?_
  rintro e w8 ⟨rfl, hb8⟩; go_wp2; exact StepQ.mk _ hb8 rfl
 ·have e3 := H.i 3; clear H; have hs1 := zh (HS2.out.call hbx); have y0 := cC hs1 1 0; have y1 := cC hs1 1 1; have y2 := cC hs1 1 2; go_wp2; exact sR rfl
 ·have e7 := H.r 2 7; clear H
  go_wp2_with fail
  refine (C2.out _).mono ?_
  rintro e w8 ⟨rfl, hb8⟩; go_wp2; exact StepQ.mk _ hb8 rfl
 ·have e6 := H.r 1 6; have e8 := H.r 3 8; clear H
  go_wp2_with fail
  refine (AD.out _).mono ?_
  rintro e w8 ⟨rfl, hb8⟩; go_wp2; exact StepQ.mk _ hb8 rfl
 intro xx w6 hb9 hv
 simp only [List.take, List.drop, a0r, Act.put]
 simp only [vQ hv 0, vQ hv 1, vQ hv 2, vQ hv 3, vQ hv 4]
 clear hv
 have HS6 := zh (HS2.out.call hb9)
 clear hb9 HS2
 have x1 := cC HS6 0 0
 have x2 := cC HS6 0 1
 have x3 := cC HS6 0 2
 have x4 := cF HS6 0 0
 have x5 := cF HS6 0 1
 have x6 := cF HS6 0 2
 have x7 := cN HS6 0 1
 have x8 := cN HS6 1 0
 have x9 := cN HS6 0 2
 have x10 := cN HS6 2 0
 go_wp2
 have HS7 : Hid (St w [⟨w.heap.size + 1 + 1, #[.bool nr, .string (bs br), .string (bs dr)], 40⟩, _, _] _) := zh (St.set (St.set (St.set (HS6.out) 0 rfl 0 _) 0 rfl 1 _) 0 rfl 2 _)
 exact bodyPost_ret (a0j rfl _ _ _ _ _ _ rfl (HS7.out.blk 0 rfl)) rfl ⟨rfl, HS7.out.below⟩
theorem a8v (n1 : Bool) (a1 b1 : List UInt8) (n2 : Bool) (a2 b2 : List UInt8) (w : World) (la1 : a1.length <= 17179869184) (lb1 : b1.length <= 17179869184) (la2 : a2.length <= 17179869184) (lb2 : b2.length <= 17179869184) :
  Calls Tryz.prog 51 #[raw n1 a1 b1, raw n2 a2 b2] w fun e w' => e = .returned (.int .i64 (sgn (decR n1 a1 b1 - decR n2 a2 b2).num)) /\ Below w.heap.size w w' := by
 have c1 := fun W => a2j n1 a1 b1 W (by omega) (by omega)
 have c2 := fun W => a2j n2 a2 b2 W (by omega) (by omega)
 have sp := a1f (neg := n1) la1 lb1 (by decide)
 have sq := a1f (neg := n2) la2 lb2 (by decide)
 generalize decR n1 a1 b1 = p at *
 generalize decR n2 a2 b2 = q at *
 clear la1 lb1 la2 lb2
 have g1 := fun W => a6u (negB p) (numB p) (a0a p) W
 have g2 := fun W => a6u (negB q) (numB q) (a0a q) W
 have d1 := fun W => a1d p W
 have d2 := fun W => a1d q W
 have lp := sp.num
 have lq := sq.num
 have lpd := sp.2
 have lqd := sq.2
 have m1 := fun W => a4u (numB p) (bytesOf q.den) W (by omega) (by omega)
 have m2 := fun W => a4u (numB q) (bytesOf p.den) W (by omega) (by omega)
 rw [a6p, a0c] at m1 m2
 have lx := a1c sp.1 sq.2
 have ly := a1c sq.1 sp.2
 have cm := fun W => nat_cmp (bytesOf (p.num.natAbs * q.den)) (bytesOf (q.num.natAbs * p.den)) W (by omega) (by omega)
 rw [a0c, a0c] at cm
 rw [c5s] at g1 g2
 have k1 := @cmp_less p q
 have k2 := @cmp_more p q
 have k3 := @cmp_neg p q
 have k4 := @cmp_pos p q
 have kb := c7b (((p.num.natAbs * q.den : Nat) : Int) - (q.num.natAbs * p.den : Nat))
 generalize sgn (((p.num.natAbs * q.den : Nat) : Int) - (q.num.natAbs * p.den : Nat)) = c at *
 generalize sgn (p - q).num = r at *
 generalize sgn p.num = u at *
 generalize sgn q.num = v at *
 obtain ⟨kb1, kb2⟩ := kb
 clear sp sq lp lq lpd lqd lx ly
 unfold rat raw at *
 generalize hnp : negB p = np at *
 generalize numB p = bp at *
 generalize a0a p = dp at *
 generalize negB q = nq at *
 generalize numB q = bq at *
 generalize a0a q = dq at *
 generalize bytesOf (p.num.natAbs * q.den) = ex at *
 generalize bytesOf (q.num.natAbs * p.den) = ey at *
 generalize bytesOf p.den = ep at *
 generalize bytesOf q.den = eq at *
 clear hnp
 have C1 := zh c1
 have C2 := zh c2
 have G1 := zh g1
 have G2 := zh g2
 have D1 := zh d1
 have D2 := zh d2
 have M1 := zh m1
 have M2 := zh m2
 have CM := zh cm
 clear c1 c2 g1 g2 d1 d2 m1 m2 cm
 by_cases hlt : u < v
 have hu : (u == v) = false := by rw [beq_eq_false_iff_ne]; omega
 have hu2 : (u != v) = true := by rw [bne, hu]; rfl
 have hl : decide (u < v) = true := decide_eq_true hlt
 have K := zh (k1 hlt)
 clear k1 k2 k3 k4 hlt
 rotate_left
 by_cases hgt : v < u
 have hu : (u == v) = false := by rw [beq_eq_false_iff_ne]; omega
 have hu2 : (u != v) = true := by rw [bne, hu]; rfl
 have hl : decide (u < v) = false := decide_eq_false (by omega)
 have K := zh (k2 hgt)
 clear k1 k2 k3 k4 hlt hgt
 rotate_left
 have huv : u = v := by omega
 subst huv
 cases np
 have hu : (u == u) = true := by simp
 have hu2 : (u != u) = false := by simp
 have K := zh (k4 rfl rfl)
 clear k1 k2 k3 k4 hlt hgt
 rotate_left
 have hu : (u == u) = true := by simp
 have hu2 : (u != u) = false := by simp
 have K := zh (k3 rfl rfl)
 clear k1 k2 k3 k4 hlt hgt
 rotate_left
 all_goals
   go_enter Tryz.func51, Tryz.ntmps51
   have HS := zh (St.start w)
   go_wp2
   have HS2 := aL (aL HS #[.bool n1, .string (bs a1), .string (bs b1)] 40 w.heap.size) #[.bool n2, .string (bs a2), .string (bs b2)] 40 (w.heap.size + 1)
   clear HS
 ·refine a0d 4 [fun _ vv => vv = .agg #[.bool n1, .string (bs a1), .string (bs b1)], fun _ vv => vv = .agg #[.bool np, .string (bs bp), .string (bs dp)], fun _ vv => vv = .agg #[.bool n2, .string (bs a2), .string (bs b2)], fun _ vv => vv = .agg #[.bool nq, .string (bs bq), .string (bs dq)]] rfl (by kernel_rfl) (by kernel_rfl) (by kernel_rfl) ⟨pP, pP, pP, pP, trivial⟩ ?_ ?_
  refine ⟨?_, ?_, ?_, ?_, trivial⟩ <;> (intro xx af wv hbx hev hev0 hd; have H := SH.mk hev hev0 hd; clear hev hev0 hd)
  ·have e2 := H.i 2; clear H; have hs1 := zh (HS2.out.call hbx); have y0 := cC hs1 1 0; have y1 := cC hs1 1 1; have y2 := cC hs1 1 2; go_wp2; exact sR rfl
  ·have e8 := H.r 0 8; clear H
   go_wp2_with fail
   refine (C1.out _).mono ?_
   rintro e w8 ⟨rfl, hb8⟩; go_wp2; exact StepQ.mk _ hb8 rfl
  ·have e3 := H.i 3; clear H; have hs1 := zh (HS2.out.call hbx); have y0 := cC hs1 0 0; have y1 := cC hs1 0 1; have y2 := cC hs1 0 2; go_wp2; exact sR rfl
  ·have e10 := H.r 2 10; clear H
   go_wp2_with fail
   refine (C2.out _).mono ?_
   rintro e w8 ⟨rfl, hb8⟩; go_wp2; exact StepQ.mk _ hb8 rfl
  intro xx w5 hb9 hv
  simp only [List.take, List.drop, a0r, Act.put]
  simp only [vQ hv 0, vQ hv 1, vQ hv 2, vQ hv 3]
  clear hv
  have HS5 := zh (HS2.out.call hb9)
  clear hb9 HS2
  have x1 := cC HS5 1 0
  have x2 := cC HS5 1 1
  have x3 := cC HS5 1 2
  have x4 := cC HS5 0 0
  have x5 := cC HS5 0 1
  have x6 := cC HS5 0 2
  have x7 := cF HS5 1 0
  have x8 := cF HS5 1 1
  have x9 := cF HS5 1 2
  have x10 := cF HS5 0 0
  have x11 := cF HS5 0 1
  have x12 := cF HS5 0 2
  have x13 := cN HS5 1 0
  have x14 := cN HS5 0 1
  have x15 := cN HS5 0 1
  have x16 := cN HS5 1 0
  go_wp2
  clear x1 x2 x3 x4 x5 x6 x7 x8 x9 x10 x11 x12 x13 x14 x15 x16
  have HS6 : Hid (St w [⟨w.heap.size + 1, #[.bool nq, .string (bs bq), .string (bs dq)], 40⟩, ⟨w.heap.size, #[.bool np, .string (bs bp), .string (bs dp)], 40⟩] _) := zh (St.set (St.set (St.set (St.set (St.set (St.set (HS5.out) 1 rfl 0 _) 1 rfl 1 _) 1 rfl 2 _) 0 rfl 0 _) 0 rfl 1 _) 0 rfl 2 _)
  clear HS5
  refine a0d 5 [fun _ vv => vv = .agg #[.bool np, .string (bs bp), .string (bs dp)], fun _ vv => vv = .int .i64 u, fun _ vv => vv = .agg #[.bool nq, .string (bs bq), .string (bs dq)], fun _ vv => vv = .int .i64 v, fun _ vv => vv = .int .i64 u] rfl (by kernel_rfl) (by kernel_rfl) (by kernel_rfl) ⟨pP, pP, pP, pP, pP, trivial⟩ ?_ ?_
  refine ⟨?_, ?_, ?_, ?_, ?_, trivial⟩ <;> (intro xx af wv hbx hev hev0 hd; have H := SH.mk hev hev0 hd; clear hev hev0 hd)
  ·have e2 := H.i 2; clear H; have hs1 := zh (HS6.out.call hbx); have y0 := cC hs1 1 0; have y1 := cC hs1 1 1; have y2 := cC hs1 1 2; go_wp2; exact sR rfl
  ·have e12 := H.r 0 12; clear H
   go_wp2_with fail
   refine (G1.out _).mono ?_
   rintro e w8 ⟨rfl, hb8⟩; go_wp2; exact StepQ.mk _ hb8 rfl
  ·have e3 := H.i 3; clear H; have hs1 := zh (HS6.out.call hbx); have y0 := cC hs1 0 0; have y1 := cC hs1 0 1; have y2 := cC hs1 0 2; go_wp2; exact sR rfl
  ·have e14 := H.r 2 14; clear H
   go_wp2_with fail
   refine (G2.out _).mono ?_
   rintro e w8 ⟨rfl, hb8⟩; go_wp2; exact StepQ.mk _ hb8 rfl
  ·have e13 := H.r 1 13; clear H; go_wp2; exact sR rfl
  intro xx w7 hb9 hv
  simp only [List.take, List.drop, a0r, Act.put]
  simp only [vQ hv 0, vQ hv 1, vQ hv 2, vQ hv 3, vQ hv 4]
  clear hv
  have HS7 := zh (HS6.out.call hb9)
  clear hb9 HS6
  go_wp2
  go_ret
  have HS8 := zh HS7.out
  exact ⟨by rw [K.out]; rfl, HS8.out.below⟩
 ·refine a0d 4 [fun _ vv => vv = .agg #[.bool n1, .string (bs a1), .string (bs b1)], fun _ vv => vv = .agg #[.bool np, .string (bs bp), .string (bs dp)], fun _ vv => vv = .agg #[.bool n2, .string (bs a2), .string (bs b2)], fun _ vv => vv = .agg #[.bool nq, .string (bs bq), .string (bs dq)]] rfl (by kernel_rfl) (by kernel_rfl) (by kernel_rfl) ⟨pP, pP, pP, pP, trivial⟩ ?_ ?_
  refine ⟨?_, ?_, ?_, ?_, trivial⟩ <;> (intro xx af wv hbx hev hev0 hd; have H := SH.mk hev hev0 hd; clear hev hev0 hd)
  ·have e2 := H.i 2; clear H; have hs1 := zh (HS2.out.call hbx); have y0 := cC hs1 1 0; have y1 := cC hs1 1 1; have y2 := cC hs1 1 2; go_wp2; exact sR rfl
  ·have e8 := H.r 0 8; clear H
   go_wp2_with fail
   refine (C1.out _).mono ?_
   rintro e w8 ⟨rfl, hb8⟩; go_wp2; exact StepQ.mk _ hb8 rfl
  ·have e3 := H.i 3; clear H; have hs1 := zh (HS2.out.call hbx); have y0 := cC hs1 0 0; have y1 := cC hs1 0 1; have y2 := cC hs1 0 2; go_wp2; exact sR rfl
  ·have e10 := H.r 2 10; clear H
   go_wp2_with fail
   refine (C2.out _).mono ?_
   rintro e w8 ⟨rfl, hb8⟩; go_wp2; exact StepQ.mk _ hb8 rfl
  intro xx w5 hb9 hv
  simp only [List.take, List.drop, a0r, Act.put]
  simp only [vQ hv 0, vQ hv 1, vQ hv 2, vQ hv 3]
  clear hv
  have HS5 := zh (HS2.out.call hb9)
  clear hb9 HS2
  have x1 := cC HS5 1 0
  have x2 := cC HS5 1 1
  have x3 := cC HS5 1 2
  have x4 := cC HS5 0 0
  have x5 := cC HS5 0 1
  have x6 := cC HS5 0 2
  have x7 := cF HS5 1 0
  have x8 := cF HS5 1 1
  have x9 := cF HS5 1 2
  have x10 := cF HS5 0 0
  have x11 := cF HS5 0 1
  have x12 := cF HS5 0 2
  have x13 := cN HS5 1 0
  have x14 := cN HS5 0 1
  have x15 := cN HS5 0 1
  have x16 := cN HS5 1 0
  go_wp2
  clear x1 x2 x3 x4 x5 x6 x7 x8 x9 x10 x11 x12 x13 x14 x15 x16
  have HS6 : Hid (St w [⟨w.heap.size + 1, #[.bool nq, .string (bs bq), .string (bs dq)], 40⟩, ⟨w.heap.size, #[.bool np, .string (bs bp), .string (bs dp)], 40⟩] _) := zh (St.set (St.set (St.set (St.set (St.set (St.set (HS5.out) 1 rfl 0 _) 1 rfl 1 _) 1 rfl 2 _) 0 rfl 0 _) 0 rfl 1 _) 0 rfl 2 _)
  clear HS5
  refine a0d 5 [fun _ vv => vv = .agg #[.bool np, .string (bs bp), .string (bs dp)], fun _ vv => vv = .int .i64 u, fun _ vv => vv = .agg #[.bool nq, .string (bs bq), .string (bs dq)], fun _ vv => vv = .int .i64 v, fun _ vv => vv = .int .i64 u] rfl (by kernel_rfl) (by kernel_rfl) (by kernel_rfl) ⟨pP, pP, pP, pP, pP, trivial⟩ ?_ ?_
  refine ⟨?_, ?_, ?_, ?_, ?_, trivial⟩ <;> (intro xx af wv hbx hev hev0 hd; have H := SH.mk hev hev0 hd; clear hev hev0 hd)
  ·have e2 := H.i 2; clear H; have hs1 := zh (HS6.out.call hbx); have y0 := cC hs1 1 0; have y1 := cC hs1 1 1; have y2 := cC hs1 1 2; go_wp2; exact sR rfl
  ·have e12 := H.r 0 12; clear H
   go_wp2_with fail
   refine (G1.out _).mono ?_
   rintro e w8 ⟨rfl, hb8⟩; go_wp2; exact StepQ.mk _ hb8 rfl
  ·have e3 := H.i 3; clear H; have hs1 := zh (HS6.out.call hbx); have y0 := cC hs1 0 0; have y1 := cC hs1 0 1; have y2 := cC hs1 0 2; go_wp2; exact sR rfl
  ·have e14 := H.r 2 14; clear H
   go_wp2_with fail
   refine (G2.out _).mono ?_
   rintro e w8 ⟨rfl, hb8⟩; go_wp2; exact StepQ.mk _ hb8 rfl
  ·have e13 := H.r 1 13; clear H; go_wp2; exact sR rfl
  intro xx w7 hb9 hv
  simp only [List.take, List.drop, a0r, Act.put]
  simp only [vQ hv 0, vQ hv 1, vQ hv 2, vQ hv 3, vQ hv 4]
  clear hv
  have HS7 := zh (HS6.out.call hb9)
  clear hb9 HS6
  go_wp2
  go_ret
  have HS8 := zh HS7.out
  exact ⟨by rw [K.out]; rfl, HS8.out.below⟩
 ·refine a0d 4 [fun _ vv => vv = .agg #[.bool n1, .string (bs a1), .string (bs b1)], fun _ vv => vv = .agg #[.bool false, .string (bs bp), .string (bs dp)], fun _ vv => vv = .agg #[.bool n2, .string (bs a2), .string (bs b2)], fun _ vv => vv = .agg #[.bool nq, .string (bs bq), .string (bs dq)]] rfl (by kernel_rfl) (by kernel_rfl) (by kernel_rfl) ⟨pP, pP, pP, pP, trivial⟩ ?_ ?_
  refine ⟨?_, ?_, ?_, ?_, trivial⟩ <;> (intro xx af wv hbx hev hev0 hd; have H := SH.mk hev hev0 hd; clear hev hev0 hd)
  ·have e2 := H.i 2; clear H; have hs1 := zh (HS2.out.call hbx); have y0 := cC hs1 1 0; have y1 := cC hs1 1 1; have y2 := cC hs1 1 2; go_wp2; exact sR rfl
  ·have e8 := H.r 0 8; clear H
   go_wp2_with fail
   refine (C1.out _).mono ?_
   rintro e w8 ⟨rfl, hb8⟩; go_wp2; exact StepQ.mk _ hb8 rfl
  ·have e3 := H.i 3; clear H; have hs1 := zh (HS2.out.call hbx); have y0 := cC hs1 0 0; have y1 := cC hs1 0 1; have y2 := cC hs1 0 2; go_wp2; exact sR rfl
  ·have e10 := H.r 2 10; clear H
   go_wp2_with fail
   refine (C2.out _).mono ?_
   rintro e w8 ⟨rfl, hb8⟩; go_wp2; exact StepQ.mk _ hb8 rfl
  intro xx w5 hb9 hv
  simp only [List.take, List.drop, a0r, Act.put]
  simp only [vQ hv 0, vQ hv 1, vQ hv 2, vQ hv 3]
  clear hv
  have HS5 := zh (HS2.out.call hb9)
  clear hb9 HS2
  have x1 := cC HS5 1 0
  have x2 := cC HS5 1 1
  have x3 := cC HS5 1 2
  have x4 := cC HS5 0 0
  have x5 := cC HS5 0 1
  have x6 := cC HS5 0 2
  have x7 := cF HS5 1 0
  have x8 := cF HS5 1 1
  have x9 := cF HS5 1 2
  have x10 := cF HS5 0 0
  have x11 := cF HS5 0 1
  have x12 := cF HS5 0 2
  have x13 := cN HS5 1 0
  have x14 := cN HS5 0 1
  have x15 := cN HS5 0 1
  have x16 := cN HS5 1 0
  go_wp2
  clear x1 x2 x3 x4 x5 x6 x7 x8 x9 x10 x11 x12 x13 x14 x15 x16
  have HS6 : Hid (St w [⟨w.heap.size + 1, #[.bool nq, .string (bs bq), .string (bs dq)], 40⟩, ⟨w.heap.size, #[.bool false, .string (bs bp), .string (bs dp)], 40⟩] _) := zh (St.set (St.set (St.set (St.set (St.set (St.set (HS5.out) 1 rfl 0 _) 1 rfl 1 _) 1 rfl 2 _) 0 rfl 0 _) 0 rfl 1 _) 0 rfl 2 _)
  clear HS5
  refine a0d 5 [fun _ vv => vv = .agg #[.bool false, .string (bs bp), .string (bs dp)], fun _ vv => vv = .int .i64 u, fun _ vv => vv = .agg #[.bool nq, .string (bs bq), .string (bs dq)], fun _ vv => vv = .int .i64 u, fun _ vv => vv = .int .i64 u] rfl (by kernel_rfl) (by kernel_rfl) (by kernel_rfl) ⟨pP, pP, pP, pP, pP, trivial⟩ ?_ ?_
  refine ⟨?_, ?_, ?_, ?_, ?_, trivial⟩ <;> (intro xx af wv hbx hev hev0 hd; have H := SH.mk hev hev0 hd; clear hev hev0 hd)
  ·have e2 := H.i 2; clear H; have hs1 := zh (HS6.out.call hbx); have y0 := cC hs1 1 0; have y1 := cC hs1 1 1; have y2 := cC hs1 1 2; go_wp2; exact sR rfl
  ·have e12 := H.r 0 12; clear H
   go_wp2_with fail
   refine (G1.out _).mono ?_
   rintro e w8 ⟨rfl, hb8⟩; go_wp2; exact StepQ.mk _ hb8 rfl
  ·have e3 := H.i 3; clear H; have hs1 := zh (HS6.out.call hbx); have y0 := cC hs1 0 0; have y1 := cC hs1 0 1; have y2 := cC hs1 0 2; go_wp2; exact sR rfl
  ·have e14 := H.r 2 14; clear H
   go_wp2_with fail
   refine (G2.out _).mono ?_
   rintro e w8 ⟨rfl, hb8⟩; go_wp2; exact StepQ.mk _ hb8 rfl
  ·have e13 := H.r 1 13; clear H; go_wp2; exact sR rfl
  intro xx w7 hb9 hv
  simp only [List.take, List.drop, a0r, Act.put]
  simp only [vQ hv 0, vQ hv 1, vQ hv 2, vQ hv 3, vQ hv 4]
  clear hv
  have HS7 := zh (HS6.out.call hb9)
  clear hb9 HS6
  go_wp2
  refine a0d 11 [fun _ vv => vv = .pointer (some ⟨w.heap.size, 1, none⟩), fun _ vv => vv = .string (bs bp), fun _ vv => vv = .agg #[.bool nq, .string (bs bq), .string (bs dq)], fun _ vv => vv = .string (bs eq), fun _ vv => vv = .string (bs ex), fun _ vv => vv = .pointer (some ⟨w.heap.size + 1, 1, none⟩), fun _ vv => vv = .string (bs bq), fun _ vv => vv = .agg #[.bool false, .string (bs bp), .string (bs dp)], fun _ vv => vv = .string (bs ep), fun _ vv => vv = .string (bs ey), fun _ vv => vv = .int .i64 c] rfl (by kernel_rfl) (by kernel_rfl) (by kernel_rfl) ⟨pP, pP, pP, pP, pP, pP, pP, pP, pP, pP, pP, trivial⟩ ?_ ?_
  refine ⟨?_, ?_, ?_, ?_, ?_, ?_, ?_, ?_, ?_, ?_, ?_, trivial⟩ <;> (intro xx af wv hbx hev hev0 hd; have H := SH.mk hev hev0 hd; clear hev hev0 hd)
  ·have e2 := H.i 2; clear H; go_wp2; exact sR rfl
  ·have e22 := H.r 0 22; clear H; have hs1 := zh (HS7.out.call hbx); have y0 := cC hs1 1 1; go_wp2; exact sR rfl
  ·have e3 := H.i 3; clear H; have hs1 := zh (HS7.out.call hbx); have y0 := cC hs1 0 0; have y1 := cC hs1 0 1; have y2 := cC hs1 0 2; go_wp2; exact sR rfl
  ·have e24 := H.r 2 24; clear H
   go_wp2_with fail
   refine (D2.out _).mono ?_
   rintro e w8 ⟨rfl, hb8⟩; go_wp2; exact StepQ.mk _ hb8 rfl
  ·have e23 := H.r 1 23; have e25 := H.r 3 25; clear H
   go_wp2_with fail
   refine (M1.out _).mono ?_
   rintro e w8 ⟨rfl, hb8⟩; go_wp2; exact StepQ.mk _ hb8 rfl
  ·have e3 := H.i 3; clear H; go_wp2; exact sR rfl
  ·have e27 := H.r 5 27; clear H; have hs1 := zh (HS7.out.call hbx); have y0 := cC hs1 0 1; go_wp2; exact sR rfl
  ·have e2 := H.i 2; clear H; have hs1 := zh (HS7.out.call hbx); have y0 := cC hs1 1 0; have y1 := cC hs1 1 1; have y2 := cC hs1 1 2; go_wp2; exact sR rfl
  ·have e29 := H.r 7 29; clear H
   go_wp2_with fail
   refine (D1.out _).mono ?_
   rintro e w8 ⟨rfl, hb8⟩; go_wp2; exact StepQ.mk _ hb8 rfl
  ·have e28 := H.r 6 28; have e30 := H.r 8 30; clear H
   go_wp2_with fail
   refine (M2.out _).mono ?_
   rintro e w8 ⟨rfl, hb8⟩; go_wp2; exact StepQ.mk _ hb8 rfl
  ·have e26 := H.r 4 26; have e31 := H.r 9 31; clear H
   go_wp2_with fail
   refine (CM.out _).mono ?_
   rintro e w8 ⟨rfl, rfl⟩; go_wp2; exact sR rfl
  intro xx w8 hb9 hv
  simp only [List.take, List.drop, a0r, Act.put]
  simp only [vQ hv 0, vQ hv 1, vQ hv 2, vQ hv 3, vQ hv 4, vQ hv 5, vQ hv 6, vQ hv 7, vQ hv 8, vQ hv 9, vQ hv 10]
  clear hv
  have HS8 := zh (HS7.out.call hb9)
  clear hb9 HS7
  have x17 := cC HS8 1 0
  go_wp2
  go_ret
  have HS9 := zh HS8.out
  exact ⟨by rw [K.out]; rfl, HS9.out.below⟩
 refine a0d 4 [fun _ vv => vv = .agg #[.bool n1, .string (bs a1), .string (bs b1)], fun _ vv => vv = .agg #[.bool true, .string (bs bp), .string (bs dp)], fun _ vv => vv = .agg #[.bool n2, .string (bs a2), .string (bs b2)], fun _ vv => vv = .agg #[.bool nq, .string (bs bq), .string (bs dq)]] rfl (by kernel_rfl) (by kernel_rfl) (by kernel_rfl) ⟨pP, pP, pP, pP, trivial⟩ ?_ ?_
 refine ⟨?_, ?_, ?_, ?_, trivial⟩ <;> (intro xx af wv hbx hev hev0 hd; have H := SH.mk hev hev0 hd; clear hev hev0 hd)
 ·have e2 := H.i 2; clear H; have hs1 := zh (HS2.out.call hbx); have y0 := cC hs1 1 0; have y1 := cC hs1 1 1; have y2 := cC hs1 1 2; go_wp2; exact sR rfl
 ·have e8 := H.r 0 8; clear H
  go_wp2_with fail
  refine (C1.out _).mono ?_
  rintro e w8 ⟨rfl, hb8⟩; go_wp2; exact StepQ.mk _ hb8 rfl
 ·have e3 := H.i 3; clear H; have hs1 := zh (HS2.out.call hbx); have y0 := cC hs1 0 0; have y1 := cC hs1 0 1; have y2 := cC hs1 0 2; go_wp2; exact sR rfl
 ·have e10 := H.r 2 10; clear H
  go_wp2_with fail
  refine (C2.out _).mono ?_
  rintro e w8 ⟨rfl, hb8⟩; go_wp2; exact StepQ.mk _ hb8 rfl
 intro xx w5 hb9 hv
 simp only [List.take, List.drop, a0r, Act.put]
 simp only [vQ hv 0, vQ hv 1, vQ hv 2, vQ hv 3]
 clear hv
 have HS5 := zh (HS2.out.call hb9)
 clear hb9 HS2
 have x1 := cC HS5 1 0
 have x2 := cC HS5 1 1
 have x3 := cC HS5 1 2
 have x4 := cC HS5 0 0
 have x5 := cC HS5 0 1
 have x6 := cC HS5 0 2
 have x7 := cF HS5 1 0
 have x8 := cF HS5 1 1
 have x9 := cF HS5 1 2
 have x10 := cF HS5 0 0
 have x11 := cF HS5 0 1
 have x12 := cF HS5 0 2
 have x13 := cN HS5 1 0
 have x14 := cN HS5 0 1
 have x15 := cN HS5 0 1
 have x16 := cN HS5 1 0
 go_wp2
 clear x1 x2 x3 x4 x5 x6 x7 x8 x9 x10 x11 x12 x13 x14 x15 x16
 have HS6 : Hid (St w [⟨w.heap.size + 1, #[.bool nq, .string (bs bq), .string (bs dq)], 40⟩, ⟨w.heap.size, #[.bool true, .string (bs bp), .string (bs dp)], 40⟩] _) := zh (St.set (St.set (St.set (St.set (St.set (St.set (HS5.out) 1 rfl 0 _) 1 rfl 1 _) 1 rfl 2 _) 0 rfl 0 _) 0 rfl 1 _) 0 rfl 2 _)
 clear HS5
 refine a0d 5 [fun _ vv => vv = .agg #[.bool true, .string (bs bp), .string (bs dp)], fun _ vv => vv = .int .i64 u, fun _ vv => vv = .agg #[.bool nq, .string (bs bq), .string (bs dq)], fun _ vv => vv = .int .i64 u, fun _ vv => vv = .int .i64 u] rfl (by kernel_rfl) (by kernel_rfl) (by kernel_rfl) ⟨pP, pP, pP, pP, pP, trivial⟩ ?_ ?_
 refine ⟨?_, ?_, ?_, ?_, ?_, trivial⟩ <;> (intro xx af wv hbx hev hev0 hd; have H := SH.mk hev hev0 hd; clear hev hev0 hd)
 ·have e2 := H.i 2; clear H; have hs1 := zh (HS6.out.call hbx); have y0 := cC hs1 1 0; have y1 := cC hs1 1 1; have y2 := cC hs1 1 2; go_wp2; exact sR rfl
 ·have e12 := H.r 0 12; clear H
  go_wp2_with fail
  refine (G1.out _).mono ?_
  rintro e w8 ⟨rfl, hb8⟩; go_wp2; exact StepQ.mk _ hb8 rfl
 ·have e3 := H.i 3; clear H; have hs1 := zh (HS6.out.call hbx); have y0 := cC hs1 0 0; have y1 := cC hs1 0 1; have y2 := cC hs1 0 2; go_wp2; exact sR rfl
 ·have e14 := H.r 2 14; clear H
  go_wp2_with fail
  refine (G2.out _).mono ?_
  rintro e w8 ⟨rfl, hb8⟩; go_wp2; exact StepQ.mk _ hb8 rfl
 ·have e13 := H.r 1 13; clear H; go_wp2; exact sR rfl
 intro xx w7 hb9 hv
 simp only [List.take, List.drop, a0r, Act.put]
 simp only [vQ hv 0, vQ hv 1, vQ hv 2, vQ hv 3, vQ hv 4]
 clear hv
 have HS7 := zh (HS6.out.call hb9)
 clear hb9 HS6
 go_wp2
 refine a0d 11 [fun _ vv => vv = .pointer (some ⟨w.heap.size, 1, none⟩), fun _ vv => vv = .string (bs bp), fun _ vv => vv = .agg #[.bool nq, .string (bs bq), .string (bs dq)], fun _ vv => vv = .string (bs eq), fun _ vv => vv = .string (bs ex), fun _ vv => vv = .pointer (some ⟨w.heap.size + 1, 1, none⟩), fun _ vv => vv = .string (bs bq), fun _ vv => vv = .agg #[.bool true, .string (bs bp), .string (bs dp)], fun _ vv => vv = .string (bs ep), fun _ vv => vv = .string (bs ey), fun _ vv => vv = .int .i64 c] rfl (by kernel_rfl) (by kernel_rfl) (by kernel_rfl) ⟨pP, pP, pP, pP, pP, pP, pP, pP, pP, pP, pP, trivial⟩ ?_ ?_
 refine ⟨?_, ?_, ?_, ?_, ?_, ?_, ?_, ?_, ?_, ?_, ?_, trivial⟩ <;> (intro xx af wv hbx hev hev0 hd; have H := SH.mk hev hev0 hd; clear hev hev0 hd)
 ·have e2 := H.i 2; clear H; go_wp2; exact sR rfl
 ·have e22 := H.r 0 22; clear H; have hs1 := zh (HS7.out.call hbx); have y0 := cC hs1 1 1; go_wp2; exact sR rfl
 ·have e3 := H.i 3; clear H; have hs1 := zh (HS7.out.call hbx); have y0 := cC hs1 0 0; have y1 := cC hs1 0 1; have y2 := cC hs1 0 2; go_wp2; exact sR rfl
 ·have e24 := H.r 2 24; clear H
  go_wp2_with fail
  refine (D2.out _).mono ?_
  rintro e w8 ⟨rfl, hb8⟩; go_wp2; exact StepQ.mk _ hb8 rfl
 ·have e23 := H.r 1 23; have e25 := H.r 3 25; clear H
  go_wp2_with fail
  refine (M1.out _).mono ?_
  rintro e w8 ⟨rfl, hb8⟩; go_wp2; exact StepQ.mk _ hb8 rfl
 ·have e3 := H.i 3; clear H; go_wp2; exact sR rfl
 ·have e27 := H.r 5 27; clear H; have hs1 := zh (HS7.out.call hbx); have y0 := cC hs1 0 1; go_wp2; exact sR rfl
 ·have e2 := H.i 2; clear H; have hs1 := zh (HS7.out.call hbx); have y0 := cC hs1 1 0; have y1 := cC hs1 1 1; have y2 := cC hs1 1 2; go_wp2; exact sR rfl
 ·have e29 := H.r 7 29; clear H
  go_wp2_with fail
  refine (D1.out _).mono ?_
  rintro e w8 ⟨rfl, hb8⟩; go_wp2; exact StepQ.mk _ hb8 rfl
 ·have e28 := H.r 6 28; have e30 := H.r 8 30; clear H
  go_wp2_with fail
  refine (M2.out _).mono ?_
  rintro e w8 ⟨rfl, hb8⟩; go_wp2; exact StepQ.mk _ hb8 rfl
 ·have e26 := H.r 4 26; have e31 := H.r 9 31; clear H
  go_wp2_with fail
  refine (CM.out _).mono ?_
  rintro e w8 ⟨rfl, rfl⟩; go_wp2; exact sR rfl
 intro xx w8 hb9 hv
 simp only [List.take, List.drop, a0r, Act.put]
 simp only [vQ hv 0, vQ hv 1, vQ hv 2, vQ hv 3, vQ hv 4, vQ hv 5, vQ hv 6, vQ hv 7, vQ hv 8, vQ hv 9, vQ hv 10]
 clear hv
 have HS8 := zh (HS7.out.call hb9)
 clear hb9 HS7
 have x17 := cC HS8 1 0
 go_wp2
 go_ret
 have HS9 := zh HS8.out
 exact ⟨by rw [K.out]; rfl, HS9.out.below⟩
end Go.Proofs.YtoighiepglclkaaGreatDoor
