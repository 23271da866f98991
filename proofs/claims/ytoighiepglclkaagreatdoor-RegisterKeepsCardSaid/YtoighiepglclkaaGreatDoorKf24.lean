/-
Part 24 of the base.
-/
import Derived.Test.YtoighiepglclkaaGreatDoorKf23
set_option maxRecDepth 100000
set_option maxHeartbeats 1000000
namespace Go.Proofs.YtoighiepglclkaaGreatDoor
open Go.RowKit
def a5z (p : Rat) (l : List Stp) (src dst base : Int) : Rat × Int := if a2s p l src dst base 1 ≠ 0 then (0, a2s p l src dst base 1) else (p * b0q l src dst base, 0)
theorem c1j {p : Rat} {l : List Stp} {src dst base n : Int} (h : a2s p l src dst base 1 = n) (hn : n ≠ 0) : a5z p l src dst base = (0, n) := by unfold a5z; rw [h, if_pos hn]
theorem b9z {p : Rat} {l : List Stp} {src dst base : Int} (h : a2s p l src dst base 1 = 0) : a5z p l src dst base = (p * b0q l src dst base, 0) := by unfold a5z; rw [h, if_neg (by decide)]
theorem c8v {p : Rat} {l : List Stp} {src dst base : Int} : p * a2d l src (dst - src).toNat / (base : Rat) = p * b0q l src dst base := by
 unfold b0q
 rw [Rat.div_def, Rat.div_def, Rat.mul_assoc]
theorem b6n (n : Bool) (a b : List UInt8) (v : Value) (l : List Stp) (src dst base : Int) (w : World) (h : a9x w v l) (hok : ∀ s ∈ l, s.num.length <= 1000 /\ s.den.length <= 1000) (la : a.length <= 1000) (lb : b.length <= 1000) :
  Calls Tryz.prog 49 #[raw n a b, v, .int .i64 src, .int .i64 dst, .int .i64 base] w fun e w' => e = .returned (.tuple #[rat (a5z (decR n a b) l src dst base).1, .int .i64 (a5z (decR n a b) l src dst base).2]) /\ Below w.heap.size w w' := by
 have hC := fun W (hb : Below w.heap.size w W) => b7y n a b v l src dst base 1 W (h.below hb) (fun s hs => by have := hok s hs; omega) (by omega) (by omega)
 have K1 := @c1j (decR n a b) l src dst base
 have K2 := @b9z (decR n a b) l src dst base
 have K0 := @c3k (decR n a b) l src dst base 1
 have sp := a1f (neg := n) la lb (by decide)
 have hS := fun W (hb : Below w.heap.size w W) h1 h2 h3 h4 h5 => b6m v l src dst base W (h.below hb) hok h1 h2 h3 h4 h5
 have hM := fun W (hq : Sized 17179869184 (b0q l src dst base)) => a5a n a b (b0q l src dst base) W (by omega) (by omega) hq
 have hok' := hok
 generalize hp : decR n a b = p at *
 clear hp
 obtain ⟨m, hm⟩ : ∃ m, m = a2s p l src dst base 1 := ⟨_, rfl⟩
 rw [<- hm] at hC K1 K2 K0
 unfold raw at *
 by_cases h0 : m = 0
 subst h0
 obtain ⟨z1, z2, z3, z4, _, z6, z7⟩ := K0 rfl
 have hri := a4h z1
 have hlen := (b1f z1).1
 have q1 := a5n z2
 have q2 := a5n z3
 have hx := a7u (src := src) (dst := dst) (base := base) hri hlen (b0c (by decide) hok') (by omega) (by omega) (by omega) (by omega)
 have R := zh (K2 rfl)
 have hS := fun W hb => hS W hb hri hlen (by omega) (by omega) (by omega)
 have hM := fun W => hM W (hx.mono (by decide))
 generalize hy : p * b0q l src dst base = y at *
 generalize b0q l src dst base = x at *
 unfold rat raw at hS hM
 have HC := zh hC
 have HSS := zh hS
 have HM := zh hM
 clear hC hS hM hm K0 K1 K2 z1 z2 z3 z4 z6 z7 hri hlen q1 q2 hx sp h hok hok' hy
 rotate_left
 have R := zh (K1 rfl h0)
 have hn0 : (m == 0) = false := by rw [beq_eq_false_iff_ne]; exact h0
 have hn1 : (m != 0) = true := by rw [bne, hn0]; rfl
 have HC := zh hC
 clear hC hS hm K0 K1 K2 sp h hok hok' hM
 rotate_left
 all_goals
   go_enter Tryz.func49, Tryz.ntmps49
   have HS := zh (St.start w)
   go_wp2_with fail
   have HS2 := aL (aL HS #[.bool n, .string (bs a), .string (bs b)] 40 w.heap.size) #[.bool false, .string (bs []), .string (bs [])] 40 (w.heap.size + 1)
   refine cL (HC.out _ HS2.out.below) HS2 fun w3 HS3 => ?_
   clear HS HS2
 ·go_wp2
  refine a0d 7 [fun _ vv => vv = .agg #[.bool n, .string (bs a), .string (bs b)], fun _ vv => vv = v, fun _ vv => vv = .int .i64 src, fun _ vv => vv = .int .i64 dst, fun _ vv => vv = .int .i64 base, fun _ vv => vv = .agg #[.bool (negB (x)), .string (bs (numB (x))), .string (bs (a0a (x)))], fun _ vv => vv = .agg #[.bool (negB (y)), .string (bs (numB (y))), .string (bs (a0a (y)))]] rfl (by kernel_rfl) (by kernel_rfl) (by kernel_rfl) ⟨pP, pP, pP, pP, pP, pP, pP, trivial⟩ ?_ ?_
  refine ⟨?_, ?_, ?_, ?_, ?_, ?_, ?_, trivial⟩ <;> (intro xx af wv hbx hev hev0 hd; have H := SH.mk hev hev0 hd; clear hev hev0 hd)
  ·have e5 := H.i 5; clear H; have hs1 := zh (HS3.out.call hbx); have y0 := cC hs1 1 0; have y1 := cC hs1 1 1; have y2 := cC hs1 1 2; go_wp2; exact sR rfl
  ·have e1 := H.i 1; clear H; go_wp2; exact sR rfl
  ·have e2 := H.i 2; clear H; go_wp2; exact sR rfl
  ·have e3 := H.i 3; clear H; go_wp2; exact sR rfl
  ·have e4 := H.i 4; clear H; go_wp2; exact sR rfl
  ·have e24 := H.r 1 24; have e25 := H.r 2 25; have e26 := H.r 3 26; have e27 := H.r 4 27; clear H; have hs1 := zh (HS3.out.call hbx)
   go_wp2_with fail
   refine (HSS.out _ hs1.out.below).mono ?_
   rintro e w8 ⟨rfl, hb8⟩; go_wp2; exact StepQ.mk _ hb8 rfl
  ·have e23 := H.r 0 23; have e28 := H.r 5 28; clear H
   go_wp2_with fail
   refine (HM.out _).mono ?_
   rintro e w8 ⟨rfl, hb8⟩; go_wp2; exact StepQ.mk _ hb8 rfl
  intro xx w4 hb9 hv
  simp only [List.take, List.drop, a0r, Act.put]
  simp only [vQ hv 0, vQ hv 1, vQ hv 2, vQ hv 3, vQ hv 4, vQ hv 5, vQ hv 6]
  clear hv
  have HS4 := zh (HS3.out.call hb9)
  clear hb9 HS3
  have x1 := cC HS4 0 0
  have x2 := cC HS4 0 1
  have x3 := cC HS4 0 2
  have x4 := cF HS4 0 0
  have x5 := cF HS4 0 1
  have x6 := cF HS4 0 2
  have x7 := cN HS4 0 1
  have x8 := cN HS4 1 0
  go_wp2
  have HS5 : Hid (St w [⟨w.heap.size + 1, #[.bool (negB (y)), .string (bs (numB (y))), .string (bs (a0a (y)))], 40⟩, _] _) := zh (St.set (St.set (St.set (HS4.out) 0 rfl 0 _) 0 rfl 1 _) 0 rfl 2 _)
  refine bodyPost_ret (a0k rfl _ _ _ _ _ _ rfl (HS5.out.blk 0 rfl)) rfl ?_
  rw [R.out]
  exact ⟨rfl, HS5.out.below⟩
 have x1 := cC HS3 0 0
 have x2 := cC HS3 0 1
 have x3 := cC HS3 0 2
 have x4 := cF HS3 0 0
 have x5 := cF HS3 0 1
 have x6 := cF HS3 0 2
 have x7 := cN HS3 0 1
 have x8 := cN HS3 1 0
 go_wp2
 have HS4 : Hid (St w [⟨w.heap.size + 1, #[.bool false, .string (bs []), .string (bs [])], 40⟩, _] _) := zh (St.set (St.set (St.set (HS3.out) 0 rfl 0 _) 0 rfl 1 _) 0 rfl 2 _)
 refine bodyPost_ret (a0k rfl _ _ _ _ _ _ rfl (HS4.out.blk 0 rfl)) rfl ?_
 rw [R.out, a5u]
 exact ⟨rfl, HS4.out.below⟩
theorem c7c (n : Bool) (a b : List UInt8) (v : Value) (l : List Stp) (src dst base : Int) (w : World) (h : a9x w v l) (hok : ∀ s ∈ l, s.num.length <= 1000 /\ s.den.length <= 1000) (la : a.length <= 1000) (lb : b.length <= 1000) :
  Calls Tryz.prog 56 #[raw n a b, v, .int .i64 src, .int .i64 dst, .int .i64 base] w fun e w' => e = .returned (.tuple #[rat (a5z (decR n a b) l src dst base).1, .int .i64 (a5z (decR n a b) l src dst base).2]) /\ Below w.heap.size w w' := by
 have hC := fun W (hb : Below w.heap.size w W) => c1n n a b v l src dst base 1 W (h.below hb) (fun s hs => by have := hok s hs; omega) (by omega) (by omega)
 have K1 := @c1j (decR n a b) l src dst base
 have K2 := @b9z (decR n a b) l src dst base
 have K0 := @c3k (decR n a b) l src dst base 1
 have sp := a1f (neg := n) la lb (by decide)
 have hF := fun W => a8f n a b W (by omega) (by omega)
 have hS := fun W (hb : Below w.heap.size w W) h1 h2 h3 h4 => c3n v l src dst W (h.below hb) hok h1 h2 h3 h4
 have hok' := hok
 generalize hp : decR n a b = p at *
 clear hp
 obtain ⟨m, hm⟩ : ∃ m, m = a2s p l src dst base 1 := ⟨_, rfl⟩
 rw [<- hm] at hC K1 K2 K0
 unfold raw at *
 by_cases h0 : m = 0
 subst h0
 obtain ⟨z1, z2, z3, z4, _, z6, z7⟩ := K0 rfl
 have hri := a4h z1
 have hlen := (b1f z1).1
 have q1 := a5n z2
 have q2 := a5n z3
 have hx := a7u (src := src) (dst := dst) (base := base) hri hlen (b0c (by decide) hok') (by omega) (by omega) (by omega) (by omega)
 have R := zh (K2 rfl)
 have hS := fun W hb => hS W hb hri hlen (by omega) (by omega)
 have hxd := b3g hri hlen (b0c (by decide) hok') (src := src) (n := (dst - src).toNat) (by omega) (by omega)
 have hsu := a3h (n := base) (by omega)
 have hT := fun W => b5s p (a2d l src (dst - src).toNat) W (sp.mono (by decide)) (hxd.mono (by decide))
 have hI := fun W => c3q base W (by omega) (by omega)
 have hO := fun W => c5v (p * a2d l src (dst - src).toNat) (base : Rat) W ((sp.mul hxd).mono (by decide)) (hsu.mono (by decide)) (b9c (by omega))
 rw [c8v] at hO
 generalize p * b0q l src dst base = y at *
 generalize p * a2d l src (dst - src).toNat = x at *
 generalize a2d l src (dst - src).toNat = d at *
 generalize (base : Rat) = u at *
 unfold rat raw at hS hF hT hI hO
 have HC := zh hC
 have HSS := zh hS
 have HF := zh hF
 have HT := zh hT
 have HI := zh hI
 have HO := zh hO
 clear hC hS hF hT hI hO hm K0 K1 K2 z1 z2 z3 z4 z6 z7 hri hlen q1 q2 hx sp h hok hok' hxd hsu
 rotate_left
 have R := zh (K1 rfl h0)
 have hn0 : (m == 0) = false := by rw [beq_eq_false_iff_ne]; exact h0
 have hn1 : (m != 0) = true := by rw [bne, hn0]; rfl
 have HC := zh hC
 clear hC hS hm K0 K1 K2 sp h hok hok' hF
 rotate_left
 all_goals
   go_enter Tryz.func56, Tryz.ntmps56
   have HS := zh (St.start w)
   go_wp2_with fail
   have HS2 := aL (aL HS #[.bool n, .string (bs a), .string (bs b)] 40 w.heap.size) #[.bool false, .string (bs []), .string (bs [])] 40 (w.heap.size + 1)
   refine cL (HC.out _ HS2.out.below) HS2 fun w3 HS3 => ?_
   clear HS HS2
 ·have x1 := cC HS3 1 0
  have x2 := cC HS3 1 1
  have x3 := cC HS3 1 2
  go_wp2_with fail
  refine cL (HF.out _) HS3 fun w4 HS4 => ?_
  clear HS3 x1 x2 x3
  go_wp2_with fail
  have HS5 := zh HS4.out
  refine cL (HSS.out _ HS5.out.below) HS5 fun w6 HS6 => ?_
  clear HS4 HS5
  go_wp2_with fail
  refine cL (HT.out _) HS6 fun w7 HS7 => ?_
  clear HS6
  go_wp2_with fail
  refine cL (HI.out _) HS7 fun w8 HS8 => ?_
  clear HS7
  go_wp2_with fail
  refine cL (HO.out _) HS8 fun w9 HS9 => ?_
  clear HS8
  have x4 := cC HS9 0 0
  have x5 := cC HS9 0 1
  have x6 := cC HS9 0 2
  have x7 := cF HS9 0 0
  have x8 := cF HS9 0 1
  have x9 := cF HS9 0 2
  have x10 := cN HS9 0 1
  have x11 := cN HS9 1 0
  go_wp2
  have HS10 : Hid (St w [⟨w.heap.size + 1, #[.bool (negB (y)), .string (bs (numB (y))), .string (bs (a0a (y)))], 40⟩, _] _) := zh (St.set (St.set (St.set (HS9.out) 0 rfl 0 _) 0 rfl 1 _) 0 rfl 2 _)
  refine bodyPost_ret (a0k rfl _ _ _ _ _ _ rfl (HS10.out.blk 0 rfl)) rfl ?_
  rw [R.out]
  exact ⟨rfl, HS10.out.below⟩
 have x1 := cC HS3 0 0
 have x2 := cC HS3 0 1
 have x3 := cC HS3 0 2
 have x4 := cF HS3 0 0
 have x5 := cF HS3 0 1
 have x6 := cF HS3 0 2
 have x7 := cN HS3 0 1
 have x8 := cN HS3 1 0
 go_wp2
 have HS4 : Hid (St w [⟨w.heap.size + 1, #[.bool false, .string (bs []), .string (bs [])], 40⟩, _] _) := zh (St.set (St.set (St.set (HS3.out) 0 rfl 0 _) 0 rfl 1 _) 0 rfl 2 _)
 refine bodyPost_ret (a0k rfl _ _ _ _ _ _ rfl (HS4.out.blk 0 rfl)) rfl ?_
 rw [R.out, a5u]
 exact ⟨rfl, HS4.out.below⟩
end Go.Proofs.YtoighiepglclkaaGreatDoor
