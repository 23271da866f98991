/-
Part 27 of the base.
-/
import Derived.Test.YtlkhoommpkndpaaGreatDoorKa26
namespace Go.Proofs.YtlkhoommpkndpaaGreatDoor
open Go.RowKit

def simpR (p : Rat) (l : List Stp) (src dst base : Int) : Rat × Int := if argsErr p l src dst base 1 ≠ 0 then (0, argsErr p l src dst base 1) else (p * simpS l src dst base, 0)
theorem simpR_err {p : Rat} {l : List Stp} {src dst base n : Int} (h : argsErr p l src dst base 1 = n) (hn : n ≠ 0) : simpR p l src dst base = (0, n) := by unfold simpR; rw [h, if_pos hn]
theorem simpR_ok {p : Rat} {l : List Stp} {src dst base : Int} (h : argsErr p l src dst base 1 = 0) : simpR p l src dst base = (p * simpS l src dst base, 0) := by unfold simpR; rw [h, if_neg (by decide)]
set_option maxRecDepth 100000 in
set_option maxHeartbeats 1000000 in
theorem interest_Simple (n : Bool) (a b : List UInt8) (v : Value) (l : List Stp) (src dst base : Int) (w : World) (h : StepsL w v l) (hok : ∀ s ∈ l, s.num.length ≤ 1000 ∧ s.den.length ≤ 1000) (la : a.length ≤ 1000) (lb : b.length ≤ 1000) :
  Calls Tryz.prog 45 #[raw n a b, v, .int .i64 src, .int .i64 dst, .int .i64 base] w fun e w' => e = .returned (.tuple #[rat (simpR (decR n a b) l src dst base).1, .int .i64 (simpR (decR n a b) l src dst base).2]) ∧ Below w.heap.size w w' := by
 have hC := fun W (hb : Below w.heap.size w W) => interest_check n a b v l src dst base 1 W (h.below hb) (fun s hs => by have := hok s hs; omega) (by omega) (by omega)
 have K1 := @simpR_err (decR n a b) l src dst base
 have K2 := @simpR_ok (decR n a b) l src dst base
 have K0 := @args_zero (decR n a b) l src dst base 1
 have sp := sized_dec (neg := n) la lb (by decide)
 have hS := fun W (hb : Below w.heap.size w W) h1 h2 h3 h4 h5 => interest_simple v l src dst base W (h.below hb) hok h1 h2 h3 h4 h5
 have hM := fun W (hq : Sized 17179869184 (simpS l src dst base)) => rational_MultiplyR n a b (simpS l src dst base) W (by omega) (by omega) hq
 have hok' := hok
 generalize hp : decR n a b = p at *
 clear hp
 obtain ⟨m, hm⟩ : ∃ m, m = argsErr p l src dst base 1 := ⟨_, rfl⟩
 rw [← hm] at hC K1 K2 K0
 unfold raw at *
 by_cases h0 : m = 0
 ·subst h0
  obtain ⟨z1, z2, z3, z4, _, z6, z7⟩ := K0 rfl
  have hri := checkS_rising z1
  have hlen := (checkS_zero z1).1
  have q1 := dayB_in z2
  have q2 := dayB_in z3
  have hx := simp_sized (src := src) (dst := dst) (base := base) hri hlen (rates_in (by decide) hok') (by omega) (by omega) (by omega) (by omega)
  have R := Lib.hid (K2 rfl)
  have hS := fun W hb => hS W hb hri hlen (by omega) (by omega) (by omega)
  have hM := fun W => hM W (hx.mono (by decide))
  generalize hy : p * simpS l src dst base = y at *
  generalize simpS l src dst base = x at *
  unfold rat raw at hS hM
  have HC := Lib.hid hC
  have HSS := Lib.hid hS
  have HM := Lib.hid hM
  clear hC hS hM hm K0 K1 K2 z1 z2 z3 z4 z6 z7 hri hlen q1 q2 hx sp h hok hok' hy
  go_enter Tryz.func45, Tryz.ntmps45
  have HS := Lib.hid (St.start w)
  go_wp2_with fail
  have HS2 : Hid (St w [⟨w.heap.size + 1, #[.bool false, .string (bs []), .string (bs [])], 34⟩, ⟨w.heap.size, #[.bool n, .string (bs a), .string (bs b)], 34⟩] _) := Lib.hid (St.alloc ((St.alloc (HS.out) #[.bool n, .string (bs a), .string (bs b)] 34 _ (by simp))) #[.bool false, .string (bs []), .string (bs [])] 34 _ (by simp))
  refine (HC.out _ HS2.out.below).mono ?_
  rintro e w3 ⟨rfl, hb3⟩
  have HS3 := Lib.hid (HS2.out.call hb3)
  clear hb3 HS HS2
  go_wp2
  refine wp_region_facts 7 [fun _ vv => vv = .agg #[.bool n, .string (bs a), .string (bs b)], fun _ vv => vv = v, fun _ vv => vv = .int .i64 src, fun _ vv => vv = .int .i64 dst, fun _ vv => vv = .int .i64 base, fun _ vv => vv = .agg #[.bool (negB (x)), .string (bs (numB (x))), .string (bs (denomB (x)))], fun _ vv => vv = .agg #[.bool (negB (y)), .string (bs (numB (y))), .string (bs (denomB (y)))]] rfl (by kernel_rfl) (by kernel_rfl) (by kernel_rfl) ⟨fun _ _ _ h _ => h, fun _ _ _ h _ => h, fun _ _ _ h _ => h, fun _ _ _ h _ => h, fun _ _ _ h _ => h, fun _ _ _ h _ => h, fun _ _ _ h _ => h, trivial⟩ ?_ ?_
  refine ⟨?_, ?_, ?_, ?_, ?_, ?_, ?_, trivial⟩
  ·intro xx af wv hbx hev hev0 hd; have e5 : af.tmps[5]?.getD undef = .pointer (some ⟨w.heap.size, 0, none⟩) := hev0 5 rfl; clear hev hev0 hd; have hs1 := Lib.hid (HS3.out.call hbx); have y0 := hs1.out.cell 1 rfl 0 rfl; have y1 := hs1.out.cell 1 rfl 1 rfl; have y2 := hs1.out.cell 1 rfl 2 rfl; go_wp2; exact StepQ.mk _ (Below.refl _ _) rfl
  ·intro xx af wv hbx hev hev0 hd; have e1 : af.tmps[1]?.getD undef = v := hev0 1 rfl; clear hev hev0 hd; go_wp2; exact StepQ.mk _ (Below.refl _ _) rfl
  ·intro xx af wv hbx hev hev0 hd; have e2 : af.tmps[2]?.getD undef = .int .i64 src := hev0 2 rfl; clear hev hev0 hd; go_wp2; exact StepQ.mk _ (Below.refl _ _) rfl
  ·intro xx af wv hbx hev hev0 hd; have e3 : af.tmps[3]?.getD undef = .int .i64 dst := hev0 3 rfl; clear hev hev0 hd; go_wp2; exact StepQ.mk _ (Below.refl _ _) rfl
  ·intro xx af wv hbx hev hev0 hd; have e4 : af.tmps[4]?.getD undef = .int .i64 base := hev0 4 rfl; clear hev hev0 hd; go_wp2; exact StepQ.mk _ (Below.refl _ _) rfl
  ·intro xx af wv hbx hev hev0 hd
   have e24 := (hev 1 _ 24 rfl rfl).trans (hd ⟨1, .data⟩ (by simp) rfl)
   have e25 := (hev 2 _ 25 rfl rfl).trans (hd ⟨2, .data⟩ (by simp) rfl)
   have e26 := (hev 3 _ 26 rfl rfl).trans (hd ⟨3, .data⟩ (by simp) rfl)
   have e27 := (hev 4 _ 27 rfl rfl).trans (hd ⟨4, .data⟩ (by simp) rfl)
   clear hev hev0 hd
   have hs1 := Lib.hid (HS3.out.call hbx)
   go_wp2_with fail
   refine (HSS.out _ hs1.out.below).mono ?_
   rintro e w8 ⟨rfl, hb8⟩
   go_wp2
   exact StepQ.mk _ hb8 rfl
  ·intro xx af wv hbx hev hev0 hd
   have e23 := (hev 0 _ 23 rfl rfl).trans (hd ⟨0, .data⟩ (by simp) rfl)
   have e28 := (hev 5 _ 28 rfl rfl).trans (hd ⟨5, .data⟩ (by simp) rfl)
   clear hev hev0 hd
   go_wp2_with fail
   refine (HM.out _).mono ?_
   rintro e w8 ⟨rfl, hb8⟩
   go_wp2
   exact StepQ.mk _ hb8 rfl
  intro xx w4 hb9 hv
  simp only [List.take, List.drop, fillA, Act.put]
  simp only [show xx 0 = _ from hv 0 (by decide), show xx 1 = _ from hv 1 (by decide), show xx 2 = _ from hv 2 (by decide), show xx 3 = _ from hv 3 (by decide), show xx 4 = _ from hv 4 (by decide), show xx 5 = _ from hv 5 (by decide), show xx 6 = _ from hv 6 (by decide)]
  clear hv
  have HS4 := Lib.hid (HS3.out.call hb9)
  clear hb9 HS3
  have x1 := HS4.out.cell 0 rfl 0 rfl
  have x2 := HS4.out.cell 0 rfl 1 rfl
  have x3 := HS4.out.cell 0 rfl 2 rfl
  have x4 := HS4.out.frozen 0 rfl 0
  have x5 := HS4.out.frozen 0 rfl 1
  have x6 := HS4.out.frozen 0 rfl 2
  have x7 := HS4.out.ne 0 1 rfl rfl (by decide)
  have x8 := HS4.out.ne 1 0 rfl rfl (by decide)
  go_wp2
  have HS5 : Hid (St w [⟨w.heap.size + 1, #[.bool (negB (y)), .string (bs (numB (y))), .string (bs (denomB (y)))], 34⟩, ⟨w.heap.size, #[.bool n, .string (bs a), .string (bs b)], 34⟩] _) := Lib.hid (St.set ((St.set ((St.set (HS4.out) 0 rfl 0 _)) 0 rfl 1 _)) 0 rfl 2 _)
  refine bodyPost_ret (raw_result2 rfl _ _ _ _ _ _ rfl (HS5.out.blk 0 rfl)) rfl ?_
  rw [R.out]
  exact ⟨rfl, HS5.out.below⟩
 ·have R := Lib.hid (K1 rfl h0)
  have hn0 : (m == 0) = false := by rw [beq_eq_false_iff_ne]; exact h0
  have hn1 : (m != 0) = true := by rw [bne, hn0]; rfl
  have HC := Lib.hid hC
  clear hC hS hm K0 K1 K2 sp h hok hok' hM
  go_enter Tryz.func45, Tryz.ntmps45
  have HS := Lib.hid (St.start w)
  go_wp2_with fail
  have HS2 : Hid (St w [⟨w.heap.size + 1, #[.bool false, .string (bs []), .string (bs [])], 34⟩, ⟨w.heap.size, #[.bool n, .string (bs a), .string (bs b)], 34⟩] _) := Lib.hid (St.alloc ((St.alloc (HS.out) #[.bool n, .string (bs a), .string (bs b)] 34 _ (by simp))) #[.bool false, .string (bs []), .string (bs [])] 34 _ (by simp))
  refine (HC.out _ HS2.out.below).mono ?_
  rintro e w3 ⟨rfl, hb3⟩
  have HS3 := Lib.hid (HS2.out.call hb3)
  clear hb3 HS HS2
  have x1 := HS3.out.cell 0 rfl 0 rfl
  have x2 := HS3.out.cell 0 rfl 1 rfl
  have x3 := HS3.out.cell 0 rfl 2 rfl
  have x4 := HS3.out.frozen 0 rfl 0
  have x5 := HS3.out.frozen 0 rfl 1
  have x6 := HS3.out.frozen 0 rfl 2
  have x7 := HS3.out.ne 0 1 rfl rfl (by decide)
  have x8 := HS3.out.ne 1 0 rfl rfl (by decide)
  go_wp2
  have HS4 : Hid (St w [⟨w.heap.size + 1, #[.bool false, .string (bs []), .string (bs [])], 34⟩, ⟨w.heap.size, #[.bool n, .string (bs a), .string (bs b)], 34⟩] _) := Lib.hid (St.set ((St.set ((St.set (HS3.out) 0 rfl 0 _)) 0 rfl 1 _)) 0 rfl 2 _)
  refine bodyPost_ret (raw_result2 rfl _ _ _ _ _ _ rfl (HS4.out.blk 0 rfl)) rfl ?_
  rw [R.out, rat_zero]
  exact ⟨rfl, HS4.out.below⟩

end Go.Proofs.YtlkhoommpkndpaaGreatDoor
