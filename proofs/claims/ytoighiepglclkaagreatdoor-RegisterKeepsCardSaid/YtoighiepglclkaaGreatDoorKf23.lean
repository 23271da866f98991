/-
Part 23 of the base.
-/
import Derived.Test.YtoighiepglclkaaGreatDoorKf22
import Derived.IntWalk
set_option maxRecDepth 100000
set_option maxHeartbeats 1000000
namespace Go.Proofs.YtoighiepglclkaaGreatDoor
open Go.RowKit
theorem b0c {l : List Stp} {N : Nat} (h1 : 1 <= N) (h : ∀ s ∈ l, s.num.length <= N /\ s.den.length <= N) : b3k N l := fun s hs => a1f (h s hs).1 (h s hs).2 h1
theorem b6m (v : Value) (l : List Stp) (src dst base : Int) (w : World) (h : a9x w v l) (hok : ∀ s ∈ l, s.num.length <= 1000 /\ s.den.length <= 1000) (hri : a4r l) (hlen : l.length <= 64)
  (hs0 : 0 <= src /\ src <= 2147483648) (hd0 : 0 <= dst /\ dst <= 2147483648) (hb0 : 1 <= base /\ base <= 1000) :
  Calls Tryz.prog 76 #[v, .int .i64 src, .int .i64 dst, .int .i64 base] w fun e w' => e = .returned (rat (b0q l src dst base)) /\ Below w.heap.size w w' := by
 have H := zh h
 have HOK := zh hok
 have HRI := zh hri
 have HZ := zh (b5e (src := src) (dst := dst) (b0c (by decide) hok) (by omega) (by omega))
 obtain ⟨s0, s1⟩ := hs0
 obtain ⟨d0, d1⟩ := hd0
 obtain ⟨b0, b1⟩ := hb0
 obtain ⟨A, c, rfl, hl, hc⟩ := h.slice
 have HSUM := zh (c8y hri (src := src) (dst := dst))
 clear h hok hri
 go_enter Tryz.func76, Tryz.ntmps76
 have HS := zh (St.start w)
 go_wp2
 have HS2 := aL (aL HS #[.bool false, .string (bs []), .string (bs [])] 40 w.heap.size) #[.bool false, .string (bs []), .string (bs [])] 40 (w.heap.size + 1)
 go_loopw [19] (fun i wr => ∃ k : Nat, k <= l.length /\ i = .int .i64 k /\ Hid (St w [⟨w.heap.size + 1, #[.bool (negB (a6d l src dst k)), .string (bs (numB (a6d l src dst k))), .string (bs (a0a (a6d l src dst k)))], 40⟩, ⟨w.heap.size, #[.bool false, .string (bs []), .string (bs [])], 40⟩] wr)) (fun i _ => l.length - (intOf i).toNat)
 case atStart => exact ⟨0, Nat.zero_le _, rfl, by have hz := b0j; show St _ _ _; rw [show a6d l src dst 0 = 0 from rfl, hz.1, hz.2.1, hz.2.2]; exact HS2.out⟩
 case round =>
  obtain ⟨k, hk, rfl, HS⟩ := hrel
  by_cases hlt : k < l.length
  ·obtain ⟨b, o, s, rfl, hbb, hq, hx⟩ := H.out.at_ hlt
   obtain ⟨o1, o2⟩ := HOK.out s (List.mem_of_getElem? hq)
   have HX := zh hx
   have HQ := zh hq
   have e0 : (0 : Int) <= ((k : Nat) : Int) := by omega
   have e1 : ((k : Nat) : Int) < (l.length : Int) := by omega
   have hz1 := HZ.out k
   have hfr : 0 <= s.frm /\ s.frm <= 1048576 := by have := b2u HRI.out hq; omega
   obtain ⟨f0, f1⟩ := hfr
   obtain ⟨fv, hfv⟩ : ∃ x, x = max src s.frm := ⟨_, rfl⟩
   have f2 : 0 <= fv /\ fv <= 2147483648 := by omega
   clear hx hq
   have hsz := a1f (neg := s.neg) o1 o2 (by decide)
   change Sized 1000 s.rate at hsz
   have hseg1 := @b5f l src dst k s HQ.out
   have hseg2 := @b2s l src dst k s HQ.out
   rw [<- hfv] at hseg1 hseg2
   have HFV := zh hfv
   have ef := hfv.symm
   clear hfv
   by_cases hi : k + 1 < l.length
   ·obtain ⟨b', o', t, e, _, hp, hy⟩ := H.out.at_ hi
    injection e with e
    injection e with e1' e2'
    subst e1'
    subst e2'
    have hft : a2y l (k + 1) = t.frm := by unfold a2y; rw [hp]
    have hea : a4n l dst (k + 1) = min dst t.frm := by unfold a4n; rw [if_pos hi, hft]
    have hgr := b2u HRI.out hp
    have HY := zh hy
    have e2 : decide (((k : Nat) : Int) + 1 < (l.length : Int)) = true := decide_eq_true (by omega)
    have e3 : ((k : Nat) : Int) + 1 < (l.length : Int) := by omega
    have e4 : (0 : Int) <= ((k : Nat) : Int) + 1 := by omega
    obtain ⟨lv, hlv⟩ : ∃ x, x = min dst t.frm := ⟨_, rfl⟩
    rw [<- hlv] at hea
    have l2 : 0 <= lv /\ lv <= 2147483648 := by omega
    have el := hlv.symm
    rw [hea] at hseg1 hseg2
    clear hea hft hgr hy hp hlv
    by_cases hfl : fv < lv
    ·have HE := zh (hseg1 hfl)
     have hd2 : decide (fv < lv) = true := decide_eq_true hfl
     have ew : IntKind.i64.wrap (lv - fv) = lv - fv := IntWalk.i64_in _ (by omega)
     have hsu := a3h (n := lv - fv) (by omega)
     have hI := fun W => a4z (lv - fv) W (by omega) (by omega)
     have hM := fun W => a5a s.neg s.num s.den ((lv - fv : Int) : Rat) W (by omega) (by omega) (hsu.mono (by decide))
     have hA := fun W => a8h (a6d l src dst k) (s.rate * ((lv - fv : Int) : Rat)) W (hz1.mono (by omega)) ((hsz.mul hsu).mono (by decide))
     change ∀ W, Calls Tryz.prog _ _ W (fun e w' => e = .returned (rat (s.rate * ((lv - fv : Int) : Rat))) /\ _) at hM
     rw [<- HE.out] at hA
     generalize s.rate * ((lv - fv : Int) : Rat) = m at *
     generalize ((lv - fv : Int) : Rat) = u at *
     obtain ⟨z, hzz⟩ : ∃ z, z = a6d l src dst (k + 1) := ⟨_, rfl⟩
     rw [<- hzz] at hA
     have HZZ := zh hzz
     clear hzz
     generalize a6d l src dst k = y at *
     unfold rat raw at hI hM hA
     have HI := zh hI
     have HM := zh hM
     have HA := zh hA
     clear hI hM hA hsu hz1 hsz hfl hseg1 hseg2 HE
     have x1 : b < wr.heap.size := Nat.lt_of_lt_of_le hbb HS.out.below.size
     have x2 : ¬ b = wr.heap.size := by omega
     have x3 := HX.out _ HS.out.below 0 _ rfl
     rw [Nat.add_zero] at x3
     have x4 := HX.out _ HS.out.below 1 _ rfl
     have x5 := HX.out _ HS.out.below 2 _ rfl
     have x6 := HX.out _ HS.out.below 3 _ rfl
     have x7 := HY.out _ HS.out.below 0 _ rfl
     rw [Nat.add_zero] at x7
     go_wp2
     clear x1 x2 x3 x4 x5 x6 x7
     have HS3 := aL HS #[.int .i64 s.frm, .bool s.neg, .string (bs s.num), .string (bs s.den)] 99 wr.heap.size
     clear HS
     refine a0d 9 [fun _ vv => vv = .agg #[.bool (negB (y)), .string (bs (numB (y))), .string (bs (a0a (y)))], fun _ vv => vv = .pointer (some ⟨wr.heap.size, 1, none⟩), fun _ vv => vv = .agg #[.bool s.neg, .string (bs s.num), .string (bs s.den)], fun _ vv => vv = .int .i64 lv, fun _ vv => vv = .int .i64 fv, fun _ vv => vv = .int .i64 (lv - fv), fun _ vv => vv = .agg #[.bool (negB (u)), .string (bs (numB (u))), .string (bs (a0a (u)))], fun _ vv => vv = .agg #[.bool (negB (m)), .string (bs (numB (m))), .string (bs (a0a (m)))], fun _ vv => vv = .agg #[.bool (negB (z)), .string (bs (numB (z))), .string (bs (a0a (z)))]] rfl (by kernel_rfl) (by kernel_rfl) (by kernel_rfl) ⟨pP, pP, pP, pP, pP, pP, pP, pP, pP, trivial⟩ ?_ ?_
     refine ⟨?_, ?_, ?_, ?_, ?_, ?_, ?_, ?_, ?_, trivial⟩ <;> (intro xx af wv hbx hev hev0 hd; have H := SH.mk hev hev0 hd; clear hev hev0 hd)
     ·have e9 := H.i 9; clear H; have hs1 := zh (HS3.out.call hbx); have y0 := cC hs1 1 0; have y1 := cC hs1 1 1; have y2 := cC hs1 1 2; go_wp2; exact sR rfl
     ·have e11 := H.i 11; clear H; go_wp2; exact sR rfl
     ·have e46 := H.r 1 46; clear H; have hs1 := zh (HS3.out.call hbx); have y0 := cC hs1 0 1; have y1 := cC hs1 0 2; have y2 := cC hs1 0 3; go_wp2; exact sR rfl
     ·have e13 := H.i 13; clear H; go_wp2; exact sR rfl
     ·have e12 := H.i 12; clear H; go_wp2; exact sR rfl
     ·have e48 := H.r 3 48; have e49 := H.r 4 49; clear H; go_wp2; exact sR rfl
     ·have e50 := H.r 5 50; clear H
      go_wp2_with fail
      refine (HI.out _).mono ?_
      rintro e w8 ⟨rfl, hb8⟩; go_wp2; exact StepQ.mk _ hb8 rfl
     ·have e47 := H.r 2 47; have e51 := H.r 6 51; clear H
      go_wp2_with fail
      refine (HM.out _).mono ?_
      rintro e w8 ⟨rfl, hb8⟩; go_wp2; exact StepQ.mk _ hb8 rfl
     ·have e45 := H.r 0 45; have e52 := H.r 7 52; clear H
      go_wp2_with fail
      refine (HA.out _).mono ?_
      rintro e w8 ⟨rfl, hb8⟩; go_wp2; exact StepQ.mk _ hb8 rfl
     intro xx w5 hb9 hv
     simp only [List.take, List.drop, a0r, Act.put]
     simp only [vQ hv 0, vQ hv 1, vQ hv 2, vQ hv 3, vQ hv 4, vQ hv 5, vQ hv 6, vQ hv 7, vQ hv 8]
     clear hv
     have HS5 := zh (HS3.out.call hb9)
     clear hb9 HS3
     have x8 := cC HS5 1 0
     have x9 := cC HS5 1 1
     have x10 := cC HS5 1 2
     have x11 := cF HS5 1 0
     have x12 := cF HS5 1 1
     have x13 := cF HS5 1 2
     have x14 := cN HS5 1 0
     have x15 := cN HS5 0 1
     have x16 := cN HS5 1 2
     have x17 := cN HS5 2 1
     go_wp2
     have HS6 : Hid (St w [_, ⟨w.heap.size + 1, #[.bool (negB (z)), .string (bs (numB (z))), .string (bs (a0a (z)))], 40⟩, _] _) := zh (St.set (St.set (St.set (HS5.out) 1 rfl 0 _) 1 rfl 1 _) 1 rfl 2 _)
     go_roundw
     case rel => exact ⟨k + 1, by omega, by go_num, by show St _ _ _; rw [<- HZZ.out]; exact HS6.out.sub (List.sublist_cons_self _ _)⟩
     case measure => simp [intOf]; omega
    have HE := zh (hseg2 hfl)
    have hd2 : decide (fv < lv) = false := decide_eq_false hfl
    clear hz1 hsz hfl hseg1 hseg2
    have x1 : b < wr.heap.size := Nat.lt_of_lt_of_le hbb HS.out.below.size
    have x2 : ¬ b = wr.heap.size := by omega
    have x3 := HX.out _ HS.out.below 0 _ rfl
    rw [Nat.add_zero] at x3
    have x4 := HX.out _ HS.out.below 1 _ rfl
    have x5 := HX.out _ HS.out.below 2 _ rfl
    have x6 := HX.out _ HS.out.below 3 _ rfl
    have x7 := HY.out _ HS.out.below 0 _ rfl
    rw [Nat.add_zero] at x7
    go_wp2
    have HS3 := aL HS #[.int .i64 s.frm, .bool s.neg, .string (bs s.num), .string (bs s.den)] 99 wr.heap.size
    go_roundw
    case rel => exact ⟨k + 1, by omega, by go_num, by show St _ _ _; rw [HE.out]; exact HS3.out.sub (List.sublist_cons_self _ _)⟩
    case measure => simp [intOf]; omega
   have hea : a4n l dst (k + 1) = dst := by unfold a4n; rw [if_neg hi]
   have e2 : decide (((k : Nat) : Int) + 1 < (l.length : Int)) = false := decide_eq_false (by omega)
   rw [hea] at hseg1 hseg2
   clear hea
   by_cases hfl : fv < dst
   ·have HE := zh (hseg1 hfl)
    have hd2 : decide (fv < dst) = true := decide_eq_true hfl
    have ew : IntKind.i64.wrap (dst - fv) = dst - fv := IntWalk.i64_in _ (by omega)
    have hsu := a3h (n := dst - fv) (by omega)
    have hI := fun W => a4z (dst - fv) W (by omega) (by omega)
    have hM := fun W => a5a s.neg s.num s.den ((dst - fv : Int) : Rat) W (by omega) (by omega) (hsu.mono (by decide))
    have hA := fun W => a8h (a6d l src dst k) (s.rate * ((dst - fv : Int) : Rat)) W (hz1.mono (by omega)) ((hsz.mul hsu).mono (by decide))
    change ∀ W, Calls Tryz.prog _ _ W (fun e w' => e = .returned (rat (s.rate * ((dst - fv : Int) : Rat))) /\ _) at hM
    rw [<- HE.out] at hA
    generalize s.rate * ((dst - fv : Int) : Rat) = m at *
    generalize ((dst - fv : Int) : Rat) = u at *
    obtain ⟨z, hzz⟩ : ∃ z, z = a6d l src dst (k + 1) := ⟨_, rfl⟩
    rw [<- hzz] at hA
    have HZZ := zh hzz
    clear hzz
    generalize a6d l src dst k = y at *
    unfold rat raw at hI hM hA
    have HI := zh hI
    have HM := zh hM
    have HA := zh hA
    clear hI hM hA hsu hz1 hsz hfl hseg1 hseg2 HE
    have x1 : b < wr.heap.size := Nat.lt_of_lt_of_le hbb HS.out.below.size
    have x2 : ¬ b = wr.heap.size := by omega
    have x3 := HX.out _ HS.out.below 0 _ rfl
    rw [Nat.add_zero] at x3
    have x4 := HX.out _ HS.out.below 1 _ rfl
    have x5 := HX.out _ HS.out.below 2 _ rfl
    have x6 := HX.out _ HS.out.below 3 _ rfl
    go_wp2
    clear x1 x2 x3 x4 x5 x6
    have HS3 := aL HS #[.int .i64 s.frm, .bool s.neg, .string (bs s.num), .string (bs s.den)] 99 wr.heap.size
    clear HS
    refine a0d 9 [fun _ vv => vv = .agg #[.bool (negB (y)), .string (bs (numB (y))), .string (bs (a0a (y)))], fun _ vv => vv = .pointer (some ⟨wr.heap.size, 1, none⟩), fun _ vv => vv = .agg #[.bool s.neg, .string (bs s.num), .string (bs s.den)], fun _ vv => vv = .int .i64 dst, fun _ vv => vv = .int .i64 fv, fun _ vv => vv = .int .i64 (dst - fv), fun _ vv => vv = .agg #[.bool (negB (u)), .string (bs (numB (u))), .string (bs (a0a (u)))], fun _ vv => vv = .agg #[.bool (negB (m)), .string (bs (numB (m))), .string (bs (a0a (m)))], fun _ vv => vv = .agg #[.bool (negB (z)), .string (bs (numB (z))), .string (bs (a0a (z)))]] rfl (by kernel_rfl) (by kernel_rfl) (by kernel_rfl) ⟨pP, pP, pP, pP, pP, pP, pP, pP, pP, trivial⟩ ?_ ?_
    refine ⟨?_, ?_, ?_, ?_, ?_, ?_, ?_, ?_, ?_, trivial⟩ <;> (intro xx af wv hbx hev hev0 hd; have H := SH.mk hev hev0 hd; clear hev hev0 hd)
    ·have e9 := H.i 9; clear H; have hs1 := zh (HS3.out.call hbx); have y0 := cC hs1 1 0; have y1 := cC hs1 1 1; have y2 := cC hs1 1 2; go_wp2; exact sR rfl
    ·have e11 := H.i 11; clear H; go_wp2; exact sR rfl
    ·have e46 := H.r 1 46; clear H; have hs1 := zh (HS3.out.call hbx); have y0 := cC hs1 0 1; have y1 := cC hs1 0 2; have y2 := cC hs1 0 3; go_wp2; exact sR rfl
    ·have e13 := H.i 13; clear H; go_wp2; exact sR rfl
    ·have e12 := H.i 12; clear H; go_wp2; exact sR rfl
    ·have e48 := H.r 3 48; have e49 := H.r 4 49; clear H; go_wp2; exact sR rfl
    ·have e50 := H.r 5 50; clear H
     go_wp2_with fail
     refine (HI.out _).mono ?_
     rintro e w8 ⟨rfl, hb8⟩; go_wp2; exact StepQ.mk _ hb8 rfl
    ·have e47 := H.r 2 47; have e51 := H.r 6 51; clear H
     go_wp2_with fail
     refine (HM.out _).mono ?_
     rintro e w8 ⟨rfl, hb8⟩; go_wp2; exact StepQ.mk _ hb8 rfl
    ·have e45 := H.r 0 45; have e52 := H.r 7 52; clear H
     go_wp2_with fail
     refine (HA.out _).mono ?_
     rintro e w8 ⟨rfl, hb8⟩; go_wp2; exact StepQ.mk _ hb8 rfl
    intro xx w5 hb9 hv
    simp only [List.take, List.drop, a0r, Act.put]
    simp only [vQ hv 0, vQ hv 1, vQ hv 2, vQ hv 3, vQ hv 4, vQ hv 5, vQ hv 6, vQ hv 7, vQ hv 8]
    clear hv
    have HS5 := zh (HS3.out.call hb9)
    clear hb9 HS3
    have x7 := cC HS5 1 0
    have x8 := cC HS5 1 1
    have x9 := cC HS5 1 2
    have x10 := cF HS5 1 0
    have x11 := cF HS5 1 1
    have x12 := cF HS5 1 2
    have x13 := cN HS5 1 0
    have x14 := cN HS5 0 1
    have x15 := cN HS5 1 2
    have x16 := cN HS5 2 1
    go_wp2
    have HS6 : Hid (St w [_, ⟨w.heap.size + 1, #[.bool (negB (z)), .string (bs (numB (z))), .string (bs (a0a (z)))], 40⟩, _] _) := zh (St.set (St.set (St.set (HS5.out) 1 rfl 0 _) 1 rfl 1 _) 1 rfl 2 _)
    go_roundw
    case rel => exact ⟨k + 1, by omega, by go_num, by show St _ _ _; rw [<- HZZ.out]; exact HS6.out.sub (List.sublist_cons_self _ _)⟩
    case measure => simp [intOf]; omega
   have HE := zh (hseg2 hfl)
   have hd2 : decide (fv < dst) = false := decide_eq_false hfl
   clear hz1 hsz hfl hseg1 hseg2
   have x1 : b < wr.heap.size := Nat.lt_of_lt_of_le hbb HS.out.below.size
   have x2 : ¬ b = wr.heap.size := by omega
   have x3 := HX.out _ HS.out.below 0 _ rfl
   rw [Nat.add_zero] at x3
   have x4 := HX.out _ HS.out.below 1 _ rfl
   have x5 := HX.out _ HS.out.below 2 _ rfl
   have x6 := HX.out _ HS.out.below 3 _ rfl
   go_wp2
   have HS3 := aL HS #[.int .i64 s.frm, .bool s.neg, .string (bs s.num), .string (bs s.den)] 99 wr.heap.size
   go_roundw
   case rel => exact ⟨k + 1, by omega, by go_num, by show St _ _ _; rw [HE.out]; exact HS3.out.sub (List.sublist_cons_self _ _)⟩
   case measure => simp [intOf]; omega
  obtain rfl : k = l.length := by omega
  have HS := zh HS.out
  rw [HSUM.out] at HS
  have hz1 := HZ.out l.length
  rw [HSUM.out] at hz1
  have hI := fun W => a4z base W (by omega) (by omega)
  have hsu := a3h (n := base) (by omega)
  have hV := fun W => b4k (a2d l src (dst - src).toNat) (base : Rat) W (hz1.mono (by have := Nat.mul_le_mul_right (1000 + 9) hlen; omega)) (hsu.mono (by decide)) (b9c (by omega))
  change ∀ W, Calls Tryz.prog _ _ W (fun e w' => e = .returned (.tuple #[rat (b0q l src dst base), .bool true]) /\ _) at hV
  obtain ⟨z, hzz⟩ : ∃ z, z = b0q l src dst base := ⟨_, rfl⟩
  rw [<- hzz] at hV
  have HZZ := zh hzz
  clear hzz
  generalize a2d l src (dst - src).toNat = y at *
  generalize (base : Rat) = u at *
  unfold rat raw at *
  have HI := zh hI
  have HV := zh hV
  clear hI hV hz1 hsu HSUM
  go_wp2
  refine a6c 9 7 8 [.agg #[.bool (negB (y)), .string (bs (numB (y))), .string (bs (a0a (y)))], .int .i64 base, .agg #[.bool (negB (u)), .string (bs (numB (u))), .string (bs (a0a (u)))], .tuple #[.agg #[.bool (negB (z)), .string (bs (numB (z))), .string (bs (a0a (z)))], .bool true], .tuple #[.agg #[.bool (negB (z)), .string (bs (numB (z))), .string (bs (a0a (z)))], .bool true], .agg #[.bool (negB (z)), .string (bs (numB (z))), .string (bs (a0a (z)))], .bool true, undef, undef] #[.bool false, .string (bs []), .string (bs [])] #[.bool (negB (z)), .string (bs (numB (z))), .string (bs (a0a (z)))] 40 rfl (by kernel_rfl) (by kernel_rfl) (by kernel_rfl) (by kernel_rfl) (by decide) (by decide) (by decide) ?_ ?_
  refine ⟨?_, ?_, ?_, ?_, ?_, ?_, ?_, ?_, ?_, trivial⟩ <;> (intro xx af wv hbx hev hev0 hd; have H := SH.mk hev hev0 hd; clear hev hev0 hd)
  ·have e9 := H.i 9; clear H; rw [if_neg (by decide), if_neg (by decide)]; have hs1 := zh (HS.out.call hbx); have y0 := cC hs1 0 0; have y1 := cC hs1 0 1; have y2 := cC hs1 0 2; go_wp2; exact sR rfl
  ·have e3 := H.i 3; clear H; rw [if_neg (by decide), if_neg (by decide)]; go_wp2; exact sR rfl
  ·have e57 := H.ev 1 _ 57 rfl rfl; have d1 : xx 1 = .int .i64 base := H.hd ⟨1, .data⟩ (by simp) rfl (by decide) (by decide); rw [d1] at e57; clear d1; clear H; rw [if_neg (by decide), if_neg (by decide)]
   go_wp2_with fail
   refine (HI.out _).mono ?_
   rintro e w8 ⟨rfl, hb8⟩; go_wp2; exact StepQ.mk _ hb8 rfl
  ·have e56 := H.ev 0 _ 56 rfl rfl; have d0 : xx 0 = .agg #[.bool (negB (y)), .string (bs (numB (y))), .string (bs (a0a (y)))] := H.hd ⟨0, .data⟩ (by simp) rfl (by decide) (by decide); rw [d0] at e56; clear d0; have e58 := H.ev 2 _ 58 rfl rfl; have d2 : xx 2 = .agg #[.bool (negB (u)), .string (bs (numB (u))), .string (bs (a0a (u)))] := H.hd ⟨2, .data⟩ (by simp) rfl (by decide) (by decide); rw [d2] at e58; clear d2; clear H; rw [if_neg (by decide), if_neg (by decide)]
   go_wp2_with fail
   refine (HV.out _).mono ?_
   rintro e w8 ⟨rfl, hb8⟩; go_wp2; exact StepQ.mk _ hb8 rfl
  ·have e59 := H.ev 3 _ 59 rfl rfl; have d3 : xx 3 = .tuple #[.agg #[.bool (negB (z)), .string (bs (numB (z))), .string (bs (a0a (z)))], .bool true] := H.hd ⟨3, .data⟩ (by simp) rfl (by decide) (by decide); rw [d3] at e59; clear d3; clear H; rw [if_neg (by decide), if_neg (by decide)]; go_wp2; exact sR rfl
  ·have e55 := H.ev 4 _ 55 rfl rfl; have d4 : xx 4 = .tuple #[.agg #[.bool (negB (z)), .string (bs (numB (z))), .string (bs (a0a (z)))], .bool true] := H.hd ⟨4, .data⟩ (by simp) rfl (by decide) (by decide); rw [d4] at e55; clear d4; clear H; rw [if_neg (by decide), if_neg (by decide)]; go_wp2; exact sR rfl
  ·have e55 := H.ev 4 _ 55 rfl rfl; have d4 : xx 4 = .tuple #[.agg #[.bool (negB (z)), .string (bs (numB (z))), .string (bs (a0a (z)))], .bool true] := H.hd ⟨4, .data⟩ (by simp) rfl (by decide) (by decide); rw [d4] at e55; clear d4; clear H; rw [if_neg (by decide), if_neg (by decide)]; go_wp2; exact sR rfl
  ·clear H; rw [if_pos rfl]; go_wp2; exact StepQ.mk _ (Ext.alloc (Below.refl _ _) _) ⟨_, rfl, Nat.le_refl _, Blk.new _ _ _⟩
  ·have e14 := H.ev 7 _ 14 rfl rfl; have e60 := H.ev 5 _ 60 rfl rfl; have d5 : xx 5 = .agg #[.bool (negB (z)), .string (bs (numB (z))), .string (bs (a0a (z)))] := H.hd ⟨5, .data⟩ (by simp) rfl (by decide) (by decide); rw [d5] at e60; clear d5; clear H; rw [if_neg (by decide), if_pos rfl]; intro g hxg hlg hBl; rw [hxg] at e14; clear hxg; have hBl : Blk wv g #[.bool false, .string (bs []), .string (bs [])] 40 := hBl; have z0 := hBl.cell 0 _ rfl; have z1 := hBl.cell 1 _ rfl; have z2 := hBl.cell 2 _ rfl; have zf0 := hBl.frozen 0; have zf1 := hBl.frozen 1; have zf2 := hBl.frozen 2; go_wp2; exact StepQB.mk ((((Below.refl _ _).setCell hlg _).setCell hlg _).setCell hlg _) ((((hBl).set' 0 _).set' 1 _).set' 2 _)
  intro xx w3 g3 hb9 hv hxg hlg hBl
  have hv0 : xx 0 = .agg #[.bool (negB (y)), .string (bs (numB (y))), .string (bs (a0a (y)))] := hv 0 (by decide) (by decide) (by decide)
  have hv1 : xx 1 = .int .i64 base := hv 1 (by decide) (by decide) (by decide)
  have hv2 : xx 2 = .agg #[.bool (negB (u)), .string (bs (numB (u))), .string (bs (a0a (u)))] := hv 2 (by decide) (by decide) (by decide)
  have hv3 : xx 3 = .tuple #[.agg #[.bool (negB (z)), .string (bs (numB (z))), .string (bs (a0a (z)))], .bool true] := hv 3 (by decide) (by decide) (by decide)
  have hv4 : xx 4 = .tuple #[.agg #[.bool (negB (z)), .string (bs (numB (z))), .string (bs (a0a (z)))], .bool true] := hv 4 (by decide) (by decide) (by decide)
  have hv5 : xx 5 = .agg #[.bool (negB (z)), .string (bs (numB (z))), .string (bs (a0a (z)))] := hv 5 (by decide) (by decide) (by decide)
  have hv6 : xx 6 = .bool true := hv 6 (by decide) (by decide) (by decide)
  clear hv
  simp only [List.take, List.drop, a0r, Act.put]
  simp only [hxg, hv0, hv1, hv2, hv3, hv4, hv5, hv6]
  clear hxg hv0 hv1 hv2 hv3 hv4 hv5 hv6
  have HS3 := zh (HS.out.fill hb9 hlg hBl)
  clear hb9 hlg hBl HS
  have x1 := cC HS3 0 0
  have x2 := cC HS3 0 1
  have x3 := cC HS3 0 2
  have x4 := cC HS3 2 0
  have x5 := cC HS3 2 1
  have x6 := cC HS3 2 2
  have x7 := cF HS3 2 0
  have x8 := cF HS3 2 1
  have x9 := cF HS3 2 2
  have x10 := cN HS3 2 0
  have x11 := cN HS3 0 2
  have x12 := cN HS3 2 1
  have x13 := cN HS3 1 2
  go_wp2
  have HS4 : Hid (St w [_, _, ⟨w.heap.size, #[.bool (negB (z)), .string (bs (numB (z))), .string (bs (a0a (z)))], 40⟩] _) := zh (St.set (St.set (St.set (HS3.out) 2 rfl 0 _) 2 rfl 1 _) 2 rfl 2 _)
  refine bodyPost_ret (a0j rfl _ _ _ _ _ _ rfl (HS4.out.blk 2 rfl)) rfl ?_
  exact ⟨by rw [<- HZZ.out]; rfl, HS4.out.below⟩
theorem c3n (v : Value) (l : List Stp) (src dst : Int) (w : World) (h : a9x w v l) (hok : ∀ s ∈ l, s.num.length <= 1000 /\ s.den.length <= 1000) (hri : a4r l) (hlen : l.length <= 64)
  (hs0 : 0 <= src /\ src <= 2147483648) (hd0 : 0 <= dst /\ dst <= 2147483648) :
  Calls Tryz.prog 88 #[v, .int .i64 src, .int .i64 dst] w fun e w' => e = .returned (rat (a2d l src (dst - src).toNat)) /\ Below w.heap.size w w' := by
 have H := zh h
 have HRI := zh hri
 have HRT := zh (fun W d (hb : Below w.heap.size w W) => ref_rate v l d W (h.below hb) (fun s hs => by have := hok s hs; omega) hri)
 have HZ := zh (fun n (hn : n <= 549755813888) => b3g hri hlen (b0c (by decide) hok) (src := src) (n := n) (by omega) hn)
 have HZ2 := zh (fun d => c3u (by decide) (b0c (N := 1000) (by decide) hok) d)
 have HDP := zh (fun cur h0 h => @d0z l src cur dst h0 h)
 obtain ⟨s0, s1⟩ := hs0
 obtain ⟨d0, d1⟩ := hd0
 obtain ⟨A, c, rfl, hl, hc⟩ := h.slice
 clear h hok hri
 go_enter Tryz.func88, Tryz.ntmps88
 have HS := zh (St.start w)
 go_wp2
 have HS2 := aL (aL HS #[.bool false, .string (bs []), .string (bs [])] 40 w.heap.size) #[.bool false, .string (bs []), .string (bs [])] 40 (w.heap.size + 1)
 go_loopw [1] (fun i wr => ∃ cur : Int, src <= cur /\ (cur = src \/ cur <= dst) /\ i = .int .i64 cur /\ Hid (St w [⟨w.heap.size + 1, #[.bool (negB (a2d l src (cur - src).toNat)), .string (bs (numB (a2d l src (cur - src).toNat))), .string (bs (a0a (a2d l src (cur - src).toNat)))], 40⟩, ⟨w.heap.size, #[.bool false, .string (bs []), .string (bs [])], 40⟩] wr)) (fun i _ => (dst - intOf i).toNat)
 case atStart => exact ⟨src, Int.le_refl _, .inl rfl, rfl, by have hz := b0j; show St _ _ _; rw [show (src - src).toNat = 0 by omega, show a2d l src 0 = 0 from rfl, hz.1, hz.2.1, hz.2.2]; exact HS2.out⟩
 case round =>
  obtain ⟨cur, hcu, hcd, rfl, HS⟩ := hrel
  obtain ⟨wo, hwo⟩ : ∃ wo : World, wo = wr := ⟨_, rfl⟩
  subst hwo
  by_cases hlt : cur < dst
  ·have hl2 : decide (cur < dst) = true := decide_eq_true hlt
   go_wp2
   have HS3 := zh HS.out
   go_loopw [8, 9] (fun en i wr => ∃ j : Nat, j <= l.length /\ i = .int .i64 j /\ en = .int .i64 (a7t l cur dst j) /\ Hid (St w [⟨w.heap.size + 1, #[.bool (negB (a2d l src (cur - src).toNat)), .string (bs (numB (a2d l src (cur - src).toNat))), .string (bs (a0a (a2d l src (cur - src).toNat)))], 40⟩, ⟨w.heap.size, #[.bool false, .string (bs []), .string (bs [])], 40⟩] wr)) (fun _ i _ => l.length - (intOf i).toNat)
   case atStart => exact ⟨0, Nat.zero_le _, rfl, rfl, HS3.out⟩
   case round =>
    obtain ⟨j, hj, rfl, rfl, HT⟩ := hrel
    by_cases hlj : j < l.length
    ·obtain ⟨b, o, s, rfl, hbb, hq, hx⟩ := H.out.at_ hlj
     have HX := zh hx
     have e0 : (0 : Int) <= ((j : Nat) : Int) := by omega
     have e1 : ((j : Nat) : Int) < (l.length : Int) := by omega
     have e2 : decide (((j : Nat) : Int) < (l.length : Int)) = true := decide_eq_true e1
     have hfr : a2y l j = s.frm := by unfold a2y; rw [hq]
     have ht1 := @c8a l cur dst j
     have ht2 := @c8b l cur dst j
     rw [hfr] at ht1 ht2
     clear hx hq hfr
     by_cases h1 : cur < s.frm
     ·by_cases h2 : s.frm < a7t l cur dst j
      ·have HE := zh (ht1 h1 h2)
       have g1 : decide (cur < s.frm) = true := decide_eq_true h1
       have g2 : decide (s.frm < a7t l cur dst j) = true := decide_eq_true h2
       clear ht1 ht2 h1 h2
       have x1 := HX.out _ HT.out.below 0 _ rfl
       rw [Nat.add_zero] at x1
       go_wp2
       have HT4 := zh HT.out
       go_roundw
       case rel => exact ⟨j + 1, by omega, by go_num, by rw [HE.out], HT4.out⟩
       case measure => simp [intOf]; omega
      have HE := zh (ht2 (fun hh => h2 hh.2))
      have g1 : decide (cur < s.frm) = true := decide_eq_true h1
      have g2 : decide (s.frm < a7t l cur dst j) = false := decide_eq_false h2
      clear ht1 ht2 h1 h2
      have x1 := HX.out _ HT.out.below 0 _ rfl
      rw [Nat.add_zero] at x1
      go_wp2
      have HT4 := zh HT.out
      go_roundw
      case rel => exact ⟨j + 1, by omega, by go_num, by rw [HE.out], HT4.out⟩
      case measure => simp [intOf]; omega
     have HE := zh (ht2 (fun hh => h1 hh.1))
     have g1 : decide (cur < s.frm) = false := decide_eq_false h1
     clear ht1 ht2 h1
     have x1 := HX.out _ HT.out.below 0 _ rfl
     rw [Nat.add_zero] at x1
     go_wp2
     have HT4 := zh HT.out
     go_roundw
     case rel => exact ⟨j + 1, by omega, by go_num, by rw [HE.out], HT4.out⟩
     case measure => simp [intOf]; omega
    obtain rfl : j = l.length := by omega
    obtain ⟨t1, t2, _⟩ := b6t (l := l) hlt l.length (Nat.le_refl _)
    have hpart := HDP.out cur hcu hlt
    generalize a7t l cur dst l.length = en at *
    have hr0 := HZ2.out cur
    have hy0 := HZ.out (cur - src).toNat (by omega)
    have ew : IntKind.i64.wrap (en - cur) = en - cur := IntWalk.i64_in _ (by omega)
    have hsu := a3h (n := en - cur) (by omega)
    have hR := fun W hb => HRT.out W cur hb
    have hI := fun W => c3q (en - cur) W (by omega) (by omega)
    have hT := fun W => b5s (a7c l cur) ((en - cur : Int) : Rat) W (hr0.mono (by decide)) (hsu.mono (by decide))
    have hP := fun W => c0f (a2d l src (cur - src).toNat) (a7c l cur * ((en - cur : Int) : Rat)) W (hy0.mono (by decide)) ((hr0.mul hsu).mono (by decide))
    rw [<- hpart] at hP
    obtain ⟨z, hzz⟩ : ∃ z, z = a2d l src (en - src).toNat := ⟨_, rfl⟩
    rw [<- hzz] at hP
    have HZZ := zh hzz
    clear hzz hpart hr0 hy0
    generalize a7c l cur * ((en - cur : Int) : Rat) = m at *
    generalize ((en - cur : Int) : Rat) = u at *
    generalize a7c l cur = rr at *
    generalize a2d l src (cur - src).toNat = y at *
    unfold rat raw at hR hI hT hP
    have HR := zh hR
    have HI := zh hI
    have HTT := zh hT
    have HP := zh hP
    clear hR hI hT hP hsu
    go_wp2
    refine a0d 10 [fun _ vv => vv = .agg #[.bool (negB (y)), .string (bs (numB (y))), .string (bs (a0a (y)))], fun _ vv => vv = .slice A l.length c, fun _ vv => vv = .int .i64 cur, fun _ vv => vv = .agg #[.bool (negB (rr)), .string (bs (numB (rr))), .string (bs (a0a (rr)))], fun _ vv => vv = .int .i64 en, fun _ vv => vv = .int .i64 cur, fun _ vv => vv = .int .i64 (en - cur), fun _ vv => vv = .agg #[.bool (negB (u)), .string (bs (numB (u))), .string (bs (a0a (u)))], fun _ vv => vv = .agg #[.bool (negB (m)), .string (bs (numB (m))), .string (bs (a0a (m)))], fun _ vv => vv = .agg #[.bool (negB (z)), .string (bs (numB (z))), .string (bs (a0a (z)))]] rfl (by kernel_rfl) (by kernel_rfl) (by kernel_rfl) ⟨pP, pP, pP, pP, pP, pP, pP, pP, pP, pP, trivial⟩ ?_ ?_
    refine ⟨?_, ?_, ?_, ?_, ?_, ?_, ?_, ?_, ?_, ?_, trivial⟩ <;> (intro xx af wv hbx hev hev0 hd; have H := SH.mk hev hev0 hd; clear hev hev0 hd)
    ·have e7 := H.i 7; clear H; have hs1 := zh (HT.out.call hbx); have y0 := cC hs1 0 0; have y1 := cC hs1 0 1; have y2 := cC hs1 0 2; go_wp2; exact sR rfl
    ·have e0 := H.i 0; clear H; go_wp2; exact sR rfl
    ·have e1 := H.i 1; clear H; go_wp2; exact sR rfl
    ·have e43 := H.r 1 43; have e44 := H.r 2 44; clear H; have hs1 := zh (HT.out.call hbx)
     go_wp2_with fail
     refine (HR.out _ hs1.out.below).mono ?_
     rintro e w8 ⟨rfl, hb8⟩; go_wp2; exact StepQ.mk _ hb8 rfl
    ·have e8 := H.i 8; clear H; go_wp2; exact sR rfl
    ·have e1 := H.i 1; clear H; go_wp2; exact sR rfl
    ·have e46 := H.r 4 46; have e47 := H.r 5 47; clear H; go_wp2; exact sR rfl
    ·have e48 := H.r 6 48; clear H
     go_wp2_with fail
     refine (HI.out _).mono ?_
     rintro e w8 ⟨rfl, hb8⟩; go_wp2; exact StepQ.mk _ hb8 rfl
    ·have e45 := H.r 3 45; have e49 := H.r 7 49; clear H
     go_wp2_with fail
     refine (HTT.out _).mono ?_
     rintro e w8 ⟨rfl, hb8⟩; go_wp2; exact StepQ.mk _ hb8 rfl
    ·have e42 := H.r 0 42; have e50 := H.r 8 50; clear H
     go_wp2_with fail
     refine (HP.out _).mono ?_
     rintro e w8 ⟨rfl, hb8⟩; go_wp2; exact StepQ.mk _ hb8 rfl
    intro xx w4 hb9 hv
    simp only [List.take, List.drop, a0r, Act.put]
    simp only [vQ hv 0, vQ hv 1, vQ hv 2, vQ hv 3, vQ hv 4, vQ hv 5, vQ hv 6, vQ hv 7, vQ hv 8, vQ hv 9]
    clear hv
    have HT4 := zh (HT.out.call hb9)
    clear hb9 HT
    have x1 := cC HT4 0 0
    have x2 := cC HT4 0 1
    have x3 := cC HT4 0 2
    have x4 := cF HT4 0 0
    have x5 := cF HT4 0 1
    have x6 := cF HT4 0 2
    have x7 := cN HT4 0 1
    have x8 := cN HT4 1 0
    go_wp2
    have HT5 : Hid (St w [⟨w.heap.size + 1, #[.bool (negB (z)), .string (bs (numB (z))), .string (bs (a0a (z)))], 40⟩, _] _) := zh (St.set (St.set (St.set (HT4.out) 0 rfl 0 _) 0 rfl 1 _) 0 rfl 2 _)
    go_roundw
    case rel => exact ⟨en, by omega, .inr t2, rfl, by show St _ _ _; rw [<- HZZ.out]; exact HT5.out⟩
    case measure => simp [intOf]; omega
  have hl2 : decide (cur < dst) = false := decide_eq_false hlt
  have HE : Hid ((cur - src).toNat = (dst - src).toNat) := by show _ = _; omega
  have x1 := cC HS 0 0
  have x2 := cC HS 0 1
  have x3 := cC HS 0 2
  have x4 := cC HS 1 0
  have x5 := cC HS 1 1
  have x6 := cC HS 1 2
  have x7 := cF HS 1 0
  have x8 := cF HS 1 1
  have x9 := cF HS 1 2
  have x10 := cN HS 1 0
  have x11 := cN HS 0 1
  go_wp2
  have HS3 : Hid (St w [_, ⟨w.heap.size, #[.bool (negB (a2d l src (cur - src).toNat)), .string (bs (numB (a2d l src (cur - src).toNat))), .string (bs (a0a (a2d l src (cur - src).toNat)))], 40⟩] _) := zh (St.set (St.set (St.set (HS.out) 1 rfl 0 _) 1 rfl 1 _) 1 rfl 2 _)
  refine bodyPost_ret (a0j rfl _ _ _ _ _ _ rfl (HS3.out.blk 1 rfl)) rfl ?_
  exact ⟨by rw [<- HE.out]; rfl, HS3.out.below⟩
end Go.Proofs.YtoighiepglclkaaGreatDoor
