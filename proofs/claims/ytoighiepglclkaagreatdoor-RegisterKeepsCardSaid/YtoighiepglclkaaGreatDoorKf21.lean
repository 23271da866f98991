/-
Part 21 of the base.
-/
import Derived.Test.YtoighiepglclkaaGreatDoorKf16
import Derived.Test.YtoighiepglclkaaGreatDoorKf20
set_option maxRecDepth 100000
set_option maxHeartbeats 1000000
namespace Go.Proofs.YtoighiepglclkaaGreatDoor
open Go.RowKit
theorem a7s (d : Int) (w : World) :
  Calls Tryz.prog 118 #[.int .i64 d] w fun e w' => e = .returned (.bool (dayB d)) /\ w = w' := by
 unfold dayB
 obtain ⟨x, hx⟩ : ∃ x, x = decide (0 <= d) := ⟨_, rfl⟩
 obtain ⟨y, hy⟩ : ∃ y, y = decide (d <= 1048576) := ⟨_, rfl⟩
 rw [<- hx, <- hy]
 have hx' := hx.symm
 have hy' := hy.symm
 clear hx hy
 cases x <;> cases y
 all_goals
  go_enter Tryz.func118, Tryz.ntmps118
  go_wp2
  go_ret
  exact ⟨rfl, rfl⟩
theorem b7z (v : Value) (l : List Stp) (w : World) (h : a9x w v l) (hok : ∀ s ∈ l, s.num.length <= 68719476736 /\ s.den.length <= 68719476736) :
  Calls Tryz.prog 117 #[v] w fun e w' => e = .returned (.int .i64 (a3s l)) /\ Below w.heap.size w w' := by
 have H := zh h
 have HOK := zh hok
 obtain ⟨A, c, rfl, hl, hc⟩ := h.slice
 clear h hok
 by_cases hlen : 64 < l.length
 have hd : decide ((64 : Int) < (l.length : Int)) = true := decide_eq_true (by omega)
 have HR := zh (b6w hlen)
 rotate_left
 have hd : decide ((64 : Int) < (l.length : Int)) = false := decide_eq_false (by omega)
 have hlen := Nat.not_lt.1 hlen
 rotate_left
 all_goals
   go_enter Tryz.func117, Tryz.ntmps117
   have HS := zh (St.start w)
   go_wp2
 ·go_ret
  rw [HR.out]
  exact ⟨rfl, HS.out.below⟩
 go_loopw [10] (fun i wr => ∃ k : Nat, k <= l.length /\ i = .int .i64 k /\ Hid (a3d l k = 0) /\ Hid (St w [] wr)) (fun i _ => l.length - (intOf i).toNat)
 case atStart => exact ⟨0, Nat.zero_le _, rfl, rfl, HS.out⟩
 case round =>
  obtain ⟨k, hk, rfl, hck, HS⟩ := hrel
  by_cases hlt : k < l.length
  ·obtain ⟨b, o, s, rfl, hbb, hq, hx⟩ := H.out.at_ hlt
   have ho := HOK.out s (List.mem_of_getElem? hq)
   have hD := fun W => a7s s.frm W
   have hS := fun W => a4d s.neg s.num s.den W (by omega) (by omega)
   have E1 := zh (fun h => a6r hlen hck.out hq (b5d h) (by decide))
   have E2 := zh (fun h h1 h2 => a6r hlen hck.out hq (b1n h h1 h2) (by decide))
   have E3 := zh (fun h h1 h2 => a6r hlen hck.out hq (b5c h h1 h2) (by decide))
   have E4 := zh (fun h h1 h2 => (a7j hck.out hq).trans (b8h h h1 h2))
   change ∀ W, Calls Tryz.prog _ _ W (fun e w' => e = .returned (.int .i64 (sgn s.rate.num)) /\ _) at hS
   unfold raw at hS
   obtain ⟨sg, hsg⟩ : ∃ x, x = sgn s.rate.num := ⟨_, rfl⟩
   rw [<- hsg] at hS
   obtain ⟨dB, hdB⟩ : ∃ x, x = dayB s.frm := ⟨_, rfl⟩
   rw [<- hdB] at hD
   have HD := zh hD
   have HG := zh hS
   have HX := zh hx
   have HSG := zh hsg
   have HDB := zh hdB.symm
   have HQ := zh hq
   clear hD hS hx hsg hdB hq ho
   cases dB
   ·have e0 : (0 : Int) <= ((k : Nat) : Int) := by omega
    have e1 : ((k : Nat) : Int) < (l.length : Int) := by omega
    have x1 := HX.out _ HS.out.below 0 _ rfl
    rw [Nat.add_zero] at x1
    have x2 := HX.out _ HS.out.below 1 _ rfl
    have x3 := HX.out _ HS.out.below 2 _ rfl
    have x4 := HX.out _ HS.out.below 3 _ rfl
    go_wp2_with fail
    refine (HD.out _).mono ?_
    rintro e w' ⟨rfl, rfl⟩
    clear x1 x2 x3 x4
    go_wp2
    have HS2 := aL HS #[.int .i64 s.frm, .bool s.neg, .string (bs s.num), .string (bs s.den)] 99 wr.heap.size
    go_ret
    rw [E1.out HDB.out]
    exact ⟨rfl, HS2.out.below⟩
   rcases k with _ | k
   ·by_cases hn : sg < 0
    ·have e1 : (0 : Int) < (l.length : Int) := by omega
     have hn2 : decide (sg < 0) = true := decide_eq_true hn
     have R := zh (E3.out HDB.out (by omega) (by rw [<- HSG.out]; exact hn))
     clear hn
     have x1 := HX.out _ HS.out.below 0 _ rfl
     rw [Nat.add_zero] at x1
     have x2 := HX.out _ HS.out.below 1 _ rfl
     have x3 := HX.out _ HS.out.below 2 _ rfl
     have x4 := HX.out _ HS.out.below 3 _ rfl
     go_wp2_with fail
     refine (HD.out _).mono ?_
     rintro e w' ⟨rfl, rfl⟩
     clear x1 x2 x3 x4
     go_wp2
     have HS2 := aL HS #[.int .i64 s.frm, .bool s.neg, .string (bs s.num), .string (bs s.den)] 99 wr.heap.size
     clear HS
     refine a0d 13 [fun _ vv => vv = .int .i64 (0 : Nat), fun _ vv => vv = .bool false, fun _ vv => vv = .bool false, fun _ vv => vv = undef, fun _ vv => vv = undef, fun _ vv => vv = undef, fun _ vv => vv = undef, fun _ vv => vv = undef, fun _ vv => vv = undef, fun _ vv => vv = undef, fun _ vv => vv = undef, fun _ vv => vv = undef, fun _ vv => vv = .bool false] rfl (by kernel_rfl) (by kernel_rfl) (by kernel_rfl) ⟨pP, pP, pP, pP, pP, pP, pP, pP, pP, pP, pP, pP, pP, trivial⟩ ?_ ?_
     refine ⟨?_, ?_, ?_, ?_, ?_, ?_, ?_, ?_, ?_, ?_, ?_, ?_, ?_, trivial⟩ <;> (intro xx af wv hbx hev hev0 hd; have H := SH.mk hev hev0 hd; clear hev hev0 hd)
     ·have e3 := H.i 3; clear H; go_wp2; exact sR rfl
     ·have e21 := H.r 0 21; clear H; go_wp2; exact sR rfl
     ·have e22 := H.r 1 22; clear H; go_wp2; exact sR rfl
     ·have e23 := H.g 2 23; have q23 := a0b e23; clear H; go_wp2; exact sR rfl
     ·have e23 := H.g 2 23; have q23 := a0b e23; clear H; go_wp2; exact sR rfl
     ·have e23 := H.g 2 23; have q23 := a0b e23; clear H; go_wp2; exact sR rfl
     ·have e23 := H.g 2 23; have q23 := a0b e23; clear H; go_wp2; exact sR rfl
     ·have e23 := H.g 2 23; have q23 := a0b e23; clear H; go_wp2; exact sR rfl
     ·have e23 := H.g 2 23; have q23 := a0b e23; clear H; go_wp2; exact sR rfl
     ·have e23 := H.g 2 23; have q23 := a0b e23; clear H; go_wp2; exact sR rfl
     ·have e23 := H.g 2 23; have q23 := a0b e23; clear H; go_wp2; exact sR rfl
     ·have e23 := H.g 2 23; have q23 := a0b e23; clear H; go_wp2; exact sR rfl
     ·have e23 := H.r 2 23; have e32 := H.r 11 32; clear H; go_wp2; exact sR rfl
     intro xx w4 hb9 hv
     simp only [List.take, List.drop, a0r, Act.put]
     simp only [vQ hv 0, vQ hv 1, vQ hv 2, vQ hv 3, vQ hv 4, vQ hv 5, vQ hv 6, vQ hv 7, vQ hv 8, vQ hv 9, vQ hv 10, vQ hv 11, vQ hv 12]
     clear hv
     have HS4 := zh (HS2.out.call hb9)
     clear hb9 HS2
     have x5 := cC HS4 0 1
     have x6 := cC HS4 0 2
     have x7 := cC HS4 0 3
     go_wp2_with fail
     refine cL (HG.out _) HS4 fun w5 HS5 => ?_
     clear HS4 x5 x6 x7
     go_wp2
     have HS6 := zh HS5.out
     go_ret
     rw [R.out]
     exact ⟨rfl, HS6.out.below⟩
    have e1 : (0 : Int) < (l.length : Int) := by omega
    have hn2 : decide (sg < 0) = false := decide_eq_false hn
    have R := zh (E4.out HDB.out (by omega) (by rw [<- HSG.out]; exact hn))
    clear hn
    have x1 := HX.out _ HS.out.below 0 _ rfl
    rw [Nat.add_zero] at x1
    have x2 := HX.out _ HS.out.below 1 _ rfl
    have x3 := HX.out _ HS.out.below 2 _ rfl
    have x4 := HX.out _ HS.out.below 3 _ rfl
    go_wp2_with fail
    refine (HD.out _).mono ?_
    rintro e w' ⟨rfl, rfl⟩
    clear x1 x2 x3 x4
    go_wp2
    have HS2 := aL HS #[.int .i64 s.frm, .bool s.neg, .string (bs s.num), .string (bs s.den)] 99 wr.heap.size
    clear HS
    refine a0d 13 [fun _ vv => vv = .int .i64 (0 : Nat), fun _ vv => vv = .bool false, fun _ vv => vv = .bool false, fun _ vv => vv = undef, fun _ vv => vv = undef, fun _ vv => vv = undef, fun _ vv => vv = undef, fun _ vv => vv = undef, fun _ vv => vv = undef, fun _ vv => vv = undef, fun _ vv => vv = undef, fun _ vv => vv = undef, fun _ vv => vv = .bool false] rfl (by kernel_rfl) (by kernel_rfl) (by kernel_rfl) ⟨pP, pP, pP, pP, pP, pP, pP, pP, pP, pP, pP, pP, pP, trivial⟩ ?_ ?_
    refine ⟨?_, ?_, ?_, ?_, ?_, ?_, ?_, ?_, ?_, ?_, ?_, ?_, ?_, trivial⟩ <;> (intro xx af wv hbx hev hev0 hd; have H := SH.mk hev hev0 hd; clear hev hev0 hd)
    ·have e3 := H.i 3; clear H; go_wp2; exact sR rfl
    ·have e21 := H.r 0 21; clear H; go_wp2; exact sR rfl
    ·have e22 := H.r 1 22; clear H; go_wp2; exact sR rfl
    ·have e23 := H.g 2 23; have q23 := a0b e23; clear H; go_wp2; exact sR rfl
    ·have e23 := H.g 2 23; have q23 := a0b e23; clear H; go_wp2; exact sR rfl
    ·have e23 := H.g 2 23; have q23 := a0b e23; clear H; go_wp2; exact sR rfl
    ·have e23 := H.g 2 23; have q23 := a0b e23; clear H; go_wp2; exact sR rfl
    ·have e23 := H.g 2 23; have q23 := a0b e23; clear H; go_wp2; exact sR rfl
    ·have e23 := H.g 2 23; have q23 := a0b e23; clear H; go_wp2; exact sR rfl
    ·have e23 := H.g 2 23; have q23 := a0b e23; clear H; go_wp2; exact sR rfl
    ·have e23 := H.g 2 23; have q23 := a0b e23; clear H; go_wp2; exact sR rfl
    ·have e23 := H.g 2 23; have q23 := a0b e23; clear H; go_wp2; exact sR rfl
    ·have e23 := H.r 2 23; have e32 := H.r 11 32; clear H; go_wp2; exact sR rfl
    intro xx w4 hb9 hv
    simp only [List.take, List.drop, a0r, Act.put]
    simp only [vQ hv 0, vQ hv 1, vQ hv 2, vQ hv 3, vQ hv 4, vQ hv 5, vQ hv 6, vQ hv 7, vQ hv 8, vQ hv 9, vQ hv 10, vQ hv 11, vQ hv 12]
    clear hv
    have HS4 := zh (HS2.out.call hb9)
    clear hb9 HS2
    have x5 := cC HS4 0 1
    have x6 := cC HS4 0 2
    have x7 := cC HS4 0 3
    go_wp2_with fail
    refine cL (HG.out _) HS4 fun w5 HS5 => ?_
    clear HS4 x5 x6 x7
    go_wp2
    have HS6 := zh HS5.out
    go_roundw
    case rel => exact ⟨0 + 1, by omega, by go_num, R.out, HS6.out.sub (by simp)⟩
    case measure => simp [intOf]; omega
   obtain ⟨b', o', p, e, _, hp, hy⟩ := H.out.at_ (show k < l.length by omega)
   injection e with e
   injection e with e1 e2
   subst e1
   subst e2
   have hf : a2y l (k + 1 - 1) = p.frm := by unfold a2y; rw [show k + 1 - 1 = k by omega, hp]
   have HF := zh hf
   have HY := zh hy
   clear hf hy hp
   have e0 : (0 : Int) <= ((k : Nat) : Int) := by omega
   have e1 : ((k : Nat) : Int) < (l.length : Int) := by omega
   have e2 : ((k : Nat) : Int) + 1 < (l.length : Int) := by omega
   have e3 : (0 : Int) < ((k : Nat) : Int) + 1 := by omega
   have e4 : decide ((0 : Int) < ((k : Nat) : Int) + 1) = true := decide_eq_true e3
   by_cases ho : s.frm <= p.frm
   ·have ho2 : decide (s.frm <= p.frm) = true := decide_eq_true ho
    have R := zh (E2.out HDB.out (by omega) (by rw [HF.out]; exact ho))
    clear ho
    have x1 := HX.out _ HS.out.below 0 _ rfl
    rw [Nat.add_zero] at x1
    have x2 := HX.out _ HS.out.below 1 _ rfl
    have x3 := HX.out _ HS.out.below 2 _ rfl
    have x4 := HX.out _ HS.out.below 3 _ rfl
    go_wp2_with fail
    refine (HD.out _).mono ?_
    rintro e w' ⟨rfl, rfl⟩
    clear x1 x2 x3 x4
    go_wp2
    have HS2 := aL HS #[.int .i64 s.frm, .bool s.neg, .string (bs s.num), .string (bs s.den)] 99 wr.heap.size
    clear HS
    refine a0d 13 [fun _ vv => vv = .int .i64 (k + 1 : Nat), fun _ vv => vv = .bool true, fun _ vv => vv = .bool true, fun _ vv => vv = .pointer (some ⟨wr.heap.size, 0, none⟩), fun _ vv => vv = .int .i64 s.frm, fun _ vv => vv = .slice (some ⟨b, o, none⟩) l.length c, fun _ vv => vv = .int .i64 (k + 1 : Nat), fun _ vv => vv = .int .i64 (k : Nat), fun _ vv => vv = .pointer (some ⟨b, o + k * 4, none⟩), fun _ vv => vv = .pointer (some ⟨b, o + k * 4, none⟩), fun _ vv => vv = .int .i64 p.frm, fun _ vv => vv = .bool true, fun _ vv => vv = .bool true] rfl (by kernel_rfl) (by kernel_rfl) (by kernel_rfl) ⟨pP, pP, pP, pP, pP, pP, pP, pP, pP, pP, pP, pP, pP, trivial⟩ ?_ ?_
    refine ⟨?_, ?_, ?_, ?_, ?_, ?_, ?_, ?_, ?_, ?_, ?_, ?_, ?_, trivial⟩ <;> (intro xx af wv hbx hev hev0 hd; have H := SH.mk hev hev0 hd; clear hev hev0 hd)
    ·have e3 := H.i 3; clear H; go_wp2; exact sR rfl
    ·have e21 := H.r 0 21; clear H; go_wp2; exact sR rfl
    ·have e22 := H.r 1 22; clear H; go_wp2; exact sR rfl
    ·have e23 := H.g 2 23; have e4 := H.i 4; have q23 := a0b e23; clear H; go_wp2; exact sR rfl
    ·have e23 := H.g 2 23; have e24 := H.r 3 24; have q23 := a0b e23; clear H; have hs1 := zh (HS2.out.call hbx); have y0 := cC hs1 0 0; go_wp2; exact sR rfl
    ·have e23 := H.g 2 23; have e0 := H.i 0; have q23 := a0b e23; clear H; go_wp2; exact sR rfl
    ·have e23 := H.g 2 23; have e3 := H.i 3; have q23 := a0b e23; clear H; go_wp2; exact sR rfl
    ·have e23 := H.g 2 23; have e27 := H.r 6 27; have q23 := a0b e23; clear H; go_wp2; exact sR rfl
    ·have e23 := H.g 2 23; have e26 := H.r 5 26; have e28 := H.r 7 28; have q23 := a0b e23; clear H; go_wp2; exact sR rfl
    ·have e23 := H.g 2 23; have e29 := H.r 8 29; have q23 := a0b e23; clear H; go_wp2; exact sR rfl
    ·have e23 := H.g 2 23; have e30 := H.r 9 30; have q23 := a0b e23; clear H; have hs1 := zh (HS2.out.call hbx); have y0 := HY.out _ hs1.out.below 0 _ rfl; rw [Nat.add_zero] at y0; go_wp2; exact sR rfl
    ·have e23 := H.g 2 23; have e25 := H.r 4 25; have e31 := H.r 10 31; have q23 := a0b e23; clear H; go_wp2; exact sR rfl
    ·have e23 := H.r 2 23; have e32 := H.r 11 32; clear H; go_wp2; exact sR rfl
    intro xx w4 hb9 hv
    simp only [List.take, List.drop, a0r, Act.put]
    simp only [vQ hv 0, vQ hv 1, vQ hv 2, vQ hv 3, vQ hv 4, vQ hv 5, vQ hv 6, vQ hv 7, vQ hv 8, vQ hv 9, vQ hv 10, vQ hv 11, vQ hv 12]
    clear hv
    have HS4 := zh (HS2.out.call hb9)
    clear hb9 HS2
    go_wp2
    have HS5 := zh HS4.out
    go_ret
    rw [R.out]
    exact ⟨rfl, HS5.out.below⟩
   have ho2 : decide (s.frm <= p.frm) = false := decide_eq_false ho
   by_cases hn : sg < 0
   ·have hn2 : decide (sg < 0) = true := decide_eq_true hn
    have R := zh (E3.out HDB.out (by rw [HF.out]; omega) (by rw [<- HSG.out]; exact hn))
    clear hn ho
    have x1 := HX.out _ HS.out.below 0 _ rfl
    rw [Nat.add_zero] at x1
    have x2 := HX.out _ HS.out.below 1 _ rfl
    have x3 := HX.out _ HS.out.below 2 _ rfl
    have x4 := HX.out _ HS.out.below 3 _ rfl
    go_wp2_with fail
    refine (HD.out _).mono ?_
    rintro e w' ⟨rfl, rfl⟩
    clear x1 x2 x3 x4
    go_wp2
    have HS2 := aL HS #[.int .i64 s.frm, .bool s.neg, .string (bs s.num), .string (bs s.den)] 99 wr.heap.size
    clear HS
    refine a0d 13 [fun _ vv => vv = .int .i64 (k + 1 : Nat), fun _ vv => vv = .bool true, fun _ vv => vv = .bool true, fun _ vv => vv = .pointer (some ⟨wr.heap.size, 0, none⟩), fun _ vv => vv = .int .i64 s.frm, fun _ vv => vv = .slice (some ⟨b, o, none⟩) l.length c, fun _ vv => vv = .int .i64 (k + 1 : Nat), fun _ vv => vv = .int .i64 (k : Nat), fun _ vv => vv = .pointer (some ⟨b, o + k * 4, none⟩), fun _ vv => vv = .pointer (some ⟨b, o + k * 4, none⟩), fun _ vv => vv = .int .i64 p.frm, fun _ vv => vv = .bool false, fun _ vv => vv = .bool false] rfl (by kernel_rfl) (by kernel_rfl) (by kernel_rfl) ⟨pP, pP, pP, pP, pP, pP, pP, pP, pP, pP, pP, pP, pP, trivial⟩ ?_ ?_
    refine ⟨?_, ?_, ?_, ?_, ?_, ?_, ?_, ?_, ?_, ?_, ?_, ?_, ?_, trivial⟩ <;> (intro xx af wv hbx hev hev0 hd; have H := SH.mk hev hev0 hd; clear hev hev0 hd)
    ·have e3 := H.i 3; clear H; go_wp2; exact sR rfl
    ·have e21 := H.r 0 21; clear H; go_wp2; exact sR rfl
    ·have e22 := H.r 1 22; clear H; go_wp2; exact sR rfl
    ·have e23 := H.g 2 23; have e4 := H.i 4; have q23 := a0b e23; clear H; go_wp2; exact sR rfl
    ·have e23 := H.g 2 23; have e24 := H.r 3 24; have q23 := a0b e23; clear H; have hs1 := zh (HS2.out.call hbx); have y0 := cC hs1 0 0; go_wp2; exact sR rfl
    ·have e23 := H.g 2 23; have e0 := H.i 0; have q23 := a0b e23; clear H; go_wp2; exact sR rfl
    ·have e23 := H.g 2 23; have e3 := H.i 3; have q23 := a0b e23; clear H; go_wp2; exact sR rfl
    ·have e23 := H.g 2 23; have e27 := H.r 6 27; have q23 := a0b e23; clear H; go_wp2; exact sR rfl
    ·have e23 := H.g 2 23; have e26 := H.r 5 26; have e28 := H.r 7 28; have q23 := a0b e23; clear H; go_wp2; exact sR rfl
    ·have e23 := H.g 2 23; have e29 := H.r 8 29; have q23 := a0b e23; clear H; go_wp2; exact sR rfl
    ·have e23 := H.g 2 23; have e30 := H.r 9 30; have q23 := a0b e23; clear H; have hs1 := zh (HS2.out.call hbx); have y0 := HY.out _ hs1.out.below 0 _ rfl; rw [Nat.add_zero] at y0; go_wp2; exact sR rfl
    ·have e23 := H.g 2 23; have e25 := H.r 4 25; have e31 := H.r 10 31; have q23 := a0b e23; clear H; go_wp2; exact sR rfl
    ·have e23 := H.r 2 23; have e32 := H.r 11 32; clear H; go_wp2; exact sR rfl
    intro xx w4 hb9 hv
    simp only [List.take, List.drop, a0r, Act.put]
    simp only [vQ hv 0, vQ hv 1, vQ hv 2, vQ hv 3, vQ hv 4, vQ hv 5, vQ hv 6, vQ hv 7, vQ hv 8, vQ hv 9, vQ hv 10, vQ hv 11, vQ hv 12]
    clear hv
    have HS4 := zh (HS2.out.call hb9)
    clear hb9 HS2
    have x5 := cC HS4 0 1
    have x6 := cC HS4 0 2
    have x7 := cC HS4 0 3
    go_wp2_with fail
    refine cL (HG.out _) HS4 fun w5 HS5 => ?_
    clear HS4 x5 x6 x7
    go_wp2
    have HS6 := zh HS5.out
    go_ret
    rw [R.out]
    exact ⟨rfl, HS6.out.below⟩
   have hn2 : decide (sg < 0) = false := decide_eq_false hn
   have R := zh (E4.out HDB.out (by rw [HF.out]; omega) (by rw [<- HSG.out]; exact hn))
   clear hn ho
   have x1 := HX.out _ HS.out.below 0 _ rfl
   rw [Nat.add_zero] at x1
   have x2 := HX.out _ HS.out.below 1 _ rfl
   have x3 := HX.out _ HS.out.below 2 _ rfl
   have x4 := HX.out _ HS.out.below 3 _ rfl
   go_wp2_with fail
   refine (HD.out _).mono ?_
   rintro e w' ⟨rfl, rfl⟩
   clear x1 x2 x3 x4
   go_wp2
   have HS2 := aL HS #[.int .i64 s.frm, .bool s.neg, .string (bs s.num), .string (bs s.den)] 99 wr.heap.size
   clear HS
   refine a0d 13 [fun _ vv => vv = .int .i64 (k + 1 : Nat), fun _ vv => vv = .bool true, fun _ vv => vv = .bool true, fun _ vv => vv = .pointer (some ⟨wr.heap.size, 0, none⟩), fun _ vv => vv = .int .i64 s.frm, fun _ vv => vv = .slice (some ⟨b, o, none⟩) l.length c, fun _ vv => vv = .int .i64 (k + 1 : Nat), fun _ vv => vv = .int .i64 (k : Nat), fun _ vv => vv = .pointer (some ⟨b, o + k * 4, none⟩), fun _ vv => vv = .pointer (some ⟨b, o + k * 4, none⟩), fun _ vv => vv = .int .i64 p.frm, fun _ vv => vv = .bool false, fun _ vv => vv = .bool false] rfl (by kernel_rfl) (by kernel_rfl) (by kernel_rfl) ⟨pP, pP, pP, pP, pP, pP, pP, pP, pP, pP, pP, pP, pP, trivial⟩ ?_ ?_
   refine ⟨?_, ?_, ?_, ?_, ?_, ?_, ?_, ?_, ?_, ?_, ?_, ?_, ?_, trivial⟩ <;> (intro xx af wv hbx hev hev0 hd; have H := SH.mk hev hev0 hd; clear hev hev0 hd)
   ·have e3 := H.i 3; clear H; go_wp2; exact sR rfl
   ·have e21 := H.r 0 21; clear H; go_wp2; exact sR rfl
   ·have e22 := H.r 1 22; clear H; go_wp2; exact sR rfl
   ·have e23 := H.g 2 23; have e4 := H.i 4; have q23 := a0b e23; clear H; go_wp2; exact sR rfl
   ·have e23 := H.g 2 23; have e24 := H.r 3 24; have q23 := a0b e23; clear H; have hs1 := zh (HS2.out.call hbx); have y0 := cC hs1 0 0; go_wp2; exact sR rfl
   ·have e23 := H.g 2 23; have e0 := H.i 0; have q23 := a0b e23; clear H; go_wp2; exact sR rfl
   ·have e23 := H.g 2 23; have e3 := H.i 3; have q23 := a0b e23; clear H; go_wp2; exact sR rfl
   ·have e23 := H.g 2 23; have e27 := H.r 6 27; have q23 := a0b e23; clear H; go_wp2; exact sR rfl
   ·have e23 := H.g 2 23; have e26 := H.r 5 26; have e28 := H.r 7 28; have q23 := a0b e23; clear H; go_wp2; exact sR rfl
   ·have e23 := H.g 2 23; have e29 := H.r 8 29; have q23 := a0b e23; clear H; go_wp2; exact sR rfl
   ·have e23 := H.g 2 23; have e30 := H.r 9 30; have q23 := a0b e23; clear H; have hs1 := zh (HS2.out.call hbx); have y0 := HY.out _ hs1.out.below 0 _ rfl; rw [Nat.add_zero] at y0; go_wp2; exact sR rfl
   ·have e23 := H.g 2 23; have e25 := H.r 4 25; have e31 := H.r 10 31; have q23 := a0b e23; clear H; go_wp2; exact sR rfl
   ·have e23 := H.r 2 23; have e32 := H.r 11 32; clear H; go_wp2; exact sR rfl
   intro xx w4 hb9 hv
   simp only [List.take, List.drop, a0r, Act.put]
   simp only [vQ hv 0, vQ hv 1, vQ hv 2, vQ hv 3, vQ hv 4, vQ hv 5, vQ hv 6, vQ hv 7, vQ hv 8, vQ hv 9, vQ hv 10, vQ hv 11, vQ hv 12]
   clear hv
   have HS4 := zh (HS2.out.call hb9)
   clear hb9 HS2
   have x5 := cC HS4 0 1
   have x6 := cC HS4 0 2
   have x7 := cC HS4 0 3
   go_wp2_with fail
   refine cL (HG.out _) HS4 fun w5 HS5 => ?_
   clear HS4 x5 x6 x7
   go_wp2
   have HS6 := zh HS5.out
   go_roundw
   case rel => exact ⟨k + 1 + 1, by omega, by go_num, R.out, HS6.out.sub (by simp)⟩
   case measure => simp [intOf]; omega
  obtain rfl : k = l.length := by omega
  have HR := zh (c2z hlen hck.out)
  go_wp2
  go_ret
  rw [HR.out]
  exact ⟨rfl, HS.out.below⟩
theorem b7h (v : Value) (l : List Stp) (w : World) (h : a9x w v l) (hok : ∀ s ∈ l, s.num.length <= 68719476736 /\ s.den.length <= 68719476736) :
  Calls Tryz.prog 127 #[v] w fun e w' => e = .returned (.int .i64 (a3s l)) /\ Below w.heap.size w w' := by
 have H := zh h
 have HOK := zh hok
 obtain ⟨A, c, rfl, hl, hc⟩ := h.slice
 clear h hok
 by_cases hlen : 64 < l.length
 have hd : decide ((64 : Int) < (l.length : Int)) = true := decide_eq_true (by omega)
 have HR := zh (b6w hlen)
 rotate_left
 have hd : decide ((64 : Int) < (l.length : Int)) = false := decide_eq_false (by omega)
 have hlen := Nat.not_lt.1 hlen
 rotate_left
 all_goals
   go_enter Tryz.func127, Tryz.ntmps127
   have HS := zh (St.start w)
   go_wp2
 ·go_ret
  rw [HR.out]
  exact ⟨rfl, HS.out.below⟩
 go_loopw [3] (fun i wr => ∃ k : Nat, k <= l.length /\ i = .int .i64 k /\ Hid (a3d l k = 0) /\ Hid (St w [] wr)) (fun i _ => l.length - (intOf i).toNat)
 case atStart => exact ⟨0, Nat.zero_le _, rfl, rfl, HS.out⟩
 case round =>
  obtain ⟨k, hk, rfl, hck, HS⟩ := hrel
  by_cases hlt : k < l.length
  ·obtain ⟨b, o, s, rfl, hbb, hq, hx⟩ := H.out.at_ hlt
   have ho := HOK.out s (List.mem_of_getElem? hq)
   have hD := fun W => a3p s.frm W
   have hS := fun W => b0a s.neg s.num s.den W (by omega) (by omega)
   have E1 := zh (fun h => a6r hlen hck.out hq (b5d h) (by decide))
   have E2 := zh (fun h h1 h2 => a6r hlen hck.out hq (b1n h h1 h2) (by decide))
   have E3 := zh (fun h h1 h2 => a6r hlen hck.out hq (b5c h h1 h2) (by decide))
   have E4 := zh (fun h h1 h2 => (a7j hck.out hq).trans (b8h h h1 h2))
   change ∀ W, Calls Tryz.prog _ _ W (fun e w' => e = .returned (.int .i64 (sgn s.rate.num)) /\ _) at hS
   unfold raw at hS
   obtain ⟨sg, hsg⟩ : ∃ x, x = sgn s.rate.num := ⟨_, rfl⟩
   rw [<- hsg] at hS
   obtain ⟨dB, hdB⟩ : ∃ x, x = dayB s.frm := ⟨_, rfl⟩
   rw [<- hdB] at hD
   have HD := zh hD
   have HG := zh hS
   have HX := zh hx
   have HSG := zh hsg
   have HDB := zh hdB.symm
   have HQ := zh hq
   clear hD hS hx hsg hdB hq ho
   cases dB
   ·have e0 : (0 : Int) <= ((k : Nat) : Int) := by omega
    have e1 : ((k : Nat) : Int) < (l.length : Int) := by omega
    have x1 := HX.out _ HS.out.below 0 _ rfl
    rw [Nat.add_zero] at x1
    go_wp2_with fail
    refine (HD.out _).mono ?_
    rintro e w' ⟨rfl, rfl⟩
    clear x1
    go_wp2
    have HS2 : Hid (St w [] _) := zh HS.out
    go_ret
    rw [E1.out HDB.out]
    exact ⟨rfl, HS2.out.below⟩
   rcases k with _ | k
   ·by_cases hn : sg < 0
    ·have e1 : (0 : Int) < (l.length : Int) := by omega
     have hn2 : decide (sg < 0) = true := decide_eq_true hn
     have R := zh (E3.out HDB.out (by omega) (by rw [<- HSG.out]; exact hn))
     clear hn
     have x1 := HX.out _ HS.out.below 0 _ rfl
     rw [Nat.add_zero] at x1
     go_wp2_with fail
     refine (HD.out _).mono ?_
     rintro e w' ⟨rfl, rfl⟩
     clear x1
     go_wp2
     refine a0d 16 [fun _ vv => vv = .int .i64 (0 : Nat), fun _ vv => vv = .bool false, fun _ vv => vv = .bool false, fun _ vv => vv = undef, fun _ vv => vv = undef, fun _ vv => vv = undef, fun _ vv => vv = undef, fun _ vv => vv = undef, fun _ vv => vv = undef, fun _ vv => vv = undef, fun _ vv => vv = undef, fun _ vv => vv = undef, fun _ vv => vv = undef, fun _ vv => vv = undef, fun _ vv => vv = undef, fun _ vv => vv = .bool false] rfl (by kernel_rfl) (by kernel_rfl) (by kernel_rfl) ⟨pP, pP, pP, pP, pP, pP, pP, pP, pP, pP, pP, pP, pP, pP, pP, pP, trivial⟩ ?_ ?_
     refine ⟨?_, ?_, ?_, ?_, ?_, ?_, ?_, ?_, ?_, ?_, ?_, ?_, ?_, ?_, ?_, ?_, trivial⟩ <;> (intro xx af wv hbx hev hev0 hd; have H := SH.mk hev hev0 hd; clear hev hev0 hd)
     ·have e3 := H.i 3; clear H; go_wp2; exact sR rfl
     ·have e22 := H.r 0 22; clear H; go_wp2; exact sR rfl
     ·have e23 := H.r 1 23; clear H; go_wp2; exact sR rfl
     ·have e24 := H.g 2 24; have q24 := a0b e24; clear H; go_wp2; exact sR rfl
     ·have e24 := H.g 2 24; have q24 := a0b e24; clear H; go_wp2; exact sR rfl
     ·have e24 := H.g 2 24; have q24 := a0b e24; clear H; go_wp2; exact sR rfl
     ·have e24 := H.g 2 24; have q24 := a0b e24; clear H; go_wp2; exact sR rfl
     ·have e24 := H.g 2 24; have q24 := a0b e24; clear H; go_wp2; exact sR rfl
     ·have e24 := H.g 2 24; have q24 := a0b e24; clear H; go_wp2; exact sR rfl
     ·have e24 := H.g 2 24; have q24 := a0b e24; clear H; go_wp2; exact sR rfl
     ·have e24 := H.g 2 24; have q24 := a0b e24; clear H; go_wp2; exact sR rfl
     ·have e24 := H.g 2 24; have q24 := a0b e24; clear H; go_wp2; exact sR rfl
     ·have e24 := H.g 2 24; have q24 := a0b e24; clear H; go_wp2; exact sR rfl
     ·have e24 := H.g 2 24; have q24 := a0b e24; clear H; go_wp2; exact sR rfl
     ·have e24 := H.g 2 24; have q24 := a0b e24; clear H; go_wp2; exact sR rfl
     ·have e24 := H.r 2 24; have e36 := H.r 14 36; clear H; go_wp2; exact sR rfl
     intro xx w2 hb9 hv
     simp only [List.take, List.drop, a0r, Act.put]
     simp only [vQ hv 0, vQ hv 1, vQ hv 2, vQ hv 3, vQ hv 4, vQ hv 5, vQ hv 6, vQ hv 7, vQ hv 8, vQ hv 9, vQ hv 10, vQ hv 11, vQ hv 12, vQ hv 13, vQ hv 14, vQ hv 15]
     clear hv
     have HS2 := zh (HS.out.call hb9)
     clear hb9 HS
     have x2 := HX.out _ HS2.out.below 1 _ rfl
     have x3 := HX.out _ HS2.out.below 2 _ rfl
     have x4 := HX.out _ HS2.out.below 3 _ rfl
     go_wp2_with fail
     refine cL (HG.out _) HS2 fun w3 HS3 => ?_
     clear HS2 x2 x3 x4
     go_wp2
     have HS4 : Hid (St w [] _) := zh HS3.out
     go_ret
     rw [R.out]
     exact ⟨rfl, HS4.out.below⟩
    have e1 : (0 : Int) < (l.length : Int) := by omega
    have hn2 : decide (sg < 0) = false := decide_eq_false hn
    have R := zh (E4.out HDB.out (by omega) (by rw [<- HSG.out]; exact hn))
    clear hn
    have x1 := HX.out _ HS.out.below 0 _ rfl
    rw [Nat.add_zero] at x1
    go_wp2_with fail
    refine (HD.out _).mono ?_
    rintro e w' ⟨rfl, rfl⟩
    clear x1
    go_wp2
    refine a0d 16 [fun _ vv => vv = .int .i64 (0 : Nat), fun _ vv => vv = .bool false, fun _ vv => vv = .bool false, fun _ vv => vv = undef, fun _ vv => vv = undef, fun _ vv => vv = undef, fun _ vv => vv = undef, fun _ vv => vv = undef, fun _ vv => vv = undef, fun _ vv => vv = undef, fun _ vv => vv = undef, fun _ vv => vv = undef, fun _ vv => vv = undef, fun _ vv => vv = undef, fun _ vv => vv = undef, fun _ vv => vv = .bool false] rfl (by kernel_rfl) (by kernel_rfl) (by kernel_rfl) ⟨pP, pP, pP, pP, pP, pP, pP, pP, pP, pP, pP, pP, pP, pP, pP, pP, trivial⟩ ?_ ?_
    refine ⟨?_, ?_, ?_, ?_, ?_, ?_, ?_, ?_, ?_, ?_, ?_, ?_, ?_, ?_, ?_, ?_, trivial⟩ <;> (intro xx af wv hbx hev hev0 hd; have H := SH.mk hev hev0 hd; clear hev hev0 hd)
    ·have e3 := H.i 3; clear H; go_wp2; exact sR rfl
    ·have e22 := H.r 0 22; clear H; go_wp2; exact sR rfl
    ·have e23 := H.r 1 23; clear H; go_wp2; exact sR rfl
    ·have e24 := H.g 2 24; have q24 := a0b e24; clear H; go_wp2; exact sR rfl
    ·have e24 := H.g 2 24; have q24 := a0b e24; clear H; go_wp2; exact sR rfl
    ·have e24 := H.g 2 24; have q24 := a0b e24; clear H; go_wp2; exact sR rfl
    ·have e24 := H.g 2 24; have q24 := a0b e24; clear H; go_wp2; exact sR rfl
    ·have e24 := H.g 2 24; have q24 := a0b e24; clear H; go_wp2; exact sR rfl
    ·have e24 := H.g 2 24; have q24 := a0b e24; clear H; go_wp2; exact sR rfl
    ·have e24 := H.g 2 24; have q24 := a0b e24; clear H; go_wp2; exact sR rfl
    ·have e24 := H.g 2 24; have q24 := a0b e24; clear H; go_wp2; exact sR rfl
    ·have e24 := H.g 2 24; have q24 := a0b e24; clear H; go_wp2; exact sR rfl
    ·have e24 := H.g 2 24; have q24 := a0b e24; clear H; go_wp2; exact sR rfl
    ·have e24 := H.g 2 24; have q24 := a0b e24; clear H; go_wp2; exact sR rfl
    ·have e24 := H.g 2 24; have q24 := a0b e24; clear H; go_wp2; exact sR rfl
    ·have e24 := H.r 2 24; have e36 := H.r 14 36; clear H; go_wp2; exact sR rfl
    intro xx w2 hb9 hv
    simp only [List.take, List.drop, a0r, Act.put]
    simp only [vQ hv 0, vQ hv 1, vQ hv 2, vQ hv 3, vQ hv 4, vQ hv 5, vQ hv 6, vQ hv 7, vQ hv 8, vQ hv 9, vQ hv 10, vQ hv 11, vQ hv 12, vQ hv 13, vQ hv 14, vQ hv 15]
    clear hv
    have HS2 := zh (HS.out.call hb9)
    clear hb9 HS
    have x2 := HX.out _ HS2.out.below 1 _ rfl
    have x3 := HX.out _ HS2.out.below 2 _ rfl
    have x4 := HX.out _ HS2.out.below 3 _ rfl
    go_wp2_with fail
    refine cL (HG.out _) HS2 fun w3 HS3 => ?_
    clear HS2 x2 x3 x4
    go_wp2
    have HS4 : Hid (St w [] _) := zh HS3.out
    go_roundw
    case rel => exact ⟨0 + 1, by omega, by go_num, R.out, HS4.out.sub (by simp)⟩
    case measure => simp [intOf]; omega
   obtain ⟨b', o', p, e, _, hp, hy⟩ := H.out.at_ (show k < l.length by omega)
   injection e with e
   injection e with e1 e2
   subst e1
   subst e2
   have hf : a2y l (k + 1 - 1) = p.frm := by unfold a2y; rw [show k + 1 - 1 = k by omega, hp]
   have HF := zh hf
   have HY := zh hy
   clear hf hy hp
   have e0 : (0 : Int) <= ((k : Nat) : Int) := by omega
   have e1 : ((k : Nat) : Int) < (l.length : Int) := by omega
   have e2 : ((k : Nat) : Int) + 1 < (l.length : Int) := by omega
   have e3 : (0 : Int) < ((k : Nat) : Int) + 1 := by omega
   have e4 : decide ((0 : Int) < ((k : Nat) : Int) + 1) = true := decide_eq_true e3
   by_cases ho : s.frm <= p.frm
   ·have ho2 : decide (s.frm <= p.frm) = true := decide_eq_true ho
    have R := zh (E2.out HDB.out (by omega) (by rw [HF.out]; exact ho))
    clear ho
    have x1 := HX.out _ HS.out.below 0 _ rfl
    rw [Nat.add_zero] at x1
    go_wp2_with fail
    refine (HD.out _).mono ?_
    rintro e w' ⟨rfl, rfl⟩
    clear x1
    go_wp2
    refine a0d 16 [fun _ vv => vv = .int .i64 (k + 1 : Nat), fun _ vv => vv = .bool true, fun _ vv => vv = .bool true, fun _ vv => vv = .slice (some ⟨b, o, none⟩) l.length c, fun _ vv => vv = .int .i64 (k + 1 : Nat), fun _ vv => vv = .pointer (some ⟨b, o + (k + 1) * 4, none⟩), fun _ vv => vv = .pointer (some ⟨b, o + (k + 1) * 4, none⟩), fun _ vv => vv = .int .i64 s.frm, fun _ vv => vv = .slice (some ⟨b, o, none⟩) l.length c, fun _ vv => vv = .int .i64 (k + 1 : Nat), fun _ vv => vv = .int .i64 (k : Nat), fun _ vv => vv = .pointer (some ⟨b, o + k * 4, none⟩), fun _ vv => vv = .pointer (some ⟨b, o + k * 4, none⟩), fun _ vv => vv = .int .i64 p.frm, fun _ vv => vv = .bool true, fun _ vv => vv = .bool true] rfl (by kernel_rfl) (by kernel_rfl) (by kernel_rfl) ⟨pP, pP, pP, pP, pP, pP, pP, pP, pP, pP, pP, pP, pP, pP, pP, pP, trivial⟩ ?_ ?_
    refine ⟨?_, ?_, ?_, ?_, ?_, ?_, ?_, ?_, ?_, ?_, ?_, ?_, ?_, ?_, ?_, ?_, trivial⟩ <;> (intro xx af wv hbx hev hev0 hd; have H := SH.mk hev hev0 hd; clear hev hev0 hd)
    ·have e3 := H.i 3; clear H; go_wp2; exact sR rfl
    ·have e22 := H.r 0 22; clear H; go_wp2; exact sR rfl
    ·have e23 := H.r 1 23; clear H; go_wp2; exact sR rfl
    ·have e24 := H.g 2 24; have e0 := H.i 0; have q24 := a0b e24; clear H; go_wp2; exact sR rfl
    ·have e24 := H.g 2 24; have e3 := H.i 3; have q24 := a0b e24; clear H; go_wp2; exact sR rfl
    ·have e24 := H.g 2 24; have e25 := H.r 3 25; have e26 := H.r 4 26; have q24 := a0b e24; clear H; go_wp2; exact sR rfl
    ·have e24 := H.g 2 24; have e27 := H.r 5 27; have q24 := a0b e24; clear H; go_wp2; exact sR rfl
    ·have e24 := H.g 2 24; have e28 := H.r 6 28; have q24 := a0b e24; clear H; have hs1 := zh (HS.out.call hbx); have y0 := HX.out _ hs1.out.below 0 _ rfl; rw [Nat.add_zero] at y0; go_wp2; exact sR rfl
    ·have e24 := H.g 2 24; have e0 := H.i 0; have q24 := a0b e24; clear H; go_wp2; exact sR rfl
    ·have e24 := H.g 2 24; have e3 := H.i 3; have q24 := a0b e24; clear H; go_wp2; exact sR rfl
    ·have e24 := H.g 2 24; have e31 := H.r 9 31; have q24 := a0b e24; clear H; go_wp2; exact sR rfl
    ·have e24 := H.g 2 24; have e30 := H.r 8 30; have e32 := H.r 10 32; have q24 := a0b e24; clear H; go_wp2; exact sR rfl
    ·have e24 := H.g 2 24; have e33 := H.r 11 33; have q24 := a0b e24; clear H; go_wp2; exact sR rfl
    ·have e24 := H.g 2 24; have e34 := H.r 12 34; have q24 := a0b e24; clear H; have hs1 := zh (HS.out.call hbx); have y0 := HY.out _ hs1.out.below 0 _ rfl; rw [Nat.add_zero] at y0; go_wp2; exact sR rfl
    ·have e24 := H.g 2 24; have e29 := H.r 7 29; have e35 := H.r 13 35; have q24 := a0b e24; clear H; go_wp2; exact sR rfl
    ·have e24 := H.r 2 24; have e36 := H.r 14 36; clear H; go_wp2; exact sR rfl
    intro xx w2 hb9 hv
    simp only [List.take, List.drop, a0r, Act.put]
    simp only [vQ hv 0, vQ hv 1, vQ hv 2, vQ hv 3, vQ hv 4, vQ hv 5, vQ hv 6, vQ hv 7, vQ hv 8, vQ hv 9, vQ hv 10, vQ hv 11, vQ hv 12, vQ hv 13, vQ hv 14, vQ hv 15]
    clear hv
    have HS2 := zh (HS.out.call hb9)
    clear hb9 HS
    go_wp2
    have HS3 : Hid (St w [] _) := zh HS2.out
    go_ret
    rw [R.out]
    exact ⟨rfl, HS3.out.below⟩
   have ho2 : decide (s.frm <= p.frm) = false := decide_eq_false ho
   by_cases hn : sg < 0
   ·have hn2 : decide (sg < 0) = true := decide_eq_true hn
    have R := zh (E3.out HDB.out (by rw [HF.out]; omega) (by rw [<- HSG.out]; exact hn))
    clear hn ho
    have x1 := HX.out _ HS.out.below 0 _ rfl
    rw [Nat.add_zero] at x1
    go_wp2_with fail
    refine (HD.out _).mono ?_
    rintro e w' ⟨rfl, rfl⟩
    clear x1
    go_wp2
    refine a0d 16 [fun _ vv => vv = .int .i64 (k + 1 : Nat), fun _ vv => vv = .bool true, fun _ vv => vv = .bool true, fun _ vv => vv = .slice (some ⟨b, o, none⟩) l.length c, fun _ vv => vv = .int .i64 (k + 1 : Nat), fun _ vv => vv = .pointer (some ⟨b, o + (k + 1) * 4, none⟩), fun _ vv => vv = .pointer (some ⟨b, o + (k + 1) * 4, none⟩), fun _ vv => vv = .int .i64 s.frm, fun _ vv => vv = .slice (some ⟨b, o, none⟩) l.length c, fun _ vv => vv = .int .i64 (k + 1 : Nat), fun _ vv => vv = .int .i64 (k : Nat), fun _ vv => vv = .pointer (some ⟨b, o + k * 4, none⟩), fun _ vv => vv = .pointer (some ⟨b, o + k * 4, none⟩), fun _ vv => vv = .int .i64 p.frm, fun _ vv => vv = .bool false, fun _ vv => vv = .bool false] rfl (by kernel_rfl) (by kernel_rfl) (by kernel_rfl) ⟨pP, pP, pP, pP, pP, pP, pP, pP, pP, pP, pP, pP, pP, pP, pP, pP, trivial⟩ ?_ ?_
    refine ⟨?_, ?_, ?_, ?_, ?_, ?_, ?_, ?_, ?_, ?_, ?_, ?_, ?_, ?_, ?_, ?_, trivial⟩ <;> (intro xx af wv hbx hev hev0 hd; have H := SH.mk hev hev0 hd; clear hev hev0 hd)
    ·have e3 := H.i 3; clear H; go_wp2; exact sR rfl
    ·have e22 := H.r 0 22; clear H; go_wp2; exact sR rfl
    ·have e23 := H.r 1 23; clear H; go_wp2; exact sR rfl
    ·have e24 := H.g 2 24; have e0 := H.i 0; have q24 := a0b e24; clear H; go_wp2; exact sR rfl
    ·have e24 := H.g 2 24; have e3 := H.i 3; have q24 := a0b e24; clear H; go_wp2; exact sR rfl
    ·have e24 := H.g 2 24; have e25 := H.r 3 25; have e26 := H.r 4 26; have q24 := a0b e24; clear H; go_wp2; exact sR rfl
    ·have e24 := H.g 2 24; have e27 := H.r 5 27; have q24 := a0b e24; clear H; go_wp2; exact sR rfl
    ·have e24 := H.g 2 24; have e28 := H.r 6 28; have q24 := a0b e24; clear H; have hs1 := zh (HS.out.call hbx); have y0 := HX.out _ hs1.out.below 0 _ rfl; rw [Nat.add_zero] at y0; go_wp2; exact sR rfl
    ·have e24 := H.g 2 24; have e0 := H.i 0; have q24 := a0b e24; clear H; go_wp2; exact sR rfl
    ·have e24 := H.g 2 24; have e3 := H.i 3; have q24 := a0b e24; clear H; go_wp2; exact sR rfl
    ·have e24 := H.g 2 24; have e31 := H.r 9 31; have q24 := a0b e24; clear H; go_wp2; exact sR rfl
    ·have e24 := H.g 2 24; have e30 := H.r 8 30; have e32 := H.r 10 32; have q24 := a0b e24; clear H; go_wp2; exact sR rfl
    ·have e24 := H.g 2 24; have e33 := H.r 11 33; have q24 := a0b e24; clear H; go_wp2; exact sR rfl
    ·have e24 := H.g 2 24; have e34 := H.r 12 34; have q24 := a0b e24; clear H; have hs1 := zh (HS.out.call hbx); have y0 := HY.out _ hs1.out.below 0 _ rfl; rw [Nat.add_zero] at y0; go_wp2; exact sR rfl
    ·have e24 := H.g 2 24; have e29 := H.r 7 29; have e35 := H.r 13 35; have q24 := a0b e24; clear H; go_wp2; exact sR rfl
    ·have e24 := H.r 2 24; have e36 := H.r 14 36; clear H; go_wp2; exact sR rfl
    intro xx w2 hb9 hv
    simp only [List.take, List.drop, a0r, Act.put]
    simp only [vQ hv 0, vQ hv 1, vQ hv 2, vQ hv 3, vQ hv 4, vQ hv 5, vQ hv 6, vQ hv 7, vQ hv 8, vQ hv 9, vQ hv 10, vQ hv 11, vQ hv 12, vQ hv 13, vQ hv 14, vQ hv 15]
    clear hv
    have HS2 := zh (HS.out.call hb9)
    clear hb9 HS
    have x2 := HX.out _ HS2.out.below 1 _ rfl
    have x3 := HX.out _ HS2.out.below 2 _ rfl
    have x4 := HX.out _ HS2.out.below 3 _ rfl
    go_wp2_with fail
    refine cL (HG.out _) HS2 fun w3 HS3 => ?_
    clear HS2 x2 x3 x4
    go_wp2
    have HS4 : Hid (St w [] _) := zh HS3.out
    go_ret
    rw [R.out]
    exact ⟨rfl, HS4.out.below⟩
   have hn2 : decide (sg < 0) = false := decide_eq_false hn
   have R := zh (E4.out HDB.out (by rw [HF.out]; omega) (by rw [<- HSG.out]; exact hn))
   clear hn ho
   have x1 := HX.out _ HS.out.below 0 _ rfl
   rw [Nat.add_zero] at x1
   go_wp2_with fail
   refine (HD.out _).mono ?_
   rintro e w' ⟨rfl, rfl⟩
   clear x1
   go_wp2
   refine a0d 16 [fun _ vv => vv = .int .i64 (k + 1 : Nat), fun _ vv => vv = .bool true, fun _ vv => vv = .bool true, fun _ vv => vv = .slice (some ⟨b, o, none⟩) l.length c, fun _ vv => vv = .int .i64 (k + 1 : Nat), fun _ vv => vv = .pointer (some ⟨b, o + (k + 1) * 4, none⟩), fun _ vv => vv = .pointer (some ⟨b, o + (k + 1) * 4, none⟩), fun _ vv => vv = .int .i64 s.frm, fun _ vv => vv = .slice (some ⟨b, o, none⟩) l.length c, fun _ vv => vv = .int .i64 (k + 1 : Nat), fun _ vv => vv = .int .i64 (k : Nat), fun _ vv => vv = .pointer (some ⟨b, o + k * 4, none⟩), fun _ vv => vv = .pointer (some ⟨b, o + k * 4, none⟩), fun _ vv => vv = .int .i64 p.frm, fun _ vv => vv = .bool false, fun _ vv => vv = .bool false] rfl (by kernel_rfl) (by kernel_rfl) (by kernel_rfl) ⟨pP, pP, pP, pP, pP, pP, pP, pP, pP, pP, pP, pP, pP, pP, pP, pP, trivial⟩ ?_ ?_
   refine ⟨?_, ?_, ?_, ?_, ?_, ?_, ?_, ?_, ?_, ?_, ?_, ?_, ?_, ?_, ?_, ?_, trivial⟩ <;> (intro xx af wv hbx hev hev0 hd; have H := SH.mk hev hev0 hd; clear hev hev0 hd)
   ·have e3 := H.i 3; clear H; go_wp2; exact sR rfl
   ·have e22 := H.r 0 22; clear H; go_wp2; exact sR rfl
   ·have e23 := H.r 1 23; clear H; go_wp2; exact sR rfl
   ·have e24 := H.g 2 24; have e0 := H.i 0; have q24 := a0b e24; clear H; go_wp2; exact sR rfl
   ·have e24 := H.g 2 24; have e3 := H.i 3; have q24 := a0b e24; clear H; go_wp2; exact sR rfl
   ·have e24 := H.g 2 24; have e25 := H.r 3 25; have e26 := H.r 4 26; have q24 := a0b e24; clear H; go_wp2; exact sR rfl
   ·have e24 := H.g 2 24; have e27 := H.r 5 27; have q24 := a0b e24; clear H; go_wp2; exact sR rfl
   ·have e24 := H.g 2 24; have e28 := H.r 6 28; have q24 := a0b e24; clear H; have hs1 := zh (HS.out.call hbx); have y0 := HX.out _ hs1.out.below 0 _ rfl; rw [Nat.add_zero] at y0; go_wp2; exact sR rfl
   ·have e24 := H.g 2 24; have e0 := H.i 0; have q24 := a0b e24; clear H; go_wp2; exact sR rfl
   ·have e24 := H.g 2 24; have e3 := H.i 3; have q24 := a0b e24; clear H; go_wp2; exact sR rfl
   ·have e24 := H.g 2 24; have e31 := H.r 9 31; have q24 := a0b e24; clear H; go_wp2; exact sR rfl
   ·have e24 := H.g 2 24; have e30 := H.r 8 30; have e32 := H.r 10 32; have q24 := a0b e24; clear H; go_wp2; exact sR rfl
   ·have e24 := H.g 2 24; have e33 := H.r 11 33; have q24 := a0b e24; clear H; go_wp2; exact sR rfl
   ·have e24 := H.g 2 24; have e34 := H.r 12 34; have q24 := a0b e24; clear H; have hs1 := zh (HS.out.call hbx); have y0 := HY.out _ hs1.out.below 0 _ rfl; rw [Nat.add_zero] at y0; go_wp2; exact sR rfl
   ·have e24 := H.g 2 24; have e29 := H.r 7 29; have e35 := H.r 13 35; have q24 := a0b e24; clear H; go_wp2; exact sR rfl
   ·have e24 := H.r 2 24; have e36 := H.r 14 36; clear H; go_wp2; exact sR rfl
   intro xx w2 hb9 hv
   simp only [List.take, List.drop, a0r, Act.put]
   simp only [vQ hv 0, vQ hv 1, vQ hv 2, vQ hv 3, vQ hv 4, vQ hv 5, vQ hv 6, vQ hv 7, vQ hv 8, vQ hv 9, vQ hv 10, vQ hv 11, vQ hv 12, vQ hv 13, vQ hv 14, vQ hv 15]
   clear hv
   have HS2 := zh (HS.out.call hb9)
   clear hb9 HS
   have x2 := HX.out _ HS2.out.below 1 _ rfl
   have x3 := HX.out _ HS2.out.below 2 _ rfl
   have x4 := HX.out _ HS2.out.below 3 _ rfl
   go_wp2_with fail
   refine cL (HG.out _) HS2 fun w3 HS3 => ?_
   clear HS2 x2 x3 x4
   go_wp2
   have HS4 : Hid (St w [] _) := zh HS3.out
   go_roundw
   case rel => exact ⟨k + 1 + 1, by omega, by go_num, R.out, HS4.out.sub (by simp)⟩
   case measure => simp [intOf]; omega
  obtain rfl : k = l.length := by omega
  have HR := zh (c2z hlen hck.out)
  go_wp2
  go_ret
  rw [HR.out]
  exact ⟨rfl, HS.out.below⟩
end Go.Proofs.YtoighiepglclkaaGreatDoor
