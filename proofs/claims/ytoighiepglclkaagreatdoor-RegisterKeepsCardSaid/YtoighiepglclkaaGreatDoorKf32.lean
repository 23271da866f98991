/-
Part 32 of the base.
-/
import Derived.Test.YtoighiepglclkaaGreatDoorKf30
set_option maxRecDepth 100000
set_option maxHeartbeats 4000000
namespace Go.Proofs.YtoighiepglclkaaGreatDoor
open Go.RowKit
def finE (x : Ent) (e : Evt) : Ent := if (a0f x e).2 = 0 then { (a0f x e).1 with chg := e.day } else x
theorem a9n {x y : Ent} {e : Evt} (h : a0f x e = (y, 0)) : finE x e = { y with chg := e.day } /\ (a0f x e).2 = 0 := by
 unfold finE
 rw [h]
 exact ⟨if_pos rfl, rfl⟩
theorem a8q {x : Ent} {e : Evt} {n : Int} (h : a0f x e = (x, n)) (hn : n ≠ 0) : finE x e = x /\ (a0f x e).2 = n := by
 unfold finE
 rw [h]
 exact ⟨if_neg hn, rfl⟩
theorem a0m {k n : Int} {b : Bool} (h : b = (k == n)) (hb : b = false) : ¬ k = n := by
 rw [hb] at h
 intro e
 rw [e] at h
 simp at h
theorem a7r {k n : Int} {b : Bool} (h : b = (k == n)) (hb : b = true) : k = n := by
 rw [hb] at h
 exact eq_of_beq h.symm
theorem b2b {t : Raw3} (h : t.a.length <= 1000000 /\ t.b.length <= 1000000) : (enc3 t.val).a.length <= 1000000 /\ (enc3 t.val).b.length <= 1000000 := by
 have hs : Sized 1000000 t.val := a1f h.1 h.2 (by decide)
 exact ⟨hs.num, hs.denom⟩
theorem b5n (x : Ent) (e : Evt) (g o : Nat) (pre post : List Value) (w0 w : World) (R0 : List Own) (hs : St w0 (⟨g, offA pre x.enc post, 57⟩ :: R0) w) (ho : pre.length = o)
  (h1 : (e.am.a.length <= 1000000 /\ e.am.b.length <= 1000000)) (h2 : (x.ce.a.length <= 1000000 /\ x.ce.b.length <= 1000000)) (h3 : (x.fl.a.length <= 1000000 /\ x.fl.b.length <= 1000000)) (h4 : (x.ad.a.length <= 1000000 /\ x.ad.b.length <= 1000000)) (hk : 2 <= e.kind /\ e.kind <= 9) :
  Calls Tryz.prog 19 #[.pointer (some ⟨g, o, none⟩), .agg (evC e.kind e.day e.id e.am e.cre e.p)] w fun r w' => r = .returned (.int .i64 (a0f x e).2) /\ St w0 (⟨g, offA pre (finE x e).enc post, 57⟩ :: R0) w' := by
 unfold evC
 have HS := zh hs
 have hal := fun W => b5p e.kind x.st W
 have hca := fun W => a7p e.am W h1
 have hcc := fun W => a7p x.ce W h2
 have hcd := fun W => a7p x.ad W h4
 have hb3 := fun W => a8t (enc3 e.am.val) zero3 x.ce W (b2b h1) (by decide) h2
 have hb4 := fun W => a8t (enc3 e.am.val) x.fl x.ce W (b2b h1) h3 h2
 rw [b4x] at hb3 hb4
 rw [show zero3.val = 0 from b2c] at hb3
 unfold rat at hca hcc hcd
 unfold raw at hca hcc hcd hb3 hb4
 dsimp only [enc3, zero3] at hb3 hb4
 obtain ⟨aB, haB⟩ : ∃ y, y = a1b e.kind x.st := ⟨_, rfl⟩
 obtain ⟨i3, hi3⟩ : ∃ y, y = inB e.am.val 0 x.ce.val := ⟨_, rfl⟩
 obtain ⟨i4, hi4⟩ : ∃ y, y = inB e.am.val x.fl.val x.ce.val := ⟨_, rfl⟩
 rw [<- haB] at hal
 rw [<- hi3] at hb3
 rw [<- hi4] at hb4
 obtain ⟨k2, hk2⟩ : ∃ y, y = (e.kind == 2) := ⟨_, rfl⟩
 have f2 := hk2.symm
 obtain ⟨k3, hk3⟩ : ∃ y, y = (e.kind == 3) := ⟨_, rfl⟩
 have f3 := hk3.symm
 obtain ⟨k4, hk4⟩ : ∃ y, y = (e.kind == 4) := ⟨_, rfl⟩
 have f4 := hk4.symm
 obtain ⟨k5, hk5⟩ : ∃ y, y = (e.kind == 5) := ⟨_, rfl⟩
 have f5 := hk5.symm
 obtain ⟨k6, hk6⟩ : ∃ y, y = (e.kind == 6) := ⟨_, rfl⟩
 have f6 := hk6.symm
 obtain ⟨k9, hk9⟩ : ∃ y, y = (e.kind == 9) := ⟨_, rfl⟩
 have f9 := hk9.symm
 obtain ⟨k7, hk7⟩ : ∃ y, y = (e.kind == 7) := ⟨_, rfl⟩
 have f7 := hk7.symm
 obtain ⟨k8, hk8⟩ : ∃ y, y = (e.kind == 8) := ⟨_, rfl⟩
 have f8 := hk8.symm
 obtain ⟨c1, hc1⟩ : ∃ y, y = decide (e.cre < 0) := ⟨_, rfl⟩
 obtain ⟨c2, hc2⟩ : ∃ y, y = decide (32 <= e.cre) := ⟨_, rfl⟩
 obtain ⟨c3, hc3⟩ : ∃ y, y = (e.cre == x.p.cre) := ⟨_, rfl⟩
 have g1 := hc1.symm
 have g2 := hc2.symm
 have g3 := hc3.symm
 have HALx := zh hal
 have HCAx := zh hca
 have HCCx := zh hcc
 have HCDx := zh hcd
 have HB3x := zh hb3
 have HB4x := zh hb4
 have HABx := zh haB
 have HI3x := zh hi3
 have HI4x := zh hi4
 have HK2x := zh hk2
 have HK3x := zh hk3
 have HK4x := zh hk4
 have HK5x := zh hk5
 have HK6x := zh hk6
 have HK9x := zh hk9
 have HK7x := zh hk7
 have HK8x := zh hk8
 have HC1x := zh hc1
 have HC2x := zh hc2
 have HC3x := zh hc3
 have HOx := zh ho
 have HKx := zh hk
 clear hs h1 h2 h3 h4 hal hca hcc hcd hb3 hb4 haB hi3 hi4 hk2 hk3 hk4 hk5 hk6 hk9 hk7 hk8 hc1 hc2 hc3 ho hk
 go_enter Tryz.func19, Tryz.ntmps19
 go_wp2
 have HS2 := aL HS (evC e.kind e.day e.id e.am e.cre e.p) 44 w.heap.size
 clear HS
 refine a1z 7 [.pointer (some ⟨w.heap.size, 0, none⟩), .int .i64 e.kind, .pointer (some ⟨g, o, none⟩), .pointer (some ⟨g, o, none⟩), .pointer (some ⟨g, o + 14, none⟩), .int .i64 x.st, .bool aB] rfl (by kernel_rfl) (by kernel_rfl) (by kernel_rfl) ?_ ?_
 refine ⟨?_, ?_, ?_, ?_, ?_, ?_, ?_, trivial⟩ <;> (intro xx af wv hbx hev hev0 hd; have H := SH.mk hev hev0 hd; clear hev hev0 hd)
 ·have e3 := H.i 3; clear H; go_wp2; exact sQ rfl
 ·have e8 := H.r 0 8; clear H; have hs1 := zh (HS2.out.call hbx); have y0 := cC (v := .int .i64 e.kind) hs1 0 0; go_wp2; exact sQ rfl
 ·have e0 := H.i 0; clear H; go_wp2; exact sQ rfl
 ·have e10 := H.r 2 10; clear H; go_wp2; exact sQ rfl
 ·have e11 := H.r 3 11; clear H; go_wp2; exact sQ rfl
 ·have e12 := H.r 4 12; clear H; have hs1 := zh (HS2.out.call hbx); have yo0 := hs1.out.cell (v := .int .i64 x.st) 1 rfl (o + 14) (a0g HOx.out rfl); go_wp2; exact sQ rfl
 ·have e9 := H.r 1 9; have e13 := H.r 5 13; clear H
  go_wp2_with fail
  refine (HALx.out _).mono ?_
  rintro e w8 ⟨rfl, rfl⟩; go_wp2; exact sQ rfl
 intro xx w4 hb9 hv
 simp only [List.take, List.drop, a0r, Act.put]
 simp only [vQ hv 0, vQ hv 1, vQ hv 2, vQ hv 3, vQ hv 4, vQ hv 5, vQ hv 6]
 clear hv
 have HS4 := zh (HS2.out.call hb9)
 clear hb9 HS2
 go_upto_if 15 with fail
 cases aB
 ·have R := zh (a8q (show a0f x e = (x, 13) by unfold a0f; rw [if_pos HABx.out.symm]) (by decide))
  go_wp2
  go_ret
  have HS5 := zh HS4.out
  rw [R.out.1, R.out.2]
  exact ⟨rfl, HS5.out.sub (List.Sublist.cons _ (List.Sublist.refl _))⟩
 have x1 := cC (v := .bool e.am.n) HS4 0 3
 have x2 := cC (v := .string (bs e.am.a)) HS4 0 4
 have x3 := cC (v := .string (bs e.am.b)) HS4 0 5
 go_wp2_with fail
 refine cL (HCAx.out _) HS4 fun w5 HS5 => ?_
 clear HS4 x1 x2 x3
 have x4 := cC (v := .int .i64 e.kind) HS5 0 0
 have x5 := HS5.out.lt 0 rfl
 have x6 : ¬ w.heap.size = w5.heap.size := by omega
 have x7 : ¬ w5.heap.size = w.heap.size := by omega
 go_upto_if 21 with fail
 clear x4 x5 x6 x7
 cases k2
 ·go_upto_if 39 with fail
  cases k3
  ·go_upto_if 60 with fail
   cases k4
   ·go_upto_if 80 with fail
    cases k5
    ·go_upto_if 85 with fail
     cases k6
     ·go_upto_if 113 with fail
      cases k9
      ·go_upto_if 131 with fail
       cases k7
       ·have n2 := a0m HK2x.out rfl
        have n3 := a0m HK3x.out rfl
        have n4 := a0m HK4x.out rfl
        have n5 := a0m HK5x.out rfl
        have n6 := a0m HK6x.out rfl
        have n9 := a0m HK9x.out rfl
        have n7 := a0m HK7x.out rfl
        have hk8 : k8 = true := by have := HKx.out; rw [HK8x.out, beq_iff_eq]; omega
        clear n2 n3 n4 n5 n6 n9 n7
        subst hk8
        cases c1
        ·cases c2
         ·cases c3
          ·have R := zh (a9n (show a0f x e = ({ x with p := { x.p with cre := e.cre }, acq := e.day }, 0) by unfold a0f; rw [if_neg (by rw [<- HABx.out]; decide), if_neg (a0m HK2x.out rfl), if_neg (a0m HK3x.out rfl), if_neg (a0m HK4x.out rfl), if_neg (a0m HK5x.out rfl), if_neg (a0m HK6x.out rfl), if_neg (a0m HK9x.out rfl), if_neg (a0m HK7x.out rfl), if_neg (fun h => h.elim (of_decide_eq_false HC1x.out.symm) (fun h => h.elim (of_decide_eq_false HC2x.out.symm) (fun h => by have z := HC3x.out; rw [h] at z; simp at z)))]))
           go_wp2
           have HS6 := aL HS5 #[.bool (negB (e.am.val)), .string (bs (numB (e.am.val))), .string (bs (a0a (e.am.val)))] 40 w5.heap.size
           clear HS5
           refine a1z 17 [.pointer (some ⟨w.heap.size, 6, none⟩), .int .i64 e.cre, .bool false, .bool false, .pointer (some ⟨w.heap.size, 6, none⟩), .int .i64 e.cre, .bool false, .bool false, .bool false, .pointer (some ⟨w.heap.size, 6, none⟩), .int .i64 e.cre, .pointer (some ⟨g, o, none⟩), .pointer (some ⟨g, o, none⟩), .pointer (some ⟨g, o, none⟩), .pointer (some ⟨g, o + 2, none⟩), .int .i64 x.p.cre, .bool false] rfl (by kernel_rfl) (by kernel_rfl) (by kernel_rfl) ?_ ?_
           refine ⟨?_, ?_, ?_, ?_, ?_, ?_, ?_, ?_, ?_, ?_, ?_, ?_, ?_, ?_, ?_, ?_, ?_, trivial⟩ <;> (intro xx af wv hbx hev hev0 hd; have H := SH.mk hev hev0 hd; clear hev hev0 hd)
           ·have e3 := H.i 3; clear H; go_wp2; exact sQ rfl
           ·have e150 := H.r 0 150; clear H; have hs1 := zh (HS6.out.call hbx); have y0 := cC (v := .int .i64 e.cre) hs1 1 6; go_wp2; exact sQ rfl
           ·have e151 := H.r 1 151; clear H; go_wp2; exact sQ rfl
           ·have e152 := H.r 2 152; clear H; go_wp2; exact sQ rfl
           ·have e153 := H.g 3 153; have e3 := H.i 3; have q153 := a0b e153; clear H; go_wp2; exact sQ rfl
           ·have e153 := H.g 3 153; have e154 := H.r 4 154; have q153 := a0b e153; clear H; have hs1 := zh (HS6.out.call hbx); have y0 := cC (v := .int .i64 e.cre) hs1 1 6; go_wp2; exact sQ rfl
           ·have e153 := H.g 3 153; have e155 := H.r 5 155; have q153 := a0b e153; clear H; go_wp2; exact sQ rfl
           ·have e153 := H.r 3 153; have e156 := H.r 6 156; clear H; go_wp2; exact sQ rfl
           ·have e157 := H.r 7 157; clear H; go_wp2; exact sQ rfl
           ·have e158 := H.g 8 158; have e3 := H.i 3; have q158 := a0b e158; clear H; go_wp2; exact sQ rfl
           ·have e158 := H.g 8 158; have e159 := H.r 9 159; have q158 := a0b e158; clear H; have hs1 := zh (HS6.out.call hbx); have y0 := cC (v := .int .i64 e.cre) hs1 1 6; go_wp2; exact sQ rfl
           ·have e158 := H.g 8 158; have e0 := H.i 0; have q158 := a0b e158; clear H; go_wp2; exact sQ rfl
           ·have e158 := H.g 8 158; have e161 := H.r 11 161; have q158 := a0b e158; clear H; go_wp2; exact sQ rfl
           ·have e158 := H.g 8 158; have e162 := H.r 12 162; have q158 := a0b e158; clear H; go_wp2; exact sQ rfl
           ·have e158 := H.g 8 158; have e163 := H.r 13 163; have q158 := a0b e158; clear H; go_wp2; exact sQ rfl
           ·have e158 := H.g 8 158; have e164 := H.r 14 164; have q158 := a0b e158; clear H; have hs1 := zh (HS6.out.call hbx); have yo0 := hs1.out.cell (v := .int .i64 x.p.cre) 2 rfl (o + 2) (a0g HOx.out rfl); go_wp2; exact sQ rfl
           ·have e158 := H.g 8 158; have e160 := H.r 10 160; have e165 := H.r 15 165; have q158 := a0b e158; clear H; go_wp2; exact sQ rfl
           intro xx w8 hb9 hv
           simp only [List.take, List.drop, a0r, Act.put]
           simp only [vQ hv 0, vQ hv 1, vQ hv 2, vQ hv 3, vQ hv 4, vQ hv 5, vQ hv 6, vQ hv 7, vQ hv 8, vQ hv 9, vQ hv 10, vQ hv 11, vQ hv 12, vQ hv 13, vQ hv 14, vQ hv 15, vQ hv 16]
           clear hv
           have HS8 := zh (HS6.out.call hb9)
           clear hb9 HS6
           go_wp2
           refine a1v 12 [9] [.pointer (some ⟨g, o, none⟩), .pointer (some ⟨g, o, none⟩), .pointer (some ⟨w.heap.size, 6, none⟩), .int .i64 e.cre, .pointer (some ⟨w.heap.size, 1, none⟩), .int .i64 e.day, .pointer (some ⟨g, o, none⟩), .pointer (some ⟨g, o, none⟩), .pointer (some ⟨g, o + 2, none⟩), undef, .pointer (some ⟨g, o, none⟩), .pointer (some ⟨g, o + 28, none⟩)] (fun k wv _ => Hid (St w0 (⟨w5.heap.size, #[.bool (negB (e.am.val)), .string (bs (numB (e.am.val))), .string (bs (a0a (e.am.val)))], 40⟩ :: ⟨w.heap.size, e.enc.toArray, 44⟩ :: ⟨g, (offA pre (([x.enc, (x.enc.set 2 (.int .i64 e.cre))] : List (List Value)).getD k []) post), 57⟩ :: R0) wv)) rfl (by kernel_rfl) (by kernel_rfl) (by kernel_rfl) (by kernel_rfl) (by decide) (by decide) (zh HS8.out.drew) ?_ ?_
           refine ⟨?_, ?_, ?_, ?_, ?_, ?_, ?_, ?_, ?_, ?_, ?_, ?_, trivial⟩ <;> (intro xx af wv k hk hI hev hev0 hd; have H := SH.mk hev hev0 hd; clear hev hev0 hd)
           ·have e0 := H.i 0; clear H hI; rw [if_neg (by decide)]; go_wp2; exact StepW.mk _
           ·have e0 := H.i 0; clear H hI; rw [if_neg (by decide)]; go_wp2; exact StepW.mk _
           ·have e3 := H.i 3; clear H hI; rw [if_neg (by decide)]; go_wp2; exact StepW.mk _
           ·have e170 := H.n 2 170; clear H; have y0 := cC (v := .int .i64 e.cre) hI 1 6; clear hI; rw [if_neg (by decide)]; go_wp2; exact StepW.mk _
           ·have e3 := H.i 3; clear H hI; rw [if_neg (by decide)]; go_wp2; exact StepW.mk _
           ·have e172 := H.n 4 172; clear H; have y0 := cC (v := .int .i64 e.day) hI 1 1; clear hI; rw [if_neg (by decide)]; go_wp2; exact StepW.mk _
           ·have e168 := H.n 0 168; clear H hI; rw [if_neg (by decide)]; go_wp2; exact StepW.mk _
           ·have e174 := H.n 6 174; clear H hI; rw [if_neg (by decide)]; go_wp2; exact StepW.mk _
           ·have e175 := H.n 7 175; clear H hI; rw [if_neg (by decide)]; go_wp2; exact StepW.mk _
           ·have e176 := H.n 8 176; have e171 := H.n 3 171; clear H; rw [if_pos (by decide)]; intro hk0; obtain rfl : k = 0 := hk0; have yo0 := hI.out.cell (v := .int .i64 x.p.cre) 2 rfl (o + 2) (a0g HOx.out rfl); have yf0 := hI.out.frozen 2 rfl (o + 2); go_wp2; exact StepI.mk (zh (St.setO (hI.out) 2 rfl HOx.out 2 (show 2 < 30 by decide) (.int .i64 e.cre)))
           ·have e169 := H.n 1 169; clear H hI; rw [if_neg (by decide)]; go_wp2; exact StepW.mk _
           ·have e177 := H.n 10 177; clear H hI; rw [if_neg (by decide)]; go_wp2; exact StepW.mk _
           intro xx w9 hI hv
           simp only [List.take, List.drop, a0r, Act.put]
           simp only [show xx 0 = _ from hv 0 (by decide) (by decide), show xx 1 = _ from hv 1 (by decide) (by decide), show xx 2 = _ from hv 2 (by decide) (by decide), show xx 3 = _ from hv 3 (by decide) (by decide), show xx 4 = _ from hv 4 (by decide) (by decide), show xx 5 = _ from hv 5 (by decide) (by decide), show xx 6 = _ from hv 6 (by decide) (by decide), show xx 7 = _ from hv 7 (by decide) (by decide), show xx 8 = _ from hv 8 (by decide) (by decide), show xx 10 = _ from hv 10 (by decide) (by decide), show xx 11 = _ from hv 11 (by decide) (by decide)]
           have HS9 : Hid (St w0 (⟨w5.heap.size, #[.bool (negB (e.am.val)), .string (bs (numB (e.am.val))), .string (bs (a0a (e.am.val)))], 40⟩ :: ⟨w.heap.size, e.enc.toArray, 44⟩ :: ⟨g, (offA pre (x.enc.set 2 (.int .i64 e.cre)) post), 57⟩ :: R0) w9) := hI
           clear hv hI HS8
           have x8 := cC (v := .int .i64 e.day) HS9 1 1
           have x9 := HS9.out.cell (v := .int .i64 x.acq) 2 rfl (o + 28) (a0g HOx.out rfl)
           have x10 := HS9.out.cell (v := .int .i64 x.chg) 2 rfl (o + 29) (a0g HOx.out rfl)
           have x11 := HS9.out.frozen 2 rfl (o + 28)
           have x12 := HS9.out.frozen 2 rfl (o + 29)
           have x13 := cN HS9 2 0
           have x14 := cN HS9 0 2
           have x15 := cN HS9 2 1
           have x16 := cN HS9 1 2
           go_wp2
           go_ret
           have HS10 : Hid (St w0 (⟨w5.heap.size, #[.bool (negB (e.am.val)), .string (bs (numB (e.am.val))), .string (bs (a0a (e.am.val)))], 40⟩ :: ⟨w.heap.size, e.enc.toArray, 44⟩ :: ⟨g, (offA pre (((x.enc.set 2 (.int .i64 e.cre)).set 28 (.int .i64 e.day)).set 29 (.int .i64 e.day)) post), 57⟩ :: R0) _) := zh (St.setO ((St.setO (HS9.out) 2 rfl HOx.out 28 (show 28 < 30 by decide) (.int .i64 e.day))) 2 rfl HOx.out 29 (show 29 < 30 by decide) (.int .i64 e.day))
           rw [R.out.1, R.out.2]
           exact ⟨rfl, HS10.out.sub (List.Sublist.cons _ (List.Sublist.cons _ (List.Sublist.refl _)))⟩
          have R := zh (a8q (show a0f x e = (x, 14) by unfold a0f; rw [if_neg (by rw [<- HABx.out]; decide), if_neg (a0m HK2x.out rfl), if_neg (a0m HK3x.out rfl), if_neg (a0m HK4x.out rfl), if_neg (a0m HK5x.out rfl), if_neg (a0m HK6x.out rfl), if_neg (a0m HK9x.out rfl), if_neg (a0m HK7x.out rfl), if_pos (.inr (.inr (eq_of_beq HC3x.out.symm)))]) (by decide))
          go_wp2
          have HS6 := aL HS5 #[.bool (negB (e.am.val)), .string (bs (numB (e.am.val))), .string (bs (a0a (e.am.val)))] 40 w5.heap.size
          clear HS5
          refine a1z 17 [.pointer (some ⟨w.heap.size, 6, none⟩), .int .i64 e.cre, .bool false, .bool false, .pointer (some ⟨w.heap.size, 6, none⟩), .int .i64 e.cre, .bool false, .bool false, .bool false, .pointer (some ⟨w.heap.size, 6, none⟩), .int .i64 e.cre, .pointer (some ⟨g, o, none⟩), .pointer (some ⟨g, o, none⟩), .pointer (some ⟨g, o, none⟩), .pointer (some ⟨g, o + 2, none⟩), .int .i64 x.p.cre, .bool true] rfl (by kernel_rfl) (by kernel_rfl) (by kernel_rfl) ?_ ?_
          refine ⟨?_, ?_, ?_, ?_, ?_, ?_, ?_, ?_, ?_, ?_, ?_, ?_, ?_, ?_, ?_, ?_, ?_, trivial⟩ <;> (intro xx af wv hbx hev hev0 hd; have H := SH.mk hev hev0 hd; clear hev hev0 hd)
          ·have e3 := H.i 3; clear H; go_wp2; exact sQ rfl
          ·have e150 := H.r 0 150; clear H; have hs1 := zh (HS6.out.call hbx); have y0 := cC (v := .int .i64 e.cre) hs1 1 6; go_wp2; exact sQ rfl
          ·have e151 := H.r 1 151; clear H; go_wp2; exact sQ rfl
          ·have e152 := H.r 2 152; clear H; go_wp2; exact sQ rfl
          ·have e153 := H.g 3 153; have e3 := H.i 3; have q153 := a0b e153; clear H; go_wp2; exact sQ rfl
          ·have e153 := H.g 3 153; have e154 := H.r 4 154; have q153 := a0b e153; clear H; have hs1 := zh (HS6.out.call hbx); have y0 := cC (v := .int .i64 e.cre) hs1 1 6; go_wp2; exact sQ rfl
          ·have e153 := H.g 3 153; have e155 := H.r 5 155; have q153 := a0b e153; clear H; go_wp2; exact sQ rfl
          ·have e153 := H.r 3 153; have e156 := H.r 6 156; clear H; go_wp2; exact sQ rfl
          ·have e157 := H.r 7 157; clear H; go_wp2; exact sQ rfl
          ·have e158 := H.g 8 158; have e3 := H.i 3; have q158 := a0b e158; clear H; go_wp2; exact sQ rfl
          ·have e158 := H.g 8 158; have e159 := H.r 9 159; have q158 := a0b e158; clear H; have hs1 := zh (HS6.out.call hbx); have y0 := cC (v := .int .i64 e.cre) hs1 1 6; go_wp2; exact sQ rfl
          ·have e158 := H.g 8 158; have e0 := H.i 0; have q158 := a0b e158; clear H; go_wp2; exact sQ rfl
          ·have e158 := H.g 8 158; have e161 := H.r 11 161; have q158 := a0b e158; clear H; go_wp2; exact sQ rfl
          ·have e158 := H.g 8 158; have e162 := H.r 12 162; have q158 := a0b e158; clear H; go_wp2; exact sQ rfl
          ·have e158 := H.g 8 158; have e163 := H.r 13 163; have q158 := a0b e158; clear H; go_wp2; exact sQ rfl
          ·have e158 := H.g 8 158; have e164 := H.r 14 164; have q158 := a0b e158; clear H; have hs1 := zh (HS6.out.call hbx); have yo0 := hs1.out.cell (v := .int .i64 x.p.cre) 2 rfl (o + 2) (a0g HOx.out rfl); go_wp2; exact sQ rfl
          ·have e158 := H.g 8 158; have e160 := H.r 10 160; have e165 := H.r 15 165; have q158 := a0b e158; clear H; go_wp2; exact sQ rfl
          intro xx w8 hb9 hv
          simp only [List.take, List.drop, a0r, Act.put]
          simp only [vQ hv 0, vQ hv 1, vQ hv 2, vQ hv 3, vQ hv 4, vQ hv 5, vQ hv 6, vQ hv 7, vQ hv 8, vQ hv 9, vQ hv 10, vQ hv 11, vQ hv 12, vQ hv 13, vQ hv 14, vQ hv 15, vQ hv 16]
          clear hv
          have HS8 := zh (HS6.out.call hb9)
          clear hb9 HS6
          go_wp2
          go_ret
          have HS9 := zh HS8.out
          rw [R.out.1, R.out.2]
          exact ⟨rfl, HS9.out.sub (List.Sublist.cons _ (List.Sublist.cons _ (List.Sublist.refl _)))⟩
         have R := zh (a8q (show a0f x e = (x, 14) by unfold a0f; rw [if_neg (by rw [<- HABx.out]; decide), if_neg (a0m HK2x.out rfl), if_neg (a0m HK3x.out rfl), if_neg (a0m HK4x.out rfl), if_neg (a0m HK5x.out rfl), if_neg (a0m HK6x.out rfl), if_neg (a0m HK9x.out rfl), if_neg (a0m HK7x.out rfl), if_pos (.inr (.inl (of_decide_eq_true HC2x.out.symm)))]) (by decide))
         go_wp2
         have HS6 := aL HS5 #[.bool (negB (e.am.val)), .string (bs (numB (e.am.val))), .string (bs (a0a (e.am.val)))] 40 w5.heap.size
         clear HS5
         refine a1z 17 [.pointer (some ⟨w.heap.size, 6, none⟩), .int .i64 e.cre, .bool false, .bool false, .pointer (some ⟨w.heap.size, 6, none⟩), .int .i64 e.cre, .bool true, .bool true, .bool true, undef, undef, undef, undef, undef, undef, undef, undef] rfl (by kernel_rfl) (by kernel_rfl) (by kernel_rfl) ?_ ?_
         refine ⟨?_, ?_, ?_, ?_, ?_, ?_, ?_, ?_, ?_, ?_, ?_, ?_, ?_, ?_, ?_, ?_, ?_, trivial⟩ <;> (intro xx af wv hbx hev hev0 hd; have H := SH.mk hev hev0 hd; clear hev hev0 hd)
         ·have e3 := H.i 3; clear H; go_wp2; exact sQ rfl
         ·have e150 := H.r 0 150; clear H; have hs1 := zh (HS6.out.call hbx); have y0 := cC (v := .int .i64 e.cre) hs1 1 6; go_wp2; exact sQ rfl
         ·have e151 := H.r 1 151; clear H; go_wp2; exact sQ rfl
         ·have e152 := H.r 2 152; clear H; go_wp2; exact sQ rfl
         ·have e153 := H.g 3 153; have e3 := H.i 3; have q153 := a0b e153; clear H; go_wp2; exact sQ rfl
         ·have e153 := H.g 3 153; have e154 := H.r 4 154; have q153 := a0b e153; clear H; have hs1 := zh (HS6.out.call hbx); have y0 := cC (v := .int .i64 e.cre) hs1 1 6; go_wp2; exact sQ rfl
         ·have e153 := H.g 3 153; have e155 := H.r 5 155; have q153 := a0b e153; clear H; go_wp2; exact sQ rfl
         ·have e153 := H.r 3 153; have e156 := H.r 6 156; clear H; go_wp2; exact sQ rfl
         ·have e157 := H.r 7 157; clear H; go_wp2; exact sQ rfl
         ·have e158 := H.g 8 158; have q158 := a0b e158; clear H; go_wp2; exact sQ rfl
         ·have e158 := H.g 8 158; have q158 := a0b e158; clear H; go_wp2; exact sQ rfl
         ·have e158 := H.g 8 158; have q158 := a0b e158; clear H; go_wp2; exact sQ rfl
         ·have e158 := H.g 8 158; have q158 := a0b e158; clear H; go_wp2; exact sQ rfl
         ·have e158 := H.g 8 158; have q158 := a0b e158; clear H; go_wp2; exact sQ rfl
         ·have e158 := H.g 8 158; have q158 := a0b e158; clear H; go_wp2; exact sQ rfl
         ·have e158 := H.g 8 158; have q158 := a0b e158; clear H; go_wp2; exact sQ rfl
         ·have e158 := H.g 8 158; have q158 := a0b e158; clear H; go_wp2; exact sQ rfl
         intro xx w8 hb9 hv
         simp only [List.take, List.drop, a0r, Act.put]
         simp only [vQ hv 0, vQ hv 1, vQ hv 2, vQ hv 3, vQ hv 4, vQ hv 5, vQ hv 6, vQ hv 7, vQ hv 8, vQ hv 9, vQ hv 10, vQ hv 11, vQ hv 12, vQ hv 13, vQ hv 14, vQ hv 15, vQ hv 16]
         clear hv
         have HS8 := zh (HS6.out.call hb9)
         clear hb9 HS6
         go_wp2
         go_ret
         have HS9 := zh HS8.out
         rw [R.out.1, R.out.2]
         exact ⟨rfl, HS9.out.sub (List.Sublist.cons _ (List.Sublist.cons _ (List.Sublist.refl _)))⟩
        have R := zh (a8q (show a0f x e = (x, 14) by unfold a0f; rw [if_neg (by rw [<- HABx.out]; decide), if_neg (a0m HK2x.out rfl), if_neg (a0m HK3x.out rfl), if_neg (a0m HK4x.out rfl), if_neg (a0m HK5x.out rfl), if_neg (a0m HK6x.out rfl), if_neg (a0m HK9x.out rfl), if_neg (a0m HK7x.out rfl), if_pos (.inl (of_decide_eq_true HC1x.out.symm))]) (by decide))
        go_wp2
        have HS6 := aL HS5 #[.bool (negB (e.am.val)), .string (bs (numB (e.am.val))), .string (bs (a0a (e.am.val)))] 40 w5.heap.size
        clear HS5
        refine a1z 17 [.pointer (some ⟨w.heap.size, 6, none⟩), .int .i64 e.cre, .bool true, .bool true, undef, undef, undef, .bool true, .bool true, undef, undef, undef, undef, undef, undef, undef, undef] rfl (by kernel_rfl) (by kernel_rfl) (by kernel_rfl) ?_ ?_
        refine ⟨?_, ?_, ?_, ?_, ?_, ?_, ?_, ?_, ?_, ?_, ?_, ?_, ?_, ?_, ?_, ?_, ?_, trivial⟩ <;> (intro xx af wv hbx hev hev0 hd; have H := SH.mk hev hev0 hd; clear hev hev0 hd)
        ·have e3 := H.i 3; clear H; go_wp2; exact sQ rfl
        ·have e150 := H.r 0 150; clear H; have hs1 := zh (HS6.out.call hbx); have y0 := cC (v := .int .i64 e.cre) hs1 1 6; go_wp2; exact sQ rfl
        ·have e151 := H.r 1 151; clear H; go_wp2; exact sQ rfl
        ·have e152 := H.r 2 152; clear H; go_wp2; exact sQ rfl
        ·have e153 := H.g 3 153; have q153 := a0b e153; clear H; go_wp2; exact sQ rfl
        ·have e153 := H.g 3 153; have q153 := a0b e153; clear H; go_wp2; exact sQ rfl
        ·have e153 := H.g 3 153; have q153 := a0b e153; clear H; go_wp2; exact sQ rfl
        ·have e153 := H.r 3 153; have e156 := H.r 6 156; clear H; go_wp2; exact sQ rfl
        ·have e157 := H.r 7 157; clear H; go_wp2; exact sQ rfl
        ·have e158 := H.g 8 158; have q158 := a0b e158; clear H; go_wp2; exact sQ rfl
        ·have e158 := H.g 8 158; have q158 := a0b e158; clear H; go_wp2; exact sQ rfl
        ·have e158 := H.g 8 158; have q158 := a0b e158; clear H; go_wp2; exact sQ rfl
        ·have e158 := H.g 8 158; have q158 := a0b e158; clear H; go_wp2; exact sQ rfl
        ·have e158 := H.g 8 158; have q158 := a0b e158; clear H; go_wp2; exact sQ rfl
        ·have e158 := H.g 8 158; have q158 := a0b e158; clear H; go_wp2; exact sQ rfl
        ·have e158 := H.g 8 158; have q158 := a0b e158; clear H; go_wp2; exact sQ rfl
        ·have e158 := H.g 8 158; have q158 := a0b e158; clear H; go_wp2; exact sQ rfl
        intro xx w8 hb9 hv
        simp only [List.take, List.drop, a0r, Act.put]
        simp only [vQ hv 0, vQ hv 1, vQ hv 2, vQ hv 3, vQ hv 4, vQ hv 5, vQ hv 6, vQ hv 7, vQ hv 8, vQ hv 9, vQ hv 10, vQ hv 11, vQ hv 12, vQ hv 13, vQ hv 14, vQ hv 15, vQ hv 16]
        clear hv
        have HS8 := zh (HS6.out.call hb9)
        clear hb9 HS6
        go_wp2
        go_ret
        have HS9 := zh HS8.out
        rw [R.out.1, R.out.2]
        exact ⟨rfl, HS9.out.sub (List.Sublist.cons _ (List.Sublist.cons _ (List.Sublist.refl _)))⟩
       have R := zh (a9n (show a0f x e = ({ x with st := 7, fl := zero3, ad := zero3, ce := zero3 }, 0) by unfold a0f; rw [if_neg (by rw [<- HABx.out]; decide), if_neg (a0m HK2x.out rfl), if_neg (a0m HK3x.out rfl), if_neg (a0m HK4x.out rfl), if_neg (a0m HK5x.out rfl), if_neg (a0m HK6x.out rfl), if_neg (a0m HK9x.out rfl), if_pos (a7r HK7x.out rfl)]))
       have x8 := cC (v := .int .i64 e.day) HS5 0 1
       have x9 := HS5.out.cell (v := .int .i64 x.st) 1 rfl (o + 14) (a0g HOx.out rfl)
       have x10 := HS5.out.cell (v := .bool x.fl.n) 1 rfl (o + 19) (a0g HOx.out rfl)
       have x11 := HS5.out.cell (v := .string (bs x.fl.a)) 1 rfl (o + 20) (a0g HOx.out rfl)
       have x12 := HS5.out.cell (v := .string (bs x.fl.b)) 1 rfl (o + 21) (a0g HOx.out rfl)
       have x13 := HS5.out.cell (v := .bool x.ad.n) 1 rfl (o + 22) (a0g HOx.out rfl)
       have x14 := HS5.out.cell (v := .string (bs x.ad.a)) 1 rfl (o + 23) (a0g HOx.out rfl)
       have x15 := HS5.out.cell (v := .string (bs x.ad.b)) 1 rfl (o + 24) (a0g HOx.out rfl)
       have x16 := HS5.out.cell (v := .bool x.ce.n) 1 rfl (o + 25) (a0g HOx.out rfl)
       have x17 := HS5.out.cell (v := .string (bs x.ce.a)) 1 rfl (o + 26) (a0g HOx.out rfl)
       have x18 := HS5.out.cell (v := .string (bs x.ce.b)) 1 rfl (o + 27) (a0g HOx.out rfl)
       have x19 := HS5.out.cell (v := .int .i64 x.chg) 1 rfl (o + 29) (a0g HOx.out rfl)
       have x20 := HS5.out.frozen 1 rfl (o + 14)
       have x21 := HS5.out.frozen 1 rfl (o + 19)
       have x22 := HS5.out.frozen 1 rfl (o + 20)
       have x23 := HS5.out.frozen 1 rfl (o + 21)
       have x24 := HS5.out.frozen 1 rfl (o + 22)
       have x25 := HS5.out.frozen 1 rfl (o + 23)
       have x26 := HS5.out.frozen 1 rfl (o + 24)
       have x27 := HS5.out.frozen 1 rfl (o + 25)
       have x28 := HS5.out.frozen 1 rfl (o + 26)
       have x29 := HS5.out.frozen 1 rfl (o + 27)
       have x30 := HS5.out.frozen 1 rfl (o + 29)
       have x31 := cN HS5 1 0
       have x32 := cN HS5 0 1
       have x33 := HS5.out.lt 0 rfl
       have x34 : ¬ w.heap.size = w5.heap.size := by omega
       have x35 : ¬ w5.heap.size = w.heap.size := by omega
       have x36 := HS5.out.lt 1 rfl
       have x37 : ¬ g = w5.heap.size := by omega
       have x38 : ¬ w5.heap.size = g := by omega
       go_wp2
       go_ret
       have HS6 : Hid (St w0 (⟨w5.heap.size, #[.bool (negB (e.am.val)), .string (bs (numB (e.am.val))), .string (bs (a0a (e.am.val)))], 40⟩ :: ⟨w.heap.size, e.enc.toArray, 44⟩ :: ⟨g, (offA pre (((((((((((x.enc.set 14 (.int .i64 7)).set 19 (.bool false)).set 20 (.string (bs []))).set 21 (.string (bs []))).set 22 (.bool false)).set 23 (.string (bs []))).set 24 (.string (bs []))).set 25 (.bool false)).set 26 (.string (bs []))).set 27 (.string (bs []))).set 29 (.int .i64 e.day)) post), 57⟩ :: R0) _) := zh (St.alloc ((St.setO ((St.setO ((St.setO ((St.setO ((St.setO ((St.setO ((St.setO ((St.setO ((St.setO ((St.setO ((St.setO (HS5.out) 1 rfl HOx.out 14 (show 14 < 30 by decide) (.int .i64 7))) 1 rfl HOx.out 19 (show 19 < 30 by decide) (.bool false))) 1 rfl HOx.out 20 (show 20 < 30 by decide) (.string (bs [])))) 1 rfl HOx.out 21 (show 21 < 30 by decide) (.string (bs [])))) 1 rfl HOx.out 22 (show 22 < 30 by decide) (.bool false))) 1 rfl HOx.out 23 (show 23 < 30 by decide) (.string (bs [])))) 1 rfl HOx.out 24 (show 24 < 30 by decide) (.string (bs [])))) 1 rfl HOx.out 25 (show 25 < 30 by decide) (.bool false))) 1 rfl HOx.out 26 (show 26 < 30 by decide) (.string (bs [])))) 1 rfl HOx.out 27 (show 27 < 30 by decide) (.string (bs [])))) 1 rfl HOx.out 29 (show 29 < 30 by decide) (.int .i64 e.day))) #[.bool (negB (e.am.val)), .string (bs (numB (e.am.val))), .string (bs (a0a (e.am.val)))] 40 (w5.heap.size) (by simp))
       rw [R.out.1, R.out.2]
       exact ⟨rfl, HS6.out.sub (List.Sublist.cons _ (List.Sublist.cons _ (List.Sublist.refl _)))⟩
      have R := zh (a9n (show a0f x e = ({ x with st := 6, fl := enc3 x.ad.val, ce := enc3 x.ad.val }, 0) by unfold a0f; rw [if_neg (by rw [<- HABx.out]; decide), if_neg (a0m HK2x.out rfl), if_neg (a0m HK3x.out rfl), if_neg (a0m HK4x.out rfl), if_neg (a0m HK5x.out rfl), if_neg (a0m HK6x.out rfl), if_pos (a7r HK9x.out rfl)]))
      have x8 := HS5.out.cell (v := .bool x.ad.n) 1 rfl (o + 22) (a0g HOx.out rfl)
      have x9 := HS5.out.cell (v := .string (bs x.ad.a)) 1 rfl (o + 23) (a0g HOx.out rfl)
      have x10 := HS5.out.cell (v := .string (bs x.ad.b)) 1 rfl (o + 24) (a0g HOx.out rfl)
      have x11 := HS5.out.lt 1 rfl
      have x12 : ¬ g = w5.heap.size := by omega
      have x13 : ¬ w5.heap.size = g := by omega
      go_wp2_with fail
      have HS6 := aL HS5 #[.bool (negB (e.am.val)), .string (bs (numB (e.am.val))), .string (bs (a0a (e.am.val)))] 40 w5.heap.size
      refine cL (HCDx.out _) HS6 fun w7 HS7 => ?_
      clear HS5 HS6 x8 x9 x10 x11 x12 x13
      go_wp2
      have HS8 := aL HS7 #[.bool (negB (x.ad.val)), .string (bs (numB (x.ad.val))), .string (bs (a0a (x.ad.val)))] 40 w7.heap.size
      clear HS7
      refine a1v 13 [7, 10] [.pointer (some ⟨g, o, none⟩), .pointer (some ⟨g, o, none⟩), .pointer (some ⟨g, o, none⟩), .agg #[.bool (negB (x.ad.val)), .string (bs (numB (x.ad.val))), .string (bs (a0a (x.ad.val)))], .agg #[.bool (negB (x.ad.val)), .string (bs (numB (x.ad.val))), .string (bs (a0a (x.ad.val)))], .pointer (some ⟨g, o, none⟩), .pointer (some ⟨g, o + 14, none⟩), undef, .pointer (some ⟨g, o, none⟩), .pointer (some ⟨g, o + 19, none⟩), undef, .pointer (some ⟨g, o, none⟩), .pointer (some ⟨g, o + 25, none⟩)] (fun k wv _ => Hid (St w0 (⟨w7.heap.size, #[.bool (negB (x.ad.val)), .string (bs (numB (x.ad.val))), .string (bs (a0a (x.ad.val)))], 40⟩ :: ⟨w5.heap.size, #[.bool (negB (e.am.val)), .string (bs (numB (e.am.val))), .string (bs (a0a (e.am.val)))], 40⟩ :: ⟨w.heap.size, e.enc.toArray, 44⟩ :: ⟨g, (offA pre (([x.enc, (x.enc.set 14 (.int .i64 6)), ((((x.enc.set 14 (.int .i64 6)).set 19 (.bool (negB (x.ad.val)))).set 20 (.string (bs (numB (x.ad.val))))).set 21 (.string (bs (a0a (x.ad.val)))))] : List (List Value)).getD k []) post), 57⟩ :: R0) wv)) rfl (by kernel_rfl) (by kernel_rfl) (by kernel_rfl) (by kernel_rfl) (by decide) (by decide) (zh HS8.out.drew) ?_ ?_
      refine ⟨?_, ?_, ?_, ?_, ?_, ?_, ?_, ?_, ?_, ?_, ?_, ?_, ?_, trivial⟩ <;> (intro xx af wv k hk hI hev hev0 hd; have H := SH.mk hev hev0 hd; clear hev hev0 hd)
      ·have e0 := H.i 0; clear H hI; rw [if_neg (by decide)]; go_wp2; exact StepW.mk _
      ·have e0 := H.i 0; clear H hI; rw [if_neg (by decide)]; go_wp2; exact StepW.mk _
      ·have e0 := H.i 0; clear H hI; rw [if_neg (by decide)]; go_wp2; exact StepW.mk _
      ·have e7 := H.i 7; clear H; have y0 := cC hI 0 0; have y1 := cC hI 0 1; have y2 := cC hI 0 2; clear hI; rw [if_neg (by decide)]; go_wp2; exact StepW.mk _
      ·have e7 := H.i 7; clear H; have y0 := cC hI 0 0; have y1 := cC hI 0 1; have y2 := cC hI 0 2; clear hI; rw [if_neg (by decide)]; go_wp2; exact StepW.mk _
      ·have e120 := H.n 0 120; clear H hI; rw [if_neg (by decide)]; go_wp2; exact StepW.mk _
      ·have e125 := H.n 5 125; clear H hI; rw [if_neg (by decide)]; go_wp2; exact StepW.mk _
      ·have e126 := H.n 6 126; clear H; rw [if_pos (by decide)]; intro hk0; obtain rfl : k = 0 := hk0; have yo0 := hI.out.cell (v := .int .i64 x.st) 3 rfl (o + 14) (a0g HOx.out rfl); have yf0 := hI.out.frozen 3 rfl (o + 14); go_wp2; exact StepI.mk (zh (St.setO (hI.out) 3 rfl HOx.out 14 (show 14 < 30 by decide) (.int .i64 6)))
      ·have e121 := H.n 1 121; clear H hI; rw [if_neg (by decide)]; go_wp2; exact StepW.mk _
      ·have e127 := H.n 8 127; clear H hI; rw [if_neg (by decide)]; go_wp2; exact StepW.mk _
      ·have e128 := H.n 9 128; have e123 := H.n 3 123; clear H; rw [if_pos (by decide)]; intro hk0; obtain rfl : k = 1 := hk0; have yo0 := hI.out.cell (v := .bool x.fl.n) 3 rfl (o + 19) (a0g HOx.out rfl); have yf0 := hI.out.frozen 3 rfl (o + 19); have yo1 := hI.out.cell (v := .string (bs x.fl.a)) 3 rfl (o + 20) (a0g HOx.out rfl); have yf1 := hI.out.frozen 3 rfl (o + 20); have yo2 := hI.out.cell (v := .string (bs x.fl.b)) 3 rfl (o + 21) (a0g HOx.out rfl); have yf2 := hI.out.frozen 3 rfl (o + 21); go_wp2; exact StepI.mk (zh (St.setO ((St.setO ((St.setO (hI.out) 3 rfl HOx.out 19 (show 19 < 30 by decide) (.bool (negB (x.ad.val))))) 3 rfl HOx.out 20 (show 20 < 30 by decide) (.string (bs (numB (x.ad.val)))))) 3 rfl HOx.out 21 (show 21 < 30 by decide) (.string (bs (a0a (x.ad.val))))))
      ·have e122 := H.n 2 122; clear H hI; rw [if_neg (by decide)]; go_wp2; exact StepW.mk _
      ·have e129 := H.n 11 129; clear H hI; rw [if_neg (by decide)]; go_wp2; exact StepW.mk _
      intro xx w10 hI hv
      simp only [List.take, List.drop, a0r, Act.put]
      simp only [show xx 0 = _ from hv 0 (by decide) (by decide), show xx 1 = _ from hv 1 (by decide) (by decide), show xx 2 = _ from hv 2 (by decide) (by decide), show xx 3 = _ from hv 3 (by decide) (by decide), show xx 4 = _ from hv 4 (by decide) (by decide), show xx 5 = _ from hv 5 (by decide) (by decide), show xx 6 = _ from hv 6 (by decide) (by decide), show xx 8 = _ from hv 8 (by decide) (by decide), show xx 9 = _ from hv 9 (by decide) (by decide), show xx 11 = _ from hv 11 (by decide) (by decide), show xx 12 = _ from hv 12 (by decide) (by decide)]
      have HS10 : Hid (St w0 (⟨w7.heap.size, #[.bool (negB (x.ad.val)), .string (bs (numB (x.ad.val))), .string (bs (a0a (x.ad.val)))], 40⟩ :: ⟨w5.heap.size, #[.bool (negB (e.am.val)), .string (bs (numB (e.am.val))), .string (bs (a0a (e.am.val)))], 40⟩ :: ⟨w.heap.size, e.enc.toArray, 44⟩ :: ⟨g, (offA pre ((((x.enc.set 14 (.int .i64 6)).set 19 (.bool (negB (x.ad.val)))).set 20 (.string (bs (numB (x.ad.val))))).set 21 (.string (bs (a0a (x.ad.val))))) post), 57⟩ :: R0) w10) := hI
      clear hv hI HS8
      have x14 := cC (v := .int .i64 e.day) HS10 2 1
      have x15 := HS10.out.cell (v := .bool x.ce.n) 3 rfl (o + 25) (a0g HOx.out rfl)
      have x16 := HS10.out.cell (v := .string (bs x.ce.a)) 3 rfl (o + 26) (a0g HOx.out rfl)
      have x17 := HS10.out.cell (v := .string (bs x.ce.b)) 3 rfl (o + 27) (a0g HOx.out rfl)
      have x18 := HS10.out.cell (v := .int .i64 x.chg) 3 rfl (o + 29) (a0g HOx.out rfl)
      have x19 := HS10.out.frozen 3 rfl (o + 25)
      have x20 := HS10.out.frozen 3 rfl (o + 26)
      have x21 := HS10.out.frozen 3 rfl (o + 27)
      have x22 := HS10.out.frozen 3 rfl (o + 29)
      have x23 := cN HS10 3 0
      have x24 := cN HS10 0 3
      have x25 := cN HS10 3 1
      have x26 := cN HS10 1 3
      have x27 := cN HS10 3 2
      have x28 := cN HS10 2 3
      go_wp2
      go_ret
      have HS11 : Hid (St w0 (⟨w7.heap.size, #[.bool (negB (x.ad.val)), .string (bs (numB (x.ad.val))), .string (bs (a0a (x.ad.val)))], 40⟩ :: ⟨w5.heap.size, #[.bool (negB (e.am.val)), .string (bs (numB (e.am.val))), .string (bs (a0a (e.am.val)))], 40⟩ :: ⟨w.heap.size, e.enc.toArray, 44⟩ :: ⟨g, (offA pre ((((((((x.enc.set 14 (.int .i64 6)).set 19 (.bool (negB (x.ad.val)))).set 20 (.string (bs (numB (x.ad.val))))).set 21 (.string (bs (a0a (x.ad.val))))).set 25 (.bool (negB (x.ad.val)))).set 26 (.string (bs (numB (x.ad.val))))).set 27 (.string (bs (a0a (x.ad.val))))).set 29 (.int .i64 e.day)) post), 57⟩ :: R0) _) := zh (St.setO ((St.setO ((St.setO ((St.setO (HS10.out) 3 rfl HOx.out 25 (show 25 < 30 by decide) (.bool (negB (x.ad.val))))) 3 rfl HOx.out 26 (show 26 < 30 by decide) (.string (bs (numB (x.ad.val)))))) 3 rfl HOx.out 27 (show 27 < 30 by decide) (.string (bs (a0a (x.ad.val)))))) 3 rfl HOx.out 29 (show 29 < 30 by decide) (.int .i64 e.day))
      rw [R.out.1, R.out.2]
      exact ⟨rfl, HS11.out.sub (List.Sublist.cons _ (List.Sublist.cons _ (List.Sublist.cons _ (List.Sublist.refl _))))⟩
     go_wp2
     have HS6 := aL HS5 #[.bool (negB (e.am.val)), .string (bs (numB (e.am.val))), .string (bs (a0a (e.am.val)))] 40 w5.heap.size
     clear HS5
     refine a1z 10 [.agg #[.bool (negB (e.am.val)), .string (bs (numB (e.am.val))), .string (bs (a0a (e.am.val)))], .pointer (some ⟨g, o, none⟩), .pointer (some ⟨g, o, none⟩), .pointer (some ⟨g, o + 19, none⟩), .agg #[.bool x.fl.n, .string (bs x.fl.a), .string (bs x.fl.b)], .pointer (some ⟨g, o, none⟩), .pointer (some ⟨g, o, none⟩), .pointer (some ⟨g, o + 25, none⟩), .agg #[.bool x.ce.n, .string (bs x.ce.a), .string (bs x.ce.b)], .bool i4] rfl (by kernel_rfl) (by kernel_rfl) (by kernel_rfl) ?_ ?_
     refine ⟨?_, ?_, ?_, ?_, ?_, ?_, ?_, ?_, ?_, ?_, trivial⟩ <;> (intro xx af wv hbx hev hev0 hd; have H := SH.mk hev hev0 hd; clear hev hev0 hd)
     ·have e5 := H.i 5; clear H; have hs1 := zh (HS6.out.call hbx); obtain ⟨y0, y1, y2⟩ := hs1.out.k0 0 rfl rfl rfl rfl; go_wp2; exact sQ rfl
     ·have e0 := H.i 0; clear H; go_wp2; exact sQ rfl
     ·have e88 := H.r 1 88; clear H; go_wp2; exact sQ rfl
     ·have e89 := H.r 2 89; clear H; go_wp2; exact sQ rfl
     ·have e90 := H.r 3 90; clear H; have hs1 := zh (HS6.out.call hbx); have yo0 := hs1.out.cell (v := .bool x.fl.n) 2 rfl (o + 19) (a0g HOx.out rfl); have yo1 := hs1.out.cell (v := .string (bs x.fl.a)) 2 rfl (o + 20) (a0g HOx.out rfl); have yo2 := hs1.out.cell (v := .string (bs x.fl.b)) 2 rfl (o + 21) (a0g HOx.out rfl); go_wp2; exact sQ rfl
     ·have e0 := H.i 0; clear H; go_wp2; exact sQ rfl
     ·have e92 := H.r 5 92; clear H; go_wp2; exact sQ rfl
     ·have e93 := H.r 6 93; clear H; go_wp2; exact sQ rfl
     ·have e94 := H.r 7 94; clear H; have hs1 := zh (HS6.out.call hbx); have yo0 := hs1.out.cell (v := .bool x.ce.n) 2 rfl (o + 25) (a0g HOx.out rfl); have yo1 := hs1.out.cell (v := .string (bs x.ce.a)) 2 rfl (o + 26) (a0g HOx.out rfl); have yo2 := hs1.out.cell (v := .string (bs x.ce.b)) 2 rfl (o + 27) (a0g HOx.out rfl); go_wp2; exact sQ rfl
     ·have e87 := H.r 0 87; have e91 := H.r 4 91; have e95 := H.r 8 95; clear H
      go_wp2_with fail
      refine (HB4x.out _).mono ?_
      rintro e w8 ⟨rfl, hb8⟩; go_wp2; exact StepQ.mk _ hb8 rfl
     intro xx w8 hb9 hv
     simp only [List.take, List.drop, a0r, Act.put]
     simp only [vQ hv 0, vQ hv 1, vQ hv 2, vQ hv 3, vQ hv 4, vQ hv 5, vQ hv 6, vQ hv 7, vQ hv 8, vQ hv 9]
     clear hv
     have HS8 := zh (HS6.out.call hb9)
     clear hb9 HS6
     go_upto_if 97 with fail
     cases i4
     ·have R := zh (a8q (show a0f x e = (x, 1) by unfold a0f; rw [if_neg (by rw [<- HABx.out]; decide), if_neg (a0m HK2x.out rfl), if_neg (a0m HK3x.out rfl), if_neg (a0m HK4x.out rfl), if_neg (a0m HK5x.out rfl), if_pos (a7r HK6x.out rfl), if_neg (by rw [<- HI4x.out]; decide)]) (by decide))
      go_wp2
      go_ret
      have HS9 := zh HS8.out
      rw [R.out.1, R.out.2]
      exact ⟨rfl, HS9.out.sub (List.Sublist.cons _ (List.Sublist.cons _ (List.Sublist.refl _)))⟩
     have R := zh (a9n (show a0f x e = ({ x with st := 6, fl := enc3 e.am.val, ad := enc3 e.am.val, ce := enc3 e.am.val }, 0) by unfold a0f; rw [if_neg (by rw [<- HABx.out]; decide), if_neg (a0m HK2x.out rfl), if_neg (a0m HK3x.out rfl), if_neg (a0m HK4x.out rfl), if_neg (a0m HK5x.out rfl), if_pos (a7r HK6x.out rfl), if_pos HI4x.out.symm]))
     go_wp2
     refine a1v 18 [9, 12, 15] [.pointer (some ⟨g, o, none⟩), .pointer (some ⟨g, o, none⟩), .pointer (some ⟨g, o, none⟩), .pointer (some ⟨g, o, none⟩), .agg #[.bool (negB (e.am.val)), .string (bs (numB (e.am.val))), .string (bs (a0a (e.am.val)))], .agg #[.bool (negB (e.am.val)), .string (bs (numB (e.am.val))), .string (bs (a0a (e.am.val)))], .agg #[.bool (negB (e.am.val)), .string (bs (numB (e.am.val))), .string (bs (a0a (e.am.val)))], .pointer (some ⟨g, o, none⟩), .pointer (some ⟨g, o + 14, none⟩), undef, .pointer (some ⟨g, o, none⟩), .pointer (some ⟨g, o + 19, none⟩), undef, .pointer (some ⟨g, o, none⟩), .pointer (some ⟨g, o + 22, none⟩), undef, .pointer (some ⟨g, o, none⟩), .pointer (some ⟨g, o + 25, none⟩)] (fun k wv _ => Hid (St w0 (⟨w5.heap.size, #[.bool (negB (e.am.val)), .string (bs (numB (e.am.val))), .string (bs (a0a (e.am.val)))], 40⟩ :: ⟨w.heap.size, e.enc.toArray, 44⟩ :: ⟨g, (offA pre (([x.enc, (x.enc.set 14 (.int .i64 6)), ((((x.enc.set 14 (.int .i64 6)).set 19 (.bool (negB (e.am.val)))).set 20 (.string (bs (numB (e.am.val))))).set 21 (.string (bs (a0a (e.am.val))))), (((((((x.enc.set 14 (.int .i64 6)).set 19 (.bool (negB (e.am.val)))).set 20 (.string (bs (numB (e.am.val))))).set 21 (.string (bs (a0a (e.am.val))))).set 22 (.bool (negB (e.am.val)))).set 23 (.string (bs (numB (e.am.val))))).set 24 (.string (bs (a0a (e.am.val)))))] : List (List Value)).getD k []) post), 57⟩ :: R0) wv)) rfl (by kernel_rfl) (by kernel_rfl) (by kernel_rfl) (by kernel_rfl) (by decide) (by decide) (zh HS8.out.drew) ?_ ?_
     refine ⟨?_, ?_, ?_, ?_, ?_, ?_, ?_, ?_, ?_, ?_, ?_, ?_, ?_, ?_, ?_, ?_, ?_, ?_, trivial⟩ <;> (intro xx af wv k hk hI hev hev0 hd; have H := SH.mk hev hev0 hd; clear hev hev0 hd)
     ·have e0 := H.i 0; clear H hI; rw [if_neg (by decide)]; go_wp2; exact StepW.mk _
     ·have e0 := H.i 0; clear H hI; rw [if_neg (by decide)]; go_wp2; exact StepW.mk _
     ·have e0 := H.i 0; clear H hI; rw [if_neg (by decide)]; go_wp2; exact StepW.mk _
     ·have e0 := H.i 0; clear H hI; rw [if_neg (by decide)]; go_wp2; exact StepW.mk _
     ·have e5 := H.i 5; clear H; have y0 := cC hI 0 0; have y1 := cC hI 0 1; have y2 := cC hI 0 2; clear hI; rw [if_neg (by decide)]; go_wp2; exact StepW.mk _
     ·have e5 := H.i 5; clear H; have y0 := cC hI 0 0; have y1 := cC hI 0 1; have y2 := cC hI 0 2; clear hI; rw [if_neg (by decide)]; go_wp2; exact StepW.mk _
     ·have e5 := H.i 5; clear H; have y0 := cC hI 0 0; have y1 := cC hI 0 1; have y2 := cC hI 0 2; clear hI; rw [if_neg (by decide)]; go_wp2; exact StepW.mk _
     ·have e98 := H.n 0 98; clear H hI; rw [if_neg (by decide)]; go_wp2; exact StepW.mk _
     ·have e105 := H.n 7 105; clear H hI; rw [if_neg (by decide)]; go_wp2; exact StepW.mk _
     ·have e106 := H.n 8 106; clear H; rw [if_pos (by decide)]; intro hk0; obtain rfl : k = 0 := hk0; have yo0 := hI.out.cell (v := .int .i64 x.st) 2 rfl (o + 14) (a0g HOx.out rfl); have yf0 := hI.out.frozen 2 rfl (o + 14); go_wp2; exact StepI.mk (zh (St.setO (hI.out) 2 rfl HOx.out 14 (show 14 < 30 by decide) (.int .i64 6)))
     ·have e99 := H.n 1 99; clear H hI; rw [if_neg (by decide)]; go_wp2; exact StepW.mk _
     ·have e107 := H.n 10 107; clear H hI; rw [if_neg (by decide)]; go_wp2; exact StepW.mk _
     ·have e108 := H.n 11 108; have e102 := H.n 4 102; clear H; rw [if_pos (by decide)]; intro hk0; obtain rfl : k = 1 := hk0; have yo0 := hI.out.cell (v := .bool x.fl.n) 2 rfl (o + 19) (a0g HOx.out rfl); have yf0 := hI.out.frozen 2 rfl (o + 19); have yo1 := hI.out.cell (v := .string (bs x.fl.a)) 2 rfl (o + 20) (a0g HOx.out rfl); have yf1 := hI.out.frozen 2 rfl (o + 20); have yo2 := hI.out.cell (v := .string (bs x.fl.b)) 2 rfl (o + 21) (a0g HOx.out rfl); have yf2 := hI.out.frozen 2 rfl (o + 21); go_wp2; exact StepI.mk (zh (St.setO ((St.setO ((St.setO (hI.out) 2 rfl HOx.out 19 (show 19 < 30 by decide) (.bool (negB (e.am.val))))) 2 rfl HOx.out 20 (show 20 < 30 by decide) (.string (bs (numB (e.am.val)))))) 2 rfl HOx.out 21 (show 21 < 30 by decide) (.string (bs (a0a (e.am.val))))))
     ·have e100 := H.n 2 100; clear H hI; rw [if_neg (by decide)]; go_wp2; exact StepW.mk _
     ·have e109 := H.n 13 109; clear H hI; rw [if_neg (by decide)]; go_wp2; exact StepW.mk _
     ·have e110 := H.n 14 110; have e103 := H.n 5 103; clear H; rw [if_pos (by decide)]; intro hk0; obtain rfl : k = 2 := hk0; have yo0 := hI.out.cell (v := .bool x.ad.n) 2 rfl (o + 22) (a0g HOx.out rfl); have yf0 := hI.out.frozen 2 rfl (o + 22); have yo1 := hI.out.cell (v := .string (bs x.ad.a)) 2 rfl (o + 23) (a0g HOx.out rfl); have yf1 := hI.out.frozen 2 rfl (o + 23); have yo2 := hI.out.cell (v := .string (bs x.ad.b)) 2 rfl (o + 24) (a0g HOx.out rfl); have yf2 := hI.out.frozen 2 rfl (o + 24); go_wp2; exact StepI.mk (zh (St.setO ((St.setO ((St.setO (hI.out) 2 rfl HOx.out 22 (show 22 < 30 by decide) (.bool (negB (e.am.val))))) 2 rfl HOx.out 23 (show 23 < 30 by decide) (.string (bs (numB (e.am.val)))))) 2 rfl HOx.out 24 (show 24 < 30 by decide) (.string (bs (a0a (e.am.val))))))
     ·have e101 := H.n 3 101; clear H hI; rw [if_neg (by decide)]; go_wp2; exact StepW.mk _
     ·have e111 := H.n 16 111; clear H hI; rw [if_neg (by decide)]; go_wp2; exact StepW.mk _
     intro xx w9 hI hv
     simp only [List.take, List.drop, a0r, Act.put]
     simp only [show xx 0 = _ from hv 0 (by decide) (by decide), show xx 1 = _ from hv 1 (by decide) (by decide), show xx 2 = _ from hv 2 (by decide) (by decide), show xx 3 = _ from hv 3 (by decide) (by decide), show xx 4 = _ from hv 4 (by decide) (by decide), show xx 5 = _ from hv 5 (by decide) (by decide), show xx 6 = _ from hv 6 (by decide) (by decide), show xx 7 = _ from hv 7 (by decide) (by decide), show xx 8 = _ from hv 8 (by decide) (by decide), show xx 10 = _ from hv 10 (by decide) (by decide), show xx 11 = _ from hv 11 (by decide) (by decide), show xx 13 = _ from hv 13 (by decide) (by decide), show xx 14 = _ from hv 14 (by decide) (by decide), show xx 16 = _ from hv 16 (by decide) (by decide), show xx 17 = _ from hv 17 (by decide) (by decide)]
     have HS9 : Hid (St w0 (⟨w5.heap.size, #[.bool (negB (e.am.val)), .string (bs (numB (e.am.val))), .string (bs (a0a (e.am.val)))], 40⟩ :: ⟨w.heap.size, e.enc.toArray, 44⟩ :: ⟨g, (offA pre (((((((x.enc.set 14 (.int .i64 6)).set 19 (.bool (negB (e.am.val)))).set 20 (.string (bs (numB (e.am.val))))).set 21 (.string (bs (a0a (e.am.val))))).set 22 (.bool (negB (e.am.val)))).set 23 (.string (bs (numB (e.am.val))))).set 24 (.string (bs (a0a (e.am.val))))) post), 57⟩ :: R0) w9) := hI
     clear hv hI HS8
     have x8 := cC (v := .int .i64 e.day) HS9 1 1
     have x9 := HS9.out.cell (v := .bool x.ce.n) 2 rfl (o + 25) (a0g HOx.out rfl)
     have x10 := HS9.out.cell (v := .string (bs x.ce.a)) 2 rfl (o + 26) (a0g HOx.out rfl)
     have x11 := HS9.out.cell (v := .string (bs x.ce.b)) 2 rfl (o + 27) (a0g HOx.out rfl)
     have x12 := HS9.out.cell (v := .int .i64 x.chg) 2 rfl (o + 29) (a0g HOx.out rfl)
     have x13 := HS9.out.frozen 2 rfl (o + 25)
     have x14 := HS9.out.frozen 2 rfl (o + 26)
     have x15 := HS9.out.frozen 2 rfl (o + 27)
     have x16 := HS9.out.frozen 2 rfl (o + 29)
     have x17 := cN HS9 2 0
     have x18 := cN HS9 0 2
     have x19 := cN HS9 2 1
     have x20 := cN HS9 1 2
     go_wp2
     go_ret
     have HS10 : Hid (St w0 (⟨w5.heap.size, #[.bool (negB (e.am.val)), .string (bs (numB (e.am.val))), .string (bs (a0a (e.am.val)))], 40⟩ :: ⟨w.heap.size, e.enc.toArray, 44⟩ :: ⟨g, (offA pre (((((((((((x.enc.set 14 (.int .i64 6)).set 19 (.bool (negB (e.am.val)))).set 20 (.string (bs (numB (e.am.val))))).set 21 (.string (bs (a0a (e.am.val))))).set 22 (.bool (negB (e.am.val)))).set 23 (.string (bs (numB (e.am.val))))).set 24 (.string (bs (a0a (e.am.val))))).set 25 (.bool (negB (e.am.val)))).set 26 (.string (bs (numB (e.am.val))))).set 27 (.string (bs (a0a (e.am.val))))).set 29 (.int .i64 e.day)) post), 57⟩ :: R0) _) := zh (St.setO ((St.setO ((St.setO ((St.setO (HS9.out) 2 rfl HOx.out 25 (show 25 < 30 by decide) (.bool (negB (e.am.val))))) 2 rfl HOx.out 26 (show 26 < 30 by decide) (.string (bs (numB (e.am.val)))))) 2 rfl HOx.out 27 (show 27 < 30 by decide) (.string (bs (a0a (e.am.val)))))) 2 rfl HOx.out 29 (show 29 < 30 by decide) (.int .i64 e.day))
     rw [R.out.1, R.out.2]
     exact ⟨rfl, HS10.out.sub (List.Sublist.cons _ (List.Sublist.cons _ (List.Sublist.refl _)))⟩
    have R := zh (a9n (show a0f x e = ({ x with st := 5 }, 0) by unfold a0f; rw [if_neg (by rw [<- HABx.out]; decide), if_neg (a0m HK2x.out rfl), if_neg (a0m HK3x.out rfl), if_neg (a0m HK4x.out rfl), if_pos (a7r HK5x.out rfl)]))
    have x8 := cC (v := .int .i64 e.day) HS5 0 1
    have x9 := HS5.out.cell (v := .int .i64 x.st) 1 rfl (o + 14) (a0g HOx.out rfl)
    have x10 := HS5.out.cell (v := .int .i64 x.chg) 1 rfl (o + 29) (a0g HOx.out rfl)
    have x11 := HS5.out.frozen 1 rfl (o + 14)
    have x12 := HS5.out.frozen 1 rfl (o + 29)
    have x13 := cN HS5 1 0
    have x14 := cN HS5 0 1
    have x15 := HS5.out.lt 0 rfl
    have x16 : ¬ w.heap.size = w5.heap.size := by omega
    have x17 : ¬ w5.heap.size = w.heap.size := by omega
    have x18 := HS5.out.lt 1 rfl
    have x19 : ¬ g = w5.heap.size := by omega
    have x20 : ¬ w5.heap.size = g := by omega
    go_wp2
    go_ret
    have HS6 : Hid (St w0 (⟨w5.heap.size, #[.bool (negB (e.am.val)), .string (bs (numB (e.am.val))), .string (bs (a0a (e.am.val)))], 40⟩ :: ⟨w.heap.size, e.enc.toArray, 44⟩ :: ⟨g, (offA pre ((x.enc.set 14 (.int .i64 5)).set 29 (.int .i64 e.day)) post), 57⟩ :: R0) _) := zh (St.alloc ((St.setO ((St.setO (HS5.out) 1 rfl HOx.out 14 (show 14 < 30 by decide) (.int .i64 5))) 1 rfl HOx.out 29 (show 29 < 30 by decide) (.int .i64 e.day))) #[.bool (negB (e.am.val)), .string (bs (numB (e.am.val))), .string (bs (a0a (e.am.val)))] 40 (w5.heap.size) (by simp))
    rw [R.out.1, R.out.2]
    exact ⟨rfl, HS6.out.sub (List.Sublist.cons _ (List.Sublist.cons _ (List.Sublist.refl _)))⟩
   go_wp2
   have HS6 := aL HS5 #[.bool (negB (e.am.val)), .string (bs (numB (e.am.val))), .string (bs (a0a (e.am.val)))] 40 w5.heap.size
   clear HS5
   refine a1z 10 [.agg #[.bool (negB (e.am.val)), .string (bs (numB (e.am.val))), .string (bs (a0a (e.am.val)))], .pointer (some ⟨g, o, none⟩), .pointer (some ⟨g, o, none⟩), .pointer (some ⟨g, o + 19, none⟩), .agg #[.bool x.fl.n, .string (bs x.fl.a), .string (bs x.fl.b)], .pointer (some ⟨g, o, none⟩), .pointer (some ⟨g, o, none⟩), .pointer (some ⟨g, o + 25, none⟩), .agg #[.bool x.ce.n, .string (bs x.ce.a), .string (bs x.ce.b)], .bool i4] rfl (by kernel_rfl) (by kernel_rfl) (by kernel_rfl) ?_ ?_
   refine ⟨?_, ?_, ?_, ?_, ?_, ?_, ?_, ?_, ?_, ?_, trivial⟩ <;> (intro xx af wv hbx hev hev0 hd; have H := SH.mk hev hev0 hd; clear hev hev0 hd)
   ·have e5 := H.i 5; clear H; have hs1 := zh (HS6.out.call hbx); obtain ⟨y0, y1, y2⟩ := hs1.out.k0 0 rfl rfl rfl rfl; go_wp2; exact sQ rfl
   ·have e0 := H.i 0; clear H; go_wp2; exact sQ rfl
   ·have e63 := H.r 1 63; clear H; go_wp2; exact sQ rfl
   ·have e64 := H.r 2 64; clear H; go_wp2; exact sQ rfl
   ·have e65 := H.r 3 65; clear H; have hs1 := zh (HS6.out.call hbx); have yo0 := hs1.out.cell (v := .bool x.fl.n) 2 rfl (o + 19) (a0g HOx.out rfl); have yo1 := hs1.out.cell (v := .string (bs x.fl.a)) 2 rfl (o + 20) (a0g HOx.out rfl); have yo2 := hs1.out.cell (v := .string (bs x.fl.b)) 2 rfl (o + 21) (a0g HOx.out rfl); go_wp2; exact sQ rfl
   ·have e0 := H.i 0; clear H; go_wp2; exact sQ rfl
   ·have e67 := H.r 5 67; clear H; go_wp2; exact sQ rfl
   ·have e68 := H.r 6 68; clear H; go_wp2; exact sQ rfl
   ·have e69 := H.r 7 69; clear H; have hs1 := zh (HS6.out.call hbx); have yo0 := hs1.out.cell (v := .bool x.ce.n) 2 rfl (o + 25) (a0g HOx.out rfl); have yo1 := hs1.out.cell (v := .string (bs x.ce.a)) 2 rfl (o + 26) (a0g HOx.out rfl); have yo2 := hs1.out.cell (v := .string (bs x.ce.b)) 2 rfl (o + 27) (a0g HOx.out rfl); go_wp2; exact sQ rfl
   ·have e62 := H.r 0 62; have e66 := H.r 4 66; have e70 := H.r 8 70; clear H
    go_wp2_with fail
    refine (HB4x.out _).mono ?_
    rintro e w8 ⟨rfl, hb8⟩; go_wp2; exact StepQ.mk _ hb8 rfl
   intro xx w8 hb9 hv
   simp only [List.take, List.drop, a0r, Act.put]
   simp only [vQ hv 0, vQ hv 1, vQ hv 2, vQ hv 3, vQ hv 4, vQ hv 5, vQ hv 6, vQ hv 7, vQ hv 8, vQ hv 9]
   clear hv
   have HS8 := zh (HS6.out.call hb9)
   clear hb9 HS6
   go_upto_if 72 with fail
   cases i4
   ·have R := zh (a8q (show a0f x e = (x, 1) by unfold a0f; rw [if_neg (by rw [<- HABx.out]; decide), if_neg (a0m HK2x.out rfl), if_neg (a0m HK3x.out rfl), if_pos (a7r HK4x.out rfl), if_neg (by rw [<- HI4x.out]; decide)]) (by decide))
    go_wp2
    go_ret
    have HS9 := zh HS8.out
    rw [R.out.1, R.out.2]
    exact ⟨rfl, HS9.out.sub (List.Sublist.cons _ (List.Sublist.cons _ (List.Sublist.refl _)))⟩
   have R := zh (a9n (show a0f x e = ({ x with st := 4, ad := enc3 e.am.val }, 0) by unfold a0f; rw [if_neg (by rw [<- HABx.out]; decide), if_neg (a0m HK2x.out rfl), if_neg (a0m HK3x.out rfl), if_pos (a7r HK4x.out rfl), if_pos HI4x.out.symm]))
   go_wp2
   refine a1v 8 [5] [.pointer (some ⟨g, o, none⟩), .pointer (some ⟨g, o, none⟩), .agg #[.bool (negB (e.am.val)), .string (bs (numB (e.am.val))), .string (bs (a0a (e.am.val)))], .pointer (some ⟨g, o, none⟩), .pointer (some ⟨g, o + 14, none⟩), undef, .pointer (some ⟨g, o, none⟩), .pointer (some ⟨g, o + 22, none⟩)] (fun k wv _ => Hid (St w0 (⟨w5.heap.size, #[.bool (negB (e.am.val)), .string (bs (numB (e.am.val))), .string (bs (a0a (e.am.val)))], 40⟩ :: ⟨w.heap.size, e.enc.toArray, 44⟩ :: ⟨g, (offA pre (([x.enc, (x.enc.set 14 (.int .i64 4))] : List (List Value)).getD k []) post), 57⟩ :: R0) wv)) rfl (by kernel_rfl) (by kernel_rfl) (by kernel_rfl) (by kernel_rfl) (by decide) (by decide) (zh HS8.out.drew) ?_ ?_
   refine ⟨?_, ?_, ?_, ?_, ?_, ?_, ?_, ?_, trivial⟩ <;> (intro xx af wv k hk hI hev hev0 hd; have H := SH.mk hev hev0 hd; clear hev hev0 hd)
   ·have e0 := H.i 0; clear H hI; rw [if_neg (by decide)]; go_wp2; exact StepW.mk _
   ·have e0 := H.i 0; clear H hI; rw [if_neg (by decide)]; go_wp2; exact StepW.mk _
   ·have e5 := H.i 5; clear H; have y0 := cC hI 0 0; have y1 := cC hI 0 1; have y2 := cC hI 0 2; clear hI; rw [if_neg (by decide)]; go_wp2; exact StepW.mk _
   ·have e73 := H.n 0 73; clear H hI; rw [if_neg (by decide)]; go_wp2; exact StepW.mk _
   ·have e76 := H.n 3 76; clear H hI; rw [if_neg (by decide)]; go_wp2; exact StepW.mk _
   ·have e77 := H.n 4 77; clear H; rw [if_pos (by decide)]; intro hk0; obtain rfl : k = 0 := hk0; have yo0 := hI.out.cell (v := .int .i64 x.st) 2 rfl (o + 14) (a0g HOx.out rfl); have yf0 := hI.out.frozen 2 rfl (o + 14); go_wp2; exact StepI.mk (zh (St.setO (hI.out) 2 rfl HOx.out 14 (show 14 < 30 by decide) (.int .i64 4)))
   ·have e74 := H.n 1 74; clear H hI; rw [if_neg (by decide)]; go_wp2; exact StepW.mk _
   ·have e78 := H.n 6 78; clear H hI; rw [if_neg (by decide)]; go_wp2; exact StepW.mk _
   intro xx w9 hI hv
   simp only [List.take, List.drop, a0r, Act.put]
   simp only [show xx 0 = _ from hv 0 (by decide) (by decide), show xx 1 = _ from hv 1 (by decide) (by decide), show xx 2 = _ from hv 2 (by decide) (by decide), show xx 3 = _ from hv 3 (by decide) (by decide), show xx 4 = _ from hv 4 (by decide) (by decide), show xx 6 = _ from hv 6 (by decide) (by decide), show xx 7 = _ from hv 7 (by decide) (by decide)]
   have HS9 : Hid (St w0 (⟨w5.heap.size, #[.bool (negB (e.am.val)), .string (bs (numB (e.am.val))), .string (bs (a0a (e.am.val)))], 40⟩ :: ⟨w.heap.size, e.enc.toArray, 44⟩ :: ⟨g, (offA pre (x.enc.set 14 (.int .i64 4)) post), 57⟩ :: R0) w9) := hI
   clear hv hI HS8
   have x8 := cC (v := .int .i64 e.day) HS9 1 1
   have x9 := HS9.out.cell (v := .bool x.ad.n) 2 rfl (o + 22) (a0g HOx.out rfl)
   have x10 := HS9.out.cell (v := .string (bs x.ad.a)) 2 rfl (o + 23) (a0g HOx.out rfl)
   have x11 := HS9.out.cell (v := .string (bs x.ad.b)) 2 rfl (o + 24) (a0g HOx.out rfl)
   have x12 := HS9.out.cell (v := .int .i64 x.chg) 2 rfl (o + 29) (a0g HOx.out rfl)
   have x13 := HS9.out.frozen 2 rfl (o + 22)
   have x14 := HS9.out.frozen 2 rfl (o + 23)
   have x15 := HS9.out.frozen 2 rfl (o + 24)
   have x16 := HS9.out.frozen 2 rfl (o + 29)
   have x17 := cN HS9 2 0
   have x18 := cN HS9 0 2
   have x19 := cN HS9 2 1
   have x20 := cN HS9 1 2
   go_wp2
   go_ret
   have HS10 : Hid (St w0 (⟨w5.heap.size, #[.bool (negB (e.am.val)), .string (bs (numB (e.am.val))), .string (bs (a0a (e.am.val)))], 40⟩ :: ⟨w.heap.size, e.enc.toArray, 44⟩ :: ⟨g, (offA pre (((((x.enc.set 14 (.int .i64 4)).set 22 (.bool (negB (e.am.val)))).set 23 (.string (bs (numB (e.am.val))))).set 24 (.string (bs (a0a (e.am.val))))).set 29 (.int .i64 e.day)) post), 57⟩ :: R0) _) := zh (St.setO ((St.setO ((St.setO ((St.setO (HS9.out) 2 rfl HOx.out 22 (show 22 < 30 by decide) (.bool (negB (e.am.val))))) 2 rfl HOx.out 23 (show 23 < 30 by decide) (.string (bs (numB (e.am.val)))))) 2 rfl HOx.out 24 (show 24 < 30 by decide) (.string (bs (a0a (e.am.val)))))) 2 rfl HOx.out 29 (show 29 < 30 by decide) (.int .i64 e.day))
   rw [R.out.1, R.out.2]
   exact ⟨rfl, HS10.out.sub (List.Sublist.cons _ (List.Sublist.cons _ (List.Sublist.refl _)))⟩
  go_wp2
  have HS6 := aL HS5 #[.bool (negB (e.am.val)), .string (bs (numB (e.am.val))), .string (bs (a0a (e.am.val)))] 40 w5.heap.size
  clear HS5
  refine a1z 7 [.agg #[.bool (negB (e.am.val)), .string (bs (numB (e.am.val))), .string (bs (a0a (e.am.val)))], .agg #[.bool false, .string (bs []), .string (bs [])], .pointer (some ⟨g, o, none⟩), .pointer (some ⟨g, o, none⟩), .pointer (some ⟨g, o + 25, none⟩), .agg #[.bool x.ce.n, .string (bs x.ce.a), .string (bs x.ce.b)], .bool i3] rfl (by kernel_rfl) (by kernel_rfl) (by kernel_rfl) ?_ ?_
  refine ⟨?_, ?_, ?_, ?_, ?_, ?_, ?_, trivial⟩ <;> (intro xx af wv hbx hev hev0 hd; have H := SH.mk hev hev0 hd; clear hev hev0 hd)
  ·have e5 := H.i 5; clear H; have hs1 := zh (HS6.out.call hbx); obtain ⟨y0, y1, y2⟩ := hs1.out.k0 0 rfl rfl rfl rfl; go_wp2; exact sQ rfl
  ·clear H; go_wp2; exact sQ rfl
  ·have e0 := H.i 0; clear H; go_wp2; exact sQ rfl
  ·have e43 := H.r 2 43; clear H; go_wp2; exact sQ rfl
  ·have e44 := H.r 3 44; clear H; go_wp2; exact sQ rfl
  ·have e45 := H.r 4 45; clear H; have hs1 := zh (HS6.out.call hbx); have yo0 := hs1.out.cell (v := .bool x.ce.n) 2 rfl (o + 25) (a0g HOx.out rfl); have yo1 := hs1.out.cell (v := .string (bs x.ce.a)) 2 rfl (o + 26) (a0g HOx.out rfl); have yo2 := hs1.out.cell (v := .string (bs x.ce.b)) 2 rfl (o + 27) (a0g HOx.out rfl); go_wp2; exact sQ rfl
  ·have e41 := H.r 0 41; have e42 := H.r 1 42; have e46 := H.r 5 46; clear H
   go_wp2_with fail
   refine (HB3x.out _).mono ?_
   rintro e w8 ⟨rfl, hb8⟩; go_wp2; exact StepQ.mk _ hb8 rfl
  intro xx w8 hb9 hv
  simp only [List.take, List.drop, a0r, Act.put]
  simp only [vQ hv 0, vQ hv 1, vQ hv 2, vQ hv 3, vQ hv 4, vQ hv 5, vQ hv 6]
  clear hv
  have HS8 := zh (HS6.out.call hb9)
  clear hb9 HS6
  go_upto_if 48 with fail
  cases i3
  ·have R := zh (a8q (show a0f x e = (x, 1) by unfold a0f; rw [if_neg (by rw [<- HABx.out]; decide), if_neg (a0m HK2x.out rfl), if_pos (a7r HK3x.out rfl), if_neg (by rw [<- HI3x.out]; decide)]) (by decide))
   go_wp2
   go_ret
   have HS9 := zh HS8.out
   rw [R.out.1, R.out.2]
   exact ⟨rfl, HS9.out.sub (List.Sublist.cons _ (List.Sublist.cons _ (List.Sublist.refl _)))⟩
  have R := zh (a9n (show a0f x e = ({ x with st := 3, fl := enc3 e.am.val, ad := enc3 e.am.val }, 0) by unfold a0f; rw [if_neg (by rw [<- HABx.out]; decide), if_neg (a0m HK2x.out rfl), if_pos (a7r HK3x.out rfl), if_pos HI3x.out.symm]))
  go_wp2
  refine a1v 13 [7, 10] [.pointer (some ⟨g, o, none⟩), .pointer (some ⟨g, o, none⟩), .pointer (some ⟨g, o, none⟩), .agg #[.bool (negB (e.am.val)), .string (bs (numB (e.am.val))), .string (bs (a0a (e.am.val)))], .agg #[.bool (negB (e.am.val)), .string (bs (numB (e.am.val))), .string (bs (a0a (e.am.val)))], .pointer (some ⟨g, o, none⟩), .pointer (some ⟨g, o + 14, none⟩), undef, .pointer (some ⟨g, o, none⟩), .pointer (some ⟨g, o + 19, none⟩), undef, .pointer (some ⟨g, o, none⟩), .pointer (some ⟨g, o + 22, none⟩)] (fun k wv _ => Hid (St w0 (⟨w5.heap.size, #[.bool (negB (e.am.val)), .string (bs (numB (e.am.val))), .string (bs (a0a (e.am.val)))], 40⟩ :: ⟨w.heap.size, e.enc.toArray, 44⟩ :: ⟨g, (offA pre (([x.enc, (x.enc.set 14 (.int .i64 3)), ((((x.enc.set 14 (.int .i64 3)).set 19 (.bool (negB (e.am.val)))).set 20 (.string (bs (numB (e.am.val))))).set 21 (.string (bs (a0a (e.am.val)))))] : List (List Value)).getD k []) post), 57⟩ :: R0) wv)) rfl (by kernel_rfl) (by kernel_rfl) (by kernel_rfl) (by kernel_rfl) (by decide) (by decide) (zh HS8.out.drew) ?_ ?_
  refine ⟨?_, ?_, ?_, ?_, ?_, ?_, ?_, ?_, ?_, ?_, ?_, ?_, ?_, trivial⟩ <;> (intro xx af wv k hk hI hev hev0 hd; have H := SH.mk hev hev0 hd; clear hev hev0 hd)
  ·have e0 := H.i 0; clear H hI; rw [if_neg (by decide)]; go_wp2; exact StepW.mk _
  ·have e0 := H.i 0; clear H hI; rw [if_neg (by decide)]; go_wp2; exact StepW.mk _
  ·have e0 := H.i 0; clear H hI; rw [if_neg (by decide)]; go_wp2; exact StepW.mk _
  ·have e5 := H.i 5; clear H; have y0 := cC hI 0 0; have y1 := cC hI 0 1; have y2 := cC hI 0 2; clear hI; rw [if_neg (by decide)]; go_wp2; exact StepW.mk _
  ·have e5 := H.i 5; clear H; have y0 := cC hI 0 0; have y1 := cC hI 0 1; have y2 := cC hI 0 2; clear hI; rw [if_neg (by decide)]; go_wp2; exact StepW.mk _
  ·have e49 := H.n 0 49; clear H hI; rw [if_neg (by decide)]; go_wp2; exact StepW.mk _
  ·have e54 := H.n 5 54; clear H hI; rw [if_neg (by decide)]; go_wp2; exact StepW.mk _
  ·have e55 := H.n 6 55; clear H; rw [if_pos (by decide)]; intro hk0; obtain rfl : k = 0 := hk0; have yo0 := hI.out.cell (v := .int .i64 x.st) 2 rfl (o + 14) (a0g HOx.out rfl); have yf0 := hI.out.frozen 2 rfl (o + 14); go_wp2; exact StepI.mk (zh (St.setO (hI.out) 2 rfl HOx.out 14 (show 14 < 30 by decide) (.int .i64 3)))
  ·have e50 := H.n 1 50; clear H hI; rw [if_neg (by decide)]; go_wp2; exact StepW.mk _
  ·have e56 := H.n 8 56; clear H hI; rw [if_neg (by decide)]; go_wp2; exact StepW.mk _
  ·have e57 := H.n 9 57; have e52 := H.n 3 52; clear H; rw [if_pos (by decide)]; intro hk0; obtain rfl : k = 1 := hk0; have yo0 := hI.out.cell (v := .bool x.fl.n) 2 rfl (o + 19) (a0g HOx.out rfl); have yf0 := hI.out.frozen 2 rfl (o + 19); have yo1 := hI.out.cell (v := .string (bs x.fl.a)) 2 rfl (o + 20) (a0g HOx.out rfl); have yf1 := hI.out.frozen 2 rfl (o + 20); have yo2 := hI.out.cell (v := .string (bs x.fl.b)) 2 rfl (o + 21) (a0g HOx.out rfl); have yf2 := hI.out.frozen 2 rfl (o + 21); go_wp2; exact StepI.mk (zh (St.setO ((St.setO ((St.setO (hI.out) 2 rfl HOx.out 19 (show 19 < 30 by decide) (.bool (negB (e.am.val))))) 2 rfl HOx.out 20 (show 20 < 30 by decide) (.string (bs (numB (e.am.val)))))) 2 rfl HOx.out 21 (show 21 < 30 by decide) (.string (bs (a0a (e.am.val))))))
  ·have e51 := H.n 2 51; clear H hI; rw [if_neg (by decide)]; go_wp2; exact StepW.mk _
  ·have e58 := H.n 11 58; clear H hI; rw [if_neg (by decide)]; go_wp2; exact StepW.mk _
  intro xx w9 hI hv
  simp only [List.take, List.drop, a0r, Act.put]
  simp only [show xx 0 = _ from hv 0 (by decide) (by decide), show xx 1 = _ from hv 1 (by decide) (by decide), show xx 2 = _ from hv 2 (by decide) (by decide), show xx 3 = _ from hv 3 (by decide) (by decide), show xx 4 = _ from hv 4 (by decide) (by decide), show xx 5 = _ from hv 5 (by decide) (by decide), show xx 6 = _ from hv 6 (by decide) (by decide), show xx 8 = _ from hv 8 (by decide) (by decide), show xx 9 = _ from hv 9 (by decide) (by decide), show xx 11 = _ from hv 11 (by decide) (by decide), show xx 12 = _ from hv 12 (by decide) (by decide)]
  have HS9 : Hid (St w0 (⟨w5.heap.size, #[.bool (negB (e.am.val)), .string (bs (numB (e.am.val))), .string (bs (a0a (e.am.val)))], 40⟩ :: ⟨w.heap.size, e.enc.toArray, 44⟩ :: ⟨g, (offA pre ((((x.enc.set 14 (.int .i64 3)).set 19 (.bool (negB (e.am.val)))).set 20 (.string (bs (numB (e.am.val))))).set 21 (.string (bs (a0a (e.am.val))))) post), 57⟩ :: R0) w9) := hI
  clear hv hI HS8
  have x8 := cC (v := .int .i64 e.day) HS9 1 1
  have x9 := HS9.out.cell (v := .bool x.ad.n) 2 rfl (o + 22) (a0g HOx.out rfl)
  have x10 := HS9.out.cell (v := .string (bs x.ad.a)) 2 rfl (o + 23) (a0g HOx.out rfl)
  have x11 := HS9.out.cell (v := .string (bs x.ad.b)) 2 rfl (o + 24) (a0g HOx.out rfl)
  have x12 := HS9.out.cell (v := .int .i64 x.chg) 2 rfl (o + 29) (a0g HOx.out rfl)
  have x13 := HS9.out.frozen 2 rfl (o + 22)
  have x14 := HS9.out.frozen 2 rfl (o + 23)
  have x15 := HS9.out.frozen 2 rfl (o + 24)
  have x16 := HS9.out.frozen 2 rfl (o + 29)
  have x17 := cN HS9 2 0
  have x18 := cN HS9 0 2
  have x19 := cN HS9 2 1
  have x20 := cN HS9 1 2
  go_wp2
  go_ret
  have HS10 : Hid (St w0 (⟨w5.heap.size, #[.bool (negB (e.am.val)), .string (bs (numB (e.am.val))), .string (bs (a0a (e.am.val)))], 40⟩ :: ⟨w.heap.size, e.enc.toArray, 44⟩ :: ⟨g, (offA pre ((((((((x.enc.set 14 (.int .i64 3)).set 19 (.bool (negB (e.am.val)))).set 20 (.string (bs (numB (e.am.val))))).set 21 (.string (bs (a0a (e.am.val))))).set 22 (.bool (negB (e.am.val)))).set 23 (.string (bs (numB (e.am.val))))).set 24 (.string (bs (a0a (e.am.val))))).set 29 (.int .i64 e.day)) post), 57⟩ :: R0) _) := zh (St.setO ((St.setO ((St.setO ((St.setO (HS9.out) 2 rfl HOx.out 22 (show 22 < 30 by decide) (.bool (negB (e.am.val))))) 2 rfl HOx.out 23 (show 23 < 30 by decide) (.string (bs (numB (e.am.val)))))) 2 rfl HOx.out 24 (show 24 < 30 by decide) (.string (bs (a0a (e.am.val)))))) 2 rfl HOx.out 29 (show 29 < 30 by decide) (.int .i64 e.day))
  rw [R.out.1, R.out.2]
  exact ⟨rfl, HS10.out.sub (List.Sublist.cons _ (List.Sublist.cons _ (List.Sublist.refl _)))⟩
 have R := zh (a9n (show a0f x e = ({ x with st := 2, fl := enc3 x.ce.val, ad := enc3 x.ce.val }, 0) by unfold a0f; rw [if_neg (by rw [<- HABx.out]; decide), if_pos (a7r HK2x.out rfl)]))
 have x8 := HS5.out.cell (v := .bool x.ce.n) 1 rfl (o + 25) (a0g HOx.out rfl)
 have x9 := HS5.out.cell (v := .string (bs x.ce.a)) 1 rfl (o + 26) (a0g HOx.out rfl)
 have x10 := HS5.out.cell (v := .string (bs x.ce.b)) 1 rfl (o + 27) (a0g HOx.out rfl)
 have x11 := HS5.out.lt 1 rfl
 have x12 : ¬ g = w5.heap.size := by omega
 have x13 : ¬ w5.heap.size = g := by omega
 go_wp2_with fail
 have HS6 := aL HS5 #[.bool (negB (e.am.val)), .string (bs (numB (e.am.val))), .string (bs (a0a (e.am.val)))] 40 w5.heap.size
 refine cL (HCCx.out _) HS6 fun w7 HS7 => ?_
 clear HS5 HS6 x8 x9 x10 x11 x12 x13
 go_wp2
 have HS8 := aL HS7 #[.bool (negB (x.ce.val)), .string (bs (numB (x.ce.val))), .string (bs (a0a (x.ce.val)))] 40 w7.heap.size
 clear HS7
 refine a1v 13 [7, 10] [.pointer (some ⟨g, o, none⟩), .pointer (some ⟨g, o, none⟩), .pointer (some ⟨g, o, none⟩), .agg #[.bool (negB (x.ce.val)), .string (bs (numB (x.ce.val))), .string (bs (a0a (x.ce.val)))], .agg #[.bool (negB (x.ce.val)), .string (bs (numB (x.ce.val))), .string (bs (a0a (x.ce.val)))], .pointer (some ⟨g, o, none⟩), .pointer (some ⟨g, o + 14, none⟩), undef, .pointer (some ⟨g, o, none⟩), .pointer (some ⟨g, o + 19, none⟩), undef, .pointer (some ⟨g, o, none⟩), .pointer (some ⟨g, o + 22, none⟩)] (fun k wv _ => Hid (St w0 (⟨w7.heap.size, #[.bool (negB (x.ce.val)), .string (bs (numB (x.ce.val))), .string (bs (a0a (x.ce.val)))], 40⟩ :: ⟨w5.heap.size, #[.bool (negB (e.am.val)), .string (bs (numB (e.am.val))), .string (bs (a0a (e.am.val)))], 40⟩ :: ⟨w.heap.size, e.enc.toArray, 44⟩ :: ⟨g, (offA pre (([x.enc, (x.enc.set 14 (.int .i64 2)), ((((x.enc.set 14 (.int .i64 2)).set 19 (.bool (negB (x.ce.val)))).set 20 (.string (bs (numB (x.ce.val))))).set 21 (.string (bs (a0a (x.ce.val)))))] : List (List Value)).getD k []) post), 57⟩ :: R0) wv)) rfl (by kernel_rfl) (by kernel_rfl) (by kernel_rfl) (by kernel_rfl) (by decide) (by decide) (zh HS8.out.drew) ?_ ?_
 refine ⟨?_, ?_, ?_, ?_, ?_, ?_, ?_, ?_, ?_, ?_, ?_, ?_, ?_, trivial⟩ <;> (intro xx af wv k hk hI hev hev0 hd; have H := SH.mk hev hev0 hd; clear hev hev0 hd)
 ·have e0 := H.i 0; clear H hI; rw [if_neg (by decide)]; go_wp2; exact StepW.mk _
 ·have e0 := H.i 0; clear H hI; rw [if_neg (by decide)]; go_wp2; exact StepW.mk _
 ·have e0 := H.i 0; clear H hI; rw [if_neg (by decide)]; go_wp2; exact StepW.mk _
 ·have e6 := H.i 6; clear H; have y0 := cC hI 0 0; have y1 := cC hI 0 1; have y2 := cC hI 0 2; clear hI; rw [if_neg (by decide)]; go_wp2; exact StepW.mk _
 ·have e6 := H.i 6; clear H; have y0 := cC hI 0 0; have y1 := cC hI 0 1; have y2 := cC hI 0 2; clear hI; rw [if_neg (by decide)]; go_wp2; exact StepW.mk _
 ·have e28 := H.n 0 28; clear H hI; rw [if_neg (by decide)]; go_wp2; exact StepW.mk _
 ·have e33 := H.n 5 33; clear H hI; rw [if_neg (by decide)]; go_wp2; exact StepW.mk _
 ·have e34 := H.n 6 34; clear H; rw [if_pos (by decide)]; intro hk0; obtain rfl : k = 0 := hk0; have yo0 := hI.out.cell (v := .int .i64 x.st) 3 rfl (o + 14) (a0g HOx.out rfl); have yf0 := hI.out.frozen 3 rfl (o + 14); go_wp2; exact StepI.mk (zh (St.setO (hI.out) 3 rfl HOx.out 14 (show 14 < 30 by decide) (.int .i64 2)))
 ·have e29 := H.n 1 29; clear H hI; rw [if_neg (by decide)]; go_wp2; exact StepW.mk _
 ·have e35 := H.n 8 35; clear H hI; rw [if_neg (by decide)]; go_wp2; exact StepW.mk _
 ·have e36 := H.n 9 36; have e31 := H.n 3 31; clear H; rw [if_pos (by decide)]; intro hk0; obtain rfl : k = 1 := hk0; have yo0 := hI.out.cell (v := .bool x.fl.n) 3 rfl (o + 19) (a0g HOx.out rfl); have yf0 := hI.out.frozen 3 rfl (o + 19); have yo1 := hI.out.cell (v := .string (bs x.fl.a)) 3 rfl (o + 20) (a0g HOx.out rfl); have yf1 := hI.out.frozen 3 rfl (o + 20); have yo2 := hI.out.cell (v := .string (bs x.fl.b)) 3 rfl (o + 21) (a0g HOx.out rfl); have yf2 := hI.out.frozen 3 rfl (o + 21); go_wp2; exact StepI.mk (zh (St.setO ((St.setO ((St.setO (hI.out) 3 rfl HOx.out 19 (show 19 < 30 by decide) (.bool (negB (x.ce.val))))) 3 rfl HOx.out 20 (show 20 < 30 by decide) (.string (bs (numB (x.ce.val)))))) 3 rfl HOx.out 21 (show 21 < 30 by decide) (.string (bs (a0a (x.ce.val))))))
 ·have e30 := H.n 2 30; clear H hI; rw [if_neg (by decide)]; go_wp2; exact StepW.mk _
 ·have e37 := H.n 11 37; clear H hI; rw [if_neg (by decide)]; go_wp2; exact StepW.mk _
 intro xx w10 hI hv
 simp only [List.take, List.drop, a0r, Act.put]
 simp only [show xx 0 = _ from hv 0 (by decide) (by decide), show xx 1 = _ from hv 1 (by decide) (by decide), show xx 2 = _ from hv 2 (by decide) (by decide), show xx 3 = _ from hv 3 (by decide) (by decide), show xx 4 = _ from hv 4 (by decide) (by decide), show xx 5 = _ from hv 5 (by decide) (by decide), show xx 6 = _ from hv 6 (by decide) (by decide), show xx 8 = _ from hv 8 (by decide) (by decide), show xx 9 = _ from hv 9 (by decide) (by decide), show xx 11 = _ from hv 11 (by decide) (by decide), show xx 12 = _ from hv 12 (by decide) (by decide)]
 have HS10 : Hid (St w0 (⟨w7.heap.size, #[.bool (negB (x.ce.val)), .string (bs (numB (x.ce.val))), .string (bs (a0a (x.ce.val)))], 40⟩ :: ⟨w5.heap.size, #[.bool (negB (e.am.val)), .string (bs (numB (e.am.val))), .string (bs (a0a (e.am.val)))], 40⟩ :: ⟨w.heap.size, e.enc.toArray, 44⟩ :: ⟨g, (offA pre ((((x.enc.set 14 (.int .i64 2)).set 19 (.bool (negB (x.ce.val)))).set 20 (.string (bs (numB (x.ce.val))))).set 21 (.string (bs (a0a (x.ce.val))))) post), 57⟩ :: R0) w10) := hI
 clear hv hI HS8
 have x14 := cC (v := .int .i64 e.day) HS10 2 1
 have x15 := HS10.out.cell (v := .bool x.ad.n) 3 rfl (o + 22) (a0g HOx.out rfl)
 have x16 := HS10.out.cell (v := .string (bs x.ad.a)) 3 rfl (o + 23) (a0g HOx.out rfl)
 have x17 := HS10.out.cell (v := .string (bs x.ad.b)) 3 rfl (o + 24) (a0g HOx.out rfl)
 have x18 := HS10.out.cell (v := .int .i64 x.chg) 3 rfl (o + 29) (a0g HOx.out rfl)
 have x19 := HS10.out.frozen 3 rfl (o + 22)
 have x20 := HS10.out.frozen 3 rfl (o + 23)
 have x21 := HS10.out.frozen 3 rfl (o + 24)
 have x22 := HS10.out.frozen 3 rfl (o + 29)
 have x23 := cN HS10 3 0
 have x24 := cN HS10 0 3
 have x25 := cN HS10 3 1
 have x26 := cN HS10 1 3
 have x27 := cN HS10 3 2
 have x28 := cN HS10 2 3
 go_wp2
 go_ret
 have HS11 : Hid (St w0 (⟨w7.heap.size, #[.bool (negB (x.ce.val)), .string (bs (numB (x.ce.val))), .string (bs (a0a (x.ce.val)))], 40⟩ :: ⟨w5.heap.size, #[.bool (negB (e.am.val)), .string (bs (numB (e.am.val))), .string (bs (a0a (e.am.val)))], 40⟩ :: ⟨w.heap.size, e.enc.toArray, 44⟩ :: ⟨g, (offA pre ((((((((x.enc.set 14 (.int .i64 2)).set 19 (.bool (negB (x.ce.val)))).set 20 (.string (bs (numB (x.ce.val))))).set 21 (.string (bs (a0a (x.ce.val))))).set 22 (.bool (negB (x.ce.val)))).set 23 (.string (bs (numB (x.ce.val))))).set 24 (.string (bs (a0a (x.ce.val))))).set 29 (.int .i64 e.day)) post), 57⟩ :: R0) _) := zh (St.setO ((St.setO ((St.setO ((St.setO (HS10.out) 3 rfl HOx.out 22 (show 22 < 30 by decide) (.bool (negB (x.ce.val))))) 3 rfl HOx.out 23 (show 23 < 30 by decide) (.string (bs (numB (x.ce.val)))))) 3 rfl HOx.out 24 (show 24 < 30 by decide) (.string (bs (a0a (x.ce.val)))))) 3 rfl HOx.out 29 (show 29 < 30 by decide) (.int .i64 e.day))
 rw [R.out.1, R.out.2]
 exact ⟨rfl, HS11.out.sub (List.Sublist.cons _ (List.Sublist.cons _ (List.Sublist.cons _ (List.Sublist.refl _))))⟩
end Go.Proofs.YtoighiepglclkaaGreatDoor
