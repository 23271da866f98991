/-
Part 35 of the base.
-/
import Derived.Test.YtlkhoommpkndpaaGreatDoorKa33
import Derived.Test.YtlkhoommpkndpaaGreatDoorKa34
import Derived.Test.YtlkhoommpkndpaaGreatDoorKa18
namespace Go.Proofs.YtlkhoommpkndpaaGreatDoor
open Go.RowKit

def finE (x : Ent) (e : Evt) : Ent := if (changeE x e).2 = 0 then { (changeE x e).1 with chg := e.day } else x
theorem finE_ok {x y : Ent} {e : Evt} (h : changeE x e = (y, 0)) : finE x e = { y with chg := e.day } ∧ (changeE x e).2 = 0 := by
 unfold finE
 rw [h]
 exact ⟨if_pos rfl, rfl⟩
theorem finE_err {x : Ent} {e : Evt} {n : Int} (h : changeE x e = (x, n)) (hn : n ≠ 0) : finE x e = x ∧ (changeE x e).2 = n := by
 unfold finE
 rw [h]
 exact ⟨if_neg hn, rfl⟩
theorem kind_not {k n : Int} {b : Bool} (h : b = (k == n)) (hb : b = false) : ¬ k = n := by
 rw [hb] at h
 intro e
 rw [e] at h
 simp at h
theorem kind_is {k n : Int} {b : Bool} (h : b = (k == n)) (hb : b = true) : k = n := by
 rw [hb] at h
 exact eq_of_beq h.symm
theorem enc3_size {t : Raw3} (h : t.a.length ≤ 1000000 ∧ t.b.length ≤ 1000000) : (enc3 t.val).a.length ≤ 1000000 ∧ (enc3 t.val).b.length ≤ 1000000 := by
 have hs : Sized 1000000 t.val := sized_dec h.1 h.2 (by decide)
 exact ⟨hs.num, hs.denom⟩

set_option maxRecDepth 100000 in
set_option maxHeartbeats 4000000 in
theorem register_change (x : Ent) (e : Evt) (g o : Nat) (pre post : List Value) (w0 w : World) (R0 : List Own) (hs : St w0 (⟨g, offA pre x.enc post, 63⟩ :: R0) w) (ho : pre.length = o)
  (h1 : (e.am.a.length ≤ 1000000 ∧ e.am.b.length ≤ 1000000)) (h2 : (x.ce.a.length ≤ 1000000 ∧ x.ce.b.length ≤ 1000000)) (h3 : (x.fl.a.length ≤ 1000000 ∧ x.fl.b.length ≤ 1000000)) (h4 : (x.ad.a.length ≤ 1000000 ∧ x.ad.b.length ≤ 1000000)) (hk : 2 ≤ e.kind ∧ e.kind ≤ 9) :
  Calls Tryz.prog 58 #[.pointer (some ⟨g, o, none⟩), .agg #[.int .i64 e.kind, .int .i64 e.day, .string (bs e.id), .bool e.am.n, .string (bs e.am.a), .string (bs e.am.b), .int .i64 e.cre, .string (bs e.p.id), .int .i64 e.p.est, .int .i64 e.p.cre, .string (bs e.p.code), .bool e.p.an, .string (bs e.p.aa), .string (bs e.p.ab), .int .i64 e.p.inc, .int .i64 e.p.rank, .bool e.p.rn, .string (bs e.p.ra), .string (bs e.p.rb), .int .i64 e.p.rf, .int .i64 e.p.sec]] w fun r w' => r = .returned (.int .i64 (changeE x e).2) ∧ St w0 (⟨g, offA pre (finE x e).enc post, 63⟩ :: R0) w' := by
 have HS := Lib.hid hs
 have hal := fun W => register_allows e.kind x.st W
 have hca := fun W => register_clean e.am W h1
 have hcc := fun W => register_clean x.ce W h2
 have hcd := fun W => register_clean x.ad W h4
 have hb3 := fun W => register_between (enc3 e.am.val) zero3 x.ce W (enc3_size h1) (by decide) h2
 have hb4 := fun W => register_between (enc3 e.am.val) x.fl x.ce W (enc3_size h1) h3 h2
 rw [enc3_val] at hb3 hb4
 rw [show zero3.val = 0 from dec_zero3] at hb3
 unfold rat at hca hcc hcd
 unfold raw at hca hcc hcd hb3 hb4
 dsimp only [enc3, zero3] at hb3 hb4
 obtain ⟨aB, haB⟩ : ∃ y, y = allowB e.kind x.st := ⟨_, rfl⟩
 obtain ⟨i3, hi3⟩ : ∃ y, y = inB e.am.val 0 x.ce.val := ⟨_, rfl⟩
 obtain ⟨i4, hi4⟩ : ∃ y, y = inB e.am.val x.fl.val x.ce.val := ⟨_, rfl⟩
 rw [← haB] at hal
 rw [← hi3] at hb3
 rw [← hi4] at hb4
 obtain ⟨k2, hk2⟩ : ∃ y, y = (e.kind == 2) := ⟨_, rfl⟩
 have f2 := hk2.symm
 obtain ⟨k3, hk3⟩ : ∃ y, y = (e.kind == 3) := ⟨_, rfl⟩
 have f3 := hk3.symm
 obtain ⟨k4, hk4⟩ : ∃ y, y = (e.kind == 4) := ⟨_, rfl⟩
 have f4 := hk4.symm
 obtain ⟨k5, hk5⟩ : ∃ y, y = (e.kind == 5) := ⟨_, rfl⟩
 have f5 := hk5.symm
 obtain ⟨k6, hk6⟩ : ∃ y, y = (e.kind == 6) := ⟨_, rfl⟩
 have f6 := hk6.symm
 obtain ⟨k9, hk9⟩ : ∃ y, y = (e.kind == 9) := ⟨_, rfl⟩
 have f9 := hk9.symm
 obtain ⟨k7, hk7⟩ : ∃ y, y = (e.kind == 7) := ⟨_, rfl⟩
 have f7 := hk7.symm
 obtain ⟨k8, hk8⟩ : ∃ y, y = (e.kind == 8) := ⟨_, rfl⟩
 have f8 := hk8.symm
 obtain ⟨c1, hc1⟩ : ∃ y, y = decide (e.cre < 0) := ⟨_, rfl⟩
 obtain ⟨c2, hc2⟩ : ∃ y, y = decide (32 ≤ e.cre) := ⟨_, rfl⟩
 obtain ⟨c3, hc3⟩ : ∃ y, y = (e.cre == x.p.cre) := ⟨_, rfl⟩
 have g1 := hc1.symm
 have g2 := hc2.symm
 have g3 := hc3.symm
 have HALx := Lib.hid hal
 have HCAx := Lib.hid hca
 have HCCx := Lib.hid hcc
 have HCDx := Lib.hid hcd
 have HB3x := Lib.hid hb3
 have HB4x := Lib.hid hb4
 have HABx := Lib.hid haB
 have HI3x := Lib.hid hi3
 have HI4x := Lib.hid hi4
 have HK2x := Lib.hid hk2
 have HK3x := Lib.hid hk3
 have HK4x := Lib.hid hk4
 have HK5x := Lib.hid hk5
 have HK6x := Lib.hid hk6
 have HK9x := Lib.hid hk9
 have HK7x := Lib.hid hk7
 have HK8x := Lib.hid hk8
 have HC1x := Lib.hid hc1
 have HC2x := Lib.hid hc2
 have HC3x := Lib.hid hc3
 have HOx := Lib.hid ho
 have HKx := Lib.hid hk
 clear hs h1 h2 h3 h4 hal hca hcc hcd hb3 hb4 haB hi3 hi4 hk2 hk3 hk4 hk5 hk6 hk9 hk7 hk8 hc1 hc2 hc3 ho hk
 go_enter Tryz.func58, Tryz.ntmps58
 go_wp2
 have HS2 := Lib.hid (St.alloc (HS.out) #[.int .i64 e.kind, .int .i64 e.day, .string (bs e.id), .bool e.am.n, .string (bs e.am.a), .string (bs e.am.b), .int .i64 e.cre, .string (bs e.p.id), .int .i64 e.p.est, .int .i64 e.p.cre, .string (bs e.p.code), .bool e.p.an, .string (bs e.p.aa), .string (bs e.p.ab), .int .i64 e.p.inc, .int .i64 e.p.rank, .bool e.p.rn, .string (bs e.p.ra), .string (bs e.p.rb), .int .i64 e.p.rf, .int .i64 e.p.sec] 56 (w.heap.size) (by simp))
 clear HS
 refine wp_region_eq 7 [.pointer (some ⟨w.heap.size, 0, none⟩), .int .i64 e.kind, .pointer (some ⟨g, o, none⟩), .pointer (some ⟨g, o, none⟩), .pointer (some ⟨g, o + 14, none⟩), .int .i64 x.st, .bool aB] rfl (by kernel_rfl) (by kernel_rfl) (by kernel_rfl) ?_ ?_
 refine ⟨?_, ?_, ?_, ?_, ?_, ?_, ?_, trivial⟩
 ·intro xx af wv hbx hev hev0 hd; have e3 : af.tmps[3]?.getD undef = .pointer (some ⟨w.heap.size, 0, none⟩) := hev0 3 rfl; clear hev hev0 hd; go_wp2; exact sQ rfl
 ·intro xx af wv hbx hev hev0 hd; have e8 := (hev 0 _ 8 rfl rfl).trans (hd ⟨0, .data⟩ (by simp) rfl); clear hev hev0 hd; have hs1 := Lib.hid (HS2.out.call hbx); have y0 := hs1.out.cell (v := .int .i64 e.kind) 0 rfl 0 rfl; go_wp2; exact sQ rfl
 ·intro xx af wv hbx hev hev0 hd; have e0 : af.tmps[0]?.getD undef = .pointer (some ⟨g, o, none⟩) := hev0 0 rfl; clear hev hev0 hd; go_wp2; exact sQ rfl
 ·intro xx af wv hbx hev hev0 hd; have e10 := (hev 2 _ 10 rfl rfl).trans (hd ⟨2, .data⟩ (by simp) rfl); clear hev hev0 hd; go_wp2; exact sQ rfl
 ·intro xx af wv hbx hev hev0 hd; have e11 := (hev 3 _ 11 rfl rfl).trans (hd ⟨3, .data⟩ (by simp) rfl); clear hev hev0 hd; go_wp2; exact sQ rfl
 ·intro xx af wv hbx hev hev0 hd; have e12 := (hev 4 _ 12 rfl rfl).trans (hd ⟨4, .data⟩ (by simp) rfl); clear hev hev0 hd; have hs1 := Lib.hid (HS2.out.call hbx); have yo0 := hs1.out.cell (v := .int .i64 x.st) 1 rfl (o + 14) (offA_cell HOx.out rfl); go_wp2; exact sQ rfl
 ·intro xx af wv hbx hev hev0 hd
  have e9 := (hev 1 _ 9 rfl rfl).trans (hd ⟨1, .data⟩ (by simp) rfl)
  have e13 := (hev 5 _ 13 rfl rfl).trans (hd ⟨5, .data⟩ (by simp) rfl)
  clear hev hev0 hd
  go_wp2_with fail
  refine (HALx.out _).mono ?_
  rintro e w8 ⟨rfl, rfl⟩
  go_wp2
  exact sQ rfl
 intro xx w4 hb9 hv
 simp only [List.take, List.drop, fillA, Act.put]
 simp only [show xx 0 = _ from hv 0 (by decide), show xx 1 = _ from hv 1 (by decide), show xx 2 = _ from hv 2 (by decide), show xx 3 = _ from hv 3 (by decide), show xx 4 = _ from hv 4 (by decide), show xx 5 = _ from hv 5 (by decide), show xx 6 = _ from hv 6 (by decide)]
 clear hv
 have HS4 := Lib.hid (HS2.out.call hb9)
 clear hb9 HS2
 go_upto_if 15 with fail
 cases aB
 ·have R := Lib.hid (finE_err (show changeE x e = (x, 13) by unfold changeE; rw [if_pos HABx.out.symm]) (by decide))
  go_wp2
  go_ret
  have HS5 := Lib.hid HS4.out
  rw [R.out.1, R.out.2]
  exact ⟨rfl, HS5.out.sub (List.Sublist.cons _ (List.Sublist.refl _))⟩
 ·have x1 := HS4.out.cell (v := .bool e.am.n) 0 rfl 3 rfl
  have x2 := HS4.out.cell (v := .string (bs e.am.a)) 0 rfl 4 rfl
  have x3 := HS4.out.cell (v := .string (bs e.am.b)) 0 rfl 5 rfl
  go_wp2_with fail
  refine (HCAx.out _).mono ?_
  rintro e w5 ⟨rfl, hb5⟩
  have HS5 := Lib.hid (HS4.out.call hb5)
  clear hb5 HS4
  clear x1 x2 x3
  have x4 := HS5.out.cell (v := .int .i64 e.kind) 0 rfl 0 rfl
  have x5 := HS5.out.lt 0 rfl
  have x6 : ¬ w.heap.size = w5.heap.size := by omega
  have x7 : ¬ w5.heap.size = w.heap.size := by omega
  go_upto_if 21 with fail
  clear x4 x5 x6 x7
  cases k2
  ·go_upto_if 39 with fail
   cases k3
   ·go_upto_if 60 with fail
    cases k4
    ·go_upto_if 80 with fail
     cases k5
     ·go_upto_if 85 with fail
      cases k6
      ·go_upto_if 113 with fail
       cases k9
       ·go_upto_if 131 with fail
        cases k7
        ·have n2 := kind_not HK2x.out rfl
         have n3 := kind_not HK3x.out rfl
         have n4 := kind_not HK4x.out rfl
         have n5 := kind_not HK5x.out rfl
         have n6 := kind_not HK6x.out rfl
         have n9 := kind_not HK9x.out rfl
         have n7 := kind_not HK7x.out rfl
         have hk8 : k8 = true := by have := HKx.out; rw [HK8x.out, beq_iff_eq]; omega
         clear n2 n3 n4 n5 n6 n9 n7
         subst hk8
         cases c1
         ·cases c2
          ·cases c3
           ·have R := Lib.hid (finE_ok (show changeE x e = ({ x with p := { x.p with cre := e.cre }, acq := e.day }, 0) by unfold changeE; rw [if_neg (by rw [← HABx.out]; decide), if_neg (kind_not HK2x.out rfl), if_neg (kind_not HK3x.out rfl), if_neg (kind_not HK4x.out rfl), if_neg (kind_not HK5x.out rfl), if_neg (kind_not HK6x.out rfl), if_neg (kind_not HK9x.out rfl), if_neg (kind_not HK7x.out rfl), if_neg (fun h => h.elim (of_decide_eq_false HC1x.out.symm) (fun h => h.elim (of_decide_eq_false HC2x.out.symm) (fun h => by have z := HC3x.out; rw [h] at z; simp at z)))]))
            go_wp2
            have HS6 := Lib.hid (St.alloc (HS5.out) #[.bool (negB (e.am.val)), .string (bs (numB (e.am.val))), .string (bs (denomB (e.am.val)))] 34 (w5.heap.size) (by simp))
            clear HS5
            refine wp_region_eq 17 [.pointer (some ⟨w.heap.size, 6, none⟩), .int .i64 e.cre, .bool false, .bool false, .pointer (some ⟨w.heap.size, 6, none⟩), .int .i64 e.cre, .bool false, .bool false, .bool false, .pointer (some ⟨w.heap.size, 6, none⟩), .int .i64 e.cre, .pointer (some ⟨g, o, none⟩), .pointer (some ⟨g, o, none⟩), .pointer (some ⟨g, o, none⟩), .pointer (some ⟨g, o + 2, none⟩), .int .i64 x.p.cre, .bool false] rfl (by kernel_rfl) (by kernel_rfl) (by kernel_rfl) ?_ ?_
            refine ⟨?_, ?_, ?_, ?_, ?_, ?_, ?_, ?_, ?_, ?_, ?_, ?_, ?_, ?_, ?_, ?_, ?_, trivial⟩
            ·intro xx af wv hbx hev hev0 hd; have e3 : af.tmps[3]?.getD undef = .pointer (some ⟨w.heap.size, 0, none⟩) := hev0 3 rfl; clear hev hev0 hd; go_wp2; exact sQ rfl
            ·intro xx af wv hbx hev hev0 hd; have e150 := (hev 0 _ 150 rfl rfl).trans (hd ⟨0, .data⟩ (by simp) rfl); clear hev hev0 hd; have hs1 := Lib.hid (HS6.out.call hbx); have y0 := hs1.out.cell (v := .int .i64 e.cre) 1 rfl 6 rfl; go_wp2; exact sQ rfl
            ·intro xx af wv hbx hev hev0 hd; have e151 := (hev 1 _ 151 rfl rfl).trans (hd ⟨1, .data⟩ (by simp) rfl); clear hev hev0 hd; go_wp2; exact sQ rfl
            ·intro xx af wv hbx hev hev0 hd; have e152 := (hev 2 _ 152 rfl rfl).trans (hd ⟨2, .data⟩ (by simp) rfl); clear hev hev0 hd; go_wp2; exact sQ rfl
            ·intro xx af wv hbx hev hev0 hd; have e153 := (hev 3 _ 153 rfl rfl).trans (hd ⟨3, .guard⟩ (by simp) rfl); have e3 : af.tmps[3]?.getD undef = .pointer (some ⟨w.heap.size, 0, none⟩) := hev0 3 rfl; have q153 := getD_bool e153; clear hev hev0 hd; go_wp2; exact sQ rfl
            ·intro xx af wv hbx hev hev0 hd; have e153 := (hev 3 _ 153 rfl rfl).trans (hd ⟨3, .guard⟩ (by simp) rfl); have e154 := (hev 4 _ 154 rfl rfl).trans (hd ⟨4, .data⟩ (by simp) rfl); have q153 := getD_bool e153; clear hev hev0 hd; have hs1 := Lib.hid (HS6.out.call hbx); have y0 := hs1.out.cell (v := .int .i64 e.cre) 1 rfl 6 rfl; go_wp2; exact sQ rfl
            ·intro xx af wv hbx hev hev0 hd; have e153 := (hev 3 _ 153 rfl rfl).trans (hd ⟨3, .guard⟩ (by simp) rfl); have e155 := (hev 5 _ 155 rfl rfl).trans (hd ⟨5, .data⟩ (by simp) rfl); have q153 := getD_bool e153; clear hev hev0 hd; go_wp2; exact sQ rfl
            ·intro xx af wv hbx hev hev0 hd; have e153 := (hev 3 _ 153 rfl rfl).trans (hd ⟨3, .data⟩ (by simp) rfl); have e156 := (hev 6 _ 156 rfl rfl).trans (hd ⟨6, .data⟩ (by simp) rfl); clear hev hev0 hd; go_wp2; exact sQ rfl
            ·intro xx af wv hbx hev hev0 hd; have e157 := (hev 7 _ 157 rfl rfl).trans (hd ⟨7, .data⟩ (by simp) rfl); clear hev hev0 hd; go_wp2; exact sQ rfl
            ·intro xx af wv hbx hev hev0 hd; have e158 := (hev 8 _ 158 rfl rfl).trans (hd ⟨8, .guard⟩ (by simp) rfl); have e3 : af.tmps[3]?.getD undef = .pointer (some ⟨w.heap.size, 0, none⟩) := hev0 3 rfl; have q158 := getD_bool e158; clear hev hev0 hd; go_wp2; exact sQ rfl
            ·intro xx af wv hbx hev hev0 hd; have e158 := (hev 8 _ 158 rfl rfl).trans (hd ⟨8, .guard⟩ (by simp) rfl); have e159 := (hev 9 _ 159 rfl rfl).trans (hd ⟨9, .data⟩ (by simp) rfl); have q158 := getD_bool e158; clear hev hev0 hd; have hs1 := Lib.hid (HS6.out.call hbx); have y0 := hs1.out.cell (v := .int .i64 e.cre) 1 rfl 6 rfl; go_wp2; exact sQ rfl
            ·intro xx af wv hbx hev hev0 hd; have e158 := (hev 8 _ 158 rfl rfl).trans (hd ⟨8, .guard⟩ (by simp) rfl); have e0 : af.tmps[0]?.getD undef = .pointer (some ⟨g, o, none⟩) := hev0 0 rfl; have q158 := getD_bool e158; clear hev hev0 hd; go_wp2; exact sQ rfl
            ·intro xx af wv hbx hev hev0 hd; have e158 := (hev 8 _ 158 rfl rfl).trans (hd ⟨8, .guard⟩ (by simp) rfl); have e161 := (hev 11 _ 161 rfl rfl).trans (hd ⟨11, .data⟩ (by simp) rfl); have q158 := getD_bool e158; clear hev hev0 hd; go_wp2; exact sQ rfl
            ·intro xx af wv hbx hev hev0 hd; have e158 := (hev 8 _ 158 rfl rfl).trans (hd ⟨8, .guard⟩ (by simp) rfl); have e162 := (hev 12 _ 162 rfl rfl).trans (hd ⟨12, .data⟩ (by simp) rfl); have q158 := getD_bool e158; clear hev hev0 hd; go_wp2; exact sQ rfl
            ·intro xx af wv hbx hev hev0 hd; have e158 := (hev 8 _ 158 rfl rfl).trans (hd ⟨8, .guard⟩ (by simp) rfl); have e163 := (hev 13 _ 163 rfl rfl).trans (hd ⟨13, .data⟩ (by simp) rfl); have q158 := getD_bool e158; clear hev hev0 hd; go_wp2; exact sQ rfl
            ·intro xx af wv hbx hev hev0 hd; have e158 := (hev 8 _ 158 rfl rfl).trans (hd ⟨8, .guard⟩ (by simp) rfl); have e164 := (hev 14 _ 164 rfl rfl).trans (hd ⟨14, .data⟩ (by simp) rfl); have q158 := getD_bool e158; clear hev hev0 hd; have hs1 := Lib.hid (HS6.out.call hbx); have yo0 := hs1.out.cell (v := .int .i64 x.p.cre) 2 rfl (o + 2) (offA_cell HOx.out rfl); go_wp2; exact sQ rfl
            ·intro xx af wv hbx hev hev0 hd; have e158 := (hev 8 _ 158 rfl rfl).trans (hd ⟨8, .guard⟩ (by simp) rfl); have e160 := (hev 10 _ 160 rfl rfl).trans (hd ⟨10, .data⟩ (by simp) rfl); have e165 := (hev 15 _ 165 rfl rfl).trans (hd ⟨15, .data⟩ (by simp) rfl); have q158 := getD_bool e158; clear hev hev0 hd; go_wp2; exact sQ rfl
            intro xx w8 hb9 hv
            simp only [List.take, List.drop, fillA, Act.put]
            simp only [show xx 0 = _ from hv 0 (by decide), show xx 1 = _ from hv 1 (by decide), show xx 2 = _ from hv 2 (by decide), show xx 3 = _ from hv 3 (by decide), show xx 4 = _ from hv 4 (by decide), show xx 5 = _ from hv 5 (by decide), show xx 6 = _ from hv 6 (by decide), show xx 7 = _ from hv 7 (by decide), show xx 8 = _ from hv 8 (by decide), show xx 9 = _ from hv 9 (by decide), show xx 10 = _ from hv 10 (by decide), show xx 11 = _ from hv 11 (by decide), show xx 12 = _ from hv 12 (by decide), show xx 13 = _ from hv 13 (by decide), show xx 14 = _ from hv 14 (by decide), show xx 15 = _ from hv 15 (by decide), show xx 16 = _ from hv 16 (by decide)]
            clear hv
            have HS8 := Lib.hid (HS6.out.call hb9)
            clear hb9 HS6
            go_wp2
            refine wp_region_stores 12 [9] [.pointer (some ⟨g, o, none⟩), .pointer (some ⟨g, o, none⟩), .pointer (some ⟨w.heap.size, 6, none⟩), .int .i64 e.cre, .pointer (some ⟨w.heap.size, 1, none⟩), .int .i64 e.day, .pointer (some ⟨g, o, none⟩), .pointer (some ⟨g, o, none⟩), .pointer (some ⟨g, o + 2, none⟩), undef, .pointer (some ⟨g, o, none⟩), .pointer (some ⟨g, o + 28, none⟩)] (fun k wv _ => Hid (St w0 (⟨w5.heap.size, #[.bool (negB (e.am.val)), .string (bs (numB (e.am.val))), .string (bs (denomB (e.am.val)))], 34⟩ :: ⟨w.heap.size, e.enc.toArray, 56⟩ :: ⟨g, (offA pre (([x.enc, (x.enc.set 2 (.int .i64 e.cre))] : List (List Value)).getD k []) post), 63⟩ :: R0) wv)) rfl (by kernel_rfl) (by kernel_rfl) (by kernel_rfl) (by kernel_rfl) (by decide) (by decide) (Lib.hid HS8.out.drew) ?_ ?_
            refine ⟨?_, ?_, ?_, ?_, ?_, ?_, ?_, ?_, ?_, ?_, ?_, ?_, trivial⟩
            ·intro xx af wv k hk hI hev hev0 hd; have e0 : af.tmps[0]?.getD undef = .pointer (some ⟨g, o, none⟩) := hev0 0 rfl; clear hev hev0 hd hI; rw [if_neg (by decide)]; go_wp2; exact StepW.mk _
            ·intro xx af wv k hk hI hev hev0 hd; have e0 : af.tmps[0]?.getD undef = .pointer (some ⟨g, o, none⟩) := hev0 0 rfl; clear hev hev0 hd hI; rw [if_neg (by decide)]; go_wp2; exact StepW.mk _
            ·intro xx af wv k hk hI hev hev0 hd; have e3 : af.tmps[3]?.getD undef = .pointer (some ⟨w.heap.size, 0, none⟩) := hev0 3 rfl; clear hev hev0 hd hI; rw [if_neg (by decide)]; go_wp2; exact StepW.mk _
            ·intro xx af wv k hk hI hev hev0 hd; have e170 := (hev 2 _ 170 rfl rfl).trans (hd ⟨2, .data⟩ (by simp) rfl (by decide)); clear hev hev0 hd; have y0 := hI.out.cell (v := .int .i64 e.cre) 1 rfl 6 rfl; clear hI; rw [if_neg (by decide)]; go_wp2; exact StepW.mk _
            ·intro xx af wv k hk hI hev hev0 hd; have e3 : af.tmps[3]?.getD undef = .pointer (some ⟨w.heap.size, 0, none⟩) := hev0 3 rfl; clear hev hev0 hd hI; rw [if_neg (by decide)]; go_wp2; exact StepW.mk _
            ·intro xx af wv k hk hI hev hev0 hd; have e172 := (hev 4 _ 172 rfl rfl).trans (hd ⟨4, .data⟩ (by simp) rfl (by decide)); clear hev hev0 hd; have y0 := hI.out.cell (v := .int .i64 e.day) 1 rfl 1 rfl; clear hI; rw [if_neg (by decide)]; go_wp2; exact StepW.mk _
            ·intro xx af wv k hk hI hev hev0 hd; have e168 := (hev 0 _ 168 rfl rfl).trans (hd ⟨0, .data⟩ (by simp) rfl (by decide)); clear hev hev0 hd hI; rw [if_neg (by decide)]; go_wp2; exact StepW.mk _
            ·intro xx af wv k hk hI hev hev0 hd; have e174 := (hev 6 _ 174 rfl rfl).trans (hd ⟨6, .data⟩ (by simp) rfl (by decide)); clear hev hev0 hd hI; rw [if_neg (by decide)]; go_wp2; exact StepW.mk _
            ·intro xx af wv k hk hI hev hev0 hd; have e175 := (hev 7 _ 175 rfl rfl).trans (hd ⟨7, .data⟩ (by simp) rfl (by decide)); clear hev hev0 hd hI; rw [if_neg (by decide)]; go_wp2; exact StepW.mk _
            ·intro xx af wv k hk hI hev hev0 hd; have e176 := (hev 8 _ 176 rfl rfl).trans (hd ⟨8, .data⟩ (by simp) rfl (by decide)); have e171 := (hev 3 _ 171 rfl rfl).trans (hd ⟨3, .data⟩ (by simp) rfl (by decide)); clear hev hev0 hd; rw [if_pos (by decide)]; intro hk0; obtain rfl : k = 0 := hk0; have yo0 := hI.out.cell (v := .int .i64 x.p.cre) 2 rfl (o + 2) (offA_cell HOx.out rfl); have yf0 := hI.out.frozen 2 rfl (o + 2); go_wp2; exact StepI.mk (Lib.hid (St.setO (hI.out) 2 rfl HOx.out 2 (show 2 < 30 by decide) (.int .i64 e.cre)))
            ·intro xx af wv k hk hI hev hev0 hd; have e169 := (hev 1 _ 169 rfl rfl).trans (hd ⟨1, .data⟩ (by simp) rfl (by decide)); clear hev hev0 hd hI; rw [if_neg (by decide)]; go_wp2; exact StepW.mk _
            ·intro xx af wv k hk hI hev hev0 hd; have e177 := (hev 10 _ 177 rfl rfl).trans (hd ⟨10, .data⟩ (by simp) rfl (by decide)); clear hev hev0 hd hI; rw [if_neg (by decide)]; go_wp2; exact StepW.mk _
            intro xx w9 hI hv
            simp only [List.take, List.drop, fillA, Act.put]
            simp only [show xx 0 = _ from hv 0 (by decide) (by decide), show xx 1 = _ from hv 1 (by decide) (by decide), show xx 2 = _ from hv 2 (by decide) (by decide), show xx 3 = _ from hv 3 (by decide) (by decide), show xx 4 = _ from hv 4 (by decide) (by decide), show xx 5 = _ from hv 5 (by decide) (by decide), show xx 6 = _ from hv 6 (by decide) (by decide), show xx 7 = _ from hv 7 (by decide) (by decide), show xx 8 = _ from hv 8 (by decide) (by decide), show xx 10 = _ from hv 10 (by decide) (by decide), show xx 11 = _ from hv 11 (by decide) (by decide)]
            have HS9 : Hid (St w0 (⟨w5.heap.size, #[.bool (negB (e.am.val)), .string (bs (numB (e.am.val))), .string (bs (denomB (e.am.val)))], 34⟩ :: ⟨w.heap.size, e.enc.toArray, 56⟩ :: ⟨g, (offA pre (x.enc.set 2 (.int .i64 e.cre)) post), 63⟩ :: R0) w9) := hI
            clear hv hI HS8
            have x8 := HS9.out.cell (v := .int .i64 e.day) 1 rfl 1 rfl
            have x9 := HS9.out.cell (v := .int .i64 x.acq) 2 rfl (o + 28) (offA_cell HOx.out rfl)
            have x10 := HS9.out.cell (v := .int .i64 x.chg) 2 rfl (o + 29) (offA_cell HOx.out rfl)
            have x11 := HS9.out.frozen 2 rfl (o + 28)
            have x12 := HS9.out.frozen 2 rfl (o + 29)
            have x13 := HS9.out.ne 2 0 rfl rfl (by decide)
            have x14 := HS9.out.ne 0 2 rfl rfl (by decide)
            have x15 := HS9.out.ne 2 1 rfl rfl (by decide)
            have x16 := HS9.out.ne 1 2 rfl rfl (by decide)
            go_wp2
            go_ret
            have HS10 : Hid (St w0 (⟨w5.heap.size, #[.bool (negB (e.am.val)), .string (bs (numB (e.am.val))), .string (bs (denomB (e.am.val)))], 34⟩ :: ⟨w.heap.size, e.enc.toArray, 56⟩ :: ⟨g, (offA pre (((x.enc.set 2 (.int .i64 e.cre)).set 28 (.int .i64 e.day)).set 29 (.int .i64 e.day)) post), 63⟩ :: R0) _) := Lib.hid (St.setO ((St.setO (HS9.out) 2 rfl HOx.out 28 (show 28 < 30 by decide) (.int .i64 e.day))) 2 rfl HOx.out 29 (show 29 < 30 by decide) (.int .i64 e.day))
            rw [R.out.1, R.out.2]
            exact ⟨rfl, HS10.out.sub (List.Sublist.cons _ (List.Sublist.cons _ (List.Sublist.refl _)))⟩
           ·have R := Lib.hid (finE_err (show changeE x e = (x, 14) by unfold changeE; rw [if_neg (by rw [← HABx.out]; decide), if_neg (kind_not HK2x.out rfl), if_neg (kind_not HK3x.out rfl), if_neg (kind_not HK4x.out rfl), if_neg (kind_not HK5x.out rfl), if_neg (kind_not HK6x.out rfl), if_neg (kind_not HK9x.out rfl), if_neg (kind_not HK7x.out rfl), if_pos (.inr (.inr (eq_of_beq HC3x.out.symm)))]) (by decide))
            go_wp2
            have HS6 := Lib.hid (St.alloc (HS5.out) #[.bool (negB (e.am.val)), .string (bs (numB (e.am.val))), .string (bs (denomB (e.am.val)))] 34 (w5.heap.size) (by simp))
            clear HS5
            refine wp_region_eq 17 [.pointer (some ⟨w.heap.size, 6, none⟩), .int .i64 e.cre, .bool false, .bool false, .pointer (some ⟨w.heap.size, 6, none⟩), .int .i64 e.cre, .bool false, .bool false, .bool false, .pointer (some ⟨w.heap.size, 6, none⟩), .int .i64 e.cre, .pointer (some ⟨g, o, none⟩), .pointer (some ⟨g, o, none⟩), .pointer (some ⟨g, o, none⟩), .pointer (some ⟨g, o + 2, none⟩), .int .i64 x.p.cre, .bool true] rfl (by kernel_rfl) (by kernel_rfl) (by kernel_rfl) ?_ ?_
            refine ⟨?_, ?_, ?_, ?_, ?_, ?_, ?_, ?_, ?_, ?_, ?_, ?_, ?_, ?_, ?_, ?_, ?_, trivial⟩
            ·intro xx af wv hbx hev hev0 hd; have e3 : af.tmps[3]?.getD undef = .pointer (some ⟨w.heap.size, 0, none⟩) := hev0 3 rfl; clear hev hev0 hd; go_wp2; exact sQ rfl
            ·intro xx af wv hbx hev hev0 hd; have e150 := (hev 0 _ 150 rfl rfl).trans (hd ⟨0, .data⟩ (by simp) rfl); clear hev hev0 hd; have hs1 := Lib.hid (HS6.out.call hbx); have y0 := hs1.out.cell (v := .int .i64 e.cre) 1 rfl 6 rfl; go_wp2; exact sQ rfl
            ·intro xx af wv hbx hev hev0 hd; have e151 := (hev 1 _ 151 rfl rfl).trans (hd ⟨1, .data⟩ (by simp) rfl); clear hev hev0 hd; go_wp2; exact sQ rfl
            ·intro xx af wv hbx hev hev0 hd; have e152 := (hev 2 _ 152 rfl rfl).trans (hd ⟨2, .data⟩ (by simp) rfl); clear hev hev0 hd; go_wp2; exact sQ rfl
            ·intro xx af wv hbx hev hev0 hd; have e153 := (hev 3 _ 153 rfl rfl).trans (hd ⟨3, .guard⟩ (by simp) rfl); have e3 : af.tmps[3]?.getD undef = .pointer (some ⟨w.heap.size, 0, none⟩) := hev0 3 rfl; have q153 := getD_bool e153; clear hev hev0 hd; go_wp2; exact sQ rfl
            ·intro xx af wv hbx hev hev0 hd; have e153 := (hev 3 _ 153 rfl rfl).trans (hd ⟨3, .guard⟩ (by simp) rfl); have e154 := (hev 4 _ 154 rfl rfl).trans (hd ⟨4, .data⟩ (by simp) rfl); have q153 := getD_bool e153; clear hev hev0 hd; have hs1 := Lib.hid (HS6.out.call hbx); have y0 := hs1.out.cell (v := .int .i64 e.cre) 1 rfl 6 rfl; go_wp2; exact sQ rfl
            ·intro xx af wv hbx hev hev0 hd; have e153 := (hev 3 _ 153 rfl rfl).trans (hd ⟨3, .guard⟩ (by simp) rfl); have e155 := (hev 5 _ 155 rfl rfl).trans (hd ⟨5, .data⟩ (by simp) rfl); have q153 := getD_bool e153; clear hev hev0 hd; go_wp2; exact sQ rfl
            ·intro xx af wv hbx hev hev0 hd; have e153 := (hev 3 _ 153 rfl rfl).trans (hd ⟨3, .data⟩ (by simp) rfl); have e156 := (hev 6 _ 156 rfl rfl).trans (hd ⟨6, .data⟩ (by simp) rfl); clear hev hev0 hd; go_wp2; exact sQ rfl
            ·intro xx af wv hbx hev hev0 hd; have e157 := (hev 7 _ 157 rfl rfl).trans (hd ⟨7, .data⟩ (by simp) rfl); clear hev hev0 hd; go_wp2; exact sQ rfl
            ·intro xx af wv hbx hev hev0 hd; have e158 := (hev 8 _ 158 rfl rfl).trans (hd ⟨8, .guard⟩ (by simp) rfl); have e3 : af.tmps[3]?.getD undef = .pointer (some ⟨w.heap.size, 0, none⟩) := hev0 3 rfl; have q158 := getD_bool e158; clear hev hev0 hd; go_wp2; exact sQ rfl
            ·intro xx af wv hbx hev hev0 hd; have e158 := (hev 8 _ 158 rfl rfl).trans (hd ⟨8, .guard⟩ (by simp) rfl); have e159 := (hev 9 _ 159 rfl rfl).trans (hd ⟨9, .data⟩ (by simp) rfl); have q158 := getD_bool e158; clear hev hev0 hd; have hs1 := Lib.hid (HS6.out.call hbx); have y0 := hs1.out.cell (v := .int .i64 e.cre) 1 rfl 6 rfl; go_wp2; exact sQ rfl
            ·intro xx af wv hbx hev hev0 hd; have e158 := (hev 8 _ 158 rfl rfl).trans (hd ⟨8, .guard⟩ (by simp) rfl); have e0 : af.tmps[0]?.getD undef = .pointer (some ⟨g, o, none⟩) := hev0 0 rfl; have q158 := getD_bool e158; clear hev hev0 hd; go_wp2; exact sQ rfl
            ·intro xx af wv hbx hev hev0 hd; have e158 := (hev 8 _ 158 rfl rfl).trans (hd ⟨8, .guard⟩ (by simp) rfl); have e161 := (hev 11 _ 161 rfl rfl).trans (hd ⟨11, .data⟩ (by simp) rfl); have q158 := getD_bool e158; clear hev hev0 hd; go_wp2; exact sQ rfl
            ·intro xx af wv hbx hev hev0 hd; have e158 := (hev 8 _ 158 rfl rfl).trans (hd ⟨8, .guard⟩ (by simp) rfl); have e162 := (hev 12 _ 162 rfl rfl).trans (hd ⟨12, .data⟩ (by simp) rfl); have q158 := getD_bool e158; clear hev hev0 hd; go_wp2; exact sQ rfl
            ·intro xx af wv hbx hev hev0 hd; have e158 := (hev 8 _ 158 rfl rfl).trans (hd ⟨8, .guard⟩ (by simp) rfl); have e163 := (hev 13 _ 163 rfl rfl).trans (hd ⟨13, .data⟩ (by simp) rfl); have q158 := getD_bool e158; clear hev hev0 hd; go_wp2; exact sQ rfl
            ·intro xx af wv hbx hev hev0 hd; have e158 := (hev 8 _ 158 rfl rfl).trans (hd ⟨8, .guard⟩ (by simp) rfl); have e164 := (hev 14 _ 164 rfl rfl).trans (hd ⟨14, .data⟩ (by simp) rfl); have q158 := getD_bool e158; clear hev hev0 hd; have hs1 := Lib.hid (HS6.out.call hbx); have yo0 := hs1.out.cell (v := .int .i64 x.p.cre) 2 rfl (o + 2) (offA_cell HOx.out rfl); go_wp2; exact sQ rfl
            ·intro xx af wv hbx hev hev0 hd; have e158 := (hev 8 _ 158 rfl rfl).trans (hd ⟨8, .guard⟩ (by simp) rfl); have e160 := (hev 10 _ 160 rfl rfl).trans (hd ⟨10, .data⟩ (by simp) rfl); have e165 := (hev 15 _ 165 rfl rfl).trans (hd ⟨15, .data⟩ (by simp) rfl); have q158 := getD_bool e158; clear hev hev0 hd; go_wp2; exact sQ rfl
            intro xx w8 hb9 hv
            simp only [List.take, List.drop, fillA, Act.put]
            simp only [show xx 0 = _ from hv 0 (by decide), show xx 1 = _ from hv 1 (by decide), show xx 2 = _ from hv 2 (by decide), show xx 3 = _ from hv 3 (by decide), show xx 4 = _ from hv 4 (by decide), show xx 5 = _ from hv 5 (by decide), show xx 6 = _ from hv 6 (by decide), show xx 7 = _ from hv 7 (by decide), show xx 8 = _ from hv 8 (by decide), show xx 9 = _ from hv 9 (by decide), show xx 10 = _ from hv 10 (by decide), show xx 11 = _ from hv 11 (by decide), show xx 12 = _ from hv 12 (by decide), show xx 13 = _ from hv 13 (by decide), show xx 14 = _ from hv 14 (by decide), show xx 15 = _ from hv 15 (by decide), show xx 16 = _ from hv 16 (by decide)]
            clear hv
            have HS8 := Lib.hid (HS6.out.call hb9)
            clear hb9 HS6
            go_wp2
            go_ret
            have HS9 := Lib.hid HS8.out
            rw [R.out.1, R.out.2]
            exact ⟨rfl, HS9.out.sub (List.Sublist.cons _ (List.Sublist.cons _ (List.Sublist.refl _)))⟩
          ·have R := Lib.hid (finE_err (show changeE x e = (x, 14) by unfold changeE; rw [if_neg (by rw [← HABx.out]; decide), if_neg (kind_not HK2x.out rfl), if_neg (kind_not HK3x.out rfl), if_neg (kind_not HK4x.out rfl), if_neg (kind_not HK5x.out rfl), if_neg (kind_not HK6x.out rfl), if_neg (kind_not HK9x.out rfl), if_neg (kind_not HK7x.out rfl), if_pos (.inr (.inl (of_decide_eq_true HC2x.out.symm)))]) (by decide))
           go_wp2
           have HS6 := Lib.hid (St.alloc (HS5.out) #[.bool (negB (e.am.val)), .string (bs (numB (e.am.val))), .string (bs (denomB (e.am.val)))] 34 (w5.heap.size) (by simp))
           clear HS5
           refine wp_region_eq 17 [.pointer (some ⟨w.heap.size, 6, none⟩), .int .i64 e.cre, .bool false, .bool false, .pointer (some ⟨w.heap.size, 6, none⟩), .int .i64 e.cre, .bool true, .bool true, .bool true, undef, undef, undef, undef, undef, undef, undef, undef] rfl (by kernel_rfl) (by kernel_rfl) (by kernel_rfl) ?_ ?_
           refine ⟨?_, ?_, ?_, ?_, ?_, ?_, ?_, ?_, ?_, ?_, ?_, ?_, ?_, ?_, ?_, ?_, ?_, trivial⟩
           ·intro xx af wv hbx hev hev0 hd; have e3 : af.tmps[3]?.getD undef = .pointer (some ⟨w.heap.size, 0, none⟩) := hev0 3 rfl; clear hev hev0 hd; go_wp2; exact sQ rfl
           ·intro xx af wv hbx hev hev0 hd; have e150 := (hev 0 _ 150 rfl rfl).trans (hd ⟨0, .data⟩ (by simp) rfl); clear hev hev0 hd; have hs1 := Lib.hid (HS6.out.call hbx); have y0 := hs1.out.cell (v := .int .i64 e.cre) 1 rfl 6 rfl; go_wp2; exact sQ rfl
           ·intro xx af wv hbx hev hev0 hd; have e151 := (hev 1 _ 151 rfl rfl).trans (hd ⟨1, .data⟩ (by simp) rfl); clear hev hev0 hd; go_wp2; exact sQ rfl
           ·intro xx af wv hbx hev hev0 hd; have e152 := (hev 2 _ 152 rfl rfl).trans (hd ⟨2, .data⟩ (by simp) rfl); clear hev hev0 hd; go_wp2; exact sQ rfl
           ·intro xx af wv hbx hev hev0 hd; have e153 := (hev 3 _ 153 rfl rfl).trans (hd ⟨3, .guard⟩ (by simp) rfl); have e3 : af.tmps[3]?.getD undef = .pointer (some ⟨w.heap.size, 0, none⟩) := hev0 3 rfl; have q153 := getD_bool e153; clear hev hev0 hd; go_wp2; exact sQ rfl
           ·intro xx af wv hbx hev hev0 hd; have e153 := (hev 3 _ 153 rfl rfl).trans (hd ⟨3, .guard⟩ (by simp) rfl); have e154 := (hev 4 _ 154 rfl rfl).trans (hd ⟨4, .data⟩ (by simp) rfl); have q153 := getD_bool e153; clear hev hev0 hd; have hs1 := Lib.hid (HS6.out.call hbx); have y0 := hs1.out.cell (v := .int .i64 e.cre) 1 rfl 6 rfl; go_wp2; exact sQ rfl
           ·intro xx af wv hbx hev hev0 hd; have e153 := (hev 3 _ 153 rfl rfl).trans (hd ⟨3, .guard⟩ (by simp) rfl); have e155 := (hev 5 _ 155 rfl rfl).trans (hd ⟨5, .data⟩ (by simp) rfl); have q153 := getD_bool e153; clear hev hev0 hd; go_wp2; exact sQ rfl
           ·intro xx af wv hbx hev hev0 hd; have e153 := (hev 3 _ 153 rfl rfl).trans (hd ⟨3, .data⟩ (by simp) rfl); have e156 := (hev 6 _ 156 rfl rfl).trans (hd ⟨6, .data⟩ (by simp) rfl); clear hev hev0 hd; go_wp2; exact sQ rfl
           ·intro xx af wv hbx hev hev0 hd; have e157 := (hev 7 _ 157 rfl rfl).trans (hd ⟨7, .data⟩ (by simp) rfl); clear hev hev0 hd; go_wp2; exact sQ rfl
           ·intro xx af wv hbx hev hev0 hd; have e158 := (hev 8 _ 158 rfl rfl).trans (hd ⟨8, .guard⟩ (by simp) rfl); have q158 := getD_bool e158; clear hev hev0 hd; go_wp2; exact sQ rfl
           ·intro xx af wv hbx hev hev0 hd; have e158 := (hev 8 _ 158 rfl rfl).trans (hd ⟨8, .guard⟩ (by simp) rfl); have q158 := getD_bool e158; clear hev hev0 hd; go_wp2; exact sQ rfl
           ·intro xx af wv hbx hev hev0 hd; have e158 := (hev 8 _ 158 rfl rfl).trans (hd ⟨8, .guard⟩ (by simp) rfl); have q158 := getD_bool e158; clear hev hev0 hd; go_wp2; exact sQ rfl
           ·intro xx af wv hbx hev hev0 hd; have e158 := (hev 8 _ 158 rfl rfl).trans (hd ⟨8, .guard⟩ (by simp) rfl); have q158 := getD_bool e158; clear hev hev0 hd; go_wp2; exact sQ rfl
           ·intro xx af wv hbx hev hev0 hd; have e158 := (hev 8 _ 158 rfl rfl).trans (hd ⟨8, .guard⟩ (by simp) rfl); have q158 := getD_bool e158; clear hev hev0 hd; go_wp2; exact sQ rfl
           ·intro xx af wv hbx hev hev0 hd; have e158 := (hev 8 _ 158 rfl rfl).trans (hd ⟨8, .guard⟩ (by simp) rfl); have q158 := getD_bool e158; clear hev hev0 hd; go_wp2; exact sQ rfl
           ·intro xx af wv hbx hev hev0 hd; have e158 := (hev 8 _ 158 rfl rfl).trans (hd ⟨8, .guard⟩ (by simp) rfl); have q158 := getD_bool e158; clear hev hev0 hd; go_wp2; exact sQ rfl
           ·intro xx af wv hbx hev hev0 hd; have e158 := (hev 8 _ 158 rfl rfl).trans (hd ⟨8, .guard⟩ (by simp) rfl); have q158 := getD_bool e158; clear hev hev0 hd; go_wp2; exact sQ rfl
           intro xx w8 hb9 hv
           simp only [List.take, List.drop, fillA, Act.put]
           simp only [show xx 0 = _ from hv 0 (by decide), show xx 1 = _ from hv 1 (by decide), show xx 2 = _ from hv 2 (by decide), show xx 3 = _ from hv 3 (by decide), show xx 4 = _ from hv 4 (by decide), show xx 5 = _ from hv 5 (by decide), show xx 6 = _ from hv 6 (by decide), show xx 7 = _ from hv 7 (by decide), show xx 8 = _ from hv 8 (by decide), show xx 9 = _ from hv 9 (by decide), show xx 10 = _ from hv 10 (by decide), show xx 11 = _ from hv 11 (by decide), show xx 12 = _ from hv 12 (by decide), show xx 13 = _ from hv 13 (by decide), show xx 14 = _ from hv 14 (by decide), show xx 15 = _ from hv 15 (by decide), show xx 16 = _ from hv 16 (by decide)]
           clear hv
           have HS8 := Lib.hid (HS6.out.call hb9)
           clear hb9 HS6
           go_wp2
           go_ret
           have HS9 := Lib.hid HS8.out
           rw [R.out.1, R.out.2]
           exact ⟨rfl, HS9.out.sub (List.Sublist.cons _ (List.Sublist.cons _ (List.Sublist.refl _)))⟩
         ·have R := Lib.hid (finE_err (show changeE x e = (x, 14) by unfold changeE; rw [if_neg (by rw [← HABx.out]; decide), if_neg (kind_not HK2x.out rfl), if_neg (kind_not HK3x.out rfl), if_neg (kind_not HK4x.out rfl), if_neg (kind_not HK5x.out rfl), if_neg (kind_not HK6x.out rfl), if_neg (kind_not HK9x.out rfl), if_neg (kind_not HK7x.out rfl), if_pos (.inl (of_decide_eq_true HC1x.out.symm))]) (by decide))
          go_wp2
          have HS6 := Lib.hid (St.alloc (HS5.out) #[.bool (negB (e.am.val)), .string (bs (numB (e.am.val))), .string (bs (denomB (e.am.val)))] 34 (w5.heap.size) (by simp))
          clear HS5
          refine wp_region_eq 17 [.pointer (some ⟨w.heap.size, 6, none⟩), .int .i64 e.cre, .bool true, .bool true, undef, undef, undef, .bool true, .bool true, undef, undef, undef, undef, undef, undef, undef, undef] rfl (by kernel_rfl) (by kernel_rfl) (by kernel_rfl) ?_ ?_
          refine ⟨?_, ?_, ?_, ?_, ?_, ?_, ?_, ?_, ?_, ?_, ?_, ?_, ?_, ?_, ?_, ?_, ?_, trivial⟩
          ·intro xx af wv hbx hev hev0 hd; have e3 : af.tmps[3]?.getD undef = .pointer (some ⟨w.heap.size, 0, none⟩) := hev0 3 rfl; clear hev hev0 hd; go_wp2; exact sQ rfl
          ·intro xx af wv hbx hev hev0 hd; have e150 := (hev 0 _ 150 rfl rfl).trans (hd ⟨0, .data⟩ (by simp) rfl); clear hev hev0 hd; have hs1 := Lib.hid (HS6.out.call hbx); have y0 := hs1.out.cell (v := .int .i64 e.cre) 1 rfl 6 rfl; go_wp2; exact sQ rfl
          ·intro xx af wv hbx hev hev0 hd; have e151 := (hev 1 _ 151 rfl rfl).trans (hd ⟨1, .data⟩ (by simp) rfl); clear hev hev0 hd; go_wp2; exact sQ rfl
          ·intro xx af wv hbx hev hev0 hd; have e152 := (hev 2 _ 152 rfl rfl).trans (hd ⟨2, .data⟩ (by simp) rfl); clear hev hev0 hd; go_wp2; exact sQ rfl
          ·intro xx af wv hbx hev hev0 hd; have e153 := (hev 3 _ 153 rfl rfl).trans (hd ⟨3, .guard⟩ (by simp) rfl); have q153 := getD_bool e153; clear hev hev0 hd; go_wp2; exact sQ rfl
          ·intro xx af wv hbx hev hev0 hd; have e153 := (hev 3 _ 153 rfl rfl).trans (hd ⟨3, .guard⟩ (by simp) rfl); have q153 := getD_bool e153; clear hev hev0 hd; go_wp2; exact sQ rfl
          ·intro xx af wv hbx hev hev0 hd; have e153 := (hev 3 _ 153 rfl rfl).trans (hd ⟨3, .guard⟩ (by simp) rfl); have q153 := getD_bool e153; clear hev hev0 hd; go_wp2; exact sQ rfl
          ·intro xx af wv hbx hev hev0 hd; have e153 := (hev 3 _ 153 rfl rfl).trans (hd ⟨3, .data⟩ (by simp) rfl); have e156 := (hev 6 _ 156 rfl rfl).trans (hd ⟨6, .data⟩ (by simp) rfl); clear hev hev0 hd; go_wp2; exact sQ rfl
          ·intro xx af wv hbx hev hev0 hd; have e157 := (hev 7 _ 157 rfl rfl).trans (hd ⟨7, .data⟩ (by simp) rfl); clear hev hev0 hd; go_wp2; exact sQ rfl
          ·intro xx af wv hbx hev hev0 hd; have e158 := (hev 8 _ 158 rfl rfl).trans (hd ⟨8, .guard⟩ (by simp) rfl); have q158 := getD_bool e158; clear hev hev0 hd; go_wp2; exact sQ rfl
          ·intro xx af wv hbx hev hev0 hd; have e158 := (hev 8 _ 158 rfl rfl).trans (hd ⟨8, .guard⟩ (by simp) rfl); have q158 := getD_bool e158; clear hev hev0 hd; go_wp2; exact sQ rfl
          ·intro xx af wv hbx hev hev0 hd; have e158 := (hev 8 _ 158 rfl rfl).trans (hd ⟨8, .guard⟩ (by simp) rfl); have q158 := getD_bool e158; clear hev hev0 hd; go_wp2; exact sQ rfl
          ·intro xx af wv hbx hev hev0 hd; have e158 := (hev 8 _ 158 rfl rfl).trans (hd ⟨8, .guard⟩ (by simp) rfl); have q158 := getD_bool e158; clear hev hev0 hd; go_wp2; exact sQ rfl
          ·intro xx af wv hbx hev hev0 hd; have e158 := (hev 8 _ 158 rfl rfl).trans (hd ⟨8, .guard⟩ (by simp) rfl); have q158 := getD_bool e158; clear hev hev0 hd; go_wp2; exact sQ rfl
          ·intro xx af wv hbx hev hev0 hd; have e158 := (hev 8 _ 158 rfl rfl).trans (hd ⟨8, .guard⟩ (by simp) rfl); have q158 := getD_bool e158; clear hev hev0 hd; go_wp2; exact sQ rfl
          ·intro xx af wv hbx hev hev0 hd; have e158 := (hev 8 _ 158 rfl rfl).trans (hd ⟨8, .guard⟩ (by simp) rfl); have q158 := getD_bool e158; clear hev hev0 hd; go_wp2; exact sQ rfl
          ·intro xx af wv hbx hev hev0 hd; have e158 := (hev 8 _ 158 rfl rfl).trans (hd ⟨8, .guard⟩ (by simp) rfl); have q158 := getD_bool e158; clear hev hev0 hd; go_wp2; exact sQ rfl
          intro xx w8 hb9 hv
          simp only [List.take, List.drop, fillA, Act.put]
          simp only [show xx 0 = _ from hv 0 (by decide), show xx 1 = _ from hv 1 (by decide), show xx 2 = _ from hv 2 (by decide), show xx 3 = _ from hv 3 (by decide), show xx 4 = _ from hv 4 (by decide), show xx 5 = _ from hv 5 (by decide), show xx 6 = _ from hv 6 (by decide), show xx 7 = _ from hv 7 (by decide), show xx 8 = _ from hv 8 (by decide), show xx 9 = _ from hv 9 (by decide), show xx 10 = _ from hv 10 (by decide), show xx 11 = _ from hv 11 (by decide), show xx 12 = _ from hv 12 (by decide), show xx 13 = _ from hv 13 (by decide), show xx 14 = _ from hv 14 (by decide), show xx 15 = _ from hv 15 (by decide), show xx 16 = _ from hv 16 (by decide)]
          clear hv
          have HS8 := Lib.hid (HS6.out.call hb9)
          clear hb9 HS6
          go_wp2
          go_ret
          have HS9 := Lib.hid HS8.out
          rw [R.out.1, R.out.2]
          exact ⟨rfl, HS9.out.sub (List.Sublist.cons _ (List.Sublist.cons _ (List.Sublist.refl _)))⟩
        ·have R := Lib.hid (finE_ok (show changeE x e = ({ x with st := 7, fl := zero3, ad := zero3, ce := zero3 }, 0) by unfold changeE; rw [if_neg (by rw [← HABx.out]; decide), if_neg (kind_not HK2x.out rfl), if_neg (kind_not HK3x.out rfl), if_neg (kind_not HK4x.out rfl), if_neg (kind_not HK5x.out rfl), if_neg (kind_not HK6x.out rfl), if_neg (kind_not HK9x.out rfl), if_pos (kind_is HK7x.out rfl)]))
         have x8 := HS5.out.cell (v := .int .i64 e.day) 0 rfl 1 rfl
         have x9 := HS5.out.cell (v := .int .i64 x.st) 1 rfl (o + 14) (offA_cell HOx.out rfl)
         have x10 := HS5.out.cell (v := .bool x.fl.n) 1 rfl (o + 19) (offA_cell HOx.out rfl)
         have x11 := HS5.out.cell (v := .string (bs x.fl.a)) 1 rfl (o + 20) (offA_cell HOx.out rfl)
         have x12 := HS5.out.cell (v := .string (bs x.fl.b)) 1 rfl (o + 21) (offA_cell HOx.out rfl)
         have x13 := HS5.out.cell (v := .bool x.ad.n) 1 rfl (o + 22) (offA_cell HOx.out rfl)
         have x14 := HS5.out.cell (v := .string (bs x.ad.a)) 1 rfl (o + 23) (offA_cell HOx.out rfl)
         have x15 := HS5.out.cell (v := .string (bs x.ad.b)) 1 rfl (o + 24) (offA_cell HOx.out rfl)
         have x16 := HS5.out.cell (v := .bool x.ce.n) 1 rfl (o + 25) (offA_cell HOx.out rfl)
         have x17 := HS5.out.cell (v := .string (bs x.ce.a)) 1 rfl (o + 26) (offA_cell HOx.out rfl)
         have x18 := HS5.out.cell (v := .string (bs x.ce.b)) 1 rfl (o + 27) (offA_cell HOx.out rfl)
         have x19 := HS5.out.cell (v := .int .i64 x.chg) 1 rfl (o + 29) (offA_cell HOx.out rfl)
         have x20 := HS5.out.frozen 1 rfl (o + 14)
         have x21 := HS5.out.frozen 1 rfl (o + 19)
         have x22 := HS5.out.frozen 1 rfl (o + 20)
         have x23 := HS5.out.frozen 1 rfl (o + 21)
         have x24 := HS5.out.frozen 1 rfl (o + 22)
         have x25 := HS5.out.frozen 1 rfl (o + 23)
         have x26 := HS5.out.frozen 1 rfl (o + 24)
         have x27 := HS5.out.frozen 1 rfl (o + 25)
         have x28 := HS5.out.frozen 1 rfl (o + 26)
         have x29 := HS5.out.frozen 1 rfl (o + 27)
         have x30 := HS5.out.frozen 1 rfl (o + 29)
         have x31 := HS5.out.ne 1 0 rfl rfl (by decide)
         have x32 := HS5.out.ne 0 1 rfl rfl (by decide)
         have x33 := HS5.out.lt 0 rfl
         have x34 : ¬ w.heap.size = w5.heap.size := by omega
         have x35 : ¬ w5.heap.size = w.heap.size := by omega
         have x36 := HS5.out.lt 1 rfl
         have x37 : ¬ g = w5.heap.size := by omega
         have x38 : ¬ w5.heap.size = g := by omega
         go_wp2
         go_ret
         have HS6 : Hid (St w0 (⟨w5.heap.size, #[.bool (negB (e.am.val)), .string (bs (numB (e.am.val))), .string (bs (denomB (e.am.val)))], 34⟩ :: ⟨w.heap.size, e.enc.toArray, 56⟩ :: ⟨g, (offA pre (((((((((((x.enc.set 14 (.int .i64 7)).set 19 (.bool false)).set 20 (.string (bs []))).set 21 (.string (bs []))).set 22 (.bool false)).set 23 (.string (bs []))).set 24 (.string (bs []))).set 25 (.bool false)).set 26 (.string (bs []))).set 27 (.string (bs []))).set 29 (.int .i64 e.day)) post), 63⟩ :: R0) _) := Lib.hid (St.alloc ((St.setO ((St.setO ((St.setO ((St.setO ((St.setO ((St.setO ((St.setO ((St.setO ((St.setO ((St.setO ((St.setO (HS5.out) 1 rfl HOx.out 14 (show 14 < 30 by decide) (.int .i64 7))) 1 rfl HOx.out 19 (show 19 < 30 by decide) (.bool false))) 1 rfl HOx.out 20 (show 20 < 30 by decide) (.string (bs [])))) 1 rfl HOx.out 21 (show 21 < 30 by decide) (.string (bs [])))) 1 rfl HOx.out 22 (show 22 < 30 by decide) (.bool false))) 1 rfl HOx.out 23 (show 23 < 30 by decide) (.string (bs [])))) 1 rfl HOx.out 24 (show 24 < 30 by decide) (.string (bs [])))) 1 rfl HOx.out 25 (show 25 < 30 by decide) (.bool false))) 1 rfl HOx.out 26 (show 26 < 30 by decide) (.string (bs [])))) 1 rfl HOx.out 27 (show 27 < 30 by decide) (.string (bs [])))) 1 rfl HOx.out 29 (show 29 < 30 by decide) (.int .i64 e.day))) #[.bool (negB (e.am.val)), .string (bs (numB (e.am.val))), .string (bs (denomB (e.am.val)))] 34 (w5.heap.size) (by simp))
         rw [R.out.1, R.out.2]
         exact ⟨rfl, HS6.out.sub (List.Sublist.cons _ (List.Sublist.cons _ (List.Sublist.refl _)))⟩
       ·have R := Lib.hid (finE_ok (show changeE x e = ({ x with st := 6, fl := enc3 x.ad.val, ce := enc3 x.ad.val }, 0) by unfold changeE; rw [if_neg (by rw [← HABx.out]; decide), if_neg (kind_not HK2x.out rfl), if_neg (kind_not HK3x.out rfl), if_neg (kind_not HK4x.out rfl), if_neg (kind_not HK5x.out rfl), if_neg (kind_not HK6x.out rfl), if_pos (kind_is HK9x.out rfl)]))
        have x8 := HS5.out.cell (v := .bool x.ad.n) 1 rfl (o + 22) (offA_cell HOx.out rfl)
        have x9 := HS5.out.cell (v := .string (bs x.ad.a)) 1 rfl (o + 23) (offA_cell HOx.out rfl)
        have x10 := HS5.out.cell (v := .string (bs x.ad.b)) 1 rfl (o + 24) (offA_cell HOx.out rfl)
        have x11 := HS5.out.lt 1 rfl
        have x12 : ¬ g = w5.heap.size := by omega
        have x13 : ¬ w5.heap.size = g := by omega
        go_wp2_with fail
        have HS6 := Lib.hid (St.alloc (HS5.out) #[.bool (negB (e.am.val)), .string (bs (numB (e.am.val))), .string (bs (denomB (e.am.val)))] 34 (w5.heap.size) (by simp))
        refine (HCDx.out _).mono ?_
        rintro e w7 ⟨rfl, hb7⟩
        have HS7 := Lib.hid (HS6.out.call hb7)
        clear hb7 HS5 HS6
        clear x8 x9 x10 x11 x12 x13
        go_wp2
        have HS8 := Lib.hid (St.alloc (HS7.out) #[.bool (negB (x.ad.val)), .string (bs (numB (x.ad.val))), .string (bs (denomB (x.ad.val)))] 34 (w7.heap.size) (by simp))
        clear HS7
        refine wp_region_stores 13 [7, 10] [.pointer (some ⟨g, o, none⟩), .pointer (some ⟨g, o, none⟩), .pointer (some ⟨g, o, none⟩), .agg #[.bool (negB (x.ad.val)), .string (bs (numB (x.ad.val))), .string (bs (denomB (x.ad.val)))], .agg #[.bool (negB (x.ad.val)), .string (bs (numB (x.ad.val))), .string (bs (denomB (x.ad.val)))], .pointer (some ⟨g, o, none⟩), .pointer (some ⟨g, o + 14, none⟩), undef, .pointer (some ⟨g, o, none⟩), .pointer (some ⟨g, o + 19, none⟩), undef, .pointer (some ⟨g, o, none⟩), .pointer (some ⟨g, o + 25, none⟩)] (fun k wv _ => Hid (St w0 (⟨w7.heap.size, #[.bool (negB (x.ad.val)), .string (bs (numB (x.ad.val))), .string (bs (denomB (x.ad.val)))], 34⟩ :: ⟨w5.heap.size, #[.bool (negB (e.am.val)), .string (bs (numB (e.am.val))), .string (bs (denomB (e.am.val)))], 34⟩ :: ⟨w.heap.size, e.enc.toArray, 56⟩ :: ⟨g, (offA pre (([x.enc, (x.enc.set 14 (.int .i64 6)), ((((x.enc.set 14 (.int .i64 6)).set 19 (.bool (negB (x.ad.val)))).set 20 (.string (bs (numB (x.ad.val))))).set 21 (.string (bs (denomB (x.ad.val)))))] : List (List Value)).getD k []) post), 63⟩ :: R0) wv)) rfl (by kernel_rfl) (by kernel_rfl) (by kernel_rfl) (by kernel_rfl) (by decide) (by decide) (Lib.hid HS8.out.drew) ?_ ?_
        refine ⟨?_, ?_, ?_, ?_, ?_, ?_, ?_, ?_, ?_, ?_, ?_, ?_, ?_, trivial⟩
        ·intro xx af wv k hk hI hev hev0 hd; have e0 : af.tmps[0]?.getD undef = .pointer (some ⟨g, o, none⟩) := hev0 0 rfl; clear hev hev0 hd hI; rw [if_neg (by decide)]; go_wp2; exact StepW.mk _
        ·intro xx af wv k hk hI hev hev0 hd; have e0 : af.tmps[0]?.getD undef = .pointer (some ⟨g, o, none⟩) := hev0 0 rfl; clear hev hev0 hd hI; rw [if_neg (by decide)]; go_wp2; exact StepW.mk _
        ·intro xx af wv k hk hI hev hev0 hd; have e0 : af.tmps[0]?.getD undef = .pointer (some ⟨g, o, none⟩) := hev0 0 rfl; clear hev hev0 hd hI; rw [if_neg (by decide)]; go_wp2; exact StepW.mk _
        ·intro xx af wv k hk hI hev hev0 hd; have e7 : af.tmps[7]?.getD undef = .pointer (some ⟨w7.heap.size, 0, none⟩) := hev0 7 rfl; clear hev hev0 hd; have y0 := hI.out.cell 0 rfl 0 rfl; have y1 := hI.out.cell 0 rfl 1 rfl; have y2 := hI.out.cell 0 rfl 2 rfl; clear hI; rw [if_neg (by decide)]; go_wp2; exact StepW.mk _
        ·intro xx af wv k hk hI hev hev0 hd; have e7 : af.tmps[7]?.getD undef = .pointer (some ⟨w7.heap.size, 0, none⟩) := hev0 7 rfl; clear hev hev0 hd; have y0 := hI.out.cell 0 rfl 0 rfl; have y1 := hI.out.cell 0 rfl 1 rfl; have y2 := hI.out.cell 0 rfl 2 rfl; clear hI; rw [if_neg (by decide)]; go_wp2; exact StepW.mk _
        ·intro xx af wv k hk hI hev hev0 hd; have e120 := (hev 0 _ 120 rfl rfl).trans (hd ⟨0, .data⟩ (by simp) rfl (by decide)); clear hev hev0 hd hI; rw [if_neg (by decide)]; go_wp2; exact StepW.mk _
        ·intro xx af wv k hk hI hev hev0 hd; have e125 := (hev 5 _ 125 rfl rfl).trans (hd ⟨5, .data⟩ (by simp) rfl (by decide)); clear hev hev0 hd hI; rw [if_neg (by decide)]; go_wp2; exact StepW.mk _
        ·intro xx af wv k hk hI hev hev0 hd; have e126 := (hev 6 _ 126 rfl rfl).trans (hd ⟨6, .data⟩ (by simp) rfl (by decide)); clear hev hev0 hd; rw [if_pos (by decide)]; intro hk0; obtain rfl : k = 0 := hk0; have yo0 := hI.out.cell (v := .int .i64 x.st) 3 rfl (o + 14) (offA_cell HOx.out rfl); have yf0 := hI.out.frozen 3 rfl (o + 14); go_wp2; exact StepI.mk (Lib.hid (St.setO (hI.out) 3 rfl HOx.out 14 (show 14 < 30 by decide) (.int .i64 6)))
        ·intro xx af wv k hk hI hev hev0 hd; have e121 := (hev 1 _ 121 rfl rfl).trans (hd ⟨1, .data⟩ (by simp) rfl (by decide)); clear hev hev0 hd hI; rw [if_neg (by decide)]; go_wp2; exact StepW.mk _
        ·intro xx af wv k hk hI hev hev0 hd; have e127 := (hev 8 _ 127 rfl rfl).trans (hd ⟨8, .data⟩ (by simp) rfl (by decide)); clear hev hev0 hd hI; rw [if_neg (by decide)]; go_wp2; exact StepW.mk _
        ·intro xx af wv k hk hI hev hev0 hd; have e128 := (hev 9 _ 128 rfl rfl).trans (hd ⟨9, .data⟩ (by simp) rfl (by decide)); have e123 := (hev 3 _ 123 rfl rfl).trans (hd ⟨3, .data⟩ (by simp) rfl (by decide)); clear hev hev0 hd; rw [if_pos (by decide)]; intro hk0; obtain rfl : k = 1 := hk0; have yo0 := hI.out.cell (v := .bool x.fl.n) 3 rfl (o + 19) (offA_cell HOx.out rfl); have yf0 := hI.out.frozen 3 rfl (o + 19); have yo1 := hI.out.cell (v := .string (bs x.fl.a)) 3 rfl (o + 20) (offA_cell HOx.out rfl); have yf1 := hI.out.frozen 3 rfl (o + 20); have yo2 := hI.out.cell (v := .string (bs x.fl.b)) 3 rfl (o + 21) (offA_cell HOx.out rfl); have yf2 := hI.out.frozen 3 rfl (o + 21); go_wp2; exact StepI.mk (Lib.hid (St.setO ((St.setO ((St.setO (hI.out) 3 rfl HOx.out 19 (show 19 < 30 by decide) (.bool (negB (x.ad.val))))) 3 rfl HOx.out 20 (show 20 < 30 by decide) (.string (bs (numB (x.ad.val)))))) 3 rfl HOx.out 21 (show 21 < 30 by decide) (.string (bs (denomB (x.ad.val))))))
        ·intro xx af wv k hk hI hev hev0 hd; have e122 := (hev 2 _ 122 rfl rfl).trans (hd ⟨2, .data⟩ (by simp) rfl (by decide)); clear hev hev0 hd hI; rw [if_neg (by decide)]; go_wp2; exact StepW.mk _
        ·intro xx af wv k hk hI hev hev0 hd; have e129 := (hev 11 _ 129 rfl rfl).trans (hd ⟨11, .data⟩ (by simp) rfl (by decide)); clear hev hev0 hd hI; rw [if_neg (by decide)]; go_wp2; exact StepW.mk _
        intro xx w10 hI hv
        simp only [List.take, List.drop, fillA, Act.put]
        simp only [show xx 0 = _ from hv 0 (by decide) (by decide), show xx 1 = _ from hv 1 (by decide) (by decide), show xx 2 = _ from hv 2 (by decide) (by decide), show xx 3 = _ from hv 3 (by decide) (by decide), show xx 4 = _ from hv 4 (by decide) (by decide), show xx 5 = _ from hv 5 (by decide) (by decide), show xx 6 = _ from hv 6 (by decide) (by decide), show xx 8 = _ from hv 8 (by decide) (by decide), show xx 9 = _ from hv 9 (by decide) (by decide), show xx 11 = _ from hv 11 (by decide) (by decide), show xx 12 = _ from hv 12 (by decide) (by decide)]
        have HS10 : Hid (St w0 (⟨w7.heap.size, #[.bool (negB (x.ad.val)), .string (bs (numB (x.ad.val))), .string (bs (denomB (x.ad.val)))], 34⟩ :: ⟨w5.heap.size, #[.bool (negB (e.am.val)), .string (bs (numB (e.am.val))), .string (bs (denomB (e.am.val)))], 34⟩ :: ⟨w.heap.size, e.enc.toArray, 56⟩ :: ⟨g, (offA pre ((((x.enc.set 14 (.int .i64 6)).set 19 (.bool (negB (x.ad.val)))).set 20 (.string (bs (numB (x.ad.val))))).set 21 (.string (bs (denomB (x.ad.val))))) post), 63⟩ :: R0) w10) := hI
        clear hv hI HS8
        have x14 := HS10.out.cell (v := .int .i64 e.day) 2 rfl 1 rfl
        have x15 := HS10.out.cell (v := .bool x.ce.n) 3 rfl (o + 25) (offA_cell HOx.out rfl)
        have x16 := HS10.out.cell (v := .string (bs x.ce.a)) 3 rfl (o + 26) (offA_cell HOx.out rfl)
        have x17 := HS10.out.cell (v := .string (bs x.ce.b)) 3 rfl (o + 27) (offA_cell HOx.out rfl)
        have x18 := HS10.out.cell (v := .int .i64 x.chg) 3 rfl (o + 29) (offA_cell HOx.out rfl)
        have x19 := HS10.out.frozen 3 rfl (o + 25)
        have x20 := HS10.out.frozen 3 rfl (o + 26)
        have x21 := HS10.out.frozen 3 rfl (o + 27)
        have x22 := HS10.out.frozen 3 rfl (o + 29)
        have x23 := HS10.out.ne 3 0 rfl rfl (by decide)
        have x24 := HS10.out.ne 0 3 rfl rfl (by decide)
        have x25 := HS10.out.ne 3 1 rfl rfl (by decide)
        have x26 := HS10.out.ne 1 3 rfl rfl (by decide)
        have x27 := HS10.out.ne 3 2 rfl rfl (by decide)
        have x28 := HS10.out.ne 2 3 rfl rfl (by decide)
        go_wp2
        go_ret
        have HS11 : Hid (St w0 (⟨w7.heap.size, #[.bool (negB (x.ad.val)), .string (bs (numB (x.ad.val))), .string (bs (denomB (x.ad.val)))], 34⟩ :: ⟨w5.heap.size, #[.bool (negB (e.am.val)), .string (bs (numB (e.am.val))), .string (bs (denomB (e.am.val)))], 34⟩ :: ⟨w.heap.size, e.enc.toArray, 56⟩ :: ⟨g, (offA pre ((((((((x.enc.set 14 (.int .i64 6)).set 19 (.bool (negB (x.ad.val)))).set 20 (.string (bs (numB (x.ad.val))))).set 21 (.string (bs (denomB (x.ad.val))))).set 25 (.bool (negB (x.ad.val)))).set 26 (.string (bs (numB (x.ad.val))))).set 27 (.string (bs (denomB (x.ad.val))))).set 29 (.int .i64 e.day)) post), 63⟩ :: R0) _) := Lib.hid (St.setO ((St.setO ((St.setO ((St.setO (HS10.out) 3 rfl HOx.out 25 (show 25 < 30 by decide) (.bool (negB (x.ad.val))))) 3 rfl HOx.out 26 (show 26 < 30 by decide) (.string (bs (numB (x.ad.val)))))) 3 rfl HOx.out 27 (show 27 < 30 by decide) (.string (bs (denomB (x.ad.val)))))) 3 rfl HOx.out 29 (show 29 < 30 by decide) (.int .i64 e.day))
        rw [R.out.1, R.out.2]
        exact ⟨rfl, HS11.out.sub (List.Sublist.cons _ (List.Sublist.cons _ (List.Sublist.cons _ (List.Sublist.refl _))))⟩
      ·go_wp2
       have HS6 := Lib.hid (St.alloc (HS5.out) #[.bool (negB (e.am.val)), .string (bs (numB (e.am.val))), .string (bs (denomB (e.am.val)))] 34 (w5.heap.size) (by simp))
       clear HS5
       refine wp_region_eq 10 [.agg #[.bool (negB (e.am.val)), .string (bs (numB (e.am.val))), .string (bs (denomB (e.am.val)))], .pointer (some ⟨g, o, none⟩), .pointer (some ⟨g, o, none⟩), .pointer (some ⟨g, o + 19, none⟩), .agg #[.bool x.fl.n, .string (bs x.fl.a), .string (bs x.fl.b)], .pointer (some ⟨g, o, none⟩), .pointer (some ⟨g, o, none⟩), .pointer (some ⟨g, o + 25, none⟩), .agg #[.bool x.ce.n, .string (bs x.ce.a), .string (bs x.ce.b)], .bool i4] rfl (by kernel_rfl) (by kernel_rfl) (by kernel_rfl) ?_ ?_
       refine ⟨?_, ?_, ?_, ?_, ?_, ?_, ?_, ?_, ?_, ?_, trivial⟩
       ·intro xx af wv hbx hev hev0 hd; have e5 : af.tmps[5]?.getD undef = .pointer (some ⟨w5.heap.size, 0, none⟩) := hev0 5 rfl; clear hev hev0 hd; have hs1 := Lib.hid (HS6.out.call hbx); obtain ⟨y0, y1, y2⟩ := hs1.out.k0 0 rfl rfl rfl rfl; go_wp2; exact sQ rfl
       ·intro xx af wv hbx hev hev0 hd; have e0 : af.tmps[0]?.getD undef = .pointer (some ⟨g, o, none⟩) := hev0 0 rfl; clear hev hev0 hd; go_wp2; exact sQ rfl
       ·intro xx af wv hbx hev hev0 hd; have e88 := (hev 1 _ 88 rfl rfl).trans (hd ⟨1, .data⟩ (by simp) rfl); clear hev hev0 hd; go_wp2; exact sQ rfl
       ·intro xx af wv hbx hev hev0 hd; have e89 := (hev 2 _ 89 rfl rfl).trans (hd ⟨2, .data⟩ (by simp) rfl); clear hev hev0 hd; go_wp2; exact sQ rfl
       ·intro xx af wv hbx hev hev0 hd; have e90 := (hev 3 _ 90 rfl rfl).trans (hd ⟨3, .data⟩ (by simp) rfl); clear hev hev0 hd; have hs1 := Lib.hid (HS6.out.call hbx); have yo0 := hs1.out.cell (v := .bool x.fl.n) 2 rfl (o + 19) (offA_cell HOx.out rfl); have yo1 := hs1.out.cell (v := .string (bs x.fl.a)) 2 rfl (o + 20) (offA_cell HOx.out rfl); have yo2 := hs1.out.cell (v := .string (bs x.fl.b)) 2 rfl (o + 21) (offA_cell HOx.out rfl); go_wp2; exact sQ rfl
       ·intro xx af wv hbx hev hev0 hd; have e0 : af.tmps[0]?.getD undef = .pointer (some ⟨g, o, none⟩) := hev0 0 rfl; clear hev hev0 hd; go_wp2; exact sQ rfl
       ·intro xx af wv hbx hev hev0 hd; have e92 := (hev 5 _ 92 rfl rfl).trans (hd ⟨5, .data⟩ (by simp) rfl); clear hev hev0 hd; go_wp2; exact sQ rfl
       ·intro xx af wv hbx hev hev0 hd; have e93 := (hev 6 _ 93 rfl rfl).trans (hd ⟨6, .data⟩ (by simp) rfl); clear hev hev0 hd; go_wp2; exact sQ rfl
       ·intro xx af wv hbx hev hev0 hd; have e94 := (hev 7 _ 94 rfl rfl).trans (hd ⟨7, .data⟩ (by simp) rfl); clear hev hev0 hd; have hs1 := Lib.hid (HS6.out.call hbx); have yo0 := hs1.out.cell (v := .bool x.ce.n) 2 rfl (o + 25) (offA_cell HOx.out rfl); have yo1 := hs1.out.cell (v := .string (bs x.ce.a)) 2 rfl (o + 26) (offA_cell HOx.out rfl); have yo2 := hs1.out.cell (v := .string (bs x.ce.b)) 2 rfl (o + 27) (offA_cell HOx.out rfl); go_wp2; exact sQ rfl
       ·intro xx af wv hbx hev hev0 hd
        have e87 := (hev 0 _ 87 rfl rfl).trans (hd ⟨0, .data⟩ (by simp) rfl)
        have e91 := (hev 4 _ 91 rfl rfl).trans (hd ⟨4, .data⟩ (by simp) rfl)
        have e95 := (hev 8 _ 95 rfl rfl).trans (hd ⟨8, .data⟩ (by simp) rfl)
        clear hev hev0 hd
        go_wp2_with fail
        refine (HB4x.out _).mono ?_
        rintro e w8 ⟨rfl, hb8⟩
        go_wp2
        exact StepQ.mk _ hb8 rfl
       intro xx w8 hb9 hv
       simp only [List.take, List.drop, fillA, Act.put]
       simp only [show xx 0 = _ from hv 0 (by decide), show xx 1 = _ from hv 1 (by decide), show xx 2 = _ from hv 2 (by decide), show xx 3 = _ from hv 3 (by decide), show xx 4 = _ from hv 4 (by decide), show xx 5 = _ from hv 5 (by decide), show xx 6 = _ from hv 6 (by decide), show xx 7 = _ from hv 7 (by decide), show xx 8 = _ from hv 8 (by decide), show xx 9 = _ from hv 9 (by decide)]
       clear hv
       have HS8 := Lib.hid (HS6.out.call hb9)
       clear hb9 HS6
       go_upto_if 97 with fail
       cases i4
       ·have R := Lib.hid (finE_err (show changeE x e = (x, 1) by unfold changeE; rw [if_neg (by rw [← HABx.out]; decide), if_neg (kind_not HK2x.out rfl), if_neg (kind_not HK3x.out rfl), if_neg (kind_not HK4x.out rfl), if_neg (kind_not HK5x.out rfl), if_pos (kind_is HK6x.out rfl), if_neg (by rw [← HI4x.out]; decide)]) (by decide))
        go_wp2
        go_ret
        have HS9 := Lib.hid HS8.out
        rw [R.out.1, R.out.2]
        exact ⟨rfl, HS9.out.sub (List.Sublist.cons _ (List.Sublist.cons _ (List.Sublist.refl _)))⟩
       ·have R := Lib.hid (finE_ok (show changeE x e = ({ x with st := 6, fl := enc3 e.am.val, ad := enc3 e.am.val, ce := enc3 e.am.val }, 0) by unfold changeE; rw [if_neg (by rw [← HABx.out]; decide), if_neg (kind_not HK2x.out rfl), if_neg (kind_not HK3x.out rfl), if_neg (kind_not HK4x.out rfl), if_neg (kind_not HK5x.out rfl), if_pos (kind_is HK6x.out rfl), if_pos HI4x.out.symm]))
        go_wp2
        refine wp_region_stores 18 [9, 12, 15] [.pointer (some ⟨g, o, none⟩), .pointer (some ⟨g, o, none⟩), .pointer (some ⟨g, o, none⟩), .pointer (some ⟨g, o, none⟩), .agg #[.bool (negB (e.am.val)), .string (bs (numB (e.am.val))), .string (bs (denomB (e.am.val)))], .agg #[.bool (negB (e.am.val)), .string (bs (numB (e.am.val))), .string (bs (denomB (e.am.val)))], .agg #[.bool (negB (e.am.val)), .string (bs (numB (e.am.val))), .string (bs (denomB (e.am.val)))], .pointer (some ⟨g, o, none⟩), .pointer (some ⟨g, o + 14, none⟩), undef, .pointer (some ⟨g, o, none⟩), .pointer (some ⟨g, o + 19, none⟩), undef, .pointer (some ⟨g, o, none⟩), .pointer (some ⟨g, o + 22, none⟩), undef, .pointer (some ⟨g, o, none⟩), .pointer (some ⟨g, o + 25, none⟩)] (fun k wv _ => Hid (St w0 (⟨w5.heap.size, #[.bool (negB (e.am.val)), .string (bs (numB (e.am.val))), .string (bs (denomB (e.am.val)))], 34⟩ :: ⟨w.heap.size, e.enc.toArray, 56⟩ :: ⟨g, (offA pre (([x.enc, (x.enc.set 14 (.int .i64 6)), ((((x.enc.set 14 (.int .i64 6)).set 19 (.bool (negB (e.am.val)))).set 20 (.string (bs (numB (e.am.val))))).set 21 (.string (bs (denomB (e.am.val))))), (((((((x.enc.set 14 (.int .i64 6)).set 19 (.bool (negB (e.am.val)))).set 20 (.string (bs (numB (e.am.val))))).set 21 (.string (bs (denomB (e.am.val))))).set 22 (.bool (negB (e.am.val)))).set 23 (.string (bs (numB (e.am.val))))).set 24 (.string (bs (denomB (e.am.val)))))] : List (List Value)).getD k []) post), 63⟩ :: R0) wv)) rfl (by kernel_rfl) (by kernel_rfl) (by kernel_rfl) (by kernel_rfl) (by decide) (by decide) (Lib.hid HS8.out.drew) ?_ ?_
        refine ⟨?_, ?_, ?_, ?_, ?_, ?_, ?_, ?_, ?_, ?_, ?_, ?_, ?_, ?_, ?_, ?_, ?_, ?_, trivial⟩
        ·intro xx af wv k hk hI hev hev0 hd; have e0 : af.tmps[0]?.getD undef = .pointer (some ⟨g, o, none⟩) := hev0 0 rfl; clear hev hev0 hd hI; rw [if_neg (by decide)]; go_wp2; exact StepW.mk _
        ·intro xx af wv k hk hI hev hev0 hd; have e0 : af.tmps[0]?.getD undef = .pointer (some ⟨g, o, none⟩) := hev0 0 rfl; clear hev hev0 hd hI; rw [if_neg (by decide)]; go_wp2; exact StepW.mk _
        ·intro xx af wv k hk hI hev hev0 hd; have e0 : af.tmps[0]?.getD undef = .pointer (some ⟨g, o, none⟩) := hev0 0 rfl; clear hev hev0 hd hI; rw [if_neg (by decide)]; go_wp2; exact StepW.mk _
        ·intro xx af wv k hk hI hev hev0 hd; have e0 : af.tmps[0]?.getD undef = .pointer (some ⟨g, o, none⟩) := hev0 0 rfl; clear hev hev0 hd hI; rw [if_neg (by decide)]; go_wp2; exact StepW.mk _
        ·intro xx af wv k hk hI hev hev0 hd; have e5 : af.tmps[5]?.getD undef = .pointer (some ⟨w5.heap.size, 0, none⟩) := hev0 5 rfl; clear hev hev0 hd; have y0 := hI.out.cell 0 rfl 0 rfl; have y1 := hI.out.cell 0 rfl 1 rfl; have y2 := hI.out.cell 0 rfl 2 rfl; clear hI; rw [if_neg (by decide)]; go_wp2; exact StepW.mk _
        ·intro xx af wv k hk hI hev hev0 hd; have e5 : af.tmps[5]?.getD undef = .pointer (some ⟨w5.heap.size, 0, none⟩) := hev0 5 rfl; clear hev hev0 hd; have y0 := hI.out.cell 0 rfl 0 rfl; have y1 := hI.out.cell 0 rfl 1 rfl; have y2 := hI.out.cell 0 rfl 2 rfl; clear hI; rw [if_neg (by decide)]; go_wp2; exact StepW.mk _
        ·intro xx af wv k hk hI hev hev0 hd; have e5 : af.tmps[5]?.getD undef = .pointer (some ⟨w5.heap.size, 0, none⟩) := hev0 5 rfl; clear hev hev0 hd; have y0 := hI.out.cell 0 rfl 0 rfl; have y1 := hI.out.cell 0 rfl 1 rfl; have y2 := hI.out.cell 0 rfl 2 rfl; clear hI; rw [if_neg (by decide)]; go_wp2; exact StepW.mk _
        ·intro xx af wv k hk hI hev hev0 hd; have e98 := (hev 0 _ 98 rfl rfl).trans (hd ⟨0, .data⟩ (by simp) rfl (by decide)); clear hev hev0 hd hI; rw [if_neg (by decide)]; go_wp2; exact StepW.mk _
        ·intro xx af wv k hk hI hev hev0 hd; have e105 := (hev 7 _ 105 rfl rfl).trans (hd ⟨7, .data⟩ (by simp) rfl (by decide)); clear hev hev0 hd hI; rw [if_neg (by decide)]; go_wp2; exact StepW.mk _
        ·intro xx af wv k hk hI hev hev0 hd; have e106 := (hev 8 _ 106 rfl rfl).trans (hd ⟨8, .data⟩ (by simp) rfl (by decide)); clear hev hev0 hd; rw [if_pos (by decide)]; intro hk0; obtain rfl : k = 0 := hk0; have yo0 := hI.out.cell (v := .int .i64 x.st) 2 rfl (o + 14) (offA_cell HOx.out rfl); have yf0 := hI.out.frozen 2 rfl (o + 14); go_wp2; exact StepI.mk (Lib.hid (St.setO (hI.out) 2 rfl HOx.out 14 (show 14 < 30 by decide) (.int .i64 6)))
        ·intro xx af wv k hk hI hev hev0 hd; have e99 := (hev 1 _ 99 rfl rfl).trans (hd ⟨1, .data⟩ (by simp) rfl (by decide)); clear hev hev0 hd hI; rw [if_neg (by decide)]; go_wp2; exact StepW.mk _
        ·intro xx af wv k hk hI hev hev0 hd; have e107 := (hev 10 _ 107 rfl rfl).trans (hd ⟨10, .data⟩ (by simp) rfl (by decide)); clear hev hev0 hd hI; rw [if_neg (by decide)]; go_wp2; exact StepW.mk _
        ·intro xx af wv k hk hI hev hev0 hd; have e108 := (hev 11 _ 108 rfl rfl).trans (hd ⟨11, .data⟩ (by simp) rfl (by decide)); have e102 := (hev 4 _ 102 rfl rfl).trans (hd ⟨4, .data⟩ (by simp) rfl (by decide)); clear hev hev0 hd; rw [if_pos (by decide)]; intro hk0; obtain rfl : k = 1 := hk0; have yo0 := hI.out.cell (v := .bool x.fl.n) 2 rfl (o + 19) (offA_cell HOx.out rfl); have yf0 := hI.out.frozen 2 rfl (o + 19); have yo1 := hI.out.cell (v := .string (bs x.fl.a)) 2 rfl (o + 20) (offA_cell HOx.out rfl); have yf1 := hI.out.frozen 2 rfl (o + 20); have yo2 := hI.out.cell (v := .string (bs x.fl.b)) 2 rfl (o + 21) (offA_cell HOx.out rfl); have yf2 := hI.out.frozen 2 rfl (o + 21); go_wp2; exact StepI.mk (Lib.hid (St.setO ((St.setO ((St.setO (hI.out) 2 rfl HOx.out 19 (show 19 < 30 by decide) (.bool (negB (e.am.val))))) 2 rfl HOx.out 20 (show 20 < 30 by decide) (.string (bs (numB (e.am.val)))))) 2 rfl HOx.out 21 (show 21 < 30 by decide) (.string (bs (denomB (e.am.val))))))
        ·intro xx af wv k hk hI hev hev0 hd; have e100 := (hev 2 _ 100 rfl rfl).trans (hd ⟨2, .data⟩ (by simp) rfl (by decide)); clear hev hev0 hd hI; rw [if_neg (by decide)]; go_wp2; exact StepW.mk _
        ·intro xx af wv k hk hI hev hev0 hd; have e109 := (hev 13 _ 109 rfl rfl).trans (hd ⟨13, .data⟩ (by simp) rfl (by decide)); clear hev hev0 hd hI; rw [if_neg (by decide)]; go_wp2; exact StepW.mk _
        ·intro xx af wv k hk hI hev hev0 hd; have e110 := (hev 14 _ 110 rfl rfl).trans (hd ⟨14, .data⟩ (by simp) rfl (by decide)); have e103 := (hev 5 _ 103 rfl rfl).trans (hd ⟨5, .data⟩ (by simp) rfl (by decide)); clear hev hev0 hd; rw [if_pos (by decide)]; intro hk0; obtain rfl : k = 2 := hk0; have yo0 := hI.out.cell (v := .bool x.ad.n) 2 rfl (o + 22) (offA_cell HOx.out rfl); have yf0 := hI.out.frozen 2 rfl (o + 22); have yo1 := hI.out.cell (v := .string (bs x.ad.a)) 2 rfl (o + 23) (offA_cell HOx.out rfl); have yf1 := hI.out.frozen 2 rfl (o + 23); have yo2 := hI.out.cell (v := .string (bs x.ad.b)) 2 rfl (o + 24) (offA_cell HOx.out rfl); have yf2 := hI.out.frozen 2 rfl (o + 24); go_wp2; exact StepI.mk (Lib.hid (St.setO ((St.setO ((St.setO (hI.out) 2 rfl HOx.out 22 (show 22 < 30 by decide) (.bool (negB (e.am.val))))) 2 rfl HOx.out 23 (show 23 < 30 by decide) (.string (bs (numB (e.am.val)))))) 2 rfl HOx.out 24 (show 24 < 30 by decide) (.string (bs (denomB (e.am.val))))))
        ·intro xx af wv k hk hI hev hev0 hd; have e101 := (hev 3 _ 101 rfl rfl).trans (hd ⟨3, .data⟩ (by simp) rfl (by decide)); clear hev hev0 hd hI; rw [if_neg (by decide)]; go_wp2; exact StepW.mk _
        ·intro xx af wv k hk hI hev hev0 hd; have e111 := (hev 16 _ 111 rfl rfl).trans (hd ⟨16, .data⟩ (by simp) rfl (by decide)); clear hev hev0 hd hI; rw [if_neg (by decide)]; go_wp2; exact StepW.mk _
        intro xx w9 hI hv
        simp only [List.take, List.drop, fillA, Act.put]
        simp only [show xx 0 = _ from hv 0 (by decide) (by decide), show xx 1 = _ from hv 1 (by decide) (by decide), show xx 2 = _ from hv 2 (by decide) (by decide), show xx 3 = _ from hv 3 (by decide) (by decide), show xx 4 = _ from hv 4 (by decide) (by decide), show xx 5 = _ from hv 5 (by decide) (by decide), show xx 6 = _ from hv 6 (by decide) (by decide), show xx 7 = _ from hv 7 (by decide) (by decide), show xx 8 = _ from hv 8 (by decide) (by decide), show xx 10 = _ from hv 10 (by decide) (by decide), show xx 11 = _ from hv 11 (by decide) (by decide), show xx 13 = _ from hv 13 (by decide) (by decide), show xx 14 = _ from hv 14 (by decide) (by decide), show xx 16 = _ from hv 16 (by decide) (by decide), show xx 17 = _ from hv 17 (by decide) (by decide)]
        have HS9 : Hid (St w0 (⟨w5.heap.size, #[.bool (negB (e.am.val)), .string (bs (numB (e.am.val))), .string (bs (denomB (e.am.val)))], 34⟩ :: ⟨w.heap.size, e.enc.toArray, 56⟩ :: ⟨g, (offA pre (((((((x.enc.set 14 (.int .i64 6)).set 19 (.bool (negB (e.am.val)))).set 20 (.string (bs (numB (e.am.val))))).set 21 (.string (bs (denomB (e.am.val))))).set 22 (.bool (negB (e.am.val)))).set 23 (.string (bs (numB (e.am.val))))).set 24 (.string (bs (denomB (e.am.val))))) post), 63⟩ :: R0) w9) := hI
        clear hv hI HS8
        have x8 := HS9.out.cell (v := .int .i64 e.day) 1 rfl 1 rfl
        have x9 := HS9.out.cell (v := .bool x.ce.n) 2 rfl (o + 25) (offA_cell HOx.out rfl)
        have x10 := HS9.out.cell (v := .string (bs x.ce.a)) 2 rfl (o + 26) (offA_cell HOx.out rfl)
        have x11 := HS9.out.cell (v := .string (bs x.ce.b)) 2 rfl (o + 27) (offA_cell HOx.out rfl)
        have x12 := HS9.out.cell (v := .int .i64 x.chg) 2 rfl (o + 29) (offA_cell HOx.out rfl)
        have x13 := HS9.out.frozen 2 rfl (o + 25)
        have x14 := HS9.out.frozen 2 rfl (o + 26)
        have x15 := HS9.out.frozen 2 rfl (o + 27)
        have x16 := HS9.out.frozen 2 rfl (o + 29)
        have x17 := HS9.out.ne 2 0 rfl rfl (by decide)
        have x18 := HS9.out.ne 0 2 rfl rfl (by decide)
        have x19 := HS9.out.ne 2 1 rfl rfl (by decide)
        have x20 := HS9.out.ne 1 2 rfl rfl (by decide)
        go_wp2
        go_ret
        have HS10 : Hid (St w0 (⟨w5.heap.size, #[.bool (negB (e.am.val)), .string (bs (numB (e.am.val))), .string (bs (denomB (e.am.val)))], 34⟩ :: ⟨w.heap.size, e.enc.toArray, 56⟩ :: ⟨g, (offA pre (((((((((((x.enc.set 14 (.int .i64 6)).set 19 (.bool (negB (e.am.val)))).set 20 (.string (bs (numB (e.am.val))))).set 21 (.string (bs (denomB (e.am.val))))).set 22 (.bool (negB (e.am.val)))).set 23 (.string (bs (numB (e.am.val))))).set 24 (.string (bs (denomB (e.am.val))))).set 25 (.bool (negB (e.am.val)))).set 26 (.string (bs (numB (e.am.val))))).set 27 (.string (bs (denomB (e.am.val))))).set 29 (.int .i64 e.day)) post), 63⟩ :: R0) _) := Lib.hid (St.setO ((St.setO ((St.setO ((St.setO (HS9.out) 2 rfl HOx.out 25 (show 25 < 30 by decide) (.bool (negB (e.am.val))))) 2 rfl HOx.out 26 (show 26 < 30 by decide) (.string (bs (numB (e.am.val)))))) 2 rfl HOx.out 27 (show 27 < 30 by decide) (.string (bs (denomB (e.am.val)))))) 2 rfl HOx.out 29 (show 29 < 30 by decide) (.int .i64 e.day))
        rw [R.out.1, R.out.2]
        exact ⟨rfl, HS10.out.sub (List.Sublist.cons _ (List.Sublist.cons _ (List.Sublist.refl _)))⟩
     ·have R := Lib.hid (finE_ok (show changeE x e = ({ x with st := 5 }, 0) by unfold changeE; rw [if_neg (by rw [← HABx.out]; decide), if_neg (kind_not HK2x.out rfl), if_neg (kind_not HK3x.out rfl), if_neg (kind_not HK4x.out rfl), if_pos (kind_is HK5x.out rfl)]))
      have x8 := HS5.out.cell (v := .int .i64 e.day) 0 rfl 1 rfl
      have x9 := HS5.out.cell (v := .int .i64 x.st) 1 rfl (o + 14) (offA_cell HOx.out rfl)
      have x10 := HS5.out.cell (v := .int .i64 x.chg) 1 rfl (o + 29) (offA_cell HOx.out rfl)
      have x11 := HS5.out.frozen 1 rfl (o + 14)
      have x12 := HS5.out.frozen 1 rfl (o + 29)
      have x13 := HS5.out.ne 1 0 rfl rfl (by decide)
      have x14 := HS5.out.ne 0 1 rfl rfl (by decide)
      have x15 := HS5.out.lt 0 rfl
      have x16 : ¬ w.heap.size = w5.heap.size := by omega
      have x17 : ¬ w5.heap.size = w.heap.size := by omega
      have x18 := HS5.out.lt 1 rfl
      have x19 : ¬ g = w5.heap.size := by omega
      have x20 : ¬ w5.heap.size = g := by omega
      go_wp2
      go_ret
      have HS6 : Hid (St w0 (⟨w5.heap.size, #[.bool (negB (e.am.val)), .string (bs (numB (e.am.val))), .string (bs (denomB (e.am.val)))], 34⟩ :: ⟨w.heap.size, e.enc.toArray, 56⟩ :: ⟨g, (offA pre ((x.enc.set 14 (.int .i64 5)).set 29 (.int .i64 e.day)) post), 63⟩ :: R0) _) := Lib.hid (St.alloc ((St.setO ((St.setO (HS5.out) 1 rfl HOx.out 14 (show 14 < 30 by decide) (.int .i64 5))) 1 rfl HOx.out 29 (show 29 < 30 by decide) (.int .i64 e.day))) #[.bool (negB (e.am.val)), .string (bs (numB (e.am.val))), .string (bs (denomB (e.am.val)))] 34 (w5.heap.size) (by simp))
      rw [R.out.1, R.out.2]
      exact ⟨rfl, HS6.out.sub (List.Sublist.cons _ (List.Sublist.cons _ (List.Sublist.refl _)))⟩
    ·go_wp2
     have HS6 := Lib.hid (St.alloc (HS5.out) #[.bool (negB (e.am.val)), .string (bs (numB (e.am.val))), .string (bs (denomB (e.am.val)))] 34 (w5.heap.size) (by simp))
     clear HS5
     refine wp_region_eq 10 [.agg #[.bool (negB (e.am.val)), .string (bs (numB (e.am.val))), .string (bs (denomB (e.am.val)))], .pointer (some ⟨g, o, none⟩), .pointer (some ⟨g, o, none⟩), .pointer (some ⟨g, o + 19, none⟩), .agg #[.bool x.fl.n, .string (bs x.fl.a), .string (bs x.fl.b)], .pointer (some ⟨g, o, none⟩), .pointer (some ⟨g, o, none⟩), .pointer (some ⟨g, o + 25, none⟩), .agg #[.bool x.ce.n, .string (bs x.ce.a), .string (bs x.ce.b)], .bool i4] rfl (by kernel_rfl) (by kernel_rfl) (by kernel_rfl) ?_ ?_
     refine ⟨?_, ?_, ?_, ?_, ?_, ?_, ?_, ?_, ?_, ?_, trivial⟩
     ·intro xx af wv hbx hev hev0 hd; have e5 : af.tmps[5]?.getD undef = .pointer (some ⟨w5.heap.size, 0, none⟩) := hev0 5 rfl; clear hev hev0 hd; have hs1 := Lib.hid (HS6.out.call hbx); obtain ⟨y0, y1, y2⟩ := hs1.out.k0 0 rfl rfl rfl rfl; go_wp2; exact sQ rfl
     ·intro xx af wv hbx hev hev0 hd; have e0 : af.tmps[0]?.getD undef = .pointer (some ⟨g, o, none⟩) := hev0 0 rfl; clear hev hev0 hd; go_wp2; exact sQ rfl
     ·intro xx af wv hbx hev hev0 hd; have e63 := (hev 1 _ 63 rfl rfl).trans (hd ⟨1, .data⟩ (by simp) rfl); clear hev hev0 hd; go_wp2; exact sQ rfl
     ·intro xx af wv hbx hev hev0 hd; have e64 := (hev 2 _ 64 rfl rfl).trans (hd ⟨2, .data⟩ (by simp) rfl); clear hev hev0 hd; go_wp2; exact sQ rfl
     ·intro xx af wv hbx hev hev0 hd; have e65 := (hev 3 _ 65 rfl rfl).trans (hd ⟨3, .data⟩ (by simp) rfl); clear hev hev0 hd; have hs1 := Lib.hid (HS6.out.call hbx); have yo0 := hs1.out.cell (v := .bool x.fl.n) 2 rfl (o + 19) (offA_cell HOx.out rfl); have yo1 := hs1.out.cell (v := .string (bs x.fl.a)) 2 rfl (o + 20) (offA_cell HOx.out rfl); have yo2 := hs1.out.cell (v := .string (bs x.fl.b)) 2 rfl (o + 21) (offA_cell HOx.out rfl); go_wp2; exact sQ rfl
     ·intro xx af wv hbx hev hev0 hd; have e0 : af.tmps[0]?.getD undef = .pointer (some ⟨g, o, none⟩) := hev0 0 rfl; clear hev hev0 hd; go_wp2; exact sQ rfl
     ·intro xx af wv hbx hev hev0 hd; have e67 := (hev 5 _ 67 rfl rfl).trans (hd ⟨5, .data⟩ (by simp) rfl); clear hev hev0 hd; go_wp2; exact sQ rfl
     ·intro xx af wv hbx hev hev0 hd; have e68 := (hev 6 _ 68 rfl rfl).trans (hd ⟨6, .data⟩ (by simp) rfl); clear hev hev0 hd; go_wp2; exact sQ rfl
     ·intro xx af wv hbx hev hev0 hd; have e69 := (hev 7 _ 69 rfl rfl).trans (hd ⟨7, .data⟩ (by simp) rfl); clear hev hev0 hd; have hs1 := Lib.hid (HS6.out.call hbx); have yo0 := hs1.out.cell (v := .bool x.ce.n) 2 rfl (o + 25) (offA_cell HOx.out rfl); have yo1 := hs1.out.cell (v := .string (bs x.ce.a)) 2 rfl (o + 26) (offA_cell HOx.out rfl); have yo2 := hs1.out.cell (v := .string (bs x.ce.b)) 2 rfl (o + 27) (offA_cell HOx.out rfl); go_wp2; exact sQ rfl
     ·intro xx af wv hbx hev hev0 hd
      have e62 := (hev 0 _ 62 rfl rfl).trans (hd ⟨0, .data⟩ (by simp) rfl)
      have e66 := (hev 4 _ 66 rfl rfl).trans (hd ⟨4, .data⟩ (by simp) rfl)
      have e70 := (hev 8 _ 70 rfl rfl).trans (hd ⟨8, .data⟩ (by simp) rfl)
      clear hev hev0 hd
      go_wp2_with fail
      refine (HB4x.out _).mono ?_
      rintro e w8 ⟨rfl, hb8⟩
      go_wp2
      exact StepQ.mk _ hb8 rfl
     intro xx w8 hb9 hv
     simp only [List.take, List.drop, fillA, Act.put]
     simp only [show xx 0 = _ from hv 0 (by decide), show xx 1 = _ from hv 1 (by decide), show xx 2 = _ from hv 2 (by decide), show xx 3 = _ from hv 3 (by decide), show xx 4 = _ from hv 4 (by decide), show xx 5 = _ from hv 5 (by decide), show xx 6 = _ from hv 6 (by decide), show xx 7 = _ from hv 7 (by decide), show xx 8 = _ from hv 8 (by decide), show xx 9 = _ from hv 9 (by decide)]
     clear hv
     have HS8 := Lib.hid (HS6.out.call hb9)
     clear hb9 HS6
     go_upto_if 72 with fail
     cases i4
     ·have R := Lib.hid (finE_err (show changeE x e = (x, 1) by unfold changeE; rw [if_neg (by rw [← HABx.out]; decide), if_neg (kind_not HK2x.out rfl), if_neg (kind_not HK3x.out rfl), if_pos (kind_is HK4x.out rfl), if_neg (by rw [← HI4x.out]; decide)]) (by decide))
      go_wp2
      go_ret
      have HS9 := Lib.hid HS8.out
      rw [R.out.1, R.out.2]
      exact ⟨rfl, HS9.out.sub (List.Sublist.cons _ (List.Sublist.cons _ (List.Sublist.refl _)))⟩
     ·have R := Lib.hid (finE_ok (show changeE x e = ({ x with st := 4, ad := enc3 e.am.val }, 0) by unfold changeE; rw [if_neg (by rw [← HABx.out]; decide), if_neg (kind_not HK2x.out rfl), if_neg (kind_not HK3x.out rfl), if_pos (kind_is HK4x.out rfl), if_pos HI4x.out.symm]))
      go_wp2
      refine wp_region_stores 8 [5] [.pointer (some ⟨g, o, none⟩), .pointer (some ⟨g, o, none⟩), .agg #[.bool (negB (e.am.val)), .string (bs (numB (e.am.val))), .string (bs (denomB (e.am.val)))], .pointer (some ⟨g, o, none⟩), .pointer (some ⟨g, o + 14, none⟩), undef, .pointer (some ⟨g, o, none⟩), .pointer (some ⟨g, o + 22, none⟩)] (fun k wv _ => Hid (St w0 (⟨w5.heap.size, #[.bool (negB (e.am.val)), .string (bs (numB (e.am.val))), .string (bs (denomB (e.am.val)))], 34⟩ :: ⟨w.heap.size, e.enc.toArray, 56⟩ :: ⟨g, (offA pre (([x.enc, (x.enc.set 14 (.int .i64 4))] : List (List Value)).getD k []) post), 63⟩ :: R0) wv)) rfl (by kernel_rfl) (by kernel_rfl) (by kernel_rfl) (by kernel_rfl) (by decide) (by decide) (Lib.hid HS8.out.drew) ?_ ?_
      refine ⟨?_, ?_, ?_, ?_, ?_, ?_, ?_, ?_, trivial⟩
      ·intro xx af wv k hk hI hev hev0 hd; have e0 : af.tmps[0]?.getD undef = .pointer (some ⟨g, o, none⟩) := hev0 0 rfl; clear hev hev0 hd hI; rw [if_neg (by decide)]; go_wp2; exact StepW.mk _
      ·intro xx af wv k hk hI hev hev0 hd; have e0 : af.tmps[0]?.getD undef = .pointer (some ⟨g, o, none⟩) := hev0 0 rfl; clear hev hev0 hd hI; rw [if_neg (by decide)]; go_wp2; exact StepW.mk _
      ·intro xx af wv k hk hI hev hev0 hd; have e5 : af.tmps[5]?.getD undef = .pointer (some ⟨w5.heap.size, 0, none⟩) := hev0 5 rfl; clear hev hev0 hd; have y0 := hI.out.cell 0 rfl 0 rfl; have y1 := hI.out.cell 0 rfl 1 rfl; have y2 := hI.out.cell 0 rfl 2 rfl; clear hI; rw [if_neg (by decide)]; go_wp2; exact StepW.mk _
      ·intro xx af wv k hk hI hev hev0 hd; have e73 := (hev 0 _ 73 rfl rfl).trans (hd ⟨0, .data⟩ (by simp) rfl (by decide)); clear hev hev0 hd hI; rw [if_neg (by decide)]; go_wp2; exact StepW.mk _
      ·intro xx af wv k hk hI hev hev0 hd; have e76 := (hev 3 _ 76 rfl rfl).trans (hd ⟨3, .data⟩ (by simp) rfl (by decide)); clear hev hev0 hd hI; rw [if_neg (by decide)]; go_wp2; exact StepW.mk _
      ·intro xx af wv k hk hI hev hev0 hd; have e77 := (hev 4 _ 77 rfl rfl).trans (hd ⟨4, .data⟩ (by simp) rfl (by decide)); clear hev hev0 hd; rw [if_pos (by decide)]; intro hk0; obtain rfl : k = 0 := hk0; have yo0 := hI.out.cell (v := .int .i64 x.st) 2 rfl (o + 14) (offA_cell HOx.out rfl); have yf0 := hI.out.frozen 2 rfl (o + 14); go_wp2; exact StepI.mk (Lib.hid (St.setO (hI.out) 2 rfl HOx.out 14 (show 14 < 30 by decide) (.int .i64 4)))
      ·intro xx af wv k hk hI hev hev0 hd; have e74 := (hev 1 _ 74 rfl rfl).trans (hd ⟨1, .data⟩ (by simp) rfl (by decide)); clear hev hev0 hd hI; rw [if_neg (by decide)]; go_wp2; exact StepW.mk _
      ·intro xx af wv k hk hI hev hev0 hd; have e78 := (hev 6 _ 78 rfl rfl).trans (hd ⟨6, .data⟩ (by simp) rfl (by decide)); clear hev hev0 hd hI; rw [if_neg (by decide)]; go_wp2; exact StepW.mk _
      intro xx w9 hI hv
      simp only [List.take, List.drop, fillA, Act.put]
      simp only [show xx 0 = _ from hv 0 (by decide) (by decide), show xx 1 = _ from hv 1 (by decide) (by decide), show xx 2 = _ from hv 2 (by decide) (by decide), show xx 3 = _ from hv 3 (by decide) (by decide), show xx 4 = _ from hv 4 (by decide) (by decide), show xx 6 = _ from hv 6 (by decide) (by decide), show xx 7 = _ from hv 7 (by decide) (by decide)]
      have HS9 : Hid (St w0 (⟨w5.heap.size, #[.bool (negB (e.am.val)), .string (bs (numB (e.am.val))), .string (bs (denomB (e.am.val)))], 34⟩ :: ⟨w.heap.size, e.enc.toArray, 56⟩ :: ⟨g, (offA pre (x.enc.set 14 (.int .i64 4)) post), 63⟩ :: R0) w9) := hI
      clear hv hI HS8
      have x8 := HS9.out.cell (v := .int .i64 e.day) 1 rfl 1 rfl
      have x9 := HS9.out.cell (v := .bool x.ad.n) 2 rfl (o + 22) (offA_cell HOx.out rfl)
      have x10 := HS9.out.cell (v := .string (bs x.ad.a)) 2 rfl (o + 23) (offA_cell HOx.out rfl)
      have x11 := HS9.out.cell (v := .string (bs x.ad.b)) 2 rfl (o + 24) (offA_cell HOx.out rfl)
      have x12 := HS9.out.cell (v := .int .i64 x.chg) 2 rfl (o + 29) (offA_cell HOx.out rfl)
      have x13 := HS9.out.frozen 2 rfl (o + 22)
      have x14 := HS9.out.frozen 2 rfl (o + 23)
      have x15 := HS9.out.frozen 2 rfl (o + 24)
      have x16 := HS9.out.frozen 2 rfl (o + 29)
      have x17 := HS9.out.ne 2 0 rfl rfl (by decide)
      have x18 := HS9.out.ne 0 2 rfl rfl (by decide)
      have x19 := HS9.out.ne 2 1 rfl rfl (by decide)
      have x20 := HS9.out.ne 1 2 rfl rfl (by decide)
      go_wp2
      go_ret
      have HS10 : Hid (St w0 (⟨w5.heap.size, #[.bool (negB (e.am.val)), .string (bs (numB (e.am.val))), .string (bs (denomB (e.am.val)))], 34⟩ :: ⟨w.heap.size, e.enc.toArray, 56⟩ :: ⟨g, (offA pre (((((x.enc.set 14 (.int .i64 4)).set 22 (.bool (negB (e.am.val)))).set 23 (.string (bs (numB (e.am.val))))).set 24 (.string (bs (denomB (e.am.val))))).set 29 (.int .i64 e.day)) post), 63⟩ :: R0) _) := Lib.hid (St.setO ((St.setO ((St.setO ((St.setO (HS9.out) 2 rfl HOx.out 22 (show 22 < 30 by decide) (.bool (negB (e.am.val))))) 2 rfl HOx.out 23 (show 23 < 30 by decide) (.string (bs (numB (e.am.val)))))) 2 rfl HOx.out 24 (show 24 < 30 by decide) (.string (bs (denomB (e.am.val)))))) 2 rfl HOx.out 29 (show 29 < 30 by decide) (.int .i64 e.day))
      rw [R.out.1, R.out.2]
      exact ⟨rfl, HS10.out.sub (List.Sublist.cons _ (List.Sublist.cons _ (List.Sublist.refl _)))⟩
   ·go_wp2
    have HS6 := Lib.hid (St.alloc (HS5.out) #[.bool (negB (e.am.val)), .string (bs (numB (e.am.val))), .string (bs (denomB (e.am.val)))] 34 (w5.heap.size) (by simp))
    clear HS5
    refine wp_region_eq 7 [.agg #[.bool (negB (e.am.val)), .string (bs (numB (e.am.val))), .string (bs (denomB (e.am.val)))], .agg #[.bool false, .string (bs []), .string (bs [])], .pointer (some ⟨g, o, none⟩), .pointer (some ⟨g, o, none⟩), .pointer (some ⟨g, o + 25, none⟩), .agg #[.bool x.ce.n, .string (bs x.ce.a), .string (bs x.ce.b)], .bool i3] rfl (by kernel_rfl) (by kernel_rfl) (by kernel_rfl) ?_ ?_
    refine ⟨?_, ?_, ?_, ?_, ?_, ?_, ?_, trivial⟩
    ·intro xx af wv hbx hev hev0 hd; have e5 : af.tmps[5]?.getD undef = .pointer (some ⟨w5.heap.size, 0, none⟩) := hev0 5 rfl; clear hev hev0 hd; have hs1 := Lib.hid (HS6.out.call hbx); obtain ⟨y0, y1, y2⟩ := hs1.out.k0 0 rfl rfl rfl rfl; go_wp2; exact sQ rfl
    ·intro xx af wv hbx hev hev0 hd; clear hev hev0 hd; go_wp2; exact sQ rfl
    ·intro xx af wv hbx hev hev0 hd; have e0 : af.tmps[0]?.getD undef = .pointer (some ⟨g, o, none⟩) := hev0 0 rfl; clear hev hev0 hd; go_wp2; exact sQ rfl
    ·intro xx af wv hbx hev hev0 hd; have e43 := (hev 2 _ 43 rfl rfl).trans (hd ⟨2, .data⟩ (by simp) rfl); clear hev hev0 hd; go_wp2; exact sQ rfl
    ·intro xx af wv hbx hev hev0 hd; have e44 := (hev 3 _ 44 rfl rfl).trans (hd ⟨3, .data⟩ (by simp) rfl); clear hev hev0 hd; go_wp2; exact sQ rfl
    ·intro xx af wv hbx hev hev0 hd; have e45 := (hev 4 _ 45 rfl rfl).trans (hd ⟨4, .data⟩ (by simp) rfl); clear hev hev0 hd; have hs1 := Lib.hid (HS6.out.call hbx); have yo0 := hs1.out.cell (v := .bool x.ce.n) 2 rfl (o + 25) (offA_cell HOx.out rfl); have yo1 := hs1.out.cell (v := .string (bs x.ce.a)) 2 rfl (o + 26) (offA_cell HOx.out rfl); have yo2 := hs1.out.cell (v := .string (bs x.ce.b)) 2 rfl (o + 27) (offA_cell HOx.out rfl); go_wp2; exact sQ rfl
    ·intro xx af wv hbx hev hev0 hd
     have e41 := (hev 0 _ 41 rfl rfl).trans (hd ⟨0, .data⟩ (by simp) rfl)
     have e42 := (hev 1 _ 42 rfl rfl).trans (hd ⟨1, .data⟩ (by simp) rfl)
     have e46 := (hev 5 _ 46 rfl rfl).trans (hd ⟨5, .data⟩ (by simp) rfl)
     clear hev hev0 hd
     go_wp2_with fail
     refine (HB3x.out _).mono ?_
     rintro e w8 ⟨rfl, hb8⟩
     go_wp2
     exact StepQ.mk _ hb8 rfl
    intro xx w8 hb9 hv
    simp only [List.take, List.drop, fillA, Act.put]
    simp only [show xx 0 = _ from hv 0 (by decide), show xx 1 = _ from hv 1 (by decide), show xx 2 = _ from hv 2 (by decide), show xx 3 = _ from hv 3 (by decide), show xx 4 = _ from hv 4 (by decide), show xx 5 = _ from hv 5 (by decide), show xx 6 = _ from hv 6 (by decide)]
    clear hv
    have HS8 := Lib.hid (HS6.out.call hb9)
    clear hb9 HS6
    go_upto_if 48 with fail
    cases i3
    ·have R := Lib.hid (finE_err (show changeE x e = (x, 1) by unfold changeE; rw [if_neg (by rw [← HABx.out]; decide), if_neg (kind_not HK2x.out rfl), if_pos (kind_is HK3x.out rfl), if_neg (by rw [← HI3x.out]; decide)]) (by decide))
     go_wp2
     go_ret
     have HS9 := Lib.hid HS8.out
     rw [R.out.1, R.out.2]
     exact ⟨rfl, HS9.out.sub (List.Sublist.cons _ (List.Sublist.cons _ (List.Sublist.refl _)))⟩
    ·have R := Lib.hid (finE_ok (show changeE x e = ({ x with st := 3, fl := enc3 e.am.val, ad := enc3 e.am.val }, 0) by unfold changeE; rw [if_neg (by rw [← HABx.out]; decide), if_neg (kind_not HK2x.out rfl), if_pos (kind_is HK3x.out rfl), if_pos HI3x.out.symm]))
     go_wp2
     refine wp_region_stores 13 [7, 10] [.pointer (some ⟨g, o, none⟩), .pointer (some ⟨g, o, none⟩), .pointer (some ⟨g, o, none⟩), .agg #[.bool (negB (e.am.val)), .string (bs (numB (e.am.val))), .string (bs (denomB (e.am.val)))], .agg #[.bool (negB (e.am.val)), .string (bs (numB (e.am.val))), .string (bs (denomB (e.am.val)))], .pointer (some ⟨g, o, none⟩), .pointer (some ⟨g, o + 14, none⟩), undef, .pointer (some ⟨g, o, none⟩), .pointer (some ⟨g, o + 19, none⟩), undef, .pointer (some ⟨g, o, none⟩), .pointer (some ⟨g, o + 22, none⟩)] (fun k wv _ => Hid (St w0 (⟨w5.heap.size, #[.bool (negB (e.am.val)), .string (bs (numB (e.am.val))), .string (bs (denomB (e.am.val)))], 34⟩ :: ⟨w.heap.size, e.enc.toArray, 56⟩ :: ⟨g, (offA pre (([x.enc, (x.enc.set 14 (.int .i64 3)), ((((x.enc.set 14 (.int .i64 3)).set 19 (.bool (negB (e.am.val)))).set 20 (.string (bs (numB (e.am.val))))).set 21 (.string (bs (denomB (e.am.val)))))] : List (List Value)).getD k []) post), 63⟩ :: R0) wv)) rfl (by kernel_rfl) (by kernel_rfl) (by kernel_rfl) (by kernel_rfl) (by decide) (by decide) (Lib.hid HS8.out.drew) ?_ ?_
     refine ⟨?_, ?_, ?_, ?_, ?_, ?_, ?_, ?_, ?_, ?_, ?_, ?_, ?_, trivial⟩
     ·intro xx af wv k hk hI hev hev0 hd; have e0 : af.tmps[0]?.getD undef = .pointer (some ⟨g, o, none⟩) := hev0 0 rfl; clear hev hev0 hd hI; rw [if_neg (by decide)]; go_wp2; exact StepW.mk _
     ·intro xx af wv k hk hI hev hev0 hd; have e0 : af.tmps[0]?.getD undef = .pointer (some ⟨g, o, none⟩) := hev0 0 rfl; clear hev hev0 hd hI; rw [if_neg (by decide)]; go_wp2; exact StepW.mk _
     ·intro xx af wv k hk hI hev hev0 hd; have e0 : af.tmps[0]?.getD undef = .pointer (some ⟨g, o, none⟩) := hev0 0 rfl; clear hev hev0 hd hI; rw [if_neg (by decide)]; go_wp2; exact StepW.mk _
     ·intro xx af wv k hk hI hev hev0 hd; have e5 : af.tmps[5]?.getD undef = .pointer (some ⟨w5.heap.size, 0, none⟩) := hev0 5 rfl; clear hev hev0 hd; have y0 := hI.out.cell 0 rfl 0 rfl; have y1 := hI.out.cell 0 rfl 1 rfl; have y2 := hI.out.cell 0 rfl 2 rfl; clear hI; rw [if_neg (by decide)]; go_wp2; exact StepW.mk _
     ·intro xx af wv k hk hI hev hev0 hd; have e5 : af.tmps[5]?.getD undef = .pointer (some ⟨w5.heap.size, 0, none⟩) := hev0 5 rfl; clear hev hev0 hd; have y0 := hI.out.cell 0 rfl 0 rfl; have y1 := hI.out.cell 0 rfl 1 rfl; have y2 := hI.out.cell 0 rfl 2 rfl; clear hI; rw [if_neg (by decide)]; go_wp2; exact StepW.mk _
     ·intro xx af wv k hk hI hev hev0 hd; have e49 := (hev 0 _ 49 rfl rfl).trans (hd ⟨0, .data⟩ (by simp) rfl (by decide)); clear hev hev0 hd hI; rw [if_neg (by decide)]; go_wp2; exact StepW.mk _
     ·intro xx af wv k hk hI hev hev0 hd; have e54 := (hev 5 _ 54 rfl rfl).trans (hd ⟨5, .data⟩ (by simp) rfl (by decide)); clear hev hev0 hd hI; rw [if_neg (by decide)]; go_wp2; exact StepW.mk _
     ·intro xx af wv k hk hI hev hev0 hd; have e55 := (hev 6 _ 55 rfl rfl).trans (hd ⟨6, .data⟩ (by simp) rfl (by decide)); clear hev hev0 hd; rw [if_pos (by decide)]; intro hk0; obtain rfl : k = 0 := hk0; have yo0 := hI.out.cell (v := .int .i64 x.st) 2 rfl (o + 14) (offA_cell HOx.out rfl); have yf0 := hI.out.frozen 2 rfl (o + 14); go_wp2; exact StepI.mk (Lib.hid (St.setO (hI.out) 2 rfl HOx.out 14 (show 14 < 30 by decide) (.int .i64 3)))
     ·intro xx af wv k hk hI hev hev0 hd; have e50 := (hev 1 _ 50 rfl rfl).trans (hd ⟨1, .data⟩ (by simp) rfl (by decide)); clear hev hev0 hd hI; rw [if_neg (by decide)]; go_wp2; exact StepW.mk _
     ·intro xx af wv k hk hI hev hev0 hd; have e56 := (hev 8 _ 56 rfl rfl).trans (hd ⟨8, .data⟩ (by simp) rfl (by decide)); clear hev hev0 hd hI; rw [if_neg (by decide)]; go_wp2; exact StepW.mk _
     ·intro xx af wv k hk hI hev hev0 hd; have e57 := (hev 9 _ 57 rfl rfl).trans (hd ⟨9, .data⟩ (by simp) rfl (by decide)); have e52 := (hev 3 _ 52 rfl rfl).trans (hd ⟨3, .data⟩ (by simp) rfl (by decide)); clear hev hev0 hd; rw [if_pos (by decide)]; intro hk0; obtain rfl : k = 1 := hk0; have yo0 := hI.out.cell (v := .bool x.fl.n) 2 rfl (o + 19) (offA_cell HOx.out rfl); have yf0 := hI.out.frozen 2 rfl (o + 19); have yo1 := hI.out.cell (v := .string (bs x.fl.a)) 2 rfl (o + 20) (offA_cell HOx.out rfl); have yf1 := hI.out.frozen 2 rfl (o + 20); have yo2 := hI.out.cell (v := .string (bs x.fl.b)) 2 rfl (o + 21) (offA_cell HOx.out rfl); have yf2 := hI.out.frozen 2 rfl (o + 21); go_wp2; exact StepI.mk (Lib.hid (St.setO ((St.setO ((St.setO (hI.out) 2 rfl HOx.out 19 (show 19 < 30 by decide) (.bool (negB (e.am.val))))) 2 rfl HOx.out 20 (show 20 < 30 by decide) (.string (bs (numB (e.am.val)))))) 2 rfl HOx.out 21 (show 21 < 30 by decide) (.string (bs (denomB (e.am.val))))))
     ·intro xx af wv k hk hI hev hev0 hd; have e51 := (hev 2 _ 51 rfl rfl).trans (hd ⟨2, .data⟩ (by simp) rfl (by decide)); clear hev hev0 hd hI; rw [if_neg (by decide)]; go_wp2; exact StepW.mk _
     ·intro xx af wv k hk hI hev hev0 hd; have e58 := (hev 11 _ 58 rfl rfl).trans (hd ⟨11, .data⟩ (by simp) rfl (by decide)); clear hev hev0 hd hI; rw [if_neg (by decide)]; go_wp2; exact StepW.mk _
     intro xx w9 hI hv
     simp only [List.take, List.drop, fillA, Act.put]
     simp only [show xx 0 = _ from hv 0 (by decide) (by decide), show xx 1 = _ from hv 1 (by decide) (by decide), show xx 2 = _ from hv 2 (by decide) (by decide), show xx 3 = _ from hv 3 (by decide) (by decide), show xx 4 = _ from hv 4 (by decide) (by decide), show xx 5 = _ from hv 5 (by decide) (by decide), show xx 6 = _ from hv 6 (by decide) (by decide), show xx 8 = _ from hv 8 (by decide) (by decide), show xx 9 = _ from hv 9 (by decide) (by decide), show xx 11 = _ from hv 11 (by decide) (by decide), show xx 12 = _ from hv 12 (by decide) (by decide)]
     have HS9 : Hid (St w0 (⟨w5.heap.size, #[.bool (negB (e.am.val)), .string (bs (numB (e.am.val))), .string (bs (denomB (e.am.val)))], 34⟩ :: ⟨w.heap.size, e.enc.toArray, 56⟩ :: ⟨g, (offA pre ((((x.enc.set 14 (.int .i64 3)).set 19 (.bool (negB (e.am.val)))).set 20 (.string (bs (numB (e.am.val))))).set 21 (.string (bs (denomB (e.am.val))))) post), 63⟩ :: R0) w9) := hI
     clear hv hI HS8
     have x8 := HS9.out.cell (v := .int .i64 e.day) 1 rfl 1 rfl
     have x9 := HS9.out.cell (v := .bool x.ad.n) 2 rfl (o + 22) (offA_cell HOx.out rfl)
     have x10 := HS9.out.cell (v := .string (bs x.ad.a)) 2 rfl (o + 23) (offA_cell HOx.out rfl)
     have x11 := HS9.out.cell (v := .string (bs x.ad.b)) 2 rfl (o + 24) (offA_cell HOx.out rfl)
     have x12 := HS9.out.cell (v := .int .i64 x.chg) 2 rfl (o + 29) (offA_cell HOx.out rfl)
     have x13 := HS9.out.frozen 2 rfl (o + 22)
     have x14 := HS9.out.frozen 2 rfl (o + 23)
     have x15 := HS9.out.frozen 2 rfl (o + 24)
     have x16 := HS9.out.frozen 2 rfl (o + 29)
     have x17 := HS9.out.ne 2 0 rfl rfl (by decide)
     have x18 := HS9.out.ne 0 2 rfl rfl (by decide)
     have x19 := HS9.out.ne 2 1 rfl rfl (by decide)
     have x20 := HS9.out.ne 1 2 rfl rfl (by decide)
     go_wp2
     go_ret
     have HS10 : Hid (St w0 (⟨w5.heap.size, #[.bool (negB (e.am.val)), .string (bs (numB (e.am.val))), .string (bs (denomB (e.am.val)))], 34⟩ :: ⟨w.heap.size, e.enc.toArray, 56⟩ :: ⟨g, (offA pre ((((((((x.enc.set 14 (.int .i64 3)).set 19 (.bool (negB (e.am.val)))).set 20 (.string (bs (numB (e.am.val))))).set 21 (.string (bs (denomB (e.am.val))))).set 22 (.bool (negB (e.am.val)))).set 23 (.string (bs (numB (e.am.val))))).set 24 (.string (bs (denomB (e.am.val))))).set 29 (.int .i64 e.day)) post), 63⟩ :: R0) _) := Lib.hid (St.setO ((St.setO ((St.setO ((St.setO (HS9.out) 2 rfl HOx.out 22 (show 22 < 30 by decide) (.bool (negB (e.am.val))))) 2 rfl HOx.out 23 (show 23 < 30 by decide) (.string (bs (numB (e.am.val)))))) 2 rfl HOx.out 24 (show 24 < 30 by decide) (.string (bs (denomB (e.am.val)))))) 2 rfl HOx.out 29 (show 29 < 30 by decide) (.int .i64 e.day))
     rw [R.out.1, R.out.2]
     exact ⟨rfl, HS10.out.sub (List.Sublist.cons _ (List.Sublist.cons _ (List.Sublist.refl _)))⟩
  ·have R := Lib.hid (finE_ok (show changeE x e = ({ x with st := 2, fl := enc3 x.ce.val, ad := enc3 x.ce.val }, 0) by unfold changeE; rw [if_neg (by rw [← HABx.out]; decide), if_pos (kind_is HK2x.out rfl)]))
   have x8 := HS5.out.cell (v := .bool x.ce.n) 1 rfl (o + 25) (offA_cell HOx.out rfl)
   have x9 := HS5.out.cell (v := .string (bs x.ce.a)) 1 rfl (o + 26) (offA_cell HOx.out rfl)
   have x10 := HS5.out.cell (v := .string (bs x.ce.b)) 1 rfl (o + 27) (offA_cell HOx.out rfl)
   have x11 := HS5.out.lt 1 rfl
   have x12 : ¬ g = w5.heap.size := by omega
   have x13 : ¬ w5.heap.size = g := by omega
   go_wp2_with fail
   have HS6 := Lib.hid (St.alloc (HS5.out) #[.bool (negB (e.am.val)), .string (bs (numB (e.am.val))), .string (bs (denomB (e.am.val)))] 34 (w5.heap.size) (by simp))
   refine (HCCx.out _).mono ?_
   rintro e w7 ⟨rfl, hb7⟩
   have HS7 := Lib.hid (HS6.out.call hb7)
   clear hb7 HS5 HS6
   clear x8 x9 x10 x11 x12 x13
   go_wp2
   have HS8 := Lib.hid (St.alloc (HS7.out) #[.bool (negB (x.ce.val)), .string (bs (numB (x.ce.val))), .string (bs (denomB (x.ce.val)))] 34 (w7.heap.size) (by simp))
   clear HS7
   refine wp_region_stores 13 [7, 10] [.pointer (some ⟨g, o, none⟩), .pointer (some ⟨g, o, none⟩), .pointer (some ⟨g, o, none⟩), .agg #[.bool (negB (x.ce.val)), .string (bs (numB (x.ce.val))), .string (bs (denomB (x.ce.val)))], .agg #[.bool (negB (x.ce.val)), .string (bs (numB (x.ce.val))), .string (bs (denomB (x.ce.val)))], .pointer (some ⟨g, o, none⟩), .pointer (some ⟨g, o + 14, none⟩), undef, .pointer (some ⟨g, o, none⟩), .pointer (some ⟨g, o + 19, none⟩), undef, .pointer (some ⟨g, o, none⟩), .pointer (some ⟨g, o + 22, none⟩)] (fun k wv _ => Hid (St w0 (⟨w7.heap.size, #[.bool (negB (x.ce.val)), .string (bs (numB (x.ce.val))), .string (bs (denomB (x.ce.val)))], 34⟩ :: ⟨w5.heap.size, #[.bool (negB (e.am.val)), .string (bs (numB (e.am.val))), .string (bs (denomB (e.am.val)))], 34⟩ :: ⟨w.heap.size, e.enc.toArray, 56⟩ :: ⟨g, (offA pre (([x.enc, (x.enc.set 14 (.int .i64 2)), ((((x.enc.set 14 (.int .i64 2)).set 19 (.bool (negB (x.ce.val)))).set 20 (.string (bs (numB (x.ce.val))))).set 21 (.string (bs (denomB (x.ce.val)))))] : List (List Value)).getD k []) post), 63⟩ :: R0) wv)) rfl (by kernel_rfl) (by kernel_rfl) (by kernel_rfl) (by kernel_rfl) (by decide) (by decide) (Lib.hid HS8.out.drew) ?_ ?_
   refine ⟨?_, ?_, ?_, ?_, ?_, ?_, ?_, ?_, ?_, ?_, ?_, ?_, ?_, trivial⟩
   ·intro xx af wv k hk hI hev hev0 hd; have e0 : af.tmps[0]?.getD undef = .pointer (some ⟨g, o, none⟩) := hev0 0 rfl; clear hev hev0 hd hI; rw [if_neg (by decide)]; go_wp2; exact StepW.mk _
   ·intro xx af wv k hk hI hev hev0 hd; have e0 : af.tmps[0]?.getD undef = .pointer (some ⟨g, o, none⟩) := hev0 0 rfl; clear hev hev0 hd hI; rw [if_neg (by decide)]; go_wp2; exact StepW.mk _
   ·intro xx af wv k hk hI hev hev0 hd; have e0 : af.tmps[0]?.getD undef = .pointer (some ⟨g, o, none⟩) := hev0 0 rfl; clear hev hev0 hd hI; rw [if_neg (by decide)]; go_wp2; exact StepW.mk _
   ·intro xx af wv k hk hI hev hev0 hd; have e6 : af.tmps[6]?.getD undef = .pointer (some ⟨w7.heap.size, 0, none⟩) := hev0 6 rfl; clear hev hev0 hd; have y0 := hI.out.cell 0 rfl 0 rfl; have y1 := hI.out.cell 0 rfl 1 rfl; have y2 := hI.out.cell 0 rfl 2 rfl; clear hI; rw [if_neg (by decide)]; go_wp2; exact StepW.mk _
   ·intro xx af wv k hk hI hev hev0 hd; have e6 : af.tmps[6]?.getD undef = .pointer (some ⟨w7.heap.size, 0, none⟩) := hev0 6 rfl; clear hev hev0 hd; have y0 := hI.out.cell 0 rfl 0 rfl; have y1 := hI.out.cell 0 rfl 1 rfl; have y2 := hI.out.cell 0 rfl 2 rfl; clear hI; rw [if_neg (by decide)]; go_wp2; exact StepW.mk _
   ·intro xx af wv k hk hI hev hev0 hd; have e28 := (hev 0 _ 28 rfl rfl).trans (hd ⟨0, .data⟩ (by simp) rfl (by decide)); clear hev hev0 hd hI; rw [if_neg (by decide)]; go_wp2; exact StepW.mk _
   ·intro xx af wv k hk hI hev hev0 hd; have e33 := (hev 5 _ 33 rfl rfl).trans (hd ⟨5, .data⟩ (by simp) rfl (by decide)); clear hev hev0 hd hI; rw [if_neg (by decide)]; go_wp2; exact StepW.mk _
   ·intro xx af wv k hk hI hev hev0 hd; have e34 := (hev 6 _ 34 rfl rfl).trans (hd ⟨6, .data⟩ (by simp) rfl (by decide)); clear hev hev0 hd; rw [if_pos (by decide)]; intro hk0; obtain rfl : k = 0 := hk0; have yo0 := hI.out.cell (v := .int .i64 x.st) 3 rfl (o + 14) (offA_cell HOx.out rfl); have yf0 := hI.out.frozen 3 rfl (o + 14); go_wp2; exact StepI.mk (Lib.hid (St.setO (hI.out) 3 rfl HOx.out 14 (show 14 < 30 by decide) (.int .i64 2)))
   ·intro xx af wv k hk hI hev hev0 hd; have e29 := (hev 1 _ 29 rfl rfl).trans (hd ⟨1, .data⟩ (by simp) rfl (by decide)); clear hev hev0 hd hI; rw [if_neg (by decide)]; go_wp2; exact StepW.mk _
   ·intro xx af wv k hk hI hev hev0 hd; have e35 := (hev 8 _ 35 rfl rfl).trans (hd ⟨8, .data⟩ (by simp) rfl (by decide)); clear hev hev0 hd hI; rw [if_neg (by decide)]; go_wp2; exact StepW.mk _
   ·intro xx af wv k hk hI hev hev0 hd; have e36 := (hev 9 _ 36 rfl rfl).trans (hd ⟨9, .data⟩ (by simp) rfl (by decide)); have e31 := (hev 3 _ 31 rfl rfl).trans (hd ⟨3, .data⟩ (by simp) rfl (by decide)); clear hev hev0 hd; rw [if_pos (by decide)]; intro hk0; obtain rfl : k = 1 := hk0; have yo0 := hI.out.cell (v := .bool x.fl.n) 3 rfl (o + 19) (offA_cell HOx.out rfl); have yf0 := hI.out.frozen 3 rfl (o + 19); have yo1 := hI.out.cell (v := .string (bs x.fl.a)) 3 rfl (o + 20) (offA_cell HOx.out rfl); have yf1 := hI.out.frozen 3 rfl (o + 20); have yo2 := hI.out.cell (v := .string (bs x.fl.b)) 3 rfl (o + 21) (offA_cell HOx.out rfl); have yf2 := hI.out.frozen 3 rfl (o + 21); go_wp2; exact StepI.mk (Lib.hid (St.setO ((St.setO ((St.setO (hI.out) 3 rfl HOx.out 19 (show 19 < 30 by decide) (.bool (negB (x.ce.val))))) 3 rfl HOx.out 20 (show 20 < 30 by decide) (.string (bs (numB (x.ce.val)))))) 3 rfl HOx.out 21 (show 21 < 30 by decide) (.string (bs (denomB (x.ce.val))))))
   ·intro xx af wv k hk hI hev hev0 hd; have e30 := (hev 2 _ 30 rfl rfl).trans (hd ⟨2, .data⟩ (by simp) rfl (by decide)); clear hev hev0 hd hI; rw [if_neg (by decide)]; go_wp2; exact StepW.mk _
   ·intro xx af wv k hk hI hev hev0 hd; have e37 := (hev 11 _ 37 rfl rfl).trans (hd ⟨11, .data⟩ (by simp) rfl (by decide)); clear hev hev0 hd hI; rw [if_neg (by decide)]; go_wp2; exact StepW.mk _
   intro xx w10 hI hv
   simp only [List.take, List.drop, fillA, Act.put]
   simp only [show xx 0 = _ from hv 0 (by decide) (by decide), show xx 1 = _ from hv 1 (by decide) (by decide), show xx 2 = _ from hv 2 (by decide) (by decide), show xx 3 = _ from hv 3 (by decide) (by decide), show xx 4 = _ from hv 4 (by decide) (by decide), show xx 5 = _ from hv 5 (by decide) (by decide), show xx 6 = _ from hv 6 (by decide) (by decide), show xx 8 = _ from hv 8 (by decide) (by decide), show xx 9 = _ from hv 9 (by decide) (by decide), show xx 11 = _ from hv 11 (by decide) (by decide), show xx 12 = _ from hv 12 (by decide) (by decide)]
   have HS10 : Hid (St w0 (⟨w7.heap.size, #[.bool (negB (x.ce.val)), .string (bs (numB (x.ce.val))), .string (bs (denomB (x.ce.val)))], 34⟩ :: ⟨w5.heap.size, #[.bool (negB (e.am.val)), .string (bs (numB (e.am.val))), .string (bs (denomB (e.am.val)))], 34⟩ :: ⟨w.heap.size, e.enc.toArray, 56⟩ :: ⟨g, (offA pre ((((x.enc.set 14 (.int .i64 2)).set 19 (.bool (negB (x.ce.val)))).set 20 (.string (bs (numB (x.ce.val))))).set 21 (.string (bs (denomB (x.ce.val))))) post), 63⟩ :: R0) w10) := hI
   clear hv hI HS8
   have x14 := HS10.out.cell (v := .int .i64 e.day) 2 rfl 1 rfl
   have x15 := HS10.out.cell (v := .bool x.ad.n) 3 rfl (o + 22) (offA_cell HOx.out rfl)
   have x16 := HS10.out.cell (v := .string (bs x.ad.a)) 3 rfl (o + 23) (offA_cell HOx.out rfl)
   have x17 := HS10.out.cell (v := .string (bs x.ad.b)) 3 rfl (o + 24) (offA_cell HOx.out rfl)
   have x18 := HS10.out.cell (v := .int .i64 x.chg) 3 rfl (o + 29) (offA_cell HOx.out rfl)
   have x19 := HS10.out.frozen 3 rfl (o + 22)
   have x20 := HS10.out.frozen 3 rfl (o + 23)
   have x21 := HS10.out.frozen 3 rfl (o + 24)
   have x22 := HS10.out.frozen 3 rfl (o + 29)
   have x23 := HS10.out.ne 3 0 rfl rfl (by decide)
   have x24 := HS10.out.ne 0 3 rfl rfl (by decide)
   have x25 := HS10.out.ne 3 1 rfl rfl (by decide)
   have x26 := HS10.out.ne 1 3 rfl rfl (by decide)
   have x27 := HS10.out.ne 3 2 rfl rfl (by decide)
   have x28 := HS10.out.ne 2 3 rfl rfl (by decide)
   go_wp2
   go_ret
   have HS11 : Hid (St w0 (⟨w7.heap.size, #[.bool (negB (x.ce.val)), .string (bs (numB (x.ce.val))), .string (bs (denomB (x.ce.val)))], 34⟩ :: ⟨w5.heap.size, #[.bool (negB (e.am.val)), .string (bs (numB (e.am.val))), .string (bs (denomB (e.am.val)))], 34⟩ :: ⟨w.heap.size, e.enc.toArray, 56⟩ :: ⟨g, (offA pre ((((((((x.enc.set 14 (.int .i64 2)).set 19 (.bool (negB (x.ce.val)))).set 20 (.string (bs (numB (x.ce.val))))).set 21 (.string (bs (denomB (x.ce.val))))).set 22 (.bool (negB (x.ce.val)))).set 23 (.string (bs (numB (x.ce.val))))).set 24 (.string (bs (denomB (x.ce.val))))).set 29 (.int .i64 e.day)) post), 63⟩ :: R0) _) := Lib.hid (St.setO ((St.setO ((St.setO ((St.setO (HS10.out) 3 rfl HOx.out 22 (show 22 < 30 by decide) (.bool (negB (x.ce.val))))) 3 rfl HOx.out 23 (show 23 < 30 by decide) (.string (bs (numB (x.ce.val)))))) 3 rfl HOx.out 24 (show 24 < 30 by decide) (.string (bs (denomB (x.ce.val)))))) 3 rfl HOx.out 29 (show 29 < 30 by decide) (.int .i64 e.day))
   rw [R.out.1, R.out.2]
   exact ⟨rfl, HS11.out.sub (List.Sublist.cons _ (List.Sublist.cons _ (List.Sublist.cons _ (List.Sublist.refl _))))⟩
end Go.Proofs.YtlkhoommpkndpaaGreatDoor
