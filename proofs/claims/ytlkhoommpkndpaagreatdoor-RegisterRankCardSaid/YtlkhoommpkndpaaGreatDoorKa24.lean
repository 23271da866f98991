/-
Part 24 of the base.
-/
import Derived.Test.YtlkhoommpkndpaaGreatDoorKa18
import Derived.Test.YtlkhoommpkndpaaGreatDoorKa7
import Derived.Test.YtlkhoommpkndpaaGreatDoorKa23
import Derived.Test.YtlkhoommpkndpaaGreatDoorKa12
import Derived.Test.YtlkhoommpkndpaaGreatDoorKa14
import Derived.Test.YtlkhoommpkndpaaGreatDoorKa9
namespace Go.Proofs.YtlkhoommpkndpaaGreatDoor
open Go.RowKit

set_option maxRecDepth 100000 in
theorem interest_isDay (d : Int) (w : World) :
  Calls Tryz.prog 122 #[.int .i64 d] w fun e w' => e = .returned (.bool (dayB d)) ∧ w = w' := by
 unfold dayB
 obtain ⟨x, hx⟩ : ∃ x, x = decide (0 ≤ d) := ⟨_, rfl⟩
 obtain ⟨y, hy⟩ : ∃ y, y = decide (d ≤ 1048576) := ⟨_, rfl⟩
 rw [← hx, ← hy]
 have hx' := hx.symm
 have hy' := hy.symm
 clear hx hy
 cases x <;> cases y
 all_goals
  go_enter Tryz.func122, Tryz.ntmps122
  go_wp2
  go_ret
  exact ⟨rfl, rfl⟩

set_option maxRecDepth 100000 in
set_option maxHeartbeats 1000000 in
theorem interest_Check (v : Value) (l : List Stp) (w : World) (h : StepsL w v l) (hok : ∀ s ∈ l, s.num.length ≤ 68719476736 ∧ s.den.length ≤ 68719476736) :
  Calls Tryz.prog 121 #[v] w fun e w' => e = .returned (.int .i64 (checkS l)) ∧ Below w.heap.size w w' := by
 have H := Lib.hid h
 have HOK := Lib.hid hok
 obtain ⟨A, c, rfl, hl, hc⟩ := h.slice
 clear h hok
 by_cases hlen : 64 < l.length
 ·have hd : decide ((64 : Int) < (l.length : Int)) = true := decide_eq_true (by omega)
  have HR := Lib.hid (checkS_long hlen)
  go_enter Tryz.func121, Tryz.ntmps121
  have HS := Lib.hid (St.start w)
  go_wp2
  go_ret
  rw [HR.out]
  exact ⟨rfl, HS.out.below⟩
 ·have hd : decide ((64 : Int) < (l.length : Int)) = false := decide_eq_false (by omega)
  have hlen := Nat.not_lt.1 hlen
  go_enter Tryz.func121, Tryz.ntmps121
  have HS := Lib.hid (St.start w)
  go_wp2
  go_loopw [10] (fun i wr => ∃ k : Nat, k ≤ l.length ∧ i = .int .i64 k ∧ Hid (checkTo l k = 0) ∧ Hid (St w [] wr)) (fun i _ => l.length - (intOf i).toNat)
  case atStart => exact ⟨0, Nat.zero_le _, rfl, rfl, HS.out⟩
  case round =>
   obtain ⟨k, hk, rfl, hck, HS⟩ := hrel
   by_cases hlt : k < l.length
   ·obtain ⟨b, o, s, rfl, hbb, hq, hx⟩ := H.out.at_ hlt
    have ho := HOK.out s (List.mem_of_getElem? hq)
    have hD := fun W => interest_isDay s.frm W
    have hS := fun W => rational_Sign s.neg s.num s.den W (by omega) (by omega)
    have E1 := Lib.hid (fun h => checkS_err hlen hck.out hq (stepErr_day h) (by decide))
    have E2 := Lib.hid (fun h h1 h2 => checkS_err hlen hck.out hq (stepErr_order h h1 h2) (by decide))
    have E3 := Lib.hid (fun h h1 h2 => checkS_err hlen hck.out hq (stepErr_neg h h1 h2) (by decide))
    have E4 := Lib.hid (fun h h1 h2 => (checkTo_step hck.out hq).trans (stepErr_ok h h1 h2))
    change ∀ W, Calls Tryz.prog _ _ W (fun e w' => e = .returned (.int .i64 (sgn s.rate.num)) ∧ _) at hS
    unfold raw at hS
    obtain ⟨sg, hsg⟩ : ∃ x, x = sgn s.rate.num := ⟨_, rfl⟩
    rw [← hsg] at hS
    obtain ⟨dB, hdB⟩ : ∃ x, x = dayB s.frm := ⟨_, rfl⟩
    rw [← hdB] at hD
    have HD := Lib.hid hD
    have HG := Lib.hid hS
    have HX := Lib.hid hx
    have HSG := Lib.hid hsg
    have HDB := Lib.hid hdB.symm
    have HQ := Lib.hid hq
    clear hD hS hx hsg hdB hq ho
    cases dB
    ·have e0 : (0 : Int) ≤ ((k : Nat) : Int) := by omega
     have e1 : ((k : Nat) : Int) < (l.length : Int) := by omega
     have x1 := HX.out _ HS.out.below 0 _ rfl
     rw [Nat.add_zero] at x1
     have x2 := HX.out _ HS.out.below 1 _ rfl
     have x3 := HX.out _ HS.out.below 2 _ rfl
     have x4 := HX.out _ HS.out.below 3 _ rfl
     go_wp2_with fail
     refine (HD.out _).mono ?_
     rintro e w' ⟨rfl, rfl⟩
     clear x1 x2 x3 x4
     go_wp2
     have HS2 : Hid (St w [⟨wr.heap.size, #[.int .i64 s.frm, .bool s.neg, .string (bs s.num), .string (bs s.den)], 87⟩] _) := Lib.hid (St.alloc (HS.out) #[.int .i64 s.frm, .bool s.neg, .string (bs s.num), .string (bs s.den)] 87 _ (by simp))
     go_ret
     rw [E1.out HDB.out]
     exact ⟨rfl, HS2.out.below⟩
    ·rcases k with _ | k
     ·by_cases hn : sg < 0
      ·have e1 : (0 : Int) < (l.length : Int) := by omega
       have hn2 : decide (sg < 0) = true := decide_eq_true hn
       have R := Lib.hid (E3.out HDB.out (by omega) (by rw [← HSG.out]; exact hn))
       clear hn
       have x1 := HX.out _ HS.out.below 0 _ rfl
       rw [Nat.add_zero] at x1
       have x2 := HX.out _ HS.out.below 1 _ rfl
       have x3 := HX.out _ HS.out.below 2 _ rfl
       have x4 := HX.out _ HS.out.below 3 _ rfl
       go_wp2_with fail
       refine (HD.out _).mono ?_
       rintro e w' ⟨rfl, rfl⟩
       clear x1 x2 x3 x4
       go_wp2
       have HS2 : Hid (St w [⟨wr.heap.size, #[.int .i64 s.frm, .bool s.neg, .string (bs s.num), .string (bs s.den)], 87⟩] _) := Lib.hid (St.alloc (HS.out) #[.int .i64 s.frm, .bool s.neg, .string (bs s.num), .string (bs s.den)] 87 _ (by simp))
       clear HS
       refine wp_region_facts 13 [fun _ vv => vv = .int .i64 (0 : Nat), fun _ vv => vv = .bool false, fun _ vv => vv = .bool false, fun _ vv => vv = undef, fun _ vv => vv = undef, fun _ vv => vv = undef, fun _ vv => vv = undef, fun _ vv => vv = undef, fun _ vv => vv = undef, fun _ vv => vv = undef, fun _ vv => vv = undef, fun _ vv => vv = undef, fun _ vv => vv = .bool false] rfl (by kernel_rfl) (by kernel_rfl) (by kernel_rfl) ⟨fun _ _ _ h _ => h, fun _ _ _ h _ => h, fun _ _ _ h _ => h, fun _ _ _ h _ => h, fun _ _ _ h _ => h, fun _ _ _ h _ => h, fun _ _ _ h _ => h, fun _ _ _ h _ => h, fun _ _ _ h _ => h, fun _ _ _ h _ => h, fun _ _ _ h _ => h, fun _ _ _ h _ => h, fun _ _ _ h _ => h, trivial⟩ ?_ ?_
       refine ⟨?_, ?_, ?_, ?_, ?_, ?_, ?_, ?_, ?_, ?_, ?_, ?_, ?_, trivial⟩
       ·intro xx af wv hbx hev hev0 hd; have e3 : af.tmps[3]?.getD undef = .int .i64 (0 : Nat) := hev0 3 rfl; clear hev hev0 hd; go_wp2; exact StepQ.mk _ (Below.refl _ _) rfl
       ·intro xx af wv hbx hev hev0 hd; have e21 := (hev 0 _ 21 rfl rfl).trans (hd ⟨0, .data⟩ (by simp) rfl); clear hev hev0 hd; go_wp2; exact StepQ.mk _ (Below.refl _ _) rfl
       ·intro xx af wv hbx hev hev0 hd; have e22 := (hev 1 _ 22 rfl rfl).trans (hd ⟨1, .data⟩ (by simp) rfl); clear hev hev0 hd; go_wp2; exact StepQ.mk _ (Below.refl _ _) rfl
       ·intro xx af wv hbx hev hev0 hd; have e23 := (hev 2 _ 23 rfl rfl).trans (hd ⟨2, .guard⟩ (by simp) rfl); have q23 := getD_bool e23; clear hev hev0 hd; go_wp2; exact StepQ.mk _ (Below.refl _ _) rfl
       ·intro xx af wv hbx hev hev0 hd; have e23 := (hev 2 _ 23 rfl rfl).trans (hd ⟨2, .guard⟩ (by simp) rfl); have q23 := getD_bool e23; clear hev hev0 hd; go_wp2; exact StepQ.mk _ (Below.refl _ _) rfl
       ·intro xx af wv hbx hev hev0 hd; have e23 := (hev 2 _ 23 rfl rfl).trans (hd ⟨2, .guard⟩ (by simp) rfl); have q23 := getD_bool e23; clear hev hev0 hd; go_wp2; exact StepQ.mk _ (Below.refl _ _) rfl
       ·intro xx af wv hbx hev hev0 hd; have e23 := (hev 2 _ 23 rfl rfl).trans (hd ⟨2, .guard⟩ (by simp) rfl); have q23 := getD_bool e23; clear hev hev0 hd; go_wp2; exact StepQ.mk _ (Below.refl _ _) rfl
       ·intro xx af wv hbx hev hev0 hd; have e23 := (hev 2 _ 23 rfl rfl).trans (hd ⟨2, .guard⟩ (by simp) rfl); have q23 := getD_bool e23; clear hev hev0 hd; go_wp2; exact StepQ.mk _ (Below.refl _ _) rfl
       ·intro xx af wv hbx hev hev0 hd; have e23 := (hev 2 _ 23 rfl rfl).trans (hd ⟨2, .guard⟩ (by simp) rfl); have q23 := getD_bool e23; clear hev hev0 hd; go_wp2; exact StepQ.mk _ (Below.refl _ _) rfl
       ·intro xx af wv hbx hev hev0 hd; have e23 := (hev 2 _ 23 rfl rfl).trans (hd ⟨2, .guard⟩ (by simp) rfl); have q23 := getD_bool e23; clear hev hev0 hd; go_wp2; exact StepQ.mk _ (Below.refl _ _) rfl
       ·intro xx af wv hbx hev hev0 hd; have e23 := (hev 2 _ 23 rfl rfl).trans (hd ⟨2, .guard⟩ (by simp) rfl); have q23 := getD_bool e23; clear hev hev0 hd; go_wp2; exact StepQ.mk _ (Below.refl _ _) rfl
       ·intro xx af wv hbx hev hev0 hd; have e23 := (hev 2 _ 23 rfl rfl).trans (hd ⟨2, .guard⟩ (by simp) rfl); have q23 := getD_bool e23; clear hev hev0 hd; go_wp2; exact StepQ.mk _ (Below.refl _ _) rfl
       ·intro xx af wv hbx hev hev0 hd; have e23 := (hev 2 _ 23 rfl rfl).trans (hd ⟨2, .data⟩ (by simp) rfl); have e32 := (hev 11 _ 32 rfl rfl).trans (hd ⟨11, .data⟩ (by simp) rfl); clear hev hev0 hd; go_wp2; exact StepQ.mk _ (Below.refl _ _) rfl
       intro xx w4 hb9 hv
       simp only [List.take, List.drop, fillA, Act.put]
       simp only [show xx 0 = _ from hv 0 (by decide), show xx 1 = _ from hv 1 (by decide), show xx 2 = _ from hv 2 (by decide), show xx 3 = _ from hv 3 (by decide), show xx 4 = _ from hv 4 (by decide), show xx 5 = _ from hv 5 (by decide), show xx 6 = _ from hv 6 (by decide), show xx 7 = _ from hv 7 (by decide), show xx 8 = _ from hv 8 (by decide), show xx 9 = _ from hv 9 (by decide), show xx 10 = _ from hv 10 (by decide), show xx 11 = _ from hv 11 (by decide), show xx 12 = _ from hv 12 (by decide)]
       clear hv
       have HS4 := Lib.hid (HS2.out.call hb9)
       clear hb9 HS2
       have x5 := HS4.out.cell 0 rfl 1 rfl
       have x6 := HS4.out.cell 0 rfl 2 rfl
       have x7 := HS4.out.cell 0 rfl 3 rfl
       go_wp2_with fail
       refine (HG.out _).mono ?_
       rintro e w5 ⟨rfl, hb5⟩
       have HS5 := Lib.hid (HS4.out.call hb5)
       clear hb5 HS4
       clear x5 x6 x7
       go_wp2
       have HS6 : Hid (St w [⟨wr.heap.size, #[.int .i64 s.frm, .bool s.neg, .string (bs s.num), .string (bs s.den)], 87⟩] _) := Lib.hid HS5.out
       go_ret
       rw [R.out]
       exact ⟨rfl, HS6.out.below⟩
      ·have e1 : (0 : Int) < (l.length : Int) := by omega
       have hn2 : decide (sg < 0) = false := decide_eq_false hn
       have R := Lib.hid (E4.out HDB.out (by omega) (by rw [← HSG.out]; exact hn))
       clear hn
       have x1 := HX.out _ HS.out.below 0 _ rfl
       rw [Nat.add_zero] at x1
       have x2 := HX.out _ HS.out.below 1 _ rfl
       have x3 := HX.out _ HS.out.below 2 _ rfl
       have x4 := HX.out _ HS.out.below 3 _ rfl
       go_wp2_with fail
       refine (HD.out _).mono ?_
       rintro e w' ⟨rfl, rfl⟩
       clear x1 x2 x3 x4
       go_wp2
       have HS2 : Hid (St w [⟨wr.heap.size, #[.int .i64 s.frm, .bool s.neg, .string (bs s.num), .string (bs s.den)], 87⟩] _) := Lib.hid (St.alloc (HS.out) #[.int .i64 s.frm, .bool s.neg, .string (bs s.num), .string (bs s.den)] 87 _ (by simp))
       clear HS
       refine wp_region_facts 13 [fun _ vv => vv = .int .i64 (0 : Nat), fun _ vv => vv = .bool false, fun _ vv => vv = .bool false, fun _ vv => vv = undef, fun _ vv => vv = undef, fun _ vv => vv = undef, fun _ vv => vv = undef, fun _ vv => vv = undef, fun _ vv => vv = undef, fun _ vv => vv = undef, fun _ vv => vv = undef, fun _ vv => vv = undef, fun _ vv => vv = .bool false] rfl (by kernel_rfl) (by kernel_rfl) (by kernel_rfl) ⟨fun _ _ _ h _ => h, fun _ _ _ h _ => h, fun _ _ _ h _ => h, fun _ _ _ h _ => h, fun _ _ _ h _ => h, fun _ _ _ h _ => h, fun _ _ _ h _ => h, fun _ _ _ h _ => h, fun _ _ _ h _ => h, fun _ _ _ h _ => h, fun _ _ _ h _ => h, fun _ _ _ h _ => h, fun _ _ _ h _ => h, trivial⟩ ?_ ?_
       refine ⟨?_, ?_, ?_, ?_, ?_, ?_, ?_, ?_, ?_, ?_, ?_, ?_, ?_, trivial⟩
       ·intro xx af wv hbx hev hev0 hd; have e3 : af.tmps[3]?.getD undef = .int .i64 (0 : Nat) := hev0 3 rfl; clear hev hev0 hd; go_wp2; exact StepQ.mk _ (Below.refl _ _) rfl
       ·intro xx af wv hbx hev hev0 hd; have e21 := (hev 0 _ 21 rfl rfl).trans (hd ⟨0, .data⟩ (by simp) rfl); clear hev hev0 hd; go_wp2; exact StepQ.mk _ (Below.refl _ _) rfl
       ·intro xx af wv hbx hev hev0 hd; have e22 := (hev 1 _ 22 rfl rfl).trans (hd ⟨1, .data⟩ (by simp) rfl); clear hev hev0 hd; go_wp2; exact StepQ.mk _ (Below.refl _ _) rfl
       ·intro xx af wv hbx hev hev0 hd; have e23 := (hev 2 _ 23 rfl rfl).trans (hd ⟨2, .guard⟩ (by simp) rfl); have q23 := getD_bool e23; clear hev hev0 hd; go_wp2; exact StepQ.mk _ (Below.refl _ _) rfl
       ·intro xx af wv hbx hev hev0 hd; have e23 := (hev 2 _ 23 rfl rfl).trans (hd ⟨2, .guard⟩ (by simp) rfl); have q23 := getD_bool e23; clear hev hev0 hd; go_wp2; exact StepQ.mk _ (Below.refl _ _) rfl
       ·intro xx af wv hbx hev hev0 hd; have e23 := (hev 2 _ 23 rfl rfl).trans (hd ⟨2, .guard⟩ (by simp) rfl); have q23 := getD_bool e23; clear hev hev0 hd; go_wp2; exact StepQ.mk _ (Below.refl _ _) rfl
       ·intro xx af wv hbx hev hev0 hd; have e23 := (hev 2 _ 23 rfl rfl).trans (hd ⟨2, .guard⟩ (by simp) rfl); have q23 := getD_bool e23; clear hev hev0 hd; go_wp2; exact StepQ.mk _ (Below.refl _ _) rfl
       ·intro xx af wv hbx hev hev0 hd; have e23 := (hev 2 _ 23 rfl rfl).trans (hd ⟨2, .guard⟩ (by simp) rfl); have q23 := getD_bool e23; clear hev hev0 hd; go_wp2; exact StepQ.mk _ (Below.refl _ _) rfl
       ·intro xx af wv hbx hev hev0 hd; have e23 := (hev 2 _ 23 rfl rfl).trans (hd ⟨2, .guard⟩ (by simp) rfl); have q23 := getD_bool e23; clear hev hev0 hd; go_wp2; exact StepQ.mk _ (Below.refl _ _) rfl
       ·intro xx af wv hbx hev hev0 hd; have e23 := (hev 2 _ 23 rfl rfl).trans (hd ⟨2, .guard⟩ (by simp) rfl); have q23 := getD_bool e23; clear hev hev0 hd; go_wp2; exact StepQ.mk _ (Below.refl _ _) rfl
       ·intro xx af wv hbx hev hev0 hd; have e23 := (hev 2 _ 23 rfl rfl).trans (hd ⟨2, .guard⟩ (by simp) rfl); have q23 := getD_bool e23; clear hev hev0 hd; go_wp2; exact StepQ.mk _ (Below.refl _ _) rfl
       ·intro xx af wv hbx hev hev0 hd; have e23 := (hev 2 _ 23 rfl rfl).trans (hd ⟨2, .guard⟩ (by simp) rfl); have q23 := getD_bool e23; clear hev hev0 hd; go_wp2; exact StepQ.mk _ (Below.refl _ _) rfl
       ·intro xx af wv hbx hev hev0 hd; have e23 := (hev 2 _ 23 rfl rfl).trans (hd ⟨2, .data⟩ (by simp) rfl); have e32 := (hev 11 _ 32 rfl rfl).trans (hd ⟨11, .data⟩ (by simp) rfl); clear hev hev0 hd; go_wp2; exact StepQ.mk _ (Below.refl _ _) rfl
       intro xx w4 hb9 hv
       simp only [List.take, List.drop, fillA, Act.put]
       simp only [show xx 0 = _ from hv 0 (by decide), show xx 1 = _ from hv 1 (by decide), show xx 2 = _ from hv 2 (by decide), show xx 3 = _ from hv 3 (by decide), show xx 4 = _ from hv 4 (by decide), show xx 5 = _ from hv 5 (by decide), show xx 6 = _ from hv 6 (by decide), show xx 7 = _ from hv 7 (by decide), show xx 8 = _ from hv 8 (by decide), show xx 9 = _ from hv 9 (by decide), show xx 10 = _ from hv 10 (by decide), show xx 11 = _ from hv 11 (by decide), show xx 12 = _ from hv 12 (by decide)]
       clear hv
       have HS4 := Lib.hid (HS2.out.call hb9)
       clear hb9 HS2
       have x5 := HS4.out.cell 0 rfl 1 rfl
       have x6 := HS4.out.cell 0 rfl 2 rfl
       have x7 := HS4.out.cell 0 rfl 3 rfl
       go_wp2_with fail
       refine (HG.out _).mono ?_
       rintro e w5 ⟨rfl, hb5⟩
       have HS5 := Lib.hid (HS4.out.call hb5)
       clear hb5 HS4
       clear x5 x6 x7
       go_wp2
       have HS6 : Hid (St w [⟨wr.heap.size, #[.int .i64 s.frm, .bool s.neg, .string (bs s.num), .string (bs s.den)], 87⟩] _) := Lib.hid HS5.out
       go_roundw
       case rel => exact ⟨0 + 1, by omega, by go_num, R.out, HS6.out.sub (by simp)⟩
       case measure => simp [intOf]; omega
     ·obtain ⟨b', o', p, e, _, hp, hy⟩ := H.out.at_ (show k < l.length by omega)
      injection e with e
      injection e with e1 e2
      subst e1
      subst e2
      have hf : frmAt l (k + 1 - 1) = p.frm := by unfold frmAt; rw [show k + 1 - 1 = k by omega, hp]
      have HF := Lib.hid hf
      have HY := Lib.hid hy
      clear hf hy hp
      have e0 : (0 : Int) ≤ ((k : Nat) : Int) := by omega
      have e1 : ((k : Nat) : Int) < (l.length : Int) := by omega
      have e2 : ((k : Nat) : Int) + 1 < (l.length : Int) := by omega
      have e3 : (0 : Int) < ((k : Nat) : Int) + 1 := by omega
      have e4 : decide ((0 : Int) < ((k : Nat) : Int) + 1) = true := decide_eq_true e3
      by_cases ho : s.frm ≤ p.frm
      ·have ho2 : decide (s.frm ≤ p.frm) = true := decide_eq_true ho
       have R := Lib.hid (E2.out HDB.out (by omega) (by rw [HF.out]; exact ho))
       clear ho
       have x1 := HX.out _ HS.out.below 0 _ rfl
       rw [Nat.add_zero] at x1
       have x2 := HX.out _ HS.out.below 1 _ rfl
       have x3 := HX.out _ HS.out.below 2 _ rfl
       have x4 := HX.out _ HS.out.below 3 _ rfl
       go_wp2_with fail
       refine (HD.out _).mono ?_
       rintro e w' ⟨rfl, rfl⟩
       clear x1 x2 x3 x4
       go_wp2
       have HS2 : Hid (St w [⟨wr.heap.size, #[.int .i64 s.frm, .bool s.neg, .string (bs s.num), .string (bs s.den)], 87⟩] _) := Lib.hid (St.alloc (HS.out) #[.int .i64 s.frm, .bool s.neg, .string (bs s.num), .string (bs s.den)] 87 _ (by simp))
       clear HS
       refine wp_region_facts 13 [fun _ vv => vv = .int .i64 (k + 1 : Nat), fun _ vv => vv = .bool true, fun _ vv => vv = .bool true, fun _ vv => vv = .pointer (some ⟨wr.heap.size, 0, none⟩), fun _ vv => vv = .int .i64 s.frm, fun _ vv => vv = .slice (some ⟨b, o, none⟩) l.length c, fun _ vv => vv = .int .i64 (k + 1 : Nat), fun _ vv => vv = .int .i64 (k : Nat), fun _ vv => vv = .pointer (some ⟨b, o + k * 4, none⟩), fun _ vv => vv = .pointer (some ⟨b, o + k * 4, none⟩), fun _ vv => vv = .int .i64 p.frm, fun _ vv => vv = .bool true, fun _ vv => vv = .bool true] rfl (by kernel_rfl) (by kernel_rfl) (by kernel_rfl) ⟨fun _ _ _ h _ => h, fun _ _ _ h _ => h, fun _ _ _ h _ => h, fun _ _ _ h _ => h, fun _ _ _ h _ => h, fun _ _ _ h _ => h, fun _ _ _ h _ => h, fun _ _ _ h _ => h, fun _ _ _ h _ => h, fun _ _ _ h _ => h, fun _ _ _ h _ => h, fun _ _ _ h _ => h, fun _ _ _ h _ => h, trivial⟩ ?_ ?_
       refine ⟨?_, ?_, ?_, ?_, ?_, ?_, ?_, ?_, ?_, ?_, ?_, ?_, ?_, trivial⟩
       ·intro xx af wv hbx hev hev0 hd; have e3 : af.tmps[3]?.getD undef = .int .i64 (k + 1 : Nat) := hev0 3 rfl; clear hev hev0 hd; go_wp2; exact StepQ.mk _ (Below.refl _ _) rfl
       ·intro xx af wv hbx hev hev0 hd; have e21 := (hev 0 _ 21 rfl rfl).trans (hd ⟨0, .data⟩ (by simp) rfl); clear hev hev0 hd; go_wp2; exact StepQ.mk _ (Below.refl _ _) rfl
       ·intro xx af wv hbx hev hev0 hd; have e22 := (hev 1 _ 22 rfl rfl).trans (hd ⟨1, .data⟩ (by simp) rfl); clear hev hev0 hd; go_wp2; exact StepQ.mk _ (Below.refl _ _) rfl
       ·intro xx af wv hbx hev hev0 hd; have e23 := (hev 2 _ 23 rfl rfl).trans (hd ⟨2, .guard⟩ (by simp) rfl); have e4 : af.tmps[4]?.getD undef = .pointer (some ⟨wr.heap.size, 0, none⟩) := hev0 4 rfl; have q23 := getD_bool e23; clear hev hev0 hd; go_wp2; exact StepQ.mk _ (Below.refl _ _) rfl
       ·intro xx af wv hbx hev hev0 hd; have e23 := (hev 2 _ 23 rfl rfl).trans (hd ⟨2, .guard⟩ (by simp) rfl); have e24 := (hev 3 _ 24 rfl rfl).trans (hd ⟨3, .data⟩ (by simp) rfl); have q23 := getD_bool e23; clear hev hev0 hd; have hs1 := Lib.hid (HS2.out.call hbx); have y0 := hs1.out.cell 0 rfl 0 rfl; go_wp2; exact StepQ.mk _ (Below.refl _ _) rfl
       ·intro xx af wv hbx hev hev0 hd; have e23 := (hev 2 _ 23 rfl rfl).trans (hd ⟨2, .guard⟩ (by simp) rfl); have e0 : af.tmps[0]?.getD undef = .slice (some ⟨b, o, none⟩) l.length c := hev0 0 rfl; have q23 := getD_bool e23; clear hev hev0 hd; go_wp2; exact StepQ.mk _ (Below.refl _ _) rfl
       ·intro xx af wv hbx hev hev0 hd; have e23 := (hev 2 _ 23 rfl rfl).trans (hd ⟨2, .guard⟩ (by simp) rfl); have e3 : af.tmps[3]?.getD undef = .int .i64 (k + 1 : Nat) := hev0 3 rfl; have q23 := getD_bool e23; clear hev hev0 hd; go_wp2; exact StepQ.mk _ (Below.refl _ _) rfl
       ·intro xx af wv hbx hev hev0 hd; have e23 := (hev 2 _ 23 rfl rfl).trans (hd ⟨2, .guard⟩ (by simp) rfl); have e27 := (hev 6 _ 27 rfl rfl).trans (hd ⟨6, .data⟩ (by simp) rfl); have q23 := getD_bool e23; clear hev hev0 hd; go_wp2; exact StepQ.mk _ (Below.refl _ _) rfl
       ·intro xx af wv hbx hev hev0 hd; have e23 := (hev 2 _ 23 rfl rfl).trans (hd ⟨2, .guard⟩ (by simp) rfl); have e26 := (hev 5 _ 26 rfl rfl).trans (hd ⟨5, .data⟩ (by simp) rfl); have e28 := (hev 7 _ 28 rfl rfl).trans (hd ⟨7, .data⟩ (by simp) rfl); have q23 := getD_bool e23; clear hev hev0 hd; go_wp2; exact StepQ.mk _ (Below.refl _ _) rfl
       ·intro xx af wv hbx hev hev0 hd; have e23 := (hev 2 _ 23 rfl rfl).trans (hd ⟨2, .guard⟩ (by simp) rfl); have e29 := (hev 8 _ 29 rfl rfl).trans (hd ⟨8, .data⟩ (by simp) rfl); have q23 := getD_bool e23; clear hev hev0 hd; go_wp2; exact StepQ.mk _ (Below.refl _ _) rfl
       ·intro xx af wv hbx hev hev0 hd; have e23 := (hev 2 _ 23 rfl rfl).trans (hd ⟨2, .guard⟩ (by simp) rfl); have e30 := (hev 9 _ 30 rfl rfl).trans (hd ⟨9, .data⟩ (by simp) rfl); have q23 := getD_bool e23; clear hev hev0 hd; have hs1 := Lib.hid (HS2.out.call hbx); have y0 := HY.out _ hs1.out.below 0 _ rfl; rw [Nat.add_zero] at y0; go_wp2; exact StepQ.mk _ (Below.refl _ _) rfl
       ·intro xx af wv hbx hev hev0 hd; have e23 := (hev 2 _ 23 rfl rfl).trans (hd ⟨2, .guard⟩ (by simp) rfl); have e25 := (hev 4 _ 25 rfl rfl).trans (hd ⟨4, .data⟩ (by simp) rfl); have e31 := (hev 10 _ 31 rfl rfl).trans (hd ⟨10, .data⟩ (by simp) rfl); have q23 := getD_bool e23; clear hev hev0 hd; go_wp2; exact StepQ.mk _ (Below.refl _ _) rfl
       ·intro xx af wv hbx hev hev0 hd; have e23 := (hev 2 _ 23 rfl rfl).trans (hd ⟨2, .data⟩ (by simp) rfl); have e32 := (hev 11 _ 32 rfl rfl).trans (hd ⟨11, .data⟩ (by simp) rfl); clear hev hev0 hd; go_wp2; exact StepQ.mk _ (Below.refl _ _) rfl
       intro xx w4 hb9 hv
       simp only [List.take, List.drop, fillA, Act.put]
       simp only [show xx 0 = _ from hv 0 (by decide), show xx 1 = _ from hv 1 (by decide), show xx 2 = _ from hv 2 (by decide), show xx 3 = _ from hv 3 (by decide), show xx 4 = _ from hv 4 (by decide), show xx 5 = _ from hv 5 (by decide), show xx 6 = _ from hv 6 (by decide), show xx 7 = _ from hv 7 (by decide), show xx 8 = _ from hv 8 (by decide), show xx 9 = _ from hv 9 (by decide), show xx 10 = _ from hv 10 (by decide), show xx 11 = _ from hv 11 (by decide), show xx 12 = _ from hv 12 (by decide)]
       clear hv
       have HS4 := Lib.hid (HS2.out.call hb9)
       clear hb9 HS2
       go_wp2
       have HS5 : Hid (St w [⟨wr.heap.size, #[.int .i64 s.frm, .bool s.neg, .string (bs s.num), .string (bs s.den)], 87⟩] _) := Lib.hid HS4.out
       go_ret
       rw [R.out]
       exact ⟨rfl, HS5.out.below⟩
      ·have ho2 : decide (s.frm ≤ p.frm) = false := decide_eq_false ho
       by_cases hn : sg < 0
       ·have hn2 : decide (sg < 0) = true := decide_eq_true hn
        have R := Lib.hid (E3.out HDB.out (by rw [HF.out]; omega) (by rw [← HSG.out]; exact hn))
        clear hn ho
        have x1 := HX.out _ HS.out.below 0 _ rfl
        rw [Nat.add_zero] at x1
        have x2 := HX.out _ HS.out.below 1 _ rfl
        have x3 := HX.out _ HS.out.below 2 _ rfl
        have x4 := HX.out _ HS.out.below 3 _ rfl
        go_wp2_with fail
        refine (HD.out _).mono ?_
        rintro e w' ⟨rfl, rfl⟩
        clear x1 x2 x3 x4
        go_wp2
        have HS2 : Hid (St w [⟨wr.heap.size, #[.int .i64 s.frm, .bool s.neg, .string (bs s.num), .string (bs s.den)], 87⟩] _) := Lib.hid (St.alloc (HS.out) #[.int .i64 s.frm, .bool s.neg, .string (bs s.num), .string (bs s.den)] 87 _ (by simp))
        clear HS
        refine wp_region_facts 13 [fun _ vv => vv = .int .i64 (k + 1 : Nat), fun _ vv => vv = .bool true, fun _ vv => vv = .bool true, fun _ vv => vv = .pointer (some ⟨wr.heap.size, 0, none⟩), fun _ vv => vv = .int .i64 s.frm, fun _ vv => vv = .slice (some ⟨b, o, none⟩) l.length c, fun _ vv => vv = .int .i64 (k + 1 : Nat), fun _ vv => vv = .int .i64 (k : Nat), fun _ vv => vv = .pointer (some ⟨b, o + k * 4, none⟩), fun _ vv => vv = .pointer (some ⟨b, o + k * 4, none⟩), fun _ vv => vv = .int .i64 p.frm, fun _ vv => vv = .bool false, fun _ vv => vv = .bool false] rfl (by kernel_rfl) (by kernel_rfl) (by kernel_rfl) ⟨fun _ _ _ h _ => h, fun _ _ _ h _ => h, fun _ _ _ h _ => h, fun _ _ _ h _ => h, fun _ _ _ h _ => h, fun _ _ _ h _ => h, fun _ _ _ h _ => h, fun _ _ _ h _ => h, fun _ _ _ h _ => h, fun _ _ _ h _ => h, fun _ _ _ h _ => h, fun _ _ _ h _ => h, fun _ _ _ h _ => h, trivial⟩ ?_ ?_
        refine ⟨?_, ?_, ?_, ?_, ?_, ?_, ?_, ?_, ?_, ?_, ?_, ?_, ?_, trivial⟩
        ·intro xx af wv hbx hev hev0 hd; have e3 : af.tmps[3]?.getD undef = .int .i64 (k + 1 : Nat) := hev0 3 rfl; clear hev hev0 hd; go_wp2; exact StepQ.mk _ (Below.refl _ _) rfl
        ·intro xx af wv hbx hev hev0 hd; have e21 := (hev 0 _ 21 rfl rfl).trans (hd ⟨0, .data⟩ (by simp) rfl); clear hev hev0 hd; go_wp2; exact StepQ.mk _ (Below.refl _ _) rfl
        ·intro xx af wv hbx hev hev0 hd; have e22 := (hev 1 _ 22 rfl rfl).trans (hd ⟨1, .data⟩ (by simp) rfl); clear hev hev0 hd; go_wp2; exact StepQ.mk _ (Below.refl _ _) rfl
        ·intro xx af wv hbx hev hev0 hd; have e23 := (hev 2 _ 23 rfl rfl).trans (hd ⟨2, .guard⟩ (by simp) rfl); have e4 : af.tmps[4]?.getD undef = .pointer (some ⟨wr.heap.size, 0, none⟩) := hev0 4 rfl; have q23 := getD_bool e23; clear hev hev0 hd; go_wp2; exact StepQ.mk _ (Below.refl _ _) rfl
        ·intro xx af wv hbx hev hev0 hd; have e23 := (hev 2 _ 23 rfl rfl).trans (hd ⟨2, .guard⟩ (by simp) rfl); have e24 := (hev 3 _ 24 rfl rfl).trans (hd ⟨3, .data⟩ (by simp) rfl); have q23 := getD_bool e23; clear hev hev0 hd; have hs1 := Lib.hid (HS2.out.call hbx); have y0 := hs1.out.cell 0 rfl 0 rfl; go_wp2; exact StepQ.mk _ (Below.refl _ _) rfl
        ·intro xx af wv hbx hev hev0 hd; have e23 := (hev 2 _ 23 rfl rfl).trans (hd ⟨2, .guard⟩ (by simp) rfl); have e0 : af.tmps[0]?.getD undef = .slice (some ⟨b, o, none⟩) l.length c := hev0 0 rfl; have q23 := getD_bool e23; clear hev hev0 hd; go_wp2; exact StepQ.mk _ (Below.refl _ _) rfl
        ·intro xx af wv hbx hev hev0 hd; have e23 := (hev 2 _ 23 rfl rfl).trans (hd ⟨2, .guard⟩ (by simp) rfl); have e3 : af.tmps[3]?.getD undef = .int .i64 (k + 1 : Nat) := hev0 3 rfl; have q23 := getD_bool e23; clear hev hev0 hd; go_wp2; exact StepQ.mk _ (Below.refl _ _) rfl
        ·intro xx af wv hbx hev hev0 hd; have e23 := (hev 2 _ 23 rfl rfl).trans (hd ⟨2, .guard⟩ (by simp) rfl); have e27 := (hev 6 _ 27 rfl rfl).trans (hd ⟨6, .data⟩ (by simp) rfl); have q23 := getD_bool e23; clear hev hev0 hd; go_wp2; exact StepQ.mk _ (Below.refl _ _) rfl
        ·intro xx af wv hbx hev hev0 hd; have e23 := (hev 2 _ 23 rfl rfl).trans (hd ⟨2, .guard⟩ (by simp) rfl); have e26 := (hev 5 _ 26 rfl rfl).trans (hd ⟨5, .data⟩ (by simp) rfl); have e28 := (hev 7 _ 28 rfl rfl).trans (hd ⟨7, .data⟩ (by simp) rfl); have q23 := getD_bool e23; clear hev hev0 hd; go_wp2; exact StepQ.mk _ (Below.refl _ _) rfl
        ·intro xx af wv hbx hev hev0 hd; have e23 := (hev 2 _ 23 rfl rfl).trans (hd ⟨2, .guard⟩ (by simp) rfl); have e29 := (hev 8 _ 29 rfl rfl).trans (hd ⟨8, .data⟩ (by simp) rfl); have q23 := getD_bool e23; clear hev hev0 hd; go_wp2; exact StepQ.mk _ (Below.refl _ _) rfl
        ·intro xx af wv hbx hev hev0 hd; have e23 := (hev 2 _ 23 rfl rfl).trans (hd ⟨2, .guard⟩ (by simp) rfl); have e30 := (hev 9 _ 30 rfl rfl).trans (hd ⟨9, .data⟩ (by simp) rfl); have q23 := getD_bool e23; clear hev hev0 hd; have hs1 := Lib.hid (HS2.out.call hbx); have y0 := HY.out _ hs1.out.below 0 _ rfl; rw [Nat.add_zero] at y0; go_wp2; exact StepQ.mk _ (Below.refl _ _) rfl
        ·intro xx af wv hbx hev hev0 hd; have e23 := (hev 2 _ 23 rfl rfl).trans (hd ⟨2, .guard⟩ (by simp) rfl); have e25 := (hev 4 _ 25 rfl rfl).trans (hd ⟨4, .data⟩ (by simp) rfl); have e31 := (hev 10 _ 31 rfl rfl).trans (hd ⟨10, .data⟩ (by simp) rfl); have q23 := getD_bool e23; clear hev hev0 hd; go_wp2; exact StepQ.mk _ (Below.refl _ _) rfl
        ·intro xx af wv hbx hev hev0 hd; have e23 := (hev 2 _ 23 rfl rfl).trans (hd ⟨2, .data⟩ (by simp) rfl); have e32 := (hev 11 _ 32 rfl rfl).trans (hd ⟨11, .data⟩ (by simp) rfl); clear hev hev0 hd; go_wp2; exact StepQ.mk _ (Below.refl _ _) rfl
        intro xx w4 hb9 hv
        simp only [List.take, List.drop, fillA, Act.put]
        simp only [show xx 0 = _ from hv 0 (by decide), show xx 1 = _ from hv 1 (by decide), show xx 2 = _ from hv 2 (by decide), show xx 3 = _ from hv 3 (by decide), show xx 4 = _ from hv 4 (by decide), show xx 5 = _ from hv 5 (by decide), show xx 6 = _ from hv 6 (by decide), show xx 7 = _ from hv 7 (by decide), show xx 8 = _ from hv 8 (by decide), show xx 9 = _ from hv 9 (by decide), show xx 10 = _ from hv 10 (by decide), show xx 11 = _ from hv 11 (by decide), show xx 12 = _ from hv 12 (by decide)]
        clear hv
        have HS4 := Lib.hid (HS2.out.call hb9)
        clear hb9 HS2
        have x5 := HS4.out.cell 0 rfl 1 rfl
        have x6 := HS4.out.cell 0 rfl 2 rfl
        have x7 := HS4.out.cell 0 rfl 3 rfl
        go_wp2_with fail
        refine (HG.out _).mono ?_
        rintro e w5 ⟨rfl, hb5⟩
        have HS5 := Lib.hid (HS4.out.call hb5)
        clear hb5 HS4
        clear x5 x6 x7
        go_wp2
        have HS6 : Hid (St w [⟨wr.heap.size, #[.int .i64 s.frm, .bool s.neg, .string (bs s.num), .string (bs s.den)], 87⟩] _) := Lib.hid HS5.out
        go_ret
        rw [R.out]
        exact ⟨rfl, HS6.out.below⟩
       ·have hn2 : decide (sg < 0) = false := decide_eq_false hn
        have R := Lib.hid (E4.out HDB.out (by rw [HF.out]; omega) (by rw [← HSG.out]; exact hn))
        clear hn ho
        have x1 := HX.out _ HS.out.below 0 _ rfl
        rw [Nat.add_zero] at x1
        have x2 := HX.out _ HS.out.below 1 _ rfl
        have x3 := HX.out _ HS.out.below 2 _ rfl
        have x4 := HX.out _ HS.out.below 3 _ rfl
        go_wp2_with fail
        refine (HD.out _).mono ?_
        rintro e w' ⟨rfl, rfl⟩
        clear x1 x2 x3 x4
        go_wp2
        have HS2 : Hid (St w [⟨wr.heap.size, #[.int .i64 s.frm, .bool s.neg, .string (bs s.num), .string (bs s.den)], 87⟩] _) := Lib.hid (St.alloc (HS.out) #[.int .i64 s.frm, .bool s.neg, .string (bs s.num), .string (bs s.den)] 87 _ (by simp))
        clear HS
        refine wp_region_facts 13 [fun _ vv => vv = .int .i64 (k + 1 : Nat), fun _ vv => vv = .bool true, fun _ vv => vv = .bool true, fun _ vv => vv = .pointer (some ⟨wr.heap.size, 0, none⟩), fun _ vv => vv = .int .i64 s.frm, fun _ vv => vv = .slice (some ⟨b, o, none⟩) l.length c, fun _ vv => vv = .int .i64 (k + 1 : Nat), fun _ vv => vv = .int .i64 (k : Nat), fun _ vv => vv = .pointer (some ⟨b, o + k * 4, none⟩), fun _ vv => vv = .pointer (some ⟨b, o + k * 4, none⟩), fun _ vv => vv = .int .i64 p.frm, fun _ vv => vv = .bool false, fun _ vv => vv = .bool false] rfl (by kernel_rfl) (by kernel_rfl) (by kernel_rfl) ⟨fun _ _ _ h _ => h, fun _ _ _ h _ => h, fun _ _ _ h _ => h, fun _ _ _ h _ => h, fun _ _ _ h _ => h, fun _ _ _ h _ => h, fun _ _ _ h _ => h, fun _ _ _ h _ => h, fun _ _ _ h _ => h, fun _ _ _ h _ => h, fun _ _ _ h _ => h, fun _ _ _ h _ => h, fun _ _ _ h _ => h, trivial⟩ ?_ ?_
        refine ⟨?_, ?_, ?_, ?_, ?_, ?_, ?_, ?_, ?_, ?_, ?_, ?_, ?_, trivial⟩
        ·intro xx af wv hbx hev hev0 hd; have e3 : af.tmps[3]?.getD undef = .int .i64 (k + 1 : Nat) := hev0 3 rfl; clear hev hev0 hd; go_wp2; exact StepQ.mk _ (Below.refl _ _) rfl
        ·intro xx af wv hbx hev hev0 hd; have e21 := (hev 0 _ 21 rfl rfl).trans (hd ⟨0, .data⟩ (by simp) rfl); clear hev hev0 hd; go_wp2; exact StepQ.mk _ (Below.refl _ _) rfl
        ·intro xx af wv hbx hev hev0 hd; have e22 := (hev 1 _ 22 rfl rfl).trans (hd ⟨1, .data⟩ (by simp) rfl); clear hev hev0 hd; go_wp2; exact StepQ.mk _ (Below.refl _ _) rfl
        ·intro xx af wv hbx hev hev0 hd; have e23 := (hev 2 _ 23 rfl rfl).trans (hd ⟨2, .guard⟩ (by simp) rfl); have e4 : af.tmps[4]?.getD undef = .pointer (some ⟨wr.heap.size, 0, none⟩) := hev0 4 rfl; have q23 := getD_bool e23; clear hev hev0 hd; go_wp2; exact StepQ.mk _ (Below.refl _ _) rfl
        ·intro xx af wv hbx hev hev0 hd; have e23 := (hev 2 _ 23 rfl rfl).trans (hd ⟨2, .guard⟩ (by simp) rfl); have e24 := (hev 3 _ 24 rfl rfl).trans (hd ⟨3, .data⟩ (by simp) rfl); have q23 := getD_bool e23; clear hev hev0 hd; have hs1 := Lib.hid (HS2.out.call hbx); have y0 := hs1.out.cell 0 rfl 0 rfl; go_wp2; exact StepQ.mk _ (Below.refl _ _) rfl
        ·intro xx af wv hbx hev hev0 hd; have e23 := (hev 2 _ 23 rfl rfl).trans (hd ⟨2, .guard⟩ (by simp) rfl); have e0 : af.tmps[0]?.getD undef = .slice (some ⟨b, o, none⟩) l.length c := hev0 0 rfl; have q23 := getD_bool e23; clear hev hev0 hd; go_wp2; exact StepQ.mk _ (Below.refl _ _) rfl
        ·intro xx af wv hbx hev hev0 hd; have e23 := (hev 2 _ 23 rfl rfl).trans (hd ⟨2, .guard⟩ (by simp) rfl); have e3 : af.tmps[3]?.getD undef = .int .i64 (k + 1 : Nat) := hev0 3 rfl; have q23 := getD_bool e23; clear hev hev0 hd; go_wp2; exact StepQ.mk _ (Below.refl _ _) rfl
        ·intro xx af wv hbx hev hev0 hd; have e23 := (hev 2 _ 23 rfl rfl).trans (hd ⟨2, .guard⟩ (by simp) rfl); have e27 := (hev 6 _ 27 rfl rfl).trans (hd ⟨6, .data⟩ (by simp) rfl); have q23 := getD_bool e23; clear hev hev0 hd; go_wp2; exact StepQ.mk _ (Below.refl _ _) rfl
        ·intro xx af wv hbx hev hev0 hd; have e23 := (hev 2 _ 23 rfl rfl).trans (hd ⟨2, .guard⟩ (by simp) rfl); have e26 := (hev 5 _ 26 rfl rfl).trans (hd ⟨5, .data⟩ (by simp) rfl); have e28 := (hev 7 _ 28 rfl rfl).trans (hd ⟨7, .data⟩ (by simp) rfl); have q23 := getD_bool e23; clear hev hev0 hd; go_wp2; exact StepQ.mk _ (Below.refl _ _) rfl
        ·intro xx af wv hbx hev hev0 hd; have e23 := (hev 2 _ 23 rfl rfl).trans (hd ⟨2, .guard⟩ (by simp) rfl); have e29 := (hev 8 _ 29 rfl rfl).trans (hd ⟨8, .data⟩ (by simp) rfl); have q23 := getD_bool e23; clear hev hev0 hd; go_wp2; exact StepQ.mk _ (Below.refl _ _) rfl
        ·intro xx af wv hbx hev hev0 hd; have e23 := (hev 2 _ 23 rfl rfl).trans (hd ⟨2, .guard⟩ (by simp) rfl); have e30 := (hev 9 _ 30 rfl rfl).trans (hd ⟨9, .data⟩ (by simp) rfl); have q23 := getD_bool e23; clear hev hev0 hd; have hs1 := Lib.hid (HS2.out.call hbx); have y0 := HY.out _ hs1.out.below 0 _ rfl; rw [Nat.add_zero] at y0; go_wp2; exact StepQ.mk _ (Below.refl _ _) rfl
        ·intro xx af wv hbx hev hev0 hd; have e23 := (hev 2 _ 23 rfl rfl).trans (hd ⟨2, .guard⟩ (by simp) rfl); have e25 := (hev 4 _ 25 rfl rfl).trans (hd ⟨4, .data⟩ (by simp) rfl); have e31 := (hev 10 _ 31 rfl rfl).trans (hd ⟨10, .data⟩ (by simp) rfl); have q23 := getD_bool e23; clear hev hev0 hd; go_wp2; exact StepQ.mk _ (Below.refl _ _) rfl
        ·intro xx af wv hbx hev hev0 hd; have e23 := (hev 2 _ 23 rfl rfl).trans (hd ⟨2, .data⟩ (by simp) rfl); have e32 := (hev 11 _ 32 rfl rfl).trans (hd ⟨11, .data⟩ (by simp) rfl); clear hev hev0 hd; go_wp2; exact StepQ.mk _ (Below.refl _ _) rfl
        intro xx w4 hb9 hv
        simp only [List.take, List.drop, fillA, Act.put]
        simp only [show xx 0 = _ from hv 0 (by decide), show xx 1 = _ from hv 1 (by decide), show xx 2 = _ from hv 2 (by decide), show xx 3 = _ from hv 3 (by decide), show xx 4 = _ from hv 4 (by decide), show xx 5 = _ from hv 5 (by decide), show xx 6 = _ from hv 6 (by decide), show xx 7 = _ from hv 7 (by decide), show xx 8 = _ from hv 8 (by decide), show xx 9 = _ from hv 9 (by decide), show xx 10 = _ from hv 10 (by decide), show xx 11 = _ from hv 11 (by decide), show xx 12 = _ from hv 12 (by decide)]
        clear hv
        have HS4 := Lib.hid (HS2.out.call hb9)
        clear hb9 HS2
        have x5 := HS4.out.cell 0 rfl 1 rfl
        have x6 := HS4.out.cell 0 rfl 2 rfl
        have x7 := HS4.out.cell 0 rfl 3 rfl
        go_wp2_with fail
        refine (HG.out _).mono ?_
        rintro e w5 ⟨rfl, hb5⟩
        have HS5 := Lib.hid (HS4.out.call hb5)
        clear hb5 HS4
        clear x5 x6 x7
        go_wp2
        have HS6 : Hid (St w [⟨wr.heap.size, #[.int .i64 s.frm, .bool s.neg, .string (bs s.num), .string (bs s.den)], 87⟩] _) := Lib.hid HS5.out
        go_roundw
        case rel => exact ⟨k + 1 + 1, by omega, by go_num, R.out, HS6.out.sub (by simp)⟩
        case measure => simp [intOf]; omega
   ·obtain rfl : k = l.length := by omega
    have HR := Lib.hid (checkS_ok hlen hck.out)
    go_wp2
    go_ret
    rw [HR.out]
    exact ⟨rfl, HS.out.below⟩

end Go.Proofs.YtlkhoommpkndpaaGreatDoor
