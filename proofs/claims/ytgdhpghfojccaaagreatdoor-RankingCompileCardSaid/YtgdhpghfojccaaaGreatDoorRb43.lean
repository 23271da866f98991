/-
Part 43 of the base.
-/
import Derived.Test.YtgdhpghfojccaaaGreatDoorRb42
namespace Go.Proofs.YtgdhpghfojccaaaGreatDoor
open Go.RowKit
theorem fewN_fit {cl : List Nmd} {l : List Cls} (h : fewN cl l = true) : cl.length <= 8 /\ l.length <= 8 /\ (∀ x ∈ cl, x.id.length <= 50 /\ x.am.a.length <= 24 /\ x.am.b.length <= 24) /\ ∀ x ∈ l, x.list.length <= 40 /\ x.name.length <= 50 /\ x.other.length <= 50 /\ x.am.a.length <= 24 /\ x.am.b.length <= 24 := by
 unfold fewN at h
 simp only [Bool.and_eq_true, decide_eq_true_eq, List.all_eq_true] at h
 obtain ⟨⟨h1, h2⟩, h3, h4⟩ := h
 refine ⟨h1, h2, fun x hx => ?_, fun x hx => ?_⟩
 ·have := h3 x hx
  unfold fewC fewR at this
  simpa only [Bool.and_eq_true, decide_eq_true_eq] using this
 have := h4 x hx
 unfold fewK fewR at this
 simpa only [Bool.and_eq_true, decide_eq_true_eq] using this
set_option maxRecDepth 100000
set_option maxHeartbeats 4000000
theorem b7y (v v2 : Value) (R : List Int) (w : World) (h : c3p w v R) (h2 : c3p w v2 R) : Calls Tryz.prog 40 #[v, v2] w fun e w' => e = .returned (.bool true) /\ Below w.heap.size w w' := by
 have H1 := zh h
 have H2 := zh h2
 obtain ⟨A1, c1, rfl, l1, l2⟩ := Slc.slice h
 obtain ⟨A2, c2, rfl, _, _⟩ := Slc.slice h2
 have LN := zh (Nat.le_trans l1 l2)
 clear h h2 l1 l2
 have d0 : ((R.length : Int) != (R.length : Int)) = false := by simp
 go_enter Tryz.func40, Tryz.ntmps40
 have HS := zh (St.start w)
 go_wp2
 go_loopw [5] (fun i_ wr => ∃ k : Nat, k <= R.length /\ i_ = .int .i64 k /\ Hid (St w [] wr)) (fun i_ _ => R.length - (intOf i_).toNat)
 case atStart => exact ⟨0, Nat.zero_le _, rfl, HS.out⟩
 case round =>
  clear HS
  obtain ⟨k, hk, rfl, HS⟩ := hrel
  by_cases hlt : k < R.length
  ·obtain ⟨b1, o1, r, rfl, hb1, hq, hx⟩ := H1.out.at_ hlt
   obtain ⟨b2, o2, r2, rfl, hb2, hq2, hx2⟩ := H2.out.at_ hlt
   rw [hq] at hq2
   obtain rfl := Option.some.inj hq2
   simp only [Nat.mul_one] at hx hx2
   have HX1 := zh (show ∀ w', Below w.heap.size w w' -> ∀ (i : Nat) (v : Value), [.int .i64 r][i]? = some v -> w'.cell? ⟨b1, o1 + k + i, none⟩ = some v from hx)
   have HX2 := zh (show ∀ w', Below w.heap.size w w' -> ∀ (i : Nat) (v : Value), [.int .i64 r][i]? = some v -> w'.cell? ⟨b2, o2 + k + i, none⟩ = some v from hx2)
   have e0 : (0 : Int) <= ((k : Nat) : Int) := by omega
   have e1 : ((k : Nat) : Int) < (R.length : Int) := by omega
   have e2 : decide (((k : Nat) : Int) < (R.length : Int)) = true := decide_eq_true e1
   have i5 : IntKind.i64.wrap ((k : Int) + 1) = ((k + 1 : Nat) : Int) := by have := LN.out; rw [IntWalk.i64_in _ (by omega)]; rfl
   have d5 : (r != r) = false := by simp
   clear hq hx hx2
   go_wp2
   refine a0c 8 [.slice (some ⟨b1, o1, none⟩) R.length c1, .int .i64 (k : Nat), .pointer (some ⟨b1, o1 + k, none⟩), .int .i64 r, .slice (some ⟨b2, o2, none⟩) R.length c2, .int .i64 (k : Nat), .pointer (some ⟨b2, o2 + k, none⟩), .int .i64 r] rfl (by kernel_rfl) (by kernel_rfl) (by kernel_rfl) ?_ ?_
   refine ⟨?_, ?_, ?_, ?_, ?_, ?_, ?_, ?_, trivial⟩ <;> (intro xx af wv hbx hev hev0 hd; have H := SH.mk hev hev0 hd; clear hev hev0 hd)
   ·have e0 := H.i 0; clear H; go_wp2; exact sQ rfl
   ·have e5 := H.i 5; clear H; go_wp2; exact sQ rfl
   ·have e17 := H.r 0 17; have e18 := H.r 1 18; clear H; go_wp2; exact sQ rfl
   ·have e19 := H.r 2 19; clear H; have hs1 := zh (HS.out.call hbx); have y0 := HX1.out _ hs1.out.below 0 _ rfl; rw [Nat.add_zero] at y0; go_wp2; exact sQ rfl
   ·have e1 := H.i 1; clear H; go_wp2; exact sQ rfl
   ·have e5 := H.i 5; clear H; go_wp2; exact sQ rfl
   ·have e21 := H.r 4 21; have e22 := H.r 5 22; clear H; go_wp2; exact sQ rfl
   ·have e23 := H.r 6 23; clear H; have hs1 := zh (HS.out.call hbx); have y0 := HX2.out _ hs1.out.below 0 _ rfl; rw [Nat.add_zero] at y0; go_wp2; exact sQ rfl
   intro xx w2 hb9 hv
   simp only [List.take, List.drop, a0g, Act.put]
   simp only [vQ hv 0, vQ hv 1, vQ hv 2, vQ hv 3, vQ hv 4, vQ hv 5, vQ hv 6, vQ hv 7]
   clear hv
   have HS2 := zh (HS.out.call hb9)
   clear hb9 HS
   go_wp2
   go_roundw
   case rel => exact ⟨k + 1, by omega, by go_num, HS2.out⟩
   case measure => simp [intOf]; omega
  have hke : k = R.length := by omega
  subst hke
  have e2 : decide (((R.length : Nat) : Int) < (R.length : Int)) = false := decide_eq_false (by omega)
  go_wp2
  go_ret
  exact ⟨rfl, HS.out.below⟩
theorem a4f (vr va vr2 va2 : Value) (R : List Int) (A : List (List (List Prt))) (w : World) (h1 : c3p w vr R) (h2 : AgrL w va A) (h3 : c3p w vr2 R) (h4 : AgrL w va2 A) :
  Calls Tryz.prog 13 #[.agg #[vr, va], .agg #[vr2, va2]] w fun e w' => e = .returned (.bool true) /\ Below w.heap.size w w' := by
 have dS := fun W (hb : Below w.heap.size w W) => b7y vr vr2 R W (h1.below hb) (h3.below hb)
 obtain ⟨q1, r1, rfl, _, _⟩ := Slc.slice h1
 obtain ⟨q2, r2, rfl, _, _⟩ := Slc.slice h3
 obtain ⟨A1, c1, rfl, l1, l2⟩ := NstL.slice h2
 obtain ⟨A2, c2, rfl, _, _⟩ := NstL.slice h4
 have LN := zh (Nat.le_trans l1 l2)
 have H1 := zh h2
 have H2 := zh h4
 have DS := zh dS
 have d0 : ((A.length : Int) != (A.length : Int)) = false := by simp
 clear h1 h2 h3 h4 dS l1 l2
 go_enter Tryz.func13, Tryz.ntmps13
 have HS := zh (St.start w)
 go_wp2_with fail
 have HS2 := aL (aL HS #[.slice q1 R.length r1, .slice A1 A.length c1] 29 w.heap.size) #[.slice q2 R.length r2, .slice A2 A.length c2] 29 (w.heap.size + 1)
 refine cL (DS.out _ HS2.out.below) HS2 fun w3 HS3 => ?_
 clear HS HS2
 have x1 := cC HS3 1 1
 have x2 := cC HS3 0 1
 go_wp2
 go_loopw [5] (fun i_ wr => ∃ i : Nat, i <= A.length /\ i_ = .int .i64 i /\ Hid (St w [⟨w.heap.size + 1, #[.slice q2 R.length r2, .slice A2 A.length c2], 29⟩, ⟨w.heap.size, #[.slice q1 R.length r1, .slice A1 A.length c1], 29⟩] wr)) (fun i_ _ => A.length - (intOf i_).toNat)
 case atStart => exact ⟨0, Nat.zero_le _, rfl, HS3.out⟩
 case round =>
  clear HS3
  obtain ⟨i, hi, rfl, HS⟩ := hrel
  by_cases hin : i < A.length
  ·obtain ⟨b1, o1, u1, T, rfl, hb1, hq, hT1, hx1⟩ := NstL.at_ H1.out hin
   obtain ⟨b2, o2, u2, T', rfl, hb2, hq', hT2, hx2⟩ := NstL.at_ H2.out hin
   rw [hq] at hq'
   obtain rfl := Option.some.inj hq'
   obtain ⟨A3, c3, rfl, l3, l4⟩ := NstL.slice hT1
   obtain ⟨A4, c4, rfl, _, _⟩ := NstL.slice hT2
   have HX1 := zh hx1
   have HX2 := zh hx2
   have HT1 := zh hT1
   have HT2 := zh hT2
   have L3 := zh (Nat.le_trans l3 l4)
   have d3 : ((T.length : Int) != (T.length : Int)) = false := by simp
   clear hq hT1 hT2 hx1 hx2 l3 l4
   have e0 : (0 : Int) <= ((i : Nat) : Int) := by omega
   have e1 : ((i : Nat) : Int) < (A.length : Int) := by omega
   have e2 : decide (((i : Nat) : Int) < (A.length : Int)) = true := decide_eq_true e1
   have e5 : IntKind.i64.wrap ((i : Int) + 1) = ((i + 1 : Nat) : Int) := by have := LN.out; rw [IntWalk.i64_in _ (by omega)]; rfl
   have x3 := cC HS 1 1
   go_wp2
   clear x3
   refine a0c 13 [.pointer (some ⟨w.heap.size, 1, none⟩), .slice (some ⟨b1, o1, none⟩) A.length c1, .int .i64 (i : Nat), .pointer (some ⟨b1, o1 + i, none⟩), .pointer (some ⟨b1, o1 + i, none⟩), .slice A3 T.length c3, .pointer (some ⟨w.heap.size + 1, 1, none⟩), .slice (some ⟨b2, o2, none⟩) A.length c2, .int .i64 (i : Nat), .pointer (some ⟨b2, o2 + i, none⟩), .pointer (some ⟨b2, o2 + i, none⟩), .slice A4 T.length c4, .slice A3 T.length c3] rfl (by kernel_rfl) (by kernel_rfl) (by kernel_rfl) ?_ ?_
   refine ⟨?_, ?_, ?_, ?_, ?_, ?_, ?_, ?_, ?_, ?_, ?_, ?_, ?_, trivial⟩ <;> (intro xx af wv hbx hev hev0 hd; have H := SH.mk hev hev0 hd; clear hev hev0 hd)
   ·have e2 := H.i 2; clear H; go_wp2; exact sQ rfl
   ·have e32 := H.r 0 32; clear H; have hs1 := zh (HS.out.call hbx); have y0 := cC hs1 1 1; go_wp2; exact sQ rfl
   ·have e5 := H.i 5; clear H; go_wp2; exact sQ rfl
   ·have e33 := H.r 1 33; have e34 := H.r 2 34; clear H; go_wp2; exact sQ rfl
   ·have e35 := H.r 3 35; clear H; go_wp2; exact sQ rfl
   ·have e36 := H.r 4 36; clear H; have hs1 := zh (HS.out.call hbx); have y0 := HX1.out _ hs1.out.below 0 _ rfl; rw [Nat.add_zero] at y0; go_wp2; exact sQ rfl
   ·have e3 := H.i 3; clear H; go_wp2; exact sQ rfl
   ·have e38 := H.r 6 38; clear H; have hs1 := zh (HS.out.call hbx); have y0 := cC hs1 0 1; go_wp2; exact sQ rfl
   ·have e5 := H.i 5; clear H; go_wp2; exact sQ rfl
   ·have e39 := H.r 7 39; have e40 := H.r 8 40; clear H; go_wp2; exact sQ rfl
   ·have e41 := H.r 9 41; clear H; go_wp2; exact sQ rfl
   ·have e42 := H.r 10 42; clear H; have hs1 := zh (HS.out.call hbx); have y0 := HX2.out _ hs1.out.below 0 _ rfl; rw [Nat.add_zero] at y0; go_wp2; exact sQ rfl
   ·have e37 := H.r 5 37; clear H; go_wp2; exact sQ rfl
   intro xx w4 hb9 hv
   simp only [List.take, List.drop, a0g, Act.put]
   simp only [vQ hv 0, vQ hv 1, vQ hv 2, vQ hv 3, vQ hv 4, vQ hv 5, vQ hv 6, vQ hv 7, vQ hv 8, vQ hv 9, vQ hv 10, vQ hv 11, vQ hv 12]
   clear hv
   have HS4 := zh (HS.out.call hb9)
   clear hb9 HS
   go_wp2
   go_loopw [8] (fun t_ wr => ∃ t : Nat, t <= T.length /\ t_ = .int .i64 t /\ Hid (St w [⟨w.heap.size + 1, #[.slice q2 R.length r2, .slice (some ⟨b2, o2, none⟩) A.length c2], 29⟩, ⟨w.heap.size, #[.slice q1 R.length r1, .slice (some ⟨b1, o1, none⟩) A.length c1], 29⟩] wr)) (fun t_ _ => T.length - (intOf t_).toNat)
   case atStart => exact ⟨0, Nat.zero_le _, rfl, HS4.out⟩
   case round =>
    clear HS4
    obtain ⟨t, ht, rfl, HS⟩ := hrel
    by_cases htn : t < T.length
    ·obtain ⟨b3, o3, u3, P, rfl, hb3, hq, hP1, hx3⟩ := NstL.at_ HT1.out htn
     obtain ⟨b4, o4, u4, P', rfl, hb4, hq', hP2, hx4⟩ := NstL.at_ HT2.out htn
     rw [hq] at hq'
     obtain rfl := Option.some.inj hq'
     obtain ⟨A5, c5, rfl, l3, l4⟩ := Slc.slice hP1
     obtain ⟨A6, c6, rfl, _, _⟩ := Slc.slice hP2
     have HX3 := zh hx3
     have HX4 := zh hx4
     have HP1 := zh hP1
     have HP2 := zh hP2
     have L5 := zh (Nat.le_trans l3 l4)
     have d5 : ((P.length : Int) != (P.length : Int)) = false := by simp
     clear hq hP1 hP2 hx3 hx4 l3 l4
     have f0 : (0 : Int) <= ((t : Nat) : Int) := by omega
     have f1 : ((t : Nat) : Int) < (T.length : Int) := by omega
     have f2 : decide (((t : Nat) : Int) < (T.length : Int)) = true := decide_eq_true f1
     have f5 : IntKind.i64.wrap ((t : Int) + 1) = ((t + 1 : Nat) : Int) := by have := L3.out; rw [IntWalk.i64_in _ (by omega)]; rfl
     go_wp2
     refine a0c 10 [.slice (some ⟨b3, o3, none⟩) T.length c3, .int .i64 (t : Nat), .pointer (some ⟨b3, o3 + t, none⟩), .slice A5 P.length c5, .int .i64 P.length, .slice (some ⟨b4, o4, none⟩) T.length c4, .int .i64 (t : Nat), .pointer (some ⟨b4, o4 + t, none⟩), .slice A6 P.length c6, .int .i64 P.length] rfl (by kernel_rfl) (by kernel_rfl) (by kernel_rfl) ?_ ?_
     refine ⟨?_, ?_, ?_, ?_, ?_, ?_, ?_, ?_, ?_, ?_, trivial⟩ <;> (intro xx af wv hbx hev hev0 hd; have H := SH.mk hev hev0 hd; clear hev hev0 hd)
     ·have e6 := H.i 6; clear H; go_wp2; exact sQ rfl
     ·have e8 := H.i 8; clear H; go_wp2; exact sQ rfl
     ·have e55 := H.r 0 55; have e56 := H.r 1 56; clear H; go_wp2; exact sQ rfl
     ·have e57 := H.r 2 57; clear H; have hs1 := zh (HS.out.call hbx); have y0 := HX3.out _ hs1.out.below 0 _ rfl; rw [Nat.add_zero] at y0; go_wp2; exact sQ rfl
     ·have e58 := H.r 3 58; clear H; go_wp2; exact sQ rfl
     ·have e7 := H.i 7; clear H; go_wp2; exact sQ rfl
     ·have e8 := H.i 8; clear H; go_wp2; exact sQ rfl
     ·have e60 := H.r 5 60; have e61 := H.r 6 61; clear H; go_wp2; exact sQ rfl
     ·have e62 := H.r 7 62; clear H; have hs1 := zh (HS.out.call hbx); have y0 := HX4.out _ hs1.out.below 0 _ rfl; rw [Nat.add_zero] at y0; go_wp2; exact sQ rfl
     ·have e63 := H.r 8 63; clear H; go_wp2; exact sQ rfl
     intro xx w5 hb9 hv
     simp only [List.take, List.drop, a0g, Act.put]
     simp only [vQ hv 0, vQ hv 1, vQ hv 2, vQ hv 3, vQ hv 4, vQ hv 5, vQ hv 6, vQ hv 7, vQ hv 8, vQ hv 9]
     clear hv
     have HS5 := zh (HS.out.call hb9)
     clear hb9 HS
     go_wp2
     go_loopw [9] (fun k_ wr => ∃ k : Nat, k <= P.length /\ k_ = .int .i64 k /\ Hid (St w [⟨w.heap.size + 1, #[.slice q2 R.length r2, .slice (some ⟨b2, o2, none⟩) A.length c2], 29⟩, ⟨w.heap.size, #[.slice q1 R.length r1, .slice (some ⟨b1, o1, none⟩) A.length c1], 29⟩] wr)) (fun k_ _ => P.length - (intOf k_).toNat)
     case atStart => exact ⟨0, Nat.zero_le _, rfl, HS5.out⟩
     case round =>
      clear HS5
      obtain ⟨k, hk, rfl, HS⟩ := hrel
      by_cases hkn : k < P.length
      ·obtain ⟨b5, o5, p, rfl, hb5, hq, hx5⟩ := HP1.out.at_ hkn
       obtain ⟨b6, o6, p', rfl, hb6, hq', hx6⟩ := HP2.out.at_ hkn
       rw [hq] at hq'
       obtain rfl := Option.some.inj hq'
       unfold Prt.enc at hx5 hx6
       have HX5 := zh hx5
       have HX6 := zh hx6
       clear hq hx5 hx6
       have g0 : (0 : Int) <= ((k : Nat) : Int) := by omega
       have g1 : ((k : Nat) : Int) < (P.length : Int) := by omega
       have g2 : decide (((k : Nat) : Int) < (P.length : Int)) = true := decide_eq_true g1
       have g5 : IntKind.i64.wrap ((k : Int) + 1) = ((k + 1 : Nat) : Int) := by have := L5.out; rw [IntWalk.i64_in _ (by omega)]; rfl
       have x4 := HX3.out _ HS.out.below 0 _ rfl
       rw [Nat.add_zero] at x4
       go_wp2
       clear x4
       refine a0c 14 [.slice (some ⟨b3, o3, none⟩) T.length c3, .int .i64 (t : Nat), .pointer (some ⟨b3, o3 + t, none⟩), .slice (some ⟨b5, o5, none⟩) P.length c5, .int .i64 (k : Nat), .pointer (some ⟨b5, o5 + k * 5, none⟩), .agg #[.int .i64 p.claim, .bool p.capped, .bool p.cap.n, .string (bs p.cap.a), .string (bs p.cap.b)], .slice (some ⟨b4, o4, none⟩) T.length c4, .int .i64 (t : Nat), .pointer (some ⟨b4, o4 + t, none⟩), .slice (some ⟨b6, o6, none⟩) P.length c6, .int .i64 (k : Nat), .pointer (some ⟨b6, o6 + k * 5, none⟩), .agg #[.int .i64 p.claim, .bool p.capped, .bool p.cap.n, .string (bs p.cap.a), .string (bs p.cap.b)]] rfl (by kernel_rfl) (by kernel_rfl) (by kernel_rfl) ?_ ?_
       refine ⟨?_, ?_, ?_, ?_, ?_, ?_, ?_, ?_, ?_, ?_, ?_, ?_, ?_, ?_, trivial⟩ <;> (intro xx af wv hbx hev hev0 hd; have H := SH.mk hev hev0 hd; clear hev hev0 hd)
       ·have e6 := H.i 6; clear H; go_wp2; exact sQ rfl
       ·have e8 := H.i 8; clear H; go_wp2; exact sQ rfl
       ·have e75 := H.r 0 75; have e76 := H.r 1 76; clear H; go_wp2; exact sQ rfl
       ·have e77 := H.r 2 77; clear H; have hs1 := zh (HS.out.call hbx); have y0 := HX3.out _ hs1.out.below 0 _ rfl; rw [Nat.add_zero] at y0; go_wp2; exact sQ rfl
       ·have e9 := H.i 9; clear H; go_wp2; exact sQ rfl
       ·have e78 := H.r 3 78; have e79 := H.r 4 79; clear H; go_wp2; exact sQ rfl
       ·have e80 := H.r 5 80; clear H; have hs1 := zh (HS.out.call hbx); obtain ⟨y0, y1, y2⟩ := kE0 (HX5.out _ hs1.out.below) rfl rfl rfl; have y3 := HX5.out _ hs1.out.below 3 _ rfl; have y4 := HX5.out _ hs1.out.below 4 _ rfl; go_wp2; exact sQ rfl
       ·have e7 := H.i 7; clear H; go_wp2; exact sQ rfl
       ·have e8 := H.i 8; clear H; go_wp2; exact sQ rfl
       ·have e82 := H.r 7 82; have e83 := H.r 8 83; clear H; go_wp2; exact sQ rfl
       ·have e84 := H.r 9 84; clear H; have hs1 := zh (HS.out.call hbx); have y0 := HX4.out _ hs1.out.below 0 _ rfl; rw [Nat.add_zero] at y0; go_wp2; exact sQ rfl
       ·have e9 := H.i 9; clear H; go_wp2; exact sQ rfl
       ·have e85 := H.r 10 85; have e86 := H.r 11 86; clear H; go_wp2; exact sQ rfl
       ·have e87 := H.r 12 87; clear H; have hs1 := zh (HS.out.call hbx); obtain ⟨y0, y1, y2⟩ := kE0 (HX6.out _ hs1.out.below) rfl rfl rfl; have y3 := HX6.out _ hs1.out.below 3 _ rfl; have y4 := HX6.out _ hs1.out.below 4 _ rfl; go_wp2; exact sQ rfl
       intro xx w6 hb9 hv
       simp only [List.take, List.drop, a0g, Act.put]
       simp only [vQ hv 0, vQ hv 1, vQ hv 2, vQ hv 3, vQ hv 4, vQ hv 5, vQ hv 6, vQ hv 7, vQ hv 8, vQ hv 9, vQ hv 10, vQ hv 11, vQ hv 12, vQ hv 13]
       clear hv
       have HS6 := zh (HS.out.call hb9)
       clear hb9 HS
       go_wp2
       go_roundw
       case rel => exact ⟨k + 1, by omega, by go_num, HS6.out⟩
       case measure => simp [intOf]; omega
      have hke : k = P.length := by omega
      subst hke
      have g2 : decide (((P.length : Nat) : Int) < (P.length : Int)) = false := decide_eq_false (by omega)
      have x4 := HX3.out _ HS.out.below 0 _ rfl
      rw [Nat.add_zero] at x4
      go_wp2
      go_roundw
      case rel => exact ⟨t + 1, by omega, by go_num, HS.out⟩
      case measure => simp [intOf]; omega
    have hte : t = T.length := by omega
    subst hte
    have f2 : decide (((T.length : Nat) : Int) < (T.length : Int)) = false := decide_eq_false (by omega)
    go_wp2
    go_roundw
    case rel => exact ⟨i + 1, by omega, by go_num, HS.out⟩
    case measure => simp [intOf]; omega
  have hie : i = A.length := by omega
  subst hie
  have e2 : decide (((A.length : Nat) : Int) < (A.length : Int)) = false := decide_eq_false (by omega)
  have x3 := cC HS 1 1
  go_wp2
  go_ret
  exact ⟨rfl, HS.out.below⟩
def PrgL (w : World) (p : Value × Value) (R : List Int) (A : List (List (List Prt))) : Prop := c3p w p.1 R /\ AgrL w p.2 A
theorem PrgL.below {w w' : World} {p : Value × Value} {R : List Int} {A : List (List (List Prt))} (h : PrgL w p R A) (hb : Below w.heap.size w w') : PrgL w' p R A := ⟨Slc.below h.1 hb, AgrL.below h.2 hb⟩
def CmpS (cl : List Nmd) (l : List Cls) (w : World) (e : Ending) (w' : World) : Prop := ∃ (A1 : Option Addr) (c1 : Nat) (A2 : Option Addr) (c2 : Nat) (R : List Int) (A : List (List (List Prt))) (i : Nat) (er : Int), e = .returned (.tuple #[.agg #[.slice A1 R.length c1, .slice A2 A.length c2], .int .i64 (i : Nat), .int .i64 er]) /\ PrgL w' (.slice A1 R.length c1, .slice A2 A.length c2) R A /\ Comp cl l R A i er /\ Below w.heap.size w w'
theorem CmpR.open {cl : List Nmd} {l : List Cls} {w : World} {e : Ending} {w' : World} (h : CmpR cl l w e w') : CmpS cl l w e w' := by
 obtain ⟨vr, va, R, A, i, er, rfl, h1, h2, h3, h4⟩ := h
 obtain ⟨A1, c1, rfl, _, _⟩ := Slc.slice h1
 obtain ⟨A2, c2, rfl, _, _⟩ := NstL.slice h2
 exact ⟨A1, c1, A2, c2, R, A, i, er, rfl, ⟨h1, h2⟩, h3, h4⟩
theorem b6d (v : Value) (cl : List Nmd) (v2 : Value) (l : List Cls) (w : World) (h : NmdL w v cl) (h2 : ClsL w v2 l) (hs : ∀ x ∈ l, ∀ s ∈ x.list, s.length <= 9223372036854775807) : Calls Tryz.prog 3 #[v, v2] w fun e w' => e = .returned (.bool true) /\ Below w.heap.size w w' := by
 have dF := fun W (hb : Below w.heap.size w W) => c9t v v2 cl l W (h.below hb) (h2.below hb)
 have dA := fun W => a6p W
 have hfit : fewN cl l = true -> Fit cl l := fun hf => by
  obtain ⟨h1, h2, h3, h4⟩ := fewN_fit hf
  refine ⟨by omega, by omega, fun x hx => ?_, fun x hx => ?_⟩
  ·have := h3 x hx; omega
  have := h4 x hx; exact ⟨by omega, by omega, by omega, hs x hx, by omega, by omega⟩
 have dC := fun hf W (hb : Below w.heap.size w W) => a1v v v2 cl l W (h.below hb) (h2.below hb) (hfit hf)
 have dR := fun hf W (hb : Below w.heap.size w W) => b1t v v2 cl l W (h.below hb) (h2.below hb) (hfit hf)
 obtain ⟨A1, c1, rfl, _, _⟩ := Slc.slice h
 obtain ⟨A2, c2, rfl, _, _⟩ := h2.slice
 obtain ⟨q, hq⟩ : ∃ q, q = fewN cl l := ⟨_, rfl⟩
 rw [<- hq] at dF dC dR
 have DF := zh dF
 have DA := zh dA
 clear h h2 hs hfit dF dA hq
 cases q
 clear dC dR
 rotate_left
 have DC := zh (fun W hb => dC rfl W hb)
 have DR := zh (fun W hb => dR rfl W hb)
 clear dC dR
 rotate_left
 all_goals
   go_enter Tryz.func3, Tryz.ntmps3
   have HS := zh (St.start w)
   go_wp2_with fail
   refine cL (DF.out _ HS.out.below) HS fun w2 HS2 => ?_
   clear HS
   go_wp2_with fail
 ·refine cL (DA.out _) HS2 fun w3 HS3 => ?_
  clear HS2
  go_wp2
  go_ret
  exact ⟨rfl, HS3.out.below⟩
 refine (((DC.out _ HS2.out.below).mono fun _ _ h => h.open)).mono ?_
 rintro e w3 ⟨Ap, cp, Bp, dp, Rp, Gp, ip, ep, rfl, hPp, hCp, hb3⟩
 have HCp := zh hCp
 clear hCp
 have HS3 := zh (HS2.out.call hb3)
 have Pp_3 := zh hPp
 clear hPp hb3 HS2
 go_wp2_with fail
 have HS4 := aL HS3 #[.slice Ap Rp.length cp, .slice Bp Gp.length dp] 29 w3.heap.size
 refine (((DR.out _ HS4.out.below).mono fun _ _ h => h.open)).mono ?_
 rintro e w5 ⟨Aq, cq, Bq, dq, Rq, Gq, iq, eq, rfl, hPq, hCq, hb5⟩
 obtain ⟨ea, eb, ec, ed⟩ := (HCp.out).one hCq
 subst ea eb ec ed
 clear hCq
 have HS5 := zh (HS4.out.call hb5)
 have Pp_5 := zh (Pp_3.out.below (Ext.trans (Ext.alloc (Below.refl w3.heap.size w3) (Obj.cells #[.slice Ap Rp.length cp, .slice Bp Gp.length dp] 29)) hb5))
 clear Pp_3
 have Pq_5 := zh hPq
 clear hPq hb5 HS3 HS4
 go_wp2_with fail
 have HS6 := aL HS5 #[.slice Aq Rp.length cq, .slice Bq Gp.length dq] 29 w5.heap.size
 refine (DA.out _).mono ?_
 rintro e w7 ⟨rfl, hb7⟩
 have HS7 := zh (HS6.out.call hb7)
 have Pp_7 := zh (Pp_5.out.below (Ext.trans (Ext.alloc (Below.refl w5.heap.size w5) (Obj.cells #[.slice Aq Rp.length cq, .slice Bq Gp.length dq] 29)) hb7))
 clear Pp_5
 have Pq_7 := zh (Pq_5.out.below (Ext.trans (Ext.alloc (Below.refl w5.heap.size w5) (Obj.cells #[.slice Aq Rp.length cq, .slice Bq Gp.length dq] 29)) hb7))
 clear Pq_5 hb7 HS5 HS6
 have x1 := cC HS7 1 0
 have x2 := cC HS7 1 1
 have x3 := cC HS7 0 0
 have x4 := cC HS7 0 1
 go_wp2_with fail
 refine (a4f _ _ _ _ _ _ _ Pp_7.out.1 Pp_7.out.2 Pq_7.out.1 Pq_7.out.2).mono ?_
 rintro e w8 ⟨rfl, hb8⟩
 have HS8 := zh (HS7.out.call hb8)
 have Pp_8 := zh (Pp_7.out.below hb8)
 clear Pp_7
 have Pq_8 := zh (Pq_7.out.below hb8)
 clear Pq_7 hb8 HS7 x1 x2 x3 x4
 go_wp2
 go_ret
 exact ⟨rfl, HS8.out.below⟩
end Go.Proofs.YtgdhpghfojccaaaGreatDoor
