/-
Part 27 of the base.
-/
import Derived.Test.YtgdhpghfojccaaaGreatDoorRb19
import Derived.Test.YtgdhpghfojccaaaGreatDoorRb22
import Derived.Test.YtgdhpghfojccaaaGreatDoorRb28
set_option maxRecDepth 100000
set_option maxHeartbeats 4000000
namespace Go.Proofs.YtgdhpghfojccaaaGreatDoor
open Go.RowKit
theorem c8h (x : Cls) (u : Value) (w : World) (hu : a6d w u x.list) :
  Calls Tryz.prog 104 #[.agg #[.int .i64 x.kind, .string (bs x.name), .string (bs x.other), u, .bool x.am.n, .string (bs x.am.a), .string (bs x.am.b), .int .i64 x.at_]] w fun e w' => ∃ v', e = .returned v' /\ a6d w' v' (a3j x) /\ Below w.heap.size w w' := by
 obtain ⟨k, hk⟩ : ∃ k, k = x.kind := ⟨_, rfl⟩
 have u1 := fun h => uses1 (c := x) h
 have u2 := fun h => uses2 (c := x) h
 have u0 := fun h h2 => uses0 (c := x) h h2
 rw [<- hk] at u1 u2 u0 ⊢
 have HU := zh hu
 clear hk hu
 by_cases h1 : k = 1
 have R := zh (u1 h1)
 subst h1
 clear u1 u2 u0
 rotate_left
 by_cases h2 : k = 2
 have R := zh (u2 h2)
 subst h2
 clear u1 u2 u0 h1
 rotate_left
 have R := zh (u0 h1 h2)
 have d1 : (k == 1) = false := by simp [h1]
 have d2 : (k == 2) = false := by simp [h2]
 clear u1 u2 u0 h1 h2
 rotate_left
 all_goals
   go_enter Tryz.func104, Tryz.ntmps104
   have HS := zh (St.start w)
   go_wp2
   go_ret
 ·have HS2 := aL HS #[.int .i64 1, .string (bs x.name), .string (bs x.other), u, .bool x.am.n, .string (bs x.am.a), .string (bs x.am.b), .int .i64 x.at_] 61 w.heap.size
  rw [R.out]
  exact ⟨_, rfl, HU.out.below HS2.out.below, HS2.out.below⟩
 ·have HS2 := aL (aL HS #[.int .i64 2, .string (bs x.name), .string (bs x.other), u, .bool x.am.n, .string (bs x.am.a), .string (bs x.am.b), .int .i64 x.at_] 61 w.heap.size) #[.string (bs x.name), .string (bs x.other)] 9 (w.heap.size + 1)
  rw [R.out]
  exact ⟨_, rfl, Slc.of_blk a2c (xs := [x.name, x.other]) (n := 2) (c := 2) (HS2.out.blk 0 rfl) rfl rfl (Nat.le_refl _) (by decide), HS2.out.below⟩
 have HS2 := aL (aL HS #[.int .i64 k, .string (bs x.name), .string (bs x.other), u, .bool x.am.n, .string (bs x.am.a), .string (bs x.am.b), .int .i64 x.at_] 61 w.heap.size) #[.string (bs x.name)] 9 (w.heap.size + 1)
 rw [R.out]
 exact ⟨_, rfl, Slc.of_blk a2c (xs := [x.name]) (n := 1) (c := 1) (HS2.out.blk 0 rfl) rfl rfl (Nat.le_refl _) (by decide), HS2.out.below⟩
theorem c6j (v v2 : Value) (cl : List Nmd) (l : List Cls) (i : Nat) (x : Cls) (w : World) (h : NmdL w v cl) (h2 : ClsL w v2 l) (hi : l[i]? = some x) (hfit : x.name.length <= 9223372036854775807) (hl : cl.length <= 1000000) (hl2 : l.length <= 1000000) :
  Calls Tryz.prog 68 #[v, v2, .int .i64 (i : Nat)] w fun e w' => e = .returned (.int .i64 (err1 cl (l.take i) x)) /\ Below w.heap.size w w' := by
 have hil := (List.getElem?_eq_some_iff.1 hi).1
 have c1 := fun W (hb : Below w.heap.size w W) => a5e v cl x.name W (h.below hb) hl
 have c3 := fun W => b6u x.name W hfit
 obtain ⟨A2, c2, rfl, hln, hcc⟩ := h2.slice
 have c2' := fun W (hb : Below w.heap.size w W) => a5d _ (l.take i) x.name W ((h2.below hb).first (h := i) (by omega)) (by rw [List.length_take]; omega)
 obtain ⟨b, o, x', u, rfl, hbb, hq, hu, hx⟩ := h2.at_ hil
 obtain rfl : x = x' := by rw [hi] at hq; exact Option.some.inj hq
 obtain ⟨A3, c9, rfl, _, _⟩ := hu.slice
 have e0 : (0 : Int) <= ((i : Nat) : Int) := by omega
 have e1 : ((i : Nat) : Int) < (l.length : Int) := by omega
 have e6 : ((i : Nat) : Int) <= ((l.length : Nat) : Int) := by omega
 have e7 : ((i : Nat) : Int) <= ((c2 : Nat) : Int) := by omega
 have n1 := fun h => c5m (cl := cl) (pre := l.take i) (c := x) h
 have n2 := fun h h2 => er1_no (cl := cl) (pre := l.take i) (c := x) h h2
 have n3 := fun h h2 => c1m (cl := cl) (pre := l.take i) (c := x) h h2
 have n4 := fun h h2 h3 => d0g (cl := cl) (pre := l.take i) (c := x) h h2 h3
 have z1 := b8r (a0d cl x.name)
 have z2 := b8r (a0h (l.take i) x.name)
 generalize err1 cl (l.take i) x = er at *
 generalize (a0d cl x.name).isSome = q1 at *
 generalize (a0h (l.take i) x.name).isSome = q2 at *
 generalize optZ (a0d cl x.name) = y1 at *
 generalize optZ (a0h (l.take i) x.name) = y2 at *
 generalize a4d x.name = p at *
 obtain ⟨k, hk⟩ : ∃ k, k = x.kind := ⟨_, rfl⟩
 unfold CRow.enc at hx
 dsimp only at hx
 rw [<- hk] at n1 n2 n3 n4 hx
 have HX := zh hx
 have HC1 := zh c1
 have HC2 := zh c2'
 have HC3 := zh c3
 have N1 := zh n1
 have N2 := zh n2
 have N3 := zh n3
 have N4 := zh n4
 clear h h2 hi hfit hl hl2 c1 c2' c3 hq hu hx hk n1 n2 n3 n4 hln hcc hil
 by_cases k1 : k < 1
 have R := zh (N1.out (.inl k1))
 have d1 : decide (k < 1) = true := decide_eq_true k1
 clear k1
 rotate_left
 by_cases k2 : 4 < k
 have R := zh (N1.out (.inr k2))
 have d1 : decide (k < 1) = false := decide_eq_false k1
 have d2 : decide (4 < k) = true := decide_eq_true k2
 clear k1 k2
 rotate_left
 by_cases k3 : k = 1
 subst k3
 clear k1 k2
 cases q1
 cases q2
 have N5 := zh (by first | exact N4.out rfl rfl rfl | exact N4.out rfl trivial trivial | exact N4.out trivial trivial trivial | exact N4.out)
 clear N4
 cases p
 have R := zh (N5.out.trans (if_pos rfl))
 rotate_left
 by_cases m1 : x.list.length = 0
 have R := zh (N5.out.trans ((if_neg (by simp)).trans (if_pos m1)))
 have d3 : ((x.list.length : Int) == 0) = true := by rw [m1]; rfl
 have d4 : (x.list.length == 0) = true := by rw [m1]; rfl
 clear m1
 rotate_left
 by_cases m2 : 32 < x.list.length
 have R := zh (N5.out.trans ((if_neg (by simp)).trans ((if_neg m1).trans (if_pos m2))))
 have d3 : ((x.list.length : Int) == 0) = false := by rw [beq_eq_false_iff_ne]; omega
 have d4 : (x.list.length == 0) = false := by rw [beq_eq_false_iff_ne]; exact m1
 have d5 : decide ((32 : Int) < (x.list.length : Int)) = true := decide_eq_true (by omega)
 have d6 : decide (32 < x.list.length) = true := decide_eq_true m2
 clear m1 m2
 rotate_left
 have R := zh (N5.out.trans ((if_neg (by simp)).trans ((if_neg m1).trans (if_neg m2))))
 have d3 : ((x.list.length : Int) == 0) = false := by rw [beq_eq_false_iff_ne]; omega
 have d4 : (x.list.length == 0) = false := by rw [beq_eq_false_iff_ne]; exact m1
 have d5 : decide ((32 : Int) < (x.list.length : Int)) = false := decide_eq_false (by omega)
 have d6 : decide (32 < x.list.length) = false := decide_eq_false m2
 clear m1 m2
 rotate_left
 have R := zh (by first | exact N3.out rfl (.inr rfl) | exact N3.out trivial (.inr rfl) | exact N3.out (by simp) (by simp) | exact N3.out rfl (by simp) | exact N3.out (by simp) | simpa using N3.out)
 rotate_left
 have R := zh (by first | exact N3.out rfl (.inl rfl) | exact N3.out trivial (.inl rfl) | exact N3.out (by simp) (by simp) | exact N3.out rfl (by simp) | exact N3.out (by simp) | simpa using N3.out)
 rotate_left
 have R := zh (N2.out (fun h => h.elim k1 k2) k3)
 have d1 : decide (k < 1) = false := decide_eq_false k1
 have d2 : decide (4 < k) = false := decide_eq_false k2
 have d7 : (k != 1) = true := by rw [bne_iff_ne]; exact k3
 clear k1 k2 k3
 rotate_left
 all_goals
   go_enter Tryz.func68, Tryz.ntmps68
   have HS := zh (St.start w)
   have x1 : b < w.heap.size := Nat.lt_of_lt_of_le hbb HS.out.below.size
   have x2 : ¬ b = w.heap.size := by omega
   obtain ⟨x3, x4, x5⟩ := kE0 (HX.out _ HS.out.below) rfl rfl rfl
   have x6 := HX.out _ HS.out.below 3 _ rfl
   obtain ⟨x7, x8, x9⟩ := kE4 (HX.out _ HS.out.below) rfl rfl rfl
   have x10 := HX.out _ HS.out.below 7 _ rfl
   go_wp2
 ·go_ret
  have HS2 := aL HS #[.int .i64 k, .string (bs x.name), .string (bs x.other), .slice A3 x.list.length c9, .bool x.am.n, .string (bs x.am.a), .string (bs x.am.b), .int .i64 x.at_] 61 w.heap.size
  rw [R.out]
  exact ⟨rfl, HS2.out.below⟩
 ·go_ret
  have HS2 := aL HS #[.int .i64 k, .string (bs x.name), .string (bs x.other), .slice A3 x.list.length c9, .bool x.am.n, .string (bs x.am.a), .string (bs x.am.b), .int .i64 x.at_] 61 w.heap.size
  rw [R.out]
  exact ⟨rfl, HS2.out.below⟩
 ·clear x1 x2 x3 x4 x5 x6 x7 x8 x9 x10
  have HS2 := aL HS #[.int .i64 1, .string (bs x.name), .string (bs x.other), .slice A3 x.list.length c9, .bool x.am.n, .string (bs x.am.a), .string (bs x.am.b), .int .i64 x.at_] 61 w.heap.size
  clear HS
  refine a0c 14 [v, .pointer (some ⟨w.heap.size, 1, none⟩), .string (bs x.name), .int .i64 y1, .bool false, .bool false, .slice (some ⟨b, o, none⟩) l.length c2, .int .i64 (i : Nat), .slice (some ⟨b, o, none⟩) i c2, .pointer (some ⟨w.heap.size, 1, none⟩), .string (bs x.name), .int .i64 y2, .bool false, .bool false] rfl (by kernel_rfl) (by kernel_rfl) (by kernel_rfl) ?_ ?_
  refine ⟨?_, ?_, ?_, ?_, ?_, ?_, ?_, ?_, ?_, ?_, ?_, ?_, ?_, ?_, trivial⟩ <;> (intro xx af wv hbx hev hev0 hd; have H := SH.mk hev hev0 hd; clear hev hev0 hd)
  ·have e0 := H.i 0; clear H; go_wp2; exact sQ rfl
  ·have e7 := H.i 7; clear H; go_wp2; exact sQ rfl
  ·have e27 := H.r 1 27; clear H; have hs1 := zh (HS2.out.call hbx); have y0 := cC hs1 0 1; go_wp2; exact sQ rfl
  ·have e26 := H.r 0 26; have e28 := H.r 2 28; clear H; have hs1 := zh (HS2.out.call hbx)
   go_wp2_with fail
   refine (HC1.out _ hs1.out.below).mono ?_
   rintro e w8 ⟨rfl, hb8⟩; go_wp2; exact StepQ.mk _ hb8 rfl
  ·have e29 := H.r 3 29; clear H; go_wp2; exact sQ rfl
  ·have e30 := H.r 4 30; clear H; go_wp2; exact sQ rfl
  ·have e31 := H.g 5 31; have e1 := H.i 1; have q31 := a0a e31; clear H; go_wp2; exact sQ rfl
  ·have e31 := H.g 5 31; have e2 := H.i 2; have q31 := a0a e31; clear H; go_wp2; exact sQ rfl
  ·have e31 := H.g 5 31; have e32 := H.r 6 32; have e33 := H.r 7 33; have q31 := a0a e31; clear H; go_wp2; exact sQ rfl
  ·have e31 := H.g 5 31; have e7 := H.i 7; have q31 := a0a e31; clear H; go_wp2; exact sQ rfl
  ·have e31 := H.g 5 31; have e35 := H.r 9 35; have q31 := a0a e31; clear H; have hs1 := zh (HS2.out.call hbx); have y0 := cC hs1 0 1; go_wp2; exact sQ rfl
  ·have e31 := (H.ev 5 _ 31 rfl rfl).trans (H.hd ⟨5, .chain⟩ (by simp) rfl); have e34 := H.r 8 34; have e36 := H.r 10 36; have q31 := a0a e31; clear H; have hs1 := zh (HS2.out.call hbx)
   go_wp2_with fail
   refine (HC2.out _ hs1.out.below).mono ?_
   rintro e w8 ⟨rfl, hb8⟩; go_wp2; exact StepQ.mk _ hb8 rfl
  ·have e31 := H.g 5 31; have e37 := H.r 11 37; have q31 := a0a e31; clear H; go_wp2; exact sQ rfl
  ·have e31 := H.r 5 31; have e38 := H.r 12 38; clear H; go_wp2; exact sQ rfl
  intro xx w4 hb9 hv
  simp only [List.take, List.drop, a0g, Act.put]
  simp only [vQ hv 0, vQ hv 1, vQ hv 2, vQ hv 3, vQ hv 4, vQ hv 5, vQ hv 6, vQ hv 7, vQ hv 8, vQ hv 9, vQ hv 10, vQ hv 11, vQ hv 12, vQ hv 13]
  clear hv
  have HS4 := zh (HS2.out.call hb9)
  clear hb9 HS2
  have x11 := cC HS4 0 1
  go_wp2_with fail
  refine (HC3.out _).mono ?_
  rintro e w' ⟨rfl, rfl⟩
  clear x11
  go_wp2
  go_ret
  rw [R.out]
  exact ⟨rfl, HS4.out.below⟩
 ·clear x1 x2 x3 x4 x5 x6 x7 x8 x9 x10
  have HS2 := aL HS #[.int .i64 1, .string (bs x.name), .string (bs x.other), .slice A3 x.list.length c9, .bool x.am.n, .string (bs x.am.a), .string (bs x.am.b), .int .i64 x.at_] 61 w.heap.size
  clear HS
  refine a0c 14 [v, .pointer (some ⟨w.heap.size, 1, none⟩), .string (bs x.name), .int .i64 y1, .bool false, .bool false, .slice (some ⟨b, o, none⟩) l.length c2, .int .i64 (i : Nat), .slice (some ⟨b, o, none⟩) i c2, .pointer (some ⟨w.heap.size, 1, none⟩), .string (bs x.name), .int .i64 y2, .bool false, .bool false] rfl (by kernel_rfl) (by kernel_rfl) (by kernel_rfl) ?_ ?_
  refine ⟨?_, ?_, ?_, ?_, ?_, ?_, ?_, ?_, ?_, ?_, ?_, ?_, ?_, ?_, trivial⟩ <;> (intro xx af wv hbx hev hev0 hd; have H := SH.mk hev hev0 hd; clear hev hev0 hd)
  ·have e0 := H.i 0; clear H; go_wp2; exact sQ rfl
  ·have e7 := H.i 7; clear H; go_wp2; exact sQ rfl
  ·have e27 := H.r 1 27; clear H; have hs1 := zh (HS2.out.call hbx); have y0 := cC hs1 0 1; go_wp2; exact sQ rfl
  ·have e26 := H.r 0 26; have e28 := H.r 2 28; clear H; have hs1 := zh (HS2.out.call hbx)
   go_wp2_with fail
   refine (HC1.out _ hs1.out.below).mono ?_
   rintro e w8 ⟨rfl, hb8⟩; go_wp2; exact StepQ.mk _ hb8 rfl
  ·have e29 := H.r 3 29; clear H; go_wp2; exact sQ rfl
  ·have e30 := H.r 4 30; clear H; go_wp2; exact sQ rfl
  ·have e31 := H.g 5 31; have e1 := H.i 1; have q31 := a0a e31; clear H; go_wp2; exact sQ rfl
  ·have e31 := H.g 5 31; have e2 := H.i 2; have q31 := a0a e31; clear H; go_wp2; exact sQ rfl
  ·have e31 := H.g 5 31; have e32 := H.r 6 32; have e33 := H.r 7 33; have q31 := a0a e31; clear H; go_wp2; exact sQ rfl
  ·have e31 := H.g 5 31; have e7 := H.i 7; have q31 := a0a e31; clear H; go_wp2; exact sQ rfl
  ·have e31 := H.g 5 31; have e35 := H.r 9 35; have q31 := a0a e31; clear H; have hs1 := zh (HS2.out.call hbx); have y0 := cC hs1 0 1; go_wp2; exact sQ rfl
  ·have e31 := (H.ev 5 _ 31 rfl rfl).trans (H.hd ⟨5, .chain⟩ (by simp) rfl); have e34 := H.r 8 34; have e36 := H.r 10 36; have q31 := a0a e31; clear H; have hs1 := zh (HS2.out.call hbx)
   go_wp2_with fail
   refine (HC2.out _ hs1.out.below).mono ?_
   rintro e w8 ⟨rfl, hb8⟩; go_wp2; exact StepQ.mk _ hb8 rfl
  ·have e31 := H.g 5 31; have e37 := H.r 11 37; have q31 := a0a e31; clear H; go_wp2; exact sQ rfl
  ·have e31 := H.r 5 31; have e38 := H.r 12 38; clear H; go_wp2; exact sQ rfl
  intro xx w4 hb9 hv
  simp only [List.take, List.drop, a0g, Act.put]
  simp only [vQ hv 0, vQ hv 1, vQ hv 2, vQ hv 3, vQ hv 4, vQ hv 5, vQ hv 6, vQ hv 7, vQ hv 8, vQ hv 9, vQ hv 10, vQ hv 11, vQ hv 12, vQ hv 13]
  clear hv
  have HS4 := zh (HS2.out.call hb9)
  clear hb9 HS2
  have x11 := cC HS4 0 1
  go_wp2_with fail
  refine (HC3.out _).mono ?_
  rintro e w' ⟨rfl, rfl⟩
  clear x11
  have x12 := cC HS4 0 3
  go_wp2
  go_ret
  rw [R.out]
  exact ⟨rfl, HS4.out.below⟩
 ·clear x1 x2 x3 x4 x5 x6 x7 x8 x9 x10
  have HS2 := aL HS #[.int .i64 1, .string (bs x.name), .string (bs x.other), .slice A3 x.list.length c9, .bool x.am.n, .string (bs x.am.a), .string (bs x.am.b), .int .i64 x.at_] 61 w.heap.size
  clear HS
  refine a0c 14 [v, .pointer (some ⟨w.heap.size, 1, none⟩), .string (bs x.name), .int .i64 y1, .bool false, .bool false, .slice (some ⟨b, o, none⟩) l.length c2, .int .i64 (i : Nat), .slice (some ⟨b, o, none⟩) i c2, .pointer (some ⟨w.heap.size, 1, none⟩), .string (bs x.name), .int .i64 y2, .bool false, .bool false] rfl (by kernel_rfl) (by kernel_rfl) (by kernel_rfl) ?_ ?_
  refine ⟨?_, ?_, ?_, ?_, ?_, ?_, ?_, ?_, ?_, ?_, ?_, ?_, ?_, ?_, trivial⟩ <;> (intro xx af wv hbx hev hev0 hd; have H := SH.mk hev hev0 hd; clear hev hev0 hd)
  ·have e0 := H.i 0; clear H; go_wp2; exact sQ rfl
  ·have e7 := H.i 7; clear H; go_wp2; exact sQ rfl
  ·have e27 := H.r 1 27; clear H; have hs1 := zh (HS2.out.call hbx); have y0 := cC hs1 0 1; go_wp2; exact sQ rfl
  ·have e26 := H.r 0 26; have e28 := H.r 2 28; clear H; have hs1 := zh (HS2.out.call hbx)
   go_wp2_with fail
   refine (HC1.out _ hs1.out.below).mono ?_
   rintro e w8 ⟨rfl, hb8⟩; go_wp2; exact StepQ.mk _ hb8 rfl
  ·have e29 := H.r 3 29; clear H; go_wp2; exact sQ rfl
  ·have e30 := H.r 4 30; clear H; go_wp2; exact sQ rfl
  ·have e31 := H.g 5 31; have e1 := H.i 1; have q31 := a0a e31; clear H; go_wp2; exact sQ rfl
  ·have e31 := H.g 5 31; have e2 := H.i 2; have q31 := a0a e31; clear H; go_wp2; exact sQ rfl
  ·have e31 := H.g 5 31; have e32 := H.r 6 32; have e33 := H.r 7 33; have q31 := a0a e31; clear H; go_wp2; exact sQ rfl
  ·have e31 := H.g 5 31; have e7 := H.i 7; have q31 := a0a e31; clear H; go_wp2; exact sQ rfl
  ·have e31 := H.g 5 31; have e35 := H.r 9 35; have q31 := a0a e31; clear H; have hs1 := zh (HS2.out.call hbx); have y0 := cC hs1 0 1; go_wp2; exact sQ rfl
  ·have e31 := (H.ev 5 _ 31 rfl rfl).trans (H.hd ⟨5, .chain⟩ (by simp) rfl); have e34 := H.r 8 34; have e36 := H.r 10 36; have q31 := a0a e31; clear H; have hs1 := zh (HS2.out.call hbx)
   go_wp2_with fail
   refine (HC2.out _ hs1.out.below).mono ?_
   rintro e w8 ⟨rfl, hb8⟩; go_wp2; exact StepQ.mk _ hb8 rfl
  ·have e31 := H.g 5 31; have e37 := H.r 11 37; have q31 := a0a e31; clear H; go_wp2; exact sQ rfl
  ·have e31 := H.r 5 31; have e38 := H.r 12 38; clear H; go_wp2; exact sQ rfl
  intro xx w4 hb9 hv
  simp only [List.take, List.drop, a0g, Act.put]
  simp only [vQ hv 0, vQ hv 1, vQ hv 2, vQ hv 3, vQ hv 4, vQ hv 5, vQ hv 6, vQ hv 7, vQ hv 8, vQ hv 9, vQ hv 10, vQ hv 11, vQ hv 12, vQ hv 13]
  clear hv
  have HS4 := zh (HS2.out.call hb9)
  clear hb9 HS2
  have x11 := cC HS4 0 1
  go_wp2_with fail
  refine (HC3.out _).mono ?_
  rintro e w' ⟨rfl, rfl⟩
  clear x11
  have x12 := cC HS4 0 3
  go_wp2
  go_ret
  rw [R.out]
  exact ⟨rfl, HS4.out.below⟩
 ·clear x1 x2 x3 x4 x5 x6 x7 x8 x9 x10
  have HS2 := aL HS #[.int .i64 1, .string (bs x.name), .string (bs x.other), .slice A3 x.list.length c9, .bool x.am.n, .string (bs x.am.a), .string (bs x.am.b), .int .i64 x.at_] 61 w.heap.size
  clear HS
  refine a0c 14 [v, .pointer (some ⟨w.heap.size, 1, none⟩), .string (bs x.name), .int .i64 y1, .bool false, .bool false, .slice (some ⟨b, o, none⟩) l.length c2, .int .i64 (i : Nat), .slice (some ⟨b, o, none⟩) i c2, .pointer (some ⟨w.heap.size, 1, none⟩), .string (bs x.name), .int .i64 y2, .bool false, .bool false] rfl (by kernel_rfl) (by kernel_rfl) (by kernel_rfl) ?_ ?_
  refine ⟨?_, ?_, ?_, ?_, ?_, ?_, ?_, ?_, ?_, ?_, ?_, ?_, ?_, ?_, trivial⟩ <;> (intro xx af wv hbx hev hev0 hd; have H := SH.mk hev hev0 hd; clear hev hev0 hd)
  ·have e0 := H.i 0; clear H; go_wp2; exact sQ rfl
  ·have e7 := H.i 7; clear H; go_wp2; exact sQ rfl
  ·have e27 := H.r 1 27; clear H; have hs1 := zh (HS2.out.call hbx); have y0 := cC hs1 0 1; go_wp2; exact sQ rfl
  ·have e26 := H.r 0 26; have e28 := H.r 2 28; clear H; have hs1 := zh (HS2.out.call hbx)
   go_wp2_with fail
   refine (HC1.out _ hs1.out.below).mono ?_
   rintro e w8 ⟨rfl, hb8⟩; go_wp2; exact StepQ.mk _ hb8 rfl
  ·have e29 := H.r 3 29; clear H; go_wp2; exact sQ rfl
  ·have e30 := H.r 4 30; clear H; go_wp2; exact sQ rfl
  ·have e31 := H.g 5 31; have e1 := H.i 1; have q31 := a0a e31; clear H; go_wp2; exact sQ rfl
  ·have e31 := H.g 5 31; have e2 := H.i 2; have q31 := a0a e31; clear H; go_wp2; exact sQ rfl
  ·have e31 := H.g 5 31; have e32 := H.r 6 32; have e33 := H.r 7 33; have q31 := a0a e31; clear H; go_wp2; exact sQ rfl
  ·have e31 := H.g 5 31; have e7 := H.i 7; have q31 := a0a e31; clear H; go_wp2; exact sQ rfl
  ·have e31 := H.g 5 31; have e35 := H.r 9 35; have q31 := a0a e31; clear H; have hs1 := zh (HS2.out.call hbx); have y0 := cC hs1 0 1; go_wp2; exact sQ rfl
  ·have e31 := (H.ev 5 _ 31 rfl rfl).trans (H.hd ⟨5, .chain⟩ (by simp) rfl); have e34 := H.r 8 34; have e36 := H.r 10 36; have q31 := a0a e31; clear H; have hs1 := zh (HS2.out.call hbx)
   go_wp2_with fail
   refine (HC2.out _ hs1.out.below).mono ?_
   rintro e w8 ⟨rfl, hb8⟩; go_wp2; exact StepQ.mk _ hb8 rfl
  ·have e31 := H.g 5 31; have e37 := H.r 11 37; have q31 := a0a e31; clear H; go_wp2; exact sQ rfl
  ·have e31 := H.r 5 31; have e38 := H.r 12 38; clear H; go_wp2; exact sQ rfl
  intro xx w4 hb9 hv
  simp only [List.take, List.drop, a0g, Act.put]
  simp only [vQ hv 0, vQ hv 1, vQ hv 2, vQ hv 3, vQ hv 4, vQ hv 5, vQ hv 6, vQ hv 7, vQ hv 8, vQ hv 9, vQ hv 10, vQ hv 11, vQ hv 12, vQ hv 13]
  clear hv
  have HS4 := zh (HS2.out.call hb9)
  clear hb9 HS2
  have x11 := cC HS4 0 1
  go_wp2_with fail
  refine (HC3.out _).mono ?_
  rintro e w' ⟨rfl, rfl⟩
  clear x11
  have x12 := cC HS4 0 3
  go_wp2
  go_ret
  rw [R.out]
  exact ⟨rfl, HS4.out.below⟩
 ·clear x1 x2 x3 x4 x5 x6 x7 x8 x9 x10
  have HS2 := aL HS #[.int .i64 1, .string (bs x.name), .string (bs x.other), .slice A3 x.list.length c9, .bool x.am.n, .string (bs x.am.a), .string (bs x.am.b), .int .i64 x.at_] 61 w.heap.size
  clear HS
  refine a0c 14 [v, .pointer (some ⟨w.heap.size, 1, none⟩), .string (bs x.name), .int .i64 y1, .bool false, .bool false, .slice (some ⟨b, o, none⟩) l.length c2, .int .i64 (i : Nat), .slice (some ⟨b, o, none⟩) i c2, .pointer (some ⟨w.heap.size, 1, none⟩), .string (bs x.name), .int .i64 y2, .bool true, .bool true] rfl (by kernel_rfl) (by kernel_rfl) (by kernel_rfl) ?_ ?_
  refine ⟨?_, ?_, ?_, ?_, ?_, ?_, ?_, ?_, ?_, ?_, ?_, ?_, ?_, ?_, trivial⟩ <;> (intro xx af wv hbx hev hev0 hd; have H := SH.mk hev hev0 hd; clear hev hev0 hd)
  ·have e0 := H.i 0; clear H; go_wp2; exact sQ rfl
  ·have e7 := H.i 7; clear H; go_wp2; exact sQ rfl
  ·have e27 := H.r 1 27; clear H; have hs1 := zh (HS2.out.call hbx); have y0 := cC hs1 0 1; go_wp2; exact sQ rfl
  ·have e26 := H.r 0 26; have e28 := H.r 2 28; clear H; have hs1 := zh (HS2.out.call hbx)
   go_wp2_with fail
   refine (HC1.out _ hs1.out.below).mono ?_
   rintro e w8 ⟨rfl, hb8⟩; go_wp2; exact StepQ.mk _ hb8 rfl
  ·have e29 := H.r 3 29; clear H; go_wp2; exact sQ rfl
  ·have e30 := H.r 4 30; clear H; go_wp2; exact sQ rfl
  ·have e31 := H.g 5 31; have e1 := H.i 1; have q31 := a0a e31; clear H; go_wp2; exact sQ rfl
  ·have e31 := H.g 5 31; have e2 := H.i 2; have q31 := a0a e31; clear H; go_wp2; exact sQ rfl
  ·have e31 := H.g 5 31; have e32 := H.r 6 32; have e33 := H.r 7 33; have q31 := a0a e31; clear H; go_wp2; exact sQ rfl
  ·have e31 := H.g 5 31; have e7 := H.i 7; have q31 := a0a e31; clear H; go_wp2; exact sQ rfl
  ·have e31 := H.g 5 31; have e35 := H.r 9 35; have q31 := a0a e31; clear H; have hs1 := zh (HS2.out.call hbx); have y0 := cC hs1 0 1; go_wp2; exact sQ rfl
  ·have e31 := (H.ev 5 _ 31 rfl rfl).trans (H.hd ⟨5, .chain⟩ (by simp) rfl); have e34 := H.r 8 34; have e36 := H.r 10 36; have q31 := a0a e31; clear H; have hs1 := zh (HS2.out.call hbx)
   go_wp2_with fail
   refine (HC2.out _ hs1.out.below).mono ?_
   rintro e w8 ⟨rfl, hb8⟩; go_wp2; exact StepQ.mk _ hb8 rfl
  ·have e31 := H.g 5 31; have e37 := H.r 11 37; have q31 := a0a e31; clear H; go_wp2; exact sQ rfl
  ·have e31 := H.r 5 31; have e38 := H.r 12 38; clear H; go_wp2; exact sQ rfl
  intro xx w4 hb9 hv
  simp only [List.take, List.drop, a0g, Act.put]
  simp only [vQ hv 0, vQ hv 1, vQ hv 2, vQ hv 3, vQ hv 4, vQ hv 5, vQ hv 6, vQ hv 7, vQ hv 8, vQ hv 9, vQ hv 10, vQ hv 11, vQ hv 12, vQ hv 13]
  clear hv
  have HS4 := zh (HS2.out.call hb9)
  clear hb9 HS2
  go_wp2
  go_ret
  rw [R.out]
  exact ⟨rfl, HS4.out.below⟩
 ·clear x1 x2 x3 x4 x5 x6 x7 x8 x9 x10
  have HS2 := aL HS #[.int .i64 1, .string (bs x.name), .string (bs x.other), .slice A3 x.list.length c9, .bool x.am.n, .string (bs x.am.a), .string (bs x.am.b), .int .i64 x.at_] 61 w.heap.size
  clear HS
  refine a0c 14 [v, .pointer (some ⟨w.heap.size, 1, none⟩), .string (bs x.name), .int .i64 y1, .bool true, .bool true, undef, undef, undef, undef, undef, undef, undef, .bool true] rfl (by kernel_rfl) (by kernel_rfl) (by kernel_rfl) ?_ ?_
  refine ⟨?_, ?_, ?_, ?_, ?_, ?_, ?_, ?_, ?_, ?_, ?_, ?_, ?_, ?_, trivial⟩ <;> (intro xx af wv hbx hev hev0 hd; have H := SH.mk hev hev0 hd; clear hev hev0 hd)
  ·have e0 := H.i 0; clear H; go_wp2; exact sQ rfl
  ·have e7 := H.i 7; clear H; go_wp2; exact sQ rfl
  ·have e27 := H.r 1 27; clear H; have hs1 := zh (HS2.out.call hbx); have y0 := cC hs1 0 1; go_wp2; exact sQ rfl
  ·have e26 := H.r 0 26; have e28 := H.r 2 28; clear H; have hs1 := zh (HS2.out.call hbx)
   go_wp2_with fail
   refine (HC1.out _ hs1.out.below).mono ?_
   rintro e w8 ⟨rfl, hb8⟩; go_wp2; exact StepQ.mk _ hb8 rfl
  ·have e29 := H.r 3 29; clear H; go_wp2; exact sQ rfl
  ·have e30 := H.r 4 30; clear H; go_wp2; exact sQ rfl
  ·have e31 := H.g 5 31; have q31 := a0a e31; clear H; go_wp2; exact sQ rfl
  ·have e31 := H.g 5 31; have q31 := a0a e31; clear H; go_wp2; exact sQ rfl
  ·have e31 := H.g 5 31; have q31 := a0a e31; clear H; go_wp2; exact sQ rfl
  ·have e31 := H.g 5 31; have q31 := a0a e31; clear H; go_wp2; exact sQ rfl
  ·have e31 := H.g 5 31; have q31 := a0a e31; clear H; go_wp2; exact sQ rfl
  ·have e31 := (H.ev 5 _ 31 rfl rfl).trans (H.hd ⟨5, .chain⟩ (by simp) rfl); have q31 := a0a e31; clear H; go_wp2; exact sQ rfl
  ·have e31 := H.g 5 31; have q31 := a0a e31; clear H; go_wp2; exact sQ rfl
  ·have e31 := H.r 5 31; have e38 := H.r 12 38; clear H; go_wp2; exact sQ rfl
  intro xx w4 hb9 hv
  simp only [List.take, List.drop, a0g, Act.put]
  simp only [vQ hv 0, vQ hv 1, vQ hv 2, vQ hv 3, vQ hv 4, vQ hv 5, vQ hv 6, vQ hv 7, vQ hv 8, vQ hv 9, vQ hv 10, vQ hv 11, vQ hv 12, vQ hv 13]
  clear hv
  have HS4 := zh (HS2.out.call hb9)
  clear hb9 HS2
  go_wp2
  go_ret
  rw [R.out]
  exact ⟨rfl, HS4.out.below⟩
 go_ret
 have HS2 := aL HS #[.int .i64 k, .string (bs x.name), .string (bs x.other), .slice A3 x.list.length c9, .bool x.am.n, .string (bs x.am.a), .string (bs x.am.b), .int .i64 x.at_] 61 w.heap.size
 rw [R.out]
 exact ⟨rfl, HS2.out.below⟩
theorem c8y (o : Option Nat) : decide (optZ o < 0) = !o.isSome := by
 cases o with
 | none => rfl
 | some i => exact decide_eq_false (show ¬((i : Int) < 0) by omega)
theorem c2h (v v2 : Value) (cl : List Nmd) (l : List Cls) (i : Nat) (x : Cls) (w : World) (h : NmdL w v cl) (h2 : ClsL w v2 l) (hi : l[i]? = some x) (hl : cl.length <= 1000000) (hl2 : l.length <= 1000000) (hl3 : (a3j x).length <= 1000000) :
  Calls Tryz.prog 69 #[v, v2, .int .i64 (i : Nat)] w fun e w' => e = .returned (.int .i64 (err2 cl l x)) /\ Below w.heap.size w w' := by
 have hil := (List.getElem?_eq_some_iff.1 hi).1
 have c1 := fun s W (hb : Below w.heap.size w W) => a5e v cl s W (h.below hb) hl
 have c2' := fun s W (hb : Below w.heap.size w W) => a5d v2 l s W (h2.below hb) hl2
 obtain ⟨A2, c2, rfl, hln, hcc⟩ := h2.slice
 obtain ⟨b, o, x', u, rfl, hbb, hq, hu, hx⟩ := h2.at_ hil
 obtain rfl : x = x' := by rw [hi] at hq; exact Option.some.inj hq
 have c3 := fun W (hb : Below w.heap.size w W) => c8h x u W (hu.below hb)
 have e0 : (0 : Int) <= ((i : Nat) : Int) := by omega
 have e1 : ((i : Nat) : Int) < (l.length : Int) := by omega
 have n1 := fun k s h h2 => d0e (cl := cl) (l := l) (c := x) (k := k) (s := s) h h2
 have n2 := fun h => c5k (cl := cl) (l := l) (c := x) h
 have hbad : ∀ s, badB cl l x s = (!(a0d cl s).isSome && (decide (x.kind = 3) || !(a0h l s).isSome)) := fun _ => rfl
 have z1 := fun s => c8y (a0d cl s)
 have z2 := fun s => c8y (a0h l s)
 generalize err2 cl l x = er at *
 generalize badB cl l x = bad at *
 generalize a3j x = us at *
 unfold CRow.enc at hx
 dsimp only at hx
 have HX := zh hx
 have HC1 := zh c1
 have HC2 := zh c2'
 have HC3 := zh c3
 have N1 := zh n1
 have N2 := zh n2
 have HBAD := zh hbad
 have HL := zh hl3
 have Z1 := zh z1
 have Z2 := zh z2
 clear h h2 hi hl hl2 hl3 c1 c2' c3 hq hu hx n1 n2 hln hcc hil hbad z1 z2
 go_enter Tryz.func69, Tryz.ntmps69
 have HS := zh (St.start w)
 obtain ⟨x1, x2, x3⟩ := kE0 (HX.out _ HS.out.below) rfl rfl rfl
 have x4 := HX.out _ HS.out.below 3 _ rfl
 obtain ⟨x5, x6, x7⟩ := kE4 (HX.out _ HS.out.below) rfl rfl rfl
 have x8 := HX.out _ HS.out.below 7 _ rfl
 go_wp2_with fail
 refine (HC3.out _ HS.out.below).mono ?_
 rintro e w2 ⟨v2, rfl, hl2, hb2⟩
 have HS2 := zh (HS.out.call hb2)
 have Y_2 := zh hl2
 clear hl2 hb2 HS x1 x2 x3 x4 x5 x6 x7 x8
 have HB0 := zh HS2.out.below
 clear HS2
 have HT2 := zh (St.start w2)
 have HY := Y_2.out
 have HY := zh HY
 clear Y_2
 obtain ⟨A5, c5, hv5, _, _⟩ := HY.out.slice
 subst hv5
 have HX2 := zh (fun w' (hb : Below w2.heap.size w2 w') => HX.out w' (Ext.trans HB0.out hb))
 have hbb2 := Nat.lt_of_lt_of_le hbb HB0.out.size
 go_wp2
 go_loopw [8] (fun i wr => ∃ k : Nat, k <= us.length /\ i = .int .i64 k /\ Hid (∀ (j : Nat) t, j < k -> us[j]? = some t -> bad t = false) /\ Hid (St w2 [] wr)) (fun i _ => us.length - (intOf i).toNat)
 case atStart => exact ⟨0, Nat.zero_le _, rfl, fun j t hj => absurd hj (Nat.not_lt_zero _), HT2.out⟩
 case round =>
  obtain ⟨k, hk, rfl, HN, HS⟩ := hrel
  by_cases hlt : k < us.length
  ·obtain ⟨b5, o5, s, rfl, hb5, hq, hx⟩ := HY.out.at_ hlt
   have hc1 := HC1.out s
   have hc2 := HC2.out s
   have n1 := N1.out k s hq
   have hbd := HBAD.out s
   have y1 := Z1.out s
   have y2 := Z2.out s
   have hsm := fun h => a4x (p := bad) HN.out hq h
   generalize (a0d cl s).isSome = q1 at *
   generalize (a0h l s).isSome = q2 at *
   generalize optZ (a0d cl s) = r1 at *
   generalize optZ (a0h l s) = r2 at *
   have D1 := zh hc1
   have D2 := zh hc2
   have M1 := zh n1
   have BD := zh hbd
   have SM := zh hsm
   simp only [Nat.mul_one] at hx
   have HE := zh hx
   have e3 : (0 : Int) <= ((k : Nat) : Int) := by omega
   have e4 : ((k : Nat) : Int) < (us.length : Int) := by omega
   have e5 : decide (((k : Nat) : Int) < (us.length : Int)) = true := decide_eq_true e4
   have i5 : IntKind.i64.wrap ((k : Int) + 1) = ((k + 1 : Nat) : Int) := by have := HL.out; rw [IntWalk.i64_in _ (by omega)]; rfl
   clear hq hx hc1 hc2 n1 hbd hsm
   cases q1
   ·by_cases k3 : x.kind = 3
    ·have R := zh (show bad s = true by rw [BD.out]; rw [decide_eq_true k3]; rfl)
     have d3 : (x.kind == 3) = true := by rw [beq_iff_eq]; exact k3
     clear k3
     have x9 := HE.out _ HS.out.below 0 _ rfl
     rw [Nat.add_zero] at x9
     go_wp2_with fail
     refine cL (D1.out _ (Ext.trans HB0.out HS.out.below)) HS fun w3 HS3 => ?_
     clear HS x9
     have x10 := HX2.out _ HS3.out.below 0 _ rfl
     rw [Nat.add_zero] at x10
     go_wp2
     go_ret
     rw [M1.out R.out]
     exact ⟨rfl, Ext.trans HB0.out HS3.out.below⟩
    cases q2
    ·have R := zh (show bad s = true by rw [BD.out]; rw [decide_eq_false k3]; rfl)
     have d3 : (x.kind == 3) = false := by rw [beq_eq_false_iff_ne]; exact k3
     clear k3
     have x9 := HE.out _ HS.out.below 0 _ rfl
     rw [Nat.add_zero] at x9
     go_wp2_with fail
     refine cL (D1.out _ (Ext.trans HB0.out HS.out.below)) HS fun w3 HS3 => ?_
     clear HS x9
     have x10 := HX2.out _ HS3.out.below 0 _ rfl
     rw [Nat.add_zero] at x10
     have x11 := HE.out _ HS3.out.below 0 _ rfl
     rw [Nat.add_zero] at x11
     go_wp2_with fail
     refine cL (D2.out _ (Ext.trans HB0.out HS3.out.below)) HS3 fun w4 HS4 => ?_
     clear HS3 x10 x11
     go_wp2
     go_ret
     rw [M1.out R.out]
     exact ⟨rfl, Ext.trans HB0.out HS4.out.below⟩
    have R := zh (show bad s = false by rw [BD.out]; rw [decide_eq_false k3]; rfl)
    have d3 : (x.kind == 3) = false := by rw [beq_eq_false_iff_ne]; exact k3
    clear k3
    have x9 := HE.out _ HS.out.below 0 _ rfl
    rw [Nat.add_zero] at x9
    go_wp2_with fail
    refine cL (D1.out _ (Ext.trans HB0.out HS.out.below)) HS fun w3 HS3 => ?_
    clear HS x9
    have x10 := HX2.out _ HS3.out.below 0 _ rfl
    rw [Nat.add_zero] at x10
    have x11 := HE.out _ HS3.out.below 0 _ rfl
    rw [Nat.add_zero] at x11
    go_wp2_with fail
    refine cL (D2.out _ (Ext.trans HB0.out HS3.out.below)) HS3 fun w4 HS4 => ?_
    clear HS3 x10 x11
    go_wp2
    go_roundw
    case rel => exact ⟨k + 1, by omega, by go_num, SM.out R.out, HS4⟩
    case measure => simp [intOf]; omega
   have R := zh (show bad s = false by rw [BD.out]; rfl)
   have x9 := HE.out _ HS.out.below 0 _ rfl
   rw [Nat.add_zero] at x9
   go_wp2_with fail
   refine cL (D1.out _ (Ext.trans HB0.out HS.out.below)) HS fun w3 HS3 => ?_
   clear HS x9
   go_wp2
   go_roundw
   case rel => exact ⟨k + 1, by omega, by go_num, SM.out R.out, HS3⟩
   case measure => simp [intOf]; omega
  obtain rfl : k = us.length := by omega
  have e2 : decide (((us.length : Nat) : Int) < (us.length : Int)) = false := decide_eq_false (by omega)
  go_wp2
  go_ret
  rw [N2.out HN.out]
  exact ⟨rfl, Ext.trans HB0.out HS.out.below⟩
theorem b8w (l : List Nat) : ∀ y ∈ l, ∀ u ∈ intE y, u.oneCell' = true := by
 intro y _ u hu
 obtain rfl : u = .int .i64 (y : Nat) := by simpa [intE] using hu
 rfl
theorem a5x {F : Nat -> Bool} {m : Nat} : putA F m true = putI F m := by
 funext x
 unfold putA putI
 by_cases h : x = m
 ·rw [if_pos h, beq_iff_eq.2 h, Bool.or_true]
 rw [if_neg h, beq_eq_false_iff_ne.2 h, Bool.or_false]
theorem Ldr0.lt {l : List Cls} {i x : Nat} {s0 : List UInt8} {seen : Nat -> Bool} {todo : List Nat} (h : Ldr0 l i s0 seen (x :: todo)) : x < l.length := by
 obtain ⟨m, hm, _⟩ := h.1 x (List.mem_cons_self ..)
 exact b0b hm
theorem Ldr.found {l : List Cls} {i x k : Nat} {s0 m : List UInt8} {seen : Nat -> Bool} {todo : List Nat} {y d : Cls} (h : Ldr l i s0 seen todo x k) (hy : l[x]? = some y) (hm : y.list[k]? = some m) (hc : a0h l m = some i) (hi : l[i]? = some d) (hd : d.name = s0) : Way (Mem l) s0 s0 := by
 have := h.way hy hm
 obtain ⟨d', h1, _, h3⟩ := a2k hc
 rw [hi] at h1
 obtain rfl : d = d' := Option.some.inj h1
 rw [<- hd] at this ⊢
 rw [<- h3] at this
 exact this
theorem c6h (v : Value) (l : List Cls) (i : Nat) (x : Cls) (w : World) (h : ClsL w v l) (hi : l[i]? = some x) (hcl : a0h l x.name = some i) (hl : l.length <= 1000000) :
  Calls Tryz.prog 70 #[v, .int .i64 (i : Nat)] w fun e w' => ∃ r, e = .returned (.bool r) /\ (r = true ↔ Way (Mem l) x.name x.name) /\ Below w.heap.size w w' := by
 have hil := (List.getElem?_eq_some_iff.1 hi).1
 have c1 := fun s W (hb : Below w.heap.size w W) => a5d v l s W (h.below hb) hl
 have hmk := a4t l.length hl
 obtain ⟨ii, hii, hiz, hi1, hi8⟩ := a9w
 obtain ⟨A2, c2, rfl, _, _⟩ := h.slice
 have HH := zh h
 have HC := zh c1
 have LI := zh hi
 have LC := zh hcl
 have LL := zh hl
 have HIZ := zh hiz
 clear h c1 hi hcl hl hil hiz
 go_enter Tryz.func70, Tryz.ntmps70
 have HS := zh (St.start w)
 go_wp2
 have HS2 := aL (aL HS (rowE (.bool) l.length (fun _ => false)) 4 w.heap.size) #[.int .i64 (i : Nat)] 3 (w.heap.size + 1)
 have HQ0 : Hid (Que intE 1 w.heap.size (w.heap.size + 1) _ _ [i]) := zh (Que.of_blk (n := 1) (c := 1) a1e (HS2.out.blk 0 rfl) (by omega) rfl rfl rfl (by decide))
 have HS9 := zh (HS2.out.sub (List.sublist_cons_self ..))
 skip
 go_loopg [6] (l.length + 1) (fun gk v6 wr => ∃ (todo : List Nat) (gq : Nat) (sn : Nat -> Bool), Hid (Ldr0 l i x.name sn todo) /\ todo.length + outN sn l.length <= gk /\ gk <= l.length + 1 /\ Hid (Que intE 1 w.heap.size gq wr v6 todo) /\ Hid (gq ≠ w.heap.size) /\ Hid (St w [⟨w.heap.size, rowE .bool l.length sn, 4⟩] wr))
 case atStart => exact ⟨[i], w.heap.size + 1, fun _ => false, Ldr0.start LC.out, by have := c8w (fun _ => false) l.length; simp only [List.length_singleton]; omega, Nat.le_refl _, HQ0.out, (show w.heap.size + 1 ≠ w.heap.size by omega), HS9.out⟩
 case round =>
  obtain ⟨todo, gq, sn, HL, hm, hgk, HQ, HN, HS⟩ := hrel
  clear HQ0 HS2 HS9
  obtain ⟨W1, rfl⟩ : ∃ W1, W1 = wr := ⟨_, rfl⟩
  obtain ⟨G1, rfl⟩ : ∃ G1, G1 = gk := ⟨_, rfl⟩
  cases todo with
 | nil =>
  obtain ⟨p, cap, rfl, _, _⟩ := HQ.out.len
  dsimp only [List.length_nil]
  clear HQ
  go_wp2
  go_ret
  refine ⟨false, rfl, ⟨fun h => absurd h (by simp), fun h => absurd h (Ldr0.none LC.out HL.out)⟩, HS.out.below⟩
 | cons x0 t =>
  have hx0 := HL.out.lt
  have HX := HL
  have HL := zh HX.out.pop
  obtain ⟨b, o, y, u, rfl, hbb, hq, hu, hx⟩ := HH.out.at_ hx0
  obtain ⟨A5, c5, rfl, hl5, hl6⟩ := hu.slice
  unfold CRow.enc at hx
  dsimp only at hx
  obtain ⟨p, cap, rfl, hpc, hcm, hp, _⟩ := HQ.out.pop a1e
  have hgq := HQ.out.lt.2
  have HP := zh (fun (w' : World) (hb : Below W1.heap.size W1 w') (q : Nat) (z : Value) hz => (hb.cell (p := ⟨gq, p + q, none⟩) hgq).trans (hp q z hz))
  unfold intE at HP
  have HX := zh hx
  have LY := zh hq
  have HU := zh hu
  have HM := zh hm
  have e0 : (0 : Int) <= ((x0 : Nat) : Int) := by omega
  have e1 : ((x0 : Nat) : Int) < (l.length : Int) := by omega
  have e2 : decide ((0 : Int) < ((t.length + 1 : Nat) : Int)) = true := decide_eq_true (by omega)
  have e3 : (0 : Int) < ((t.length + 1 : Nat) : Int) := by omega
  clear hq hu hx hp hm
  have x1 : gq < W1.heap.size := hgq
  have x2 : ¬ gq = W1.heap.size := by omega
  have x3 : b < W1.heap.size := Nat.lt_of_lt_of_le hbb HS.out.below.size
  have x4 : ¬ b = W1.heap.size := by omega
  have x5 := HP.out _ (Below.refl _ _) 0 _ rfl
  rw [Nat.add_zero] at x5
  obtain ⟨x6, x7, x8⟩ := kE0 (HX.out _ HS.out.below) rfl rfl rfl
  have x9 := HX.out _ HS.out.below 3 _ rfl
  obtain ⟨x10, x11, x12⟩ := kE4 (HX.out _ HS.out.below) rfl rfl rfl
  have x13 := HX.out _ HS.out.below 7 _ rfl
  go_upto_region 5 with fail
  clear x1 x2 x3 x4 x5 x6 x7 x8 x9 x10 x11 x12 x13
  refine b3a (R := [⟨W1.heap.size, #[.int .i64 y.kind, .string (bs y.name), .string (bs y.other), .slice A5 y.list.length c5, .bool y.am.n, .string (bs y.am.a), .string (bs y.am.b), .int .i64 y.at_], 61⟩, ⟨w.heap.size, (rowE (.bool) l.length sn), 4⟩]) (X := fun W => Que intE 1 w.heap.size gq W _ (x0 :: t)) (St.alloc (HS.out) #[.int .i64 y.kind, .string (bs y.name), .string (bs y.other), .slice A5 y.list.length c5, .bool y.am.n, .string (bs y.am.a), .string (bs y.am.b), .int .i64 y.at_] 61 (W1.heap.size) (by simp)) (HQ.out.below (Ext.alloc (Below.refl W1.heap.size W1) (Obj.cells #[.int .i64 y.kind, .string (bs y.name), .string (bs y.other), .slice A5 y.list.length c5, .bool y.am.n, .string (bs y.am.a), .string (bs y.am.b), .int .i64 y.at_] 61))) ?_
  intro wg hb hq
  have HS2 := zh hb
  have HQ2 := zh hq
  clear hb hq HS HQ
  go_wp2_with (refine a4q _ rfl _ _ _ rfl w.heap.size 3 ii 1 Tryz.underlying26 hii hi1 a1e (by simp [Act.eval]) (by simp [Act.eval]) HQ2.out ?_)
  intro v7 hq7
  have HQ7 := zh hq7
  clear hq7 HQ2
  go_wp2
  have LM := zh hgk
  clear hgk
  go_loopg [6, 8] y.list.length (fun g2 v6 kk w2 => ∃ (k : Nat) (todo : List Nat) (gq : Nat) (sn : Nat -> Bool), kk = .int .i64 k /\ k <= y.list.length /\ y.list.length - k <= g2 /\ Hid (Ldr l i x.name sn todo x0 k) /\ Hid (todo.length + outN sn l.length + 1 <= G1) /\ Hid (Que intE 1 w.heap.size gq w2 v6 todo) /\ Hid (gq ≠ w.heap.size) /\ Hid (gq ≠ W1.heap.size) /\ Hid (St w [⟨W1.heap.size, #[.int .i64 y.kind, .string (bs y.name), .string (bs y.other), .slice A5 y.list.length c5, .bool y.am.n, .string (bs y.am.a), .string (bs y.am.b), .int .i64 y.at_], 61⟩, ⟨w.heap.size, rowE .bool l.length sn, 4⟩] w2))
  case atStart => exact ⟨0, t, gq, sn, rfl, Nat.zero_le _, Nat.le_refl _, HL.out, (by have := HM.out; rw [List.length_cons] at this; show _ <= _; omega), HQ7.out, HN.out, (show gq ≠ W1.heap.size by omega), HS2.out⟩
  case round =>
   obtain ⟨k, todo, gr, sn2, rfl, hk, hm2, HL2, HM2, HQ2, HN2, HN3, HS2⟩ := hrel
   clear HL HM HQ7 HN HP
   by_cases hlt : k < y.list.length
   ·obtain ⟨b5, o5, m, rfl, hb5, hq, hx⟩ := HU.out.at_ hlt
    simp only [Nat.mul_one] at hx
    have HE := zh hx
    have HY := zh hq
    have hc1 := HC.out m
    have e4 : ((k : Nat) : Int) < (y.list.length : Int) := by omega
    have e5 : decide (((k : Nat) : Int) < (y.list.length : Int)) = true := decide_eq_true e4
    have e6 : (0 : Int) <= ((k : Nat) : Int) := by omega
    have i5 : IntKind.i64.wrap ((k : Int) + 1) = ((k + 1 : Nat) : Int) := by rw [IntWalk.i64_in _ (by omega)]; rfl
    clear hq hx
    cases hcm : a0h l m with
    | none =>
     rw [hcm] at hc1
     have HD := zh hc1
     clear hc1
     dsimp only [optZ] at HD
     have LK := zh hcm
     clear hcm
     have d1 : ((-1 : Int) == ((i : Nat) : Int)) = false := by rw [beq_eq_false_iff_ne]; omega
     have x14 := cC HS2 0 3
     have x15 := HE.out _ HS2.out.below 0 _ rfl
     rw [Nat.add_zero] at x15
     go_wp2_with fail
     refine (HD.out _ HS2.out.below).mono ?_
     rintro e w3 ⟨rfl, hb3⟩
     have HS3 := zh (HS2.out.call hb3)
     have HQ2_3 := zh (HQ2.out.below hb3)
     clear HQ2 hb3 HS2 x14 x15
     go_wp2
     go_roundg (y.list.length - (k + 1))
     case measure => omega
     case rel => exact ⟨k + 1, todo, gr, sn2, by go_num, by omega, Nat.le_refl _, HL2.out.skip LY.out HY.out ⟨(by rw [LK.out]; simp), (fun c hc => by rw [LK.out] at hc; cases hc)⟩, HM2.out, HQ2_3.out, HN2.out, HN3.out, HS3⟩
    | some c =>
     rw [hcm] at hc1
     have HD := zh hc1
     clear hc1
     dsimp only [optZ] at HD
     have LK := zh hcm
     have hc9 := b0b hcm
     clear hcm
     have e7 : (0 : Int) <= ((c : Nat) : Int) := by omega
     have e8 : ((c : Nat) : Int) < (l.length : Int) := by omega
     by_cases hci : c = i
     ·have d1 : (((c : Nat) : Int) == ((i : Nat) : Int)) = true := by rw [beq_iff_eq, hci]
      have d2 := zh hci
      clear hci
      have x14 := cC HS2 0 3
      have x15 := HE.out _ HS2.out.below 0 _ rfl
      rw [Nat.add_zero] at x15
      go_wp2_with fail
      refine cL (HD.out _ HS2.out.below) HS2 fun w3 HS3 => ?_
      clear HS2 x14 x15
      go_wp2
      go_ret
      refine ⟨true, rfl, ⟨fun _ => HL2.out.found LY.out HY.out (by rw [LK.out, d2.out]) LI.out rfl, fun _ => rfl⟩, HS3.out.below⟩
     cases hsn : sn2 c
     ·have d1 : (((c : Nat) : Int) == ((i : Nat) : Int)) = false := by rw [beq_eq_false_iff_ne]; omega
      have d2 := zh hci
      clear hci
      skip
      have x14 := cC HS2 0 3
      have x15 := HE.out _ HS2.out.below 0 _ rfl
      rw [Nat.add_zero] at x15
      go_wp2_with fail
      refine (HD.out _ HS2.out.below).mono ?_
      rintro e w3 ⟨rfl, hb3⟩
      have HS3 := zh (HS2.out.call hb3)
      have HQ2_3 := zh (HQ2.out.below hb3)
      clear HQ2 hb3 HS2 x14 x15
      have x16 := HS3.out.cellE 1 rfl hc9
      rw [hsn] at x16
      have x17 := HS3.out.frozen 1 rfl c
      have x18 := cN HS3 1 0
      have x19 := cN HS3 0 1
      have x20 := HS3.out.lt 1 rfl
      have x21 : ¬ w.heap.size = w3.heap.size := by omega
      have x22 : ¬ w3.heap.size = w.heap.size := by omega
      have HS4 : Hid (St w [⟨w3.heap.size, #[.int .i64 (c : Nat)], 3⟩, ⟨W1.heap.size, #[.int .i64 y.kind, .string (bs y.name), .string (bs y.other), .slice (some ⟨b5, o5, none⟩) y.list.length c5, .bool y.am.n, .string (bs y.am.a), .string (bs y.am.b), .int .i64 y.at_], 61⟩, ⟨w.heap.size, (rowE (.bool) l.length (putA sn2 c true)), 4⟩] _) := zh (St.alloc ((St.setE (HS3.out) 1 rfl c (true))) #[.int .i64 (c : Nat)] 3 (w3.heap.size) (by simp))
      have HQ5 : Hid (Que intE 1 w.heap.size gr ((w3.setCell ⟨w.heap.size, c, none⟩ (.bool true)).alloc (.cells #[.int .i64 (c : Nat)] 3)) _ todo) := zh ((Que.far HQ2_3.out (a := ⟨w.heap.size, c, none⟩) HN2.out (.bool (true))).below (Ext.alloc (Below.refl _ _) _))
      go_wp2_with (refine a5u _ rfl _ _ _ rfl w.heap.size 3 ii _ 1 8 Tryz.underlying26 hii HIZ.out hi1 hi8 rfl a1e (by simp [Act.eval]) HQ5.out _ [c] (by simp [Act.eval]) (Src.of_slc Tryz.underlying26 a1e (Slc.of_blk (n := 1) (c := 1) a1e (xs := [c]) (HS4.out.blk 0 rfl) rfl rfl (Nat.le_refl _) (by decide)) (Below.refl _ _) (b8w _)) (by have := HM2.out; have := LM.out; have := LL.out; unfold maxLen; simp only [List.length_singleton]; omega) (by have := HM2.out; have := LM.out; have := LL.out; simp only [List.length_singleton]; omega) HS4.out.below.size ?_)
      intro v8 w8 g8 hq8 hgr8 hg8
      have hge8 := HQ5.out.lt.1
      have hlt8 := HS4.out.below.size
      have HQ8 := zh hq8
      have hw8 : (((w3.setCell ⟨w.heap.size, c, none⟩ (.bool true)).alloc (.cells #[.int .i64 (c : Nat)] 3))).heap.size = w3.heap.size + 1 := by rw [size_alloc, a6f]
      have h8a := HS4.out.lt 1 rfl
      have h8b := HS4.out.lt 2 rfl
      have HN8 := zh (show g8 ≠ w.heap.size from fun e => by rcases hg8 with h9 | h9; exact HN2.out (h9.symm.trans e); omega)
      have HN9 := zh (show g8 ≠ W1.heap.size from fun e => by rcases hg8 with h9 | h9; exact HN3.out (h9.symm.trans e); omega)
      have HS8 := zh ((HS4.out.sub (List.sublist_cons_self ..)).turnedR hgr8 hge8 (by intro z hz; rcases List.mem_cons.1 hz with rfl | hz; exact HN3.out; rcases List.mem_cons.1 hz with rfl | hz; exact HN2.out; cases hz))
      have HC8 := zh (b8q hc9 hsn)
      clear hq8 hgr8 hg8 hge8 hlt8 hw8 h8a h8b HQ5 HS4 HS3 HQ2_3 hsn x16 x17 x18 x19 x20 x21 x22
      go_wp2
      go_roundg (y.list.length - (k + 1))
      case measure => omega
      case rel => exact ⟨k + 1, todo ++ [c], g8, putA sn2 c true, by go_num, by omega, Nat.le_refl _, (by rw [a5x]; exact HL2.out.push LY.out HY.out LK.out d2.out), (by have := HC8.out; have := HM2.out; show _ <= _; rw [List.length_append, List.length_singleton]; omega), HQ8.out, HN8.out, HN9.out, HS8.out⟩
     have d1 : (((c : Nat) : Int) == ((i : Nat) : Int)) = false := by rw [beq_eq_false_iff_ne]; omega
     have d2 := zh hci
     clear hci
     skip
     have x14 := cC HS2 0 3
     have x15 := HE.out _ HS2.out.below 0 _ rfl
     rw [Nat.add_zero] at x15
     go_wp2_with fail
     refine (HD.out _ HS2.out.below).mono ?_
     rintro e w3 ⟨rfl, hb3⟩
     have HS3 := zh (HS2.out.call hb3)
     have HQ2_3 := zh (HQ2.out.below hb3)
     clear HQ2 hb3 HS2 x14 x15
     have x16 := HS3.out.cellE 1 rfl hc9
     rw [hsn] at x16
     go_wp2
     go_roundg (y.list.length - (k + 1))
     case measure => omega
     case rel => exact ⟨k + 1, todo, gr, sn2, by go_num, by omega, Nat.le_refl _, HL2.out.skip LY.out HY.out ⟨(by rw [LK.out]; exact fun h => d2.out (Option.some.inj h)), (fun c' hc' => by rw [LK.out] at hc'; rw [<- Option.some.inj hc']; exact hsn)⟩, HM2.out, HQ2_3.out, HN2.out, HN3.out, HS3.out⟩
   obtain rfl : k = y.list.length := by omega
   have e4 : decide (((y.list.length : Nat) : Int) < (y.list.length : Int)) = false := decide_eq_false (by omega)
   have x14 := cC HS2 0 3
   go_wp2
   go_roundg (G1 - 1)
   case measure => have := HM2.out; omega
   case rel => exact ⟨todo, gr, sn2, HL2.out.done LY.out, (by have := HM2.out; show _ <= _; omega), (by have := LM.out; omega), HQ2.out, HN2.out, HS2.out.sub (List.sublist_cons_self ..)⟩
def sumN (wt : Nat -> Nat) (sn : Nat -> Bool) : Nat -> Nat
 | 0 => 0
 | n + 1 => sumN wt sn n + if sn n = true then 0 else wt n
theorem c3t {wt : Nat -> Nat} {sn : Nat -> Bool} {c : Nat} : ∀ {n : Nat}, n <= c -> sumN wt (putA sn c true) n = sumN wt sn n
 | 0, _ => rfl
 | n + 1, h => by rw [sumN, sumN, c3t (by omega), a4r (show n ≠ c by omega)]
theorem b2k {wt : Nat -> Nat} {sn : Nat -> Bool} {c : Nat} (h : sn c = false) : ∀ {n : Nat}, c < n -> sumN wt (putA sn c true) n + wt c = sumN wt sn n
 | 0, hc => by omega
 | n + 1, hc => by
  rw [sumN, sumN]
  by_cases hcn : c < n
  ·have := b2k (wt := wt) h hcn
   rw [a4r (show n ≠ c by omega)]
   omega
  obtain rfl : c = n := by omega
  rw [c3t (Nat.le_refl _), b4e, h, if_pos rfl, if_neg (by simp)]
  omega
theorem c7w {wt : Nat -> Nat} {sn : Nat -> Bool} {m : Nat} (h : ∀ j, wt j <= m) : ∀ n, sumN wt sn n <= n * m
 | 0 => Nat.zero_le _
 | n + 1 => by
  have := c7w (sn := sn) h n
  have h2 := h n
  rw [sumN, Nat.add_mul]
  split <;> omega
def clW (l : List Cls) (j : Nat) : Nat := match l[j]? with
 | some c => if c.kind = 1 then c.list.length else 0
 | none => 0
theorem clW_le {l : List Cls} {m : Nat} (h : ∀ c ∈ l, c.kind = 1 -> c.list.length <= m) (j : Nat) : clW l j <= m := by
 unfold clW
 split
 ·rename_i c hc
  split
  ·rename_i hk
   exact h c (List.mem_of_getElem? hc) hk
  omega
 omega
theorem d0r {l : List Cls} {m : List UInt8} {j : Nat} {y : Cls} (h : a0h l m = some j) (hy : l[j]? = some y) : clW l j = y.list.length := by
 obtain ⟨c, hc, hk, _⟩ := a2k h
 rw [hy] at hc
 obtain rfl : y = c := Option.some.inj hc
 unfold clW
 rw [hy]
 dsimp only
 rw [if_pos hk]
theorem c3y (l : List (List UInt8)) : ∀ y ∈ l, ∀ u ∈ strE y, u.oneCell' = true := by
 intro y _ u hu
 obtain rfl : u = .string (bs y) := by simpa [strE] using hu
 rfl
theorem c0c (v v2 : Value) (cl : List Nmd) (l : List Cls) (s : List UInt8) (w : World) (h : NmdL w v cl) (h2 : ClsL w v2 l) (hC : a7y cl l) (hl : cl.length <= 1000) (hl2 : l.length <= 1000) (hbig : ∀ c ∈ l, c.kind = 1 -> c.list.length <= 1000) :
  Calls Tryz.prog 38 #[v, v2, .string (bs s)] w fun e w' => ∃ g D, e = .returned (.slice (some ⟨g, 0, none⟩) cl.length cl.length) /\ Blk w' g (rowE .bool cl.length D) 4 /\ (∀ k, D k = true ↔ Den cl l s k) /\ w.heap.size <= g /\ Below w.heap.size w w' := by
 have d1 := fun s W (hb : Below w.heap.size w W) => a5e v cl s W (h.below hb) (by omega)
 have d2 := fun s W (hb : Below w.heap.size w W) => a5d v2 l s W (h2.below hb) (by omega)
 have hmk := a4t cl.length (by omega)
 have hmk2 := a4t l.length (by omega)
 obtain ⟨ii, hii, hiz, hi1, hi8⟩ := b7s
 obtain ⟨A1, c1, rfl, _, _⟩ := Slc.slice h
 obtain ⟨A2, c2, rfl, _, _⟩ := h2.slice
 have HH := zh h2
 have D1 := zh d1
 have D2 := zh d2
 have CC := zh hC
 have LL := zh hl2
 have LB := zh (fun j => clW_le hbig j)
 have HIZ := zh hiz
 clear h h2 d1 d2 hC hl hl2 hbig hiz
 go_enter Tryz.func38, Tryz.ntmps38
 have HS := zh (St.start w)
 go_wp2
 have HS2 := aL (aL (aL HS (rowE (.bool) cl.length (fun _ => false)) 4 w.heap.size) (rowE (.bool) l.length (fun _ => false)) 4 (w.heap.size + 1)) #[.string (bs s)] 9 (w.heap.size + 1 + 1)
 have HQ0 : Hid (Que strE 1 w.heap.size (w.heap.size + 2) _ _ [s]) := zh (Que.of_blk (n := 1) (c := 1) a2c (HS2.out.blk 0 rfl) (by omega) rfl rfl rfl (by decide))
 have HS9 := zh (HS2.out.sub (List.sublist_cons_self ..))
 go_loopg [9] (l.length * 1000 + 1) (fun gk v9 wr => ∃ (todo : List (List UInt8)) (gq : Nat) (sn O : Nat -> Bool), Hid (DenQ cl l s O sn todo) /\ todo.length + sumN (clW l) sn l.length <= gk /\ gk <= l.length * 1000 + 1 /\ Hid (Que strE 1 w.heap.size gq wr v9 todo) /\ Hid (gq ≠ w.heap.size) /\ Hid (gq ≠ w.heap.size + 1) /\ Hid (St w [⟨w.heap.size + 1, rowE .bool l.length sn, 4⟩, ⟨w.heap.size, rowE .bool cl.length O, 4⟩] wr))
 case atStart => exact ⟨[s], w.heap.size + 2, fun _ => false, fun _ => false, DenQ.start cl l s, by have := c7w (sn := fun _ => false) LB.out l.length; simp only [List.length_singleton]; omega, Nat.le_refl _, HQ0.out, (show w.heap.size + 2 ≠ w.heap.size by omega), (show w.heap.size + 2 ≠ w.heap.size + 1 by omega), HS9.out⟩
 case round =>
  obtain ⟨todo, gq, sn, O, HL, hm, hgk, HQ, HN, HN2, HS⟩ := hrel
  clear HQ0 HS2 HS9
  cases todo with
 | nil =>
  obtain ⟨p, cap, rfl, _, _⟩ := HQ.out.len
  dsimp only [List.length_nil]
  clear HQ
  go_wp2
  go_ret
  exact ⟨_, O, rfl, HS.out.blk 1 rfl, HL.out.all CC.out, Nat.le_refl _, HS.out.below⟩
 | cons m t =>
  obtain ⟨p, cap, rfl, hpc, hcm, hp, _⟩ := HQ.out.pop a2c
  have hgq := HQ.out.lt.2
  have HP := zh (fun (w' : World) (hb : Below wr.heap.size wr w') (q : Nat) (z : Value) hz => (hb.cell (p := ⟨gq, p + q, none⟩) hgq).trans (hp q z hz))
  unfold strE at HP
  have HM := zh hm
  have e2 : decide ((0 : Int) < ((t.length + 1 : Nat) : Int)) = true := decide_eq_true (by omega)
  have e3 : (0 : Int) < ((t.length + 1 : Nat) : Int) := by omega
  have LM := zh hgk
  have hd1 := D1.out m
  have hd2 := D2.out m
  clear hp hm hgk
  cases hk : a0d cl m with
  | some k =>
   rw [hk] at hd1
   dsimp only [optZ] at hd1
   have E1 := zh hd1
   have LK := zh hk
   have hk9 := a6v hk
   have e7 : (0 : Int) <= ((k : Nat) : Int) := by omega
   have e8 : ((k : Nat) : Int) < (cl.length : Int) := by omega
   clear hk hd1 hd2
   have x1 := HP.out _ (Below.refl _ _) 0 _ rfl
   rw [Nat.add_zero] at x1
   go_wp2_with (refine a4q _ rfl _ _ _ rfl w.heap.size 9 ii 1 Tryz.underlying59 hii hi1 a2c (by simp [Act.eval]) (by simp [Act.eval]) HQ.out ?_)
   intro v7 hq7
   have HQ7 := zh hq7
   clear hq7 HQ HP x1
   go_wp2_with fail
   refine (E1.out _ HS.out.below).mono ?_
   rintro e w3 ⟨rfl, hb3⟩
   have HS3 := zh (HS.out.call hb3)
   have HQ7_3 := zh (HQ7.out.below hb3)
   clear HQ7 hb3 HS
   have x2 := HS3.out.cellE 1 rfl hk9
   have x3 := HS3.out.frozen 1 rfl k
   have x4 := cN HS3 1 0
   have x5 := cN HS3 0 1
   go_wp2
   have HS4 : Hid (St w [⟨w.heap.size + 1, (rowE (.bool) l.length sn), 4⟩, ⟨w.heap.size, (rowE (.bool) cl.length (putA O k true)), 4⟩] _) := zh (St.setE (HS3.out) 1 rfl k (true))
   go_roundg (gk - 1)
   case measure => have := HM.out; rw [List.length_cons] at this; omega
   case rel => exact ⟨t, gq, sn, putA O k true, (by rw [a5x]; exact HL.out.claim LK.out), (by have := HM.out; rw [List.length_cons] at this; omega), (by have := LM.out; omega), (Que.far HQ7_3.out (a := ⟨w.heap.size, k, none⟩) HN.out (.bool (true))), HN.out, HN2.out, HS4.out⟩
  | none =>
   rw [hk] at hd1
   dsimp only [optZ] at hd1
   have E1 := zh hd1
   have LK := zh hk
   clear hk hd1
   cases hc : a0h l m with
   | none =>
    rw [hc] at hd2
    dsimp only [optZ] at hd2
    have E2 := zh hd2
    have LC := zh hc
    clear hc hd2
    have x1 := HP.out _ (Below.refl _ _) 0 _ rfl
    rw [Nat.add_zero] at x1
    go_wp2_with (refine a4q _ rfl _ _ _ rfl w.heap.size 9 ii 1 Tryz.underlying59 hii hi1 a2c (by simp [Act.eval]) (by simp [Act.eval]) HQ.out ?_)
    intro v7 hq7
    have HQ7 := zh hq7
    clear hq7 HQ HP x1
    go_wp2_with fail
    refine (E1.out _ HS.out.below).mono ?_
    rintro e w3 ⟨rfl, hb3⟩
    have HS3 := zh (HS.out.call hb3)
    have HQ7_3 := zh (HQ7.out.below hb3)
    clear HQ7 hb3 HS
    go_wp2_with fail
    refine (E2.out _ HS3.out.below).mono ?_
    rintro e w4 ⟨rfl, hb4⟩
    have HS4 := zh (HS3.out.call hb4)
    have HQ7_4 := zh (HQ7_3.out.below hb4)
    clear HQ7_3 hb4 HS3
    go_wp2
    go_roundg (gk - 1)
    case measure => have := HM.out; rw [List.length_cons] at this; omega
    case rel => exact ⟨t, gq, sn, O, HL.out.skip LK.out (fun c' hc' => by rw [LC.out] at hc'; cases hc'), (by have := HM.out; rw [List.length_cons] at this; omega), (by have := LM.out; omega), HQ7_4.out, HN.out, HN2.out, HS4.out⟩
   | some k =>
    rw [hc] at hd2
    dsimp only [optZ] at hd2
    have E2 := zh hd2
    have LC := zh hc
    have hc9 := b0b hc
    have e7 : (0 : Int) <= ((k : Nat) : Int) := by omega
    have e8 : ((k : Nat) : Int) < (l.length : Int) := by omega
    clear hc hd2
    cases hsn : sn k
    ·obtain ⟨b, o, y, u, rfl, hbb, hq, hu, hx⟩ := HH.out.at_ hc9
     obtain ⟨A5, c5, rfl, hl5, hl6⟩ := hu.slice
     unfold CRow.enc at hx
     dsimp only at hx
     have HX := zh hx
     have LY := zh hq
     have HU := zh hu
     clear hq hu hx
     have x1 := HP.out _ (Below.refl _ _) 0 _ rfl
     rw [Nat.add_zero] at x1
     go_wp2_with (refine a4q _ rfl _ _ _ rfl w.heap.size 9 ii 1 Tryz.underlying59 hii hi1 a2c (by simp [Act.eval]) (by simp [Act.eval]) HQ.out ?_)
     intro v7 hq7
     have HQ7 := zh hq7
     clear hq7 HQ HP x1
     go_wp2_with fail
     refine (E1.out _ HS.out.below).mono ?_
     rintro e w3 ⟨rfl, hb3⟩
     have HS3 := zh (HS.out.call hb3)
     have HQ7_3 := zh (HQ7.out.below hb3)
     clear HQ7 hb3 HS
     go_wp2_with fail
     refine (E2.out _ HS3.out.below).mono ?_
     rintro e w4 ⟨rfl, hb4⟩
     have HS4 := zh (HS3.out.call hb4)
     have HQ7_4 := zh (HQ7_3.out.below hb4)
     clear HQ7_3 hb4 HS3
     have x2 := HS4.out.cellE 0 rfl hc9
     rw [hsn] at x2
     have x3 := HS4.out.frozen 0 rfl k
     have x4 := cN HS4 0 1
     have x5 := cN HS4 1 0
     have x6 := HX.out _ HS4.out.below 3 _ rfl
     have HS5 : Hid (St w [⟨w.heap.size + 1, (rowE (.bool) l.length (putA sn k true)), 4⟩, ⟨w.heap.size, (rowE (.bool) cl.length O), 4⟩] _) := zh (St.setE (HS4.out) 0 rfl k (true))
     have HQ5 : Hid (Que strE 1 w.heap.size gq (w4.setCell ⟨w.heap.size + 1, k, none⟩ (.bool true)) _ t) := zh (Que.far HQ7_4.out (a := ⟨w.heap.size + 1, k, none⟩) HN2.out (.bool (true)))
     go_wp2_with (refine a5u _ rfl _ _ _ rfl w.heap.size 9 ii _ 1 16 Tryz.underlying59 hii HIZ.out hi1 hi8 rfl a2c (by simp [Act.eval]) HQ5.out _ y.list (by simp [Act.eval]) (Src.of_slc Tryz.underlying59 a2c HU.out HS5.out.below (c3y _)) (by have h1 := HM.out; have h2 := LM.out; have h3 := LL.out; have h4 := d0r LC.out LY.out; have h5 := b2k (wt := clW l) hsn hc9; rw [List.length_cons] at h1; unfold maxLen; omega) (by have h1 := HM.out; have h2 := LM.out; have h3 := LL.out; have h4 := d0r LC.out LY.out; have h5 := b2k (wt := clW l) hsn hc9; rw [List.length_cons] at h1; omega) HS5.out.below.size ?_)
     intro v8 w8 g8 hq8 hgr8 hg8
     have hge8 := HQ5.out.lt.1
     have HQ8 := zh hq8
     have hw8 : ((w4.setCell ⟨w.heap.size + 1, k, none⟩ (.bool true))).heap.size = w4.heap.size := by rw [a6f]
     have h8a := HS5.out.lt 0 rfl
     have h8b := HS5.out.lt 1 rfl
     have HN8 := zh (show g8 ≠ w.heap.size from fun e => by rcases hg8 with h9 | h9; exact HN.out (h9.symm.trans e); omega)
     have HN9 := zh (show g8 ≠ w.heap.size + 1 from fun e => by rcases hg8 with h9 | h9; exact HN2.out (h9.symm.trans e); omega)
     have HS8 := zh (HS5.out.turnedR hgr8 hge8 (by intro z hz; rcases List.mem_cons.1 hz with rfl | hz; exact HN2.out; rcases List.mem_cons.1 hz with rfl | hz; exact HN.out; cases hz))
     have HC8 := zh (show t.length + y.list.length + sumN (clW l) (putA sn k true) l.length <= gk - 1 by have h1 := HM.out; have h2 := LM.out; have h3 := LL.out; have h4 := d0r LC.out LY.out; have h5 := b2k (wt := clW l) hsn hc9; rw [List.length_cons] at h1; omega)
     clear hq8 hgr8 hg8 hge8 hw8 h8a h8b HQ5 HS5 HS4 HQ7_4 hsn x2 x3 x4 x5 x6
     go_wp2
     go_roundg (gk - 1)
     case measure => have := HM.out; rw [List.length_cons] at this; omega
     case rel => exact ⟨t ++ y.list, g8, putA sn k true, O, (by rw [a5x]; exact HL.out.open_ LK.out LC.out LY.out), (by have := HC8.out; rw [List.length_append]; exact this), (by have := LM.out; omega), HQ8.out, HN8.out, HN9.out, HS8.out⟩
    have x1 := HP.out _ (Below.refl _ _) 0 _ rfl
    rw [Nat.add_zero] at x1
    go_wp2_with (refine a4q _ rfl _ _ _ rfl w.heap.size 9 ii 1 Tryz.underlying59 hii hi1 a2c (by simp [Act.eval]) (by simp [Act.eval]) HQ.out ?_)
    intro v7 hq7
    have HQ7 := zh hq7
    clear hq7 HQ HP x1
    go_wp2_with fail
    refine (E1.out _ HS.out.below).mono ?_
    rintro e w3 ⟨rfl, hb3⟩
    have HS3 := zh (HS.out.call hb3)
    have HQ7_3 := zh (HQ7.out.below hb3)
    clear HQ7 hb3 HS
    go_wp2_with fail
    refine (E2.out _ HS3.out.below).mono ?_
    rintro e w4 ⟨rfl, hb4⟩
    have HS4 := zh (HS3.out.call hb4)
    have HQ7_4 := zh (HQ7_3.out.below hb4)
    clear HQ7_3 hb4 HS3
    have x2 := HS4.out.cellE 0 rfl hc9
    rw [hsn] at x2
    go_wp2
    go_roundg (gk - 1)
    case measure => have := HM.out; rw [List.length_cons] at this; omega
    case rel => exact ⟨t, gq, sn, O, HL.out.skip LK.out (fun c' hc' => by rw [LC.out] at hc'; rw [<- Option.some.inj hc']; exact hsn), (by have := HM.out; rw [List.length_cons] at this; omega), (by have := LM.out; omega), HQ7_4.out, HN.out, HN2.out, HS4.out⟩
end Go.Proofs.YtgdhpghfojccaaaGreatDoor
