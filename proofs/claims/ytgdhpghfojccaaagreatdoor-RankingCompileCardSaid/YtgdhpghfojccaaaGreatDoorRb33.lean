/-
Part 33 of the base.
-/
import Derived.Test.YtgdhpghfojccaaaGreatDoorRb32
set_option maxRecDepth 100000
set_option maxHeartbeats 4000000
namespace Go.Proofs.YtgdhpghfojccaaaGreatDoor
open Go.RowKit
theorem c5e {cl : List Nmd} {l : List Cls} {i : Nat} {x : Cls} (k : x.kind = 4) (h : Stat cl l x.name) : Err4 cl l i x 18 :=
 ⟨fun _ => ⟨fun _ => rfl, fun hn => absurd h hn⟩, fun h2 => by omega, fun h3 => by omega, fun _ _ h4 => absurd k h4⟩
theorem c5f {cl : List Nmd} {l : List Cls} {i : Nat} {x : Cls} (k : x.kind = 4) (h : ¬ Stat cl l x.name) : Err4 cl l i x 0 :=
 ⟨fun _ => ⟨fun hn => absurd hn h, fun _ => rfl⟩, fun h2 => by omega, fun h3 => by omega, fun _ _ h4 => absurd k h4⟩
theorem c5h {cl : List Nmd} {l : List Cls} {i : Nat} {x : Cls} (k : x.kind = 2) (h : Stat cl l x.other) : Err4 cl l i x 18 :=
 ⟨fun h4 => by omega, fun _ => ⟨fun _ => rfl, fun hn => absurd h hn, fun hn => absurd h hn⟩, fun h3 => by omega, fun h2 => absurd k h2⟩
theorem c5g {cl : List Nmd} {l : List Cls} {i : Nat} {x : Cls} (k : x.kind = 2) (h : ¬ Stat cl l x.other) (hc : Circ cl l (i + 1)) : Err4 cl l i x 17 :=
 ⟨fun h4 => by omega, fun _ => ⟨fun hn => absurd hn h, fun _ _ => rfl, fun _ hn => absurd hc hn⟩, fun h3 => by omega, fun h2 => absurd k h2⟩
theorem c5j {cl : List Nmd} {l : List Cls} {i : Nat} {x : Cls} (k : x.kind = 2) (h : ¬ Stat cl l x.other) (hc : ¬ Circ cl l (i + 1)) : Err4 cl l i x 0 :=
 ⟨fun h4 => by omega, fun _ => ⟨fun hn => absurd hn h, fun _ hn => absurd hn hc, fun _ _ => rfl⟩, fun h3 => by omega, fun h2 => absurd k h2⟩
theorem b1k {cl : List Nmd} {l : List Cls} {i : Nat} {x : Cls} {e : Int} (k : x.kind = 3) (h : e = if sgn x.am.val.num < 0 then 7 else if limB l i x.name = true then 12 else 0) : Err4 cl l i x e :=
 ⟨fun h4 => by omega, fun h2 => by omega, fun _ => h, fun _ h3 => absurd k h3⟩
theorem er4_no {cl : List Nmd} {l : List Cls} {i : Nat} {x : Cls} (h2 : x.kind ≠ 2) (h3 : x.kind ≠ 3) (h4 : x.kind ≠ 4) : Err4 cl l i x 0 :=
 ⟨fun h => absurd h h4, fun h => absurd h h2, fun h => absurd h h3, fun _ _ _ => rfl⟩
def FourR (cl : List Nmd) (l : List Cls) (i : Nat) (x : Cls) (w : World) (e : Ending) (w' : World) : Prop := ∃ er : Int, e = .returned (.int .i64 er) /\ Err4 cl l i x er /\ Below w.heap.size w w'
theorem c8m (v : Value) (n : Nat) (M : Nat -> Nat -> Bool) (r : Nat -> Nat -> Prop) (w : World) (h : MatB w v n M) (hM : ∀ a b, a < n -> b < n -> (M a b = true ↔ r a b)) (hb : ∀ i j, r i j -> i < n /\ j < n) (hn : n <= 1000) :
  Calls Tryz.prog 73 #[v] w fun e w' => ∃ (vv : Value) (ok : Bool), e = .returned (.tuple #[vv, .bool ok]) /\ (ok = true ↔ ¬ ∃ x, Way r x x) /\ Below w.heap.size w w' := by
 refine (b1s v n M r w h hM hb hn).mono ?_
 rintro e w' ⟨⟨g, f, rfl, _, hl, _⟩ | ⟨rfl, hc⟩, hw⟩
 ·exact ⟨_, true, rfl, ⟨fun _ ⟨x, hx⟩ => b3p hl.1 x hx, fun _ => rfl⟩, hw⟩
 exact ⟨_, false, rfl, ⟨fun h => (by cases h), fun h => absurd hc h⟩, hw⟩
theorem c2m (v v2 : Value) (cl : List Nmd) (l : List Cls) (i : Nat) (x : Cls) (w : World) (h : NmdL w v cl) (h2 : ClsL w v2 l) (hi : l[i]? = some x) (hl : cl.length <= 1000) (hl2 : l.length <= 1000) (h1 : Ok1 cl l) (hbig : ∀ c ∈ l, c.kind = 1 -> c.list.length <= 1000) (hfit : x.am.a.length <= 17179869184 /\ x.am.b.length <= 17179869184) :
  Calls Tryz.prog 71 #[v, v2, .int .i64 (i : Nat)] w (FourR cl l i x w) := by
 have hil := (List.getElem?_eq_some_iff.1 hi).1
 have d4 := fun s W (hb : Below w.heap.size w W) => c0b v v2 cl l s W (h.below hb) (h2.below hb) (a1p h1) hl hl2 hbig
 have hsub : List.Sublist (upK l i l.length) l := (b3d _).trans (List.take_sublist ..)
 have dU := fun W (hb : Below w.heap.size w W) => c8j v2 l i W (h2.below hb) (by omega)
 have dR := fun vu W (hb : Below w.heap.size w W) (hu : ClsL W vu (upK l i l.length)) => a6j v vu cl (upK l i l.length) W (h.below hb) hu (a1p (upK_ok h1)) hl (Nat.le_trans hsub.length_le hl2) (fun c hc => hbig c (hsub.subset hc))
 rw [upK_rel h1] at dR
 have dL := fun vm M W (hm : MatB W vm cl.length M) (hM : ∀ a b, a < cl.length -> b < cl.length -> (M a b = true ↔ Rel cl l (i + 1) a b)) => c8m vm cl.length M (Rel cl l (i + 1)) W hm hM (fun _ _ h => h.lt) hl
 have dS := fun W => c4e x.am.n x.am.a x.am.b W (by omega) (by omega)
 change ∀ W, Calls Tryz.prog _ _ W (fun e w' => e = .returned (.int .i64 (sgn x.am.val.num)) /\ _) at dS
 unfold raw at dS
 obtain ⟨A2, c2, rfl, _, _⟩ := h2.slice
 have HH := zh h2
 obtain ⟨b, o, x', u, rfl, hbb, hq, hu, hx⟩ := h2.at_ hil
 obtain rfl : x = x' := by rw [hi] at hq; exact Option.some.inj hq
 obtain ⟨A5, c5, rfl, _, _⟩ := hu.slice
 obtain ⟨k, hk⟩ : ∃ k, k = x.kind := ⟨_, rfl⟩
 unfold CRow.enc at hx
 dsimp only at hx
 rw [<- hk] at hx
 have e0 : (0 : Int) <= ((i : Nat) : Int) := by omega
 have e1 : ((i : Nat) : Int) < (l.length : Int) := by omega
 have HX := zh hx
 have HK : Hid (x.kind = k) := hk.symm
 have D4 := zh d4
 have DU := zh dU
 have DR := zh dR
 have DL := zh dL
 have DS := zh dS
 have LN := zh hl2
 have HIL := zh hil
 clear h h2 hi h1 hl hl2 hbig hfit hil d4 hsub dU dR dL dS hq hu hx hk
 by_cases k4 : k = 4
 have HK4 := zh (show x.kind = 4 by rw [HK.out]; exact k4)
 subst k4
 rotate_left
 by_cases k2 : k = 2
 have HK2 := zh (show x.kind = 2 by rw [HK.out]; exact k2)
 clear k4
 subst k2
 rotate_left
 by_cases k3 : k = 3
 have HK3 := zh (show x.kind = 3 by rw [HK.out]; exact k3)
 obtain ⟨sg, hsg⟩ : ∃ z, z = sgn x.am.val.num := ⟨_, rfl⟩
 have ds := DS.out
 rw [<- hsg] at ds
 have DS2 := zh ds
 have HSG := zh hsg
 clear k4 k2 hsg ds DS D4 DU DR DL
 subst k3
 by_cases hs : sg < 0
 have d1 : decide (sg < 0) = true := decide_eq_true hs
 have HS0 := zh hs
 clear hs
 rotate_left
 have d1 : decide (sg < 0) = false := decide_eq_false hs
 have HS0 := zh (show sg < 0 -> False from hs)
 clear hs
 rotate_left
 have d1 : (k == 4) = false := beq_eq_false_iff_ne.2 k4
 have d2 : (k == 2) = false := beq_eq_false_iff_ne.2 k2
 have d3 : (k == 3) = false := beq_eq_false_iff_ne.2 k3
 have HK4 := zh (show x.kind = 4 -> False from fun h => k4 (HK.out.symm.trans h))
 have HK2 := zh (show x.kind = 2 -> False from fun h => k2 (HK.out.symm.trans h))
 have HK3 := zh (show x.kind = 3 -> False from fun h => k3 (HK.out.symm.trans h))
 clear k4 k2 k3
 rotate_left
 all_goals
   go_enter Tryz.func71, Tryz.ntmps71
   have HS := zh (St.start w)
   have x1 : b < w.heap.size := Nat.lt_of_lt_of_le hbb HS.out.below.size
   have x2 : ¬ b = w.heap.size := by omega
   obtain ⟨x3, x4, x5⟩ := kE0 (HX.out _ HS.out.below) rfl rfl rfl
   have x6 := HX.out _ HS.out.below 3 _ rfl
   obtain ⟨x7, x8, x9⟩ := kE4 (HX.out _ HS.out.below) rfl rfl rfl
   have x10 := HX.out _ HS.out.below 7 _ rfl
 ·go_wp2_with fail
  have HS2 := aL HS #[.int .i64 4, .string (bs x.name), .string (bs x.other), .slice A5 x.list.length c5, .bool x.am.n, .string (bs x.am.a), .string (bs x.am.b), .int .i64 x.at_] 61 w.heap.size
  refine (D4.out x.name _ HS2.out.below).mono ?_
  rintro e w3 ⟨r3, rfl, hr3, hb3⟩
  have HS3 := zh (HS2.out.call hb3)
  have HR3 := zh hr3
  clear hr3 hb3 HS HS2 x1 x2 x3 x4 x5 x6 x7 x8 x9 x10
  go_upto_if 23 with fail
  cases r3
  ·go_wp2
   go_ret
   exact ⟨0, rfl, c5f HK4.out (fun h => by have := HR3.out.2 h; cases this), HS3.out.below⟩
  go_wp2
  go_ret
  exact ⟨18, rfl, c5e HK4.out (by first | exact HR3.out.1 rfl | exact HR3.out.1 trivial | simpa using HR3.out), HS3.out.below⟩
 ·go_wp2_with fail
  have HS2 := aL HS #[.int .i64 2, .string (bs x.name), .string (bs x.other), .slice A5 x.list.length c5, .bool x.am.n, .string (bs x.am.a), .string (bs x.am.b), .int .i64 x.at_] 61 w.heap.size
  refine (D4.out x.other _ HS2.out.below).mono ?_
  rintro e w3 ⟨r3, rfl, hr3, hb3⟩
  have HS3 := zh (HS2.out.call hb3)
  have HR3 := zh hr3
  clear hr3 hb3 HS HS2 x1 x2 x3 x4 x5 x6 x7 x8 x9 x10
  go_upto_if 30 with fail
  cases r3
  ·have HNS := zh (show ¬ Stat cl l x.other from fun h => by have := HR3.out.2 h; cases this)
   clear HR3
   go_wp2_with fail
   refine (DU.out _ HS3.out.below).mono ?_
   rintro e w4 ⟨v4, rfl, hu4, hb4⟩
   have HS4 := zh (HS3.out.call hb4)
   have HU4 := zh hu4
   clear hu4 hb4 HS3
   go_wp2_with fail
   refine (DR.out _ _ HS4.out.below HU4.out).mono ?_
   rintro e w5 ⟨v5, M5, rfl, hm5, hM5, hb5⟩
   have HS5 := zh (HS4.out.call hb5)
   have HM5 := zh hm5
   have HMR5 := zh hM5
   clear hm5 hM5 hb5 HS4
   go_wp2_with fail
   refine (DL.out _ _ _ HM5.out HMR5.out).mono ?_
   rintro e w6 ⟨vv6, r6, rfl, hr6, hb6⟩
   have HS6 := zh (HS5.out.call hb6)
   have HR6 := zh hr6
   clear hr6 hb6 HS5
   go_upto_if 41 with fail
   cases r6
   ·go_wp2
    go_ret
    exact ⟨17, rfl, c5g HK2.out HNS.out (Classical.byContradiction fun h => by have := HR6.out.2 h; cases this), HS6.out.below⟩
   go_wp2
   go_ret
   exact ⟨0, rfl, c5j HK2.out HNS.out (by first | exact HR6.out.1 rfl | exact HR6.out.1 trivial | simpa using HR6.out), HS6.out.below⟩
  go_wp2
  go_ret
  exact ⟨18, rfl, c5h HK2.out (by first | exact HR3.out.1 rfl | exact HR3.out.1 trivial | simpa using HR3.out), HS3.out.below⟩
 ·go_wp2_with fail
  have HS2 := aL HS #[.int .i64 3, .string (bs x.name), .string (bs x.other), .slice A5 x.list.length c5, .bool x.am.n, .string (bs x.am.a), .string (bs x.am.b), .int .i64 x.at_] 61 w.heap.size
  refine cL (DS2.out _) HS2 fun w3 HS3 => ?_
  clear HS HS2 x1 x2 x3 x4 x5 x6 x7 x8 x9 x10
  go_wp2
  go_ret
  exact ⟨7, rfl, b1k HK3.out (by rw [<- HSG.out]; exact (if_pos HS0.out).symm), HS3.out.below⟩
 ·go_wp2_with fail
  have HS2 := aL HS #[.int .i64 3, .string (bs x.name), .string (bs x.other), .slice A5 x.list.length c5, .bool x.am.n, .string (bs x.am.a), .string (bs x.am.b), .int .i64 x.at_] 61 w.heap.size
  refine cL (DS2.out _) HS2 fun w3 HS3 => ?_
  clear HS HS2 x1 x2 x3 x4 x5 x6 x7 x8 x9 x10
  go_wp2
  go_loopw [10] (fun j_ wr => ∃ j : Nat, j <= i /\ j_ = .int .i64 j /\ Hid ((l.take j).any (fun c : Cls => decide (c.kind = 3) && c.name == x.name) = false) /\ Hid (St w [⟨w.heap.size, #[.int .i64 3, .string (bs x.name), .string (bs x.other), .slice A5 x.list.length c5, .bool x.am.n, .string (bs x.am.a), .string (bs x.am.b), .int .i64 x.at_], 61⟩] wr)) (fun j_ _ => i - (intOf j_).toNat)
  case atStart => exact ⟨0, Nat.zero_le _, rfl, rfl, HS3.out⟩
  case round =>
   clear HS3 DS2
   obtain ⟨j, hj, rfl, HN, HS⟩ := hrel
   by_cases hlt : j < i
   ·obtain ⟨b5, o5, y, u5, hA, _, hq, _, hx⟩ := HH.out.at_ (show j < l.length by have := HIL.out; omega)
    injection hA with hA
    injection hA with hA1 hA2
    subst hA1
    subst hA2
    unfold CRow.enc at hx
    dsimp only at hx
    have HY := zh hx
    have HQ := zh hq
    have e2 : (0 : Int) <= ((j : Nat) : Int) := by omega
    have e3 : ((j : Nat) : Int) < ((i : Nat) : Int) := by omega
    have e4 : decide (((j : Nat) : Int) < ((i : Nat) : Int)) = true := decide_eq_true e3
    have e5 : decide (j < i) = true := decide_eq_true hlt
    have e6 : ((j : Nat) : Int) < (l.length : Int) := by have := HIL.out; omega
    have i5 : IntKind.i64.wrap ((j : Int) + 1) = ((j + 1 : Nat) : Int) := by have := LN.out; have := HIL.out; rw [IntWalk.i64_in _ (by omega)]; rfl
    obtain ⟨q, hpq⟩ : ∃ q, q = (y.name == x.name) := ⟨_, rfl⟩
    obtain ⟨p, hp⟩ : ∃ p, p = decide (y.kind = 3) := ⟨_, rfl⟩
    have fe : ((bs y.name).toList == (bs x.name).toList) = q := by rw [a0t, a0t]; exact hpq.symm
    have fk : (y.kind == 3) = p := by rw [hp, Bool.eq_iff_iff]; simp
    have HPQ : Hid ((decide (y.kind = 3) && y.name == x.name) = (p && q)) := by rw [hp, hpq]; exact rfl
    clear hq hx hpq hp
    cases p
    ·go_wp2
     refine a0c 15 [.slice (some ⟨b, o, none⟩) l.length c2, .int .i64 (j : Nat), .pointer (some ⟨b, o + j * 8, none⟩), .pointer (some ⟨b, o + j * 8, none⟩), .int .i64 y.kind, .bool false, .bool false, undef, undef, undef, undef, undef, undef, undef, undef] rfl (by kernel_rfl) (by kernel_rfl) (by kernel_rfl) ?_ ?_
     refine ⟨?_, ?_, ?_, ?_, ?_, ?_, ?_, ?_, ?_, ?_, ?_, ?_, ?_, ?_, ?_, trivial⟩ <;> (intro xx af wv hbx hev hev0 hd; have H := SH.mk hev hev0 hd; clear hev hev0 hd)
     ·have e1 := H.i 1; clear H; go_wp2; exact sQ rfl
     ·have e10 := H.i 10; clear H; go_wp2; exact sQ rfl
     ·have e53 := H.r 0 53; have e54 := H.r 1 54; clear H; go_wp2; exact sQ rfl
     ·have e55 := H.r 2 55; clear H; go_wp2; exact sQ rfl
     ·have e56 := H.r 3 56; clear H; have hs1 := zh (HS.out.call hbx); have y0 := HY.out _ hs1.out.below 0 _ rfl; rw [Nat.add_zero] at y0; go_wp2; exact sQ rfl
     ·have e57 := H.r 4 57; clear H; go_wp2; exact sQ rfl
     ·have e58 := H.r 5 58; clear H; go_wp2; exact sQ rfl
     ·have e59 := H.g 6 59; have q59 := a0a e59; clear H; go_wp2; exact sQ rfl
     ·have e59 := H.g 6 59; have q59 := a0a e59; clear H; go_wp2; exact sQ rfl
     ·have e59 := H.g 6 59; have q59 := a0a e59; clear H; go_wp2; exact sQ rfl
     ·have e59 := H.g 6 59; have q59 := a0a e59; clear H; go_wp2; exact sQ rfl
     ·have e59 := H.g 6 59; have q59 := a0a e59; clear H; go_wp2; exact sQ rfl
     ·have e59 := H.g 6 59; have q59 := a0a e59; clear H; go_wp2; exact sQ rfl
     ·have e59 := H.g 6 59; have q59 := a0a e59; clear H; go_wp2; exact sQ rfl
     ·have e59 := H.g 6 59; have q59 := a0a e59; clear H; go_wp2; exact sQ rfl
     intro xx w4 hb9 hv
     simp only [List.take, List.drop, a0g, Act.put]
     simp only [vQ hv 0, vQ hv 1, vQ hv 2, vQ hv 3, vQ hv 4, vQ hv 5, vQ hv 6, vQ hv 7, vQ hv 8, vQ hv 9, vQ hv 10, vQ hv 11, vQ hv 12, vQ hv 13, vQ hv 14]
     clear hv
     have HS4 := zh (HS.out.call hb9)
     clear hb9 HS
     go_wp2
     go_roundw
     case rel => exact ⟨j + 1, by omega, by go_num, by show _ = _; rw [c3s HQ.out, HN.out, HPQ.out]; first | rfl | (cases q <;> rfl), HS4.out⟩
     case measure => simp [intOf]; omega
    cases q
    ·go_wp2
     refine a0c 15 [.slice (some ⟨b, o, none⟩) l.length c2, .int .i64 (j : Nat), .pointer (some ⟨b, o + j * 8, none⟩), .pointer (some ⟨b, o + j * 8, none⟩), .int .i64 y.kind, .bool true, .bool true, .slice (some ⟨b, o, none⟩) l.length c2, .int .i64 (j : Nat), .pointer (some ⟨b, o + j * 8, none⟩), .pointer (some ⟨b, o + j * 8 + 1, none⟩), .string (bs y.name), .pointer (some ⟨w.heap.size, 1, none⟩), .string (bs x.name), .bool false] rfl (by kernel_rfl) (by kernel_rfl) (by kernel_rfl) ?_ ?_
     refine ⟨?_, ?_, ?_, ?_, ?_, ?_, ?_, ?_, ?_, ?_, ?_, ?_, ?_, ?_, ?_, trivial⟩ <;> (intro xx af wv hbx hev hev0 hd; have H := SH.mk hev hev0 hd; clear hev hev0 hd)
     ·have e1 := H.i 1; clear H; go_wp2; exact sQ rfl
     ·have e10 := H.i 10; clear H; go_wp2; exact sQ rfl
     ·have e53 := H.r 0 53; have e54 := H.r 1 54; clear H; go_wp2; exact sQ rfl
     ·have e55 := H.r 2 55; clear H; go_wp2; exact sQ rfl
     ·have e56 := H.r 3 56; clear H; have hs1 := zh (HS.out.call hbx); have y0 := HY.out _ hs1.out.below 0 _ rfl; rw [Nat.add_zero] at y0; go_wp2; exact sQ rfl
     ·have e57 := H.r 4 57; clear H; go_wp2; exact sQ rfl
     ·have e58 := H.r 5 58; clear H; go_wp2; exact sQ rfl
     ·have e59 := H.g 6 59; have e1 := H.i 1; have q59 := a0a e59; clear H; go_wp2; exact sQ rfl
     ·have e59 := H.g 6 59; have e10 := H.i 10; have q59 := a0a e59; clear H; go_wp2; exact sQ rfl
     ·have e59 := H.g 6 59; have e60 := H.r 7 60; have e61 := H.r 8 61; have q59 := a0a e59; clear H; go_wp2; exact sQ rfl
     ·have e59 := H.g 6 59; have e62 := H.r 9 62; have q59 := a0a e59; clear H; go_wp2; exact sQ rfl
     ·have e59 := H.g 6 59; have e63 := H.r 10 63; have q59 := a0a e59; clear H; have hs1 := zh (HS.out.call hbx); have y0 := HY.out _ hs1.out.below 1 _ rfl; go_wp2; exact sQ rfl
     ·have e59 := H.g 6 59; have e7 := H.i 7; have q59 := a0a e59; clear H; go_wp2; exact sQ rfl
     ·have e59 := H.g 6 59; have e65 := H.r 12 65; have q59 := a0a e59; clear H; have hs1 := zh (HS.out.call hbx); have y0 := cC hs1 0 1; go_wp2; exact sQ rfl
     ·have e59 := H.g 6 59; have e64 := H.r 11 64; have e66 := H.r 13 66; have q59 := a0a e59; clear H; go_wp2; exact sQ rfl
     intro xx w4 hb9 hv
     simp only [List.take, List.drop, a0g, Act.put]
     simp only [vQ hv 0, vQ hv 1, vQ hv 2, vQ hv 3, vQ hv 4, vQ hv 5, vQ hv 6, vQ hv 7, vQ hv 8, vQ hv 9, vQ hv 10, vQ hv 11, vQ hv 12, vQ hv 13, vQ hv 14]
     clear hv
     have HS4 := zh (HS.out.call hb9)
     clear hb9 HS
     go_wp2
     go_roundw
     case rel => exact ⟨j + 1, by omega, by go_num, by show _ = _; rw [c3s HQ.out, HN.out, HPQ.out]; first | rfl | (cases q <;> rfl), HS4.out⟩
     case measure => simp [intOf]; omega
    go_wp2
    refine a0c 15 [.slice (some ⟨b, o, none⟩) l.length c2, .int .i64 (j : Nat), .pointer (some ⟨b, o + j * 8, none⟩), .pointer (some ⟨b, o + j * 8, none⟩), .int .i64 y.kind, .bool true, .bool true, .slice (some ⟨b, o, none⟩) l.length c2, .int .i64 (j : Nat), .pointer (some ⟨b, o + j * 8, none⟩), .pointer (some ⟨b, o + j * 8 + 1, none⟩), .string (bs y.name), .pointer (some ⟨w.heap.size, 1, none⟩), .string (bs x.name), .bool true] rfl (by kernel_rfl) (by kernel_rfl) (by kernel_rfl) ?_ ?_
    refine ⟨?_, ?_, ?_, ?_, ?_, ?_, ?_, ?_, ?_, ?_, ?_, ?_, ?_, ?_, ?_, trivial⟩ <;> (intro xx af wv hbx hev hev0 hd; have H := SH.mk hev hev0 hd; clear hev hev0 hd)
    ·have e1 := H.i 1; clear H; go_wp2; exact sQ rfl
    ·have e10 := H.i 10; clear H; go_wp2; exact sQ rfl
    ·have e53 := H.r 0 53; have e54 := H.r 1 54; clear H; go_wp2; exact sQ rfl
    ·have e55 := H.r 2 55; clear H; go_wp2; exact sQ rfl
    ·have e56 := H.r 3 56; clear H; have hs1 := zh (HS.out.call hbx); have y0 := HY.out _ hs1.out.below 0 _ rfl; rw [Nat.add_zero] at y0; go_wp2; exact sQ rfl
    ·have e57 := H.r 4 57; clear H; go_wp2; exact sQ rfl
    ·have e58 := H.r 5 58; clear H; go_wp2; exact sQ rfl
    ·have e59 := H.g 6 59; have e1 := H.i 1; have q59 := a0a e59; clear H; go_wp2; exact sQ rfl
    ·have e59 := H.g 6 59; have e10 := H.i 10; have q59 := a0a e59; clear H; go_wp2; exact sQ rfl
    ·have e59 := H.g 6 59; have e60 := H.r 7 60; have e61 := H.r 8 61; have q59 := a0a e59; clear H; go_wp2; exact sQ rfl
    ·have e59 := H.g 6 59; have e62 := H.r 9 62; have q59 := a0a e59; clear H; go_wp2; exact sQ rfl
    ·have e59 := H.g 6 59; have e63 := H.r 10 63; have q59 := a0a e59; clear H; have hs1 := zh (HS.out.call hbx); have y0 := HY.out _ hs1.out.below 1 _ rfl; go_wp2; exact sQ rfl
    ·have e59 := H.g 6 59; have e7 := H.i 7; have q59 := a0a e59; clear H; go_wp2; exact sQ rfl
    ·have e59 := H.g 6 59; have e65 := H.r 12 65; have q59 := a0a e59; clear H; have hs1 := zh (HS.out.call hbx); have y0 := cC hs1 0 1; go_wp2; exact sQ rfl
    ·have e59 := H.g 6 59; have e64 := H.r 11 64; have e66 := H.r 13 66; have q59 := a0a e59; clear H; go_wp2; exact sQ rfl
    intro xx w4 hb9 hv
    simp only [List.take, List.drop, a0g, Act.put]
    simp only [vQ hv 0, vQ hv 1, vQ hv 2, vQ hv 3, vQ hv 4, vQ hv 5, vQ hv 6, vQ hv 7, vQ hv 8, vQ hv 9, vQ hv 10, vQ hv 11, vQ hv 12, vQ hv 13, vQ hv 14]
    clear hv
    have HS4 := zh (HS.out.call hb9)
    clear hb9 HS
    go_wp2
    go_ret
    exact ⟨12, rfl, b1k HK3.out (by rw [<- HSG.out, if_neg HS0.out]; unfold limB; rw [any_at HQ.out hlt HPQ.out]; rfl), HS4.out.below⟩
   have hje : j = i := by omega
   rw [hje] at HN ⊢
   have e4 : decide (((i : Nat) : Int) < ((i : Nat) : Int)) = false := decide_eq_false (by omega)
   have e5 : decide (i < i) = false := decide_eq_false (by omega)
   clear hje hj hlt
   go_wp2
   go_ret
   exact ⟨0, rfl, b1k HK3.out (by rw [<- HSG.out, if_neg HS0.out]; unfold limB; rw [HN.out]; rfl), HS.out.below⟩
 go_wp2
 go_ret
 have HS2 := aL HS #[.int .i64 k, .string (bs x.name), .string (bs x.other), .slice A5 x.list.length c5, .bool x.am.n, .string (bs x.am.a), .string (bs x.am.b), .int .i64 x.at_] 61 w.heap.size
 exact ⟨0, rfl, er4_no HK2.out HK3.out HK4.out, HS2.out.below⟩
theorem b1j {cl : List Nmd} {l : List Cls} {s i : Nat} {x : Cls} {e : Int} (hi : l[i]? = some x) (h : (s = 1 -> e = err1 cl (l.take i) x) /\ (s = 2 -> e = err2 cl l x) /\ (s = 3 -> Err3 l x e) /\ (s = 4 -> Err4 cl l i x e)) : ErrS cl l s i e := by
 intro c hc
 rw [hi] at hc
 obtain rfl : x = c := Option.some.inj hc
 exact h
def StpR (cl : List Nmd) (l : List Cls) (s i : Nat) (w : World) (e : Ending) (w' : World) : Prop := ∃ er : Int, e = .returned (.int .i64 er) /\ ErrS cl l s i er /\ Below w.heap.size w w'
theorem c6g (v v2 : Value) (cl : List Nmd) (l : List Cls) (i : Nat) (x : Cls) (w : World) (h : NmdL w v cl) (h2 : ClsL w v2 l) (hi : l[i]? = some x) (hl : cl.length <= 1000) (hl2 : l.length <= 1000) (hn : x.name.length <= 9223372036854775807) :
  Calls Tryz.prog 37 #[v, v2, .int .i64 (i : Nat), .int .i64 1] w (StpR cl l 1 i w) := by
 have dC := fun W (hb : Below w.heap.size w W) => c6j v v2 cl l i x W (h.below hb) (h2.below hb) hi hn (by omega) (by omega)
 have HI := zh hi
 have DC := zh dC
 clear dC hi
 obtain ⟨er9, her⟩ : ∃ er, er = err1 cl (l.take i) x := ⟨_, rfl⟩
 rw [<- her] at DC
 have HER := zh her
 clear her
 go_enter Tryz.func37, Tryz.ntmps37
 have HS := zh (St.start w)
 go_wp2_with fail
 refine cL (DC.out _ HS.out.below) HS fun w2 HS2 => ?_
 clear HS
 go_wp2
 go_ret
 exact ⟨_, rfl, b1j HI.out ⟨fun _ => HER.out, fun h => absurd h (by decide), fun h => absurd h (by decide), fun h => absurd h (by decide)⟩, HS2.out.below⟩
theorem c6f (v v2 : Value) (cl : List Nmd) (l : List Cls) (i : Nat) (x : Cls) (w : World) (h : NmdL w v cl) (h2 : ClsL w v2 l) (hi : l[i]? = some x) (hl : cl.length <= 1000) (hl2 : l.length <= 1000) (hul : (a3j x).length <= 1000000)  :
  Calls Tryz.prog 37 #[v, v2, .int .i64 (i : Nat), .int .i64 2] w (StpR cl l 2 i w) := by
 have dC := fun W (hb : Below w.heap.size w W) => c2h v v2 cl l i x W (h.below hb) (h2.below hb) hi (by omega) (by omega) hul
 have HI := zh hi
 have DC := zh dC
 clear dC hi
 obtain ⟨er9, her⟩ : ∃ er, er = err2 cl l x := ⟨_, rfl⟩
 rw [<- her] at DC
 have HER := zh her
 clear her
 go_enter Tryz.func37, Tryz.ntmps37
 have HS := zh (St.start w)
 go_wp2_with fail
 refine cL (DC.out _ HS.out.below) HS fun w2 HS2 => ?_
 clear HS
 go_wp2
 go_ret
 exact ⟨_, rfl, b1j HI.out ⟨fun h => absurd h (by decide), fun _ => HER.out, fun h => absurd h (by decide), fun h => absurd h (by decide)⟩, HS2.out.below⟩
theorem c6d (v v2 : Value) (cl : List Nmd) (l : List Cls) (i : Nat) (x : Cls) (w : World) (h : NmdL w v cl) (h2 : ClsL w v2 l) (hi : l[i]? = some x) (hl : cl.length <= 1000) (hl2 : l.length <= 1000) (h1 : Ok1 cl l) (hbig : ∀ c ∈ l, c.kind = 1 -> c.list.length <= 1000) (hfit : x.am.a.length <= 17179869184 /\ x.am.b.length <= 17179869184) :
  Calls Tryz.prog 37 #[v, v2, .int .i64 (i : Nat), .int .i64 4] w (StpR cl l 4 i w) := by
 have dC := fun W (hb : Below w.heap.size w W) => c2m v v2 cl l i x W (h.below hb) (h2.below hb) hi hl hl2 h1 hbig hfit
 have HI := zh hi
 have DC := zh dC
 clear dC hi
 go_enter Tryz.func37, Tryz.ntmps37
 have HS := zh (St.start w)
 go_wp2_with fail
 refine (DC.out _ HS.out.below).mono ?_
 rintro e w2 ⟨er2, rfl, he2, hb2⟩
 have HS2 := zh (HS.out.call hb2)
 have HE2 := zh he2
 clear he2 hb2 HS
 go_wp2
 go_ret
 exact ⟨_, rfl, b1j HI.out ⟨fun h => absurd h (by decide), fun h => absurd h (by decide), fun h => absurd h (by decide), fun _ => HE2.out⟩, HS2.out.below⟩
theorem c6e (v v2 : Value) (cl : List Nmd) (l : List Cls) (i : Nat) (x : Cls) (w : World) (h2 : ClsL w v2 l) (hi : l[i]? = some x) (hl2 : l.length <= 1000) (h1 : Ok1 cl l) :
  Calls Tryz.prog 37 #[v, v2, .int .i64 (i : Nat), .int .i64 3] w (StpR cl l 3 i w) := by
 have hil := (List.getElem?_eq_some_iff.1 hi).1
 have dC := fun (hk : x.kind = 1) W (hb : Below w.heap.size w W) => c6h v2 l i x W (h2.below hb) hi ((a1p h1).own i x hi hk) (by omega)
 obtain ⟨A2, c2, rfl, _, _⟩ := h2.slice
 obtain ⟨b, o, x', u, rfl, hbb, hq, hu, hx⟩ := h2.at_ hil
 obtain rfl : x = x' := by rw [hi] at hq; exact Option.some.inj hq
 unfold CRow.enc at hx
 dsimp only at hx
 have e0 : (0 : Int) <= ((i : Nat) : Int) := by omega
 have e1 : ((i : Nat) : Int) < (l.length : Int) := by omega
 have e3 : Err3 l x 0 ↔ ¬ (x.kind = 1 /\ Way (Mem l) x.name x.name) := ⟨fun h hp => absurd (h.1 hp) (by decide), fun h => ⟨fun hp => absurd hp h, fun _ => rfl⟩⟩
 have e17 : (x.kind = 1 /\ Way (Mem l) x.name x.name) -> Err3 l x 17 := fun h => ⟨fun _ => rfl, fun hp => absurd h hp⟩
 have E0 := zh e3
 have E17 := zh e17
 have HI := zh hi
 have DC := zh dC
 have HX := zh hx
 clear h2 hi hl2 h1 hil dC hq hu hx e3 e17
 by_cases k1 : x.kind = 1
 have d1 : (x.kind == 1) = true := beq_iff_eq.2 k1
 have HK := zh k1
 have DC2 := zh (DC.out k1)
 clear k1 DC
 rotate_left
 have d1 : (x.kind == 1) = false := beq_eq_false_iff_ne.2 k1
 have HK := zh (show x.kind = 1 -> False from k1)
 clear k1 DC
 rotate_left
 all_goals
   go_enter Tryz.func37, Tryz.ntmps37
   have HS := zh (St.start w)
   have x1 := HX.out _ HS.out.below 0 _ rfl
   rw [Nat.add_zero] at x1
 ·go_wp2_with fail
  refine (DC2.out _ HS.out.below).mono ?_
  rintro e w2 ⟨r2, rfl, hr2, hb2⟩
  have HS2 := zh (HS.out.call hb2)
  have HR2 := zh hr2
  clear hr2 hb2 HS x1
  go_upto_if 34 with fail
  cases r2
  ·go_wp2
   go_ret
   exact ⟨0, rfl, b1j HI.out ⟨fun h => absurd h (by decide), fun h => absurd h (by decide), fun _ => E0.out.2 (fun h => by have := HR2.out.2 h.2; cases this), fun h => absurd h (by decide)⟩, HS2.out.below⟩
  go_wp2
  go_ret
  exact ⟨17, rfl, b1j HI.out ⟨fun h => absurd h (by decide), fun h => absurd h (by decide), fun _ => E17.out ⟨HK.out, (by first | exact HR2.out.1 rfl | exact HR2.out.1 trivial | simpa using HR2.out)⟩, fun h => absurd h (by decide)⟩, HS2.out.below⟩
 go_wp2
 go_ret
 exact ⟨0, rfl, b1j HI.out ⟨fun h => absurd h (by decide), fun h => absurd h (by decide), fun _ => E0.out.2 (fun h => HK.out h.1), fun h => absurd h (by decide)⟩, HS.out.below⟩
theorem c8k (v v2 : Value) (cl : List Nmd) (l : List Cls) (s i : Nat) (x : Cls) (w : World) (h : NmdL w v cl) (h2 : ClsL w v2 l) (hi : l[i]? = some x) (hl : cl.length <= 1000) (hl2 : l.length <= 1000) (hs : 1 <= s /\ s <= 4) (h1 : 3 <= s -> Ok1 cl l) (hul : (a3j x).length <= 1000000) (hn : x.name.length <= 9223372036854775807) (hbig : ∀ c ∈ l, c.kind = 1 -> c.list.length <= 1000) (hfit : x.am.a.length <= 17179869184 /\ x.am.b.length <= 17179869184) :
  Calls Tryz.prog 37 #[v, v2, .int .i64 (i : Nat), .int .i64 (s : Nat)] w (StpR cl l s i w) := by
 have : s = 1 \/ s = 2 \/ s = 3 \/ s = 4 := by omega
 rcases this with rfl | rfl | rfl | rfl
 ·exact c6g v v2 cl l i x w h h2 hi hl hl2 hn
 ·exact c6f v v2 cl l i x w h h2 hi hl hl2 hul
 ·exact c6e v v2 cl l i x w h2 hi hl2 (h1 (by decide))
 exact c6d v v2 cl l i x w h h2 hi hl hl2 (h1 (by decide)) hbig hfit
def b6a (c : Nmd) (l : List Cls) (i k : Nat) : Prt := match limC (l.take k) c.id with | none => ⟨i, false, a6e⟩ | some x => ⟨i, true, enc3 x.am.val⟩
theorem c8v {cl : List Nmd} {l : List Cls} {i : Nat} {c : Nmd} (hc : cl[i]? = some c) : b6a c l i l.length = a3b cl l i := by
 unfold b6a a3b
 rw [hc, List.take_length]
 rfl
theorem c1d {l : List Cls} {k : Nat} {x : Cls} {s : List UInt8} (hx : l[k]? = some x) : limC (l.take (k + 1)) s = match limC (l.take k) s with | some y => some y | none => if (decide (x.kind = 3) && x.name == s) = true then some x else none := by
 unfold limC
 rw [a4e hx, List.find?_append]
 cases List.find? (fun c => decide (c.kind = 3) && c.name == s) (l.take k) with
 | some y => rfl
 | none =>
  rw [Option.none_or, List.find?_cons]
  cases hp : (decide (x.kind = 3) && x.name == s) with
  | true => rfl
  | false => rfl
theorem c8t {c : Nmd} {l : List Cls} {i k : Nat} {x : Cls} (hx : l[k]? = some x) (h : (decide (x.kind = 3) && x.name == c.id) = false) : b6a c l i (k + 1) = b6a c l i k := by
 unfold b6a
 rw [c1d hx, h]
 cases limC (l.take k) c.id <;> rfl
theorem c8u {c : Nmd} {l : List Cls} {i k : Nat} {x : Cls} (ha : l.Pairwise c1y) (hx : l[k]? = some x) (h : (decide (x.kind = 3) && x.name == c.id) = true) : b6a c l i (k + 1) = ⟨i, true, enc3 x.am.val⟩ := by
 unfold b6a
 rw [c1d hx, h]
 cases hl : limC (l.take k) c.id with
 | none => rfl
 | some y =>
  obtain ⟨y1, y2, y3⟩ := a7p hl
  rw [Bool.and_eq_true, decide_eq_true_eq, beq_iff_eq] at h
  obtain rfl := b7n ha (List.mem_of_mem_take y1) (List.mem_of_getElem? hx) y2 h.1 (y3.trans h.2.symm)
  rfl
theorem prt_info : (Tryz.prog.info? 50).map (·.size) = some 5 := by kernel_rfl
theorem c6n {fn : Func} {p : Tmp} (h : fn.results = #[.cell p 50]) (tmps : Array Value) (w : World) (g : Nat) {a b c d e : Value}
  (hp : tmps.getD p undef = .pointer (some ⟨g, 0, none⟩)) (hg : Blk w g #[a, b, c, d, e] 50) : (results fn tmps).run Tryz.prog w = .ok (.agg #[a, b, c, d, e]) w :=
 results_cell_row h tmps w g _ _ _ _ hp hg Tryz.underlying50 rfl prt_info
theorem c2j (v v2 : Value) (cl : List Nmd) (l : List Cls) (i : Nat) (w : World) (h : NmdL w v cl) (h2 : ClsL w v2 l) (hi : i < cl.length) (ha : l.Pairwise c1y) (hl2 : l.length <= 1000) (hfit : ∀ x ∈ l, x.am.a.length <= 17179869184 /\ x.am.b.length <= 17179869184) :
  Calls Tryz.prog 74 #[v, v2, .int .i64 (i : Nat)] w fun e w' => e = .returned (.agg #[.int .i64 (a3b cl l i).claim, .bool (a3b cl l i).capped, .bool (a3b cl l i).cap.n, .string (bs (a3b cl l i).cap.a), .string (bs (a3b cl l i).cap.b)]) /\ Below w.heap.size w w' := by
 obtain ⟨A1, c1, rfl, _, _⟩ := Slc.slice h
 obtain ⟨A2, c2, rfl, _, _⟩ := h2.slice
 obtain ⟨b1, o1, n, rfl, hb1, hn, hx1⟩ := h.at_ hi
 have HP := zh (fun k x => c8t (c := n) (l := l) (i := i) (k := k) (x := x))
 have HPN := zh (fun k x => c8u (c := n) (l := l) (i := i) (k := k) (x := x) ha)
 have hpa := c8v (l := l) hn
 have HP0 : Hid (b6a n l i 0 = ⟨i, false, a6e⟩) := rfl
 obtain ⟨PK, hPK⟩ : ∃ PK, PK = b6a n l i := ⟨_, rfl⟩
 rw [<- hPK] at HP HPN hpa HP0
 have HPA := zh hpa
 have HCL : Hid (∀ k, (PK k).claim = (i : Int)) := by subst hPK; intro k; unfold b6a; cases limC (l.take k) n.id <;> rfl
 have HX1 := zh hx1
 have HV := zh h2
 have HF := zh hfit
 have LN := zh hl2
 have e0 : (0 : Int) <= ((i : Nat) : Int) := by omega
 have e1 : ((i : Nat) : Int) < (cl.length : Int) := by omega
 clear h h2 ha hl2 hfit hn hx1 hpa hPK
 go_enter Tryz.func74, Tryz.ntmps74
 have HS := zh (St.start w)
 go_wp2
 have HS2 := aL (aL HS #[.int .i64 0, .bool false, .bool false, .string (bs []), .string (bs [])] 50 w.heap.size) #[.int .i64 (i : Nat), .bool false, .bool false, .string (bs []), .string (bs [])] 50 (w.heap.size + 1)
 have HS1 : Hid (St w [⟨w.heap.size + 1, #[.int .i64 (PK 0).claim, .bool (PK 0).capped, .bool (PK 0).cap.n, .string (bs (PK 0).cap.a), .string (bs (PK 0).cap.b)], 50⟩, ⟨w.heap.size, #[.int .i64 0, .bool false, .bool false, .string (bs []), .string (bs [])], 50⟩]  _) := zh (by rw [HP0.out]; exact HS2.out)
 go_loopw [8] (fun k_ wr => ∃ k : Nat, k <= l.length /\ k_ = .int .i64 k /\ Hid (St w [⟨w.heap.size + 1, #[.int .i64 (PK k).claim, .bool (PK k).capped, .bool (PK k).cap.n, .string (bs (PK k).cap.a), .string (bs (PK k).cap.b)], 50⟩, ⟨w.heap.size, #[.int .i64 0, .bool false, .bool false, .string (bs []), .string (bs [])], 50⟩] wr)) (fun k_ _ => l.length - (intOf k_).toNat)
 case atStart => exact ⟨0, Nat.zero_le _, rfl, HS1.out⟩
 case round =>
  clear HS2 HS1
  obtain ⟨k, hk, rfl, HS⟩ := hrel
  by_cases hlt : k < l.length
  ·obtain ⟨b, o, y, u, rfl, hbb, hq, _, hx⟩ := HV.out.at_ hlt
   obtain ⟨hfa, hfb⟩ := HF.out y (List.mem_of_getElem? hq)
   have dF := fun W => c8g y.am.n y.am.a y.am.b W (by omega) (by omega)
   change ∀ W, Calls Tryz.prog _ _ W (fun e w' => e = .returned (rat y.am.val) /\ _) at dF
   unfold rat raw at dF
   unfold CRow.enc at hx
   dsimp only at hx
   obtain ⟨q, hpq⟩ : ∃ q, q = (y.name == n.id) := ⟨_, rfl⟩
   obtain ⟨p, hp⟩ : ∃ p, p = decide (y.kind = 3) := ⟨_, rfl⟩
   have fe : ((bs y.name).toList == (bs n.id).toList) = q := by rw [a0t, a0t]; exact hpq.symm
   have fk : (y.kind == 3) = p := by rw [hp, Bool.eq_iff_iff]; simp
   have HPQ : Hid ((decide (y.kind = 3) && y.name == n.id) = (p && q)) := by rw [hp, hpq]; exact rfl
   have hold := fun h => HP.out k y hq h
   have hnew := fun h => HPN.out k y hq h
   rw [HPQ.out] at hold hnew
   unfold enc3 at hnew
   generalize negB y.am.val = nn at *
   generalize numB y.am.val = aa at *
   generalize a0q y.am.val = dd at *
   have HOLD := zh hold
   have HNEW := zh hnew
   have DF := zh dF
   have HY := zh hx
   have e2 : (((k : Nat)) : Int) < (l.length : Int) := by omega
   have e3 : decide (((k : Nat) : Int) < (l.length : Int)) = true := decide_eq_true e2
   have e4 : (0 : Int) <= ((k : Nat) : Int) := by omega
   have i5 : IntKind.i64.wrap ((k : Int) + 1) = ((k + 1 : Nat) : Int) := by have := LN.out; rw [IntWalk.i64_in _ (by omega)]; rfl
   clear hq hx hpq hp hfa hfb hold hnew dF
   cases p
   ·go_wp2
    refine a0c 18 [.slice (some ⟨b, o, none⟩) l.length c2, .int .i64 (k : Nat), .pointer (some ⟨b, o + k * 8, none⟩), .pointer (some ⟨b, o + k * 8, none⟩), .int .i64 y.kind, .bool false, .bool false, undef, undef, undef, undef, undef, undef, undef, undef, undef, undef, undef] rfl (by kernel_rfl) (by kernel_rfl) (by kernel_rfl) ?_ ?_
    refine ⟨?_, ?_, ?_, ?_, ?_, ?_, ?_, ?_, ?_, ?_, ?_, ?_, ?_, ?_, ?_, ?_, ?_, ?_, trivial⟩ <;> (intro xx af wv hbx hev hev0 hd; have H := SH.mk hev hev0 hd; clear hev hev0 hd)
    ·have e1 := H.i 1; clear H; go_wp2; exact sQ rfl
    ·have e8 := H.i 8; clear H; go_wp2; exact sQ rfl
    ·have e17 := H.r 0 17; have e18 := H.r 1 18; clear H; go_wp2; exact sQ rfl
    ·have e19 := H.r 2 19; clear H; go_wp2; exact sQ rfl
    ·have e20 := H.r 3 20; clear H; have hs1 := zh (HS.out.call hbx); have y0 := HY.out _ hs1.out.below 0 _ rfl; rw [Nat.add_zero] at y0; go_wp2; exact sQ rfl
    ·have e21 := H.r 4 21; clear H; go_wp2; exact sQ rfl
    ·have e22 := H.r 5 22; clear H; go_wp2; exact sQ rfl
    ·have e23 := H.g 6 23; have q23 := a0a e23; clear H; go_wp2; exact sQ rfl
    ·have e23 := H.g 6 23; have q23 := a0a e23; clear H; go_wp2; exact sQ rfl
    ·have e23 := H.g 6 23; have q23 := a0a e23; clear H; go_wp2; exact sQ rfl
    ·have e23 := H.g 6 23; have q23 := a0a e23; clear H; go_wp2; exact sQ rfl
    ·have e23 := H.g 6 23; have q23 := a0a e23; clear H; go_wp2; exact sQ rfl
    ·have e23 := H.g 6 23; have q23 := a0a e23; clear H; go_wp2; exact sQ rfl
    ·have e23 := H.g 6 23; have q23 := a0a e23; clear H; go_wp2; exact sQ rfl
    ·have e23 := H.g 6 23; have q23 := a0a e23; clear H; go_wp2; exact sQ rfl
    ·have e23 := H.g 6 23; have q23 := a0a e23; clear H; go_wp2; exact sQ rfl
    ·have e23 := H.g 6 23; have q23 := a0a e23; clear H; go_wp2; exact sQ rfl
    ·have e23 := H.g 6 23; have q23 := a0a e23; clear H; go_wp2; exact sQ rfl
    intro xx w3 hb9 hv
    simp only [List.take, List.drop, a0g, Act.put]
    simp only [vQ hv 0, vQ hv 1, vQ hv 2, vQ hv 3, vQ hv 4, vQ hv 5, vQ hv 6, vQ hv 7, vQ hv 8, vQ hv 9, vQ hv 10, vQ hv 11, vQ hv 12, vQ hv 13, vQ hv 14, vQ hv 15, vQ hv 16, vQ hv 17]
    clear hv
    have HS3 := zh (HS.out.call hb9)
    clear hb9 HS
    go_wp2
    have hPE := (HOLD.out (by first | rfl | (cases q <;> rfl)))
    have HS7 := zh (show St w [⟨w.heap.size + 1, #[.int .i64 (PK (k + 1)).claim, .bool (PK (k + 1)).capped, .bool (PK (k + 1)).cap.n, .string (bs (PK (k + 1)).cap.a), .string (bs (PK (k + 1)).cap.b)], 50⟩, ⟨w.heap.size, #[.int .i64 0, .bool false, .bool false, .string (bs []), .string (bs [])], 50⟩]  _ from (by rw [hPE]; exact HS3.out))
    clear hPE
    go_roundw
    case rel => exact ⟨k + 1, by omega, by go_num, HS7.out⟩
    case measure => simp [intOf]; omega
   cases q
   ·go_wp2
    refine a0c 18 [.slice (some ⟨b, o, none⟩) l.length c2, .int .i64 (k : Nat), .pointer (some ⟨b, o + k * 8, none⟩), .pointer (some ⟨b, o + k * 8, none⟩), .int .i64 y.kind, .bool true, .bool true, .slice (some ⟨b, o, none⟩) l.length c2, .int .i64 (k : Nat), .pointer (some ⟨b, o + k * 8, none⟩), .pointer (some ⟨b, o + k * 8 + 1, none⟩), .string (bs y.name), .slice (some ⟨b1, o1, none⟩) cl.length c1, .int .i64 (i : Nat), .pointer (some ⟨b1, o1 + i * 5, none⟩), .pointer (some ⟨b1, o1 + i * 5, none⟩), .string (bs n.id), .bool false] rfl (by kernel_rfl) (by kernel_rfl) (by kernel_rfl) ?_ ?_
    refine ⟨?_, ?_, ?_, ?_, ?_, ?_, ?_, ?_, ?_, ?_, ?_, ?_, ?_, ?_, ?_, ?_, ?_, ?_, trivial⟩ <;> (intro xx af wv hbx hev hev0 hd; have H := SH.mk hev hev0 hd; clear hev hev0 hd)
    ·have e1 := H.i 1; clear H; go_wp2; exact sQ rfl
    ·have e8 := H.i 8; clear H; go_wp2; exact sQ rfl
    ·have e17 := H.r 0 17; have e18 := H.r 1 18; clear H; go_wp2; exact sQ rfl
    ·have e19 := H.r 2 19; clear H; go_wp2; exact sQ rfl
    ·have e20 := H.r 3 20; clear H; have hs1 := zh (HS.out.call hbx); have y0 := HY.out _ hs1.out.below 0 _ rfl; rw [Nat.add_zero] at y0; go_wp2; exact sQ rfl
    ·have e21 := H.r 4 21; clear H; go_wp2; exact sQ rfl
    ·have e22 := H.r 5 22; clear H; go_wp2; exact sQ rfl
    ·have e23 := H.g 6 23; have e1 := H.i 1; have q23 := a0a e23; clear H; go_wp2; exact sQ rfl
    ·have e23 := H.g 6 23; have e8 := H.i 8; have q23 := a0a e23; clear H; go_wp2; exact sQ rfl
    ·have e23 := H.g 6 23; have e24 := H.r 7 24; have e25 := H.r 8 25; have q23 := a0a e23; clear H; go_wp2; exact sQ rfl
    ·have e23 := H.g 6 23; have e26 := H.r 9 26; have q23 := a0a e23; clear H; go_wp2; exact sQ rfl
    ·have e23 := H.g 6 23; have e27 := H.r 10 27; have q23 := a0a e23; clear H; have hs1 := zh (HS.out.call hbx); have y0 := HY.out _ hs1.out.below 1 _ rfl; go_wp2; exact sQ rfl
    ·have e23 := H.g 6 23; have e0 := H.i 0; have q23 := a0a e23; clear H; go_wp2; exact sQ rfl
    ·have e23 := H.g 6 23; have e2 := H.i 2; have q23 := a0a e23; clear H; go_wp2; exact sQ rfl
    ·have e23 := H.g 6 23; have e29 := H.r 12 29; have e30 := H.r 13 30; have q23 := a0a e23; clear H; go_wp2; exact sQ rfl
    ·have e23 := H.g 6 23; have e31 := H.r 14 31; have q23 := a0a e23; clear H; go_wp2; exact sQ rfl
    ·have e23 := H.g 6 23; have e32 := H.r 15 32; have q23 := a0a e23; clear H; have hs1 := zh (HS.out.call hbx); have y0 := HX1.out _ hs1.out.below 0 _ rfl; rw [Nat.add_zero] at y0; go_wp2; exact sQ rfl
    ·have e23 := H.g 6 23; have e28 := H.r 11 28; have e33 := H.r 16 33; have q23 := a0a e23; clear H; go_wp2; exact sQ rfl
    intro xx w3 hb9 hv
    simp only [List.take, List.drop, a0g, Act.put]
    simp only [vQ hv 0, vQ hv 1, vQ hv 2, vQ hv 3, vQ hv 4, vQ hv 5, vQ hv 6, vQ hv 7, vQ hv 8, vQ hv 9, vQ hv 10, vQ hv 11, vQ hv 12, vQ hv 13, vQ hv 14, vQ hv 15, vQ hv 16, vQ hv 17]
    clear hv
    have HS3 := zh (HS.out.call hb9)
    clear hb9 HS
    go_wp2
    have hPE := (HOLD.out (by first | rfl | (cases q <;> rfl)))
    have HS7 := zh (show St w [⟨w.heap.size + 1, #[.int .i64 (PK (k + 1)).claim, .bool (PK (k + 1)).capped, .bool (PK (k + 1)).cap.n, .string (bs (PK (k + 1)).cap.a), .string (bs (PK (k + 1)).cap.b)], 50⟩, ⟨w.heap.size, #[.int .i64 0, .bool false, .bool false, .string (bs []), .string (bs [])], 50⟩]  _ from (by rw [hPE]; exact HS3.out))
    clear hPE
    go_roundw
    case rel => exact ⟨k + 1, by omega, by go_num, HS7.out⟩
    case measure => simp [intOf]; omega
   go_wp2
   refine a0c 18 [.slice (some ⟨b, o, none⟩) l.length c2, .int .i64 (k : Nat), .pointer (some ⟨b, o + k * 8, none⟩), .pointer (some ⟨b, o + k * 8, none⟩), .int .i64 y.kind, .bool true, .bool true, .slice (some ⟨b, o, none⟩) l.length c2, .int .i64 (k : Nat), .pointer (some ⟨b, o + k * 8, none⟩), .pointer (some ⟨b, o + k * 8 + 1, none⟩), .string (bs y.name), .slice (some ⟨b1, o1, none⟩) cl.length c1, .int .i64 (i : Nat), .pointer (some ⟨b1, o1 + i * 5, none⟩), .pointer (some ⟨b1, o1 + i * 5, none⟩), .string (bs n.id), .bool true] rfl (by kernel_rfl) (by kernel_rfl) (by kernel_rfl) ?_ ?_
   refine ⟨?_, ?_, ?_, ?_, ?_, ?_, ?_, ?_, ?_, ?_, ?_, ?_, ?_, ?_, ?_, ?_, ?_, ?_, trivial⟩ <;> (intro xx af wv hbx hev hev0 hd; have H := SH.mk hev hev0 hd; clear hev hev0 hd)
   ·have e1 := H.i 1; clear H; go_wp2; exact sQ rfl
   ·have e8 := H.i 8; clear H; go_wp2; exact sQ rfl
   ·have e17 := H.r 0 17; have e18 := H.r 1 18; clear H; go_wp2; exact sQ rfl
   ·have e19 := H.r 2 19; clear H; go_wp2; exact sQ rfl
   ·have e20 := H.r 3 20; clear H; have hs1 := zh (HS.out.call hbx); have y0 := HY.out _ hs1.out.below 0 _ rfl; rw [Nat.add_zero] at y0; go_wp2; exact sQ rfl
   ·have e21 := H.r 4 21; clear H; go_wp2; exact sQ rfl
   ·have e22 := H.r 5 22; clear H; go_wp2; exact sQ rfl
   ·have e23 := H.g 6 23; have e1 := H.i 1; have q23 := a0a e23; clear H; go_wp2; exact sQ rfl
   ·have e23 := H.g 6 23; have e8 := H.i 8; have q23 := a0a e23; clear H; go_wp2; exact sQ rfl
   ·have e23 := H.g 6 23; have e24 := H.r 7 24; have e25 := H.r 8 25; have q23 := a0a e23; clear H; go_wp2; exact sQ rfl
   ·have e23 := H.g 6 23; have e26 := H.r 9 26; have q23 := a0a e23; clear H; go_wp2; exact sQ rfl
   ·have e23 := H.g 6 23; have e27 := H.r 10 27; have q23 := a0a e23; clear H; have hs1 := zh (HS.out.call hbx); have y0 := HY.out _ hs1.out.below 1 _ rfl; go_wp2; exact sQ rfl
   ·have e23 := H.g 6 23; have e0 := H.i 0; have q23 := a0a e23; clear H; go_wp2; exact sQ rfl
   ·have e23 := H.g 6 23; have e2 := H.i 2; have q23 := a0a e23; clear H; go_wp2; exact sQ rfl
   ·have e23 := H.g 6 23; have e29 := H.r 12 29; have e30 := H.r 13 30; have q23 := a0a e23; clear H; go_wp2; exact sQ rfl
   ·have e23 := H.g 6 23; have e31 := H.r 14 31; have q23 := a0a e23; clear H; go_wp2; exact sQ rfl
   ·have e23 := H.g 6 23; have e32 := H.r 15 32; have q23 := a0a e23; clear H; have hs1 := zh (HS.out.call hbx); have y0 := HX1.out _ hs1.out.below 0 _ rfl; rw [Nat.add_zero] at y0; go_wp2; exact sQ rfl
   ·have e23 := H.g 6 23; have e28 := H.r 11 28; have e33 := H.r 16 33; have q23 := a0a e23; clear H; go_wp2; exact sQ rfl
   intro xx w3 hb9 hv
   simp only [List.take, List.drop, a0g, Act.put]
   simp only [vQ hv 0, vQ hv 1, vQ hv 2, vQ hv 3, vQ hv 4, vQ hv 5, vQ hv 6, vQ hv 7, vQ hv 8, vQ hv 9, vQ hv 10, vQ hv 11, vQ hv 12, vQ hv 13, vQ hv 14, vQ hv 15, vQ hv 16, vQ hv 17]
   clear hv
   have HS3 := zh (HS.out.call hb9)
   clear hb9 HS
   have x1 := cC HS3 0 1
   have x2 := cF HS3 0 1
   have x3 := cN HS3 0 1
   have x4 := cN HS3 1 0
   obtain ⟨x5, x6, x7⟩ := kE4 (HY.out _ HS3.out.below) rfl rfl rfl
   go_wp2_with fail
   have HS4 : Hid (St w [⟨w.heap.size + 1, #[.int .i64 (PK k).claim, .bool true, .bool (PK k).cap.n, .string (bs (PK k).cap.a), .string (bs (PK k).cap.b)], 50⟩, _] _) := zh (St.set (HS3.out) 0 rfl 1 _)
   refine cL (DF.out _) HS4 fun w5 HS5 => ?_
   clear HS3 HS4 x1 x2 x3 x4 x5 x6 x7
   have x8 := cC HS5 0 2
   have x9 := cC HS5 0 3
   have x10 := cC HS5 0 4
   have x11 := cF HS5 0 2
   have x12 := cF HS5 0 3
   have x13 := cF HS5 0 4
   have x14 := cN HS5 0 1
   have x15 := cN HS5 1 0
   go_wp2
   have HS6 : Hid (St w [⟨w.heap.size + 1, #[.int .i64 (PK k).claim, .bool true, .bool nn, .string (bs aa), .string (bs dd)], 50⟩, _] _) := zh (St.set (St.set (St.set (HS5.out) 0 rfl 2 _) 0 rfl 3 _) 0 rfl 4 _)
   have hPE := (HNEW.out (by first | rfl | (cases q <;> rfl)))
   skip
   have HS7 := zh (show St w [⟨w.heap.size + 1, #[.int .i64 (PK (k + 1)).claim, .bool (PK (k + 1)).capped, .bool (PK (k + 1)).cap.n, .string (bs (PK (k + 1)).cap.a), .string (bs (PK (k + 1)).cap.b)], 50⟩, ⟨w.heap.size, #[.int .i64 0, .bool false, .bool false, .string (bs []), .string (bs [])], 50⟩]  _ from (by rw [hPE]; have h9 := HS6.out; rw [show (PK k).claim = (i : Int) from HCL.out k] at h9; exact h9))
   clear hPE
   go_roundw
   case rel => exact ⟨k + 1, by omega, by go_num, HS7.out⟩
   case measure => simp [intOf]; omega
  have hke : k = l.length := by omega
  rw [hke, HPA.out] at HS
  rw [hke]
  have e4 : decide (((l.length : Nat) : Int) < (l.length : Int)) = false := decide_eq_false (by omega)
  clear hke hk hlt
  obtain ⟨x1, x2, x3⟩ := HS.out.k0 0 rfl rfl rfl rfl
  have x4 := cC HS 0 3
  have x5 := cC HS 0 4
  obtain ⟨x6, x7, x8⟩ := HS.out.k0 1 rfl rfl rfl rfl
  have x9 := cC HS 1 3
  have x10 := cC HS 1 4
  obtain ⟨x11, x12, x13⟩ := HS.out.f0 1 rfl
  have x14 := cF HS 1 3
  have x15 := cF HS 1 4
  have x16 := cN HS 1 0
  have x17 := cN HS 0 1
  go_wp2
  have HP4 : Hid (St w [_, ⟨w.heap.size, #[.int .i64 (a3b cl l i).claim, .bool (a3b cl l i).capped, .bool (a3b cl l i).cap.n, .string (bs []), .string (bs [])], 50⟩] _) := zh (St.set (St.set (St.set (HS.out) 1 rfl 0 _) 1 rfl 1 _) 1 rfl 2 _)
  have HS3 : Hid (St w [_, ⟨w.heap.size, #[.int .i64 (a3b cl l i).claim, .bool (a3b cl l i).capped, .bool (a3b cl l i).cap.n, .string (bs (a3b cl l i).cap.a), .string (bs (a3b cl l i).cap.b)], 50⟩] _) := zh (St.set (St.set (HP4.out) 1 rfl 3 _) 1 rfl 4 _)
  refine bodyPost_ret (c6n rfl _ _ _ rfl (HS3.out.blk 1 rfl)) rfl ?_
  exact ⟨rfl, HS3.out.below⟩
end Go.Proofs.YtgdhpghfojccaaaGreatDoor
