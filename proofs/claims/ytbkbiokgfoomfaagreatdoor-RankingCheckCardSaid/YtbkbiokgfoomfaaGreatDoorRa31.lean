/-
Part 31 of the base.
-/
import Derived.Test.YtbkbiokgfoomfaaGreatDoorRa30
namespace Go.Proofs.YtbkbiokgfoomfaaGreatDoor
open Go.RowKit

set_option maxRecDepth 100000 in
set_option maxHeartbeats 4000000 in
theorem b1u {w0 : World} {cl : List Nmd} {l : List Cls} {A : CAd} {C : CCo} (x : Cls) (u : Value) (w : World) (h : Cst w0 cl l A C w) (hS : ∀ s, C.Sk s = (a0h l s).isSome) (hu : a6d w u x.list) (hx : ∀ s ∈ a3c x, s.length <= maxLen) (hxn : x.name.length <= maxLen) :
  Calls Tryz.prog 36 #[.pointer (some ⟨A.g, 0, none⟩), .agg #[.int .i64 x.kind, .string (bs x.name), .string (bs x.other), u, .bool x.am.n, .string (bs x.am.a), .string (bs x.am.b), .int .i64 x.at_]] w fun e w' => e = .returned (.int .i64 (err2 cl l x)) /\ Below w.heap.size w w' := by
 have hkn := fun s W (hs : s ∈ a3c x) (hb : Below w.heap.size w W) => b1v s W (h.below hb) (hx s hs)
 have n1 := fun k s h h2 => er2_bad (cl := cl) (l := l) (c := x) (k := k) (s := s) h h2
 have n2 := fun h => er2_good (cl := cl) (l := l) (c := x) h
 have hbad : x.kind ≠ 3 -> ∀ s, badB cl l x s = !((a0b cl s).isSome || C.Sk s) := fun hk s => by
  unfold badB
  rw [decide_eq_false hk, Bool.false_or, Bool.not_or, hS]
 have u1 := fun h => uses1 (c := x) h
 have u2 := fun h => uses2 (c := x) h
 have u0 := fun h h2 => uses0 (c := x) h h2
 have hb3 : x.kind = 3 -> badB cl l x x.name = !(a0b cl x.name).isSome := fun hk => by
  unfold badB
  rw [decide_eq_true hk, Bool.true_or, Bool.and_true]
 obtain ⟨ii, hii, hiz, hi1, hi8⟩ := str_info
 obtain ⟨g, v1, v2, mc, mk, ml, nc, vb, vp, vr, gsb, gsp, ex⟩ := A
 dsimp only at hkn ⊢
 have HM := zh h.mc
 have HC := zh h
 have HD := zh (show ∀ w', Below w.heap.size w w' -> ∀ (j : Nat) (v : Value), [v1, v2, .map (some mc), .map (some mk), vb, vp, .map (some ml), vr][j]? = some v -> w'.cell? ⟨g, j, none⟩ = some v from fun w' hb => Cst.rd (Cst.below h hb))
 dsimp only at HM
 obtain ⟨er, her⟩ : ∃ er, er = err2 cl l x := ⟨_, rfl⟩
 obtain ⟨bad, hba⟩ : ∃ b, b = badB cl l x := ⟨_, rfl⟩
 obtain ⟨us, hus⟩ : ∃ us, us = a3c x := ⟨_, rfl⟩
 obtain ⟨k, hk⟩ : ∃ k, k = x.kind := ⟨_, rfl⟩
 rw [<- her] at n1 n2 ⊢
 rw [<- hba] at n1 n2 hbad hb3
 rw [<- hus] at n1 n2 u1 u2 u0 hkn
 rw [<- hk] at u1 u2 u0 hbad hb3 ⊢
 have HKN := zh hkn
 have N1 := zh n1
 have N2 := zh n2
 have HBD := zh hbad
 have HB3 := zh hb3
 have HU := zh hu
 have HXN := zh hxn
 have HIZ := zh hiz
 have U1 := zh u1
 have U2 := zh u2
 have U0 := zh u0
 clear h hS hu hx hxn n1 n2 hbad hb3 u1 u2 u0 hkn her hba hus hk hiz
 by_cases k1 : k = 1
 ·have HK3 := zh (show k ≠ 3 by omega)
  have HUS := zh (U1.out k1)
  have hu := HU.out
  rw [<- HUS.out] at hu
  obtain ⟨A5, c5, rfl, hl5, hl6⟩ := hu.slice
  have HV0 := zh hu
  have LN := zh (Nat.le_trans hl5 hl6)
  clear hu HU hl5 hl6
  subst k1
  go_enter Tryz.func36, Tryz.ntmps36
  have HS := zh (St.start w)
  go_wp2
  refine b8p (R := [⟨w.heap.size + 1, #[.string (bs x.name)], 9⟩, ⟨w.heap.size, #[.int .i64 1, .string (bs x.name), .string (bs x.other), .slice A5 us.length c5, .bool x.am.n, .string (bs x.am.a), .string (bs x.am.b), .int .i64 x.at_], 64⟩]) (St.alloc ((St.alloc (HS.out) #[.int .i64 1, .string (bs x.name), .string (bs x.other), .slice A5 us.length c5, .bool x.am.n, .string (bs x.am.a), .string (bs x.am.b), .int .i64 x.at_] 64 (w.heap.size) (by simp))) #[.string (bs x.name)] 9 (w.heap.size + 1) (by simp)) ?_
  intro wg hb
  have HS9 := zh hb
  have HB9 := zh hb.below
  have HV := zh (HV0.out.below HB9.out)
  clear hb HV0 HS
  go_loopw [42] (fun i_ wr => ∃ k_ : Nat, k_ <= us.length /\ i_ = .int .i64 k_ /\ Hid (∀ (j : Nat) t, j < k_ -> us[j]? = some t -> bad t = false) /\ wr = wg) (fun i_ _ => us.length - (intOf i_).toNat)
  case atStart => exact ⟨0, Nat.zero_le _, rfl, (fun j t hj => absurd hj (Nat.not_lt_zero _)), rfl⟩
  case round =>
   obtain ⟨k_, hk_, rfl, HNB, hw_⟩ := hrel
   subst hw_
   by_cases hlt : k_ < us.length
   ·obtain ⟨b5, o5, s, rfl, hb5, hq, hx⟩ := HV.out.at_ (show k_ < us.length by exact hlt)
    simp only [Nat.mul_one] at hx
    have HE := zh hx
    have HQ := zh hq
    have hkn := fun W hb => HKN.out s W (List.mem_of_getElem? hq) hb
    have hbd := HBD.out HK3.out s
    obtain ⟨q, hq9⟩ : ∃ q, q = ((a0b cl s).isSome || C.Sk s) := ⟨_, rfl⟩
    rw [<- hq9] at hbd
    rw [<- hq9] at hkn
    have D1 := zh hkn
    have BD := zh hbd
    have e3 : (0 : Int) <= ((k_ : Nat) : Int) := by omega
    have e4 : ((k_ : Nat) : Int) < (us.length : Int) := by omega
    have e5 : decide (((k_ : Nat) : Int) < (us.length : Int)) = true := decide_eq_true e4
    have i5 : IntKind.i64.wrap ((k_ : Int) + 1) = ((k_ + 1 : Nat) : Int) := by have := LN.out; rw [IntWalk.i64_in _ (by omega)]; rfl
    clear hq hx hkn hbd hq9
    cases q
    ·have x1 := HE.out _ (Below.refl _ _) 0 _ rfl
     rw [Nat.add_zero] at x1
     go_wp2_with fail
     refine (D1.out _ (HB9.out)).mono ?_
     rintro e w' ⟨rfl, rfl⟩
     clear x1
     go_wp2
     go_ret
     rw [N1.out k_ s HQ.out BD.out]
     exact ⟨rfl, HB9.out⟩
    ·have x1 := HE.out _ (Below.refl _ _) 0 _ rfl
     rw [Nat.add_zero] at x1
     go_wp2_with fail
     refine (D1.out _ (HB9.out)).mono ?_
     rintro e w' ⟨rfl, rfl⟩
     clear x1
     go_wp2
     go_roundw
     case rel => exact ⟨k_ + 1, by omega, by go_num, a7e (p := bad) HNB.out HQ.out BD.out, (by first | rfl | trivial)⟩
     case measure => simp [intOf]; omega
   ·obtain hke : k_ = us.length := by omega
    rw [hke] at HNB ⊢
    have e2 : decide (((us.length : Nat) : Int) < (us.length : Int)) = false := decide_eq_false (by omega)
    clear hlt hk_ hke
    go_wp2
    go_ret
    rw [N2.out (by exact HNB.out)]
    exact ⟨rfl, HB9.out⟩
 ·by_cases k2 : k = 2
  ·have HK3 := zh (show k ≠ 3 by omega)
   have HUS := zh (U2.out k2)
   clear k1 HU
   have LN := zh (show 2 <= 9223372036854775807 by omega)
   subst k2
   go_enter Tryz.func36, Tryz.ntmps36
   have HS := zh (St.start w)
   have HS2 := zh (St.alloc ((St.alloc ((St.alloc (HS.out) #[.int .i64 2, .string (bs x.name), .string (bs x.other), u, .bool x.am.n, .string (bs x.am.a), .string (bs x.am.b), .int .i64 x.at_] 64 (w.heap.size) (by simp))) #[.string (bs x.name)] 9 (w.heap.size + 1) (by simp))) #[.string (bs x.other)] 9 (w.heap.size + 1 + 1) (by simp))
   have HQ5 : Hid (Que strE 1 w.heap.size (w.heap.size + 1) _ _ [x.name]) := zh (Que.of_blk (n := 1) (c := 1) a6n (HS2.out.blk 1 rfl) (by omega) rfl rfl rfl (by decide))
   go_wp2_with (refine a7w _ rfl _ _ _ rfl w.heap.size 9 ii _ 1 16 Tryz.underlying62 hii HIZ.out hi1 hi8 rfl a6n (by simp [Act.eval]) HQ5.out _ [x.other] (by simp [Act.eval]) (Src.of_slc Tryz.underlying62 a6n (Slc.of_blk (n := 1) (c := 1) a6n (xs := [x.other]) (HS2.out.blk 0 rfl) rfl rfl (Nat.le_refl _) (by decide)) (Below.refl _ _) (strE_one _)) (by simp [maxLen]) (by simp) HS2.out.below.size ?_)
   intro v8 wg g8 hq8 hgr8 hg8
   obtain ⟨p8, c8, hv8, _, _⟩ := hq8.len
   have hv8 : v8 = .slice (some ⟨g8, p8, none⟩) 2 c8 := hv8
   subst hv8
   have HB9 := zh (HS2.out.below.grown hgr8 HS2.out.below.size (fun q hq => by injection hq with hq; omega))
   have HS9 : Hid (St w [] wg) := zh (St.of HB9.out)
   have HV : Hid (a6d wg (.slice (some ⟨g8, p8, none⟩) us.length c8) us) := zh (by rw [HUS.out]; exact hq8.slc a6n)
   have hus2 : us.length = 2 := by rw [HUS.out]; rfl
   rw [hus2] at HV
   have HU2 := zh hus2
   clear hq8 hgr8 hg8 HQ5 hus2 HS2
   go_wp2
   go_loopw [42] (fun i_ wr => ∃ k_ : Nat, k_ <= 2 /\ i_ = .int .i64 k_ /\ Hid (∀ (j : Nat) t, j < k_ -> us[j]? = some t -> bad t = false) /\ wr = wg) (fun i_ _ => 2 - (intOf i_).toNat)
   case atStart => exact ⟨0, Nat.zero_le _, rfl, (fun j t hj => absurd hj (Nat.not_lt_zero _)), rfl⟩
   case round =>
    obtain ⟨k_, hk_, rfl, HNB, hw_⟩ := hrel
    subst hw_
    by_cases hlt : k_ < 2
    ·obtain ⟨b5, o5, s, hV5, hb5, hq, hx⟩ := HV.out.at_ (show k_ < us.length by rw [HU2.out]; exact hlt)
     injection hV5 with hV5
     injection hV5 with hV5 hV6
     subst hV5
     subst hV6
     simp only [Nat.mul_one] at hx
     have HE := zh hx
     have HQ := zh hq
     have hkn := fun W hb => HKN.out s W (List.mem_of_getElem? hq) hb
     have hbd := HBD.out HK3.out s
     obtain ⟨q, hq9⟩ : ∃ q, q = ((a0b cl s).isSome || C.Sk s) := ⟨_, rfl⟩
     rw [<- hq9] at hbd
     rw [<- hq9] at hkn
     have D1 := zh hkn
     have BD := zh hbd
     have e3 : (0 : Int) <= ((k_ : Nat) : Int) := by omega
     have e4 : ((k_ : Nat) : Int) < (2 : Int) := by omega
     have e5 : decide (((k_ : Nat) : Int) < (2 : Int)) = true := decide_eq_true e4
     have i5 : IntKind.i64.wrap ((k_ : Int) + 1) = ((k_ + 1 : Nat) : Int) := by have := LN.out; rw [IntWalk.i64_in _ (by omega)]; rfl
     clear hq hx hkn hbd hq9
     cases q
     ·have x1 := HE.out _ (Below.refl _ _) 0 _ rfl
      rw [Nat.add_zero] at x1
      go_wp2_with fail
      refine (D1.out _ (HB9.out)).mono ?_
      rintro e w' ⟨rfl, rfl⟩
      clear x1
      go_wp2
      go_ret
      rw [N1.out k_ s HQ.out BD.out]
      exact ⟨rfl, HB9.out⟩
     ·have x1 := HE.out _ (Below.refl _ _) 0 _ rfl
      rw [Nat.add_zero] at x1
      go_wp2_with fail
      refine (D1.out _ (HB9.out)).mono ?_
      rintro e w' ⟨rfl, rfl⟩
      clear x1
      go_wp2
      go_roundw
      case rel => exact ⟨k_ + 1, by omega, by go_num, a7e (p := bad) HNB.out HQ.out BD.out, (by first | rfl | trivial)⟩
      case measure => simp [intOf]; omega
    ·obtain hke : k_ = 2 := by omega
     rw [hke] at HNB ⊢
     have e2 : decide (((2 : Nat) : Int) < (2 : Int)) = false := decide_eq_false (by omega)
     clear hlt hk_ hke
     go_wp2
     go_ret
     rw [N2.out (by rw [HU2.out]; exact HNB.out)]
     exact ⟨rfl, HB9.out⟩
  ·have HUS := zh (U0.out k1 k2)
   clear HU
   have LN := zh (show 1 <= 9223372036854775807 by omega)
   have d1 : (k == 1) = false := beq_eq_false_iff_ne.2 k1
   have d2 : (k == 2) = false := beq_eq_false_iff_ne.2 k2
   clear k1 k2
   by_cases k3 : k = 3
   ·have HBN := zh (HB3.out k3)
    obtain ⟨q1, hq1⟩ : ∃ q, q = (a0b cl x.name).isSome := ⟨_, rfl⟩
    obtain ⟨z1, hz1⟩ : ∃ z : Value, z = if q1 then .int .i64 (optI (a0b cl x.name)) else .int .i64 0 := ⟨_, rfl⟩
    have Q1 : Hid ((a0b cl x.name).isSome = q1) := hq1.symm
    have Z1 : Hid ((if (a0b cl x.name).isSome then .int .i64 (optI (a0b cl x.name)) else .int .i64 0) = z1) := by rw [Q1.out]; exact hz1.symm
    clear hq1 hz1 d1 d2
    have d3 := zh k3
    cases q1
    ·have HBX := zh (show bad x.name = true by rw [HBN.out, Q1.out]; rfl)
     subst k3
     go_enter Tryz.func36, Tryz.ntmps36
     have HS := zh (St.start w)
     go_wp2
     have HS2 := zh (St.alloc ((St.alloc (HS.out) #[.int .i64 3, .string (bs x.name), .string (bs x.other), u, .bool x.am.n, .string (bs x.am.a), .string (bs x.am.b), .int .i64 x.at_] 64 (w.heap.size) (by simp))) #[.string (bs x.name)] 9 (w.heap.size + 1) (by simp))
     clear HS
     have M_2 := zh (HM.out.below (Ext.alloc (Ext.alloc (Below.refl w.heap.size w) (Obj.cells #[.int .i64 3, .string (bs x.name), .string (bs x.other), u, .bool x.am.n, .string (bs x.am.a), .string (bs x.am.b), .int .i64 x.at_] 64)) (Obj.cells #[.string (bs x.name)] 9)))
     clear HM
     refine a0n 11 [.pointer (some ⟨g, 0, none⟩), .pointer (some ⟨g, 0, none⟩), .pointer (some ⟨g, 2, none⟩), .map (some mc), .pointer (some ⟨w.heap.size, 1, none⟩), .string (bs x.name), .tuple #[z1, .bool false], .tuple #[z1, .bool false], z1, .bool false, z1] rfl (by kernel_rfl) (by kernel_rfl) (by kernel_rfl) ?_ ?_
     refine ⟨?_, ?_, ?_, ?_, ?_, ?_, ?_, ?_, ?_, ?_, ?_, trivial⟩
     ·intro xx af wv hbx hev hev0 hd; have e0 : af.tmps[0]?.getD undef = .pointer (some ⟨g, 0, none⟩) := hev0 0 rfl; clear hev hev0 hd; go_wp2; exact sQ rfl
     ·intro xx af wv hbx hev hev0 hd; have e29 := (hev 0 _ 29 rfl rfl).trans (hd ⟨0, .data⟩ (by simp) rfl); clear hev hev0 hd; go_wp2; exact sQ rfl
     ·intro xx af wv hbx hev hev0 hd; have e30 := (hev 1 _ 30 rfl rfl).trans (hd ⟨1, .data⟩ (by simp) rfl); clear hev hev0 hd; go_wp2; exact sQ rfl
     ·intro xx af wv hbx hev hev0 hd; have e31 := (hev 2 _ 31 rfl rfl).trans (hd ⟨2, .data⟩ (by simp) rfl); clear hev hev0 hd; have hs1 := zh (HS2.out.call hbx); have y0 := HD.out _ hs1.out.below 2 _ rfl; go_wp2; exact sQ rfl
     ·intro xx af wv hbx hev hev0 hd; have e3 : af.tmps[3]?.getD undef = .pointer (some ⟨w.heap.size, 0, none⟩) := hev0 3 rfl; clear hev hev0 hd; go_wp2; exact sQ rfl
     ·intro xx af wv hbx hev hev0 hd; have e33 := (hev 4 _ 33 rfl rfl).trans (hd ⟨4, .data⟩ (by simp) rfl); clear hev hev0 hd; have hs1 := zh (HS2.out.call hbx); have y0 := hs1.out.cell 1 rfl 1 rfl; go_wp2; exact sQ rfl
     ·intro xx af wv hbx hev hev0 hd
      have e32 := (hev 3 _ 32 rfl rfl).trans (hd ⟨3, .data⟩ (by simp) rfl)
      have e34 := (hev 5 _ 34 rfl rfl).trans (hd ⟨5, .data⟩ (by simp) rfl)
      clear hev hev0 hd
      go_wp2_with (at_lookup; refine a0k rfl _ _ 83 rfl 9 3 a1n Tryz.underlying83 (a2j _) (M_2.out.below hbx) (by simp [Act.eval]; assumption) (x.name) (by simp [Act.eval, strV]; assumption) HXN.out (z1) false (Z1.out) (Q1.out) ?_)
      exact sQ rfl
     ·intro xx af wv hbx hev hev0 hd; have e35 := (hev 6 _ 35 rfl rfl).trans (hd ⟨6, .data⟩ (by simp) rfl); clear hev hev0 hd; go_wp2; exact sQ rfl
     ·intro xx af wv hbx hev hev0 hd; have e28 := (hev 7 _ 28 rfl rfl).trans (hd ⟨7, .data⟩ (by simp) rfl); clear hev hev0 hd; go_wp2; exact sQ rfl
     ·intro xx af wv hbx hev hev0 hd; have e28 := (hev 7 _ 28 rfl rfl).trans (hd ⟨7, .data⟩ (by simp) rfl); clear hev hev0 hd; go_wp2; exact sQ rfl
     ·intro xx af wv hbx hev hev0 hd; have e36 := (hev 8 _ 36 rfl rfl).trans (hd ⟨8, .data⟩ (by simp) rfl); clear hev hev0 hd; go_wp2; exact sQ rfl
     intro xx w5 hb9 hv
     simp only [List.take, List.drop, a0j, Act.put]
     simp only [show xx 0 = _ from hv 0 (by decide), show xx 1 = _ from hv 1 (by decide), show xx 2 = _ from hv 2 (by decide), show xx 3 = _ from hv 3 (by decide), show xx 4 = _ from hv 4 (by decide), show xx 5 = _ from hv 5 (by decide), show xx 6 = _ from hv 6 (by decide), show xx 7 = _ from hv 7 (by decide), show xx 8 = _ from hv 8 (by decide), show xx 9 = _ from hv 9 (by decide), show xx 10 = _ from hv 10 (by decide)]
     clear hv
     have HS5 := zh (HS2.out.call hb9)
     have M_5 := zh (M_2.out.below hb9)
     clear M_2
     clear hb9 HS2
     go_wp2
     go_ret
     rw [N1.out 0 x.name (by rw [HUS.out]; rfl) HBX.out]
     exact ⟨rfl, HS5.out.below⟩
    ·have HBX := zh (show bad x.name = false by rw [HBN.out, Q1.out]; rfl)
     have hkn := fun W hb => HKN.out x.name W (by rw [HUS.out]; exact List.mem_singleton.2 rfl) hb
     rw [Q1.out, Bool.true_or] at hkn
     have D1 := zh hkn
     clear hkn
     subst k3
     go_enter Tryz.func36, Tryz.ntmps36
     have HS := zh (St.start w)
     go_wp2
     have HS2 := zh (St.alloc ((St.alloc (HS.out) #[.int .i64 3, .string (bs x.name), .string (bs x.other), u, .bool x.am.n, .string (bs x.am.a), .string (bs x.am.b), .int .i64 x.at_] 64 (w.heap.size) (by simp))) #[.string (bs x.name)] 9 (w.heap.size + 1) (by simp))
     clear HS
     have M_2 := zh (HM.out.below (Ext.alloc (Ext.alloc (Below.refl w.heap.size w) (Obj.cells #[.int .i64 3, .string (bs x.name), .string (bs x.other), u, .bool x.am.n, .string (bs x.am.a), .string (bs x.am.b), .int .i64 x.at_] 64)) (Obj.cells #[.string (bs x.name)] 9)))
     clear HM
     refine a0n 11 [.pointer (some ⟨g, 0, none⟩), .pointer (some ⟨g, 0, none⟩), .pointer (some ⟨g, 2, none⟩), .map (some mc), .pointer (some ⟨w.heap.size, 1, none⟩), .string (bs x.name), .tuple #[z1, .bool true], .tuple #[z1, .bool true], z1, .bool true, z1] rfl (by kernel_rfl) (by kernel_rfl) (by kernel_rfl) ?_ ?_
     refine ⟨?_, ?_, ?_, ?_, ?_, ?_, ?_, ?_, ?_, ?_, ?_, trivial⟩
     ·intro xx af wv hbx hev hev0 hd; have e0 : af.tmps[0]?.getD undef = .pointer (some ⟨g, 0, none⟩) := hev0 0 rfl; clear hev hev0 hd; go_wp2; exact sQ rfl
     ·intro xx af wv hbx hev hev0 hd; have e29 := (hev 0 _ 29 rfl rfl).trans (hd ⟨0, .data⟩ (by simp) rfl); clear hev hev0 hd; go_wp2; exact sQ rfl
     ·intro xx af wv hbx hev hev0 hd; have e30 := (hev 1 _ 30 rfl rfl).trans (hd ⟨1, .data⟩ (by simp) rfl); clear hev hev0 hd; go_wp2; exact sQ rfl
     ·intro xx af wv hbx hev hev0 hd; have e31 := (hev 2 _ 31 rfl rfl).trans (hd ⟨2, .data⟩ (by simp) rfl); clear hev hev0 hd; have hs1 := zh (HS2.out.call hbx); have y0 := HD.out _ hs1.out.below 2 _ rfl; go_wp2; exact sQ rfl
     ·intro xx af wv hbx hev hev0 hd; have e3 : af.tmps[3]?.getD undef = .pointer (some ⟨w.heap.size, 0, none⟩) := hev0 3 rfl; clear hev hev0 hd; go_wp2; exact sQ rfl
     ·intro xx af wv hbx hev hev0 hd; have e33 := (hev 4 _ 33 rfl rfl).trans (hd ⟨4, .data⟩ (by simp) rfl); clear hev hev0 hd; have hs1 := zh (HS2.out.call hbx); have y0 := hs1.out.cell 1 rfl 1 rfl; go_wp2; exact sQ rfl
     ·intro xx af wv hbx hev hev0 hd
      have e32 := (hev 3 _ 32 rfl rfl).trans (hd ⟨3, .data⟩ (by simp) rfl)
      have e34 := (hev 5 _ 34 rfl rfl).trans (hd ⟨5, .data⟩ (by simp) rfl)
      clear hev hev0 hd
      go_wp2_with (at_lookup; refine a0k rfl _ _ 83 rfl 9 3 a1n Tryz.underlying83 (a2j _) (M_2.out.below hbx) (by simp [Act.eval]; assumption) (x.name) (by simp [Act.eval, strV]; assumption) HXN.out (z1) true (Z1.out) (Q1.out) ?_)
      exact sQ rfl
     ·intro xx af wv hbx hev hev0 hd; have e35 := (hev 6 _ 35 rfl rfl).trans (hd ⟨6, .data⟩ (by simp) rfl); clear hev hev0 hd; go_wp2; exact sQ rfl
     ·intro xx af wv hbx hev hev0 hd; have e28 := (hev 7 _ 28 rfl rfl).trans (hd ⟨7, .data⟩ (by simp) rfl); clear hev hev0 hd; go_wp2; exact sQ rfl
     ·intro xx af wv hbx hev hev0 hd; have e28 := (hev 7 _ 28 rfl rfl).trans (hd ⟨7, .data⟩ (by simp) rfl); clear hev hev0 hd; go_wp2; exact sQ rfl
     ·intro xx af wv hbx hev hev0 hd; have e36 := (hev 8 _ 36 rfl rfl).trans (hd ⟨8, .data⟩ (by simp) rfl); clear hev hev0 hd; go_wp2; exact sQ rfl
     intro xx w5 hb9 hv
     simp only [List.take, List.drop, a0j, Act.put]
     simp only [show xx 0 = _ from hv 0 (by decide), show xx 1 = _ from hv 1 (by decide), show xx 2 = _ from hv 2 (by decide), show xx 3 = _ from hv 3 (by decide), show xx 4 = _ from hv 4 (by decide), show xx 5 = _ from hv 5 (by decide), show xx 6 = _ from hv 6 (by decide), show xx 7 = _ from hv 7 (by decide), show xx 8 = _ from hv 8 (by decide), show xx 9 = _ from hv 9 (by decide), show xx 10 = _ from hv 10 (by decide)]
     clear hv
     have HS5 := zh (HS2.out.call hb9)
     have M_5 := zh (M_2.out.below hb9)
     clear M_2
     clear hb9 HS2
     go_wp2
     have HB9 := zh HS5.out.below
     go_loopw [42] (fun i_ wr => ∃ k_ : Nat, k_ <= 1 /\ i_ = .int .i64 k_ /\ Hid (k_ = 1 -> bad x.name = false) /\ wr = w5) (fun i_ _ => 1 - (intOf i_).toNat)
     case atStart => exact ⟨0, Nat.zero_le _, rfl, (fun h => absurd h (by decide)), rfl⟩
     case round =>
      obtain ⟨k_, hk_, rfl, HNB, hw_⟩ := hrel
      subst hw_
      by_cases hlt : k_ < 1
      ·obtain rfl : k_ = 0 := by omega
       clear hk_ hlt HNB
       have HNX := zh (show ∀ w', Below wr.heap.size wr w' -> ∀ (j : Nat) (v : Value), [Value.string (bs x.name)][j]? = some v -> w'.cell? ⟨w.heap.size + 1, j, none⟩ = some v from fun w' hb j v hv => ((HS5.out.blk 0 rfl).below hb (HS5.out.lt 0 rfl)).cell j v (by rw [List.getElem?_toArray]; exact hv))
       have x1 := HNX.out _ (Below.refl _ _) 0 _ rfl
       go_wp2_with fail
       refine (D1.out _ (HB9.out)).mono ?_
       rintro e w' ⟨rfl, rfl⟩
       clear x1
       go_wp2
       go_roundw
       case rel => exact ⟨1, Nat.le_refl _, by go_num, fun _ => HBX.out, (by first | rfl | trivial)⟩
       case measure => simp [intOf]
      ·obtain rfl : k_ = 1 := by omega
       clear hk_ hlt
       go_wp2
       go_ret
       rw [N2.out (by rw [HUS.out]; intro j s hj hs; obtain rfl : j = 0 := (by simpa using hj); obtain rfl : x.name = s := (by simpa using hs); first | exact HNB.out rfl | exact HNB.out trivial)]
       exact ⟨rfl, HB9.out⟩
   ·have HBN := zh (HBD.out k3 x.name)
    have hkn := fun W hb => HKN.out x.name W (by rw [HUS.out]; exact List.mem_singleton.2 rfl) hb
    obtain ⟨q, hq9⟩ : ∃ q, q = ((a0b cl x.name).isSome || C.Sk x.name) := ⟨_, rfl⟩
    rw [<- hq9] at hkn
    rw [<- hq9] at HBN
    have D1 := zh hkn
    have d3 : (k == 3) = false := beq_eq_false_iff_ne.2 k3
    clear hkn hq9 k3
    cases q
    ·have HBX := zh (show bad x.name = true by rw [HBN.out]; rfl)
     go_enter Tryz.func36, Tryz.ntmps36
     have HS := zh (St.start w)
     go_wp2
     refine b8p (R := [⟨w.heap.size + 1, #[.string (bs x.name)], 9⟩, ⟨w.heap.size, #[.int .i64 k, .string (bs x.name), .string (bs x.other), u, .bool x.am.n, .string (bs x.am.a), .string (bs x.am.b), .int .i64 x.at_], 64⟩]) (St.alloc ((St.alloc (HS.out) #[.int .i64 k, .string (bs x.name), .string (bs x.other), u, .bool x.am.n, .string (bs x.am.a), .string (bs x.am.b), .int .i64 x.at_] 64 (w.heap.size) (by simp))) #[.string (bs x.name)] 9 (w.heap.size + 1) (by simp)) ?_
     intro wg hb
     have HS9 := zh hb
     clear hb HS
     have HB9 := zh HS9.out.below
     go_loopw [42] (fun i_ wr => ∃ k_ : Nat, k_ <= 1 /\ i_ = .int .i64 k_ /\ Hid (k_ = 1 -> bad x.name = false) /\ wr = wg) (fun i_ _ => 1 - (intOf i_).toNat)
     case atStart => exact ⟨0, Nat.zero_le _, rfl, (fun h => absurd h (by decide)), rfl⟩
     case round =>
      obtain ⟨k_, hk_, rfl, HNB, hw_⟩ := hrel
      subst hw_
      by_cases hlt : k_ < 1
      ·obtain rfl : k_ = 0 := by omega
       clear hk_ hlt HNB
       have HNX := zh (show ∀ w', Below wr.heap.size wr w' -> ∀ (j : Nat) (v : Value), [Value.string (bs x.name)][j]? = some v -> w'.cell? ⟨w.heap.size + 1, j, none⟩ = some v from fun w' hb j v hv => ((HS9.out.blk 0 rfl).below hb (HS9.out.lt 0 rfl)).cell j v (by rw [List.getElem?_toArray]; exact hv))
       have x1 := HNX.out _ (Below.refl _ _) 0 _ rfl
       go_wp2_with fail
       refine (D1.out _ (HB9.out)).mono ?_
       rintro e w' ⟨rfl, rfl⟩
       clear x1
       go_wp2
       go_ret
       rw [N1.out 0 x.name (by rw [HUS.out]; rfl) HBX.out]
       exact ⟨rfl, HB9.out⟩
      ·obtain rfl : k_ = 1 := by omega
       clear hk_ hlt
       go_wp2
       go_ret
       rw [N2.out (by rw [HUS.out]; intro j s hj hs; obtain rfl : j = 0 := (by simpa using hj); obtain rfl : x.name = s := (by simpa using hs); first | exact HNB.out rfl | exact HNB.out trivial)]
       exact ⟨rfl, HB9.out⟩
    ·have HBX := zh (show bad x.name = false by rw [HBN.out]; rfl)
     go_enter Tryz.func36, Tryz.ntmps36
     have HS := zh (St.start w)
     go_wp2
     refine b8p (R := [⟨w.heap.size + 1, #[.string (bs x.name)], 9⟩, ⟨w.heap.size, #[.int .i64 k, .string (bs x.name), .string (bs x.other), u, .bool x.am.n, .string (bs x.am.a), .string (bs x.am.b), .int .i64 x.at_], 64⟩]) (St.alloc ((St.alloc (HS.out) #[.int .i64 k, .string (bs x.name), .string (bs x.other), u, .bool x.am.n, .string (bs x.am.a), .string (bs x.am.b), .int .i64 x.at_] 64 (w.heap.size) (by simp))) #[.string (bs x.name)] 9 (w.heap.size + 1) (by simp)) ?_
     intro wg hb
     have HS9 := zh hb
     clear hb HS
     have HB9 := zh HS9.out.below
     go_loopw [42] (fun i_ wr => ∃ k_ : Nat, k_ <= 1 /\ i_ = .int .i64 k_ /\ Hid (k_ = 1 -> bad x.name = false) /\ wr = wg) (fun i_ _ => 1 - (intOf i_).toNat)
     case atStart => exact ⟨0, Nat.zero_le _, rfl, (fun h => absurd h (by decide)), rfl⟩
     case round =>
      obtain ⟨k_, hk_, rfl, HNB, hw_⟩ := hrel
      subst hw_
      by_cases hlt : k_ < 1
      ·obtain rfl : k_ = 0 := by omega
       clear hk_ hlt HNB
       have HNX := zh (show ∀ w', Below wr.heap.size wr w' -> ∀ (j : Nat) (v : Value), [Value.string (bs x.name)][j]? = some v -> w'.cell? ⟨w.heap.size + 1, j, none⟩ = some v from fun w' hb j v hv => ((HS9.out.blk 0 rfl).below hb (HS9.out.lt 0 rfl)).cell j v (by rw [List.getElem?_toArray]; exact hv))
       have x1 := HNX.out _ (Below.refl _ _) 0 _ rfl
       go_wp2_with fail
       refine (D1.out _ (HB9.out)).mono ?_
       rintro e w' ⟨rfl, rfl⟩
       clear x1
       go_wp2
       go_roundw
       case rel => exact ⟨1, Nat.le_refl _, by go_num, fun _ => HBX.out, (by first | rfl | trivial)⟩
       case measure => simp [intOf]
      ·obtain rfl : k_ = 1 := by omega
       clear hk_ hlt
       go_wp2
       go_ret
       rw [N2.out (by rw [HUS.out]; intro j s hj hs; obtain rfl : j = 0 := (by simpa using hj); obtain rfl : x.name = s := (by simpa using hs); first | exact HNB.out rfl | exact HNB.out trivial)]
       exact ⟨rfl, HB9.out⟩
end Go.Proofs.YtbkbiokgfoomfaaGreatDoor
